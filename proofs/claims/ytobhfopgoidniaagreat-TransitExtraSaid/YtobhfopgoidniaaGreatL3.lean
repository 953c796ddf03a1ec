/- TransitExtra: for whatever session and user, what the service asks with is what the document says. No condition. -/
import Derived.Test.YtobhfopgoidniaaGreatLA
import Derived.Test.YtobhfopgoidniaaGreatMA
set_option linter.unusedVariables false
set_option linter.unusedSimpArgs false

namespace Go.Proofs.YtobhfopgoidniaaGreat
open Go Go.Eng Go.ChangeShapes Go.WideShapes Go.RowKit
open Go.ChangeMaps (open_string)

set_option maxHeartbeats 1600000 in
set_option maxRecDepth 100000 in
theorem transitExtra_lifted (os : Os) (started : os.Started) (H : Type) (enc : TypeId × Value → H) :
    ReturnsInHanded {} Tryz.checked os 3 .any (Rows.transitExtraSpec.pre6 enc Tryz.prog Tryz.f3 Rows.transitExtraRow.domain false) (Rows.transitExtraSpec.post enc Tryz.prog Tryz.f3 false true false false) := by
  refine returnsInHanded_of_change (C := Tryz.checked) Tryz.own started (by kernel_rfl) Tryz.func3
    (ChangeSpec.witness6 (enc := enc) (C := Tryz.checked) false ⟨#[], #[.agg #[.int .i64 0, .string .empty, .int .i64 0, .slice none 0 0], .string .empty], []⟩ 8 (by kernel_rfl) (by kernel_rfl) (by kernel_rfl) (by kernel_rfl)) ?_
  intro W base args ds gs before hval0 hW _ _
  have hval : ∀ (j : Nat) t v, Tryz.f3.params[j]? = some t → args[j]? = some v → Value.okWide Tryz.prog W .any base t v := hval0
  have hW' : DataW.Whole enc Tryz.prog Tryz.f3.params.toList Rows.transitExtraSpec.vars false W args.toList ds gs before := hW
  have hWk := hW'
  obtain ⟨p, q, hA, hV, _, _, _⟩ := hW'
  obtain ⟨rfl, rfl⟩ := trodVars_none hV
  rw [Tryz.params3] at hA hval
  obtain ⟨v0, v1, d0, d1, p0, p1, e1, rfl, rfl, h0, h1⟩ := trodAll_two hA
  obtain rfl : args = #[v0, v1] := by cases args; simp_all
  obtain ⟨t, hd, rfl, kt⟩ := open_term (hval 0 25 v0 rfl rfl) h0
  obtain ⟨s, rfl, rfl, _, hs⟩ := open_string Tryz.underlying9 (hval 1 9 v1 rfl rfl) h1
  exact law_step (L := [11, 20, 21, 30, 31, 32, 33, 50, 51, 61, 62, 63]) (by kernel_rfl) (by rw [Tryz.params3]; exact reads_of (by kernel_rfl)) hWk rfl rfl (by decide) (law3 t s hd (g0 W) kt hs)

set_option maxHeartbeats 4000000 in
theorem transitExtra_closed : joinedFacts Tryz.prog 3 Tryz.f3 Rows.transitExtraSpec Rows.transitExtraRow = true :=
  joined_of rfl (by as_aux_lemma => kernel_rfl) (by as_aux_lemma => kernel_rfl) (by as_aux_lemma => kernel_rfl) (by as_aux_lemma => kernel_rfl) (by as_aux_lemma => kernel_rfl) (by as_aux_lemma => kernel_rfl)
    (by as_aux_lemma => kernel_rfl) (by as_aux_lemma => kernel_rfl) (by as_aux_lemma => kernel_rfl) (by as_aux_lemma => kernel_rfl) (by as_aux_lemma => kernel_rfl) (by as_aux_lemma => kernel_rfl)

set_option maxHeartbeats 4000000 in
theorem transitExtra_holds : Rows.TransitExtraSaid :=
  OpenClaim.holds_of_wide 3 Tryz.f3 rfl rfl rfl rfl rfl rfl rfl ⟨rfl, rfl, rfl, rfl, rfl⟩ rfl rfl rfl rfl rfl (by as_aux_lemma => kernel_rfl) Tryz.func3 transitExtra_closed
    (of_decide_eq_true (by kernel_rfl)) (by unfold Func.isWrapper; rw [if_neg (of_decide_eq_false (by kernel_rfl))]; exact ⟨rfl, rfl⟩)
    (fun os started H enc _ => transitExtra_lifted os started H enc)
end Go.Proofs.YtobhfopgoidniaaGreat
