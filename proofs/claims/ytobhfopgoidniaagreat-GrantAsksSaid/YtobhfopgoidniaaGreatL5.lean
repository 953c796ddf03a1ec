/- What one says who asks is what the document says. GrantAsks: what is said of it holds at every input. No condition. -/
import Derived.Test.YtobhfopgoidniaaGreatNC
import Derived.Test.YtobhfopgoidniaaGreatNE
import Derived.Test.YtobhfopgoidniaaGreatMA
import Derived.Test.YtobhfopgoidniaaGreatMB
set_option linter.all false
set_option linter.unusedVariables false
set_option linter.unusedSimpArgs false

/- What one says who asks is what the document says. -/
namespace Go.Proofs.YtobhfopgoidniaaGreat
open Go Go.Eng

theorem law5 (kind target client : ByteArray) (session tgt extra : T) (now nonce till : Int) (hs ht he : Hd) (g : G) (ks : TOk g session hs) (kt : TOk g tgt ht) (ke : TOk g extra he) (h1 : kind.size ≤ maxLen) (h2 : target.size ≤ maxLen) (h3 : client.size ≤ maxLen) :
    Ok Tryz.prog 5 [.string kind, .string target, .string client, tv session hs, tv tgt ht, tv extra he, .int .i64 now, .int .i64 nonce, .int .i64 till] g [11, 20, 21, 30, 31, 32, 33, 50, 51, 61, 62, 63] (fun v _ => v = .bool true) := by
  refine fbegin Tryz.func5 rfl Tryz.ntmps5 (Nat.le_of_ble_eq_true rfl) fun C hw hC => ?_
  refine runO hC tabOk 60 ?_
  simp [go_sem]
  repeat ((first | refine condT rfl ?_ | refine condF rfl ?_ | refine skD hC rfl rfl rfl ?_); (refine runO hC tabOk 60 ?_); simp [go_sem])
  first | refine call hC [11,20,21,30,31,32,33,50,51,61,62,63] (by kernel_rfl) rfl rfl rfl rfl rfl fun m1 g1 p1 e1 => ?_ | refine callD hC [11,20,21,30,31,32,33,50,51,61,62,63] (by kernel_rfl) rfl rfl rfl rfl rfl rfl rfl rfl fun m1 g1 p1 e1 => ?_
  refine ⟨_, works45 _, fun v1 u1 q1 s1 hv1 => ?_⟩
  subst hv1
  refine runO hC tabOk 60 ?_
  simp [go_sem]
  repeat ((first | refine condT rfl ?_ | refine condF rfl ?_ | refine skD hC rfl rfl rfl ?_); (refine runO hC tabOk 60 ?_); simp [go_sem])
  first | refine call hC [] (by kernel_rfl) rfl rfl rfl rfl rfl fun m2 g2 p2 e2 => ?_ | refine callD hC [] (by kernel_rfl) rfl rfl rfl rfl rfl rfl rfl rfl fun m2 g2 p2 e2 => ?_
  refine ⟨_, large29 session 20 hs _ ks.to, fun v2 u2 q2 s2 hv2 => ?_⟩
  subst hv2
  cases c1 : decide (20 < IntKind.i64.wrap session.size) with
  | true =>
    refine runO hC tabOk 60 ?_
    simp [go_sem]
    repeat ((first | refine condT rfl ?_ | refine condF rfl ?_ | refine skD hC rfl rfl rfl ?_); (refine runO hC tabOk 60 ?_); simp [go_sem])
    refine ret hC tabOk (fun _ => 1) rfl rfl fun m gf hl ex => ?_
    rfl
  | false =>
  refine runO hC tabOk 60 ?_
  simp [go_sem]
  repeat ((first | refine condT rfl ?_ | refine condF rfl ?_ | refine skD hC rfl rfl rfl ?_); (refine runO hC tabOk 60 ?_); simp [go_sem])
  first | refine call hC [] (by kernel_rfl) rfl rfl rfl rfl rfl fun m3 g3 p3 e3 => ?_ | refine callD hC [] (by kernel_rfl) rfl rfl rfl rfl rfl rfl rfl rfl fun m3 g3 p3 e3 => ?_
  refine ⟨_, large29 tgt 100 ht _ kt.to, fun v3 u3 q3 s3 hv3 => ?_⟩
  subst hv3
  cases c2 : decide (100 < IntKind.i64.wrap tgt.size) with
  | true =>
    refine runO hC tabOk 60 ?_
    simp [go_sem]
    repeat ((first | refine condT rfl ?_ | refine condF rfl ?_ | refine skD hC rfl rfl rfl ?_); (refine runO hC tabOk 60 ?_); simp [go_sem])
    refine ret hC tabOk (fun _ => 1) rfl rfl fun m gf hl ex => ?_
    rfl
  | false =>
  refine runO hC tabOk 60 ?_
  simp [go_sem]
  repeat ((first | refine condT rfl ?_ | refine condF rfl ?_ | refine skD hC rfl rfl rfl ?_); (refine runO hC tabOk 60 ?_); simp [go_sem])
  first | refine call hC [] (by kernel_rfl) rfl rfl rfl rfl rfl fun m4 g4 p4 e4 => ?_ | refine callD hC [] (by kernel_rfl) rfl rfl rfl rfl rfl rfl rfl rfl fun m4 g4 p4 e4 => ?_
  refine ⟨_, large29 extra 100 he _ ke.to, fun v4 u4 q4 s4 hv4 => ?_⟩
  subst hv4
  cases c3 : decide (100 < IntKind.i64.wrap extra.size) with
  | true =>
    refine runO hC tabOk 60 ?_
    simp [go_sem]
    repeat ((first | refine condT rfl ?_ | refine condF rfl ?_ | refine skD hC rfl rfl rfl ?_); (refine runO hC tabOk 60 ?_); simp [go_sem])
    refine ret hC tabOk (fun _ => 1) rfl rfl fun m gf hl ex => ?_
    rfl
  | false =>
  refine runO hC tabOk 60 ?_
  simp [go_sem]
  repeat ((first | refine condT rfl ?_ | refine condF rfl ?_ | refine skD hC rfl rfl rfl ?_); (refine runO hC tabOk 60 ?_); simp [go_sem])
  refine draw hC [(0, 0), (1, 0), (2, 0), (3, 0), (4, 0), (5, 0), (6, 0), (7, 0), (8, 0), (10, 0), (11, 0), (12, 0), (13, 0), (14, 0), (15, 0), (16, 0), (17, 0), (18, 0), (9, 1)] [19, 20, 21] mix (by kernel_rfl) ?_
  refine runO hC tabOk 60 ?_
  simp [go_sem]
  repeat ((first | refine condT rfl ?_ | refine condF rfl ?_ | refine skD hC rfl rfl rfl ?_); (refine runO hC tabOk 60 ?_); simp [go_sem])
  first | refine call hC [] (by kernel_rfl) rfl rfl rfl rfl rfl fun m5 g5 p5 e5 => ?_ | refine callD hC [] (by kernel_rfl) rfl rfl rfl rfl rfl rfl rfl rfl fun m5 g5 p5 e5 => ?_
  refine ⟨_, gask41 kind target client session tgt extra now nonce till hs ht he _ ks.to kt.to ke.to h1 h2 h3, fun v5 u5 q5 s5 hv5 => ?_⟩
  obtain ⟨h5, rfl, k5⟩ := hv5
  refine runO hC tabOk 60 ?_
  simp [go_sem]
  repeat ((first | refine condT rfl ?_ | refine condF rfl ?_ | refine skD hC rfl rfl rfl ?_); (refine runO hC tabOk 60 ?_); simp [go_sem])
  first | refine call hC [] (by kernel_rfl) rfl rfl rfl rfl rfl fun m6 g6 p6 e6 => ?_ | refine callD hC [] (by kernel_rfl) rfl rfl rfl rfl rfl rfl rfl rfl fun m6 g6 p6 e6 => ?_
  refine ⟨_, gask46 kind target client session tgt extra now nonce till hs ht he _ ks.to kt.to ke.to h1 h2 h3, fun v6 u6 q6 s6 hv6 => ?_⟩
  obtain ⟨h6, rfl, k6⟩ := hv6
  refine runO hC tabOk 60 ?_
  simp [go_sem]
  repeat ((first | refine condT rfl ?_ | refine condF rfl ?_ | refine skD hC rfl rfl rfl ?_); (refine runO hC tabOk 60 ?_); simp [go_sem])
  first | refine call hC [] (by kernel_rfl) rfl rfl rfl rfl rfl fun m7 g7 p7 e7 => ?_ | refine callD hC [] (by kernel_rfl) rfl rfl rfl rfl rfl rfl rfl rfl fun m7 g7 p7 e7 => ?_
  refine ⟨_, same30 (gaskS kind target client session tgt extra now nonce till) (gaskS kind target client session tgt extra now nonce till) h5 h6 _ k5.to k6.to, fun v7 u7 q7 s7 hv7 => ?_⟩
  subst hv7
  have e : decide (gaskS kind target client session tgt extra now nonce till = gaskS kind target client session tgt extra now nonce till) = true := by simp
  refine runO hC tabOk 60 ?_
  simp [go_sem, e]
  repeat ((first | refine condT rfl ?_ | refine condF rfl ?_ | refine skD hC rfl rfl rfl ?_); (refine runO hC tabOk 60 ?_); simp [go_sem, e])
  try (refine runO hC tabOk 60 ?_; simp [go_sem, e]; repeat ((first | refine condT rfl ?_ | refine condF rfl ?_ | refine skD hC rfl rfl rfl ?_); (refine runO hC tabOk 60 ?_); simp [go_sem, e]))
  refine ret hC tabOk (fun _ => 1) rfl rfl fun m gf hl ex => ?_
  rfl
end Go.Proofs.YtobhfopgoidniaaGreat

/- GrantAsks: what is said of it holds at every input. No condition. -/
namespace Go.Proofs.YtobhfopgoidniaaGreat
open Go Go.Eng Go.ChangeShapes Go.WideShapes Go.RowKit
open Go.ChangeMaps (open_string)

set_option maxHeartbeats 1600000 in
set_option maxRecDepth 100000 in
theorem grantAsks_lifted (os : Os) (started : os.Started) (H : Type) (enc : TypeId × Value → H) :
    ReturnsInHanded {} Tryz.checked os 5 .any (Rows.grantAsksSpec.pre6 enc Tryz.prog Tryz.f5 Rows.grantAsksRow.domain false) (Rows.grantAsksSpec.post enc Tryz.prog Tryz.f5 false true false false) := by
  refine returnsInHanded_of_change (C := Tryz.checked) Tryz.own started (by kernel_rfl) Tryz.func5
    (ChangeSpec.witness6 (enc := enc) (C := Tryz.checked) false ⟨#[], #[.string .empty, .string .empty, .string .empty, .agg #[.int .i64 0, .string .empty, .int .i64 0, .slice none 0 0], .agg #[.int .i64 0, .string .empty, .int .i64 0, .slice none 0 0], .agg #[.int .i64 0, .string .empty, .int .i64 0, .slice none 0 0], .int .i64 0, .int .i64 0, .int .i64 0], []⟩ 8 (by kernel_rfl) (by kernel_rfl) (by kernel_rfl) (by kernel_rfl)) ?_
  intro W base args ds gs before hval0 hW _ _
  have hval : ∀ (j : Nat) t v, Tryz.f5.params[j]? = some t → args[j]? = some v → Value.okWide Tryz.prog W .any base t v := hval0
  have hW' : DataW.Whole enc Tryz.prog Tryz.f5.params.toList Rows.grantAsksSpec.vars false W args.toList ds gs before := hW
  have hWk := hW'
  obtain ⟨p, q, hA, hV, _, _, _⟩ := hW'
  obtain ⟨rfl, rfl⟩ := trodVars_none hV
  rw [Tryz.params5] at hA hval
  obtain ⟨args⟩ := args
  dsimp only at hA hval
  obtain ⟨v0, vr0, d0, dr0, p0, pr0, rfl, rfl, rfl, h0, hA⟩ := trodAll_cons hA
  obtain ⟨v1, vr1, d1, dr1, p1, pr1, rfl, rfl, rfl, h1, hA⟩ := trodAll_cons hA
  obtain ⟨v2, vr2, d2, dr2, p2, pr2, rfl, rfl, rfl, h2, hA⟩ := trodAll_cons hA
  obtain ⟨v3, vr3, d3, dr3, p3, pr3, rfl, rfl, rfl, h3, hA⟩ := trodAll_cons hA
  obtain ⟨v4, vr4, d4, dr4, p4, pr4, rfl, rfl, rfl, h4, hA⟩ := trodAll_cons hA
  obtain ⟨v5, vr5, d5, dr5, p5, pr5, rfl, rfl, rfl, h5, hA⟩ := trodAll_cons hA
  obtain ⟨v6, vr6, d6, dr6, p6, pr6, rfl, rfl, rfl, h6, hA⟩ := trodAll_cons hA
  obtain ⟨v7, vr7, d7, dr7, p7, pr7, rfl, rfl, rfl, h7, hA⟩ := trodAll_cons hA
  obtain ⟨v8, vr8, d8, dr8, p8, pr8, rfl, rfl, rfl, h8, hA⟩ := trodAll_cons hA
  obtain ⟨rfl, rfl, rfl⟩ := trodAll_nil hA
  obtain ⟨s0, rfl, rfl, _, k0⟩ := open_string Tryz.underlying9 (hval 0 9 v0 rfl rfl) h0
  obtain ⟨s1, rfl, rfl, _, k1⟩ := open_string Tryz.underlying9 (hval 1 9 v1 rfl rfl) h1
  obtain ⟨s2, rfl, rfl, _, k2⟩ := open_string Tryz.underlying9 (hval 2 9 v2 rfl rfl) h2
  obtain ⟨t3, hd3, rfl, k3⟩ := open_term (hval 3 25 v3 rfl rfl) h3
  obtain ⟨t4, hd4, rfl, k4⟩ := open_term (hval 4 25 v4 rfl rfl) h4
  obtain ⟨t5, hd5, rfl, k5⟩ := open_term (hval 5 25 v5 rfl rfl) h5
  obtain ⟨n6, rfl⟩ := open_num (hval 6 3 v6 rfl rfl) h6
  obtain ⟨n7, rfl⟩ := open_num (hval 7 3 v7 rfl rfl) h7
  obtain ⟨n8, rfl⟩ := open_num (hval 8 3 v8 rfl rfl) h8
  exact law_step (L := [11, 20, 21, 30, 31, 32, 33, 50, 51, 61, 62, 63]) (by kernel_rfl) (by rw [Tryz.params5]; exact reads_of (by kernel_rfl)) hWk rfl rfl (by decide) (law5 s0 s1 s2 t3 t4 t5 n6 n7 n8 hd3 hd4 hd5 (g0 W) k3 k4 k5 k0 k1 k2)

set_option maxHeartbeats 4000000 in
theorem grantAsks_closed : joinedFacts Tryz.prog 5 Tryz.f5 Rows.grantAsksSpec Rows.grantAsksRow = true :=
  joined_of rfl (by as_aux_lemma => kernel_rfl) (by as_aux_lemma => kernel_rfl) (by as_aux_lemma => kernel_rfl) (by as_aux_lemma => kernel_rfl) (by as_aux_lemma => kernel_rfl) (by as_aux_lemma => kernel_rfl)
    (by as_aux_lemma => kernel_rfl) (by as_aux_lemma => kernel_rfl) (by as_aux_lemma => kernel_rfl) (by as_aux_lemma => kernel_rfl) (by as_aux_lemma => kernel_rfl) (by as_aux_lemma => kernel_rfl)

set_option maxHeartbeats 4000000 in
theorem grantAsks_holds : Rows.GrantAsksSaid :=
  OpenClaim.holds_of_wide 5 Tryz.f5 rfl rfl rfl rfl rfl rfl rfl ⟨rfl, rfl, rfl, rfl, rfl⟩ rfl rfl rfl rfl rfl (by as_aux_lemma => kernel_rfl) Tryz.func5 grantAsks_closed
    (of_decide_eq_true (by kernel_rfl)) (by unfold Func.isWrapper; rw [if_neg (of_decide_eq_false (by kernel_rfl))]; exact ⟨rfl, rfl⟩)
    (fun os started H enc _ => grantAsks_lifted os started H enc)
end Go.Proofs.YtobhfopgoidniaaGreat
