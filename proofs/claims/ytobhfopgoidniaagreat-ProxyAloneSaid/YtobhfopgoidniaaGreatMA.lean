/- From what a function does to its row. What a row asks of the program, once for all. -/
import Derived.Test.YtobhfopgoidniaaGreatTB
import Derived.Test.YtobhfopgoidniaaGreatED
import Derived.Test.YtobhfopgoidniaaGreatRows
import Derived.ProofKit
import Derived.Carry
import Derived.Below
import Derived.WideKeyArgs
import Derived.JoinedOf
set_option linter.all false
set_option linter.unusedVariables false
set_option linter.unusedSimpArgs false

/- From what a function does to its row. -/
namespace Go.Proofs.YtobhfopgoidniaaGreat
open Go Go.Eng Go.ChangeShapes Go.WideShapes Go.RowKit
open Go.ChangeMaps (open_string)

theorem Tryz.own : ownKnob Tryz.prog.godebug = none := by kernel_rfl
theorem Tryz.laidOut : laidOutB Tryz.prog = true := by kernel_rfl
theorem Tryz.cells25 : Tryz.prog.cellsOf 25 = 4 := by kernel_rfl
theorem Tryz.cells22 : Tryz.prog.cellsOf 22 = 1 := by kernel_rfl
theorem Tryz.cells9 : Tryz.prog.cellsOf 9 = 1 := by kernel_rfl
theorem Tryz.cells3 : Tryz.prog.cellsOf 3 = 1 := by kernel_rfl
theorem Tryz.cells23 : Tryz.prog.cellsOf 23 = 1 := by kernel_rfl

theorem reads_of {l : List TypeId} (h : (l.all fun t => Tryz.prog.readableRec t && Nat.blt t Tryz.prog.types.size) = true) : ∀ t ∈ l, Tryz.prog.readableRec t = true ∧ t < Tryz.prog.types.size := by
  intro t ht
  have := List.all_eq_true.1 h t ht
  rw [Bool.and_eq_true] at this
  exact ⟨this.1, Nat.lt_of_lt_of_le (Nat.lt_succ_self t) (Nat.le_of_ble_eq_true this.2)⟩

section
variable {H : Type} {enc : TypeId × Value → H}

/-- All that is there at the beginning is not written. -/
abbrev g0 (W : World) : G := ⟨W, fun _ => 0⟩

theorem cs_row {W : World} {base n : Nat} {a : Addr} {cs : List Value} (h : W.cells? base a n = some cs) (h0 : 0 < n) : a.spot = none ∧ cs.length = n ∧ Cs (g0 W) 0 a.block a.off cs := by
  obtain ⟨_, h1, h2⟩ := World.cells?_some h
  have hb := World.cells?_block h h0
  have hc : ∀ i v, cs[i]? = some v → W.cell? (a.add i) = some v := fun i v hv => by
    have hi : i < n := by rw [← h1]; exact (List.getElem?_eq_some_iff.1 hv).1
    rw [h2 i hi, hv]
  have hs : a.spot = none := by
    have hi : 0 < cs.length := by omega
    have := World.cell?_spot (hc 0 _ (List.getElem?_eq_getElem hi))
    simpa [Addr.add] using this
  refine ⟨hs, h1, hb, rfl, fun j v hj => ?_⟩
  have := hc j v hj
  obtain ⟨b, off, sp⟩ := a
  dsimp only at hs
  subst hs
  unfold Addr.add at this
  split at this
  · rename_i e; subst e; exact this
  · exact this

theorem list4 {α : Type} {l : List α} (h : l.length = 4) : ∃ a b c d, l = [a, b, c, d] := by
  match l, h with
  | [a, b, c, d], _ => exact ⟨a, b, c, d, rfl⟩

/-- What reads as a term is one. -/
theorem tok_trod {W : World} : ∀ (n : Nat) (cs : List Value) (x : DataW H × List MemPlace), DataW.trod enc Tryz.prog W 0 (fun _ => true) true n 25 cs = some x → ∃ (t : T) (h : Hd), cs = tc t h ∧ TOk (g0 W) t h := by
  intro n
  induction n using Nat.strongRecOn with
  | ind n ih =>
  intro cs x hx
  obtain ⟨xs, m, rfl, _, hl, hxl, hf⟩ := DataW.trod_struct Tryz.underlying25 hx
  rw [Tryz.cells25] at hl
  obtain ⟨c0, c1, c2, c3, rfl⟩ := list4 hl
  have f0 := hf 0 _ rfl
  have f1 := hf 1 _ rfl
  have f2 := hf 2 _ rfl
  have f3 := hf 3 _ rfl
  have hx4 : xs.length = 4 := hxl
  obtain ⟨x0, x1, x2, x3, rfl⟩ := list4 hx4
  replace f0 : DataW.trod enc Tryz.prog W 0 (fun _ => true) true m 22 [c0] = some x0 := by simpa [Tryz.cells22] using f0
  replace f1 : DataW.trod enc Tryz.prog W 0 (fun _ => true) true m 9 [c1] = some x1 := by simpa [Tryz.cells9] using f1
  replace f2 : DataW.trod enc Tryz.prog W 0 (fun _ => true) true m 3 [c2] = some x2 := by simpa [Tryz.cells3] using f2
  replace f3 : DataW.trod enc Tryz.prog W 0 (fun _ => true) true m 23 [c3] = some x3 := by simpa [Tryz.cells23] using f3
  obtain ⟨k, e0, _, _⟩ := DataW.trod_int Tryz.underlying22 f0
  obtain ⟨s, e1, _, hs⟩ := DataW.trod_string Tryz.underlying9 f1
  obtain ⟨i, e2, _, _⟩ := DataW.trod_int Tryz.underlying3 f2
  simp only [List.cons.injEq, and_true] at e0 e1 e2
  subst e0 e1 e2
  rcases DataW.trod_slice Tryz.underlying23 f3 with ⟨e3, _⟩ | ⟨a, len, cap, els, rest, q, hq, e3, _, _, hlc, hcm, hel, hr, _, _⟩
  · simp only [List.cons.injEq, and_true] at e3
    subst e3
    exact ⟨.mk k s i [], ⟨none, 0⟩, rfl, .nil, Nat.le_refl _, Nat.zero_le _, hs⟩
  · simp only [List.cons.injEq, and_true] at e3
    subst e3
    rw [Tryz.cells25] at hr
    have each : ∀ j, j < len → ∃ (t : T) (h : Hd), Cs (g0 W) 0 a.block (a.off + j * 4) (tc t h) ∧ TOk (g0 W) t h ∧ a.spot = none := by
      intro j hj
      have h1 := hr j hj
      have hje : j < els.length := by omega
      rw [List.getElem?_eq_getElem hje] at h1
      obtain ⟨cs, h2, h3⟩ := Option.bind_eq_some_iff.1 h1
      obtain ⟨t, h, rfl, k2⟩ := ih q (by omega) cs _ h3
      have h0 : a.spot = none := by
        have h1 := hr 0 (by omega)
        have hje : 0 < els.length := by omega
        rw [List.getElem?_eq_getElem hje] at h1
        obtain ⟨cs, h2, h3⟩ := Option.bind_eq_some_iff.1 h1
        have := (cs_row h2 (by omega)).1
        simpa [Addr.add] using this
      obtain ⟨_, _, h4⟩ := cs_row h2 (by omega)
      refine ⟨t, h, ?_, k2, h0⟩
      unfold Addr.add at h4
      split at h4
      · rename_i e
        rw [e]
        exact h4
      · exact h4
    let l : List T := (List.range len).map fun j => if h : j < len then (each j h).choose else .mk 0 .empty 0 []
    have hll : l.length = len := by simp [l]
    refine ⟨.mk k s i l, ⟨some a, cap⟩, by simp [tc, T.k, T.s, T.n, T.l, hll], ?_, by simp only [T.l_mk]; omega, hcm, hs⟩
    by_cases h0 : len = 0
    · have : l = [] := List.eq_nil_of_length_eq_zero (by omega)
      show TsIs (g0 W) (some a) l
      rw [this]
      exact .nil
    · obtain ⟨_, _, _, _, hsp⟩ := each 0 (by omega)
      obtain ⟨ab, ao, asp⟩ := a
      dsimp only at hsp
      subst hsp
      refine TsIs.mk l fun j t hj => ?_
      have hjl : j < len := by rw [← hll]; exact (List.getElem?_eq_some_iff.1 hj).1
      have e : t = (each j hjl).choose := by
        have : l[j]? = some (each j hjl).choose := by
          simp only [l, List.getElem?_map, List.getElem?_range hjl, Option.map_some, dif_pos hjl]
        rw [this] at hj
        exact (Option.some.inj hj).symm
      subst e
      obtain ⟨h, k1, k2, _⟩ := (each j hjl).choose_spec
      exact ⟨h, k1, k2⟩

theorem agg_of {P : Program} {fs : Array Field} {W : World} {r : Reach} {b0 : Nat} {t : TypeId} {v : Value} (ht : P.underlying t = some (.struct fs)) (hv : Value.okWide P W r b0 t v) : ∃ cs, v = .agg cs := by
  obtain ⟨cs, h, _⟩ := okWide_struct ht hv
  exact ⟨cs, h⟩

set_option maxRecDepth 100000 in
/-- A term that is handed in. -/
theorem open_term {r : Reach} {b0 : Nat} {W : World} {v : Value} {d : DataW H} {p : List MemPlace} (hv : Value.okWide Tryz.prog W r b0 25 v) (h : DataW.Trod enc Tryz.prog W 0 (fun _ => true) true 25 v d p) : ∃ (t : T) (hd : Hd), v = tv t hd ∧ TOk (g0 W) t hd := by
  obtain ⟨cs, rfl⟩ := agg_of Tryz.underlying25 hv
  obtain ⟨n, hn⟩ := h
  obtain ⟨t, hd, e, k⟩ := tok_trod n _ _ hn
  refine ⟨t, hd, ?_, k⟩
  obtain ⟨l⟩ := cs
  have e' : l = tc t hd := e
  rw [e']
  rfl

theorem trodAll_stays {P : Program} (hl : laidOutB P = true) {W W' : World} {base : Nat} {sp' : Nat → Bool} (ts : List TypeId) : ∀ {vs : List Value} {ds : List (DataW H)} {ps : List MemPlace}, (∀ t ∈ ts, P.readableRec t = true ∧ t < P.types.size) →
    DataW.TrodAll enc P W base (fun _ => true) true ts vs ds ps → (∀ p ∈ ps, W.sameAt W' p) → (∀ p ∈ ps, sp' p.block = true) → DataW.TrodAll enc P W' base sp' true ts vs ds ps := by
  induction ts with
  | nil =>
    intro vs ds ps _ h _ _
    obtain ⟨rfl, rfl, rfl⟩ := trodAll_nil h
    exact rfl
  | cons t ts ih =>
    intro vs ds ps ht h hs hp
    obtain ⟨v, vs1, d, ds1, a, b, rfl, rfl, rfl, h1, h2⟩ := trodAll_cons h
    exact ⟨a, b, WideElems.Trod_stays hl (ht t (by simp)).1 (ht t (by simp)).2 h1 (fun p h => hs p (by simp [h])) (fun p h => hp p (by simp [h])),
      ih (fun t h => ht t (by simp [h])) h2 (fun p h => hs p (by simp [h])) (fun p h => hp p (by simp [h])), rfl⟩

/-- A law that answers true keeps its row. -/
theorem law_step {fn : Func} {f : FuncId} {s : ChangeSpec} (hres : fn.resultTypes = #[4]) (hread : ∀ t ∈ fn.params.toList, Tryz.prog.readableRec t = true ∧ t < Tryz.prog.types.size) {W : World} {args : Array Value} {ds gs : List (DataW H)} {before : List MemPlace}
    (hW : DataW.Whole enc Tryz.prog fn.params.toList s.vars false W args.toList ds gs before) (hvars : s.vars = []) (hspec : s.fn H (ds ++ gs) = { results := [.lit (.bool true)], args := ds }) {L : List Nat} (h0 : 0 ∉ L)
    (hok : Ok Tryz.prog f args.toList (g0 W) L (fun v _ => v = .bool true)) : Calls Tryz.prog f args W fun e W' => ∃ v, e = .returned v ∧ s.post enc Tryz.prog fn false true false false W args v W' := by
  obtain ⟨args⟩ := args
  refine (hok (fun _ _ => rfl)).mono fun e W' ⟨v, o', he, st, hv⟩ => ⟨v, he, ?_⟩
  subst hv
  have hb : Below W.heap.size W W' := ⟨st.os, st.tape, st.out, st.size, fun k hk => st.keep k hk h0⟩
  have hlt := hW.lt
  have hWc := hW
  obtain ⟨p, q, hA, hV, hpq, _, _⟩ := hW
  rw [hvars] at hV
  obtain ⟨rfl, rfl⟩ := trodVars_none hV
  refine ⟨ds, [], before, [], p, [], hWc, ?_, ?_, ?_, hb.frame _, fun h => by cases h⟩
  · rw [hspec, hres]
    exact trodAll_mk1 (shut_bool Tryz.underlying4 true)
  · rw [hspec]
    exact trodAll_stays Tryz.laidOut _ hread hA (fun x hx => hb.same (hlt x (by rw [hpq]; simp [hx]))) (fun x hx => by simpa using hlt x (by rw [hpq]; simp [hx]))
  · rw [hvars, hspec]
    exact rfl
end
end Go.Proofs.YtobhfopgoidniaaGreat

/- What a row asks of the program, once for all. -/
namespace Go.Proofs.YtobhfopgoidniaaGreat
open Go Go.Eng

def sigL : List Char := [104, 97, 114, 110, 101, 115, 115, 32, 56, 57, 54, 57, 48, 100, 100, 52, 98, 49, 50, 53, 100, 54, 101, 53, 51, 99, 100, 53, 98, 49, 52, 53, 98, 53, 102, 51, 53, 52, 56, 98, 98, 99, 57, 52, 48, 48, 52, 49, 102, 97, 49, 100, 101, 97, 101, 49, 51, 50, 55, 54, 56, 49, 99, 102, 102, 56, 97, 101, 51, 55, 100, 97, 32, 99, 117, 116, 32, 97, 116, 32, 108, 101, 103, 97, 116, 101, 47, 108, 101, 103, 97, 116, 101, 108, 97, 119, 49, 56, 46, 84, 114, 97, 110, 115, 105, 116, 69, 120, 116, 114, 97, 32, 108, 101, 103, 97, 116, 101, 47, 108, 101, 103, 97, 116, 101, 108, 97, 119, 49, 56, 46, 84, 114, 97, 110, 115, 105, 116, 87, 97, 121, 115, 32, 108, 101, 103, 97, 116, 101, 47, 108, 101, 103, 97, 116, 101, 108, 97, 119, 49, 55, 46, 71, 114, 97, 110, 116, 65, 115, 107, 115, 32, 108, 101, 103, 97, 116, 101, 47, 108, 101, 103, 97, 116, 101, 108, 97, 119, 49, 55, 46, 71, 114, 97, 110, 116, 75, 101, 101, 112, 115, 32, 108, 101, 103, 97, 116, 101, 47, 108, 101, 103, 97, 116, 101, 108, 97, 119, 49, 55, 46, 71, 114, 97, 110, 116, 79, 118, 101, 114, 32, 108, 101, 103, 97, 116, 101, 47, 108, 101, 103, 97, 116, 101, 108, 97, 119, 49, 55, 46, 71, 114, 97, 110, 116, 70, 111, 114, 119, 97, 114, 100, 101, 100, 32, 108, 101, 103, 97, 116, 101, 47, 108, 101, 103, 97, 116, 101, 108, 97, 119, 49, 55, 46, 71, 114, 97, 110, 116, 82, 101, 112, 108, 105, 101, 115, 32, 108, 101, 103, 97, 116, 101, 47, 108, 101, 103, 97, 116, 101, 108, 97, 119, 49, 56, 46, 84, 114, 97, 110, 115, 105, 116, 68, 111, 101, 115, 32, 108, 101, 103, 97, 116, 101, 47, 108, 101, 103, 97, 116, 101, 108, 97, 119, 49, 56, 46, 84, 114, 97, 110, 115, 105, 116, 79, 110, 108, 121, 32, 108, 101, 103, 97, 116, 101, 47, 108, 101, 103, 97, 116, 101, 108, 97, 119, 49, 56, 46, 84, 114, 97, 110, 115, 105, 116, 65, 115, 107, 101, 100, 32, 108, 101, 103, 97, 116, 101, 47, 108, 101, 103, 97, 116, 101, 108, 97, 119, 49, 57, 46, 80, 114, 111, 120, 121, 68, 111, 101, 115, 32, 108, 101, 103, 97, 116, 101, 47, 108, 101, 103, 97, 116, 101, 108, 97, 119, 49, 57, 46, 80, 114, 111, 120, 121, 79, 110, 108, 121, 32, 108, 101, 103, 97, 116, 101, 47, 108, 101, 103, 97, 116, 101, 108, 97, 119, 49, 57, 46, 80, 114, 111, 120, 121, 67, 104, 97, 105, 110, 32, 108, 101, 103, 97, 116, 101, 47, 108, 101, 103, 97, 116, 101, 108, 97, 119, 49, 57, 46, 80, 114, 111, 120, 121, 65, 108, 111, 110, 101, 32, 108, 101, 103, 97, 116, 101, 47, 108, 101, 103, 97, 116, 101, 108, 97, 119, 49, 57, 46, 80, 114, 111, 120, 121, 69, 110, 100, 115, 32, 108, 101, 103, 97, 116, 101, 47, 108, 101, 103, 97, 116, 101, 108, 97, 119, 50, 49, 46, 67, 108, 105, 101, 110, 116, 73, 110, 32, 108, 101, 103, 97, 116, 101, 47, 108, 101, 103, 97, 116, 101, 108, 97, 119, 50, 49, 46, 67, 108, 105, 101, 110, 116, 70, 117, 108, 108, 32, 108, 101, 103, 97, 116, 101, 47, 108, 101, 103, 97, 116, 101, 108, 97, 119, 50, 49, 46, 67, 108, 105, 101, 110, 116, 68, 111, 101, 115, 32, 108, 101, 103, 97, 116, 101, 47, 108, 101, 103, 97, 116, 101, 108, 97, 119, 50, 49, 46, 67, 108, 105, 101, 110, 116, 70, 105, 110, 100, 115, 32, 108, 101, 103, 97, 116, 101, 47, 108, 101, 103, 97, 116, 101, 108, 97, 119, 50, 49, 46, 67, 108, 105, 101, 110, 116, 79, 116, 104, 101, 114, 115, 32, 108, 101, 103, 97, 116, 101, 47, 108, 101, 103, 97, 116, 101, 108, 97, 119, 49, 57, 46, 80, 114, 111, 120, 121, 66, 97, 99, 107, 32, 108, 101, 103, 97, 116, 101, 47, 108, 101, 103, 97, 116, 101, 108, 97, 119, 50, 51, 46, 77, 105, 100, 100, 108, 101, 75, 101, 101, 112, 115, 32, 108, 101, 103, 97, 116, 101, 47, 108, 101, 103, 97, 116, 101, 108, 97, 119, 50, 51, 46, 77, 105, 100, 100, 108, 101, 79, 119, 110, 32, 108, 101, 103, 97, 116, 101, 47, 108, 101, 103, 97, 116, 101, 108, 97, 119, 50, 51, 46, 77, 105, 100, 100, 108, 101, 83, 101, 108, 102, 32, 108, 101, 103, 97, 116, 101, 47, 108, 101, 103, 97, 116, 101, 108, 97, 119, 50, 51, 46, 77, 105, 100, 100, 108, 101, 72, 97, 110, 100, 115].map Char.ofNat
set_option maxRecDepth 100000 in
theorem sig_eq : Tryz.prog.initOrder = String.ofList sigL := by kernel_rfl
theorem sig_list : Tryz.prog.initOrder.toList = sigL := by rw [sig_eq, String.toList_ofList]

def cutW : List Char := [99, 117, 116].map Char.ofNat
def restW : List (List Char) := (behindMainWord (wordsSigns sigL)).tail
theorem sig_words : behindMainWord (wordsSigns Tryz.prog.initOrder.toList) = cutW :: restW := by
  rw [sig_list]
  have h : (behindMainWord (wordsSigns sigL)).head? = some cutW := by kernel_rfl
  unfold restW
  cases hw : behindMainWord (wordsSigns sigL) with
  | nil => rw [hw] at h; cases h
  | cons a l => rw [hw] at h; obtain rfl := Option.some.inj h; rfl
theorem strip_none {c : List Char} {rest : List (List Char)} : ∀ {os : List String}, (os.all fun o => !(c == o.toList)) = true → stripLifts os (c :: rest) = ([], c :: rest)
  | [], _ => rfl
  | o :: os, h => by
    simp only [List.all_cons, Bool.and_eq_true, Bool.not_eq_true'] at h
    simp only [stripLifts, h.1, Bool.false_eq_true, if_false]
    exact strip_none h.2

theorem make_of {P : Program} {c : List Char} {rest : List (List Char)} (h : behindMainWord (wordsSigns P.initOrder.toList) = c :: rest) (h1 : (c == "gc".toList || c == "spec".toList) = false) (h2 : (c == "cut".toList) = true) : P.make = some .cut := by
  unfold Program.make
  rw [h]
  simp only [h1, h2, Bool.true_or, if_true, Bool.false_eq_true, if_false]

theorem may_of {P : Program} {c : List Char} {rest : List (List Char)} (h : behindMainWord (wordsSigns P.initOrder.toList) = c :: rest) (h1 : (liftWords.all fun o => !(c == o.toList)) = true) (h2 : (c == "cut".toList) = true) (h4 : P.laysLater = false) (h5 : P.bearsReflect = false) (h6 : P.doorFits [] = true) : P.mayEnter = true := by
  unfold Program.mayEnter
  rw [h]
  have h3 : ((c :: rest).head? == some "cut".toList) = true := by simpa using h2
  have e : ([] : List String).contains "reflectrows" = false := rfl
  have e2 : ([] : List String).contains "leanrows" = false := rfl
  simp only [strip_none h1, h3, h4, h5, h6, e, e2, Bool.not_false, Bool.or_true, Bool.and_true, Bool.true_and]

theorem lifts_of {P : Program} {c : List Char} {rest : List (List Char)} (h : behindMainWord (wordsSigns P.initOrder.toList) = c :: rest) (h1 : (liftWords.all fun o => !(c == o.toList)) = true) (h2 : (c == "carried".toList) = false) : P.liftsFinal = false := by
  unfold Program.liftsFinal Program.headLifts
  rw [h]
  have h3 : ((c :: rest).head? == some "carried".toList) = false := by simpa using h2
  have e : ([] : List String).contains "finals" = false := rfl
  simp only [h3, Bool.false_and, Bool.false_or, strip_none h1]
  split <;> exact e

theorem Tryz.made : Tryz.prog.make = some .cut := make_of sig_words (by kernel_rfl) (by kernel_rfl)
theorem Tryz.later : Tryz.prog.laysLater = false := by kernel_rfl
theorem Tryz.refl : Tryz.prog.bearsReflect = false := by kernel_rfl
theorem Tryz.door : Tryz.prog.doorFits [] = true := by kernel_rfl
theorem Tryz.may : Tryz.prog.mayEnter = true := may_of sig_words (by kernel_rfl) (by kernel_rfl) Tryz.later Tryz.refl Tryz.door
theorem Tryz.lifts : Tryz.prog.liftsFinal = false := lifts_of sig_words (by kernel_rfl) (by kernel_rfl)
theorem Tryz.rowed : mapsRowed Tryz.prog = true := by kernel_rfl
theorem Tryz.stop0 : Tryz.prog.stops = [] := by kernel_rfl
theorem Tryz.stop1 : Tryz.prog.stopKnobs = [] := by kernel_rfl
theorem Tryz.keys : Tryz.prog.plainKeys = true := by kernel_rfl
theorem Tryz.heard : Tryz.prog.stopsHeard = true := by kernel_rfl

set_option maxRecDepth 20000 in
theorem joined_of {f : FuncId} {fn : Func} {s : ChangeSpec} {c : OpenClaim} (hs : s.vars = []) (hw : c.wf (OpenSpec.ofChange s) = true)
    (h0 : (c.stops == [] && c.knobs == [] && c.shortTexts.isNone && c.lifted == false && some c.make == some .cut && c.plainKeys && c.pinned == c.pinnedBy && namedTie Tryz.prog c.named s.vars) = true)
    (h1 : (c.inPlace == Tryz.prog.inPlace f) = true) (h2 : (c.unfollowed == Tryz.prog.unfollowed f) = true) (h3 : (c.recurses == Tryz.prog.recurses f) = true) (h4 : (c.named == Tryz.prog.varsNamed f) = true)
    (h5 : (fn.params.all (Tryz.prog.readableRec ·) && fn.resultTypes.all (fun t => Tryz.prog.readableRec t && decide (t < Tryz.prog.types.size))) = true)
    (h6 : ((c.maps == (fn.params.toList ++ s.plain.varTypes Tryz.prog).any (Tryz.prog.mapsRec ·)) && (c.ifaces == (fn.params.toList ++ s.plain.varTypes Tryz.prog).any (Tryz.prog.ifacesRec ·)) && (c.mapsOut == Tryz.prog.mapsAmong fn.resultTypes.toList)) = true)
    (h7 : ((c.loops == (fn.params.toList ++ s.plain.varTypes Tryz.prog).any (Tryz.prog.loopsFrom ·)) && (c.wideKeys == (fn.params.toList ++ s.plain.varTypes Tryz.prog ++ fn.resultTypes.toList).any (Tryz.prog.wideKeysFrom ·))) = true)
    (h8 : ((c.ifacesOut == fn.resultTypes.toList.any (Tryz.prog.ifacesRec ·)) && (c.loopsOut == fn.resultTypes.toList.any (Tryz.prog.loopsFrom ·))) = true)
    (h9 : (c.kinds == (if c.domain.isEmpty then [] else fn.params.toList.map fun t => match Tryz.prog.underlying t with | some (.int k) => some k | _ => none)) = true)
    (h10 : ((c.veiled == (fn.params.toList ++ s.plain.varTypes Tryz.prog ++ fn.resultTypes.toList).any (Tryz.prog.veiledRec ·)) && c.veiledFits Tryz.prog fn.params.toList (fn.params.toList ++ s.plain.varTypes Tryz.prog ++ fn.resultTypes.toList)) = true) :
    joinedFacts Tryz.prog f fn s c = true := by
  simp only [Bool.and_eq_true, beq_iff_eq, Option.some.injEq] at h0
  obtain ⟨⟨⟨⟨⟨⟨⟨a1, a2⟩, a3⟩, a4⟩, a5⟩, a6⟩, a7⟩, a8⟩ := h0
  rw [Bool.and_eq_true] at h5 h7 h8 h10
  rw [Bool.and_eq_true, Bool.and_eq_true] at h6
  unfold joinedFacts
  rw [hw, Tryz.laidOut, Tryz.rowed, h5.1, a8, a1, Tryz.stop0, a2, Tryz.stop1, h1, h2, h3, h4, h6.1.1, h6.1.2, h6.2, h7.1, h7.2, h5.2, h8.1, h8.2, Tryz.keys, a6, a3, Tryz.heard, Tryz.may, a4, Tryz.lifts, Tryz.made, a5, a7, h10.1, h10.2, hs]
  simp only [List.all_nil, Bool.and_true, beq_self_eq_true, Bool.and_self]
  exact h9
end Go.Proofs.YtobhfopgoidniaaGreat
