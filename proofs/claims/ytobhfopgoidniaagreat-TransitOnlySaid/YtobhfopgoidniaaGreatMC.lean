/- Terms that are handed in, and how long their lists are; steps. -/
import Derived.Test.YtobhfopgoidniaaGreatMB
import Derived.Test.YtobhfopgoidniaaGreatVA
import Derived.Test.YtobhfopgoidniaaGreatHA
import Derived.SizedLaws
set_option linter.all false
set_option linter.unusedVariables false
set_option linter.unusedSimpArgs false

namespace Go.Proofs.YtobhfopgoidniaaGreat
open Go Go.Eng Go.ChangeShapes Go.WideShapes Go.RowKit

section
variable {H : Type} {enc : TypeId × Value → H} {X : Type}

/-- No part of it takes more than the form's reach. -/
def Szd (t : TypeId) (d : DataW H) : Prop := ∀ n ∈ d.weights Tryz.prog t, n ≤ reachBytes

theorem szd_each {ts : List TypeId} {ds : List (DataW H)} (h : (DataW.weightsEach Tryz.prog ts ds).all (· ≤ reachBytes) = true) {j : Nat} {t : TypeId} {d : DataW H} (ht : ts[j]? = some t) (hd : ds[j]? = some d) : Szd t d := by
  intro n hn
  have := List.all_eq_true.1 h n (DataW.weights_mem_each ht hd n hn)
  simpa using this

theorem weights_all {e : TypeId} : ∀ (l : List (DataW H)) (d : DataW H), d ∈ l → ∀ n ∈ d.weights Tryz.prog e, n ∈ DataW.weightsAll Tryz.prog e l
  | [], d, h, _, _ => by cases h
  | a :: l, d, h, n, hn => by
    simp only [DataW.weightsAll, List.mem_append]
    rcases List.mem_cons.1 h with rfl | h
    · exact .inl hn
    · exact .inr (weights_all l d h n hn)

theorem szd_slice {t e : TypeId} (ht : Tryz.prog.underlying t = some (.slice e)) {els sp : List (DataW H)} (h : Szd t (.slice els sp)) : (els.length + sp.length) * Tryz.prog.bytesOf e ≤ reachBytes ∧ ∀ d ∈ els, Szd e d := by
  unfold Szd at h
  simp only [DataW.weights, ht, List.mem_cons, List.mem_append] at h
  exact ⟨h _ (.inl rfl), fun d hd n hn => h n (.inr (.inl (weights_all els d hd n hn)))⟩

theorem szd_struct {t : TypeId} {fs : Array Field} (ht : Tryz.prog.underlying t = some (.struct fs)) {parts : List (DataW H)} (h : Szd t (.agg parts)) {j : Nat} {f : Field} {d : DataW H} (hf : fs.toList[j]? = some f) (hd : parts[j]? = some d) : Szd f.type d := by
  intro n hn
  refine h n ?_
  simp only [DataW.weights, ht]
  exact DataW.weights_mem_each (by rw [List.getElem?_map, hf]; rfl) hd n hn

theorem Tryz.bytes25 : Tryz.prog.bytesOf 25 = 56 := by kernel_rfl

theorem tws_le {l : List T} {M : Nat} (h : ∀ t ∈ l, tw t ≤ M) : tws l ≤ M := by
  induction l with
  | nil => exact Nat.zero_le _
  | cons a l ih =>
    have h1 := h a (by simp)
    have h2 := ih fun t ht => h t (by simp [ht])
    simp only [tws]
    omega

theorem tok_sized {W : World} : ∀ (n : Nat) (cs : List Value) (x : DataW H × List MemPlace), DataW.trod enc Tryz.prog W 0 (fun _ => true) true n 25 cs = some x → Szd 25 x.1 → ∃ (t : T) (h : Hd), cs = tc t h ∧ TOk (g0 W) t h ∧ tw t ≤ 2513169434843 := by
  intro n
  induction n using Nat.strongRecOn with
  | ind n ih =>
  intro cs x hx hsx
  obtain ⟨xs, m, rfl, ex, hl, hxl, hf⟩ := DataW.trod_struct Tryz.underlying25 hx
  rw [ex] at hsx
  rw [Tryz.cells25] at hl
  obtain ⟨c0, c1, c2, c3, rfl⟩ := list4 hl
  have f0 := hf 0 _ rfl
  have f1 := hf 1 _ rfl
  have f2 := hf 2 _ rfl
  have f3 := hf 3 _ rfl
  have hx4 : xs.length = 4 := hxl
  obtain ⟨x0, x1, x2, x3, rfl⟩ := list4 hx4
  replace f0 : DataW.trod enc Tryz.prog W 0 (fun _ => true) true m 22 [c0] = some x0 := by simpa [Tryz.cells22] using f0
  replace f1 : DataW.trod enc Tryz.prog W 0 (fun _ => true) true m 9 [c1] = some x1 := by simpa [Tryz.cells9] using f1
  replace f2 : DataW.trod enc Tryz.prog W 0 (fun _ => true) true m 3 [c2] = some x2 := by simpa [Tryz.cells3] using f2
  replace f3 : DataW.trod enc Tryz.prog W 0 (fun _ => true) true m 23 [c3] = some x3 := by simpa [Tryz.cells23] using f3
  have hs3 : Szd 23 x3.1 := szd_struct (j := 3) Tryz.underlying25 hsx rfl rfl
  obtain ⟨k, e0, _, _⟩ := DataW.trod_int Tryz.underlying22 f0
  obtain ⟨s, e1, _, hs⟩ := DataW.trod_string Tryz.underlying9 f1
  obtain ⟨i, e2, _, _⟩ := DataW.trod_int Tryz.underlying3 f2
  simp only [List.cons.injEq, and_true] at e0 e1 e2
  subst e0 e1 e2
  rcases DataW.trod_slice Tryz.underlying23 f3 with ⟨e3, _⟩ | ⟨a, len, cap, els, rest, q, hq, e3, ex3, _, hlc, hcm, hel, hr, _, _⟩
  · simp only [List.cons.injEq, and_true] at e3
    subst e3
    exact ⟨.mk k s i [], ⟨none, 0⟩, rfl, ⟨.nil, Nat.le_refl _, Nat.zero_le _, hs⟩, by simp [tw, tws]⟩
  · simp only [List.cons.injEq, and_true] at e3
    subst e3
    rw [ex3] at hs3
    obtain ⟨hby, hse⟩ := szd_slice Tryz.underlying23 hs3
    rw [Tryz.bytes25] at hby
    have hlen : len ≤ 2513169434843 := by
      simp only [List.length_map, reachBytes] at hby
      omega
    rw [Tryz.cells25] at hr
    have each : ∀ j, j < len → ∃ (t : T) (h : Hd), Cs (g0 W) 0 a.block (a.off + j * 4) (tc t h) ∧ TOk (g0 W) t h ∧ a.spot = none ∧ tw t ≤ 2513169434843 := by
      intro j hj
      have h1 := hr j hj
      have hje : j < els.length := by omega
      rw [List.getElem?_eq_getElem hje] at h1
      obtain ⟨cs, h2, h3⟩ := Option.bind_eq_some_iff.1 h1
      obtain ⟨t, h, rfl, k2, k3⟩ := ih q (by omega) cs _ h3 (hse _ (List.mem_map_of_mem (by simp)))
      have h0 : a.spot = none := by
        have h1 := hr 0 (by omega)
        have hje : 0 < els.length := by omega
        rw [List.getElem?_eq_getElem hje] at h1
        obtain ⟨cs, h2, h3⟩ := Option.bind_eq_some_iff.1 h1
        have := (cs_row h2 (by omega)).1
        simpa [Addr.add] using this
      obtain ⟨_, _, h4⟩ := cs_row h2 (by omega)
      refine ⟨t, h, ?_, k2, h0, k3⟩
      unfold Addr.add at h4
      split at h4
      · rename_i e
        rw [e]
        exact h4
      · exact h4
    let l : List T := (List.range len).map fun j => if h : j < len then (each j h).choose else .mk 0 .empty 0 []
    have hll : l.length = len := by simp [l]
    have hget : ∀ j t, l[j]? = some t → ∃ hj : j < len, t = (each j hj).choose := by
      intro j t hj
      have hjl : j < len := by rw [← hll]; exact (List.getElem?_eq_some_iff.1 hj).1
      have : l[j]? = some (each j hjl).choose := by
        simp only [l, List.getElem?_map, List.getElem?_range hjl, Option.map_some, dif_pos hjl]
      rw [this] at hj
      exact ⟨hjl, (Option.some.inj hj).symm⟩
    have htw : tw (.mk k s i l) ≤ 2513169434843 := by
      have h1 : tws l ≤ 2513169434843 := tws_le fun t ht => by
        obtain ⟨j, hj⟩ := List.getElem?_of_mem ht
        obtain ⟨hjl, rfl⟩ := hget j t hj
        exact (each j hjl).choose_spec.choose_spec.2.2.2
      simp only [tw, hll]
      omega
    refine ⟨.mk k s i l, ⟨some a, cap⟩, by simp [tc, T.k, T.s, T.n, T.l, hll], ⟨?_, by simp only [T.l_mk]; omega, hcm, hs⟩, htw⟩
    by_cases h0 : len = 0
    · have : l = [] := List.eq_nil_of_length_eq_zero (by omega)
      show TsIs (g0 W) (some a) l
      rw [this]
      exact .nil
    · obtain ⟨_, _, _, _, hsp, _⟩ := each 0 (by omega)
      obtain ⟨ab, ao, asp⟩ := a
      dsimp only at hsp
      subst hsp
      refine TsIs.mk l fun j t hj => ?_
      obtain ⟨hjl, rfl⟩ := hget j t hj
      obtain ⟨h, k1, k2, _⟩ := (each j hjl).choose_spec
      exact ⟨h, k1, k2⟩

set_option maxRecDepth 100000 in
/-- A term that is handed in, and how long its lists are. -/
theorem open_termS {r : Reach} {b0 : Nat} {W : World} {v : Value} {d : DataW H} {p : List MemPlace} (hz : Szd 25 d) (hv : Value.okWide Tryz.prog W r b0 25 v) (h : DataW.Trod enc Tryz.prog W 0 (fun _ => true) true 25 v d p) : ∃ (t : T) (hd : Hd), v = tv t hd ∧ TOk (g0 W) t hd ∧ tw t ≤ 2513169434843 := by
  obtain ⟨cs, rfl⟩ := agg_of Tryz.underlying25 hv
  obtain ⟨n, hn⟩ := h
  obtain ⟨t, hd, e, k, kw⟩ := tok_sized n _ _ hn hz
  refine ⟨t, hd, ?_, k, kw⟩
  obtain ⟨l⟩ := cs
  have e' : l = tc t hd := e
  rw [e']
  rfl

/-! ### Steps -/

theorem Tryz.cells60 : Tryz.prog.cellsOf 60 = 7 := by kernel_rfl
theorem list7 {α : Type} {l : List α} (h : l.length = 7) : ∃ a b c d e f g, l = [a, b, c, d, e, f, g] := by
  match l, h with
  | [a, b, c, d, e, f, g], _ => exact ⟨a, b, c, d, e, f, g, rfl⟩

theorem rd_step : Rdr enc 60 stc (fun W p => StOk (g0 W) p) := by
  intro W fuel cs x hx
  obtain ⟨xs, m, rfl, _, hl, hxl, hf⟩ := DataW.trod_struct Tryz.underlying60 hx
  rw [Tryz.cells60] at hl
  obtain ⟨c0, c1, c2, c3, c4, c5, c6, rfl⟩ := list7 hl
  have f0 := hf 0 _ rfl
  have f1 := hf 1 _ rfl
  have f2 := hf 2 _ rfl
  have f3 := hf 3 _ rfl
  obtain ⟨x0, x1, x2, x3, rfl⟩ := list4 (show xs.length = 4 from hxl)
  obtain ⟨k, e0, _⟩ := rd_int Tryz.underlying3 W m _ x0 (by simpa [Tryz.cells3] using f0)
  obtain ⟨n, e1, _⟩ := rd_int Tryz.underlying3 W m _ x1 (by simpa [Tryz.cells3] using f1)
  obtain ⟨t, e2, kt⟩ := rd_term W m _ x2 (by simpa [Tryz.cells25] using f2)
  obtain ⟨w, e3, kw⟩ := rd_str W m _ x3 (by simpa [Tryz.cells9] using f3)
  simp only [tc, List.cons.injEq, and_true] at e0 e1 e2 e3
  obtain ⟨e20, e21, e22, e23⟩ := e2
  subst e0 e1 e20 e21 e22 e23 e3
  exact ⟨(⟨k, n, t.1, w⟩, t.2), rfl, kt, kw⟩

theorem rd_steps : Rdr enc 57 (fun p : List (Stp × Hd) × Hd => [.slice p.2.a p.1.length p.2.cap]) (fun W p => LStOk (g0 W) p.1 p.2) := by
  intro W fuel cs x hx
  obtain ⟨y, e, k⟩ := rd_slice (sz := 7) Tryz.underlying57 Tryz.cells60 (by decide) (fun _ => rfl) rd_step W fuel cs x hx
  exact ⟨y, e, k.row, k.len, k.cap, k.el⟩

set_option maxRecDepth 100000 in
theorem open_steps {r : Reach} {b0 : Nat} {W : World} {v : Value} {d : DataW H} {p : List MemPlace} (hv : Value.okWide Tryz.prog W r b0 57 v) (h : DataW.Trod enc Tryz.prog W 0 (fun _ => true) true 57 v d p) :
    ∃ (l : List (Stp × Hd)) (hd : Hd), v = .slice hd.a l.length hd.cap ∧ LStOk (g0 W) l hd := by
  obtain ⟨y, e, k⟩ := open_sl Tryz.underlying57 rd_steps hv h
  exact ⟨y.1, y.2, (List.cons.inj e).1, k⟩
end
end Go.Proofs.YtobhfopgoidniaaGreat
