/- Lists that are handed in: of principals, of strings, of numbers. -/
import Derived.Test.YtobhfopgoidniaaGreatMA
import Derived.Test.YtobhfopgoidniaaGreatFB
set_option linter.all false
set_option linter.unusedVariables false
set_option linter.unusedSimpArgs false

namespace Go.Proofs.YtobhfopgoidniaaGreat
open Go Go.Eng Go.ChangeShapes Go.WideShapes Go.RowKit

section
variable {H : Type} {enc : TypeId × Value → H} {X : Type}

theorem flat_one {Y Z : Type} (f : Y → Z) : ∀ l : List Y, l.flatMap (fun x => [f x]) = l.map f
  | [] => rfl
  | a :: l => by rw [List.flatMap_cons, flat_one f l]; rfl

/-- What reads as of type t is one of these. -/
def Rdr (enc : TypeId × Value → H) (t : TypeId) (cells : X → List Value) (ok : World → X → Prop) : Prop :=
  ∀ (W : World) (fuel : Nat) (cs : List Value) (x : DataW H × List MemPlace), DataW.trod enc Tryz.prog W 0 (fun _ => true) true fuel t cs = some x → ∃ y, cs = cells y ∧ ok W y

/-- A row of these. -/
structure RowIs (W : World) (cells : X → List Value) (ok : World → X → Prop) (ys : List X) (h : Hd) : Prop where
  row : ys = [] ∨ ∃ b off, h.a = some ⟨b, off, none⟩ ∧ Cs (g0 W) 0 b off (ys.flatMap cells)
  len : ys.length ≤ h.cap
  cap : h.cap ≤ maxLen
  el : ∀ y ∈ ys, ok W y

theorem flat_inv {cells : X → List Value} {sz : Nat} (hl : ∀ y, (cells y).length = sz) (h0 : 0 < sz) : ∀ (ys : List X) (k : Nat) (v : Value), (ys.flatMap cells)[k]? = some v → ∃ y, ys[k / sz]? = some y ∧ (cells y)[k % sz]? = some v
  | [], k, v, h => by simp at h
  | y :: ys, k, v, h => by
    rw [List.flatMap_cons] at h
    by_cases hk : k < sz
    · rw [List.getElem?_append_left (by rw [hl]; exact hk)] at h
      exact ⟨y, by rw [Nat.div_eq_of_lt hk]; rfl, by rw [Nat.mod_eq_of_lt hk]; exact h⟩
    · rw [List.getElem?_append_right (by rw [hl]; omega), hl] at h
      obtain ⟨z, h1, h2⟩ := flat_inv hl h0 ys (k - sz) v h
      have e1 : k / sz = (k - sz) / sz + 1 := by
        have : k = (k - sz) + sz := by omega
        conv => lhs; rw [this]
        rw [Nat.add_div_right _ h0]
      have e2 : k % sz = (k - sz) % sz := by
        have : k = (k - sz) + sz := by omega
        conv => lhs; rw [this]
        rw [Nat.add_mod_right]
      exact ⟨z, by rw [e1, List.getElem?_cons_succ]; exact h1, by rw [e2]; exact h2⟩

theorem rd_slice {t e : TypeId} {sz : Nat} (ht : Tryz.prog.underlying t = some (.slice e)) (hc : Tryz.prog.cellsOf e = sz) (h0 : 0 < sz) {cells : X → List Value} {ok : World → X → Prop} (hl : ∀ y, (cells y).length = sz) (hel : Rdr enc e cells ok) :
    Rdr enc t (fun p : List X × Hd => [.slice p.2.a p.1.length p.2.cap]) (fun W p => RowIs W cells ok p.1 p.2) := by
  intro W fuel cs x hx
  rcases DataW.trod_slice ht hx with ⟨rfl, _⟩ | ⟨a, len, cap, els, rest, q, hq, rfl, _, _, hlc, hcm, hn, hr, _, _⟩
  · exact ⟨([], ⟨none, 0⟩), rfl, .inl rfl, Nat.le_refl _, Nat.zero_le _, by simp⟩
  · rw [hc] at hr
    have each : ∀ j, j < len → ∃ y : X, a.spot = none ∧ Cs (g0 W) 0 a.block (a.off + j * sz) (cells y) ∧ ok W y := by
      intro j hj
      have h1 := hr j hj
      rw [List.getElem?_eq_getElem (by omega)] at h1
      obtain ⟨cs, h2, h3⟩ := Option.bind_eq_some_iff.1 h1
      obtain ⟨y, rfl, k2⟩ := hel W q cs _ h3
      obtain ⟨s1, _, h4⟩ := cs_row h2 h0
      refine ⟨y, ?_, ?_, k2⟩
      · have h1 := hr 0 (by omega)
        rw [List.getElem?_eq_getElem (by omega)] at h1
        obtain ⟨cs, h2, h3⟩ := Option.bind_eq_some_iff.1 h1
        have := (cs_row h2 h0).1
        simpa [Addr.add] using this
      · unfold Addr.add at h4
        split at h4
        · rename_i e
          rw [e]; exact h4
        · exact h4
    by_cases hlen : len = 0
    · subst hlen
      exact ⟨([], ⟨some a, cap⟩), rfl, .inl rfl, Nat.zero_le _, hcm, by simp⟩
    · let y0 : X := (each 0 (by omega)).choose
      let ys : List X := (List.range len).map fun j => if h : j < len then (each j h).choose else y0
      have hys : ys.length = len := by simp [ys]
      have hget : ∀ j y, ys[j]? = some y → Cs (g0 W) 0 a.block (a.off + j * sz) (cells y) ∧ ok W y := by
        intro j y hj
        have hjl : j < len := by rw [← hys]; exact (List.getElem?_eq_some_iff.1 hj).1
        have e : y = (each j hjl).choose := by
          have : ys[j]? = some (each j hjl).choose := by
            simp only [ys, List.getElem?_map, List.getElem?_range hjl, Option.map_some, dif_pos hjl]
          rw [this] at hj
          exact (Option.some.inj hj).symm
        subst e
        exact (each j hjl).choose_spec.2
      obtain ⟨_, hsp, hc0, _⟩ := each 0 (by omega)
      obtain ⟨ab, ao, asp⟩ := a
      dsimp only at hsp
      subst hsp
      refine ⟨(ys, ⟨some ⟨ab, ao, none⟩, cap⟩), by show _ = [Value.slice _ ys.length _]; rw [hys], .inr ⟨ab, ao, rfl, hc0.1, hc0.2.1, fun k v hk => ?_⟩, by rw [hys]; exact hlc, hcm, fun y hy => ?_⟩
      · obtain ⟨y, h1, h2⟩ := flat_inv hl h0 ys k v hk
        have h3 := (hget _ y h1).1.2.2 _ v h2
        have e : ao + k / sz * sz + k % sz = ao + k := by
          have := Nat.div_add_mod k sz
          have e2 := Nat.mul_comm sz (k / sz)
          omega
        rw [← e]
        exact h3
      · obtain ⟨j, hj⟩ := List.getElem?_of_mem hy
        exact (hget j y hj).2

theorem rd_str : Rdr enc 9 (fun s : ByteArray => [.string s]) (fun _ s => s.size ≤ maxLen) := by
  intro W fuel cs x hx
  obtain ⟨s, e, _, hs⟩ := DataW.trod_string Tryz.underlying9 hx
  exact ⟨s, e, hs⟩
theorem rd_int {t : TypeId} (ht : Tryz.prog.underlying t = some (.int .i64)) : Rdr enc t (fun n : Int => [.int .i64 n]) (fun _ _ => True) := by
  intro W fuel cs x hx
  obtain ⟨n, e, _, _⟩ := DataW.trod_int ht hx
  exact ⟨n, e, trivial⟩
theorem rd_bool : Rdr enc 4 (fun b : Bool => [.bool b]) (fun _ _ => True) := by
  intro W fuel cs x hx
  obtain ⟨n, e, _⟩ := DataW.trod_bool Tryz.underlying4 hx
  exact ⟨n, e, trivial⟩
theorem rd_term : Rdr enc 25 (fun p : T × Hd => tc p.1 p.2) (fun W p => TOk (g0 W) p.1 p.2) := by
  intro W fuel cs x hx
  obtain ⟨t, h, e, k⟩ := tok_trod fuel cs x hx
  exact ⟨(t, h), e, k⟩
theorem rd_strs : Rdr enc 37 (fun p : List ByteArray × Hd => [.slice p.2.a p.1.length p.2.cap]) (fun W p => StrsOk (g0 W) 0 p.1 p.2) := by
  intro W fuel cs x hx
  obtain ⟨y, e, k⟩ := rd_slice (sz := 1) Tryz.underlying37 (by kernel_rfl) (by decide) (fun _ => rfl) rd_str W fuel cs x hx
  have ef : y.1.flatMap (fun s : ByteArray => [Value.string s]) = y.1.map sc := flat_one _ _
  refine ⟨y, e, ⟨?_, k.len, k.cap⟩, k.el⟩
  rcases k.row with q | ⟨b, off, q1, q2⟩
  · exact .inl q
  · rw [ef] at q2; exact .inr ⟨b, off, q1, q2⟩
theorem rd_ints : Rdr enc 38 (fun p : List Int × Hd => [.slice p.2.a p.1.length p.2.cap]) (fun W p => IntsOk (g0 W) p.1 p.2) := by
  intro W fuel cs x hx
  obtain ⟨y, e, k⟩ := rd_slice (sz := 1) Tryz.underlying38 (by kernel_rfl) (by decide) (fun _ => rfl) (rd_int Tryz.underlying3) W fuel cs x hx
  have ef : y.1.flatMap (fun s : Int => [Value.int .i64 s]) = y.1.map ic := flat_one _ _
  refine ⟨y, e, ?_, k.len, k.cap⟩
  rcases k.row with q | ⟨b, off, q1, q2⟩
  · exact .inl q
  · rw [ef] at q2; exact .inr ⟨b, off, q1, q2⟩

theorem list8 {α : Type} {l : List α} (h : l.length = 8) : ∃ a b c d e f g i, l = [a, b, c, d, e, f, g, i] := by
  match l, h with
  | [a, b, c, d, e, f, g, i], _ => exact ⟨a, b, c, d, e, f, g, i, rfl⟩

theorem Tryz.cells40 : Tryz.prog.cellsOf 40 = 8 := by kernel_rfl
theorem Tryz.cells4 : Tryz.prog.cellsOf 4 = 1 := by kernel_rfl
theorem Tryz.cells37 : Tryz.prog.cellsOf 37 = 1 := by kernel_rfl
theorem Tryz.cells38 : Tryz.prog.cellsOf 38 = 1 := by kernel_rfl

theorem rd_pr : Rdr enc 40 (fun p : Pr × PH => pc p.1 p.2) (fun W p => POk (g0 W) 0 p.1 p.2) := by
  intro W fuel cs x hx
  obtain ⟨xs, m, rfl, _, hl, hxl, hf⟩ := DataW.trod_struct Tryz.underlying40 hx
  rw [Tryz.cells40] at hl
  obtain ⟨c0, c1, c2, c3, c4, c5, c6, c7, rfl⟩ := list8 hl
  have f0 := hf 0 _ rfl
  have f1 := hf 1 _ rfl
  have f2 := hf 2 _ rfl
  have f3 := hf 3 _ rfl
  have f4 := hf 4 _ rfl
  have f5 := hf 5 _ rfl
  have f6 := hf 6 _ rfl
  have f7 := hf 7 _ rfl
  obtain ⟨x0, x1, x2, x3, x4, x5, x6, x7, rfl⟩ := list8 (show xs.length = 8 from hxl)
  obtain ⟨nm, e0, k0⟩ := rd_str W m _ x0 (by simpa [Tryz.cells9] using f0)
  obtain ⟨ve, e1, _⟩ := rd_int Tryz.underlying3 W m _ x1 (by simpa [Tryz.cells3] using f1)
  obtain ⟨tr, e2, _⟩ := rd_bool W m _ x2 (by simpa [Tryz.cells4] using f2)
  obtain ⟨se, e3, _⟩ := rd_bool W m _ x3 (by simpa [Tryz.cells4] using f3)
  obtain ⟨al, e4, k4⟩ := rd_strs W m _ x4 (by simpa [Tryz.cells37] using f4)
  obtain ⟨ac, e5, k5⟩ := rd_strs W m _ x5 (by simpa [Tryz.cells37] using f5)
  obtain ⟨gr, e6, k6⟩ := rd_ints W m _ x6 (by simpa [Tryz.cells38] using f6)
  obtain ⟨li, e7, _⟩ := rd_int Tryz.underlying3 W m _ x7 (by simpa [Tryz.cells3] using f7)
  simp only [List.cons.injEq, and_true] at e0 e1 e2 e3 e4 e5 e6 e7
  subst e0 e1 e2 e3 e4 e5 e6 e7
  exact ⟨(⟨nm, ve, tr, se, al.1, ac.1, gr.1, li⟩, ⟨al.2, ac.2, gr.2⟩), rfl, k4, k5, k6, k0⟩

theorem rd_prs : Rdr enc 31 (fun p : List (Pr × PH) × Hd => [.slice p.2.a p.1.length p.2.cap]) (fun W p => LPOk (g0 W) p.1 p.2) := by
  intro W fuel cs x hx
  obtain ⟨y, e, k⟩ := rd_slice Tryz.underlying31 Tryz.cells40 (by decide) (fun _ => rfl) rd_pr W fuel cs x hx
  exact ⟨y, e, k.row, k.len, k.cap, k.el⟩

theorem rd_terms : Rdr enc 23 (fun p : List (T × Hd) × Hd => [.slice p.2.a p.1.length p.2.cap]) (fun W p => RowIs W (fun p : T × Hd => tc p.1 p.2) (fun W p => TOk (g0 W) p.1 p.2) p.1 p.2) :=
  rd_slice Tryz.underlying23 Tryz.cells25 (by decide) (fun _ => rfl) rd_term

set_option maxRecDepth 100000 in
/-- A slice that is handed in. -/
theorem open_sl {e : TypeId} {r : Reach} {b0 : Nat} {W : World} {t : TypeId} {v : Value} {d : DataW H} {p : List MemPlace} {cells : X × Hd → List Value} {ok : World → X × Hd → Prop} (ht : Tryz.prog.underlying t = some (.slice e)) (hr : Rdr enc t cells ok) (hv : Value.okWide Tryz.prog W r b0 t v) (h : DataW.Trod enc Tryz.prog W 0 (fun _ => true) true t v d p) :
    ∃ y, [v] = cells y ∧ ok W y := by
  obtain ⟨a0, len, cap, rfl⟩ := okWide_slice ht hv
  obtain ⟨n, hn⟩ := h
  exact hr W n _ _ hn

set_option maxRecDepth 100000 in
theorem open_prs {r : Reach} {b0 : Nat} {W : World} {v : Value} {d : DataW H} {p : List MemPlace} (hv : Value.okWide Tryz.prog W r b0 31 v) (h : DataW.Trod enc Tryz.prog W 0 (fun _ => true) true 31 v d p) :
    ∃ (hs : List (Pr × PH)) (hd : Hd), v = .slice hd.a hs.length hd.cap ∧ LPOk (g0 W) hs hd := by
  obtain ⟨y, e, k⟩ := open_sl Tryz.underlying31 rd_prs hv h
  exact ⟨y.1, y.2, (List.cons.inj e).1, k⟩

set_option maxRecDepth 100000 in
theorem open_num {r : Reach} {b0 : Nat} {W : World} {v : Value} {d : DataW H} {p : List MemPlace} (hv : Value.okWide Tryz.prog W r b0 3 v) (h : DataW.Trod enc Tryz.prog W 0 (fun _ => true) true 3 v d p) :
    ∃ n : Int, v = .int .i64 n := by
  obtain ⟨n, hn⟩ := h
  have e : ∃ n : Int, v = .int .i64 n := by
    obtain ⟨k, rfl, _⟩ := open_int Tryz.underlying3 hv ⟨n, hn⟩
    exact ⟨k, rfl⟩
  exact e
end
end Go.Proofs.YtobhfopgoidniaaGreat
