/- A region that draws its order, in symbolic states. The run of what needs no help. The run of what needs no help: the whole. Calls, tests, returns. Calls, tests, returns: the steps of a proof. A table is held against a program by the kernel. -/
import Derived.Test.YtobhfopgoidniaaGreatEA
set_option linter.all false
set_option linter.unusedVariables false
set_option linter.unusedSimpArgs false

/- A region that draws its order, in symbolic states. -/
namespace Go.Eng
open Go

section
variable {C : Ctx} {g : G} {s : St} {a : Act} {w : World} {m : List Nat}

theorem denK_panic : ∀ (k : List KI) (c : List PanicEntry) (a : Act) (d : Option Tmp) (v : Value) (w : World), denK C k (.panic c) (a.put d v) w → denK C k (.panic c) a w
  | [], c, a, d, v, w, h => by
    have : (a.put d v).defers = a.defers := by cases d <;> rfl
    exact ⟨this ▸ h.1, h.2⟩
  | .code _ :: k, c, a, d, v, w, h => denK_panic k c a d v w h
  | .ops _ _ :: k, c, a, d, v, w, h => denK_panic k c a d v w h
  | .blk _ :: k, c, a, d, v, w, h => denK_panic k c a d v w h
  | .kont _ :: k, c, a, d, v, w, h => denK_panic k c a d v w h
  | .opsD .. :: k, c, a, d, v, w, h => denK_panic k c a d v w h
  | .jmp _ _ :: k, c, a, d, v, w, h => denK_panic k c a d v w h

/-- A block more that nobody knows of, its address in a slot that nobody reads. -/
theorem Sat.garbage (h : Sat C g s a w m) {u : Nat} (hu : lk s.env u = none) (hgl : u ∉ s.gl) (v : Value) (o : Obj) : Sat C g s (a.put (some u) v) { w with heap := w.heap.push o } m := by
  refine ⟨h.pre, h.len, h.dfs, by simp [Act.put, h.tmps], fun t => ?_, h.gl, h.nd, ?_, h.full, h.own0, ?_, h.size0, ?_, ?_, ?_, h.own, h.wf, h.os, h.tape, h.out⟩
  · intro x y hy
    have hne : u ≠ x := fun e => by rw [← e, hu] at hy; cases hy
    have h0 := h.env t x y hy
    cases y with
    | gd z b q =>
      have hz : u ≠ z := fun e => hgl (e ▸ h.gl _ _ _ _ hy)
      dsimp only at h0 ⊢
      rw [put_ne hz, put_ne hne]; exact h0
    | c => dsimp only at h0 ⊢; rw [put_ne hne]; exact h0
    | ag => dsimp only at h0 ⊢; rw [put_ne hne]; exact h0
    | tp => dsimp only at h0 ⊢; rw [put_ne hne]; exact h0
  · intro i b hb
    obtain ⟨k, hk, hw, ho⟩ := h.bxs i b hb
    exact ⟨k, hk, fun t => by dsimp only; rw [push_get w _ k (h.fresh k (List.mem_of_getElem? hk))]; exact hw t, ho⟩
  · have := h.size; simp; omega
  · intro k hk; have := h.fresh k hk; simp; omega
  · intro k hk hn; dsimp only; rw [push_get w _ k (by have := h.size; omega)]; exact h.old k hk hn
  · intro k hk hL; dsimp only; rw [push_get w _ k (by have := h.size; have := h.size0; omega)]; exact h.base k hk hL

theorem SS.push (h : Sat C g s a w m) {fb fl : List Nat} (hs : SS g s.bx m fb fl w) (o : Obj) : SS g s.bx m fb fl { w with heap := w.heap.push o } := by
  refine ⟨fun i hi b hb => ?_, fun k hk hl => ?_⟩
  · obtain ⟨k, hk, hw⟩ := hs.1 i hi b hb
    exact ⟨k, hk, by dsimp only; rw [push_get w _ k (h.fresh k (List.mem_of_getElem? hk))]; exact hw⟩
  · dsimp only; rw [push_get w _ k (by have := h.size; omega)]; exact hs.2 k hk hl

/-- What an alloc does. -/
theorem run_alloc {o : Oper} {ty : Nat} {cs : Array Value} (ho : o.op = .alloc ty) (hz : zeroOf C.P ty = some cs) (w : World) :
    (execOp a.eval o).run C.P w = .ok (.value (.pointer (some ⟨w.heap.size, 0, none⟩))) { w with heap := w.heap.push (.cells cs ty (0, 0)) } := by
  unfold zeroOf at hz
  rw [Option.map_eq_some_iff] at hz
  obtain ⟨z, hz, rfl⟩ := hz
  rw [Option.bind_eq_some_iff] at hz
  obtain ⟨i, hi, hz⟩ := hz
  simp only [execOp, ho, Instr.alloc]
  rw [Sem.run_bind, Sem.run_bind, run_zero hi hz, Result.andThen_ok]
  simp only [Sem.run_bind, run_newVar, Result.andThen_ok, Sem.run_pure]

theorem wpOp_of {all : Array Oper} {i : Nat} {o : Oper} {Q : Exit → Act → World → Prop} {K : Act → World → Prop} (ho : all[i]? = some o) (hw : Region.wanted o (yielded all a.tmps) = true) (h : o.wp C.P a w K Q) : wpOp C.P all Q i K a w := by
  unfold wpOp; rw [ho]; dsimp only; rw [if_pos hw]; exact .inl h

/-- A late alloc comes up. -/
theorem wp_late {all : Array Oper} {j u ty : Nat} {cs : Array Value} {Q : Exit → Act → World → Prop} {K : Act → World → Prop} (ho : ∃ o, all[j]? = some o ∧ o.guard = none ∧ o.op = .alloc ty ∧ o.dst = some u) (hz : zeroOf C.P ty = some cs)
    (h : K (a.put (some u) (.pointer (some ⟨w.heap.size, 0, none⟩))) { w with heap := w.heap.push (.cells cs ty (0, 0)) }) : wpOp C.P all Q j K a w := by
  obtain ⟨o, ho, hg, hop, hd⟩ := ho
  refine wpOp_of ho (by simp [Region.wanted, hg]) ?_
  unfold Oper.wp
  rw [run_alloc hop hz]
  show K (a.put o.dst _) _
  rw [hd]; exact h

theorem contains_mem {l : List Nat} {i : Nat} (h : l.contains i = true) : i ∈ l := by simpa using h
theorem not_contains {l : List Nat} {i : Nat} (h : (!l.contains i) = true) : i ∉ l := by simpa using h

/-- What one may take first: its value, in every world in which what was read reads the same. -/
def Fst (C : Ctx) (all : Array Oper) (g : G) (s : St) (fb fl fb' fl' : List Nat) (o : Oper) (s' : St) : Prop :=
  ∀ a w m, Sat C g s a w m → SS g s.bx m fb fl w → ∃ v, YieldsIf C.P all (SS g s.bx m fb' fl') o v a ∧ Sat C g s' (a.put o.dst v) w m ∧ s'.bx = s.bx ∧ SS g s.bx m fb' fl' w ∧
    (∀ w2, SS g s.bx m fb' fl' w2 → SS g s.bx m fb fl w2)

theorem sgD_fst {all : Array Oper} {i : Nat} {o : Oper} {p : List (Nat × Nat)} {st fb fl fb' fl' : List Nat} {vt : Option (Nat × Nat × Nat)} {k : List KI} {s' : St} (ho : all[i]? = some o) (hf : Fst C all g s fb fl fb' fl' o s')
    (hvt : ∀ j u ty, vt = some (j, u, ty) → lk s'.env u = lk s.env u ∧ (u ∉ s.gl → u ∉ s'.gl) ∧ o.dst ≠ some u)
    (h : Sg C g ⟨.opsD all p st fb' fl' vt :: k, s'⟩) : Sg C g ⟨.opsD all ((i, 0) :: p) st fb fl vt :: k, s⟩ := by
  intro a w m hs
  show den C g _ a w m
  unfold den
  intro hnw
  dsimp only
  cases vt with
  | none =>
    dsimp only
    intro can hok hSS
    simp only [okD, Bool.and_eq_true] at hok
    obtain ⟨⟨⟨⟨⟨⟨⟨hc1, hc2⟩, h1⟩, h2⟩, h3⟩, h4⟩, h5⟩, h6⟩ := hok
    obtain ⟨v, hy, hs', hbx, hSS', hmono⟩ := hf a w m hs hSS
    have hd := h _ w m hs' 
    unfold den at hd
    have hd1 := hd hnw _ h6 (by dsimp only; rw [hbx]; exact hSS')
    dsimp only at hd1
    rw [hbx] at hd1
    have e : cnt ((i, 0) :: p) + st.length = cnt p + st.length + 1 := by show (1 + cnt p) + _ = _; omega
    rw [e]
    exact wpS_take ho (not_contains h1) hnw.2 (closed_of hc1) hnw.1 h4 (contains_mem h2) (fun c a w hp => denK_panic k c a _ _ w hp) hy hmono hSS' hd1
  | some x =>
    obtain ⟨j, u, ty⟩ := x
    dsimp only
    intro hu hgl hun hzz can mn hok hcm hal hjst hmj hSS
    simp only [okD, Bool.and_eq_true] at hok
    obtain ⟨⟨⟨⟨⟨⟨⟨hc1, hc2⟩, h1⟩, h2⟩, h3⟩, h4⟩, h5⟩, h6⟩ := hok
    obtain ⟨e1, e2, e3⟩ := hvt j u ty rfl
    obtain ⟨v, hy, hs', hbx, hSS', hmono⟩ := hf a w m hs hSS
    have hij : i ≠ j := fun e => by
      subst e
      have := (mem_ready.1 (contains_mem h3)).1
      rw [hcm] at this
      rcases Nat.lt_or_ge i mn.size with hlt | hge
      · simp [hlt] at this
      · simp [Array.getElem?_eq_none hge] at hmj
    have hd := h _ w m hs'
    unfold den at hd
    obtain ⟨d1, d2⟩ := hd hnw (by dsimp only; rw [e1]; exact hu) (e2 hgl) hun hzz _ (mn.setIfInBounds i true) h6 (by rw [hcm, Array.setIfInBounds_comm _ _ (Ne.symm hij)]) hal hjst (by rw [getD_set_ne true hij]; exact hmj) (by dsimp only; rw [hbx]; exact hSS')
    dsimp only at d1 d2
    rw [hbx] at d1 d2
    have e : cnt ((i, 0) :: p) + st.length = cnt p + st.length + 1 := by show (1 + cnt p) + _ = _; omega
    rw [e]
    refine ⟨wpS_take ho (not_contains h1) hnw.2 (closed_of hc2) hnw.1 h4 (contains_mem h2) (fun c a w hp => denK_panic k c a _ _ w hp) hy hmono hSS' d1, fun N cs hN h0 hm hoN hz hcell htmp => ?_⟩
    exact wpS_take ho (not_contains h1) hnw.2 (closed_of hc1) hnw.1 h5 (contains_mem h3) (fun c a w hp => denK_panic k c a _ _ w hp) hy hmono hSS' (d2 N cs hN h0 hm hoN hz hcell (by rw [put_tmps e3]; exact htmp))

theorem sgD_chg {all : Array Oper} {i : Nat} {o : Oper} {p : List (Nat × Nat)} {st fb fl : List Nat} {vt : Option (Nat × Nat × Nat)} {k : List KI} {A : List Nat → List Nat → Prop} {Φ : G → St → Prop} (ho : all[i]? = some o) (hw : GuardOn all s o)
    (hc : Chg C A g s o Φ) (hA : A fb fl) (hvt : ∀ j u ty, vt = some (j, u, ty) → o.dst ≠ some u ∧ ∀ g' s', Φ g' s' → lk s'.env u = lk s.env u ∧ (u ∉ s.gl → u ∉ s'.gl))
    (h : ∀ g' s', Φ g' s' → Sg C g' ⟨.opsD all p st fb fl vt :: k, s'⟩) : Sg C g ⟨.opsD all ((i, 1) :: p) st fb fl vt :: k, s⟩ := by
  cases vt with
  | none =>
    intro a w m hs
    show den C g _ a w m
    unfold den
    intro hnw
    dsimp only
    intro can hok hSS
    simp only [okD, Bool.and_eq_true, beq_iff_eq] at hok
    obtain ⟨⟨⟨h1, h2⟩, h3⟩, h6⟩ := hok
    have e : cnt ((i, 1) :: p) + st.length = cnt p + st.length + 1 := by show (1 + cnt p) + _ = _; omega
    rw [e]
    refine wpS_all h3 (by simp) fun x hx => ?_
    obtain rfl : x = i := by simpa using hx
    refine wpOp_of ho (hw a m hs.env0) (hc a w m hs _ _ fun g' s' a' w' m' hφ hs' htr => ?_)
    obtain ⟨hss1, hss2⟩ := htr.ss fb fl hA
    have hSS' := hss2 hSS
    refine ⟨fun _ _ => hss1 _ hSS', wpS_mono hss1 _ _ _ _ ?_⟩
    have hd := h g' s' hφ a' w' m' hs'
    unfold den at hd
    exact hd hnw _ h6 hSS'
  | some x =>
    obtain ⟨j, u, ty⟩ := x
    obtain ⟨hdu, hΦ⟩ := hvt j u ty rfl
    have H2 : ∀ a w m, Sat C g s a w m → Region.noSelect all = true ∧ waitsAll all st = true → lk s.env u = none → u ∉ s.gl → u < C.n → (∃ cs, zeroOf C.P ty = some cs) → ∀ can mn, okD all st ((i, 1) :: p) can mn = true → can = mn.setIfInBounds j true →
        (∃ o, all[j]? = some o ∧ o.guard = none ∧ o.op = .alloc ty ∧ o.dst = some u) → j ∉ st → mn.getD j true = false → SS g s.bx m fb fl w →
        ∀ N cs, N < w.heap.size → C.g0.w.heap.size ≤ N → N ∉ m → (N < g.w.heap.size → g.o N = 1) → zeroOf C.P ty = some cs → w.heap[N]? = some (.cells cs ty (0, 0)) → a.tmps[u]? = some (.pointer (some ⟨N, 0, none⟩)) →
        wpS C.P all (denK C k) st (SS g s.bx m fb fl) (cnt p + st.length + 1) can a w := by
      intro a w m hs hnw hu hgl hun hzz can mn hok hcm hal hjst hmj hSS N cs hN h0 hm hoN hz hcell htmp
      simp only [okD, Bool.and_eq_true, beq_iff_eq] at hok
      obtain ⟨⟨⟨h1, h2⟩, h3⟩, h6⟩ := hok
      have hij : j ≠ i := fun e => by
        subst e
        have : j ∈ Region.ready .any all can := by rw [h3]; simp
        have := (mem_ready.1 this).1
        rw [hcm] at this
        rcases Nat.lt_or_ge j mn.size with hlt | hge
        · simp [hlt] at this
        · simp [Array.getElem?_eq_none hge] at hmj
      refine wpS_all h3 (by simp) fun x hx => ?_
      obtain rfl : x = i := by simpa using hx
      refine wpOp_of ho (hw a m hs.env0) (hc a w m hs _ _ fun g' s' a' w' m' hφ hs' htr => ?_)
      obtain ⟨hss1, hss2⟩ := htr.ss fb fl hA
      have hSS' := hss2 hSS
      obtain ⟨e1, e2⟩ := hΦ g' s' hφ
      obtain ⟨k1, k2, k3⟩ := htr.keepN N hN h0 hm hoN
      refine ⟨fun _ _ => hss1 _ hSS', wpS_mono hss1 _ _ _ _ ?_⟩
      have hd := h g' s' hφ a' w' m' hs'
      unfold den at hd
      obtain ⟨_, d2⟩ := hd hnw (by dsimp only; rw [e1]; exact hu) (e2 hgl) hun hzz _ (mn.setIfInBounds x true) h6 (by rw [hcm, Array.setIfInBounds_comm _ _ hij]) hal hjst (by rw [getD_set_ne true (Ne.symm hij)]; exact hmj) hSS'
      exact d2 N cs (Nat.lt_of_lt_of_le hN htr.size) h0 k3 k2 hz (by rw [k1]; exact hcell) (by rw [htr.tm u hdu]; exact htmp)
    intro a w m hs
    show den C g _ a w m
    unfold den
    intro hnw
    dsimp only
    intro hu hgl hun hzz can mn hok hcm hal hjst hmj hSS
    have e : cnt ((i, 1) :: p) + st.length = cnt p + st.length + 1 := by show (1 + cnt p) + _ = _; omega
    rw [e]
    refine ⟨?_, fun N cs => H2 a w m hs hnw hu hgl hun hzz can mn hok hcm hal hjst hmj hSS N cs⟩
    have hok' := hok
    simp only [okD, Bool.and_eq_true, beq_iff_eq] at hok
    obtain ⟨⟨⟨h1, h2⟩, h3⟩, h6⟩ := hok
    have hij : j ≠ i := fun e => by
      subst e
      have : j ∈ Region.ready .any all can := by rw [h3]; simp
      have := (mem_ready.1 this).1
      rw [hcm] at this
      rcases Nat.lt_or_ge j mn.size with hlt | hge
      · simp [hlt] at this
      · simp [Array.getElem?_eq_none hge] at hmj
    refine wpS_all rfl (fun e => by have := contains_mem h2; rw [e] at this; cases this) fun x hx => ?_
    by_cases hxj : x = j
    · subst hxj
      obtain ⟨cs, hz⟩ := id hzz
      refine wp_late hal hz ⟨fun _ _ => SS.push hs hSS _, ?_⟩
      have hs' := hs.garbage hu hgl (.pointer (some ⟨w.heap.size, 0, none⟩)) (.cells cs ty (0, 0))
      rw [← hcm]
      refine H2 _ _ m hs' hnw hu hgl hun hzz can mn hok' hcm hal hjst hmj (SS.push hs hSS _) w.heap.size cs (by simp) (Nat.le_trans hs.size0 hs.size) (fun hm => absurd (hs.fresh _ hm) (by omega)) (fun hlt => absurd hs.size (by omega)) hz (by simp) (put_get (by rw [hs.tmps]; exact hun))
    · have hxi : x = i := by
        have := ready_mono hx hxj
        rw [← hcm, h3] at this
        simpa using this
      subst hxi
      refine wpOp_of ho (hw a m hs.env0) (hc a w m hs _ _ fun g' s' a' w' m' hφ hs' htr => ?_)
      obtain ⟨hss1, hss2⟩ := htr.ss fb fl hA
      have hSS' := hss2 hSS
      obtain ⟨e1, e2⟩ := hΦ g' s' hφ
      refine ⟨fun _ _ => hss1 _ hSS', wpS_mono hss1 _ _ _ _ ?_⟩
      have hd := h g' s' hφ a' w' m' hs'
      unfold den at hd
      exact (hd hnw (by dsimp only; rw [e1]; exact hu) (e2 hgl) hun hzz _ (mn.setIfInBounds x true) h6 (by rw [hcm, Array.setIfInBounds_comm _ _ hij]) hal hjst (by rw [getD_set_ne true (Ne.symm hij)]; exact hmj) hSS').1

/-- An alloc that may come up whenever it likes. -/
theorem sgD_virt {all : Array Oper} {i u ty : Nat} {o : Oper} {p : List (Nat × Nat)} {st fb fl : List Nat} {k : List KI} (ho : all[i]? = some o) (hop : o.op = .alloc ty) (hg : o.guard = none) (hd : o.dst = some u)
    (hu : lk s.env u = none) (hgl : s.gl.contains u = false) (hn : u < C.n) (hz : ∃ cs, zeroOf C.P ty = some cs)
    (h : Sg C g ⟨.opsD all p st fb fl (some (i, u, ty)) :: k, s⟩) : Sg C g ⟨.opsD all ((i, 2) :: p) st fb fl none :: k, s⟩ := by
  intro a w m hs
  show den C g _ a w m
  unfold den
  intro hnw
  dsimp only
  intro can hok hSS
  simp only [okD, Bool.and_eq_true, beq_iff_eq] at hok
  obtain ⟨⟨⟨⟨h1, _⟩, h3⟩, _⟩, h6⟩ := hok
  have hdn := h a w m hs
  unfold den at hdn
  have e : cnt ((i, 2) :: p) + st.length = cnt p + st.length + 1 := by show (1 + cnt p) + _ = _; omega
  rw [e]
  exact (hdn hnw hu (by simpa using hgl) hn hz _ can h6 rfl ⟨o, ho, hg, hop, hd⟩ (not_contains h1) (mem_ready.1 (contains_mem h3)).1 hSS).1

/-- A block that stands becomes a box. -/
theorem Sat.adopt (h : Sat C g s a w m) {N ty : Nat} {cells : List SC} (hN : N < w.heap.size) (h0 : C.g0.w.heap.size ≤ N) (hm : N ∉ m) (hoN : N < g.w.heap.size → g.o N = 1) (hc : ∀ t, vals (m ++ t) cells = vals m cells)
    (hw : w.heap[N]? = some (.cells (vals m cells) ty (0, 0))) : Sat C g (Eng.newB s ty cells false) a w (m ++ [N]) := by
  have hnew : (m ++ [N])[s.nb]? = some N := by rw [List.getElem?_append_right (by rw [h.len]; exact Nat.le_refl _)]; simp [h.len]
  refine ⟨?_, by simp [h.len, Eng.newB], h.dfs, h.tmps, fun t => ?_, h.gl, ?_, ?_, newB_full h.full, ?_, h.size, h.size0, ?_, ?_, h.base, h.own, h.wf, h.os, h.tape, h.out⟩
  · obtain ⟨t, ht⟩ := h.pre
    exact ⟨t ++ [N], by rw [ht]; simp [Eng.newB]⟩
  · have := h.env ([N] ++ t)
    rwa [← List.append_assoc] at this
  · rw [List.nodup_append]
    refine ⟨h.nd, by simp, fun x hx y hy => ?_⟩
    simp only [List.mem_singleton] at hy
    subst hy
    exact fun e => hm (e ▸ hx)
  · intro i b hb
    simp only [Eng.newB] at hb
    rw [lk_cons] at hb
    split at hb
    · rename_i e
      subst e
      obtain rfl := Option.some.inj hb
      refine ⟨_, hnew, fun t => ?_, hoN⟩
      have := hc ([N] ++ t)
      rw [← List.append_assoc] at this
      rw [hw]; dsimp only; rw [this]
    · obtain ⟨k, hk, hw', ho⟩ := h.bxs i b hb
      refine ⟨k, app_get hk _, fun t => ?_, ho⟩
      have h1 := hw' ([N] ++ t)
      rwa [← List.append_assoc] at h1
  · intro k hk
    rcases List.mem_append.1 hk with hk | hk
    · exact h.own0 k hk
    · simp only [List.mem_singleton] at hk; subst hk; exact h0
  · intro k hk
    rcases List.mem_append.1 hk with hk | hk
    · exact h.fresh k hk
    · simp only [List.mem_singleton] at hk; omega
  · intro k hk hn
    refine h.old k hk fun i b hb hz e => hn i b ?_ hz (app_get e _)
    simp only [Eng.newB]
    rw [lk_cons, if_neg (by have := h.lk_lt hb; omega)]; exact hb

/-- The late alloc has come up. -/
theorem sgD_res {T : Tab} (hT : TabOk C.P T) {all : Array Oper} {i u ty : Nat} {d : TD} {p : List (Nat × Nat)} {st fb fl : List Nat} {k : List KI} (hd : T ty = some d) (hfb : fb.contains s.nb = false) (hlt : decide (u < C.n) = true) (hgl : s.gl.contains u = false)
    (h : Sg C g ⟨.opsD all p st fb fl none :: k, putE (newB s ty (d.zero.map .v) false) (some u) (.c (.bp s.nb 0))⟩) : Sg C g ⟨.opsD all ((i, 3) :: p) st fb fl (some (i, u, ty)) :: k, s⟩ := by
  obtain ⟨inf, ud, hi, hu', hsz, hag, hz, hzl, hone, _⟩ := hT.ok ty d hd
  have hzv : ∀ m : List Nat, vals m (d.zero.map .v) = d.zero.toArray := fun m => vals_map_v' m _
  have hcells : (bif d.agg then Value.agg d.zero.toArray else d.zero.headD undef).cells = d.zero.toArray := by
    cases hag' : d.agg
    · obtain ⟨h1, h2⟩ := hone hag'
      simp only [cond_false]
      rw [h2]
      rw [h1] at hzl
      match hq : d.zero, hzl with
      | [x], _ => rfl
    · rfl
  have hzo : zeroOf C.P ty = some d.zero.toArray := by
    unfold zeroOf
    rw [hi, Option.bind_some, hz, Option.map_some, hcells]
  have H2 : ∀ a w m, Sat C g s a w m → Region.noSelect all = true ∧ waitsAll all st = true → ∀ can mn, okD all st ((i, 3) :: p) can mn = true → SS g s.bx m fb fl w →
      ∀ N cs, N < w.heap.size → C.g0.w.heap.size ≤ N → N ∉ m → (N < g.w.heap.size → g.o N = 1) → zeroOf C.P ty = some cs → w.heap[N]? = some (.cells cs ty (0, 0)) → a.tmps[u]? = some (.pointer (some ⟨N, 0, none⟩)) →
      wpS C.P all (denK C k) st (SS g s.bx m fb fl) (cnt p + st.length) can a w := by
    intro a w m hs hnw can mn hok hSS N cs hN h0 hm hoN hz' hcell htmp
    simp only [okD, Bool.and_eq_true, beq_iff_eq] at hok
    obtain ⟨⟨_, _⟩, h6⟩ := hok
    rw [hzo] at hz'
    obtain rfl := Option.some.inj hz'
    have hA := hs.adopt (cells := d.zero.map .v) (ty := ty) hN h0 hm hoN (fun t => by rw [hzv, hzv]) (by rw [hcell, hzv])
    have hP := hA.put (d := some u) (x := .c (.bp s.nb 0)) (v := .pointer (some ⟨N, 0, none⟩)) (by simp only [okDst, hlt, Eng.newB, hgl]; rfl) rfl (fun t => bp_val m t _ _ hs.len)
    have hself : a.put (some u) (.pointer (some ⟨N, 0, none⟩)) = a := by
      unfold Act.put
      have : a.tmps.setIfInBounds u (.pointer (some ⟨N, 0, none⟩)) = a.tmps := by
        apply Array.ext_getElem?
        intro x
        by_cases hx : u = x
        · subst hx
          rw [htmp, Array.getElem?_setIfInBounds_self_of_lt (Array.getElem?_eq_some_iff.1 htmp).1]
        · rw [Array.getElem?_setIfInBounds_ne hx]
      dsimp only
      rw [this]
    rw [hself] at hP
    have hdn := h a w _ hP
    unfold den at hdn
    have hnb : s.nb ∉ fb := by simpa using hfb
    have hmono : ∀ w2, SS g (putE (newB s ty (d.zero.map .v) false) (some u) (.c (.bp s.nb 0))).bx (m ++ [N]) fb fl w2 → SS g s.bx m fb fl w2 := by
      intro w2 h2
      refine ⟨fun j hj b hb => ?_, h2.2⟩
      obtain ⟨k1, hk1, hw1⟩ := h2.1 j hj b (by show lk ((s.nb, (⟨ty, d.zero.map .v, false⟩ : Bx)) :: s.bx) j = _; rw [lk_cons, if_neg (fun e : s.nb = j => hnb (by rw [e]; exact hj))]; exact hb)
      obtain ⟨k0, hk0, hw0, _⟩ := hs.bxs j b hb
      have e := app_get hk0 [N]
      rw [hk1] at e
      obtain rfl := Option.some.inj e
      have e1 := hw0 [N]
      have e2 := hw0 []
      rw [e1, List.append_nil] at e2
      simp only [Option.some.injEq, Obj.cells.injEq, and_true] at e2
      exact ⟨k1, hk0, by rw [hw1, e2]⟩
    have hSS' : SS g (putE (newB s ty (d.zero.map .v) false) (some u) (.c (.bp s.nb 0))).bx (m ++ [N]) fb fl w := by
      refine ⟨fun j hj b hb => ?_, hSS.2⟩
      have hb' : lk s.bx j = some b := by
        have hb0 : lk ((s.nb, (⟨ty, d.zero.map .v, false⟩ : Bx)) :: s.bx) j = some b := hb
        rw [lk_cons, if_neg (fun e : s.nb = j => hnb (by rw [e]; exact hj))] at hb0; exact hb0
      obtain ⟨k0, hk0, hw0, _⟩ := hs.bxs j b hb'
      exact ⟨k0, app_get hk0 _, hw0 _⟩
    exact wpS_mono hmono _ _ _ _ (hdn hnw can h6 hSS')
  intro a w m hs
  show den C g _ a w m
  unfold den
  intro hnw
  dsimp only
  intro hu hgl' hun hzz can mn hok hcm hal hjst hmj hSS
  have e : cnt ((i, 3) :: p) + st.length = cnt p + st.length := by show (0 + cnt p) + _ = _; omega
  rw [e]
  refine ⟨?_, fun N cs => H2 a w m hs hnw can mn hok hSS N cs⟩
  have hok' := hok
  simp only [okD, Bool.and_eq_true, beq_iff_eq] at hok
  obtain ⟨⟨h3, h4⟩, h6⟩ := hok
  refine wpS_all h3 (by simp) fun x hx => ?_
  obtain rfl : x = i := by simpa using hx
  refine wp_late hal hzo ⟨fun _ _ => SS.push hs hSS _, ?_⟩
  have hs' := hs.garbage hu hgl' (.pointer (some ⟨w.heap.size, 0, none⟩)) (.cells d.zero.toArray ty (0, 0))
  rw [← hcm]
  exact H2 _ _ m hs' hnw can mn hok' (SS.push hs hSS _) w.heap.size _ (by simp) (Nat.le_trans hs.size0 hs.size) (fun hm => absurd (hs.fresh _ hm) (by omega)) (fun hlt => absurd hs.size (by omega)) hzo (by simp) (put_get (by rw [hs.tmps]; exact hun))

/-- The first phase has ended. -/
theorem sgD_end {all : Array Oper} {st fb fl : List Nat} {k : List KI} (hl : (st.map fun i => all[i]?) = (st.filterMap fun i => all[i]?).map some)
    (h : Sg C g ⟨.ops all (st.filterMap fun i => all[i]?) :: k, s⟩) : Sg C g ⟨.opsD all [] st fb fl none :: k, s⟩ := by
  intro a w m hs
  show den C g _ a w m
  unfold den
  intro hnw
  dsimp only
  intro can hok hSS
  simp only [okD, Bool.and_eq_true, beq_iff_eq] at hok
  have hdn : wpList C.P all (denK C k) (st.filterMap fun i => all[i]?) a w := h a w m hs
  have key : ∀ (r : List Nat), (r.map fun i => all[i]?) = (r.filterMap fun i => all[i]?).map some → wpOps C.P all (denK C k) r = wpList C.P all (denK C k) (r.filterMap fun i => all[i]?) := by
    intro r
    induction r with
    | nil => intro _; funext a w; simp [wpOps, wpList]
    | cons i r ih =>
      intro hr
      cases hi : all[i]? with
      | none => rw [List.map_cons, hi, List.filterMap_cons_none hi] at hr; cases hq : r.filterMap fun i => all[i]? <;> rw [hq] at hr <;> simp at hr
      | some o =>
        rw [List.map_cons, hi, List.filterMap_cons_some hi, List.map_cons] at hr
        have hr' := (List.cons.inj hr).2
        funext a w
        rw [List.filterMap_cons_some hi]
        simp only [wpOps, hi, wpList, ih hr']
  have e : cnt [] + st.length = st.length := by show 0 + _ = _; omega
  rw [e]
  exact wpS_chain st can a w (fun i hi => hi) hok.2 (by rw [key st hl]; exact hdn)

/-- The beginning of a region that draws its order. -/
theorem sg_draw {id : Nat} {all : Array Oper} {plan : List (Nat × Nat)} {st : List Nat} {k : List KI} (hm : C.P.follows .mixedOrders = true)
    (hok : (Region.noSelect all && waitsAll all st && okD all st plan (Array.replicate all.size false) (Array.replicate all.size false) && decide (cnt plan + st.length = all.size)) = true)
    (h : Sg C g ⟨.opsD all plan st [] [] none :: k, s⟩) : Sg C g ⟨.code (.region id all true) :: k, s⟩ := by
  simp only [Bool.and_eq_true, decide_eq_true_eq] at hok
  obtain ⟨⟨⟨h1, h2⟩, h3⟩, h4⟩ := hok
  intro a w m hs
  show (Code.region id all true).wp C.P (denK C k) a w
  refine wp_region_any hm ?_
  have hs' : Sat C g s a { w with drawn := w.drawn + 1 } m := ⟨hs.pre, hs.len, hs.dfs, hs.tmps, hs.env, hs.gl, hs.nd, hs.bxs, hs.full, hs.own0, hs.size, hs.size0, hs.fresh, hs.old, hs.base, hs.own, hs.wf, hs.os, hs.tape, hs.out⟩
  have hdn := h a _ m hs'
  unfold den at hdn
  have := hdn ⟨h1, h2⟩ _ h3 ⟨fun i hi => absurd hi (by simp), fun k _ hl => absurd hl (by simp)⟩
  rw [h4] at this
  exact wpS_any _ _ _ _ this
end
end Go.Eng

/- The run of what needs no help. -/
namespace Go.Eng
open Go

/-- One operation that runs. -/
def opx (T : Tab) (n : Nat) (s : St) (o : Oper) : Option St :=
  match o.op with
  | .alloc t => match T t with
    | some d => bif okDst n s o.dst then some (putE (newB s t (d.zero.map .v) false) o.dst (.c (.bp s.nb 0))) else none
    | none => none
  | .box t x => match (evg [] s.env x).bind cellsOf with
    | some l => bif okDst n s o.dst then some (putE (newB s t l false) o.dst (.c (.bp s.nb 0))) else none
    | none => none
  | .store t p x => match evg [] s.env p with
    | some (.c (.bp i off)) => match (evg [] s.env x).bind cellsOf, T t, lk s.bx i with
      | some l, some d, some b => bif !b.fz && decide (l.length = d.size) && decide (off + l.length ≤ b.cells.length) && l.all nag && o.dst.isNone then some (setB s i ⟨b.ty, setAt b.cells off l, b.fz⟩) else none
      | _, _, _ => none
    | _ => none
  | .buildSlice t k ps => match T t with
    | some d => match T d.el with
      | some de => match fillB T s.env de.size (k * de.size) ps.toList (repl k (de.zero.map .v)) with
        | some out => bif decide (d.cl = 1) && decide (de.size ≠ 0) && decide (k * de.size ≤ 16777216) && okDst n s o.dst then some (putE (newB s d.el out true) o.dst (.c (.bs s.nb k k))) else none
        | none => none
      | none => none
    | none => none
  | _ => match pv T [] s.env s.bx o.op with
    | some x => bif okDst n s o.dst && !isGd x then some (putE s o.dst x) else none
    | none => none

/-- What an operation may not meet in a region that draws its order. -/
def opA (s : St) (o : Oper) (fb fl : List Nat) : Prop :=
  match o.op with
  | .store _ p _ => match evg [] s.env p with
    | some (.c (.bp i _)) => i ∉ fb ∧ 1 ∉ fl
    | _ => False
  | _ => s.nb ∉ fb

def opAb (s : St) (o : Oper) (fb fl : List Nat) : Bool :=
  match o.op with
  | .store _ p _ => match evg [] s.env p with
    | some (.c (.bp i _)) => !fb.contains i && !fl.contains 1
    | _ => false
  | _ => !fb.contains s.nb

theorem opAb_ok {s : St} {o : Oper} {fb fl : List Nat} (h : opAb s o fb fl = true) : opA s o fb fl := by
  unfold opAb at h
  unfold opA
  split at h
  · split at h
    · simpa using h
    · cases h
  · simpa using h

section
variable {C : Ctx} {g : G} {s : St} {a : Act} {w : World} {m : List Nat} {T : Tab}

theorem Chg.mono {A A' : List Nat → List Nat → Prop} {o : Oper} {Φ : G → St → Prop} (h : Chg C A g s o Φ) (hA : ∀ fb fl, A' fb fl → A fb fl) : Chg C A' g s o Φ :=
  fun a w m hs K Q hk => h a w m hs K Q fun g' s' a' w' m' hφ hs' htr => hk g' s' a' w' m' hφ hs' ⟨htr.size, htr.keepN, htr.tm, fun fb fl ha => htr.ss fb fl (hA fb fl ha)⟩

theorem opx_ok (hT : TabOk C.P T) {o : Oper} {s' : St} (h : opx T C.n s o = some s') : Chg C (opA s o) g s o fun g1 s1 => g1 = g ∧ s1 = s' := by
  unfold opx at h
  split at h
  case h_1 t ho =>
    split at h
    · rename_i d hd
      cases hc : okDst C.n s o.dst
      · rw [hc] at h; cases h
      · rw [hc] at h
        obtain rfl := Option.some.inj h
        exact (chg_alloc hT ho hd hc).mono fun fb fl ha => by unfold opA at ha; rw [ho] at ha; exact ha
    · cases h
  case h_2 t x ho =>
    split at h
    · rename_i l hl
      rw [Option.bind_eq_some_iff] at hl
      obtain ⟨v, hv, hvl⟩ := hl
      cases hc : okDst C.n s o.dst
      · rw [hc] at h; cases h
      · rw [hc] at h
        obtain rfl := Option.some.inj h
        exact (chg_box ho hv hvl hc).mono fun fb fl ha => by unfold opA at ha; rw [ho] at ha; exact ha
    · cases h
  case h_3 t p x ho =>
    split at h
    · rename_i i off hp
      split at h
      · rename_i l d b hl hd hb
        rw [Option.bind_eq_some_iff] at hl
        obtain ⟨v, hv, hvl⟩ := hl
        cases hc : !b.fz && decide (l.length = d.size) && decide (off + l.length ≤ b.cells.length) && l.all nag && o.dst.isNone
        · rw [hc] at h; cases h
        · rw [hc] at h
          obtain rfl := Option.some.inj h
          simp only [Bool.and_eq_true, Bool.not_eq_true', decide_eq_true_eq, Option.isNone_iff_eq_none] at hc
          obtain ⟨⟨⟨⟨c1, c2⟩, c3⟩, c4⟩, c5⟩ := hc
          exact (chg_store hT ho hp hb c1 hv hvl hd c2 c3 c4 c5).mono fun fb fl ha => by
            unfold opA at ha; rw [ho] at ha; dsimp only at ha; rw [hp] at ha; exact ⟨ha.1, ha.2, rfl⟩
      · cases h
    · cases h
  case h_4 t k ps ho =>
    split at h
    · rename_i d hd
      split at h
      · rename_i de hde
        split at h
        · rename_i out hout
          cases hc : decide (d.cl = 1) && decide (de.size ≠ 0) && decide (k * de.size ≤ 16777216) && okDst C.n s o.dst
          · rw [hc] at h; cases h
          · rw [hc] at h
            obtain rfl := Option.some.inj h
            simp only [Bool.and_eq_true] at hc
            obtain ⟨⟨⟨c1, c2⟩, c3⟩, c4⟩ := hc
            exact (chg_bslice hT ho hd (of_decide_eq_true c1) hde (of_decide_eq_true c2) c3 hout c4).mono fun fb fl ha => by unfold opA at ha; rw [ho] at ha; exact ha
        · cases h
      · cases h
    · cases h
  case h_5 h1 h2 h3 h4 =>
    split at h
    · rename_i x hx
      cases hc : okDst C.n s o.dst && !isGd x
      · rw [hc] at h; cases h
      · rw [hc] at h
        obtain rfl := Option.some.inj h
        simp only [Bool.and_eq_true, Bool.not_eq_true'] at hc
        exact chg_pure hT hx hc.2 hc.1
    · cases h

/-! ### Guards -/

/-- The guards under which an operation under guard (u, want) runs. -/
def gsOf (env : List (Nat × SV)) (u : Nat) (want : Bool) : List (Nat × Bool) :=
  match lk env u with
  | some (.gd u2 w2 _) => [(u, want), (u2, w2)]
  | _ => [(u, want)]

/-- An operation that only computes, under a guard that nobody has decided. -/
def gpure (T : Tab) (n : Nat) (s : St) (u : Nat) (want : Bool) (o : Oper) : Option (St × Option Nat) :=
  match o.dst, (pv T (gsOf s.env u want) s.env s.bx o.op).bind svo with
  | some d, some y => bif okDst n s (some d) && !decide (d = u) && decide (u < n) then some ({ s with env := (d, .gd u want y) :: s.env, gl := bif s.gl.contains u then s.gl else u :: s.gl }, rdb (gsOf s.env u want) s.env o.op) else none
  | _, _ => none

theorem svo_sv1 {x : SV} {y : SC ⊕ List SC} (h : svo x = some y) : x = sv1 y := by
  cases x <;> simp only [svo, Option.some.injEq, reduceCtorEq] at h <;> (subst h; rfl)

theorem wanted_iff {all : Array Oper} {o : Oper} {j u : Nat} {want : Bool} (hg : o.guard = some (j, want)) (hu : (all[j]?).bind (·.dst) = some u) (tmps : Array Value) :
    Region.wanted o (yielded all tmps) = true ↔ tmps[u]? = some (.bool want) := by
  simp only [Region.wanted, hg, yielded, hu, Option.bind_some, beq_iff_eq]
  split
  · rename_i b hb; rw [hb]; simp
  · rename_i hn
    constructor
    · intro h; cases h
    · intro h; exact absurd h (hn _)

theorem gsOk_of (hs : Sat C g s a w m) {u : Nat} {want : Bool} (h : a.tmps[u]? = some (.bool want)) : GsOk (gsOf s.env u want) a.tmps := by
  unfold gsOf
  split
  · rename_i u2 w2 y hl
    have := hs.env0 u _ hl
    dsimp only at this
    intro p hp
    simp only [List.mem_cons, List.not_mem_nil, or_false] at hp
    rcases hp with rfl | rfl
    · exact h
    · rcases this with ⟨e, _⟩ | ⟨_, e⟩
      · exact e
      · rw [h] at e; exact absurd (Option.some.inj e).symm (undef_ne want)
  · intro p hp
    simp only [List.mem_cons, List.not_mem_nil, or_false] at hp
    subst hp; exact h

theorem Sat.putgd (hs : Sat C g s a w m) {d u : Nat} {want : Bool} {y : SC ⊕ List SC} {v : Value} (hd : okDst C.n s (some d) = true) (hne : d ≠ u)
    (hv : (a.tmps[u]? = some (.bool want) ∧ ∀ t, (sv1 y).val (m ++ t) = v) ∨ (a.tmps[u]? ≠ some (.bool want) ∧ v = undef)) :
    Sat C g { s with env := (d, .gd u want y) :: s.env, gl := bif s.gl.contains u then s.gl else u :: s.gl } (a.put (some d) v) w m := by
  simp only [okDst, Bool.and_eq_true, decide_eq_true_eq, Bool.not_eq_true', List.contains_eq_mem, decide_eq_false_iff_not] at hd
  have hgl : ∀ x, x ∈ s.gl → x ∈ (bif s.gl.contains u then s.gl else u :: s.gl) := fun x hx => by cases s.gl.contains u <;> simp [hx]
  have hug : u ∈ (bif s.gl.contains u then s.gl else u :: s.gl) := by
    cases hc : s.gl.contains u
    · simp
    · simp only [cond_true]; simpa using hc
  refine ⟨hs.pre, hs.len, hs.dfs, by simp [Act.put, hs.tmps], fun t => ?_, ?_, hs.nd, hs.bxs, hs.full, hs.own0, hs.size, hs.size0, hs.fresh, hs.old, hs.base, hs.own, hs.wf, hs.os, hs.tape, hs.out⟩
  · intro x z hz
    rw [lk_cons] at hz
    split at hz
    · rename_i e
      subst e
      obtain rfl := Option.some.inj hz
      dsimp only
      rw [put_ne hne, put_get (by rw [hs.tmps]; exact hd.1), sv1_val]
      rcases hv with ⟨h1, h2⟩ | ⟨h1, h2⟩
      · left; exact ⟨h1, by rw [h2 t]⟩
      · right; exact ⟨h1, by rw [h2]⟩
    · rename_i hx
      have h0 := hs.env t x z hz
      cases z with
      | gd u' b q =>
        have hu : d ≠ u' := fun e => hd.2 (e ▸ hs.gl _ _ _ _ hz)
        dsimp only at h0 ⊢
        rw [put_ne hu, put_ne hx]; exact h0
      | c => dsimp only at h0 ⊢; rw [put_ne hx]; exact h0
      | ag => dsimp only at h0 ⊢; rw [put_ne hx]; exact h0
      | tp => dsimp only at h0 ⊢; rw [put_ne hx]; exact h0
  · intro x u' b q hz
    rw [lk_cons] at hz
    split at hz
    · obtain ⟨rfl, _, _⟩ := SV.gd.inj (Option.some.inj hz)
      exact hug
    · exact hgl _ (hs.gl _ _ _ _ hz)

/-- Straight: an operation that only computes, under its guard. -/
theorem sg_gpure (hT : TabOk C.P T) {all : Array Oper} {o : Oper} {j u : Nat} {want : Bool} {r : List Oper} {k : List KI} {x : St × Option Nat} (hg : o.guard = some (j, want)) (hu : (all[j]?).bind (·.dst) = some u)
    (hx : gpure T C.n s u want o = some x) (h : Sg C g ⟨.ops all r :: k, x.1⟩) : Sg C g ⟨.ops all (o :: r) :: k, s⟩ := by
  unfold gpure at hx
  split at hx
  · rename_i d y hd hy
    cases hc : okDst C.n s (some d) && !decide (d = u) && decide (u < C.n)
    · rw [hc] at hx; cases hx
    · rw [hc] at hx
      obtain rfl := Option.some.inj hx
      simp only [Bool.and_eq_true, Bool.not_eq_true', decide_eq_false_iff_not] at hc
      rw [Option.bind_eq_some_iff] at hy
      obtain ⟨v, hv, hvy⟩ := hy
      obtain rfl := svo_sv1 hvy
      intro a w m hs
      show wpList C.P all (denK C k) (o :: r) a w
      unfold wpList
      by_cases hw : Region.wanted o (yielded all a.tmps) = true
      · rw [if_pos hw]
        have ht := (wanted_iff hg hu a.tmps).1 hw
        obtain ⟨hr, hvv⟩ := hs.pv hT (gsOk_of hs ht) hv
        left
        unfold Oper.wp
        rw [hr]
        show wpList C.P all (denK C k) r (a.put o.dst _) w
        rw [hd]
        exact h _ _ m (hs.putgd hc.1.1 hc.1.2 (.inl ⟨ht, hvv⟩))
      · rw [if_neg hw, hd]
        exact h _ _ m (hs.putgd hc.1.1 hc.1.2 (.inr ⟨fun e => hw ((wanted_iff hg hu a.tmps).2 e), rfl⟩))
  · cases hx

/-- Straight: the guard is off. -/
theorem sg_skip {all : Array Oper} {o : Oper} {j u : Nat} {want t : Bool} {r : List Oper} {k : List KI} (hg : o.guard = some (j, want)) (hu : (all[j]?).bind (·.dst) = some u) (ht : resb s.env u = some t) (hne : (t == want) = false)
    (hd : okDst C.n s o.dst = true) (h : Sg C g ⟨.ops all r :: k, putE s o.dst (.c (.v undef))⟩) : Sg C g ⟨.ops all (o :: r) :: k, s⟩ := by
  intro a w m hs
  show wpList C.P all (denK C k) (o :: r) a w
  unfold wpList
  have h0 := resb_ok hs.env0 ht
  rw [if_neg (fun hw => by
    have := (wanted_iff hg hu a.tmps).1 hw
    rw [h0] at this
    simp only [Option.some.injEq, Value.bool.injEq] at this
    rw [this] at hne; simp at hne)]
  exact h _ _ m (hs.put hd rfl fun _ => rfl)

theorem guardOn_some {all : Array Oper} {o : Oper} {j u : Nat} {want t : Bool} (hg : o.guard = some (j, want)) (hu : (all[j]?).bind (·.dst) = some u) (ht : resb s.env u = some t) (he : (t == want) = true) : GuardOn all s o := by
  intro a m hs
  obtain rfl : t = want := by simpa using he
  exact (wanted_iff hg hu a.tmps).2 (resb_ok hs ht)
end
end Go.Eng

/- The run of what needs no help: the whole. -/
namespace Go.Eng
open Go

def stepO (T : Tab) (n : Nat) (all : Array Oper) (s : St) (o : Oper) : Option St :=
  match o.guard with
  | none => opx T n s o
  | some (j, want) => match (all[j]?).bind (·.dst) with
    | some u => match gpure T n s u want o with
      | some x => some x.1
      | none => match resb s.env u with
        | some t => bif t == want then opx T n s o else (bif okDst n s o.dst then some (putE s o.dst (.c (.v undef))) else none)
        | none => none
    | none => none

/-- Taken first: the state, the box that is read. -/
def stepF (T : Tab) (n : Nat) (all : Array Oper) (s : St) (o : Oper) : Option (St × Option Nat) :=
  match o.guard with
  | none => match pv T [] s.env s.bx o.op with
    | some x => bif okDst n s o.dst && !isGd x then some (putE s o.dst x, rdb [] s.env o.op) else none
    | none => none
  | some (j, want) => match (all[j]?).bind (·.dst) with
    | some u => match gpure T n s u want o with
      | some x => some x
      | none => match resb s.env u with
        | some t => bif t == want then none else (bif okDst n s o.dst then some (putE s o.dst (.c (.v undef)), none) else none)
        | none => none
    | none => none

/-- The slot of a late alloc, and those that guard, are left alone. -/
def vtOk (all : Array Oper) (vt : Option (Nat × Nat × Nat)) (o : Oper) : Bool :=
  match vt with
  | none => true
  | some (_, u, _) => o.dst != some u && (match o.guard with | none => true | some (j, _) => (all[j]?).bind (·.dst) != some u)

def gOn (all : Array Oper) (s : St) (o : Oper) : Bool :=
  match o.guard with
  | none => true
  | some (j, want) => match ((all[j]?).bind (·.dst)).bind (resb s.env) with
    | some t => t == want
    | none => false

def addb : Option Nat → List Nat → List Nat
  | some b, fb => b :: fb
  | none, fb => fb

section
variable {C : Ctx} {g : G} {s : St} {a : Act} {w : World} {m : List Nat} {T : Tab}

theorem gOn_ok {all : Array Oper} {o : Oper} (h : gOn all s o = true) : GuardOn all s o := by
  unfold gOn at h
  split at h
  · rename_i hg; exact guardOn_none hg
  · rename_i j want hg
    split at h
    · rename_i t ht
      rw [Option.bind_eq_some_iff] at ht
      obtain ⟨u, hu, ht⟩ := ht
      exact guardOn_some hg hu ht h
    · cases h

theorem sg_stepO (hT : TabOk C.P T) {all : Array Oper} {o : Oper} {s' : St} {r : List Oper} {k : List KI} (h : stepO T C.n all s o = some s') (hk : Sg C g ⟨.ops all r :: k, s'⟩) : Sg C g ⟨.ops all (o :: r) :: k, s⟩ := by
  unfold stepO at h
  split at h
  · rename_i hg
    exact sg_ops (guardOn_none hg) (opx_ok hT h) fun g1 s1 e => by rw [e.1, e.2]; exact hk
  · rename_i j want hg
    split at h
    · rename_i u hu
      split at h
      · rename_i x hx
        obtain rfl := Option.some.inj h
        exact sg_gpure hT hg hu hx hk
      · split at h
        · rename_i t ht
          cases he : t == want
          · rw [he] at h
            cases hd : okDst C.n s o.dst
            · rw [hd] at h; cases h
            · rw [hd] at h
              obtain rfl := Option.some.inj h
              exact sg_skip hg hu ht he hd hk
          · rw [he] at h
            exact sg_ops (guardOn_some hg hu ht he) (opx_ok hT h) fun g1 s1 e => by rw [e.1, e.2]; exact hk
        · cases h
    · cases h

theorem SS_add {fb fl : List Nat} (hs : Sat C g s a w m) (h : SS g s.bx m fb fl w) (b : Option Nat) : SS g s.bx m (addb b fb) fl w := by
  cases b with
  | none => exact h
  | some b =>
    refine ⟨fun i hi b' hb' => ?_, h.2⟩
    rcases List.mem_cons.1 hi with rfl | hi
    · obtain ⟨k, hk, hw⟩ := hs.box [] i b' hb'
      simp only [List.append_nil] at hk hw
      exact ⟨k, hk, hw⟩
    · exact h.1 i hi b' hb'

theorem SS_sub {fb fl : List Nat} {b : Option Nat} {w2 : World} (h : SS g s.bx m (addb b fb) fl w2) : SS g s.bx m fb fl w2 := by
  cases b with
  | none => exact h
  | some b => exact ⟨fun i hi => h.1 i (List.mem_cons_of_mem _ hi), h.2⟩

theorem SS_box {fb fl : List Nat} {i : Nat} {w2 : World} (h : SS g s.bx m (addb (some i) fb) fl w2) : BoxOk s.bx m w2 i := fun b hb => h.1 i (List.mem_cons_self ..) b hb

theorem fst_stepF (hT : TabOk C.P T) {all : Array Oper} {o : Oper} {fb fl : List Nat} {x : St × Option Nat} (h : stepF T C.n all s o = some x) : Fst C all g s fb fl (addb x.2 fb) fl o x.1 := by
  intro a w m hs hSS
  unfold stepF at h
  split at h
  · rename_i hg
    split at h
    · rename_i v hv
      cases hc : okDst C.n s o.dst && !isGd v
      · rw [hc] at h; cases h
      · rw [hc] at h
        obtain rfl := Option.some.inj h
        simp only [Bool.and_eq_true, Bool.not_eq_true'] at hc
        have hgs : GsOk [] a.tmps := fun p hp => absurd hp (by simp)
        obtain ⟨hr, hvv⟩ := hs.pv hT hgs hv
        refine ⟨v.val m, .inl ⟨by simp [Region.wanted, hg], fun w2 h2 => ?_⟩, hs.put hc.1 hc.2 hvv, by cases o.dst <;> rfl, SS_add hs hSS _, fun w2 h2 => SS_sub h2⟩
        refine pv_ok hT hs.env0 hgs hv w2 fun i hi => ?_
        dsimp only at h2
        rw [hi] at h2
        exact SS_box h2
    · cases h
  · rename_i j want hg
    split at h
    · rename_i u hu
      split at h
      · rename_i x' hx
        obtain rfl := Option.some.inj h
        unfold gpure at hx
        split at hx
        · rename_i d y hd hy
          cases hc : okDst C.n s (some d) && !decide (d = u) && decide (u < C.n)
          · rw [hc] at hx; cases hx
          · rw [hc] at hx
            obtain rfl := Option.some.inj hx
            simp only [Bool.and_eq_true, Bool.not_eq_true', decide_eq_false_iff_not] at hc
            rw [Option.bind_eq_some_iff] at hy
            obtain ⟨v, hv, hvy⟩ := hy
            obtain rfl := svo_sv1 hvy
            by_cases hw : Region.wanted o (yielded all a.tmps) = true
            · have ht := (wanted_iff hg hu a.tmps).1 hw
              have hgs := gsOk_of hs ht
              obtain ⟨hr, hvv⟩ := hs.pv hT hgs hv
              refine ⟨(sv1 y).val m, .inl ⟨hw, fun w2 h2 => ?_⟩, ?_, rfl, SS_add hs hSS _, fun w2 h2 => SS_sub h2⟩
              · refine pv_ok hT hs.env0 hgs hv w2 fun i hi => ?_
                dsimp only at h2
                rw [hi] at h2
                exact SS_box h2
              · rw [hd]; exact hs.putgd hc.1.1 hc.1.2 (.inl ⟨ht, hvv⟩)
            · refine ⟨undef, .inr ⟨by simpa using hw, rfl⟩, ?_, rfl, SS_add hs hSS _, fun w2 h2 => SS_sub h2⟩
              rw [hd]; exact hs.putgd hc.1.1 hc.1.2 (.inr ⟨fun e => hw ((wanted_iff hg hu a.tmps).2 e), rfl⟩)
        · cases hx
      · split at h
        · rename_i t ht
          cases he : t == want
          · rw [he] at h
            cases hd : okDst C.n s o.dst
            · rw [hd] at h; cases h
            · rw [hd] at h
              obtain rfl := Option.some.inj h
              have h0 := resb_ok hs.env0 ht
              refine ⟨undef, .inr ⟨?_, rfl⟩, hs.put hd rfl fun _ => rfl, by cases o.dst <;> rfl, hSS, fun w2 h2 => h2⟩
              cases hw : Region.wanted o (yielded all a.tmps)
              · rfl
              · have := (wanted_iff hg hu a.tmps).1 hw
                rw [h0] at this
                simp only [Option.some.injEq, Value.bool.injEq] at this
                rw [this] at he; simp at he
          · rw [he] at h; cases h
        · cases h
    · cases h

theorem putE_lk {d : Option Tmp} {x : SV} {u : Nat} (h : d ≠ some u) : lk (putE s d x).env u = lk s.env u := by
  cases d with
  | none => rfl
  | some d => simp only [putE]; rw [lk_cons, if_neg (fun e => h (by rw [e]))]

theorem putE_gl {d : Option Tmp} {x : SV} : (putE s d x).gl = s.gl := by cases d <;> rfl

theorem stepF_vt {all : Array Oper} {o : Oper} {x : St × Option Nat} {n j u ty : Nat} (h : stepF T n all s o = some x) (hv : vtOk all (some (j, u, ty)) o = true) : lk x.1.env u = lk s.env u ∧ (u ∉ s.gl → u ∉ x.1.gl) ∧ o.dst ≠ some u := by
  unfold vtOk at hv
  simp only [Bool.and_eq_true, bne_iff_ne, ne_eq] at hv
  obtain ⟨hd, hgd⟩ := hv
  refine ⟨?_, ?_, hd⟩
  all_goals
    unfold stepF at h
    split at h
    · split at h
      · rename_i v hv
        cases hc : okDst n s o.dst && !isGd v
        · rw [hc] at h; cases h
        · rw [hc] at h
          obtain rfl := Option.some.inj h
          first | exact putE_lk hd | exact fun hu => by rw [putE_gl]; exact hu
      · cases h
    · rename_i j' want hg
      rw [hg] at hgd
      split at h
      · rename_i u' hu'
        split at h
        · rename_i x' hx
          obtain rfl := Option.some.inj h
          unfold gpure at hx
          split at hx
          · rename_i d y hdd hy
            cases hc : okDst n s (some d) && !decide (d = u') && decide (u' < n)
            · rw [hc] at hx; cases hx
            · rw [hc] at hx
              obtain rfl := Option.some.inj hx
              first
                | (dsimp only; rw [lk_cons, if_neg (fun e => hd (by rw [hdd, e]))]; done)
                | (intro hu hm
                   dsimp only at hm hgd
                   rw [hu'] at hgd
                   simp only [bne_iff_ne, ne_eq, Option.some.injEq] at hgd
                   cases hcc : s.gl.contains u'
                   · rw [hcc] at hm
                     rcases List.mem_cons.1 hm with e | e
                     · exact hgd e.symm
                     · exact hu e
                   · rw [hcc] at hm; exact hu hm)
          · cases hx
        · split at h
          · rename_i t ht
            cases he : t == want
            · rw [he] at h
              cases hd2 : okDst n s o.dst
              · rw [hd2] at h; cases h
              · rw [hd2] at h
                obtain rfl := Option.some.inj h
                first | exact putE_lk hd | exact fun hu => by rw [putE_gl]; exact hu
            · rw [he] at h; cases h
          · cases h
      · cases h

theorem opx_vt {o : Oper} {s' : St} {n u : Nat} (h : opx T n s o = some s') (hd : o.dst ≠ some u) : lk s'.env u = lk s.env u ∧ (u ∉ s.gl → u ∉ s'.gl) := by
  have key : ∀ s1 : St, s1.env = s.env → s1.gl = s.gl → ∀ x, lk (putE s1 o.dst x).env u = lk s.env u ∧ (u ∉ s.gl → u ∉ (putE s1 o.dst x).gl) := fun s1 e1 e2 x => ⟨by rw [putE_lk hd, e1], fun hu => by rw [putE_gl, e2]; exact hu⟩
  unfold opx at h
  split at h
  · split at h
    · rename_i d _
      cases hc : okDst n s o.dst
      · rw [hc] at h; cases h
      · rw [hc] at h; obtain rfl := Option.some.inj h; exact key (newB s _ _ _) rfl rfl _
    · cases h
  · split at h
    · cases hc : okDst n s o.dst
      · rw [hc] at h; cases h
      · rw [hc] at h; obtain rfl := Option.some.inj h; exact key (newB s _ _ _) rfl rfl _
    · cases h
  · split at h
    · split at h
      · rename_i l d b _ _ _
        cases hc : !b.fz && decide (l.length = d.size) && decide (_ + l.length ≤ b.cells.length) && l.all nag && o.dst.isNone
        · rw [hc] at h; cases h
        · rw [hc] at h; obtain rfl := Option.some.inj h; exact ⟨rfl, id⟩
      · cases h
    · cases h
  · rename_i t k ps _
    split at h
    · rename_i d _
      split at h
      · rename_i de _
        split at h
        · rename_i out _
          cases hc : decide (d.cl = 1) && decide (de.size ≠ 0) && decide (k * de.size ≤ 16777216) && okDst n s o.dst
          · rw [hc] at h; cases h
          · rw [hc] at h; obtain rfl := Option.some.inj h; exact key (newB s _ _ _) rfl rfl _
        · cases h
      · cases h
    · cases h
  · split at h
    · rename_i x _
      cases hc : okDst n s o.dst && !isGd x
      · rw [hc] at h; cases h
      · rw [hc] at h; obtain rfl := Option.some.inj h; exact key s rfl rfl _
    · cases h

/-! ### Control -/

def noD : List KI → Bool
  | .opsD .. :: _ => false
  | _ => true

theorem den_noD {k : List KI} (hk : noD k = true) : den C g ⟨k, s⟩ a w m = denK C k .normal a w := by
  unfold den
  split
  · rename_i e
    dsimp only at e
    rw [e] at hk; cases hk
  · rfl

def popTo (id : Nat) : List KI → Option (List KI)
  | [] => none
  | .blk j :: k => bif j == id then some k else popTo id k
  | _ :: k => popTo id k

theorem popTo_ok {id : Nat} : ∀ {k k2 : List KI}, popTo id k = some k2 → denK C k2 .normal a w → denK C k (.exit id) a w
  | [], _, h, _ => by cases h
  | .blk j :: k, k2, h, hd => by
    simp only [popTo] at h
    show Exit.inBlock j (denK C k) (.exit id) a w
    unfold Exit.inBlock
    cases hj : j == id
    · rw [hj] at h
      have hne : id ≠ j := fun e => by rw [e] at hj; simp at hj
      dsimp only
      rw [if_neg hne]
      exact popTo_ok h hd
    · rw [hj] at h
      obtain rfl := Option.some.inj h
      have : j = id := by simpa using hj
      dsimp only
      rw [if_pos this.symm]; exact hd
  | .code _ :: k, k2, h, hd => popTo_ok (k := k) h hd
  | .ops _ _ :: k, k2, h, hd => popTo_ok (k := k) h hd
  | .kont _ :: k, k2, h, hd => popTo_ok (k := k) h hd
  | .opsD .. :: k, k2, h, hd => popTo_ok (k := k) h hd
  | .jmp _ _ :: k, k2, h, hd => popTo_ok (k := k) h hd

/-- As far as it goes by itself. -/
def ex : Nat → Tab → Nat → Cfg → Cfg
  | 0, _, _, c => c
  | f + 1, T, n, c => match c.k with
    | .ops all (o :: r) :: k => match stepO T n all c.s o with
      | some s' => ex f T n ⟨.ops all r :: k, s'⟩
      | none => c
    | .ops _ [] :: k => bif noD k then ex f T n ⟨k, c.s⟩ else c
    | .code (.seq x y) :: k => ex f T n ⟨.code x :: .code y :: k, c.s⟩
    | .code .skip :: k => bif noD k then ex f T n ⟨k, c.s⟩ else c
    | .code (.block id b) :: k => ex f T n ⟨.code b :: .blk id :: k, c.s⟩
    | .code (.region _ ops false) :: k => ex f T n ⟨.ops ops ops.toList :: k, c.s⟩
    | .code (.exit id) :: k => match popTo id k with
      | some k2 => bif noD k2 then ex f T n ⟨k2, c.s⟩ else c
      | none => c
    | .blk _ :: k => bif noD k then ex f T n ⟨k, c.s⟩ else c
    | .opsD all ((i, 0) :: p) st fb fl vt :: k => match all[i]? with
      | some o => match stepF T n all c.s o with
        | some x => bif vtOk all vt o then ex f T n ⟨.opsD all p st (addb x.2 fb) fl vt :: k, x.1⟩ else c
        | none => c
      | none => c
    | .opsD all ((i, 1) :: p) st fb fl vt :: k => match all[i]? with
      | some o => match opx T n c.s o with
        | some s' => bif vtOk all vt o && gOn all c.s o && opAb c.s o fb fl then ex f T n ⟨.opsD all p st fb fl vt :: k, s'⟩ else c
        | none => c
      | none => c
    | .opsD all ((i, 2) :: p) st fb fl none :: k => match all[i]? with
      | some ⟨some u, .alloc ty, _, _, _, none⟩ => match T ty with
        | some _ => bif (lk c.s.env u).isNone && !c.s.gl.contains u && decide (u < n) then ex f T n ⟨.opsD all p st fb fl (some (i, u, ty)) :: k, c.s⟩ else c
        | none => c
      | _ => c
    | .opsD all ((i, 3) :: p) st fb fl (some (j, u, ty)) :: k => match T ty with
      | some d => bif i == j && !fb.contains c.s.nb && decide (u < n) && !c.s.gl.contains u then ex f T n ⟨.opsD all p st fb fl none :: k, putE (newB c.s ty (d.zero.map .v) false) (some u) (.c (.bp c.s.nb 0))⟩ else c
      | none => c
    | .opsD all [] st _ _ none :: k => match (st.mapM fun i => all[i]?) with
      | some l => ex f T n ⟨.ops all l :: k, c.s⟩
      | none => c
    | _ => c

theorem mapM_ok {all : Array Oper} : ∀ {st : List Nat} {l : List Oper}, (st.mapM fun i => all[i]?) = some l → st.filterMap (fun i => all[i]?) = l ∧ st.map (fun i => all[i]?) = l.map some
  | [], l, h => by simp only [List.mapM_nil, Option.pure_def, Option.some.injEq] at h; subst h; exact ⟨rfl, rfl⟩
  | i :: st, l, h => by
    rw [List.mapM_cons] at h
    simp only [Option.bind_eq_bind, Option.bind_eq_some_iff, Option.pure_def, Option.some.injEq] at h
    obtain ⟨o, ho, l', hl', rfl⟩ := h
    obtain ⟨e1, e2⟩ := mapM_ok hl'
    exact ⟨by rw [List.filterMap_cons_some ho, e1], by rw [List.map_cons, e2, ho]; rfl⟩

theorem ex_ok (hT : TabOk C.P T) : ∀ (f : Nat) (c : Cfg), Sg C g (ex f T C.n c) → Sg C g c
  | 0, _, h => h
  | f + 1, ⟨k, s⟩, h => by
    unfold ex at h
    split at h
    · rename_i he
      (try dsimp only at he); subst he
      split at h
      · rename_i s' hs'
        exact sg_stepO hT hs' (ex_ok hT f _ h)
      · exact h
    · rename_i all k' he
      (try dsimp only at he); subst he
      cases hk : noD k'
      · rw [hk] at h; exact h
      · rw [hk] at h
        have := ex_ok hT f _ h
        intro a w m hs
        have h1 := this a w m hs
        rw [den_noD hk] at h1
        exact h1
    · rename_i x y k' he
      (try dsimp only at he); subst he
      have := ex_ok hT f _ h
      exact fun a w m hs => wp_seq (this a w m hs)
    · rename_i k' he
      (try dsimp only at he); subst he
      cases hk : noD k'
      · rw [hk] at h; exact h
      · rw [hk] at h
        have := ex_ok hT f _ h
        intro a w m hs
        have h1 := this a w m hs
        rw [den_noD hk] at h1
        exact wp_skip h1
    · rename_i id b k' he
      (try dsimp only at he); subst he
      have := ex_ok hT f _ h
      exact fun a w m hs => wp_block (this a w m hs)
    · rename_i id ops k' he
      (try dsimp only at he); subst he
      have := ex_ok hT f _ h
      exact fun a w m hs => wp_region_list (this a w m hs)
    · rename_i id k' he
      (try dsimp only at he); subst he
      split at h
      · rename_i k2 hp
        cases hk : noD k2
        · rw [hk] at h; exact h
        · rw [hk] at h
          have := ex_ok hT f _ h
          intro a w m hs
          have h1 := this a w m hs
          rw [den_noD hk] at h1
          exact wp_exit (popTo_ok hp h1)
      · exact h
    · rename_i id k' he
      (try dsimp only at he); subst he
      cases hk : noD k'
      · rw [hk] at h; exact h
      · rw [hk] at h
        have := ex_ok hT f _ h
        intro a w m hs
        have h1 := this a w m hs
        rw [den_noD hk] at h1
        exact h1
    · rename_i all i p st fb fl vt k' he
      (try dsimp only at he); subst he
      split at h
      · rename_i o ho
        split at h
        · rename_i x hx
          cases hv : vtOk all vt o
          · rw [hv] at h; exact h
          · rw [hv] at h
            exact sgD_fst ho (fst_stepF hT hx) (fun j u ty e => by subst e; exact stepF_vt hx hv) (ex_ok hT f _ h)
        · exact h
      · exact h
    · rename_i all i p st fb fl vt k' he
      (try dsimp only at he); subst he
      split at h
      · rename_i o ho
        split at h
        · rename_i s' hs'
          cases hv : vtOk all vt o && gOn all s o && opAb s o fb fl
          · rw [hv] at h; exact h
          · rw [hv] at h
            simp only [Bool.and_eq_true] at hv
            obtain ⟨⟨v1, v2⟩, v3⟩ := hv
            refine sgD_chg ho (gOn_ok v2) (opx_ok hT hs') (opAb_ok v3) (fun j u ty e => ?_) fun g1 s1 e => by rw [e.1, e.2]; exact ex_ok hT f _ h
            subst e
            have hd : o.dst ≠ some u := by
              unfold vtOk at v1
              simp only [Bool.and_eq_true, bne_iff_ne, ne_eq] at v1
              exact v1.1
            exact ⟨hd, fun g1 s1 e => by rw [e.2]; exact opx_vt hs' hd⟩
        · exact h
      · exact h
    · rename_i all i p st fb fl k' he
      (try dsimp only at he); subst he
      split at h
      · rename_i u ty t1 t2 t3 ho
        split at h
        · rename_i d hd
          cases hv : (lk s.env u).isNone && !s.gl.contains u && decide (u < C.n)
          · rw [hv] at h; exact h
          · rw [hv] at h
            simp only [Bool.and_eq_true, Option.isNone_iff_eq_none, Bool.not_eq_true', decide_eq_true_eq] at hv
            obtain ⟨⟨v1, v2⟩, v3⟩ := hv
            obtain ⟨inf, ud, hi, _, _, _, hz, _⟩ := hT.ok ty d hd
            exact sgD_virt ho rfl rfl rfl v1 v2 v3 ⟨_, by unfold zeroOf; rw [hi, Option.bind_some, hz]; rfl⟩ (ex_ok hT f _ h)
        · exact h
      · exact h
    · rename_i all i p st fb fl j u ty k' he
      (try dsimp only at he); subst he
      split at h
      · rename_i d hd
        cases hv : i == j && !fb.contains s.nb && decide (u < C.n) && !s.gl.contains u
        · rw [hv] at h; exact h
        · rw [hv] at h
          simp only [Bool.and_eq_true, Bool.not_eq_true', beq_iff_eq] at hv
          obtain ⟨⟨⟨v1, v2⟩, v3⟩, v4⟩ := hv
          subst v1
          exact sgD_res hT hd v2 v3 v4 (ex_ok hT f _ h)
      · exact h
    · rename_i all st fb fl k' he
      (try dsimp only at he); subst he
      split at h
      · rename_i l hl
        obtain ⟨e1, e2⟩ := mapM_ok hl
        exact sgD_end (by rw [e1, e2]) (by rw [e1]; exact ex_ok hT f _ h)
      · exact h
    · exact h
end
end Go.Eng

/- Calls, tests, returns. -/
namespace Go.Eng
open Go

/-- From g to g': what is not owned by one of L stands as it stood. -/
structure Keeps (L : List Nat) (g g' : G) : Prop where
  size : g.w.heap.size ≤ g'.w.heap.size
  keep : ∀ k, k < g.w.heap.size → g.o k ∉ L → g'.o k = g.o k ∧ g'.w.heap[k]? = g.w.heap[k]?

/-- What a call does that may write the blocks of L alone. -/
structure Step (L : List Nat) (g g' : G) : Prop where
  size : g.w.heap.size ≤ g'.w.heap.size
  own : ∀ k, k < g.w.heap.size → g'.o k = g.o k
  keep : ∀ k, k < g.w.heap.size → g.o k ∉ L → g'.w.heap[k]? = g.w.heap[k]?
  wf : ∀ k, g'.w.heap.size ≤ k → g'.o k = 0
  os : g'.w.os = g.w.os
  tape : g'.w.tape = g.w.tape
  out : g'.w.output = g.w.output

/-- g' comes behind g, in this proof. -/
class Prv (L : outParam (List Nat)) (g : outParam G) (g' : G) : Prop where
  ks : Keeps L g g'
  nz : 0 ∉ L

/-- What nobody writes any more stands in g' as in g. -/
class Later (g g' : G) : Prop where
  size : g.w.heap.size ≤ g'.w.heap.size
  keep : ∀ k, k < g.w.heap.size → g.o k = 0 → g'.o k = 0 ∧ g'.w.heap[k]? = g.w.heap[k]?

instance Later.refl (g : G) : Later g g := ⟨Nat.le_refl _, fun _ _ h => ⟨h, rfl⟩⟩

instance Later.prv {L : List Nat} {a b c : G} [h : Prv L b c] [h' : Later a b] : Later a c :=
  ⟨Nat.le_trans h'.size h.ks.size, fun k hk h0 => by
    obtain ⟨e1, e2⟩ := h'.keep k hk h0
    obtain ⟨e3, e4⟩ := h.ks.keep k (Nat.lt_of_lt_of_le hk h'.size) (by rw [e1]; exact h.nz)
    exact ⟨e3.trans e1, e4.trans e2⟩⟩

def WF (g : G) : Prop := ∀ k, g.w.heap.size ≤ k → g.o k = 0

/-- A function's contract: it returns; only blocks of L are written; then Post. -/
def Ok (P : Program) (f : FuncId) (args : List Value) (g : G) (L : List Nat) (Post : Value → G → Prop) : Prop :=
  WF g → Calls P f args.toArray g.w fun e w' => ∃ v o', e = .returned v ∧ Step L g ⟨w', o'⟩ ∧ Post v ⟨w', o'⟩

theorem Ok.mono {P : Program} {f : FuncId} {args : List Value} {g : G} {L : List Nat} {Post Post' : Value → G → Prop} (h : Ok P f args g L Post) (hp : ∀ v g', Step L g g' → Post v g' → Post' v g') : Ok P f args g L Post' :=
  fun hw => (h hw).mono fun _ _ ⟨v, o', e, st, p⟩ => ⟨v, o', e, st, hp v _ st p⟩

/-- Slots at the beginning. -/
def ent : Nat → List Value → List (Nat × SV)
  | _, [] => []
  | i, v :: r => (i, ofV v) :: ent (i + 1) r

theorem ent_ok (m : List Nat) : ∀ (l : List Value) (i t : Nat) (x : SV), lk (ent i l) t = some x → i ≤ t ∧ ∃ v, l[t - i]? = some v ∧ x = ofV v
  | [], _, _, _, h => by cases h
  | v :: r, i, t, x, h => by
    simp only [ent] at h
    rw [lk_cons] at h
    split at h
    · rename_i e; subst e
      obtain rfl := Option.some.inj h
      exact ⟨Nat.le_refl _, v, by simp, rfl⟩
    · rename_i hne
      obtain ⟨h1, v', h2, h3⟩ := ent_ok m r (i + 1) t x h
      refine ⟨by omega, v', ?_, h3⟩
      have : t - i = (t - (i + 1)) + 1 := by omega
      rw [this]; simpa using h2

theorem isGd_ofV (v : Value) : isGd (ofV v) = false := by cases v <;> rfl

def ResP (L : List Nat) (g : G) (Post : Value → G → Prop) (e : Ending) (w' : World) : Prop := ∃ v o', e = .returned v ∧ Step L g ⟨w', o'⟩ ∧ Post v ⟨w', o'⟩

theorem enter {P : Program} {f : FuncId} {args : List Value} {g : G} {L : List Nat} {Post : Value → G → Prop} {fn : Func} {c : Code} (hf : P.funcs[f]? = some fn) (hb : fn.body = some c) (hn : args.length ≤ fn.ntmps)
    (H : WF g → Sg ⟨P, fn, ResP L g Post, fn.ntmps, g, L⟩ g ⟨[.code c], ⟨ent 0 args, [], [], [], 0⟩⟩) : Ok P f args g L Post := by
  intro hwf
  refine calls_of_wp hf hb ?_
  refine H hwf _ g.w [] ⟨⟨[], rfl⟩, rfl, rfl, (by simp; omega), fun t x y hy => ?_, fun t u b y hy => ?_, List.nodup_nil, (fun i b hb => by cases hb), (fun i hi => by cases hi), (fun k hk => by cases hk), Nat.le_refl _, Nat.le_refl _, (fun k hk => by cases hk), fun _ _ _ => rfl, fun _ _ _ => rfl, fun _ _ => rfl, hwf, rfl, rfl, rfl⟩
  · obtain ⟨h1, v, h2, rfl⟩ := ent_ok [] args 0 x y hy
    have hx : x < args.length := (List.getElem?_eq_some_iff.1 (by simpa using h2)).1
    have hv : (args.toArray ++ Array.replicate (fn.ntmps - args.toArray.size) undef)[x]? = some v := by
      rw [Array.getElem?_append_left (by simpa using hx)]; simpa using h2
    have hval := ofV_val ([] ++ t) v
    cases ho : ofV v <;> rw [ho] at hval <;> first | (have := isGd_ofV v; rw [ho] at this; cases this; done) | (dsimp only; rw [hv, hval])
  · obtain ⟨_, v, _, e⟩ := ent_ok [] args 0 t _ hy
    have := isGd_ofV v
    rw [← e] at this; cases this

section
variable {C : Ctx} {g : G} {s : St} {a : Act} {w : World} {m : List Nat} {T : Tab}

/-! ### What is known of a state's boxes in a world with owners -/

structure Expo (s : St) (m : List Nat) (lab : Nat → Nat) (g1 : G) : Prop where
  len : m.length = s.nb
  pre : ∃ t, m = s.bl ++ t
  box : ∀ i b, lk s.bx i = some b → m.getD i 0 < g1.w.heap.size ∧ g1.w.heap[m.getD i 0]? = some (.cells (vals m b.cells) b.ty (0, 0)) ∧ g1.o (m.getD i 0) = bif b.fz then 0 else lab i
  nd : m.Nodup
  vs : ∀ i b, lk s.bx i = some b → ∀ t, vals (m ++ t) b.cells = vals m b.cells

/-- Who owns what, told anew: the boxes as 'lab' says. -/
def ownOf (g : G) (s : St) (w : World) (m : List Nat) (lab : Nat → Nat) (k : Nat) : Nat :=
  match m.idxOf? k with
  | some i => match lk s.bx i with
    | some b => bif b.fz then 0 else lab i
    | none => 1
  | none => if k < g.w.heap.size then g.o k else if k < w.heap.size then 1 else 0

theorem idxOf_nd (h : m.Nodup) {i k : Nat} (hk : m[i]? = some k) : m.idxOf? k = some i := by
  rw [List.idxOf?_eq_some_iff]
  obtain ⟨h1, e1⟩ := List.getElem?_eq_some_iff.1 hk
  refine ⟨h1, by simpa using e1, fun j hj => ?_⟩
  intro e
  have : m[j]? = some k := by rw [List.getElem?_eq_getElem (by omega)]; simpa using e
  have := nd_inj h this hk
  omega

theorem idxOf_none {k : Nat} (h : k ∉ m) : m.idxOf? k = none := by
  rw [List.idxOf?_eq_none_iff]; exact h

theorem Sat.expo (hs : Sat C g s a w m) (lab : Nat → Nat) : Expo s m lab ⟨w, ownOf g s w m lab⟩ := by
  refine ⟨hs.len, hs.pre, fun i b hb => ?_, hs.nd, fun i b hb t => ?_⟩
  · obtain ⟨k, hk, hw, ho⟩ := hs.bxs i b hb
    rw [getElem?_getD hk]
    have hw0 := hw []
    rw [List.append_nil] at hw0
    refine ⟨hs.fresh k (List.mem_of_getElem? hk), hw0, ?_⟩
    simp only [ownOf, idxOf_nd hs.nd hk, hb]
  · obtain ⟨k, hk, hw, _⟩ := hs.bxs i b hb
    have e1 := hw t
    have e2 := hw []
    rw [e1, List.append_nil] at e2
    simp only [Option.some.injEq, Obj.cells.injEq, and_true] at e2
    exact e2

theorem Sat.keeps (hs : Sat C g s a w m) (lab : Nat → Nat) : Keeps [1] g ⟨w, ownOf g s w m lab⟩ := by
  refine ⟨hs.size, fun k hk hl => ?_⟩
  have h1 : g.o k ≠ 1 := by simpa using hl
  have hnf : ∀ i b, lk s.bx i = some b → b.fz = false → m[i]? ≠ some k := fun i b hb hz e => by
    obtain ⟨k', hk', _, ho⟩ := hs.bxs i b hb
    rw [e] at hk'
    obtain rfl := Option.some.inj hk'
    have := ho hk
    rw [hz] at this
    exact h1 this
  refine ⟨?_, hs.old k hk hnf⟩
  simp only [ownOf]
  split
  · rename_i i hi
    rw [List.idxOf?_eq_some_iff] at hi
    obtain ⟨hlt, e, _⟩ := hi
    have hki : m[i]? = some k := by rw [List.getElem?_eq_getElem hlt]; simpa using e
    split
    · rename_i b hb
      obtain ⟨k', hk', _, ho⟩ := hs.bxs i b hb
      rw [hki] at hk'
      obtain rfl := Option.some.inj hk'
      have h2 := ho hk
      cases hz : b.fz
      · rw [hz] at h2; exact absurd h2 h1
      · rw [hz] at h2; rw [h2]; rfl
    · rename_i hb
      obtain ⟨b, hb'⟩ := hs.full i (by rw [← hs.len]; exact hlt)
      rw [hb] at hb'; cases hb'
  · rw [if_pos hk]
end
end Go.Eng

/- Calls, tests, returns: the steps of a proof. -/
namespace Go.Eng
open Go

def evs (env : List (Nat × SV)) : List Operand → Option (List SV)
  | [] => some []
  | x :: r => match evg [] env x, evs env r with
    | some v, some l => some (v :: l)
    | _, _ => none

def nameAll (s : St) (m : List Nat) : St := { s with bl := m }

section
variable {C : Ctx} {g : G} {s : St} {a : Act} {w : World} {m : List Nat} {T : Tab}

theorem evs_ok (hs : Sat C g s a w m) : ∀ {l : List Operand} {vs : List SV}, evs s.env l = some vs → l.map a.eval = vs.map (SV.val m)
  | [], vs, h => by simp only [evs, Option.some.injEq] at h; subst h; rfl
  | x :: r, vs, h => by
    simp only [evs] at h
    split at h
    · rename_i v l h1 h2
      obtain rfl := Option.some.inj h
      rw [List.map_cons, List.map_cons, evs_ok hs h2, (hs.ev h1).1]
    · cases h

theorem own_wf (hs : Sat C g s a w m) (lab : Nat → Nat) : WF ⟨w, ownOf g s w m lab⟩ := by
  intro k hk
  have hm : k ∉ m := fun h => by have := hs.fresh k h; dsimp only at hk; omega
  have h1 := hs.size
  dsimp only at hk ⊢
  simp only [ownOf, idxOf_none hm]
  rw [if_neg (by omega), if_neg (by omega)]

theorem own_low (hs : Sat C g s a w m) (lab : Nat → Nat) {k : Nat} (hk : k < C.g0.w.heap.size) : ownOf g s w m lab k = C.g0.o k := by
  have hm : k ∉ m := fun h => by have := hs.own0 k h; omega
  simp only [ownOf, idxOf_none hm]
  rw [if_pos (Nat.lt_of_lt_of_le hk hs.size0)]
  exact hs.own k hk

/-- A call by contract. -/
theorem chg_call {o : Oper} {f : FuncId} {args : Array Operand} {tys : Array TypeId} {vs : List SV} (L : List Nat) (ho : o.op = .call ⟨.value (.func f), args, tys⟩) (hv : evs s.env args.toList = some vs)
    (hb : ((C.P.funcs[f]?).map fun fn => fn.body.isSome && fn.name != "runtime.NumGoroutine") = some true) (hL : ∀ l ∈ L, l ∈ C.L ∧ l ≠ 0 ∧ l ≠ 1) (hd : okDst C.n s o.dst = true)
    {Φ : G → St → Prop} (H : ∀ m g1, Prv [1] g g1 → Expo s m (fun _ => 1) g1 → ∃ Post, Ok C.P f (vs.map (SV.val m)) g1 L Post ∧ ∀ v g2, Prv L g1 g2 → Step L g1 g2 → Post v g2 → Φ g2 (putE (nameAll s m) o.dst (ofV v))) :
    Chg C (fun _ fl => ∀ l ∈ fl, l ∉ L ∧ l ≠ 1) g s o Φ := by
  intro a w m hs K Q hk
  have h0L : 0 ∉ L := fun h => (hL 0 h).2.1 rfl
  have h1L : 1 ∉ L := fun h => (hL 1 h).2.2 rfl
  obtain ⟨Post, hok, hΦ⟩ := H m ⟨w, ownOf g s w m fun _ => 1⟩ ⟨hs.keeps _, by simp⟩ (hs.expo _)
  have hc := hok (own_wf hs _)
  have hargs : (vs.map (SV.val m)).toArray = args.map a.eval := by
    rw [← evs_ok hs hv]; apply Array.ext'; simp
  have hr : (execOp a.eval o).run C.P w = .ok (.enter f (args.map a.eval)) w := by
    rw [Option.map_eq_some_iff] at hb
    obtain ⟨fn, hfn, hb⟩ := hb
    simp only [Bool.and_eq_true, bne_iff_ne, ne_eq] at hb
    obtain ⟨bc, hbody⟩ := Option.isSome_iff_exists.1 hb.1
    simp only [execOp, ho, resolve, Act.eval, Deferred.ofValue, Sem.run_bind, Sem.run_pure, Result.andThen_ok, invoke]
    simp [callFunc, hfn, hb.2, hbody]
  unfold Oper.wp
  rw [hr, Oper.upon_enter, ← hargs]
  refine hc.mono fun e w2 he => ?_
  obtain ⟨v, o2, rfl, st, hp⟩ := he
  dsimp only
  have hks : Keeps L ⟨w, ownOf g s w m fun _ => 1⟩ ⟨w2, o2⟩ := ⟨st.size, fun k hk hl => ⟨st.own k hk, st.keep k hk hl⟩⟩
  have hφ := hΦ v ⟨w2, o2⟩ ⟨hks, h0L⟩ st hp
  have hlow : ∀ k, k < g.w.heap.size → ownOf g s w m (fun _ => 1) k = g.o k := by
    intro k hk
    by_cases h1 : g.o k = 1
    · simp only [ownOf]
      split
      · rename_i i hi
        split
        · rename_i b hb'
          rw [List.idxOf?_eq_some_iff] at hi
          obtain ⟨hlt, e, _⟩ := hi
          have hki : m[i]? = some k := by rw [List.getElem?_eq_getElem hlt]; simpa using e
          obtain ⟨k', hk', _, hoo⟩ := hs.bxs i b hb'
          rw [hki] at hk'
          obtain rfl := Option.some.inj hk'
          exact (hoo hk).symm
        · exact h1.symm
      · rw [if_pos hk]
    · exact ((hs.keeps fun _ => 1).keep k hk (by simpa using h1)).1
  have hS : Sat C ⟨w2, o2⟩ (nameAll s m) a w2 m := by
    refine ⟨⟨[], by simp [nameAll]⟩, hs.len, hs.dfs, hs.tmps, hs.env, hs.gl, hs.nd, fun i b (hb' : lk s.bx i = some b) => ?_, hs.full, hs.own0, Nat.le_refl _, Nat.le_trans hs.size0 (Nat.le_trans hs.size st.size), fun k hk => Nat.lt_of_lt_of_le (hs.fresh k hk) st.size, fun _ _ _ => rfl, fun k hk hl => ?_, fun k hk => ?_, st.wf, st.os.trans hs.os, st.tape.trans hs.tape, st.out.trans hs.out⟩
    · obtain ⟨k, hki, hw, _⟩ := hs.bxs i b hb'
      have hlt := hs.fresh k (List.mem_of_getElem? hki)
      have hown : ownOf g s w m (fun _ => 1) k = bif b.fz then 0 else 1 := by simp only [ownOf, idxOf_nd hs.nd hki, hb']
      refine ⟨k, hki, fun t => ?_, fun _ => ?_⟩
      · have := st.keep k hlt (by dsimp only; rw [hown]; cases b.fz <;> simp [h0L, h1L])
        rw [this]; exact hw t
      · have := st.own k hlt
        dsimp only at this ⊢
        rw [this, hown]
    · have e := own_low hs (fun _ => 1) hk
      have := st.keep k (Nat.lt_of_lt_of_le hk (Nat.le_trans hs.size0 hs.size)) (by dsimp only; rw [e]; exact fun h => hl (hL _ h).1)
      rw [this]; exact hs.base k hk hl
    · have := st.own k (Nat.lt_of_lt_of_le hk (Nat.le_trans hs.size0 hs.size))
      dsimp only at this ⊢
      rw [this, own_low hs _ hk]
  refine hk _ _ _ w2 m hφ (hS.put (by cases h : o.dst <;> rw [h] at hd <;> exact hd) (isGd_ofV v) fun t => ofV_val _ v) ⟨st.size, fun N hN h0 hm ho => ?_, fun u hu => put_tmps hu, fun fb fl hA => ⟨fun x h2 => ?_, fun h2 => ?_⟩⟩
  · have hown : ownOf g s w m (fun _ => 1) N = 1 := by
      simp only [ownOf, idxOf_none hm]
      by_cases hNg : N < g.w.heap.size
      · rw [if_pos hNg]; exact ho hNg
      · rw [if_neg hNg, if_pos hN]
    refine ⟨st.keep N hN (by dsimp only; rw [hown]; exact h1L), fun _ => ?_, hm⟩
    have := st.own N hN
    dsimp only at this ⊢
    rw [this, hown]
  · have hbx : (putE (nameAll s m) o.dst (ofV v)).bx = s.bx := by cases o.dst <;> rfl
    rw [hbx] at h2
    refine ⟨h2.1, fun k hk hl => ?_⟩
    obtain ⟨hA1, hA2⟩ := hA _ hl
    have hkw := Nat.lt_of_lt_of_le hk hs.size
    have e1 := st.own k hkw
    dsimp only at e1
    rw [hlow k hk] at e1
    rw [h2.2 k (Nat.lt_of_lt_of_le hkw st.size) (by dsimp only; rw [e1]; exact hl)]
    have e2 := st.keep k hkw (by dsimp only; rw [hlow k hk]; exact hA1)
    dsimp only at e2 ⊢
    rw [e2]
    exact ((hs.keeps fun _ => 1).keep k hk (by simpa using hA2)).2
  · have hbx : (putE (nameAll s m) o.dst (ofV v)).bx = s.bx := by cases o.dst <;> rfl
    rw [hbx]
    refine ⟨fun i hi b hb' => ?_, fun k hk hl => rfl⟩
    obtain ⟨k, hki, hw, _⟩ := hs.bxs i b hb'
    have hlt := hs.fresh k (List.mem_of_getElem? hki)
    have hown : ownOf g s w m (fun _ => 1) k = bif b.fz then 0 else 1 := by simp only [ownOf, idxOf_nd hs.nd hki, hb']
    refine ⟨k, hki, ?_⟩
    have := st.keep k hlt (by dsimp only; rw [hown]; cases b.fz <;> simp [h0L, h1L])
    rw [this]
    have := hw []
    rwa [List.append_nil] at this

theorem sg_call {o : Oper} {f : FuncId} {args : Array Operand} {tys : Array TypeId} {vs : List SV} {all : Array Oper} {r : List Oper} {k : List KI} (L : List Nat) (ho : o.op = .call ⟨.value (.func f), args, tys⟩) (hv : evs s.env args.toList = some vs)
    (hw : gOn all s o = true) (hb : ((C.P.funcs[f]?).map fun fn => fn.body.isSome && fn.name != "runtime.NumGoroutine") = some true) (hL : ∀ l ∈ L, l ∈ C.L ∧ l ≠ 0 ∧ l ≠ 1) (hd : okDst C.n s o.dst = true)
    (H : ∀ m g1, Prv [1] g g1 → Expo s m (fun _ => 1) g1 → ∃ Post, Ok C.P f (vs.map (SV.val m)) g1 L Post ∧ ∀ v g2, Prv L g1 g2 → Step L g1 g2 → Post v g2 → Sg C g2 ⟨.ops all r :: k, putE (nameAll s m) o.dst (ofV v)⟩) :
    Sg C g ⟨.ops all (o :: r) :: k, s⟩ :=
  sg_ops (gOn_ok hw) (chg_call (Φ := fun g2 s2 => Sg C g2 ⟨.ops all r :: k, s2⟩) L ho hv hb hL hd H) fun _ _ h => h

theorem sgD_call {o : Oper} {f : FuncId} {i : Nat} {args : Array Operand} {tys : Array TypeId} {vs : List SV} {all : Array Oper} {p : List (Nat × Nat)} {st fb fl : List Nat} {vt : Option (Nat × Nat × Nat)} {k : List KI} (L : List Nat)
    (hi : all[i]? = some o) (ho : o.op = .call ⟨.value (.func f), args, tys⟩) (hv : evs s.env args.toList = some vs)
    (hw : gOn all s o = true) (hb : ((C.P.funcs[f]?).map fun fn => fn.body.isSome && fn.name != "runtime.NumGoroutine") = some true) (hL : ∀ l ∈ L, l ∈ C.L ∧ l ≠ 0 ∧ l ≠ 1) (hd : okDst C.n s o.dst = true)
    (hfl : ∀ l ∈ fl, l ∉ L ∧ l ≠ 1) (hvt : vtOk all vt o = true)
    (H : ∀ m g1, Prv [1] g g1 → Expo s m (fun _ => 1) g1 → ∃ Post, Ok C.P f (vs.map (SV.val m)) g1 L Post ∧ ∀ v g2, Prv L g1 g2 → Step L g1 g2 → Post v g2 → Sg C g2 ⟨.opsD all p st fb fl vt :: k, putE (nameAll s m) o.dst (ofV v)⟩) :
    Sg C g ⟨.opsD all ((i, 1) :: p) st fb fl vt :: k, s⟩ := by
  refine sgD_chg (Φ := fun g2 s2 => Sg C g2 ⟨.opsD all p st fb fl vt :: k, s2⟩ ∧ ∃ m v, s2 = putE (nameAll s m) o.dst (ofV v)) hi (gOn_ok hw)
    (chg_call L ho hv hb hL hd fun m g1 h1 h2 => ?_) hfl (fun j u ty e => ?_) fun g2 s2 h => h.1
  · obtain ⟨Post, h3, h4⟩ := H m g1 h1 h2
    exact ⟨Post, h3, fun v g2 p1 p2 p3 => ⟨h4 v g2 p1 p2 p3, m, v, rfl⟩⟩
  · subst e
    unfold vtOk at hvt
    simp only [Bool.and_eq_true, bne_iff_ne, ne_eq] at hvt
    refine ⟨hvt.1, fun g2 s2 h => ?_⟩
    obtain ⟨_, m, v, rfl⟩ := h
    exact ⟨putE_lk hvt.1, fun hu => by rw [putE_gl]; exact hu⟩

/-- A test. -/
theorem sg_cond {c : Operand} {x y : Code} {k : List KI} {t : Bool} (hc : evg [] s.env c = some (.c (.v (.bool t)))) (ht : t = true → Sg C g ⟨.code x :: k, s⟩) (hf : t = false → Sg C g ⟨.code y :: k, s⟩) : Sg C g ⟨.code (.cond c x y) :: k, s⟩ :=
  fun a w m hs => wp_cond_split (hs.ev hc).1 (fun e => ht e a w m hs) (fun e => hf e a w m hs)

/-- What a function hands back. -/
def resv (T : Tab) (s : St) : List ResultVar → Option (List SV)
  | [] => some []
  | .tmp t :: r => match evg [] s.env (.tmp t), resv T s r with
    | some v, some l => some (v :: l)
    | _, _ => none
  | .cell b ty :: r => match evg [] s.env (.tmp b), T ty with
    | some (.c (.bp i off)), some d => match (lk s.bx i).bind fun bx => ldc bx.cells off d.agg d.size, resv T s r with
      | some v, some l => some (v :: l)
      | _, _ => none
    | _, _ => none

def retv (m : List Nat) : List SV → Value
  | [v] => v.val m
  | l => .tuple (l.map (SV.val m)).toArray

theorem resv_ok (hT : TabOk C.P T) (hs : Sat C g s a w m) : ∀ {l : List ResultVar} {vs : List SV}, resv T s l = some vs →
    ((l.mapM fun | .tmp t => pure (a.tmps.getD t undef) | .cell b t => do loadVar t (← asAddr (a.tmps.getD b undef)) : Sem (List Value))).run C.P w = .ok (vs.map (SV.val m)) w
  | [], vs, h => by simp only [resv, Option.some.injEq] at h; subst h; rfl
  | .tmp t :: r, vs, h => by
    simp only [resv] at h
    split at h
    · rename_i v l h1 h2
      obtain rfl := Option.some.inj h
      have e : a.tmps.getD t undef = v.val m := (hs.ev h1).1
      rw [List.mapM_cons, Sem.run_bind]
      simp only [Sem.run_pure, Result.andThen_ok, Sem.run_bind, resv_ok hT hs h2, e]
      rfl
    · cases h
  | .cell b ty :: r, vs, h => by
    simp only [resv] at h
    split at h
    · rename_i i off d h1 hd
      split at h
      · rename_i v l h2 h3
        obtain rfl := Option.some.inj h
        rw [Option.bind_eq_some_iff] at h2
        obtain ⟨bx, hb, hl⟩ := h2
        obtain ⟨k, hki, hw, _⟩ := hs.bxs i bx hb
        have hw0 := hw []
        rw [List.append_nil] at hw0
        have e : a.tmps.getD b undef = .pointer (some ⟨k, off, none⟩) := by
          have := (hs.ev h1).1
          simp only [SV.val, SC.val, getElem?_getD hki] at this
          exact this
        have hload := run_load_box hT (m := m) hd hw0 hl
        unfold Instr.loadAt Instr.sureAddr at hload
        simp only [pure_bind] at hload
        rw [List.mapM_cons, Sem.run_bind]
        have ha : asAddr (.pointer (some ⟨k, off, none⟩)) = pure ⟨k, off, none⟩ := rfl
        dsimp only
        rw [e, ha, pure_bind, hload, Result.andThen_ok, Sem.run_bind, resv_ok hT hs h3, Result.andThen_ok, Sem.run_pure]
        rfl
      · cases h
    · cases h

theorem denK_ret : ∀ (k : List KI) (a : Act) (w : World), bodyPost C.P C.fn C.R .ret a w → denK C k .ret a w
  | [], _, _, h => h
  | .code _ :: k, a, w, h => denK_ret k a w h
  | .ops _ _ :: k, a, w, h => denK_ret k a w h
  | .blk _ :: k, a, w, h => denK_ret k a w h
  | .kont _ :: k, a, w, h => denK_ret k a w h
  | .opsD .. :: k, a, w, h => denK_ret k a w h
  | .jmp _ _ :: k, a, w, h => denK_ret k a w h

theorem results_run (hT : TabOk C.P T) (hs : Sat C g s a w m) {vs : List SV} (hr : resv T s C.fn.results.toList = some vs) : (results C.fn a.tmps).run C.P w = .ok (retv m vs) w := by
  have h1 := resv_ok hT hs hr
  have h2 : ((C.fn.results.mapM fun | .tmp t => pure (a.tmps.getD t undef) | .cell b t => do loadVar t (← asAddr (a.tmps.getD b undef)) : Sem (Array Value))).run C.P w = .ok (vs.map (SV.val m)).toArray w := by
    rw [Array.mapM_eq_mapM_toList, Sem.run_map]
    have := h1
    rw [h1]; rfl
  unfold results
  rw [Sem.run_bind]
  refine Eq.trans (congrArg (fun r => Result.andThen r _) h2) ?_
  rw [Result.andThen_ok]
  match vs with
  | [] => rfl
  | [v] => simp [retv]
  | v1 :: v2 :: r => simp [retv]

/-- The end: what is handed back, by whom its boxes are owned from here on. -/
theorem fin {f : Ending → World → Prop} {L : List Nat} {Post : Value → G → Prop} (hR : C.R = ResP L C.g0 Post) (hCL : C.L = L) (hs : Sat C g s a w m) (lab : Nat → Nat) {v : Value} (hp : Post v ⟨w, ownOf g s w m lab⟩) : C.R (.returned v) w := by
  rw [hR]
  exact ⟨v, ownOf g s w m lab, rfl, ⟨Nat.le_trans hs.size0 hs.size, fun k hk => own_low hs lab hk, fun k hk hl => hs.base k hk (by rw [hCL]; exact hl), own_wf hs lab, hs.os, hs.tape, hs.out⟩, hp⟩

theorem sg_ret (hT : TabOk C.P T) {k : List KI} {vs : List SV} {L : List Nat} {Post : Value → G → Prop} (lab : Nat → Nat) (hR : C.R = ResP L C.g0 Post) (hCL : C.L = L) (hr : resv T s C.fn.results.toList = some vs)
    (H : ∀ m gf, Prv [1] g gf → Expo s m lab gf → Post (retv m vs) gf) : Sg C g ⟨.code .ret :: k, s⟩ := by
  intro a w m hs
  refine wp_ret (denK_ret k a w ⟨hs.dfs, _, results_run hT hs hr, ?_⟩)
  exact fin (f := C.R) hR hCL hs lab (H m _ ⟨hs.keeps lab, by simp⟩ (hs.expo lab))

/-- A body that comes to its end. -/
theorem sg_done (hT : TabOk C.P T) {vs : List SV} {L : List Nat} {Post : Value → G → Prop} (lab : Nat → Nat) (hR : C.R = ResP L C.g0 Post) (hCL : C.L = L) (hr : resv T s C.fn.results.toList = some vs)
    (H : ∀ m gf, Prv [1] g gf → Expo s m lab gf → Post (retv m vs) gf) : Sg C g ⟨[], s⟩ := by
  intro a w m hs
  refine ⟨hs.dfs, _, results_run hT hs hr, ?_⟩
  exact fin (f := C.R) hR hCL hs lab (H m _ ⟨hs.keeps lab, by simp⟩ (hs.expo lab))
end
end Go.Eng

/- A table is held against a program by the kernel. -/
namespace Go.Eng
open Go

def chkT (P : Program) (t : Nat) (d : TD) : Bool :=
  match P.info? t, P.underlying t with
  | some i, some u => i.size == d.size && aggD u == d.agg && d.zero.length == d.size && (d.agg || (d.size == 1 && (match d.zero.headD undef with | .agg _ => false | _ => true))) &&
    (match u with
     | .struct fs => (fs.toList.map fun f => (f.offset, f.type)) == d.fs && fs.toList.all (fun f => match P.info? f.type with | some i => i.size != 0 | none => false)
     | _ => d.fs.isEmpty) &&
    (d.cl != 1 || (match u with | .slice e => e == d.el | _ => false)) && (d.cl != 2 || (match u with | .string => true | _ => false))
  | _, _ => false

theorem lk_mem {α : Type} : ∀ {l : List (Nat × α)} {t : Nat} {d : α}, lk l t = some d → (t, d) ∈ l
  | [], _, _, h => by cases h
  | (k, v) :: r, t, d, h => by
    rw [lk_cons] at h
    split at h
    · rename_i e; subst e; obtain rfl := Option.some.inj h; exact List.mem_cons_self ..
    · exact List.mem_cons_of_mem _ (lk_mem h)

theorem tabOk_of {P : Program} {L : List (Nat × TD)} (h : (L.all fun x => chkT P x.1 x.2) = true)
    (hz : (L.map fun x => (P.info? x.1).bind (·.zero)) = L.map fun x => some (bif x.2.agg then Value.agg x.2.zero.toArray else x.2.zero.headD undef)) : TabOk P fun t => lk L t := by
  refine ⟨fun t d hd => ?_⟩
  have hm := lk_mem hd
  have h1 := List.all_eq_true.1 h _ hm
  have h2 := List.map_inj_left.1 hz _ hm
  unfold chkT at h1
  dsimp only at h1 h2
  split at h1
  · rename_i i u hi hu
    simp only [Bool.and_eq_true, beq_iff_eq, Bool.or_eq_true, bne_iff_ne, ne_eq] at h1
    obtain ⟨⟨⟨⟨⟨⟨c1, c2⟩, c3⟩, c4⟩, c5⟩, c6⟩, c7⟩ := h1
    rw [hi] at h2
    refine ⟨i, u, hi, hu, c1, c2, h2, c3, fun hag => ?_, fun fs hfs j o t' hj => ?_, fun hne => ?_, fun hcl => ?_, fun hcl => ?_⟩
    · rcases c4 with c4 | ⟨c4, c4'⟩
      · rw [hag] at c4; cases c4
      · refine ⟨c4, ?_⟩
        cases hq : d.zero.headD undef <;> rw [hq] at c4' <;> first | rfl | cases c4'
    · subst hfs
      simp only [Bool.and_eq_true, beq_iff_eq] at c5
      rw [← c5.1] at hj
      rw [List.getElem?_map, Option.map_eq_some_iff] at hj
      obtain ⟨f, hf, e⟩ := hj
      rw [Array.getElem?_toList] at hf
      obtain ⟨rfl, rfl⟩ := Prod.mk.inj e
      have hmem : f ∈ fs.toList := by have := Array.mem_of_getElem? hf; simpa using this
      have := List.all_eq_true.1 c5.2 f hmem
      refine ⟨f, hf, rfl, rfl, ?_⟩
      split at this
      · rename_i i' hi'; exact ⟨i', hi', by simpa using this⟩
      · cases this
    · cases u <;> first
        | (rename_i fs; simp only [Bool.and_eq_true, beq_iff_eq] at c5; exact ⟨fs, rfl, by rw [← c5.1]; simp⟩)
        | (exact absurd (by simpa using c5) hne)
    · rcases c6 with c6 | c6
      · exact absurd hcl c6
      · cases u <;> first | (simp only [beq_iff_eq] at c6; rw [c6]) | cases c6
    · rcases c7 with c7 | c7
      · exact absurd hcl c7
      · cases u <;> first | rfl | cases c7
  · cases h1
end Go.Eng
