/- A region that draws its order: taken in one order of the prover's choice. Symbolic states. What an operation that only computes leaves. The operations that only compute. One operation: what it turns in a state. A slice's literal; the run of what needs no help. -/
import Derived.OrdersHeld
import Derived.Tactics
import Derived.ScopeJumps
import Derived.Laws.Slices
import Derived.WideLaws
import Derived.Laws.Strings
import Derived.Laws.Cells
set_option linter.all false
set_option linter.unusedVariables false
set_option linter.unusedSimpArgs false

/- A region that draws its order: taken in one order of the prover's choice. -/
namespace Go.Eng
open Go

section
variable {P : Program} {ops : Array Oper} {Q : Exit → Act → World → Prop} {st : List Nat}

/-- Does j wait for i, itself or by others? -/
def waitsT (ops : Array Oper) : Nat → Nat → Nat → Bool
  | 0, _, _ => false
  | f + 1, j, i => match ops[j]? with
    | some o => (o.after.any fun e => Region.binds .any e && e.on == i) || (o.after.any fun e => Region.binds .any e && waitsT ops f e.on i)
    | none => true

/-- The edges lead to operations that there are. -/
def edgesIn (ops : Array Oper) : Bool := (List.range ops.size).all fun j => match ops[j]? with
  | some o => o.after.all fun e => decide (e.on < ops.size)
  | none => true

/-- An operation that looks at no world. -/
def tmpOnly : Option Oper → Bool
  | some o => o.guard.isNone && (match o.op with | .extract .. => true | _ => false)
  | none => false

/-- Has none of these come up? -/
def noSt (st : List Nat) (l : Array Bool) : Bool := st.all fun j => !l.getD j true

/-- Each operation of the second phase (those numbered in 'st') waits for each one that is not of it. -/
def waitsAll (ops : Array Oper) (st : List Nat) : Bool :=
  edgesIn ops && (st.all fun j => decide (j < ops.size)) && (List.range ops.size).all fun i => st.contains i || tmpOnly ops[i]? || st.all fun j => waitsT ops 3 j i

/-- What has come up has behind it all that it waits for. -/
def closedB (ops : Array Oper) (l : Array Bool) : Bool :=
  (List.range ops.size).all fun j => !l.getD j true || match ops[j]? with
    | some o => o.after.all fun e => !Region.binds .any e || l.getD e.on true
    | none => true

def Closed (ops : Array Oper) (l : Array Bool) : Prop := ∀ j o, ops[j]? = some o → l.getD j true = true → ∀ e ∈ o.after, Region.binds .any e = true → l.getD e.on true = true

theorem closed_of {l : Array Bool} (h : closedB ops l = true) : Closed ops l := by
  intro j o hj hl e he hb
  have hlt := (Array.getElem?_eq_some_iff.1 hj).1
  have h1 := List.all_eq_true.1 h j (List.mem_range.2 hlt)
  rw [hl, hj] at h1
  simp only [Bool.not_true, Bool.false_or] at h1
  have h2 := Array.all_eq_true'.1 h1 e he
  rw [hb] at h2
  simpa using h2

theorem getD_set {l : Array Bool} {i k : Nat} : (l.setIfInBounds i true).getD k true = true ↔ k = i ∨ l.getD k true = true := by
  simp only [Array.getD_eq_getD_getElem?]
  by_cases h : i = k
  · subst h
    by_cases hlt : i < l.size
    · simp [hlt]
    · simp [hlt]
  · rw [Array.getElem?_setIfInBounds_ne h]
    constructor
    · intro q; exact .inr q
    · rintro (rfl | q)
      · exact absurd rfl h
      · exact q

theorem closed_set {l : Array Bool} {i : Nat} (h : Closed ops l) (hi : i ∈ Region.ready .any ops l) : Closed ops (l.setIfInBounds i true) := by
  intro j o hj hl e he hb
  rw [getD_set] at hl ⊢
  right
  rcases hl with rfl | hl
  · obtain ⟨_, oi, hoi, hall⟩ := mem_ready.1 hi
    rw [hj] at hoi
    obtain rfl := Option.some.inj hoi
    have h3 := hall e he hb
    rcases Nat.lt_or_ge e.on l.size with h' | h'
    · simpa [h'] using h3
    · simp [Array.getElem?_eq_none h']
  · exact h j o hj hl e he hb

/-- Whatever order; behind each operation of the first phase 'S' holds. -/
def wpS (P : Program) (ops : Array Oper) (Q : Exit → Act → World → Prop) (st : List Nat) (S : World → Prop) : Nat → Array Bool → Act → World → Prop
  | 0, l, a, w => Region.ready .any ops l = [] ∧ Q .normal a w
  | f + 1, l, a, w =>
    (Region.ready .any ops l = [] → Q .normal a w) ∧
    ∀ i ∈ Region.ready .any ops l, wpOp P ops Q i (fun a' w' => (i ∉ st → noSt st l = true → S w') ∧ wpS P ops Q st S f (l.setIfInBounds i true) a' w') a w

theorem wpS_mono {S S' : World → Prop} (h : ∀ w, S' w → S w) : ∀ (f : Nat) (l : Array Bool) (a : Act) (w : World), wpS P ops Q st S' f l a w → wpS P ops Q st S f l a w
  | 0, _, _, _, k => k
  | f + 1, _, _, _, k => ⟨k.1, fun i hi => wpOp_mono (fun a' w' k' => ⟨fun p q => h _ (k'.1 p q), wpS_mono h f _ a' w' k'.2⟩) (k.2 i hi)⟩

theorem wpS_any {S : World → Prop} : ∀ (f : Nat) (l : Array Bool) (a : Act) (w : World), wpS P ops Q st S f l a w → wpAny P .any ops Q f l a w
  | 0, _, _, _, k => k
  | f + 1, _, _, _, k => ⟨k.1, fun i hi => wpOp_mono (fun a' w' k' => wpS_any f _ a' w' k'.2) (k.2 i hi)⟩

theorem ready_lt {i : Nat} {l : Array Bool} (h : i ∈ Region.ready .any ops l) : i < ops.size := by
  unfold Region.ready at h
  rw [List.mem_filter, List.mem_range] at h
  exact h.1

theorem waitsT_ok2 (he : edgesIn ops = true) {l : Array Bool} (hc : Closed ops l) : ∀ (f j i : Nat), waitsT ops f j i = true → (∃ o, ops[j]? = some o ∧ ∀ e ∈ o.after, Region.binds .any e = true → l.getD e.on true = true) → l.getD i true = true
  | 0, _, _, h, _ => by cases h
  | f + 1, j, i, h, ⟨o, ho, hall⟩ => by
    unfold waitsT at h
    rw [ho] at h
    simp only [Bool.or_eq_true] at h
    rcases h with h | h
    · obtain ⟨e, he, hb⟩ := Array.any_eq_true'.1 h
      simp only [Bool.and_eq_true, beq_iff_eq] at hb
      rw [← hb.2]; exact hall e he hb.1
    · obtain ⟨e, hme, hb⟩ := Array.any_eq_true'.1 h
      simp only [Bool.and_eq_true] at hb
      have h1 := hall e hme hb.1
      have hj := (Array.getElem?_eq_some_iff.1 ho).1
      have h2 := List.all_eq_true.1 he j (List.mem_range.2 hj)
      rw [ho] at h2
      have h3 := Array.all_eq_true'.1 h2 e hme
      simp only [decide_eq_true_eq] at h3
      exact waitsT_ok2 he hc f e.on i hb.2 ⟨ops[e.on], Array.getElem?_eq_getElem h3, fun e' he' hb' => hc e.on _ (Array.getElem?_eq_getElem h3) h1 e' he' hb'⟩

/-- While one of the first phase has not come up, none of the second may. -/
theorem not_st (hw : waitsAll ops st = true) {i j : Nat} {l : Array Bool} (hc : Closed ops l) (hi : i < ops.size) (hst : i ∉ st) (htm : tmpOnly ops[i]? = false) (hun : l.getD i true = false) (hj : j ∈ Region.ready .any ops l) : j ∉ st := by
  intro hjs
  obtain ⟨_, oj, hoj, hall⟩ := mem_ready.1 hj
  unfold waitsAll at hw
  rw [Bool.and_eq_true, Bool.and_eq_true, List.all_eq_true (l := List.range ops.size)] at hw
  obtain ⟨⟨hed, _⟩, hw⟩ := hw
  have h1 := hw i (List.mem_range.2 hi)
  simp only [Bool.or_eq_true, List.contains_iff_mem, hst, htm, false_or, Bool.false_eq_true] at h1
  rw [List.all_eq_true] at h1
  have h2 := h1 j hjs
  have := waitsT_ok2 hed hc 3 j i h2 ⟨oj, hoj, fun e he hb => by
    have h3 := hall e he hb
    rcases Nat.lt_or_ge e.on l.size with h' | h'
    · simpa [h'] using h3
    · simp [Array.getElem?_eq_none h']⟩
  rw [hun] at this; cases this

theorem stIn (hw : waitsAll ops st = true) : ∀ j ∈ st, j < ops.size := by
  unfold waitsAll at hw
  rw [Bool.and_eq_true, Bool.and_eq_true] at hw
  intro j hj
  simpa using List.all_eq_true.1 hw.1.2 j hj

theorem noSt_of (hw : waitsAll ops st = true) {i : Nat} {l : Array Bool} (hc : Closed ops l) (hi : i < ops.size) (hst : i ∉ st) (htm : tmpOnly ops[i]? = false) (hun : l.getD i true = false) (hin : ∀ j ∈ st, j < ops.size) : noSt st l = true := by
  unfold noSt
  rw [List.all_eq_true]
  intro j hjs
  cases hl : l.getD j true
  · rfl
  · exfalso
    unfold waitsAll at hw
    rw [Bool.and_eq_true, Bool.and_eq_true, List.all_eq_true (l := List.range ops.size)] at hw
    obtain ⟨⟨hed, _⟩, hw⟩ := hw
    have h1 := hw i (List.mem_range.2 hi)
    simp only [Bool.or_eq_true, List.contains_iff_mem, hst, htm, false_or, Bool.false_eq_true] at h1
    rw [List.all_eq_true] at h1
    have h2 := h1 j hjs
    have := waitsT_ok2 hed hc 3 j i h2 ⟨ops[j]'(hin j hjs), Array.getElem?_eq_getElem _, fun e he hb => hc j _ (Array.getElem?_eq_getElem (hin j hjs)) hl e he hb⟩
    rw [hun] at this; cases this

theorem noSt_set {i : Nat} {l : Array Bool} (h : noSt st (l.setIfInBounds i true) = true) : noSt st l = true := by
  unfold noSt at *
  rw [List.all_eq_true] at *
  intro j hj
  have := h j hj
  cases hl : l.getD j true
  · rfl
  · rw [getD_set.2 (.inr hl)] at this; cases this

theorem noSt_same {i : Nat} {l : Array Bool} (hi : i ∉ st) (h : noSt st l = true) : noSt st (l.setIfInBounds i true) = true := by
  unfold noSt at *
  rw [List.all_eq_true] at *
  intro j hj
  have := h j hj
  cases hl : (l.setIfInBounds i true).getD j true
  · rfl
  · rcases getD_set.1 hl with e | e
    · exact absurd (e ▸ hj) hi
    · rw [e] at this; cases this

/-- What looks at no world yields in every one. -/
theorem tmp_yields {S : World → Prop} {oi : Oper} {v : Value} {a : Act} {w : World} (h : tmpOnly (some oi) = true) (hy : YieldsIf P ops S oi v a) (hS : S w) : YieldsIf P ops (fun _ => True) oi v a := by
  rcases hy with ⟨h1, h2⟩ | h1
  · refine .inl ⟨h1, fun w2 _ => ?_⟩
    have h3 := h2 w hS
    unfold tmpOnly at h
    rw [Bool.and_eq_true] at h
    obtain ⟨_, h⟩ := h
    split at h
    · rename_i t ix ho
      simp only [execOp, ho] at h3 ⊢
      unfold Instr.extract at h3 ⊢
      split at h3
      · split at h3
        · simp only [Sem.run_bind, Sem.run_pure, Result.andThen_ok] at h3 ⊢
          simp only [Result.ok.injEq, and_true] at h3 ⊢
          exact h3
        · cases h3
      · cases h3
    · cases h
  · exact .inr h1

/-- Taken first: what looks at no world. -/
theorem wpS_firstT {S : World → Prop} {i : Nat} {oi : Oper} {v : Value} (hi : ops[i]? = some oi) (hst : i ∉ st)
    (hsel : ∀ (j : Nat) (o : Oper) cs b, ops[j]? = some o → o.op ≠ .select cs b)
    (hQ : ∀ c a w, Q (.panic c) (a.put oi.dst v) w → Q (.panic c) a w) :
    ∀ (f : Nat) (l : Array Bool) (a : Act) (w : World), Closed ops l →
      (∀ j oj, ops[j]? = some oj → j ≠ i → l.getD j true = false → (∀ e ∈ oj.after, Region.binds .any e = true → e.on ≠ i) → oi.apart ops oj = true) →
      i ∈ Region.ready .any ops l → YieldsIf P ops (fun _ => True) oi v a → (noSt st l = true → S w) →
      wpS P ops Q st S f (l.setIfInBounds i true) (a.put oi.dst v) w → wpS P ops Q st S (f + 1) l a w := by
  intro f
  induction f with
  | zero =>
    intro l a w _ _ hr hy hS H
    refine ⟨fun h => (by rw [h] at hr; cases hr), fun j hj => ?_⟩
    by_cases hji : j = i
    · subst hji; exact hy.wpOp hi trivial ⟨fun _ => hS, H⟩
    · have := ready_mono hj hji
      rw [H.1] at this
      cases this
  | succ f ih =>
    intro l a w hcl hfree hr hy hS H
    refine ⟨fun h => (by rw [h] at hr; cases hr), fun j hj => ?_⟩
    by_cases hji : j = i
    · subst hji; exact hy.wpOp hi trivial ⟨fun _ => hS, H⟩
    · have h1 := H.2 j (ready_mono hj hji)
      obtain ⟨hjun, oj, hoj, hall⟩ := mem_ready.1 hj
      have hiun := (mem_ready.1 hr).1
      have hnot : ∀ e ∈ oj.after, Region.binds .any e = true → e.on ≠ i := fun e he hb heq => by
        have h1 := hall e he hb
        rw [heq] at h1
        rcases Nat.lt_or_ge i l.size with h' | h'
        · simp [h'] at hiun h1; rw [hiun] at h1; cases h1
        · simp [Array.getElem?_eq_none h'] at h1
      have h2 := wpOp_putIf hoj (hfree j oj hoj hji hjun hnot) (fun cs b => hsel i oi cs b hi) (fun cs b => hsel j oj cs b hoj) hQ hy h1
      have hfree' : ∀ k ok, ops[k]? = some ok → k ≠ i → (l.setIfInBounds j true).getD k true = false →
          (∀ e ∈ ok.after, Region.binds .any e = true → e.on ≠ i) → oi.apart ops ok = true := fun k ok hk hki hun hno => by
        refine hfree k ok hk hki ?_ hno
        by_cases hjk : j = k
        · subst hjk; exact hjun
        · rw [getD_set_ne true hjk] at hun; exact hun
      refine wpOp_mono (fun a' w' h3 => ?_) h2
      obtain ⟨hy', hS', hr'⟩ := h3
      refine ⟨fun p q => hS' p (noSt_same hst q), ih (l.setIfInBounds j true) a' w' (closed_set hcl hj) hfree' (ready_mono hr (Ne.symm hji)) hy' (fun q => ?_) (by rw [Array.setIfInBounds_comm _ _ hji]; exact hr')⟩
      have q1 := noSt_set q
      have hjn : j ∉ st := fun hm => by
        unfold noSt at q
        have := List.all_eq_true.1 q j hm
        have h5 : (l.setIfInBounds j true).getD j true = true := getD_set.2 (.inl rfl)
        rw [h5] at this; cases this
      exact hS' hjn (noSt_same hst q1)

/-- Taken first: what yields its value in every world that meets S. -/
theorem wpS_first {S : World → Prop} {i : Nat} {oi : Oper} {v : Value} (hi : ops[i]? = some oi) (hst : i ∉ st) (htm : tmpOnly ops[i]? = false) (hin : ∀ j ∈ st, j < ops.size) (hw2 : waitsAll ops st = true)
    (hsel : ∀ (j : Nat) (o : Oper) cs b, ops[j]? = some o → o.op ≠ .select cs b)
    (hQ : ∀ c a w, Q (.panic c) (a.put oi.dst v) w → Q (.panic c) a w) :
    ∀ (f : Nat) (l : Array Bool) (a : Act) (w : World), Closed ops l →
      (∀ j oj, ops[j]? = some oj → j ≠ i → l.getD j true = false → (∀ e ∈ oj.after, Region.binds .any e = true → e.on ≠ i) → oi.apart ops oj = true) →
      i ∈ Region.ready .any ops l → YieldsIf P ops S oi v a → S w →
      wpS P ops Q st S f (l.setIfInBounds i true) (a.put oi.dst v) w → wpS P ops Q st S (f + 1) l a w := by
  intro f
  induction f with
  | zero =>
    intro l a w _ _ hr hy hS H
    refine ⟨fun h => (by rw [h] at hr; cases hr), fun j hj => ?_⟩
    by_cases hji : j = i
    · subst hji; exact hy.wpOp hi hS ⟨fun _ _ => hS, H⟩
    · have := ready_mono hj hji
      rw [H.1] at this
      cases this
  | succ f ih =>
    intro l a w hcl hfree hr hy hS H
    refine ⟨fun h => (by rw [h] at hr; cases hr), fun j hj => ?_⟩
    by_cases hji : j = i
    · subst hji; exact hy.wpOp hi hS ⟨fun _ _ => hS, H⟩
    · have h1 := H.2 j (ready_mono hj hji)
      obtain ⟨hjun, oj, hoj, hall⟩ := mem_ready.1 hj
      have hiun := (mem_ready.1 hr).1
      have hjs := not_st hw2 hcl (ready_lt hr) hst htm hiun hj
      have hns := noSt_of hw2 hcl (ready_lt hr) hst htm hiun hin
      have hnot : ∀ e ∈ oj.after, Region.binds .any e = true → e.on ≠ i := fun e he hb heq => by
        have h1 := hall e he hb
        rw [heq] at h1
        rcases Nat.lt_or_ge i l.size with h' | h'
        · simp [h'] at hiun h1; rw [hiun] at h1; cases h1
        · simp [Array.getElem?_eq_none h'] at h1
      have h2 := wpOp_putIf hoj (hfree j oj hoj hji hjun hnot) (fun cs b => hsel i oi cs b hi) (fun cs b => hsel j oj cs b hoj) hQ hy h1
      have hfree' : ∀ k ok, ops[k]? = some ok → k ≠ i → (l.setIfInBounds j true).getD k true = false →
          (∀ e ∈ ok.after, Region.binds .any e = true → e.on ≠ i) → oi.apart ops ok = true := fun k ok hk hki hun hno => by
        refine hfree k ok hk hki ?_ hno
        by_cases hjk : j = k
        · subst hjk; exact hjun
        · rw [getD_set_ne true hjk] at hun; exact hun
      refine wpOp_mono (fun a' w' h3 => ?_) h2
      obtain ⟨hy', hS', hr'⟩ := h3
      exact ⟨fun _ _ => hS' hjs (noSt_same hst hns), ih (l.setIfInBounds j true) a' w' (closed_set hcl hj) hfree' (ready_mono hr (Ne.symm hji)) hy' (hS' hjs (noSt_same hst hns)) (by rw [Array.setIfInBounds_comm _ _ hji]; exact hr')⟩

theorem wpS_take {S S' : World → Prop} {i : Nat} {oi : Oper} {v : Value} {f : Nat} {l : Array Bool} {a : Act} {w : World} (hi : ops[i]? = some oi) (hst : i ∉ st)
    (hw2 : waitsAll ops st = true) (hcl : Closed ops l) (hs : Region.noSelect ops = true) (hf : Region.free .any ops l i = true) (hr : i ∈ Region.ready .any ops l)
    (hQ : ∀ c a w, Q (.panic c) (a.put oi.dst v) w → Q (.panic c) a w) (hy : YieldsIf P ops S' oi v a) (hSS : ∀ w, S' w → S w) (hS : S' w)
    (h : wpS P ops Q st S' f (l.setIfInBounds i true) (a.put oi.dst v) w) : wpS P ops Q st S (f + 1) l a w :=
  wpS_mono hSS _ _ _ _ (by
    cases htm : tmpOnly ops[i]? with
    | false => exact wpS_first hi hst htm (stIn hw2) hw2 (Region.noSelect_spec hs) hQ f l a w hcl (Region.free_spec hi hf) hr hy hS h
    | true => exact wpS_firstT hi hst (Region.noSelect_spec hs) hQ f l a w hcl (Region.free_spec hi hf) hr (tmp_yields (by rw [← hi]; exact htm) hy hS) (fun _ => hS) h)

theorem wpS_all {S : World → Prop} {rs : List Nat} {f : Nat} {l : Array Bool} {a : Act} {w : World} (hr : Region.ready .any ops l = rs) (hne : rs ≠ [])
    (h : ∀ i ∈ rs, wpOp P ops Q i (fun a' w' => (i ∉ st → noSt st l = true → S w') ∧ wpS P ops Q st S f (l.setIfInBounds i true) a' w') a w) : wpS P ops Q st S (f + 1) l a w :=
  ⟨fun h0 => absurd (hr ▸ h0) hne, hr ▸ h⟩

/-- The second phase, in its one order. -/
def chain (ops : Array Oper) : List Nat → Array Bool → Bool
  | [], l => Region.ready .any ops l == []
  | i :: r, l => Region.ready .any ops l == [i] && chain ops r (l.setIfInBounds i true)

theorem wpS_chain {S : World → Prop} : ∀ (r : List Nat) (l : Array Bool) (a : Act) (w : World), (∀ i ∈ r, i ∈ st) → chain ops r l = true → wpOps P ops Q r a w → wpS P ops Q st S r.length l a w
  | [], l, a, w, _, hc, h => ⟨by simpa [chain] using hc, h⟩
  | i :: r, l, a, w, hm, hc, h => by
    simp only [chain, Bool.and_eq_true, beq_iff_eq] at hc
    rw [wpOps_cons] at h
    refine wpS_all hc.1 (by simp) fun j hj => ?_
    have : j = i := by simpa using hj
    subst this
    exact wpOp_mono (fun a' w' h' => ⟨fun hn _ => absurd (hm j (by simp)) hn, wpS_chain r _ a' w' (fun k hk => hm k (by simp [hk])) hc.2 h'⟩) h
end
end Go.Eng

/- Symbolic states. -/
namespace Go.Eng
open Go

/-- What a closure holds: the address of a variable of this call's own, or any value. -/
inductive Cap where
  | b (i off : Nat)
  | v (x : Value)

/-- The content of one cell: any value; the address of a cell of box number i; a slice over box number i; a closure. -/
inductive SC where
  | v (x : Value)
  | bp (i off : Nat)
  | bs (i len cap : Nat)
  | fn (f : Fn) (first caps : List Cap)

inductive SV where
  | c (x : SC)
  | ag (l : List SC)
  | tp (l : List (SC ⊕ List SC))
  | gd (s : Nat) (want : Bool) (x : SC ⊕ List SC)

def Cap.val (m : List Nat) : Cap → Value
  | .b i off => .pointer (some ⟨m.getD i 0, off, none⟩)
  | .v x => x

def SC.val (m : List Nat) : SC → Value
  | .v x => x
  | .bp i off => .pointer (some ⟨m.getD i 0, off, none⟩)
  | .bs i len cap => .slice (some ⟨m.getD i 0, 0, none⟩) len cap
  | .fn f first caps => .func f (first.map (Cap.val m)).toArray (caps.map (Cap.val m)).toArray

def vals (m : List Nat) (l : List SC) : Array Value := (l.map (SC.val m)).toArray

def SV.val (m : List Nat) : SV → Value
  | .c x => x.val m
  | .ag l => .agg (vals m l)
  | .tp l => .tuple (l.map fun | .inl x => x.val m | .inr l => .agg (vals m l)).toArray
  | .gd _ _ x => match x with | .inl x => x.val m | .inr l => .agg (vals m l)

/-- A value as a symbolic one. -/
def ofV : Value → SV
  | .agg cs => .ag (cs.toList.map .v)
  | .tuple vs => .tp (vs.toList.map fun | .agg cs => .inr (cs.toList.map .v) | x => .inl (.v x))
  | x => .c (.v x)

theorem vals_map_v (m : List Nat) (cs : Array Value) : vals m (cs.toList.map .v) = cs := by
  unfold vals
  rw [List.map_map]
  have : (SC.val m ∘ SC.v) = id := funext fun _ => rfl
  rw [this]; simp

theorem ofV_val (m : List Nat) (v : Value) : (ofV v).val m = v := by
  cases v <;> try rfl
  case agg cs => simp only [ofV, SV.val, vals_map_v]
  case tuple vs =>
    simp only [ofV, SV.val, List.map_map]
    congr 1
    have : ∀ l : List Value, (l.map ((fun (x : SC ⊕ List SC) => match x with | .inl x => x.val m | .inr l => .agg (vals m l)) ∘ (fun | .agg cs => .inr (cs.toList.map .v) | x => .inl (.v x)))) = l := by
      intro l
      induction l with
      | nil => rfl
      | cons a l ih =>
        simp only [List.map_cons, ih, List.cons.injEq, and_true]
        cases a <;> first | rfl | simp only [Function.comp, vals_map_v]
    rw [this]

structure Bx where
  ty : Nat
  cells : List SC
  fz : Bool

/-- What is left to do. -/
inductive KI where
  | code (c : Code)
  | ops (all : Array Oper) (todo : List Oper)
  | blk (id : Nat)
  | kont (K : Act → World → Prop)
  | opsD (all : Array Oper) (plan : List (Nat × Nat)) (st : List Nat) (fb fl : List Nat) (vt : Option (Nat × Nat × Nat))
  | jmp (l : Nat) (J : Act → World → Prop)

structure St where
  env : List (Nat × SV)
  gl : List Nat
  bx : List (Nat × Bx)
  bl : List Nat
  nb : Nat

structure Cfg where
  k : List KI
  s : St

def lk {α : Type} : List (Nat × α) → Nat → Option α
  | [], _ => none
  | (k, v) :: r, n => bif k == n then some v else lk r n

/-- A box in place of the one of its number. -/
def setb (i : Nat) (b : Bx) : List (Nat × Bx) → List (Nat × Bx)
  | [] => []
  | (k, x) :: r => bif k == i then (k, b) :: r else (k, x) :: setb i b r

/-- A world with its owners: who owns a block: 0: nobody writes it any more; 1: a variable of a call that has not ended; more: an object. -/
structure G where
  w : World
  o : Nat → Nat

/-- One function's proof: the program, the function, what is to hold at the end, the number of slots, the world at its beginning, whose blocks it may write. -/
structure Ctx where
  P : Program
  fn : Func
  R : Ending → World → Prop
  n : Nat
  g0 : G
  L : List Nat

/-- The slots hold what the state says. -/
def EnvOk (env : List (Nat × SV)) (m : List Nat) (tmps : Array Value) : Prop :=
  ∀ t x, lk env t = some x → match x with
    | .gd s want y => (tmps[s]? = some (.bool want) ∧ tmps[t]? = some ((SV.gd s want y).val m)) ∨ (tmps[s]? ≠ some (.bool want) ∧ tmps[t]? = some undef)
    | x => tmps[t]? = some (x.val m)

structure Sat (C : Ctx) (g : G) (s : St) (a : Act) (w : World) (m : List Nat) : Prop where
  pre : ∃ t, m = s.bl ++ t
  len : m.length = s.nb
  dfs : a.defers = []
  tmps : a.tmps.size = C.n
  env : ∀ t, EnvOk s.env (m ++ t) a.tmps
  gl : ∀ t u b y, lk s.env t = some (.gd u b y) → u ∈ s.gl
  nd : m.Nodup
  bxs : ∀ i b, lk s.bx i = some b → ∃ k, m[i]? = some k ∧ (∀ t, w.heap[k]? = some (.cells (vals (m ++ t) b.cells) b.ty (0, 0))) ∧ (k < g.w.heap.size → g.o k = bif b.fz then 0 else 1)
  full : ∀ i, i < s.nb → ∃ b, lk s.bx i = some b
  own0 : ∀ k, k ∈ m → C.g0.w.heap.size ≤ k
  size : g.w.heap.size ≤ w.heap.size
  size0 : C.g0.w.heap.size ≤ g.w.heap.size
  fresh : ∀ k, k ∈ m → k < w.heap.size
  old : ∀ k, k < g.w.heap.size → (∀ i b, lk s.bx i = some b → b.fz = false → m[i]? ≠ some k) → w.heap[k]? = g.w.heap[k]?
  base : ∀ k, k < C.g0.w.heap.size → C.g0.o k ∉ C.L → w.heap[k]? = C.g0.w.heap[k]?
  own : ∀ k, k < C.g0.w.heap.size → g.o k = C.g0.o k
  wf : ∀ k, g.w.heap.size ≤ k → g.o k = 0
  os : w.os = C.g0.w.os
  tape : w.tape = C.g0.w.tape
  out : w.output = C.g0.w.output

/-- The code's post behind what is left to do. -/
def denK (C : Ctx) : List KI → Exit → Act → World → Prop
  | [] => bodyPost C.P C.fn C.R
  | .code c :: k => Exit.then (c.wp C.P (denK C k)) (denK C k)
  | .ops all todo :: k => Exit.then (wpList C.P all (denK C k) todo) (denK C k)
  | .blk id :: k => Exit.inBlock id (denK C k)
  | .kont K :: k => Exit.then K (denK C k)
  | .opsD .. :: k => denK C k
  | .jmp l J :: k => Exit.jump l J (denK C k)

/-- The worlds in which what was read so far reads the same. -/
def SS (g : G) (bx : List (Nat × Bx)) (m : List Nat) (fb fl : List Nat) (w : World) : Prop :=
  (∀ i ∈ fb, ∀ b, lk bx i = some b → ∃ k, m[i]? = some k ∧ w.heap[k]? = some (.cells (vals m b.cells) b.ty (0, 0))) ∧
  (∀ k, k < g.w.heap.size → g.o k ∈ fl → w.heap[k]? = g.w.heap[k]?)

/-- The zero value's cells, by the program's table. -/
def zeroOf (P : Program) (t : Nat) : Option (Array Value) := ((P.info? t).bind (·.zero)).map (·.cells)

/-- The plan of a region's first phase: each operation's number with 0: computes only; 1: any other; 2: an alloc that may come up whenever it likes; 3: here it has come up. 'can': what has come up by the plan; 'mn': what has come up at least. -/
def okD (ops : Array Oper) (st : List Nat) : List (Nat × Nat) → Array Bool → Array Bool → Bool
  | [], can, mn => can == mn && chain ops st can
  | (i, 0) :: p, can, mn => closedB ops can && closedB ops mn && !st.contains i && (Region.ready .any ops mn).contains i && (Region.ready .any ops can).contains i && Region.free .any ops mn i && Region.free .any ops can i && okD ops st p (can.setIfInBounds i true) (mn.setIfInBounds i true)
  | (i, 1) :: p, can, mn => !st.contains i && (Region.ready .any ops mn).contains i && Region.ready .any ops can == [i] && okD ops st p (can.setIfInBounds i true) (mn.setIfInBounds i true)
  | (i, 2) :: p, can, mn => !st.contains i && can == mn && (Region.ready .any ops can).contains i && (match ops[i]? with | some o => o.guard.isNone && (match o.op with | .alloc _ => true | _ => false) | none => false) && okD ops st p (can.setIfInBounds i true) mn
  | (i, 3) :: p, can, mn => Region.ready .any ops mn == [i] && can == mn.setIfInBounds i true && okD ops st p can can
  | _, _, _ => false

/-- How many are still to come up by the plan. -/
def cnt : List (Nat × Nat) → Nat
  | [] => 0
  | (_, k) :: p => (bif k == 3 then 0 else 1) + cnt p

def den (C : Ctx) (g : G) (c : Cfg) (a : Act) (w : World) (m : List Nat) : Prop :=
  match c.k with
  | .opsD all plan st fb fl vt :: k => Region.noSelect all = true ∧ waitsAll all st = true →
    match vt with
    | none => ∀ can, okD all st plan can can = true → SS g c.s.bx m fb fl w → wpS C.P all (denK C k) st (SS g c.s.bx m fb fl) (cnt plan + st.length) can a w
    | some (j, u, ty) => lk c.s.env u = none → u ∉ c.s.gl → u < C.n → (∃ cs, zeroOf C.P ty = some cs) → ∀ can mn, okD all st plan can mn = true → can = mn.setIfInBounds j true → (∃ o, all[j]? = some o ∧ o.guard = none ∧ o.op = .alloc ty ∧ o.dst = some u) → j ∉ st → mn.getD j true = false → SS g c.s.bx m fb fl w →
      wpS C.P all (denK C k) st (SS g c.s.bx m fb fl) (cnt plan + st.length + 1) mn a w ∧
      ∀ N cs, N < w.heap.size → C.g0.w.heap.size ≤ N → N ∉ m → (N < g.w.heap.size → g.o N = 1) → zeroOf C.P ty = some cs → w.heap[N]? = some (.cells cs ty (0, 0)) → a.tmps[u]? = some (.pointer (some ⟨N, 0, none⟩)) →
        wpS C.P all (denK C k) st (SS g c.s.bx m fb fl) (cnt plan + st.length) can a w
  | k => denK C k .normal a w

def Sg (C : Ctx) (g : G) (c : Cfg) : Prop := ∀ a w m, Sat C g c.s a w m → den C g c a w m
end Go.Eng

/- What an operation that only computes leaves. -/
namespace Go.Eng
open Go

structure TD where
  agg : Bool
  size : Nat
  zero : List Value
  fs : List (Nat × Nat)
  el : Nat
  cl : Nat

abbrev Tab := Nat → Option TD

def aggD : TypeDesc → Bool
  | .struct _ => true
  | .array _ _ => true
  | _ => false

structure TabOk (P : Program) (T : Tab) : Prop where
  ok : ∀ t d, T t = some d → ∃ i u, P.info? t = some i ∧ P.underlying t = some u ∧ i.size = d.size ∧ aggD u = d.agg ∧
    i.zero = some (bif d.agg then .agg d.zero.toArray else d.zero.headD undef) ∧ d.zero.length = d.size ∧ (d.agg = false → d.size = 1 ∧ (d.zero.headD undef).cells = #[d.zero.headD undef]) ∧
    (∀ fs : Array Field, u = .struct fs → ∀ (j o t' : Nat), d.fs[j]? = some (o, t') → ∃ f : Field, fs[j]? = some f ∧ f.offset = o ∧ f.type = t' ∧ ∃ i', P.info? t' = some i' ∧ i'.size ≠ 0) ∧
    (d.fs ≠ [] → ∃ fs : Array Field, u = .struct fs ∧ fs.size = d.fs.length) ∧ (d.cl = 1 → u = .slice d.el) ∧ (d.cl = 2 → u = .string)

def nth {α : Type} : List α → Nat → Option α
  | [], _ => none
  | x :: _, 0 => some x
  | _ :: r, n + 1 => nth r n

theorem nth_eq {α : Type} : ∀ (l : List α) (n : Nat), nth l n = l[n]?
  | [], _ => rfl
  | _ :: _, 0 => rfl
  | _ :: r, n + 1 => by simp [nth, nth_eq r n]

def fld (T : Tab) (t j : Nat) : Option (Nat × Nat) := (T t).bind fun d => nth d.fs j

def sv1 : SC ⊕ List SC → SV
  | .inl x => .c x
  | .inr l => .ag l

def svo : SV → Option (SC ⊕ List SC)
  | .c x => some (.inl x)
  | .ag l => some (.inr l)
  | _ => none

/-- What a slot's bool is, under guards. -/
def resb (env : List (Nat × SV)) (s : Nat) : Option Bool :=
  match lk env s with
  | some (.c (.v (.bool t))) => some t
  | some (.gd s2 w2 (.inl (.v (.bool t)))) => match lk env s2 with
    | some (.c (.v (.bool t2))) => bif t2 == w2 then some t else none
    | _ => none
  | _ => none

def evg (gs : List (Nat × Bool)) (env : List (Nat × SV)) : Operand → Option SV
  | .tmp t => match lk env t with
    | some (.gd s w y) => bif gs.any (fun p => p.1 == s && p.2 == w) then some (sv1 y) else (resb env s).bind fun t' => bif t' == w then some (sv1 y) else some (.c (.v undef))
    | some x => some x
    | none => none
  | .const v => some (ofV v)
  | .global g => some (.c (.v (.pointer (some ⟨g, 0, none⟩))))
  | .func f => some (.c (.fn (.func f) [] []))

def GsOk (gs : List (Nat × Bool)) (tmps : Array Value) : Prop := ∀ p ∈ gs, tmps[p.1]? = some (.bool p.2)

theorem sv1_val (m : List Nat) (s : Nat) (w : Bool) (y : SC ⊕ List SC) : (SV.gd s w y).val m = (sv1 y).val m := by cases y <;> rfl

theorem undef_ne (b : Bool) : undef ≠ Value.bool b := by unfold undef; simp

theorem resb_ok {env : List (Nat × SV)} {m : List Nat} {tmps : Array Value} (he : EnvOk env m tmps) {s : Nat} {t : Bool} (h : resb env s = some t) : tmps[s]? = some (.bool t) := by
  unfold resb at h
  split at h
  · rename_i t0 h0
    have := he _ _ h0
    simp only [Option.some.injEq] at h
    subst h; exact this
  · rename_i s2 w2 t0 h0
    split at h
    · rename_i t2 h2
      have e2 := he _ _ h2
      simp only [SV.val, SC.val] at e2
      cases hb : t2 == w2
      · simp [hb] at h
      · simp only [hb, cond_true, Option.some.injEq] at h
        have : t2 = w2 := by simpa using hb
        subst this; subst h
        have := he _ _ h0
        simp only [e2, not_true_eq_false, ne_eq, false_and, or_false, true_and] at this
        simpa [SV.val, SC.val] using this
    · cases h
  · cases h

theorem evg_ok {env : List (Nat × SV)} {m : List Nat} {a : Act} (he : EnvOk env m a.tmps) {gs : List (Nat × Bool)} (hg : GsOk gs a.tmps) {x : Operand} {v : SV} (h : evg gs env x = some v) : a.eval x = v.val m := by
  cases x with
  | tmp t =>
    simp only [evg] at h
    simp only [Act.eval, Array.getD_eq_getD_getElem?]
    split at h
    · rename_i s w y h0
      have h1 := he _ _ h0
      dsimp only at h1
      cases hc : gs.any fun p => p.1 == s && p.2 == w
      · rw [hc] at h
        simp only [cond_false] at h
        cases hr : resb env s with
        | none => simp [hr] at h
        | some t' =>
          have hs := resb_ok he hr
          simp only [hr, Option.bind_some] at h
          cases hb : t' == w
          · simp only [hb, cond_false, Option.some.injEq] at h
            subst h
            have hne : t' ≠ w := by simpa using hb
            rcases h1 with ⟨e1, _⟩ | ⟨_, e2⟩
            · rw [hs] at e1; simp at e1; exact absurd e1 hne
            · rw [e2]; rfl
          · simp only [hb, cond_true, Option.some.injEq] at h
            subst h
            have : t' = w := by simpa using hb
            subst this
            rcases h1 with ⟨_, e2⟩ | ⟨e1, _⟩
            · rw [e2, ← sv1_val m s t' y]; rfl
            · exact absurd hs e1
      · rw [hc] at h
        simp only [cond_true, Option.some.injEq] at h
        subst h
        rw [List.any_eq_true] at hc
        obtain ⟨p, hp, hpp⟩ := hc
        simp only [Bool.and_eq_true, beq_iff_eq] at hpp
        have := hg p hp
        rw [hpp.1, hpp.2] at this
        rcases h1 with ⟨_, e2⟩ | ⟨e1, _⟩
        · rw [e2, ← sv1_val m s w y]; rfl
        · exact absurd this e1
    · rename_i x0 hx h0
      simp only [Option.some.injEq] at h
      subst h
      have h1 := he _ _ h0
      cases x0 <;> first | (simp only [] at h1; rw [h1]; rfl) | exact absurd rfl (hx _ _ _)
    · cases h
  | const v0 => simp only [evg, Option.some.injEq] at h; subst h; exact (ofV_val m v0).symm
  | global g => simp only [evg, Option.some.injEq] at h; subst h; rfl
  | func f => simp only [evg, Option.some.injEq] at h; subst h; rfl
end Go.Eng

/- The operations that only compute. -/
namespace Go.Eng
open Go

def ldc (cells : List SC) (off : Nat) (agg : Bool) (n : Nat) : Option SV :=
  bif agg then (bif ((cells.drop off).take n).length == n then some (.ag ((cells.drop off).take n)) else none) else (nth cells off).map .c

/-- Comparisons and sums. -/
def bop (op : BinOp) (a b : Value) : Option Value :=
  match a, b with
  | .int k x, .int k' y => bif decide (k = k') then (match op with
    | .eql => some (.bool (decide (x = y)))
    | .neq => some (.bool (!decide (x = y)))
    | .lss => some (.bool (decide (x < y)))
    | .leq => some (.bool (decide (x ≤ y)))
    | .gtr => some (.bool (decide (y < x)))
    | .geq => some (.bool (decide (y ≤ x)))
    | .add => some (.int k (k.wrap (x + y)))
    | .sub => some (.int k (k.wrap (x - y)))
    | .mul => some (.int k (k.wrap (x * y)))
    | _ => none) else none
  | .string x, .string y => match op with
    | .eql => some (.bool (decide (x = y)))
    | .neq => some (.bool (!decide (x = y)))
    | _ => none
  | _, _ => none

theorem toList_inj (x y : ByteArray) : (x.toList == y.toList) = decide (x = y) := by
  have h : ∀ z : ByteArray, z.toList = z.data.toList := fun z => ByteArray.toList_eq z
  rw [Bool.eq_iff_iff, beq_iff_eq, decide_eq_true_iff]
  constructor
  · intro hxy
    rw [h, h] at hxy
    cases x; cases y; simp_all
  · intro e; rw [e]

theorem bop_ok {P : Program} {op : BinOp} {a b v : Value} (h : bop op a b = some v) (t : TypeId) (x y : Operand) (w : World) :
    ((do eqGuard op t x y a b; binOp op t a b : Sem Value)).run P w = .ok v w := by
  have hg : (eqGuard op t x y a b).run P w = .ok () w := by
    unfold bop at h
    split at h
    · unfold eqGuard; split <;> rfl
    · unfold eqGuard; split <;> rfl
    · cases h
  rw [Sem.run_bind, hg, Result.andThen_ok]
  unfold bop at h
  split at h
  · rename_i k x k' y
    cases hk : decide (k = k')
    · simp [hk] at h
    · have : k = k' := by simpa using hk
      subst this
      simp only [decide_true, cond_true] at h
      split at h <;> first
        | (simp only [Option.some.injEq] at h; subst h; simp [binOp, Op.intCmp, Op.intArith, bne, BEq.beq]; done)
        | cases h
  · rename_i x y
    split at h <;> first
      | (simp only [Option.some.injEq] at h; subst h; simp [binOp, Op.stringOp, toList_inj]; done)
      | cases h
  · cases h

/-- Parts laid over cells: a struct's literal. -/
def setAt : List SC → Nat → List SC → List SC
  | [], _, _ => []
  | c :: r, 0, [] => c :: r
  | _ :: r, 0, x :: xs => x :: setAt r 0 xs
  | c :: r, n + 1, xs => c :: setAt r n xs

/-- Not an aggregate. -/
def nag : SC → Bool
  | .v (.agg _) => false
  | .v (.tuple _) => false
  | _ => true

theorem nag_cells {s : SC} (h : nag s = true) (m : List Nat) : (s.val m).cells = vals m [s] := by
  cases s with
  | v v0 => cases v0 <;> first | rfl | simp [nag] at h
  | bp => rfl
  | bs => rfl
  | fn => rfl

theorem nag_one {s : SC} (h : nag s = true) (m : List Nat) : (s.val m).oneCell' = true := by
  cases s with
  | v v0 => cases v0 <;> first | rfl | simp [nag] at h
  | bp => rfl
  | bs => rfl
  | fn => rfl

def fillS (T : Tab) (gs : List (Nat × Bool)) (env : List (Nat × SV)) (t : Nat) (n : Nat) : List (Nat × Operand) → List SC → Option (List SC)
  | [], cells => some cells
  | (j, x) :: r, cells => match fld T t j, evg gs env x with
    | some (o, t'), some y => match T t', y with
      | some d, .c s => bif decide (d.size = 1) && decide (o + 1 ≤ n) && nag s then fillS T gs env t n r (setAt cells o [s]) else none
      | some d, .ag l => bif decide (l.length = d.size) && decide (o + d.size ≤ n) then fillS T gs env t n r (setAt cells o l) else none
      | _, _ => none
    | _, _ => none

def toCap : SV → Option Cap
  | .c (.v x) => some (.v x)
  | .c (.bp i o) => some (.b i o)
  | _ => none

def caps (gs : List (Nat × Bool)) (env : List (Nat × SV)) : List Operand → Option (List Cap)
  | [] => some []
  | x :: r => match (evg gs env x).bind toCap, caps gs env r with
    | some c, some l => some (c :: l)
    | _, _ => none

def lenv (T : Tab) (gs : List (Nat × Bool)) (env : List (Nat × SV)) (c : Call) : Option SV :=
  match c.callee, c.args.toList, c.argTypes.toList with
  | .builtin .len, [x], [t] => match evg gs env x, (T t).map (·.cl) with
    | some (.c (.v (.slice _ n _))), some 1 => some (.c (.v (.int .i64 n)))
    | some (.c (.v (.string s))), some 2 => some (.c (.v (.int .i64 s.size)))
    | some (.c (.bs _ n _)), some 1 => some (.c (.v (.int .i64 n)))
    | _, _ => none
  | _, _, _ => none

/-- The value that an operation leaves that only computes, or reads a box. -/
def pv (T : Tab) (gs : List (Nat × Bool)) (env : List (Nat × SV)) (bx : List (Nat × Bx)) : Op → Option SV
  | .move x => evg gs env x
  | .assign x => evg gs env x
  | .pick (.tmp s) a b => match (evg gs env (.tmp s)), evg ((s, true) :: gs) env a, evg ((s, false) :: gs) env b with
    | some (.c (.v (.bool t))), some (.c (.v (.bool x))), some (.c (.v (.bool y))) => some (.c (.v (.bool (cond t x y))))
    | some (.c (.v (.bool t))), a', b' => match t with | true => a' | false => b'
    | _, _, _ => none
  | .fieldAddr t x f => match evg gs env x, fld T t f with
    | some (.c (.bp i off)), some (o, _) => some (.c (.bp i (off + o)))
    | some (.c (.v (.pointer (some ⟨b, off, none⟩)))), some (o, _) => some (.c (.v (.pointer (some ⟨b, off + o, none⟩))))
    | _, _ => none
  | .load t x => match evg gs env x with
    | some (.c (.bp i off)) => match lk bx i, T t with
      | some b, some d => ldc b.cells off d.agg d.size
      | _, _ => none
    | _ => none
  | .binOp op _ x y _ => match evg gs env x, evg gs env y with
    | some (.c (.v a)), some (.c (.v b)) => (bop op a b).map fun v => .c (.v v)
    | _, _ => none
  | .unOp .not _ x => match evg gs env x with
    | some (.c (.v (.bool b))) => some (.c (.v (.bool !b)))
    | _ => none
  | .extract x j => match evg gs env x with
    | some (.tp l) => (nth l j).map sv1
    | _ => none
  | .build t ps => match T t with
    | some d => bif d.agg && !d.fs.isEmpty then (fillS T gs env t d.size ps.toList (d.zero.map .v)).map .ag else none
    | none => none
  | .nilCheck x => match evg gs env x with
    | some (.c (.bp i o)) => some (.c (.bp i o))
    | some (.c (.v (.pointer (some a)))) => some (.c (.v (.pointer (some a))))
    | some (.c (.fn (.func f) a b)) => some (.c (.fn (.func f) a b))
    | _ => none
  | .field t x f => match evg gs env x, fld T t f with
    | some (.ag l), some (o, t') => match T t' with
      | some d => ldc l o d.agg d.size
      | none => none
    | _, _ => none
  | .call c => lenv T gs env c
  | .makeFunc fn first cs => match caps gs env first.toList, caps gs env cs.toList with
    | some a, some b => some (.c (.fn fn a b))
    | _, _ => none
  | _ => none

/-- The box that an operation reads. -/
def rdb (gs : List (Nat × Bool)) (env : List (Nat × SV)) : Op → Option Nat
  | .load _ x => match evg gs env x with
    | some (.c (.bp i _)) => some i
    | _ => none
  | _ => none

def BoxOk (bx : List (Nat × Bx)) (m : List Nat) (w : World) (i : Nat) : Prop :=
  ∀ b, lk bx i = some b → ∃ k, m[i]? = some k ∧ w.heap[k]? = some (.cells (vals m b.cells) b.ty (0, 0))

section
variable {P : Program} {T : Tab} {gs : List (Nat × Bool)} {env : List (Nat × SV)} {bx : List (Nat × Bx)} {m : List Nat} {a : Act}

theorem vals_length (m : List Nat) (l : List SC) : (vals m l).size = l.length := by simp [vals]
theorem vals_get (m : List Nat) (l : List SC) (j : Nat) : (vals m l)[j]? = (l[j]?).map (SC.val m) := by simp [vals]

theorem getElem?_getD {m : List Nat} {i k : Nat} (h : m[i]? = some k) : m.getD i 0 = k := by simp [List.getD_eq_getElem?_getD, h]

/-- Cells read out of a box. -/
theorem cell_box {w : World} {k : Nat} {cs : Array Value} {ty : Nat} (h : w.heap[k]? = some (.cells cs ty (0, 0))) (j : Nat) : w.cell? ⟨k, j, none⟩ = cs[j]? := by
  simp [World.cell?, h]

theorem rti {t : Nat} {i : TypeInfo} (h : P.info? t = some i) (w : World) : (typeInfo t).run P w = .ok i w := by simp [typeInfo, h]

theorem run_loadVar_agg {t : Nat} {i : TypeInfo} {u : TypeDesc} (hi : P.info? t = some i) (hu : P.underlying t = some u) (hag : aggD u = true) {w : World} {ad : Addr} {cs : List Value}
    (hn : i.size = cs.length) (hc : ∀ j v, cs[j]? = some v → w.cell? (ad.add j) = some v) : (loadVar t ad).run P w = .ok (.agg cs.toArray) w := by
  have h1 : (isAgg t).run P w = .ok true w := by
    unfold isAgg
    rw [Sem.run_bind, run_underlying hu, Result.andThen_ok]
    cases u <;> simp_all [aggD]
  unfold loadVar
  rw [Sem.run_bind, h1, Result.andThen_ok]
  simp only [if_true, Sem.run_bind]
  unfold sizeOf
  simp only [Sem.run_bind, rti hi, Result.andThen_ok, Sem.run_pure, hn]
  rw [run_loadCells_list w ad cs hc]
  rfl

theorem run_loadVar_one {t : Nat} {u : TypeDesc} (hu : P.underlying t = some u) (hag : aggD u = false) {w : World} {ad : Addr} {v : Value}
    (hc : w.cell? ad = some v) : (loadVar t ad).run P w = .ok v w := by
  have h1 : (isAgg t).run P w = .ok false w := by
    unfold isAgg
    rw [Sem.run_bind, run_underlying hu, Result.andThen_ok]
    cases u <;> simp_all [aggD]
  unfold loadVar
  rw [Sem.run_bind, h1, Result.andThen_ok]
  simp [hc]

theorem add_plain (b off n : Nat) : (⟨b, off, none⟩ : Addr).add n = ⟨b, off + n, none⟩ := by
  unfold Addr.add; split <;> simp_all

theorem run_fieldAt (hT : TabOk P T) {t f o t' : Nat} (h : fld T t f = some (o, t')) (b off : Nat) (w : World) :
    (Instr.fieldAt t (.pointer (some ⟨b, off, none⟩)) f).run P w = .ok (.pointer (some ⟨b, off + o, none⟩)) w := by
  unfold fld at h
  cases hd : T t with
  | none => simp [hd] at h
  | some d =>
    simp only [hd, Option.bind_some, nth_eq] at h
    obtain ⟨i, u, hi, hu, _, _, _, _, _, hfs, hst, _⟩ := hT.ok t d hd
    obtain ⟨fs, rfl, _⟩ := hst (by intro e; rw [e] at h; simp at h)
    obtain ⟨fd, hfd, ho, ht, i', hi', hz⟩ := hfs fs rfl f o t' h
    unfold Instr.fieldAt fieldPlace sizeOf Instr.sureAddr
    simp [run_underlying hu, hfd, ht, rti hi', hz, ho, add_plain]

theorem ldc_ok {cells : List SC} {off n : Nat} {agg : Bool} {v : SV} (h : ldc cells off agg n = some v) :
    (agg = true ∧ ∃ l, v = .ag l ∧ l.length = n ∧ ∀ j x, l[j]? = some x → cells[off + j]? = some x) ∨ (agg = false ∧ ∃ x, v = .c x ∧ cells[off]? = some x) := by
  unfold ldc at h
  cases agg
  · right
    simp only [cond_false, nth_eq, Option.map_eq_some_iff] at h
    obtain ⟨x, hx, rfl⟩ := h
    exact ⟨rfl, x, rfl, hx⟩
  · left
    simp only [cond_true] at h
    cases hl : ((cells.drop off).take n).length == n
    · rw [hl] at h; cases h
    · rw [hl] at h
      simp only [cond_true, Option.some.injEq] at h
      refine ⟨rfl, _, h.symm, by simpa using hl, fun j x hx => ?_⟩
      rw [List.getElem?_take] at hx
      split at hx
      · simpa using hx
      · cases hx

theorem run_load_box (hT : TabOk P T) {t : Nat} {d : TD} (hd : T t = some d) {w : World} {k : Nat} {cells : List SC} {ty off : Nat}
    (hw : w.heap[k]? = some (.cells (vals m cells) ty (0, 0))) {v : SV} (h : ldc cells off d.agg d.size = some v) :
    (Instr.loadAt t (.pointer (some ⟨k, off, none⟩))).run P w = .ok (v.val m) w := by
  obtain ⟨i, u, hi, hu, hs, hag, _⟩ := hT.ok t d hd
  unfold Instr.loadAt Instr.sureAddr
  rcases ldc_ok h with ⟨ha, l, rfl, hl, hc⟩ | ⟨ha, x, rfl, hx⟩
  · rw [ha] at hag
    simp only [pure_bind]
    rw [run_loadVar_agg hi hu hag (cs := l.map (SC.val m)) (by simp [hs, hl])]
    · rfl
    · intro j v hv
      rw [add_plain, cell_box hw, vals_get]
      simp only [List.getElem?_map, Option.map_eq_some_iff] at hv
      obtain ⟨x, hx, rfl⟩ := hv
      rw [hc j x hx]; rfl
  · rw [ha] at hag
    simp only [pure_bind]
    exact run_loadVar_one hu hag (by rw [cell_box hw, vals_get, hx]; rfl)

theorem gs_cons {s : Nat} {b : Bool} (hg : GsOk gs a.tmps) (h : a.tmps[s]? = some (.bool b)) : GsOk ((s, b) :: gs) a.tmps := by
  intro p hp
  rcases List.mem_cons.1 hp with rfl | hp
  · exact h
  · exact hg p hp

theorem tmp_of_eval {s : Nat} {v : Value} (h : a.eval (.tmp s) = v) (hv : v ≠ undef) : a.tmps[s]? = some v := by
  simp only [Act.eval, Array.getD_eq_getD_getElem?] at h
  cases e : a.tmps[s]? with
  | none => rw [e] at h; exact absurd h.symm hv
  | some x => rw [e] at h; simp at h; rw [h]

theorem setAt_size : ∀ (cells : List SC) (o : Nat) (l : List SC), (setAt cells o l).length = cells.length
  | [], _, _ => by simp [setAt]
  | _ :: _, 0, [] => by simp [setAt]
  | _ :: r, 0, _ :: xs => by simp [setAt, setAt_size r 0 xs]
  | _ :: r, n + 1, xs => by simp [setAt, setAt_size r n xs]

theorem setAt_get : ∀ (cells : List SC) (o : Nat) (l : List SC) (j : Nat), o + l.length ≤ cells.length → (setAt cells o l)[j]? = if o ≤ j ∧ j < o + l.length then l[j - o]? else cells[j]?
  | [], o, l, j, h => by
    have : l = [] := by cases l <;> simp_all
    subst this; simp [setAt]
  | c :: r, 0, [], j, _ => by simp [setAt]
  | c :: r, 0, x :: xs, j, h => by
    cases j with
    | zero => simp [setAt]
    | succ j =>
      simp only [setAt, List.getElem?_cons_succ, List.length_cons]
      rw [setAt_get r 0 xs j (by simpa using h)]
      simp
  | c :: r, n + 1, xs, j, h => by
    cases j with
    | zero => simp [setAt]
    | succ j =>
      simp only [setAt, List.getElem?_cons_succ]
      rw [setAt_get r n xs j (by simpa using (by simp at h; omega : n + xs.length ≤ r.length))]
      have e : j + 1 - (n + 1) = j - n := by omega
      rw [e]
      by_cases hc : n ≤ j ∧ j < n + xs.length
      · rw [if_pos hc, if_pos (by omega)]
      · rw [if_neg hc, if_neg (by omega)]

/-- What the model's build does with one part. -/
theorem fold_set (m : List Nat) (cells : List SC) (o : Nat) (l : List SC) (h : o + l.length ≤ cells.length) :
    (vals m l).zipIdx.foldl (fun cs (x : Value × Nat) => cs.setIfInBounds (o + x.2) x.1) (vals m cells) = vals m (setAt cells o l) := by
  have key : ∀ (l : List SC) (i : Nat) (cs : Array Value), ((l.map (SC.val m)).zipIdx i).foldl (fun cs (x : Value × Nat) => cs.setIfInBounds (o + x.2) x.1) cs =
      (l.zipIdx i).foldl (fun cs (x : SC × Nat) => cs.setIfInBounds (o + x.2) (x.1.val m)) cs := by
    intro l
    induction l with
    | nil => intros; rfl
    | cons x l ih => intro i cs; simp only [List.map_cons, List.zipIdx_cons, List.foldl_cons]; exact ih _ _
  have get : ∀ (l : List SC) (i : Nat) (cs : Array Value) (j : Nat), o + i + l.length ≤ cs.size →
      ((l.zipIdx i).foldl (fun cs (x : SC × Nat) => cs.setIfInBounds (o + x.2) (x.1.val m)) cs)[j]? = if o + i ≤ j ∧ j < o + i + l.length then (l[j - (o + i)]?).map (SC.val m) else cs[j]? := by
    intro l
    induction l with
    | nil => intro i cs j _; simp; omega
    | cons x l ih =>
      intro i cs j hs
      simp only [List.zipIdx_cons, List.foldl_cons, List.length_cons] at *
      rw [ih (i + 1) _ j (by simp; omega)]
      by_cases h1 : o + (i + 1) ≤ j ∧ j < o + (i + 1) + l.length
      · rw [if_pos h1, if_pos (by omega)]
        have : j - (o + i) = (j - (o + (i + 1))) + 1 := by omega
        rw [this]; simp
      · rw [if_neg h1]
        by_cases h2 : j = o + i
        · subst h2
          rw [if_pos (by omega), Array.getElem?_setIfInBounds_self_of_lt (by omega)]
          simp
        · rw [if_neg (by omega), Array.getElem?_setIfInBounds_ne (by omega)]
  rw [← Array.foldl_toList, Array.toList_zipIdx]
  apply Array.ext_getElem?
  intro j
  have e1 : (vals m l).toList = l.map (SC.val m) := by simp [vals]
  rw [e1, key, get l 0 _ j (by simp [vals]; omega), vals_get, vals_get, setAt_get _ _ _ _ h]
  by_cases hc : o ≤ j ∧ j < o + l.length
  · rw [if_pos (by omega), if_pos hc]; simp
  · rw [if_neg (by omega), if_neg hc]

theorem fill_ok (hT : TabOk P T) (he : EnvOk env m a.tmps) (hg : GsOk gs a.tmps) {t n : Nat} {fs : Array Field} {d : TD} (hd : T t = some d) (hu : P.underlying t = some (.struct fs)) :
    ∀ (ps : List (Nat × Operand)) (cells out : List SC), cells.length = n → fillS T gs env t n ps cells = some out →
      Instr.fill ((fs.map fun f => (f.offset, (((P.info? f.type).map (·.size)).getD 0)))[·]?) (vals m cells) (ps.map fun x => (x.1, a.eval x.2)) = some (vals m out) ∧ out.length = n
  | [], cells, out, hl, h => by
    simp only [fillS, Option.some.injEq] at h
    subst h
    exact ⟨rfl, hl⟩
  | (j, x) :: r, cells, out, hl, h => by
    obtain ⟨i0, u0, hi0, hu0, _, _, _, _, _, hfs, _⟩ := hT.ok t d hd
    rw [hu] at hu0
    have hu1 := (Option.some.inj hu0).symm
    simp only [fillS] at h
    split at h
    · rename_i o t' y hf hy
      have hey := evg_ok he hg hy
      simp only [fld, hd, Option.bind_some, nth_eq] at hf
      obtain ⟨fd, hfd, ho, ht, i', hi', _⟩ := hfs fs hu1 j o t' hf
      have hplace : (fs.map fun f => (f.offset, (((P.info? f.type).map (·.size)).getD 0)))[j]? = some (o, i'.size) := by
        simp [Array.getElem?_map, hfd, ho, ht, hi']
      split at h
      · rename_i d' s hd' 
        obtain ⟨i2, u2, hi2, _, hs2, _⟩ := hT.ok t' d' hd'
        rw [hi'] at hi2
        obtain rfl := Option.some.inj hi2
        cases hc : decide (d'.size = 1) && decide (o + 1 ≤ n) && nag s
        · rw [hc] at h; cases h
        · rw [hc] at h
          simp only [cond_true] at h
          simp only [Bool.and_eq_true, decide_eq_true_eq] at hc
          have hcell : (a.eval x).cells = vals m [s] := by
            rw [hey]
            exact nag_cells hc.2 m
          have ih := fill_ok hT he hg hd hu r _ out (by rw [setAt_size]; exact hl) h
          refine ⟨?_, ih.2⟩
          simp only [List.map_cons, Instr.fill, hplace]
          rw [hcell, if_neg]
          · rw [fold_set m cells o [s] (by simp; omega)]
            exact ih.1
          · simp [vals, hs2, hc.1.1]; omega
      · rename_i d' l hd'
        obtain ⟨i2, u2, hi2, _, hs2, _⟩ := hT.ok t' d' hd'
        rw [hi'] at hi2
        obtain rfl := Option.some.inj hi2
        cases hc : decide (l.length = d'.size) && decide (o + d'.size ≤ n)
        · rw [hc] at h; cases h
        · rw [hc] at h
          simp only [cond_true] at h
          simp only [Bool.and_eq_true, decide_eq_true_eq] at hc
          have hcell : (a.eval x).cells = vals m l := by rw [hey]; rfl
          have ih := fill_ok hT he hg hd hu r _ out (by rw [setAt_size]; exact hl) h
          refine ⟨?_, ih.2⟩
          simp only [List.map_cons, Instr.fill, hplace]
          rw [hcell, if_neg]
          · rw [fold_set m cells o l (by omega)]
            exact ih.1
          · simp [vals, hs2, hc.1]; omega
      · cases h
    · cases h

theorem caps_ok (he : EnvOk env m a.tmps) (hg : GsOk gs a.tmps) : ∀ (l : List Operand) (cs : List Cap), caps gs env l = some cs → (l.map a.eval) = cs.map (Cap.val m)
  | [], cs, h => by simp only [caps, Option.some.injEq] at h; subst h; rfl
  | x :: r, cs, h => by
    simp only [caps] at h
    split at h
    · rename_i c l h1 h2
      simp only [Option.some.injEq] at h
      subst h
      cases hx : evg gs env x with
      | none => simp [hx] at h1
      | some y =>
        have := evg_ok he hg hx
        simp only [hx, Option.bind_some] at h1
        simp only [List.map_cons, caps_ok he hg r l h2, List.cons.injEq, and_true, this]
        unfold toCap at h1
        split at h1 <;> first | (simp only [Option.some.injEq] at h1; subst h1; rfl) | cases h1
    · cases h

theorem run_zero {t : Nat} {i : TypeInfo} {z : Value} (hi : P.info? t = some i) (hz : i.zero = some z) (w : World) : (zeroValue t).run P w = .ok z w := by
  unfold zeroValue; simp [rti hi, hz]

theorem run_places (fs : Array Field) (w : World) (h : ∀ f ∈ fs, ∃ i, P.info? f.type = some i) :
    ((fs.mapM fun f => do pure (f.offset, ← sizeOf f.type) : Sem (Array (Nat × Nat)))).run P w = .ok (fs.map fun f => (f.offset, ((P.info? f.type).map (·.size)).getD 0)) w := by
  rw [Array.mapM_eq_mapM_toList]
  have key : ∀ l : List Field, (∀ f ∈ l, ∃ i, P.info? f.type = some i) → ((l.mapM fun f => do pure (f.offset, ← sizeOf f.type) : Sem (List (Nat × Nat)))).run P w = .ok (l.map fun f => (f.offset, ((P.info? f.type).map (·.size)).getD 0)) w := by
    intro l
    induction l with
    | nil => intro _; simp
    | cons f l ih =>
      intro hl
      obtain ⟨i, hi⟩ := hl f (by simp)
      have e1 : ((do pure (f.offset, ← sizeOf f.type) : Sem (Nat × Nat))).run P w = .ok (f.offset, i.size) w := by simp [sizeOf, rti hi]
      rw [List.mapM_cons, Sem.run_bind, e1, Result.andThen_ok, Sem.run_bind, ih (fun f hf => hl f (by simp [hf])), Result.andThen_ok, Sem.run_pure, List.map_cons, hi]
      rfl
  simp only [Sem.run_map, key fs.toList (fun f hf => h f (by simpa using hf)), Result.andThen_ok]
  congr 1
  apply Array.ext'
  simp

theorem run_build (hT : TabOk P T) (he : EnvOk env m a.tmps) (hg : GsOk gs a.tmps) {t : Nat} {d : TD} {ps : Array (Nat × Operand)} {out : List SC} (hd : T t = some d) (hc : (d.agg && !d.fs.isEmpty) = true)
    (h : fillS T gs env t d.size ps.toList (d.zero.map .v) = some out) (w : World) :
    (Instr.build t (ps.map fun (x : Nat × Operand) => (x.1, a.eval x.2))).run P w = .ok (.agg (vals m out)) w := by
  obtain ⟨i, u, hi, hu, hs, hag, hz, hzl, _, hfs, hst, _⟩ := hT.ok t d hd
  simp only [Bool.and_eq_true, Bool.not_eq_true', List.isEmpty_eq_false_iff] at hc
  obtain ⟨fs, rfl, hsz⟩ := hst hc.2
  rw [hc.1, cond_true] at hz
  have hfl := (fill_ok hT he hg hd hu ps.toList (d.zero.map .v) out (by simp [hzl]) h).1
  have hv : vals m (d.zero.map .v) = d.zero.toArray := by have := vals_map_v m d.zero.toArray; simpa using this
  rw [hv] at hfl
  have hmem : ∀ f ∈ fs, ∃ i, P.info? f.type = some i := by
    intro f hf
    obtain ⟨j, hj, rfl⟩ := Array.getElem_of_mem hf
    have hj' : j < d.fs.length := by omega
    obtain ⟨fd, hfd, _, ht, i', hi', _⟩ := hfs fs rfl j (d.fs[j]).1 (d.fs[j]).2 (by simp [List.getElem?_eq_getElem hj'])
    rw [Array.getElem?_eq_getElem hj] at hfd
    obtain rfl := Option.some.inj hfd
    exact ⟨i', by rw [ht]; exact hi'⟩
  unfold Instr.build
  rw [Sem.run_bind, run_zero hi hz, Result.andThen_ok]
  simp only [Value.cells]
  rw [Sem.run_bind, run_underlying hu, Result.andThen_ok]
  simp only []
  rw [Sem.run_bind, run_places fs w hmem, Result.andThen_ok]
  have e2 : (ps.map fun (x : Nat × Operand) => (x.1, a.eval x.2)).toList = ps.toList.map fun x => (x.1, a.eval x.2) := by simp
  rw [e2, hfl]
  rfl

/-- What 'pv' says is what the operation leaves, in every world in which the box that it reads lies. -/
theorem pv_ok (hT : TabOk P T) (he : EnvOk env m a.tmps) (hg : GsOk gs a.tmps) {o : Oper} {v : SV} (h : pv T gs env bx o.op = some v) (w : World)
    (hb : ∀ i, rdb gs env o.op = some i → BoxOk bx m w i) : (execOp a.eval o).run P w = .ok (.value (v.val m)) w := by
  unfold pv at h
  split at h
  case h_1 x ho => simp only [execOp, ho, Sem.run_pure, evg_ok he hg h]
  case h_2 x ho => simp only [execOp, ho, Sem.run_pure, evg_ok he hg h]
  case h_3 s x y ho =>
    split at h
    · rename_i t b1 b2 h1 h2 h3
      simp only [Option.some.injEq] at h
      subst h
      have e1 := evg_ok he hg h1
      have e0 : a.eval (.tmp s) = .bool t := e1
      have es := tmp_of_eval e0 (fun e => undef_ne t e.symm)
      simp only [execOp, ho]
      cases t
      · have e3 := evg_ok he (gs_cons hg es) h3
        simp only [asBool, e0, e3]; rfl
      · have e2 := evg_ok he (gs_cons hg es) h2
        simp only [asBool, e0, e2]; rfl
    · rename_i t h1 _
      have e0 : a.eval (.tmp s) = .bool t := evg_ok he hg h1
      have es := tmp_of_eval e0 (fun e => undef_ne t e.symm)
      simp only [execOp, ho]
      cases t
      · have e3 := evg_ok he (gs_cons hg es) h
        simp only [asBool, e0, e3]; rfl
      · have e2 := evg_ok he (gs_cons hg es) h
        simp only [asBool, e0, e2]; rfl
    · cases h
  case h_4 t x f ho =>
    split at h
    · rename_i i off o' t' h1 h2
      simp only [Option.some.injEq] at h; subst h
      have e1 := evg_ok he hg h1
      simp only [execOp, ho, e1, SV.val, SC.val, Sem.run_bind, run_fieldAt hT h2, Result.andThen_ok, Sem.run_pure]
    · rename_i b off o' t' h1 h2
      simp only [Option.some.injEq] at h; subst h
      have e1 := evg_ok he hg h1
      simp only [execOp, ho, e1, SV.val, SC.val, Sem.run_bind, run_fieldAt hT h2, Result.andThen_ok, Sem.run_pure]
    · cases h
  case h_5 t x ho =>
    split at h
    · rename_i i off h1
      split at h
      · rename_i b d h2 h3
        have e1 := evg_ok he hg h1
        obtain ⟨k, hk, hw⟩ := hb i (by simp only [ho, rdb, h1]) b h2
        simp only [execOp, ho, e1, SV.val, SC.val, getElem?_getD hk, Sem.run_bind, run_load_box hT h3 hw h, Result.andThen_ok, Sem.run_pure]
      · cases h
    · cases h
  case h_6 op t x y t2 ho =>
    split at h
    · rename_i b c h1 h2
      rw [Option.map_eq_some_iff] at h
      obtain ⟨v0, hv, rfl⟩ := h
      have e1 : a.eval x = b := evg_ok he hg h1
      have e2 : a.eval y = c := evg_ok he hg h2
      simp only [execOp, ho, e1, e2]
      rw [Sem.run_bind, bop_ok hv]
      rfl
    · cases h
  case h_7 t x ho =>
    split at h
    · rename_i b h1
      simp only [Option.some.injEq] at h; subst h
      have e1 : a.eval x = .bool b := evg_ok he hg h1
      simp only [execOp, ho, e1]; rfl
    · cases h
  case h_8 x j ho =>
    split at h
    · rename_i l h1
      rw [Option.map_eq_some_iff] at h
      obtain ⟨y, hy, rfl⟩ := h
      have e1 := evg_ok he hg h1
      simp only [execOp, ho, e1, SV.val]
      rw [nth_eq] at hy
      simp only [Instr.extract, List.getElem?_toArray, List.getElem?_map, hy, Option.map_some]
      cases y <;> rfl
    · cases h
  case h_9 t ps ho =>
    split at h
    · rename_i d hd
      cases hc : d.agg && !d.fs.isEmpty
      · rw [hc] at h; cases h
      · rw [hc, cond_true, Option.map_eq_some_iff] at h
        obtain ⟨out, hout, rfl⟩ := h
        simp only [execOp, ho]
        rw [Sem.run_bind, run_build hT he hg hd hc hout w]
        rfl
    · cases h
  case h_10 x ho =>
    split at h
    · rename_i i o' h1
      simp only [Option.some.injEq] at h; subst h
      have e1 := evg_ok he hg h1
      simp only [execOp, ho, e1, SV.val, SC.val, Sem.run_pure]
    · rename_i ad h1
      simp only [Option.some.injEq] at h; subst h
      have e1 := evg_ok he hg h1
      simp only [execOp, ho, e1, SV.val, SC.val, Sem.run_pure]
    · rename_i f b c h1
      simp only [Option.some.injEq] at h; subst h
      have e1 := evg_ok he hg h1
      simp only [execOp, ho, e1, SV.val, SC.val, Sem.run_pure]
    · cases h
  case h_11 t x f ho =>
    split at h
    · rename_i l o' t' h1 h2
      split at h
      · rename_i d hd
        have e1 := evg_ok he hg h1
        unfold fld at h2
        cases hd0 : T t with
        | none => simp [hd0] at h2
        | some d0 =>
          simp only [hd0, Option.bind_some, nth_eq] at h2
          obtain ⟨i, u, hi, hu, _, _, _, _, _, hfs, hst, _⟩ := hT.ok t d0 hd0
          obtain ⟨fs, rfl, _⟩ := hst (by intro e; rw [e] at h2; simp at h2)
          obtain ⟨fd, hfd, ho', ht, i', hi', hz⟩ := hfs fs rfl f o' t' h2
          obtain ⟨i2, u2, hi2, hu2, hs2, hag2, _⟩ := hT.ok t' d hd
          have h1' : (isAgg t').run P w = .ok d.agg w := by
            unfold isAgg
            rw [Sem.run_bind, run_underlying hu2, Result.andThen_ok, ← hag2]
            cases u2 <;> rfl
          have hp : (part t' (vals m l) o').run P w = .ok (v.val m) w := by
            unfold part
            rw [Sem.run_bind, h1', Result.andThen_ok]
            rcases ldc_ok h with ⟨ha, r, rfl, hr, hc⟩ | ⟨ha, y, rfl, hy⟩
            · simp only [ha, if_true, sizeOf, Sem.run_bind, rti hi2, Result.andThen_ok, Sem.run_pure, hs2]
              congr 2
              apply Array.ext_getElem?
              intro j
              rw [vals_get, Array.getElem?_extract]
              by_cases hj : j < r.length
              · have := hc j r[j] (by simp [List.getElem?_eq_getElem hj])
                have hlt : o' + j < l.length := (List.getElem?_eq_some_iff.1 this).1
                rw [if_pos (by rw [vals_length]; omega), vals_get, this, List.getElem?_eq_getElem hj]
              · rw [if_neg (by omega), List.getElem?_eq_none (by omega)]; rfl
            · simp only [ha, Bool.false_eq_true, if_false, vals_get, hy, Option.map_some]; rfl
          simp only [execOp, ho, e1, SV.val]
          unfold Instr.field
          simp only [Sem.run_bind, run_underlying hu, Result.andThen_ok, hfd, asAgg, ht, ho', Sem.run_pure, hp]
          rfl
      · cases h
    · cases h
  case h_12 c ho =>
    unfold lenv at h
    split at h
    case h_2 => cases h
    rename_i x t hcal har hat
    have key : ∀ n : Value, (Builtin.len_ #[t] o.type #[a.eval x]).run P w = .ok n w → (execOp a.eval o).run P w = .ok (.value n) w := by
      intro n hn
      have e1 : c.args = #[x] := Array.toList_inj.1 (by simpa using har)
      have e2 : c.argTypes = #[t] := Array.toList_inj.1 (by simpa using hat)
      simp only [execOp, ho, resolve, hcal, Sem.run_bind, Sem.run_pure, Result.andThen_ok, invoke]
      simp only [builtin, Sem.run_bind, e1, e2]
      have : (#[x].map a.eval) = #[a.eval x] := by simp
      rw [this, hn]; rfl
    split at h
    · rename_i n h1 h2
      simp only [Option.some.injEq] at h; subst h
      have e1 := evg_ok he hg h1
      rw [Option.map_eq_some_iff] at h2
      obtain ⟨d, hd, hcl⟩ := h2
      obtain ⟨i, u, hi, hu, _, _, _, _, _, _, _, hsl, _⟩ := hT.ok t d hd
      apply key
      simp only [Builtin.len_, e1]
      simp [run_underlying hu, hsl hcl, SV.val, SC.val, goInt]
    · rename_i s h1 h2
      simp only [Option.some.injEq] at h; subst h
      have e1 := evg_ok he hg h1
      rw [Option.map_eq_some_iff] at h2
      obtain ⟨d, hd, hcl⟩ := h2
      obtain ⟨i, u, hi, hu, _, _, _, _, _, _, _, _, hsl⟩ := hT.ok t d hd
      apply key
      simp only [Builtin.len_, e1]
      simp [run_underlying hu, hsl hcl, SV.val, SC.val, goInt]
    · rename_i n h1 h2
      simp only [Option.some.injEq] at h; subst h
      have e1 := evg_ok he hg h1
      rw [Option.map_eq_some_iff] at h2
      obtain ⟨d, hd, hcl⟩ := h2
      obtain ⟨i, u, hi, hu, _, _, _, _, _, _, _, hsl, _⟩ := hT.ok t d hd
      apply key
      simp only [Builtin.len_, e1]
      simp [run_underlying hu, hsl hcl, SV.val, SC.val, goInt]
    · cases h
  case h_13 fn first cs ho =>
    split at h
    · rename_i ca cb h1 h2
      simp only [Option.some.injEq] at h; subst h
      simp only [execOp, ho, Instr.makeFunc, Sem.run_bind, Sem.run_pure, Result.andThen_ok, SV.val, SC.val]
      have e1 := caps_ok he hg _ _ h1
      have e2 := caps_ok he hg _ _ h2
      congr 3
      · apply Array.ext'; simpa using e1
      · apply Array.ext'; simpa using e2
    · cases h
  case h_14 => cases h
end
end Go.Eng

/- One operation: what it turns in a state. -/
namespace Go.Eng
open Go

def isGd : SV → Bool
  | .gd .. => true
  | _ => false

def putE (s : St) (d : Option Tmp) (x : SV) : St :=
  match d with
  | some d => { s with env := (d, x) :: s.env }
  | none => s

/-- May slot d be written? -/
def okDst (n : Nat) (s : St) (d : Option Tmp) : Bool :=
  match d with
  | some d => decide (d < n) && !s.gl.contains d
  | none => true

theorem put_get {a : Act} {d : Nat} {v : Value} (h : d < a.tmps.size) : (a.put (some d) v).tmps[d]? = some v := by
  simp [Act.put, h]
theorem put_ne {a : Act} {d u : Nat} {v : Value} (h : d ≠ u) : (a.put (some d) v).tmps[u]? = a.tmps[u]? := by
  simp [Act.put, Array.getElem?_setIfInBounds_ne h]
theorem put_tmps {a : Act} {d : Option Nat} {u : Nat} {v : Value} (h : d ≠ some u) : (a.put d v).tmps[u]? = a.tmps[u]? := by
  cases d with
  | none => rfl
  | some d => exact put_ne (fun e => h (by rw [e]))

theorem lk_cons {α : Type} (k : Nat) (v : α) (r : List (Nat × α)) (n : Nat) : lk ((k, v) :: r) n = if k = n then some v else lk r n := by
  by_cases h : k = n
  · subst h; simp [lk]
  · have h' : (k == n) = false := by simpa using h
    rw [if_neg h, lk, h']; rfl

section
variable {C : Ctx} {g : G} {s : St} {a : Act} {w : World} {m : List Nat}

theorem EnvOk.put {env : List (Nat × SV)} (h : EnvOk env m a.tmps) {gl : List Nat} (hgl : ∀ t u b y, lk env t = some (.gd u b y) → u ∈ gl) {d : Nat} (hd : d < a.tmps.size) (hn : d ∉ gl) {x : SV} (hx : isGd x = false) {v : Value} (hv : x.val m = v) :
    EnvOk ((d, x) :: env) m (a.put (some d) v).tmps := by
  subst hv
  intro t y hy
  rw [lk_cons] at hy
  split at hy
  · rename_i e
    subst e
    obtain rfl := Option.some.inj hy
    cases x <;> first | exact put_get hd | cases hx
  · rename_i hne
    have h0 := h t y hy
    cases y with
    | gd u b z =>
      have hu : d ≠ u := fun e => hn (e ▸ hgl _ _ _ _ hy)
      dsimp only at h0 ⊢
      rw [put_ne hu, put_ne hne]; exact h0
    | c => dsimp only at h0 ⊢; rw [put_ne hne]; exact h0
    | ag => dsimp only at h0 ⊢; rw [put_ne hne]; exact h0
    | tp => dsimp only at h0 ⊢; rw [put_ne hne]; exact h0

theorem Sat.put (h : Sat C g s a w m) {d : Option Tmp} (hd : okDst C.n s d = true) {x : SV} (hx : isGd x = false) {v : Value} (hv : ∀ t, x.val (m ++ t) = v) : Sat C g (putE s d x) (a.put d v) w m := by
  cases d with
  | none => exact h
  | some d =>
    simp only [okDst, Bool.and_eq_true, decide_eq_true_eq, Bool.not_eq_true', List.contains_eq_mem, decide_eq_false_iff_not] at hd
    refine ⟨h.pre, h.len, h.dfs, by simp [Act.put, h.tmps], fun t => (h.env t).put h.gl (by rw [h.tmps]; exact hd.1) hd.2 hx (hv t), ?_, h.nd, h.bxs, h.full, h.own0, h.size, h.size0, h.fresh, h.old, h.base, h.own, h.wf, h.os, h.tape, h.out⟩
    intro t u b y hy
    simp only [putE] at hy
    rw [lk_cons] at hy
    split at hy
    · obtain rfl := Option.some.inj hy; cases hx
    · exact h.gl _ _ _ _ hy

theorem Sat.env0 (h : Sat C g s a w m) : EnvOk s.env m a.tmps := by simpa using h.env []

theorem app_get {m : List Nat} {i k : Nat} (h : m[i]? = some k) (t : List Nat) : (m ++ t)[i]? = some k := by
  have hl := (List.getElem?_eq_some_iff.1 h).1
  rw [List.getElem?_append_left hl]; exact h

theorem Sat.box (h : Sat C g s a w m) (t : List Nat) (i : Nat) : BoxOk s.bx (m ++ t) w i := fun b hb => by
  obtain ⟨k, hk, hw, _⟩ := h.bxs i b hb
  exact ⟨k, app_get hk t, hw t⟩

/-- What a step may not turn, so that a region may draw its order round it. -/
structure Tr (C : Ctx) (A : List Nat → List Nat → Prop) (g : G) (s : St) (a : Act) (w : World) (m : List Nat) (d : Option Tmp) (g' : G) (s' : St) (a' : Act) (w' : World) (m' : List Nat) : Prop where
  size : w.heap.size ≤ w'.heap.size
  keepN : ∀ N, N < w.heap.size → C.g0.w.heap.size ≤ N → N ∉ m → (N < g.w.heap.size → g.o N = 1) → w'.heap[N]? = w.heap[N]? ∧ (N < g'.w.heap.size → g'.o N = 1) ∧ N ∉ m'
  tm : ∀ u, d ≠ some u → a'.tmps[u]? = a.tmps[u]?
  ss : ∀ fb fl, A fb fl → (∀ w2, SS g' s'.bx m' fb fl w2 → SS g s.bx m fb fl w2) ∧ (SS g s.bx m fb fl w → SS g' s'.bx m' fb fl w')

/-- Operation o leads from the state to one of those that Φ tells. -/
def Chg (C : Ctx) (A : List Nat → List Nat → Prop) (g : G) (s : St) (o : Oper) (Φ : G → St → Prop) : Prop :=
  ∀ a w m, Sat C g s a w m → ∀ (K : Act → World → Prop) (Q : Exit → Act → World → Prop),
    (∀ g' s' a' w' m', Φ g' s' → Sat C g' s' a' w' m' → Tr C A g s a w m o.dst g' s' a' w' m' → K a' w') → o.wp C.P a w K Q

theorem Tr.same {A : List Nat → List Nat → Prop} {a' : Act} {d : Option Tmp} (s' : St) (hb : s'.bx = s.bx) (ht : ∀ u, d ≠ some u → a'.tmps[u]? = a.tmps[u]?) : Tr C A g s a w m d g s' a' w m :=
  ⟨Nat.le_refl _, fun _ _ _ hm ho => ⟨rfl, ho, hm⟩, ht, fun _ _ _ => by rw [hb]; exact ⟨fun _ h => h, fun h => h⟩⟩

/-- The guard of an operation that is to run holds. -/
def GuardOn (all : Array Oper) (s : St) (o : Oper) : Prop := ∀ (a : Act) (m : List Nat), EnvOk s.env m a.tmps → Region.wanted o (yielded all a.tmps) = true

theorem guardOn_none {all : Array Oper} {o : Oper} (h : o.guard = none) : GuardOn all s o := fun _ _ _ => by simp [Region.wanted, h]

theorem sg_ops {A : List Nat → List Nat → Prop} {Φ : G → St → Prop} {all : Array Oper} {o : Oper} {r : List Oper} {k : List KI} (hw : GuardOn all s o) (h : Chg C A g s o Φ)
    (hk : ∀ g' s', Φ g' s' → Sg C g' ⟨.ops all r :: k, s'⟩) : Sg C g ⟨.ops all (o :: r) :: k, s⟩ := by
  intro a w m hs
  show wpList C.P all (denK C k) (o :: r) a w
  unfold wpList
  rw [if_pos (hw a m hs.env0)]
  exact .inl (h a w m hs _ _ fun g' s' a' w' m' hφ hs' _ => hk g' s' hφ a' w' m' hs')

theorem sg_ops_nil {all : Array Oper} {k : List KI} (h : Sg C g ⟨k, s⟩) (hk : ∀ all plan st fb fl vt k', k ≠ .opsD all plan st fb fl vt :: k') : Sg C g ⟨.ops all [] :: k, s⟩ := by
  intro a w m hs
  have := h a w m hs
  show denK C k .normal a w
  unfold den at this
  split at this
  · rename_i e; exact absurd e (hk _ _ _ _ _ _ _)
  · exact this

/-- What an operation leaves that only computes: one value, however many boxes come later. -/
theorem Sat.pv (hs : Sat C g s a w m) {T : Tab} (hT : TabOk C.P T) {gs : List (Nat × Bool)} (hg : GsOk gs a.tmps) {o : Oper} {x : SV} (hx : pv T gs s.env s.bx o.op = some x) :
    (execOp a.eval o).run C.P w = .ok (.value (x.val m)) w ∧ ∀ t, x.val (m ++ t) = x.val m := by
  have h := fun t => pv_ok hT (hs.env t) hg hx w (fun i _ => hs.box t i)
  have h0 := h []
  rw [List.append_nil] at h0
  refine ⟨h0, fun t => ?_⟩
  have h1 := h t
  rw [h0] at h1
  simp only [Result.ok.injEq, Next.value.injEq, and_true] at h1
  exact h1.symm

/-- An operation that only computes. -/
theorem chg_pure {A : List Nat → List Nat → Prop} {T : Tab} (hT : TabOk C.P T) {o : Oper} {x : SV} (hx : pv T [] s.env s.bx o.op = some x) (hg : isGd x = false) (hd : okDst C.n s o.dst = true) :
    Chg C A g s o fun g' s' => g' = g ∧ s' = putE s o.dst x := by
  intro a w m hs K Q hk
  obtain ⟨hr, hv⟩ := hs.pv hT (gs := []) (fun p hp => absurd hp (by simp)) hx
  unfold Oper.wp
  rw [hr]
  exact hk g _ _ w m ⟨rfl, rfl⟩ (hs.put hd hg hv) (Tr.same _ (by cases o.dst <;> rfl) fun u hu => put_tmps hu)

/-- A new box. -/
def newB (s : St) (ty : Nat) (cells : List SC) (fz : Bool) : St := { s with bx := (s.nb, ⟨ty, cells, fz⟩) :: s.bx, nb := s.nb + 1 }

theorem newB_full {ty : Nat} {cells : List SC} {fz : Bool} (h : ∀ i, i < s.nb → ∃ b, lk s.bx i = some b) : ∀ i, i < (newB s ty cells fz).nb → ∃ b, lk (newB s ty cells fz).bx i = some b := fun i hi => by
  simp only [Eng.newB] at hi ⊢
  rw [lk_cons]
  by_cases e : s.nb = i
  · exact ⟨_, if_pos e⟩
  · obtain ⟨b, hb⟩ := h i (by omega)
    exact ⟨b, by rw [if_neg e]; exact hb⟩

theorem push_get (w : World) (o : Obj) (k : Nat) (h : k < w.heap.size) : (w.heap.push o)[k]? = w.heap[k]? := by
  rw [Array.getElem?_push, if_neg (by omega)]

theorem Sat.lk_lt (h : Sat C g s a w m) {i : Nat} {b : Bx} (hb : lk s.bx i = some b) : i < s.nb := by
  obtain ⟨k, hk, _⟩ := h.bxs i b hb
  rw [← h.len]
  exact (List.getElem?_eq_some_iff.1 hk).1

theorem Sat.newB (h : Sat C g s a w m) (ty : Nat) (cells : List SC) (fz : Bool) (hc : ∀ t, vals (m ++ t) cells = vals m cells) :
    Sat C g (newB s ty cells fz) a { w with heap := w.heap.push (.cells (vals m cells) ty (0, 0)) } (m ++ [w.heap.size]) := by
  have hnew : (m ++ [w.heap.size])[s.nb]? = some w.heap.size := by rw [List.getElem?_append_right (by rw [h.len]; exact Nat.le_refl _)]; simp [h.len]
  refine ⟨?_, by simp [h.len, Eng.newB], h.dfs, h.tmps, fun t => ?_, h.gl, ?_, ?_, newB_full h.full, ?_, ?_, h.size0, ?_, ?_, ?_, h.own, h.wf, h.os, h.tape, h.out⟩
  · obtain ⟨t, ht⟩ := h.pre
    exact ⟨t ++ [w.heap.size], by rw [ht]; simp [Eng.newB]⟩
  · have := h.env ([w.heap.size] ++ t)
    rwa [← List.append_assoc] at this
  · rw [List.nodup_append]
    refine ⟨h.nd, by simp, fun x hx y hy => ?_⟩
    have := h.fresh x hx
    simp only [List.mem_singleton] at hy
    omega
  · intro i b hb
    simp only [Eng.newB] at hb
    rw [lk_cons] at hb
    split at hb
    · rename_i e
      subst e
      obtain rfl := Option.some.inj hb
      refine ⟨_, hnew, fun t => ?_, fun hlt => absurd h.size (by omega)⟩
      have := hc ([w.heap.size] ++ t)
      rw [← List.append_assoc] at this
      dsimp only
      rw [Array.getElem?_push, if_pos rfl, this]
    · obtain ⟨k, hk, hw, ho⟩ := h.bxs i b hb
      refine ⟨k, app_get hk _, fun t => ?_, ho⟩
      have h1 := hw ([w.heap.size] ++ t)
      rw [← List.append_assoc] at h1
      dsimp only
      rw [push_get w _ k (h.fresh k (List.mem_of_getElem? hk))]; exact h1
  · intro k hk
    rcases List.mem_append.1 hk with hk | hk
    · exact h.own0 k hk
    · simp only [List.mem_singleton] at hk; subst hk; exact Nat.le_trans h.size0 h.size
  · have := h.size; simp; omega
  · intro k hk
    simp only [Array.size_push]
    rcases List.mem_append.1 hk with hk | hk
    · have := h.fresh k hk; omega
    · simp only [List.mem_singleton] at hk; omega
  · intro k hk hn
    dsimp only
    rw [push_get w _ k (by have := h.size; omega)]
    refine h.old k hk fun i b hb hz e => hn i b ?_ hz (app_get e _)
    simp only [Eng.newB]
    rw [lk_cons, if_neg (by have := h.lk_lt hb; omega)]; exact hb
  · intro k hk hL
    dsimp only
    rw [push_get w _ k (by have := h.size; have := h.size0; omega)]
    exact h.base k hk hL

/-- A new box changes nothing that stood. -/
theorem Tr.newB {A : List Nat → List Nat → Prop} (h : Sat C g s a w m) {a' : Act} {d : Option Tmp} {ty : Nat} {cells : List SC} {fz : Bool} (s' : St) (hs' : s'.bx = (s.nb, ⟨ty, cells, fz⟩) :: s.bx)
    (ht : ∀ u, d ≠ some u → a'.tmps[u]? = a.tmps[u]?) (hA : ∀ fb fl, A fb fl → s.nb ∉ fb) :
    Tr C A g s a w m d g s' a' { w with heap := w.heap.push (.cells (vals m cells) ty (0, 0)) } (m ++ [w.heap.size]) := by
  refine ⟨by simp, fun N hN h0 hm ho => ⟨push_get _ _ _ hN, ho, ?_⟩, ht, fun fb fl hA' => ⟨fun w2 h2 => ?_, fun h2 => ?_⟩⟩
  · simp [hm]; omega
  · refine ⟨fun i hi b hb => ?_, h2.2⟩
    have hne : s.nb ≠ i := fun e => hA fb fl hA' (e ▸ hi)
    obtain ⟨k, hk, hw⟩ := h2.1 i hi b (by rw [hs', lk_cons, if_neg hne]; exact hb)
    obtain ⟨k0, hk0, hw0, _⟩ := h.bxs i b hb
    have e := app_get hk0 [w.heap.size]
    rw [hk] at e
    obtain rfl := Option.some.inj e
    have e1 := hw0 [w.heap.size]
    have e2 := hw0 []
    rw [e1, List.append_nil] at e2
    simp only [Option.some.injEq, Obj.cells.injEq, and_true] at e2
    exact ⟨k, hk0, by rw [hw, e2]⟩
  · refine ⟨fun i hi b hb => ?_, fun k hk hl => ?_⟩
    · have hne : s.nb ≠ i := fun e => hA fb fl hA' (e ▸ hi)
      rw [hs', lk_cons, if_neg hne] at hb
      obtain ⟨k0, hk0, hw0, _⟩ := h.bxs i b hb
      exact ⟨k0, app_get hk0 _, by dsimp only; rw [push_get _ _ _ (h.fresh k0 (List.mem_of_getElem? hk0))]; exact hw0 _⟩
    · dsimp only
      rw [push_get _ _ _ (by have := h.size; omega)]
      exact h2.2 k hk hl

theorem run_newVar (t : Nat) (v : Value) (w : World) : (newVar t v).run C.P w = .ok ⟨w.heap.size, 0, none⟩ { w with heap := w.heap.push (.cells v.cells t (0, 0)) } := by
  simp [newVar, newRow]

theorem vals_map_v' (m : List Nat) (cs : List Value) : vals m (cs.map .v) = cs.toArray := by
  have := vals_map_v m cs.toArray; simpa using this

theorem bp_val (m t : List Nat) (N i : Nat) (hl : m.length = i) : (SV.c (.bp i 0)).val ((m ++ [N]) ++ t) = .pointer (some ⟨N, 0, none⟩) := by
  subst hl
  simp [SV.val, SC.val]

def NoNew (s : St) (fb _fl : List Nat) : Prop := s.nb ∉ fb

theorem chg_alloc {T : Tab} (hT : TabOk C.P T) {o : Oper} {t : Nat} {d : TD} (ho : o.op = .alloc t) (hd : T t = some d) (hdst : okDst C.n s o.dst = true) :
    Chg C (NoNew s) g s o fun g' s' => g' = g ∧ s' = putE (newB s t (d.zero.map .v) false) o.dst (.c (.bp s.nb 0)) := by
  intro a w m hs K Q hk
  obtain ⟨i, u, hi, hu, hsz, hag, hz, hzl, hone, _⟩ := hT.ok t d hd
  have hcs : ∀ t, vals (m ++ t) (d.zero.map .v) = vals m (d.zero.map .v) := fun t => by rw [vals_map_v', vals_map_v']
  have hcells : (bif d.agg then Value.agg d.zero.toArray else d.zero.headD undef).cells = vals m (d.zero.map .v) := by
    rw [vals_map_v']
    cases hag' : d.agg
    · obtain ⟨h1, h2⟩ := hone hag'
      simp only [cond_false]
      rw [h2]
      rw [h1] at hzl
      match hq : d.zero, hzl with
      | [x], _ => rfl
    · rfl
  have hr : (execOp a.eval o).run C.P w = .ok (.value (.pointer (some ⟨w.heap.size, 0, none⟩))) { w with heap := w.heap.push (.cells (vals m (d.zero.map .v)) t (0, 0)) } := by
    simp only [execOp, ho, Instr.alloc]
    rw [Sem.run_bind, Sem.run_bind, run_zero hi hz, Result.andThen_ok]
    simp only [Sem.run_bind, run_newVar, Result.andThen_ok, Sem.run_pure, hcells]
  unfold Oper.wp
  rw [hr]
  have h1 := hs.newB t (d.zero.map .v) false hcs
  exact hk g _ _ _ _ ⟨rfl, rfl⟩ (h1.put hdst rfl fun t => bp_val m t _ _ hs.len) (Tr.newB hs _ (by cases o.dst <;> rfl) (fun u hu => put_tmps hu) fun _ _ h => h)

/-- The cells of a value that is boxed. -/
def cellsOf : SV → Option (List SC)
  | .c x => bif nag x then some [x] else none
  | .ag l => some l
  | _ => none

theorem cellsOf_ok {x : SV} {l : List SC} (h : cellsOf x = some l) (m : List Nat) : (x.val m).cells = vals m l := by
  cases x with
  | c x =>
    simp only [cellsOf] at h
    cases hn : nag x
    · rw [hn] at h; cases h
    · rw [hn] at h
      simp only [cond_true, Option.some.injEq] at h
      subst h
      exact nag_cells hn m
  | ag l' => simp only [cellsOf, Option.some.injEq] at h; subst h; rfl
  | tp => cases h
  | gd => cases h

theorem vals_of_val {x : SV} {l : List SC} (h : cellsOf x = some l) {m : List Nat} (hv : ∀ t, x.val (m ++ t) = x.val m) (t : List Nat) : vals (m ++ t) l = vals m l := by
  rw [← cellsOf_ok h, ← cellsOf_ok h, hv]

theorem Sat.ev (hs : Sat C g s a w m) {x : Operand} {v : SV} (h : evg [] s.env x = some v) : a.eval x = v.val m ∧ ∀ t, v.val (m ++ t) = v.val m := by
  have h0 := fun t => evg_ok (gs := []) (hs.env t) (fun p hp => absurd hp (by simp)) h
  have h1 := h0 []
  rw [List.append_nil] at h1
  exact ⟨h1, fun t => by rw [← h1, h0 t]⟩

theorem chg_box {o : Oper} {t : Nat} {x : Operand} {v : SV} {l : List SC} (ho : o.op = .box t x) (hv : evg [] s.env x = some v) (hl : cellsOf v = some l) (hdst : okDst C.n s o.dst = true) :
    Chg C (NoNew s) g s o fun g' s' => g' = g ∧ s' = putE (newB s t l false) o.dst (.c (.bp s.nb 0)) := by
  intro a w m hs K Q hk
  obtain ⟨he, hvv⟩ := hs.ev hv
  have hcs := vals_of_val hl hvv
  have hr : (execOp a.eval o).run C.P w = .ok (.value (.pointer (some ⟨w.heap.size, 0, none⟩))) { w with heap := w.heap.push (.cells (vals m l) t (0, 0)) } := by
    simp only [execOp, ho, Instr.box, he]
    simp only [Sem.run_bind, run_newVar, Result.andThen_ok, Sem.run_pure, cellsOf_ok hl]
  unfold Oper.wp
  rw [hr]
  have h1 := hs.newB t l false hcs
  exact hk g _ _ _ _ ⟨rfl, rfl⟩ (h1.put hdst rfl fun t => bp_val m t _ _ hs.len) (Tr.newB hs _ (by cases o.dst <;> rfl) (fun u hu => put_tmps hu) fun _ _ h => h)

/-! ### A store into a box -/

/-- Block k, turned. -/
def wset (w : World) (k : Nat) (o : Obj) : World := { w with heap := w.heap.setIfInBounds k o }

theorem setCell_eq {w : World} {k : Nat} {cs : Array Value} {ty : Nat} (h : w.heap[k]? = some (.cells cs ty (0, 0))) (j : Nat) (v : Value) :
    w.setCell ⟨k, j, none⟩ v = wset w k (.cells (cs.setIfInBounds j v) ty (0, 0)) := by
  unfold World.setCell wset
  congr 1
  apply Array.ext_getElem?
  intro i
  rw [Array.getElem?_modify]
  by_cases hik : k = i
  · subst hik
    have hlt := (Array.getElem?_eq_some_iff.1 h).1
    rw [if_pos rfl, h, Array.getElem?_setIfInBounds_self_of_lt hlt]
    rfl
  · rw [if_neg hik, Array.getElem?_setIfInBounds_ne hik]

theorem wset_get {w : World} {k : Nat} {o o' : Obj} (h : w.heap[k]? = some o') : (wset w k o).heap[k]? = some o := by
  have hlt := (Array.getElem?_eq_some_iff.1 h).1
  simp [wset, hlt]
theorem wset_ne {w : World} {k i : Nat} {o : Obj} (h : k ≠ i) : (wset w k o).heap[i]? = w.heap[i]? := by
  simp [wset, Array.getElem?_setIfInBounds_ne h]
theorem wset_wset (w : World) (k : Nat) (o o' : Obj) : wset (wset w k o) k o' = wset w k o' := by
  simp [wset]
theorem wset_size (w : World) (k : Nat) (o : Obj) : (wset w k o).heap.size = w.heap.size := by simp [wset]

theorem run_storeCells {k off ty : Nat} : ∀ (l : List SC) (i : Nat) (cells : List SC) (w : World), w.heap[k]? = some (.cells (vals m cells) ty (0, 0)) → off + i + l.length ≤ cells.length → (∀ x ∈ l, nag x = true) →
    ∃ cells', cells'.length = cells.length ∧ (∀ j, cells'[j]? = if off + i ≤ j ∧ j < off + i + l.length then l[j - (off + i)]? else cells[j]?) ∧
      (storeCells ⟨k, off, none⟩ (l.map (SC.val m)) i).run C.P w = .ok () (wset w k (.cells (vals m cells') ty (0, 0)))
  | [], i, cells, w, h, _, _ => by
    refine ⟨cells, rfl, fun j => by rw [if_neg (by simp)], ?_⟩
    have e : wset w k (.cells (vals m cells) ty (0, 0)) = w := by
      have : w.heap.setIfInBounds k (.cells (vals m cells) ty (0, 0)) = w.heap := by
        apply Array.ext_getElem?
        intro i
        by_cases hik : k = i
        · subst hik
          have hlt := (Array.getElem?_eq_some_iff.1 h).1
          rw [Array.getElem?_setIfInBounds_self_of_lt hlt, h]
        · rw [Array.getElem?_setIfInBounds_ne hik]
      unfold wset
      rw [this]
    simp only [List.map_nil, storeCells, Sem.run_pure, e]
  | x :: l, i, cells, w, h, hle, hn => by
    simp only [List.length_cons] at hle
    have hx : cells[off + i]? = some (cells[off + i]'(by omega)) := List.getElem?_eq_getElem _
    have hc : w.cell? ((⟨k, off, none⟩ : Addr).add i) = some ((cells[off + i]'(by omega)).val m) := by
      rw [add_plain, cell_box h, vals_get, hx]; rfl
    have hf : w.frozen? ((⟨k, off, none⟩ : Addr).add i) = false := by
      rw [add_plain]; simp [World.frozen?, h]
    have hset : (vals m cells).setIfInBounds (off + i) (x.val m) = vals m (cells.set (off + i) x) := by
      apply Array.ext_getElem?
      intro j
      rw [vals_get]
      by_cases hj : off + i = j
      · subst hj
        rw [Array.getElem?_setIfInBounds_self_of_lt (by rw [vals_length]; omega), List.getElem?_set_self (by omega)]; rfl
      · rw [Array.getElem?_setIfInBounds_ne hj, List.getElem?_set_ne hj, vals_get]
    have hst : (store ((⟨k, off, none⟩ : Addr).add i) (x.val m)).run C.P w = .ok () (wset w k (.cells (vals m (cells.set (off + i) x)) ty (0, 0))) := by
      rw [run_store _ _ _ _ _ (nag_one (hn x (by simp)) m), hc]
      simp only [hf, Bool.false_eq_true, if_false]
      rw [add_plain, setCell_eq h, hset]
    obtain ⟨cells', hl', hg', hr'⟩ := run_storeCells (k := k) (off := off) (ty := ty) l (i + 1) (cells.set (off + i) x) (wset w k (.cells (vals m (cells.set (off + i) x)) ty (0, 0))) (wset_get h) (by simp; omega) (fun y hy => hn y (by simp [hy]))
    refine ⟨cells', by simpa using hl', fun j => ?_, ?_⟩
    · rw [hg' j]
      simp only [List.length_cons]
      by_cases h1 : off + (i + 1) ≤ j ∧ j < off + (i + 1) + l.length
      · rw [if_pos h1, if_pos (by omega)]
        have : j - (off + i) = (j - (off + (i + 1))) + 1 := by omega
        rw [this]; simp
      · rw [if_neg h1]
        by_cases h2 : j = off + i
        · subst h2
          rw [if_pos (by omega)]
          rw [List.getElem?_set_self (by omega)]
          simp
        · rw [if_neg (by omega), List.getElem?_set_ne (by omega)]
    · simp only [List.map_cons, storeCells, Sem.run_bind, hst, Result.andThen_ok, hr', wset_wset]

theorem run_store_box {T : Tab} (hT : TabOk C.P T) {t k off ty : Nat} {d : TD} (hd : T t = some d) {w : World} {cells l : List SC} {v : Value} (h : w.heap[k]? = some (.cells (vals m cells) ty (0, 0)))
    (hv : v.cells = vals m l) (hl : l.length = d.size) (hle : off + l.length ≤ cells.length) (hn : ∀ x ∈ l, nag x = true) :
    (Instr.storeAt t (.pointer (some ⟨k, off, none⟩)) v).run C.P w = .ok () (wset w k (.cells (vals m (setAt cells off l)) ty (0, 0))) := by
  obtain ⟨i, u, hi, hu, hs, _⟩ := hT.ok t d hd
  obtain ⟨cells', hl', hg', hr'⟩ := run_storeCells (C := C) (m := m) (k := k) (off := off) (ty := ty) l 0 cells w h (by omega) hn
  have e : cells' = setAt cells off l := by
    apply List.ext_getElem?
    intro j
    rw [hg' j, setAt_get _ _ _ _ hle]
    simp
  unfold Instr.storeAt Instr.sureAddr storeVar sizeOf
  simp only [pure_bind, Sem.run_bind, rti hi, Result.andThen_ok, Sem.run_pure, hv, vals_length, hs, hl, ne_eq, not_true_eq_false, if_false]
  have e2 : (vals m l).toList = l.map (SC.val m) := by simp [vals]
  rw [e2, hr', e]

theorem lk_setb (i : Nat) (b : Bx) : ∀ (bx : List (Nat × Bx)) (b0 : Bx) (j : Nat), lk bx i = some b0 → lk (setb i b bx) j = if j = i then some b else lk bx j
  | [], _, _, h => by cases h
  | (k, x) :: r, b0, j, h => by
    simp only [setb]
    by_cases hk : k = i
    · subst hk
      simp only [beq_self_eq_true, cond_true]
      rw [lk_cons, lk_cons]
      by_cases hj : k = j
      · subst hj; simp
      · rw [if_neg hj, if_neg (fun e => hj e.symm), if_neg hj]
    · have hb : (k == i) = false := by simpa using hk
      rw [hb, cond_false]
      rw [lk_cons, if_neg hk] at h
      rw [lk_cons, lk_cons]
      by_cases hj : k = j
      · subst hj; rw [if_pos rfl, if_neg hk, if_pos rfl]
      · rw [if_neg hj, if_neg hj]; exact lk_setb i b r b0 j h

theorem nd_inj {m : List Nat} (h : m.Nodup) {i j k : Nat} (hi : m[i]? = some k) (hj : m[j]? = some k) : i = j := by
  obtain ⟨h1, e1⟩ := List.getElem?_eq_some_iff.1 hi
  obtain ⟨h2, e2⟩ := List.getElem?_eq_some_iff.1 hj
  rcases Nat.lt_trichotomy i j with hlt | he | hgt
  · exact absurd (e1.trans e2.symm) (List.pairwise_iff_getElem.1 h i j h1 h2 hlt)
  · exact he
  · exact absurd (e2.trans e1.symm) (List.pairwise_iff_getElem.1 h j i h2 h1 hgt)

def setB (s : St) (i : Nat) (b : Bx) : St := { s with bx := setb i b s.bx }

theorem Sat.setB (h : Sat C g s a w m) {i k : Nat} {b0 : Bx} (hb : lk s.bx i = some b0) (hk : m[i]? = some k) (hfz : b0.fz = false) (cells : List SC) (hc : ∀ t, vals (m ++ t) cells = vals m cells) :
    Sat C g (setB s i ⟨b0.ty, cells, b0.fz⟩) a (wset w k (.cells (vals m cells) b0.ty (0, 0))) m := by
  obtain ⟨k', hk', hw', ho'⟩ := h.bxs i b0 hb
  rw [hk] at hk'
  obtain rfl := Option.some.inj hk'
  have hkm := List.mem_of_getElem? hk
  refine ⟨h.pre, h.len, h.dfs, h.tmps, h.env, h.gl, h.nd, ?_, fun j hj => ?_, h.own0, by rw [wset_size]; exact h.size, h.size0, by rw [wset_size]; exact h.fresh, ?_, ?_, h.own, h.wf, h.os, h.tape, h.out⟩
  · intro j b hj
    simp only [Eng.setB] at hj
    rw [lk_setb i _ s.bx b0 j hb] at hj
    split at hj
    · rename_i e
      subst e
      obtain rfl := Option.some.inj hj
      refine ⟨k, hk, fun t => ?_, ho'⟩
      rw [wset_get (hw' [])]; dsimp only; rw [hc t]
    · rename_i hne
      obtain ⟨k2, hk2, hw2, ho2⟩ := h.bxs j b hj
      refine ⟨k2, hk2, fun t => ?_, ho2⟩
      rw [wset_ne (fun e => hne (nd_inj h.nd (by rw [e]; exact hk2) hk))]
      exact hw2 t
  · simp only [Eng.setB]
    rw [lk_setb i _ s.bx b0 j hb]
    by_cases e : j = i
    · exact ⟨_, if_pos e⟩
    · obtain ⟨b, hb'⟩ := h.full j hj
      exact ⟨b, by rw [if_neg e]; exact hb'⟩
  · intro j hj hn
    have hne : k ≠ j := fun e => hn i ⟨b0.ty, cells, b0.fz⟩ (by simp only [Eng.setB]; rw [lk_setb i _ s.bx b0 i hb, if_pos rfl]) hfz (e ▸ hk)
    rw [wset_ne hne]
    refine h.old j hj fun j2 b hb2 hz2 e2 => ?_
    by_cases hj2 : j2 = i
    · subst hj2; rw [hk] at e2; exact hne (Option.some.inj e2)
    · exact hn j2 b (by simp only [Eng.setB]; rw [lk_setb i _ s.bx b0 j2 hb, if_neg hj2]; exact hb2) hz2 e2
  · intro j hj hL
    rw [wset_ne (fun e => absurd (h.own0 k hkm) (by omega))]
    exact h.base j hj hL

def NoSt (i : Nat) (g : G) (fb fl : List Nat) : Prop := i ∉ fb ∧ 1 ∉ fl ∧ g = g

theorem chg_store {T : Tab} (hT : TabOk C.P T) {o : Oper} {t i off : Nat} {p x : Operand} {v : SV} {l : List SC} {b : Bx} {d : TD} (ho : o.op = .store t p x) (hp : evg [] s.env p = some (.c (.bp i off))) (hb : lk s.bx i = some b)
    (hfz : b.fz = false) (hv : evg [] s.env x = some v) (hl : cellsOf v = some l) (hd : T t = some d) (hsz : l.length = d.size) (hle : off + l.length ≤ b.cells.length) (hn : l.all nag = true) (hdst : o.dst = none) :
    Chg C (NoSt i g) g s o fun g' s' => g' = g ∧ s' = setB s i ⟨b.ty, setAt b.cells off l, b.fz⟩ := by
  intro a w m hs K Q hk
  obtain ⟨he, hvv⟩ := hs.ev hv
  obtain ⟨hep, _⟩ := hs.ev hp
  have hcs := vals_of_val hl hvv
  obtain ⟨k, hki, hw, hown⟩ := hs.bxs i b hb
  have hw0 := hw []
  rw [List.append_nil] at hw0
  have hn' : ∀ y ∈ l, nag y = true := List.all_eq_true.1 hn
  have hr : (execOp a.eval o).run C.P w = .ok .skip (wset w k (.cells (vals m (setAt b.cells off l)) b.ty (0, 0))) := by
    simp only [execOp, ho, hep, SV.val, SC.val, getElem?_getD hki]
    rw [Sem.run_bind, run_store_box hT hd hw0 (by rw [he]; exact cellsOf_ok hl m) hsz hle hn']
    rfl
  have hbc : ∀ t, vals (m ++ t) b.cells = vals m b.cells := fun t => by
    have e1 := hw t
    rw [hw0] at e1
    simp only [Option.some.injEq, Obj.cells.injEq, and_true] at e1
    exact e1.symm
  have hcells : ∀ t, vals (m ++ t) (setAt b.cells off l) = vals m (setAt b.cells off l) := fun t => by
    apply Array.ext_getElem?
    intro j
    have h1 := congrArg (·[j]?) (hbc t)
    have h2 := congrArg (·[j - off]?) (hcs t)
    simp only [vals_get] at h1 h2 ⊢
    rw [setAt_get _ _ _ _ hle]
    split
    · exact h2
    · exact h1
  have hS := hs.setB hb hki hfz (setAt b.cells off l) hcells
  unfold Oper.wp
  rw [hr]
  have hput : a.put o.dst undef = a := by rw [hdst]; rfl
  show K (a.put o.dst undef) _
  rw [hput]
  refine hk g _ a _ m ⟨rfl, rfl⟩ hS ⟨by rw [wset_size]; exact Nat.le_refl _, fun N hN h0 hm ho => ⟨wset_ne (fun e => hm (e ▸ List.mem_of_getElem? hki)), ho, hm⟩, fun _ _ => rfl, fun fb fl hA => ?_⟩
  have hkey : ∀ j ∈ fb, ∀ b', lk s.bx j = some b' ↔ lk (Eng.setB s i ⟨b.ty, setAt b.cells off l, b.fz⟩).bx j = some b' := fun j hj b' => by
    simp only [Eng.setB]
    rw [lk_setb i _ s.bx b j hb, if_neg (fun e => hA.1 (by rw [← e]; exact hj))]
  refine ⟨fun w2 h2 => ⟨fun j hj b' hb' => h2.1 j hj b' ((hkey j hj b').1 hb'), h2.2⟩, fun h2 => ⟨fun j hj b' hb' => ?_, fun j hj hfl => ?_⟩⟩
  · obtain ⟨k2, hk2, hw2⟩ := h2.1 j hj b' ((hkey j hj b').2 hb')
    exact ⟨k2, hk2, by rw [wset_ne (fun e => hA.1 (by rw [← nd_inj hs.nd (by rw [e]; exact hk2) hki]; exact hj))]; exact hw2⟩
  · have hne : k ≠ j := fun e => by
      have := hown (by omega)
      rw [hfz, cond_false, e] at this
      rw [this] at hfl
      exact hA.2.1 hfl
    rw [wset_ne hne]
    exact h2.2 j hj hfl
end
end Go.Eng

/- A slice's literal; the run of what needs no help. -/
namespace Go.Eng
open Go

def repl {α : Type} : Nat → List α → List α
  | 0, _ => []
  | n + 1, l => l ++ repl n l

theorem repl_length {α : Type} (l : List α) : ∀ n, (repl n l).length = n * l.length
  | 0 => by simp [repl]
  | n + 1 => by simp [repl, repl_length l n, Nat.succ_mul, Nat.add_comm]

theorem repl_get {α : Type} (l : List α) : ∀ (n j : Nat), j < n * l.length → (repl n l)[j]? = l[j % l.length]?
  | 0, j, h => by simp at h
  | n + 1, j, h => by
    simp only [repl]
    by_cases hj : j < l.length
    · rw [List.getElem?_append_left hj, Nat.mod_eq_of_lt hj]
    · rw [List.getElem?_append_right (by omega), repl_get l n (j - l.length) (by rw [Nat.succ_mul] at h; omega), ← Nat.mod_eq_sub_mod (by omega)]

def fillB (T : Tab) (env : List (Nat × SV)) (sz n : Nat) : List (Nat × Operand) → List SC → Option (List SC)
  | [], cells => some cells
  | (j, x) :: r, cells => match (evg [] env x).bind cellsOf with
    | some l => bif decide (l.length = sz) && decide (j * sz + sz ≤ n) then fillB T env sz n r (setAt cells (j * sz) l) else none
    | none => none

section
variable {C : Ctx} {g : G} {s : St} {a : Act} {w : World} {m : List Nat}

theorem fillB_ok (hs : Sat C g s a w m) {T : Tab} {sz n : Nat} : ∀ (ps : List (Nat × Operand)) (cells out : List SC), cells.length = n → (∀ t, vals (m ++ t) cells = vals m cells) → fillB T s.env sz n ps cells = some out →
    Instr.fill (fun i => some (i * sz, sz)) (vals m cells) (ps.map fun x => (x.1, a.eval x.2)) = some (vals m out) ∧ out.length = n ∧ ∀ t, vals (m ++ t) out = vals m out
  | [], cells, out, hl, hc, h => by
    simp only [fillB, Option.some.injEq] at h
    subst h
    exact ⟨rfl, hl, hc⟩
  | (j, x) :: r, cells, out, hl, hc, h => by
    simp only [fillB] at h
    split at h
    · rename_i l hx
      rw [Option.bind_eq_some_iff] at hx
      obtain ⟨v, hv, hvl⟩ := hx
      obtain ⟨he, hvv⟩ := hs.ev hv
      have hcs := vals_of_val hvl hvv
      cases hcc : decide (l.length = sz) && decide (j * sz + sz ≤ n)
      · rw [hcc] at h; cases h
      · rw [hcc, cond_true] at h
        simp only [Bool.and_eq_true, decide_eq_true_eq] at hcc
        have hle : j * sz + l.length ≤ cells.length := by rw [hl, hcc.1]; exact hcc.2
        have hcells : ∀ t, vals (m ++ t) (setAt cells (j * sz) l) = vals m (setAt cells (j * sz) l) := fun t => by
          apply Array.ext_getElem?
          intro i
          have h1 := congrArg (·[i]?) (hc t)
          have h2 := congrArg (·[i - j * sz]?) (hcs t)
          simp only [vals_get] at h1 h2 ⊢
          rw [setAt_get _ _ _ _ hle]
          split
          · exact h2
          · exact h1
        have ih := fillB_ok hs r _ out (by rw [setAt_size]; exact hl) hcells h
        refine ⟨?_, ih.2⟩
        simp only [List.map_cons, Instr.fill]
        rw [he, cellsOf_ok hvl, if_neg]
        · rw [fold_set m cells (j * sz) l hle]; exact ih.1
        · simp [vals, hcc.1]; omega
    · cases h

theorem chg_bslice {T : Tab} (hT : TabOk C.P T) {o : Oper} {t n : Nat} {ps : Array (Nat × Operand)} {d de : TD} {out : List SC} (ho : o.op = .buildSlice t n ps) (hd : T t = some d) (hcl : d.cl = 1) (hde : T d.el = some de) (hnz : de.size ≠ 0)
    (hn : decide (n * de.size ≤ 16777216) = true) (hf : fillB T s.env de.size (n * de.size) ps.toList (repl n (de.zero.map .v)) = some out) (hdst : okDst C.n s o.dst = true) :
    Chg C (NoNew s) g s o fun g' s' => g' = g ∧ s' = putE (newB s d.el out true) o.dst (.c (.bs s.nb n n)) := by
  intro a w m hs K Q hk
  obtain ⟨_, u, _, hu, _, _, _, _, _, _, _, hsl, _⟩ := hT.ok t d hd
  obtain ⟨i, ue, hi, hue, hsz, hag, hz, hzl, hone, _⟩ := hT.ok d.el de hde
  have hn' : n * de.size ≤ 16777216 := of_decide_eq_true hn
  have hc0 : ∀ t, vals (m ++ t) (repl n (de.zero.map .v)) = vals m (repl n (de.zero.map .v)) := fun t => by
    have : ∀ m' : List Nat, ∀ n, vals m' (repl n (de.zero.map .v)) = (repl n de.zero).toArray := by
      intro m' n
      induction n with
      | zero => rfl
      | succ n ih =>
        have e : vals m' (repl (n + 1) (de.zero.map .v)) = vals m' (de.zero.map .v) ++ vals m' (repl n (de.zero.map .v)) := by simp [repl, vals]
        rw [e, ih, vals_map_v']; simp [repl]
    rw [this, this]
  have hlen : (repl n (de.zero.map SC.v)).length = n * de.size := by rw [repl_length]; simp [hzl]
  obtain ⟨hfill, _, hco⟩ := fillB_ok hs ps.toList _ out hlen hc0 hf
  have hzc : (bif de.agg then Value.agg de.zero.toArray else de.zero.headD undef).cells = de.zero.toArray := by
    cases hag' : de.agg
    · obtain ⟨h1, h2⟩ := hone hag'
      simp only [cond_false]
      rw [h2]
      rw [h1] at hzl
      match hq : de.zero, hzl with
      | [x], _ => rfl
    · rfl
  have hinit : ((Array.range (n * de.size)).map fun x => (de.zero.toArray)[x % de.zero.toArray.size]!) = vals m (repl n (de.zero.map .v)) := by
    apply Array.ext_getElem?
    intro j
    rw [vals_get]
    by_cases hj : j < n * de.size
    · have e0 : (de.zero.map SC.v).length = de.size := by simp [hzl]
      rw [repl_get _ _ _ (by rw [e0]; exact hj), e0]
      have hlt : j % de.size < de.zero.length := by rw [hzl]; exact Nat.mod_lt _ (by omega)
      simp [hj, hzl, List.getElem?_eq_getElem hlt, SC.val]
    · rw [List.getElem?_eq_none (by rw [hlen]; omega)]
      simp [hj]
  have hr : (execOp a.eval o).run C.P w = .ok (.value (.slice (some ⟨w.heap.size, 0, none⟩) n n)) { w with heap := w.heap.push (.cells (vals m out) d.el (0, 0)) } := by
    simp only [execOp, ho]
    rw [Sem.run_bind]
    unfold Instr.buildSlice
    rw [Sem.run_bind, run_underlying hu, Result.andThen_ok, hsl hcl]
    simp only []
    have hsize : (sizeOf d.el).run C.P w = .ok de.size w := by simp [sizeOf, rti hi, hsz]
    rw [Sem.run_bind, hsize, Result.andThen_ok, if_neg (by omega)]
    have e2 : (ps.map fun (x : Nat × Operand) => (x.1, a.eval x.2)).toList = ps.toList.map fun x => (x.1, a.eval x.2) := by simp
    by_cases hz0 : n * de.size = 0
    · simp only [hz0, if_true, Sem.run_bind, Sem.run_pure, Result.andThen_ok]
      have : ((Array.range 0).map fun x => ((#[] : Array Value))[x % (#[] : Array Value).size]!) = vals m (repl n (de.zero.map .v)) := by
        rw [← hinit, hz0]; simp
      rw [this, e2, hfill]
      simp [newRow]
    · simp only [hz0, if_false, Sem.run_bind, run_zero hi hz, Result.andThen_ok, Sem.run_pure, hzc, hinit]
      rw [e2, hfill]
      simp [newRow]
  unfold Oper.wp
  rw [hr]
  have h1 := hs.newB d.el out true hco
  exact hk g _ _ _ _ ⟨rfl, rfl⟩ (h1.put hdst rfl fun t => by simp [SV.val, SC.val, ← hs.len]) (Tr.newB hs _ (by cases o.dst <;> rfl) (fun u hu => put_tmps hu) fun _ _ h => h)
end
end Go.Eng
