/- Terms, and lists of plain things, in memory. Whole numbers as floats. Builtins, conversions, floats. Whole floats, subtracted and negated. Single operators; slices of slices; floats, further. Lists of terms, further; containers and tickets in memory. Scopes, jumps; append to a row that is full. copy, within rows. Operations that a guard leaves out, where the order is drawn. Loops, round by round; arrays by value. A store into an object, where the order is drawn. -/
import Derived.Test.YtobhfopgoidniaaGreatEC
import Derived.Laws.FloatArith
import GoSem.Op.Unary
set_option linter.all false
set_option linter.unusedVariables false
set_option linter.unusedSimpArgs false
set_option exponentiation.threshold 2000

/- Terms, and lists of plain things, in memory. -/
namespace Go.Eng
open Go

/-- A term. -/
inductive T where
  | mk (k : Int) (s : ByteArray) (n : Int) (l : List T)

def T.k : T → Int | .mk k _ _ _ => k
def T.s : T → ByteArray | .mk _ s _ _ => s
def T.n : T → Int | .mk _ _ n _ => n
def T.l : T → List T | .mk _ _ _ l => l
theorem T.eta (t : T) : T.mk t.k t.s t.n t.l = t := by cases t; rfl

/-- Where a slice begins, and its room. -/
structure Hd where
  a : Option Addr
  cap : Nat

/-- A term's cells, its list being at h. -/
def tc (t : T) (h : Hd) : List Value := [.int .i64 t.k, .string t.s, .int .i64 t.n, .slice h.a t.l.length h.cap]
def tv (t : T) (h : Hd) : Value := .agg (tc t h).toArray

/-- A row of terms begins at a. -/
inductive TsIs (g : G) : Option Addr → List T → Prop
  | nil {a : Option Addr} : TsIs g a []
  | cons {b off : Nat} {t : T} {h : Hd} {r : List T} : Cs g 0 b off (tc t h) → TsIs g h.a t.l → t.l.length ≤ h.cap → h.cap ≤ maxLen → t.s.size ≤ maxLen → TsIs g (some ⟨b, off + 4, none⟩) r → TsIs g (some ⟨b, off, none⟩) (t :: r)

/-- A term in memory: its list is at h. -/
structure TOk (g : G) (t : T) (h : Hd) : Prop where
  row : TsIs g h.a t.l
  len : t.l.length ≤ h.cap
  cap : h.cap ≤ maxLen
  str : t.s.size ≤ maxLen

/-- A list of terms. -/
structure LOk (g : G) (l : List T) (h : Hd) : Prop where
  row : TsIs g h.a l
  len : l.length ≤ h.cap
  cap : h.cap ≤ maxLen

theorem Cs.to {g g' : G} [hl : Later g g'] {b off : Nat} {vs : List Value} (h : Cs g 0 b off vs) : Cs g' 0 b off vs := by
  obtain ⟨h1, h2, h3⟩ := h
  obtain ⟨k1, k2⟩ := hl.keep b h1 h2
  exact ⟨Nat.lt_of_lt_of_le h1 hl.size, k1, fun j v hj => by rw [cell_same k2]; exact h3 j v hj⟩

theorem TsIs.to {g g' : G} [hl : Later g g'] {a : Option Addr} {l : List T} (h : TsIs g a l) : TsIs g' a l := by
  induction h with
  | nil => exact .nil
  | cons h1 _ h2 h3 h4 _ ih1 ih2 => exact .cons h1.to ih1 h2 h3 h4 ih2

theorem TOk.to {g g' : G} [hl : Later g g'] {t : T} {h : Hd} (k : TOk g t h) : TOk g' t h := ⟨k.row.to, k.len, k.cap, k.str⟩
theorem LOk.to {g g' : G} [hl : Later g g'] {l : List T} {h : Hd} (k : LOk g l h) : LOk g' l h := ⟨k.row.to, k.len, k.cap⟩

theorem TsIs.get {g : G} {a : Option Addr} {l : List T} (h : TsIs g a l) : ∀ (i : Nat) (t : T), l[i]? = some t → ∃ b off h', a = some ⟨b, off, none⟩ ∧ Cs g 0 b (off + i * 4) (tc t h') ∧ TOk g t h' := by
  induction h with
  | nil => intro i t hi; cases hi
  | @cons b off t h r h1 h2 h3 h4 h5 _ _ ih =>
    intro i t' hi
    cases i with
    | zero => obtain rfl := Option.some.inj hi; exact ⟨b, off, h, rfl, by simpa using h1, h2, h3, h4, h5⟩
    | succ i =>
      obtain ⟨b', off', h', e, hc, ht⟩ := ih i t' hi
      obtain ⟨rfl, rfl, _⟩ := Addr.mk.inj (Option.some.inj e)
      exact ⟨b, off, h', rfl, by have : off + (i + 1) * 4 = off + 4 + i * 4 := by omega
                                 rw [this]; exact hc, ht⟩

theorem TsIs.drop {g : G} {a : Option Addr} {l : List T} (h : TsIs g a l) : ∀ (i : Nat), i < l.length → ∃ b off, a = some ⟨b, off, none⟩ ∧ TsIs g (some ⟨b, off + i * 4, none⟩) (l.drop i) := by
  induction h with
  | nil => intro i hi; cases hi
  | @cons b off t h r h1 h2 h3 h4 h5 h6 _ ih =>
    intro i hi
    cases i with
    | zero => exact ⟨b, off, rfl, by simpa using TsIs.cons h1 h2 h3 h4 h5 h6⟩
    | succ i =>
      obtain ⟨b', off', e, hd⟩ := ih i (by simpa using hi)
      obtain ⟨rfl, rfl, _⟩ := Addr.mk.inj (Option.some.inj e)
      exact ⟨b, off, rfl, by have : off + (i + 1) * 4 = off + 4 + i * 4 := by omega
                             rw [this]; simpa using hd⟩

/-- The other way: a row by its elements. -/
theorem TsIs.mk {g : G} {b : Nat} : ∀ {off : Nat} (l : List T), (∀ i t, l[i]? = some t → ∃ h', Cs g 0 b (off + i * 4) (tc t h') ∧ TOk g t h') → TsIs g (some ⟨b, off, none⟩) l
  | _, [], _ => .nil
  | off, t :: r, H => by
    obtain ⟨h', h1, h2⟩ := H 0 t rfl
    refine .cons (by simpa using h1) h2.row h2.len h2.cap h2.str (TsIs.mk r fun i t' hi => ?_)
    obtain ⟨h3, h4, h5⟩ := H (i + 1) t' hi
    refine ⟨h3, ?_, h5⟩
    have : off + (i + 1) * 4 = off + 4 + i * 4 := by omega
    rw [← this]; exact h4

theorem LOk.get {g : G} {l : List T} {h : Hd} (k : LOk g l h) {i : Nat} {t : T} (hi : l[i]? = some t) : ∃ b off h', h.a = some ⟨b, off, none⟩ ∧ Cs g 0 b (off + i * 4) (tc t h') ∧ TOk g t h' := k.row.get i t hi

theorem TOk.lst {g : G} {t : T} {h : Hd} (k : TOk g t h) : LOk g t.l h := ⟨k.row, k.len, k.cap⟩

/-- A row of one cell each, l's. -/
def OneIs {α : Type} (c : α → Value) (g : G) (o : Nat) (a : Option Addr) (l : List α) : Prop := l = [] ∨ ∃ b off, a = some ⟨b, off, none⟩ ∧ Cs g o b off (l.map c)

structure OOk {α : Type} (c : α → Value) (g : G) (o : Nat) (l : List α) (h : Hd) : Prop where
  row : OneIs c g o h.a l
  len : l.length ≤ h.cap
  cap : h.cap ≤ maxLen

abbrev ic (n : Int) : Value := .int .i64 n
abbrev sc (s : ByteArray) : Value := .string s
abbrev IntsOk (g : G) (l : List Int) (h : Hd) : Prop := OOk ic g 0 l h
structure StrsOk (g : G) (o : Nat) (l : List ByteArray) (h : Hd) : Prop where
  one : OOk sc g o l h
  str : ∀ s ∈ l, s.size ≤ maxLen

section
variable {α : Type} {c : α → Value} {g g' : G} {o : Nat} {a : Option Addr} {l : List α} {h : Hd}
theorem OneIs.to [Later g g'] (k : OneIs c g 0 a l) : OneIs c g' 0 a l := by
  rcases k with k | ⟨b, off, e, k⟩
  · exact .inl k
  · exact .inr ⟨b, off, e, k.to⟩
theorem OOk.to [Later g g'] (k : OOk c g 0 l h) : OOk c g' 0 l h := ⟨k.row.to, k.len, k.cap⟩
theorem StrsOk.to [Later g g'] {l : List ByteArray} (k : StrsOk g 0 l h) : StrsOk g' 0 l h := ⟨k.one.to, k.str⟩
theorem OneIs.ks {L : List Nat} (hk : Keeps L g g') (k : OneIs c g o a l) (hl : o ∉ L) : OneIs c g' o a l := by
  rcases k with k | ⟨b, off, e, k⟩
  · exact .inl k
  · exact .inr ⟨b, off, e, k.ks hk hl⟩
theorem OOk.ks {L : List Nat} (hk : Keeps L g g') (k : OOk c g o l h) (hl : o ∉ L) : OOk c g' o l h := ⟨k.row.ks hk hl, k.len, k.cap⟩
theorem StrsOk.ks {L : List Nat} (hk : Keeps L g g') {l : List ByteArray} (k : StrsOk g o l h) (hl : o ∉ L) : StrsOk g' o l h := ⟨k.one.ks hk hl, k.str⟩
theorem OneIs.get (k : OneIs c g o a l) {i : Nat} {x : α} (hi : l[i]? = some x) : ∃ b off, a = some ⟨b, off, none⟩ ∧ Cs g o b (off + i) [c x] := by
  rcases k with k | ⟨b, off, e, k⟩
  · rw [k] at hi; cases hi
  · refine ⟨b, off, e, k.1, k.2.1, fun j v hj => ?_⟩
    cases j with
    | zero =>
      obtain rfl := Option.some.inj hj
      simpa using k.2.2 i (c x) (by simp [hi])
    | succ j => cases hj
theorem OneIs.rd (k : OneIs c g o a l) : Rd g a (l.map c) := by
  rcases k with k | ⟨b, off, e, k⟩
  · exact .inl (by rw [k]; rfl)
  · rw [e]; exact k.rd
theorem OOk.isnil (k : OOk c g o l h) (e : h.a = none) : l = [] := by
  rcases k.row with q | ⟨b, off, q, _⟩
  · exact q
  · rw [e] at q; cases q
/-- An owned row is a list. -/
theorem OOk.of {base ty n : Nat} {v : Value} (h : OwnRow g base o ty 1 v n (l.map c)) (hn : l.length = n) : ∃ hd : Hd, v = .slice hd.a n hd.cap ∧ OOk c g o l hd := by
  obtain ⟨a, cap, rfl, h1, h2, h3⟩ := h.cs
  refine ⟨⟨a, cap⟩, rfl, ?_, by simp [hn, h1], h2⟩
  rcases h3 with h3 | ⟨b, rfl, h3⟩
  · exact .inl (by simpa using h3)
  · exact .inr ⟨b, 0, rfl, h3⟩
end

/-- v is term t. -/
def TQ (t : T) (v : Value) (g : G) : Prop := ∃ h, v = tv t h ∧ TOk g t h

/-- The cells of a row of terms. -/
def rowc (l : List (T × Hd)) : List Value := l.flatMap fun p => tc p.1 p.2

theorem rowc_get : ∀ (l : List (T × Hd)) (i : Nat) (p : T × Hd), l[i]? = some p → ∀ j v, (tc p.1 p.2)[j]? = some v → (rowc l)[i * 4 + j]? = some v
  | [], i, p, h, _, _, _ => by cases h
  | q :: r, 0, p, h, j, v, hj => by
    obtain rfl := Option.some.inj h
    have hlt : j < (tc q.1 q.2).length := (List.getElem?_eq_some_iff.1 hj).1
    simp only [rowc, List.flatMap_cons, Nat.zero_mul, Nat.zero_add]
    rw [List.getElem?_append_left hlt]; exact hj
  | q :: r, i + 1, p, h, j, v, hj => by
    have := rowc_get r i p h j v hj
    simp only [rowc, List.flatMap_cons]
    rw [List.getElem?_append_right (by simp [tc]; omega)]
    have e : (i + 1) * 4 + j - (tc q.1 q.2).length = i * 4 + j := by simp [tc]; omega
    rw [e]; exact this

theorem rowc_len : ∀ l : List (T × Hd), (rowc l).length = l.length * 4
  | [] => rfl
  | q :: r => by
    have := rowc_len r
    simp only [rowc, List.flatMap_cons, List.length_append, List.length_cons] at this ⊢
    rw [this]; simp [tc]; omega

theorem TsIs.of {g : G} {b off : Nat} (l : List (T × Hd)) (hc : Cs g 0 b off (rowc l)) (h : ∀ p ∈ l, TOk g p.1 p.2) : TsIs g (some ⟨b, off, none⟩) (l.map (·.1)) :=
  TsIs.mk _ fun i t hi => by
    rw [List.getElem?_map] at hi
    cases hp : l[i]? with
    | none => rw [hp] at hi; cases hi
    | some p =>
      rw [hp] at hi
      obtain rfl := Option.some.inj hi
      refine ⟨p.2, ⟨hc.1, hc.2.1, fun j v hj => ?_⟩, h p (List.mem_of_getElem? hp)⟩
      have := hc.2.2 (i * 4 + j) v (rowc_get l i p hp j v hj)
      rwa [← Nat.add_assoc] at this

/-- A row that nobody writes any more is a list. -/
theorem LOk.of {g : G} {base n : Nat} {v : Value} (l : List (T × Hd)) (h : OwnRow g base 0 25 4 v n (rowc l)) (hn : l.length = n) (hp : ∀ p ∈ l, TOk g p.1 p.2) : ∃ hd : Hd, v = .slice hd.a n hd.cap ∧ LOk g (l.map (·.1)) hd := by
  obtain ⟨a, cap, rfl, h1, h2, h3⟩ := h.cs
  refine ⟨⟨a, cap⟩, rfl, ?_, by simp [hn, h1], h2⟩
  rcases h3 with h3 | ⟨b, rfl, h3⟩
  · have : l = [] := by
      have e := rowc_len l
      rw [h3] at e
      exact List.eq_nil_of_length_eq_zero (by simp at e; omega)
    subst this; exact .nil
  · exact TsIs.of l h3 hp

/-- A list in memory, with each element's place. -/
theorem LOk.heads {g : G} {l : List T} {h : Hd} (k : LOk g l h) : ∃ hs : List (T × Hd), hs.map (·.1) = l ∧ Rd g h.a (rowc hs) ∧ ∀ p ∈ hs, TOk g p.1 p.2 := by
  have key : ∀ {a : Option Addr} {l : List T}, TsIs g a l → ∃ hs : List (T × Hd), hs.map (·.1) = l ∧ Rd g a (rowc hs) ∧ ∀ p ∈ hs, TOk g p.1 p.2 := by
    intro a l h
    induction h with
    | nil => exact ⟨[], rfl, .inl rfl, by simp⟩
    | @cons b off t h r h1 h2 h3 h4 h5 h6 _ ih =>
      obtain ⟨hs, e, hr, hp⟩ := ih
      refine ⟨(t, h) :: hs, by simp [e], .inr ⟨b, off, rfl, fun j v hj => ?_⟩, ?_⟩
      · have e1 : rowc ((t, h) :: hs) = tc t h ++ rowc hs := rfl
        rw [e1] at hj
        by_cases hlt : j < 4
        · rw [List.getElem?_append_left (by simpa [tc] using hlt)] at hj
          exact h1.2.2 j v hj
        · rw [List.getElem?_append_right (by simp [tc]; omega)] at hj
          have e2 : (tc t h).length = 4 := rfl
          rw [e2] at hj
          rcases hr with hr | ⟨b', off', e3, hr⟩
          · rw [hr] at hj; cases hj
          · obtain ⟨rfl, rfl, _⟩ := Addr.mk.inj (Option.some.inj e3)
            have := hr (j - 4) v hj
            have e4 : off + 4 + (j - 4) = off + j := by omega
            rwa [e4] at this
      · intro p hp'
        rcases List.mem_cons.1 hp' with rfl | hp'
        · exact ⟨h2, h3, h4, h5⟩
        · exact hp p hp'
  exact key k.row

theorem rowc_one (l : List (T × Hd)) : ∀ u ∈ rowc l, u.oneCell' = true := by
  intro u hu
  simp only [rowc, List.mem_flatMap] at hu
  obtain ⟨p, _, hp⟩ := hu
  simp only [tc, List.mem_cons, List.not_mem_nil, or_false] at hp
  rcases hp with rfl | rfl | rfl | rfl <;> rfl

/-! ### Terms, plain -/

theorem T.induct {p : T → Prop} (h : ∀ k s n l, (∀ t ∈ l, p t) → p (.mk k s n l)) : ∀ t, p t := fun t =>
  T.rec (motive_1 := p) (motive_2 := fun l => ∀ t ∈ l, p t) (fun k s n l ih => h k s n l ih) (by simp) (fun a l ha hl t ht => by rcases List.mem_cons.1 ht with rfl | ht; exact ha; exact hl t ht) t

theorem T.ind {p : T → Prop} (h : ∀ a : T, (∀ t ∈ a.l, p t) → p a) : ∀ t, p t := T.induct fun k s n l H => h (.mk k s n l) H
theorem T.eq_iff (a b : T) : a = b ↔ a.k = b.k ∧ a.s = b.s ∧ a.n = b.n ∧ a.l = b.l := by
  obtain ⟨k, s, n, l⟩ := a
  obtain ⟨k', s', n', l'⟩ := b
  simp [T.k, T.s, T.n, T.l]

mutual
/-- Are two terms the same? -/
def T.eqb : T → T → Bool
  | .mk k s n l, .mk k' s' n' l' => decide (k = k') && decide (s = s') && decide (n = n') && T.eqbs l l'
def T.eqbs : List T → List T → Bool
  | [], [] => true
  | a :: l, b :: r => T.eqb a b && T.eqbs l r
  | _, _ => false
end

theorem T.eqb_iff : ∀ a b : T, T.eqb a b = true ↔ a = b := by
  intro a
  induction a using T.induct with
  | h k s n l ih =>
    intro b
    obtain ⟨k', s', n', l'⟩ := b
    simp only [T.eqb, Bool.and_eq_true, decide_eq_true_eq, T.mk.injEq]
    have : ∀ (l l' : List T), (∀ t ∈ l, ∀ b, T.eqb t b = true ↔ t = b) → (T.eqbs l l' = true ↔ l = l') := by
      intro l
      induction l with
      | nil => intro l' _; cases l' <;> simp [T.eqbs]
      | cons a l ihl =>
        intro l' h
        cases l' with
        | nil => simp [T.eqbs]
        | cons b r => simp only [T.eqbs, Bool.and_eq_true, List.cons.injEq, h a (by simp) b, ihl r (fun t ht => h t (by simp [ht]))]
    rw [this l l' ih]
    simp [and_assoc]

instance : DecidableEq T := fun a b => if h : T.eqb a b = true then isTrue ((T.eqb_iff a b).1 h) else isFalse fun e => h ((T.eqb_iff a b).2 e)

mutual
/-- How many terms a term has. -/
def T.size : T → Nat
  | .mk _ _ _ l => 1 + T.sizes l
def T.sizes : List T → Nat
  | [] => 0
  | a :: l => a.size + T.sizes l
end

/-! ### Principals -/

structure Pr where
  name : ByteArray
  ver : Int
  tr : Bool
  se : Bool
  al : List ByteArray
  ac : List ByteArray
  gr : List Int
  life : Int

structure PH where
  al : Hd
  ac : Hd
  gr : Hd

def pc (p : Pr) (h : PH) : List Value := [.string p.name, .int .i64 p.ver, .bool p.tr, .bool p.se, .slice h.al.a p.al.length h.al.cap, .slice h.ac.a p.ac.length h.ac.cap, .slice h.gr.a p.gr.length h.gr.cap, .int .i64 p.life]
def ppv (p : Pr) (h : PH) : Value := .agg (pc p h).toArray

/-- A principal in memory; its lists are o's. -/
structure POk (g : G) (o : Nat) (p : Pr) (h : PH) : Prop where
  al : StrsOk g o p.al h.al
  ac : StrsOk g o p.ac h.ac
  gr : OOk ic g o p.gr h.gr
  nm : p.name.size ≤ maxLen

theorem POk.to {g g' : G} [Later g g'] {p : Pr} {h : PH} (k : POk g 0 p h) : POk g' 0 p h := ⟨k.al.to, k.ac.to, k.gr.to, k.nm⟩
theorem POk.ks {L : List Nat} {g g' : G} (hk : Keeps L g g') {o : Nat} {p : Pr} {h : PH} (k : POk g o p h) (hl : o ∉ L) : POk g' o p h := ⟨k.al.ks hk hl, k.ac.ks hk hl, k.gr.ks hk hl, k.nm⟩

/-! ### The program's store of principals -/

def pfind (ps : List Pr) (nm : ByteArray) : Option Pr := ps.find? fun p => decide (p.name = nm)

def ents : List Pr → List Nat → List (ByteArray × Value)
  | p :: ps, b :: bs => (p.name, .pointer (some ⟨b, 0, none⟩)) :: ents ps bs
  | _, _ => []

/-- v is a store with these principals; its blocks are n's, n+1's, n+2's, n+3's. -/
structure PolIs (g : G) (n : Nat) (v : Value) (bs bm : Nat) (ptrs : List Nat) (ps : List Pr) : Prop where
  v : v = .pointer (some ⟨bs, 0, none⟩)
  ob : Ob g n bs 188 [.map (some bm)]
  mp : Mp g (n + 1) bm (ents ps ptrs)
  len : ptrs.length = ps.length
  nd : ptrs.Nodup
  el : ∀ (i : Nat) (p : Pr) (b : Nat), ps[i]? = some p → ptrs[i]? = some b → ∃ h, Ob g (n + 2) b 40 (pc p h) ∧ POk g (n + 3) p h

theorem PolIs.ks {L : List Nat} {g g' : G} (hk : Keeps L g g') {n : Nat} {v : Value} {bs bm : Nat} {ptrs : List Nat} {ps : List Pr} (k : PolIs g n v bs bm ptrs ps) (h0 : n ∉ L) (h1 : n + 1 ∉ L) (h2 : n + 2 ∉ L) (h3 : n + 3 ∉ L) : PolIs g' n v bs bm ptrs ps :=
  ⟨k.v, k.ob.ks hk h0, k.mp.ks hk h1, k.len, k.nd, fun i p b hp hb => by
    obtain ⟨h, q1, q2⟩ := k.el i p b hp hb
    exact ⟨h, q1.ks hk h2, q2.ks hk h3⟩⟩

theorem mget_ents : ∀ (ps : List Pr) (bs : List Nat) (nm : ByteArray), bs.length = ps.length →
    (mget (ents ps bs) nm = none ∧ pfind ps nm = none) ∨ ∃ (i : Nat) (p : Pr) (b : Nat), ps[i]? = some p ∧ bs[i]? = some b ∧ mget (ents ps bs) nm = some (.pointer (some ⟨b, 0, none⟩)) ∧ pfind ps nm = some p ∧ p.name = nm
  | [], _, _, _ => .inl ⟨rfl, rfl⟩
  | _ :: _, [], _, h => by cases h
  | p :: ps, b :: bs, nm, h => by
    by_cases hn : p.name = nm
    · exact .inr ⟨0, p, b, rfl, rfl, by simp [ents, mget, hn], by simp [pfind, hn], hn⟩
    · rcases mget_ents ps bs nm (by simpa using h) with ⟨q1, q2⟩ | ⟨i, p', b', q1, q2, q3, q4, q5⟩
      · exact .inl ⟨by simp [ents, mget, Ne.symm hn, q1], by unfold pfind at q2 ⊢; simp [hn, q2]⟩
      · exact .inr ⟨i + 1, p', b', q1, q2, by simp [ents, mget, Ne.symm hn, q3], by unfold pfind at q4 ⊢; simp [hn, q4], q5⟩

theorem mput_ents : ∀ (ps : List Pr) (bs : List Nat) (p : Pr) (b : Nat), bs.length = ps.length → pfind ps p.name = none → mput (ents ps bs) p.name (.pointer (some ⟨b, 0, none⟩)) = ents (ps ++ [p]) (bs ++ [b])
  | [], [], _, _, _, _ => rfl
  | [], _ :: _, _, _, h, _ => by cases h
  | _ :: _, [], _, _, h, _ => by cases h
  | q :: ps, c :: bs, p, b, h, hf => by
    unfold pfind at hf
    rw [List.find?_cons] at hf
    by_cases hn : q.name = p.name
    · simp [hn] at hf
    · simp only [decide_eq_false hn] at hf
      simp only [ents, mput, if_neg (Ne.symm hn), List.cons_append, mput_ents ps bs p b (by simpa using h) hf]

theorem ents_len : ∀ (ps : List Pr) (bs : List Nat), bs.length = ps.length → (ents ps bs).length = ps.length
  | [], _, _ => rfl
  | _ :: _, [], h => by cases h
  | p :: ps, b :: bs, h => by simp [ents, ents_len ps bs (by simpa using h)]

/-! ### The document's store of principals -/

def rowp (l : List (Pr × PH)) : List Value := l.flatMap fun p => pc p.1 p.2

theorem pc_len (p : Pr) (h : PH) : (pc p h).length = 8 := rfl

theorem rowp_len : ∀ l : List (Pr × PH), (rowp l).length = l.length * 8
  | [] => rfl
  | q :: r => by
    have := rowp_len r
    simp only [rowp, List.flatMap_cons, List.length_append, List.length_cons, pc_len] at this ⊢
    rw [this]; omega

theorem rowp_get : ∀ (l : List (Pr × PH)) (i : Nat) (p : Pr × PH), l[i]? = some p → ∀ j v, (pc p.1 p.2)[j]? = some v → (rowp l)[i * 8 + j]? = some v
  | [], i, p, h, _, _, _ => by cases h
  | q :: r, 0, p, h, j, v, hj => by
    obtain rfl := Option.some.inj h
    have hlt : j < (pc q.1 q.2).length := (List.getElem?_eq_some_iff.1 hj).1
    simp only [rowp, List.flatMap_cons, Nat.zero_mul, Nat.zero_add]
    rw [List.getElem?_append_left hlt]; exact hj
  | q :: r, i + 1, p, h, j, v, hj => by
    have := rowp_get r i p h j v hj
    simp only [rowp, List.flatMap_cons]
    rw [List.getElem?_append_right (by rw [pc_len]; omega)]
    have e : (i + 1) * 8 + j - (pc q.1 q.2).length = i * 8 + j := by rw [pc_len]; omega
    rw [e]; exact this

theorem rowp_one (l : List (Pr × PH)) : ∀ u ∈ rowp l, u.oneCell' = true := by
  intro u hu
  simp only [rowp, List.mem_flatMap] at hu
  obtain ⟨p, _, hp⟩ := hu
  simp only [pc, List.mem_cons, List.not_mem_nil, or_false] at hp
  rcases hp with rfl | rfl | rfl | rfl | rfl | rfl | rfl | rfl <;> rfl

/-- v is the document's store: its blocks are n's and n+1's. -/
structure RefIs (g : G) (n : Nat) (v : Value) (bs : Nat) (hs : List (Pr × PH)) : Prop where
  v : v = .pointer (some ⟨bs, 0, none⟩)
  row : ∃ a cap, Ob g n bs 183 [.slice a hs.length cap] ∧ OwnRow g 0 (n + 1) 40 8 (.slice a hs.length cap) hs.length (rowp hs)
  el : ∀ p ∈ hs, POk g 0 p.1 p.2

theorem RefIs.ks {L : List Nat} {g g' : G} (hk : Keeps L g g') {n : Nat} {v : Value} {bs : Nat} {hs : List (Pr × PH)} (k : RefIs g n v bs hs) (h0 : n ∉ L) (h1 : n + 1 ∉ L) (hz : 0 ∉ L) : RefIs g' n v bs hs := by
  obtain ⟨a, cap, q1, q2⟩ := k.row
  exact ⟨k.v, ⟨a, cap, q1.ks hk h0, q2.ks hk h1⟩, fun p hp => (k.el p hp).ks hk hz⟩

/-- An element's cells. -/
theorem RefIs.at {g : G} {n : Nat} {v : Value} {bs : Nat} {hs : List (Pr × PH)} (k : RefIs g n v bs hs) {a : Option Addr} {cap : Nat} (hr : OwnRow g 0 (n + 1) 40 8 (.slice a hs.length cap) hs.length (rowp hs)) {i : Nat} {p : Pr × PH} (hi : hs[i]? = some p) :
    ∃ b, a = some ⟨b, 0, none⟩ ∧ Cs g (n + 1) b (0 + i * 8) (pc p.1 p.2) := by
  obtain ⟨a', cap', e, h1, h2, h3⟩ := hr.cs
  obtain ⟨rfl, _, rfl⟩ := Value.slice.inj e
  rcases h3 with h3 | ⟨b, rfl, h3⟩
  · exfalso
    have := rowp_len hs
    rw [h3] at this
    have hl := (List.getElem?_eq_some_iff.1 hi).1
    simp at this; omega
  · refine ⟨b, rfl, h3.1, h3.2.1, fun j v hj => ?_⟩
    have := h3.2.2 (i * 8 + j) v (rowp_get hs i p hi j v hj)
    rwa [← Nat.add_assoc] at this

theorem Cs.sub {g : G} {l b off : Nat} {vs : List Value} (h : Cs g l b off vs) (k : Nat) {ws : List Value} (hw : ∀ j v, ws[j]? = some v → vs[k + j]? = some v) : Cs g l b (off + k) ws :=
  ⟨h.1, h.2.1, fun j v hj => by rw [Nat.add_assoc]; exact h.2.2 (k + j) v (hw j v hj)⟩

theorem Cs.one {g : G} {l b off : Nat} {vs : List Value} (h : Cs g l b off vs) (k : Nat) {v : Value} (hv : vs[k]? = some v) : Cs g l b (off + k) [v] :=
  h.sub k fun j w hj => by
    cases j with
    | zero => obtain rfl := Option.some.inj hj; exact hv
    | succ j => cases hj

attribute [go_sem] tc tv pc ppv
end Go.Eng

/- Whole numbers as floats. -/
namespace Go.Eng
open Go Ieee

/-- d is the whole number n. -/
def IsN (d : Datum) (n : Int) : Prop := ∃ (s : Bool) (m k : Nat), d = .number s m (-(k : Int)) ∧ k ≤ 1074 ∧ (if s then -(m : Int) else m) = n * ((2 ^ k : Nat) : Int)

def fl (n : Int) : Nat := FloatKind.f64.nearest n

theorem shl (m k : Nat) : m <<< k = m * 2 ^ k := Nat.shiftLeft_eq m k

theorem cut_exact (neg : Bool) (M drop : Nat) (hd : drop ≤ (M * 2 ^ drop).log2 + 2) : Toward.even.cut neg (M * 2 ^ drop) drop = M := by
  unfold Toward.cut
  have h1 : min drop ((M * 2 ^ drop).log2 + 2) = drop := Nat.min_eq_left hd
  rw [h1, shl, Nat.one_mul]
  have h2 : M * 2 ^ drop / 2 ^ drop = M := Nat.mul_div_cancel _ (Nat.two_pow_pos _)
  have h3 : M * 2 ^ drop % 2 ^ drop = 0 := Nat.mul_mod_left _ _
  have h4 : 0 < 2 ^ drop := Nat.two_pow_pos _
  simp only [h2, h3]
  have : (decide (2 ^ drop < 2 * 0) || 2 ^ drop == 2 * 0 && M % 2 == 1) = false := by
    have a1 : ¬ (2 ^ drop < 2 * 0) := by omega
    have a2 : (2 ^ drop == 2 * 0) = false := by rw [beq_eq_false_iff_ne]; omega
    rw [decide_eq_false a1, a2]; rfl
  rw [this]; rfl

theorem log2_mul (m k : Nat) (h : 0 < m) : (m * 2 ^ k).log2 = m.log2 + k := by
  have h1 : m ≠ 0 := by omega
  have h2 : m * 2 ^ k ≠ 0 := Nat.mul_ne_zero h1 (Nat.pos_iff_ne_zero.1 (Nat.two_pow_pos k))
  rw [Nat.log2_eq_iff h2]
  have a := Nat.log2_self_le h1
  have b := @Nat.lt_log2_self m
  constructor
  · rw [Nat.pow_add]; exact Nat.mul_le_mul_right _ a
  · have : 2 ^ (m.log2 + k + 1) = 2 ^ (m.log2 + 1) * 2 ^ k := by rw [← Nat.pow_add]; congr 1; omega
    rw [this]; exact Nat.mul_lt_mul_of_pos_right b (Nat.two_pow_pos k)

/-- The rung of a whole number. -/
def rung (m : Nat) : Nat := (m.log2 + 1022) * 2 ^ 52 + m * 2 ^ (52 - m.log2)

theorem nearest_exact (neg : Bool) (m k : Nat) (h0 : 0 < m) (h1 : m < 2 ^ 52) (hk : k ≤ 1074) : double.nearest neg (m * 2 ^ k) (-(k : Int)) = double.word neg (rung m) := by
  have hl : m.log2 < 52 := (Nat.log2_lt (by omega)).2 h1
  have hne : m * 2 ^ k ≠ 0 := Nat.mul_ne_zero (by omega) (Nat.pos_iff_ne_zero.1 (Nat.two_pow_pos k))
  have hlp : double.leastPlace = -1074 := by decide
  have hfb : double.fractionBits = 52 := rfl
  have hlog := log2_mul m k h0
  unfold Format.nearest
  rw [if_neg hne, hlog, hlp, hfb]
  have hlast : max (-(k : Int) + ((m.log2 + k : Nat) : Int) - ((52 : Nat) : Int)) (-1074) = (m.log2 : Int) - 52 := by omega
  simp only [hlast]
  have hkept : Toward.even.cut neg ((m * 2 ^ k) <<< (-(k : Int) - ((m.log2 : Int) - 52)).toNat) (((m.log2 : Int) - 52) - -(k : Int)).toNat = m * 2 ^ (52 - m.log2) := by
    by_cases hc : k + m.log2 ≤ 52
    · have e1 : (-(k : Int) - ((m.log2 : Int) - 52)).toNat = 52 - m.log2 - k := by omega
      have e2 : (((m.log2 : Int) - 52) - -(k : Int)).toNat = 0 := by omega
      rw [e1, e2, shl, Nat.mul_assoc, ← Nat.pow_add]
      have e3 : k + (52 - m.log2 - k) = 52 - m.log2 := by omega
      rw [e3]
      have := cut_exact neg (m * 2 ^ (52 - m.log2)) 0 (by omega)
      simpa using this
    · have e1 : (-(k : Int) - ((m.log2 : Int) - 52)).toNat = 0 := by omega
      have e2 : (((m.log2 : Int) - 52) - -(k : Int)).toNat = m.log2 + k - 52 := by omega
      rw [e1, e2, shl, Nat.pow_zero, Nat.mul_one]
      have e3 : m * 2 ^ k = (m * 2 ^ (52 - m.log2)) * 2 ^ (m.log2 + k - 52) := by
        rw [Nat.mul_assoc, ← Nat.pow_add]; congr 2; omega
      have hq := hlog
      rw [e3] at hq ⊢
      exact cut_exact neg _ _ (by rw [hq]; omega)
  rw [hkept]
  congr 1
  have e4 : ((m.log2 : Int) - 52 - -1074).toNat = m.log2 + 1022 := by omega
  rw [e4]
  have hM : m * 2 ^ (52 - m.log2) < 2 ^ 53 := by
    have b := @Nat.lt_log2_self m
    have : 2 ^ 53 = 2 ^ (m.log2 + 1) * 2 ^ (52 - m.log2) := by rw [← Nat.pow_add]; congr 1; omega
    rw [this]; exact Nat.mul_lt_mul_of_pos_right b (Nat.two_pow_pos _)
  have hb : double.binade = 2 ^ 52 := rfl
  have hi : double.infRung = 2047 * 2 ^ 52 := rfl
  rw [hb, hi]
  unfold rung
  refine Nat.min_eq_left ?_
  have h53 : (2 : Nat) ^ 53 = 2 * 2 ^ 52 := by rw [Nat.pow_succ, Nat.mul_comm]
  have : (m.log2 + 1022) * 2 ^ 52 ≤ 1073 * 2 ^ 52 := Nat.mul_le_mul_right _ (by omega)
  rw [h53] at hM
  generalize 2 ^ 52 = B at *
  omega

theorem read_word (neg : Bool) (m : Nat) (h0 : 0 < m) (h1 : m < 2 ^ 52) : double.read (double.word neg (rung m)) = .number neg (m * 2 ^ (52 - m.log2)) ((m.log2 : Int) - 52) := by
  have hl : m.log2 < 52 := (Nat.log2_lt (by omega)).2 h1
  have hM : m * 2 ^ (52 - m.log2) < 2 * 2 ^ 52 := by
    have b := @Nat.lt_log2_self m
    have : 2 * 2 ^ 52 = 2 ^ (m.log2 + 1) * 2 ^ (52 - m.log2) := by
      have q : 2 ^ (m.log2 + (52 - m.log2)) = 2 ^ m.log2 * 2 ^ (52 - m.log2) := Nat.pow_add _ _ _
      rw [show m.log2 + (52 - m.log2) = 52 by omega] at q
      rw [q, Nat.pow_succ, Nat.mul_comm (2 ^ m.log2) 2, Nat.mul_assoc]
    rw [this]; exact Nat.mul_lt_mul_of_pos_right b (Nat.two_pow_pos _)
  have hm : 2 ^ 52 ≤ m * 2 ^ (52 - m.log2) := by
    have a := Nat.log2_self_le (show m ≠ 0 by omega)
    have : 2 ^ 52 = 2 ^ m.log2 * 2 ^ (52 - m.log2) := by rw [← Nat.pow_add]; congr 1; omega
    rw [this]; exact Nat.mul_le_mul_right _ a
  have hb : double.binade = 2 ^ 52 := rfl
  have hi : double.infRung = 2047 * 2 ^ 52 := rfl
  have hlp : double.leastPlace = -1074 := by decide
  have hsw : double.signWeight = 2048 * 2 ^ 52 := rfl
  have hr : rung m = (m.log2 + 1022) * 2 ^ 52 + m * 2 ^ (52 - m.log2) := rfl
  have hmul : (m.log2 + 1022) * 2 ^ 52 ≤ 1073 * 2 ^ 52 := Nat.mul_le_mul_right _ (by omega)
  have hmul2 : ∀ B : Nat, 1022 * B ≤ (m.log2 + 1022) * B := fun B => Nat.mul_le_mul_right B (Nat.le_add_left 1022 m.log2)
  unfold Format.read Format.word
  rw [hb, hi, hlp, hsw, hr]
  generalize hMd : m * 2 ^ (52 - m.log2) = M at *
  have hB : 0 < 2 ^ 52 := Nat.two_pow_pos _
  generalize 2 ^ 52 = B at *
  have hmul2 := hmul2 B
  have hlt : (m.log2 + 1022) * B + M < 2048 * B := by omega
  have e1 : (if neg = true then 2048 * B + ((m.log2 + 1022) * B + M) else (m.log2 + 1022) * B + M) / (2048 * B) % 2 = if neg = true then 1 else 0 := by
    cases neg
    · simp only [Bool.false_eq_true, if_false]
      rw [Nat.div_eq_of_lt hlt]
    · simp only [if_true]
      rw [Nat.add_div_left _ (by omega), Nat.div_eq_of_lt hlt]
  have e2 : (if neg = true then 2048 * B + ((m.log2 + 1022) * B + M) else (m.log2 + 1022) * B + M) % (2048 * B) = (m.log2 + 1022) * B + M := by
    cases neg
    · simp only [Bool.false_eq_true, if_false]
      exact Nat.mod_eq_of_lt hlt
    · simp only [if_true]
      rw [Nat.add_mod_left]; exact Nat.mod_eq_of_lt hlt
  have e3 : ((m.log2 + 1022) * B + M) % B = M - B := by
    have : (m.log2 + 1022) * B + M = (M - B) + B * (m.log2 + 1023) := by
      rw [Nat.mul_comm (m.log2 + 1022) B, show m.log2 + 1023 = (m.log2 + 1022) + 1 by omega, Nat.mul_add B (m.log2 + 1022) 1]; omega
    rw [this, Nat.add_mul_mod_self_left]
    exact Nat.mod_eq_of_lt (by omega)
  have e4 : ((m.log2 + 1022) * B + M) / B = m.log2 + 1023 := by
    have : (m.log2 + 1022) * B + M = (M - B) + B * (m.log2 + 1023) := by
      rw [Nat.mul_comm (m.log2 + 1022) B, show m.log2 + 1023 = (m.log2 + 1022) + 1 by omega, Nat.mul_add B (m.log2 + 1022) 1]; omega
    rw [this, Nat.add_mul_div_left _ _ hB, Nat.div_eq_of_lt (by omega)]
    omega
  simp only [e1, e2, e3, e4]
  rw [if_neg (by omega), if_pos (by omega)]
  have e5 : B + (M - B) = M := by omega
  rw [e5]
  cases neg
  · simp; omega
  · simp; omega

theorem decode_fl (n : Int) (h : n.natAbs < 2 ^ 52) : ∃ (s : Bool) (m k : Nat), FloatKind.f64.decode (fl n) = .number s m (-(k : Int)) ∧ k ≤ 1074 ∧ (if s then -(m : Int) else m) = n * ((2 ^ k : Nat) : Int) ∧ (n = 0 → s = false) := by
  by_cases hn : n = 0
  · subst hn
    refine ⟨false, 0, 1074, ?_, Nat.le_refl _, by simp, fun _ => rfl⟩
    decide +kernel
  · have h0 : 0 < n.natAbs := by omega
    have hl : n.natAbs.log2 < 52 := (Nat.log2_lt (by omega)).2 h
    have e1 : fl n = double.word (decide (n < 0)) (rung n.natAbs) := by
      have := nearest_exact (decide (n < 0)) n.natAbs 0 h0 h (Nat.zero_le _)
      simpa [fl, FloatKind.nearest, FloatKind.encode, FloatKind.format, Format.write] using this
    refine ⟨decide (n < 0), n.natAbs * 2 ^ (52 - n.natAbs.log2), 52 - n.natAbs.log2, ?_, by omega, ?_, fun e => absurd e hn⟩
    · rw [e1]
      have := read_word (decide (n < 0)) n.natAbs h0 h
      have e2 : ((n.natAbs.log2 : Int) - 52) = -((52 - n.natAbs.log2 : Nat) : Int) := by omega
      rw [e2] at this
      exact this
    · by_cases hs : n < 0
      · have : (n.natAbs : Int) = -n := by omega
        simp only [hs, decide_true, if_true, Int.natCast_mul, this]
        rw [Int.neg_mul, Int.neg_neg]
      · have : (n.natAbs : Int) = n := by omega
        simp only [hs, decide_false, Bool.false_eq_true, if_false, Int.natCast_mul, this]

theorem isN_fl (n : Int) (h : n.natAbs < 2 ^ 52) : IsN (FloatKind.f64.decode (fl n)) n := by
  obtain ⟨s, m, k, h1, h2, h3, _⟩ := decode_fl n h
  exact ⟨s, m, k, h1, h2, h3⟩

theorem signed_eq (s : Bool) (m up : Nat) : signed s m up = (if s then -(m : Int) else m) * ((2 ^ up : Nat) : Int) := by
  unfold signed
  rw [shl]
  cases s
  · simp [Int.natCast_mul]
  · simp [Int.natCast_mul, Int.neg_mul]

theorem scaled {v n : Int} {k K : Nat} (h : v = n * ((2 ^ k : Nat) : Int)) (hk : k ≤ K) : v * ((2 ^ (K - k) : Nat) : Int) = n * ((2 ^ K : Nat) : Int) := by
  rw [h, Int.mul_assoc, ← Int.natCast_mul, ← Nat.pow_add]
  congr 3
  omega

theorem compare_mul (n m : Int) (c : Nat) (hc : 0 < c) : compare (n * (c : Int)) (m * (c : Int)) = compare n m := by
  have hc' : (0 : Int) < c := by omega
  rcases Int.lt_trichotomy n m with h | h | h
  · rw [Int.compare_eq_lt.2 h, Int.compare_eq_lt.2 (Int.mul_lt_mul_of_pos_right h hc')]
  · subst h; simp
  · rw [Int.compare_eq_gt.2 h, Int.compare_eq_gt.2 (Int.mul_lt_mul_of_pos_right h hc')]

theorem order_isN {d e : Datum} {n m : Int} (hd : IsN d n) (he : IsN e m) : d.order e = some (compare n m) := by
  obtain ⟨s, a, k, rfl, _, h1⟩ := hd
  obtain ⟨t, b, j, rfl, _, h2⟩ := he
  show some (compare (signed s a _) (signed t b _)) = _
  have e0 : min (-(k : Int)) (-(j : Int)) = -((max k j : Nat) : Int) := by omega
  have e1 : (-(k : Int) - min (-(k : Int)) (-(j : Int))).toNat = max k j - k := by omega
  have e2 : (-(j : Int) - min (-(k : Int)) (-(j : Int))).toNat = max k j - j := by omega
  rw [e1, e2, signed_eq, signed_eq, scaled h1 (Nat.le_max_left _ _), scaled h2 (Nat.le_max_right _ _), compare_mul _ _ _ (Nat.two_pow_pos _)]

theorem enc_fl {s : Bool} {m k : Nat} {n : Int} (hk : k ≤ 1074) (h : (if s then -(m : Int) else m) = n * ((2 ^ k : Nat) : Int)) (hn : n.natAbs < 2 ^ 52) (hz : n = 0 → s = false) : FloatKind.f64.encode (.number s m (-(k : Int))) = fl n := by
  have hp : 0 < 2 ^ k := Nat.two_pow_pos k
  by_cases h0 : n = 0
  · subst h0
    rw [hz rfl] at h ⊢
    simp only [Bool.false_eq_true, if_false, Int.zero_mul] at h
    obtain rfl : m = 0 := by omega
    show double.nearest false 0 (-(k : Int)) = double.nearest (decide ((0 : Int) < 0)) (Int.natAbs 0) 0
    simp [Format.nearest]
  · have hpos : 0 < n.natAbs := by omega
    have hs : s = decide (n < 0) := by
      cases s
      · simp only [Bool.false_eq_true, if_false] at h
        have : 0 ≤ n * ((2 ^ k : Nat) : Int) := by rw [← h]; omega
        have : ¬ n < 0 := fun q => by
          have := Int.mul_neg_of_neg_of_pos q (show (0 : Int) < ((2 ^ k : Nat) : Int) by omega)
          omega
        simp [this]
      · simp only [if_true] at h
        have : n * ((2 ^ k : Nat) : Int) ≤ 0 := by rw [← h]; omega
        have : n < 0 := by
          by_cases q : 0 < n
          · have := Int.mul_pos q (show (0 : Int) < ((2 ^ k : Nat) : Int) by omega)
            omega
          · omega
        simp [this]
    have hm : m = n.natAbs * 2 ^ k := by
      have h2 := congrArg Int.natAbs h
      rw [Int.natAbs_mul, Int.natAbs_natCast] at h2
      rw [← h2]
      cases s <;> simp
    rw [hm, hs]
    have e1 := nearest_exact (decide (n < 0)) n.natAbs k hpos hn hk
    have e2 := nearest_exact (decide (n < 0)) n.natAbs 0 hpos hn (Nat.zero_le _)
    have e3 : fl n = double.nearest (decide (n < 0)) (n.natAbs * 2 ^ 0) (-((0 : Nat) : Int)) := by
      simp [fl, FloatKind.nearest, FloatKind.encode, FloatKind.format, Format.write]
    rw [e3, e2, ← e1]
    rfl

theorem sum_fl (n m : Int) (hn : n.natAbs < 2 ^ 52) (hm : m.natAbs < 2 ^ 52) (hs : (n + m).natAbs < 2 ^ 52) : ((FloatKind.f64.decode (fl n)).sum (FloatKind.f64.decode (fl m))).map FloatKind.f64.encode = some (fl (n + m)) := by
  obtain ⟨s, a, k, h1, hk, h2, h3⟩ := decode_fl n hn
  obtain ⟨t, b, j, q1, hj, q2, q3⟩ := decode_fl m hm
  rw [h1, q1]
  have e0 : min (-(k : Int)) (-(j : Int)) = -((max k j : Nat) : Int) := by omega
  have e1 : (-(k : Int) - min (-(k : Int)) (-(j : Int))).toNat = max k j - k := by omega
  have e2 : (-(j : Int) - min (-(k : Int)) (-(j : Int))).toNat = max k j - j := by omega
  have htot : signed s a (-(k : Int) - min (-(k : Int)) (-(j : Int))).toNat + signed t b (-(j : Int) - min (-(k : Int)) (-(j : Int))).toNat = (n + m) * ((2 ^ max k j : Nat) : Int) := by
    rw [e1, e2, signed_eq, signed_eq, scaled h2 (Nat.le_max_left _ _), scaled q2 (Nat.le_max_right _ _), Int.add_mul]
  have hp : (0 : Int) < ((2 ^ max k j : Nat) : Int) := by have := Nat.two_pow_pos (max k j); omega
  have hz0 : (n + m) * ((2 ^ max k j : Nat) : Int) = 0 ↔ n + m = 0 := by
    rw [Int.mul_eq_zero]
    constructor
    · rintro (q | q)
      · exact q
      · omega
    · intro q; exact .inl q
  show (some (Datum.number _ _ _)).map _ = _
  rw [htot, e0]
  simp only [Option.map_some, Option.some.injEq]
  refine enc_fl (by omega) ?_ hs ?_
  · by_cases hz : n + m = 0
    · rw [hz]; simp
    · have hz' : ¬ (n + m) * ((2 ^ max k j : Nat) : Int) = 0 := fun q => hz (hz0.1 q)
      rw [if_neg hz']
      generalize (n + m) * ((2 ^ max k j : Nat) : Int) = x at *
      by_cases q : x < 0
      · simp only [q, decide_true, if_true]; omega
      · simp only [q, decide_false, Bool.false_eq_true, if_false]; omega
  · intro hz
    rw [if_pos (hz0.2 hz)]
    by_cases q : n = 0
    · rw [h3 q]; rfl
    · cases s
      · rfl
      · simp only [if_true] at h2
        have hk' : (0 : Int) < ((2 ^ k : Nat) : Int) := by have := Nat.two_pow_pos k; omega
        have hj' : (0 : Int) < ((2 ^ j : Nat) : Int) := by have := Nat.two_pow_pos j; omega
        have hn' : n < 0 := by
          by_cases q' : 0 < n
          · have := Int.mul_pos q' hk'; omega
          · omega
        cases t
        · rfl
        · exfalso
          simp only [if_true] at q2
          have : 0 < m := by omega
          have := Int.mul_pos this hj'
          omega

theorem toInt_fl (n : Int) (hn : n.natAbs < 2 ^ 52) : (FloatKind.f64.decode (fl n)).toInt .zero = some n ∧ FloatKind.f64.encode ((FloatKind.f64.decode (fl n)).integral .zero) = fl n := by
  obtain ⟨s, m, k, h1, hk, h2, h3⟩ := decode_fl n hn
  have hm : m = n.natAbs * 2 ^ k := by
    have h4 := congrArg Int.natAbs h2
    rw [Int.natAbs_mul, Int.natAbs_natCast] at h4
    rw [← h4]
    cases s <;> simp
  have hcut : Toward.zero.cut s (m <<< (-(k : Int)).toNat) (-(-(k : Int))).toNat = n.natAbs := by
    have e1 : (-(k : Int)).toNat = 0 := by omega
    have e2 : (-(-(k : Int))).toNat = k := by omega
    rw [e1, e2, shl, Nat.pow_zero, Nat.mul_one, hm]
    unfold Toward.cut
    by_cases h0 : n.natAbs = 0
    · rw [h0]; simp
    · have hl := log2_mul n.natAbs k (by omega)
      have hmin : min k ((n.natAbs * 2 ^ k).log2 + 2) = k := Nat.min_eq_left (by omega)
      rw [hmin, shl, Nat.one_mul]
      simp [Nat.mul_div_cancel _ (Nat.two_pow_pos k)]
  have hint : (FloatKind.f64.decode (fl n)).integral .zero = .number s n.natAbs 0 := by
    rw [h1]
    show Datum.number s (Toward.zero.cut s (m <<< (-(k : Int)).toNat) (-(-(k : Int))).toNat) 0 = _
    rw [hcut]
  have hval : (if s then -(n.natAbs : Int) else n.natAbs) = n := by
    have hp : (0 : Int) < ((2 ^ k : Nat) : Int) := by have := Nat.two_pow_pos k; omega
    cases s
    · simp only [Bool.false_eq_true, if_false] at h2 ⊢
      have : 0 ≤ n := by
        by_cases q : n < 0
        · have := Int.mul_neg_of_neg_of_pos q hp; omega
        · omega
      omega
    · simp only [if_true] at h2 ⊢
      have : n ≤ 0 := by
        by_cases q : 0 < n
        · have := Int.mul_pos q hp; omega
        · omega
      omega
  constructor
  · unfold Datum.toInt
    rw [hint]
    show some (signed s n.natAbs 0) = _
    rw [signed_eq]
    simp only [Nat.pow_zero, Int.natCast_one, Int.mul_one, hval]
  · rw [hint]
    have := enc_fl (s := s) (m := n.natAbs) (k := 0) (n := n) (Nat.zero_le _) (by simpa using hval) hn h3
    simpa using this
end Go.Eng

/- Builtins, conversions, floats. -/
namespace Go.Eng
open Go
section
variable {C : Ctx} {P : Program} {fn : Func} {n : Nat} {g0 g : G} {L0 : List Nat} {Post : Value → G → Prop} {s : St} {T : Tab} {a : Act} {w : World} {m : List Nat}

/-- A builtin that only computes. -/
theorem vo_bi (hC : Fnc C P fn n g0 L0 Post) {o : Oper} {b : Builtin} {args : Array Operand} {tys : Array TypeId} {vs : List SV} {v : Value} (ho : o.op = .call ⟨.builtin b, args, tys⟩) (hv : evs s.env args.toList = some vs)
    (hr : ∀ m c w, (builtin b tys o.type c (vs.map (SV.val m)).toArray).run P w = .ok (.value v) w) : Vo C g s o v [] := by
  intro a w m hs w2 _
  have hargs : args.map a.eval = (vs.map (SV.val m)).toArray := by
    rw [← evs_ok hs hv]; apply Array.ext'; simp
  simp only [execOp, ho, resolve, Sem.run_bind, Sem.run_pure, Result.andThen_ok, invoke]
  rw [hC.P, hargs]
  exact hr m _ w2

theorem vo_conv (hC : Fnc C P fn n g0 L0 Post) {o : Oper} {t t2 : Nat} {x : Operand} {u v : Value} (ho : o.op = .convert t t2 x) (hx : evg [] s.env x = some (.c (.v u))) (hr : ∀ w, (convert t t2 u).run P w = .ok v w) : Vo C g s o v [] := by
  intro a w m hs w2 _
  have e1 : a.eval x = u := (hs.ev hx).1
  simp only [execOp, ho, e1]
  rw [hC.P, Sem.run_bind, hr]
  rfl

theorem run_i2f {t t2 : Nat} {u1 : TypeDesc} (h1 : P.underlying t = some u1) (h2 : P.underlying t2 = some (.float .f64)) (i : Int) (w : World) : (convert t t2 (.int .i64 i)).run P w = .ok (.float .f64 (fl i)) w := by
  unfold convert
  rw [Sem.run_bind, run_underlying h1, Result.andThen_ok, Sem.run_bind, run_underlying h2, Result.andThen_ok]
  cases u1 <;> rfl

theorem run_f2i {t t2 : Nat} {u1 : TypeDesc} (h1 : P.underlying t = some u1) (h2 : P.underlying t2 = some (.int .i64)) (i : Int) (hi : i.natAbs < 2 ^ 52) (w : World) : (convert t t2 (.float .f64 (fl i))).run P w = .ok (.int .i64 i) w := by
  have hc : Conv.floatToInt .f64 (fl i) .i64 = pure (.int .i64 i) := by
    unfold Conv.floatToInt
    rw [(toInt_fl i hi).1]
    have h3 : IntKind.i64.min ≤ i ∧ i ≤ IntKind.i64.max := by
      have a1 : IntKind.i64.min = -9223372036854775808 := rfl
      have a2 : IntKind.i64.max = 9223372036854775807 := rfl
      rw [a1, a2]
      have : (2 : Nat) ^ 52 = 4503599627370496 := rfl
      omega
    simp only [h3, and_self, if_true]
  unfold convert
  rw [Sem.run_bind, run_underlying h1, Result.andThen_ok, Sem.run_bind, run_underlying h2, Result.andThen_ok]
  cases u1 <;> (dsimp only; rw [hc]; rfl)

theorem run_max (tys : Array TypeId) (ty : TypeId) (c : Array Bool) (x y : Int) (w : World) : (builtin .max tys ty c #[.int .i64 x, .int .i64 y]).run P w = .ok (.value (.int .i64 (max x y))) w := by
  have : (if y > x then y else x) = max x y := by split <;> omega
  simp [builtin, Builtin.max_, Builtin.max2]
  omega
theorem run_min (tys : Array TypeId) (ty : TypeId) (c : Array Bool) (x y : Int) (w : World) : (builtin .min tys ty c #[.int .i64 x, .int .i64 y]).run P w = .ok (.value (.int .i64 (min x y))) w := by
  simp [builtin, Builtin.min_, Builtin.min2]
  omega

theorem fl_order (a b : Int) (ha : a.natAbs < 2 ^ 52) (hb : b.natAbs < 2 ^ 52) : FloatKind.f64.format.order (fl a) (fl b) = some (compare a b) := order_isN (isN_fl a ha) (isN_fl b hb)

theorem run_fle (P : Program) (x y : Operand) (t : Nat) (a b : Int) (ha : a.natAbs < 2 ^ 52) (hb : b.natAbs < 2 ^ 52) (w : World) :
    ((do eqGuard .leq t x y (.float .f64 (fl a)) (.float .f64 (fl b)); binOp .leq t (.float .f64 (fl a)) (.float .f64 (fl b)) : Sem Value)).run P w = .ok (.bool (decide (a ≤ b))) w := by
  have h1 : binOp .leq t (.float .f64 (fl a)) (.float .f64 (fl b)) = pure (.bool (FloatKind.f64.format.order (fl a) (fl b) == some .lt || FloatKind.f64.format.order (fl a) (fl b) == some .eq)) := rfl
  rw [Sem.run_bind]
  show Result.andThen (.ok () w) _ = _
  rw [Result.andThen_ok, h1, fl_order a b ha hb]
  rcases Int.lt_trichotomy a b with h | h | h
  · rw [Int.compare_eq_lt.2 h, decide_eq_true (show a ≤ b by omega)]; rfl
  · rw [Int.compare_eq_eq.2 h, decide_eq_true (show a ≤ b by omega)]; rfl
  · rw [Int.compare_eq_gt.2 h, decide_eq_false (show ¬ a ≤ b by omega)]; rfl

theorem run_fgt (P : Program) (x y : Operand) (t : Nat) (a b : Int) (ha : a.natAbs < 2 ^ 52) (hb : b.natAbs < 2 ^ 52) (w : World) :
    ((do eqGuard .gtr t x y (.float .f64 (fl a)) (.float .f64 (fl b)); binOp .gtr t (.float .f64 (fl a)) (.float .f64 (fl b)) : Sem Value)).run P w = .ok (.bool (decide (b < a))) w := by
  have h1 : binOp .gtr t (.float .f64 (fl a)) (.float .f64 (fl b)) = pure (.bool (FloatKind.f64.format.order (fl a) (fl b) == some .gt)) := rfl
  rw [Sem.run_bind]
  show Result.andThen (.ok () w) _ = _
  rw [Result.andThen_ok, h1, fl_order a b ha hb]
  rcases Int.lt_trichotomy a b with h | h | h
  · rw [Int.compare_eq_lt.2 h, decide_eq_false (show ¬ b < a by omega)]; rfl
  · rw [Int.compare_eq_eq.2 h, decide_eq_false (show ¬ b < a by omega)]; rfl
  · rw [Int.compare_eq_gt.2 h, decide_eq_true (show b < a by omega)]; rfl

theorem run_feq (P : Program) (x y : Operand) (t : Nat) (a b : Int) (ha : a.natAbs < 2 ^ 52) (hb : b.natAbs < 2 ^ 52) (w : World) :
    ((do eqGuard .eql t x y (.float .f64 (fl a)) (.float .f64 (fl b)); binOp .eql t (.float .f64 (fl a)) (.float .f64 (fl b)) : Sem Value)).run P w = .ok (.bool (decide (a = b))) w := by
  have h0 : (eqGuard .eql t x y (.float .f64 (fl a)) (.float .f64 (fl b))).run P w = .ok () w := by simp [eqGuard]
  have h1 : binOp .eql t (.float .f64 (fl a)) (.float .f64 (fl b)) = pure (.bool (FloatKind.f64.format.order (fl a) (fl b) == some .eq)) := rfl
  rw [Sem.run_bind, h0, Result.andThen_ok, h1, fl_order a b ha hb]
  rcases Int.lt_trichotomy a b with h | h | h
  · rw [Int.compare_eq_lt.2 h, decide_eq_false (show ¬ a = b by omega)]; rfl
  · rw [Int.compare_eq_eq.2 h, decide_eq_true h]; rfl
  · rw [Int.compare_eq_gt.2 h, decide_eq_false (show ¬ a = b by omega)]; rfl

theorem run_fadd (P : Program) (x y : Operand) (t : Nat) (a b : Int) (ha : a.natAbs < 2 ^ 52) (hb : b.natAbs < 2 ^ 52) (hs : (a + b).natAbs < 2 ^ 52) (w : World) :
    ((do eqGuard .add t x y (.float .f64 (fl a)) (.float .f64 (fl b)); binOp .add t (.float .f64 (fl a)) (.float .f64 (fl b)) : Sem Value)).run P w = .ok (.float .f64 (fl (a + b))) w := by
  have h1 : FloatKind.f64.format.add (fl a) (fl b) = some (fl (a + b)) := sum_fl a b ha hb hs
  have h2 : binOp .add t (.float .f64 (fl a)) (.float .f64 (fl b)) = Op.floatArith .add .f64 (fl a) (fl b) := rfl
  rw [Sem.run_bind]
  show Result.andThen (.ok () w) _ = _
  rw [Result.andThen_ok, h2]
  unfold Op.floatArith
  simp only [pure_bind, h1]
  rfl

theorem run_fmin (tys : Array TypeId) (ty : TypeId) (c : Array Bool) (a b : Int) (ha : a.natAbs < 2 ^ 52) (hb : b.natAbs < 2 ^ 52) (w : World) : (builtin .min tys ty c #[.float .f64 (fl a), .float .f64 (fl b)]).run P w = .ok (.value (.float .f64 (fl (min a b)))) w := by
  have h := fl_order a b ha hb
  simp only [builtin, Builtin.min_, Builtin.min2, List.foldlM]
  rcases Int.lt_trichotomy a b with q | q | q
  · rw [Int.compare_eq_lt.2 q] at h
    have : min a b = a := by omega
    simp [h, this, Builtin.min2]
  · subst q
    rw [Int.compare_eq_eq.2 rfl] at h
    simp [h, Builtin.min2]
  · rw [Int.compare_eq_gt.2 q] at h
    have : min a b = b := by omega
    simp [h, this, Builtin.min2]

theorem run_fmax (tys : Array TypeId) (ty : TypeId) (c : Array Bool) (a b : Int) (ha : a.natAbs < 2 ^ 52) (hb : b.natAbs < 2 ^ 52) (w : World) : (builtin .max tys ty c #[.float .f64 (fl a), .float .f64 (fl b)]).run P w = .ok (.value (.float .f64 (fl (max a b)))) w := by
  have h := fl_order a b ha hb
  simp only [builtin, Builtin.max_, Builtin.max2, List.foldlM]
  rcases Int.lt_trichotomy a b with q | q | q
  · rw [Int.compare_eq_lt.2 q] at h
    have : max a b = b := by omega
    simp [h, this, Builtin.max2]
  · subst q
    rw [Int.compare_eq_eq.2 rfl] at h
    simp [h, Builtin.max2]
  · rw [Int.compare_eq_gt.2 q] at h
    have : max a b = a := by omega
    simp [h, this, Builtin.max2]

theorem run_cplx (tys : Array TypeId) (ty : TypeId) (c : Array Bool) (a b : Nat) (w : World) : (builtin .complex tys ty c #[.float .f64 a, .float .f64 b]).run P w = .ok (.value (.complex .f64 a b)) w := rfl
theorem run_real (tys : Array TypeId) (ty : TypeId) (c : Array Bool) (a b : Nat) (w : World) : (builtin .real tys ty c #[.complex .f64 a b]).run P w = .ok (.value (.float .f64 a)) w := rfl
theorem run_imag (tys : Array TypeId) (ty : TypeId) (c : Array Bool) (a b : Nat) (w : World) : (builtin .imag tys ty c #[.complex .f64 a b]).run P w = .ok (.value (.float .f64 b)) w := rfl
end
end Go.Eng

/- Whole floats, subtracted and negated. -/
namespace Go.Eng
open Go Ieee

theorem sum_gen (n m : Int) {s t : Bool} {a b k j : Nat} (hk : k ≤ 1074) (h2 : (if s then -(a : Int) else a) = n * ((2 ^ k : Nat) : Int)) (h3 : n = 0 → s = false) (hj : j ≤ 1074) (q2 : (if t then -(b : Int) else b) = m * ((2 ^ j : Nat) : Int)) (hs : (n + m).natAbs < 2 ^ 52) :
    ((Datum.number s a (-(k : Int))).sum (.number t b (-(j : Int)))).map FloatKind.f64.encode = some (fl (n + m)) := by
  have e0 : min (-(k : Int)) (-(j : Int)) = -((max k j : Nat) : Int) := by omega
  have e1 : (-(k : Int) - min (-(k : Int)) (-(j : Int))).toNat = max k j - k := by omega
  have e2 : (-(j : Int) - min (-(k : Int)) (-(j : Int))).toNat = max k j - j := by omega
  have htot : signed s a (-(k : Int) - min (-(k : Int)) (-(j : Int))).toNat + signed t b (-(j : Int) - min (-(k : Int)) (-(j : Int))).toNat = (n + m) * ((2 ^ max k j : Nat) : Int) := by
    rw [e1, e2, signed_eq, signed_eq, scaled h2 (Nat.le_max_left _ _), scaled q2 (Nat.le_max_right _ _), Int.add_mul]
  have hp : (0 : Int) < ((2 ^ max k j : Nat) : Int) := by have := Nat.two_pow_pos (max k j); omega
  have hz0 : (n + m) * ((2 ^ max k j : Nat) : Int) = 0 ↔ n + m = 0 := by
    rw [Int.mul_eq_zero]
    constructor
    · rintro (q | q)
      · exact q
      · omega
    · intro q; exact .inl q
  show (some (Datum.number _ _ _)).map _ = _
  rw [htot, e0]
  simp only [Option.map_some, Option.some.injEq]
  refine enc_fl (by omega) ?_ hs ?_
  · by_cases hz : n + m = 0
    · rw [hz]; simp
    · have hz' : ¬ (n + m) * ((2 ^ max k j : Nat) : Int) = 0 := fun q => hz (hz0.1 q)
      rw [if_neg hz']
      generalize (n + m) * ((2 ^ max k j : Nat) : Int) = x at *
      by_cases q : x < 0
      · simp only [q, decide_true, if_true]; omega
      · simp only [q, decide_false, Bool.false_eq_true, if_false]; omega
  · intro hz
    rw [if_pos (hz0.2 hz)]
    by_cases q : n = 0
    · rw [h3 q]; rfl
    · cases s
      · rfl
      · simp only [if_true] at h2
        have hk' : (0 : Int) < ((2 ^ k : Nat) : Int) := by have := Nat.two_pow_pos k; omega
        have hj' : (0 : Int) < ((2 ^ j : Nat) : Int) := by have := Nat.two_pow_pos j; omega
        have hn' : n < 0 := by
          by_cases q' : 0 < n
          · have := Int.mul_pos q' hk'; omega
          · omega
        cases t
        · rfl
        · exfalso
          simp only [if_true] at q2
          have : 0 < m := by omega
          have := Int.mul_pos this hj'
          omega

theorem sub_fl (n m : Int) (hn : n.natAbs < 2 ^ 52) (hm : m.natAbs < 2 ^ 52) (hs : (n - m).natAbs < 2 ^ 52) : FloatKind.f64.format.sub (fl n) (fl m) = some (fl (n - m)) := by
  obtain ⟨s, a, k, h1, hk, h2, h3⟩ := decode_fl n hn
  obtain ⟨t, b, j, q1, hj, q2, _⟩ := decode_fl m hm
  show ((FloatKind.f64.decode (fl n)).sum (FloatKind.f64.decode (fl m)).opposite).map FloatKind.f64.encode = _
  rw [h1, q1]
  refine sum_gen n (-m) (t := !t) hk h2 h3 hj ?_ hs
  cases t
  · simp only [Bool.false_eq_true, if_false, Bool.not_false, if_true] at q2 ⊢
    rw [q2, Int.neg_mul]
  · simp only [Bool.false_eq_true, if_false, Bool.not_true, if_true] at q2 ⊢
    rw [Int.neg_mul, ← q2, Int.neg_neg]

theorem xor_top (r : Nat) (h : r < 2 ^ 63) : r ^^^ 2 ^ 63 = 2 ^ 63 + r := by
  apply Nat.eq_of_testBit_eq
  intro i
  rw [Nat.testBit_xor, Nat.testBit_two_pow]
  by_cases h1 : i = 63
  · subst h1
    rw [Nat.testBit_two_pow_add_eq]
    simp [Nat.testBit_lt_two_pow h]
  · have e1 : (decide (63 = i)) = false := by simp; omega
    rw [e1, Bool.xor_false]
    rcases Nat.lt_or_gt_of_ne h1 with h2 | h2
    · rw [Nat.testBit_two_pow_add_gt h2]
    · have h3 : (2 : Nat) ^ 64 ≤ 2 ^ i := Nat.pow_le_pow_right (by omega) h2
      have h4 : (2 : Nat) ^ 64 = 2 ^ 63 + 2 ^ 63 := by decide
      rw [Nat.testBit_lt_two_pow (by omega), Nat.testBit_lt_two_pow (by omega)]

theorem isN_neg (n : Int) (h0 : 0 ≤ n) (h : n.natAbs < 2 ^ 52) : IsN (FloatKind.f64.decode (Op.negFloat .f64 (fl n))) (-n) := by
  by_cases hn : n = 0
  · subst hn
    refine ⟨true, 0, 1074, ?_, Nat.le_refl _, by simp⟩
    decide +kernel
  · have h1 : 0 < n.natAbs := by omega
    have hl : n.natAbs.log2 < 52 := (Nat.log2_lt (by omega)).2 h
    have e1 : fl n = rung n.natAbs := by
      have := nearest_exact (decide (n < 0)) n.natAbs 0 h1 h (Nat.zero_le _)
      have hd : decide (n < 0) = false := by simp; omega
      rw [hd] at this
      have e : fl n = double.word false (rung n.natAbs) := by simpa [fl, FloatKind.nearest, FloatKind.encode, FloatKind.format, Format.write, hd] using this
      rw [e]; rfl
    have hr : rung n.natAbs < 2 ^ 63 := by
      have e2 : n.natAbs * 2 ^ (52 - n.natAbs.log2) < 2 ^ 53 := by
        have h2 : n.natAbs < 2 ^ (n.natAbs.log2 + 1) := Nat.lt_log2_self
        have h3 : n.natAbs * 2 ^ (52 - n.natAbs.log2) < 2 ^ (n.natAbs.log2 + 1) * 2 ^ (52 - n.natAbs.log2) := Nat.mul_lt_mul_of_pos_right h2 (Nat.two_pow_pos _)
        rw [← Nat.pow_add] at h3
        have e4 : n.natAbs.log2 + 1 + (52 - n.natAbs.log2) = 53 := by omega
        rwa [e4] at h3
      unfold rung
      have e3 : (n.natAbs.log2 + 1022) * 2 ^ 52 ≤ 1073 * 2 ^ 52 := Nat.mul_le_mul_right _ (by omega)
      have e5 : (2 : Nat) ^ 53 = 9007199254740992 := by decide
      have e6 : (2 : Nat) ^ 63 = 9223372036854775808 := by decide
      have e7 : (1073 : Nat) * 2 ^ 52 = 4832362400168542208 := by decide
      omega
    have e8 : Op.negFloat .f64 (fl n) = double.word true (rung n.natAbs) := by
      show fl n ^^^ 2 ^ 63 = 2 ^ 63 + rung n.natAbs
      rw [e1, xor_top _ hr]
    refine ⟨true, n.natAbs * 2 ^ (52 - n.natAbs.log2), 52 - n.natAbs.log2, ?_, by omega, ?_⟩
    · rw [e8]
      have := read_word true n.natAbs h1 h
      have e2 : ((n.natAbs.log2 : Int) - 52) = -((52 - n.natAbs.log2 : Nat) : Int) := by omega
      rw [e2] at this
      exact this
    · have : (n.natAbs : Int) = n := by omega
      simp only [if_true, Int.natCast_mul, this]
      rw [Int.neg_mul]
end Go.Eng

/- Single operators; slices of slices; floats, further. -/
namespace Go.Eng
open Go
section
variable {C : Ctx} {P : Program} {fn : Func} {n : Nat} {g0 g : G} {L0 : List Nat} {Post : Value → G → Prop} {s : St} {T : Tab} {a : Act} {w : World} {m : List Nat}

theorem vo_un (hC : Fnc C P fn n g0 L0 Post) {o : Oper} {op : UnOp} {t : Nat} {x : Operand} {u r : Value} (ho : o.op = .unOp op t x) (hx : evg [] s.env x = some (.c (.v u))) (hr : ∀ w, (Op.unary op u).run P w = .ok r w) : Vo C g s o r [] := by
  intro a w m hs w2 _
  have e1 : a.eval x = u := (hs.ev hx).1
  simp only [execOp, ho, e1]
  rw [hC.P, Sem.run_bind, hr, Result.andThen_ok]
  rfl

theorem run_fneg (x : Nat) (w : World) : (Op.unary .neg (.float .f64 x)).run P w = .ok (.float .f64 (Op.negFloat .f64 x)) w := rfl

theorem run_flen (P : Program) (x y : Operand) (t : Nat) (p q : Nat) (a b : Int) (ha : IsN (FloatKind.f64.decode p) a) (hb : IsN (FloatKind.f64.decode q) b) (w : World) :
    ((do eqGuard .leq t x y (.float .f64 p) (.float .f64 q); binOp .leq t (.float .f64 p) (.float .f64 q) : Sem Value)).run P w = .ok (.bool (decide (a ≤ b))) w := by
  have h1 : binOp .leq t (.float .f64 p) (.float .f64 q) = pure (.bool (FloatKind.f64.format.order p q == some .lt || FloatKind.f64.format.order p q == some .eq)) := rfl
  have h2 : FloatKind.f64.format.order p q = some (compare a b) := order_isN ha hb
  rw [Sem.run_bind]
  show Result.andThen (.ok () w) _ = _
  rw [Result.andThen_ok, h1, h2]
  rcases Int.lt_trichotomy a b with h | h | h
  · rw [Int.compare_eq_lt.2 h, decide_eq_true (show a ≤ b by omega)]; rfl
  · rw [Int.compare_eq_eq.2 h, decide_eq_true (show a ≤ b by omega)]; rfl
  · rw [Int.compare_eq_gt.2 h, decide_eq_false (show ¬ a ≤ b by omega)]; rfl

theorem run_csub (P : Program) (x y : Operand) (t : Nat) (a b c d : Int) (ha : a.natAbs < 2 ^ 52) (hb : b.natAbs < 2 ^ 52) (hc : c.natAbs < 2 ^ 52) (hd : d.natAbs < 2 ^ 52) (h1 : (a - c).natAbs < 2 ^ 52) (h2 : (b - d).natAbs < 2 ^ 52) (w : World) :
    ((do eqGuard .sub t x y (.complex .f64 (fl a) (fl b)) (.complex .f64 (fl c) (fl d)); binOp .sub t (.complex .f64 (fl a) (fl b)) (.complex .f64 (fl c) (fl d)) : Sem Value)).run P w = .ok (.complex .f64 (fl (a - c)) (fl (b - d))) w := by
  have e1 := sub_fl a c ha hc h1
  have e2 := sub_fl b d hb hd h2
  have e3 : binOp .sub t (.complex .f64 (fl a) (fl b)) (.complex .f64 (fl c) (fl d)) = Op.complexOp .sub .f64 (fl a) (fl b) (fl c) (fl d) := rfl
  rw [Sem.run_bind]
  show Result.andThen (.ok () w) _ = _
  rw [Result.andThen_ok, e3]
  simp only [Op.complexOp, Op.Complex.arith, Op.floatArith, pure_bind, e1, e2]
  rfl

/-- A slice from a place on. -/
theorem vo_slfrom (hC : Fnc C P fn n g0 L0 Post) (hT : TabOk P T) {o : Oper} {t : Nat} {x y : Operand} {ad : Option Addr} {len cap : Nat} {i : Int} {d de : TD} (ho : o.op = .slice t x (some y) none none) (hx : evg [] s.env x = some (.c (.v (.slice ad len cap))))
    (hy : evg [] s.env y = some (.c (.v (.int .i64 i)))) (hd : T t = some d) (hcl : d.cl = 1) (hde : T d.el = some de) (h0 : 0 ≤ i) (hl : i ≤ len) :
    Vo C g s o (.slice (if cap = i.toNat then ad else ad.map (·.add (i.toNat * de.size))) (len - i.toNat) (cap - i.toNat)) [] := by
  intro a w m hs w2 _
  obtain ⟨_, u, _, hu, _, _, _, _, _, _, _, hsl, _⟩ := hT.ok t d hd
  obtain ⟨ie, _, hie, _, hsz, _⟩ := hT.ok d.el de hde
  have e1 : a.eval x = .slice ad len cap := (hs.ev hx).1
  have e2 : a.eval y = .int .i64 i := (hs.ev hy).1
  rw [hsl hcl] at hu
  simp only [execOp, ho, e1, e2, Option.map_some, Option.map_none]
  rw [hC.P]
  simp [Instr.sliceAt, Instr.slice, Instr.sliceBounds, Instr.sliceBound, asIntOf, run_underlying hu, sizeOf, rti hie, hsz, h0, hl]

/-- A slice up to a place. -/
theorem vo_slupto (hC : Fnc C P fn n g0 L0 Post) (hT : TabOk P T) {o : Oper} {t : Nat} {x y : Operand} {ad : Option Addr} {len cap : Nat} {i : Int} {d de : TD} (ho : o.op = .slice t x none (some y) none) (hx : evg [] s.env x = some (.c (.v (.slice ad len cap))))
    (hy : evg [] s.env y = some (.c (.v (.int .i64 i)))) (hd : T t = some d) (hcl : d.cl = 1) (hde : T d.el = some de) (h0 : 0 ≤ i) (hl : i ≤ cap) (had : ∀ b, ad = some b → b.add 0 = b) :
    Vo C g s o (.slice ad i.toNat cap) [] := by
  intro a w m hs w2 _
  obtain ⟨_, u, _, hu, _, _, _, _, _, _, _, hsl, _⟩ := hT.ok t d hd
  obtain ⟨ie, _, hie, _, hsz, _⟩ := hT.ok d.el de hde
  have e1 : a.eval x = .slice ad len cap := (hs.ev hx).1
  have e2 : a.eval y = .int .i64 i := (hs.ev hy).1
  rw [hsl hcl] at hu
  have e3 : (if cap = 0 then ad else ad.map (·.add 0)) = ad := by
    split
    · rfl
    · cases ad with
      | none => rfl
      | some b => simp [had b rfl]
  simp only [execOp, ho, e1, e2, Option.map_some, Option.map_none]
  rw [hC.P]
  simp [Instr.sliceAt, Instr.slice, Instr.sliceBounds, Instr.sliceBound, asIntOf, run_underlying hu, sizeOf, rti hie, h0, hl, e3]
end
end Go.Eng

/- Lists of terms, further; containers and tickets in memory. -/
namespace Go.Eng
open Go

abbrev ofT (s : ByteArray) : T := .mk 0 s 0 []
abbrev numT (n : Int) : T := .mk 1 .empty n []
abbrev keyT (s : ByteArray) (n : Int) : T := .mk 2 s n []
abbrev listT (l : List T) : T := .mk 3 .empty 0 l
abbrev sealT (k : T) (u : Int) (b : T) : T := .mk 4 .empty u [k, b]
abbrev sumT (k : T) (u : Int) (b : T) : T := .mk 5 .empty u [k, b]
abbrev T0 : T := .mk 0 .empty 0 []

theorem T0_ok (g : G) : TOk g T0 ⟨none, 0⟩ := ⟨.nil, Nat.le_refl _, Nat.zero_le _, Nat.zero_le _⟩

/-- What is behind a list's first. -/
theorem LOk.tl {g : G} {x : T} {r : List T} {h : Hd} (k : LOk g (x :: r) h) : LOk g r ⟨if h.cap = 1 then h.a else h.a.map (·.add (1 * 4)), h.cap - 1⟩ := by
  obtain ⟨k1, k2, k3⟩ := k
  simp only [List.length_cons] at k2
  refine ⟨?_, by dsimp only; omega, by dsimp only; omega⟩
  dsimp only
  generalize h.a = a at k1
  cases k1 with
  | cons q1 q2 q3 q4 q5 q6 =>
    split
    · have : r = [] := List.eq_nil_of_length_eq_zero (by omega)
      subst this; exact .nil
    · simpa [add_plain] using q6

theorem LOk.hd1 {g : G} {x : T} {r : List T} {h : Hd} (k : LOk g (x :: r) h) : LOk g [x] h ∧ ∃ b off, h.a = some ⟨b, off, none⟩ := by
  obtain ⟨k1, k2, k3⟩ := k
  simp only [List.length_cons] at k2
  have : ∃ b off, h.a = some ⟨b, off, none⟩ ∧ TsIs g (some ⟨b, off, none⟩) [x] := by
    generalize h.a = a at k1
    cases k1 with
    | cons q1 q2 q3 q4 q5 q6 => exact ⟨_, _, rfl, .cons q1 q2 q3 q4 q5 .nil⟩
  obtain ⟨b, off, e, q⟩ := this
  exact ⟨⟨by rw [e]; exact q, by simp; omega, k3⟩, b, off, e⟩

/-- A list whose elements are known, in a new block. -/
theorem LOk.new {g : G} {b : Nat} (l : List (T × Hd)) (n : Nat) (hn : l.length = n) (hm : n ≤ maxLen) (hc : Cs g 0 b 0 (rowc l)) (hp : ∀ p ∈ l, TOk g p.1 p.2) : LOk g (l.map (·.1)) ⟨some ⟨b, 0, none⟩, n⟩ :=
  ⟨TsIs.of l hc hp, by simp [hn], hm⟩

theorem lsc {p : T × Hd} {l : List (T × Hd)} {Q : T × Hd → Prop} (h : Q p) (h2 : ∀ x ∈ l, Q x) : ∀ x ∈ p :: l, Q x := by
  intro x hx
  rcases List.mem_cons.1 hx with rfl | hx
  · exact h
  · exact h2 x hx
theorem lsn {Q : T × Hd → Prop} : ∀ x ∈ ([] : List (T × Hd)), Q x := by simp
theorem ls1 {p : T × Hd} {Q : T × Hd → Prop} (h : Q p) : ∀ x ∈ [p], Q x := lsc h lsn
theorem ls2 {p q : T × Hd} {Q : T × Hd → Prop} (h : Q p) (h2 : Q q) : ∀ x ∈ [p, q], Q x := lsc h (lsc h2 lsn)
theorem ls3 {p q r : T × Hd} {Q : T × Hd → Prop} (h : Q p) (h2 : Q q) (h3 : Q r) : ∀ x ∈ [p, q, r], Q x := lsc h (lsc h2 (lsc h3 lsn))

/-- Terms without lists. -/
def leafs {α : Type} (f : α → T) (l : List α) : List (T × Hd) := l.map fun x => (f x, ⟨none, 0⟩)
theorem leafs_map {α : Type} (f : α → T) (l : List α) : (leafs f l).map (·.1) = l.map f := by simp [leafs]
theorem leafs_take {α : Type} (f : α → T) (l : List α) (i : Nat) (h : i < l.length) : rowc (leafs f (l.take (i + 1))) = rowc (leafs f (l.take i)) ++ tc (f l[i]) ⟨none, 0⟩ := by
  rw [List.take_succ_eq_append_getElem h]
  simp only [leafs, rowc, List.map_append, List.flatMap_append, List.map_cons, List.map_nil, List.flatMap_cons, List.flatMap_nil, List.append_nil]

/-! ### Containers -/

structure Au where
  user : ByteArray
  gr : List Int
  org : Int
  tr : List ByteArray
  svc : ByteArray
  fwd : Bool
  till : Int

structure AH where
  gr : Hd
  tr : Hd

def auc (a : Au) (h : AH) : List Value := [.string a.user, .slice h.gr.a a.gr.length h.gr.cap, .int .i64 a.org, .slice h.tr.a a.tr.length h.tr.cap, .string a.svc, .bool a.fwd, .int .i64 a.till]
def auv (a : Au) (h : AH) : Value := .agg (auc a h).toArray

structure AuOk (g : G) (a : Au) (h : AH) : Prop where
  gr : IntsOk g a.gr h.gr
  tr : StrsOk g 0 a.tr h.tr
  us : a.user.size ≤ maxLen
  sv : a.svc.size ≤ maxLen

theorem AuOk.to {g g' : G} [Later g g'] {a : Au} {h : AH} (k : AuOk g a h) : AuOk g' a h := ⟨k.gr.to, k.tr.to, k.us, k.sv⟩

abbrev Au0 : Au := ⟨.empty, [], 0, [], .empty, false, 0⟩
theorem Au0_ok (g : G) : AuOk g Au0 ⟨⟨none, 0⟩, ⟨none, 0⟩⟩ := ⟨⟨.inl rfl, Nat.le_refl _, Nat.zero_le _⟩, ⟨⟨.inl rfl, Nat.le_refl _, Nat.zero_le _⟩, by simp⟩, Nat.zero_le _, Nat.zero_le _⟩

/-! ### Tickets -/

structure Tkt where
  svc : ByteArray
  fl : Int
  key : T
  cl : ByteArray
  fr : Int
  till : Int
  auth : T

structure TktH where
  key : Hd
  auth : Hd

def tkc (k : Tkt) (h : TktH) : List Value := [.string k.svc, .int .i64 k.fl, .int .i64 k.key.k, .string k.key.s, .int .i64 k.key.n, .slice h.key.a k.key.l.length h.key.cap, .string k.cl, .int .i64 k.fr, .int .i64 k.till, .int .i64 k.auth.k, .string k.auth.s, .int .i64 k.auth.n, .slice h.auth.a k.auth.l.length h.auth.cap]
def tkv (k : Tkt) (h : TktH) : Value := .agg (tkc k h).toArray

structure TktOk (g : G) (k : Tkt) (h : TktH) : Prop where
  key : TOk g k.key h.key
  auth : TOk g k.auth h.auth
  sv : k.svc.size ≤ maxLen
  cl : k.cl.size ≤ maxLen

theorem TktOk.to {g g' : G} [Later g g'] {k : Tkt} {h : TktH} (q : TktOk g k h) : TktOk g' k h := ⟨q.key.to, q.auth.to, q.sv, q.cl⟩

abbrev Tkt0 : Tkt := ⟨.empty, 0, T0, .empty, 0, 0, T0⟩
theorem Tkt0_ok (g : G) : TktOk g Tkt0 ⟨⟨none, 0⟩, ⟨none, 0⟩⟩ := ⟨T0_ok g, T0_ok g, Nat.zero_le _, Nat.zero_le _⟩

@[go_sem] theorem ba_empty : (ByteArray.mk #[]) = ByteArray.empty := rfl
@[simp, go_sem] theorem T.k_mk (k : Int) (s : ByteArray) (n : Int) (l : List T) : (T.mk k s n l).k = k := rfl
@[simp, go_sem] theorem T.s_mk (k : Int) (s : ByteArray) (n : Int) (l : List T) : (T.mk k s n l).s = s := rfl
@[simp, go_sem] theorem T.n_mk (k : Int) (s : ByteArray) (n : Int) (l : List T) : (T.mk k s n l).n = n := rfl
@[simp, go_sem] theorem T.l_mk (k : Int) (s : ByteArray) (n : Int) (l : List T) : (T.mk k s n l).l = l := rfl
attribute [go_sem] auc auv tkc tkv
end Go.Eng

/- Scopes, jumps; append to a row that is full. -/
namespace Go.Eng
open Go
section
variable {C : Ctx} {P : Program} {fn : Func} {n : Nat} {g0 g : G} {L0 : List Nat} {Post : Value → G → Prop} {s : St} {T : Tab} {a : Act} {w : World} {m : List Nat}

/-- A scope through which the run goes without a jump. -/
theorem scope_ {c : Code} {k : List KI} (h : Sg C g ⟨.code c :: .jmp 0 (fun _ _ => False) :: k, s⟩) : Sg C g ⟨.code (.scope c) :: k, s⟩ := by
  intro a w m hs
  show (Code.scope c).wp C.P (denK C k) a w
  refine wp_scope_straight (Go.wp_mono (show c.wp C.P (denK C (.jmp 0 (fun _ _ => False) :: k)) a w from h a w m hs) fun e a w q => ?_)
  cases e <;> first | exact q | exact q.2.elim

theorem jend {l : Nat} {J : Act → World → Prop} {k : List KI} (hk : noD k = true) (h : Sg C g ⟨k, s⟩) : Sg C g ⟨.jmp l J :: k, s⟩ := by
  intro a w m hs
  have := h a w m hs
  rw [den_noD hk] at this
  exact this

theorem lbl {l : Nat} {k : List KI} (hk : noD k = true) (h : Sg C g ⟨k, s⟩) : Sg C g ⟨.code (.label l) :: k, s⟩ := by
  intro a w m hs
  have := h a w m hs
  rw [den_noD hk] at this
  exact wp_label this

def jmpOf (l : Nat) : List KI → Option (Act → World → Prop)
  | [] => none
  | .jmp j J :: _ => if j = l then some J else none
  | _ :: k => jmpOf l k

theorem goto_ok {l : Nat} {J : Act → World → Prop} : ∀ {k : List KI}, jmpOf l k = some J → J a w → denK C k (.goto l) a w
  | [], h, _ => by cases h
  | .jmp j J' :: k, h, hJ => by
    simp only [jmpOf] at h
    split at h
    · rename_i e
      obtain rfl := Option.some.inj h
      exact ⟨e.symm, hJ⟩
    · cases h
  | .blk _ :: k, h, hJ => goto_ok (k := k) h hJ
  | .code _ :: k, h, hJ => goto_ok (k := k) h hJ
  | .ops _ _ :: k, h, hJ => goto_ok (k := k) h hJ
  | .kont _ :: k, h, hJ => goto_ok (k := k) h hJ
  | .opsD .. :: k, h, hJ => goto_ok (k := k) h hJ

/-- A jump back. -/
theorem goto_ {ι : Type} {I : ι → Prop} {F : ι → G} {S : ι → St} {μ : ι → Nat} {x : ι} {l : Nat} {k : List KI} {J : Act → World → Prop} (hj : jmpOf l k = some J) (hJ : ∀ a w, Again C I F S μ x a w → J a w) (lab : Nat → Nat)
    (H : ∀ m g1, Prv [1] g g1 → Expo s m lab g1 → ∃ x', I x' ∧ μ x' < μ x ∧ F x' = g1 ∧ Wk s m (S x') ∧ (∀ i, i < (S x').nb → lab i = 1)) : Sg C g ⟨.code (.goto l) :: k, s⟩ := by
  intro a w m hs
  obtain ⟨x', h1, h2, h3, h4, h5⟩ := H m _ ⟨hs.keeps lab, by simp⟩ (hs.expo lab)
  show (Code.goto l).wp C.P (denK C k) a w
  exact wp_goto (goto_ok hj (hJ _ _ ⟨x', h1, h2, _, by rw [h3]; exact hs.wk lab h4 h5⟩))

/-- A scope in which the run jumps back to one label. -/
theorem scopeJ {ι : Type} (I : ι → Prop) (F : ι → G) (S : ι → St) (μ : ι → Nat) {c rest : Code} {k : List KI} {l : Nat} (hf : findLabel c l = some (.seq .skip rest))
    (pass : ∀ x, I x → ∀ J : Act → World → Prop, (∀ a w, Again C I F S μ x a w → J a w) → Sg C (F x) ⟨.code rest :: .jmp l J :: k, S x⟩)
    (first : ∀ J : Act → World → Prop, (∀ x, I x → Sg C (F x) ⟨.code rest :: .jmp l J :: k, S x⟩) → Sg C g ⟨.code c :: .jmp l J :: k, s⟩) : Sg C g ⟨.code (.scope c) :: k, s⟩ := by
  intro a w m hs
  show (Code.scope c).wp C.P (denK C k) a w
  intro b kk cs
  have hg : gotoIn l (.inScope c :: kk) = some (.code (.seq .skip rest) :: .inScope c :: kk) := by simp [gotoIn, hf]
  have key : ∀ n x a w m, μ x = n → I x → Sat C (F x) (S x) a w m → ∃ e a' w', denK C k e a' w' ∧ Arrives C.P (lone (b.at a (.code (.seq .skip rest) :: .inScope c :: kk)) cs w) b kk cs e a' w' := by
    intro n
    induction n using Nat.strongRecOn with
    | _ n ih =>
      intro x a w m hn hI hs
      have hp0 : rest.wp C.P (Exit.jump l (Again C I F S μ x) (denK C k)) a w := pass x hI _ (fun _ _ h => h) a w m hs
      have hp : (Code.seq .skip rest).wp C.P (Exit.jump l (Again C I F S μ x) (denK C k)) a w := wp_seq (wp_skip hp0)
      obtain ⟨e, a₁, w₁, hq, harr⟩ := hp b (.inScope c :: kk) cs
      cases e with
      | normal => exact ⟨.normal, a₁, w₁, hq, Steps.trans harr (.one step_inScope)⟩
      | exit id => exact ⟨.exit id, a₁, w₁, hq, fun k' hk => harr k' (by simp [exitTo, hk])⟩
      | goto l' =>
        obtain ⟨rfl, x', hI', hlt, m', hs'⟩ := hq
        obtain ⟨e₂, a₂, w₂, hq₂, harr₂⟩ := ih (μ x') (hn ▸ hlt) x' a₁ w₁ m' rfl hI' hs'
        exact ⟨e₂, a₂, w₂, hq₂, .of_steps (harr _ hg) harr₂⟩
      | ret => exact ⟨_, a₁, w₁, hq, harr⟩
      | panic ch => exact ⟨_, a₁, w₁, hq, harr⟩
      | outgrown => exact ⟨_, a₁, w₁, hq, harr⟩
  have hfst : c.wp C.P (Exit.jump l (fun a w => ∃ x, I x ∧ ∃ m, Sat C (F x) (S x) a w m) (denK C k)) a w :=
    first _ (fun x hI => pass x hI _ fun _ _ ⟨x', h1, _, h3⟩ => ⟨x', h1, h3⟩) a w m hs
  obtain ⟨e, a₁, w₁, hq, harr⟩ := hfst b (.inScope c :: kk) cs
  cases e with
  | normal => exact ⟨.normal, a₁, w₁, hq, .head step_scope (Steps.trans harr (.one step_inScope))⟩
  | exit id => exact ⟨.exit id, a₁, w₁, hq, fun k' hk => .head step_scope (harr k' (by simp [exitTo, hk]))⟩
  | goto l' =>
    obtain ⟨rfl, x, hI, m', hs'⟩ := hq
    obtain ⟨e₂, a₂, w₂, hq₂, harr₂⟩ := key _ x a₁ w₁ m' rfl hI hs'
    exact ⟨e₂, a₂, w₂, hq₂, .of_steps (.head step_scope (harr _ hg)) harr₂⟩
  | ret => exact ⟨_, a₁, w₁, hq, .of_steps (.one step_scope) harr⟩
  | panic ch => exact ⟨_, a₁, w₁, hq, .of_steps (.one step_scope) harr⟩
  | outgrown => exact ⟨_, a₁, w₁, hq, .of_steps (.one step_scope) harr⟩

/-- What append does to a row that is full: a new one, l's. -/
theorem run_appF {t ty e : Nat} {i : TypeInfo} {z : Value} {g : G} (hwf : WF g) (ht : P.underlying t = some (.slice e)) (hi : P.info? e = some i) (hz : i.zero = some z) (hzs : z.cells.size = i.size) (hsz : 0 < i.size)
    {base l : Nat} (hb : base ≤ g.w.heap.size) {b1 off1 : Nat} {n : Nat} {xs : List Value} (hr1 : ∀ j v, xs[j]? = some v → g.w.cell? ⟨b1, off1 + j, none⟩ = some v) (hl1 : xs.length = n * i.size) {a2 : Option Addr} {n2 c2 : Nat} {news : List Value}
    (hr : Rd g a2 news) (hl2 : news.length = n2 * i.size) (hn2 : 0 < n2) (hm : n + n2 ≤ maxLen) (hby : (n + n2) * i.bytes ≤ 140737488355328) :
    ∃ v' g', (Builtin.append_ #[t, t] ty #[.slice (some ⟨b1, off1, none⟩) n n, .slice a2 n2 c2]).run P g.w = .ok v' g'.w ∧ Step [] g g' ∧ OwnRow g' base l e i.size v' (n + n2) (xs ++ news) := by
  have hlen : (xs ++ news).length = (n + n2) * i.size := by rw [List.length_append, hl1, hl2, Nat.add_mul]
  have hm' : n + n2 ≤ 9223372036854775807 := by simp only [maxLen] at hm; omega
  have hne : news ≠ [] := by
    intro e; rw [e] at hl2
    simp only [List.length_nil] at hl2
    rcases Nat.mul_eq_zero.1 hl2.symm with h | h <;> omega
  obtain ⟨b2, off2, rfl, hcs⟩ : ∃ b off, a2 = some ⟨b, off, none⟩ ∧ ∀ j v, news[j]? = some v → g.w.cell? ⟨b, off + j, none⟩ = some v := by
    rcases hr with h | h
    · exact absurd h hne
    · exact h
  have hnews : ∀ j u, news[j]? = some u → g.w.cell? ((⟨b2, off2, none⟩ : Addr).add j) = some u := fun j u hu => by rw [cell_add]; exact hcs j u hu
  have holds : ∀ j u, xs[j]? = some u → g.w.cell? ((⟨b1, off1, none⟩ : Addr).add j) = some u := fun j u hu => by rw [cell_add]; exact hr1 j u hu
  have hge := grownCap_ge g.w (n + n2) n e
  have hcm : grownCap g.w (n + n2) n e ≤ maxLen := grownCap_le_maxLen g.w (n + n2) n e hm
  have q1 : Step [] g (gpush g (g.w.drew.alloc (.cells (xs.toArray ++ news.toArray ++ Builtin.zeroCells z.cells (grownCap g.w (n + n2) n e - (n + n2))) e)) l) := step_push hwf rfl rfl rfl rfl
  have q2 : OwnRow (gpush g (g.w.drew.alloc (.cells (xs.toArray ++ news.toArray ++ Builtin.zeroCells z.cells (grownCap g.w (n + n2) n e - (n + n2))) e)) l) base l e i.size (.slice (some ⟨g.w.heap.size, 0, none⟩) (n + n2) (grownCap g.w (n + n2) n e)) (n + n2) (xs ++ news) := by
    refine ⟨hlen, .inr ⟨g.w.heap.size, _, (xs ++ news ++ (Builtin.zeroCells z.cells (grownCap g.w (n + n2) n e - (n + n2))).toList), rfl, hb, ⟨?_, ?_, ?_⟩, hge, hcm, ?_, ?_⟩⟩
    · show _ < (g.w.drew.alloc _).heap.size
      simp
    · show (if _ then _ else _) = _
      rw [if_pos rfl]
    · show (g.w.drew.alloc _).heap[_]? = _
      have := heap_alloc_new g.w.drew (.cells (xs.toArray ++ news.toArray ++ Builtin.zeroCells z.cells (grownCap g.w (n + n2) n e - (n + n2))) e)
      have e1 : g.w.drew.heap.size = g.w.heap.size := rfl
      rw [e1] at this
      rw [this]
      congr 2
      apply Array.ext'
      simp
    · simp only [List.length_append, Array.length_toList, size_zeroCells, hzs, hl1, hl2, ← Nat.add_mul]
      congr 1
      omega
    · rw [← hlen]
      exact List.take_left
  refine ⟨_, _, ?_, q1, q2⟩
  have := run_append_grow (P := P) g.w t ty e i z ht hi hz ⟨b1, off1, none⟩ n n xs hl1 holds ⟨b2, off2, none⟩ n2 c2 news hl2 hnews (by omega) (by omega) (growslice_fits (by omega) hby)
  simpa [gpush] using this

/-- append, to a row that is full. -/
theorem appF (hC : Fnc C P fn n g0 L0 Post) (l : Nat) {o : Oper} {all : Array Oper} {r : List Oper} {k : List KI} {x1 x2 : Operand} {v1 v2 : SV} {t : Nat} {d de : TD} (B : Nat) (hT : TabOk P T) (hl : (l != 0 && l != 1) = true)
    (ho : o.op = .call ⟨.builtin .append, #[x1, x2], #[t, t]⟩) (hx1 : evg [] s.env x1 = some v1) (hx2 : evg [] s.env x2 = some v2)
    (hdt : T t = some d) (hcl : (d.cl == 1) = true) (hde : T d.el = some de) (hB : ((P.info? d.el).map (·.bytes) == some B) = true) (hsz : Nat.blt 0 de.size = true) (hw : gOn all s o = true) (hd : okDst n s o.dst = true)
    (H : ∀ m g1, Prv [1] g g1 → Expo s m (fun _ => 1) g1 → ∃ n b1 off1 xs n2 news a2 c2, v1.val m = .slice (some ⟨b1, off1, none⟩) n n ∧ Rd g1 (some ⟨b1, off1, none⟩) xs ∧ xs.length = n * de.size ∧ v2.val m = .slice a2 n2 c2 ∧ Rd g1 a2 news ∧ news.length = n2 * de.size ∧ 0 < n2 ∧ n + n2 ≤ maxLen ∧ (n + n2) * B ≤ 140737488355328 ∧
      ∀ v g2 g3, Prv [] g1 g2 → Prv [1] g2 g3 → OwnRow g3 g0.w.heap.size l d.el de.size v (n + n2) (xs ++ news) → Sg C g3 ⟨.ops all r :: k, putE (nameAll s m) o.dst (ofV v)⟩) :
    Sg C g ⟨.ops all (o :: r) :: k, s⟩ := by
  simp only [Bool.and_eq_true, bne_iff_ne, ne_eq] at hl
  obtain ⟨_, u, _, ht, _, _, _, _, _, _, _, hsl, _⟩ := hT.ok t d hdt
  obtain ⟨i, ue, hi, _, his, _, hz, hzl, hone, _⟩ := hT.ok d.el de hde
  rw [hsl (eq_of_beq hcl)] at ht
  have hbi : i.bytes = B := by
    rw [hi] at hB
    simpa using hB
  have hzs : (bif de.agg then Value.agg de.zero.toArray else de.zero.headD undef).cells.size = i.size := by
    rw [his]
    cases hag : de.agg
    · obtain ⟨q1, q2⟩ := hone hag
      simp only [cond_false]
      rw [q2, q1]; rfl
    · simpa [Value.cells] using hzl
  have hsz' : 0 < i.size := by rw [his]; simpa using hsz
  refine stpF hC [] 1 (by simp) (by simp) (by simp) (by simp) hw hd fun a w m g1 hs hgw hwf p1 e1 hlow hsz1 => ?_
  obtain ⟨n, b1, off1, xs, n2, news, a2, c2, q0, q1, q1', q2, q3, q4, q5, q6, q7, q8⟩ := H m g1 p1 e1
  have hr1 : ∀ j v, xs[j]? = some v → g1.w.cell? ⟨b1, off1 + j, none⟩ = some v := by
    rcases q1 with q1 | ⟨b, off, e, q1⟩
    · intro j v hj; rw [q1] at hj; cases hj
    · obtain ⟨rfl, rfl, _⟩ := Addr.mk.inj (Option.some.inj e)
      exact q1
  obtain ⟨v', g', r1, r2, r3⟩ := run_appF (P := P) (ty := o.type) (l := l) (xs := xs) (n := n) (c2 := c2) hwf ht hi hz hzs hsz' hsz1 hr1 (by rw [his]; exact q1') q3 (by rw [his]; exact q4) q5 q6 (by rw [hbi]; exact q7)
  rw [his] at r3
  have hrun : (execOp a.eval o).run C.P g1.w = .ok (.value v') g'.w := by
    have ev1 := (hs.ev hx1).1
    have ev2 := (hs.ev hx2).1
    rw [q0] at ev1
    rw [q2] at ev2
    simp only [execOp, ho, resolve, invoke, builtin, Sem.run_bind, Sem.run_pure, Result.andThen_ok, List.map_toArray, List.map_cons, List.map_nil, ev1, ev2]
    rw [hC.P, r1]
    rfl
  exact ⟨fun v g2 => OwnRow g2 g0.w.heap.size l d.el de.size v (n + n2) (xs ++ news), does_val hrun r2 r3, fun v g2 st hp k hk hkl => st.keep k (Nat.lt_of_lt_of_le hk hsz1) (by simp), fun v g2 g3 p2 st hp p3 _ => q8 v g2 g3 p2 p3 (hp.ks p3.ks (by simp; exact hl.2))⟩
end
attribute [go_sem] jmpOf
end Go.Eng

/- copy, within rows. -/
namespace Go.Eng
open Go
section
variable {C : Ctx} {P : Program} {fn : Func} {n : Nat} {g0 g : G} {L0 : List Nat} {Post : Value → G → Prop} {s : St} {T : Tab} {a : Act} {w : World} {m : List Nat}

theorem run_cpy {t e ty' : Nat} {i : TypeInfo} (hwf : WF g) (ht : P.underlying t = some (.slice e)) (hi : P.info? e = some i) {l b ty : Nat} {cells : List Value} (hob : Ob g l b ty cells) {off dlen dcap : Nat} {a2 : Option Addr} {n c2 : Nat} {src : List Value}
    (hr : Rd g a2 src) (hl : src.length = n * i.size) (hnd : n ≤ dlen) (hfit : off + src.length ≤ cells.length) (h1 : ∀ u ∈ src, u.oneCell' = true) :
    ∃ g', (Builtin.copy_ #[t, t] ty' #[.slice (some ⟨b, off, none⟩) dlen dcap, .slice a2 n c2]).run P g.w = .ok (.int .i64 n) g'.w ∧ Step [l] g g' ∧ But b g g' ∧ Ob g' l b ty (cells.take off ++ src ++ cells.drop (off + src.length)) := by
  have hmin : Nat.min n dlen = n := Nat.min_eq_left hnd
  have hst := run_storeCells_at P b off ty src 0 cells.toArray g.w hob.at_ (by simpa using hfit) h1
  have hload : (Builtin.firstCells i.size n (.slice a2 n c2)).run P g.w = .ok src.toArray g.w := by
    rcases hr with rfl | ⟨b2, off2, rfl, hc⟩
    · cases a2 with
      | none => rfl
      | some a2 =>
        have := run_loadCells_list (P := P) g.w a2 [] (by simp)
        simp only [Builtin.firstCells]
        rw [← hl]
        exact this
    · have := run_loadCells_list (P := P) g.w ⟨b2, off2, none⟩ src (fun j v hj => by rw [cell_add]; exact hc j v hj)
      simp only [Builtin.firstCells]
      rw [← hl]
      exact this
  refine ⟨⟨g.w.setRow b (cells.toArray.toList.take (off + 0) ++ src ++ cells.toArray.toList.drop (off + 0 + src.length)).toArray, g.o⟩, ?_, ⟨?_, fun _ _ => rfl, fun k hk hn => ?_, fun k hk => ?_, rfl, rfl, rfl⟩, fun k hk hkb => ⟨rfl, setRow_other g.w b k _ hkb⟩, ⟨?_, hob.own, ?_⟩⟩
  · simp only [Builtin.copy_]
    simp [run_underlying ht, sizeOf, typeInfo, hi, Builtin.lenOf, hmin, hload, goInt]
    rw [hst]
    simp
  · show g.w.heap.size ≤ (g.w.setRow _ _).heap.size
    simp [World.setRow]
  · have : b ≠ k := fun e => hn (by rw [← e, hob.own]; simp)
    exact setRow_other g.w b k _ (Ne.symm this)
  · have : g.w.heap.size ≤ k := by simpa [World.setRow] using hk
    exact hwf k this
  · show b < (g.w.setRow _ _).heap.size
    simpa [World.setRow] using hob.lt
  · have := setRow_heap g.w b cells.toArray (cells.toArray.toList.take (off + 0) ++ src ++ cells.toArray.toList.drop (off + 0 + src.length)).toArray ty (0, 0) hob.at_
    simpa using this

/-- copy, into a row of l's. -/
theorem cpy (hC : Fnc C P fn n g0 L0 Post) (l : Nat) {o : Oper} {all : Array Oper} {r : List Oper} {k : List KI} {x1 x2 : Operand} {b off dlen dcap : Nat} {v2 : SV} {t : Nat} {d de : TD} (hT : TabOk P T) (hl : (l != 0 && l != 1) = true)
    (hb : l ∈ L0 ∨ g0.w.heap.size ≤ b)
    (ho : o.op = .call ⟨.builtin .copy, #[x1, x2], #[t, t]⟩) (hx1 : evg [] s.env x1 = some (.c (.v (.slice (some ⟨b, off, none⟩) dlen dcap)))) (hx2 : evg [] s.env x2 = some v2)
    (hdt : T t = some d) (hcl : (d.cl == 1) = true) (hde : T d.el = some de) (hw : gOn all s o = true) (hd : okDst n s o.dst = true)
    (H : ∀ m g1, Prv [1] g g1 → Expo s m (fun _ => 1) g1 → ∃ ty cells n a2 c2 src, Ob g1 l b ty cells ∧ v2.val m = .slice a2 n c2 ∧ Rd g1 a2 src ∧ src.length = n * de.size ∧ n ≤ dlen ∧ off + src.length ≤ cells.length ∧ (∀ u ∈ src, u.oneCell' = true) ∧
      ∀ g2 g3, Prv [l] g1 g2 → But b g1 g2 → Prv [1] g2 g3 → Ob g3 l b ty (cells.take off ++ src ++ cells.drop (off + src.length)) → Sg C g3 ⟨.ops all r :: k, putE (nameAll s m) o.dst (ofV (.int .i64 n))⟩) :
    Sg C g ⟨.ops all (o :: r) :: k, s⟩ := by
  simp only [Bool.and_eq_true, bne_iff_ne, ne_eq] at hl
  obtain ⟨_, u, _, ht, _, _, _, _, _, _, _, hsl, _⟩ := hT.ok t d hdt
  obtain ⟨i, ue, hi, _, his, _⟩ := hT.ok d.el de hde
  rw [hsl (eq_of_beq hcl)] at ht
  refine stpF hC [l] 1 (by simp) (by simp; exact fun h => hl.2 h.symm) (by simp; exact fun h => hl.1 h.symm) (by simp; exact fun h => hl.2 h.symm) hw hd fun a w m g1 hs hgw hwf p1 e1 hlow hsz1 => ?_
  obtain ⟨ty, cells, n, a2, c2, src, q1, q2, q3, q4, q5, q6, q7, q8⟩ := H m g1 p1 e1
  obtain ⟨g', r1, r2, r3, r4⟩ := run_cpy (P := P) (ty' := o.type) (dcap := dcap) (c2 := c2) hwf ht hi q1 q3 (by rw [his]; exact q4) q5 q6 q7
  have hrun : (execOp a.eval o).run C.P g1.w = .ok (.value (.int .i64 n)) g'.w := by
    have ev1 : a.eval x1 = .slice (some ⟨b, off, none⟩) dlen dcap := (hs.ev hx1).1
    have ev2 := (hs.ev hx2).1
    rw [q2] at ev2
    simp only [execOp, ho, resolve, invoke, builtin, Sem.run_bind, Sem.run_pure, Result.andThen_ok, List.map_toArray, List.map_cons, List.map_nil, ev1, ev2]
    rw [hC.P, r1]
    rfl
  refine ⟨fun v g2 => v = .int .i64 n ∧ But b g1 g2 ∧ Ob g2 l b ty (cells.take off ++ src ++ cells.drop (off + src.length)), does_val hrun r2 ⟨rfl, r3, r4⟩, fun v g2 st hp k hk hkl => ?_, fun v g2 g3 p2 st hp p3 _ => ?_⟩
  · rcases hb with hb | hb
    · exact st.keep k (Nat.lt_of_lt_of_le hk hsz1) (by rw [hlow k hk]; simp only [List.mem_singleton]; exact fun h => hkl (h ▸ hb))
    · exact (hp.2.1 k (Nat.lt_of_lt_of_le hk hsz1) (by omega)).2
  · obtain ⟨rfl, hp1, hp2⟩ := hp
    exact q8 g2 g3 p2 hp1 p3 (hp2.ks p3.ks (by simp; exact hl.2))
/-- The same, where the order is drawn. -/
theorem cpyD (hC : Fnc C P fn n g0 L0 Post) (l : Nat) {o : Oper} {ii : Nat} {all : Array Oper} {p : List (Nat × Nat)} {st fb fl : List Nat} {vt : Option (Nat × Nat × Nat)} {k : List KI} {x1 x2 : Operand} {b off dlen dcap : Nat} {v2 : SV} {t : Nat} {d de : TD} (hT : TabOk P T) (hl : (l != 0 && l != 1) = true)
    (hb : l ∈ L0 ∨ g0.w.heap.size ≤ b)
    (hii : all[ii]? = some o) (ho : o.op = .call ⟨.builtin .copy, #[x1, x2], #[t, t]⟩) (hx1 : evg [] s.env x1 = some (.c (.v (.slice (some ⟨b, off, none⟩) dlen dcap)))) (hx2 : evg [] s.env x2 = some v2)
    (hdt : T t = some d) (hcl : (d.cl == 1) = true) (hde : T d.el = some de) (hw : gOn all s o = true) (hd : okDst n s o.dst = true)
    (hfl : fl.all (fun x => x != l && x != 1) = true) (hvt : vtOk all vt o = true)
    (H : ∀ m g1, Prv [1] g g1 → Expo s m (fun _ => 1) g1 → ∃ ty cells n a2 c2 src, Ob g1 l b ty cells ∧ v2.val m = .slice a2 n c2 ∧ Rd g1 a2 src ∧ src.length = n * de.size ∧ n ≤ dlen ∧ off + src.length ≤ cells.length ∧ (∀ u ∈ src, u.oneCell' = true) ∧
      ∀ g2 g3, Prv [l] g1 g2 → But b g1 g2 → Prv [1] g2 g3 → Ob g3 l b ty (cells.take off ++ src ++ cells.drop (off + src.length)) → Sg C g3 ⟨.opsD all p st fb fl vt :: k, putE (nameAll s m) o.dst (ofV (.int .i64 n))⟩) :
    Sg C g ⟨.opsD all ((ii, 1) :: p) st fb fl vt :: k, s⟩ := by
  simp only [Bool.and_eq_true, bne_iff_ne, ne_eq] at hl
  obtain ⟨_, u, _, ht, _, _, _, _, _, _, _, hsl, _⟩ := hT.ok t d hdt
  obtain ⟨i, ue, hi, _, his, _⟩ := hT.ok d.el de hde
  rw [hsl (eq_of_beq hcl)] at ht
  refine stpFD hC [l] 1 (by simp) (by simp; exact fun h => hl.2 h.symm) (by simp; exact fun h => hl.1 h.symm) (by simp; exact fun h => hl.2 h.symm) hii hw hd (fun x hx => by have := List.all_eq_true.1 hfl x hx; simpa using this) hvt fun a w m g1 hs hgw hwf p1 e1 hlow hsz1 => ?_
  obtain ⟨ty, cells, n, a2, c2, src, q1, q2, q3, q4, q5, q6, q7, q8⟩ := H m g1 p1 e1
  obtain ⟨g', r1, r2, r3, r4⟩ := run_cpy (P := P) (ty' := o.type) (dcap := dcap) (c2 := c2) hwf ht hi q1 q3 (by rw [his]; exact q4) q5 q6 q7
  have hrun : (execOp a.eval o).run C.P g1.w = .ok (.value (.int .i64 n)) g'.w := by
    have ev1 : a.eval x1 = .slice (some ⟨b, off, none⟩) dlen dcap := (hs.ev hx1).1
    have ev2 := (hs.ev hx2).1
    rw [q2] at ev2
    simp only [execOp, ho, resolve, invoke, builtin, Sem.run_bind, Sem.run_pure, Result.andThen_ok, List.map_toArray, List.map_cons, List.map_nil, ev1, ev2]
    rw [hC.P, r1]
    rfl
  refine ⟨fun v g2 => v = .int .i64 n ∧ But b g1 g2 ∧ Ob g2 l b ty (cells.take off ++ src ++ cells.drop (off + src.length)), does_val hrun r2 ⟨rfl, r3, r4⟩, fun v g2 st hp k hk hkl => ?_, fun v g2 g3 p2 st hp p3 _ => ?_⟩
  · rcases hb with hb | hb
    · exact st.keep k (Nat.lt_of_lt_of_le hk hsz1) (by rw [hlow k hk]; simp only [List.mem_singleton]; exact fun h => hkl (h ▸ hb))
    · exact (hp.2.1 k (Nat.lt_of_lt_of_le hk hsz1) (by omega)).2
  · obtain ⟨rfl, hp1, hp2⟩ := hp
    exact q8 g2 g3 p2 hp1 p3 (hp2.ks p3.ks (by simp; exact hl.2))
end
end Go.Eng

/- Operations that a guard leaves out, where the order is drawn. -/
namespace Go.Eng
open Go

def gOff (all : Array Oper) (s : St) (o : Oper) : Bool :=
  match o.guard with
  | none => false
  | some (j, want) => match ((all[j]?).bind (·.dst)).bind (resb s.env) with
    | some t => t != want
    | none => false

section
variable {C : Ctx} {P : Program} {fn : Func} {n : Nat} {g0 g : G} {L0 : List Nat} {Post : Value → G → Prop} {s : St} {T : Tab} {a : Act} {w : World} {m : List Nat}

theorem gOff_ok {all : Array Oper} {o : Oper} (h : gOff all s o = true) (hs : Sat C g s a w m) : Region.wanted o (yielded all a.tmps) = false := by
  unfold gOff at h
  split at h
  · cases h
  · rename_i j want hg
    split at h
    · rename_i t ht
      rw [Option.bind_eq_some_iff] at ht
      obtain ⟨u, hu, ht⟩ := ht
      have h0 := resb_ok hs.env0 ht
      cases hw : Region.wanted o (yielded all a.tmps)
      · rfl
      · have := (wanted_iff hg hu a.tmps).1 hw
        rw [h0] at this
        simp only [Option.some.injEq, Value.bool.injEq] at this
        rw [this] at h; simp at h
    · cases h

theorem skD (hC : Fnc C P fn n g0 L0 Post) {i : Nat} {o : Oper} {all : Array Oper} {p : List (Nat × Nat)} {st fb fl : List Nat} {k : List KI} (ho : all[i]? = some o) (hoff : gOff all s o = true) (hd : okDst n s o.dst = true)
    (h : Sg C g ⟨.opsD all p st fb fl none :: k, putE s o.dst (.c (.v undef))⟩) : Sg C g ⟨.opsD all ((i, 1) :: p) st fb fl none :: k, s⟩ := by
  intro a w m hs
  show den C g _ a w m
  unfold den
  intro hnw
  dsimp only
  intro can hok hSS
  simp only [okD, Bool.and_eq_true, beq_iff_eq] at hok
  obtain ⟨⟨⟨h1, h2⟩, h3⟩, h6⟩ := hok
  have e : cnt ((i, 1) :: p) + st.length = cnt p + st.length + 1 := by show (1 + cnt p) + _ = _; omega
  rw [e]
  refine wpS_all h3 (by simp) fun x hx => ?_
  obtain rfl : x = i := by simpa using hx
  have hw := gOff_ok hoff hs
  unfold wpOp
  rw [ho]
  dsimp only
  rw [if_neg (by rw [hw]; simp)]
  have hs' : Sat C g (putE s o.dst (.c (.v undef))) (a.put o.dst undef) w m := hs.put (by rw [hC.n]; exact hd) rfl fun _ => rfl
  have hbx : (putE s o.dst (.c (.v undef))).bx = s.bx := by cases o.dst <;> rfl
  have hdd := h _ w m hs'
  unfold den at hdd
  have hd1 := hdd hnw _ h6 (by dsimp only; rw [hbx]; exact hSS)
  dsimp only at hd1
  rw [hbx] at hd1
  exact ⟨fun _ _ => hSS, hd1⟩
end
attribute [go_sem] gOff
end Go.Eng

/- Loops, round by round; arrays by value. -/
namespace Go.Eng
open Go

section
variable {C : Ctx} {P : Program} {fn : Func} {n : Nat} {g0 g : G} {L0 : List Nat} {Post : Value → G → Prop} {s : St} {T : Tab} {a : Act} {w : World} {m : List Nat}

/-- What is to come is met from within the loop. -/
def LP (C : Ctx) (B : Code) (k : List KI) (a : Act) (w : World) : Prop :=
  ∀ b kk cs, ∃ e a' w', denK C k e a' w' ∧ Arrives C.P (lone (b.at a (.code B :: .inLoop B :: kk)) cs w) b kk cs e a' w'

theorem lp_in {B : Code} {k : List KI} (h : Sg C g ⟨.code B :: .kont (LP C B k) :: k, s⟩) (hs : Sat C g s a w m) : LP C B k a w := by
  intro b kk cs
  obtain ⟨e, a₁, w₁, hq, harr⟩ := h a w m hs b (.inLoop B :: kk) cs
  cases e with
  | normal =>
    obtain ⟨e₂, a₂, w₂, hq₂, harr₂⟩ := hq b kk cs
    exact ⟨e₂, a₂, w₂, hq₂, .of_steps (Steps.trans harr (.one step_inLoop)) harr₂⟩
  | exit id => exact ⟨_, a₁, w₁, hq, .pass (x := .inLoop B) rfl (fun _ _ => .inl (by simp)) harr⟩
  | goto l => exact ⟨_, a₁, w₁, hq, .pass (x := .inLoop B) rfl (fun _ _ => .inl (by simp)) harr⟩
  | ret => exact ⟨_, a₁, w₁, hq, .pass (x := .inLoop B) rfl (fun _ _ => .inl (by simp)) harr⟩
  | panic ch => exact ⟨_, a₁, w₁, hq, .pass (x := .inLoop B) rfl (fun _ _ => .inl (by simp)) harr⟩
  | outgrown => exact ⟨_, a₁, w₁, hq, .pass (x := .inLoop B) rfl (fun _ _ => .inl (by simp)) harr⟩

/-- The loop's first round. -/
theorem unroll {B : Code} {k : List KI} (h : Sg C g ⟨.code B :: .kont (LP C B k) :: k, s⟩) : Sg C g ⟨.code (.loop B) :: k, s⟩ := by
  intro a w m hs
  show (Code.loop B).wp C.P (denK C k) a w
  intro b kk cs
  obtain ⟨e, a', w', hq, harr⟩ := lp_in h hs b kk cs
  exact ⟨e, a', w', hq, .of_steps (.one step_loop) harr⟩

/-- The next round. -/
theorem reroll {B : Code} {k : List KI} (h : Sg C g ⟨.code B :: .kont (LP C B k) :: k, s⟩) : Sg C g ⟨.kont (LP C B k) :: k, s⟩ :=
  fun _ _ _ hs => lp_in h hs

/-! ### Where ways meet -/

def At (C : Ctx) {ι : Type} (I : ι → Prop) (F : ι → G) (S : ι → St) (a : Act) (w : World) : Prop := ∃ x, I x ∧ ∃ m, Sat C (F x) (S x) a w m

theorem at_mono {ι : Type} {I : ι → Prop} {F : ι → G} {S : ι → St} {k : List KI} (hk : noD k = true) (h2 : ∀ x, I x → Sg C (F x) ⟨k, S x⟩) : ∀ (e : Exit) (a : Act) (w : World), denK C (.kont (At C I F S) :: k) e a w → denK C k e a w := by
  intro e a w h
  cases e with
  | normal =>
    obtain ⟨x, hx, m, hs⟩ := h
    have := h2 x hx a w m hs
    rw [den_noD hk] at this
    exact this
  | exit id => exact h
  | goto l => exact h
  | ret => exact h
  | panic ch => exact h
  | outgrown => exact h

theorem mid {ι : Type} (I : ι → Prop) (F : ι → G) (S : ι → St) {c : Code} {k : List KI} (hk : noD k = true) (h2 : ∀ x, I x → Sg C (F x) ⟨k, S x⟩) (h1 : Sg C g ⟨.code c :: .kont (At C I F S) :: k, s⟩) : Sg C g ⟨.code c :: k, s⟩ := by
  intro a w m hs
  show c.wp C.P (denK C k) a w
  exact Go.wp_mono (show c.wp C.P (denK C (.kont (At C I F S) :: k)) a w from h1 a w m hs) (at_mono hk h2)

theorem midB {ι : Type} (I : ι → Prop) (F : ι → G) (S : ι → St) {c : Code} {j : Nat} {k : List KI} (hk : noD k = true) (h2 : ∀ x, I x → Sg C (F x) ⟨k, S x⟩) (h1 : Sg C g ⟨.code c :: .blk j :: .kont (At C I F S) :: k, s⟩) : Sg C g ⟨.code c :: .blk j :: k, s⟩ := by
  intro a w m hs
  show c.wp C.P (Exit.inBlock j (denK C k)) a w
  refine Go.wp_mono (show c.wp C.P (Exit.inBlock j (denK C (.kont (At C I F S) :: k))) a w from h1 a w m hs) fun e a w q => ?_
  cases e with
  | exit id =>
    unfold Exit.inBlock at *
    dsimp only at *
    split at q
    · rename_i hh; rw [if_pos hh]; exact at_mono hk h2 _ _ _ q
    · rename_i hh; rw [if_neg hh]; exact at_mono hk h2 _ _ _ q
  | normal => exact at_mono hk h2 _ _ _ q
  | goto l => exact at_mono hk h2 _ _ _ q
  | ret => exact at_mono hk h2 _ _ _ q
  | panic ch => exact at_mono hk h2 _ _ _ q
  | outgrown => exact at_mono hk h2 _ _ _ q

theorem kend {ι : Type} {I : ι → Prop} {F : ι → G} {S : ι → St} {k : List KI} (lab : Nat → Nat)
    (H : ∀ m g1, Prv [1] g g1 → Expo s m lab g1 → ∃ x, I x ∧ F x = g1 ∧ Wk s m (S x) ∧ (∀ i, i < (S x).nb → lab i = 1)) : Sg C g ⟨.kont (At C I F S) :: k, s⟩ := by
  intro a w m hs
  obtain ⟨x, h1, h3, h4, h5⟩ := H m _ ⟨hs.keeps lab, by simp⟩ (hs.expo lab)
  exact ⟨x, h1, _, by rw [h3]; exact hs.wk lab h4 h5⟩

/-- An element of an array. -/
theorem vo_ixa (hC : Fnc C P fn n g0 L0 Post) (hT : TabOk P T) {o : Oper} {t len e : Nat} {x y : Operand} {cs : List SC} {vs : List Value} {i : Int} {v : Value} {de : TD} (ho : o.op = .index t x y) (hx : evg [] s.env x = some (.ag cs)) (hcs : ∀ m, cs.map (SC.val m) = vs)
    (hy : evg [] s.env y = some (.c (.v (.int .i64 i)))) (ht : P.underlying t = some (.array len e)) (hde : T e = some de) (hag : de.agg = false) (hsz : de.size = 1) (h0 : 0 ≤ i) (hl : i < len) (hv : vs[i.toNat]? = some v) : Vo C g s o v [] := by
  intro a w m hs w2 _
  obtain ⟨ie, u, hie, hu, hsz', hagu, _⟩ := hT.ok e de hde
  have e1 : a.eval x = .agg vs.toArray := by
    have := (hs.ev hx).1
    rw [this]
    simp only [SV.val, vals, hcs m]
  have e2 : a.eval y = .int .i64 i := (hs.ev hy).1
  rw [hag] at hagu
  have hpart : (part e vs.toArray i.toNat).run P w2 = .ok v w2 := by
    unfold part
    have : (isAgg e : Sem Bool).run P w2 = .ok false w2 := by
      simp only [isAgg, Sem.run_bind, run_underlying hu, Result.andThen_ok]
      cases u <;> first | rfl | cases hagu
    rw [Sem.run_bind, this, Result.andThen_ok]
    simp [hv]
  simp only [execOp, ho, e1, e2, Instr.index, asIntOf, pure_bind]
  rw [hC.P]
  simp only [Sem.run_bind, run_underlying ht, Result.andThen_ok, h0, hl, and_self, if_true, sizeOf, rti hie, hsz', hsz, Nat.mul_one]
  simp [hpart, rti hie, hsz', hsz]

/-- An array, built of values. -/
theorem vo_bld (hC : Fnc C P fn n g0 L0 Post) {o : Oper} {t : Nat} {ps : Array (Nat × Operand)} (vs : List (Nat × Value)) {v : Value} (ho : o.op = .build t ps) (hps : ps.toList.map (fun p => (p.1, evg [] s.env p.2)) = vs.map (fun p => (p.1, some (.c (.v p.2)))))
    (hr : ∀ w, (Instr.build t vs.toArray).run P w = .ok v w) : Vo C g s o v [] := by
  intro a w m hs w2 _
  have key : ∀ (l : List (Nat × Operand)) (vs : List (Nat × Value)), l.map (fun p => (p.1, evg [] s.env p.2)) = vs.map (fun p => (p.1, some (.c (.v p.2)))) → l.map (fun p => (p.1, a.eval p.2)) = vs := by
    intro l
    induction l with
    | nil =>
      intro vs h
      cases vs with
      | nil => rfl
      | cons _ _ => cases h
    | cons p l ih =>
      intro vs h
      cases vs with
      | nil => cases h
      | cons q vs =>
        simp only [List.map_cons, List.cons.injEq, Prod.mk.injEq] at h
        obtain ⟨⟨h1, h2⟩, h3⟩ := h
        have h4 := (hs.ev h2).1
        rw [List.map_cons, ih vs h3, h4, h1]
        rfl
  have e : (ps.map fun p => (p.1, a.eval p.2)) = vs.toArray := by
    apply Array.ext'
    simp only [Array.toList_map]
    exact key _ _ hps
  simp only [execOp, ho]
  rw [hC.P, Sem.run_bind]
  have := hr w2
  rw [← e] at this
  rw [this]
  rfl

theorem run_bld (hT : TabOk P T) {t len e : Nat} {d de : TD} {vs : List (Nat × Value)} {cs : Array Value} (ht : P.underlying t = some (.array len e)) (hd : T t = some d) (hag : d.agg = true) (hde : T e = some de) (hf : Instr.fill (fun i => some (i * de.size, de.size)) d.zero.toArray vs = some cs) (w : World) :
    (Instr.build t vs.toArray).run P w = .ok (.agg cs) w := by
  obtain ⟨i, u, hi, hu, hsz, ha, hz, _⟩ := hT.ok t d hd
  obtain ⟨ie, ue, hie, hue, hsze, _⟩ := hT.ok e de hde
  rw [hag] at hz
  have hzv : (zeroValue t).run P w = .ok (.agg d.zero.toArray) w := by simp [zeroValue, typeInfo, hi, hz]
  unfold Instr.build
  rw [Sem.run_bind, hzv, Result.andThen_ok, Sem.run_bind, run_underlying ht, Result.andThen_ok]
  have hs : (sizeOf e : Sem Nat).run P w = .ok de.size w := by simp [sizeOf, rti hie, hsze]
  simp only [Sem.run_bind, hs, Result.andThen_ok, Value.cells]
  rw [hf]
  rfl
end
@[go_sem] theorem wrapN1 : IntKind.i64.wrap 1 = 1 := rfl
@[go_sem] theorem wrapN2 : IntKind.i64.wrap 2 = 2 := rfl
@[go_sem] theorem wrapN3 : IntKind.i64.wrap 3 = 3 := rfl
@[go_sem] theorem wrapN4 : IntKind.i64.wrap 4 = 4 := rfl
@[go_sem] theorem wrapN5 : IntKind.i64.wrap 5 = 5 := rfl
@[go_sem] theorem wrapN6 : IntKind.i64.wrap 6 = 6 := rfl
@[go_sem] theorem wrapN7 : IntKind.i64.wrap 7 = 7 := rfl
@[go_sem] theorem wrapN8 : IntKind.i64.wrap 8 = 8 := rfl
@[go_sem] theorem wrapN9 : IntKind.i64.wrap 9 = 9 := rfl
@[go_sem] theorem wrapN10 : IntKind.i64.wrap 10 = 10 := rfl
end Go.Eng

/- A store into an object, where the order is drawn. -/
namespace Go.Eng
open Go
section
variable {C : Ctx} {P : Program} {fn : Func} {n : Nat} {g0 g : G} {L0 : List Nat} {Post : Value → G → Prop} {s : St} {T : Tab} {a : Act} {w : World} {m : List Nat}

/-- A store into an object, where the order is drawn. -/
theorem stobD (hC : Fnc C P fn n g0 L0 Post) (hT : TabOk P T) (l : Nat) {o : Oper} {ii : Nat} {all : Array Oper} {pl : List (Nat × Nat)} {st fb fl : List Nat} {vt : Option (Nat × Nat × Nat)} {k : List KI} {t : Nat} {p x : Operand} {b off : Nat} {v : SV} {sc : List SC} {d : TD} (hl : (l != 0 && l != 1) = true)
    (hb : l ∈ L0 ∨ g0.w.heap.size ≤ b) (hii : all[ii]? = some o) (ho : o.op = .store t p x) (hp : evg [] s.env p = some (.c (.v (.pointer (some ⟨b, off, none⟩))))) (hx : evg [] s.env x = some v) (hc : cellsOf v = some sc) (hd : T t = some d) (hsz : (sc.length == d.size && sc.all nag) = true) (hw : gOn all s o = true) (hdst : o.dst = none)
    (hfl : fl.all (fun x => x != l && x != 1) = true) (hvt : vtOk all vt o = true)
    (H : ∀ m g1, Prv [1] g g1 → Expo s m (fun _ => 1) g1 → ∃ ty cs, Ob g1 l b ty cs ∧ off + sc.length ≤ cs.length ∧
      ∀ g2 g3, Prv [l] g1 g2 → But b g1 g2 → Prv [1] g2 g3 → Ob g3 l b ty (setV cs off (sc.map (SC.val m))) → Sg C g3 ⟨.opsD all pl st fb fl vt :: k, nameAll s m⟩) :
    Sg C g ⟨.opsD all ((ii, 1) :: pl) st fb fl vt :: k, s⟩ := by
  simp only [Bool.and_eq_true, bne_iff_ne, ne_eq, beq_iff_eq] at hl hsz
  refine stpFD hC [l] 1 (by simp) (by simp; exact fun h => hl.2 h.symm) (by simp; exact fun h => hl.1 h.symm) (by simp; exact fun h => hl.2 h.symm) hii hw (by rw [hdst]; rfl) (fun x hx => by have := List.all_eq_true.1 hfl x hx; simpa using this) hvt fun a w m g1 hs hgw hwf p1 e1 hlow hsz1 => ?_
  obtain ⟨ty, cs, hob, hle, hq⟩ := H m g1 p1 e1
  have ep := (hs.ev hp).1
  have ex := (hs.ev hx).1
  have hcs : (v.val m).cells = vals m sc := cellsOf_ok hc m
  have hat : g1.w.heap[b]? = some (.cells (vals m (cs.map .v)) ty (0, 0)) := by rw [vals_map_v']; exact hob.at_
  have hrun : (execOp a.eval o).run C.P g1.w = .ok .skip (gset g1 b (.cells (setV cs off (sc.map (SC.val m))).toArray ty (0, 0))).w := by
    simp only [execOp, ho, ep, SV.val, SC.val]
    rw [Sem.run_bind, run_store_box (C := C) (m := m) (by rw [hC.P]; exact hT) hd hat (by rw [ex]; exact hcs) hsz.1 (by simpa using hle) (List.all_eq_true.1 hsz.2), setAt_v hle]
    rfl
  refine ⟨fun v g2 => But b g1 g2 ∧ Ob g2 l b ty (setV cs off (sc.map (SC.val m))), does_skip hrun (step_set hwf hob.own) ⟨but_set g1 b _, ⟨by show b < (wset _ _ _).heap.size; rw [wset_size]; exact hob.lt, hob.own, wset_get hob.at_⟩⟩, fun v g2 st hp k hk hkl => ?_, fun v g2 g3 p2 st hp p3 _ => ?_⟩
  · rcases hb with hb | hb
    · exact st.keep k (Nat.lt_of_lt_of_le hk hsz1) (by rw [hlow k hk]; simp only [List.mem_singleton]; exact fun h => hkl (h ▸ hb))
    · exact (hp.1 k (Nat.lt_of_lt_of_le hk hsz1) (by omega)).2
  · have := hq g2 g3 p2 hp.1 p3 (hp.2.ks p3.ks (by simp; exact hl.2))
    rw [hdst]; exact this

end
end Go.Eng
