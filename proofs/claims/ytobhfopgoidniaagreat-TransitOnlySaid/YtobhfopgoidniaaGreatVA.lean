/- Rows of anything; steps. -/
import Derived.Test.YtobhfopgoidniaaGreatNA
set_option linter.all false
set_option linter.unusedVariables false
set_option linter.unusedSimpArgs false

namespace Go.Proofs.YtobhfopgoidniaaGreat
open Go Go.Eng

theorem flat_get {X : Type} {cells : X → List Value} {sz : Nat} (hl : ∀ y, (cells y).length = sz) : ∀ (ys : List X) (i : Nat) (y : X), ys[i]? = some y → ∀ j v, (cells y)[j]? = some v → (ys.flatMap cells)[i * sz + j]? = some v
  | [], i, p, h, _, _, _ => by cases h
  | q :: r, 0, p, h, j, v, hj => by
    obtain rfl := Option.some.inj h
    have hlt : j < (cells q).length := (List.getElem?_eq_some_iff.1 hj).1
    simp only [List.flatMap_cons, Nat.zero_mul, Nat.zero_add]
    rw [List.getElem?_append_left hlt]; exact hj
  | q :: r, i + 1, p, h, j, v, hj => by
    have := flat_get hl r i p h j v hj
    simp only [List.flatMap_cons]
    have e1 : (i + 1) * sz = i * sz + sz := Nat.succ_mul i sz
    rw [List.getElem?_append_right (by rw [hl]; omega)]
    have e : (i + 1) * sz + j - (cells q).length = i * sz + j := by rw [hl]; omega
    rw [e]; exact this

/-- A row of these, that nobody writes any more. -/
structure LX {X : Type} (g : G) (cells : X → List Value) (ok : G → X → Prop) (ys : List X) (h : Hd) : Prop where
  row : ys = [] ∨ ∃ b off, h.a = some ⟨b, off, none⟩ ∧ Cs g 0 b off (ys.flatMap cells)
  len : ys.length ≤ h.cap
  cap : h.cap ≤ maxLen
  el : ∀ y ∈ ys, ok g y

theorem LX.get {X : Type} {g : G} {cells : X → List Value} {ok : G → X → Prop} {ys : List X} {h : Hd} (k : LX g cells ok ys h) {sz : Nat} (hl : ∀ y, (cells y).length = sz) {i : Nat} {y : X} (hi : ys[i]? = some y) :
    ∃ b off, h.a = some ⟨b, off, none⟩ ∧ Cs g 0 b (off + i * sz) (cells y) ∧ ok g y := by
  rcases k.row with q | ⟨b, off, q1, q2⟩
  · rw [q] at hi; cases hi
  · refine ⟨b, off, q1, ⟨q2.1, q2.2.1, fun j v hj => ?_⟩, k.el y (List.mem_of_getElem? hi)⟩
    have := q2.2.2 (i * sz + j) v (flat_get hl ys i y hi j v hj)
    rwa [← Nat.add_assoc] at this

theorem LX.to {X : Type} {g g' : G} [Later g g'] {cells : X → List Value} {ok : G → X → Prop} (hm : ∀ y, ok g y → ok g' y) {ys : List X} {h : Hd} (k : LX g cells ok ys h) : LX g' cells ok ys h :=
  ⟨by rcases k.row with q | ⟨b, off, q1, q2⟩
      · exact .inl q
      · exact .inr ⟨b, off, q1, q2.to⟩, k.len, k.cap, fun y hy => hm y (k.el y hy)⟩

/-! ### Steps -/

structure Stp where
  k : Int
  now : Int
  t : T
  who : ByteArray

def stc (p : Stp × Hd) : List Value := [.int .i64 p.1.k, .int .i64 p.1.now, .int .i64 p.1.t.k, .string p.1.t.s, .int .i64 p.1.t.n, .slice p.2.a p.1.t.l.length p.2.cap, .string p.1.who]
attribute [go_sem] stc
abbrev StOk (g : G) (p : Stp × Hd) : Prop := TOk g p.1.t p.2 ∧ p.1.who.size ≤ maxLen
abbrev LStOk (g : G) (l : List (Stp × Hd)) (h : Hd) : Prop := LX g stc StOk l h
theorem LStOk.to {g g' : G} [Later g g'] {l : List (Stp × Hd)} {h : Hd} (k : LStOk g l h) : LStOk g' l h := LX.to (fun _ q => ⟨q.1.to, q.2⟩) k

def bigT (n : Int) (t : T) : Bool := decide (n < IntKind.i64.wrap t.size)
def overB (hs : List Pr) (l : List Stp) : Bool := !fewB hs || decide (20 < l.length) || l.any fun s => bigT 400 s.t

def NoB (l : List (Stp × Hd)) (i : Nat) : Prop := ((l.take i).any fun s => bigT 400 s.1.t) = false
theorem NoB.succ {l : List (Stp × Hd)} {i : Nat} (h : NoB l i) (hi : i < l.length) (hn : bigT 400 l[i].1.t = false) : NoB l (i + 1) := by
  unfold NoB at *
  rw [List.take_succ_eq_append_getElem hi, List.any_append, h]
  simp [hn]

theorem over47 (hs : List (Pr × PH)) (h : Hd) (l : List (Stp × Hd)) (hl : Hd) (g : G) (k : LPOk g hs h) (kl : LStOk g l hl) : Ok Tryz.prog 47 [.slice h.a hs.length h.cap, .slice hl.a l.length hl.cap] g [] (fun v _ => v = .bool (overB (hs.map (·.1)) (l.map (·.1)))) := by
  have hlen : l.length ≤ 9223372036854775807 := Nat.le_trans kl.len kl.cap
  refine fbegin Tryz.func47 rfl Tryz.ntmps47 (Nat.le_of_ble_eq_true rfl) fun C hw hC => ?_
  refine runO hC tabOk 60 ?_
  simp [go_sem]
  repeat ((first | refine condT rfl ?_ | refine condF rfl ?_ | refine skD hC rfl rfl rfl ?_); refine runO hC tabOk 60 ?_; simp [go_sem])
  first | refine call hC [] (by kernel_rfl) rfl rfl rfl rfl rfl fun m1 g1 p1 e1 => ?_ | refine callD hC [] (by kernel_rfl) rfl rfl rfl rfl rfl rfl rfl rfl fun m1 g1 p1 e1 => ?_
  refine ⟨_, few33 hs h _ k.to, fun v1 u1 q1 s1 hv1 => ?_⟩
  subst hv1
  cases c1 : fewB (hs.map (·.1)) with
  | false =>
    refine runO hC tabOk 60 ?_
    simp [go_sem]
    repeat ((first | refine condT rfl ?_ | refine condF rfl ?_ | refine skD hC rfl rfl rfl ?_); refine runO hC tabOk 60 ?_; simp [go_sem])
    refine ret hC tabOk (fun _ => 1) rfl rfl fun m gf hl ex => ?_
    simp [overB, c1, retv, SV.val, SC.val]
  | true =>
  by_cases c2 : (20 : Int) < (l.length : Int)
  · refine runO hC tabOk 60 ?_
    simp [go_sem, c2]
    repeat ((first | refine condT rfl ?_ | refine condF rfl ?_ | refine skD hC rfl rfl rfl ?_); refine runO hC tabOk 60 ?_; simp [go_sem, c2])
    try (refine runO hC tabOk 60 ?_; simp [go_sem, c2]; repeat ((first | refine condT rfl ?_ | refine condF rfl ?_ | refine skD hC rfl rfl rfl ?_); refine runO hC tabOk 60 ?_; simp [go_sem, c2]))
    refine ret hC tabOk (fun _ => 1) rfl rfl fun m gf hl ex => ?_
    have : 20 < l.length := by omega
    simp [overB, this, retv, SV.val, SC.val]
  have c2' : ¬ 20 < l.length := by omega
  refine runO hC tabOk 60 ?_
  simp [go_sem, c2]
  repeat ((first | refine condT rfl ?_ | refine condF rfl ?_ | refine skD hC rfl rfl rfl ?_); refine runO hC tabOk 60 ?_; simp [go_sem, c2])
  try (refine runO hC tabOk 60 ?_; simp [go_sem, c2]; repeat ((first | refine condT rfl ?_ | refine condF rfl ?_ | refine skD hC rfl rfl rfl ?_); refine runO hC tabOk 60 ?_; simp [go_sem, c2]))
  refine small (fun _ => 1) rfl fun m0 gL p0 e0 => ⟨⟨(fun (x : Nat × G) => [(6, .c (.v (.int .i64 x.1))), (1, .c (.v (.slice hl.a l.length hl.cap)))]) ((0, gL)), [], (fun _ => []) ((0, gL)), [], 0⟩, ⟨by simp [go_sem], by simp [go_sem], rfl, by simp [go_sem], by simp [go_sem], ⟨_, rfl⟩⟩, by simp, ?_⟩
  refine loop (ι := Nat × G) (fun x => x.1 ≤ l.length ∧ NoB l x.1 ∧ Keeps [1] g x.2) (fun x => x.2)
    (fun x => ⟨(fun (x : Nat × G) => [(6, .c (.v (.int .i64 x.1))), (1, .c (.v (.slice hl.a l.length hl.cap)))]) x, [], (fun _ => []) x, [], 0⟩) (fun x => l.length - x.1) (fun ⟨i, g'⟩ ⟨hi, hp, hkp⟩ => ?_) ((0, gL)) (⟨Nat.zero_le _, rfl, Keeps.mono (Kp.ks (g := g) (g' := gL)) (by simp)⟩)
  dsimp only at hi hp hkp ⊢
  haveI : Later g g' := .of hkp (by decide)
  by_cases d1 : i < l.length
  · obtain ⟨b, off, ea, hcs, kt, _⟩ := (LStOk.to (g' := g') kl).get (sz := 7) (fun _ => rfl) (List.getElem?_eq_getElem d1)
    have hsucc : bigT 400 l[i].1.t = false → NoB l (i + 1) := hp.succ d1
    have hno : bigT 400 l[i].1.t = true → overB (hs.map (·.1)) (l.map (·.1)) = true := by
      intro h1
      have : ((l.map (·.1)).any fun s => bigT 400 s.t) = true := by
        rw [List.any_eq_true]
        exact ⟨l[i].1, List.mem_map_of_mem (by simp), h1⟩
      simp only [overB, this, Bool.or_true]
    generalize l[i] = p at hcs kt hsucc hno
    obtain ⟨⟨pk, pn, pt, pw⟩, ph⟩ := p
    dsimp only at hcs kt hsucc hno
    rw [ea]
    refine runO hC tabOk 60 ?_
    simp [go_sem, d1]
    repeat ((first | refine condT rfl ?_ | refine condF rfl ?_ | refine skD hC rfl rfl rfl ?_); refine runO hC tabOk 60 ?_; simp [go_sem, d1])
    try (refine runO hC tabOk 60 ?_; simp [go_sem, d1]; repeat ((first | refine condT rfl ?_ | refine condF rfl ?_ | refine skD hC rfl rfl rfl ?_); refine runO hC tabOk 60 ?_; simp [go_sem, d1]))
    refine vo hC (vo_index hC tabOk rfl rfl rfl rfl rfl rfl (by omega) (by omega)) rfl rfl rfl ?_
    refine runO hC tabOk 60 ?_
    simp [go_sem]
    repeat ((first | refine condT rfl ?_ | refine condF rfl ?_ | refine skD hC rfl rfl rfl ?_); refine runO hC tabOk 60 ?_; simp [go_sem])
    refine vo hC (vo_load hC tabOk (hcs.sub 2 (ws := tc pt ph) (fun j v hj => by match j, hj with | 0, hj => exact hj | 1, hj => exact hj | 2, hj => exact hj | 3, hj => exact hj)) rfl rfl rfl rfl rfl) rfl rfl rfl ?_
    refine runO hC tabOk 60 ?_
    simp [go_sem]
    repeat ((first | refine condT rfl ?_ | refine condF rfl ?_ | refine skD hC rfl rfl rfl ?_); refine runO hC tabOk 60 ?_; simp [go_sem])
    first | refine call hC [] (by kernel_rfl) rfl rfl rfl rfl rfl fun m2 g2 p2 e2 => ?_ | refine callD hC [] (by kernel_rfl) rfl rfl rfl rfl rfl rfl rfl rfl fun m2 g2 p2 e2 => ?_
    refine ⟨_, large29 pt 400 ph _ kt.to, fun v2 u2 q2 s2 hv2 => ?_⟩
    subst hv2
    have e : decide (400 < IntKind.i64.wrap pt.size) = bigT 400 pt := rfl
    rw [e]
    cases c3 : bigT 400 pt with
    | true =>
      refine runO hC tabOk 60 ?_
      simp [go_sem]
      repeat ((first | refine condT rfl ?_ | refine condF rfl ?_ | refine skD hC rfl rfl rfl ?_); refine runO hC tabOk 60 ?_; simp [go_sem])
      refine ret hC tabOk (fun _ => 1) rfl rfl fun m gf hl ex => ?_
      rw [hno c3]
      rfl
    | false =>
      refine runO hC tabOk 60 ?_
      simp [go_sem]
      repeat ((first | refine condT rfl ?_ | refine condF rfl ?_ | refine skD hC rfl rfl rfl ?_); refine runO hC tabOk 60 ?_; simp [go_sem])
      refine again (fun _ => 1) fun m8 g8 p8 e8 => ⟨(i + 1, g8), ?_, ?_, rfl, ⟨by simp [go_sem], by simp [go_sem, ea, wrap_inc (show i + 1 ≤ 9223372036854775807 by omega)], rfl, by simp [go_sem], by simp [go_sem], ⟨_, rfl⟩⟩, by simp [go_sem]⟩
      · exact ⟨d1, hsucc c3, hkp.then (by simp)⟩
      · dsimp only; omega
  · refine runO hC tabOk 60 ?_
    simp [go_sem, d1]
    repeat ((first | refine condT rfl ?_ | refine condF rfl ?_ | refine skD hC rfl rfl rfl ?_); refine runO hC tabOk 60 ?_; simp [go_sem, d1])
    try (refine runO hC tabOk 60 ?_; simp [go_sem, d1]; repeat ((first | refine condT rfl ?_ | refine condF rfl ?_ | refine skD hC rfl rfl rfl ?_); refine runO hC tabOk 60 ?_; simp [go_sem, d1]))
    refine ret hC tabOk (fun _ => 1) rfl rfl fun m gf hl ex => ?_
    have e : i = l.length := by omega
    subst e
    have h1 : ((l.map (·.1)).any fun s => bigT 400 s.t) = false := by
      unfold NoB at hp
      rw [List.take_length] at hp
      rw [List.any_map]; exact hp
    have : overB (hs.map (·.1)) (l.map (·.1)) = false := by
      simp only [overB, c1, h1]
      simp [c2']
    rw [this]
    rfl
end Go.Proofs.YtobhfopgoidniaaGreat
