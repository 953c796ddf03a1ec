/- Containers, read: lists, flags, all of it. Tickets: messages, boxes, sums. -/
import Derived.Test.YtobhfopgoidniaaGreatGB
import Derived.Test.YtobhfopgoidniaaGreatED
set_option linter.all false
set_option linter.unusedVariables false
set_option linter.unusedSimpArgs false

/- Containers, read: lists, flags, all of it. -/
namespace Go.Proofs.YtobhfopgoidniaaGreat
open Go Go.Eng

theorem sizes_len : ∀ l : List T, l.length ≤ T.sizes l
  | [] => Nat.le_refl _
  | a :: l => by
    have := sizes_len l
    cases a
    simp only [List.length_cons, T.sizes, T.size]
    omega

theorem size_l (t : T) : t.size = 1 + T.sizes t.l := by cases t; rfl

/-! ### The longest list in a term -/
mutual
def tw : T → Nat
  | .mk _ _ _ l => max l.length (tws l)
def tws : List T → Nat
  | [] => 0
  | a :: l => max (tw a) (tws l)
end
theorem tw_l (t : T) : tw t = max t.l.length (tws t.l) := by cases t; simp only [tw, T.l_mk]
mutual
theorem tw_size : ∀ t : T, tw t ≤ t.size
  | .mk k s n l => by
    have h1 := tws_sizes l
    have h2 := sizes_len l
    simp only [tw, T.size]
    omega
theorem tws_sizes : ∀ l : List T, tws l ≤ T.sizes l
  | [] => Nat.le_refl _
  | a :: l => by
    have h1 := tw_size a
    have h2 := tws_sizes l
    simp only [tws, T.sizes]
    omega
end
theorem tws_mem : ∀ (l : List T) (x : T), x ∈ l → tw x ≤ tws l
  | [], x, h => by cases h
  | y :: l, x, h => by
    simp only [tws]
    rcases List.mem_cons.1 h with rfl | h
    · omega
    · have := tws_mem l x h
      omega
theorem tw_T0 : tw T0 = 0 := by simp [tw, tws]

theorem next_tw (k : Int) (s : List T × Bool) : tw (nextS k s).1 ≤ tws s.1 := by
  obtain ⟨l, odd⟩ := s
  cases l with
  | nil => simp only [nextS, tw_T0]; exact Nat.zero_le _
  | cons t r =>
    simp only [nextS]
    split
    · simp only [tw_T0]; exact Nat.zero_le _
    · simp only [tws]
      omega

theorem next_rest (k : Int) (s : List T × Bool) : tws (nextS k s).2.1 ≤ tws s.1 := by
  obtain ⟨l, odd⟩ := s
  cases l with
  | nil => exact Nat.le_refl _
  | cons t r =>
    simp only [nextS]
    split
    · exact Nat.le_refl _
    · simp only [tws]; omega

/-- Words of one kind, till one is odd. -/
def rowS (k : Int) : List T → Bool → List T × Bool
  | _, true => ([], true)
  | [], false => ([], false)
  | t :: r, false => if t.k = k then (t :: (rowS k r (oddT t)).1, (rowS k r (oddT t)).2) else ([T0], true)

theorem rowS_next (k : Int) (t : T) (r : List T) : rowS k (t :: r) false = ((nextS k (t :: r, false)).1 :: (rowS k (nextS k (t :: r, false)).2.1 (nextS k (t :: r, false)).2.2).1, (rowS k (nextS k (t :: r, false)).2.1 (nextS k (t :: r, false)).2.2).2) := by
  by_cases h : t.k = k
  · simp [rowS, nextS, h]
  · simp [rowS, nextS, h]

def eachS (k : Int) (s : List T × Bool) : List T × List T × Bool :=
  ((rowS k (nextS 3 s).1.l false).1, (nextS 3 s).2.1, (nextS 3 s).2.2 || (rowS k (nextS 3 s).1.l false).2)

theorem rowS_end {k : Int} {l : List T} {odd : Bool} (h : l = [] ∨ odd = true) : rowS k l odd = ([], odd) := by
  rcases h with rfl | rfl
  · cases odd <;> rfl
  · cases l <;> rfl

/-- All stand. -/
def AllT (g : G) (out : List (T × Hd)) : Prop := ∀ p ∈ out, TOk g p.1 p.2
theorem AllT.nil (g : G) : AllT g [] := by intro p hp; simp at hp
theorem AllT.app {g g' : G} [Later g g'] {out : List (T × Hd)} (h : AllT g out) {p : T × Hd} (hp : TOk g' p.1 p.2) : AllT g' (out ++ [p]) := by
  intro q hq
  rcases List.mem_append.1 hq with hq | hq
  · exact (h q hq).to
  · obtain rfl := List.mem_singleton.1 hq; exact hp
theorem next_len (k : Int) (t : T) (r : List T) (n M : Nat) (h : n + r.length + 1 ≤ M) : n + 1 + (nextS k (t :: r, false)).2.1.length ≤ M + (if (nextS k (t :: r, false)).2.2 then 1 else 0) := by
  by_cases hk : t.k = k
  · simp only [nextS, hk]
    simp
    split <;> omega
  · simp [nextS, hk]
    omega
theorem next_mu (k : Int) (t : T) (r : List T) : 2 * (nextS k (t :: r, false)).2.1.length + (if (nextS k (t :: r, false)).2.2 then 0 else 1) < 2 * (t :: r).length + 1 := by
  by_cases hk : t.k = k
  · simp only [nextS, hk]
    simp
    split <;> omega
  · simp [nextS, hk]

structure EX where
  l : List T
  odd : Bool
  out : List (T × Hd)
  a : Option Addr
  cap : Nat
  g : G

theorem rowc_app (l : List (T × Hd)) (p : T × Hd) : rowc (l ++ [p]) = rowc l ++ tc p.1 p.2 := by simp [rowc]

theorem each275 (o b : Nat) (ho : o ≠ 0) (ho1 : o ≠ 1) (ho2 : o ≠ 63) (ho3 : o ≠ 99) (k : Int) (l : List T) (odd : Bool) (g : G) (kr : RdIs g o b l odd) (hsz : tws l ≤ 2513169434843) :
    Ok Tryz.prog 275 [ptr b, .int .i64 k] g [o, 63] (fun v g' => (∃ h : Hd, v = .slice h.a (eachS k (l, odd)).1.length h.cap ∧ LOk g' (eachS k (l, odd)).1 h) ∧ RdIs g' o b (eachS k (l, odd)).2.1 (eachS k (l, odd)).2.2) := by
  have hn := next_tw 3 (l, odd)
  dsimp only at hn
  rw [tw_l] at hn
  refine fbegin Tryz.func275 rfl Tryz.ntmps275 (Nat.le_of_ble_eq_true rfl) fun C hw hC => ?_
  refine runO hC tabOk 60 ?_
  simp [go_sem]
  repeat ((first | refine condT rfl ?_ | refine condF rfl ?_ | refine skD hC rfl rfl rfl ?_); refine runO hC tabOk 60 ?_; simp [go_sem])
  refine call hC [o] (by kernel_rfl) rfl rfl rfl (by first | (simp [subL]; done) | (simp [subL]; omega)) rfl fun m1 g1 p1 e1 => ⟨_, next274 o b ho ho1 3 l odd _ (kr.ks Kp.ks (by first | (simp; done) | (simp; omega)) (by first | (simp; done) | (simp; omega))), fun v1 u1 q1 s1 hv1 => ?_⟩
  obtain ⟨⟨hd, rfl, kd⟩, kr1⟩ := hv1
  refine runO hC tabOk 60 ?_
  simp [go_sem]
  repeat ((first | refine condT rfl ?_ | refine condF rfl ?_ | refine skD hC rfl rfl rfl ?_); refine runO hC tabOk 60 ?_; simp [go_sem])
  refine smallX (fun _ => 63) rfl fun m2 g2 p2 e2 => ⟨⟨[(6, .c (.v (.slice none 0 0))), (5, .c (.v (ptr (m2.getD 0 0)))), (0, .c (.v (ptr b))), (1, .c (.v (.int .i64 k)))], [], [], [], 0⟩, ⟨by simp [go_sem], by simp [go_sem, SV.val, SC.val], rfl, by simp [go_sem], by simp [go_sem], ⟨_, rfl⟩⟩, by simp, ?_⟩
  have kin : RdIs g2 63 (m2.getD 0 0) (nextS 3 (l, odd)).1.l false := ⟨hd, e2.ob (i := 0) rfl, kd.to.lst⟩
  generalize m2.getD 0 0 = b2 at kin ⊢
  refine small (fun _ => 1) rfl fun m0 gL p0 e0 => ⟨⟨(fun (x : EX) => [(6, .c (.v (.slice x.a x.out.length x.cap))), (5, .c (.v (ptr b2))), (0, .c (.v (ptr b))), (1, .c (.v (.int .i64 k)))]) (EX.mk (nextS 3 (l, odd)).1.l false [] none 0 gL), [], (fun _ => []) (EX.mk (nextS 3 (l, odd)).1.l false [] none 0 gL), [], 0⟩, ⟨by simp [go_sem], by simp [go_sem], rfl, by simp [go_sem], by simp [go_sem], ⟨_, rfl⟩⟩, by simp, ?_⟩
  refine loop (ι := EX) (fun x => RdIs x.g 63 b2 x.l x.odd ∧ RdIs x.g o b (nextS 3 (l, odd)).2.1 (nextS 3 (l, odd)).2.2 ∧ OwnRow x.g g.w.heap.size 99 25 4 (.slice x.a x.out.length x.cap) x.out.length (rowc x.out) ∧ AllT x.g x.out ∧ x.out.length + x.l.length ≤ 2513169434843 + (if x.odd then 1 else 0) ∧ rowS k (nextS 3 (l, odd)).1.l false = (x.out.map (·.1) ++ (rowS k x.l x.odd).1, (rowS k x.l x.odd).2) ∧ Keeps [1, o, 63, 99] g x.g) (fun x => x.g)
    (fun x => ⟨(fun (x : EX) => [(6, .c (.v (.slice x.a x.out.length x.cap))), (5, .c (.v (ptr b2))), (0, .c (.v (ptr b))), (1, .c (.v (.int .i64 k)))]) x, [], (fun _ => []) x, [], 0⟩) (fun x => 2 * x.l.length + (if x.odd then 0 else 1)) (fun ⟨l', odd', out, a, cap, g'⟩ ⟨hin, hr, hrow, hp, hlen, hsp, hk⟩ => ?_) (EX.mk (nextS 3 (l, odd)).1.l false [] none 0 gL) (⟨kin.ks Kp.ks (by first | (simp; done) | (simp; omega)) (by first | (simp; done) | (simp; omega)), kr1.ks Kp.ks (by first | (simp; done) | (simp; omega)) (by first | (simp; done) | (simp; omega)), ⟨rfl, .inl ⟨_, rfl, rfl⟩⟩, AllT.nil _, by simp; omega, by simp, Keeps.mono (Kp.ks (g := g) (g' := gL)) (by simp)⟩)
  dsimp only at hin hr hrow hp hlen hsp hk ⊢
  obtain ⟨hh, q1, q2⟩ := hin
  obtain ⟨hr0, r1, r2⟩ := hr
  haveI : Later g g' := .of hk (by first | (simp; done) | (simp; omega))
  refine runO hC tabOk 60 ?_
  simp [go_sem]
  repeat ((first | refine condT rfl ?_ | refine condF rfl ?_ | refine skD hC rfl rfl rfl ?_); refine runO hC tabOk 60 ?_; simp [go_sem])
  refine vo hC (vo_load1 hC tabOk (ob_l q1) rfl rfl rfl rfl) rfl rfl rfl ?_
  cases hl' : l' with
  | nil =>
    subst hl'
    refine runO hC tabOk 60 ?_
    simp [go_sem]
    repeat ((first | refine condT rfl ?_ | refine condF rfl ?_ | refine skD hC rfl rfl rfl ?_); refine runO hC tabOk 60 ?_; simp [go_sem])
    refine vo hC (vo_load1 hC tabOk ((ob_odd r1).ks Kp.ks (by first | (simp; done) | (simp; omega))) rfl rfl rfl rfl) (nc1 ho1) rfl rfl ?_
    have hfin : rowS k (nextS 3 (l, odd)).1.l false = (out.map (·.1), odd') := by rw [hsp, rowS_end (.inl rfl)]; simp
    cases hro : (nextS 3 (l, odd)).2.2 with
    | true =>
      refine runO hC tabOk 60 ?_
      simp [go_sem]
      repeat ((first | refine condT rfl ?_ | refine condF rfl ?_ | refine skD hC rfl rfl rfl ?_); refine runO hC tabOk 60 ?_; simp [go_sem])
      refine stob hC tabOk o (by first | (simp; done) | (simp; omega)) (.inl (by simp)) rfl rfl rfl rfl rfl rfl rfl rfl fun m9 g9 p9 e9 => ⟨332, _, r1.ks Kp.ks (by first | (simp; done) | (simp; omega)), by simp, fun g10 g11 p10 but10 p11 hob' => ?_⟩
      refine runO hC tabOk 60 ?_
      simp [go_sem]
      repeat ((first | refine condT rfl ?_ | refine condF rfl ?_ | refine skD hC rfl rfl rfl ?_); refine runO hC tabOk 60 ?_; simp [go_sem])
      refine relab hC 99 0 rfl rfl fun g4 p4 hw4 ho4 => ?_
      obtain ⟨h', e2, hk'⟩ := LOk.of out ((hrow.ks (g' := g11) Kp.ks (by first | (simp; done) | (simp; omega))).give hw4 ho4) rfl (fun p hp' => (hp p hp').to)
      obtain ⟨rfl, _, rfl⟩ := Value.slice.inj e2
      refine runO hC tabOk 60 ?_
      simp [go_sem]
      repeat ((first | refine condT rfl ?_ | refine condF rfl ?_ | refine skD hC rfl rfl rfl ?_); refine runO hC tabOk 60 ?_; simp [go_sem])
      refine ret hC tabOk (fun _ => 1) rfl rfl fun m gf hl ex => ?_
      have q := hob'.ks (g' := gf) Kp.ks (by first | (simp; done) | (simp; omega))
      refine ⟨⟨h', ?_, ?_⟩, hr0, ?_, r2.to⟩
      · simp [eachS, hfin, retv, SV.val, SC.val]
      · simpa [eachS, hfin] using hk'.to (g' := gf)
      · simpa [eachS, hfin, hro, SC.val, setV] using q
    | false =>
      refine runO hC tabOk 60 ?_
      simp [go_sem]
      repeat ((first | refine condT rfl ?_ | refine condF rfl ?_ | refine skD hC rfl rfl rfl ?_); refine runO hC tabOk 60 ?_; simp [go_sem])
      refine vo hC (vo_load1 hC tabOk ((ob_odd q1).ks Kp.ks (by first | (simp; done) | (simp; omega))) rfl rfl rfl rfl) rfl rfl rfl ?_
      refine runO hC tabOk 60 ?_
      simp [go_sem]
      repeat ((first | refine condT rfl ?_ | refine condF rfl ?_ | refine skD hC rfl rfl rfl ?_); refine runO hC tabOk 60 ?_; simp [go_sem])
      refine stob hC tabOk o (by first | (simp; done) | (simp; omega)) (.inl (by simp)) rfl rfl rfl rfl rfl rfl rfl rfl fun m9 g9 p9 e9 => ⟨332, _, r1.ks Kp.ks (by first | (simp; done) | (simp; omega)), by simp, fun g10 g11 p10 but10 p11 hob' => ?_⟩
      refine runO hC tabOk 60 ?_
      simp [go_sem]
      repeat ((first | refine condT rfl ?_ | refine condF rfl ?_ | refine skD hC rfl rfl rfl ?_); refine runO hC tabOk 60 ?_; simp [go_sem])
      refine relab hC 99 0 rfl rfl fun g4 p4 hw4 ho4 => ?_
      obtain ⟨h', e2, hk'⟩ := LOk.of out ((hrow.ks (g' := g11) Kp.ks (by first | (simp; done) | (simp; omega))).give hw4 ho4) rfl (fun p hp' => (hp p hp').to)
      obtain ⟨rfl, _, rfl⟩ := Value.slice.inj e2
      refine runO hC tabOk 60 ?_
      simp [go_sem]
      repeat ((first | refine condT rfl ?_ | refine condF rfl ?_ | refine skD hC rfl rfl rfl ?_); refine runO hC tabOk 60 ?_; simp [go_sem])
      refine ret hC tabOk (fun _ => 1) rfl rfl fun m gf hl ex => ?_
      have q := hob'.ks (g' := gf) Kp.ks (by first | (simp; done) | (simp; omega))
      refine ⟨⟨h', ?_, ?_⟩, hr0, ?_, r2.to⟩
      · simp [eachS, hfin, retv, SV.val, SC.val]
      · simpa [eachS, hfin] using hk'.to (g' := gf)
      · simpa [eachS, hfin, hro, SC.val, setV] using q
  | cons t r =>
    subst hl'
    have hpos : (0 : Int) < (r.length : Int) + 1 := by omega
    refine runO hC tabOk 60 ?_
    simp [go_sem, hpos]
    repeat ((first | refine condT rfl ?_ | refine condF rfl ?_ | refine skD hC rfl rfl rfl ?_); refine runO hC tabOk 60 ?_; simp [go_sem, hpos])
    try (refine runO hC tabOk 60 ?_; simp [go_sem, hpos]; repeat ((first | refine condT rfl ?_ | refine condF rfl ?_ | refine skD hC rfl rfl rfl ?_); refine runO hC tabOk 60 ?_; simp [go_sem, hpos]))
    refine vo hC (vo_load1 hC tabOk (ob_odd q1) rfl rfl rfl rfl) rfl rfl rfl ?_
    cases ho' : odd' with
    | true =>
      subst ho'
      refine runO hC tabOk 60 ?_
      simp [go_sem]
      repeat ((first | refine condT rfl ?_ | refine condF rfl ?_ | refine skD hC rfl rfl rfl ?_); refine runO hC tabOk 60 ?_; simp [go_sem])
      refine vo hC (vo_load1 hC tabOk ((ob_odd r1).ks Kp.ks (by first | (simp; done) | (simp; omega))) rfl rfl rfl rfl) (nc1 ho1) rfl rfl ?_
      have hfin : rowS k (nextS 3 (l, odd)).1.l false = (out.map (·.1), true) := by rw [hsp, rowS_end (.inr rfl)]; simp
      cases hro : (nextS 3 (l, odd)).2.2 with
      | true =>
        refine runO hC tabOk 60 ?_
        simp [go_sem]
        repeat ((first | refine condT rfl ?_ | refine condF rfl ?_ | refine skD hC rfl rfl rfl ?_); refine runO hC tabOk 60 ?_; simp [go_sem])
        refine stob hC tabOk o (by first | (simp; done) | (simp; omega)) (.inl (by simp)) rfl rfl rfl rfl rfl rfl rfl rfl fun m9 g9 p9 e9 => ⟨332, _, r1.ks Kp.ks (by first | (simp; done) | (simp; omega)), by simp, fun g10 g11 p10 but10 p11 hob' => ?_⟩
        refine runO hC tabOk 60 ?_
        simp [go_sem]
        repeat ((first | refine condT rfl ?_ | refine condF rfl ?_ | refine skD hC rfl rfl rfl ?_); refine runO hC tabOk 60 ?_; simp [go_sem])
        refine relab hC 99 0 rfl rfl fun g4 p4 hw4 ho4 => ?_
        obtain ⟨h', e2, hk'⟩ := LOk.of out ((hrow.ks (g' := g11) Kp.ks (by first | (simp; done) | (simp; omega))).give hw4 ho4) rfl (fun p hp' => (hp p hp').to)
        obtain ⟨rfl, _, rfl⟩ := Value.slice.inj e2
        refine runO hC tabOk 60 ?_
        simp [go_sem]
        repeat ((first | refine condT rfl ?_ | refine condF rfl ?_ | refine skD hC rfl rfl rfl ?_); refine runO hC tabOk 60 ?_; simp [go_sem])
        refine ret hC tabOk (fun _ => 1) rfl rfl fun m gf hl ex => ?_
        have q := hob'.ks (g' := gf) Kp.ks (by first | (simp; done) | (simp; omega))
        refine ⟨⟨h', ?_, ?_⟩, hr0, ?_, r2.to⟩
        · simp [eachS, hfin, retv, SV.val, SC.val]
        · simpa [eachS, hfin] using hk'.to (g' := gf)
        · simpa [eachS, hfin, hro, SC.val, setV] using q
      | false =>
        refine runO hC tabOk 60 ?_
        simp [go_sem]
        repeat ((first | refine condT rfl ?_ | refine condF rfl ?_ | refine skD hC rfl rfl rfl ?_); refine runO hC tabOk 60 ?_; simp [go_sem])
        refine vo hC (vo_load1 hC tabOk ((ob_odd q1).ks Kp.ks (by first | (simp; done) | (simp; omega))) rfl rfl rfl rfl) rfl rfl rfl ?_
        refine runO hC tabOk 60 ?_
        simp [go_sem]
        repeat ((first | refine condT rfl ?_ | refine condF rfl ?_ | refine skD hC rfl rfl rfl ?_); refine runO hC tabOk 60 ?_; simp [go_sem])
        refine stob hC tabOk o (by first | (simp; done) | (simp; omega)) (.inl (by simp)) rfl rfl rfl rfl rfl rfl rfl rfl fun m9 g9 p9 e9 => ⟨332, _, r1.ks Kp.ks (by first | (simp; done) | (simp; omega)), by simp, fun g10 g11 p10 but10 p11 hob' => ?_⟩
        refine runO hC tabOk 60 ?_
        simp [go_sem]
        repeat ((first | refine condT rfl ?_ | refine condF rfl ?_ | refine skD hC rfl rfl rfl ?_); refine runO hC tabOk 60 ?_; simp [go_sem])
        refine relab hC 99 0 rfl rfl fun g4 p4 hw4 ho4 => ?_
        obtain ⟨h', e2, hk'⟩ := LOk.of out ((hrow.ks (g' := g11) Kp.ks (by first | (simp; done) | (simp; omega))).give hw4 ho4) rfl (fun p hp' => (hp p hp').to)
        obtain ⟨rfl, _, rfl⟩ := Value.slice.inj e2
        refine runO hC tabOk 60 ?_
        simp [go_sem]
        repeat ((first | refine condT rfl ?_ | refine condF rfl ?_ | refine skD hC rfl rfl rfl ?_); refine runO hC tabOk 60 ?_; simp [go_sem])
        refine ret hC tabOk (fun _ => 1) rfl rfl fun m gf hl ex => ?_
        have q := hob'.ks (g' := gf) Kp.ks (by first | (simp; done) | (simp; omega))
        refine ⟨⟨h', ?_, ?_⟩, hr0, ?_, r2.to⟩
        · simp [eachS, hfin, retv, SV.val, SC.val]
        · simpa [eachS, hfin] using hk'.to (g' := gf)
        · simpa [eachS, hfin, hro, SC.val, setV] using q
    | false =>
      subst ho'
      refine runO hC tabOk 60 ?_
      simp [go_sem]
      repeat ((first | refine condT rfl ?_ | refine condF rfl ?_ | refine skD hC rfl rfl rfl ?_); refine runO hC tabOk 60 ?_; simp [go_sem])
      refine call hC [63] (by kernel_rfl) rfl rfl rfl (by first | (simp [subL]; done) | (simp [subL]; omega)) rfl fun m3 g3 p3 e3 => ⟨_, next274 63 b2 (by simp) (by simp) k (t :: r) false _ ⟨hh, q1.ks Kp.ks (by first | (simp; done) | (simp; omega)), q2.to⟩, fun v3 u3 q3 s3 hv3 => ?_⟩
      obtain ⟨⟨hx, rfl, kx⟩, kin'⟩ := hv3
      refine runO hC tabOk 60 ?_
      simp [go_sem]
      repeat ((first | refine condT rfl ?_ | refine condF rfl ?_ | refine skD hC rfl rfl rfl ?_); refine runO hC tabOk 60 ?_; simp [go_sem])
      refine app hC 99 g.w.heap.size 56 tabOk rfl (.inr rfl) rfl rfl rfl rfl rfl rfl (by kernel_rfl) rfl rfl rfl fun m5 g5 p5 e5 => ?_
      refine ⟨out.length, _, 1, tc (nextS k (t :: r, false)).1 hx, some ⟨m5.getD 0 0, 0, none⟩, 1, hrow.ks Kp.ks (by first | (simp; done) | (simp; omega)), rfl, Cs.rd (e5.frz (i := 0) rfl rfl rfl), rfl, by have := rowc_one [((nextS k (t :: r, false)).1, hx)]; simpa [rowc] using this, ?_, ?_, fun v g6 g7 p6 p7 hv => ?_⟩
      · simp at hlen; simp [maxLen]; omega
      · simp at hlen; omega
      rw [← rowc_app out ((nextS k (t :: r, false)).1, hx)] at hv
      obtain ⟨a', cap', rfl, _⟩ := hv.cs
      have hlo : (out ++ [((nextS k (t :: r, false)).1, hx)]).length = out.length + 1 := by simp
      rw [← hlo] at hv
      refine runO hC tabOk 60 ?_
      simp [go_sem]
      repeat ((first | refine condT rfl ?_ | refine condF rfl ?_ | refine skD hC rfl rfl rfl ?_); refine runO hC tabOk 60 ?_; simp [go_sem])
      refine again (fun _ => 1) fun m8 g8 p8 e8 => ⟨EX.mk (nextS k (t :: r, false)).2.1 (nextS k (t :: r, false)).2.2 (out ++ [((nextS k (t :: r, false)).1, hx)]) a' cap' g8, ?_, ?_, rfl, ⟨by simp [go_sem], by simp [go_sem, hlo], rfl, by simp [go_sem], by simp [go_sem], ⟨_, rfl⟩⟩, by simp [go_sem]⟩
      · refine ⟨kin'.ks Kp.ks (by first | (simp; done) | (simp; omega)) (by first | (simp; done) | (simp; omega)), ⟨hr0, r1.ks Kp.ks (by first | (simp; done) | (simp; omega)), r2.to⟩, hv.ks Kp.ks (by first | (simp; done) | (simp; omega)), AllT.app hp kx.to, ?_, ?_, hk.then (by simp)⟩
        · rw [hlo]
          exact next_len k t r out.length _ (by have := hlen; simp at this; omega)
        · rw [hsp, rowS_next]
          simp
      · exact next_mu k t r

/-- A word that is 1, or 0. -/
def flagS (s : List T × Bool) : Bool × List T × Bool := (decide ((nextS 1 s).1.n = 1), (nextS 1 s).2.1, (nextS 1 s).2.2 || (decide ((nextS 1 s).1.n ≠ 0) && decide ((nextS 1 s).1.n ≠ 1)))

theorem flag276 (o b : Nat) (ho : o ≠ 0) (ho1 : o ≠ 1) (l : List T) (odd : Bool) (g : G) (kr : RdIs g o b l odd) :
    Ok Tryz.prog 276 [ptr b] g [o] (fun v g' => v = .bool (flagS (l, odd)).1 ∧ RdIs g' o b (flagS (l, odd)).2.1 (flagS (l, odd)).2.2) := by
  refine fbegin Tryz.func276 rfl Tryz.ntmps276 (Nat.le_of_ble_eq_true rfl) fun C hw hC => ?_
  refine runO hC tabOk 60 ?_
  simp [go_sem]
  repeat ((first | refine condT rfl ?_ | refine condF rfl ?_ | refine skD hC rfl rfl rfl ?_); refine runO hC tabOk 60 ?_; simp [go_sem])
  refine call hC [o] (by kernel_rfl) rfl rfl rfl (by first | (simp [subL]; done) | (simp [subL]; omega)) rfl fun m1 g1 p1 e1 => ⟨_, next274 o b ho ho1 1 l odd _ (kr.ks Kp.ks (by first | (simp; done) | (simp; omega)) (by first | (simp; done) | (simp; omega))), fun v1 u1 q1 s1 hv1 => ?_⟩
  obtain ⟨⟨hd, rfl, kd⟩, hr, k1, k2⟩ := hv1
  refine runO hC tabOk 60 ?_
  simp [go_sem]
  repeat ((first | refine condT rfl ?_ | refine condF rfl ?_ | refine skD hC rfl rfl rfl ?_); refine runO hC tabOk 60 ?_; simp [go_sem])
  refine vo hC (vo_load1 hC tabOk ((ob_odd k1).ks Kp.ks (by first | (simp; done) | (simp; omega))) rfl rfl rfl rfl) (nc1 ho1) rfl rfl ?_
  refine runO hC tabOk 60 ?_
  simp [go_sem]
  repeat ((first | refine condT rfl ?_ | refine condF rfl ?_ | refine skD hC rfl rfl rfl ?_); refine runO hC tabOk 60 ?_; simp [go_sem])
  refine stob hC tabOk o (by first | (simp; done) | (simp; omega)) (.inl (by simp)) rfl rfl rfl rfl rfl rfl rfl rfl fun m9 g9 p9 e9 => ⟨332, _, k1.ks Kp.ks (by first | (simp; done) | (simp; omega)), by simp, fun g10 g11 p10 but10 p11 hob' => ?_⟩
  refine runO hC tabOk 60 ?_
  simp [go_sem]
  repeat ((first | refine condT rfl ?_ | refine condF rfl ?_ | refine skD hC rfl rfl rfl ?_); refine runO hC tabOk 60 ?_; simp [go_sem])
  refine ret hC tabOk (fun _ => 1) rfl rfl fun m gf hl ex => ?_
  have q := hob'.ks (g' := gf) Kp.ks (by first | (simp; done) | (simp; omega))
  refine ⟨rfl, hr, ?_, k2.to⟩
  simpa [flagS, SC.val, setV] using q

theorem each_rest (k : Int) (s : List T × Bool) : tws (eachS k s).2.1 ≤ tws s.1 := next_rest 3 s
theorem rowS_len (k : Int) : ∀ (l : List T) (odd : Bool), (rowS k l odd).1.length ≤ l.length
  | l, true => by cases l <;> simp [rowS]
  | [], false => Nat.le_refl _
  | t :: r, false => by
    have := rowS_len k r (oddT t)
    simp only [rowS]
    split <;> simp <;> omega
theorem each_len (k : Int) (s : List T × Bool) : (eachS k s).1.length ≤ tws s.1 :=
  Nat.le_trans (rowS_len _ _ _) (Nat.le_trans (by rw [tw_l]; omega) (next_tw 3 s))

/-- A container, and an error. -/
def AE (r : Au × Int) (v : Value) (g : G) : Prop := ∃ h, v = .tuple #[auv r.1 h, .int .i64 r.2] ∧ AuOk g r.1 h

def rd1 (t : T) := nextS 3 (t.l.take 1, false)
def rd2 (t : T) := nextS 0 ((rd1 t).1.l, (rd1 t).2.2)
def rd3 (t : T) := eachS 1 (rd2 t).2
def rd4 (t : T) := nextS 1 (rd3 t).2
def rd5 (t : T) := eachS 0 (rd4 t).2
def rd6 (t : T) := nextS 0 (rd5 t).2
def rd7 (t : T) := flagS (rd6 t).2
def rd8 (t : T) := nextS 1 (rd7 t).2
def rdA (t : T) : Au := ⟨(rd2 t).1.s, (rd3 t).1.map T.n, (rd4 t).1.n, (rd5 t).1.map T.s, (rd6 t).1.s, (rd7 t).1, (rd8 t).1.n⟩

/-- What a container tells, read word by word. -/
def readM (t : T) : Au × Int :=
  if t.k = 3 ∧ t.l.length = 3 ∧ t.s = .empty ∧ t.n = 0 then
    (if (rd8 t).2.2 = true ∨ 0 < (rd8 t).2.1.length ∨ auOk (rdA t) = false then (Au0, 50) else (rdA t, 0))
  else (Au0, 50)

def icol (l : List T) (i : Nat) : List Value := ((l.take i).map T.n).map ic
def scol (l : List T) (i : Nat) : List Value := ((l.take i).map T.s).map sc
theorem icol_succ (l : List T) (i : Nat) (h : i < l.length) : icol l (i + 1) = icol l i ++ [ic l[i].n] := by
  unfold icol
  rw [List.take_succ_eq_append_getElem h]; simp only [List.map_append, List.map_cons, List.map_nil]
theorem scol_succ (l : List T) (i : Nat) (h : i < l.length) : scol l (i + 1) = scol l i ++ [sc l[i].s] := by
  unfold scol
  rw [List.take_succ_eq_append_getElem h]; simp only [List.map_append, List.map_cons, List.map_nil]
theorem icol_all (l : List T) (i : Nat) (h : l.length ≤ i) : icol l i = (l.map T.n).map ic := by
  unfold icol
  rw [List.take_of_length_le h]
theorem scol_all (l : List T) (i : Nat) (h : l.length ≤ i) : scol l i = (l.map T.s).map sc := by
  unfold scol
  rw [List.take_of_length_le h]

theorem avalid257' (a : Au) (h : AH) (n1 n2 : Nat) (e1 : a.gr.length = n1) (e2 : a.tr.length = n2) (g : G) (k : AuOk g a h) : Ok Tryz.prog 257 [.agg #[.string a.user, .slice h.gr.a n1 h.gr.cap, .int .i64 a.org, .slice h.tr.a n2 h.tr.cap, .string a.svc, .bool a.fwd, .int .i64 a.till]] g [] (fun v _ => v = .bool (auOk a)) := by
  subst e1; subst e2
  exact avalid257 a h g k

theorem read231 (t : T) (h : Hd) (g : G) (k : TOk g t h) (hsz : tw t ≤ 2513169434843) : Ok Tryz.prog 231 [tv t h] g [61, 62, 63] (fun v g' => AE (readM t) v g') := by
  obtain ⟨tk, ts, tn, tl⟩ := t
  have fail : ∀ (v : Value) (g' : G), v = .tuple #[auv Au0 ⟨⟨none, 0⟩, ⟨none, 0⟩⟩, .int .i64 50] → readM (.mk tk ts tn tl) = (Au0, 50) → AE (readM (.mk tk ts tn tl)) v g' := by
    intro v g' e1 e2
    rw [e2]
    exact ⟨⟨⟨none, 0⟩, ⟨none, 0⟩⟩, e1, Au0_ok _⟩
  refine fbegin Tryz.func231 rfl Tryz.ntmps231 (Nat.le_of_ble_eq_true rfl) fun C hw hC => ?_
  refine runO hC tabOk 60 ?_
  simp [go_sem]
  repeat ((first | refine condT rfl ?_ | refine condF rfl ?_ | refine skD hC rfl rfl rfl ?_); refine runO hC tabOk 60 ?_; simp [go_sem])
  by_cases h1 : tk = 3
  rotate_left
  · refine runO hC tabOk 60 ?_
    simp [go_sem, h1]
    repeat ((first | refine condT rfl ?_ | refine condF rfl ?_ | refine skD hC rfl rfl rfl ?_); refine runO hC tabOk 60 ?_; simp [go_sem, h1])
    try (refine runO hC tabOk 60 ?_; simp [go_sem, h1]; repeat ((first | refine condT rfl ?_ | refine condF rfl ?_ | refine skD hC rfl rfl rfl ?_); refine runO hC tabOk 60 ?_; simp [go_sem, h1]))
    refine ret hC tabOk (fun _ => 1) rfl rfl fun m gf hl ex => ?_
    exact fail _ _ rfl (by unfold readM; rw [if_neg (by intro q; exact h1 q.1)])
  by_cases h2 : tl.length = 3
  rotate_left
  · have h2' : ¬ (tl.length : Int) = 3 := by omega
    refine runO hC tabOk 60 ?_
    simp [go_sem, h1, h2']
    repeat ((first | refine condT rfl ?_ | refine condF rfl ?_ | refine skD hC rfl rfl rfl ?_); refine runO hC tabOk 60 ?_; simp [go_sem, h1, h2'])
    try (refine runO hC tabOk 60 ?_; simp [go_sem, h1, h2']; repeat ((first | refine condT rfl ?_ | refine condF rfl ?_ | refine skD hC rfl rfl rfl ?_); refine runO hC tabOk 60 ?_; simp [go_sem, h1, h2']))
    refine ret hC tabOk (fun _ => 1) rfl rfl fun m gf hl ex => ?_
    exact fail _ _ rfl (by unfold readM; rw [if_neg (by intro q; exact h2 q.2.1)])
  by_cases h3 : ts = .empty
  rotate_left
  · have h2' : (tl.length : Int) = 3 := by omega
    refine runO hC tabOk 60 ?_
    simp [go_sem, h1, h2', h3]
    repeat ((first | refine condT rfl ?_ | refine condF rfl ?_ | refine skD hC rfl rfl rfl ?_); refine runO hC tabOk 60 ?_; simp [go_sem, h1, h2', h3])
    try (refine runO hC tabOk 60 ?_; simp [go_sem, h1, h2', h3]; repeat ((first | refine condT rfl ?_ | refine condF rfl ?_ | refine skD hC rfl rfl rfl ?_); refine runO hC tabOk 60 ?_; simp [go_sem, h1, h2', h3]))
    refine ret hC tabOk (fun _ => 1) rfl rfl fun m gf hl ex => ?_
    exact fail _ _ rfl (by unfold readM; rw [if_neg (by intro q; exact h3 q.2.2.1)])
  by_cases h4 : tn = 0
  rotate_left
  · have h2' : (tl.length : Int) = 3 := by omega
    refine runO hC tabOk 60 ?_
    simp [go_sem, h1, h2', h3, h4]
    repeat ((first | refine condT rfl ?_ | refine condF rfl ?_ | refine skD hC rfl rfl rfl ?_); refine runO hC tabOk 60 ?_; simp [go_sem, h1, h2', h3, h4])
    try (refine runO hC tabOk 60 ?_; simp [go_sem, h1, h2', h3, h4]; repeat ((first | refine condT rfl ?_ | refine condF rfl ?_ | refine skD hC rfl rfl rfl ?_); refine runO hC tabOk 60 ?_; simp [go_sem, h1, h2', h3, h4]))
    refine ret hC tabOk (fun _ => 1) rfl rfl fun m gf hl ex => ?_
    exact fail _ _ rfl (by unfold readM; rw [if_neg (by intro q; exact h4 q.2.2.2)])
  obtain ⟨x, y, z, rfl⟩ : ∃ x y z, tl = [x, y, z] := by
    match tl, h2 with
    | [x, y, z], _ => exact ⟨x, y, z, rfl⟩
  obtain ⟨b0, off0, hx, ea, hcs, kx⟩ := k.lst.get (i := 0) (t := x) rfl
  have ea' : h.a = some ⟨b0, off0, none⟩ := ea
  have hcap : 3 ≤ h.cap := k.len
  refine runO hC tabOk 60 ?_
  simp [go_sem, h1, h3, h4, ea']
  repeat ((first | refine condT rfl ?_ | refine condF rfl ?_ | refine skD hC rfl rfl rfl ?_); refine runO hC tabOk 60 ?_; simp [go_sem, h1, h3, h4, ea'])
  try (refine runO hC tabOk 60 ?_; simp [go_sem, h1, h3, h4, ea']; repeat ((first | refine condT rfl ?_ | refine condF rfl ?_ | refine skD hC rfl rfl rfl ?_); refine runO hC tabOk 60 ?_; simp [go_sem, h1, h3, h4, ea']))
  refine vo hC (vo_slupto hC tabOk rfl rfl rfl rfl rfl rfl (by omega) (by omega) (fun b hb => by obtain rfl := Option.some.inj hb; rw [add_plain]; rfl)) rfl rfl rfl ?_
  refine runO hC tabOk 60 ?_
  simp [go_sem]
  repeat ((first | refine condT rfl ?_ | refine condF rfl ?_ | refine skD hC rfl rfl rfl ?_); refine runO hC tabOk 60 ?_; simp [go_sem])
  refine smallX (fun i => if i = 2 then 61 else 1) rfl fun m2 g2 p2 e2 => ⟨⟨[(37, .c (.v (ptr (m2.getD 2 0)))), (4, .c (.v (ptr (m2.getD 2 0)))), (1, .c (.bp 0 0)), (2, .c (.bp 1 0))], [], [(0, ⟨25, [.v (.int .i64 3), .v (.string .empty), .v (.int .i64 0), .v (.slice (some ⟨b0, off0, none⟩) 3 h.cap)], false⟩), (1, ⟨74, [.v (.string .empty), .v (.slice none 0 0), .v (.int .i64 0), .v (.slice none 0 0), .v (.string .empty), .v (.bool false), .v (.int .i64 0)], false⟩)], [], 2⟩, ⟨by simp [go_sem], by simp [go_sem, SV.val, SC.val], rfl, bxs_ok (n := 2) (Nat.le_refl _) (by simp [go_sem]), by simp [go_sem], ⟨_, rfl⟩⟩, fun i hi => by dsimp only at hi ⊢; rw [if_neg (by omega)], ?_⟩
  have kw : RdIs g2 61 (m2.getD 2 0) [x] false := ⟨⟨some ⟨b0, off0, none⟩, h.cap⟩, e2.ob (i := 2) rfl, by have q := (k.lst.to (g' := g2)).hd1.1; exact ⟨by rw [← ea']; exact q.row, q.len, q.cap⟩⟩
  generalize m2.getD 2 0 = bw at kw ⊢
  refine call hC [61] (by kernel_rfl) rfl rfl rfl rfl rfl fun m3 g3 p3 e3 => ⟨_, next274 61 bw (by simp) (by simp) 3 [x] false _ (kw.ks Kp.ks (by first | (simp; done) | (simp; omega)) (by first | (simp; done) | (simp; omega))), fun v3 u3 q3 s3 hv3 => ?_⟩
  obtain ⟨tt, htt⟩ : ∃ tt, tt = T.mk tk ts tn [x, y, z] := ⟨_, rfl⟩
  have hcond : tt.k = 3 ∧ tt.l.length = 3 ∧ tt.s = .empty ∧ tt.n = 0 := by rw [htt]; exact ⟨h1, rfl, h3, h4⟩
  have s1 := next_tw 3 ([x], false)
  have ed1 : rd1 tt = nextS 3 ([x], false) := by rw [htt]; rfl
  rw [← ed1] at hv3 s1
  obtain ⟨⟨hd, rfl, kd⟩, hw, w1, w2⟩ := hv3
  refine runO hC tabOk 60 ?_
  simp [go_sem]
  repeat ((first | refine condT rfl ?_ | refine condF rfl ?_ | refine skD hC rfl rfl rfl ?_); refine runO hC tabOk 60 ?_; simp [go_sem])
  refine draw hC [(0, 0), (1, 0), (2, 0), (3, 0), (4, 0), (5, 0), (6, 0), (7, 1)] [8] mix (by kernel_rfl) ?_
  refine runO hC tabOk 60 ?_
  simp [go_sem]
  repeat ((first | refine condT rfl ?_ | refine condF rfl ?_ | refine skD hC rfl rfl rfl ?_); refine runO hC tabOk 60 ?_; simp [go_sem])
  refine voD hC rfl (vo_load1 hC tabOk ((ob_odd w1).ks Kp.ks (by first | (simp; done) | (simp; omega))) rfl rfl rfl rfl) rfl rfl rfl rfl ?_
  refine runO hC tabOk 60 ?_
  simp [go_sem]
  repeat ((first | refine condT rfl ?_ | refine condF rfl ?_ | refine skD hC rfl rfl rfl ?_); refine runO hC tabOk 60 ?_; simp [go_sem])
  refine smallX (fun i => if i = 3 then 62 else 1) rfl fun m4 g4 p4 e4 => ⟨⟨[(47, .c (.v (ptr (m4.getD 3 0)))), (6, .c (.v (ptr (m4.getD 3 0)))), (1, .c (.bp 0 0)), (2, .c (.bp 1 0))], [], [(0, ⟨25, [.v (.int .i64 3), .v (.string .empty), .v (.int .i64 0), .v (.slice (some ⟨b0, off0, none⟩) 3 h.cap)], false⟩), (1, ⟨74, [.v (.string .empty), .v (.slice none 0 0), .v (.int .i64 0), .v (.slice none 0 0), .v (.string .empty), .v (.bool false), .v (.int .i64 0)], false⟩)], [], 2⟩, ⟨by simp [go_sem], by simp [go_sem, SV.val, SC.val], rfl, bxs_ok (n := 2) (Nat.le_refl _) (by simp [go_sem]), by simp [go_sem], ⟨_, rfl⟩⟩, fun i hi => by dsimp only at hi ⊢; rw [if_neg (by omega)], ?_⟩
  have kr : RdIs g4 62 (m4.getD 3 0) (rd1 tt).1.l (rd1 tt).2.2 := ⟨hd, e4.ob (i := 3) rfl, kd.to.lst⟩
  generalize m4.getD 3 0 = br at kr ⊢
  refine call hC [62] (by kernel_rfl) rfl rfl rfl rfl rfl fun m5 g5 p5 e5 => ⟨_, next274 62 br (by simp) (by simp) 0 _ _ _ (kr.ks Kp.ks (by first | (simp; done) | (simp; omega)) (by first | (simp; done) | (simp; omega))), fun v5 u5 q5 s5 hv5 => ?_⟩
  have s2 := next_rest 0 ((rd1 tt).1.l, (rd1 tt).2.2)
  change TQ (rd2 tt).1 v5 u5 ∧ RdIs u5 62 br (rd2 tt).2.1 (rd2 tt).2.2 at hv5
  change tws (rd2 tt).2.1 ≤ tws (rd1 tt).1.l at s2
  have hsl : tws (rd2 tt).2.1 ≤ 2513169434843 := by
    have := tw_l (.mk tk ts tn [x, y, z])
    rw [tw_l] at s1
    simp only [T.l_mk, tws] at this s1
    omega
  obtain ⟨⟨hu, rfl, ku⟩, kr2⟩ := hv5
  refine runO hC tabOk 60 ?_
  simp [go_sem]
  repeat ((first | refine condT rfl ?_ | refine condF rfl ?_ | refine skD hC rfl rfl rfl ?_); refine runO hC tabOk 60 ?_; simp [go_sem])
  refine call hC [62,63] (by kernel_rfl) rfl rfl rfl rfl rfl fun m6 g6 p6 e6 => ⟨_, each275 62 br (by simp) (by simp) (by simp) (by simp) 1 _ _ _ (kr2.ks Kp.ks (by first | (simp; done) | (simp; omega)) (by first | (simp; done) | (simp; omega))) hsl, fun v6 u6 q6 s6 hv6 => ?_⟩
  have s3 := each_rest 1 (rd2 tt).2
  have n3 := each_len 1 (rd2 tt).2
  change (∃ h : Hd, v6 = .slice h.a (rd3 tt).1.length h.cap ∧ LOk u6 (rd3 tt).1 h) ∧ RdIs u6 62 br (rd3 tt).2.1 (rd3 tt).2.2 at hv6
  change tws (rd3 tt).2.1 ≤ _ at s3
  change (rd3 tt).1.length ≤ _ at n3
  obtain ⟨⟨h3', rfl, k3⟩, kr3⟩ := hv6
  refine runO hC tabOk 60 ?_
  simp [go_sem]
  repeat ((first | refine condT rfl ?_ | refine condF rfl ?_ | refine skD hC rfl rfl rfl ?_); refine runO hC tabOk 60 ?_; simp [go_sem])
  refine small (fun _ => 1) rfl fun m0 gL p0 e0 => ⟨⟨(fun (q : Nat × Option Addr × Nat × G) => [(54, .c (.v (.int .i64 q.1))), (53, .c (.v (.int .i64 (rd3 tt).1.length))), (52, .c (.v (.slice h3'.a (rd3 tt).1.length h3'.cap))), (6, .c (.v (ptr br))), (1, .c (.bp 0 0)), (2, .c (.bp 1 0)), (7, .c (.bp 2 0))]) ((0, none, 0, gL)), [], (fun (q : Nat × Option Addr × Nat × G) => [(0, ⟨25, [.v (.int .i64 3), .v (.string .empty), .v (.int .i64 0), .v (.slice (some ⟨b0, off0, none⟩) 3 h.cap)], false⟩), (1, ⟨74, [.v (.string .empty), .v (.slice none 0 0), .v (.int .i64 0), .v (.slice none 0 0), .v (.string .empty), .v (.bool false), .v (.int .i64 0)], false⟩), (2, ⟨74, [.v (.string (rd2 tt).1.s), .v (.slice q.2.1 q.1 q.2.2.1), .v (.int .i64 0), .v (.slice none 0 0), .v (.string .empty), .v (.bool false), .v (.int .i64 0)], false⟩)]) ((0, none, 0, gL)), [], 3⟩, ⟨by simp [go_sem], by simp [go_sem], rfl, bxs_ok (n := 3) (Nat.le_refl _) (by simp [go_sem]), by simp [go_sem], ⟨_, rfl⟩⟩, by simp, ?_⟩
  refine loop (ι := Nat × Option Addr × Nat × G) (fun q => q.1 ≤ (rd3 tt).1.length ∧ OwnRow q.2.2.2 g.w.heap.size 99 3 1 (.slice q.2.1 q.1 q.2.2.1) q.1 (icol (rd3 tt).1 q.1) ∧ RdIs q.2.2.2 62 br (rd3 tt).2.1 (rd3 tt).2.2 ∧ Keeps [1, 61, 62, 63, 99] u6 q.2.2.2) (fun q => q.2.2.2)
    (fun x => ⟨(fun (q : Nat × Option Addr × Nat × G) => [(54, .c (.v (.int .i64 q.1))), (53, .c (.v (.int .i64 (rd3 tt).1.length))), (52, .c (.v (.slice h3'.a (rd3 tt).1.length h3'.cap))), (6, .c (.v (ptr br))), (1, .c (.bp 0 0)), (2, .c (.bp 1 0)), (7, .c (.bp 2 0))]) x, [], (fun (q : Nat × Option Addr × Nat × G) => [(0, ⟨25, [.v (.int .i64 3), .v (.string .empty), .v (.int .i64 0), .v (.slice (some ⟨b0, off0, none⟩) 3 h.cap)], false⟩), (1, ⟨74, [.v (.string .empty), .v (.slice none 0 0), .v (.int .i64 0), .v (.slice none 0 0), .v (.string .empty), .v (.bool false), .v (.int .i64 0)], false⟩), (2, ⟨74, [.v (.string (rd2 tt).1.s), .v (.slice q.2.1 q.1 q.2.2.1), .v (.int .i64 0), .v (.slice none 0 0), .v (.string .empty), .v (.bool false), .v (.int .i64 0)], false⟩)]) x, [], 3⟩) (fun q => (rd3 tt).1.length - q.1) (fun ⟨i, a, cap, g'⟩ ⟨hi, hrow, hrd, hk⟩ => ?_) ((0, none, 0, gL)) (⟨Nat.zero_le _, ⟨rfl, .inl ⟨_, rfl, rfl⟩⟩, kr3.ks Kp.ks (by first | (simp; done) | (simp; omega)) (by first | (simp; done) | (simp; omega)), Keeps.mono (Kp.ks (g := u6) (g' := gL)) (by simp)⟩)
  dsimp only at hi hrow hrd hk ⊢
  haveI : Later u6 g' := .of hk (by first | (simp; done) | (simp; omega))
  refine runO hC tabOk 60 ?_
  simp [go_sem]
  repeat ((first | refine condT rfl ?_ | refine condF rfl ?_ | refine skD hC rfl rfl rfl ?_); refine runO hC tabOk 60 ?_; simp [go_sem])
  refine sg_cond rfl (fun c1 => ?_) (fun c1 => ?_)
  · simp at c1
    obtain ⟨b2, off, hx2, ea2, hcs2, kx2⟩ := (k3.to (g' := g')).get (List.getElem?_eq_getElem c1)
    rw [ea2]
    refine runO hC tabOk 60 ?_
    simp [go_sem]
    repeat ((first | refine condT rfl ?_ | refine condF rfl ?_ | refine skD hC rfl rfl rfl ?_); refine runO hC tabOk 60 ?_; simp [go_sem])
    refine vo hC (vo_index hC tabOk rfl rfl rfl rfl rfl rfl (by omega) (by omega)) rfl rfl rfl ?_
    refine runO hC tabOk 60 ?_
    simp [go_sem]
    repeat ((first | refine condT rfl ?_ | refine condF rfl ?_ | refine skD hC rfl rfl rfl ?_); refine runO hC tabOk 60 ?_; simp [go_sem])
    refine vo hC (vo_load hC tabOk hcs2 rfl rfl rfl rfl rfl) rfl rfl rfl ?_
    refine runO hC tabOk 60 ?_
    simp [go_sem]
    repeat ((first | refine condT rfl ?_ | refine condF rfl ?_ | refine skD hC rfl rfl rfl ?_); refine runO hC tabOk 60 ?_; simp [go_sem])
    refine app hC 99 g.w.heap.size 8 tabOk rfl (.inr rfl) rfl rfl rfl rfl rfl rfl (by kernel_rfl) rfl rfl rfl fun m5 g5 p5 e5 => ?_
    refine ⟨i, _, 1, [ic (rd3 tt).1[i].n], some ⟨m5.getD 4 0, 0, none⟩, 1, hrow.ks Kp.ks (by first | (simp; done) | (simp; omega)), rfl, Cs.rd (e5.frz (i := 4) rfl rfl rfl), rfl, by simp [Value.oneCell'], by simp [maxLen]; omega, by omega, fun v g6 g7 p6 p7 hv => ?_⟩
    rw [← icol_succ _ i c1] at hv
    obtain ⟨a', cap', rfl, _⟩ := hv.cs
    refine runO hC tabOk 60 ?_
    simp [go_sem]
    repeat ((first | refine condT rfl ?_ | refine condF rfl ?_ | refine skD hC rfl rfl rfl ?_); refine runO hC tabOk 60 ?_; simp [go_sem])
    refine again (fun _ => 1) fun m8 g8 p8 e8 => ⟨(i + 1, a', cap', g8), ?_, ?_, rfl, ⟨by simp [go_sem], by simp [go_sem, ea2, wrap_inc (show i + 1 ≤ 9223372036854775807 by omega)], rfl, bxs_ok (n := 3) (Nat.le_refl _) (by simp [go_sem, ea2, wrap_inc (show i + 1 ≤ 9223372036854775807 by omega)]), by simp [go_sem], ⟨_, rfl⟩⟩, by simp [go_sem]⟩
    · refine ⟨c1, ?_, ?_, hk.then (by simp)⟩
      · dsimp only; exact hv.ks Kp.ks (by first | (simp; done) | (simp; omega))
      · dsimp only; exact hrd.ks Kp.ks (by first | (simp; done) | (simp; omega)) (by first | (simp; done) | (simp; omega))
    · dsimp only; omega
  simp at c1
  have hil : i = ((rd3 tt).1.map T.n).length := by rw [List.length_map]; omega
  rw [icol_all _ i c1] at hrow
  subst hil
  refine runO hC tabOk 60 ?_
  simp [go_sem]
  repeat ((first | refine condT rfl ?_ | refine condF rfl ?_ | refine skD hC rfl rfl rfl ?_); refine runO hC tabOk 60 ?_; simp [go_sem])
  refine relab hC 99 0 rfl rfl fun gr pr hwr hor => ?_
  obtain ⟨hg, e2', kg⟩ := OOk.of (c := ic) (l := (rd3 tt).1.map T.n) ((hrow.ks (g' := g') Kp.ks (by first | (simp; done) | (simp; omega))).give hwr hor) rfl
  obtain ⟨rfl, _, rfl⟩ := Value.slice.inj e2'
  refine runO hC tabOk 60 ?_
  simp [go_sem]
  repeat ((first | refine condT rfl ?_ | refine condF rfl ?_ | refine skD hC rfl rfl rfl ?_); refine runO hC tabOk 60 ?_; simp [go_sem])
  refine call hC [62] (by kernel_rfl) rfl rfl rfl rfl rfl fun m8 g8 p8 e8 => ⟨_, next274 62 br (by simp) (by simp) 1 _ _ _ (hrd.ks Kp.ks (by first | (simp; done) | (simp; omega)) (by first | (simp; done) | (simp; omega))), fun v8 u8 q8 s8 hv8 => ?_⟩
  have s4 := next_rest 1 (rd3 tt).2
  change TQ (rd4 tt).1 v8 u8 ∧ RdIs u8 62 br (rd4 tt).2.1 (rd4 tt).2.2 at hv8
  change tws (rd4 tt).2.1 ≤ tws (rd3 tt).2.1 at s4
  obtain ⟨⟨ho, rfl, ko⟩, kr4⟩ := hv8
  refine runO hC tabOk 60 ?_
  simp [go_sem]
  repeat ((first | refine condT rfl ?_ | refine condF rfl ?_ | refine skD hC rfl rfl rfl ?_); refine runO hC tabOk 60 ?_; simp [go_sem])
  refine call hC [62,63] (by kernel_rfl) rfl rfl rfl rfl rfl fun m9 g9 p9 e9 => ⟨_, each275 62 br (by simp) (by simp) (by simp) (by simp) 0 _ _ _ (kr4.ks Kp.ks (by first | (simp; done) | (simp; omega)) (by first | (simp; done) | (simp; omega))) (by omega), fun v9 u9 q9 s9 hv9 => ?_⟩
  have n5 := each_len 0 (rd4 tt).2
  change (∃ h : Hd, v9 = .slice h.a (rd5 tt).1.length h.cap ∧ LOk u9 (rd5 tt).1 h) ∧ RdIs u9 62 br (rd5 tt).2.1 (rd5 tt).2.2 at hv9
  change (rd5 tt).1.length ≤ _ at n5
  obtain ⟨⟨h5', rfl, k5⟩, kr5⟩ := hv9
  have kg9 := kg.to (g' := u9)
  refine runO hC tabOk 60 ?_
  simp [go_sem]
  repeat ((first | refine condT rfl ?_ | refine condF rfl ?_ | refine skD hC rfl rfl rfl ?_); refine runO hC tabOk 60 ?_; simp [go_sem])
  refine small (fun _ => 1) rfl fun m0 gL p0 e0 => ⟨⟨(fun (q : Nat × Option Addr × Nat × G) => [(73, .c (.v (.int .i64 q.1))), (72, .c (.v (.int .i64 (rd5 tt).1.length))), (71, .c (.v (.slice h5'.a (rd5 tt).1.length h5'.cap))), (6, .c (.v (ptr br))), (1, .c (.bp 0 0)), (2, .c (.bp 1 0)), (7, .c (.bp 2 0))]) ((0, none, 0, gL)), [], (fun (q : Nat × Option Addr × Nat × G) => [(0, ⟨25, [.v (.int .i64 3), .v (.string .empty), .v (.int .i64 0), .v (.slice (some ⟨b0, off0, none⟩) 3 h.cap)], false⟩), (1, ⟨74, [.v (.string .empty), .v (.slice none 0 0), .v (.int .i64 0), .v (.slice none 0 0), .v (.string .empty), .v (.bool false), .v (.int .i64 0)], false⟩), (2, ⟨74, [.v (.string (rd2 tt).1.s), .v (.slice hg.a ((rd3 tt).1.map T.n).length hg.cap), .v (.int .i64 (rd4 tt).1.n), .v (.slice q.2.1 q.1 q.2.2.1), .v (.string .empty), .v (.bool false), .v (.int .i64 0)], false⟩)]) ((0, none, 0, gL)), [], 3⟩, ⟨by simp [go_sem], by simp [go_sem, List.length_map], rfl, bxs_ok (n := 3) (Nat.le_refl _) (by simp [go_sem, List.length_map]), by simp [go_sem], ⟨_, rfl⟩⟩, by simp, ?_⟩
  refine loop (ι := Nat × Option Addr × Nat × G) (fun q => q.1 ≤ (rd5 tt).1.length ∧ OwnRow q.2.2.2 g.w.heap.size 99 9 1 (.slice q.2.1 q.1 q.2.2.1) q.1 (scol (rd5 tt).1 q.1) ∧ RdIs q.2.2.2 62 br (rd5 tt).2.1 (rd5 tt).2.2 ∧ Keeps [1, 61, 62, 63, 99] u9 q.2.2.2) (fun q => q.2.2.2)
    (fun x => ⟨(fun (q : Nat × Option Addr × Nat × G) => [(73, .c (.v (.int .i64 q.1))), (72, .c (.v (.int .i64 (rd5 tt).1.length))), (71, .c (.v (.slice h5'.a (rd5 tt).1.length h5'.cap))), (6, .c (.v (ptr br))), (1, .c (.bp 0 0)), (2, .c (.bp 1 0)), (7, .c (.bp 2 0))]) x, [], (fun (q : Nat × Option Addr × Nat × G) => [(0, ⟨25, [.v (.int .i64 3), .v (.string .empty), .v (.int .i64 0), .v (.slice (some ⟨b0, off0, none⟩) 3 h.cap)], false⟩), (1, ⟨74, [.v (.string .empty), .v (.slice none 0 0), .v (.int .i64 0), .v (.slice none 0 0), .v (.string .empty), .v (.bool false), .v (.int .i64 0)], false⟩), (2, ⟨74, [.v (.string (rd2 tt).1.s), .v (.slice hg.a ((rd3 tt).1.map T.n).length hg.cap), .v (.int .i64 (rd4 tt).1.n), .v (.slice q.2.1 q.1 q.2.2.1), .v (.string .empty), .v (.bool false), .v (.int .i64 0)], false⟩)]) x, [], 3⟩) (fun q => (rd5 tt).1.length - q.1) (fun ⟨i, a, cap, g'⟩ ⟨hi, hrow, hrd, hk⟩ => ?_) ((0, none, 0, gL)) (⟨Nat.zero_le _, ⟨rfl, .inl ⟨_, rfl, rfl⟩⟩, kr5.ks Kp.ks (by first | (simp; done) | (simp; omega)) (by first | (simp; done) | (simp; omega)), Keeps.mono (Kp.ks (g := u9) (g' := gL)) (by simp)⟩)
  dsimp only at hi hrow hrd hk ⊢
  haveI : Later u9 g' := .of hk (by first | (simp; done) | (simp; omega))
  refine runO hC tabOk 60 ?_
  simp [go_sem]
  repeat ((first | refine condT rfl ?_ | refine condF rfl ?_ | refine skD hC rfl rfl rfl ?_); refine runO hC tabOk 60 ?_; simp [go_sem])
  refine sg_cond rfl (fun c2 => ?_) (fun c2 => ?_)
  · simp at c2
    obtain ⟨b2, off, hx2, ea2, hcs2, kx2⟩ := (k5.to (g' := g')).get (List.getElem?_eq_getElem c2)
    rw [ea2]
    refine runO hC tabOk 60 ?_
    simp [go_sem]
    repeat ((first | refine condT rfl ?_ | refine condF rfl ?_ | refine skD hC rfl rfl rfl ?_); refine runO hC tabOk 60 ?_; simp [go_sem])
    refine vo hC (vo_index hC tabOk rfl rfl rfl rfl rfl rfl (by omega) (by omega)) rfl rfl rfl ?_
    refine runO hC tabOk 60 ?_
    simp [go_sem]
    repeat ((first | refine condT rfl ?_ | refine condF rfl ?_ | refine skD hC rfl rfl rfl ?_); refine runO hC tabOk 60 ?_; simp [go_sem])
    refine vo hC (vo_load hC tabOk hcs2 rfl rfl rfl rfl rfl) rfl rfl rfl ?_
    refine runO hC tabOk 60 ?_
    simp [go_sem]
    repeat ((first | refine condT rfl ?_ | refine condF rfl ?_ | refine skD hC rfl rfl rfl ?_); refine runO hC tabOk 60 ?_; simp [go_sem])
    refine app hC 99 g.w.heap.size 16 tabOk rfl (.inr rfl) rfl rfl rfl rfl rfl rfl (by kernel_rfl) rfl rfl rfl fun m5 g5 p5 e5 => ?_
    refine ⟨i, _, 1, [sc (rd5 tt).1[i].s], some ⟨m5.getD 4 0, 0, none⟩, 1, hrow.ks Kp.ks (by first | (simp; done) | (simp; omega)), rfl, Cs.rd (e5.frz (i := 4) rfl rfl rfl), rfl, by simp [Value.oneCell'], by simp [maxLen]; omega, by omega, fun v g6 g7 p6 p7 hv => ?_⟩
    rw [← scol_succ _ i c2] at hv
    obtain ⟨a', cap', rfl, _⟩ := hv.cs
    refine runO hC tabOk 60 ?_
    simp [go_sem]
    repeat ((first | refine condT rfl ?_ | refine condF rfl ?_ | refine skD hC rfl rfl rfl ?_); refine runO hC tabOk 60 ?_; simp [go_sem])
    refine again (fun _ => 1) fun m8 g8 p8 e8 => ⟨(i + 1, a', cap', g8), ?_, ?_, rfl, ⟨by simp [go_sem], by simp [go_sem, ea2, List.length_map, wrap_inc (show i + 1 ≤ 9223372036854775807 by omega)], rfl, bxs_ok (n := 3) (Nat.le_refl _) (by simp [go_sem, ea2, List.length_map, wrap_inc (show i + 1 ≤ 9223372036854775807 by omega)]), by simp [go_sem], ⟨_, rfl⟩⟩, by simp [go_sem]⟩
    · refine ⟨c2, ?_, ?_, hk.then (by simp)⟩
      · dsimp only; exact hv.ks Kp.ks (by first | (simp; done) | (simp; omega))
      · dsimp only; exact hrd.ks Kp.ks (by first | (simp; done) | (simp; omega)) (by first | (simp; done) | (simp; omega))
    · dsimp only; omega
  simp at c2
  have hil : i = ((rd5 tt).1.map T.s).length := by rw [List.length_map]; omega
  rw [scol_all _ i c2] at hrow
  subst hil
  refine runO hC tabOk 60 ?_
  simp [go_sem]
  repeat ((first | refine condT rfl ?_ | refine condF rfl ?_ | refine skD hC rfl rfl rfl ?_); refine runO hC tabOk 60 ?_; simp [go_sem])
  refine relab hC 99 0 rfl rfl fun gr pr hwr hor => ?_
  obtain ⟨ht, e2', kt⟩ := OOk.of (c := sc) (l := (rd5 tt).1.map T.s) ((hrow.ks (g' := g') Kp.ks (by first | (simp; done) | (simp; omega))).give hwr hor) rfl
  obtain ⟨rfl, _, rfl⟩ := Value.slice.inj e2'
  have hstr : ∀ s ∈ (rd5 tt).1.map T.s, s.size ≤ maxLen := by
    intro s hs
    obtain ⟨e, he, rfl⟩ := List.mem_map.1 hs
    obtain ⟨j, hj, rfl⟩ := List.getElem_of_mem he
    obtain ⟨_, _, _, _, _, ke⟩ := k5.get (List.getElem?_eq_getElem hj)
    exact ke.str
  refine runO hC tabOk 60 ?_
  simp [go_sem]
  repeat ((first | refine condT rfl ?_ | refine condF rfl ?_ | refine skD hC rfl rfl rfl ?_); refine runO hC tabOk 60 ?_; simp [go_sem])
  refine call hC [62] (by kernel_rfl) rfl rfl rfl rfl rfl fun m10 g10 p10 e10 => ⟨_, next274 62 br (by simp) (by simp) 0 _ _ _ (hrd.ks Kp.ks (by first | (simp; done) | (simp; omega)) (by first | (simp; done) | (simp; omega))), fun v10 u10 q10 s10 hv10 => ?_⟩
  change TQ (rd6 tt).1 v10 u10 ∧ RdIs u10 62 br (rd6 tt).2.1 (rd6 tt).2.2 at hv10
  obtain ⟨⟨hs6, rfl, k6⟩, kr6⟩ := hv10
  refine runO hC tabOk 60 ?_
  simp [go_sem]
  repeat ((first | refine condT rfl ?_ | refine condF rfl ?_ | refine skD hC rfl rfl rfl ?_); refine runO hC tabOk 60 ?_; simp [go_sem])
  refine call hC [62] (by kernel_rfl) rfl rfl rfl rfl rfl fun m11 g11 p11 e11 => ⟨_, flag276 62 br (by simp) (by simp) _ _ _ (kr6.ks Kp.ks (by first | (simp; done) | (simp; omega)) (by first | (simp; done) | (simp; omega))), fun v11 u11 q11 s11 hv11 => ?_⟩
  change v11 = .bool (rd7 tt).1 ∧ RdIs u11 62 br (rd7 tt).2.1 (rd7 tt).2.2 at hv11
  obtain ⟨rfl, kr7⟩ := hv11
  refine runO hC tabOk 60 ?_
  simp [go_sem]
  repeat ((first | refine condT rfl ?_ | refine condF rfl ?_ | refine skD hC rfl rfl rfl ?_); refine runO hC tabOk 60 ?_; simp [go_sem])
  refine call hC [62] (by kernel_rfl) rfl rfl rfl rfl rfl fun m12 g12 p12 e12 => ⟨_, next274 62 br (by simp) (by simp) 1 _ _ _ (kr7.ks Kp.ks (by first | (simp; done) | (simp; omega)) (by first | (simp; done) | (simp; omega))), fun v12 u12 q12 s12 hv12 => ?_⟩
  change TQ (rd8 tt).1 v12 u12 ∧ RdIs u12 62 br (rd8 tt).2.1 (rd8 tt).2.2 at hv12
  obtain ⟨⟨hs8, rfl, k8⟩, hh8, x1, x2⟩ := hv12
  have hfail : (rd8 tt).2.2 = true ∨ 0 < (rd8 tt).2.1.length ∨ auOk (rdA tt) = false → readM tt = (Au0, 50) := by
    intro q
    unfold readM
    rw [if_pos hcond, if_pos q]
  have fail2 : ∀ (v : Value) (g' : G), v = .tuple #[auv Au0 ⟨⟨none, 0⟩, ⟨none, 0⟩⟩, .int .i64 50] → readM tt = (Au0, 50) → AE (readM (.mk tk ts tn [x, y, z])) v g' := by
    intro v g' e1 e2
    rw [htt] at e2
    exact fail v g' e1 e2
  refine runO hC tabOk 60 ?_
  simp [go_sem]
  repeat ((first | refine condT rfl ?_ | refine condF rfl ?_ | refine skD hC rfl rfl rfl ?_); refine runO hC tabOk 60 ?_; simp [go_sem])
  refine vo hC (vo_load1 hC tabOk ((ob_odd x1).ks Kp.ks (by first | (simp; done) | (simp; omega))) rfl rfl rfl rfl) rfl rfl rfl ?_
  cases hod : (rd8 tt).2.2 with
  | true =>
    refine runO hC tabOk 60 ?_
    simp [go_sem]
    repeat ((first | refine condT rfl ?_ | refine condF rfl ?_ | refine skD hC rfl rfl rfl ?_); refine runO hC tabOk 60 ?_; simp [go_sem])
    refine ret hC tabOk (fun _ => 1) rfl rfl fun m gf hl ex => ?_
    exact fail2 _ _ rfl (hfail (.inl hod))
  | false =>
  refine runO hC tabOk 60 ?_
  simp [go_sem]
  repeat ((first | refine condT rfl ?_ | refine condF rfl ?_ | refine skD hC rfl rfl rfl ?_); refine runO hC tabOk 60 ?_; simp [go_sem])
  refine vo hC (vo_load1 hC tabOk ((ob_l x1).ks Kp.ks (by first | (simp; done) | (simp; omega))) rfl rfl rfl rfl) rfl rfl rfl ?_
  cases hl8 : (rd8 tt).2.1 with
  | cons e8 r8 =>
    refine runO hC tabOk 60 ?_
    simp [go_sem, hl8]
    repeat ((first | refine condT rfl ?_ | refine condF rfl ?_ | refine skD hC rfl rfl rfl ?_); refine runO hC tabOk 60 ?_; simp [go_sem, hl8])
    try (refine runO hC tabOk 60 ?_; simp [go_sem, hl8]; repeat ((first | refine condT rfl ?_ | refine condF rfl ?_ | refine skD hC rfl rfl rfl ?_); refine runO hC tabOk 60 ?_; simp [go_sem, hl8]))
    refine ret hC tabOk (fun _ => 1) rfl rfl fun m gf hl ex => ?_
    exact fail2 _ _ rfl (hfail (.inr (.inl (by rw [hl8]; simp))))
  | nil =>
  refine runO hC tabOk 60 ?_
  simp [go_sem, hl8]
  repeat ((first | refine condT rfl ?_ | refine condF rfl ?_ | refine skD hC rfl rfl rfl ?_); refine runO hC tabOk 60 ?_; simp [go_sem, hl8])
  try (refine runO hC tabOk 60 ?_; simp [go_sem, hl8]; repeat ((first | refine condT rfl ?_ | refine condF rfl ?_ | refine skD hC rfl rfl rfl ?_); refine runO hC tabOk 60 ?_; simp [go_sem, hl8]))
  have ka : AuOk u12 (rdA tt) ⟨hg, ht⟩ := ⟨kg9.to, ⟨kt.to, hstr⟩, ku.str, k6.str⟩
  refine call hC [] (by kernel_rfl) rfl rfl rfl rfl rfl fun m13 g13 p13 e13 => ⟨_, avalid257' (rdA tt) ⟨hg, ht⟩ _ _ (by simp [rdA]) (by simp [rdA]) _ ka.to, fun v13 u13 q13 s13 hv13 => ?_⟩
  subst hv13
  cases hau : auOk (rdA tt) with
  | false =>
    refine runO hC tabOk 60 ?_
    simp [go_sem]
    repeat ((first | refine condT rfl ?_ | refine condF rfl ?_ | refine skD hC rfl rfl rfl ?_); refine runO hC tabOk 60 ?_; simp [go_sem])
    refine ret hC tabOk (fun _ => 1) rfl rfl fun m gf hl ex => ?_
    exact fail2 _ _ rfl (hfail (.inr (.inr hau)))
  | true =>
  refine runO hC tabOk 60 ?_
  simp [go_sem]
  repeat ((first | refine condT rfl ?_ | refine condF rfl ?_ | refine skD hC rfl rfl rfl ?_); refine runO hC tabOk 60 ?_; simp [go_sem])
  refine ret hC tabOk (fun _ => 1) rfl rfl fun m gf hl ex => ?_
  have : readM tt = (rdA tt, 0) := by
    unfold readM
    rw [if_pos hcond, if_neg (by rw [hod, hau, hl8]; simp)]
  rw [← htt, this]
  refine ⟨⟨hg, ht⟩, ?_, ka.to⟩
  simp [retv, SV.val, SC.val, vals, auv, auc, rdA]
end Go.Proofs.YtobhfopgoidniaaGreat

/- Tickets: messages, boxes, sums. -/
namespace Go.Proofs.YtobhfopgoidniaaGreat
open Go Go.Eng

/-- A list, and an error. -/
def LE (r : List T × Int) (v : Value) (g : G) : Prop := ∃ h : Hd, v = .tuple #[.slice h.a r.1.length h.cap, .int .i64 r.2] ∧ LOk g r.1 h

theorem nil_ok (g : G) : LOk g [] ⟨none, 0⟩ := ⟨.nil, Nat.le_refl _, Nat.zero_le _⟩

/-- What a message of a name has. -/
def takeS (t : T) (nm : ByteArray) (n : Int) : List T × Int :=
  if t.k = 3 ∧ t.s = .empty ∧ t.n = 0 ∧ 0 ≤ n ∧ (t.l.length : Int) = n + 1 ∧ t.l.head? = some (ofT nm) then (t.l.tail, 0) else ([], 50)

set_option maxHeartbeats 1000000 in
theorem take51 (t : T) (nm : ByteArray) (n : Int) (h : Hd) (g : G) (k : TOk g t h) (hnm : nm.size ≤ maxLen) : Ok Tryz.prog 51 [tv t h, .string nm, .int .i64 n] g [] (fun v g' => LE (takeS t nm n) v g') := by
  obtain ⟨tk, ts, tn, tl⟩ := t
  have hlen : tl.length ≤ 9223372036854775807 := Nat.le_trans k.len k.cap
  have w1 : IntKind.i64.wrap ((tl.length : Int) - 1) = (tl.length : Int) - 1 := by rw [IntKind.wrap_i64]; omega
  have fail : ∀ (v : Value) (g' : G), v = .tuple #[.slice none 0 0, .int .i64 50] → takeS (.mk tk ts tn tl) nm n = ([], 50) → LE (takeS (.mk tk ts tn tl) nm n) v g' := by
    intro v g' e1 e2
    rw [e2]
    exact ⟨⟨none, 0⟩, e1, nil_ok _⟩
  refine fbegin Tryz.func51 rfl Tryz.ntmps51 (Nat.le_of_ble_eq_true rfl) fun C hw hC => ?_
  refine runO hC tabOk 60 ?_
  simp [go_sem]
  repeat ((first | refine condT rfl ?_ | refine condF rfl ?_ | refine skD hC rfl rfl rfl ?_); refine runO hC tabOk 60 ?_; simp [go_sem])
  refine draw hC [(0, 0), (1, 0), (2, 0), (3, 0), (4, 0), (5, 0), (6, 0), (7, 0), (8, 0), (9, 0), (10, 0), (11, 0), (12, 0), (13, 0), (14, 0), (15, 0), (16, 0), (17, 0), (18, 0), (19, 0), (20, 0), (21, 0), (22, 0), (23, 0), (24, 0), (25, 0), (26, 0), (27, 0), (28, 0), (29, 0), (30, 0), (31, 1), (32, 1), (33, 0), (34, 0)] [] mix (by kernel_rfl) ?_
  by_cases h1 : tk = 3
  · by_cases h2 : ts = .empty
    · by_cases h3 : tn = 0
      · by_cases h4 : n < 0
        · refine runO hC tabOk 60 ?_
          simp [go_sem, h1, h2, h3, h4]
          repeat ((first | refine condT rfl ?_ | refine condF rfl ?_ | refine skD hC rfl rfl rfl ?_); refine runO hC tabOk 60 ?_; simp [go_sem, h1, h2, h3, h4])
          try (refine runO hC tabOk 60 ?_; simp [go_sem, h1, h2, h3, h4]; repeat ((first | refine condT rfl ?_ | refine condF rfl ?_ | refine skD hC rfl rfl rfl ?_); refine runO hC tabOk 60 ?_; simp [go_sem, h1, h2, h3, h4]))
          refine ret hC tabOk (fun _ => 1) rfl rfl fun m gf hl ex => ?_
          exact fail _ _ rfl (by unfold takeS; rw [if_neg (by intro q; omega)])
        · by_cases h5 : (tl.length : Int) - 1 = n
          · obtain ⟨x, r, rfl⟩ : ∃ x r, tl = x :: r := by
              cases tl with
              | nil => simp at h5; omega
              | cons x r => exact ⟨x, r, rfl⟩
            obtain ⟨b, off, hx, ea, hcs, kx⟩ := k.lst.get (i := 0) (t := x) rfl
            have ea' : h.a = some ⟨b, off, none⟩ := ea
            have h5' : n = (r.length : Int) := by simp at h5; omega
            have w2 : IntKind.i64.wrap (r.length : Int) = (r.length : Int) := wrap_nat (by simp at hlen; omega)
            subst h5'
            refine runO hC tabOk 60 ?_
            simp [go_sem, h1, h2, h3, h4, w2, ea']
            repeat ((first | refine condT rfl ?_ | refine condF rfl ?_ | refine skD hC rfl rfl rfl ?_); refine runO hC tabOk 60 ?_; simp [go_sem, h1, h2, h3, h4, w2, ea'])
            try (refine runO hC tabOk 60 ?_; simp [go_sem, h1, h2, h3, h4, w2, ea']; repeat ((first | refine condT rfl ?_ | refine condF rfl ?_ | refine skD hC rfl rfl rfl ?_); refine runO hC tabOk 60 ?_; simp [go_sem, h1, h2, h3, h4, w2, ea']))
            refine voD hC rfl (vo_index hC tabOk rfl rfl rfl rfl rfl rfl (by omega) (by simp)) rfl rfl rfl rfl ?_
            refine runO hC tabOk 60 ?_
            simp [go_sem]
            repeat ((first | refine condT rfl ?_ | refine condF rfl ?_ | refine skD hC rfl rfl rfl ?_); refine runO hC tabOk 60 ?_; simp [go_sem])
            refine voD hC rfl (vo_load hC tabOk hcs.to rfl rfl rfl rfl rfl) rfl rfl rfl rfl ?_
            refine runO hC tabOk 60 ?_
            simp [go_sem]
            repeat ((first | refine condT rfl ?_ | refine condF rfl ?_ | refine skD hC rfl rfl rfl ?_); refine runO hC tabOk 60 ?_; simp [go_sem])
            refine callD hC [] (by kernel_rfl) rfl rfl rfl rfl rfl rfl rfl rfl fun m2 g2 p2 e2 => ⟨_, of118 nm _, fun v2 u2 q2 s2 hv2 => ?_⟩
            subst hv2
            refine runO hC tabOk 60 ?_
            simp [go_sem]
            repeat ((first | refine condT rfl ?_ | refine condF rfl ?_ | refine skD hC rfl rfl rfl ?_); refine runO hC tabOk 60 ?_; simp [go_sem])
            refine callD hC [] (by kernel_rfl) rfl rfl rfl rfl rfl rfl rfl rfl fun m3 g3 p3 e3 => ⟨_, same44 x (ofT nm) hx ⟨none, 0⟩ _ kx.to (tok_leaf _ _ _ _ hnm), fun v3 u3 q3 s3 hv3 => ?_⟩
            subst hv3
            by_cases h6 : x = ofT nm
            · refine runO hC tabOk 60 ?_
              simp [go_sem, h6]
              repeat ((first | refine condT rfl ?_ | refine condF rfl ?_ | refine skD hC rfl rfl rfl ?_); refine runO hC tabOk 60 ?_; simp [go_sem, h6])
              try (refine runO hC tabOk 60 ?_; simp [go_sem, h6]; repeat ((first | refine condT rfl ?_ | refine condF rfl ?_ | refine skD hC rfl rfl rfl ?_); refine runO hC tabOk 60 ?_; simp [go_sem, h6]))
              refine vo hC (vo_slfrom hC tabOk rfl rfl rfl rfl rfl rfl (by omega) (by simp; omega)) rfl rfl rfl ?_
              refine runO hC tabOk 60 ?_
              simp [go_sem]
              repeat ((first | refine condT rfl ?_ | refine condF rfl ?_ | refine skD hC rfl rfl rfl ?_); refine runO hC tabOk 60 ?_; simp [go_sem])
              refine ret hC tabOk (fun _ => 1) rfl rfl fun m gf hl ex => ?_
              have : takeS (.mk tk ts tn (x :: r)) nm r.length = (r, 0) := by
                unfold takeS
                rw [if_pos ⟨h1, h2, h3, by omega, by simp, by simp [h6]⟩]; rfl
              rw [this]
              have kt := (k.lst : LOk g (x :: r) h).tl.to (g' := gf)
              refine ⟨_, ?_, kt⟩
              rw [ea']
              simp [retv, SV.val, SC.val, vals, add_plain]
            · refine runO hC tabOk 60 ?_
              simp [go_sem, h6]
              repeat ((first | refine condT rfl ?_ | refine condF rfl ?_ | refine skD hC rfl rfl rfl ?_); refine runO hC tabOk 60 ?_; simp [go_sem, h6])
              try (refine runO hC tabOk 60 ?_; simp [go_sem, h6]; repeat ((first | refine condT rfl ?_ | refine condF rfl ?_ | refine skD hC rfl rfl rfl ?_); refine runO hC tabOk 60 ?_; simp [go_sem, h6]))
              refine ret hC tabOk (fun _ => 1) rfl rfl fun m gf hl ex => ?_
              exact fail _ _ rfl (by unfold takeS; rw [if_neg (by intro q; exact h6 (by simpa using q.2.2.2.2.2))])
          · refine runO hC tabOk 60 ?_
            simp [go_sem, h1, h2, h3, h4, h5, w1]
            repeat ((first | refine condT rfl ?_ | refine condF rfl ?_ | refine skD hC rfl rfl rfl ?_); refine runO hC tabOk 60 ?_; simp [go_sem, h1, h2, h3, h4, h5, w1])
            try (refine runO hC tabOk 60 ?_; simp [go_sem, h1, h2, h3, h4, h5, w1]; repeat ((first | refine condT rfl ?_ | refine condF rfl ?_ | refine skD hC rfl rfl rfl ?_); refine runO hC tabOk 60 ?_; simp [go_sem, h1, h2, h3, h4, h5, w1]))
            refine ret hC tabOk (fun _ => 1) rfl rfl fun m gf hl ex => ?_
            exact fail _ _ rfl (by unfold takeS; rw [if_neg (by intro q; simp only [T.l_mk] at q; omega)])
      · refine runO hC tabOk 60 ?_
        simp [go_sem, h1, h2, h3]
        repeat ((first | refine condT rfl ?_ | refine condF rfl ?_ | refine skD hC rfl rfl rfl ?_); refine runO hC tabOk 60 ?_; simp [go_sem, h1, h2, h3])
        try (refine runO hC tabOk 60 ?_; simp [go_sem, h1, h2, h3]; repeat ((first | refine condT rfl ?_ | refine condF rfl ?_ | refine skD hC rfl rfl rfl ?_); refine runO hC tabOk 60 ?_; simp [go_sem, h1, h2, h3]))
        refine ret hC tabOk (fun _ => 1) rfl rfl fun m gf hl ex => ?_
        exact fail _ _ rfl (by unfold takeS; rw [if_neg (by intro q; exact h3 q.2.2.1)])
    · refine runO hC tabOk 60 ?_
      simp [go_sem, h1, h2]
      repeat ((first | refine condT rfl ?_ | refine condF rfl ?_ | refine skD hC rfl rfl rfl ?_); refine runO hC tabOk 60 ?_; simp [go_sem, h1, h2])
      try (refine runO hC tabOk 60 ?_; simp [go_sem, h1, h2]; repeat ((first | refine condT rfl ?_ | refine condF rfl ?_ | refine skD hC rfl rfl rfl ?_); refine runO hC tabOk 60 ?_; simp [go_sem, h1, h2]))
      refine ret hC tabOk (fun _ => 1) rfl rfl fun m gf hl ex => ?_
      exact fail _ _ rfl (by unfold takeS; rw [if_neg (by intro q; exact h2 q.2.1)])
  · refine runO hC tabOk 60 ?_
    simp [go_sem, h1]
    repeat ((first | refine condT rfl ?_ | refine condF rfl ?_ | refine skD hC rfl rfl rfl ?_); refine runO hC tabOk 60 ?_; simp [go_sem, h1])
    try (refine runO hC tabOk 60 ?_; simp [go_sem, h1]; repeat ((first | refine condT rfl ?_ | refine condF rfl ?_ | refine skD hC rfl rfl rfl ?_); refine runO hC tabOk 60 ?_; simp [go_sem, h1]))
    refine ret hC tabOk (fun _ => 1) rfl rfl fun m gf hl ex => ?_
    exact fail _ _ rfl (by unfold takeS; rw [if_neg (by intro q; exact h1 q.1)])

theorem two_or (l : List T) : (∃ a b, l = [a, b]) ∨ ¬ l.length = 2 := by
  match l with
  | [] => exact .inr (by simp)
  | [a] => exact .inr (by simp)
  | [a, b] => exact .inl ⟨a, b, rfl⟩
  | a :: b :: c :: r => exact .inr (by simp)

/-- What is sealed with a key, for a use. -/
def boxS (t key : T) (use : Int) : T × Int := match t.l with
  | [a, b] => if t.k = 4 then (if key.k = 2 ∧ t.s = .empty ∧ t.n = use ∧ a = key then (b, 0) else (T0, 20)) else (T0, 50)
  | _ => (T0, 50)

theorem boxS_ne {t key : T} {use : Int} (h : ¬ t.l.length = 2) : boxS t key use = (T0, 50) := by
  unfold boxS
  split
  · rename_i e; rw [e] at h; simp at h
  · rfl

set_option maxHeartbeats 1000000 in
theorem box131 (t key : T) (use : Int) (h hk : Hd) (g : G) (k : TOk g t h) (kk : TOk g key hk) : Ok Tryz.prog 131 [tv t h, tv key hk, .int .i64 use] g [] (fun v g' => TE (boxS t key use) v g') := by
  obtain ⟨tk, ts, tn, tl⟩ := t
  have fail : ∀ (e : Int) (v : Value) (g' : G), v = .tuple #[tv T0 ⟨none, 0⟩, .int .i64 e] → boxS (.mk tk ts tn tl) key use = (T0, e) → TE (boxS (.mk tk ts tn tl) key use) v g' := by
    intro e v g' e1 e2
    rw [e2]
    exact ⟨⟨none, 0⟩, e1, T0_ok _⟩
  refine fbegin Tryz.func131 rfl Tryz.ntmps131 (Nat.le_of_ble_eq_true rfl) fun C hw hC => ?_
  refine runO hC tabOk 60 ?_
  simp [go_sem]
  repeat ((first | refine condT rfl ?_ | refine condF rfl ?_ | refine skD hC rfl rfl rfl ?_); refine runO hC tabOk 60 ?_; simp [go_sem])
  by_cases h1 : tk = 4
  · rcases two_or tl with ⟨x, y, rfl⟩ | hnl
    · obtain ⟨b, off, hx, ea, hcs, kx⟩ := k.lst.get (i := 0) (t := x) rfl
      obtain ⟨b2, off2, hy, ea2, hcs2, ky⟩ := k.lst.get (i := 1) (t := y) rfl
      have ea' : h.a = some ⟨b, off, none⟩ := ea
      rw [ea'] at ea2
      obtain ⟨rfl, rfl, _⟩ := Addr.mk.inj (Option.some.inj ea2)
      refine runO hC tabOk 60 ?_
      simp [go_sem, h1, ea']
      repeat ((first | refine condT rfl ?_ | refine condF rfl ?_ | refine skD hC rfl rfl rfl ?_); refine runO hC tabOk 60 ?_; simp [go_sem, h1, ea'])
      try (refine runO hC tabOk 60 ?_; simp [go_sem, h1, ea']; repeat ((first | refine condT rfl ?_ | refine condF rfl ?_ | refine skD hC rfl rfl rfl ?_); refine runO hC tabOk 60 ?_; simp [go_sem, h1, ea']))
      refine draw hC [(0, 0), (1, 0), (2, 0), (3, 0), (4, 0), (5, 0), (6, 0), (7, 0), (8, 0), (9, 0), (10, 0), (11, 0), (12, 0), (13, 0), (14, 0), (15, 0), (16, 0), (17, 0), (18, 0), (19, 0), (20, 1), (21, 0), (22, 0), (23, 0)] [] mix (by kernel_rfl) ?_
      by_cases h2 : key.k = 2
      · have d2 : decide (key.k = 2) = true := by simp [h2]
        by_cases h3 : ts = .empty
        · by_cases h4 : tn = use
          · refine runO hC tabOk 60 ?_
            simp [go_sem, d2, h3, h4]
            repeat ((first | refine condT rfl ?_ | refine condF rfl ?_ | refine skD hC rfl rfl rfl ?_); refine runO hC tabOk 60 ?_; simp [go_sem, d2, h3, h4])
            try (refine runO hC tabOk 60 ?_; simp [go_sem, d2, h3, h4]; repeat ((first | refine condT rfl ?_ | refine condF rfl ?_ | refine skD hC rfl rfl rfl ?_); refine runO hC tabOk 60 ?_; simp [go_sem, d2, h3, h4]))
            refine voD hC rfl (vo_index hC tabOk rfl rfl rfl rfl rfl rfl (by omega) (by omega)) rfl rfl rfl rfl ?_
            refine runO hC tabOk 60 ?_
            simp [go_sem]
            repeat ((first | refine condT rfl ?_ | refine condF rfl ?_ | refine skD hC rfl rfl rfl ?_); refine runO hC tabOk 60 ?_; simp [go_sem])
            refine voD hC rfl (vo_load hC tabOk hcs.to rfl rfl rfl rfl rfl) rfl rfl rfl rfl ?_
            refine runO hC tabOk 60 ?_
            simp [go_sem]
            repeat ((first | refine condT rfl ?_ | refine condF rfl ?_ | refine skD hC rfl rfl rfl ?_); refine runO hC tabOk 60 ?_; simp [go_sem])
            refine callD hC [] (by kernel_rfl) rfl rfl rfl rfl rfl rfl rfl rfl fun m3 g3 p3 e3 => ⟨_, same44 x key hx hk _ kx.to kk.to, fun v3 u3 q3 s3 hv3 => ?_⟩
            subst hv3
            by_cases h6 : x = key
            · refine runO hC tabOk 60 ?_
              simp [go_sem, h6]
              repeat ((first | refine condT rfl ?_ | refine condF rfl ?_ | refine skD hC rfl rfl rfl ?_); refine runO hC tabOk 60 ?_; simp [go_sem, h6])
              try (refine runO hC tabOk 60 ?_; simp [go_sem, h6]; repeat ((first | refine condT rfl ?_ | refine condF rfl ?_ | refine skD hC rfl rfl rfl ?_); refine runO hC tabOk 60 ?_; simp [go_sem, h6]))
              refine vo hC (vo_index hC tabOk rfl rfl rfl rfl rfl rfl (by omega) (by omega)) rfl rfl rfl ?_
              refine runO hC tabOk 60 ?_
              simp [go_sem]
              repeat ((first | refine condT rfl ?_ | refine condF rfl ?_ | refine skD hC rfl rfl rfl ?_); refine runO hC tabOk 60 ?_; simp [go_sem])
              refine vo hC (vo_load hC tabOk hcs2.to rfl rfl rfl rfl rfl) rfl rfl rfl ?_
              refine runO hC tabOk 60 ?_
              simp [go_sem]
              repeat ((first | refine condT rfl ?_ | refine condF rfl ?_ | refine skD hC rfl rfl rfl ?_); refine runO hC tabOk 60 ?_; simp [go_sem])
              refine ret hC tabOk (fun _ => 1) rfl rfl fun m gf hl ex => ?_
              have : boxS (.mk tk ts tn [x, y]) key use = (y, 0) := by simp [boxS, h1, h2, h3, h4, h6]
              rw [this]
              exact ⟨hy, rfl, ky.to⟩
            · refine runO hC tabOk 60 ?_
              simp [go_sem, h6]
              repeat ((first | refine condT rfl ?_ | refine condF rfl ?_ | refine skD hC rfl rfl rfl ?_); refine runO hC tabOk 60 ?_; simp [go_sem, h6])
              try (refine runO hC tabOk 60 ?_; simp [go_sem, h6]; repeat ((first | refine condT rfl ?_ | refine condF rfl ?_ | refine skD hC rfl rfl rfl ?_); refine runO hC tabOk 60 ?_; simp [go_sem, h6]))
              refine ret hC tabOk (fun _ => 1) rfl rfl fun m gf hl ex => ?_
              exact fail 20 _ _ rfl (by simp [boxS, h1, h6])
          · refine runO hC tabOk 60 ?_
            simp [go_sem, d2, h3, h4]
            repeat ((first | refine condT rfl ?_ | refine condF rfl ?_ | refine skD hC rfl rfl rfl ?_); refine runO hC tabOk 60 ?_; simp [go_sem, d2, h3, h4])
            try (refine runO hC tabOk 60 ?_; simp [go_sem, d2, h3, h4]; repeat ((first | refine condT rfl ?_ | refine condF rfl ?_ | refine skD hC rfl rfl rfl ?_); refine runO hC tabOk 60 ?_; simp [go_sem, d2, h3, h4]))
            refine ret hC tabOk (fun _ => 1) rfl rfl fun m gf hl ex => ?_
            exact fail 20 _ _ rfl (by simp [boxS, h1, h4])
        · refine runO hC tabOk 60 ?_
          simp [go_sem, d2, h3]
          repeat ((first | refine condT rfl ?_ | refine condF rfl ?_ | refine skD hC rfl rfl rfl ?_); refine runO hC tabOk 60 ?_; simp [go_sem, d2, h3])
          try (refine runO hC tabOk 60 ?_; simp [go_sem, d2, h3]; repeat ((first | refine condT rfl ?_ | refine condF rfl ?_ | refine skD hC rfl rfl rfl ?_); refine runO hC tabOk 60 ?_; simp [go_sem, d2, h3]))
          refine ret hC tabOk (fun _ => 1) rfl rfl fun m gf hl ex => ?_
          exact fail 20 _ _ rfl (by simp [boxS, h1, h3])
      · refine runO hC tabOk 60 ?_
        simp [go_sem, h2]
        repeat ((first | refine condT rfl ?_ | refine condF rfl ?_ | refine skD hC rfl rfl rfl ?_); refine runO hC tabOk 60 ?_; simp [go_sem, h2])
        try (refine runO hC tabOk 60 ?_; simp [go_sem, h2]; repeat ((first | refine condT rfl ?_ | refine condF rfl ?_ | refine skD hC rfl rfl rfl ?_); refine runO hC tabOk 60 ?_; simp [go_sem, h2]))
        refine ret hC tabOk (fun _ => 1) rfl rfl fun m gf hl ex => ?_
        exact fail 20 _ _ rfl (by simp [boxS, h1, h2])
    · have hl' : ¬ (tl.length : Int) = 2 := by omega
      refine runO hC tabOk 60 ?_
      simp [go_sem, h1, hl']
      repeat ((first | refine condT rfl ?_ | refine condF rfl ?_ | refine skD hC rfl rfl rfl ?_); refine runO hC tabOk 60 ?_; simp [go_sem, h1, hl'])
      try (refine runO hC tabOk 60 ?_; simp [go_sem, h1, hl']; repeat ((first | refine condT rfl ?_ | refine condF rfl ?_ | refine skD hC rfl rfl rfl ?_); refine runO hC tabOk 60 ?_; simp [go_sem, h1, hl']))
      refine ret hC tabOk (fun _ => 1) rfl rfl fun m gf hl ex => ?_
      exact fail 50 _ _ rfl (boxS_ne hnl)
  · refine runO hC tabOk 60 ?_
    simp [go_sem, h1]
    repeat ((first | refine condT rfl ?_ | refine condF rfl ?_ | refine skD hC rfl rfl rfl ?_); refine runO hC tabOk 60 ?_; simp [go_sem, h1])
    try (refine runO hC tabOk 60 ?_; simp [go_sem, h1]; repeat ((first | refine condT rfl ?_ | refine condF rfl ?_ | refine skD hC rfl rfl rfl ?_); refine runO hC tabOk 60 ?_; simp [go_sem, h1]))
    refine ret hC tabOk (fun _ => 1) rfl rfl fun m gf hl ex => ?_
    exact fail 50 _ _ rfl (by unfold boxS; split <;> simp [h1])

/-- Is a term another one's sum? -/
def summedS (t key : T) (use : Int) (of : T) : Bool := decide (key.k = 2) && decide (t = sumT key use of)

theorem summed153 (t key of : T) (use : Int) (h hk ho : Hd) (g : G) (kt : TOk g t h) (kk : TOk g key hk) (ko : TOk g of ho) : Ok Tryz.prog 153 [tv t h, tv key hk, .int .i64 use, tv of ho] g [] (fun v _ => v = .bool (summedS t key use of)) := by
  refine fbegin Tryz.func153 rfl Tryz.ntmps153 (Nat.le_of_ble_eq_true rfl) fun C hw hC => ?_
  refine runO hC tabOk 60 ?_
  simp [go_sem]
  repeat ((first | refine condT rfl ?_ | refine condF rfl ?_ | refine skD hC rfl rfl rfl ?_); refine runO hC tabOk 60 ?_; simp [go_sem])
  refine draw hC [(0, 0), (1, 0), (2, 0), (3, 0), (4, 0), (5, 0), (6, 0), (7, 0), (8, 1), (9, 1), (10, 0)] [11] mix (by kernel_rfl) ?_
  by_cases h1 : key.k = 2
  · have d1 : decide (key.k = 2) = true := by simp [h1]
    refine runO hC tabOk 60 ?_
    simp [go_sem, d1]
    repeat ((first | refine condT rfl ?_ | refine condF rfl ?_ | refine skD hC rfl rfl rfl ?_); refine runO hC tabOk 60 ?_; simp [go_sem, d1])
    try (refine runO hC tabOk 60 ?_; simp [go_sem, d1]; repeat ((first | refine condT rfl ?_ | refine condF rfl ?_ | refine skD hC rfl rfl rfl ?_); refine runO hC tabOk 60 ?_; simp [go_sem, d1]))
    refine callD hC [] (by kernel_rfl) rfl rfl rfl rfl rfl rfl rfl rfl fun m1 g1 p1 e1 => ⟨_, sum119 key of hk ho use _ kk.to ko.to, fun v1 u1 q1 s1 hv1 => ?_⟩
    obtain ⟨h2, rfl, k2⟩ := hv1
    refine runO hC tabOk 60 ?_
    simp [go_sem]
    repeat ((first | refine condT rfl ?_ | refine condF rfl ?_ | refine skD hC rfl rfl rfl ?_); refine runO hC tabOk 60 ?_; simp [go_sem])
    refine callD hC [] (by kernel_rfl) rfl rfl rfl rfl rfl rfl rfl rfl fun m2 g2 p2 e2 => ⟨_, same44 t (sumT key use of) h h2 _ kt.to k2.to, fun v2 u2 q2 s2 hv2 => ?_⟩
    subst hv2
    refine runO hC tabOk 60 ?_
    simp [go_sem]
    repeat ((first | refine condT rfl ?_ | refine condF rfl ?_ | refine skD hC rfl rfl rfl ?_); refine runO hC tabOk 60 ?_; simp [go_sem])
    refine ret hC tabOk (fun _ => 1) rfl rfl fun m gf hl ex => ?_
    simp [retv, SV.val, SC.val, vals, summedS, h1]
  · refine runO hC tabOk 60 ?_
    simp [go_sem, h1]
    repeat ((first | refine condT rfl ?_ | refine condF rfl ?_ | refine skD hC rfl rfl rfl ?_); refine runO hC tabOk 60 ?_; simp [go_sem, h1])
    try (refine runO hC tabOk 60 ?_; simp [go_sem, h1]; repeat ((first | refine condT rfl ?_ | refine condF rfl ?_ | refine skD hC rfl rfl rfl ?_); refine runO hC tabOk 60 ?_; simp [go_sem, h1]))
    refine ret hC tabOk (fun _ => 1) rfl rfl fun m gf hl ex => ?_
    simp [retv, SV.val, SC.val, vals, summedS, h1]
end Go.Proofs.YtobhfopgoidniaaGreat
