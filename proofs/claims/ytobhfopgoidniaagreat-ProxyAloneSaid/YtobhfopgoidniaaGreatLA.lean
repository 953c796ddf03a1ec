/- A service asks for a user: the document's example. For which user a service asks is what the document says. -/
import Derived.Test.YtobhfopgoidniaaGreatKC
import Derived.Test.YtobhfopgoidniaaGreatJB
set_option linter.all false
set_option linter.unusedVariables false
set_option linter.unusedSimpArgs false

/- A service asks for a user: the document's example. -/
namespace Go.Proofs.YtobhfopgoidniaaGreat
open Go Go.Eng

theorem padd_valid (ps : List Pr) (p : Pr) (h : ∀ q ∈ ps, validP q = true) : ∀ q ∈ (padd ps p).1, validP q = true := by
  unfold padd
  split
  · rename_i hp
    split
    · exact h
    · split
      · exact h
      · intro q hq
        rcases List.mem_append.1 hq with hq | hq
        · exact h q hq
        · rw [List.mem_singleton.1 hq]; exact hp
  · exact h

theorem addAll_valid (l : List Pr) : ∀ q ∈ addAll l, validP q = true := by
  have key : ∀ (l acc : List Pr), (∀ q ∈ acc, validP q = true) → ∀ q ∈ l.foldl (fun ps p => (padd ps p).1) acc, validP q = true := by
    intro l
    induction l with
    | nil => intro acc h; exact h
    | cons p l ih => intro acc h; exact ih _ (padd_valid acc p h)
  exact key l [] (by simp)

/-- Both stores, from a list of principals. -/
theorem both34' (hs : List (Pr × PH)) (h : Hd) (g : G) (k : LPOk g hs h) :
    Ok Tryz.prog 34 [.slice h.a hs.length h.cap] g [11, 20, 21] (fun v g' => ∃ bp br hs', v = .tuple #[ptr bp, ptr br] ∧ PolAt g' bp (addAll (hs.map (·.1))) ∧ RefIs g' 20 (ptr br) br hs' ∧ hs'.map (·.1) = addAll (hs.map (·.1))) := by
  refine (both34 10 20 (by decide) (by decide) (by decide) hs h g k).mono fun v g' _ hv => ?_
  obtain ⟨vp, vq, bs, bm, ptrs, br, hs', rfl, kp, kr, e⟩ := hv
  have kp0 := kp
  obtain ⟨rfl, _⟩ := kp0
  obtain rfl := kr.v
  exact ⟨bs, br, hs', rfl, ⟨⟨_, _, kp⟩, addAll_valid _⟩, kr, e⟩

abbrev bCentre : ByteArray := ⟨#[99, 101, 110, 116, 114, 101]⟩
abbrev bAnn : ByteArray := ⟨#[97, 110, 110]⟩
abbrev bWeb : ByteArray := ⟨#[119, 101, 98]⟩
def wPs : List Pr := [⟨bCentre, 1, false, false, [], [], [], 1000⟩, ⟨bAnn, 1, false, false, [], [], [], 500⟩, ⟨bWeb, 1, true, false, [], [], [], 300⟩]
abbrev noH : PH := ⟨⟨none, 0⟩, ⟨none, 0⟩, ⟨none, 0⟩⟩
def wHs : List (Pr × PH) := wPs.map fun p => (p, noH)
def w0 : Cen := ⟨addAll (wHs.map (·.1)), max 9 0, [], 0, []⟩
def w1 := inS w0 bWeb (.mk 2 bWeb 1 []) 100 1
def w2 := transitS w1.2 110 (gaskS sSelf bWeb bWeb w1.1.2.1 w1.1.1 (extraT w1.1.2.1 bAnn) 110 2 5000)
def w3 := partS (takeS w2.1.1 sTgsRep 3) w1.1.2.1 8
def w4 := openS w3.1 (.mk 2 bWeb 1 [])
def w5 := verifyS w4.1.auth (.mk 2 bWeb 1 []) (.mk 2 bCentre 1 [])

theorem w_a : w1.1.2.2 = true := by decide +kernel
theorem w_b : w2.1.2 = 0 := by decide +kernel
theorem w_c : w3.2.2 = true := by decide +kernel
theorem w_d : w4.2 = 0 := by decide +kernel
theorem w_e : w5.2 = 0 := by decide +kernel
theorem w_f : decide (w5.1.user = bAnn) = true := by decide +kernel
theorem w_g : w5.1.org = 1 := by decide +kernel
theorem w_h : w5.1.fwd = true := by decide +kernel
theorem w_s1 : tw ((gaskS sSelf bWeb bWeb w1.1.2.1 w1.1.1 (extraT w1.1.2.1 bAnn) 110 2 5000)) ≤ 2513169434843 := by decide +kernel
theorem w_s2 : w1.2.came.length ≤ 1099511627776 := by decide +kernel
theorem w_s3 : w1.2.evs.length ≤ 1099511627776 := by decide +kernel
theorem w_s4 : tw (w3.1) ≤ 2513169434843 := by decide +kernel
theorem w_s5 : tw (w4.1.auth) ≤ 2513169434843 := by decide +kernel

set_option maxHeartbeats 1000000 in
theorem works28 (g : G) : Ok Tryz.prog 28 [] g [11, 20, 21, 30, 31, 32, 33, 50, 51, 61, 62, 63] (fun v _ => v = .bool true) := by
  have kw0 : ∀ g : G, POk g 0 ⟨bCentre, 1, false, false, [], [], [], 1000⟩ noH := fun g => ⟨⟨⟨.inl rfl, Nat.le_refl _, Nat.zero_le _⟩, by simp⟩, ⟨⟨.inl rfl, Nat.le_refl _, Nat.zero_le _⟩, by simp⟩, ⟨.inl rfl, Nat.le_refl _, Nat.zero_le _⟩, by decide⟩
  have kw1 : ∀ g : G, POk g 0 ⟨bAnn, 1, false, false, [], [], [], 500⟩ noH := fun g => ⟨⟨⟨.inl rfl, Nat.le_refl _, Nat.zero_le _⟩, by simp⟩, ⟨⟨.inl rfl, Nat.le_refl _, Nat.zero_le _⟩, by simp⟩, ⟨.inl rfl, Nat.le_refl _, Nat.zero_le _⟩, by decide⟩
  have kw2 : ∀ g : G, POk g 0 ⟨bWeb, 1, true, false, [], [], [], 300⟩ noH := fun g => ⟨⟨⟨.inl rfl, Nat.le_refl _, Nat.zero_le _⟩, by simp⟩, ⟨⟨.inl rfl, Nat.le_refl _, Nat.zero_le _⟩, by simp⟩, ⟨.inl rfl, Nat.le_refl _, Nat.zero_le _⟩, by decide⟩
  have kwp : ∀ (g : G), ∀ p ∈ wHs, POk g 0 p.1 p.2 := by
    intro g p hp
    simp only [wHs, wPs, List.map_cons, List.map_nil, List.mem_cons, List.not_mem_nil, or_false] at hp
    rcases hp with rfl | rfl | rfl
    · exact kw0 g
    · exact kw1 g
    · exact kw2 g
  refine fbegin Tryz.func28 rfl Tryz.ntmps28 (Nat.le_of_ble_eq_true rfl) fun C hw hC => ?_
  refine runO hC tabOk 60 ?_
  simp [go_sem]
  repeat ((first | refine condT rfl ?_ | refine condF rfl ?_ | refine skD hC rfl rfl rfl ?_); refine runO hC tabOk 60 ?_; simp [go_sem])
  refine call hC [11,20,21] (by kernel_rfl) rfl rfl rfl rfl rfl fun m1 g1 p1 e1 => ⟨_, both34' wHs ⟨some ⟨m1.getD 0 0, 0, none⟩, 3⟩ _ ⟨.inr ⟨_, _, rfl, e1.frz (i := 0) rfl rfl rfl⟩, Nat.le_refl _, by show (3 : Nat) ≤ maxLen; decide, kwp _⟩, fun v1 u1 q1 s1 hv1 => ?_⟩
  obtain ⟨bp, br, hs', rfl, kpol, kref, _⟩ := hv1
  refine runO hC tabOk 60 ?_
  simp [go_sem]
  repeat ((first | refine condT rfl ?_ | refine condF rfl ?_ | refine skD hC rfl rfl rfl ?_); refine runO hC tabOk 60 ?_; simp [go_sem])
  refine vo hC (vo_bin hC rfl rfl rfl (run_ptrnil Tryz.prog Tryz.underlying33 _ _ _)) rfl rfl rfl ?_
  refine runO hC tabOk 60 ?_
  simp [go_sem]
  repeat ((first | refine condT rfl ?_ | refine condF rfl ?_ | refine skD hC rfl rfl rfl ?_); refine runO hC tabOk 60 ?_; simp [go_sem])
  refine small (fun _ => 1) rfl fun m2 g2 p2 e2 => ⟨⟨[(26, .c (.v (ptr bp)))], [], [], [], 0⟩, ⟨by simp [go_sem], by simp [go_sem], rfl, bxs_ok (n := 0) (Nat.le_refl _) (by simp [go_sem]), by simp [go_sem], ⟨_, rfl⟩⟩, by simp, ?_⟩
  refine call hC [] (by kernel_rfl) rfl rfl rfl rfl rfl fun m3 g3 p3 e3 => ⟨_, lnew37 bp (addAll (wHs.map (·.1))) 9 _ (kpol.ks Kp.ks (by decide) (by decide) (by decide) (by decide)), fun v3 u3 q3 s3 hv3 => ?_⟩
  obtain ⟨b, rfl, kc⟩ := hv3
  refine runO hC tabOk 60 ?_
  simp [go_sem]
  repeat ((first | refine condT rfl ?_ | refine condF rfl ?_ | refine skD hC rfl rfl rfl ?_); refine runO hC tabOk 60 ?_; simp [go_sem])
  refine vo hC (vo_bin hC rfl rfl rfl (run_ptrnil Tryz.prog Tryz.underlying45 _ _ _)) rfl rfl rfl ?_
  refine runO hC tabOk 60 ?_
  simp [go_sem]
  repeat ((first | refine condT rfl ?_ | refine condF rfl ?_ | refine skD hC rfl rfl rfl ?_); refine runO hC tabOk 60 ?_; simp [go_sem])
  refine small (fun _ => 1) rfl fun m4 g4 p4 e4 => ⟨⟨[(31, .c (.v (ptr b))), (3, .c (.v (ptr b)))], [], [], [], 0⟩, ⟨by simp [go_sem], by simp [go_sem], rfl, bxs_ok (n := 0) (Nat.le_refl _) (by simp [go_sem]), by simp [go_sem], ⟨_, rfl⟩⟩, by simp, ?_⟩
  refine call hC [] (by kernel_rfl) rfl rfl rfl rfl rfl fun m5 g5 p5 e5 => ⟨_, key43 bWeb 1 _, fun v5 u5 q5 s5 hv5 => ?_⟩
  subst hv5
  refine runO hC tabOk 60 ?_
  simp [go_sem]
  repeat ((first | refine condT rfl ?_ | refine condF rfl ?_ | refine skD hC rfl rfl rfl ?_); refine runO hC tabOk 60 ?_; simp [go_sem])
  refine call hC [30,31,32,33,61,62,63] (by kernel_rfl) rfl rfl rfl rfl rfl fun m6 g6 p6 e6 => ⟨_, in39 b bp w0 bWeb (.mk 2 bWeb 1 []) 100 1 ⟨none, 0⟩ _ (kc.ks Kp.ks (by decide) (by decide) (by decide) (by decide) (by decide) (by decide) (by decide) (by decide) (by decide)) (tok_leaf _ _ _ _ (by decide)) (by decide) (Nat.zero_le _) (Nat.zero_le _), fun v6 u6 q6 s6 hv6 => ?_⟩
  have hw1 : inS w0 bWeb (.mk 2 bWeb 1 []) 100 1 = w1 := rfl
  rw [hw1] at hv6
  obtain ⟨⟨h1, h2, rfl, k1, k2⟩, kc6⟩ := hv6
  refine runO hC tabOk 60 ?_
  simp [go_sem]
  repeat ((first | refine condT rfl ?_ | refine condF rfl ?_ | refine skD hC rfl rfl rfl ?_); refine runO hC tabOk 60 ?_; simp [go_sem])
  refine draw hC [(0, 0), (1, 0), (2, 0), (3, 0), (10, 2), (4, 1), (5, 1), (6, 1), (7, 0), (8, 0), (9, 0), (10, 3), (11, 1)] [12] mix (by kernel_rfl) ?_
  refine runO hC tabOk 60 ?_
  simp [go_sem]
  repeat ((first | refine condT rfl ?_ | refine condF rfl ?_ | refine skD hC rfl rfl rfl ?_); refine runO hC tabOk 60 ?_; simp [go_sem])
  refine callD hC [] (by kernel_rfl) rfl rfl rfl rfl rfl rfl rfl rfl fun m7 g7 p7 e7 => ⟨_, extra31 w1.1.2.1 h2 bAnn _ k2.to (by decide), fun v7 u7 q7 s7 hv7 => ?_⟩
  obtain ⟨h7, rfl, k7⟩ := hv7
  refine runO hC tabOk 60 ?_
  simp [go_sem]
  repeat ((first | refine condT rfl ?_ | refine condF rfl ?_ | refine skD hC rfl rfl rfl ?_); refine runO hC tabOk 60 ?_; simp [go_sem])
  refine callD hC [] (by kernel_rfl) rfl rfl rfl rfl rfl rfl rfl rfl fun m8 g8 p8 e8 => ⟨_, gask41 sSelf bWeb bWeb w1.1.2.1 w1.1.1 (extraT w1.1.2.1 bAnn) 110 2 5000 h2 h1 h7 _ k2.to k1.to k7.to (by decide) (by decide) (by decide), fun v8 u8 q8 s8 hv8 => ?_⟩
  obtain ⟨h8, rfl, k8⟩ := hv8
  refine runO hC tabOk 60 ?_
  simp [go_sem]
  repeat ((first | refine condT rfl ?_ | refine condF rfl ?_ | refine skD hC rfl rfl rfl ?_); refine runO hC tabOk 60 ?_; simp [go_sem])
  refine callD hC [30,31,32,33,50,51,61,62,63] (by kernel_rfl) rfl rfl rfl rfl rfl rfl rfl rfl fun m9 g9 p9 e9 => ⟨_, answer40 b bp w1.2 110 (gaskS sSelf bWeb bWeb w1.1.2.1 w1.1.1 (extraT w1.1.2.1 bAnn) 110 2 5000) h8 _ (kc6.ks Kp.ks (by decide) (by decide) (by decide) (by decide) (by decide) (by decide) (by decide) (by decide) (by decide)) k8.to w_s1 w_s2 w_s3, fun v9 u9 q9 s9 hv9 => ?_⟩
  have hw2 : transitS w1.2 110 (gaskS sSelf bWeb bWeb w1.1.2.1 w1.1.1 (extraT w1.1.2.1 bAnn) 110 2 5000) = w2 := rfl
  rw [hw2] at hv9
  obtain ⟨⟨h9, rfl, k9⟩, kc9⟩ := hv9
  refine runO hC tabOk 60 ?_
  simp [go_sem]
  repeat ((first | refine condT rfl ?_ | refine condF rfl ?_ | refine skD hC rfl rfl rfl ?_); refine runO hC tabOk 60 ?_; simp [go_sem])
  refine call hC [] (by kernel_rfl) rfl rfl rfl rfl rfl fun m10 g10 p10 e10 => ⟨_, got42 w2.1.1 w1.1.2.1 h9 h2 _ k9.to k2.to, fun v10 u10 q10 s10 hv10 => ?_⟩
  have hw3 : partS (takeS w2.1.1 sTgsRep 3) w1.1.2.1 8 = w3 := rfl
  rw [hw3] at hv10
  obtain ⟨h10, h10', rfl, k10, k10'⟩ := hv10
  refine runO hC tabOk 60 ?_
  simp [go_sem]
  repeat ((first | refine condT rfl ?_ | refine condF rfl ?_ | refine skD hC rfl rfl rfl ?_); refine runO hC tabOk 60 ?_; simp [go_sem])
  refine draw hC [(0, 0), (6, 2), (1, 1), (2, 1), (3, 0), (4, 0), (5, 0), (6, 3), (7, 1)] [8] mix (by kernel_rfl) ?_
  refine runO hC tabOk 60 ?_
  simp [go_sem]
  repeat ((first | refine condT rfl ?_ | refine condF rfl ?_ | refine skD hC rfl rfl rfl ?_); refine runO hC tabOk 60 ?_; simp [go_sem])
  refine callD hC [] (by kernel_rfl) rfl rfl rfl rfl rfl rfl rfl rfl fun m11 g11 p11 e11 => ⟨_, key43 bWeb 1 _, fun v11 u11 q11 s11 hv11 => ?_⟩
  subst hv11
  refine runO hC tabOk 60 ?_
  simp [go_sem]
  repeat ((first | refine condT rfl ?_ | refine condF rfl ?_ | refine skD hC rfl rfl rfl ?_); refine runO hC tabOk 60 ?_; simp [go_sem])
  refine callD hC [61,62,63] (by kernel_rfl) rfl rfl rfl rfl rfl rfl rfl rfl fun m12 g12 p12 e12 => ⟨_, topen53 w3.1 (.mk 2 bWeb 1 []) h10 ⟨none, 0⟩ _ k10.to (tok_leaf _ _ _ _ (by decide)) w_s4, fun v12 u12 q12 s12 hv12 => ?_⟩
  have hw4 : openS w3.1 (.mk 2 bWeb 1 []) = w4 := rfl
  rw [hw4] at hv12
  obtain ⟨h12, rfl, k12⟩ := hv12
  refine runO hC tabOk 60 ?_
  simp [go_sem]
  repeat ((first | refine condT rfl ?_ | refine condF rfl ?_ | refine skD hC rfl rfl rfl ?_); refine runO hC tabOk 60 ?_; simp [go_sem])
  refine draw hC [(0, 0), (1, 0), (8, 2), (2, 1), (3, 1), (4, 1), (5, 0), (6, 0), (7, 0), (8, 3), (9, 1)] [10] mix (by kernel_rfl) ?_
  refine runO hC tabOk 60 ?_
  simp [go_sem]
  repeat ((first | refine condT rfl ?_ | refine condF rfl ?_ | refine skD hC rfl rfl rfl ?_); refine runO hC tabOk 60 ?_; simp [go_sem])
  refine callD hC [] (by kernel_rfl) rfl rfl rfl rfl rfl rfl rfl rfl fun m13 g13 p13 e13 => ⟨_, key43 bWeb 1 _, fun v13 u13 q13 s13 hv13 => ?_⟩
  subst hv13
  refine runO hC tabOk 60 ?_
  simp [go_sem]
  repeat ((first | refine condT rfl ?_ | refine condF rfl ?_ | refine skD hC rfl rfl rfl ?_); refine runO hC tabOk 60 ?_; simp [go_sem])
  refine callD hC [] (by kernel_rfl) rfl rfl rfl rfl rfl rfl rfl rfl fun m14 g14 p14 e14 => ⟨_, key43 bCentre 1 _, fun v14 u14 q14 s14 hv14 => ?_⟩
  subst hv14
  refine runO hC tabOk 60 ?_
  simp [go_sem]
  repeat ((first | refine condT rfl ?_ | refine condF rfl ?_ | refine skD hC rfl rfl rfl ?_); refine runO hC tabOk 60 ?_; simp [go_sem])
  refine callD hC [61,62,63] (by kernel_rfl) rfl rfl rfl rfl rfl rfl rfl rfl fun m15 g15 p15 e15 => ⟨_, verify54 w4.1.auth (.mk 2 bWeb 1 []) (.mk 2 bCentre 1 []) h12.auth ⟨none, 0⟩ ⟨none, 0⟩ _ k12.auth.to (tok_leaf _ _ _ _ (by decide)) (tok_leaf _ _ _ _ (by decide)) w_s5, fun v15 u15 q15 s15 hv15 => ?_⟩
  have hw5 : verifyS w4.1.auth (.mk 2 bWeb 1 []) (.mk 2 bCentre 1 []) = w5 := rfl
  rw [hw5] at hv15
  obtain ⟨h15, rfl, k15⟩ := hv15
  refine runO hC tabOk 60 ?_
  simp [go_sem, w_a, w_b, w_c, w_d, w_e, w_f, w_g, w_h]
  repeat ((first | refine condT rfl ?_ | refine condF rfl ?_ | refine skD hC rfl rfl rfl ?_); refine runO hC tabOk 60 ?_; simp [go_sem, w_a, w_b, w_c, w_d, w_e, w_f, w_g, w_h])
  try (refine runO hC tabOk 60 ?_; simp [go_sem, w_a, w_b, w_c, w_d, w_e, w_f, w_g, w_h]; repeat ((first | refine condT rfl ?_ | refine condF rfl ?_ | refine skD hC rfl rfl rfl ?_); refine runO hC tabOk 60 ?_; simp [go_sem, w_a, w_b, w_c, w_d, w_e, w_f, w_g, w_h]))
  refine ret hC tabOk (fun _ => 1) rfl rfl fun m gf hl ex => ?_
  rfl
end Go.Proofs.YtobhfopgoidniaaGreat

/- For which user a service asks is what the document says. -/
namespace Go.Proofs.YtobhfopgoidniaaGreat
open Go Go.Eng

theorem law3 (session : T) (user : ByteArray) (h : Hd) (g : G) (ks : TOk g session h) (hu : user.size ≤ maxLen) :
    Ok Tryz.prog 3 [tv session h, .string user] g [11, 20, 21, 30, 31, 32, 33, 50, 51, 61, 62, 63] (fun v _ => v = .bool true) := by
  refine fbegin Tryz.func3 rfl Tryz.ntmps3 (Nat.le_of_ble_eq_true rfl) fun C hw hC => ?_
  refine runO hC tabOk 60 ?_
  simp [go_sem]
  repeat ((first | refine condT rfl ?_ | refine condF rfl ?_ | refine skD hC rfl rfl rfl ?_); refine runO hC tabOk 60 ?_; simp [go_sem])
  refine call hC [11,20,21,30,31,32,33,50,51,61,62,63] (by kernel_rfl) rfl rfl rfl rfl rfl fun m1 g1 p1 e1 => ⟨_, works28 _, fun v1 u1 q1 s1 hv1 => ?_⟩
  subst hv1
  refine runO hC tabOk 60 ?_
  simp [go_sem]
  repeat ((first | refine condT rfl ?_ | refine condF rfl ?_ | refine skD hC rfl rfl rfl ?_); refine runO hC tabOk 60 ?_; simp [go_sem])
  refine call hC [] (by kernel_rfl) rfl rfl rfl rfl rfl fun m2 g2 p2 e2 => ⟨_, large29 session 50 h _ ks.to, fun v2 u2 q2 s2 hv2 => ?_⟩
  subst hv2
  cases h1 : decide (50 < IntKind.i64.wrap session.size) with
  | true =>
    refine runO hC tabOk 60 ?_
    simp [go_sem]
    repeat ((first | refine condT rfl ?_ | refine condF rfl ?_ | refine skD hC rfl rfl rfl ?_); refine runO hC tabOk 60 ?_; simp [go_sem])
    refine ret hC tabOk (fun _ => 1) rfl rfl fun m gf hl ex => ?_
    rfl
  | false =>
  refine runO hC tabOk 60 ?_
  simp [go_sem]
  repeat ((first | refine condT rfl ?_ | refine condF rfl ?_ | refine skD hC rfl rfl rfl ?_); refine runO hC tabOk 60 ?_; simp [go_sem])
  refine draw hC [(0, 0), (1, 0), (3, 0), (4, 0), (2, 1)] [5, 6, 7] mix (by kernel_rfl) ?_
  refine runO hC tabOk 60 ?_
  simp [go_sem]
  repeat ((first | refine condT rfl ?_ | refine condF rfl ?_ | refine skD hC rfl rfl rfl ?_); refine runO hC tabOk 60 ?_; simp [go_sem])
  refine callD hC [] (by kernel_rfl) rfl rfl rfl rfl rfl rfl rfl rfl fun m3 g3 p3 e3 => ⟨_, extra31 session h user _ ks.to hu, fun v3 u3 q3 s3 hv3 => ?_⟩
  obtain ⟨h3, rfl, k3⟩ := hv3
  refine runO hC tabOk 60 ?_
  simp [go_sem]
  repeat ((first | refine condT rfl ?_ | refine condF rfl ?_ | refine skD hC rfl rfl rfl ?_); refine runO hC tabOk 60 ?_; simp [go_sem])
  refine call hC [] (by kernel_rfl) rfl rfl rfl rfl rfl fun m4 g4 p4 e4 => ⟨_, extra32 session h user _ ks.to hu, fun v4 u4 q4 s4 hv4 => ?_⟩
  obtain ⟨h4, rfl, k4⟩ := hv4
  refine runO hC tabOk 60 ?_
  simp [go_sem]
  repeat ((first | refine condT rfl ?_ | refine condF rfl ?_ | refine skD hC rfl rfl rfl ?_); refine runO hC tabOk 60 ?_; simp [go_sem])
  refine call hC [] (by kernel_rfl) rfl rfl rfl rfl rfl fun m5 g5 p5 e5 => ⟨_, same30 (extraT session user) (extraT session user) h3 h4 _ k3.to k4.to, fun v5 u5 q5 s5 hv5 => ?_⟩
  subst hv5
  have e : decide (extraT session user = extraT session user) = true := by simp
  refine runO hC tabOk 60 ?_
  simp [go_sem, e]
  repeat ((first | refine condT rfl ?_ | refine condF rfl ?_ | refine skD hC rfl rfl rfl ?_); refine runO hC tabOk 60 ?_; simp [go_sem, e])
  try (refine runO hC tabOk 60 ?_; simp [go_sem, e]; repeat ((first | refine condT rfl ?_ | refine condF rfl ?_ | refine skD hC rfl rfl rfl ?_); refine runO hC tabOk 60 ?_; simp [go_sem, e]))
  refine ret hC tabOk (fun _ => 1) rfl rfl fun m gf hl ex => ?_
  rfl
end Go.Proofs.YtobhfopgoidniaaGreat
