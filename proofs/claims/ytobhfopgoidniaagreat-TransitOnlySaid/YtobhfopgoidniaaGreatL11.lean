/- A user is told just to a service that may ask, of one that may be delegated. TransitOnly: what is said of it holds at every input. No condition. -/
import Derived.Test.YtobhfopgoidniaaGreatNE
import Derived.Test.YtobhfopgoidniaaGreatNA
import Derived.Test.YtobhfopgoidniaaGreatPE
import Derived.Test.YtobhfopgoidniaaGreatMA
import Derived.Test.YtobhfopgoidniaaGreatMC
set_option linter.all false
set_option linter.unusedVariables false
set_option linter.unusedSimpArgs false

/- A user is told just to a service that may ask, of one that may be delegated. -/
namespace Go.Proofs.YtobhfopgoidniaaGreat
open Go Go.Eng

set_option maxHeartbeats 4000000 in
set_option maxRecDepth 20000 in
theorem law11 (hs : List (Pr × PH)) (h : Hd) (now : Int) (t : T) (ht : Hd) (g : G) (k : LPOk g hs h) (kt : TOk g t ht) (htw : tw t ≤ 2513169434843) :
    Ok Tryz.prog 11 [.slice h.a hs.length h.cap, .int .i64 now, tv t ht] g [11, 20, 21, 30, 31, 32, 33, 50, 51, 61, 62, 63] (fun v _ => v = .bool true) := by
  have hpv := addAll_valid (hs.map (·.1))
  refine fbegin Tryz.func11 rfl Tryz.ntmps11 (Nat.le_of_ble_eq_true rfl) fun C hw hC => ?_
  refine runO hC tabOk 60 ?_
  simp [go_sem]
  repeat ((first | refine condT rfl ?_ | refine condF rfl ?_ | refine skD hC rfl rfl rfl ?_); refine runO hC tabOk 60 ?_; simp [go_sem])
  first | refine call hC [11,20,21,30,31,32,33,50,51,61,62,63] (by kernel_rfl) rfl rfl rfl rfl rfl fun m1 g1 p1 e1 => ?_ | refine callD hC [11,20,21,30,31,32,33,50,51,61,62,63] (by kernel_rfl) rfl rfl rfl rfl rfl rfl rfl rfl fun m1 g1 p1 e1 => ?_
  refine ⟨_, works28 _, fun v1 u1 q1 s1 hv1 => ?_⟩
  subst hv1
  refine runO hC tabOk 60 ?_
  simp [go_sem]
  repeat ((first | refine condT rfl ?_ | refine condF rfl ?_ | refine skD hC rfl rfl rfl ?_); refine runO hC tabOk 60 ?_; simp [go_sem])
  first | refine call hC [] (by kernel_rfl) rfl rfl rfl rfl rfl fun m2 g2 p2 e2 => ?_ | refine callD hC [] (by kernel_rfl) rfl rfl rfl rfl rfl rfl rfl rfl fun m2 g2 p2 e2 => ?_
  refine ⟨_, few33 hs h _ k.to, fun v2 u2 q2 s2 hv2 => ?_⟩
  subst hv2
  cases c1 : fewB (hs.map (·.1)) with
  | false =>
    refine runO hC tabOk 60 ?_
    simp [go_sem]
    repeat ((first | refine condT rfl ?_ | refine condF rfl ?_ | refine skD hC rfl rfl rfl ?_); refine runO hC tabOk 60 ?_; simp [go_sem])
    refine ret hC tabOk (fun _ => 1) rfl rfl fun m gf hl ex => ?_
    rfl
  | true =>
  refine runO hC tabOk 60 ?_
  simp [go_sem]
  repeat ((first | refine condT rfl ?_ | refine condF rfl ?_ | refine skD hC rfl rfl rfl ?_); refine runO hC tabOk 60 ?_; simp [go_sem])
  first | refine call hC [] (by kernel_rfl) rfl rfl rfl rfl rfl fun m3 g3 p3 e3 => ?_ | refine callD hC [] (by kernel_rfl) rfl rfl rfl rfl rfl rfl rfl rfl fun m3 g3 p3 e3 => ?_
  refine ⟨_, large29 t 400 ht _ kt.to, fun v3 u3 q3 s3 hv3 => ?_⟩
  subst hv3
  cases c2 : decide (400 < IntKind.i64.wrap t.size) with
  | true =>
    refine runO hC tabOk 60 ?_
    simp [go_sem]
    repeat ((first | refine condT rfl ?_ | refine condF rfl ?_ | refine skD hC rfl rfl rfl ?_); refine runO hC tabOk 60 ?_; simp [go_sem])
    refine ret hC tabOk (fun _ => 1) rfl rfl fun m gf hl ex => ?_
    rfl
  | false =>
  refine runO hC tabOk 60 ?_
  simp [go_sem]
  repeat ((first | refine condT rfl ?_ | refine condF rfl ?_ | refine skD hC rfl rfl rfl ?_); refine runO hC tabOk 60 ?_; simp [go_sem])
  first | refine call hC [11,20,21] (by kernel_rfl) rfl rfl rfl rfl rfl fun m4 g4 p4 e4 => ?_ | refine callD hC [11,20,21] (by kernel_rfl) rfl rfl rfl rfl rfl rfl rfl rfl fun m4 g4 p4 e4 => ?_
  refine ⟨_, both34' hs h _ k.to, fun v4 u4 q4 s4 hv4 => ?_⟩
  obtain ⟨bp, br, hs', rfl, kpol, kref, _⟩ := hv4
  generalize hPS : addAll (hs.map (·.1)) = cps at hpv kpol
  refine runO hC tabOk 60 ?_
  simp [go_sem]
  repeat ((first | refine condT rfl ?_ | refine condF rfl ?_ | refine skD hC rfl rfl rfl ?_); refine runO hC tabOk 60 ?_; simp [go_sem])
  first | refine call hC [] (by kernel_rfl) rfl rfl rfl rfl rfl fun m5 g5 p5 e5 => ?_ | refine callD hC [] (by kernel_rfl) rfl rfl rfl rfl rfl rfl rfl rfl fun m5 g5 p5 e5 => ?_
  refine ⟨_, lnew37 bp cps 9 _ (kpol.ks Kp.ks (by decide) (by decide) (by decide) (by decide)), fun v5 u5 q5 s5 hv5 => ?_⟩
  obtain ⟨b, rfl, kc⟩ := hv5
  refine runO hC tabOk 60 ?_
  simp [go_sem]
  repeat ((first | refine condT rfl ?_ | refine condF rfl ?_ | refine skD hC rfl rfl rfl ?_); refine runO hC tabOk 60 ?_; simp [go_sem])
  first | refine call hC [30,31,32,33,50,51,61,62,63] (by kernel_rfl) rfl rfl rfl rfl rfl fun m7 g7 p7 e7 => ?_ | refine callD hC [30,31,32,33,50,51,61,62,63] (by kernel_rfl) rfl rfl rfl rfl rfl rfl rfl rfl fun m7 g7 p7 e7 => ?_
  refine ⟨_, answer40 b bp ⟨cps, max 9 0, [], 0, []⟩ now t ht _ (kc.ks Kp.ks (by decide) (by decide) (by decide) (by decide) (by decide) (by decide) (by decide) (by decide) (by decide)) kt.to htw (Nat.zero_le _) (Nat.zero_le _), fun v7 u7 q7 s7 hv7 => ?_⟩
  obtain ⟨⟨h7, rfl, k7⟩, kc7⟩ := hv7
  refine runO hC tabOk 60 ?_
  simp [go_sem]
  repeat ((first | refine condT rfl ?_ | refine condF rfl ?_ | refine skD hC rfl rfl rfl ?_); refine runO hC tabOk 60 ?_; simp [go_sem])
  first | refine call hC [30] (by kernel_rfl) rfl rfl rfl rfl rfl fun m8 g8 p8 e8 => ?_ | refine callD hC [30] (by kernel_rfl) rfl rfl rfl rfl rfl rfl rfl rfl fun m8 g8 p8 e8 => ?_
  refine ⟨_, events49 b bp _ _ (kc7.ks Kp.ks (by decide) (by decide) (by decide) (by decide) (by decide) (by decide) (by decide) (by decide) (by decide)), fun v8 u8 q8 s8 hv8 => ?_⟩
  obtain ⟨⟨a8, cap8, rfl, kev8⟩, kc8⟩ := hv8
  by_cases d2 : (transitS ⟨cps, max 9 0, [], 0, []⟩ now t).1.2 = 0
  rotate_left
  · obtain ⟨e1, e2⟩ := trans_err d2
    rw [e1] at k7
    rw [e1, e2]
    refine runO hC tabOk 60 ?_
    simp [go_sem, d2]
    repeat ((first | refine condT rfl ?_ | refine condF rfl ?_ | refine skD hC rfl rfl rfl ?_); refine runO hC tabOk 60 ?_; simp [go_sem, d2])
    try (refine runO hC tabOk 60 ?_; simp [go_sem, d2]; repeat ((first | refine condT rfl ?_ | refine condF rfl ?_ | refine skD hC rfl rfl rfl ?_); refine runO hC tabOk 60 ?_; simp [go_sem, d2]))
    first | refine call hC [] (by kernel_rfl) rfl rfl rfl rfl rfl fun m9 g9 p9 e9 => ?_ | refine callD hC [] (by kernel_rfl) rfl rfl rfl rfl rfl rfl rfl rfl fun m9 g9 p9 e9 => ?_
    refine ⟨_, same44 T0 T0 h7 ⟨none, 0⟩ _ k7.to (T0_ok _), fun v9 u9 q9 s9 hv9 => ?_⟩
    subst hv9
    refine runO hC tabOk 60 ?_
    simp [go_sem]
    repeat ((first | refine condT rfl ?_ | refine condF rfl ?_ | refine skD hC rfl rfl rfl ?_); refine runO hC tabOk 60 ?_; simp [go_sem])
    refine ret hC tabOk (fun _ => 1) rfl rfl fun m gf hl ex => ?_
    rfl
  · obtain ⟨k', tg, n, tl, tk, au, ex, r, s, nn, e, K, was, pu, psv, xp1, xp2, xp3, xp5, xp6, xp7, xp8, xp9, zp1, zp2, zp3, zp4, zp5, zp6, yr1, yr2, yr3, yr4, yw1, yw2, yw3, ye1, ye2, ye3, ye4, ye5, ye6, z1, z2, z3, z4, z5⟩ := only_pure d2
    try dsimp only at xp2
    try dsimp only at xp3
    try dsimp only at xp5
    try dsimp only at xp6
    try dsimp only at xp7
    try dsimp only at xp8
    try dsimp only at xp9
    try dsimp only at zp1
    try dsimp only at zp2
    try dsimp only at z1
    try dsimp only at z2
    rw [xp5] at k7
    rw [xp6] at kev8
    rw [xp5, xp6]
    have kcen : ∀ g, TOk g (pkey cps sCentre).1 ⟨none, 0⟩ := fun g => (pkey_leaf cps sCentre g (by decide)).1
    have kkey : ∀ g, TOk g (pkey cps r.svc).1 ⟨none, 0⟩ := fun g => (pkey_leaf cps r.svc g z5).1
    obtain ⟨be, hee, rfl, kcs, _⟩ := kev8.at (i := 0) (e := e) rfl
    have kpol' : PolAt u8 bp cps := by
      have := (kc8.ks (g' := u8) Kp.ks (by decide) (by decide) (by decide) (by decide) (by decide) (by decide) (by decide) (by decide) (by decide)).pol
      dsimp only at this
      rwa [xp7] at this
    obtain ⟨⟨bm, ptrs, kp⟩, kv⟩ := kpol'
    have g1 : ([] ++ [e] : List Ev).length = 1 := rfl
    refine runO hC tabOk 60 ?_
    simp [go_sem, d2]
    repeat ((first | refine condT rfl ?_ | refine condF rfl ?_ | refine skD hC rfl rfl rfl ?_); refine runO hC tabOk 60 ?_; simp [go_sem, d2])
    try (refine runO hC tabOk 60 ?_; simp [go_sem, d2]; repeat ((first | refine condT rfl ?_ | refine condF rfl ?_ | refine skD hC rfl rfl rfl ?_); refine runO hC tabOk 60 ?_; simp [go_sem, d2]))
    refine draw hC [(0, 0), (1, 0), (2, 0), (3, 0), (4, 0), (5, 0), (6, 0), (7, 0), (8, 0), (9, 0), (10, 0), (11, 0), (12, 0), (13, 0), (14, 0), (15, 0), (16, 0), (17, 0), (18, 0), (19, 0), (20, 0), (21, 0), (22, 0), (23, 0), (24, 0), (25, 0), (26, 0), (27, 0), (28, 0)] [] mix (by kernel_rfl) ?_
    refine runO hC tabOk 60 ?_
    simp [go_sem]
    repeat ((first | refine condT rfl ?_ | refine condF rfl ?_ | refine skD hC rfl rfl rfl ?_); refine runO hC tabOk 60 ?_; simp [go_sem])
    refine voD hC rfl (vo_index hC tabOk rfl rfl rfl rfl rfl rfl (by omega) (by omega)) rfl rfl rfl rfl ?_
    refine runO hC tabOk 60 ?_
    simp [go_sem]
    repeat ((first | refine condT rfl ?_ | refine condF rfl ?_ | refine skD hC rfl rfl rfl ?_); refine runO hC tabOk 60 ?_; simp [go_sem])
    refine voD hC rfl (vo_load1 hC tabOk ((kcs.one 0 rfl).ks Kp.ks (by decide)) rfl rfl rfl rfl) rfl rfl rfl rfl ?_
    refine runO hC tabOk 60 ?_
    simp [go_sem, ye1]
    repeat ((first | refine condT rfl ?_ | refine condF rfl ?_ | refine skD hC rfl rfl rfl ?_); refine runO hC tabOk 60 ?_; simp [go_sem, ye1])
    try (refine runO hC tabOk 60 ?_; simp [go_sem, ye1]; repeat ((first | refine condT rfl ?_ | refine condF rfl ?_ | refine skD hC rfl rfl rfl ?_); refine runO hC tabOk 60 ?_; simp [go_sem, ye1]))
    refine voD hC rfl (vo_index hC tabOk rfl rfl rfl rfl rfl rfl (by omega) (by omega)) rfl rfl rfl rfl ?_
    refine runO hC tabOk 60 ?_
    simp [go_sem]
    repeat ((first | refine condT rfl ?_ | refine condF rfl ?_ | refine skD hC rfl rfl rfl ?_); refine runO hC tabOk 60 ?_; simp [go_sem])
    refine voD hC rfl (vo_load1 hC tabOk ((kcs.one 3 rfl).ks Kp.ks (by decide)) rfl rfl rfl rfl) rfl rfl rfl rfl ?_
    refine runO hC tabOk 60 ?_
    simp [go_sem, ye4]
    repeat ((first | refine condT rfl ?_ | refine condF rfl ?_ | refine skD hC rfl rfl rfl ?_); refine runO hC tabOk 60 ?_; simp [go_sem, ye4])
    try (refine runO hC tabOk 60 ?_; simp [go_sem, ye4]; repeat ((first | refine condT rfl ?_ | refine condF rfl ?_ | refine skD hC rfl rfl rfl ?_); refine runO hC tabOk 60 ?_; simp [go_sem, ye4]))
    refine voD hC rfl (vo_index hC tabOk rfl rfl rfl rfl rfl rfl (by omega) (by omega)) rfl rfl rfl rfl ?_
    refine runO hC tabOk 60 ?_
    simp [go_sem]
    repeat ((first | refine condT rfl ?_ | refine condF rfl ?_ | refine skD hC rfl rfl rfl ?_); refine runO hC tabOk 60 ?_; simp [go_sem])
    refine voD hC rfl (vo_load1 hC tabOk ((kcs.one 4 rfl).ks Kp.ks (by decide)) rfl rfl rfl rfl) rfl rfl rfl rfl ?_
    refine runO hC tabOk 60 ?_
    simp [go_sem, ye4, ye5]
    repeat ((first | refine condT rfl ?_ | refine condF rfl ?_ | refine skD hC rfl rfl rfl ?_); refine runO hC tabOk 60 ?_; simp [go_sem, ye4, ye5])
    try (refine runO hC tabOk 60 ?_; simp [go_sem, ye4, ye5]; repeat ((first | refine condT rfl ?_ | refine condF rfl ?_ | refine skD hC rfl rfl rfl ?_); refine runO hC tabOk 60 ?_; simp [go_sem, ye4, ye5]))
    refine voD hC rfl (vo_index hC tabOk rfl rfl rfl rfl rfl rfl (by omega) (by omega)) rfl rfl rfl rfl ?_
    refine runO hC tabOk 60 ?_
    simp [go_sem]
    repeat ((first | refine condT rfl ?_ | refine condF rfl ?_ | refine skD hC rfl rfl rfl ?_); refine runO hC tabOk 60 ?_; simp [go_sem])
    refine voD hC rfl (vo_load1 hC tabOk ((kcs.one 1 rfl).ks Kp.ks (by decide)) rfl rfl rfl rfl) rfl rfl rfl rfl ?_
    refine runO hC tabOk 60 ?_
    simp [go_sem, ye2]
    repeat ((first | refine condT rfl ?_ | refine condF rfl ?_ | refine skD hC rfl rfl rfl ?_); refine runO hC tabOk 60 ?_; simp [go_sem, ye2])
    try (refine runO hC tabOk 60 ?_; simp [go_sem, ye2]; repeat ((first | refine condT rfl ?_ | refine condF rfl ?_ | refine skD hC rfl rfl rfl ?_); refine runO hC tabOk 60 ?_; simp [go_sem, ye2]))
    refine vo hC (vo_index hC tabOk rfl rfl rfl rfl rfl rfl (by omega) (by omega)) rfl rfl rfl ?_
    refine runO hC tabOk 60 ?_
    simp [go_sem]
    repeat ((first | refine condT rfl ?_ | refine condF rfl ?_ | refine skD hC rfl rfl rfl ?_); refine runO hC tabOk 60 ?_; simp [go_sem])
    refine vo hC (vo_load1 hC tabOk ((kcs.one 2 rfl).ks Kp.ks (by decide)) rfl rfl rfl rfl) rfl rfl rfl ?_
    refine runO hC tabOk 60 ?_
    simp [go_sem, ye3]
    repeat ((first | refine condT rfl ?_ | refine condF rfl ?_ | refine skD hC rfl rfl rfl ?_); refine runO hC tabOk 60 ?_; simp [go_sem, ye3])
    try (refine runO hC tabOk 60 ?_; simp [go_sem, ye3]; repeat ((first | refine condT rfl ?_ | refine condF rfl ?_ | refine skD hC rfl rfl rfl ?_); refine runO hC tabOk 60 ?_; simp [go_sem, ye3]))
    first | refine call hC [] (by kernel_rfl) rfl rfl rfl rfl rfl fun m9 g9 p9 e9 => ?_ | refine callD hC [] (by kernel_rfl) rfl rfl rfl rfl rfl rfl rfl rfl fun m9 g9 p9 e9 => ?_
    refine ⟨_, pget35 10 (by simp) (by simp) (ptr bp) bp bm ptrs cps r.user _ (kp.ks Kp.ks (by decide) (by decide) (by decide) (by decide)) kv, fun v9 u9 q9 s9 hv9 => ?_⟩
    rw [zp1] at hv9
    obtain ⟨h9, rfl, k9⟩ := hv9
    refine runO hC tabOk 60 ?_
    simp [go_sem]
    repeat ((first | refine condT rfl ?_ | refine condF rfl ?_ | refine skD hC rfl rfl rfl ?_); refine runO hC tabOk 60 ?_; simp [go_sem])
    refine vo hC (vo_index hC tabOk rfl rfl rfl rfl rfl rfl (by omega) (by omega)) rfl rfl rfl ?_
    refine runO hC tabOk 60 ?_
    simp [go_sem]
    repeat ((first | refine condT rfl ?_ | refine condF rfl ?_ | refine skD hC rfl rfl rfl ?_); refine runO hC tabOk 60 ?_; simp [go_sem])
    refine vo hC (vo_load1 hC tabOk ((kcs.one 3 rfl).ks Kp.ks (by decide)) rfl rfl rfl rfl) rfl rfl rfl ?_
    refine runO hC tabOk 60 ?_
    simp [go_sem, ye4]
    repeat ((first | refine condT rfl ?_ | refine condF rfl ?_ | refine skD hC rfl rfl rfl ?_); refine runO hC tabOk 60 ?_; simp [go_sem, ye4])
    try (refine runO hC tabOk 60 ?_; simp [go_sem, ye4]; repeat ((first | refine condT rfl ?_ | refine condF rfl ?_ | refine skD hC rfl rfl rfl ?_); refine runO hC tabOk 60 ?_; simp [go_sem, ye4]))
    first | refine call hC [] (by kernel_rfl) rfl rfl rfl rfl rfl fun m10 g10 p10 e10 => ?_ | refine callD hC [] (by kernel_rfl) rfl rfl rfl rfl rfl rfl rfl rfl fun m10 g10 p10 e10 => ?_
    refine ⟨_, pget35 10 (by simp) (by simp) (ptr bp) bp bm ptrs cps r.svc _ (kp.ks Kp.ks (by decide) (by decide) (by decide) (by decide)) kv, fun v10 u10 q10 s10 hv10 => ?_⟩
    rw [zp2] at hv10
    obtain ⟨h10, rfl, k10⟩ := hv10
    refine runO hC tabOk 60 ?_
    simp [go_sem]
    repeat ((first | refine condT rfl ?_ | refine condF rfl ?_ | refine skD hC rfl rfl rfl ?_); refine runO hC tabOk 60 ?_; simp [go_sem])
    have tka := take_list sTgsRep [ofT r.client, tkT cps r s, sealT K.key 8 (listT [keyT .empty s, numT nn, numT r.fl, numT r.fr, numT r.till, ofT r.svc])] (n := 3) (by simp)
    first | refine call hC [] (by kernel_rfl) rfl rfl rfl rfl rfl fun m11 g11 p11 e11 => ?_ | refine callD hC [] (by kernel_rfl) rfl rfl rfl rfl rfl rfl rfl rfl fun m11 g11 p11 e11 => ?_
    refine ⟨_, take51 (answerS sTgsRep r.client (tkT cps r s) K.key (keyT .empty s) 8 nn r) sTgsRep 3 h7 _ k7.to (by decide), fun v11 u11 q11 s11 hv11 => ?_⟩
    unfold answerS at hv11
    rw [tka] at hv11
    obtain ⟨h11, rfl, k11⟩ := hv11
    obtain ⟨b3, o3, h_x, ea3, hcs_x, k_x⟩ := k11.get (i := 1) (t := tkT cps r s) rfl
    try dsimp only at ea3
    refine runO hC tabOk 60 ?_
    simp [go_sem]
    repeat ((first | refine condT rfl ?_ | refine condF rfl ?_ | refine skD hC rfl rfl rfl ?_); refine runO hC tabOk 60 ?_; simp [go_sem])
    refine vo hC (vo_index hC tabOk rfl rfl rfl rfl rfl rfl (by omega) (by omega)) rfl rfl rfl ?_
    refine runO hC tabOk 60 ?_
    simp [go_sem]
    repeat ((first | refine condT rfl ?_ | refine condF rfl ?_ | refine skD hC rfl rfl rfl ?_); refine runO hC tabOk 60 ?_; simp [go_sem])
    refine vo hC (vo_load1 hC tabOk ((kcs.one 3 rfl).ks Kp.ks (by decide)) rfl rfl rfl rfl) rfl rfl rfl ?_
    refine runO hC tabOk 60 ?_
    simp [go_sem, ye4]
    repeat ((first | refine condT rfl ?_ | refine condF rfl ?_ | refine skD hC rfl rfl rfl ?_); refine runO hC tabOk 60 ?_; simp [go_sem, ye4])
    try (refine runO hC tabOk 60 ?_; simp [go_sem, ye4]; repeat ((first | refine condT rfl ?_ | refine condF rfl ?_ | refine skD hC rfl rfl rfl ?_); refine runO hC tabOk 60 ?_; simp [go_sem, ye4]))
    first | refine call hC [] (by kernel_rfl) rfl rfl rfl rfl rfl fun m12 g12 p12 e12 => ?_ | refine callD hC [] (by kernel_rfl) rfl rfl rfl rfl rfl rfl rfl rfl fun m12 g12 p12 e12 => ?_
    refine ⟨_, pkey38 10 (by simp) (by simp) (ptr bp) bp bm ptrs cps r.svc _ (kp.ks Kp.ks (by decide) (by decide) (by decide) (by decide)), fun v12 u12 q12 s12 hv12 => ?_⟩
    subst hv12
    refine runO hC tabOk 60 ?_
    simp [go_sem]
    repeat ((first | refine condT rfl ?_ | refine condF rfl ?_ | refine skD hC rfl rfl rfl ?_); refine runO hC tabOk 60 ?_; simp [go_sem])
    first | refine call hC [] (by kernel_rfl) rfl rfl rfl rfl rfl fun m13 g13 p13 e13 => ?_ | refine callD hC [] (by kernel_rfl) rfl rfl rfl rfl rfl rfl rfl rfl fun m13 g13 p13 e13 => ?_
    refine ⟨_, key52 b bp _ _ (kc8.ks Kp.ks (by decide) (by decide) (by decide) (by decide) (by decide) (by decide) (by decide) (by decide) (by decide)), fun v13 u13 q13 s13 hv13 => ?_⟩
    try dsimp only at hv13
    rw [xp7] at hv13
    subst hv13
    refine runO hC tabOk 60 ?_
    simp [go_sem, zp3, zp4]
    repeat ((first | refine condT rfl ?_ | refine condF rfl ?_ | refine skD hC rfl rfl rfl ?_); refine runO hC tabOk 60 ?_; simp [go_sem, zp3, zp4])
    try (refine runO hC tabOk 60 ?_; simp [go_sem, zp3, zp4]; repeat ((first | refine condT rfl ?_ | refine condF rfl ?_ | refine skD hC rfl rfl rfl ?_); refine runO hC tabOk 60 ?_; simp [go_sem, zp3, zp4]))
    refine draw hC [(0, 0), (1, 0), (2, 0), (3, 0), (8, 2), (4, 1), (5, 0), (6, 0), (7, 0), (8, 3), (9, 1)] [10] mix (by kernel_rfl) ?_
    refine runO hC tabOk 60 ?_
    simp [go_sem, ea3]
    repeat ((first | refine condT rfl ?_ | refine condF rfl ?_ | refine skD hC rfl rfl rfl ?_); refine runO hC tabOk 60 ?_; simp [go_sem, ea3])
    try (refine runO hC tabOk 60 ?_; simp [go_sem, ea3]; repeat ((first | refine condT rfl ?_ | refine condF rfl ?_ | refine skD hC rfl rfl rfl ?_); refine runO hC tabOk 60 ?_; simp [go_sem, ea3]))
    refine voD hC rfl (vo_index hC tabOk rfl rfl rfl rfl rfl rfl (by omega) (by omega)) rfl rfl rfl rfl ?_
    refine runO hC tabOk 60 ?_
    simp [go_sem]
    repeat ((first | refine condT rfl ?_ | refine condF rfl ?_ | refine skD hC rfl rfl rfl ?_); refine runO hC tabOk 60 ?_; simp [go_sem])
    refine voD hC rfl (vo_load hC tabOk hcs_x.to rfl rfl rfl rfl rfl) rfl rfl rfl rfl ?_
    refine runO hC tabOk 60 ?_
    simp [go_sem]
    repeat ((first | refine condT rfl ?_ | refine condF rfl ?_ | refine skD hC rfl rfl rfl ?_); refine runO hC tabOk 60 ?_; simp [go_sem])
    first | refine call hC [61,62,63] (by kernel_rfl) rfl rfl rfl rfl rfl fun m15 g15 p15 e15 => ?_ | refine callD hC [61,62,63] (by kernel_rfl) rfl rfl rfl rfl rfl rfl rfl rfl fun m15 g15 p15 e15 => ?_
    refine ⟨_, topen53 (tkT cps r s) (pkey cps r.svc).1 h_x ⟨none, 0⟩ _ k_x.to (kkey _) (by have := tw_size (tkT cps r s); omega), fun v15 u15 q15 s15 hv15 => ?_⟩
    rw [xp8] at hv15
    obtain ⟨h15, rfl, k15⟩ := hv15
    refine runO hC tabOk 60 ?_
    simp [go_sem]
    repeat ((first | refine condT rfl ?_ | refine condF rfl ?_ | refine skD hC rfl rfl rfl ?_); refine runO hC tabOk 60 ?_; simp [go_sem])
    have xp9' : verifyS (tkO cps r s).auth (pkey cps r.svc).1 (pkey cps sCentre).1 = (auO cps r, 0) := xp9
    first | refine call hC [61,62,63] (by kernel_rfl) rfl rfl rfl rfl rfl fun m16 g16 p16 e16 => ?_ | refine callD hC [61,62,63] (by kernel_rfl) rfl rfl rfl rfl rfl rfl rfl rfl fun m16 g16 p16 e16 => ?_
    refine ⟨_, verify54 (tkO cps r s).auth (pkey cps r.svc).1 (pkey cps sCentre).1 h15.auth ⟨none, 0⟩ ⟨none, 0⟩ _ k15.auth.to (kkey _) (kcen _) (by have h1 := tw_size (auT cps r); have h2 : tw (tkO cps r s).auth = tw (auT cps r) := rfl; omega), fun v16 u16 q16 s16 hv16 => ?_⟩
    rw [xp9'] at hv16
    obtain ⟨h16, rfl, k16⟩ := hv16
    refine runO hC tabOk 60 ?_
    simp [go_sem]
    repeat ((first | refine condT rfl ?_ | refine condF rfl ?_ | refine skD hC rfl rfl rfl ?_); refine runO hC tabOk 60 ?_; simp [go_sem])
    first | refine call hC [] (by kernel_rfl) rfl rfl rfl rfl rfl fun m17 g17 p17 e17 => ?_ | refine callD hC [] (by kernel_rfl) rfl rfl rfl rfl rfl rfl rfl rfl fun m17 g17 p17 e17 => ?_
    refine ⟨_, take51 t sTgsReq 7 ht _ kt.to (by decide), fun v17 u17 q17 s17 hv17 => ?_⟩
    rw [xp1] at hv17
    obtain ⟨h17, rfl, k17⟩ := hv17
    obtain ⟨b1, o1, h_tk, ea1, hcs_tk, k_tk⟩ := k17.get (i := 4) (t := tk) rfl
    try dsimp only at ea1
    refine runO hC tabOk 60 ?_
    simp [go_sem]
    repeat ((first | refine condT rfl ?_ | refine condF rfl ?_ | refine skD hC rfl rfl rfl ?_); refine runO hC tabOk 60 ?_; simp [go_sem])
    refine draw hC [(0, 0), (1, 0), (2, 0), (3, 0), (8, 2), (4, 1), (5, 0), (6, 0), (7, 0), (8, 3), (9, 1)] [10] mix (by kernel_rfl) ?_
    refine runO hC tabOk 60 ?_
    simp [go_sem, ea1]
    repeat ((first | refine condT rfl ?_ | refine condF rfl ?_ | refine skD hC rfl rfl rfl ?_); refine runO hC tabOk 60 ?_; simp [go_sem, ea1])
    try (refine runO hC tabOk 60 ?_; simp [go_sem, ea1]; repeat ((first | refine condT rfl ?_ | refine condF rfl ?_ | refine skD hC rfl rfl rfl ?_); refine runO hC tabOk 60 ?_; simp [go_sem, ea1]))
    refine voD hC rfl (vo_index hC tabOk rfl rfl rfl rfl rfl rfl (by omega) (by omega)) rfl rfl rfl rfl ?_
    refine runO hC tabOk 60 ?_
    simp [go_sem]
    repeat ((first | refine condT rfl ?_ | refine condF rfl ?_ | refine skD hC rfl rfl rfl ?_); refine runO hC tabOk 60 ?_; simp [go_sem])
    refine voD hC rfl (vo_load hC tabOk hcs_tk.to rfl rfl rfl rfl rfl) rfl rfl rfl rfl ?_
    refine runO hC tabOk 60 ?_
    simp [go_sem]
    repeat ((first | refine condT rfl ?_ | refine condF rfl ?_ | refine skD hC rfl rfl rfl ?_); refine runO hC tabOk 60 ?_; simp [go_sem])
    first | refine call hC [61,62,63] (by kernel_rfl) rfl rfl rfl rfl rfl fun m18 g18 p18 e18 => ?_ | refine callD hC [61,62,63] (by kernel_rfl) rfl rfl rfl rfl rfl rfl rfl rfl fun m18 g18 p18 e18 => ?_
    refine ⟨_, topen53 tk (pkey cps sCentre).1 h_tk ⟨none, 0⟩ _ k_tk.to (kcen _) (by omega), fun v18 u18 q18 s18 hv18 => ?_⟩
    rw [xp2] at hv18
    obtain ⟨h18, rfl, k18⟩ := hv18
    refine runO hC tabOk 60 ?_
    simp [go_sem]
    repeat ((first | refine condT rfl ?_ | refine condF rfl ?_ | refine skD hC rfl rfl rfl ?_); refine runO hC tabOk 60 ?_; simp [go_sem])
    first | refine call hC [61,62,63] (by kernel_rfl) rfl rfl rfl rfl rfl fun m19 g19 p19 e19 => ?_ | refine callD hC [61,62,63] (by kernel_rfl) rfl rfl rfl rfl rfl rfl rfl rfl fun m19 g19 p19 e19 => ?_
    refine ⟨_, verify54 K.auth (pkey cps sCentre).1 (pkey cps sCentre).1 h18.auth ⟨none, 0⟩ ⟨none, 0⟩ _ k18.auth.to (kcen _) (kcen _) (by omega), fun v19 u19 q19 s19 hv19 => ?_⟩
    rw [xp3] at hv19
    obtain ⟨h19, rfl, k19⟩ := hv19
    have f1 : (auO cps r).user = r.user := rfl
    have f2 : (auO cps r).org = 1 := yr1
    have f3 : (auO cps r).tr = [] := yr2
    have f4 : (auO cps r).fwd = true := yr3
    have f5 : (auO cps r).till = r.till := rfl
    have f6 : (tkO cps r s).cl = r.user := yr4
    generalize auO cps r = IS at f1 f2 f3 f4 f5 k16 ⊢
    generalize tkO cps r s = X at f6 k15 ⊢
    refine runO hC tabOk 60 ?_
    simp [go_sem]
    repeat ((first | refine condT rfl ?_ | refine condF rfl ?_ | refine skD hC rfl rfl rfl ?_); refine runO hC tabOk 60 ?_; simp [go_sem])
    refine draw hC [(0, 0), (1, 0), (2, 0), (3, 0), (4, 0), (5, 0), (6, 0), (7, 0), (8, 0), (9, 0), (10, 0), (11, 0), (12, 0), (13, 0), (14, 0), (15, 0), (16, 0), (17, 0), (18, 0), (19, 0), (20, 0), (21, 0), (22, 0), (23, 0), (24, 0), (25, 0), (26, 0), (27, 0), (28, 0), (29, 0), (30, 0), (31, 0), (32, 0), (33, 0), (34, 0), (35, 0), (36, 0), (37, 0), (38, 0), (39, 0), (40, 0), (41, 0), (42, 0), (43, 0), (44, 0), (45, 0), (46, 0), (47, 0), (48, 0), (49, 0), (50, 0), (51, 0), (52, 0), (53, 0), (54, 0), (55, 0), (56, 0), (57, 0), (58, 0), (59, 0), (60, 0), (61, 0), (62, 0), (63, 0), (64, 0), (65, 0), (66, 0), (67, 0), (68, 0), (69, 0), (70, 0), (71, 0), (72, 0), (73, 0), (74, 0)] [75] mix (by kernel_rfl) ?_
    refine runO hC tabOk 60 ?_
    simp [go_sem, f1, f2, f3, f4, f6, zp5, zp6, yw1, yw2, f5, yw3]
    repeat ((first | refine condT rfl ?_ | refine condF rfl ?_ | refine skD hC rfl rfl rfl ?_); refine runO hC tabOk 60 ?_; simp [go_sem, f1, f2, f3, f4, f6, zp5, zp6, yw1, yw2, f5, yw3])
    try (refine runO hC tabOk 60 ?_; simp [go_sem, f1, f2, f3, f4, f6, zp5, zp6, yw1, yw2, f5, yw3]; repeat ((first | refine condT rfl ?_ | refine condF rfl ?_ | refine skD hC rfl rfl rfl ?_); refine runO hC tabOk 60 ?_; simp [go_sem, f1, f2, f3, f4, f6, zp5, zp6, yw1, yw2, f5, yw3]))
    refine voD hC rfl (vo_index hC tabOk rfl rfl rfl rfl rfl rfl (by omega) (by omega)) rfl rfl rfl rfl ?_
    refine runO hC tabOk 60 ?_
    simp [go_sem]
    repeat ((first | refine condT rfl ?_ | refine condF rfl ?_ | refine skD hC rfl rfl rfl ?_); refine runO hC tabOk 60 ?_; simp [go_sem])
    refine voD hC rfl (vo_load1 hC tabOk ((kcs.one 7 rfl).ks Kp.ks (by decide)) rfl rfl rfl rfl) rfl rfl rfl rfl ?_
    refine runO hC tabOk 60 ?_
    simp [go_sem, ye6]
    repeat ((first | refine condT rfl ?_ | refine condF rfl ?_ | refine skD hC rfl rfl rfl ?_); refine runO hC tabOk 60 ?_; simp [go_sem, ye6])
    try (refine runO hC tabOk 60 ?_; simp [go_sem, ye6]; repeat ((first | refine condT rfl ?_ | refine condF rfl ?_ | refine skD hC rfl rfl rfl ?_); refine runO hC tabOk 60 ?_; simp [go_sem, ye6]))
    refine ret hC tabOk (fun _ => 1) rfl rfl fun m gf hl ex => ?_
    rfl
end Go.Proofs.YtobhfopgoidniaaGreat

/- TransitOnly: what is said of it holds at every input. No condition. -/
namespace Go.Proofs.YtobhfopgoidniaaGreat
open Go Go.Eng Go.ChangeShapes Go.WideShapes Go.RowKit
open Go.ChangeMaps (open_string)

set_option maxHeartbeats 1600000 in
set_option maxRecDepth 100000 in
theorem transitOnly_lifted (os : Os) (started : os.Started) (H : Type) (enc : TypeId × Value → H) :
    ReturnsInHanded {} Tryz.checked os 11 .any (Rows.transitOnlySpec.pre6 enc Tryz.prog Tryz.f11 Rows.transitOnlyRow.domain false) (Rows.transitOnlySpec.post enc Tryz.prog Tryz.f11 false true false false) := by
  refine returnsInHanded_of_change_sized (C := Tryz.checked) Tryz.own started (by kernel_rfl) Tryz.func11
    (ChangeSpec.witness6 (enc := enc) (C := Tryz.checked) false ⟨#[], #[.slice none 0 0, .int .i64 0, .agg #[.int .i64 0, .string .empty, .int .i64 0, .slice none 0 0]], []⟩ 8 (by kernel_rfl) (by kernel_rfl) (by kernel_rfl) (by kernel_rfl)) ?_
  intro W base args ds gs before hval0 hW _ hsz0 _
  have hval : ∀ (j : Nat) t v, Tryz.f11.params[j]? = some t → args[j]? = some v → Value.okWide Tryz.prog W .any base t v := hval0
  have hW' : DataW.Whole enc Tryz.prog Tryz.f11.params.toList Rows.transitOnlySpec.vars false W args.toList ds gs before := hW
  have hWk := hW'
  obtain ⟨p, q, hA, hV, _, _, _⟩ := hW'
  obtain ⟨rfl, rfl⟩ := trodVars_none hV
  rw [Tryz.params11] at hA hval
  have hsz : (DataW.weightsEach Tryz.prog (Tryz.f11.params.toList ++ []) (ds ++ [])).all (· ≤ reachBytes) = true := hsz0
  rw [Tryz.params11] at hsz
  obtain ⟨args⟩ := args
  dsimp only at hA hval
  obtain ⟨v0, vr0, d0, dr0, p0, pr0, rfl, rfl, rfl, h0, hA⟩ := trodAll_cons hA
  obtain ⟨v1, vr1, d1, dr1, p1, pr1, rfl, rfl, rfl, h1, hA⟩ := trodAll_cons hA
  obtain ⟨v2, vr2, d2, dr2, p2, pr2, rfl, rfl, rfl, h2, hA⟩ := trodAll_cons hA
  obtain ⟨rfl, rfl, rfl⟩ := trodAll_nil hA
  obtain ⟨l0, hd0, rfl, k0⟩ := open_prs (hval 0 31 v0 rfl rfl) h0
  obtain ⟨n1, rfl⟩ := open_num (hval 1 3 v1 rfl rfl) h1
  obtain ⟨t2, hd2, rfl, k2, kw2⟩ := open_termS (szd_each hsz (j := 2) rfl rfl) (hval 2 25 v2 rfl rfl) h2
  exact law_step (L := [11, 20, 21, 30, 31, 32, 33, 50, 51, 61, 62, 63]) (by kernel_rfl) (by rw [Tryz.params11]; exact reads_of (by kernel_rfl)) hWk rfl rfl (by decide) (law11 l0 hd0 n1 t2 hd2 (g0 W) k0 k2 kw2)

set_option maxHeartbeats 4000000 in
theorem transitOnly_closed : joinedFacts Tryz.prog 11 Tryz.f11 Rows.transitOnlySpec Rows.transitOnlyRow = true :=
  joined_of rfl (by as_aux_lemma => kernel_rfl) (by as_aux_lemma => kernel_rfl) (by as_aux_lemma => kernel_rfl) (by as_aux_lemma => kernel_rfl) (by as_aux_lemma => kernel_rfl) (by as_aux_lemma => kernel_rfl)
    (by as_aux_lemma => kernel_rfl) (by as_aux_lemma => kernel_rfl) (by as_aux_lemma => kernel_rfl) (by as_aux_lemma => kernel_rfl) (by as_aux_lemma => kernel_rfl) (by as_aux_lemma => kernel_rfl)

set_option maxHeartbeats 4000000 in
theorem transitOnly_holds : Rows.TransitOnlySaid :=
  OpenClaim.holds_of_wide 11 Tryz.f11 rfl rfl rfl rfl rfl rfl rfl ⟨rfl, rfl, rfl, rfl, rfl⟩ rfl rfl rfl rfl rfl (by as_aux_lemma => kernel_rfl) Tryz.func11 transitOnly_closed
    (of_decide_eq_true (by kernel_rfl)) (by unfold Func.isWrapper; rw [if_neg (of_decide_eq_false (by kernel_rfl))]; exact ⟨rfl, rfl⟩)
    (fun os started H enc _ => transitOnly_lifted os started H enc)
end Go.Proofs.YtobhfopgoidniaaGreat
