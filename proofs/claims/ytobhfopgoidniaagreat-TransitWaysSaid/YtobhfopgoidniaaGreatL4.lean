/- A service that is logged in, and trusted, gets tickets to itself. TransitWays: what is said of it holds at every input. No condition. -/
import Derived.Test.YtobhfopgoidniaaGreatNA
import Derived.Test.YtobhfopgoidniaaGreatPA
import Derived.Test.YtobhfopgoidniaaGreatMA
import Derived.Test.YtobhfopgoidniaaGreatMB
set_option linter.all false
set_option linter.unusedVariables false
set_option linter.unusedSimpArgs false

/- A service that is logged in, and trusted, gets tickets to itself. -/
namespace Go.Proofs.YtobhfopgoidniaaGreat
open Go Go.Eng

set_option maxHeartbeats 4000000 in
set_option maxRecDepth 20000 in
theorem law4 (hs : List (Pr × PH)) (h : Hd) (who user other : ByteArray) (now : Int) (g : G) (k : LPOk g hs h) (hwho : who.size ≤ maxLen) (huser : user.size ≤ maxLen) (hother : other.size ≤ maxLen) :
    Ok Tryz.prog 4 [.slice h.a hs.length h.cap, .string who, .string user, .string other, .int .i64 now] g [11, 20, 21, 30, 31, 32, 33, 50, 51, 61, 62, 63] (fun v _ => v = .bool true) := by
  have hpv := addAll_valid (hs.map (·.1))
  refine fbegin Tryz.func4 rfl Tryz.ntmps4 (Nat.le_of_ble_eq_true rfl) fun C hw hC => ?_
  refine runO hC tabOk 60 ?_
  simp [go_sem]
  repeat ((first | refine condT rfl ?_ | refine condF rfl ?_ | refine skD hC rfl rfl rfl ?_); (refine runO hC tabOk 60 ?_); simp [go_sem])
  first | refine call hC [11,20,21,30,31,32,33,50,51,61,62,63] (by kernel_rfl) rfl rfl rfl rfl rfl fun m1 g1 p1 e1 => ?_ | refine callD hC [11,20,21,30,31,32,33,50,51,61,62,63] (by kernel_rfl) rfl rfl rfl rfl rfl rfl rfl rfl fun m1 g1 p1 e1 => ?_
  refine ⟨_, works28 _, fun v1 u1 q1 s1 hv1 => ?_⟩
  subst hv1
  refine runO hC tabOk 60 ?_
  simp [go_sem]
  repeat ((first | refine condT rfl ?_ | refine condF rfl ?_ | refine skD hC rfl rfl rfl ?_); (refine runO hC tabOk 60 ?_); simp [go_sem])
  first | refine call hC [] (by kernel_rfl) rfl rfl rfl rfl rfl fun m2 g2 p2 e2 => ?_ | refine callD hC [] (by kernel_rfl) rfl rfl rfl rfl rfl rfl rfl rfl fun m2 g2 p2 e2 => ?_
  refine ⟨_, few33 hs h _ k.to, fun v2 u2 q2 s2 hv2 => ?_⟩
  subst hv2
  refine runO hC tabOk 60 ?_
  simp [go_sem]
  repeat ((first | refine condT rfl ?_ | refine condF rfl ?_ | refine skD hC rfl rfl rfl ?_); (refine runO hC tabOk 60 ?_); simp [go_sem])
  first | refine call hC [11,20,21] (by kernel_rfl) rfl rfl rfl rfl rfl fun m3 g3 p3 e3 => ?_ | refine callD hC [11,20,21] (by kernel_rfl) rfl rfl rfl rfl rfl rfl rfl rfl fun m3 g3 p3 e3 => ?_
  refine ⟨_, both34' hs h _ k.to, fun v3 u3 q3 s3 hv3 => ?_⟩
  obtain ⟨bp, br, hs', rfl, kpol, kref, _⟩ := hv3
  generalize hPS : addAll (hs.map (·.1)) = PS at hpv kpol
  have kpol0 := kpol
  obtain ⟨⟨bm, ptrs, kp⟩, kv⟩ := kpol0
  refine runO hC tabOk 60 ?_
  simp [go_sem]
  repeat ((first | refine condT rfl ?_ | refine condF rfl ?_ | refine skD hC rfl rfl rfl ?_); (refine runO hC tabOk 60 ?_); simp [go_sem])
  first | refine call hC [] (by kernel_rfl) rfl rfl rfl rfl rfl fun m4 g4 p4 e4 => ?_ | refine callD hC [] (by kernel_rfl) rfl rfl rfl rfl rfl rfl rfl rfl fun m4 g4 p4 e4 => ?_
  refine ⟨_, pget35 10 (by simp) (by simp) (ptr bp) bp bm ptrs PS who _ (kp.ks Kp.ks (by first | (simp; done) | (simp; omega)) (by first | (simp; done) | (simp; omega)) (by first | (simp; done) | (simp; omega)) (by first | (simp; done) | (simp; omega))) kv, fun v4 u4 q4 s4 hv4 => ?_⟩
  obtain ⟨h4, rfl, k4⟩ := hv4
  refine runO hC tabOk 60 ?_
  simp [go_sem]
  repeat ((first | refine condT rfl ?_ | refine condF rfl ?_ | refine skD hC rfl rfl rfl ?_); (refine runO hC tabOk 60 ?_); simp [go_sem])
  first | refine call hC [] (by kernel_rfl) rfl rfl rfl rfl rfl fun m5 g5 p5 e5 => ?_ | refine callD hC [] (by kernel_rfl) rfl rfl rfl rfl rfl rfl rfl rfl fun m5 g5 p5 e5 => ?_
  refine ⟨_, pget35 10 (by simp) (by simp) (ptr bp) bp bm ptrs PS sCentre _ (kp.ks Kp.ks (by first | (simp; done) | (simp; omega)) (by first | (simp; done) | (simp; omega)) (by first | (simp; done) | (simp; omega)) (by first | (simp; done) | (simp; omega))) kv, fun v5 u5 q5 s5 hv5 => ?_⟩
  obtain ⟨h5, rfl, k5⟩ := hv5
  cases c1 : fewB (hs.map (·.1)) with
  | false =>
    refine runO hC tabOk 60 ?_
    simp [go_sem]
    repeat ((first | refine condT rfl ?_ | refine condF rfl ?_ | refine skD hC rfl rfl rfl ?_); (refine runO hC tabOk 60 ?_); simp [go_sem])
    refine ret hC tabOk (fun _ => 1) rfl rfl fun m gf hl ex => ?_
    rfl
  | true =>
  by_cases c2 : (pget PS who).2 = 0
  rotate_left
  · refine runO hC tabOk 60 ?_
    simp [go_sem, c2]
    repeat ((first | refine condT rfl ?_ | refine condF rfl ?_ | refine skD hC rfl rfl rfl ?_); (refine runO hC tabOk 60 ?_); simp [go_sem, c2])
    try (refine runO hC tabOk 60 ?_; simp [go_sem, c2]; repeat ((first | refine condT rfl ?_ | refine condF rfl ?_ | refine skD hC rfl rfl rfl ?_); (refine runO hC tabOk 60 ?_); simp [go_sem, c2]))
    refine ret hC tabOk (fun _ => 1) rfl rfl fun m gf hl ex => ?_
    rfl
  by_cases c3 : (pget PS sCentre).2 = 0
  rotate_left
  · refine runO hC tabOk 60 ?_
    simp [go_sem, c2, c3]
    repeat ((first | refine condT rfl ?_ | refine condF rfl ?_ | refine skD hC rfl rfl rfl ?_); (refine runO hC tabOk 60 ?_); simp [go_sem, c2, c3])
    try (refine runO hC tabOk 60 ?_; simp [go_sem, c2, c3]; repeat ((first | refine condT rfl ?_ | refine condF rfl ?_ | refine skD hC rfl rfl rfl ?_); (refine runO hC tabOk 60 ?_); simp [go_sem, c2, c3]))
    refine ret hC tabOk (fun _ => 1) rfl rfl fun m gf hl ex => ?_
    rfl
  obtain ⟨p, fp, ep⟩ := pget_found c2
  obtain ⟨q, fq, eq⟩ := pget_found c3
  rw [ep] at c2
  rw [eq] at c3
  rw [ep, eq]
  by_cases c4 : now < 0
  · refine runO hC tabOk 60 ?_
    simp [go_sem, c4]
    repeat ((first | refine condT rfl ?_ | refine condF rfl ?_ | refine skD hC rfl rfl rfl ?_); (refine runO hC tabOk 60 ?_); simp [go_sem, c4])
    try (refine runO hC tabOk 60 ?_; simp [go_sem, c4]; repeat ((first | refine condT rfl ?_ | refine condF rfl ?_ | refine skD hC rfl rfl rfl ?_); (refine runO hC tabOk 60 ?_); simp [go_sem, c4]))
    refine ret hC tabOk (fun _ => 1) rfl rfl fun m gf hl ex => ?_
    rfl
  by_cases c5 : 549755813888 < now
  · refine runO hC tabOk 60 ?_
    simp [go_sem, c4, c5]
    repeat ((first | refine condT rfl ?_ | refine condF rfl ?_ | refine skD hC rfl rfl rfl ?_); (refine runO hC tabOk 60 ?_); simp [go_sem, c4, c5])
    try (refine runO hC tabOk 60 ?_; simp [go_sem, c4, c5]; repeat ((first | refine condT rfl ?_ | refine condF rfl ?_ | refine skD hC rfl rfl rfl ?_); (refine runO hC tabOk 60 ?_); simp [go_sem, c4, c5]))
    refine ret hC tabOk (fun _ => 1) rfl rfl fun m gf hl ex => ?_
    rfl
  by_cases c6 : p.life < 1
  · refine runO hC tabOk 60 ?_
    simp [go_sem, c4, c5, c6]
    repeat ((first | refine condT rfl ?_ | refine condF rfl ?_ | refine skD hC rfl rfl rfl ?_); (refine runO hC tabOk 60 ?_); simp [go_sem, c4, c5, c6])
    try (refine runO hC tabOk 60 ?_; simp [go_sem, c4, c5, c6]; repeat ((first | refine condT rfl ?_ | refine condF rfl ?_ | refine skD hC rfl rfl rfl ?_); (refine runO hC tabOk 60 ?_); simp [go_sem, c4, c5, c6]))
    refine ret hC tabOk (fun _ => 1) rfl rfl fun m gf hl ex => ?_
    rfl
  by_cases c7 : q.life < 1
  · refine runO hC tabOk 60 ?_
    simp [go_sem, c4, c5, c6, c7]
    repeat ((first | refine condT rfl ?_ | refine condF rfl ?_ | refine skD hC rfl rfl rfl ?_); (refine runO hC tabOk 60 ?_); simp [go_sem, c4, c5, c6, c7])
    try (refine runO hC tabOk 60 ?_; simp [go_sem, c4, c5, c6, c7]; repeat ((first | refine condT rfl ?_ | refine condF rfl ?_ | refine skD hC rfl rfl rfl ?_); (refine runO hC tabOk 60 ?_); simp [go_sem, c4, c5, c6, c7]))
    refine ret hC tabOk (fun _ => 1) rfl rfl fun m gf hl ex => ?_
    rfl
  refine runO hC tabOk 60 ?_
  simp [go_sem, c4, c5, c6, c7]
  repeat ((first | refine condT rfl ?_ | refine condF rfl ?_ | refine skD hC rfl rfl rfl ?_); (refine runO hC tabOk 60 ?_); simp [go_sem, c4, c5, c6, c7])
  try (refine runO hC tabOk 60 ?_; simp [go_sem, c4, c5, c6, c7]; repeat ((first | refine condT rfl ?_ | refine condF rfl ?_ | refine skD hC rfl rfl rfl ?_); (refine runO hC tabOk 60 ?_); simp [go_sem, c4, c5, c6, c7]))
  first | refine call hC [] (by kernel_rfl) rfl rfl rfl rfl rfl fun m6 g6 p6 e6 => ?_ | refine callD hC [] (by kernel_rfl) rfl rfl rfl rfl rfl rfl rfl rfl fun m6 g6 p6 e6 => ?_
  refine ⟨_, name36 user _ huser, fun v6 u6 q6 s6 hv6 => ?_⟩
  subst hv6
  cases c8 : nameS user with
  | false =>
    refine runO hC tabOk 60 ?_
    simp [go_sem]
    repeat ((first | refine condT rfl ?_ | refine condF rfl ?_ | refine skD hC rfl rfl rfl ?_); (refine runO hC tabOk 60 ?_); simp [go_sem])
    refine ret hC tabOk (fun _ => 1) rfl rfl fun m gf hl ex => ?_
    rfl
  | true =>
  have h0 : 0 ≤ now := by omega
  have h1 : now ≤ 549755813888 := by omega
  have hl : 1 ≤ p.life := by omega
  have hl2 : 1 ≤ q.life := by omega
  refine runO hC tabOk 60 ?_
  simp [go_sem]
  repeat ((first | refine condT rfl ?_ | refine condF rfl ?_ | refine skD hC rfl rfl rfl ?_); (refine runO hC tabOk 60 ?_); simp [go_sem])
  first | refine call hC [] (by kernel_rfl) rfl rfl rfl rfl rfl fun m7 g7 p7 e7 => ?_ | refine callD hC [] (by kernel_rfl) rfl rfl rfl rfl rfl rfl rfl rfl fun m7 g7 p7 e7 => ?_
  refine ⟨_, lnew37 bp PS 9 _ (kpol.ks Kp.ks (by first | (simp; done) | (simp; omega)) (by first | (simp; done) | (simp; omega)) (by first | (simp; done) | (simp; omega)) (by first | (simp; done) | (simp; omega))), fun v7 u7 q7 s7 hv7 => ?_⟩
  obtain ⟨b, rfl, kc⟩ := hv7
  refine runO hC tabOk 60 ?_
  simp [go_sem]
  repeat ((first | refine condT rfl ?_ | refine condF rfl ?_ | refine skD hC rfl rfl rfl ?_); (refine runO hC tabOk 60 ?_); simp [go_sem])
  first | refine call hC [] (by kernel_rfl) rfl rfl rfl rfl rfl fun m8 g8 p8 e8 => ?_ | refine callD hC [] (by kernel_rfl) rfl rfl rfl rfl rfl rfl rfl rfl fun m8 g8 p8 e8 => ?_
  refine ⟨_, pkey38 10 (by simp) (by simp) (ptr bp) bp bm ptrs PS who _ (kp.ks Kp.ks (by first | (simp; done) | (simp; omega)) (by first | (simp; done) | (simp; omega)) (by first | (simp; done) | (simp; omega)) (by first | (simp; done) | (simp; omega))), fun v8 u8 q8 s8 hv8 => ?_⟩
  subst hv8
  rw [pkey_some fp]
  refine runO hC tabOk 60 ?_
  simp [go_sem]
  repeat ((first | refine condT rfl ?_ | refine condF rfl ?_ | refine skD hC rfl rfl rfl ?_); (refine runO hC tabOk 60 ?_); simp [go_sem])
  first | refine call hC [30,31,32,33,61,62,63] (by kernel_rfl) rfl rfl rfl rfl rfl fun m9 g9 p9 e9 => ?_ | refine callD hC [30,31,32,33,61,62,63] (by kernel_rfl) rfl rfl rfl rfl rfl rfl rfl rfl fun m9 g9 p9 e9 => ?_
  refine ⟨_, in39 b bp ⟨PS, max 9 0, [], 0, []⟩ who (keyT who p.ver) now 1 ⟨none, 0⟩ _ (kc.ks Kp.ks (by first | (simp; done) | (simp; omega)) (by first | (simp; done) | (simp; omega)) (by first | (simp; done) | (simp; omega)) (by first | (simp; done) | (simp; omega)) (by first | (simp; done) | (simp; omega)) (by first | (simp; done) | (simp; omega)) (by first | (simp; done) | (simp; omega)) (by first | (simp; done) | (simp; omega)) (by first | (simp; done) | (simp; omega))) (tok_leaf _ _ _ _ hwho) hwho (Nat.zero_le _) (Nat.zero_le _), fun v9 u9 q9 s9 hv9 => ?_⟩
  obtain ⟨came1, evs1, ein, hc1, he1⟩ := ways_in hpv fp fq h0 h1 hl hl2
  rw [ein] at hv9
  obtain ⟨⟨h9, h9', rfl, k9, k9'⟩, kc9⟩ := hv9
  have hg : Good PS (inGr who p q now) 1 := inGr_good hpv fp fq h0 (by omega) (by omega)
  have hsz := tkT_size hg
  obtain ⟨x2, came2, s2, evs2, ea, hc2, he2, ega⟩ := ways_a (user := user) hpv fp fq h0 h1 hl hl2 hc1 he1
  have hl1 := hc1.len
  have hl2' := hc2.len
  simp only [List.length_cons, List.length_nil] at hl1 hl2'
  refine runO hC tabOk 60 ?_
  simp [go_sem]
  repeat ((first | refine condT rfl ?_ | refine condF rfl ?_ | refine skD hC rfl rfl rfl ?_); (refine runO hC tabOk 60 ?_); simp [go_sem])
  refine draw hC [(0, 0), (1, 0), (2, 0), (3, 0), (4, 0), (5, 0), (6, 0), (7, 0), (9, 0), (15, 2), (8, 1), (10, 1), (11, 1), (12, 0), (13, 0), (14, 0), (15, 3), (16, 1)] [17] mix (by kernel_rfl) ?_
  refine runO hC tabOk 60 ?_
  simp [go_sem]
  repeat ((first | refine condT rfl ?_ | refine condF rfl ?_ | refine skD hC rfl rfl rfl ?_); (refine runO hC tabOk 60 ?_); simp [go_sem])
  first | refine call hC [] (by kernel_rfl) rfl rfl rfl rfl rfl fun m10 g10 p10 e10 => ?_ | refine callD hC [] (by kernel_rfl) rfl rfl rfl rfl rfl rfl rfl rfl fun m10 g10 p10 e10 => ?_
  refine ⟨_, extra31 (keyT .empty 1) h9' user _ k9'.to huser, fun v10 u10 q10 s10 hv10 => ?_⟩
  obtain ⟨h10, rfl, k10⟩ := hv10
  refine runO hC tabOk 60 ?_
  simp [go_sem]
  repeat ((first | refine condT rfl ?_ | refine condF rfl ?_ | refine skD hC rfl rfl rfl ?_); (refine runO hC tabOk 60 ?_); simp [go_sem])
  first | refine call hC [] (by kernel_rfl) rfl rfl rfl rfl rfl fun m11 g11 p11 e11 => ?_ | refine callD hC [] (by kernel_rfl) rfl rfl rfl rfl rfl rfl rfl rfl fun m11 g11 p11 e11 => ?_
  refine ⟨_, gask41 sSelf who who (keyT .empty 1) (tkT PS (inGr who p q now) 1) (extraT (keyT .empty 1) user) now 2 1099511627776 h9' h9 h10 _ k9'.to k9.to k10.to (by decide) hwho hwho, fun v11 u11 q11 s11 hv11 => ?_⟩
  obtain ⟨h11, rfl, k11⟩ := hv11
  refine runO hC tabOk 60 ?_
  simp [go_sem]
  repeat ((first | refine condT rfl ?_ | refine condF rfl ?_ | refine skD hC rfl rfl rfl ?_); (refine runO hC tabOk 60 ?_); simp [go_sem])
  first | refine call hC [30,31,32,33,50,51,61,62,63] (by kernel_rfl) rfl rfl rfl rfl rfl fun m12 g12 p12 e12 => ?_ | refine callD hC [30,31,32,33,50,51,61,62,63] (by kernel_rfl) rfl rfl rfl rfl rfl rfl rfl rfl fun m12 g12 p12 e12 => ?_
  refine ⟨_, answer40 b bp ⟨PS, max 9 0, came1, 1, evs1⟩ now (gaskS sSelf who who (keyT .empty 1) (tkT PS (inGr who p q now) 1) (extraT (keyT .empty 1) user) now 2 1099511627776) h11 _ (kc9.ks Kp.ks (by first | (simp; done) | (simp; omega)) (by first | (simp; done) | (simp; omega)) (by first | (simp; done) | (simp; omega)) (by first | (simp; done) | (simp; omega)) (by first | (simp; done) | (simp; omega)) (by first | (simp; done) | (simp; omega)) (by first | (simp; done) | (simp; omega)) (by first | (simp; done) | (simp; omega)) (by first | (simp; done) | (simp; omega))) k11.to (by rw [gask_size, extra_size]; simp only [T.size, T.sizes]; omega) (by dsimp only; omega) (by dsimp only; omega), fun v12 u12 q12 s12 hv12 => ?_⟩
  rw [ea] at hv12
  obtain ⟨⟨h12, rfl, k12⟩, kc12⟩ := hv12
  refine runO hC tabOk 60 ?_
  simp [go_sem]
  repeat ((first | refine condT rfl ?_ | refine condF rfl ?_ | refine skD hC rfl rfl rfl ?_); (refine runO hC tabOk 60 ?_); simp [go_sem])
  first | refine call hC [] (by kernel_rfl) rfl rfl rfl rfl rfl fun m13 g13 p13 e13 => ?_ | refine callD hC [] (by kernel_rfl) rfl rfl rfl rfl rfl rfl rfl rfl fun m13 g13 p13 e13 => ?_
  refine ⟨_, got42 x2 (keyT .empty 1) h12 h9' _ k12.to k9'.to, fun v13 u13 q13 s13 hv13 => ?_⟩
  obtain ⟨h13, h13', rfl, k13, k13'⟩ := hv13
  rw [ega]
  refine runO hC tabOk 60 ?_
  simp [go_sem]
  repeat ((first | refine condT rfl ?_ | refine condF rfl ?_ | refine skD hC rfl rfl rfl ?_); (refine runO hC tabOk 60 ?_); simp [go_sem])
  first | refine call hC [] (by kernel_rfl) rfl rfl rfl rfl rfl fun m14 g14 p14 e14 => ?_ | refine callD hC [] (by kernel_rfl) rfl rfl rfl rfl rfl rfl rfl rfl fun m14 g14 p14 e14 => ?_
  refine ⟨_, pget35 10 (by simp) (by simp) (ptr bp) bp bm ptrs PS user _ (kp.ks Kp.ks (by first | (simp; done) | (simp; omega)) (by first | (simp; done) | (simp; omega)) (by first | (simp; done) | (simp; omega)) (by first | (simp; done) | (simp; omega))) kv, fun v14 u14 q14 s14 hv14 => ?_⟩
  obtain ⟨h14, rfl, k14⟩ := hv14
  have hW : wayW PS p user = if (pget PS user).2 = 0 then (if p.tr = true ∧ (pget PS user).1.se = false then 0 else 61) else 40 := rfl
  generalize wayW PS p user = W at hW ea ⊢
  generalize pget PS user = pu at hW k14 ⊢
  have c9 : pu.2 ≠ 0 ∨ (pu.2 = 0 ∧ p.tr = false) ∨ (pu.2 = 0 ∧ p.tr = true ∧ pu.1.se = true) ∨ (pu.2 = 0 ∧ p.tr = true ∧ pu.1.se = false) := by
    cases p.tr <;> cases pu.1.se <;> simp <;> omega
  rcases c9 with c9 | ⟨c9, c10⟩ | ⟨c9, c10, c11⟩ | ⟨c9, c10, c11⟩
  have hw : W = 40 := by rw [hW]; simp [c9]
  subst hw
  refine runO hC tabOk 60 ?_
  simp [go_sem, c9]
  repeat ((first | refine condT rfl ?_ | refine condF rfl ?_ | refine skD hC rfl rfl rfl ?_); (refine runO hC tabOk 60 ?_); simp [go_sem, c9])
  try (refine runO hC tabOk 60 ?_; simp [go_sem, c9]; repeat ((first | refine condT rfl ?_ | refine condF rfl ?_ | refine skD hC rfl rfl rfl ?_); (refine runO hC tabOk 60 ?_); simp [go_sem, c9]))
  refine vo hC (vo_bin hC rfl rfl rfl (run_bneq Tryz.prog Tryz.underlying4 _ _ _ _)) rfl rfl rfl ?_
  refine runO hC tabOk 60 ?_
  simp [go_sem]
  repeat ((first | refine condT rfl ?_ | refine condF rfl ?_ | refine skD hC rfl rfl rfl ?_); (refine runO hC tabOk 60 ?_); simp [go_sem])
  rotate_left
  have hw : W = 61 := by rw [hW]; simp [c9, c10]
  subst hw
  refine runO hC tabOk 60 ?_
  simp [go_sem, c9, c10]
  repeat ((first | refine condT rfl ?_ | refine condF rfl ?_ | refine skD hC rfl rfl rfl ?_); (refine runO hC tabOk 60 ?_); simp [go_sem, c9, c10])
  try (refine runO hC tabOk 60 ?_; simp [go_sem, c9, c10]; repeat ((first | refine condT rfl ?_ | refine condF rfl ?_ | refine skD hC rfl rfl rfl ?_); (refine runO hC tabOk 60 ?_); simp [go_sem, c9, c10]))
  refine vo hC (vo_bin hC rfl rfl rfl (run_bneq Tryz.prog Tryz.underlying4 _ _ _ _)) rfl rfl rfl ?_
  refine runO hC tabOk 60 ?_
  simp [go_sem]
  repeat ((first | refine condT rfl ?_ | refine condF rfl ?_ | refine skD hC rfl rfl rfl ?_); (refine runO hC tabOk 60 ?_); simp [go_sem])
  rotate_left
  have hw : W = 61 := by rw [hW]; simp [c9, c10, c11]
  subst hw
  refine runO hC tabOk 60 ?_
  simp [go_sem, c9, c10, c11]
  repeat ((first | refine condT rfl ?_ | refine condF rfl ?_ | refine skD hC rfl rfl rfl ?_); (refine runO hC tabOk 60 ?_); simp [go_sem, c9, c10, c11])
  try (refine runO hC tabOk 60 ?_; simp [go_sem, c9, c10, c11]; repeat ((first | refine condT rfl ?_ | refine condF rfl ?_ | refine skD hC rfl rfl rfl ?_); (refine runO hC tabOk 60 ?_); simp [go_sem, c9, c10, c11]))
  refine vo hC (vo_bin hC rfl rfl rfl (run_bneq Tryz.prog Tryz.underlying4 _ _ _ _)) rfl rfl rfl ?_
  refine runO hC tabOk 60 ?_
  simp [go_sem]
  repeat ((first | refine condT rfl ?_ | refine condF rfl ?_ | refine skD hC rfl rfl rfl ?_); (refine runO hC tabOk 60 ?_); simp [go_sem])
  rotate_left
  have hw : W = 0 := by rw [hW]; simp [c9, c10, c11]
  subst hw
  refine runO hC tabOk 60 ?_
  simp [go_sem, c9, c10, c11]
  repeat ((first | refine condT rfl ?_ | refine condF rfl ?_ | refine skD hC rfl rfl rfl ?_); (refine runO hC tabOk 60 ?_); simp [go_sem, c9, c10, c11])
  try (refine runO hC tabOk 60 ?_; simp [go_sem, c9, c10, c11]; repeat ((first | refine condT rfl ?_ | refine condF rfl ?_ | refine skD hC rfl rfl rfl ?_); (refine runO hC tabOk 60 ?_); simp [go_sem, c9, c10, c11]))
  refine vo hC (vo_bin hC rfl rfl rfl (run_bneq Tryz.prog Tryz.underlying4 _ _ _ _)) rfl rfl rfl ?_
  refine runO hC tabOk 60 ?_
  simp [go_sem]
  repeat ((first | refine condT rfl ?_ | refine condF rfl ?_ | refine skD hC rfl rfl rfl ?_); (refine runO hC tabOk 60 ?_); simp [go_sem])
  rotate_left
  all_goals
    obtain ⟨came3, eb, hc3⟩ := ways_b (s2 := s2) (evs2 := evs2) (user := user) hpv fp fq h0 h1 hl hl2 hc2
    have hl3' := hc3.len
    simp only [List.length_cons, List.length_nil] at hl3'
    refine draw hC [(0, 0), (1, 0), (2, 0), (3, 0), (4, 0), (5, 0), (7, 0), (9, 0), (15, 2), (6, 1), (8, 1), (10, 1), (11, 1), (12, 0), (13, 0), (14, 0), (15, 3), (16, 1)] [17] mix (by kernel_rfl) ?_
    refine runO hC tabOk 60 ?_
    simp [go_sem]
    repeat ((first | refine condT rfl ?_ | refine condF rfl ?_ | refine skD hC rfl rfl rfl ?_); (refine runO hC tabOk 60 ?_); simp [go_sem])
    first | refine call hC [] (by kernel_rfl) rfl rfl rfl rfl rfl fun m15 g15 p15 e15 => ?_ | refine callD hC [] (by kernel_rfl) rfl rfl rfl rfl rfl rfl rfl rfl fun m15 g15 p15 e15 => ?_
    refine ⟨_, key43 .empty 99 _, fun v15 u15 q15 s15 hv15 => ?_⟩
    subst hv15
    refine runO hC tabOk 60 ?_
    simp [go_sem]
    repeat ((first | refine condT rfl ?_ | refine condF rfl ?_ | refine skD hC rfl rfl rfl ?_); (refine runO hC tabOk 60 ?_); simp [go_sem])
    first | refine call hC [] (by kernel_rfl) rfl rfl rfl rfl rfl fun m16 g16 p16 e16 => ?_ | refine callD hC [] (by kernel_rfl) rfl rfl rfl rfl rfl rfl rfl rfl fun m16 g16 p16 e16 => ?_
    refine ⟨_, extra31 (keyT .empty 99) ⟨none, 0⟩ user _ (tok_leaf _ _ _ _ (Nat.zero_le _)) huser, fun v16 u16 q16 s16 hv16 => ?_⟩
    obtain ⟨h16, rfl, k16⟩ := hv16
    refine runO hC tabOk 60 ?_
    simp [go_sem]
    repeat ((first | refine condT rfl ?_ | refine condF rfl ?_ | refine skD hC rfl rfl rfl ?_); (refine runO hC tabOk 60 ?_); simp [go_sem])
    first | refine call hC [] (by kernel_rfl) rfl rfl rfl rfl rfl fun m17 g17 p17 e17 => ?_ | refine callD hC [] (by kernel_rfl) rfl rfl rfl rfl rfl rfl rfl rfl fun m17 g17 p17 e17 => ?_
    refine ⟨_, gask41 sSelf who who (keyT .empty 1) (tkT PS (inGr who p q now) 1) (extraT (keyT .empty 99) user) now 3 1099511627776 h9' h9 h16 _ k9'.to k9.to k16.to (by decide) hwho hwho, fun v17 u17 q17 s17 hv17 => ?_⟩
    obtain ⟨h17, rfl, k17⟩ := hv17
    refine runO hC tabOk 60 ?_
    simp [go_sem]
    repeat ((first | refine condT rfl ?_ | refine condF rfl ?_ | refine skD hC rfl rfl rfl ?_); (refine runO hC tabOk 60 ?_); simp [go_sem])
    first | refine call hC [30,31,32,33,50,51,61,62,63] (by kernel_rfl) rfl rfl rfl rfl rfl fun m18 g18 p18 e18 => ?_ | refine callD hC [30,31,32,33,50,51,61,62,63] (by kernel_rfl) rfl rfl rfl rfl rfl rfl rfl rfl fun m18 g18 p18 e18 => ?_
    refine ⟨_, answer40 b bp ⟨PS, max 9 0, came2, s2, evs2⟩ now (gaskS sSelf who who (keyT .empty 1) (tkT PS (inGr who p q now) 1) (extraT (keyT .empty 99) user) now 3 1099511627776) h17 _ (kc12.ks Kp.ks (by first | (simp; done) | (simp; omega)) (by first | (simp; done) | (simp; omega)) (by first | (simp; done) | (simp; omega)) (by first | (simp; done) | (simp; omega)) (by first | (simp; done) | (simp; omega)) (by first | (simp; done) | (simp; omega)) (by first | (simp; done) | (simp; omega)) (by first | (simp; done) | (simp; omega)) (by first | (simp; done) | (simp; omega))) k17.to (by rw [gask_size, extra_size]; simp only [T.size, T.sizes]; omega) (by dsimp only; omega) (by dsimp only; omega), fun v18 u18 q18 s18 hv18 => ?_⟩
    rw [eb] at hv18
    obtain ⟨⟨h18, rfl, k18⟩, kc18⟩ := hv18
    refine runO hC tabOk 60 ?_
    simp [go_sem]
    repeat ((first | refine condT rfl ?_ | refine condF rfl ?_ | refine skD hC rfl rfl rfl ?_); (refine runO hC tabOk 60 ?_); simp [go_sem])
    refine draw hC [(0, 0), (1, 1)] [2, 3, 4, 5, 6] mix (by kernel_rfl) ?_
    refine runO hC tabOk 60 ?_
    simp [go_sem]
    repeat ((first | refine condT rfl ?_ | refine condF rfl ?_ | refine skD hC rfl rfl rfl ?_); (refine runO hC tabOk 60 ?_); simp [go_sem])
    first | refine call hC [] (by kernel_rfl) rfl rfl rfl rfl rfl fun m19 g19 p19 e19 => ?_ | refine callD hC [] (by kernel_rfl) rfl rfl rfl rfl rfl rfl rfl rfl fun m19 g19 p19 e19 => ?_
    refine ⟨_, key43 .empty 99 _, fun v19 u19 q19 s19 hv19 => ?_⟩
    subst hv19
    refine runO hC tabOk 60 ?_
    simp [go_sem]
    repeat ((first | refine condT rfl ?_ | refine condF rfl ?_ | refine skD hC rfl rfl rfl ?_); (refine runO hC tabOk 60 ?_); simp [go_sem])
    first | refine call hC [] (by kernel_rfl) rfl rfl rfl rfl rfl fun m20 g20 p20 e20 => ?_ | refine callD hC [] (by kernel_rfl) rfl rfl rfl rfl rfl rfl rfl rfl fun m20 g20 p20 e20 => ?_
    refine ⟨_, same44 (keyT .empty 1) (keyT .empty 99) h9' ⟨none, 0⟩ _ k9'.to (tok_leaf _ _ _ _ (Nat.zero_le _)), fun v20 u20 q20 s20 hv20 => ?_⟩
    subst hv20
    have hd20 : decide (keyT .empty 1 = keyT .empty 99) = false := by simp
    refine runO hC tabOk 60 ?_
    simp [go_sem, hd20]
    repeat ((first | refine condT rfl ?_ | refine condF rfl ?_ | refine skD hC rfl rfl rfl ?_); (refine runO hC tabOk 60 ?_); simp [go_sem, hd20])
    try (refine runO hC tabOk 60 ?_; simp [go_sem, hd20]; repeat ((first | refine condT rfl ?_ | refine condF rfl ?_ | refine skD hC rfl rfl rfl ?_); (refine runO hC tabOk 60 ?_); simp [go_sem, hd20]))
    first | refine call hC [] (by kernel_rfl) rfl rfl rfl rfl rfl fun m21 g21 p21 e21 => ?_ | refine callD hC [] (by kernel_rfl) rfl rfl rfl rfl rfl rfl rfl rfl fun m21 g21 p21 e21 => ?_
    refine ⟨_, pget35 10 (by simp) (by simp) (ptr bp) bp bm ptrs PS other _ (kp.ks Kp.ks (by first | (simp; done) | (simp; omega)) (by first | (simp; done) | (simp; omega)) (by first | (simp; done) | (simp; omega)) (by first | (simp; done) | (simp; omega))) kv, fun v21 u21 q21 s21 hv21 => ?_⟩
    obtain ⟨h21, rfl, k21⟩ := hv21
    refine runO hC tabOk 60 ?_
    simp [go_sem]
    repeat ((first | refine condT rfl ?_ | refine condF rfl ?_ | refine skD hC rfl rfl rfl ?_); (refine runO hC tabOk 60 ?_); simp [go_sem])
    first | refine call hC [] (by kernel_rfl) rfl rfl rfl rfl rfl fun m22 g22 p22 e22 => ?_ | refine callD hC [] (by kernel_rfl) rfl rfl rfl rfl rfl rfl rfl rfl fun m22 g22 p22 e22 => ?_
    refine ⟨_, pget35 10 (by simp) (by simp) (ptr bp) bp bm ptrs PS other _ (kp.ks Kp.ks (by first | (simp; done) | (simp; omega)) (by first | (simp; done) | (simp; omega)) (by first | (simp; done) | (simp; omega)) (by first | (simp; done) | (simp; omega))) kv, fun v22 u22 q22 s22 hv22 => ?_⟩
    obtain ⟨h22, rfl, k22⟩ := hv22
    by_cases c12 : (pget PS other).2 = 0
    rotate_left
    · refine runO hC tabOk 60 ?_
      simp [go_sem, c12]
      repeat ((first | refine condT rfl ?_ | refine condF rfl ?_ | refine skD hC rfl rfl rfl ?_); (refine runO hC tabOk 60 ?_); simp [go_sem, c12])
      try (refine runO hC tabOk 60 ?_; simp [go_sem, c12]; repeat ((first | refine condT rfl ?_ | refine condF rfl ?_ | refine skD hC rfl rfl rfl ?_); (refine runO hC tabOk 60 ?_); simp [go_sem, c12]))
      refine ret hC tabOk (fun _ => 1) rfl rfl fun m gf hl ex => ?_
      rfl
    obtain ⟨o, fo, eo⟩ := pget_found c12
    rw [eo]
    by_cases c13 : other = who
    · refine runO hC tabOk 60 ?_
      simp [go_sem, c13]
      repeat ((first | refine condT rfl ?_ | refine condF rfl ?_ | refine skD hC rfl rfl rfl ?_); (refine runO hC tabOk 60 ?_); simp [go_sem, c13])
      try (refine runO hC tabOk 60 ?_; simp [go_sem, c13]; repeat ((first | refine condT rfl ?_ | refine condF rfl ?_ | refine skD hC rfl rfl rfl ?_); (refine runO hC tabOk 60 ?_); simp [go_sem, c13]))
      refine ret hC tabOk (fun _ => 1) rfl rfl fun m gf hl ex => ?_
      rfl
    by_cases c14 : o.life < 1
    · refine runO hC tabOk 60 ?_
      simp [go_sem, c13, c14]
      repeat ((first | refine condT rfl ?_ | refine condF rfl ?_ | refine skD hC rfl rfl rfl ?_); (refine runO hC tabOk 60 ?_); simp [go_sem, c13, c14])
      try (refine runO hC tabOk 60 ?_; simp [go_sem, c13, c14]; repeat ((first | refine condT rfl ?_ | refine condF rfl ?_ | refine skD hC rfl rfl rfl ?_); (refine runO hC tabOk 60 ?_); simp [go_sem, c13, c14]))
      refine ret hC tabOk (fun _ => 1) rfl rfl fun m gf hl ex => ?_
      rfl
    refine runO hC tabOk 60 ?_
    simp [go_sem, c13, c14]
    repeat ((first | refine condT rfl ?_ | refine condF rfl ?_ | refine skD hC rfl rfl rfl ?_); (refine runO hC tabOk 60 ?_); simp [go_sem, c13, c14])
    try (refine runO hC tabOk 60 ?_; simp [go_sem, c13, c14]; repeat ((first | refine condT rfl ?_ | refine condF rfl ?_ | refine skD hC rfl rfl rfl ?_); (refine runO hC tabOk 60 ?_); simp [go_sem, c13, c14]))
    obtain ⟨c4', ec⟩ := ways_c (s2 := s2) (evs2 := evs2) (user := user) hpv fp fq fo (by omega) c13 h0 h1 hl hl2 hc3
    refine draw hC [(0, 0), (1, 0), (2, 0), (3, 0), (4, 0), (5, 0), (6, 0), (7, 0), (9, 0), (15, 2), (8, 1), (10, 1), (11, 1), (12, 0), (13, 0), (14, 0), (15, 3), (16, 1)] [17] mix (by kernel_rfl) ?_
    refine runO hC tabOk 60 ?_
    simp [go_sem]
    repeat ((first | refine condT rfl ?_ | refine condF rfl ?_ | refine skD hC rfl rfl rfl ?_); (refine runO hC tabOk 60 ?_); simp [go_sem])
    first | refine call hC [] (by kernel_rfl) rfl rfl rfl rfl rfl fun m23 g23 p23 e23 => ?_ | refine callD hC [] (by kernel_rfl) rfl rfl rfl rfl rfl rfl rfl rfl fun m23 g23 p23 e23 => ?_
    refine ⟨_, extra31 (keyT .empty 1) h9' user _ k9'.to huser, fun v23 u23 q23 s23 hv23 => ?_⟩
    obtain ⟨h23, rfl, k23⟩ := hv23
    refine runO hC tabOk 60 ?_
    simp [go_sem]
    repeat ((first | refine condT rfl ?_ | refine condF rfl ?_ | refine skD hC rfl rfl rfl ?_); (refine runO hC tabOk 60 ?_); simp [go_sem])
    first | refine call hC [] (by kernel_rfl) rfl rfl rfl rfl rfl fun m24 g24 p24 e24 => ?_ | refine callD hC [] (by kernel_rfl) rfl rfl rfl rfl rfl rfl rfl rfl fun m24 g24 p24 e24 => ?_
    refine ⟨_, gask41 sSelf other who (keyT .empty 1) (tkT PS (inGr who p q now) 1) (extraT (keyT .empty 1) user) now 4 1099511627776 h9' h9 h23 _ k9'.to k9.to k23.to (by decide) hother hwho, fun v24 u24 q24 s24 hv24 => ?_⟩
    obtain ⟨h24, rfl, k24⟩ := hv24
    refine runO hC tabOk 60 ?_
    simp [go_sem]
    repeat ((first | refine condT rfl ?_ | refine condF rfl ?_ | refine skD hC rfl rfl rfl ?_); (refine runO hC tabOk 60 ?_); simp [go_sem])
    first | refine call hC [30,31,32,33,50,51,61,62,63] (by kernel_rfl) rfl rfl rfl rfl rfl fun m25 g25 p25 e25 => ?_ | refine callD hC [30,31,32,33,50,51,61,62,63] (by kernel_rfl) rfl rfl rfl rfl rfl rfl rfl rfl fun m25 g25 p25 e25 => ?_
    refine ⟨_, answer40 b bp ⟨PS, max 9 0, came3, s2, evs2⟩ now (gaskS sSelf other who (keyT .empty 1) (tkT PS (inGr who p q now) 1) (extraT (keyT .empty 1) user) now 4 1099511627776) h24 _ (kc18.ks Kp.ks (by first | (simp; done) | (simp; omega)) (by first | (simp; done) | (simp; omega)) (by first | (simp; done) | (simp; omega)) (by first | (simp; done) | (simp; omega)) (by first | (simp; done) | (simp; omega)) (by first | (simp; done) | (simp; omega)) (by first | (simp; done) | (simp; omega)) (by first | (simp; done) | (simp; omega)) (by first | (simp; done) | (simp; omega))) k24.to (by rw [gask_size, extra_size]; simp only [T.size, T.sizes]; omega) (by dsimp only; omega) (by dsimp only; omega), fun v25 u25 q25 s25 hv25 => ?_⟩
    rw [ec] at hv25
    obtain ⟨⟨h25, rfl, k25⟩, kc25⟩ := hv25
    refine runO hC tabOk 60 ?_
    simp [go_sem]
    repeat ((first | refine condT rfl ?_ | refine condF rfl ?_ | refine skD hC rfl rfl rfl ?_); (refine runO hC tabOk 60 ?_); simp [go_sem])
    refine ret hC tabOk (fun _ => 1) rfl rfl fun m gf hl ex => ?_
    rfl
end Go.Proofs.YtobhfopgoidniaaGreat

/- TransitWays: what is said of it holds at every input. No condition. -/
namespace Go.Proofs.YtobhfopgoidniaaGreat
open Go Go.Eng Go.ChangeShapes Go.WideShapes Go.RowKit
open Go.ChangeMaps (open_string)

set_option maxHeartbeats 1600000 in
set_option maxRecDepth 100000 in
theorem transitWays_lifted (os : Os) (started : os.Started) (H : Type) (enc : TypeId × Value → H) :
    ReturnsInHanded {} Tryz.checked os 4 .any (Rows.transitWaysSpec.pre6 enc Tryz.prog Tryz.f4 Rows.transitWaysRow.domain false) (Rows.transitWaysSpec.post enc Tryz.prog Tryz.f4 false true false false) := by
  refine returnsInHanded_of_change (C := Tryz.checked) Tryz.own started (by kernel_rfl) Tryz.func4
    (ChangeSpec.witness6 (enc := enc) (C := Tryz.checked) false ⟨#[], #[.slice none 0 0, .string .empty, .string .empty, .string .empty, .int .i64 0], []⟩ 8 (by kernel_rfl) (by kernel_rfl) (by kernel_rfl) (by kernel_rfl)) ?_
  intro W base args ds gs before hval0 hW _ _
  have hval : ∀ (j : Nat) t v, Tryz.f4.params[j]? = some t → args[j]? = some v → Value.okWide Tryz.prog W .any base t v := hval0
  have hW' : DataW.Whole enc Tryz.prog Tryz.f4.params.toList Rows.transitWaysSpec.vars false W args.toList ds gs before := hW
  have hWk := hW'
  obtain ⟨p, q, hA, hV, _, _, _⟩ := hW'
  obtain ⟨rfl, rfl⟩ := trodVars_none hV
  rw [Tryz.params4] at hA hval
  obtain ⟨args⟩ := args
  dsimp only at hA hval
  obtain ⟨v0, vr0, d0, dr0, p0, pr0, rfl, rfl, rfl, h0, hA⟩ := trodAll_cons hA
  obtain ⟨v1, vr1, d1, dr1, p1, pr1, rfl, rfl, rfl, h1, hA⟩ := trodAll_cons hA
  obtain ⟨v2, vr2, d2, dr2, p2, pr2, rfl, rfl, rfl, h2, hA⟩ := trodAll_cons hA
  obtain ⟨v3, vr3, d3, dr3, p3, pr3, rfl, rfl, rfl, h3, hA⟩ := trodAll_cons hA
  obtain ⟨v4, vr4, d4, dr4, p4, pr4, rfl, rfl, rfl, h4, hA⟩ := trodAll_cons hA
  obtain ⟨rfl, rfl, rfl⟩ := trodAll_nil hA
  obtain ⟨l0, hd0, rfl, k0⟩ := open_prs (hval 0 31 v0 rfl rfl) h0
  obtain ⟨s1, rfl, rfl, _, k1⟩ := open_string Tryz.underlying9 (hval 1 9 v1 rfl rfl) h1
  obtain ⟨s2, rfl, rfl, _, k2⟩ := open_string Tryz.underlying9 (hval 2 9 v2 rfl rfl) h2
  obtain ⟨s3, rfl, rfl, _, k3⟩ := open_string Tryz.underlying9 (hval 3 9 v3 rfl rfl) h3
  obtain ⟨n4, rfl⟩ := open_num (hval 4 3 v4 rfl rfl) h4
  exact law_step (L := [11, 20, 21, 30, 31, 32, 33, 50, 51, 61, 62, 63]) (by kernel_rfl) (by rw [Tryz.params4]; exact reads_of (by kernel_rfl)) hWk rfl rfl (by decide) (law4 l0 hd0 s1 s2 s3 n4 (g0 W) k0 k1 k2 k3)

set_option maxHeartbeats 4000000 in
theorem transitWays_closed : joinedFacts Tryz.prog 4 Tryz.f4 Rows.transitWaysSpec Rows.transitWaysRow = true :=
  joined_of rfl (by as_aux_lemma => kernel_rfl) (by as_aux_lemma => kernel_rfl) (by as_aux_lemma => kernel_rfl) (by as_aux_lemma => kernel_rfl) (by as_aux_lemma => kernel_rfl) (by as_aux_lemma => kernel_rfl)
    (by as_aux_lemma => kernel_rfl) (by as_aux_lemma => kernel_rfl) (by as_aux_lemma => kernel_rfl) (by as_aux_lemma => kernel_rfl) (by as_aux_lemma => kernel_rfl) (by as_aux_lemma => kernel_rfl)

set_option maxHeartbeats 4000000 in
theorem transitWays_holds : Rows.TransitWaysSaid :=
  OpenClaim.holds_of_wide 4 Tryz.f4 rfl rfl rfl rfl rfl rfl rfl ⟨rfl, rfl, rfl, rfl, rfl⟩ rfl rfl rfl rfl rfl (by as_aux_lemma => kernel_rfl) Tryz.func4 transitWays_closed
    (of_decide_eq_true (by kernel_rfl)) (by unfold Func.isWrapper; rw [if_neg (of_decide_eq_false (by kernel_rfl))]; exact ⟨rfl, rfl⟩)
    (fun os started H enc _ => transitWays_lifted os started H enc)
end Go.Proofs.YtobhfopgoidniaaGreat
