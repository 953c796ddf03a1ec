/- When a ticket for the centre is good. GrantOver: what is said of it holds at every input. No condition. -/
import Derived.Test.YtobhfopgoidniaaGreatNA
import Derived.Test.YtobhfopgoidniaaGreatNE
import Derived.Test.YtobhfopgoidniaaGreatPA
import Derived.Test.YtobhfopgoidniaaGreatPB
import Derived.Test.YtobhfopgoidniaaGreatMA
import Derived.Test.YtobhfopgoidniaaGreatMB
set_option linter.all false
set_option linter.unusedVariables false
set_option linter.unusedSimpArgs false

/- When a ticket for the centre is good. -/
namespace Go.Proofs.YtobhfopgoidniaaGreat
open Go Go.Eng

set_option maxHeartbeats 4000000 in
set_option maxRecDepth 20000 in
theorem law7 (hs : List (Pr × PH)) (h : Hd) (who target : ByteArray) (now at_ : Int) (g : G) (k : LPOk g hs h) (hwho : who.size ≤ maxLen) (htarget : target.size ≤ maxLen) :
    Ok Tryz.prog 7 [.slice h.a hs.length h.cap, .string who, .string target, .int .i64 now, .int .i64 at_] g [11, 20, 21, 30, 31, 32, 33, 50, 51, 61, 62, 63] (fun v _ => v = .bool true) := by
  have hpv := addAll_valid (hs.map (·.1))
  refine fbegin Tryz.func7 rfl Tryz.ntmps7 (Nat.le_of_ble_eq_true rfl) fun C hw hC => ?_
  refine runO hC tabOk 60 ?_
  simp [go_sem]
  repeat ((first | refine condT rfl ?_ | refine condF rfl ?_ | refine skD hC rfl rfl rfl ?_); (refine runO hC tabOk 60 ?_); simp [go_sem])
  first | refine call hC [11,20,21,30,31,32,33,50,51,61,62,63] (by kernel_rfl) rfl rfl rfl rfl rfl fun m1 g1 p1 e1 => ?_ | refine callD hC [11,20,21,30,31,32,33,50,51,61,62,63] (by kernel_rfl) rfl rfl rfl rfl rfl rfl rfl rfl fun m1 g1 p1 e1 => ?_
  refine ⟨_, works45 _, fun v1 u1 q1 s1 hv1 => ?_⟩
  subst hv1
  refine runO hC tabOk 60 ?_
  simp [go_sem]
  repeat ((first | refine condT rfl ?_ | refine condF rfl ?_ | refine skD hC rfl rfl rfl ?_); (refine runO hC tabOk 60 ?_); simp [go_sem])
  first | refine call hC [] (by kernel_rfl) rfl rfl rfl rfl rfl fun m2 g2 p2 e2 => ?_ | refine callD hC [] (by kernel_rfl) rfl rfl rfl rfl rfl rfl rfl rfl fun m2 g2 p2 e2 => ?_
  refine ⟨_, few33 hs h _ k.to, fun v2 u2 q2 s2 hv2 => ?_⟩
  subst hv2
  refine runO hC tabOk 60 ?_
  simp [go_sem]
  repeat ((first | refine condT rfl ?_ | refine condF rfl ?_ | refine skD hC rfl rfl rfl ?_); (refine runO hC tabOk 60 ?_); simp [go_sem])
  first | refine call hC [11,20,21] (by kernel_rfl) rfl rfl rfl rfl rfl fun m3 g3 p3 e3 => ?_ | refine callD hC [11,20,21] (by kernel_rfl) rfl rfl rfl rfl rfl rfl rfl rfl fun m3 g3 p3 e3 => ?_
  refine ⟨_, both34' hs h _ k.to, fun v3 u3 q3 s3 hv3 => ?_⟩
  obtain ⟨bp, br, hs', rfl, kpol, kref, _⟩ := hv3
  generalize hPS : addAll (hs.map (·.1)) = PS at hpv kpol
  have kpol0 := kpol
  obtain ⟨⟨bm, ptrs, kp⟩, kv⟩ := kpol0
  refine runO hC tabOk 60 ?_
  simp [go_sem]
  repeat ((first | refine condT rfl ?_ | refine condF rfl ?_ | refine skD hC rfl rfl rfl ?_); (refine runO hC tabOk 60 ?_); simp [go_sem])
  first | refine call hC [] (by kernel_rfl) rfl rfl rfl rfl rfl fun m4 g4 p4 e4 => ?_ | refine callD hC [] (by kernel_rfl) rfl rfl rfl rfl rfl rfl rfl rfl fun m4 g4 p4 e4 => ?_
  refine ⟨_, pget35 10 (by simp) (by simp) (ptr bp) bp bm ptrs PS who _ (kp.ks Kp.ks (by first | (simp; done) | (simp; omega)) (by first | (simp; done) | (simp; omega)) (by first | (simp; done) | (simp; omega)) (by first | (simp; done) | (simp; omega))) kv, fun v4 u4 q4 s4 hv4 => ?_⟩
  obtain ⟨h4, rfl, k4⟩ := hv4
  refine runO hC tabOk 60 ?_
  simp [go_sem]
  repeat ((first | refine condT rfl ?_ | refine condF rfl ?_ | refine skD hC rfl rfl rfl ?_); (refine runO hC tabOk 60 ?_); simp [go_sem])
  first | refine call hC [] (by kernel_rfl) rfl rfl rfl rfl rfl fun m5 g5 p5 e5 => ?_ | refine callD hC [] (by kernel_rfl) rfl rfl rfl rfl rfl rfl rfl rfl fun m5 g5 p5 e5 => ?_
  refine ⟨_, pget35 10 (by simp) (by simp) (ptr bp) bp bm ptrs PS sCentre _ (kp.ks Kp.ks (by first | (simp; done) | (simp; omega)) (by first | (simp; done) | (simp; omega)) (by first | (simp; done) | (simp; omega)) (by first | (simp; done) | (simp; omega))) kv, fun v5 u5 q5 s5 hv5 => ?_⟩
  obtain ⟨h5, rfl, k5⟩ := hv5
  refine runO hC tabOk 60 ?_
  simp [go_sem]
  repeat ((first | refine condT rfl ?_ | refine condF rfl ?_ | refine skD hC rfl rfl rfl ?_); (refine runO hC tabOk 60 ?_); simp [go_sem])
  first | refine call hC [] (by kernel_rfl) rfl rfl rfl rfl rfl fun m6 g6 p6 e6 => ?_ | refine callD hC [] (by kernel_rfl) rfl rfl rfl rfl rfl rfl rfl rfl fun m6 g6 p6 e6 => ?_
  refine ⟨_, pget35 10 (by simp) (by simp) (ptr bp) bp bm ptrs PS target _ (kp.ks Kp.ks (by first | (simp; done) | (simp; omega)) (by first | (simp; done) | (simp; omega)) (by first | (simp; done) | (simp; omega)) (by first | (simp; done) | (simp; omega))) kv, fun v6 u6 q6 s6 hv6 => ?_⟩
  obtain ⟨h6, rfl, k6⟩ := hv6
  cases c1 : fewB (hs.map (·.1)) with
  | false =>
    refine runO hC tabOk 60 ?_
    simp [go_sem]
    repeat ((first | refine condT rfl ?_ | refine condF rfl ?_ | refine skD hC rfl rfl rfl ?_); (refine runO hC tabOk 60 ?_); simp [go_sem])
    refine ret hC tabOk (fun _ => 1) rfl rfl fun m gf hl ex => ?_
    rfl
  | true =>
  by_cases c2 : (pget PS who).2 = 0
  rotate_left
  · refine runO hC tabOk 60 ?_
    simp [go_sem, c2]
    repeat ((first | refine condT rfl ?_ | refine condF rfl ?_ | refine skD hC rfl rfl rfl ?_); (refine runO hC tabOk 60 ?_); simp [go_sem, c2])
    try (refine runO hC tabOk 60 ?_; simp [go_sem, c2]; repeat ((first | refine condT rfl ?_ | refine condF rfl ?_ | refine skD hC rfl rfl rfl ?_); (refine runO hC tabOk 60 ?_); simp [go_sem, c2]))
    refine ret hC tabOk (fun _ => 1) rfl rfl fun m gf hl ex => ?_
    rfl
  by_cases c3 : (pget PS sCentre).2 = 0
  rotate_left
  · refine runO hC tabOk 60 ?_
    simp [go_sem, c2, c3]
    repeat ((first | refine condT rfl ?_ | refine condF rfl ?_ | refine skD hC rfl rfl rfl ?_); (refine runO hC tabOk 60 ?_); simp [go_sem, c2, c3])
    try (refine runO hC tabOk 60 ?_; simp [go_sem, c2, c3]; repeat ((first | refine condT rfl ?_ | refine condF rfl ?_ | refine skD hC rfl rfl rfl ?_); (refine runO hC tabOk 60 ?_); simp [go_sem, c2, c3]))
    refine ret hC tabOk (fun _ => 1) rfl rfl fun m gf hl ex => ?_
    rfl
  by_cases c9 : (pget PS target).2 = 0
  rotate_left
  · refine runO hC tabOk 60 ?_
    simp [go_sem, c2, c3, c9]
    repeat ((first | refine condT rfl ?_ | refine condF rfl ?_ | refine skD hC rfl rfl rfl ?_); (refine runO hC tabOk 60 ?_); simp [go_sem, c2, c3, c9])
    try (refine runO hC tabOk 60 ?_; simp [go_sem, c2, c3, c9]; repeat ((first | refine condT rfl ?_ | refine condF rfl ?_ | refine skD hC rfl rfl rfl ?_); (refine runO hC tabOk 60 ?_); simp [go_sem, c2, c3, c9]))
    refine ret hC tabOk (fun _ => 1) rfl rfl fun m gf hl ex => ?_
    rfl
  obtain ⟨p, fp, ep⟩ := pget_found c2
  obtain ⟨q, fq, eq⟩ := pget_found c3
  obtain ⟨t, ft, et⟩ := pget_found c9
  rw [ep, eq, et]
  by_cases c4 : now < 0
  · refine runO hC tabOk 60 ?_
    simp [go_sem, c4]
    repeat ((first | refine condT rfl ?_ | refine condF rfl ?_ | refine skD hC rfl rfl rfl ?_); (refine runO hC tabOk 60 ?_); simp [go_sem, c4])
    try (refine runO hC tabOk 60 ?_; simp [go_sem, c4]; repeat ((first | refine condT rfl ?_ | refine condF rfl ?_ | refine skD hC rfl rfl rfl ?_); (refine runO hC tabOk 60 ?_); simp [go_sem, c4]))
    refine ret hC tabOk (fun _ => 1) rfl rfl fun m gf hl ex => ?_
    rfl
  by_cases c5 : 274877906944 < now
  · refine runO hC tabOk 60 ?_
    simp [go_sem, c4, c5]
    repeat ((first | refine condT rfl ?_ | refine condF rfl ?_ | refine skD hC rfl rfl rfl ?_); (refine runO hC tabOk 60 ?_); simp [go_sem, c4, c5])
    try (refine runO hC tabOk 60 ?_; simp [go_sem, c4, c5]; repeat ((first | refine condT rfl ?_ | refine condF rfl ?_ | refine skD hC rfl rfl rfl ?_); (refine runO hC tabOk 60 ?_); simp [go_sem, c4, c5]))
    refine ret hC tabOk (fun _ => 1) rfl rfl fun m gf hl ex => ?_
    rfl
  by_cases c10 : at_ < 0
  · refine runO hC tabOk 60 ?_
    simp [go_sem, c4, c5, c10]
    repeat ((first | refine condT rfl ?_ | refine condF rfl ?_ | refine skD hC rfl rfl rfl ?_); (refine runO hC tabOk 60 ?_); simp [go_sem, c4, c5, c10])
    try (refine runO hC tabOk 60 ?_; simp [go_sem, c4, c5, c10]; repeat ((first | refine condT rfl ?_ | refine condF rfl ?_ | refine skD hC rfl rfl rfl ?_); (refine runO hC tabOk 60 ?_); simp [go_sem, c4, c5, c10]))
    refine ret hC tabOk (fun _ => 1) rfl rfl fun m gf hl ex => ?_
    rfl
  by_cases c11 : 549755813888 < at_
  · refine runO hC tabOk 60 ?_
    simp [go_sem, c4, c5, c10, c11]
    repeat ((first | refine condT rfl ?_ | refine condF rfl ?_ | refine skD hC rfl rfl rfl ?_); (refine runO hC tabOk 60 ?_); simp [go_sem, c4, c5, c10, c11])
    try (refine runO hC tabOk 60 ?_; simp [go_sem, c4, c5, c10, c11]; repeat ((first | refine condT rfl ?_ | refine condF rfl ?_ | refine skD hC rfl rfl rfl ?_); (refine runO hC tabOk 60 ?_); simp [go_sem, c4, c5, c10, c11]))
    refine ret hC tabOk (fun _ => 1) rfl rfl fun m gf hl ex => ?_
    rfl
  by_cases c6 : p.life < 1
  · refine runO hC tabOk 60 ?_
    simp [go_sem, c4, c5, c10, c11, c6]
    repeat ((first | refine condT rfl ?_ | refine condF rfl ?_ | refine skD hC rfl rfl rfl ?_); (refine runO hC tabOk 60 ?_); simp [go_sem, c4, c5, c10, c11, c6])
    try (refine runO hC tabOk 60 ?_; simp [go_sem, c4, c5, c10, c11, c6]; repeat ((first | refine condT rfl ?_ | refine condF rfl ?_ | refine skD hC rfl rfl rfl ?_); (refine runO hC tabOk 60 ?_); simp [go_sem, c4, c5, c10, c11, c6]))
    refine ret hC tabOk (fun _ => 1) rfl rfl fun m gf hl ex => ?_
    rfl
  by_cases c7 : q.life < 1
  · refine runO hC tabOk 60 ?_
    simp [go_sem, c4, c5, c10, c11, c6, c7]
    repeat ((first | refine condT rfl ?_ | refine condF rfl ?_ | refine skD hC rfl rfl rfl ?_); (refine runO hC tabOk 60 ?_); simp [go_sem, c4, c5, c10, c11, c6, c7])
    try (refine runO hC tabOk 60 ?_; simp [go_sem, c4, c5, c10, c11, c6, c7]; repeat ((first | refine condT rfl ?_ | refine condF rfl ?_ | refine skD hC rfl rfl rfl ?_); (refine runO hC tabOk 60 ?_); simp [go_sem, c4, c5, c10, c11, c6, c7]))
    refine ret hC tabOk (fun _ => 1) rfl rfl fun m gf hl ex => ?_
    rfl
  by_cases c8 : t.life < 1
  · refine runO hC tabOk 60 ?_
    simp [go_sem, c4, c5, c10, c11, c6, c7, c8]
    repeat ((first | refine condT rfl ?_ | refine condF rfl ?_ | refine skD hC rfl rfl rfl ?_); (refine runO hC tabOk 60 ?_); simp [go_sem, c4, c5, c10, c11, c6, c7, c8])
    try (refine runO hC tabOk 60 ?_; simp [go_sem, c4, c5, c10, c11, c6, c7, c8]; repeat ((first | refine condT rfl ?_ | refine condF rfl ?_ | refine skD hC rfl rfl rfl ?_); (refine runO hC tabOk 60 ?_); simp [go_sem, c4, c5, c10, c11, c6, c7, c8]))
    refine ret hC tabOk (fun _ => 1) rfl rfl fun m gf hl ex => ?_
    rfl
  have h0 : 0 ≤ now := by omega
  have h1 : now ≤ 549755813888 := by omega
  have hl : 1 ≤ p.life := by omega
  have hl2 : 1 ≤ q.life := by omega
  refine runO hC tabOk 60 ?_
  simp [go_sem, c4, c5, c10, c11, c6, c7, c8]
  repeat ((first | refine condT rfl ?_ | refine condF rfl ?_ | refine skD hC rfl rfl rfl ?_); (refine runO hC tabOk 60 ?_); simp [go_sem, c4, c5, c10, c11, c6, c7, c8])
  try (refine runO hC tabOk 60 ?_; simp [go_sem, c4, c5, c10, c11, c6, c7, c8]; repeat ((first | refine condT rfl ?_ | refine condF rfl ?_ | refine skD hC rfl rfl rfl ?_); (refine runO hC tabOk 60 ?_); simp [go_sem, c4, c5, c10, c11, c6, c7, c8]))
  first | refine call hC [] (by kernel_rfl) rfl rfl rfl rfl rfl fun m7 g7 p7 e7 => ?_ | refine callD hC [] (by kernel_rfl) rfl rfl rfl rfl rfl rfl rfl rfl fun m7 g7 p7 e7 => ?_
  refine ⟨_, lnew37 bp PS 9 _ (kpol.ks Kp.ks (by first | (simp; done) | (simp; omega)) (by first | (simp; done) | (simp; omega)) (by first | (simp; done) | (simp; omega)) (by first | (simp; done) | (simp; omega))), fun v7 u7 q7 s7 hv7 => ?_⟩
  obtain ⟨b, rfl, kc⟩ := hv7
  refine runO hC tabOk 60 ?_
  simp [go_sem]
  repeat ((first | refine condT rfl ?_ | refine condF rfl ?_ | refine skD hC rfl rfl rfl ?_); (refine runO hC tabOk 60 ?_); simp [go_sem])
  first | refine call hC [] (by kernel_rfl) rfl rfl rfl rfl rfl fun m8 g8 p8 e8 => ?_ | refine callD hC [] (by kernel_rfl) rfl rfl rfl rfl rfl rfl rfl rfl fun m8 g8 p8 e8 => ?_
  refine ⟨_, pkey38 10 (by simp) (by simp) (ptr bp) bp bm ptrs PS who _ (kp.ks Kp.ks (by first | (simp; done) | (simp; omega)) (by first | (simp; done) | (simp; omega)) (by first | (simp; done) | (simp; omega)) (by first | (simp; done) | (simp; omega))), fun v8 u8 q8 s8 hv8 => ?_⟩
  subst hv8
  rw [pkey_some fp]
  refine runO hC tabOk 60 ?_
  simp [go_sem]
  repeat ((first | refine condT rfl ?_ | refine condF rfl ?_ | refine skD hC rfl rfl rfl ?_); (refine runO hC tabOk 60 ?_); simp [go_sem])
  first | refine call hC [30,31,32,33,61,62,63] (by kernel_rfl) rfl rfl rfl rfl rfl fun m9 g9 p9 e9 => ?_ | refine callD hC [30,31,32,33,61,62,63] (by kernel_rfl) rfl rfl rfl rfl rfl rfl rfl rfl fun m9 g9 p9 e9 => ?_
  refine ⟨_, in39 b bp ⟨PS, max 9 0, [], 0, []⟩ who (keyT who p.ver) now 1 ⟨none, 0⟩ _ (kc.ks Kp.ks (by first | (simp; done) | (simp; omega)) (by first | (simp; done) | (simp; omega)) (by first | (simp; done) | (simp; omega)) (by first | (simp; done) | (simp; omega)) (by first | (simp; done) | (simp; omega)) (by first | (simp; done) | (simp; omega)) (by first | (simp; done) | (simp; omega)) (by first | (simp; done) | (simp; omega)) (by first | (simp; done) | (simp; omega))) (tok_leaf _ _ _ _ hwho) hwho (Nat.zero_le _) (Nat.zero_le _), fun v9 u9 q9 s9 hv9 => ?_⟩
  obtain ⟨came1, evs1, ein, hc1, he1⟩ := ways_in hpv fp fq h0 h1 hl hl2
  rw [ein] at hv9
  obtain ⟨⟨h9, h9', rfl, k9, k9'⟩, kc9⟩ := hv9
  have hg : Good PS (inGr who p q now) 1 := inGr_good hpv fp fq h0 (by omega) (by omega)
  have hsz := tkT_size hg
  have hl1 := hc1.len
  simp only [List.length_cons, List.length_nil] at hl1
  obtain ⟨a1, a2, a3, cc2, cc3, cc4, e1', e2', e3', ea, eb, ec, hca2, hca3, w1, w2, w3⟩ := over_all (evs1 := evs1) hpv fp fq ft h0 (by omega) (show 0 ≤ at_ by omega) (by omega) hl hl2 (by omega) hc1
  refine runO hC tabOk 60 ?_
  simp [go_sem]
  repeat ((first | refine condT rfl ?_ | refine condF rfl ?_ | refine skD hC rfl rfl rfl ?_); (refine runO hC tabOk 60 ?_); simp [go_sem])
  refine draw hC [(0, 0), (1, 0), (2, 0), (3, 0), (4, 0), (5, 0), (7, 0), (13, 2), (6, 1), (8, 1), (9, 1), (10, 0), (11, 0), (12, 0), (13, 3), (14, 1)] [15] mix (by kernel_rfl) ?_
  refine runO hC tabOk 60 ?_
  simp [go_sem]
  repeat ((first | refine condT rfl ?_ | refine condF rfl ?_ | refine skD hC rfl rfl rfl ?_); (refine runO hC tabOk 60 ?_); simp [go_sem])
  first | refine call hC [] (by kernel_rfl) rfl rfl rfl rfl rfl fun m10 g10 p10 e10 => ?_ | refine callD hC [] (by kernel_rfl) rfl rfl rfl rfl rfl rfl rfl rfl fun m10 g10 p10 e10 => ?_
  refine ⟨_, list56 [] ⟨none, 0⟩ _ (nil_ok _) (by simp), fun v10 u10 q10 s10 hv10 => ?_⟩
  obtain ⟨h10, rfl, k10⟩ := hv10
  refine runO hC tabOk 60 ?_
  simp [go_sem]
  repeat ((first | refine condT rfl ?_ | refine condF rfl ?_ | refine skD hC rfl rfl rfl ?_); (refine runO hC tabOk 60 ?_); simp [go_sem])
  first | refine call hC [] (by kernel_rfl) rfl rfl rfl rfl rfl fun m11 g11 p11 e11 => ?_ | refine callD hC [] (by kernel_rfl) rfl rfl rfl rfl rfl rfl rfl rfl fun m11 g11 p11 e11 => ?_
  refine ⟨_, gask41 sX target who (keyT .empty 1) (tkT PS (inGr who p q now) 1) (listT []) at_ 2 1099511627776 h9' h9 h10 _ k9'.to k9.to k10.to (by decide) htarget hwho, fun v11 u11 q11 s11 hv11 => ?_⟩
  obtain ⟨h11, rfl, k11⟩ := hv11
  refine runO hC tabOk 60 ?_
  simp [go_sem]
  repeat ((first | refine condT rfl ?_ | refine condF rfl ?_ | refine skD hC rfl rfl rfl ?_); (refine runO hC tabOk 60 ?_); simp [go_sem])
  first | refine call hC [32,33,50,51,61,62,63] (by kernel_rfl) rfl rfl rfl rfl rfl fun m12 g12 p12 e12 => ?_ | refine callD hC [32,33,50,51,61,62,63] (by kernel_rfl) rfl rfl rfl rfl rfl rfl rfl rfl fun m12 g12 p12 e12 => ?_
  refine ⟨_, open55 b bp ⟨PS, max 9 0, came1, 1, evs1⟩ at_ (gaskS sX target who (keyT .empty 1) (tkT PS (inGr who p q now) 1) (listT []) at_ 2 1099511627776) h11 _ (kc9.ks Kp.ks (by first | (simp; done) | (simp; omega)) (by first | (simp; done) | (simp; omega)) (by first | (simp; done) | (simp; omega)) (by first | (simp; done) | (simp; omega)) (by first | (simp; done) | (simp; omega)) (by first | (simp; done) | (simp; omega)) (by first | (simp; done) | (simp; omega)) (by first | (simp; done) | (simp; omega)) (by first | (simp; done) | (simp; omega))) k11.to (by rw [gask_size]; simp only [T.size, T.sizes]; omega) (by dsimp only; omega), fun v12 u12 q12 s12 hv12 => ?_⟩
  rw [ea] at hv12
  obtain ⟨⟨h12, rfl, k12⟩, kc12⟩ := hv12
  refine runO hC tabOk 60 ?_
  simp [go_sem]
  repeat ((first | refine condT rfl ?_ | refine condF rfl ?_ | refine skD hC rfl rfl rfl ?_); (refine runO hC tabOk 60 ?_); simp [go_sem])
  refine draw hC [(0, 0), (1, 0), (2, 0), (3, 0), (4, 0), (5, 0), (7, 0), (13, 2), (6, 1), (8, 1), (9, 1), (10, 0), (11, 0), (12, 0), (13, 3), (14, 1)] [15] mix (by kernel_rfl) ?_
  refine runO hC tabOk 60 ?_
  simp [go_sem]
  repeat ((first | refine condT rfl ?_ | refine condF rfl ?_ | refine skD hC rfl rfl rfl ?_); (refine runO hC tabOk 60 ?_); simp [go_sem])
  first | refine call hC [] (by kernel_rfl) rfl rfl rfl rfl rfl fun m13 g13 p13 e13 => ?_ | refine callD hC [] (by kernel_rfl) rfl rfl rfl rfl rfl rfl rfl rfl fun m13 g13 p13 e13 => ?_
  refine ⟨_, list56 [] ⟨none, 0⟩ _ (nil_ok _) (by simp), fun v13 u13 q13 s13 hv13 => ?_⟩
  obtain ⟨h13, rfl, k13⟩ := hv13
  refine runO hC tabOk 60 ?_
  simp [go_sem]
  repeat ((first | refine condT rfl ?_ | refine condF rfl ?_ | refine skD hC rfl rfl rfl ?_); (refine runO hC tabOk 60 ?_); simp [go_sem])
  first | refine call hC [] (by kernel_rfl) rfl rfl rfl rfl rfl fun m14 g14 p14 e14 => ?_ | refine callD hC [] (by kernel_rfl) rfl rfl rfl rfl rfl rfl rfl rfl fun m14 g14 p14 e14 => ?_
  refine ⟨_, gask41 sX target target (keyT .empty 1) (tkT PS (inGr who p q now) 1) (listT []) at_ 3 1099511627776 h9' h9 h13 _ k9'.to k9.to k13.to (by decide) htarget htarget, fun v14 u14 q14 s14 hv14 => ?_⟩
  obtain ⟨h14, rfl, k14⟩ := hv14
  refine runO hC tabOk 60 ?_
  simp [go_sem]
  repeat ((first | refine condT rfl ?_ | refine condF rfl ?_ | refine skD hC rfl rfl rfl ?_); (refine runO hC tabOk 60 ?_); simp [go_sem])
  first | refine call hC [32,33,50,51,61,62,63] (by kernel_rfl) rfl rfl rfl rfl rfl fun m15 g15 p15 e15 => ?_ | refine callD hC [32,33,50,51,61,62,63] (by kernel_rfl) rfl rfl rfl rfl rfl rfl rfl rfl fun m15 g15 p15 e15 => ?_
  refine ⟨_, open55 b bp cc2 at_ (gaskS sX target target (keyT .empty 1) (tkT PS (inGr who p q now) 1) (listT []) at_ 3 1099511627776) h14 _ (kc12.ks Kp.ks (by first | (simp; done) | (simp; omega)) (by first | (simp; done) | (simp; omega)) (by first | (simp; done) | (simp; omega)) (by first | (simp; done) | (simp; omega)) (by first | (simp; done) | (simp; omega)) (by first | (simp; done) | (simp; omega)) (by first | (simp; done) | (simp; omega)) (by first | (simp; done) | (simp; omega)) (by first | (simp; done) | (simp; omega))) k14.to (by rw [gask_size]; simp only [T.size, T.sizes]; omega) (by omega), fun v15 u15 q15 s15 hv15 => ?_⟩
  rw [eb] at hv15
  obtain ⟨⟨h15, rfl, k15⟩, kc15⟩ := hv15
  refine runO hC tabOk 60 ?_
  simp [go_sem]
  repeat ((first | refine condT rfl ?_ | refine condF rfl ?_ | refine skD hC rfl rfl rfl ?_); (refine runO hC tabOk 60 ?_); simp [go_sem])
  refine draw hC [(0, 0), (1, 0), (2, 0), (3, 0), (5, 0), (7, 0), (13, 2), (4, 1), (6, 1), (8, 1), (9, 1), (10, 0), (11, 0), (12, 0), (13, 3), (14, 1)] [15] mix (by kernel_rfl) ?_
  refine runO hC tabOk 60 ?_
  simp [go_sem]
  repeat ((first | refine condT rfl ?_ | refine condF rfl ?_ | refine skD hC rfl rfl rfl ?_); (refine runO hC tabOk 60 ?_); simp [go_sem])
  first | refine call hC [] (by kernel_rfl) rfl rfl rfl rfl rfl fun m16 g16 p16 e16 => ?_ | refine callD hC [] (by kernel_rfl) rfl rfl rfl rfl rfl rfl rfl rfl fun m16 g16 p16 e16 => ?_
  refine ⟨_, key43 .empty 77 _, fun v16 u16 q16 s16 hv16 => ?_⟩
  subst hv16
  refine runO hC tabOk 60 ?_
  simp [go_sem]
  repeat ((first | refine condT rfl ?_ | refine condF rfl ?_ | refine skD hC rfl rfl rfl ?_); (refine runO hC tabOk 60 ?_); simp [go_sem])
  first | refine call hC [] (by kernel_rfl) rfl rfl rfl rfl rfl fun m17 g17 p17 e17 => ?_ | refine callD hC [] (by kernel_rfl) rfl rfl rfl rfl rfl rfl rfl rfl fun m17 g17 p17 e17 => ?_
  refine ⟨_, list56 [] ⟨none, 0⟩ _ (nil_ok _) (by simp), fun v17 u17 q17 s17 hv17 => ?_⟩
  obtain ⟨h17, rfl, k17⟩ := hv17
  refine runO hC tabOk 60 ?_
  simp [go_sem]
  repeat ((first | refine condT rfl ?_ | refine condF rfl ?_ | refine skD hC rfl rfl rfl ?_); (refine runO hC tabOk 60 ?_); simp [go_sem])
  first | refine call hC [] (by kernel_rfl) rfl rfl rfl rfl rfl fun m18 g18 p18 e18 => ?_ | refine callD hC [] (by kernel_rfl) rfl rfl rfl rfl rfl rfl rfl rfl fun m18 g18 p18 e18 => ?_
  refine ⟨_, gask41 sX target who (keyT .empty 77) (tkT PS (inGr who p q now) 1) (listT []) at_ 4 1099511627776 ⟨none, 0⟩ h9 h17 _ (tok_leaf _ _ _ _ (Nat.zero_le _)) k9.to k17.to (by decide) htarget hwho, fun v18 u18 q18 s18 hv18 => ?_⟩
  obtain ⟨h18, rfl, k18⟩ := hv18
  refine runO hC tabOk 60 ?_
  simp [go_sem]
  repeat ((first | refine condT rfl ?_ | refine condF rfl ?_ | refine skD hC rfl rfl rfl ?_); (refine runO hC tabOk 60 ?_); simp [go_sem])
  first | refine call hC [32,33,50,51,61,62,63] (by kernel_rfl) rfl rfl rfl rfl rfl fun m19 g19 p19 e19 => ?_ | refine callD hC [32,33,50,51,61,62,63] (by kernel_rfl) rfl rfl rfl rfl rfl rfl rfl rfl fun m19 g19 p19 e19 => ?_
  refine ⟨_, open55 b bp cc3 at_ (gaskS sX target who (keyT .empty 77) (tkT PS (inGr who p q now) 1) (listT []) at_ 4 1099511627776) h18 _ (kc15.ks Kp.ks (by first | (simp; done) | (simp; omega)) (by first | (simp; done) | (simp; omega)) (by first | (simp; done) | (simp; omega)) (by first | (simp; done) | (simp; omega)) (by first | (simp; done) | (simp; omega)) (by first | (simp; done) | (simp; omega)) (by first | (simp; done) | (simp; omega)) (by first | (simp; done) | (simp; omega)) (by first | (simp; done) | (simp; omega))) k18.to (by rw [gask_size]; simp only [T.size, T.sizes]; omega) (by omega), fun v19 u19 q19 s19 hv19 => ?_⟩
  rw [ec] at hv19
  obtain ⟨⟨h19, rfl, k19⟩, kc19⟩ := hv19
  refine runO hC tabOk 60 ?_
  simp [go_sem]
  repeat ((first | refine condT rfl ?_ | refine condF rfl ?_ | refine skD hC rfl rfl rfl ?_); (refine runO hC tabOk 60 ?_); simp [go_sem])
  refine vo hC (vo_bi (v := .int .i64 (min p.life q.life)) hC rfl rfl (fun m c w => run_min _ _ c _ _ w)) rfl rfl rfl ?_
  have gp := (pfind_good hpv fp).l1
  have hw : IntKind.i64.wrap (now + min p.life q.life) = now + min p.life q.life := wrap_id (by omega) (by omega)
  by_cases d1 : at_ < now
  · obtain ⟨x1, x2, x3⟩ := w1 d1
    subst x1
    subst x2
    subst x3
    refine runO hC tabOk 60 ?_
    simp [go_sem, hw, d1]
    repeat ((first | refine condT rfl ?_ | refine condF rfl ?_ | refine skD hC rfl rfl rfl ?_); (refine runO hC tabOk 60 ?_); simp [go_sem, hw, d1])
    try (refine runO hC tabOk 60 ?_; simp [go_sem, hw, d1]; repeat ((first | refine condT rfl ?_ | refine condF rfl ?_ | refine skD hC rfl rfl rfl ?_); (refine runO hC tabOk 60 ?_); simp [go_sem, hw, d1]))
    refine ret hC tabOk (fun _ => 1) rfl rfl fun m gf hl ex => ?_
    rfl
  by_cases d2 : now + min p.life q.life ≤ at_
  · obtain ⟨x1, x2, x3⟩ := w2 (by omega) d2
    subst x1
    subst x2
    subst x3
    refine runO hC tabOk 60 ?_
    simp [go_sem, hw, d1, d2]
    repeat ((first | refine condT rfl ?_ | refine condF rfl ?_ | refine skD hC rfl rfl rfl ?_); (refine runO hC tabOk 60 ?_); simp [go_sem, hw, d1, d2])
    try (refine runO hC tabOk 60 ?_; simp [go_sem, hw, d1, d2]; repeat ((first | refine condT rfl ?_ | refine condF rfl ?_ | refine skD hC rfl rfl rfl ?_); (refine runO hC tabOk 60 ?_); simp [go_sem, hw, d1, d2]))
    refine ret hC tabOk (fun _ => 1) rfl rfl fun m gf hl ex => ?_
    rfl
  obtain ⟨x1, x2, x3⟩ := w3 (by omega) (by omega)
  subst x1
  subst x3
  by_cases d3 : e2' = 51
  · subst d3
    refine runO hC tabOk 60 ?_
    simp [go_sem, hw, d1, d2]
    repeat ((first | refine condT rfl ?_ | refine condF rfl ?_ | refine skD hC rfl rfl rfl ?_); (refine runO hC tabOk 60 ?_); simp [go_sem, hw, d1, d2])
    try (refine runO hC tabOk 60 ?_; simp [go_sem, hw, d1, d2]; repeat ((first | refine condT rfl ?_ | refine condF rfl ?_ | refine skD hC rfl rfl rfl ?_); (refine runO hC tabOk 60 ?_); simp [go_sem, hw, d1, d2]))
    refine ret hC tabOk (fun _ => 1) rfl rfl fun m gf hl ex => ?_
    rfl
  · obtain rfl : who = target := by
      rcases x2 with x2 | x2
      · exact absurd x2 d3
      · exact x2
    refine runO hC tabOk 60 ?_
    simp [go_sem, hw, d1, d2, d3]
    repeat ((first | refine condT rfl ?_ | refine condF rfl ?_ | refine skD hC rfl rfl rfl ?_); (refine runO hC tabOk 60 ?_); simp [go_sem, hw, d1, d2, d3])
    try (refine runO hC tabOk 60 ?_; simp [go_sem, hw, d1, d2, d3]; repeat ((first | refine condT rfl ?_ | refine condF rfl ?_ | refine skD hC rfl rfl rfl ?_); (refine runO hC tabOk 60 ?_); simp [go_sem, hw, d1, d2, d3]))
    refine ret hC tabOk (fun _ => 1) rfl rfl fun m gf hl ex => ?_
    rfl
end Go.Proofs.YtobhfopgoidniaaGreat

/- GrantOver: what is said of it holds at every input. No condition. -/
namespace Go.Proofs.YtobhfopgoidniaaGreat
open Go Go.Eng Go.ChangeShapes Go.WideShapes Go.RowKit
open Go.ChangeMaps (open_string)

set_option maxHeartbeats 1600000 in
set_option maxRecDepth 100000 in
theorem grantOver_lifted (os : Os) (started : os.Started) (H : Type) (enc : TypeId × Value → H) :
    ReturnsInHanded {} Tryz.checked os 7 .any (Rows.grantOverSpec.pre6 enc Tryz.prog Tryz.f7 Rows.grantOverRow.domain false) (Rows.grantOverSpec.post enc Tryz.prog Tryz.f7 false true false false) := by
  refine returnsInHanded_of_change (C := Tryz.checked) Tryz.own started (by kernel_rfl) Tryz.func7
    (ChangeSpec.witness6 (enc := enc) (C := Tryz.checked) false ⟨#[], #[.slice none 0 0, .string .empty, .string .empty, .int .i64 0, .int .i64 0], []⟩ 8 (by kernel_rfl) (by kernel_rfl) (by kernel_rfl) (by kernel_rfl)) ?_
  intro W base args ds gs before hval0 hW _ _
  have hval : ∀ (j : Nat) t v, Tryz.f7.params[j]? = some t → args[j]? = some v → Value.okWide Tryz.prog W .any base t v := hval0
  have hW' : DataW.Whole enc Tryz.prog Tryz.f7.params.toList Rows.grantOverSpec.vars false W args.toList ds gs before := hW
  have hWk := hW'
  obtain ⟨p, q, hA, hV, _, _, _⟩ := hW'
  obtain ⟨rfl, rfl⟩ := trodVars_none hV
  rw [Tryz.params7] at hA hval
  obtain ⟨args⟩ := args
  dsimp only at hA hval
  obtain ⟨v0, vr0, d0, dr0, p0, pr0, rfl, rfl, rfl, h0, hA⟩ := trodAll_cons hA
  obtain ⟨v1, vr1, d1, dr1, p1, pr1, rfl, rfl, rfl, h1, hA⟩ := trodAll_cons hA
  obtain ⟨v2, vr2, d2, dr2, p2, pr2, rfl, rfl, rfl, h2, hA⟩ := trodAll_cons hA
  obtain ⟨v3, vr3, d3, dr3, p3, pr3, rfl, rfl, rfl, h3, hA⟩ := trodAll_cons hA
  obtain ⟨v4, vr4, d4, dr4, p4, pr4, rfl, rfl, rfl, h4, hA⟩ := trodAll_cons hA
  obtain ⟨rfl, rfl, rfl⟩ := trodAll_nil hA
  obtain ⟨l0, hd0, rfl, k0⟩ := open_prs (hval 0 31 v0 rfl rfl) h0
  obtain ⟨s1, rfl, rfl, _, k1⟩ := open_string Tryz.underlying9 (hval 1 9 v1 rfl rfl) h1
  obtain ⟨s2, rfl, rfl, _, k2⟩ := open_string Tryz.underlying9 (hval 2 9 v2 rfl rfl) h2
  obtain ⟨n3, rfl⟩ := open_num (hval 3 3 v3 rfl rfl) h3
  obtain ⟨n4, rfl⟩ := open_num (hval 4 3 v4 rfl rfl) h4
  exact law_step (L := [11, 20, 21, 30, 31, 32, 33, 50, 51, 61, 62, 63]) (by kernel_rfl) (by rw [Tryz.params7]; exact reads_of (by kernel_rfl)) hWk rfl rfl (by decide) (law7 l0 hd0 s1 s2 n3 n4 (g0 W) k0 k1 k2)

set_option maxHeartbeats 4000000 in
theorem grantOver_closed : joinedFacts Tryz.prog 7 Tryz.f7 Rows.grantOverSpec Rows.grantOverRow = true :=
  joined_of rfl (by as_aux_lemma => kernel_rfl) (by as_aux_lemma => kernel_rfl) (by as_aux_lemma => kernel_rfl) (by as_aux_lemma => kernel_rfl) (by as_aux_lemma => kernel_rfl) (by as_aux_lemma => kernel_rfl)
    (by as_aux_lemma => kernel_rfl) (by as_aux_lemma => kernel_rfl) (by as_aux_lemma => kernel_rfl) (by as_aux_lemma => kernel_rfl) (by as_aux_lemma => kernel_rfl) (by as_aux_lemma => kernel_rfl)

set_option maxHeartbeats 4000000 in
theorem grantOver_holds : Rows.GrantOverSaid :=
  OpenClaim.holds_of_wide 7 Tryz.f7 rfl rfl rfl rfl rfl rfl rfl ⟨rfl, rfl, rfl, rfl, rfl⟩ rfl rfl rfl rfl rfl (by as_aux_lemma => kernel_rfl) Tryz.func7 grantOver_closed
    (of_decide_eq_true (by kernel_rfl)) (by unfold Func.isWrapper; rw [if_neg (of_decide_eq_false (by kernel_rfl))]; exact ⟨rfl, rfl⟩)
    (fun os started H enc _ => grantOver_lifted os started H enc)
end Go.Proofs.YtobhfopgoidniaaGreat
