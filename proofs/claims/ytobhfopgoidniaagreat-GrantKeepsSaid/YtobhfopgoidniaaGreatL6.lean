/- What is got is for the same user, by the same services, and lasts no longer. GrantKeeps: what is said of it holds at every input. No condition. -/
import Derived.Test.YtobhfopgoidniaaGreatNE
import Derived.Test.YtobhfopgoidniaaGreatVA
import Derived.Test.YtobhfopgoidniaaGreatPD
import Derived.Test.YtobhfopgoidniaaGreatMA
import Derived.Test.YtobhfopgoidniaaGreatMC
set_option linter.all false
set_option linter.unusedVariables false
set_option linter.unusedSimpArgs false

/- What is got is for the same user, by the same services, and lasts no longer. -/
namespace Go.Eng
open Go
theorem run_rem (P : Program) (t : Nat) (x y : Operand) (a b : Int) (hb : b ≠ 0) (w : World) : ((do eqGuard .rem t x y (.int .i64 a) (.int .i64 b); binOp .rem t (.int .i64 a) (.int .i64 b) : Sem Value)).run P w = .ok (.int .i64 (a.tmod b)) w := by
  have h1 : binOp .rem t (.int .i64 a) (.int .i64 b) = Op.intDiv .rem .i64 a b := rfl
  have h2 : (eqGuard .rem t x y (.int .i64 a) (.int .i64 b) : Sem Unit).run P w = .ok () w := rfl
  rw [Sem.run_bind, h2, Result.andThen_ok, h1]
  unfold Op.intDiv
  rw [if_neg hb]
  rfl
theorem run_quo (P : Program) (t : Nat) (x y : Operand) (a b : Int) (hb : b ≠ 0) (w : World) : ((do eqGuard .quo t x y (.int .i64 a) (.int .i64 b); binOp .quo t (.int .i64 a) (.int .i64 b) : Sem Value)).run P w = .ok (.int .i64 (IntKind.i64.wrap (a.tdiv b))) w := by
  have h1 : binOp .quo t (.int .i64 a) (.int .i64 b) = Op.intDiv .quo .i64 a b := rfl
  have h2 : (eqGuard .quo t x y (.int .i64 a) (.int .i64 b) : Sem Unit).run P w = .ok () w := rfl
  rw [Sem.run_bind, h2, Result.andThen_ok, h1]
  unfold Op.intDiv
  rw [if_neg hb]
  rfl
end Go.Eng

namespace Go.Proofs.YtobhfopgoidniaaGreat
open Go Go.Eng

set_option maxHeartbeats 4000000 in
set_option maxRecDepth 20000 in
theorem law6 (hs : List (Pr × PH)) (h : Hd) (now : Int) (t : T) (ht : Hd) (l : List (Stp × Hd)) (hl : Hd) (g : G) (k : LPOk g hs h) (kt : TOk g t ht) (kl : LStOk g l hl) (htw : tw t ≤ 2513169434843) :
    Ok Tryz.prog 6 [.slice h.a hs.length h.cap, .int .i64 now, tv t ht, .slice hl.a l.length hl.cap] g [11, 20, 21, 30, 31, 32, 33, 50, 51, 61, 62, 63] (fun v _ => v = .bool true) := by
  have hpv := addAll_valid (hs.map (·.1))
  refine fbegin Tryz.func6 rfl Tryz.ntmps6 (Nat.le_of_ble_eq_true rfl) fun C hw hC => ?_
  refine runO hC tabOk 60 ?_
  simp [go_sem]
  repeat ((first | refine condT rfl ?_ | refine condF rfl ?_ | refine skD hC rfl rfl rfl ?_); refine runO hC tabOk 60 ?_; simp [go_sem])
  first | refine call hC [11,20,21,30,31,32,33,50,51,61,62,63] (by kernel_rfl) rfl rfl rfl rfl rfl fun m1 g1 p1 e1 => ?_ | refine callD hC [11,20,21,30,31,32,33,50,51,61,62,63] (by kernel_rfl) rfl rfl rfl rfl rfl rfl rfl rfl fun m1 g1 p1 e1 => ?_
  refine ⟨_, works45 _, fun v1 u1 q1 s1 hv1 => ?_⟩
  subst hv1
  refine runO hC tabOk 60 ?_
  simp [go_sem]
  repeat ((first | refine condT rfl ?_ | refine condF rfl ?_ | refine skD hC rfl rfl rfl ?_); refine runO hC tabOk 60 ?_; simp [go_sem])
  first | refine call hC [] (by kernel_rfl) rfl rfl rfl rfl rfl fun m2 g2 p2 e2 => ?_ | refine callD hC [] (by kernel_rfl) rfl rfl rfl rfl rfl rfl rfl rfl fun m2 g2 p2 e2 => ?_
  refine ⟨_, over47 hs h l hl _ k.to (LStOk.to kl), fun v2 u2 q2 s2 hv2 => ?_⟩
  subst hv2
  cases c1 : overB (hs.map (·.1)) (l.map (·.1)) with
  | true =>
    refine runO hC tabOk 60 ?_
    simp [go_sem]
    repeat ((first | refine condT rfl ?_ | refine condF rfl ?_ | refine skD hC rfl rfl rfl ?_); refine runO hC tabOk 60 ?_; simp [go_sem])
    refine ret hC tabOk (fun _ => 1) rfl rfl fun m gf hl ex => ?_
    rfl
  | false =>
  have hln : l.length ≤ 20 := by
    simp only [overB, Bool.or_eq_false_iff, decide_eq_false_iff_not, List.length_map] at c1
    omega
  refine runO hC tabOk 60 ?_
  simp [go_sem]
  repeat ((first | refine condT rfl ?_ | refine condF rfl ?_ | refine skD hC rfl rfl rfl ?_); refine runO hC tabOk 60 ?_; simp [go_sem])
  first | refine call hC [] (by kernel_rfl) rfl rfl rfl rfl rfl fun m3 g3 p3 e3 => ?_ | refine callD hC [] (by kernel_rfl) rfl rfl rfl rfl rfl rfl rfl rfl fun m3 g3 p3 e3 => ?_
  refine ⟨_, large29 t 400 ht _ kt.to, fun v3 u3 q3 s3 hv3 => ?_⟩
  subst hv3
  cases c2 : decide (400 < IntKind.i64.wrap t.size) with
  | true =>
    refine runO hC tabOk 60 ?_
    simp [go_sem]
    repeat ((first | refine condT rfl ?_ | refine condF rfl ?_ | refine skD hC rfl rfl rfl ?_); refine runO hC tabOk 60 ?_; simp [go_sem])
    refine ret hC tabOk (fun _ => 1) rfl rfl fun m gf hl ex => ?_
    rfl
  | false =>
  refine runO hC tabOk 60 ?_
  simp [go_sem]
  repeat ((first | refine condT rfl ?_ | refine condF rfl ?_ | refine skD hC rfl rfl rfl ?_); refine runO hC tabOk 60 ?_; simp [go_sem])
  first | refine call hC [11,20,21] (by kernel_rfl) rfl rfl rfl rfl rfl fun m4 g4 p4 e4 => ?_ | refine callD hC [11,20,21] (by kernel_rfl) rfl rfl rfl rfl rfl rfl rfl rfl fun m4 g4 p4 e4 => ?_
  refine ⟨_, both34' hs h _ k.to, fun v4 u4 q4 s4 hv4 => ?_⟩
  obtain ⟨bp, br, hs', rfl, kpol, kref, _⟩ := hv4
  generalize hPS : addAll (hs.map (·.1)) = PS at hpv kpol
  refine runO hC tabOk 60 ?_
  simp [go_sem]
  repeat ((first | refine condT rfl ?_ | refine condF rfl ?_ | refine skD hC rfl rfl rfl ?_); refine runO hC tabOk 60 ?_; simp [go_sem])
  first | refine call hC [] (by kernel_rfl) rfl rfl rfl rfl rfl fun m5 g5 p5 e5 => ?_ | refine callD hC [] (by kernel_rfl) rfl rfl rfl rfl rfl rfl rfl rfl fun m5 g5 p5 e5 => ?_
  refine ⟨_, lnew37 bp PS 50 _ (kpol.ks Kp.ks (by decide) (by decide) (by decide) (by decide)), fun v5 u5 q5 s5 hv5 => ?_⟩
  obtain ⟨b, rfl, kc⟩ := hv5
  refine runO hC tabOk 60 ?_
  simp [go_sem]
  repeat ((first | refine condT rfl ?_ | refine condF rfl ?_ | refine skD hC rfl rfl rfl ?_); refine runO hC tabOk 60 ?_; simp [go_sem])
  refine small (fun _ => 1) rfl fun m0 gL p0 e0 => ⟨⟨(fun (x : Nat × Cen × G) => [(13, .c (.v (.int .i64 x.1))), (12, .c (.v (ptr b))), (10, .c (.v (ptr bp))), (9, .c (.v (.bool true))), (6, .c (.bp 0 0)), (1, .c (.v (.int .i64 now))), (3, .c (.v (.slice hl.a l.length hl.cap)))]) ((0, ⟨PS, max 50 0, [], 0, []⟩, gL)), [], (fun (x : Nat × Cen × G) => [(0, ⟨25, (tc t ht).map .v, false⟩)]) ((0, ⟨PS, max 50 0, [], 0, []⟩, gL)), [], 1⟩, ⟨by simp [go_sem], by simp [go_sem], rfl, bxs_ok (n := 1) (Nat.le_refl _) (by simp [go_sem]), by simp [go_sem], ⟨_, rfl⟩⟩, by simp, ?_⟩
  refine loop (ι := Nat × Cen × G) (fun x => x.1 ≤ l.length ∧ CenIs x.2.2 b bp x.2.1 ∧ x.2.1.ps = PS ∧ x.2.1.came.length ≤ x.1 ∧ x.2.1.evs.length ≤ x.1 ∧ Keeps [1, 11, 20, 21, 30, 31, 32, 33, 50, 51, 61, 62, 63] g x.2.2) (fun x => x.2.2)
    (fun x => ⟨(fun (x : Nat × Cen × G) => [(13, .c (.v (.int .i64 x.1))), (12, .c (.v (ptr b))), (10, .c (.v (ptr bp))), (9, .c (.v (.bool true))), (6, .c (.bp 0 0)), (1, .c (.v (.int .i64 now))), (3, .c (.v (.slice hl.a l.length hl.cap)))]) x, [], (fun (x : Nat × Cen × G) => [(0, ⟨25, (tc t ht).map .v, false⟩)]) x, [], 1⟩) (fun x => l.length - x.1) (fun ⟨i, c, g'⟩ ⟨hi, kcc, hps, hcm, hev, hkp⟩ => ?_) ((0, ⟨PS, max 50 0, [], 0, []⟩, gL)) (⟨Nat.zero_le _, kc.ks Kp.ks (by decide) (by decide) (by decide) (by decide) (by decide) (by decide) (by decide) (by decide) (by decide), rfl, Nat.zero_le _, Nat.zero_le _, Keeps.mono (Kp.ks (g := g) (g' := gL)) (by simp)⟩)
  dsimp only at hi kcc hps hcm hev hkp ⊢
  haveI : Later g g' := .of hkp (by decide)
  by_cases d1 : i < l.length
  · obtain ⟨b0, off, ea, hcs, kst, _⟩ := (LStOk.to (g' := g') kl).get (sz := 7) (fun _ => rfl) (List.getElem?_eq_getElem d1)
    generalize l[i] = p at hcs kst
    obtain ⟨⟨pk, pn, pt, pw⟩, ph⟩ := p
    dsimp only at hcs kst
    rw [ea]
    refine runO hC tabOk 60 ?_
    simp [go_sem, d1]
    repeat ((first | refine condT rfl ?_ | refine condF rfl ?_ | refine skD hC rfl rfl rfl ?_); refine runO hC tabOk 60 ?_; simp [go_sem, d1])
    try (refine runO hC tabOk 60 ?_; simp [go_sem, d1]; repeat ((first | refine condT rfl ?_ | refine condF rfl ?_ | refine skD hC rfl rfl rfl ?_); refine runO hC tabOk 60 ?_; simp [go_sem, d1]))
    refine vo hC (vo_index hC tabOk rfl rfl rfl rfl rfl rfl (by omega) (by omega)) rfl rfl rfl ?_
    refine runO hC tabOk 60 ?_
    simp [go_sem]
    repeat ((first | refine condT rfl ?_ | refine condF rfl ?_ | refine skD hC rfl rfl rfl ?_); refine runO hC tabOk 60 ?_; simp [go_sem])
    refine vo hC (vo_load1 hC tabOk (hcs.one 0 rfl) rfl rfl rfl rfl) rfl rfl rfl ?_
    refine runO hC tabOk 60 ?_
    simp [go_sem]
    repeat ((first | refine condT rfl ?_ | refine condF rfl ?_ | refine skD hC rfl rfl rfl ?_); refine runO hC tabOk 60 ?_; simp [go_sem])
    refine vo hC (vo_bin hC rfl rfl rfl (run_rem Tryz.prog _ _ _ _ _ (by decide))) rfl rfl rfl ?_
    by_cases d2 : pk.tmod 3 = 0
    · refine runO hC tabOk 60 ?_
      simp [go_sem, d2]
      repeat ((first | refine condT rfl ?_ | refine condF rfl ?_ | refine skD hC rfl rfl rfl ?_); refine runO hC tabOk 60 ?_; simp [go_sem, d2])
      try (refine runO hC tabOk 60 ?_; simp [go_sem, d2]; repeat ((first | refine condT rfl ?_ | refine condF rfl ?_ | refine skD hC rfl rfl rfl ?_); refine runO hC tabOk 60 ?_; simp [go_sem, d2]))
      refine draw hC [(0, 0), (1, 0), (2, 0), (3, 0), (4, 0), (5, 0), (6, 0), (7, 0), (8, 0), (9, 0), (10, 0), (11, 1)] [] mix (by kernel_rfl) ?_
      refine runO hC tabOk 60 ?_
      simp [go_sem]
      repeat ((first | refine condT rfl ?_ | refine condF rfl ?_ | refine skD hC rfl rfl rfl ?_); refine runO hC tabOk 60 ?_; simp [go_sem])
      refine voD hC rfl (vo_index hC tabOk rfl rfl rfl rfl rfl rfl (by omega) (by omega)) rfl rfl rfl rfl ?_
      refine runO hC tabOk 60 ?_
      simp [go_sem]
      repeat ((first | refine condT rfl ?_ | refine condF rfl ?_ | refine skD hC rfl rfl rfl ?_); refine runO hC tabOk 60 ?_; simp [go_sem])
      refine voD hC rfl (vo_load1 hC tabOk (hcs.one 1 rfl) rfl rfl rfl rfl) rfl rfl rfl rfl ?_
      refine runO hC tabOk 60 ?_
      simp [go_sem]
      repeat ((first | refine condT rfl ?_ | refine condF rfl ?_ | refine skD hC rfl rfl rfl ?_); refine runO hC tabOk 60 ?_; simp [go_sem])
      refine voD hC rfl (vo_index hC tabOk rfl rfl rfl rfl rfl rfl (by omega) (by omega)) rfl rfl rfl rfl ?_
      refine runO hC tabOk 60 ?_
      simp [go_sem]
      repeat ((first | refine condT rfl ?_ | refine condF rfl ?_ | refine skD hC rfl rfl rfl ?_); refine runO hC tabOk 60 ?_; simp [go_sem])
      refine voD hC rfl (vo_load hC tabOk (hcs.sub 2 (ws := tc pt ph) (fun j v hj => by match j, hj with | 0, hj => exact hj | 1, hj => exact hj | 2, hj => exact hj | 3, hj => exact hj)) rfl rfl rfl rfl rfl) rfl rfl rfl rfl ?_
      refine runO hC tabOk 60 ?_
      simp [go_sem]
      repeat ((first | refine condT rfl ?_ | refine condF rfl ?_ | refine skD hC rfl rfl rfl ?_); refine runO hC tabOk 60 ?_; simp [go_sem])
      first | refine call hC [30,31,32,33,61,62,63] (by kernel_rfl) rfl rfl rfl rfl rfl fun m6 g6 p6 e6 => ?_ | refine callD hC [30,31,32,33,61,62,63] (by kernel_rfl) rfl rfl rfl rfl rfl rfl rfl rfl fun m6 g6 p6 e6 => ?_
      refine ⟨_, login48 b bp c pn pt ph _ (kcc.ks Kp.ks (by decide) (by decide) (by decide) (by decide) (by decide) (by decide) (by decide) (by decide) (by decide)) kst.to (by omega) (by omega), fun v6 u6 q6 s6 hv6 => ?_⟩
      obtain ⟨⟨h6, rfl, k6⟩, kc6⟩ := hv6
      obtain ⟨l1, _, l2, l3⟩ := login_kept c pn pt
      refine runO hC tabOk 60 ?_
      simp [go_sem]
      repeat ((first | refine condT rfl ?_ | refine condF rfl ?_ | refine skD hC rfl rfl rfl ?_); refine runO hC tabOk 60 ?_; simp [go_sem])
      refine again (fun _ => 1) fun m8 g8 p8 e8 => ⟨(i + 1, (loginS c pn pt).2, g8), ?_, ?_, rfl, ⟨by simp [go_sem], by simp [go_sem, ea, wrap_inc (show i + 1 ≤ 9223372036854775807 by omega)], rfl, bxs_ok (n := 1) (Nat.le_refl _) (by simp [go_sem, ea, wrap_inc (show i + 1 ≤ 9223372036854775807 by omega)]), by simp [go_sem], ⟨_, rfl⟩⟩, by simp [go_sem]⟩
      · exact ⟨d1, kc6.ks Kp.ks (by decide) (by decide) (by decide) (by decide) (by decide) (by decide) (by decide) (by decide) (by decide), l1.trans hps, by dsimp only; omega, by dsimp only; omega, hkp.then (by simp)⟩
      · dsimp only; omega
    · refine runO hC tabOk 60 ?_
      simp [go_sem, d2]
      repeat ((first | refine condT rfl ?_ | refine condF rfl ?_ | refine skD hC rfl rfl rfl ?_); refine runO hC tabOk 60 ?_; simp [go_sem, d2])
      try (refine runO hC tabOk 60 ?_; simp [go_sem, d2]; repeat ((first | refine condT rfl ?_ | refine condF rfl ?_ | refine skD hC rfl rfl rfl ?_); refine runO hC tabOk 60 ?_; simp [go_sem, d2]))
      refine again (fun _ => 1) fun m8 g8 p8 e8 => ⟨(i + 1, c, g8), ?_, ?_, rfl, ⟨by simp [go_sem], by simp [go_sem, ea, wrap_inc (show i + 1 ≤ 9223372036854775807 by omega)], rfl, bxs_ok (n := 1) (Nat.le_refl _) (by simp [go_sem, ea, wrap_inc (show i + 1 ≤ 9223372036854775807 by omega)]), by simp [go_sem], ⟨_, rfl⟩⟩, by simp [go_sem]⟩
      · exact ⟨d1, kcc.ks Kp.ks (by decide) (by decide) (by decide) (by decide) (by decide) (by decide) (by decide) (by decide) (by decide), hps, by dsimp only; omega, by dsimp only; omega, hkp.then (by simp)⟩
      · dsimp only; omega
  refine runO hC tabOk 60 ?_
  simp [go_sem, d1]
  repeat ((first | refine condT rfl ?_ | refine condF rfl ?_ | refine skD hC rfl rfl rfl ?_); refine runO hC tabOk 60 ?_; simp [go_sem, d1])
  try (refine runO hC tabOk 60 ?_; simp [go_sem, d1]; repeat ((first | refine condT rfl ?_ | refine condF rfl ?_ | refine skD hC rfl rfl rfl ?_); refine runO hC tabOk 60 ?_; simp [go_sem, d1]))
  first | refine call hC [30] (by kernel_rfl) rfl rfl rfl rfl rfl fun m6 g6 p6 e6 => ?_ | refine callD hC [30] (by kernel_rfl) rfl rfl rfl rfl rfl rfl rfl rfl fun m6 g6 p6 e6 => ?_
  refine ⟨_, events49 b bp c _ (kcc.ks Kp.ks (by decide) (by decide) (by decide) (by decide) (by decide) (by decide) (by decide) (by decide) (by decide)), fun v6 u6 q6 s6 hv6 => ?_⟩
  obtain ⟨⟨a6, cap6, rfl, kev6⟩, kc6⟩ := hv6
  obtain ⟨cps, croom, ccame, cser, cevs⟩ := c
  dsimp only at hps hcm hev kc6 ⊢
  subst hps
  refine runO hC tabOk 60 ?_
  simp [go_sem]
  repeat ((first | refine condT rfl ?_ | refine condF rfl ?_ | refine skD hC rfl rfl rfl ?_); refine runO hC tabOk 60 ?_; simp [go_sem])
  first | refine call hC [30,31,32,33,50,51,61,62,63] (by kernel_rfl) rfl rfl rfl rfl rfl fun m7 g7 p7 e7 => ?_ | refine callD hC [30,31,32,33,50,51,61,62,63] (by kernel_rfl) rfl rfl rfl rfl rfl rfl rfl rfl fun m7 g7 p7 e7 => ?_
  refine ⟨_, answer50 b bp ⟨cps, croom, ccame, cser, []⟩ now t ht _ (kc6.ks Kp.ks (by decide) (by decide) (by decide) (by decide) (by decide) (by decide) (by decide) (by decide) (by decide)) kt.to htw (by dsimp only; omega) (Nat.zero_le _), fun v7 u7 q7 s7 hv7 => ?_⟩
  obtain ⟨⟨h7, rfl, k7⟩, kc7⟩ := hv7
  refine runO hC tabOk 60 ?_
  simp [go_sem]
  repeat ((first | refine condT rfl ?_ | refine condF rfl ?_ | refine skD hC rfl rfl rfl ?_); refine runO hC tabOk 60 ?_; simp [go_sem])
  first | refine call hC [30] (by kernel_rfl) rfl rfl rfl rfl rfl fun m8 g8 p8 e8 => ?_ | refine callD hC [30] (by kernel_rfl) rfl rfl rfl rfl rfl rfl rfl rfl fun m8 g8 p8 e8 => ?_
  refine ⟨_, events49 b bp _ _ (kc7.ks Kp.ks (by decide) (by decide) (by decide) (by decide) (by decide) (by decide) (by decide) (by decide) (by decide)), fun v8 u8 q8 s8 hv8 => ?_⟩
  obtain ⟨⟨a8, cap8, rfl, kev8⟩, kc8⟩ := hv8
  by_cases d2 : (grantS ⟨cps, croom, ccame, cser, []⟩ now t).1.2 = 0
  rotate_left
  · obtain ⟨e1, e2⟩ := grant_err d2
    rw [e1] at k7
    rw [e1, e2]
    refine runO hC tabOk 60 ?_
    simp [go_sem, d2]
    repeat ((first | refine condT rfl ?_ | refine condF rfl ?_ | refine skD hC rfl rfl rfl ?_); refine runO hC tabOk 60 ?_; simp [go_sem, d2])
    try (refine runO hC tabOk 60 ?_; simp [go_sem, d2]; repeat ((first | refine condT rfl ?_ | refine condF rfl ?_ | refine skD hC rfl rfl rfl ?_); refine runO hC tabOk 60 ?_; simp [go_sem, d2]))
    first | refine call hC [] (by kernel_rfl) rfl rfl rfl rfl rfl fun m9 g9 p9 e9 => ?_ | refine callD hC [] (by kernel_rfl) rfl rfl rfl rfl rfl rfl rfl rfl fun m9 g9 p9 e9 => ?_
    refine ⟨_, same44 T0 T0 h7 ⟨none, 0⟩ _ k7.to (T0_ok _), fun v9 u9 q9 s9 hv9 => ?_⟩
    subst hv9
    refine runO hC tabOk 60 ?_
    simp [go_sem]
    repeat ((first | refine condT rfl ?_ | refine condF rfl ?_ | refine skD hC rfl rfl rfl ?_); refine runO hC tabOk 60 ?_; simp [go_sem])
    refine ret hC tabOk (fun _ => 1) rfl rfl fun m gf hl ex => ?_
    rfl
  · obtain ⟨k', tg, n, tl, tk, au, ex, r, s, nn, e, K, was, xp1, xp2, xp3, xp4, xp5, xp6, xp7, xp8, xp9, yq1, yq2, yq3, yq4, yq5, yq6, yq7, yq8, yq9, yq10, yq11, yq12, z1, z2, z3, z4⟩ := keeps_pure d2
    try dsimp only at xp2
    try dsimp only at xp3
    try dsimp only at xp4
    try dsimp only at xp5
    try dsimp only at xp6
    try dsimp only at xp7
    try dsimp only at xp8
    try dsimp only at xp9
    try dsimp only at z1
    try dsimp only at z2
    rw [xp5] at k7
    rw [xp6] at kev8
    rw [xp5, xp6]
    have hcl : (pkey cps sCentre).1.size = 1 := pkey_size _ _
    have kcen : ∀ g, TOk g (pkey cps sCentre).1 ⟨none, 0⟩ := fun g => (pkey_leaf cps sCentre g (by decide)).1
    refine runO hC tabOk 60 ?_
    simp [go_sem, d2]
    repeat ((first | refine condT rfl ?_ | refine condF rfl ?_ | refine skD hC rfl rfl rfl ?_); refine runO hC tabOk 60 ?_; simp [go_sem, d2])
    try (refine runO hC tabOk 60 ?_; simp [go_sem, d2]; repeat ((first | refine condT rfl ?_ | refine condF rfl ?_ | refine skD hC rfl rfl rfl ?_); refine runO hC tabOk 60 ?_; simp [go_sem, d2]))
    first | refine call hC [] (by kernel_rfl) rfl rfl rfl rfl rfl fun m9 g9 p9 e9 => ?_ | refine callD hC [] (by kernel_rfl) rfl rfl rfl rfl rfl rfl rfl rfl fun m9 g9 p9 e9 => ?_
    refine ⟨_, take51 t sTgsReq 7 ht _ kt.to (by decide), fun v9 u9 q9 s9 hv9 => ?_⟩
    rw [xp1] at hv9
    obtain ⟨h9, rfl, k9⟩ := hv9
    obtain ⟨b1, o1, h_tk, ea1, hcs_tk, k_tk⟩ := k9.get (i := 4) (t := tk) rfl
    obtain ⟨b2, o2, h_tg, ea2, hcs_tg, k_tg⟩ := k9.get (i := 1) (t := tg) rfl
    rw [ea1] at ea2
    obtain ⟨rfl, rfl, _⟩ := Addr.mk.inj (Option.some.inj ea2)
    have htg := k_tg.str
    have kkey : ∀ g, TOk g (pkey cps tg.s).1 ⟨none, 0⟩ := fun g => (pkey_leaf cps tg.s g htg).1
    try dsimp only at ea1
    refine runO hC tabOk 60 ?_
    simp [go_sem, ea1]
    repeat ((first | refine condT rfl ?_ | refine condF rfl ?_ | refine skD hC rfl rfl rfl ?_); refine runO hC tabOk 60 ?_; simp [go_sem, ea1])
    try (refine runO hC tabOk 60 ?_; simp [go_sem, ea1]; repeat ((first | refine condT rfl ?_ | refine condF rfl ?_ | refine skD hC rfl rfl rfl ?_); refine runO hC tabOk 60 ?_; simp [go_sem, ea1]))
    first | refine call hC [] (by kernel_rfl) rfl rfl rfl rfl rfl fun m10 g10 p10 e10 => ?_ | refine callD hC [] (by kernel_rfl) rfl rfl rfl rfl rfl rfl rfl rfl fun m10 g10 p10 e10 => ?_
    refine ⟨_, key52 b bp _ _ (kc8.ks Kp.ks (by decide) (by decide) (by decide) (by decide) (by decide) (by decide) (by decide) (by decide) (by decide)), fun v10 u10 q10 s10 hv10 => ?_⟩
    try dsimp only at hv10
    rw [xp7] at hv10
    subst hv10
    refine runO hC tabOk 60 ?_
    simp [go_sem, ea1]
    repeat ((first | refine condT rfl ?_ | refine condF rfl ?_ | refine skD hC rfl rfl rfl ?_); refine runO hC tabOk 60 ?_; simp [go_sem, ea1])
    try (refine runO hC tabOk 60 ?_; simp [go_sem, ea1]; repeat ((first | refine condT rfl ?_ | refine condF rfl ?_ | refine skD hC rfl rfl rfl ?_); refine runO hC tabOk 60 ?_; simp [go_sem, ea1]))
    refine draw hC [(0, 0), (1, 0), (2, 0), (3, 0), (8, 2), (4, 1), (5, 0), (6, 0), (7, 0), (8, 3), (9, 1)] [10] mix (by kernel_rfl) ?_
    refine runO hC tabOk 60 ?_
    simp [go_sem]
    repeat ((first | refine condT rfl ?_ | refine condF rfl ?_ | refine skD hC rfl rfl rfl ?_); refine runO hC tabOk 60 ?_; simp [go_sem])
    refine voD hC rfl (vo_index hC tabOk rfl rfl rfl rfl rfl rfl (by omega) (by omega)) rfl rfl rfl rfl ?_
    refine runO hC tabOk 60 ?_
    simp [go_sem]
    repeat ((first | refine condT rfl ?_ | refine condF rfl ?_ | refine skD hC rfl rfl rfl ?_); refine runO hC tabOk 60 ?_; simp [go_sem])
    refine voD hC rfl (vo_load hC tabOk hcs_tk.to rfl rfl rfl rfl rfl) rfl rfl rfl rfl ?_
    refine runO hC tabOk 60 ?_
    simp [go_sem]
    repeat ((first | refine condT rfl ?_ | refine condF rfl ?_ | refine skD hC rfl rfl rfl ?_); refine runO hC tabOk 60 ?_; simp [go_sem])
    first | refine call hC [61,62,63] (by kernel_rfl) rfl rfl rfl rfl rfl fun m11 g11 p11 e11 => ?_ | refine callD hC [61,62,63] (by kernel_rfl) rfl rfl rfl rfl rfl rfl rfl rfl fun m11 g11 p11 e11 => ?_
    refine ⟨_, topen53 tk (pkey cps sCentre).1 h_tk ⟨none, 0⟩ _ k_tk.to (kcen _) (by omega), fun v11 u11 q11 s11 hv11 => ?_⟩
    rw [xp2] at hv11
    obtain ⟨h11, rfl, k11⟩ := hv11
    refine runO hC tabOk 60 ?_
    simp [go_sem]
    repeat ((first | refine condT rfl ?_ | refine condF rfl ?_ | refine skD hC rfl rfl rfl ?_); refine runO hC tabOk 60 ?_; simp [go_sem])
    first | refine call hC [61,62,63] (by kernel_rfl) rfl rfl rfl rfl rfl fun m12 g12 p12 e12 => ?_ | refine callD hC [61,62,63] (by kernel_rfl) rfl rfl rfl rfl rfl rfl rfl rfl fun m12 g12 p12 e12 => ?_
    refine ⟨_, verify54 K.auth (pkey cps sCentre).1 (pkey cps sCentre).1 h11.auth ⟨none, 0⟩ ⟨none, 0⟩ _ k11.auth.to (kcen _) (kcen _) (by omega), fun v12 u12 q12 s12 hv12 => ?_⟩
    rw [xp3] at hv12
    obtain ⟨h12, rfl, k12⟩ := hv12
    refine runO hC tabOk 60 ?_
    simp [go_sem]
    repeat ((first | refine condT rfl ?_ | refine condF rfl ?_ | refine skD hC rfl rfl rfl ?_); refine runO hC tabOk 60 ?_; simp [go_sem])
    have tka := take_list sTgsRep [ofT r.client, tkT cps r s, sealT K.key 8 (listT [keyT .empty s, numT nn, numT r.fl, numT r.fr, numT r.till, ofT r.svc])] (n := 3) (by simp)
    first | refine call hC [] (by kernel_rfl) rfl rfl rfl rfl rfl fun m13 g13 p13 e13 => ?_ | refine callD hC [] (by kernel_rfl) rfl rfl rfl rfl rfl rfl rfl rfl fun m13 g13 p13 e13 => ?_
    refine ⟨_, take51 (answerS sTgsRep r.client (tkT cps r s) K.key (keyT .empty s) 8 nn r) sTgsRep 3 h7 _ k7.to (by decide), fun v13 u13 q13 s13 hv13 => ?_⟩
    unfold answerS at hv13
    rw [tka] at hv13
    obtain ⟨h13, rfl, k13⟩ := hv13
    obtain ⟨b3, o3, h_x, ea3, hcs_x, k_x⟩ := k13.get (i := 1) (t := tkT cps r s) rfl
    try dsimp only at ea3
    refine runO hC tabOk 60 ?_
    simp [go_sem, ea3, ea1]
    repeat ((first | refine condT rfl ?_ | refine condF rfl ?_ | refine skD hC rfl rfl rfl ?_); refine runO hC tabOk 60 ?_; simp [go_sem, ea3, ea1])
    try (refine runO hC tabOk 60 ?_; simp [go_sem, ea3, ea1]; repeat ((first | refine condT rfl ?_ | refine condF rfl ?_ | refine skD hC rfl rfl rfl ?_); refine runO hC tabOk 60 ?_; simp [go_sem, ea3, ea1]))
    refine vo hC (vo_index hC tabOk rfl rfl rfl rfl rfl rfl (by omega) (by omega)) rfl rfl rfl ?_
    refine runO hC tabOk 60 ?_
    simp [go_sem]
    repeat ((first | refine condT rfl ?_ | refine condF rfl ?_ | refine skD hC rfl rfl rfl ?_); refine runO hC tabOk 60 ?_; simp [go_sem])
    refine vo hC (vo_load1 hC tabOk ((hcs_tg.one 1 rfl).to) rfl rfl rfl rfl) rfl rfl rfl ?_
    refine runO hC tabOk 60 ?_
    simp [go_sem]
    repeat ((first | refine condT rfl ?_ | refine condF rfl ?_ | refine skD hC rfl rfl rfl ?_); refine runO hC tabOk 60 ?_; simp [go_sem])
    have kpol' : PolAt u12 bp cps := by
      have := (kc8.ks (g' := u12) Kp.ks (by decide) (by decide) (by decide) (by decide) (by decide) (by decide) (by decide) (by decide) (by decide)).pol
      dsimp only at this
      rwa [xp7] at this
    obtain ⟨⟨bm, ptrs, kp⟩, kv⟩ := kpol'
    first | refine call hC [] (by kernel_rfl) rfl rfl rfl rfl rfl fun m14 g14 p14 e14 => ?_ | refine callD hC [] (by kernel_rfl) rfl rfl rfl rfl rfl rfl rfl rfl fun m14 g14 p14 e14 => ?_
    refine ⟨_, pkey38 10 (by simp) (by simp) (ptr bp) bp bm ptrs cps tg.s _ (kp.ks Kp.ks (by decide) (by decide) (by decide) (by decide)), fun v14 u14 q14 s14 hv14 => ?_⟩
    subst hv14
    refine runO hC tabOk 60 ?_
    simp [go_sem, xp4]
    repeat ((first | refine condT rfl ?_ | refine condF rfl ?_ | refine skD hC rfl rfl rfl ?_); refine runO hC tabOk 60 ?_; simp [go_sem, xp4])
    try (refine runO hC tabOk 60 ?_; simp [go_sem, xp4]; repeat ((first | refine condT rfl ?_ | refine condF rfl ?_ | refine skD hC rfl rfl rfl ?_); refine runO hC tabOk 60 ?_; simp [go_sem, xp4]))
    refine draw hC [(0, 0), (1, 0), (2, 0), (3, 0), (8, 2), (4, 1), (5, 0), (6, 0), (7, 0), (8, 3), (9, 1)] [10] mix (by kernel_rfl) ?_
    refine runO hC tabOk 60 ?_
    simp [go_sem, ea3]
    repeat ((first | refine condT rfl ?_ | refine condF rfl ?_ | refine skD hC rfl rfl rfl ?_); refine runO hC tabOk 60 ?_; simp [go_sem, ea3])
    try (refine runO hC tabOk 60 ?_; simp [go_sem, ea3]; repeat ((first | refine condT rfl ?_ | refine condF rfl ?_ | refine skD hC rfl rfl rfl ?_); refine runO hC tabOk 60 ?_; simp [go_sem, ea3]))
    refine voD hC rfl (vo_index hC tabOk rfl rfl rfl rfl rfl rfl (by omega) (by omega)) rfl rfl rfl rfl ?_
    refine runO hC tabOk 60 ?_
    simp [go_sem]
    repeat ((first | refine condT rfl ?_ | refine condF rfl ?_ | refine skD hC rfl rfl rfl ?_); refine runO hC tabOk 60 ?_; simp [go_sem])
    refine voD hC rfl (vo_load hC tabOk hcs_x.to rfl rfl rfl rfl rfl) rfl rfl rfl rfl ?_
    refine runO hC tabOk 60 ?_
    simp [go_sem]
    repeat ((first | refine condT rfl ?_ | refine condF rfl ?_ | refine skD hC rfl rfl rfl ?_); refine runO hC tabOk 60 ?_; simp [go_sem])
    first | refine call hC [61,62,63] (by kernel_rfl) rfl rfl rfl rfl rfl fun m15 g15 p15 e15 => ?_ | refine callD hC [61,62,63] (by kernel_rfl) rfl rfl rfl rfl rfl rfl rfl rfl fun m15 g15 p15 e15 => ?_
    refine ⟨_, topen53 (tkT cps r s) (pkey cps tg.s).1 h_x ⟨none, 0⟩ _ k_x.to (kkey _) (by have := tw_size (tkT cps r s); omega), fun v15 u15 q15 s15 hv15 => ?_⟩
    rw [xp8] at hv15
    obtain ⟨h15, rfl, k15⟩ := hv15
    refine runO hC tabOk 60 ?_
    simp [go_sem]
    repeat ((first | refine condT rfl ?_ | refine condF rfl ?_ | refine skD hC rfl rfl rfl ?_); refine runO hC tabOk 60 ?_; simp [go_sem])
    have xp9' : verifyS (tkO cps r s).auth (pkey cps tg.s).1 (pkey cps sCentre).1 = (auO cps r, 0) := xp9
    first | refine call hC [61,62,63] (by kernel_rfl) rfl rfl rfl rfl rfl fun m16 g16 p16 e16 => ?_ | refine callD hC [61,62,63] (by kernel_rfl) rfl rfl rfl rfl rfl rfl rfl rfl fun m16 g16 p16 e16 => ?_
    refine ⟨_, verify54 (tkO cps r s).auth (pkey cps tg.s).1 (pkey cps sCentre).1 h15.auth ⟨none, 0⟩ ⟨none, 0⟩ _ k15.auth.to (kkey _) (kcen _) (by have h1 := tw_size (auT cps r); have h2 : tw (tkO cps r s).auth = tw (auT cps r) := rfl; omega), fun v16 u16 q16 s16 hv16 => ?_⟩
    rw [xp9'] at hv16
    obtain ⟨h16, rfl, k16⟩ := hv16
    have f1 : (auO cps r).user = was.user := yq1
    have f2 : (auO cps r).org = was.org := yq2
    have f3 : (auO cps r).fwd = was.fwd := yq3
    have f4 : (auO cps r).tr = was.tr := yq4
    have f5 : (auO cps r).till = r.till := rfl
    have f6 : (tkO cps r s).cl = K.cl := yq5
    have f7 : (tkO cps r s).fr = max now K.fr := yq6
    have f8 : (tkO cps r s).till = r.till := rfl
    have f9 : (tkO cps r s).fl = r.fl := rfl
    have f10 : (tkO cps r s).svc = r.svc := rfl
    rw [yq1] at yq9
    rw [yq5] at yq10
    generalize auO cps r = IS at f1 f2 f3 f4 f5 k16 ⊢
    generalize tkO cps r s = X at f6 f7 f8 f9 f10 k15 ⊢
    have g1 : ([] ++ [e] : List Ev).length = 1 := rfl
    refine runO hC tabOk 60 ?_
    simp [go_sem, xp4, f1, f2, f6]
    repeat ((first | refine condT rfl ?_ | refine condF rfl ?_ | refine skD hC rfl rfl rfl ?_); refine runO hC tabOk 60 ?_; simp [go_sem, xp4, f1, f2, f6])
    try (refine runO hC tabOk 60 ?_; simp [go_sem, xp4, f1, f2, f6]; repeat ((first | refine condT rfl ?_ | refine condF rfl ?_ | refine skD hC rfl rfl rfl ?_); refine runO hC tabOk 60 ?_; simp [go_sem, xp4, f1, f2, f6]))
    refine vo hC (vo_bin hC rfl rfl rfl (run_beq Tryz.prog Tryz.underlying4 _ _ _ _)) rfl rfl rfl ?_
    refine runO hC tabOk 60 ?_
    simp [go_sem, f3, f4, f6]
    repeat ((first | refine condT rfl ?_ | refine condF rfl ?_ | refine skD hC rfl rfl rfl ?_); refine runO hC tabOk 60 ?_; simp [go_sem, f3, f4, f6])
    try (refine runO hC tabOk 60 ?_; simp [go_sem, f3, f4, f6]; repeat ((first | refine condT rfl ?_ | refine condF rfl ?_ | refine skD hC rfl rfl rfl ?_); refine runO hC tabOk 60 ?_; simp [go_sem, f3, f4, f6]))
    refine vo hC (vo_bi (v := .int .i64 (max now K.fr)) hC rfl rfl (fun m c w => run_max _ _ c _ _ w)) rfl rfl rfl ?_
    refine runO hC tabOk 60 ?_
    simp [go_sem, f5, f7, f8, yq7]
    repeat ((first | refine condT rfl ?_ | refine condF rfl ?_ | refine skD hC rfl rfl rfl ?_); refine runO hC tabOk 60 ?_; simp [go_sem, f5, f7, f8, yq7])
    try (refine runO hC tabOk 60 ?_; simp [go_sem, f5, f7, f8, yq7]; repeat ((first | refine condT rfl ?_ | refine condF rfl ?_ | refine skD hC rfl rfl rfl ?_); refine runO hC tabOk 60 ?_; simp [go_sem, f5, f7, f8, yq7]))
    refine vo hC (vo_bin hC rfl rfl rfl (run_iandn Tryz.prog _ _ _ _ _)) rfl rfl rfl ?_
    refine runO hC tabOk 60 ?_
    simp [go_sem]
    repeat ((first | refine condT rfl ?_ | refine condF rfl ?_ | refine skD hC rfl rfl rfl ?_); refine runO hC tabOk 60 ?_; simp [go_sem])
    refine vo hC (vo_bin hC rfl rfl rfl (run_iandn Tryz.prog _ _ _ _ _)) rfl rfl rfl ?_
    refine runO hC tabOk 60 ?_
    simp [go_sem, f9, yq8]
    repeat ((first | refine condT rfl ?_ | refine condF rfl ?_ | refine skD hC rfl rfl rfl ?_); refine runO hC tabOk 60 ?_; simp [go_sem, f9, yq8])
    try (refine runO hC tabOk 60 ?_; simp [go_sem, f9, yq8]; repeat ((first | refine condT rfl ?_ | refine condF rfl ?_ | refine skD hC rfl rfl rfl ?_); refine runO hC tabOk 60 ?_; simp [go_sem, f9, yq8]))
    refine draw hC [(0, 0), (1, 0), (2, 0), (3, 0), (4, 0), (5, 0), (6, 0), (7, 0), (8, 0), (9, 0), (10, 0), (11, 0), (12, 0), (13, 0), (14, 0), (15, 0), (16, 0), (17, 0), (18, 0), (19, 0), (20, 0), (21, 0), (22, 0), (23, 0), (24, 0), (25, 0), (26, 0), (27, 0), (28, 0), (29, 0), (30, 0), (31, 0), (32, 0), (33, 0), (34, 0), (35, 0), (36, 0), (37, 0), (38, 0), (39, 0), (40, 0), (41, 0), (42, 0), (43, 0), (44, 0), (45, 0)] [46] mix (by kernel_rfl) ?_
    refine runO hC tabOk 60 ?_
    simp [go_sem]
    repeat ((first | refine condT rfl ?_ | refine condF rfl ?_ | refine skD hC rfl rfl rfl ?_); refine runO hC tabOk 60 ?_; simp [go_sem])
    obtain ⟨be, hee, rfl, kcs, _⟩ := kev8.at (i := 0) (e := e) rfl
    refine voD hC rfl (vo_index hC tabOk rfl rfl rfl rfl rfl rfl (by omega) (by omega)) rfl rfl rfl rfl ?_
    refine runO hC tabOk 60 ?_
    simp [go_sem]
    repeat ((first | refine condT rfl ?_ | refine condF rfl ?_ | refine skD hC rfl rfl rfl ?_); refine runO hC tabOk 60 ?_; simp [go_sem])
    refine voD hC rfl (vo_load1 hC tabOk ((kcs.one 2 rfl).ks Kp.ks (by decide)) rfl rfl rfl rfl) rfl rfl rfl rfl ?_
    refine runO hC tabOk 60 ?_
    simp [go_sem, yq9, f1]
    repeat ((first | refine condT rfl ?_ | refine condF rfl ?_ | refine skD hC rfl rfl rfl ?_); refine runO hC tabOk 60 ?_; simp [go_sem, yq9, f1])
    try (refine runO hC tabOk 60 ?_; simp [go_sem, yq9, f1]; repeat ((first | refine condT rfl ?_ | refine condF rfl ?_ | refine skD hC rfl rfl rfl ?_); refine runO hC tabOk 60 ?_; simp [go_sem, yq9, f1]))
    refine voD hC rfl (vo_index hC tabOk rfl rfl rfl rfl rfl rfl (by omega) (by omega)) rfl rfl rfl rfl ?_
    refine runO hC tabOk 60 ?_
    simp [go_sem]
    repeat ((first | refine condT rfl ?_ | refine condF rfl ?_ | refine skD hC rfl rfl rfl ?_); refine runO hC tabOk 60 ?_; simp [go_sem])
    refine voD hC rfl (vo_load1 hC tabOk ((kcs.one 3 rfl).ks Kp.ks (by decide)) rfl rfl rfl rfl) rfl rfl rfl rfl ?_
    refine runO hC tabOk 60 ?_
    simp [go_sem, yq10, f6]
    repeat ((first | refine condT rfl ?_ | refine condF rfl ?_ | refine skD hC rfl rfl rfl ?_); refine runO hC tabOk 60 ?_; simp [go_sem, yq10, f6])
    try (refine runO hC tabOk 60 ?_; simp [go_sem, yq10, f6]; repeat ((first | refine condT rfl ?_ | refine condF rfl ?_ | refine skD hC rfl rfl rfl ?_); refine runO hC tabOk 60 ?_; simp [go_sem, yq10, f6]))
    refine voD hC rfl (vo_index hC tabOk rfl rfl rfl rfl rfl rfl (by omega) (by omega)) rfl rfl rfl rfl ?_
    refine runO hC tabOk 60 ?_
    simp [go_sem]
    repeat ((first | refine condT rfl ?_ | refine condF rfl ?_ | refine skD hC rfl rfl rfl ?_); refine runO hC tabOk 60 ?_; simp [go_sem])
    refine voD hC rfl (vo_load1 hC tabOk ((kcs.one 4 rfl).ks Kp.ks (by decide)) rfl rfl rfl rfl) rfl rfl rfl rfl ?_
    refine runO hC tabOk 60 ?_
    simp [go_sem, yq11, f10]
    repeat ((first | refine condT rfl ?_ | refine condF rfl ?_ | refine skD hC rfl rfl rfl ?_); refine runO hC tabOk 60 ?_; simp [go_sem, yq11, f10])
    try (refine runO hC tabOk 60 ?_; simp [go_sem, yq11, f10]; repeat ((first | refine condT rfl ?_ | refine condF rfl ?_ | refine skD hC rfl rfl rfl ?_); refine runO hC tabOk 60 ?_; simp [go_sem, yq11, f10]))
    refine voD hC rfl (vo_index hC tabOk rfl rfl rfl rfl rfl rfl (by omega) (by omega)) rfl rfl rfl rfl ?_
    refine runO hC tabOk 60 ?_
    simp [go_sem]
    repeat ((first | refine condT rfl ?_ | refine condF rfl ?_ | refine skD hC rfl rfl rfl ?_); refine runO hC tabOk 60 ?_; simp [go_sem])
    refine voD hC rfl (vo_load1 hC tabOk ((kcs.one 7 rfl).ks Kp.ks (by decide)) rfl rfl rfl rfl) rfl rfl rfl rfl ?_
    refine runO hC tabOk 60 ?_
    simp [go_sem, yq12, f5]
    repeat ((first | refine condT rfl ?_ | refine condF rfl ?_ | refine skD hC rfl rfl rfl ?_); refine runO hC tabOk 60 ?_; simp [go_sem, yq12, f5])
    try (refine runO hC tabOk 60 ?_; simp [go_sem, yq12, f5]; repeat ((first | refine condT rfl ?_ | refine condF rfl ?_ | refine skD hC rfl rfl rfl ?_); refine runO hC tabOk 60 ?_; simp [go_sem, yq12, f5]))
    refine ret hC tabOk (fun _ => 1) rfl rfl fun m gf hl ex => ?_
    rfl
end Go.Proofs.YtobhfopgoidniaaGreat

/- GrantKeeps: what is said of it holds at every input. No condition. -/
namespace Go.Proofs.YtobhfopgoidniaaGreat
open Go Go.Eng Go.ChangeShapes Go.WideShapes Go.RowKit
open Go.ChangeMaps (open_string)

set_option maxHeartbeats 1600000 in
set_option maxRecDepth 100000 in
theorem grantKeeps_lifted (os : Os) (started : os.Started) (H : Type) (enc : TypeId × Value → H) :
    ReturnsInHanded {} Tryz.checked os 6 .any (Rows.grantKeepsSpec.pre6 enc Tryz.prog Tryz.f6 Rows.grantKeepsRow.domain false) (Rows.grantKeepsSpec.post enc Tryz.prog Tryz.f6 false true false false) := by
  refine returnsInHanded_of_change_sized (C := Tryz.checked) Tryz.own started (by kernel_rfl) Tryz.func6
    (ChangeSpec.witness6 (enc := enc) (C := Tryz.checked) false ⟨#[], #[.slice none 0 0, .int .i64 0, .agg #[.int .i64 0, .string .empty, .int .i64 0, .slice none 0 0], .slice none 0 0], []⟩ 8 (by kernel_rfl) (by kernel_rfl) (by kernel_rfl) (by kernel_rfl)) ?_
  intro W base args ds gs before hval0 hW _ hsz0 _
  have hval : ∀ (j : Nat) t v, Tryz.f6.params[j]? = some t → args[j]? = some v → Value.okWide Tryz.prog W .any base t v := hval0
  have hW' : DataW.Whole enc Tryz.prog Tryz.f6.params.toList Rows.grantKeepsSpec.vars false W args.toList ds gs before := hW
  have hWk := hW'
  obtain ⟨p, q, hA, hV, _, _, _⟩ := hW'
  obtain ⟨rfl, rfl⟩ := trodVars_none hV
  rw [Tryz.params6] at hA hval
  have hsz : (DataW.weightsEach Tryz.prog (Tryz.f6.params.toList ++ []) (ds ++ [])).all (· ≤ reachBytes) = true := hsz0
  rw [Tryz.params6] at hsz
  obtain ⟨args⟩ := args
  dsimp only at hA hval
  obtain ⟨v0, vr0, d0, dr0, p0, pr0, rfl, rfl, rfl, h0, hA⟩ := trodAll_cons hA
  obtain ⟨v1, vr1, d1, dr1, p1, pr1, rfl, rfl, rfl, h1, hA⟩ := trodAll_cons hA
  obtain ⟨v2, vr2, d2, dr2, p2, pr2, rfl, rfl, rfl, h2, hA⟩ := trodAll_cons hA
  obtain ⟨v3, vr3, d3, dr3, p3, pr3, rfl, rfl, rfl, h3, hA⟩ := trodAll_cons hA
  obtain ⟨rfl, rfl, rfl⟩ := trodAll_nil hA
  obtain ⟨l0, hd0, rfl, k0⟩ := open_prs (hval 0 31 v0 rfl rfl) h0
  obtain ⟨n1, rfl⟩ := open_num (hval 1 3 v1 rfl rfl) h1
  obtain ⟨t2, hd2, rfl, k2, kw2⟩ := open_termS (szd_each hsz (j := 2) rfl rfl) (hval 2 25 v2 rfl rfl) h2
  obtain ⟨l3, hd3, rfl, k3⟩ := open_steps (hval 3 57 v3 rfl rfl) h3
  exact law_step (L := [11, 20, 21, 30, 31, 32, 33, 50, 51, 61, 62, 63]) (by kernel_rfl) (by rw [Tryz.params6]; exact reads_of (by kernel_rfl)) hWk rfl rfl (by decide) (law6 l0 hd0 n1 t2 hd2 l3 hd3 (g0 W) k0 k2 k3 kw2)

set_option maxHeartbeats 4000000 in
theorem grantKeeps_closed : joinedFacts Tryz.prog 6 Tryz.f6 Rows.grantKeepsSpec Rows.grantKeepsRow = true :=
  joined_of rfl (by as_aux_lemma => kernel_rfl) (by as_aux_lemma => kernel_rfl) (by as_aux_lemma => kernel_rfl) (by as_aux_lemma => kernel_rfl) (by as_aux_lemma => kernel_rfl) (by as_aux_lemma => kernel_rfl)
    (by as_aux_lemma => kernel_rfl) (by as_aux_lemma => kernel_rfl) (by as_aux_lemma => kernel_rfl) (by as_aux_lemma => kernel_rfl) (by as_aux_lemma => kernel_rfl) (by as_aux_lemma => kernel_rfl)

set_option maxHeartbeats 4000000 in
theorem grantKeeps_holds : Rows.GrantKeepsSaid :=
  OpenClaim.holds_of_wide 6 Tryz.f6 rfl rfl rfl rfl rfl rfl rfl ⟨rfl, rfl, rfl, rfl, rfl⟩ rfl rfl rfl rfl rfl (by as_aux_lemma => kernel_rfl) Tryz.func6 grantKeeps_closed
    (of_decide_eq_true (by kernel_rfl)) (by unfold Func.isWrapper; rw [if_neg (of_decide_eq_false (by kernel_rfl))]; exact ⟨rfl, rfl⟩)
    (fun os started H enc _ => grantKeeps_lifted os started H enc)
end Go.Proofs.YtobhfopgoidniaaGreat
