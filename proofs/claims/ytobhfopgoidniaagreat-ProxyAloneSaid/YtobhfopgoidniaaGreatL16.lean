/- A user's own ticket for the centre gets nothing on behalf of another one. ProxyAlone: what is said of it holds at every input. No condition. -/
import Derived.Test.YtobhfopgoidniaaGreatPF
import Derived.Test.YtobhfopgoidniaaGreatSB
import Derived.Test.YtobhfopgoidniaaGreatMA
import Derived.Test.YtobhfopgoidniaaGreatMB
set_option linter.all false
set_option linter.unusedVariables false
set_option linter.unusedSimpArgs false

/- A user's own ticket for the centre gets nothing on behalf of another one. -/
namespace Go.Proofs.YtobhfopgoidniaaGreat
open Go Go.Eng

def lnHs (n m : Nat) : List (Pr × PH) := [(fwC, noH), (lnA, ⟨⟨some ⟨n, 0, none⟩, 1⟩, ⟨none, 0⟩, ⟨none, 0⟩⟩), (lnB, noH), (lnW, ⟨⟨some ⟨m, 0, none⟩, 1⟩, ⟨none, 0⟩, ⟨none, 0⟩⟩), (lnD, noH)]

set_option maxHeartbeats 4000000 in
set_option maxRecDepth 20000 in
theorem law16 (now nonce : Int) (g : G) :
    Ok Tryz.prog 16 [.int .i64 now, .int .i64 nonce] g [11, 20, 21, 30, 31, 32, 33, 50, 51, 61, 62, 63] (fun v _ => v = .bool true) := by
  have kwp : ∀ (g : G) (n m : Nat), Cs g 0 n 0 [.string bDb'] → Cs g 0 m 0 [.string bDb'] → ∀ p ∈ lnHs n m, POk g 0 p.1 p.2 := by
    intro g n m hn hm p hp
    simp only [lnHs, List.mem_cons, List.not_mem_nil, or_false] at hp
    rcases hp with rfl | rfl | rfl | rfl | rfl
    · exact kw _ _ ⟨rfl, rfl, rfl, by decide⟩
    · exact ⟨⟨⟨.inr ⟨n, 0, rfl, hn⟩, Nat.le_refl _, by show (1 : Nat) ≤ maxLen; decide⟩, by intro s hs; rw [List.mem_singleton.1 hs]; decide⟩, ⟨⟨.inl rfl, Nat.le_refl _, Nat.zero_le _⟩, by simp [lnA]⟩, ⟨.inl rfl, Nat.le_refl _, Nat.zero_le _⟩, by show bAnn.size ≤ maxLen; decide⟩
    · exact kw _ _ ⟨rfl, rfl, rfl, by decide⟩
    · exact ⟨⟨⟨.inr ⟨m, 0, rfl, hm⟩, Nat.le_refl _, by show (1 : Nat) ≤ maxLen; decide⟩, by intro s hs; rw [List.mem_singleton.1 hs]; decide⟩, ⟨⟨.inl rfl, Nat.le_refl _, Nat.zero_le _⟩, by simp [lnW]⟩, ⟨.inl rfl, Nat.le_refl _, Nat.zero_le _⟩, by show bWeb.size ≤ maxLen; decide⟩
    · exact kw _ _ ⟨rfl, rfl, rfl, by decide⟩
  refine fbegin Tryz.func16 rfl Tryz.ntmps16 (Nat.le_of_ble_eq_true rfl) fun C hw hC => ?_
  refine rn hC ?_
  simp [go_sem]
  repeat (refine nr hC rfl ?_; simp [go_sem])
  first | refine call hC [11,20,21,30,31,32,33,50,51,61,62,63] (by kernel_rfl) rfl rfl rfl rfl rfl fun m1 g1 p1 e1 => ?_ | refine callD hC [11,20,21,30,31,32,33,50,51,61,62,63] (by kernel_rfl) rfl rfl rfl rfl rfl rfl rfl rfl fun m1 g1 p1 e1 => ?_
  refine ⟨_, works64 _, fun v1 u1 q1 s1 hv1 => ?_⟩
  subst hv1
  by_cases c1 : now < 0
  · refine rn hC ?_
    simp [go_sem, c1]
    repeat (refine nr hC rfl ?_; simp [go_sem, c1])
    try (refine rn hC ?_; simp [go_sem, c1]; repeat (refine nr hC rfl ?_; simp [go_sem, c1]))
    refine ret hC tabOk (fun _ => 1) rfl rfl fun m gf hl ex => ?_
    rfl
  by_cases c2 : 549755813888 < now
  · refine rn hC ?_
    simp [go_sem, c1, c2]
    repeat (refine nr hC rfl ?_; simp [go_sem, c1, c2])
    try (refine rn hC ?_; simp [go_sem, c1, c2]; repeat (refine nr hC rfl ?_; simp [go_sem, c1, c2]))
    refine ret hC tabOk (fun _ => 1) rfl rfl fun m gf hl ex => ?_
    rfl
  refine rn hC ?_
  simp [go_sem, c1, c2]
  repeat (refine nr hC rfl ?_; simp [go_sem, c1, c2])
  try (refine rn hC ?_; simp [go_sem, c1, c2]; repeat (refine nr hC rfl ?_; simp [go_sem, c1, c2]))
  first | refine call hC [11,20,21] (by kernel_rfl) rfl rfl rfl rfl rfl fun m2 g2 p2 e2 => ?_ | refine callD hC [11,20,21] (by kernel_rfl) rfl rfl rfl rfl rfl rfl rfl rfl fun m2 g2 p2 e2 => ?_
  refine ⟨_, both34' (lnHs (m2.getD 0 0) (m2.getD 1 0)) ⟨some ⟨m2.getD 2 0, 0, none⟩, 5⟩ _ ⟨.inr ⟨_, _, rfl, e2.frz (i := 2) rfl rfl rfl⟩, Nat.le_refl _, by show (5 : Nat) ≤ maxLen; decide, kwp _ _ _ (e2.frz (i := 0) rfl rfl rfl) (e2.frz (i := 1) rfl rfl rfl)⟩, fun v2 u2 q2 s2 hv2 => ?_⟩
  obtain ⟨bp, br, hs', rfl, kpol, kref, _⟩ := hv2
  replace kpol : PolAt u2 bp (addAll lnPs) := kpol
  rw [ln_add] at kpol
  obtain ⟨d1, d2, x3, d3, d4, d5, d6, gw, i1, i2, i3, i3', i4, i5, i6, z1, z2, z3, z4, z5, y1, y2, y3⟩ := alone_pure (nonce := nonce) (show 0 ≤ now by omega) (show now ≤ 549755813888 by omega)
  have q1 := z1.came
  have q2 := z2.came
  have q3 := z3.came
  have q4 := z4.came
  have q5 := z5.came
  have r1 := z1.evs
  have r2 := z2.evs
  have r3 := z3.evs
  have r4 := z4.evs
  have r5 := z5.evs
  refine rn hC ?_
  simp [go_sem]
  repeat (refine nr hC rfl ?_; simp [go_sem])
  first | refine call hC [] (by kernel_rfl) rfl rfl rfl rfl rfl fun m3 g3 p3 e3 => ?_ | refine callD hC [] (by kernel_rfl) rfl rfl rfl rfl rfl rfl rfl rfl fun m3 g3 p3 e3 => ?_
  refine ⟨_, lnew37 bp lnPs 20 _ (kpol.ks Kp.ks (by decide) (by decide) (by decide) (by decide)), fun v3 u3 q3 s3 hv3 => ?_⟩
  obtain ⟨b, rfl, kc⟩ := hv3
  refine rn hC ?_
  simp [go_sem]
  repeat (refine nr hC rfl ?_; simp [go_sem])
  first | refine call hC [] (by kernel_rfl) rfl rfl rfl rfl rfl fun m4 g4 p4 e4 => ?_ | refine callD hC [] (by kernel_rfl) rfl rfl rfl rfl rfl rfl rfl rfl fun m4 g4 p4 e4 => ?_
  refine ⟨_, key43 bAnn 1 _, fun v4 u4 q4 s4 hv4 => ?_⟩
  subst hv4
  refine rn hC ?_
  simp [go_sem]
  repeat (refine nr hC rfl ?_; simp [go_sem])
  first | refine call hC [30,31,32,33,61,62,63] (by kernel_rfl) rfl rfl rfl rfl rfl fun m5 g5 p5 e5 => ?_ | refine callD hC [30,31,32,33,61,62,63] (by kernel_rfl) rfl rfl rfl rfl rfl rfl rfl rfl fun m5 g5 p5 e5 => ?_
  refine ⟨_, in39 b bp ⟨lnPs, max 20 0, [], 0, []⟩ bAnn (keyT bAnn 1) now 1 ⟨none, 0⟩ _ (kc.ks Kp.ks (by decide) (by decide) (by decide) (by decide) (by decide) (by decide) (by decide) (by decide) (by decide)) (tok_leaf _ _ _ _ (by decide)) (by decide) (Nat.zero_le _) (Nat.zero_le _), fun v5 u5 q5 s5 hv5 => ?_⟩
  rw [i1] at hv5
  obtain ⟨⟨h5, h5', rfl, k5, k5'⟩, kc5⟩ := hv5
  refine rn hC ?_
  simp [go_sem]
  repeat (refine nr hC rfl ?_; simp [go_sem])
  first | refine call hC [] (by kernel_rfl) rfl rfl rfl rfl rfl fun m6 g6 p6 e6 => ?_ | refine callD hC [] (by kernel_rfl) rfl rfl rfl rfl rfl rfl rfl rfl fun m6 g6 p6 e6 => ?_
  refine ⟨_, key43 bBob 1 _, fun v6 u6 q6 s6 hv6 => ?_⟩
  subst hv6
  refine rn hC ?_
  simp [go_sem]
  repeat (refine nr hC rfl ?_; simp [go_sem])
  first | refine call hC [30,31,32,33,61,62,63] (by kernel_rfl) rfl rfl rfl rfl rfl fun m7 g7 p7 e7 => ?_ | refine callD hC [30,31,32,33,61,62,63] (by kernel_rfl) rfl rfl rfl rfl rfl rfl rfl rfl fun m7 g7 p7 e7 => ?_
  refine ⟨_, in39 b bp d1 bBob (keyT bBob 1) now 2 ⟨none, 0⟩ _ (kc5.ks Kp.ks (by decide) (by decide) (by decide) (by decide) (by decide) (by decide) (by decide) (by decide) (by decide)) (tok_leaf _ _ _ _ (by decide)) (by decide) (by omega) (by omega), fun v7 u7 q7 s7 hv7 => ?_⟩
  rw [i2] at hv7
  obtain ⟨⟨h7, h7', rfl, k7, k7'⟩, kc7⟩ := hv7
  refine rn hC ?_
  simp [go_sem]
  repeat (refine nr hC rfl ?_; simp [go_sem])
  refine draw hC [(0, 0), (1, 0), (2, 0), (3, 0), (5, 0), (11, 2), (4, 1), (6, 1), (7, 1), (8, 0), (9, 0), (10, 0), (11, 3), (12, 1)] [13] mix (by kernel_rfl) ?_
  refine rn hC ?_
  simp [go_sem]
  repeat (refine nr hC rfl ?_; simp [go_sem])
  first | refine call hC [] (by kernel_rfl) rfl rfl rfl rfl rfl fun m8 g8 p8 e8 => ?_ | refine callD hC [] (by kernel_rfl) rfl rfl rfl rfl rfl rfl rfl rfl fun m8 g8 p8 e8 => ?_
  refine ⟨_, list56 [] ⟨none, 0⟩ _ (nil_ok _) (by simp), fun v8 u8 q8 s8 hv8 => ?_⟩
  obtain ⟨h8, rfl, k8⟩ := hv8
  refine rn hC ?_
  simp [go_sem]
  repeat (refine nr hC rfl ?_; simp [go_sem])
  first | refine call hC [] (by kernel_rfl) rfl rfl rfl rfl rfl fun m9 g9 p9 e9 => ?_ | refine callD hC [] (by kernel_rfl) rfl rfl rfl rfl rfl rfl rfl rfl fun m9 g9 p9 e9 => ?_
  refine ⟨_, gask41 sAsk bWeb bBob (keyT .empty 2) (tkT lnPs (lnR bBob now) 2) (listT []) now 3 1099511627776 h7' h7 h8 _ k7'.to k7.to k8.to (by decide) (by decide) (by decide), fun v9 u9 q9 s9 hv9 => ?_⟩
  obtain ⟨h9, rfl, k9⟩ := hv9
  refine rn hC ?_
  simp [go_sem]
  repeat (refine nr hC rfl ?_; simp [go_sem])
  first | refine call hC [30,31,32,33,50,51,61,62,63] (by kernel_rfl) rfl rfl rfl rfl rfl fun m10 g10 p10 e10 => ?_ | refine callD hC [30,31,32,33,50,51,61,62,63] (by kernel_rfl) rfl rfl rfl rfl rfl rfl rfl rfl fun m10 g10 p10 e10 => ?_
  refine ⟨_, answer50 b bp d2 now (gaskS sAsk bWeb bBob (keyT .empty 2) (tkT lnPs (lnR bBob now) 2) (listT []) now 3 1099511627776) h9 _ (kc7.ks Kp.ks (by decide) (by decide) (by decide) (by decide) (by decide) (by decide) (by decide) (by decide) (by decide)) k9.to (Nat.le_trans (tw_size _) (by rw [gask_size]; simp only [T.size, T.sizes]; omega)) (by omega) (by omega), fun v10 u10 q10 s10 hv10 => ?_⟩
  rw [i3] at hv10
  obtain ⟨⟨h10, rfl, k10⟩, kc10⟩ := hv10
  refine rn hC ?_
  simp [go_sem]
  repeat (refine nr hC rfl ?_; simp [go_sem])
  first | refine call hC [] (by kernel_rfl) rfl rfl rfl rfl rfl fun m11 g11 p11 e11 => ?_ | refine callD hC [] (by kernel_rfl) rfl rfl rfl rfl rfl rfl rfl rfl fun m11 g11 p11 e11 => ?_
  refine ⟨_, got42 x3 (keyT .empty 2) h10 h7' _ k10.to k7'.to, fun v11 u11 q11 s11 hv11 => ?_⟩
  rw [i3'] at hv11
  obtain ⟨h11, h11', rfl, k11, k11'⟩ := hv11
  refine rn hC ?_
  simp [go_sem]
  repeat (refine nr hC rfl ?_; simp [go_sem])
  first | refine call hC [] (by kernel_rfl) rfl rfl rfl rfl rfl fun m12 g12 p12 e12 => ?_ | refine callD hC [] (by kernel_rfl) rfl rfl rfl rfl rfl rfl rfl rfl fun m12 g12 p12 e12 => ?_
  refine ⟨_, gask41 sProxy bDb' bAnn (keyT .empty 1) (tkT lnPs (lnR bAnn now) 1) (tkT lnPs gw 3) now 4 1099511627776 h5' h5 h11 _ k5'.to k5.to k11.to (by decide) (by decide) (by decide), fun v12 u12 q12 s12 hv12 => ?_⟩
  obtain ⟨h12, rfl, k12⟩ := hv12
  refine rn hC ?_
  simp [go_sem]
  repeat (refine nr hC rfl ?_; simp [go_sem])
  first | refine call hC [30,31,32,33,50,51,61,62,63] (by kernel_rfl) rfl rfl rfl rfl rfl fun m13 g13 p13 e13 => ?_ | refine callD hC [30,31,32,33,50,51,61,62,63] (by kernel_rfl) rfl rfl rfl rfl rfl rfl rfl rfl fun m13 g13 p13 e13 => ?_
  refine ⟨_, proxy65 b bp d3 now (gaskS sProxy bDb' bAnn (keyT .empty 1) (tkT lnPs (lnR bAnn now) 1) (tkT lnPs gw 3) now 4 1099511627776) h12 _ (kc10.ks Kp.ks (by decide) (by decide) (by decide) (by decide) (by decide) (by decide) (by decide) (by decide) (by decide)) k12.to (Nat.le_trans (tw_size _) (by rw [gask_size]; simp only [T.size, T.sizes]; omega)) (by omega) (by omega), fun v13 u13 q13 s13 hv13 => ?_⟩
  rw [i4] at hv13
  obtain ⟨⟨h13, rfl, k13⟩, kc13⟩ := hv13
  refine rn hC ?_
  simp [go_sem]
  repeat (refine nr hC rfl ?_; simp [go_sem])
  first | refine call hC [] (by kernel_rfl) rfl rfl rfl rfl rfl fun m14 g14 p14 e14 => ?_ | refine callD hC [] (by kernel_rfl) rfl rfl rfl rfl rfl rfl rfl rfl fun m14 g14 p14 e14 => ?_
  refine ⟨_, gask41 sProxy bDb' bAnn (keyT .empty 1) (tkT lnPs (lnR bAnn now) 1) (tkT lnPs (lnR bAnn now) 1) now 5 1099511627776 h5' h5 h5 _ k5'.to k5.to k5.to (by decide) (by decide) (by decide), fun v14 u14 q14 s14 hv14 => ?_⟩
  obtain ⟨h14, rfl, k14⟩ := hv14
  refine rn hC ?_
  simp [go_sem]
  repeat (refine nr hC rfl ?_; simp [go_sem])
  first | refine call hC [30,31,32,33,50,51,61,62,63] (by kernel_rfl) rfl rfl rfl rfl rfl fun m15 g15 p15 e15 => ?_ | refine callD hC [30,31,32,33,50,51,61,62,63] (by kernel_rfl) rfl rfl rfl rfl rfl rfl rfl rfl fun m15 g15 p15 e15 => ?_
  refine ⟨_, proxy65 b bp d4 now (gaskS sProxy bDb' bAnn (keyT .empty 1) (tkT lnPs (lnR bAnn now) 1) (tkT lnPs (lnR bAnn now) 1) now 5 1099511627776) h14 _ (kc13.ks Kp.ks (by decide) (by decide) (by decide) (by decide) (by decide) (by decide) (by decide) (by decide) (by decide)) k14.to (Nat.le_trans (tw_size _) (by rw [gask_size]; simp only [T.size, T.sizes]; omega)) (by omega) (by omega), fun v15 u15 q15 s15 hv15 => ?_⟩
  rw [i5] at hv15
  obtain ⟨⟨h15, rfl, k15⟩, kc15⟩ := hv15
  refine rn hC ?_
  simp [go_sem]
  repeat (refine nr hC rfl ?_; simp [go_sem])
  first | refine call hC [] (by kernel_rfl) rfl rfl rfl rfl rfl fun m16 g16 p16 e16 => ?_ | refine callD hC [] (by kernel_rfl) rfl rfl rfl rfl rfl rfl rfl rfl fun m16 g16 p16 e16 => ?_
  refine ⟨_, gask41 sProxy bDb' bBob (keyT .empty 2) (tkT lnPs (lnR bBob now) 2) (tkT lnPs gw 3) now nonce 1099511627776 h7' h7 h11 _ k7'.to k7.to k11.to (by decide) (by decide) (by decide), fun v16 u16 q16 s16 hv16 => ?_⟩
  obtain ⟨h16, rfl, k16⟩ := hv16
  refine rn hC ?_
  simp [go_sem]
  repeat (refine nr hC rfl ?_; simp [go_sem])
  first | refine call hC [30,31,32,33,50,51,61,62,63] (by kernel_rfl) rfl rfl rfl rfl rfl fun m17 g17 p17 e17 => ?_ | refine callD hC [30,31,32,33,50,51,61,62,63] (by kernel_rfl) rfl rfl rfl rfl rfl rfl rfl rfl fun m17 g17 p17 e17 => ?_
  refine ⟨_, proxy65 b bp d5 now (gaskS sProxy bDb' bBob (keyT .empty 2) (tkT lnPs (lnR bBob now) 2) (tkT lnPs gw 3) now nonce 1099511627776) h16 _ (kc15.ks Kp.ks (by decide) (by decide) (by decide) (by decide) (by decide) (by decide) (by decide) (by decide) (by decide)) k16.to (Nat.le_trans (tw_size _) (by rw [gask_size]; simp only [T.size, T.sizes]; omega)) (by omega) (by omega), fun v17 u17 q17 s17 hv17 => ?_⟩
  rw [i6] at hv17
  obtain ⟨⟨h17, rfl, k17⟩, kc17⟩ := hv17
  refine rn hC ?_
  simp [go_sem]
  repeat (refine nr hC rfl ?_; simp [go_sem])
  refine ret hC tabOk (fun _ => 1) rfl rfl fun m gf hl ex => ?_
  rfl
end Go.Proofs.YtobhfopgoidniaaGreat

/- ProxyAlone: what is said of it holds at every input. No condition. -/
namespace Go.Proofs.YtobhfopgoidniaaGreat
open Go Go.Eng Go.ChangeShapes Go.WideShapes Go.RowKit
open Go.ChangeMaps (open_string)

set_option maxHeartbeats 1600000 in
set_option maxRecDepth 100000 in
theorem proxyAlone_lifted (os : Os) (started : os.Started) (H : Type) (enc : TypeId × Value → H) :
    ReturnsInHanded {} Tryz.checked os 16 .any (Rows.proxyAloneSpec.pre6 enc Tryz.prog Tryz.f16 Rows.proxyAloneRow.domain false) (Rows.proxyAloneSpec.post enc Tryz.prog Tryz.f16 false true false false) := by
  refine returnsInHanded_of_change (C := Tryz.checked) Tryz.own started (by kernel_rfl) Tryz.func16
    (ChangeSpec.witness6 (enc := enc) (C := Tryz.checked) false ⟨#[], #[.int .i64 0, .int .i64 0], []⟩ 8 (by kernel_rfl) (by kernel_rfl) (by kernel_rfl) (by kernel_rfl)) ?_
  intro W base args ds gs before hval0 hW _ _
  have hval : ∀ (j : Nat) t v, Tryz.f16.params[j]? = some t → args[j]? = some v → Value.okWide Tryz.prog W .any base t v := hval0
  have hW' : DataW.Whole enc Tryz.prog Tryz.f16.params.toList Rows.proxyAloneSpec.vars false W args.toList ds gs before := hW
  have hWk := hW'
  obtain ⟨p, q, hA, hV, _, _, _⟩ := hW'
  obtain ⟨rfl, rfl⟩ := trodVars_none hV
  rw [Tryz.params16] at hA hval
  obtain ⟨args⟩ := args
  dsimp only at hA hval
  obtain ⟨v0, vr0, d0, dr0, p0, pr0, rfl, rfl, rfl, h0, hA⟩ := trodAll_cons hA
  obtain ⟨v1, vr1, d1, dr1, p1, pr1, rfl, rfl, rfl, h1, hA⟩ := trodAll_cons hA
  obtain ⟨rfl, rfl, rfl⟩ := trodAll_nil hA
  obtain ⟨n0, rfl⟩ := open_num (hval 0 3 v0 rfl rfl) h0
  obtain ⟨n1, rfl⟩ := open_num (hval 1 3 v1 rfl rfl) h1
  exact law_step (L := [11, 20, 21, 30, 31, 32, 33, 50, 51, 61, 62, 63]) (by kernel_rfl) (by rw [Tryz.params16]; exact reads_of (by kernel_rfl)) hWk rfl rfl (by decide) (law16 n0 n1 (g0 W))

set_option maxHeartbeats 4000000 in
theorem proxyAlone_closed : joinedFacts Tryz.prog 16 Tryz.f16 Rows.proxyAloneSpec Rows.proxyAloneRow = true :=
  joined_of rfl (by as_aux_lemma => kernel_rfl) (by as_aux_lemma => kernel_rfl) (by as_aux_lemma => kernel_rfl) (by as_aux_lemma => kernel_rfl) (by as_aux_lemma => kernel_rfl) (by as_aux_lemma => kernel_rfl)
    (by as_aux_lemma => kernel_rfl) (by as_aux_lemma => kernel_rfl) (by as_aux_lemma => kernel_rfl) (by as_aux_lemma => kernel_rfl) (by as_aux_lemma => kernel_rfl) (by as_aux_lemma => kernel_rfl)

set_option maxHeartbeats 4000000 in
theorem proxyAlone_holds : Rows.ProxyAloneSaid :=
  OpenClaim.holds_of_wide 16 Tryz.f16 rfl rfl rfl rfl rfl rfl rfl ⟨rfl, rfl, rfl, rfl, rfl⟩ rfl rfl rfl rfl rfl (by as_aux_lemma => kernel_rfl) Tryz.func16 proxyAlone_closed
    (of_decide_eq_true (by kernel_rfl)) (by unfold Func.isWrapper; rw [if_neg (of_decide_eq_false (by kernel_rfl))]; exact ⟨rfl, rfl⟩)
    (fun os started H enc _ => proxyAlone_lifted os started H enc)
end Go.Proofs.YtobhfopgoidniaaGreat
