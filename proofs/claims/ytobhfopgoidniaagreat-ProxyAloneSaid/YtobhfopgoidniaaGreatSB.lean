/- What is answered to who asks on behalf of a user. A service asks on behalf of a user. A service asks on behalf of a user: the document's example. -/
import Derived.Test.YtobhfopgoidniaaGreatSA
import Derived.Test.YtobhfopgoidniaaGreatKC
import Derived.Test.YtobhfopgoidniaaGreatNB
import Derived.Test.YtobhfopgoidniaaGreatNE
set_option linter.all false
set_option linter.unusedVariables false
set_option linter.unusedSimpArgs false

/- What is answered to who asks on behalf of a user. -/
namespace Go.Proofs.YtobhfopgoidniaaGreat
open Go Go.Eng

def proGr (a : Asd) (w : Au) (fr till : Int) : Gr := ⟨w.user, w.user, a.target, 1, w.org, w.tr ++ [a.tk.cl], true, fr, till⟩
def proEv (a : Asd) (w : Au) (cl : Bool) : Ev := ⟨3, 0, w.user, a.tk.cl, a.target, w.tr ++ [a.tk.cl], 0, 0, cl, 0⟩

/-- Asked, opened: on behalf of a user. -/
def proxyH (c : Cen) (now : Int) (a : Asd) (w : Au) : (T × Int) × Cen :=
  if (hopS c.ps a.tk.cl a.target).2 = 0 then (if (bothN (a.fr, a.till) (now, w.till)).2 = 0 then replyS c now a (proGr a w (bothN (a.fr, a.till) (now, w.till)).1.1 (bothN (a.fr, a.till) (now, w.till)).1.2) (proEv a w (hopS c.ps a.tk.cl a.target).1) else ((T0, (bothN (a.fr, a.till) (now, w.till)).2), c)) else ((T0, (hopS c.ps a.tk.cl a.target).2), c)
def proxyO (c : Cen) (now : Int) (a : Asd) : (T × Int) × Cen :=
  if itsP a = 0 then (if userP c.ps now a = 0 then proxyH c now a (takeP c.ps now a.tk.cl a.extra).1.2 else ((T0, userP c.ps now a), c)) else ((T0, itsP a), c)
def proxyS (c : Cen) (now : Int) (t : T) : (T × Int) × Cen :=
  if (oopS c now t).1.2 = 0 then proxyO (oopS c now t).2 now (oopS c now t).1.1 else ((T0, (oopS c now t).1.2), (oopS c now t).2)

theorem oop_extra {c : Cen} {now : Int} {t : T} (h : (oopS c now t).1.2 = 0) : tw (oopS c now t).1.1.extra ≤ tw t := by
  obtain ⟨k, tg, n, tl, tk, au, ex, ho, _, _, e⟩ := oop_inv h
  rw [e]
  show tw ex ≤ tw t
  have h1 := tw_l t
  have h2 : ex ∈ t.l := by
    rcases take_or t sTgsReq 7 with ⟨_, _, el⟩ | e0
    · rw [el, ho.eq]; simp
    · have := ho.eq; rw [e0] at this; simp at this
  have h3 := tws_mem _ _ h2
  omega

theorem user_len {ps : List Pr} {now : Int} {a : Asd} (h : userP ps now a = 0) : (takeP ps now a.tk.cl a.extra).2 = 0 ∧ (takeP ps now a.tk.cl a.extra).1.2.tr.length < 8 := by
  unfold userP at h
  split at h
  · rename_i q
    refine ⟨q, ?_⟩
    split at h
    · split at h
      · exact absurd h (by decide)
      · split at h
        · exact absurd h (by decide)
        · omega
    · rename_i q2; exact absurd h q2
  · rename_i q; exact absurd h q

end Go.Proofs.YtobhfopgoidniaaGreat

/- A service asks on behalf of a user. -/
namespace Go.Proofs.YtobhfopgoidniaaGreat
open Go Go.Eng

attribute [local go_sem] Cap.val
set_option maxHeartbeats 4000000 in
set_option maxRecDepth 20000 in
theorem proxy65 (b bp : Nat) (c : Cen) (now : Int) (t : T) (h : Hd) (g : G) (k : CenIs g b bp c) (kt : TOk g t h) (hsz : tw t ≤ 2513169434843) (hca : c.came.length ≤ 1099511627776) (hev : c.evs.length ≤ 1099511627776) :
    Ok Tryz.prog 65 [ptr b, .int .i64 now, tv t h] g [30, 31, 32, 33, 50, 51, 61, 62, 63] (fun v g' => TE (proxyS c now t).1 v g' ∧ CenIs g' b bp (proxyS c now t).2) := by
  have hO : proxyS c now t = if (oopS c now t).1.2 = 0 then proxyO (oopS c now t).2 now (oopS c now t).1.1 else ((T0, (oopS c now t).1.2), (oopS c now t).2) := rfl
  have fail : ∀ (v : Value) (g' : G) (e : Int) (c' : Cen), v = .tuple #[tv T0 ⟨none, 0⟩, .int .i64 e] → proxyS c now t = ((T0, e), c') → CenIs g' b bp c' → TE (proxyS c now t).1 v g' ∧ CenIs g' b bp (proxyS c now t).2 := by
    intro v g' e c' h1 h2 h3
    rw [h2]
    exact ⟨⟨⟨none, 0⟩, h1, T0_ok _⟩, h3⟩
  have hev2 := oop_evs c now t
  have hex := @oop_extra c now t
  refine fbegin Tryz.func65 rfl Tryz.ntmps65 (Nat.le_of_ble_eq_true rfl) fun C hw hC => ?_
  refine rn hC ?_
  simp [go_sem]
  repeat (refine nr hC rfl ?_; simp [go_sem])
  refine call hC [32,33,50,51,61,62,63] (by kernel_rfl) rfl rfl rfl rfl rfl fun m1 g1 p1 e1 => ⟨_, open55 b bp c now t h _ (k.ks Kp.ks (by decide) (by decide) (by decide) (by decide) (by decide) (by decide) (by decide) (by decide) (by decide)) kt.to hsz hca, fun v1 u1 q1 s1 hv1 => ?_⟩
  obtain ⟨⟨ha, rfl, ka⟩, kc⟩ := hv1
  generalize oopS c now t = oo at ka kc hO hev2 hex ⊢
  obtain ⟨⟨a, oe⟩, c2⟩ := oo
  dsimp only at ka kc hO hev2 hex ⊢
  by_cases h1 : oe = 0
  rotate_left
  · refine rn hC ?_
    simp [go_sem, h1]
    repeat (refine nr hC rfl ?_; simp [go_sem, h1])
    try (refine rn hC ?_; simp [go_sem, h1]; repeat (refine nr hC rfl ?_; simp [go_sem, h1]))
    refine ret hC tabOk (fun _ => 1) rfl rfl fun m gf hl ex => ?_
    exact fail _ _ _ _ rfl (hO.trans (if_neg h1)) (kc.ks Kp.ks (by decide) (by decide) (by decide) (by decide) (by decide) (by decide) (by decide) (by decide) (by decide))
  replace hO := hO.trans (if_pos h1)
  replace hex := hex h1
  refine rn hC ?_
  simp [go_sem, h1]
  repeat (refine nr hC rfl ?_; simp [go_sem, h1])
  try (refine rn hC ?_; simp [go_sem, h1]; repeat (refine nr hC rfl ?_; simp [go_sem, h1]))
  refine smallX (fun i => if i = 3 then 50 else 1) rfl fun m2 g2 p2 e2 => ⟨⟨[(39, .c (.v (.func (.func 182) #[ptr (m2.getD 3 0)] #[]))), (37, .c (.v (.func (.func 181) #[ptr (m2.getD 3 0)] #[]))), (35, .c (.v (.func (.func 180) #[ptr (m2.getD 3 0)] #[]))), (10, .c (.v (ptr (m2.getD 3 0)))), (8, .c (.bp 2 0)), (6, .c (.bp 1 0)), (1, .c (.v (.int .i64 now))), (0, .c (.v (ptr b)))], [], [(0, ⟨25, [.v (.int .i64 t.k), .v (.string t.s), .v (.int .i64 t.n), .v (.slice h.a t.l.length h.cap)], false⟩), (1, ⟨25, [.v (.int .i64 0), .v (.string .empty), .v (.int .i64 0), .v (.slice none 0 0)], false⟩), (2, ⟨82, (asc a ha).map .v, false⟩)], [], 3⟩, ⟨by simp [go_sem], by simp [go_sem, SV.val, SC.val], rfl, bxs_ok (n := 3) (Nat.le_refl _) (by simp [go_sem]), by simp [go_sem], ⟨_, rfl⟩⟩, fun i hi => by dsimp only at hi ⊢; rw [if_neg (by omega)], ?_⟩
  have kop : PxIs g2 (m2.getD 3 0) a b now Au0 false 0 0 := ⟨ha, ⟨⟨none, 0⟩, ⟨none, 0⟩⟩, e2.ob (i := 3) rfl, ka.to, Au0_ok _⟩
  generalize m2.getD 3 0 = bo at kop ⊢
  refine rn hC ?_
  simp [go_sem]
  repeat (refine nr hC rfl ?_; simp [go_sem])
  refine vo hC (vo_bldf hC [(0, .func (.func 180) #[ptr bo] #[]), (1, .func (.func 181) #[ptr bo] #[]), (2, .func (.func 182) #[ptr bo] #[])] rfl (fun _ => rfl) (run_bld tabOk Tryz.underlying226 rfl rfl rfl rfl)) rfl rfl rfl ?_
  refine rn hC ?_
  simp [go_sem]
  repeat (refine nr hC rfl ?_; simp [go_sem])
  refine small (fun _ => 1) rfl fun m3 g3 p3 e3 => ⟨⟨[(41, .c (.v (.int .i64 0))), (40, .ag [.v (.func (.func 180) #[ptr bo] #[]), .v (.func (.func 181) #[ptr bo] #[]), .v (.func (.func 182) #[ptr bo] #[])]), (10, .c (.v (ptr bo))), (8, .c (.bp 2 0)), (6, .c (.bp 1 0)), (1, .c (.v (.int .i64 now))), (0, .c (.v (ptr b)))], [], [(0, ⟨25, [.v (.int .i64 t.k), .v (.string t.s), .v (.int .i64 t.n), .v (.slice h.a t.l.length h.cap)], false⟩), (1, ⟨25, [.v (.int .i64 0), .v (.string .empty), .v (.int .i64 0), .v (.slice none 0 0)], false⟩), (2, ⟨82, (asc a ha).map .v, false⟩)], [], 3⟩, ⟨by simp [go_sem], by simp [go_sem], rfl, bxs_ok (n := 3) (Nat.le_refl _) (by simp [go_sem]), by simp [go_sem], ⟨_, rfl⟩⟩, by simp, ?_⟩
  refine unroll ?_
  refine rn hC ?_
  simp [go_sem]
  repeat (refine nr hC rfl ?_; simp [go_sem])
  refine vo hC (vo_ixa (vs := [.func (.func 180) #[ptr bo] #[], .func (.func 181) #[ptr bo] #[], .func (.func 182) #[ptr bo] #[]]) (v := .func (.func 180) #[ptr bo] #[]) hC tabOk rfl rfl (fun _ => rfl) rfl Tryz.underlying226 rfl rfl rfl (by omega) (by omega) rfl) rfl rfl rfl ?_
  refine rn hC ?_
  simp [go_sem]
  repeat (refine nr hC rfl ?_; simp [go_sem])
  refine callv hC [] 1 rfl rfl rfl rfl (by kernel_rfl) rfl rfl rfl rfl fun m4 g4 w4 p4 e4 => ⟨_, pits180 bo b a now Au0 false 0 0 _ (kop.ks Kp.ks (by decide) (by decide)), fun v4 j4 u4 q4 s4 hv4 r4 => ?_⟩
  subst hv4
  unfold proxyO at hO
  by_cases h2 : itsP a = 0
  rotate_left
  · refine rn hC ?_
    simp [go_sem, h2]
    repeat (refine nr hC rfl ?_; simp [go_sem, h2])
    try (refine rn hC ?_; simp [go_sem, h2]; repeat (refine nr hC rfl ?_; simp [go_sem, h2]))
    refine ret hC tabOk (fun _ => 1) rfl rfl fun m gf hl ex => ?_
    exact fail _ _ _ _ rfl (hO.trans (if_neg h2)) (kc.ks Kp.ks (by decide) (by decide) (by decide) (by decide) (by decide) (by decide) (by decide) (by decide) (by decide))
  replace hO := hO.trans (if_pos h2)
  refine rn hC ?_
  simp [go_sem, h2]
  repeat (refine nr hC rfl ?_; simp [go_sem, h2])
  try (refine rn hC ?_; simp [go_sem, h2]; repeat (refine nr hC rfl ?_; simp [go_sem, h2]))
  refine small (fun _ => 1) rfl fun m5 g5 p5 e5 => ⟨⟨[(41, .c (.v (.int .i64 1))), (40, .ag [.v (.func (.func 180) #[ptr bo] #[]), .v (.func (.func 181) #[ptr bo] #[]), .v (.func (.func 182) #[ptr bo] #[])]), (10, .c (.v (ptr bo))), (8, .c (.bp 2 0)), (6, .c (.bp 1 0)), (1, .c (.v (.int .i64 now))), (0, .c (.v (ptr b)))], [], [(0, ⟨25, [.v (.int .i64 t.k), .v (.string t.s), .v (.int .i64 t.n), .v (.slice h.a t.l.length h.cap)], false⟩), (1, ⟨25, [.v (.int .i64 0), .v (.string .empty), .v (.int .i64 0), .v (.slice none 0 0)], false⟩), (2, ⟨82, (asc a ha).map .v, false⟩)], [], 3⟩, ⟨by simp [go_sem], by simp [go_sem], rfl, bxs_ok (n := 3) (Nat.le_refl _) (by simp [go_sem]), by simp [go_sem], ⟨_, rfl⟩⟩, by simp, ?_⟩
  refine reroll ?_
  refine rn hC ?_
  simp [go_sem]
  repeat (refine nr hC rfl ?_; simp [go_sem])
  refine vo hC (vo_ixa (vs := [.func (.func 180) #[ptr bo] #[], .func (.func 181) #[ptr bo] #[], .func (.func 182) #[ptr bo] #[]]) (v := .func (.func 181) #[ptr bo] #[]) hC tabOk rfl rfl (fun _ => rfl) rfl Tryz.underlying226 rfl rfl rfl (by omega) (by omega) rfl) rfl rfl rfl ?_
  refine rn hC ?_
  simp [go_sem]
  repeat (refine nr hC rfl ?_; simp [go_sem])
  refine callv hC [50,61,62,63] 1 rfl rfl rfl rfl (by kernel_rfl) rfl rfl rfl rfl fun m6 g6 w6 p6 e6 => ⟨_, puser181 bo b bp c2 a now Au0 false 0 0 _ (kop.ks Kp.ks (by decide) (by decide)) (kc.ks Kp.ks (by decide) (by decide) (by decide) (by decide) (by decide) (by decide) (by decide) (by decide) (by decide)) (Nat.le_trans hex hsz), fun v6 j6 u6 q6 s6 hv6 r6 => ?_⟩
  obtain ⟨rfl, hop6⟩ := hv6
  by_cases h3 : userP c2.ps now a = 0
  rotate_left
  · refine rn hC ?_
    simp [go_sem, h3]
    repeat (refine nr hC rfl ?_; simp [go_sem, h3])
    try (refine rn hC ?_; simp [go_sem, h3]; repeat (refine nr hC rfl ?_; simp [go_sem, h3]))
    refine ret hC tabOk (fun _ => 1) rfl rfl fun m gf hl ex => ?_
    exact fail _ _ _ _ rfl (hO.trans (if_neg h3)) (kc.ks Kp.ks (by decide) (by decide) (by decide) (by decide) (by decide) (by decide) (by decide) (by decide) (by decide))
  replace hO := hO.trans (if_pos h3)
  replace hop6 := hop6 h3
  obtain ⟨_, hlen⟩ := user_len h3
  generalize (takeP c2.ps now a.tk.cl a.extra).1.2 = w at hO hop6 hlen
  refine rn hC ?_
  simp [go_sem, h3]
  repeat (refine nr hC rfl ?_; simp [go_sem, h3])
  try (refine rn hC ?_; simp [go_sem, h3]; repeat (refine nr hC rfl ?_; simp [go_sem, h3]))
  refine small (fun _ => 1) rfl fun m7 g7 p7 e7 => ⟨⟨[(41, .c (.v (.int .i64 2))), (40, .ag [.v (.func (.func 180) #[ptr bo] #[]), .v (.func (.func 181) #[ptr bo] #[]), .v (.func (.func 182) #[ptr bo] #[])]), (10, .c (.v (ptr bo))), (8, .c (.bp 2 0)), (6, .c (.bp 1 0)), (1, .c (.v (.int .i64 now))), (0, .c (.v (ptr b)))], [], [(0, ⟨25, [.v (.int .i64 t.k), .v (.string t.s), .v (.int .i64 t.n), .v (.slice h.a t.l.length h.cap)], false⟩), (1, ⟨25, [.v (.int .i64 0), .v (.string .empty), .v (.int .i64 0), .v (.slice none 0 0)], false⟩), (2, ⟨82, (asc a ha).map .v, false⟩)], [], 3⟩, ⟨by simp [go_sem], by simp [go_sem], rfl, bxs_ok (n := 3) (Nat.le_refl _) (by simp [go_sem]), by simp [go_sem], ⟨_, rfl⟩⟩, by simp, ?_⟩
  refine reroll ?_
  refine rn hC ?_
  simp [go_sem]
  repeat (refine nr hC rfl ?_; simp [go_sem])
  refine vo hC (vo_ixa (vs := [.func (.func 180) #[ptr bo] #[], .func (.func 181) #[ptr bo] #[], .func (.func 182) #[ptr bo] #[]]) (v := .func (.func 182) #[ptr bo] #[]) hC tabOk rfl rfl (fun _ => rfl) rfl Tryz.underlying226 rfl rfl rfl (by omega) (by omega) rfl) rfl rfl rfl ?_
  refine rn hC ?_
  simp [go_sem]
  repeat (refine nr hC rfl ?_; simp [go_sem])
  refine callv hC [50] 1 rfl rfl rfl rfl (by kernel_rfl) rfl rfl rfl rfl fun m8 g8 w8 p8 e8 => ⟨_, phop182 bo b bp c2 a now w false 0 0 _ (hop6.ks Kp.ks (by decide) (by decide)) (kc.ks Kp.ks (by decide) (by decide) (by decide) (by decide) (by decide) (by decide) (by decide) (by decide) (by decide)), fun v8 j8 u8 q8 s8 hv8 r8 => ?_⟩
  obtain ⟨rfl, hop8⟩ := hv8
  unfold proxyH at hO
  by_cases h4 : (hopS c2.ps a.tk.cl a.target).2 = 0
  rotate_left
  · rw [if_neg h4]
    refine rn hC ?_
    simp [go_sem, h4]
    repeat (refine nr hC rfl ?_; simp [go_sem, h4])
    try (refine rn hC ?_; simp [go_sem, h4]; repeat (refine nr hC rfl ?_; simp [go_sem, h4]))
    refine ret hC tabOk (fun _ => 1) rfl rfl fun m gf hl ex => ?_
    exact fail _ _ _ _ rfl (hO.trans (if_neg h4)) (kc.ks Kp.ks (by decide) (by decide) (by decide) (by decide) (by decide) (by decide) (by decide) (by decide) (by decide))
  rw [if_pos h4]
  replace hO := hO.trans (if_pos h4)
  replace hop8 := hop8 h4
  generalize (hopS c2.ps a.tk.cl a.target).1 = cl at hO hop8
  generalize bothN (a.fr, a.till) (now, w.till) = bn at hO hop8 ⊢
  by_cases h5 : bn.2 = 0
  rotate_left
  · refine rn hC ?_
    simp [go_sem, h5]
    repeat (refine nr hC rfl ?_; simp [go_sem, h5])
    try (refine rn hC ?_; simp [go_sem, h5]; repeat (refine nr hC rfl ?_; simp [go_sem, h5]))
    refine ret hC tabOk (fun _ => 1) rfl rfl fun m gf hl ex => ?_
    exact fail _ _ _ _ rfl (hO.trans (if_neg h5)) (kc.ks Kp.ks (by decide) (by decide) (by decide) (by decide) (by decide) (by decide) (by decide) (by decide) (by decide))
  replace hO := hO.trans (if_pos h5)
  refine rn hC ?_
  simp [go_sem, h5]
  repeat (refine nr hC rfl ?_; simp [go_sem, h5])
  try (refine rn hC ?_; simp [go_sem, h5]; repeat (refine nr hC rfl ?_; simp [go_sem, h5]))
  refine small (fun _ => 1) rfl fun m9 g9 p9 e9 => ⟨⟨[(41, .c (.v (.int .i64 3))), (40, .ag [.v (.func (.func 180) #[ptr bo] #[]), .v (.func (.func 181) #[ptr bo] #[]), .v (.func (.func 182) #[ptr bo] #[])]), (10, .c (.v (ptr bo))), (8, .c (.bp 2 0)), (6, .c (.bp 1 0)), (1, .c (.v (.int .i64 now))), (0, .c (.v (ptr b)))], [], [(0, ⟨25, [.v (.int .i64 t.k), .v (.string t.s), .v (.int .i64 t.n), .v (.slice h.a t.l.length h.cap)], false⟩), (1, ⟨25, [.v (.int .i64 0), .v (.string .empty), .v (.int .i64 0), .v (.slice none 0 0)], false⟩), (2, ⟨82, (asc a ha).map .v, false⟩)], [], 3⟩, ⟨by simp [go_sem], by simp [go_sem], rfl, bxs_ok (n := 3) (Nat.le_refl _) (by simp [go_sem]), by simp [go_sem], ⟨_, rfl⟩⟩, by simp, ?_⟩
  refine reroll ?_
  obtain ⟨ha', hw', ko, ka', kw⟩ := hop8
  have hcl := ka.tk.cl
  refine rn hC ?_
  simp [go_sem]
  repeat (refine nr hC rfl ?_; simp [go_sem])
  refine vo hC (vo_load hC tabOk ((ko.cs 31 (vs := auc w hw') (by intro j v hj; match j with | 0 => exact hj | 1 => exact hj | 2 => exact hj | 3 => exact hj | 4 => exact hj | 5 => exact hj | 6 => exact hj | j + 7 => cases hj)).ks Kp.ks (by decide)) rfl rfl rfl rfl rfl) rfl rfl rfl ?_
  refine rn hC ?_
  simp [go_sem]
  repeat (refine nr hC rfl ?_; simp [go_sem])
  refine draw hC [(0, 0), (1, 0), (2, 0), (3, 0), (4, 0), (5, 0), (6, 0), (7, 0), (8, 1), (9, 1)] [10] mix (by kernel_rfl) ?_
  refine rn hC ?_
  simp [go_sem]
  repeat (refine nr hC rfl ?_; simp [go_sem])
  refine voD hC rfl (vo_slfull hC tabOk rfl rfl rfl rfl rfl rfl rfl kw.tr.one.len (fun b _ => by simp [Addr.add])) rfl rfl rfl rfl ?_
  refine rn hC ?_
  simp [go_sem]
  repeat (refine nr hC rfl ?_; simp [go_sem])
  refine appGD hC 99 16 tabOk rfl rfl rfl rfl rfl rfl rfl rfl (by kernel_rfl) rfl rfl rfl rfl rfl fun m10 g10 p10 e10 => ?_
  refine ⟨w.tr.length, hw'.tr.a, w.tr.map sc, 1, [.string a.tk.cl], some ⟨m10.getD 4 0, 0, none⟩, 1, rfl, (kw.tr.to (g' := g10)).one.row.rd, by simp, rfl, Cs.rd (e10.frz (i := 4) rfl rfl rfl), rfl, by intro u hu; rw [List.mem_singleton.1 hu]; rfl, by omega, by simp [maxLen]; omega, by omega, fun v g11 g12 p11 p12 hv => ?_⟩
  obtain ⟨a9, cap9, rfl, _⟩ := hv.cs
  refine rn hC ?_
  simp [go_sem]
  repeat (refine nr hC rfl ?_; simp [go_sem])
  refine relab hC 99 0 rfl rfl fun g13 p13 hw13 ho13 => ?_
  obtain ⟨tr', htr'⟩ : ∃ tr', tr' = w.tr ++ [a.tk.cl] := ⟨_, rfl⟩
  have hlen9 : tr'.length = w.tr.length + 1 := by rw [htr']; simp
  obtain ⟨h9, e9', hk9⟩ := OOk.of (c := sc) (l := tr') ((show OwnRow g12 _ 99 9 1 _ (w.tr.length + 1) (tr'.map sc) from by rw [htr']; simpa using hv).give hw13 ho13) hlen9
  obtain ⟨ea9, _, ec9⟩ := Value.slice.inj e9'
  subst ea9
  subst ec9
  have ktr : StrsOk g13 0 tr' h9 := ⟨hk9, fun s hs => by
    rw [htr'] at hs
    rcases List.mem_append.1 hs with q | q
    · exact kw.tr.str s q
    · rw [List.mem_singleton.1 q]; exact hcl⟩
  rw [← hlen9]
  refine rn hC ?_
  simp [go_sem]
  repeat (refine nr hC rfl ?_; simp [go_sem])
  refine draw hC [(0, 0), (1, 0), (2, 0), (3, 0), (4, 0), (5, 0), (6, 0), (7, 0), (8, 0), (9, 0), (10, 0), (11, 0), (12, 0), (13, 0), (14, 1)] [15] mix (by kernel_rfl) ?_
  refine rn hC ?_
  simp [go_sem]
  repeat (refine nr hC rfl ?_; simp [go_sem])
  refine voD hC rfl (vo_load hC tabOk ((ko.cs 39 (vs := [.int .i64 bn.1.1, .int .i64 bn.1.2]) (by intro j v hj; match j with | 0 => exact hj | 1 => exact hj | j + 2 => cases hj)).ks Kp.ks (by decide)) rfl rfl rfl rfl rfl) rfl rfl rfl rfl ?_
  refine rn hC ?_
  simp [go_sem]
  repeat (refine nr hC rfl ?_; simp [go_sem])
  refine draw hC [(0, 0), (1, 0), (2, 0), (3, 0), (4, 0), (5, 0), (6, 0), (7, 0), (8, 0), (9, 0), (10, 0), (11, 0), (12, 0), (13, 0), (14, 0), (15, 0), (16, 0), (17, 1), (18, 0), (19, 0)] [20, 21] mix (by kernel_rfl) ?_
  refine rn hC ?_
  simp [go_sem]
  repeat (refine nr hC rfl ?_; simp [go_sem])
  refine voD hC rfl (vo_load1 hC tabOk ((ob1 ko 38 rfl).ks Kp.ks (by decide)) rfl rfl rfl rfl) rfl rfl rfl rfl ?_
  refine rn hC ?_
  simp [go_sem]
  repeat (refine nr hC rfl ?_; simp [go_sem])
  refine callD hC [30,31,61,62,63] (by kernel_rfl) rfl rfl rfl rfl rfl rfl rfl rfl fun m12 g12 p12 e12 => ⟨_, reply59 b bp c2 now a ⟨w.user, w.user, a.target, 1, w.org, tr', true, bn.1.1, bn.1.2⟩ ⟨3, 0, w.user, a.tk.cl, a.target, tr', 0, 0, cl, 0⟩ ha h9 h9 _ (kc.ks Kp.ks (by decide) (by decide) (by decide) (by decide) (by decide) (by decide) (by decide) (by decide) (by decide)) ka.to ⟨ktr.to, kw.us, kw.us, ka.t⟩ ktr.to (by show tr'.length ≤ _; omega) (by rw [hev2]; exact hev), fun v12 u12 q12 s12 hv12 => ?_⟩
  obtain ⟨⟨h12, rfl, k12⟩, kc12⟩ := hv12
  refine rn hC ?_
  simp [go_sem]
  repeat (refine nr hC rfl ?_; simp [go_sem])
  refine ret hC tabOk (fun _ => 1) rfl rfl fun m gf hl ex => ?_
  subst htr'
  rw [hO]
  exact ⟨⟨h12, rfl, k12.to⟩, kc12.ks Kp.ks (by decide) (by decide) (by decide) (by decide) (by decide) (by decide) (by decide) (by decide) (by decide)⟩
end Go.Proofs.YtobhfopgoidniaaGreat

/- A service asks on behalf of a user: the document's example. -/
namespace Go.Proofs.YtobhfopgoidniaaGreat
open Go Go.Eng

abbrev bDb : ByteArray := ⟨#[100, 98]⟩
def vPs : List Pr := [⟨bCentre, 1, false, false, [], [], [], 1000⟩, ⟨bAnn, 1, false, false, [], [], [], 500⟩, ⟨bWeb, 1, true, false, [bDb], [], [], 300⟩, ⟨bDb, 1, false, false, [], [], [], 200⟩]
def v0 : Cen := ⟨addAll vPs, max 9 0, [], 0, []⟩
def v1 := inS v0 bWeb (.mk 2 bWeb 1 []) 100 1
def v2 := transitS v1.2 110 (gaskS sSelf bWeb bWeb v1.1.2.1 v1.1.1 (extraT v1.1.2.1 bAnn) 110 2 5000)
def v3 := partS (takeS v2.1.1 sTgsRep 3) v1.1.2.1 8
def v4 := takeP v2.2.ps 120 bWeb v3.1
def v5 := proxyS v2.2 120 (gaskS sProxy bDb bWeb v1.1.2.1 v1.1.1 v3.1 120 3 5000)
def v6 := partS (takeS v5.1.1 sTgsRep 3) v1.1.2.1 8
def v7 := openS v6.1 (.mk 2 bDb 1 [])
def v8 := verifyS v7.1.auth (.mk 2 bDb 1 []) (.mk 2 bCentre 1 [])
def v9 := hopS v5.2.ps bWeb bDb

theorem v_a : v1.1.2.2 = true := by decide +kernel
theorem v_b : v2.1.2 = 0 := by decide +kernel
theorem v_c : v3.2.2 = true := by decide +kernel
theorem v_d : v4.2 = 0 := by decide +kernel
theorem v_e : decide (v4.1.2.user = bAnn) = true := by decide +kernel
theorem v_f : v5.1.2 = 0 := by decide +kernel
theorem v_g : v6.2.2 = true := by decide +kernel
theorem v_h : v7.2 = 0 := by decide +kernel
theorem v_i : v8.2 = 0 := by decide +kernel
theorem v_j : decide (v8.1.user = bAnn) = true := by decide +kernel
theorem v_k : v8.1.tr = [bWeb] := by decide +kernel
theorem v_l : v9 = (true, 0) := by decide +kernel
theorem v_s1 : tw ((gaskS sSelf bWeb bWeb v1.1.2.1 v1.1.1 (extraT v1.1.2.1 bAnn) 110 2 5000)) ≤ 2513169434843 := by decide +kernel
theorem v_s2 : v1.2.came.length ≤ 1099511627776 := by decide +kernel
theorem v_s3 : v1.2.evs.length ≤ 1099511627776 := by decide +kernel
theorem v_s4 : tw (v3.1) ≤ 2513169434843 := by decide +kernel
theorem v_s5 : tw ((gaskS sProxy bDb bWeb v1.1.2.1 v1.1.1 v3.1 120 3 5000)) ≤ 2513169434843 := by decide +kernel
theorem v_s6 : v2.2.came.length ≤ 1099511627776 := by decide +kernel
theorem v_s7 : v2.2.evs.length ≤ 1099511627776 := by decide +kernel
theorem v_s8 : tw (v6.1) ≤ 2513169434843 := by decide +kernel
theorem v_s9 : tw (v7.1.auth) ≤ 2513169434843 := by decide +kernel

def vHs (n : Nat) : List (Pr × PH) := [(⟨bCentre, 1, false, false, [], [], [], 1000⟩, noH), (⟨bAnn, 1, false, false, [], [], [], 500⟩, noH), (⟨bWeb, 1, true, false, [bDb], [], [], 300⟩, ⟨⟨some ⟨n, 0, none⟩, 1⟩, ⟨none, 0⟩, ⟨none, 0⟩⟩), (⟨bDb, 1, false, false, [], [], [], 200⟩, noH)]

set_option maxHeartbeats 4000000 in
set_option maxRecDepth 20000 in
theorem works64 (g : G) : Ok Tryz.prog 64 [] g [11, 20, 21, 30, 31, 32, 33, 50, 51, 61, 62, 63] (fun v _ => v = .bool true) := by
  have kwp : ∀ (g : G) (n : Nat), Cs g 0 n 0 [.string bDb] → ∀ p ∈ vHs n, POk g 0 p.1 p.2 := by
    intro g n hn p hp
    simp only [vHs, List.mem_cons, List.not_mem_nil, or_false] at hp
    rcases hp with rfl | rfl | rfl | rfl
    · exact kw _ _ ⟨rfl, rfl, rfl, by decide⟩
    · exact kw _ _ ⟨rfl, rfl, rfl, by decide⟩
    · exact ⟨⟨⟨.inr ⟨n, 0, rfl, hn⟩, Nat.le_refl _, by show (1 : Nat) ≤ maxLen; decide⟩, by intro s hs; rw [List.mem_singleton.1 hs]; decide⟩, ⟨⟨.inl rfl, Nat.le_refl _, Nat.zero_le _⟩, by simp⟩, ⟨.inl rfl, Nat.le_refl _, Nat.zero_le _⟩, by show bWeb.size ≤ maxLen; decide⟩
    · exact kw _ _ ⟨rfl, rfl, rfl, by decide⟩
  refine fbegin Tryz.func64 rfl Tryz.ntmps64 (Nat.le_of_ble_eq_true rfl) fun C hw hC => ?_
  refine rn hC ?_
  simp [go_sem]
  repeat (refine nr hC rfl ?_; simp [go_sem])
  refine call hC [11,20,21] (by kernel_rfl) rfl rfl rfl rfl rfl fun m1 g1 p1 e1 => ⟨_, both34' (vHs (m1.getD 0 0)) ⟨some ⟨m1.getD 1 0, 0, none⟩, 4⟩ _ ⟨.inr ⟨_, _, rfl, e1.frz (i := 1) rfl rfl rfl⟩, Nat.le_refl _, by show (4 : Nat) ≤ maxLen; decide, kwp _ _ (e1.frz (i := 0) rfl rfl rfl)⟩, fun v1 u1 q1 s1 hv1 => ?_⟩
  obtain ⟨bp, br, hs', rfl, kpol, kref, _⟩ := hv1
  replace kpol : PolAt u1 bp (addAll vPs) := kpol
  refine rn hC ?_
  simp [go_sem]
  repeat (refine nr hC rfl ?_; simp [go_sem])
  refine vo hC (vo_bin hC rfl rfl rfl (run_ptrnil Tryz.prog Tryz.underlying33 _ _ _)) rfl rfl rfl ?_
  refine rn hC ?_
  simp [go_sem]
  repeat (refine nr hC rfl ?_; simp [go_sem])
  refine small (fun _ => 1) rfl fun m2 g2 p2 e2 => ⟨⟨[(37, .c (.v (ptr bp))), (1, .c (.v (ptr bp)))], [], [], [], 0⟩, ⟨by simp [go_sem], by simp [go_sem], rfl, bxs_ok (n := 0) (Nat.le_refl _) (by simp [go_sem]), by simp [go_sem], ⟨_, rfl⟩⟩, by simp, ?_⟩
  refine call hC [] (by kernel_rfl) rfl rfl rfl rfl rfl fun m3 g3 p3 e3 => ⟨_, lnew37 bp (addAll vPs) 9 _ (kpol.ks Kp.ks (by decide) (by decide) (by decide) (by decide)), fun v3 u3 q3 s3 hv3 => ?_⟩
  obtain ⟨b, rfl, kc⟩ := hv3
  refine rn hC ?_
  simp [go_sem]
  repeat (refine nr hC rfl ?_; simp [go_sem])
  refine vo hC (vo_bin hC rfl rfl rfl (run_ptrnil Tryz.prog Tryz.underlying45 _ _ _)) rfl rfl rfl ?_
  refine rn hC ?_
  simp [go_sem]
  repeat (refine nr hC rfl ?_; simp [go_sem])
  refine small (fun _ => 1) rfl fun m4 g4 p4 e4 => ⟨⟨[(42, .c (.v (ptr b))), (3, .c (.v (ptr b))), (1, .c (.v (ptr bp)))], [], [], [], 0⟩, ⟨by simp [go_sem], by simp [go_sem], rfl, bxs_ok (n := 0) (Nat.le_refl _) (by simp [go_sem]), by simp [go_sem], ⟨_, rfl⟩⟩, by simp, ?_⟩
  refine call hC [] (by kernel_rfl) rfl rfl rfl rfl rfl fun m5 g5 p5 e5 => ⟨_, key43 bWeb 1 _, fun v5 u5 q5 s5 hv5 => ?_⟩
  subst hv5
  refine rn hC ?_
  simp [go_sem]
  repeat (refine nr hC rfl ?_; simp [go_sem])
  refine call hC [30,31,32,33,61,62,63] (by kernel_rfl) rfl rfl rfl rfl rfl fun m6 g6 p6 e6 => ⟨_, in39 b bp v0 bWeb (.mk 2 bWeb 1 []) 100 1 ⟨none, 0⟩ _ (kc.ks Kp.ks (by decide) (by decide) (by decide) (by decide) (by decide) (by decide) (by decide) (by decide) (by decide)) (tok_leaf _ _ _ _ (by decide)) (by decide) (Nat.zero_le _) (Nat.zero_le _), fun v6 u6 q6 s6 hv6 => ?_⟩
  have hw1 : inS v0 bWeb (.mk 2 bWeb 1 []) 100 1 = v1 := rfl
  rw [hw1] at hv6
  obtain ⟨⟨h1, h2, rfl, k1, k2⟩, kc6⟩ := hv6
  refine rn hC ?_
  simp [go_sem]
  repeat (refine nr hC rfl ?_; simp [go_sem])
  refine draw hC [(0, 0), (1, 0), (2, 0), (3, 0), (10, 2), (4, 1), (5, 1), (6, 1), (7, 0), (8, 0), (9, 0), (10, 3), (11, 1)] [12] mix (by kernel_rfl) ?_
  refine rn hC ?_
  simp [go_sem]
  repeat (refine nr hC rfl ?_; simp [go_sem])
  refine callD hC [] (by kernel_rfl) rfl rfl rfl rfl rfl rfl rfl rfl fun m7 g7 p7 e7 => ⟨_, extra31 v1.1.2.1 h2 bAnn _ k2.to (by decide), fun v7 u7 q7 s7 hv7 => ?_⟩
  obtain ⟨h7, rfl, k7⟩ := hv7
  refine rn hC ?_
  simp [go_sem]
  repeat (refine nr hC rfl ?_; simp [go_sem])
  refine callD hC [] (by kernel_rfl) rfl rfl rfl rfl rfl rfl rfl rfl fun m8 g8 p8 e8 => ⟨_, gask41 sSelf bWeb bWeb v1.1.2.1 v1.1.1 (extraT v1.1.2.1 bAnn) 110 2 5000 h2 h1 h7 _ k2.to k1.to k7.to (by decide) (by decide) (by decide), fun v8 u8 q8 s8 hv8 => ?_⟩
  obtain ⟨h8, rfl, k8⟩ := hv8
  refine rn hC ?_
  simp [go_sem]
  repeat (refine nr hC rfl ?_; simp [go_sem])
  refine callD hC [30,31,32,33,50,51,61,62,63] (by kernel_rfl) rfl rfl rfl rfl rfl rfl rfl rfl fun m9 g9 p9 e9 => ⟨_, answer40 b bp v1.2 110 (gaskS sSelf bWeb bWeb v1.1.2.1 v1.1.1 (extraT v1.1.2.1 bAnn) 110 2 5000) h8 _ (kc6.ks Kp.ks (by decide) (by decide) (by decide) (by decide) (by decide) (by decide) (by decide) (by decide) (by decide)) k8.to v_s1 v_s2 v_s3, fun v9 u9 q9 s9 hv9 => ?_⟩
  have hw2 : transitS v1.2 110 (gaskS sSelf bWeb bWeb v1.1.2.1 v1.1.1 (extraT v1.1.2.1 bAnn) 110 2 5000) = v2 := rfl
  rw [hw2] at hv9
  obtain ⟨⟨h9, rfl, k9⟩, kc9⟩ := hv9
  refine rn hC ?_
  simp [go_sem]
  repeat (refine nr hC rfl ?_; simp [go_sem])
  refine call hC [] (by kernel_rfl) rfl rfl rfl rfl rfl fun m10 g10 p10 e10 => ⟨_, got42 v2.1.1 v1.1.2.1 h9 h2 _ k9.to k2.to, fun v10 u10 q10 s10 hv10 => ?_⟩
  have hw3 : partS (takeS v2.1.1 sTgsRep 3) v1.1.2.1 8 = v3 := rfl
  rw [hw3] at hv10
  obtain ⟨h10, h10', rfl, k10, k10'⟩ := hv10
  refine rn hC ?_
  simp [go_sem]
  repeat (refine nr hC rfl ?_; simp [go_sem])
  refine call hC [61,62,63] (by kernel_rfl) rfl rfl rfl rfl rfl fun m11 g11 p11 e11 => ⟨_, take178 b bp v2.2 120 bWeb v3.1 h10 _ (kc9.ks Kp.ks (by decide) (by decide) (by decide) (by decide) (by decide) (by decide) (by decide) (by decide) (by decide)) k10.to (by decide) v_s4, fun v11 u11 q11 s11 hv11 => ?_⟩
  have hw4 : takeP v2.2.ps 120 bWeb v3.1 = v4 := rfl
  rw [hw4] at hv11
  obtain ⟨h11, h11', rfl, k11, k11'⟩ := hv11
  refine rn hC ?_
  simp [go_sem]
  repeat (refine nr hC rfl ?_; simp [go_sem])
  refine call hC [] (by kernel_rfl) rfl rfl rfl rfl rfl fun m12 g12 p12 e12 => ⟨_, gask41 sProxy bDb bWeb v1.1.2.1 v1.1.1 v3.1 120 3 5000 h2 h1 h10 _ k2.to k1.to k10.to (by decide) (by decide) (by decide), fun v12 u12 q12 s12 hv12 => ?_⟩
  obtain ⟨h12, rfl, k12⟩ := hv12
  refine rn hC ?_
  simp [go_sem]
  repeat (refine nr hC rfl ?_; simp [go_sem])
  refine call hC [30,31,32,33,50,51,61,62,63] (by kernel_rfl) rfl rfl rfl rfl rfl fun m13 g13 p13 e13 => ⟨_, proxy65 b bp v2.2 120 (gaskS sProxy bDb bWeb v1.1.2.1 v1.1.1 v3.1 120 3 5000) h12 _ (kc9.ks Kp.ks (by decide) (by decide) (by decide) (by decide) (by decide) (by decide) (by decide) (by decide) (by decide)) k12.to v_s5 v_s6 v_s7, fun v13 u13 q13 s13 hv13 => ?_⟩
  have hw5 : proxyS v2.2 120 (gaskS sProxy bDb bWeb v1.1.2.1 v1.1.1 v3.1 120 3 5000) = v5 := rfl
  rw [hw5] at hv13
  obtain ⟨⟨h13, rfl, k13⟩, kc13⟩ := hv13
  refine rn hC ?_
  simp [go_sem]
  repeat (refine nr hC rfl ?_; simp [go_sem])
  refine call hC [] (by kernel_rfl) rfl rfl rfl rfl rfl fun m14 g14 p14 e14 => ⟨_, got42 v5.1.1 v1.1.2.1 h13 h2 _ k13.to k2.to, fun v14 u14 q14 s14 hv14 => ?_⟩
  have hw6 : partS (takeS v5.1.1 sTgsRep 3) v1.1.2.1 8 = v6 := rfl
  rw [hw6] at hv14
  obtain ⟨h14, h14', rfl, k14, k14'⟩ := hv14
  refine rn hC ?_
  simp [go_sem]
  repeat (refine nr hC rfl ?_; simp [go_sem])
  refine draw hC [(0, 0), (6, 2), (1, 1), (2, 1), (3, 0), (4, 0), (5, 0), (6, 3), (7, 1)] [8] mix (by kernel_rfl) ?_
  refine rn hC ?_
  simp [go_sem]
  repeat (refine nr hC rfl ?_; simp [go_sem])
  refine callD hC [] (by kernel_rfl) rfl rfl rfl rfl rfl rfl rfl rfl fun m15 g15 p15 e15 => ⟨_, key43 bDb 1 _, fun v15 u15 q15 s15 hv15 => ?_⟩
  subst hv15
  refine rn hC ?_
  simp [go_sem]
  repeat (refine nr hC rfl ?_; simp [go_sem])
  refine callD hC [61,62,63] (by kernel_rfl) rfl rfl rfl rfl rfl rfl rfl rfl fun m16 g16 p16 e16 => ⟨_, topen53 v6.1 (.mk 2 bDb 1 []) h14 ⟨none, 0⟩ _ k14.to (tok_leaf _ _ _ _ (by decide)) v_s8, fun v16 u16 q16 s16 hv16 => ?_⟩
  have hw7 : openS v6.1 (.mk 2 bDb 1 []) = v7 := rfl
  rw [hw7] at hv16
  obtain ⟨h16, rfl, k16⟩ := hv16
  refine rn hC ?_
  simp [go_sem]
  repeat (refine nr hC rfl ?_; simp [go_sem])
  refine draw hC [(0, 0), (1, 0), (8, 2), (2, 1), (3, 1), (4, 1), (5, 0), (6, 0), (7, 0), (8, 3), (9, 1)] [10] mix (by kernel_rfl) ?_
  refine rn hC ?_
  simp [go_sem]
  repeat (refine nr hC rfl ?_; simp [go_sem])
  refine callD hC [] (by kernel_rfl) rfl rfl rfl rfl rfl rfl rfl rfl fun m17 g17 p17 e17 => ⟨_, key43 bDb 1 _, fun v17 u17 q17 s17 hv17 => ?_⟩
  subst hv17
  refine rn hC ?_
  simp [go_sem]
  repeat (refine nr hC rfl ?_; simp [go_sem])
  refine callD hC [] (by kernel_rfl) rfl rfl rfl rfl rfl rfl rfl rfl fun m18 g18 p18 e18 => ⟨_, key43 bCentre 1 _, fun v18 u18 q18 s18 hv18 => ?_⟩
  subst hv18
  refine rn hC ?_
  simp [go_sem]
  repeat (refine nr hC rfl ?_; simp [go_sem])
  refine callD hC [61,62,63] (by kernel_rfl) rfl rfl rfl rfl rfl rfl rfl rfl fun m19 g19 p19 e19 => ⟨_, verify54 v7.1.auth (.mk 2 bDb 1 []) (.mk 2 bCentre 1 []) h16.auth ⟨none, 0⟩ ⟨none, 0⟩ _ k16.auth.to (tok_leaf _ _ _ _ (by decide)) (tok_leaf _ _ _ _ (by decide)) v_s9, fun v19 u19 q19 s19 hv19 => ?_⟩
  have hw8 : verifyS v7.1.auth (.mk 2 bDb 1 []) (.mk 2 bCentre 1 []) = v8 := rfl
  rw [hw8] at hv19
  obtain ⟨h19, rfl, k19⟩ := hv19
  have kpol' := (kc13.ks (g' := u19) Kp.ks (by decide) (by decide) (by decide) (by decide) (by decide) (by decide) (by decide) (by decide) (by decide)).pol
  obtain ⟨⟨bm, ptrs, kp⟩, kv⟩ := kpol'
  refine rn hC ?_
  simp [go_sem]
  repeat (refine nr hC rfl ?_; simp [go_sem])
  refine call hC [] (by kernel_rfl) rfl rfl rfl rfl rfl fun m20 g20 p20 e20 => ⟨_, hop179 (ptr bp) bp bm ptrs v5.2.ps bWeb bDb _ (kp.ks Kp.ks (by decide) (by decide) (by decide) (by decide)), fun v20 u20 q20 s20 hv20 => ?_⟩
  have hw9 : hopS v5.2.ps bWeb bDb = v9 := rfl
  rw [hw9, v_l] at hv20
  subst hv20
  have htr := v_k
  obtain ⟨b20, o20, ea20, hcs20⟩ := (k19.tr.to (g' := u20)).one.row.get (i := 0) (x := bWeb) (by rw [htr]; rfl)
  have hln : v8.1.tr.length = 1 := by rw [htr]; rfl
  refine rn hC ?_
  simp [go_sem, v_a, v_b, v_c, v_d, v_e, v_f, v_g, v_h, v_i, v_j, hln]
  repeat (refine nr hC rfl ?_; simp [go_sem, v_a, v_b, v_c, v_d, v_e, v_f, v_g, v_h, v_i, v_j, hln])
  try (refine rn hC ?_; simp [go_sem, v_a, v_b, v_c, v_d, v_e, v_f, v_g, v_h, v_i, v_j, hln]; repeat (refine nr hC rfl ?_; simp [go_sem, v_a, v_b, v_c, v_d, v_e, v_f, v_g, v_h, v_i, v_j, hln]))
  rw [ea20]
  refine vo hC (vo_index hC tabOk rfl rfl rfl rfl rfl rfl (by omega) (by omega)) rfl rfl rfl ?_
  refine rn hC ?_
  simp [go_sem]
  repeat (refine nr hC rfl ?_; simp [go_sem])
  refine vo hC (vo_load1 hC tabOk (hcs20.ks Kp.ks (by decide)) rfl rfl rfl rfl) rfl rfl rfl ?_
  refine rn hC ?_
  simp [go_sem]
  repeat (refine nr hC rfl ?_; simp [go_sem])
  refine ret hC tabOk (fun _ => 1) rfl rfl fun m gf hl ex => ?_
  rfl
end Go.Proofs.YtobhfopgoidniaaGreat
