/- The centre: one logs in. One logs in, and takes the answer; what one asks with a ticket. -/
import Derived.Test.YtobhfopgoidniaaGreatJA
set_option linter.all false
set_option linter.unusedVariables false
set_option linter.unusedSimpArgs false

/- The centre: one logs in. -/
namespace Go.Proofs.YtobhfopgoidniaaGreat
open Go Go.Eng

/-- What one shows ahead. -/
def shownS (a : Ak) (key : T) : Int × Int :=
  if (boxS a.pre key 1).2 = 0 then (if (boxS a.pre key 1).1.k = 3 ∧ (boxS a.pre key 1).1.s = .empty ∧ (boxS a.pre key 1).1.n = 0 then (match (boxS a.pre key 1).1.l with
    | [x, y] => if numB x && numB y then (if y.n = a.nonce then (x.n, 0) else (0, 70)) else (0, 50)
    | _ => (0, 50)) else (0, 50)) else (0, (boxS a.pre key 1).2)

theorem shown225 (a : Ak) (key : T) (h hk : Hd) (g : G) (ka : TOk g a.pre h) (kk : TOk g key hk) :
    Ok Tryz.prog 225 [akv a h, tv key hk] g [] (fun v _ => v = .tuple #[.int .i64 (shownS a key).1, .int .i64 (shownS a key).2]) := by
  refine fbegin Tryz.func225 rfl Tryz.ntmps225 (Nat.le_of_ble_eq_true rfl) fun C hw hC => ?_
  refine runO hC tabOk 60 ?_
  simp [go_sem]
  repeat ((first | refine condT rfl ?_ | refine condF rfl ?_ | refine skD hC rfl rfl rfl ?_); refine runO hC tabOk 60 ?_; simp [go_sem])
  refine call hC [] (by kernel_rfl) rfl rfl rfl rfl rfl fun m1 g1 p1 e1 => ⟨_, box131 a.pre key 1 h hk _ ka.to kk.to, fun v1 u1 q1 s1 hv1 => ?_⟩
  obtain ⟨hb, rfl, kb⟩ := hv1
  have hS : shownS a key = if (boxS a.pre key 1).2 = 0 then (if (boxS a.pre key 1).1.k = 3 ∧ (boxS a.pre key 1).1.s = .empty ∧ (boxS a.pre key 1).1.n = 0 then (match (boxS a.pre key 1).1.l with
    | [x, y] => if numB x && numB y then (if y.n = a.nonce then (x.n, 0) else (0, 70)) else (0, 50)
    | _ => (0, 50)) else (0, 50)) else (0, (boxS a.pre key 1).2) := rfl
  generalize boxS a.pre key 1 = bb at kb hS ⊢
  obtain ⟨⟨bk, bs, bn, bl⟩, be⟩ := bb
  dsimp only at kb hS ⊢
  by_cases h1 : be = 0
  rotate_left
  · refine runO hC tabOk 60 ?_
    simp [go_sem, h1]
    repeat ((first | refine condT rfl ?_ | refine condF rfl ?_ | refine skD hC rfl rfl rfl ?_); refine runO hC tabOk 60 ?_; simp [go_sem, h1])
    try (refine runO hC tabOk 60 ?_; simp [go_sem, h1]; repeat ((first | refine condT rfl ?_ | refine condF rfl ?_ | refine skD hC rfl rfl rfl ?_); refine runO hC tabOk 60 ?_; simp [go_sem, h1]))
    refine ret hC tabOk (fun _ => 1) rfl rfl fun m gf hl ex => ?_
    have e : shownS a key = (0, be) := hS.trans (if_neg h1)
    rw [e]
    rfl
  replace hS := hS.trans (if_pos h1)
  dsimp only [T.k_mk, T.s_mk, T.n_mk, T.l_mk] at hS
  by_cases h2 : bk = 3
  rotate_left
  · refine runO hC tabOk 60 ?_
    simp [go_sem, h1, h2]
    repeat ((first | refine condT rfl ?_ | refine condF rfl ?_ | refine skD hC rfl rfl rfl ?_); refine runO hC tabOk 60 ?_; simp [go_sem, h1, h2])
    try (refine runO hC tabOk 60 ?_; simp [go_sem, h1, h2]; repeat ((first | refine condT rfl ?_ | refine condF rfl ?_ | refine skD hC rfl rfl rfl ?_); refine runO hC tabOk 60 ?_; simp [go_sem, h1, h2]))
    refine ret hC tabOk (fun _ => 1) rfl rfl fun m gf hl ex => ?_
    have e : shownS a key = (0, 50) := hS.trans (if_neg (by intro q; exact h2 q.1))
    rw [e]
    rfl
  by_cases h3 : bs = .empty
  rotate_left
  · refine runO hC tabOk 60 ?_
    simp [go_sem, h1, h2, h3]
    repeat ((first | refine condT rfl ?_ | refine condF rfl ?_ | refine skD hC rfl rfl rfl ?_); refine runO hC tabOk 60 ?_; simp [go_sem, h1, h2, h3])
    try (refine runO hC tabOk 60 ?_; simp [go_sem, h1, h2, h3]; repeat ((first | refine condT rfl ?_ | refine condF rfl ?_ | refine skD hC rfl rfl rfl ?_); refine runO hC tabOk 60 ?_; simp [go_sem, h1, h2, h3]))
    refine ret hC tabOk (fun _ => 1) rfl rfl fun m gf hl ex => ?_
    have e : shownS a key = (0, 50) := hS.trans (if_neg (by intro q; exact h3 q.2.1))
    rw [e]
    rfl
  by_cases h4 : bn = 0
  rotate_left
  · refine runO hC tabOk 60 ?_
    simp [go_sem, h1, h2, h3, h4]
    repeat ((first | refine condT rfl ?_ | refine condF rfl ?_ | refine skD hC rfl rfl rfl ?_); refine runO hC tabOk 60 ?_; simp [go_sem, h1, h2, h3, h4])
    try (refine runO hC tabOk 60 ?_; simp [go_sem, h1, h2, h3, h4]; repeat ((first | refine condT rfl ?_ | refine condF rfl ?_ | refine skD hC rfl rfl rfl ?_); refine runO hC tabOk 60 ?_; simp [go_sem, h1, h2, h3, h4]))
    refine ret hC tabOk (fun _ => 1) rfl rfl fun m gf hl ex => ?_
    have e : shownS a key = (0, 50) := hS.trans (if_neg (by intro q; exact h4 q.2.2))
    rw [e]
    rfl
  replace hS := hS.trans (if_pos ⟨h2, h3, h4⟩)
  rcases two_or bl with ⟨x, y, rfl⟩ | h5
  rotate_left
  · have h5' : ¬ (bl.length : Int) = 2 := by omega
    refine runO hC tabOk 60 ?_
    simp [go_sem, h1, h2, h3, h4, h5']
    repeat ((first | refine condT rfl ?_ | refine condF rfl ?_ | refine skD hC rfl rfl rfl ?_); refine runO hC tabOk 60 ?_; simp [go_sem, h1, h2, h3, h4, h5'])
    try (refine runO hC tabOk 60 ?_; simp [go_sem, h1, h2, h3, h4, h5']; repeat ((first | refine condT rfl ?_ | refine condF rfl ?_ | refine skD hC rfl rfl rfl ?_); refine runO hC tabOk 60 ?_; simp [go_sem, h1, h2, h3, h4, h5']))
    refine ret hC tabOk (fun _ => 1) rfl rfl fun m gf hl ex => ?_
    have : shownS a key = (0, 50) := by
      rw [hS]
      split
      · simp at h5
      · rfl
    rw [this]
    rfl
  dsimp only at hS
  obtain ⟨b0, off0, h_x, ea, hcs_x, k_x⟩ := kb.lst.get (i := 0) (t := x) rfl
  obtain ⟨b1, off1, h_y, ea1, hcs_y, k_y⟩ := kb.lst.get (i := 1) (t := y) rfl
  rw [ea] at ea1
  obtain ⟨rfl, rfl, _⟩ := Addr.mk.inj (Option.some.inj ea1)
  refine runO hC tabOk 60 ?_
  simp [go_sem, h1, h2, h3, h4, ea]
  repeat ((first | refine condT rfl ?_ | refine condF rfl ?_ | refine skD hC rfl rfl rfl ?_); refine runO hC tabOk 60 ?_; simp [go_sem, h1, h2, h3, h4, ea])
  try (refine runO hC tabOk 60 ?_; simp [go_sem, h1, h2, h3, h4, ea]; repeat ((first | refine condT rfl ?_ | refine condF rfl ?_ | refine skD hC rfl rfl rfl ?_); refine runO hC tabOk 60 ?_; simp [go_sem, h1, h2, h3, h4, ea]))
  refine vo hC (vo_index hC tabOk rfl rfl rfl rfl rfl rfl (by omega) (by omega)) rfl rfl rfl ?_
  refine runO hC tabOk 60 ?_
  simp [go_sem]
  repeat ((first | refine condT rfl ?_ | refine condF rfl ?_ | refine skD hC rfl rfl rfl ?_); refine runO hC tabOk 60 ?_; simp [go_sem])
  refine vo hC (vo_load hC tabOk hcs_x.to rfl rfl rfl rfl rfl) rfl rfl rfl ?_
  refine runO hC tabOk 60 ?_
  simp [go_sem]
  repeat ((first | refine condT rfl ?_ | refine condF rfl ?_ | refine skD hC rfl rfl rfl ?_); refine runO hC tabOk 60 ?_; simp [go_sem])
  refine callv hC [] 1 rfl rfl rfl rfl (by kernel_rfl) rfl rfl rfl rfl fun m2 g2 w2 p2 e2 => ⟨_, number271 x h_x _ k_x.to, fun v2 j2 u2 q2 s2 hv2 r2 => ?_⟩
  subst hv2
  cases h6 : numB x with
  | false =>
    refine runO hC tabOk 60 ?_
    simp [go_sem]
    repeat ((first | refine condT rfl ?_ | refine condF rfl ?_ | refine skD hC rfl rfl rfl ?_); refine runO hC tabOk 60 ?_; simp [go_sem])
    refine ret hC tabOk (fun _ => 1) rfl rfl fun m gf hl ex => ?_
    have e : shownS a key = (0, 50) := by rw [hS, h6]; rfl
    rw [e]
    rfl
  | true =>
  refine runO hC tabOk 60 ?_
  simp [go_sem]
  repeat ((first | refine condT rfl ?_ | refine condF rfl ?_ | refine skD hC rfl rfl rfl ?_); refine runO hC tabOk 60 ?_; simp [go_sem])
  refine vo hC (vo_index hC tabOk rfl rfl rfl rfl rfl rfl (by omega) (by omega)) rfl rfl rfl ?_
  refine runO hC tabOk 60 ?_
  simp [go_sem]
  repeat ((first | refine condT rfl ?_ | refine condF rfl ?_ | refine skD hC rfl rfl rfl ?_); refine runO hC tabOk 60 ?_; simp [go_sem])
  refine vo hC (vo_load hC tabOk hcs_y.to rfl rfl rfl rfl rfl) rfl rfl rfl ?_
  refine runO hC tabOk 60 ?_
  simp [go_sem]
  repeat ((first | refine condT rfl ?_ | refine condF rfl ?_ | refine skD hC rfl rfl rfl ?_); refine runO hC tabOk 60 ?_; simp [go_sem])
  refine callv hC [] 1 rfl rfl rfl rfl (by kernel_rfl) rfl rfl rfl rfl fun m3 g3 w3 p3 e3 => ⟨_, number271 y h_y _ k_y.to, fun v3 j3 u3 q3 s3 hv3 r3 => ?_⟩
  subst hv3
  cases h7 : numB y with
  | false =>
    refine runO hC tabOk 60 ?_
    simp [go_sem]
    repeat ((first | refine condT rfl ?_ | refine condF rfl ?_ | refine skD hC rfl rfl rfl ?_); refine runO hC tabOk 60 ?_; simp [go_sem])
    refine ret hC tabOk (fun _ => 1) rfl rfl fun m gf hl ex => ?_
    have e : shownS a key = (0, 50) := by rw [hS, h6, h7]; rfl
    rw [e]
    rfl
  | true =>
  refine runO hC tabOk 60 ?_
  simp [go_sem]
  repeat ((first | refine condT rfl ?_ | refine condF rfl ?_ | refine skD hC rfl rfl rfl ?_); refine runO hC tabOk 60 ?_; simp [go_sem])
  refine draw hC [(0, 0), (1, 0), (2, 0), (3, 0), (4, 0), (5, 0), (6, 0), (7, 0), (8, 0)] [] mix (by kernel_rfl) ?_
  refine runO hC tabOk 60 ?_
  simp [go_sem]
  repeat ((first | refine condT rfl ?_ | refine condF rfl ?_ | refine skD hC rfl rfl rfl ?_); refine runO hC tabOk 60 ?_; simp [go_sem])
  refine voD hC rfl (vo_index hC tabOk rfl rfl rfl rfl rfl rfl (by omega) (by omega)) rfl rfl rfl rfl ?_
  refine runO hC tabOk 60 ?_
  simp [go_sem]
  repeat ((first | refine condT rfl ?_ | refine condF rfl ?_ | refine skD hC rfl rfl rfl ?_); refine runO hC tabOk 60 ?_; simp [go_sem])
  refine voD hC rfl (vo_load1 hC tabOk ((hcs_y.one 2 rfl).to) rfl rfl rfl rfl) rfl rfl rfl rfl ?_
  by_cases h8 : y.n = a.nonce
  rotate_left
  · refine runO hC tabOk 60 ?_
    simp [go_sem, h8]
    repeat ((first | refine condT rfl ?_ | refine condF rfl ?_ | refine skD hC rfl rfl rfl ?_); refine runO hC tabOk 60 ?_; simp [go_sem, h8])
    try (refine runO hC tabOk 60 ?_; simp [go_sem, h8]; repeat ((first | refine condT rfl ?_ | refine condF rfl ?_ | refine skD hC rfl rfl rfl ?_); refine runO hC tabOk 60 ?_; simp [go_sem, h8]))
    refine ret hC tabOk (fun _ => 1) rfl rfl fun m gf hl ex => ?_
    have e : shownS a key = (0, 70) := by rw [hS, h6, h7]; exact if_neg h8
    rw [e]
    rfl
  have d8 : decide (y.n = a.nonce) = true := by simp [h8]
  refine runO hC tabOk 60 ?_
  simp [go_sem, d8]
  repeat ((first | refine condT rfl ?_ | refine condF rfl ?_ | refine skD hC rfl rfl rfl ?_); refine runO hC tabOk 60 ?_; simp [go_sem, d8])
  try (refine runO hC tabOk 60 ?_; simp [go_sem, d8]; repeat ((first | refine condT rfl ?_ | refine condF rfl ?_ | refine skD hC rfl rfl rfl ?_); refine runO hC tabOk 60 ?_; simp [go_sem, d8]))
  refine vo hC (vo_index hC tabOk rfl rfl rfl rfl rfl rfl (by omega) (by omega)) rfl rfl rfl ?_
  refine runO hC tabOk 60 ?_
  simp [go_sem]
  repeat ((first | refine condT rfl ?_ | refine condF rfl ?_ | refine skD hC rfl rfl rfl ?_); refine runO hC tabOk 60 ?_; simp [go_sem])
  refine vo hC (vo_load1 hC tabOk ((hcs_x.one 2 rfl).to) rfl rfl rfl rfl) rfl rfl rfl ?_
  refine runO hC tabOk 60 ?_
  simp [go_sem]
  repeat ((first | refine condT rfl ?_ | refine condF rfl ?_ | refine skD hC rfl rfl rfl ?_); refine runO hC tabOk 60 ?_; simp [go_sem])
  refine ret hC tabOk (fun _ => 1) rfl rfl fun m gf hl ex => ?_
  have e : shownS a key = (x.n, 0) := by rw [hS, h6, h7]; exact if_pos h8
  rw [e]
  rfl

/-- The time that is left for one who logs in. -/
def timeS (c : Cen) (a : Ak) (now : Int) (key : T) (life : Int) : ((Int × Int) × Int) × Cen :=
  if (shownS a key).2 = 0 then (if nearN (shownS a key).1 now 300 then (if (cutN (now, a.till) life).2 = 0 then (((cutN (now, a.till) life).1, (freshS c a.pre now).2), (freshS c a.pre now).1) else (((0, 0), (cutN (now, a.till) life).2), c)) else (((0, 0), 30), c)) else (((0, 0), (shownS a key).2), c)

theorem time143 (b bp : Nat) (c : Cen) (a : Ak) (now : Int) (key : T) (life : Int) (h hk : Hd) (g : G) (k : CenIs g b bp c) (ka : TOk g a.pre h) (kk : TOk g key hk) (hsz : c.came.length ≤ 1099511627776) :
    Ok Tryz.prog 143 [ptr b, akv a h, .int .i64 now, tv key hk, .int .i64 life] g [32, 33] (fun v g' => v = .tuple #[spv (timeS c a now key life).1.1, .int .i64 (timeS c a now key life).1.2] ∧ CenIs g' b bp (timeS c a now key life).2) := by
  refine fbegin Tryz.func143 rfl Tryz.ntmps143 (Nat.le_of_ble_eq_true rfl) fun C hw hC => ?_
  refine runO hC tabOk 60 ?_
  simp [go_sem]
  repeat ((first | refine condT rfl ?_ | refine condF rfl ?_ | refine skD hC rfl rfl rfl ?_); refine runO hC tabOk 60 ?_; simp [go_sem])
  refine call hC [] (by kernel_rfl) rfl rfl rfl rfl rfl fun m1 g1 p1 e1 => ⟨_, shown225 a key h hk _ ka.to kk.to, fun v1 u1 q1 s1 hv1 => ?_⟩
  subst hv1
  by_cases h1 : (shownS a key).2 = 0
  rotate_left
  · refine runO hC tabOk 60 ?_
    simp [go_sem, h1]
    repeat ((first | refine condT rfl ?_ | refine condF rfl ?_ | refine skD hC rfl rfl rfl ?_); refine runO hC tabOk 60 ?_; simp [go_sem, h1])
    try (refine runO hC tabOk 60 ?_; simp [go_sem, h1]; repeat ((first | refine condT rfl ?_ | refine condF rfl ?_ | refine skD hC rfl rfl rfl ?_); refine runO hC tabOk 60 ?_; simp [go_sem, h1]))
    refine ret hC tabOk (fun _ => 1) rfl rfl fun m gf hl ex => ?_
    have e : timeS c a now key life = (((0, 0), (shownS a key).2), c) := by unfold timeS; rw [if_neg h1]
    rw [e]
    exact ⟨rfl, k.ks Kp.ks (by decide) (by decide) (by decide) (by decide) (by decide) (by decide) (by decide) (by decide) (by decide)⟩
  refine runO hC tabOk 60 ?_
  simp [go_sem, h1]
  repeat ((first | refine condT rfl ?_ | refine condF rfl ?_ | refine skD hC rfl rfl rfl ?_); refine runO hC tabOk 60 ?_; simp [go_sem, h1])
  try (refine runO hC tabOk 60 ?_; simp [go_sem, h1]; repeat ((first | refine condT rfl ?_ | refine condF rfl ?_ | refine skD hC rfl rfl rfl ?_); refine runO hC tabOk 60 ?_; simp [go_sem, h1]))
  refine call hC [] (by kernel_rfl) rfl rfl rfl rfl rfl fun m2 g2 p2 e2 => ⟨_, near226 (shownS a key).1 now 300 _, fun v2 u2 q2 s2 hv2 => ?_⟩
  subst hv2
  have en : (tOk (shownS a key).1 && tOk now && tOk 300 && decide ((shownS a key).1 - now ≤ 300) && decide (now - (shownS a key).1 ≤ 300)) = nearN (shownS a key).1 now 300 := rfl
  rw [en]
  cases h2 : nearN (shownS a key).1 now 300 with
  | false =>
    refine runO hC tabOk 60 ?_
    simp [go_sem]
    repeat ((first | refine condT rfl ?_ | refine condF rfl ?_ | refine skD hC rfl rfl rfl ?_); refine runO hC tabOk 60 ?_; simp [go_sem])
    refine ret hC tabOk (fun _ => 1) rfl rfl fun m gf hl ex => ?_
    have e : timeS c a now key life = (((0, 0), 30), c) := by unfold timeS; rw [if_pos h1, if_neg (by simp [h2])]
    rw [e]
    exact ⟨rfl, k.ks Kp.ks (by decide) (by decide) (by decide) (by decide) (by decide) (by decide) (by decide) (by decide) (by decide)⟩
  | true =>
  refine runO hC tabOk 60 ?_
  simp [go_sem]
  repeat ((first | refine condT rfl ?_ | refine condF rfl ?_ | refine skD hC rfl rfl rfl ?_); refine runO hC tabOk 60 ?_; simp [go_sem])
  refine call hC [] (by kernel_rfl) rfl rfl rfl rfl rfl fun m3 g3 p3 e3 => ⟨_, span_cut227 now a.till life _, fun v3 u3 q3 s3 hv3 => ?_⟩
  subst hv3
  unfold spv
  by_cases h3 : (cutN (now, a.till) life).2 = 0
  rotate_left
  · refine runO hC tabOk 60 ?_
    simp [go_sem, h3]
    repeat ((first | refine condT rfl ?_ | refine condF rfl ?_ | refine skD hC rfl rfl rfl ?_); refine runO hC tabOk 60 ?_; simp [go_sem, h3])
    try (refine runO hC tabOk 60 ?_; simp [go_sem, h3]; repeat ((first | refine condT rfl ?_ | refine condF rfl ?_ | refine skD hC rfl rfl rfl ?_); refine runO hC tabOk 60 ?_; simp [go_sem, h3]))
    refine ret hC tabOk (fun _ => 1) rfl rfl fun m gf hl ex => ?_
    have e : timeS c a now key life = (((0, 0), (cutN (now, a.till) life).2), c) := by unfold timeS; rw [if_pos h1, if_pos h2, if_neg h3]
    rw [e]
    exact ⟨rfl, k.ks Kp.ks (by decide) (by decide) (by decide) (by decide) (by decide) (by decide) (by decide) (by decide) (by decide)⟩
  refine runO hC tabOk 60 ?_
  simp [go_sem, h3]
  repeat ((first | refine condT rfl ?_ | refine condF rfl ?_ | refine skD hC rfl rfl rfl ?_); refine runO hC tabOk 60 ?_; simp [go_sem, h3])
  try (refine runO hC tabOk 60 ?_; simp [go_sem, h3]; repeat ((first | refine condT rfl ?_ | refine condF rfl ?_ | refine skD hC rfl rfl rfl ?_); refine runO hC tabOk 60 ?_; simp [go_sem, h3]))
  refine draw hC [(0, 0), (1, 0), (2, 0), (3, 0), (4, 0), (5, 1)] [6, 7] mix (by kernel_rfl) ?_
  refine runO hC tabOk 60 ?_
  simp [go_sem]
  repeat ((first | refine condT rfl ?_ | refine condF rfl ?_ | refine skD hC rfl rfl rfl ?_); refine runO hC tabOk 60 ?_; simp [go_sem])
  refine callD hC [32,33] (by kernel_rfl) rfl rfl rfl rfl rfl rfl rfl rfl fun m4 g4 p4 e4 => ⟨_, fresh228 b bp c a.pre h now _ (k.ks Kp.ks (by decide) (by decide) (by decide) (by decide) (by decide) (by decide) (by decide) (by decide) (by decide)) ka.to hsz, fun v4 u4 q4 s4 hv4 => ?_⟩
  obtain ⟨rfl, kc⟩ := hv4
  refine runO hC tabOk 60 ?_
  simp [go_sem]
  repeat ((first | refine condT rfl ?_ | refine condF rfl ?_ | refine skD hC rfl rfl rfl ?_); refine runO hC tabOk 60 ?_; simp [go_sem])
  refine ret hC tabOk (fun _ => 1) rfl rfl fun m gf hl ex => ?_
  have e : timeS c a now key life = (((cutN (now, a.till) life).1, (freshS c a.pre now).2), (freshS c a.pre now).1) := by unfold timeS; rw [if_pos h1, if_pos h2, if_pos h3]
  rw [e]
  exact ⟨rfl, kc.ks Kp.ks (by decide) (by decide) (by decide) (by decide) (by decide) (by decide) (by decide) (by decide) (by decide)⟩

def loginGr (who : ByteArray) (se : Bool) (s : Int × Int) : Gr := ⟨who, who, sCentre, if se then 0 else 5, 0, [], !se, s.1, s.2⟩

/-- One logs in. -/
def loginS (c : Cen) (now : Int) (t : T) : (T × Int) × Cen :=
  let a := readQ t
  if a.2 ≠ 0 then ((T0, a.2), c) else
  let p := pget c.ps a.1.who
  let q := pget c.ps sCentre
  if p.2 ≠ 0 ∨ q.2 ≠ 0 then ((T0, 40), c) else
  let key := keyT a.1.who p.1.ver
  let s := timeS c a.1 now key (min p.1.life q.1.life)
  if s.1.2 ≠ 0 then ((T0, s.1.2), s.2) else
  let r := loginGr a.1.who p.1.se s.1.1
  let i := issueS s.2 r
  if i.1.2.2 ≠ 0 then ((T0, i.1.2.2), i.2) else
  ((answerS sAsRep a.1.who i.1.1 key i.1.2.1 3 a.1.nonce r, 0), noteS i.2 ⟨0, now, a.1.who, a.1.who, sCentre, [], r.fl, s.1.1.2, false, 0⟩)

theorem time_evs (c : Cen) (a : Ak) (now : Int) (key : T) (life : Int) : (timeS c a now key life).2.evs = c.evs := by
  unfold timeS
  split
  · split
    · split <;> rfl
    · rfl
  · rfl
theorem time_ps (c : Cen) (a : Ak) (now : Int) (key : T) (life : Int) : (timeS c a now key life).2.ps = c.ps := by
  unfold timeS
  split
  · split
    · split <;> rfl
    · rfl
  · rfl
theorem issue_evs (c : Cen) (r : Gr) : (issueS c r).2.evs = c.evs := by
  unfold issueS
  split
  · rfl
  · dsimp only
    split
    · rfl
    · split <;> rfl
theorem issue_ps (c : Cen) (r : Gr) : (issueS c r).2.ps = c.ps := by
  unfold issueS
  split
  · rfl
  · dsimp only
    split
    · rfl
    · split <;> rfl

set_option maxHeartbeats 1000000 in
theorem login48 (b bp : Nat) (c : Cen) (now : Int) (t : T) (h : Hd) (g : G) (k : CenIs g b bp c) (kt : TOk g t h) (hsz : c.came.length ≤ 1099511627776) (hev : c.evs.length ≤ 1099511627776) :
    Ok Tryz.prog 48 [ptr b, .int .i64 now, tv t h] g [30, 31, 32, 33, 61, 62, 63] (fun v g' => TE (loginS c now t).1 v g' ∧ CenIs g' b bp (loginS c now t).2) := by
  have k0 := k
  obtain ⟨⟨⟨bm, ptrs, kp⟩, kv⟩, bc, a0, cap, k1, k2, k3⟩ := k
  have hL : loginS c now t = (let a := readQ t
    if a.2 ≠ 0 then ((T0, a.2), c) else
    let p := pget c.ps a.1.who
    let q := pget c.ps sCentre
    if p.2 ≠ 0 ∨ q.2 ≠ 0 then ((T0, 40), c) else
    let key := keyT a.1.who p.1.ver
    let s := timeS c a.1 now key (min p.1.life q.1.life)
    if s.1.2 ≠ 0 then ((T0, s.1.2), s.2) else
    let r := loginGr a.1.who p.1.se s.1.1
    let i := issueS s.2 r
    if i.1.2.2 ≠ 0 then ((T0, i.1.2.2), i.2) else
    ((answerS sAsRep a.1.who i.1.1 key i.1.2.1 3 a.1.nonce r, 0), noteS i.2 ⟨0, now, a.1.who, a.1.who, sCentre, [], r.fl, s.1.1.2, false, 0⟩)) := rfl
  refine fbegin Tryz.func48 rfl Tryz.ntmps48 (Nat.le_of_ble_eq_true rfl) fun C hw hC => ?_
  refine runO hC tabOk 60 ?_
  simp [go_sem]
  repeat ((first | refine condT rfl ?_ | refine condF rfl ?_ | refine skD hC rfl rfl rfl ?_); refine runO hC tabOk 60 ?_; simp [go_sem])
  refine call hC [] (by kernel_rfl) rfl rfl rfl rfl rfl fun m1 g1 p1 e1 => ⟨_, lread142 t h _ kt.to, fun v1 u1 q1 s1 hv1 => ?_⟩
  obtain ⟨ha, rfl, ka, hwho⟩ := hv1
  dsimp only at hL
  generalize readQ t = qa at ka hwho hL ⊢
  obtain ⟨⟨who, nonce, till, pre⟩, qe⟩ := qa
  dsimp only at ka hwho hL ⊢
  by_cases h1 : qe = 0
  rotate_left
  · refine runO hC tabOk 60 ?_
    simp [go_sem, h1]
    repeat ((first | refine condT rfl ?_ | refine condF rfl ?_ | refine skD hC rfl rfl rfl ?_); refine runO hC tabOk 60 ?_; simp [go_sem, h1])
    try (refine runO hC tabOk 60 ?_; simp [go_sem, h1]; repeat ((first | refine condT rfl ?_ | refine condF rfl ?_ | refine skD hC rfl rfl rfl ?_); refine runO hC tabOk 60 ?_; simp [go_sem, h1]))
    refine ret hC tabOk (fun _ => 1) rfl rfl fun m gf hl ex => ?_
    rw [if_pos h1] at hL
    rw [hL]
    exact ⟨⟨⟨none, 0⟩, rfl, T0_ok _⟩, k0.ks Kp.ks (by decide) (by decide) (by decide) (by decide) (by decide) (by decide) (by decide) (by decide) (by decide)⟩
  rw [if_neg (by simp [h1])] at hL
  refine runO hC tabOk 60 ?_
  simp [go_sem, h1]
  repeat ((first | refine condT rfl ?_ | refine condF rfl ?_ | refine skD hC rfl rfl rfl ?_); refine runO hC tabOk 60 ?_; simp [go_sem, h1])
  try (refine runO hC tabOk 60 ?_; simp [go_sem, h1]; repeat ((first | refine condT rfl ?_ | refine condF rfl ?_ | refine skD hC rfl rfl rfl ?_); refine runO hC tabOk 60 ?_; simp [go_sem, h1]))
  refine draw hC [(0, 0), (1, 0), (2, 0), (3, 0), (4, 0), (5, 0), (10, 2), (6, 1), (7, 0), (8, 0), (9, 0), (10, 3), (11, 1)] [12] mix (by kernel_rfl) ?_
  refine runO hC tabOk 60 ?_
  simp [go_sem]
  repeat ((first | refine condT rfl ?_ | refine condF rfl ?_ | refine skD hC rfl rfl rfl ?_); refine runO hC tabOk 60 ?_; simp [go_sem])
  refine voD hC rfl (vo_load1 hC tabOk ((ob1 k1 0 rfl).ks Kp.ks (by decide)) rfl rfl rfl rfl) rfl rfl rfl rfl ?_
  refine runO hC tabOk 60 ?_
  simp [go_sem]
  repeat ((first | refine condT rfl ?_ | refine condF rfl ?_ | refine skD hC rfl rfl rfl ?_); refine runO hC tabOk 60 ?_; simp [go_sem])
  refine callD hC [] (by kernel_rfl) rfl rfl rfl rfl rfl rfl rfl rfl fun m2 g2 p2 e2 => ⟨_, pget35 10 (by simp) (by simp) (ptr bp) bp bm ptrs c.ps who _ (kp.ks Kp.ks (by decide) (by decide) (by decide) (by decide)) kv, fun v2 u2 q2 s2 hv2 => ?_⟩
  obtain ⟨hp, rfl, kpr⟩ := hv2
  refine runO hC tabOk 60 ?_
  simp [go_sem]
  repeat ((first | refine condT rfl ?_ | refine condF rfl ?_ | refine skD hC rfl rfl rfl ?_); refine runO hC tabOk 60 ?_; simp [go_sem])
  refine vo hC (vo_load1 hC tabOk ((ob1 k1 0 rfl).ks Kp.ks (by decide)) rfl rfl rfl rfl) rfl rfl rfl ?_
  refine runO hC tabOk 60 ?_
  simp [go_sem]
  repeat ((first | refine condT rfl ?_ | refine condF rfl ?_ | refine skD hC rfl rfl rfl ?_); refine runO hC tabOk 60 ?_; simp [go_sem])
  refine call hC [] (by kernel_rfl) rfl rfl rfl rfl rfl fun m3 g3 p3 e3 => ⟨_, pget35 10 (by simp) (by simp) (ptr bp) bp bm ptrs c.ps sCentre _ (kp.ks Kp.ks (by decide) (by decide) (by decide) (by decide)) kv, fun v3 u3 q3 s3 hv3 => ?_⟩
  obtain ⟨hq, rfl, kqr⟩ := hv3
  generalize pget c.ps who = pp at kpr hL ⊢
  generalize pget c.ps sCentre = qq at kqr hL ⊢
  by_cases h2 : pp.2 = 0
  rotate_left
  · refine runO hC tabOk 60 ?_
    simp [go_sem, h2]
    repeat ((first | refine condT rfl ?_ | refine condF rfl ?_ | refine skD hC rfl rfl rfl ?_); refine runO hC tabOk 60 ?_; simp [go_sem, h2])
    try (refine runO hC tabOk 60 ?_; simp [go_sem, h2]; repeat ((first | refine condT rfl ?_ | refine condF rfl ?_ | refine skD hC rfl rfl rfl ?_); refine runO hC tabOk 60 ?_; simp [go_sem, h2]))
    refine ret hC tabOk (fun _ => 1) rfl rfl fun m gf hl ex => ?_
    rw [if_pos (.inl h2)] at hL
    rw [hL]
    exact ⟨⟨⟨none, 0⟩, rfl, T0_ok _⟩, k0.ks Kp.ks (by decide) (by decide) (by decide) (by decide) (by decide) (by decide) (by decide) (by decide) (by decide)⟩
  by_cases h3 : qq.2 = 0
  rotate_left
  · refine runO hC tabOk 60 ?_
    simp [go_sem, h2, h3]
    repeat ((first | refine condT rfl ?_ | refine condF rfl ?_ | refine skD hC rfl rfl rfl ?_); refine runO hC tabOk 60 ?_; simp [go_sem, h2, h3])
    try (refine runO hC tabOk 60 ?_; simp [go_sem, h2, h3]; repeat ((first | refine condT rfl ?_ | refine condF rfl ?_ | refine skD hC rfl rfl rfl ?_); refine runO hC tabOk 60 ?_; simp [go_sem, h2, h3]))
    refine ret hC tabOk (fun _ => 1) rfl rfl fun m gf hl ex => ?_
    rw [if_pos (.inr h3)] at hL
    rw [hL]
    exact ⟨⟨⟨none, 0⟩, rfl, T0_ok _⟩, k0.ks Kp.ks (by decide) (by decide) (by decide) (by decide) (by decide) (by decide) (by decide) (by decide) (by decide)⟩
  rw [if_neg (by simp [h2, h3])] at hL
  refine runO hC tabOk 60 ?_
  simp [go_sem, h2, h3]
  repeat ((first | refine condT rfl ?_ | refine condF rfl ?_ | refine skD hC rfl rfl rfl ?_); refine runO hC tabOk 60 ?_; simp [go_sem, h2, h3])
  try (refine runO hC tabOk 60 ?_; simp [go_sem, h2, h3]; repeat ((first | refine condT rfl ?_ | refine condF rfl ?_ | refine skD hC rfl rfl rfl ?_); refine runO hC tabOk 60 ?_; simp [go_sem, h2, h3]))
  refine call hC [] (by kernel_rfl) rfl rfl rfl rfl rfl fun m4 g4 p4 e4 => ⟨_, key43 who pp.1.ver _, fun v4 u4 q4 s4 hv4 => ?_⟩
  subst hv4
  refine runO hC tabOk 60 ?_
  simp [go_sem]
  repeat ((first | refine condT rfl ?_ | refine condF rfl ?_ | refine skD hC rfl rfl rfl ?_); refine runO hC tabOk 60 ?_; simp [go_sem])
  refine vo hC (vo_bi (v := .int .i64 (min pp.1.life qq.1.life)) hC rfl rfl (fun m c w => run_min _ _ c _ _ w)) rfl rfl rfl ?_
  refine runO hC tabOk 60 ?_
  simp [go_sem]
  repeat ((first | refine condT rfl ?_ | refine condF rfl ?_ | refine skD hC rfl rfl rfl ?_); refine runO hC tabOk 60 ?_; simp [go_sem])
  refine call hC [32,33] (by kernel_rfl) rfl rfl rfl rfl rfl fun m5 g5 p5 e5 => ⟨_, time143 b bp c ⟨who, nonce, till, pre⟩ now (keyT who pp.1.ver) (min pp.1.life qq.1.life) ha ⟨none, 0⟩ _ (k0.ks Kp.ks (by decide) (by decide) (by decide) (by decide) (by decide) (by decide) (by decide) (by decide) (by decide)) ka.to (tok_leaf _ _ _ _ hwho) hsz, fun v5 u5 q5 s5 hv5 => ?_⟩
  obtain ⟨rfl, kc5⟩ := hv5
  have hev5 := time_evs c ⟨who, nonce, till, pre⟩ now (keyT who pp.1.ver) (min pp.1.life qq.1.life)
  generalize timeS c ⟨who, nonce, till, pre⟩ now (keyT who pp.1.ver) (min pp.1.life qq.1.life) = ts at kc5 hL hev5 ⊢
  obtain ⟨⟨⟨sf, st⟩, se⟩, c5⟩ := ts
  unfold spv
  dsimp only at kc5 hL hev5 ⊢
  by_cases h4 : se = 0
  rotate_left
  · refine runO hC tabOk 60 ?_
    simp [go_sem, h4]
    repeat ((first | refine condT rfl ?_ | refine condF rfl ?_ | refine skD hC rfl rfl rfl ?_); refine runO hC tabOk 60 ?_; simp [go_sem, h4])
    try (refine runO hC tabOk 60 ?_; simp [go_sem, h4]; repeat ((first | refine condT rfl ?_ | refine condF rfl ?_ | refine skD hC rfl rfl rfl ?_); refine runO hC tabOk 60 ?_; simp [go_sem, h4]))
    refine ret hC tabOk (fun _ => 1) rfl rfl fun m gf hl ex => ?_
    rw [if_pos h4] at hL
    rw [hL]
    exact ⟨⟨⟨none, 0⟩, rfl, T0_ok _⟩, kc5.ks Kp.ks (by decide) (by decide) (by decide) (by decide) (by decide) (by decide) (by decide) (by decide) (by decide)⟩
  rw [if_neg (by simp [h4])] at hL
  refine runO hC tabOk 60 ?_
  simp [go_sem, h4]
  repeat ((first | refine condT rfl ?_ | refine condF rfl ?_ | refine skD hC rfl rfl rfl ?_); refine runO hC tabOk 60 ?_; simp [go_sem, h4])
  try (refine runO hC tabOk 60 ?_; simp [go_sem, h4]; repeat ((first | refine condT rfl ?_ | refine condF rfl ?_ | refine skD hC rfl rfl rfl ?_); refine runO hC tabOk 60 ?_; simp [go_sem, h4]))
  cases hse : pp.1.se with
  | true =>
    rw [hse] at hL
    refine runO hC tabOk 60 ?_
    simp [go_sem, hse]
    repeat ((first | refine condT rfl ?_ | refine condF rfl ?_ | refine skD hC rfl rfl rfl ?_); refine runO hC tabOk 60 ?_; simp [go_sem, hse])
    try (refine runO hC tabOk 60 ?_; simp [go_sem, hse]; repeat ((first | refine condT rfl ?_ | refine condF rfl ?_ | refine skD hC rfl rfl rfl ?_); refine runO hC tabOk 60 ?_; simp [go_sem, hse]))
    refine call hC [30,61,62,63] (by kernel_rfl) rfl rfl rfl rfl rfl fun m6 g6 p6 e6 => ⟨_, issue144 b bp c5 (loginGr who true (sf, st)) ⟨none, 0⟩ _ (kc5.ks Kp.ks (by decide) (by decide) (by decide) (by decide) (by decide) (by decide) (by decide) (by decide) (by decide)) ⟨⟨⟨.inl rfl, Nat.le_refl _, Nat.zero_le _⟩, by simp [loginGr]⟩, hwho, hwho, show sCentre.size ≤ maxLen by decide⟩, fun v6 u6 q6 s6 hv6 => ?_⟩
    obtain ⟨⟨ht, hs2, rfl, kt6, ks6⟩, kc6⟩ := hv6
    have hev6 := issue_evs c5 (loginGr who true (sf, st))
    generalize issueS c5 (loginGr who true (sf, st)) = is at kt6 ks6 kc6 hL hev6 ⊢
    obtain ⟨⟨it, isn, ie⟩, c6⟩ := is
    dsimp only at kt6 ks6 kc6 hL hev6 ⊢
    by_cases h5 : ie = 0
    rotate_left
    · refine runO hC tabOk 60 ?_
      simp [go_sem, h5]
      repeat ((first | refine condT rfl ?_ | refine condF rfl ?_ | refine skD hC rfl rfl rfl ?_); refine runO hC tabOk 60 ?_; simp [go_sem, h5])
      try (refine runO hC tabOk 60 ?_; simp [go_sem, h5]; repeat ((first | refine condT rfl ?_ | refine condF rfl ?_ | refine skD hC rfl rfl rfl ?_); refine runO hC tabOk 60 ?_; simp [go_sem, h5]))
      refine ret hC tabOk (fun _ => 1) rfl rfl fun m gf hl ex => ?_
      rw [if_pos h5] at hL
      rw [hL]
      exact ⟨⟨⟨none, 0⟩, rfl, T0_ok _⟩, kc6.ks Kp.ks (by decide) (by decide) (by decide) (by decide) (by decide) (by decide) (by decide) (by decide) (by decide)⟩
    rw [if_neg (by simp [h5])] at hL
    refine runO hC tabOk 60 ?_
    simp [go_sem, h5]
    repeat ((first | refine condT rfl ?_ | refine condF rfl ?_ | refine skD hC rfl rfl rfl ?_); refine runO hC tabOk 60 ?_; simp [go_sem, h5])
    try (refine runO hC tabOk 60 ?_; simp [go_sem, h5]; repeat ((first | refine condT rfl ?_ | refine condF rfl ?_ | refine skD hC rfl rfl rfl ?_); refine runO hC tabOk 60 ?_; simp [go_sem, h5]))
    refine call hC [30,31] (by kernel_rfl) rfl rfl rfl rfl rfl fun m7 g7 p7 e7 => ⟨_, note145 b bp c6 ⟨0, now, who, who, sCentre, [], (loginGr who true (sf, st)).fl, st, false, 0⟩ ⟨none, 0⟩ _ (kc6.ks Kp.ks (by decide) (by decide) (by decide) (by decide) (by decide) (by decide) (by decide) (by decide) (by decide)) ⟨⟨.inl rfl, Nat.le_refl _, Nat.zero_le _⟩, by simp⟩ (by simp) (by rw [hev6, hev5]; exact hev), fun v7 u7 q7 s7 hv7 => ?_⟩
    refine runO hC tabOk 60 ?_
    simp [go_sem]
    repeat ((first | refine condT rfl ?_ | refine condF rfl ?_ | refine skD hC rfl rfl rfl ?_); refine runO hC tabOk 60 ?_; simp [go_sem])
    refine call hC [] (by kernel_rfl) rfl rfl rfl rfl rfl fun m8 g8 p8 e8 => ⟨_, answer146 sAsRep who it (keyT who pp.1.ver) isn 3 nonce (loginGr who true (sf, st)) ht ⟨none, 0⟩ hs2 ⟨none, 0⟩ _ kt6.to (tok_leaf _ _ _ _ hwho) ks6.to ⟨⟨⟨.inl rfl, Nat.le_refl _, Nat.zero_le _⟩, by simp [loginGr]⟩, hwho, hwho, show sCentre.size ≤ maxLen by decide⟩ (by decide) hwho, fun v8 u8 q8 s8 hv8 => ?_⟩
    obtain ⟨hr, rfl, kr⟩ := hv8
    refine runO hC tabOk 60 ?_
    simp [go_sem]
    repeat ((first | refine condT rfl ?_ | refine condF rfl ?_ | refine skD hC rfl rfl rfl ?_); refine runO hC tabOk 60 ?_; simp [go_sem])
    refine ret hC tabOk (fun _ => 1) rfl rfl fun m gf hl ex => ?_
    rw [hL]
    exact ⟨⟨hr, rfl, kr.to⟩, hv7.ks Kp.ks (by decide) (by decide) (by decide) (by decide) (by decide) (by decide) (by decide) (by decide) (by decide)⟩
  | false =>
    rw [hse] at hL
    refine runO hC tabOk 60 ?_
    simp [go_sem, hse]
    repeat ((first | refine condT rfl ?_ | refine condF rfl ?_ | refine skD hC rfl rfl rfl ?_); refine runO hC tabOk 60 ?_; simp [go_sem, hse])
    try (refine runO hC tabOk 60 ?_; simp [go_sem, hse]; repeat ((first | refine condT rfl ?_ | refine condF rfl ?_ | refine skD hC rfl rfl rfl ?_); refine runO hC tabOk 60 ?_; simp [go_sem, hse]))
    refine call hC [30,61,62,63] (by kernel_rfl) rfl rfl rfl rfl rfl fun m6 g6 p6 e6 => ⟨_, issue144 b bp c5 (loginGr who false (sf, st)) ⟨none, 0⟩ _ (kc5.ks Kp.ks (by decide) (by decide) (by decide) (by decide) (by decide) (by decide) (by decide) (by decide) (by decide)) ⟨⟨⟨.inl rfl, Nat.le_refl _, Nat.zero_le _⟩, by simp [loginGr]⟩, hwho, hwho, show sCentre.size ≤ maxLen by decide⟩, fun v6 u6 q6 s6 hv6 => ?_⟩
    obtain ⟨⟨ht, hs2, rfl, kt6, ks6⟩, kc6⟩ := hv6
    have hev6 := issue_evs c5 (loginGr who false (sf, st))
    generalize issueS c5 (loginGr who false (sf, st)) = is at kt6 ks6 kc6 hL hev6 ⊢
    obtain ⟨⟨it, isn, ie⟩, c6⟩ := is
    dsimp only at kt6 ks6 kc6 hL hev6 ⊢
    by_cases h5 : ie = 0
    rotate_left
    · refine runO hC tabOk 60 ?_
      simp [go_sem, h5]
      repeat ((first | refine condT rfl ?_ | refine condF rfl ?_ | refine skD hC rfl rfl rfl ?_); refine runO hC tabOk 60 ?_; simp [go_sem, h5])
      try (refine runO hC tabOk 60 ?_; simp [go_sem, h5]; repeat ((first | refine condT rfl ?_ | refine condF rfl ?_ | refine skD hC rfl rfl rfl ?_); refine runO hC tabOk 60 ?_; simp [go_sem, h5]))
      refine ret hC tabOk (fun _ => 1) rfl rfl fun m gf hl ex => ?_
      rw [if_pos h5] at hL
      rw [hL]
      exact ⟨⟨⟨none, 0⟩, rfl, T0_ok _⟩, kc6.ks Kp.ks (by decide) (by decide) (by decide) (by decide) (by decide) (by decide) (by decide) (by decide) (by decide)⟩
    rw [if_neg (by simp [h5])] at hL
    refine runO hC tabOk 60 ?_
    simp [go_sem, h5]
    repeat ((first | refine condT rfl ?_ | refine condF rfl ?_ | refine skD hC rfl rfl rfl ?_); refine runO hC tabOk 60 ?_; simp [go_sem, h5])
    try (refine runO hC tabOk 60 ?_; simp [go_sem, h5]; repeat ((first | refine condT rfl ?_ | refine condF rfl ?_ | refine skD hC rfl rfl rfl ?_); refine runO hC tabOk 60 ?_; simp [go_sem, h5]))
    refine call hC [30,31] (by kernel_rfl) rfl rfl rfl rfl rfl fun m7 g7 p7 e7 => ⟨_, note145 b bp c6 ⟨0, now, who, who, sCentre, [], (loginGr who false (sf, st)).fl, st, false, 0⟩ ⟨none, 0⟩ _ (kc6.ks Kp.ks (by decide) (by decide) (by decide) (by decide) (by decide) (by decide) (by decide) (by decide) (by decide)) ⟨⟨.inl rfl, Nat.le_refl _, Nat.zero_le _⟩, by simp⟩ (by simp) (by rw [hev6, hev5]; exact hev), fun v7 u7 q7 s7 hv7 => ?_⟩
    refine runO hC tabOk 60 ?_
    simp [go_sem]
    repeat ((first | refine condT rfl ?_ | refine condF rfl ?_ | refine skD hC rfl rfl rfl ?_); refine runO hC tabOk 60 ?_; simp [go_sem])
    refine call hC [] (by kernel_rfl) rfl rfl rfl rfl rfl fun m8 g8 p8 e8 => ⟨_, answer146 sAsRep who it (keyT who pp.1.ver) isn 3 nonce (loginGr who false (sf, st)) ht ⟨none, 0⟩ hs2 ⟨none, 0⟩ _ kt6.to (tok_leaf _ _ _ _ hwho) ks6.to ⟨⟨⟨.inl rfl, Nat.le_refl _, Nat.zero_le _⟩, by simp [loginGr]⟩, hwho, hwho, show sCentre.size ≤ maxLen by decide⟩ (by decide) hwho, fun v8 u8 q8 s8 hv8 => ?_⟩
    obtain ⟨hr, rfl, kr⟩ := hv8
    refine runO hC tabOk 60 ?_
    simp [go_sem]
    repeat ((first | refine condT rfl ?_ | refine condF rfl ?_ | refine skD hC rfl rfl rfl ?_); refine runO hC tabOk 60 ?_; simp [go_sem])
    refine ret hC tabOk (fun _ => 1) rfl rfl fun m gf hl ex => ?_
    rw [hL]
    exact ⟨⟨hr, rfl, kr.to⟩, hv7.ks Kp.ks (by decide) (by decide) (by decide) (by decide) (by decide) (by decide) (by decide) (by decide) (by decide)⟩
end Go.Proofs.YtobhfopgoidniaaGreat

/- One logs in, and takes the answer; what one asks with a ticket. -/
namespace Go.Proofs.YtobhfopgoidniaaGreat
open Go Go.Eng

def TTB (r : T × T × Bool) (v : Value) (g : G) : Prop := ∃ h h2, v = .tuple #[tv r.1 h, tv r.2.1 h2, .bool r.2.2] ∧ TOk g r.1 h ∧ TOk g r.2.1 h2

/-- What an answer hands over: its second part, and the first of what is sealed in its third. -/
def partS (l : List T × Int) (key : T) (use : Int) : T × T × Bool := if l.2 = 0 then (match l.1 with
  | [_, b, d] => if (boxS d key use).2 = 0 ∧ (boxS d key use).1.l.length = 6 then (b, (boxS d key use).1.l.headD T0, true) else (T0, T0, false)
  | _ => (T0, T0, false)) else (T0, T0, false)

def inS (c : Cen) (who : ByteArray) (key : T) (now nonce : Int) : (T × T × Bool) × Cen :=
  if (loginS c now (askS who key now nonce 1099511627776)).1.2 = 0 then (partS (takeS (loginS c now (askS who key now nonce 1099511627776)).1.1 sAsRep 3) key 3, (loginS c now (askS who key now nonce 1099511627776)).2)
  else ((T0, T0, false), (loginS c now (askS who key now nonce 1099511627776)).2)

theorem in39 (b bp : Nat) (c : Cen) (who : ByteArray) (key : T) (now nonce : Int) (hk : Hd) (g : G) (k : CenIs g b bp c) (kk : TOk g key hk) (hwho : who.size ≤ maxLen) (hsz : c.came.length ≤ 1099511627776) (hev : c.evs.length ≤ 1099511627776) :
    Ok Tryz.prog 39 [ptr b, .string who, tv key hk, .int .i64 now, .int .i64 nonce] g [30, 31, 32, 33, 61, 62, 63] (fun v g' => TTB (inS c who key now nonce).1 v g' ∧ CenIs g' b bp (inS c who key now nonce).2) := by
  refine fbegin Tryz.func39 rfl Tryz.ntmps39 (Nat.le_of_ble_eq_true rfl) fun C hw hC => ?_
  refine runO hC tabOk 60 ?_
  simp [go_sem]
  repeat ((first | refine condT rfl ?_ | refine condF rfl ?_ | refine skD hC rfl rfl rfl ?_); refine runO hC tabOk 60 ?_; simp [go_sem])
  refine call hC [] (by kernel_rfl) rfl rfl rfl rfl rfl fun m1 g1 p1 e1 => ⟨_, ask130 who key now nonce 1099511627776 hk _ kk.to hwho, fun v1 u1 q1 s1 hv1 => ?_⟩
  obtain ⟨h1, rfl, k1⟩ := hv1
  refine runO hC tabOk 60 ?_
  simp [go_sem]
  repeat ((first | refine condT rfl ?_ | refine condF rfl ?_ | refine skD hC rfl rfl rfl ?_); refine runO hC tabOk 60 ?_; simp [go_sem])
  refine call hC [30,31,32,33,61,62,63] (by kernel_rfl) rfl rfl rfl rfl rfl fun m2 g2 p2 e2 => ⟨_, login48 b bp c now (askS who key now nonce 1099511627776) h1 _ (k.ks Kp.ks (by decide) (by decide) (by decide) (by decide) (by decide) (by decide) (by decide) (by decide) (by decide)) k1.to hsz hev, fun v2 u2 q2 s2 hv2 => ?_⟩
  obtain ⟨⟨h2, rfl, k2⟩, kc2⟩ := hv2
  have hI : inS c who key now nonce = if (loginS c now (askS who key now nonce 1099511627776)).1.2 = 0 then (partS (takeS (loginS c now (askS who key now nonce 1099511627776)).1.1 sAsRep 3) key 3, (loginS c now (askS who key now nonce 1099511627776)).2)
    else ((T0, T0, false), (loginS c now (askS who key now nonce 1099511627776)).2) := rfl
  generalize loginS c now (askS who key now nonce 1099511627776) = r at k2 kc2 hI ⊢
  obtain ⟨⟨t, e⟩, c'⟩ := r
  dsimp only at k2 kc2 hI ⊢
  refine runO hC tabOk 60 ?_
  simp [go_sem]
  repeat ((first | refine condT rfl ?_ | refine condF rfl ?_ | refine skD hC rfl rfl rfl ?_); refine runO hC tabOk 60 ?_; simp [go_sem])
  refine call hC [] (by kernel_rfl) rfl rfl rfl rfl rfl fun m3 g3 p3 e3 => ⟨_, take51 t sAsRep 3 h2 _ k2.to (by decide), fun v3 u3 q3 s3 hv3 => ?_⟩
  obtain ⟨h3, rfl, k3⟩ := hv3
  by_cases he : e = 0
  rotate_left
  · refine runO hC tabOk 60 ?_
    simp [go_sem, he]
    repeat ((first | refine condT rfl ?_ | refine condF rfl ?_ | refine skD hC rfl rfl rfl ?_); refine runO hC tabOk 60 ?_; simp [go_sem, he])
    try (refine runO hC tabOk 60 ?_; simp [go_sem, he]; repeat ((first | refine condT rfl ?_ | refine condF rfl ?_ | refine skD hC rfl rfl rfl ?_); refine runO hC tabOk 60 ?_; simp [go_sem, he]))
    refine ret hC tabOk (fun _ => 1) rfl rfl fun m gf hl ex => ?_
    rw [hI.trans (if_neg he)]
    exact ⟨⟨⟨none, 0⟩, ⟨none, 0⟩, rfl, T0_ok _, T0_ok _⟩, kc2.ks Kp.ks (by decide) (by decide) (by decide) (by decide) (by decide) (by decide) (by decide) (by decide) (by decide)⟩
  replace hI := hI.trans (if_pos he)
  rcases take_or t sAsRep 3 with ⟨e0, hlen, el⟩ | e0
  rotate_left
  · refine runO hC tabOk 60 ?_
    simp [go_sem, he, e0]
    repeat ((first | refine condT rfl ?_ | refine condF rfl ?_ | refine skD hC rfl rfl rfl ?_); refine runO hC tabOk 60 ?_; simp [go_sem, he, e0])
    try (refine runO hC tabOk 60 ?_; simp [go_sem, he, e0]; repeat ((first | refine condT rfl ?_ | refine condF rfl ?_ | refine skD hC rfl rfl rfl ?_); refine runO hC tabOk 60 ?_; simp [go_sem, he, e0]))
    refine ret hC tabOk (fun _ => 1) rfl rfl fun m gf hl ex => ?_
    rw [hI]
    have : partS (takeS t sAsRep 3) key 3 = (T0, T0, false) := by simp [partS, e0]
    rw [this]
    exact ⟨⟨⟨none, 0⟩, ⟨none, 0⟩, rfl, T0_ok _, T0_ok _⟩, kc2.ks Kp.ks (by decide) (by decide) (by decide) (by decide) (by decide) (by decide) (by decide) (by decide) (by decide)⟩
  obtain ⟨x, y, z, exy⟩ : ∃ x y z, (takeS t sAsRep 3).1 = [x, y, z] := by
    match hq : (takeS t sAsRep 3).1, hlen with
    | [x, y, z], _ => exact ⟨x, y, z, rfl⟩
  have et : takeS t sAsRep 3 = ([x, y, z], 0) := Prod.ext exy e0
  rw [et] at k3 hI
  obtain ⟨b0, off0, h_z, ea, hcs_z, k_z⟩ := k3.get (i := 2) (t := z) rfl
  obtain ⟨b1, off1, h_y, ea1, hcs_y, k_y⟩ := k3.get (i := 1) (t := y) rfl
  rw [ea] at ea1
  obtain ⟨rfl, rfl, _⟩ := Addr.mk.inj (Option.some.inj ea1)
  refine runO hC tabOk 60 ?_
  simp [go_sem, he, et, ea]
  repeat ((first | refine condT rfl ?_ | refine condF rfl ?_ | refine skD hC rfl rfl rfl ?_); refine runO hC tabOk 60 ?_; simp [go_sem, he, et, ea])
  try (refine runO hC tabOk 60 ?_; simp [go_sem, he, et, ea]; repeat ((first | refine condT rfl ?_ | refine condF rfl ?_ | refine skD hC rfl rfl rfl ?_); refine runO hC tabOk 60 ?_; simp [go_sem, he, et, ea]))
  refine draw hC [(0, 0), (1, 0), (2, 0), (3, 0), (8, 2), (4, 1), (5, 0), (6, 0), (7, 0), (8, 3), (9, 1)] [10] mix (by kernel_rfl) ?_
  refine runO hC tabOk 60 ?_
  simp [go_sem]
  repeat ((first | refine condT rfl ?_ | refine condF rfl ?_ | refine skD hC rfl rfl rfl ?_); refine runO hC tabOk 60 ?_; simp [go_sem])
  refine voD hC rfl (vo_index hC tabOk rfl rfl rfl rfl rfl rfl (by omega) (by omega)) rfl rfl rfl rfl ?_
  refine runO hC tabOk 60 ?_
  simp [go_sem]
  repeat ((first | refine condT rfl ?_ | refine condF rfl ?_ | refine skD hC rfl rfl rfl ?_); refine runO hC tabOk 60 ?_; simp [go_sem])
  refine voD hC rfl (vo_load hC tabOk hcs_z.to rfl rfl rfl rfl rfl) rfl rfl rfl rfl ?_
  refine runO hC tabOk 60 ?_
  simp [go_sem]
  repeat ((first | refine condT rfl ?_ | refine condF rfl ?_ | refine skD hC rfl rfl rfl ?_); refine runO hC tabOk 60 ?_; simp [go_sem])
  refine callD hC [] (by kernel_rfl) rfl rfl rfl rfl rfl rfl rfl rfl fun m4 g4 p4 e4 => ⟨_, box131 z key 3 h_z hk _ k_z.to kk.to, fun v4 u4 q4 s4 hv4 => ?_⟩
  obtain ⟨h5, rfl, k5⟩ := hv4
  have hP : partS ([x, y, z], 0) key 3 = if (boxS z key 3).2 = 0 ∧ (boxS z key 3).1.l.length = 6 then (y, (boxS z key 3).1.l.headD T0, true) else (T0, T0, false) := rfl
  generalize boxS z key 3 = bb at k5 hP ⊢
  obtain ⟨bt, be⟩ := bb
  dsimp only at k5 hP ⊢
  by_cases h6 : be = 0
  rotate_left
  · refine runO hC tabOk 60 ?_
    simp [go_sem, h6]
    repeat ((first | refine condT rfl ?_ | refine condF rfl ?_ | refine skD hC rfl rfl rfl ?_); refine runO hC tabOk 60 ?_; simp [go_sem, h6])
    try (refine runO hC tabOk 60 ?_; simp [go_sem, h6]; repeat ((first | refine condT rfl ?_ | refine condF rfl ?_ | refine skD hC rfl rfl rfl ?_); refine runO hC tabOk 60 ?_; simp [go_sem, h6]))
    refine ret hC tabOk (fun _ => 1) rfl rfl fun m gf hl ex => ?_
    rw [hI, hP.trans (if_neg (by intro q; exact h6 q.1))]
    exact ⟨⟨⟨none, 0⟩, ⟨none, 0⟩, rfl, T0_ok _, T0_ok _⟩, kc2.ks Kp.ks (by decide) (by decide) (by decide) (by decide) (by decide) (by decide) (by decide) (by decide) (by decide)⟩
  by_cases h7 : bt.l.length = 6
  rotate_left
  · have h7' : ¬ (bt.l.length : Int) = 6 := by omega
    refine runO hC tabOk 60 ?_
    simp [go_sem, h6, h7']
    repeat ((first | refine condT rfl ?_ | refine condF rfl ?_ | refine skD hC rfl rfl rfl ?_); refine runO hC tabOk 60 ?_; simp [go_sem, h6, h7'])
    try (refine runO hC tabOk 60 ?_; simp [go_sem, h6, h7']; repeat ((first | refine condT rfl ?_ | refine condF rfl ?_ | refine skD hC rfl rfl rfl ?_); refine runO hC tabOk 60 ?_; simp [go_sem, h6, h7']))
    refine ret hC tabOk (fun _ => 1) rfl rfl fun m gf hl ex => ?_
    rw [hI, hP.trans (if_neg (by intro q; exact h7 q.2))]
    exact ⟨⟨⟨none, 0⟩, ⟨none, 0⟩, rfl, T0_ok _, T0_ok _⟩, kc2.ks Kp.ks (by decide) (by decide) (by decide) (by decide) (by decide) (by decide) (by decide) (by decide) (by decide)⟩
  have h7' : (bt.l.length : Int) = 6 := by omega
  obtain ⟨f, fr, ef⟩ : ∃ f fr, bt.l = f :: fr := by
    cases hq : bt.l with
    | nil => rw [hq] at h7; simp at h7
    | cons f fr => exact ⟨f, fr, rfl⟩
  obtain ⟨b2, off2, h_f, ea2, hcs_f, k_f⟩ := k5.lst.get (i := 0) (t := f) (by rw [ef]; rfl)
  refine runO hC tabOk 60 ?_
  simp [go_sem, h6, h7', ea2]
  repeat ((first | refine condT rfl ?_ | refine condF rfl ?_ | refine skD hC rfl rfl rfl ?_); refine runO hC tabOk 60 ?_; simp [go_sem, h6, h7', ea2])
  try (refine runO hC tabOk 60 ?_; simp [go_sem, h6, h7', ea2]; repeat ((first | refine condT rfl ?_ | refine condF rfl ?_ | refine skD hC rfl rfl rfl ?_); refine runO hC tabOk 60 ?_; simp [go_sem, h6, h7', ea2]))
  refine draw hC [(0, 0), (1, 0), (2, 0), (3, 0), (4, 0), (5, 0), (6, 0), (7, 1)] [8, 9] mix (by kernel_rfl) ?_
  refine runO hC tabOk 60 ?_
  simp [go_sem]
  repeat ((first | refine condT rfl ?_ | refine condF rfl ?_ | refine skD hC rfl rfl rfl ?_); refine runO hC tabOk 60 ?_; simp [go_sem])
  refine voD hC rfl (vo_index hC tabOk rfl rfl rfl rfl rfl rfl (by omega) (by omega)) rfl rfl rfl rfl ?_
  refine runO hC tabOk 60 ?_
  simp [go_sem]
  repeat ((first | refine condT rfl ?_ | refine condF rfl ?_ | refine skD hC rfl rfl rfl ?_); refine runO hC tabOk 60 ?_; simp [go_sem])
  refine voD hC rfl (vo_load hC tabOk hcs_y.to rfl rfl rfl rfl rfl) rfl rfl rfl rfl ?_
  refine runO hC tabOk 60 ?_
  simp [go_sem]
  repeat ((first | refine condT rfl ?_ | refine condF rfl ?_ | refine skD hC rfl rfl rfl ?_); refine runO hC tabOk 60 ?_; simp [go_sem])
  refine voD hC rfl (vo_index hC tabOk rfl rfl rfl rfl rfl rfl (by omega) (by omega)) rfl rfl rfl rfl ?_
  refine runO hC tabOk 60 ?_
  simp [go_sem]
  repeat ((first | refine condT rfl ?_ | refine condF rfl ?_ | refine skD hC rfl rfl rfl ?_); refine runO hC tabOk 60 ?_; simp [go_sem])
  refine voD hC rfl (vo_load hC tabOk hcs_f.to rfl rfl rfl rfl rfl) rfl rfl rfl rfl ?_
  refine runO hC tabOk 60 ?_
  simp [go_sem]
  repeat ((first | refine condT rfl ?_ | refine condF rfl ?_ | refine skD hC rfl rfl rfl ?_); refine runO hC tabOk 60 ?_; simp [go_sem])
  refine ret hC tabOk (fun _ => 1) rfl rfl fun m gf hl ex => ?_
  rw [hI, hP.trans (if_pos ⟨h6, h7⟩), ef]
  exact ⟨⟨h_y, h_f, rfl, k_y.to, k_f.to⟩, kc2.ks Kp.ks (by decide) (by decide) (by decide) (by decide) (by decide) (by decide) (by decide) (by decide) (by decide)⟩

def sTgsRep : ByteArray := ⟨#[116, 103, 115, 45, 114, 101, 112]⟩
def sTgsReq : ByteArray := ⟨#[116, 103, 115, 45, 114, 101, 113]⟩

theorem got42 (t session : T) (h hs : Hd) (g : G) (kt : TOk g t h) (ks : TOk g session hs) :
    Ok Tryz.prog 42 [tv t h, tv session hs] g [] (fun v g' => TTB (partS (takeS t sTgsRep 3) session 8) v g') := by
  refine fbegin Tryz.func42 rfl Tryz.ntmps42 (Nat.le_of_ble_eq_true rfl) fun C hw hC => ?_
  refine runO hC tabOk 60 ?_
  simp [go_sem]
  repeat ((first | refine condT rfl ?_ | refine condF rfl ?_ | refine skD hC rfl rfl rfl ?_); refine runO hC tabOk 60 ?_; simp [go_sem])
  refine call hC [] (by kernel_rfl) rfl rfl rfl rfl rfl fun m3 g3 p3 e3 => ⟨_, take51 t sTgsRep 3 h _ kt.to (by decide), fun v3 u3 q3 s3 hv3 => ?_⟩
  obtain ⟨h3, rfl, k3⟩ := hv3
  rcases take_or t sTgsRep 3 with ⟨e0, hlen, el⟩ | e0
  rotate_left
  · refine runO hC tabOk 60 ?_
    simp [go_sem, e0]
    repeat ((first | refine condT rfl ?_ | refine condF rfl ?_ | refine skD hC rfl rfl rfl ?_); refine runO hC tabOk 60 ?_; simp [go_sem, e0])
    try (refine runO hC tabOk 60 ?_; simp [go_sem, e0]; repeat ((first | refine condT rfl ?_ | refine condF rfl ?_ | refine skD hC rfl rfl rfl ?_); refine runO hC tabOk 60 ?_; simp [go_sem, e0]))
    refine ret hC tabOk (fun _ => 1) rfl rfl fun m gf hl ex => ?_
    have : partS (takeS t sTgsRep 3) session 8 = (T0, T0, false) := by simp [partS, e0]
    rw [this]
    exact ⟨⟨none, 0⟩, ⟨none, 0⟩, rfl, T0_ok _, T0_ok _⟩
  obtain ⟨x, y, z, exy⟩ : ∃ x y z, (takeS t sTgsRep 3).1 = [x, y, z] := by
    match hq : (takeS t sTgsRep 3).1, hlen with
    | [x, y, z], _ => exact ⟨x, y, z, rfl⟩
  have et : takeS t sTgsRep 3 = ([x, y, z], 0) := Prod.ext exy e0
  rw [et] at k3 ⊢
  obtain ⟨b0, off0, h_z, ea, hcs_z, k_z⟩ := k3.get (i := 2) (t := z) rfl
  obtain ⟨b1, off1, h_y, ea1, hcs_y, k_y⟩ := k3.get (i := 1) (t := y) rfl
  rw [ea] at ea1
  obtain ⟨rfl, rfl, _⟩ := Addr.mk.inj (Option.some.inj ea1)
  refine runO hC tabOk 60 ?_
  simp [go_sem, et, ea]
  repeat ((first | refine condT rfl ?_ | refine condF rfl ?_ | refine skD hC rfl rfl rfl ?_); refine runO hC tabOk 60 ?_; simp [go_sem, et, ea])
  try (refine runO hC tabOk 60 ?_; simp [go_sem, et, ea]; repeat ((first | refine condT rfl ?_ | refine condF rfl ?_ | refine skD hC rfl rfl rfl ?_); refine runO hC tabOk 60 ?_; simp [go_sem, et, ea]))
  refine draw hC [(0, 0), (1, 0), (2, 0), (3, 0), (8, 2), (4, 1), (5, 0), (6, 0), (7, 0), (8, 3), (9, 1)] [10] mix (by kernel_rfl) ?_
  refine runO hC tabOk 60 ?_
  simp [go_sem]
  repeat ((first | refine condT rfl ?_ | refine condF rfl ?_ | refine skD hC rfl rfl rfl ?_); refine runO hC tabOk 60 ?_; simp [go_sem])
  refine voD hC rfl (vo_index hC tabOk rfl rfl rfl rfl rfl rfl (by omega) (by omega)) rfl rfl rfl rfl ?_
  refine runO hC tabOk 60 ?_
  simp [go_sem]
  repeat ((first | refine condT rfl ?_ | refine condF rfl ?_ | refine skD hC rfl rfl rfl ?_); refine runO hC tabOk 60 ?_; simp [go_sem])
  refine voD hC rfl (vo_load hC tabOk hcs_z.to rfl rfl rfl rfl rfl) rfl rfl rfl rfl ?_
  refine runO hC tabOk 60 ?_
  simp [go_sem]
  repeat ((first | refine condT rfl ?_ | refine condF rfl ?_ | refine skD hC rfl rfl rfl ?_); refine runO hC tabOk 60 ?_; simp [go_sem])
  refine callD hC [] (by kernel_rfl) rfl rfl rfl rfl rfl rfl rfl rfl fun m4 g4 p4 e4 => ⟨_, box131 z session 8 h_z hs _ k_z.to ks.to, fun v4 u4 q4 s4 hv4 => ?_⟩
  obtain ⟨h5, rfl, k5⟩ := hv4
  have hP : partS (takeS t sTgsRep 3) session 8 = if (boxS z session 8).2 = 0 ∧ (boxS z session 8).1.l.length = 6 then (y, (boxS z session 8).1.l.headD T0, true) else (T0, T0, false) := by rw [et]; rfl
  generalize boxS z session 8 = bb at k5 hP ⊢
  obtain ⟨bt, be⟩ := bb
  dsimp only at k5 hP ⊢
  by_cases h6 : be = 0
  rotate_left
  · refine runO hC tabOk 60 ?_
    simp [go_sem, h6]
    repeat ((first | refine condT rfl ?_ | refine condF rfl ?_ | refine skD hC rfl rfl rfl ?_); refine runO hC tabOk 60 ?_; simp [go_sem, h6])
    try (refine runO hC tabOk 60 ?_; simp [go_sem, h6]; repeat ((first | refine condT rfl ?_ | refine condF rfl ?_ | refine skD hC rfl rfl rfl ?_); refine runO hC tabOk 60 ?_; simp [go_sem, h6]))
    refine ret hC tabOk (fun _ => 1) rfl rfl fun m gf hl ex => ?_
    rw [hP.trans (if_neg (by intro q; exact h6 q.1))]
    exact ⟨⟨none, 0⟩, ⟨none, 0⟩, rfl, T0_ok _, T0_ok _⟩
  by_cases h7 : bt.l.length = 6
  rotate_left
  · have h7' : ¬ (bt.l.length : Int) = 6 := by omega
    refine runO hC tabOk 60 ?_
    simp [go_sem, h6, h7']
    repeat ((first | refine condT rfl ?_ | refine condF rfl ?_ | refine skD hC rfl rfl rfl ?_); refine runO hC tabOk 60 ?_; simp [go_sem, h6, h7'])
    try (refine runO hC tabOk 60 ?_; simp [go_sem, h6, h7']; repeat ((first | refine condT rfl ?_ | refine condF rfl ?_ | refine skD hC rfl rfl rfl ?_); refine runO hC tabOk 60 ?_; simp [go_sem, h6, h7']))
    refine ret hC tabOk (fun _ => 1) rfl rfl fun m gf hl ex => ?_
    rw [hP.trans (if_neg (by intro q; exact h7 q.2))]
    exact ⟨⟨none, 0⟩, ⟨none, 0⟩, rfl, T0_ok _, T0_ok _⟩
  have h7' : (bt.l.length : Int) = 6 := by omega
  obtain ⟨f, fr, ef⟩ : ∃ f fr, bt.l = f :: fr := by
    cases hq : bt.l with
    | nil => rw [hq] at h7; simp at h7
    | cons f fr => exact ⟨f, fr, rfl⟩
  obtain ⟨b2, off2, h_f, ea2, hcs_f, k_f⟩ := k5.lst.get (i := 0) (t := f) (by rw [ef]; rfl)
  refine runO hC tabOk 60 ?_
  simp [go_sem, h6, h7', ea2]
  repeat ((first | refine condT rfl ?_ | refine condF rfl ?_ | refine skD hC rfl rfl rfl ?_); refine runO hC tabOk 60 ?_; simp [go_sem, h6, h7', ea2])
  try (refine runO hC tabOk 60 ?_; simp [go_sem, h6, h7', ea2]; repeat ((first | refine condT rfl ?_ | refine condF rfl ?_ | refine skD hC rfl rfl rfl ?_); refine runO hC tabOk 60 ?_; simp [go_sem, h6, h7', ea2]))
  refine draw hC [(0, 0), (1, 0), (2, 0), (3, 0), (4, 0), (5, 0), (6, 0), (7, 1)] [8, 9] mix (by kernel_rfl) ?_
  refine runO hC tabOk 60 ?_
  simp [go_sem]
  repeat ((first | refine condT rfl ?_ | refine condF rfl ?_ | refine skD hC rfl rfl rfl ?_); refine runO hC tabOk 60 ?_; simp [go_sem])
  refine voD hC rfl (vo_index hC tabOk rfl rfl rfl rfl rfl rfl (by omega) (by omega)) rfl rfl rfl rfl ?_
  refine runO hC tabOk 60 ?_
  simp [go_sem]
  repeat ((first | refine condT rfl ?_ | refine condF rfl ?_ | refine skD hC rfl rfl rfl ?_); refine runO hC tabOk 60 ?_; simp [go_sem])
  refine voD hC rfl (vo_load hC tabOk hcs_y.to rfl rfl rfl rfl rfl) rfl rfl rfl rfl ?_
  refine runO hC tabOk 60 ?_
  simp [go_sem]
  repeat ((first | refine condT rfl ?_ | refine condF rfl ?_ | refine skD hC rfl rfl rfl ?_); refine runO hC tabOk 60 ?_; simp [go_sem])
  refine voD hC rfl (vo_index hC tabOk rfl rfl rfl rfl rfl rfl (by omega) (by omega)) rfl rfl rfl rfl ?_
  refine runO hC tabOk 60 ?_
  simp [go_sem]
  repeat ((first | refine condT rfl ?_ | refine condF rfl ?_ | refine skD hC rfl rfl rfl ?_); refine runO hC tabOk 60 ?_; simp [go_sem])
  refine voD hC rfl (vo_load hC tabOk hcs_f.to rfl rfl rfl rfl rfl) rfl rfl rfl rfl ?_
  refine runO hC tabOk 60 ?_
  simp [go_sem]
  repeat ((first | refine condT rfl ?_ | refine condF rfl ?_ | refine skD hC rfl rfl rfl ?_); refine runO hC tabOk 60 ?_; simp [go_sem])
  refine ret hC tabOk (fun _ => 1) rfl rfl fun m gf hl ex => ?_
  rw [hP.trans (if_pos ⟨h6, h7⟩), ef]
  exact ⟨h_y, h_f, rfl, k_y.to, k_f.to⟩

def gaskS (kind target client : ByteArray) (session tgt extra : T) (now nonce till : Int) : T :=
  listT [ofT sTgsReq, ofT kind, ofT target, numT nonce, numT till, tgt, sealT session 7 (listT [ofT client, numT now, numT nonce, ofT kind, ofT target]), extra]

theorem gask41 (kind target client : ByteArray) (session tgt extra : T) (now nonce till : Int) (hs ht he : Hd) (g : G) (ks : TOk g session hs) (kt : TOk g tgt ht) (ke : TOk g extra he) (h1 : kind.size ≤ maxLen) (h2 : target.size ≤ maxLen) (h3 : client.size ≤ maxLen) :
    Ok Tryz.prog 41 [.string kind, .string target, .string client, tv session hs, tv tgt ht, tv extra he, .int .i64 now, .int .i64 nonce, .int .i64 till] g [] (fun v g' => TQ (gaskS kind target client session tgt extra now nonce till) v g') := by
  refine fbegin Tryz.func41 rfl Tryz.ntmps41 (Nat.le_of_ble_eq_true rfl) fun C hw hC => ?_
  refine runO hC tabOk 60 ?_
  simp [go_sem]
  repeat ((first | refine condT rfl ?_ | refine condF rfl ?_ | refine skD hC rfl rfl rfl ?_); refine runO hC tabOk 60 ?_; simp [go_sem])
  refine call hC [] (by kernel_rfl) rfl rfl rfl rfl rfl fun m1 g1 p1 e1 => ⟨_, of118 client _, fun v1 u1 q1 s1 hv1 => ?_⟩
  subst hv1
  refine runO hC tabOk 60 ?_
  simp [go_sem]
  repeat ((first | refine condT rfl ?_ | refine condF rfl ?_ | refine skD hC rfl rfl rfl ?_); refine runO hC tabOk 60 ?_; simp [go_sem])
  refine call hC [] (by kernel_rfl) rfl rfl rfl rfl rfl fun m2 g2 p2 e2 => ⟨_, num135 now _, fun v2 u2 q2 s2 hv2 => ?_⟩
  subst hv2
  refine runO hC tabOk 60 ?_
  simp [go_sem]
  repeat ((first | refine condT rfl ?_ | refine condF rfl ?_ | refine skD hC rfl rfl rfl ?_); refine runO hC tabOk 60 ?_; simp [go_sem])
  refine call hC [] (by kernel_rfl) rfl rfl rfl rfl rfl fun m3 g3 p3 e3 => ⟨_, num135 nonce _, fun v3 u3 q3 s3 hv3 => ?_⟩
  subst hv3
  refine runO hC tabOk 60 ?_
  simp [go_sem]
  repeat ((first | refine condT rfl ?_ | refine condF rfl ?_ | refine skD hC rfl rfl rfl ?_); refine runO hC tabOk 60 ?_; simp [go_sem])
  refine call hC [] (by kernel_rfl) rfl rfl rfl rfl rfl fun m4 g4 p4 e4 => ⟨_, of118 kind _, fun v4 u4 q4 s4 hv4 => ?_⟩
  subst hv4
  refine runO hC tabOk 60 ?_
  simp [go_sem]
  repeat ((first | refine condT rfl ?_ | refine condF rfl ?_ | refine skD hC rfl rfl rfl ?_); refine runO hC tabOk 60 ?_; simp [go_sem])
  refine call hC [] (by kernel_rfl) rfl rfl rfl rfl rfl fun m5 g5 p5 e5 => ⟨_, of118 target _, fun v5 u5 q5 s5 hv5 => ?_⟩
  subst hv5
  refine runO hC tabOk 60 ?_
  simp [go_sem]
  repeat ((first | refine condT rfl ?_ | refine condF rfl ?_ | refine skD hC rfl rfl rfl ?_); refine runO hC tabOk 60 ?_; simp [go_sem])
  refine call hC [] (by kernel_rfl) rfl rfl rfl rfl rfl fun m6 g6 p6 e6 => ⟨_, list56 [ofT client, numT now, numT nonce, ofT kind, ofT target] ⟨some ⟨m6.getD 4 0, 0, none⟩, 5⟩ _ ⟨TsIs.of [(ofT client, ⟨none, 0⟩), (numT now, ⟨none, 0⟩), (numT nonce, ⟨none, 0⟩), (ofT kind, ⟨none, 0⟩), (ofT target, ⟨none, 0⟩)] (e6.frz (i := 4) rfl rfl (by first | rfl | simp [rowc, tc, SC.val])) (lsc (tok_leaf _ _ _ _ (by first | exact Nat.zero_le _ | assumption | (simp [maxLen]; done))) (lsc (tok_leaf _ _ _ _ (by first | exact Nat.zero_le _ | assumption | (simp [maxLen]; done))) (lsc (tok_leaf _ _ _ _ (by first | exact Nat.zero_le _ | assumption | (simp [maxLen]; done))) (lsc (tok_leaf _ _ _ _ (by first | exact Nat.zero_le _ | assumption | (simp [maxLen]; done))) (lsc (tok_leaf _ _ _ _ (by first | exact Nat.zero_le _ | assumption | (simp [maxLen]; done))) lsn))))), Nat.le_refl _, by simp [maxLen]⟩ (by simp), fun v6 u6 q6 s6 hv6 => ?_⟩
  obtain ⟨hi, rfl, ki⟩ := hv6
  refine runO hC tabOk 60 ?_
  simp [go_sem]
  repeat ((first | refine condT rfl ?_ | refine condF rfl ?_ | refine skD hC rfl rfl rfl ?_); refine runO hC tabOk 60 ?_; simp [go_sem])
  refine draw hC [(0, 0), (2, 0), (4, 0), (6, 0), (8, 0), (9, 0), (10, 0), (12, 0), (1, 1), (3, 1), (5, 1), (7, 1), (11, 1)] [13, 14, 15] mix (by kernel_rfl) ?_
  refine runO hC tabOk 60 ?_
  simp [go_sem]
  repeat ((first | refine condT rfl ?_ | refine condF rfl ?_ | refine skD hC rfl rfl rfl ?_); refine runO hC tabOk 60 ?_; simp [go_sem])
  refine callD hC [] (by kernel_rfl) rfl rfl rfl rfl rfl rfl rfl rfl fun m7 g7 p7 e7 => ⟨_, of118 kind _, fun v7 u7 q7 s7 hv7 => ?_⟩
  subst hv7
  refine runO hC tabOk 60 ?_
  simp [go_sem]
  repeat ((first | refine condT rfl ?_ | refine condF rfl ?_ | refine skD hC rfl rfl rfl ?_); refine runO hC tabOk 60 ?_; simp [go_sem])
  refine callD hC [] (by kernel_rfl) rfl rfl rfl rfl rfl rfl rfl rfl fun m8 g8 p8 e8 => ⟨_, of118 target _, fun v8 u8 q8 s8 hv8 => ?_⟩
  subst hv8
  refine runO hC tabOk 60 ?_
  simp [go_sem]
  repeat ((first | refine condT rfl ?_ | refine condF rfl ?_ | refine skD hC rfl rfl rfl ?_); refine runO hC tabOk 60 ?_; simp [go_sem])
  refine callD hC [] (by kernel_rfl) rfl rfl rfl rfl rfl rfl rfl rfl fun m9 g9 p9 e9 => ⟨_, num135 nonce _, fun v9 u9 q9 s9 hv9 => ?_⟩
  subst hv9
  refine runO hC tabOk 60 ?_
  simp [go_sem]
  repeat ((first | refine condT rfl ?_ | refine condF rfl ?_ | refine skD hC rfl rfl rfl ?_); refine runO hC tabOk 60 ?_; simp [go_sem])
  refine callD hC [] (by kernel_rfl) rfl rfl rfl rfl rfl rfl rfl rfl fun m10 g10 p10 e10 => ⟨_, num135 till _, fun v10 u10 q10 s10 hv10 => ?_⟩
  subst hv10
  refine runO hC tabOk 60 ?_
  simp [go_sem]
  repeat ((first | refine condT rfl ?_ | refine condF rfl ?_ | refine skD hC rfl rfl rfl ?_); refine runO hC tabOk 60 ?_; simp [go_sem])
  refine callD hC [] (by kernel_rfl) rfl rfl rfl rfl rfl rfl rfl rfl fun m11 g11 p11 e11 => ⟨_, seal137 session (listT [ofT client, numT now, numT nonce, ofT kind, ofT target]) hs hi 7 _ ks.to ki.to, fun v11 u11 q11 s11 hv11 => ?_⟩
  obtain ⟨hl1, rfl, kl⟩ := hv11
  refine runO hC tabOk 60 ?_
  simp [go_sem]
  repeat ((first | refine condT rfl ?_ | refine condF rfl ?_ | refine skD hC rfl rfl rfl ?_); refine runO hC tabOk 60 ?_; simp [go_sem])
  refine call hC [] (by kernel_rfl) rfl rfl rfl rfl rfl fun m12 g12 p12 e12 => ⟨_, msg136 sTgsReq [ofT kind, ofT target, numT nonce, numT till, tgt, sealT session 7 (listT [ofT client, numT now, numT nonce, ofT kind, ofT target]), extra] ⟨some ⟨m12.getD 6 0, 0, none⟩, 7⟩ _ ⟨TsIs.of [(ofT kind, ⟨none, 0⟩), (ofT target, ⟨none, 0⟩), (numT nonce, ⟨none, 0⟩), (numT till, ⟨none, 0⟩), (tgt, ht), (sealT session 7 (listT [ofT client, numT now, numT nonce, ofT kind, ofT target]), hl1), (extra, he)] (e12.frz (i := 6) rfl rfl rfl) (lsc (tok_leaf _ _ _ _ h1) (lsc (tok_leaf _ _ _ _ h2) (lsc (tok_leaf _ _ _ _ (Nat.zero_le _)) (lsc (tok_leaf _ _ _ _ (Nat.zero_le _)) (ls3 kt.to kl.to ke.to))))), Nat.le_refl _, by simp [maxLen]⟩ (by decide) (by simp) (by simp), fun v12 u12 q12 s12 hv12 => ?_⟩
  obtain ⟨hm, rfl, km⟩ := hv12
  refine runO hC tabOk 60 ?_
  simp [go_sem]
  repeat ((first | refine condT rfl ?_ | refine condF rfl ?_ | refine skD hC rfl rfl rfl ?_); refine runO hC tabOk 60 ?_; simp [go_sem])
  refine ret hC tabOk (fun _ => 1) rfl rfl fun m gf hl ex => ?_
  exact ⟨hm, rfl, km.to⟩
end Go.Proofs.YtobhfopgoidniaaGreat
