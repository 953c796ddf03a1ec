/- A reply; for which user a service asks. What is asked with a ticket: the authenticator; the time. What is asked with a ticket: what is shown with it. -/
import Derived.Test.YtobhfopgoidniaaGreatKA
set_option linter.all false
set_option linter.unusedVariables false
set_option linter.unusedSimpArgs false

/- A reply; for which user a service asks. -/
namespace Go.Proofs.YtobhfopgoidniaaGreat
open Go Go.Eng

/-- Issued, noted, answered. -/
def replyS (c : Cen) (now : Int) (a : Asd) (r : Gr) (e : Ev) : (T × Int) × Cen :=
  if (issueS c r).1.2.2 = 0 then ((answerS sTgsRep r.client (issueS c r).1.1 a.tk.key (issueS c r).1.2.1 8 a.nonce r, 0), noteS (issueS c r).2 { e with at_ := now, fl := r.fl, till := r.till })
  else ((T0, (issueS c r).1.2.2), (issueS c r).2)

theorem reply59 (b bp : Nat) (c : Cen) (now : Int) (a : Asd) (r : Gr) (e : Ev) (ha : AsdH) (hr he : Hd) (g : G) (k : CenIs g b bp c) (ka : AsdOk g a ha) (kr : GrOk g r hr) (ke : StrsOk g 0 e.tr he) (htr : e.tr.length ≤ 2199023255552) (hev : c.evs.length ≤ 1099511627776) :
    Ok Tryz.prog 59 [ptr b, .int .i64 now, asv a ha, grv r hr, evv e he] g [30, 31, 61, 62, 63] (fun v g' => TE (replyS c now a r e).1 v g' ∧ CenIs g' b bp (replyS c now a r e).2) := by
  have hcl := kr.cl
  refine fbegin Tryz.func59 rfl Tryz.ntmps59 (Nat.le_of_ble_eq_true rfl) fun C hw hC => ?_
  refine runO hC tabOk 60 ?_
  simp [go_sem]
  repeat ((first | refine condT rfl ?_ | refine condF rfl ?_ | refine skD hC rfl rfl rfl ?_); refine runO hC tabOk 60 ?_; simp [go_sem])
  refine call hC [30,61,62,63] (by kernel_rfl) rfl rfl rfl rfl rfl fun m1 g1 p1 e1 => ⟨_, issue144 b bp c r hr _ (k.ks Kp.ks (by decide) (by decide) (by decide) (by decide) (by decide) (by decide) (by decide) (by decide) (by decide)) kr.to, fun v1 u1 q1 s1 hv1 => ?_⟩
  obtain ⟨⟨ht, hs2, rfl, kt6, ks6⟩, kc6⟩ := hv1
  have hev6 := issue_evs c r
  have hR : replyS c now a r e = if (issueS c r).1.2.2 = 0 then ((answerS sTgsRep r.client (issueS c r).1.1 a.tk.key (issueS c r).1.2.1 8 a.nonce r, 0), noteS (issueS c r).2 { e with at_ := now, fl := r.fl, till := r.till })
    else ((T0, (issueS c r).1.2.2), (issueS c r).2) := rfl
  generalize issueS c r = is at kt6 ks6 kc6 hR hev6 ⊢
  obtain ⟨⟨it, isn, ie⟩, c6⟩ := is
  dsimp only at kt6 ks6 kc6 hR hev6 ⊢
  by_cases h5 : ie = 0
  rotate_left
  · refine runO hC tabOk 60 ?_
    simp [go_sem, h5]
    repeat ((first | refine condT rfl ?_ | refine condF rfl ?_ | refine skD hC rfl rfl rfl ?_); refine runO hC tabOk 60 ?_; simp [go_sem, h5])
    try (refine runO hC tabOk 60 ?_; simp [go_sem, h5]; repeat ((first | refine condT rfl ?_ | refine condF rfl ?_ | refine skD hC rfl rfl rfl ?_); refine runO hC tabOk 60 ?_; simp [go_sem, h5]))
    refine ret hC tabOk (fun _ => 1) rfl rfl fun m gf hl ex => ?_
    rw [hR.trans (if_neg h5)]
    exact ⟨⟨⟨none, 0⟩, rfl, T0_ok _⟩, kc6.ks Kp.ks (by decide) (by decide) (by decide) (by decide) (by decide) (by decide) (by decide) (by decide) (by decide)⟩
  refine runO hC tabOk 60 ?_
  simp [go_sem, h5]
  repeat ((first | refine condT rfl ?_ | refine condF rfl ?_ | refine skD hC rfl rfl rfl ?_); refine runO hC tabOk 60 ?_; simp [go_sem, h5])
  try (refine runO hC tabOk 60 ?_; simp [go_sem, h5]; repeat ((first | refine condT rfl ?_ | refine condF rfl ?_ | refine skD hC rfl rfl rfl ?_); refine runO hC tabOk 60 ?_; simp [go_sem, h5]))
  refine draw hC [(0, 0), (1, 0), (2, 0), (3, 0), (4, 0), (5, 0), (6, 0), (7, 1), (8, 0), (9, 1)] [10, 11] mix (by kernel_rfl) ?_
  refine runO hC tabOk 60 ?_
  simp [go_sem]
  repeat ((first | refine condT rfl ?_ | refine condF rfl ?_ | refine skD hC rfl rfl rfl ?_); refine runO hC tabOk 60 ?_; simp [go_sem])
  refine call hC [30,31] (by kernel_rfl) rfl rfl rfl rfl rfl fun m2 g2 p2 e2 => ⟨_, note145 b bp c6 { e with at_ := now, fl := r.fl, till := r.till } he _ (kc6.ks Kp.ks (by decide) (by decide) (by decide) (by decide) (by decide) (by decide) (by decide) (by decide) (by decide)) ke.to htr (by rw [hev6]; exact hev), fun v2 u2 q2 s2 hv2 => ?_⟩
  refine runO hC tabOk 60 ?_
  simp [go_sem]
  repeat ((first | refine condT rfl ?_ | refine condF rfl ?_ | refine skD hC rfl rfl rfl ?_); refine runO hC tabOk 60 ?_; simp [go_sem])
  refine call hC [] (by kernel_rfl) rfl rfl rfl rfl rfl fun m3 g3 p3 e3 => ⟨_, answer146 sTgsRep r.client it a.tk.key isn 8 a.nonce r ht ha.tk.key hs2 hr _ kt6.to ka.tk.key.to ks6.to kr.to (by decide) hcl, fun v3 u3 q3 s3 hv3 => ?_⟩
  obtain ⟨h7, rfl, k7⟩ := hv3
  refine runO hC tabOk 60 ?_
  simp [go_sem]
  repeat ((first | refine condT rfl ?_ | refine condF rfl ?_ | refine skD hC rfl rfl rfl ?_); refine runO hC tabOk 60 ?_; simp [go_sem])
  refine ret hC tabOk (fun _ => 1) rfl rfl fun m gf hl ex => ?_
  rw [hR.trans (if_pos h5)]
  exact ⟨⟨h7, rfl, k7.to⟩, hv2.ks Kp.ks (by decide) (by decide) (by decide) (by decide) (by decide) (by decide) (by decide) (by decide) (by decide)⟩

def sSelf : ByteArray := ⟨#[115, 101, 108, 102]⟩

/-- For which user it is asked. -/
def userS (a : Asd) : ByteArray × Int :=
  if a.kind = sSelf ∧ a.extra.k = 3 ∧ a.extra.s = .empty ∧ a.extra.n = 0 then (match a.extra.l with
    | [n, _] => if nameT n then (if a.extra = extraT a.tk.key n.s then (n.s, 0) else (.empty, 62)) else (.empty, 50)
    | _ => (.empty, 50)) else (.empty, 50)

set_option maxHeartbeats 1000000 in
theorem user132 (a : Asd) (ha : AsdH) (g : G) (ka : AsdOk g a ha) : Ok Tryz.prog 132 [asv a ha] g [] (fun v _ => v = .tuple #[.string (userS a).1, .int .i64 (userS a).2] ∧ (userS a).1.size ≤ maxLen) := by
  have hU : userS a = if a.kind = sSelf ∧ a.extra.k = 3 ∧ a.extra.s = .empty ∧ a.extra.n = 0 then (match a.extra.l with
    | [n, _] => if nameT n then (if a.extra = extraT a.tk.key n.s then (n.s, 0) else (.empty, 62)) else (.empty, 50)
    | _ => (.empty, 50)) else ((.empty, 50) : ByteArray × Int) := rfl
  have fail : ∀ (v : Value) (e : Int), v = .tuple #[.string .empty, .int .i64 e] → userS a = (.empty, e) → v = .tuple #[.string (userS a).1, .int .i64 (userS a).2] ∧ (userS a).1.size ≤ maxLen := by
    intro v e h1 h2
    rw [h2]
    exact ⟨h1, Nat.zero_le _⟩
  have kx := ka.ex
  refine fbegin Tryz.func132 rfl Tryz.ntmps132 (Nat.le_of_ble_eq_true rfl) fun C hw hC => ?_
  refine runO hC tabOk 60 ?_
  simp [go_sem]
  repeat ((first | refine condT rfl ?_ | refine condF rfl ?_ | refine skD hC rfl rfl rfl ?_); refine runO hC tabOk 60 ?_; simp [go_sem])
  refine draw hC [(0, 0), (1, 0), (2, 0), (3, 0), (4, 0), (5, 0), (6, 0), (7, 0), (8, 0), (9, 0), (10, 0), (11, 0), (12, 0), (13, 0), (14, 0), (15, 0), (16, 0), (17, 0), (18, 0), (19, 0), (20, 0), (21, 0), (22, 0), (23, 0), (24, 0), (25, 0), (26, 0), (27, 0), (28, 0), (29, 0), (30, 0), (31, 0), (32, 0), (33, 0), (34, 1), (35, 1), (36, 0), (37, 0)] [] mix (by kernel_rfl) ?_
  by_cases h1 : a.kind = sSelf
  rotate_left
  · have d1 : decide (a.kind = ⟨#[115, 101, 108, 102]⟩) = false := by simpa [sSelf] using h1
    refine runO hC tabOk 60 ?_
    simp [go_sem, d1]
    repeat ((first | refine condT rfl ?_ | refine condF rfl ?_ | refine skD hC rfl rfl rfl ?_); refine runO hC tabOk 60 ?_; simp [go_sem, d1])
    try (refine runO hC tabOk 60 ?_; simp [go_sem, d1]; repeat ((first | refine condT rfl ?_ | refine condF rfl ?_ | refine skD hC rfl rfl rfl ?_); refine runO hC tabOk 60 ?_; simp [go_sem, d1]))
    refine ret hC tabOk (fun _ => 1) rfl rfl fun m gf hl ex => ?_
    exact fail _ 50 rfl (hU.trans (if_neg (by intro q; exact h1 q.1)))
  have d1 : decide (a.kind = ⟨#[115, 101, 108, 102]⟩) = true := by simpa [sSelf] using h1
  by_cases h2 : a.extra.k = 3
  rotate_left
  · have d2 : decide (a.extra.k = 3) = false := by simp [h2]
    refine runO hC tabOk 60 ?_
    simp [go_sem, d1, d2]
    repeat ((first | refine condT rfl ?_ | refine condF rfl ?_ | refine skD hC rfl rfl rfl ?_); refine runO hC tabOk 60 ?_; simp [go_sem, d1, d2])
    try (refine runO hC tabOk 60 ?_; simp [go_sem, d1, d2]; repeat ((first | refine condT rfl ?_ | refine condF rfl ?_ | refine skD hC rfl rfl rfl ?_); refine runO hC tabOk 60 ?_; simp [go_sem, d1, d2]))
    refine ret hC tabOk (fun _ => 1) rfl rfl fun m gf hl ex => ?_
    exact fail _ 50 rfl (hU.trans (if_neg (by intro q; exact h2 q.2.1)))
  have d2 : decide (a.extra.k = 3) = true := by simp [h2]
  by_cases h3 : a.extra.s = .empty
  rotate_left
  · have d3 : decide (a.extra.s = .empty) = false := by simp [h3]
    refine runO hC tabOk 60 ?_
    simp [go_sem, d1, d2, d3]
    repeat ((first | refine condT rfl ?_ | refine condF rfl ?_ | refine skD hC rfl rfl rfl ?_); refine runO hC tabOk 60 ?_; simp [go_sem, d1, d2, d3])
    try (refine runO hC tabOk 60 ?_; simp [go_sem, d1, d2, d3]; repeat ((first | refine condT rfl ?_ | refine condF rfl ?_ | refine skD hC rfl rfl rfl ?_); refine runO hC tabOk 60 ?_; simp [go_sem, d1, d2, d3]))
    refine ret hC tabOk (fun _ => 1) rfl rfl fun m gf hl ex => ?_
    exact fail _ 50 rfl (hU.trans (if_neg (by intro q; exact h3 q.2.2.1)))
  have d3 : decide (a.extra.s = .empty) = true := by simp [h3]
  by_cases h4 : a.extra.n = 0
  rotate_left
  · have d4 : decide (a.extra.n = 0) = false := by simp [h4]
    refine runO hC tabOk 60 ?_
    simp [go_sem, d1, d2, d3, d4]
    repeat ((first | refine condT rfl ?_ | refine condF rfl ?_ | refine skD hC rfl rfl rfl ?_); refine runO hC tabOk 60 ?_; simp [go_sem, d1, d2, d3, d4])
    try (refine runO hC tabOk 60 ?_; simp [go_sem, d1, d2, d3, d4]; repeat ((first | refine condT rfl ?_ | refine condF rfl ?_ | refine skD hC rfl rfl rfl ?_); refine runO hC tabOk 60 ?_; simp [go_sem, d1, d2, d3, d4]))
    refine ret hC tabOk (fun _ => 1) rfl rfl fun m gf hl ex => ?_
    exact fail _ 50 rfl (hU.trans (if_neg (by intro q; exact h4 q.2.2.2)))
  have d4 : decide (a.extra.n = 0) = true := by simp [h4]
  replace hU := hU.trans (if_pos ⟨h1, h2, h3, h4⟩)
  rcases two_or a.extra.l with ⟨x, y, el⟩ | h5
  rotate_left
  · have d5 : decide ((a.extra.l.length : Int) = 2) = false := by simp; omega
    refine runO hC tabOk 60 ?_
    simp [go_sem, d1, d2, d3, d4, d5]
    repeat ((first | refine condT rfl ?_ | refine condF rfl ?_ | refine skD hC rfl rfl rfl ?_); refine runO hC tabOk 60 ?_; simp [go_sem, d1, d2, d3, d4, d5])
    try (refine runO hC tabOk 60 ?_; simp [go_sem, d1, d2, d3, d4, d5]; repeat ((first | refine condT rfl ?_ | refine condF rfl ?_ | refine skD hC rfl rfl rfl ?_); refine runO hC tabOk 60 ?_; simp [go_sem, d1, d2, d3, d4, d5]))
    refine ret hC tabOk (fun _ => 1) rfl rfl fun m gf hl ex => ?_
    refine fail _ 50 rfl ?_
    rw [hU]
    split
    · rename_i e; rw [e] at h5; simp at h5
    · rfl
  have d5 : decide ((a.extra.l.length : Int) = 2) = true := by rw [el]; rfl
  have hlen : a.extra.l.length = 2 := by rw [el]; rfl
  have hU2 : userS a = if nameT x then (if a.extra = extraT a.tk.key x.s then (x.s, 0) else (.empty, 62)) else ((.empty, 50) : ByteArray × Int) := by
    rw [hU, el]
  obtain ⟨b0, off0, h_x, ea, hcs_x, k_x⟩ := kx.lst.get (i := 0) (t := x) (by rw [el]; rfl)
  have hsx := k_x.str
  have kx2 : TOk g a.extra ⟨some ⟨b0, off0, none⟩, ha.ex.cap⟩ := by rw [← ea]; exact kx
  refine runO hC tabOk 60 ?_
  simp [go_sem, d1, d2, d3, d4, d5, ea]
  repeat ((first | refine condT rfl ?_ | refine condF rfl ?_ | refine skD hC rfl rfl rfl ?_); refine runO hC tabOk 60 ?_; simp [go_sem, d1, d2, d3, d4, d5, ea])
  try (refine runO hC tabOk 60 ?_; simp [go_sem, d1, d2, d3, d4, d5, ea]; repeat ((first | refine condT rfl ?_ | refine condF rfl ?_ | refine skD hC rfl rfl rfl ?_); refine runO hC tabOk 60 ?_; simp [go_sem, d1, d2, d3, d4, d5, ea]))
  refine voD hC rfl (vo_index hC tabOk rfl rfl rfl rfl rfl rfl (by omega) (by omega)) rfl rfl rfl rfl ?_
  refine runO hC tabOk 60 ?_
  simp [go_sem]
  repeat ((first | refine condT rfl ?_ | refine condF rfl ?_ | refine skD hC rfl rfl rfl ?_); refine runO hC tabOk 60 ?_; simp [go_sem])
  refine voD hC rfl (vo_load hC tabOk hcs_x.to rfl rfl rfl rfl rfl) rfl rfl rfl rfl ?_
  refine runO hC tabOk 60 ?_
  simp [go_sem]
  repeat ((first | refine condT rfl ?_ | refine condF rfl ?_ | refine skD hC rfl rfl rfl ?_); refine runO hC tabOk 60 ?_; simp [go_sem])
  refine voD hC rfl (vo_index hC tabOk rfl rfl rfl rfl rfl rfl (by omega) (by omega)) rfl rfl rfl rfl ?_
  refine runO hC tabOk 60 ?_
  simp [go_sem]
  repeat ((first | refine condT rfl ?_ | refine condF rfl ?_ | refine skD hC rfl rfl rfl ?_); refine runO hC tabOk 60 ?_; simp [go_sem])
  refine voD hC rfl (vo_load1 hC tabOk ((hcs_x.one 1 rfl).to) rfl rfl rfl rfl) rfl rfl rfl rfl ?_
  refine runO hC tabOk 60 ?_
  simp [go_sem]
  repeat ((first | refine condT rfl ?_ | refine condF rfl ?_ | refine skD hC rfl rfl rfl ?_); refine runO hC tabOk 60 ?_; simp [go_sem])
  refine callD hC [] (by kernel_rfl) rfl rfl rfl rfl rfl rfl rfl rfl fun m1 g1 p1 e1 => ⟨_, of118 x.s _, fun v1 u1 q1 s1 hv1 => ?_⟩
  subst hv1
  refine runO hC tabOk 60 ?_
  simp [go_sem]
  repeat ((first | refine condT rfl ?_ | refine condF rfl ?_ | refine skD hC rfl rfl rfl ?_); refine runO hC tabOk 60 ?_; simp [go_sem])
  refine callD hC [] (by kernel_rfl) rfl rfl rfl rfl rfl rfl rfl rfl fun m2 g2 p2 e2 => ⟨_, same44 x (ofT x.s) h_x ⟨none, 0⟩ _ k_x.to (tok_leaf _ _ _ _ hsx), fun v2 u2 q2 s2 hv2 => ?_⟩
  subst hv2
  by_cases h6 : x = ofT x.s
  rotate_left
  · have d6 : decide (x = ofT x.s) = false := by simp [h6]
    refine runO hC tabOk 60 ?_
    simp [go_sem, d6]
    repeat ((first | refine condT rfl ?_ | refine condF rfl ?_ | refine skD hC rfl rfl rfl ?_); refine runO hC tabOk 60 ?_; simp [go_sem, d6])
    try (refine runO hC tabOk 60 ?_; simp [go_sem, d6]; repeat ((first | refine condT rfl ?_ | refine condF rfl ?_ | refine skD hC rfl rfl rfl ?_); refine runO hC tabOk 60 ?_; simp [go_sem, d6]))
    refine ret hC tabOk (fun _ => 1) rfl rfl fun m gf hl ex => ?_
    exact fail _ 50 rfl (hU2.trans (if_neg (by unfold nameT; rw [d6]; simp)))
  have d6 : decide (x = ofT x.s) = true := by simp [← h6]
  replace hU2 := hU2.trans (if_pos (by unfold nameT; exact d6))
  refine runO hC tabOk 60 ?_
  simp [go_sem, d6]
  repeat ((first | refine condT rfl ?_ | refine condF rfl ?_ | refine skD hC rfl rfl rfl ?_); refine runO hC tabOk 60 ?_; simp [go_sem, d6])
  try (refine runO hC tabOk 60 ?_; simp [go_sem, d6]; repeat ((first | refine condT rfl ?_ | refine condF rfl ?_ | refine skD hC rfl rfl rfl ?_); refine runO hC tabOk 60 ?_; simp [go_sem, d6]))
  refine vo hC (vo_index hC tabOk rfl rfl rfl rfl rfl rfl (by omega) (by omega)) rfl rfl rfl ?_
  refine runO hC tabOk 60 ?_
  simp [go_sem]
  repeat ((first | refine condT rfl ?_ | refine condF rfl ?_ | refine skD hC rfl rfl rfl ?_); refine runO hC tabOk 60 ?_; simp [go_sem])
  refine vo hC (vo_load1 hC tabOk ((hcs_x.one 1 rfl).to) rfl rfl rfl rfl) rfl rfl rfl ?_
  refine runO hC tabOk 60 ?_
  simp [go_sem]
  repeat ((first | refine condT rfl ?_ | refine condF rfl ?_ | refine skD hC rfl rfl rfl ?_); refine runO hC tabOk 60 ?_; simp [go_sem])
  refine draw hC [(0, 0), (1, 0), (2, 0), (3, 0), (4, 0), (5, 1), (6, 1), (7, 0)] [] mix (by kernel_rfl) ?_
  refine runO hC tabOk 60 ?_
  simp [go_sem]
  repeat ((first | refine condT rfl ?_ | refine condF rfl ?_ | refine skD hC rfl rfl rfl ?_); refine runO hC tabOk 60 ?_; simp [go_sem])
  refine callD hC [] (by kernel_rfl) rfl rfl rfl rfl rfl rfl rfl rfl fun m3 g3 p3 e3 => ⟨_, extra31 a.tk.key ha.tk.key x.s _ ka.tk.key.to hsx, fun v3 u3 q3 s3 hv3 => ?_⟩
  obtain ⟨h3', rfl, k3⟩ := hv3
  generalize extraT a.tk.key x.s = xt at k3 hU2 ⊢
  refine runO hC tabOk 60 ?_
  simp [go_sem]
  repeat ((first | refine condT rfl ?_ | refine condF rfl ?_ | refine skD hC rfl rfl rfl ?_); refine runO hC tabOk 60 ?_; simp [go_sem])
  refine callD hC [] (by kernel_rfl) rfl rfl rfl rfl rfl rfl rfl rfl fun m4 g4 p4 e4 => ⟨_, same44 a.extra xt ⟨some ⟨b0, off0, none⟩, ha.ex.cap⟩ h3' _ kx2.to k3.to, fun v4 u4 q4 s4 hv4 => ?_⟩
  subst hv4
  by_cases h7 : a.extra = xt
  rotate_left
  · have d7 : decide (a.extra = xt) = false := by simp [h7]
    refine runO hC tabOk 60 ?_
    simp [go_sem, d7]
    repeat ((first | refine condT rfl ?_ | refine condF rfl ?_ | refine skD hC rfl rfl rfl ?_); refine runO hC tabOk 60 ?_; simp [go_sem, d7])
    try (refine runO hC tabOk 60 ?_; simp [go_sem, d7]; repeat ((first | refine condT rfl ?_ | refine condF rfl ?_ | refine skD hC rfl rfl rfl ?_); refine runO hC tabOk 60 ?_; simp [go_sem, d7]))
    refine ret hC tabOk (fun _ => 1) rfl rfl fun m gf hl ex => ?_
    exact fail _ 62 rfl (hU2.trans (if_neg h7))
  have d7 : decide (a.extra = xt) = true := by simp [← h7]
  refine runO hC tabOk 60 ?_
  simp [go_sem, d7]
  repeat ((first | refine condT rfl ?_ | refine condF rfl ?_ | refine skD hC rfl rfl rfl ?_); refine runO hC tabOk 60 ?_; simp [go_sem, d7])
  try (refine runO hC tabOk 60 ?_; simp [go_sem, d7]; repeat ((first | refine condT rfl ?_ | refine condF rfl ?_ | refine skD hC rfl rfl rfl ?_); refine runO hC tabOk 60 ?_; simp [go_sem, d7]))
  refine ret hC tabOk (fun _ => 1) rfl rfl fun m gf hl ex => ?_
  rw [hU2.trans (if_pos h7)]
  exact ⟨rfl, hsx⟩
end Go.Proofs.YtobhfopgoidniaaGreat

/- What is asked with a ticket: the authenticator; the time. -/
namespace Go.Proofs.YtobhfopgoidniaaGreat
open Go Go.Eng

/-- How long it may be. -/
def otimeS (c : Cen) (a : Asd) (now : Int) (x3 x5 : T) : ((Int × Int) × Int) × Cen :=
  if (pget c.ps a.target).2 = 0 then (if sOk now x3.n then (if (bothN (now, x3.n) (a.tk.fr, a.tk.till)).2 = 0 then (if (cutN (bothN (now, x3.n) (a.tk.fr, a.tk.till)).1 (pget c.ps a.target).1.life).2 = 0 then (((cutN (bothN (now, x3.n) (a.tk.fr, a.tk.till)).1 (pget c.ps a.target).1.life).1, (freshS c x5 now).2), (freshS c x5 now).1) else (((0, 0), (cutN (bothN (now, x3.n) (a.tk.fr, a.tk.till)).1 (pget c.ps a.target).1.life).2), c)) else (((0, 0), (bothN (now, x3.n) (a.tk.fr, a.tk.till)).2), c)) else (((0, 0), 63), c)) else (((0, 0), (pget c.ps a.target).2), c)

set_option maxHeartbeats 1000000 in
theorem otime157 (bo b bp : Nat) (c : Cen) (a : Asd) (now : Int) (l : List T) (cen x3 x5 : T) (g : G) (k : CenIs g b bp c) (ko : OpIs g bo a b now l cen) (hx3 : l[3]? = some x3) (hx5 : l[5]? = some x5) (hsz : c.came.length ≤ 1099511627776) :
    Ok Tryz.prog 157 [ptr bo] g [32, 33, 50] (fun v g' => v = .int .i64 (otimeS c a now x3 x5).1.2 ∧ CenIs g' b bp (otimeS c a now x3 x5).2 ∧ ((otimeS c a now x3 x5).1.2 = 0 → OpIs g' bo { a with fr := (otimeS c a now x3 x5).1.1.1, till := (otimeS c a now x3 x5).1.1.2 } b now l cen)) := by
  have k0 := k
  obtain ⟨⟨⟨bm, ptrs, kp⟩, kv⟩, bc, a0, cap, k1, k2, k3⟩ := k
  obtain ⟨h0, hl0, hc0, ko, koa, kl, kcen⟩ := ko
  have hlt : 5 < l.length := (List.getElem?_eq_some_iff.1 hx5).1
  obtain ⟨b0, off0, h_3, ea, hcs_3, k_3⟩ := kl.get hx3
  obtain ⟨b1, off1, h_5, ea1, hcs_5, k_5⟩ := kl.get hx5
  rw [ea] at ea1
  obtain ⟨rfl, rfl, _⟩ := Addr.mk.inj (Option.some.inj ea1)
  have hO : otimeS c a now x3 x5 = if (pget c.ps a.target).2 = 0 then (if sOk now x3.n then (if (bothN (now, x3.n) (a.tk.fr, a.tk.till)).2 = 0 then (if (cutN (bothN (now, x3.n) (a.tk.fr, a.tk.till)).1 (pget c.ps a.target).1.life).2 = 0 then (((cutN (bothN (now, x3.n) (a.tk.fr, a.tk.till)).1 (pget c.ps a.target).1.life).1, (freshS c x5 now).2), (freshS c x5 now).1) else (((0, 0), (cutN (bothN (now, x3.n) (a.tk.fr, a.tk.till)).1 (pget c.ps a.target).1.life).2), c)) else (((0, 0), (bothN (now, x3.n) (a.tk.fr, a.tk.till)).2), c)) else (((0, 0), 63), c)) else (((0, 0), (pget c.ps a.target).2), c) := rfl
  refine fbegin Tryz.func157 rfl Tryz.ntmps157 (Nat.le_of_ble_eq_true rfl) fun C hw hC => ?_
  refine runO hC tabOk 60 ?_
  simp [go_sem]
  repeat ((first | refine condT rfl ?_ | refine condF rfl ?_ | refine skD hC rfl rfl rfl ?_); refine runO hC tabOk 60 ?_; simp [go_sem])
  refine draw hC [(0, 0), (1, 0), (2, 0), (3, 0), (5, 0), (6, 0), (7, 0), (8, 0), (9, 0), (14, 2), (4, 1), (10, 1), (11, 0), (12, 0), (13, 0), (14, 3)] [15, 16] mix (by kernel_rfl) ?_
  refine runO hC tabOk 60 ?_
  simp [go_sem]
  repeat ((first | refine condT rfl ?_ | refine condF rfl ?_ | refine skD hC rfl rfl rfl ?_); refine runO hC tabOk 60 ?_; simp [go_sem])
  refine voD hC rfl (vo_load1 hC tabOk ((ob1 ko 29 rfl).ks Kp.ks (by decide)) rfl rfl rfl rfl) rfl rfl rfl rfl ?_
  refine runO hC tabOk 60 ?_
  simp [go_sem]
  repeat ((first | refine condT rfl ?_ | refine condF rfl ?_ | refine skD hC rfl rfl rfl ?_); refine runO hC tabOk 60 ?_; simp [go_sem])
  refine voD hC rfl (vo_load1 hC tabOk ((ob1 ko 1 rfl).ks Kp.ks (by decide)) rfl rfl rfl rfl) rfl rfl rfl rfl ?_
  refine runO hC tabOk 60 ?_
  simp [go_sem]
  repeat ((first | refine condT rfl ?_ | refine condF rfl ?_ | refine skD hC rfl rfl rfl ?_); refine runO hC tabOk 60 ?_; simp [go_sem])
  refine callD hC [] (by kernel_rfl) rfl rfl rfl rfl rfl rfl rfl rfl fun m1 g1 p1 e1 => ⟨_, policy134 b bp c _ (k0.ks Kp.ks (by decide) (by decide) (by decide) (by decide) (by decide) (by decide) (by decide) (by decide) (by decide)), fun v1 u1 q1 s1 hv1 => ?_⟩
  subst hv1
  refine runO hC tabOk 60 ?_
  simp [go_sem]
  repeat ((first | refine condT rfl ?_ | refine condF rfl ?_ | refine skD hC rfl rfl rfl ?_); refine runO hC tabOk 60 ?_; simp [go_sem])
  refine callD hC [] (by kernel_rfl) rfl rfl rfl rfl rfl rfl rfl rfl fun m2 g2 p2 e2 => ⟨_, pget35 10 (by simp) (by simp) (ptr bp) bp bm ptrs c.ps a.target _ (kp.ks Kp.ks (by decide) (by decide) (by decide) (by decide)) kv, fun v2 u2 q2 s2 hv2 => ?_⟩
  obtain ⟨hp, rfl, kpr⟩ := hv2
  generalize pget c.ps a.target = pp at kpr hO ⊢
  by_cases h1 : pp.2 = 0
  rotate_left
  · refine runO hC tabOk 60 ?_
    simp [go_sem, h1]
    repeat ((first | refine condT rfl ?_ | refine condF rfl ?_ | refine skD hC rfl rfl rfl ?_); refine runO hC tabOk 60 ?_; simp [go_sem, h1])
    try (refine runO hC tabOk 60 ?_; simp [go_sem, h1]; repeat ((first | refine condT rfl ?_ | refine condF rfl ?_ | refine skD hC rfl rfl rfl ?_); refine runO hC tabOk 60 ?_; simp [go_sem, h1]))
    refine ret hC tabOk (fun _ => 1) rfl rfl fun m gf hl ex => ?_
    rw [hO.trans (if_neg h1)]
    exact ⟨rfl, k0.ks Kp.ks (by decide) (by decide) (by decide) (by decide) (by decide) (by decide) (by decide) (by decide) (by decide), fun q => absurd q h1⟩
  replace hO := hO.trans (if_pos h1)
  refine runO hC tabOk 60 ?_
  simp [go_sem, h1]
  repeat ((first | refine condT rfl ?_ | refine condF rfl ?_ | refine skD hC rfl rfl rfl ?_); refine runO hC tabOk 60 ?_; simp [go_sem, h1])
  try (refine runO hC tabOk 60 ?_; simp [go_sem, h1]; repeat ((first | refine condT rfl ?_ | refine condF rfl ?_ | refine skD hC rfl rfl rfl ?_); refine runO hC tabOk 60 ?_; simp [go_sem, h1]))
  refine draw hC [(0, 0), (1, 0), (2, 0), (3, 0), (4, 0), (5, 0), (6, 0), (7, 0), (8, 0), (9, 0), (10, 0), (11, 0), (12, 1)] [13] mix (by kernel_rfl) ?_
  refine runO hC tabOk 60 ?_
  simp [go_sem]
  repeat ((first | refine condT rfl ?_ | refine condF rfl ?_ | refine skD hC rfl rfl rfl ?_); refine runO hC tabOk 60 ?_; simp [go_sem])
  refine voD hC rfl (vo_load1 hC tabOk ((ob1 ko 30 rfl).ks Kp.ks (by decide)) rfl rfl rfl rfl) rfl rfl rfl rfl ?_
  refine runO hC tabOk 60 ?_
  simp [go_sem]
  repeat ((first | refine condT rfl ?_ | refine condF rfl ?_ | refine skD hC rfl rfl rfl ?_); refine runO hC tabOk 60 ?_; simp [go_sem])
  refine voD hC rfl (vo_load1 hC tabOk ((ob1 ko 31 rfl).ks Kp.ks (by decide)) rfl rfl rfl rfl) rfl rfl rfl rfl ?_
  refine runO hC tabOk 60 ?_
  simp [go_sem, ea]
  repeat ((first | refine condT rfl ?_ | refine condF rfl ?_ | refine skD hC rfl rfl rfl ?_); refine runO hC tabOk 60 ?_; simp [go_sem, ea])
  try (refine runO hC tabOk 60 ?_; simp [go_sem, ea]; repeat ((first | refine condT rfl ?_ | refine condF rfl ?_ | refine skD hC rfl rfl rfl ?_); refine runO hC tabOk 60 ?_; simp [go_sem, ea]))
  refine voD hC rfl (vo_index hC tabOk rfl rfl rfl rfl rfl rfl (by omega) (by omega)) rfl rfl rfl rfl ?_
  refine runO hC tabOk 60 ?_
  simp [go_sem]
  repeat ((first | refine condT rfl ?_ | refine condF rfl ?_ | refine skD hC rfl rfl rfl ?_); refine runO hC tabOk 60 ?_; simp [go_sem])
  refine voD hC rfl (vo_load1 hC tabOk ((hcs_3.one 2 rfl).to) rfl rfl rfl rfl) rfl rfl rfl rfl ?_
  refine runO hC tabOk 60 ?_
  simp [go_sem]
  repeat ((first | refine condT rfl ?_ | refine condF rfl ?_ | refine skD hC rfl rfl rfl ?_); refine runO hC tabOk 60 ?_; simp [go_sem])
  refine call hC [] (by kernel_rfl) rfl rfl rfl rfl rfl fun m3 g3 p3 e3 => ⟨_, svalid192 now x3.n _, fun v3 u3 q3 s3 hv3 => ?_⟩
  subst hv3
  cases h2 : sOk now x3.n with
  | false =>
    refine runO hC tabOk 60 ?_
    simp [go_sem]
    repeat ((first | refine condT rfl ?_ | refine condF rfl ?_ | refine skD hC rfl rfl rfl ?_); refine runO hC tabOk 60 ?_; simp [go_sem])
    refine ret hC tabOk (fun _ => 1) rfl rfl fun m gf hl ex => ?_
    rw [hO.trans (if_neg (by simp [h2]))]
    exact ⟨rfl, k0.ks Kp.ks (by decide) (by decide) (by decide) (by decide) (by decide) (by decide) (by decide) (by decide) (by decide), fun q => by cases q⟩
  | true =>
  replace hO := hO.trans (if_pos h2)
  refine runO hC tabOk 60 ?_
  simp [go_sem]
  repeat ((first | refine condT rfl ?_ | refine condF rfl ?_ | refine skD hC rfl rfl rfl ?_); refine runO hC tabOk 60 ?_; simp [go_sem])
  refine draw hC [(0, 0), (1, 0), (2, 0), (3, 0), (4, 0), (5, 0), (6, 0), (11, 2), (7, 1), (8, 0), (9, 0), (10, 0), (11, 3)] [12, 13] mix (by kernel_rfl) ?_
  refine runO hC tabOk 60 ?_
  simp [go_sem]
  repeat ((first | refine condT rfl ?_ | refine condF rfl ?_ | refine skD hC rfl rfl rfl ?_); refine runO hC tabOk 60 ?_; simp [go_sem])
  refine voD hC rfl (vo_load hC tabOk ((ko.cs 14 (vs := [.int .i64 a.tk.fr, .int .i64 a.tk.till]) (by intro j v hj; match j with | 0 => exact hj | 1 => exact hj | j + 2 => cases hj)).ks Kp.ks (by decide)) rfl rfl rfl rfl rfl) rfl rfl rfl rfl ?_
  refine runO hC tabOk 60 ?_
  simp [go_sem]
  repeat ((first | refine condT rfl ?_ | refine condF rfl ?_ | refine skD hC rfl rfl rfl ?_); refine runO hC tabOk 60 ?_; simp [go_sem])
  refine callD hC [] (by kernel_rfl) rfl rfl rfl rfl rfl rfl rfl rfl fun m4 g4 p4 e4 => ⟨_, both234 now x3.n a.tk.fr a.tk.till _, fun v4 u4 q4 s4 hv4 => ?_⟩
  subst hv4
  generalize bothN (now, x3.n) (a.tk.fr, a.tk.till) = bb at hO ⊢
  obtain ⟨⟨bf, bt⟩, be⟩ := bb
  unfold spv
  dsimp only at hO ⊢
  by_cases h3 : be = 0
  rotate_left
  · refine runO hC tabOk 60 ?_
    simp [go_sem, h3]
    repeat ((first | refine condT rfl ?_ | refine condF rfl ?_ | refine skD hC rfl rfl rfl ?_); refine runO hC tabOk 60 ?_; simp [go_sem, h3])
    try (refine runO hC tabOk 60 ?_; simp [go_sem, h3]; repeat ((first | refine condT rfl ?_ | refine condF rfl ?_ | refine skD hC rfl rfl rfl ?_); refine runO hC tabOk 60 ?_; simp [go_sem, h3]))
    refine ret hC tabOk (fun _ => 1) rfl rfl fun m gf hl ex => ?_
    rw [hO.trans (if_neg h3)]
    exact ⟨rfl, k0.ks Kp.ks (by decide) (by decide) (by decide) (by decide) (by decide) (by decide) (by decide) (by decide) (by decide), fun q => absurd q h3⟩
  replace hO := hO.trans (if_pos h3)
  refine runO hC tabOk 60 ?_
  simp [go_sem, h3]
  repeat ((first | refine condT rfl ?_ | refine condF rfl ?_ | refine skD hC rfl rfl rfl ?_); refine runO hC tabOk 60 ?_; simp [go_sem, h3])
  try (refine runO hC tabOk 60 ?_; simp [go_sem, h3]; repeat ((first | refine condT rfl ?_ | refine condF rfl ?_ | refine skD hC rfl rfl rfl ?_); refine runO hC tabOk 60 ?_; simp [go_sem, h3]))
  refine call hC [] (by kernel_rfl) rfl rfl rfl rfl rfl fun m5 g5 p5 e5 => ⟨_, span_cut227 bf bt pp.1.life _, fun v5 u5 q5 s5 hv5 => ?_⟩
  subst hv5
  generalize cutN (bf, bt) pp.1.life = cc at hO ⊢
  obtain ⟨⟨cf, ct⟩, ce⟩ := cc
  unfold spv
  refine runO hC tabOk 60 ?_
  simp [go_sem]
  repeat ((first | refine condT rfl ?_ | refine condF rfl ?_ | refine skD hC rfl rfl rfl ?_); refine runO hC tabOk 60 ?_; simp [go_sem])
  refine stob hC tabOk 50 rfl (.inl (by simp)) rfl rfl rfl rfl rfl rfl rfl rfl fun m9 g9 p9 e9 => ⟨223, _, ko.ks Kp.ks (by decide), by simp [opc, setV_len], fun g10 g11 p10 but10 p11 hob1 => ?_⟩
  have hob2 : Ob g11 50 bo 223 (opc { a with fr := cf, till := ct } h0 b now l hl0 cen hc0) := hob1
  by_cases h4 : ce = 0
  rotate_left
  · refine runO hC tabOk 60 ?_
    simp [go_sem, h4]
    repeat ((first | refine condT rfl ?_ | refine condF rfl ?_ | refine skD hC rfl rfl rfl ?_); refine runO hC tabOk 60 ?_; simp [go_sem, h4])
    try (refine runO hC tabOk 60 ?_; simp [go_sem, h4]; repeat ((first | refine condT rfl ?_ | refine condF rfl ?_ | refine skD hC rfl rfl rfl ?_); refine runO hC tabOk 60 ?_; simp [go_sem, h4]))
    refine ret hC tabOk (fun _ => 1) rfl rfl fun m gf hl ex => ?_
    rw [hO.trans (if_neg h4)]
    exact ⟨rfl, k0.ks Kp.ks (by decide) (by decide) (by decide) (by decide) (by decide) (by decide) (by decide) (by decide) (by decide), fun q => absurd q h4⟩
  replace hO := hO.trans (if_pos h4)
  refine runO hC tabOk 60 ?_
  simp [go_sem, h4]
  repeat ((first | refine condT rfl ?_ | refine condF rfl ?_ | refine skD hC rfl rfl rfl ?_); refine runO hC tabOk 60 ?_; simp [go_sem, h4])
  try (refine runO hC tabOk 60 ?_; simp [go_sem, h4]; repeat ((first | refine condT rfl ?_ | refine condF rfl ?_ | refine skD hC rfl rfl rfl ?_); refine runO hC tabOk 60 ?_; simp [go_sem, h4]))
  refine draw hC [(0, 0), (1, 0), (2, 0), (3, 0), (4, 0), (5, 0), (6, 0), (7, 0), (8, 0), (9, 0), (10, 0), (11, 0), (12, 0), (13, 0), (14, 1)] [15] mix (by kernel_rfl) ?_
  refine runO hC tabOk 60 ?_
  simp [go_sem]
  repeat ((first | refine condT rfl ?_ | refine condF rfl ?_ | refine skD hC rfl rfl rfl ?_); refine runO hC tabOk 60 ?_; simp [go_sem])
  refine voD hC rfl (vo_load1 hC tabOk ((ob1 hob2 29 rfl).ks Kp.ks (by decide)) rfl rfl rfl rfl) rfl rfl rfl rfl ?_
  refine runO hC tabOk 60 ?_
  simp [go_sem]
  repeat ((first | refine condT rfl ?_ | refine condF rfl ?_ | refine skD hC rfl rfl rfl ?_); refine runO hC tabOk 60 ?_; simp [go_sem])
  refine voD hC rfl (vo_load1 hC tabOk ((ob1 hob2 31 rfl).ks Kp.ks (by decide)) rfl rfl rfl rfl) rfl rfl rfl rfl ?_
  refine runO hC tabOk 60 ?_
  simp [go_sem, ea]
  repeat ((first | refine condT rfl ?_ | refine condF rfl ?_ | refine skD hC rfl rfl rfl ?_); refine runO hC tabOk 60 ?_; simp [go_sem, ea])
  try (refine runO hC tabOk 60 ?_; simp [go_sem, ea]; repeat ((first | refine condT rfl ?_ | refine condF rfl ?_ | refine skD hC rfl rfl rfl ?_); refine runO hC tabOk 60 ?_; simp [go_sem, ea]))
  refine voD hC rfl (vo_index hC tabOk rfl rfl rfl rfl rfl rfl (by omega) (by omega)) rfl rfl rfl rfl ?_
  refine runO hC tabOk 60 ?_
  simp [go_sem]
  repeat ((first | refine condT rfl ?_ | refine condF rfl ?_ | refine skD hC rfl rfl rfl ?_); refine runO hC tabOk 60 ?_; simp [go_sem])
  refine voD hC rfl (vo_load hC tabOk hcs_5.to rfl rfl rfl rfl rfl) rfl rfl rfl rfl ?_
  refine runO hC tabOk 60 ?_
  simp [go_sem]
  repeat ((first | refine condT rfl ?_ | refine condF rfl ?_ | refine skD hC rfl rfl rfl ?_); refine runO hC tabOk 60 ?_; simp [go_sem])
  refine voD hC rfl (vo_load1 hC tabOk ((ob1 hob2 30 rfl).ks Kp.ks (by decide)) rfl rfl rfl rfl) rfl rfl rfl rfl ?_
  refine runO hC tabOk 60 ?_
  simp [go_sem]
  repeat ((first | refine condT rfl ?_ | refine condF rfl ?_ | refine skD hC rfl rfl rfl ?_); refine runO hC tabOk 60 ?_; simp [go_sem])
  refine callD hC [32,33] (by kernel_rfl) rfl rfl rfl rfl rfl rfl rfl rfl fun m6 g6 p6 e6 => ⟨_, fresh228 b bp c x5 h_5 now _ (k0.ks Kp.ks (by decide) (by decide) (by decide) (by decide) (by decide) (by decide) (by decide) (by decide) (by decide)) k_5.to hsz, fun v6 u6 q6 s6 hv6 => ?_⟩
  obtain ⟨rfl, kc6⟩ := hv6
  refine runO hC tabOk 60 ?_
  simp [go_sem]
  repeat ((first | refine condT rfl ?_ | refine condF rfl ?_ | refine skD hC rfl rfl rfl ?_); refine runO hC tabOk 60 ?_; simp [go_sem])
  refine ret hC tabOk (fun _ => 1) rfl rfl fun m gf hl ex => ?_
  rw [hO]
  exact ⟨rfl, kc6.ks Kp.ks (by decide) (by decide) (by decide) (by decide) (by decide) (by decide) (by decide) (by decide) (by decide), fun _ => ⟨h0, hl0, hc0, hob2.ks Kp.ks (by decide), ⟨koa.ex.to, koa.tk.to, koa.au.to, koa.k, koa.t⟩, kl.to, kcen.to⟩⟩
end Go.Proofs.YtobhfopgoidniaaGreat

/- What is asked with a ticket: what is shown with it. -/
namespace Go.Eng
open Go

section
variable {C : Ctx} {P : Program} {fn : Func} {n : Nat} {g0 g : G} {L0 : List Nat} {Post : Value → G → Prop} {s : St} {T : Tab}

theorem vo_slarr (hC : Fnc C P fn n g0 L0 Post) (hT : TabOk P T) {o : Oper} {t : Nat} {x : Operand} {b off k e : Nat} {de : TD} (ho : o.op = .slice t x none none none) (hx : evg [] s.env x = some (.c (.v (.pointer (some ⟨b, off, none⟩)))))
    (hu : P.underlying t = some (.array k e)) (hde : T e = some de) : Vo C g s o (.slice (some ⟨b, off, none⟩) k k) [] := by
  intro a w m hs w2 _
  obtain ⟨ie, _, hie, _, hsz, _⟩ := hT.ok e de hde
  have e1 : a.eval x = .pointer (some ⟨b, off, none⟩) := (hs.ev hx).1
  simp only [execOp, ho, e1, Option.map_none]
  rw [hC.P]
  simp [Instr.sliceAt, Instr.sureAddr, Instr.sliceBounds, Instr.sliceBound, run_underlying hu, sizeOf, rti hie, Addr.add]
end
end Go.Eng

namespace Go.Proofs.YtobhfopgoidniaaGreat
open Go Go.Eng

theorem five_or (l : List T) : (∃ a b c d e, l = [a, b, c, d, e]) ∨ ¬ l.length = 5 := by
  match l with
  | [] => exact .inr (by simp)
  | [a] => exact .inr (by simp)
  | [a, b] => exact .inr (by simp)
  | [a, b, c] => exact .inr (by simp)
  | [a, b, c, d] => exact .inr (by simp)
  | [a, b, c, d, e] => exact .inl ⟨a, b, c, d, e, rfl⟩
  | a :: b :: c :: d :: e :: f :: r => exact .inr (by simp)

def oshM (a : Asd) (now : Int) (l : List T) : Int := match l with
  | [a0, a1, a2, a3, a4] => if a0.s = a.tk.cl ∧ a3.s = a.kind ∧ a4.s = a.target then (if a2.n = a.nonce then (if tOk a1.n && tOk now && tOk 300 && decide (a1.n - now ≤ 300) && decide (now - a1.n ≤ 300) then 0 else 30) else 70) else 51
  | _ => 50

/-- What is shown with the ticket. -/
def oshS (a : Asd) (now : Int) (x5 : T) : Int :=
  if (boxS x5 a.tk.key 7).2 = 0 then (if (boxS x5 a.tk.key 7).1.k = 3 ∧ (boxS x5 a.tk.key 7).1.s = .empty ∧ (boxS x5 a.tk.key 7).1.n = 0 ∧ (boxS x5 a.tk.key 7).1.l.length = 5 ∧ plainL (boxS x5 a.tk.key 7).1.l [0, 1, 1, 0, 0] = true then oshM a now (boxS x5 a.tk.key 7).1.l else 50) else (boxS x5 a.tk.key 7).2

set_option maxHeartbeats 1000000 in
theorem shown156 (bo b : Nat) (a : Asd) (now : Int) (l : List T) (cen x5 : T) (g : G) (ko : OpIs g bo a b now l cen) (hx5 : l[5]? = some x5) :
    Ok Tryz.prog 156 [ptr bo] g [51] (fun v _ => v = .int .i64 (oshS a now x5)) := by
  obtain ⟨h0, hl0, hc0, ko, koa, kl, kcen⟩ := ko
  have hlt : 5 < l.length := (List.getElem?_eq_some_iff.1 hx5).1
  obtain ⟨b1, off1, h_5, ea, hcs_5, k_5⟩ := kl.get hx5
  have hS : oshS a now x5 = if (boxS x5 a.tk.key 7).2 = 0 then (if (boxS x5 a.tk.key 7).1.k = 3 ∧ (boxS x5 a.tk.key 7).1.s = .empty ∧ (boxS x5 a.tk.key 7).1.n = 0 ∧ (boxS x5 a.tk.key 7).1.l.length = 5 ∧ plainL (boxS x5 a.tk.key 7).1.l [0, 1, 1, 0, 0] = true then oshM a now (boxS x5 a.tk.key 7).1.l else 50) else (boxS x5 a.tk.key 7).2 := rfl
  refine fbegin Tryz.func156 rfl Tryz.ntmps156 (Nat.le_of_ble_eq_true rfl) fun C hw hC => ?_
  refine runO hC tabOk 60 ?_
  simp [go_sem]
  repeat ((first | refine condT rfl ?_ | refine condF rfl ?_ | refine skD hC rfl rfl rfl ?_); refine runO hC tabOk 60 ?_; simp [go_sem])
  refine vo hC (vo_bld hC [(0, .int .i64 0), (1, .int .i64 1), (2, .int .i64 1), (3, .int .i64 0), (4, .int .i64 0)] rfl rfl (run_bld tabOk Tryz.underlying300 rfl rfl rfl rfl)) rfl rfl rfl ?_
  refine runO hC tabOk 60 ?_
  simp [go_sem]
  repeat ((first | refine condT rfl ?_ | refine condF rfl ?_ | refine skD hC rfl rfl rfl ?_); refine runO hC tabOk 60 ?_; simp [go_sem])
  refine smallX (fun _ => 51) rfl fun m1 g1 p1 e1 => ⟨⟨[(3, .c (.v (ptr (m1.getD 0 0)))), (0, .c (.v (ptr bo)))], [], [], [], 0⟩, ⟨by simp [go_sem], by simp [go_sem, SV.val, SC.val], rfl, by simp [go_sem], by simp [go_sem], ⟨_, rfl⟩⟩, by simp, ?_⟩
  have kks : OOk ic g1 51 [0, 1, 1, 0, 0] ⟨some ⟨m1.getD 0 0, 0, none⟩, 5⟩ := ⟨.inr ⟨_, _, rfl, (e1.ob (i := 0) rfl).cs 0 (by intro j v hj; rw [Nat.zero_add]; exact hj)⟩, by simp, by show (5 : Nat) ≤ maxLen; decide⟩
  generalize m1.getD 0 0 = b3 at kks ⊢
  refine runO hC tabOk 60 ?_
  simp [go_sem]
  repeat ((first | refine condT rfl ?_ | refine condF rfl ?_ | refine skD hC rfl rfl rfl ?_); refine runO hC tabOk 60 ?_; simp [go_sem])
  refine draw hC [(0, 0), (1, 0), (2, 0), (3, 0), (4, 0), (5, 0), (6, 0), (7, 0), (8, 0), (9, 0), (10, 0), (11, 0), (16, 2), (12, 1), (13, 0), (14, 0), (15, 0), (16, 3)] [17, 18] mix (by kernel_rfl) ?_
  refine runO hC tabOk 60 ?_
  simp [go_sem]
  repeat ((first | refine condT rfl ?_ | refine condF rfl ?_ | refine skD hC rfl rfl rfl ?_); refine runO hC tabOk 60 ?_; simp [go_sem])
  refine voD hC rfl (vo_load1 hC tabOk ((ob1 ko 31 rfl).ks Kp.ks (by decide)) rfl rfl rfl rfl) rfl rfl rfl rfl ?_
  refine runO hC tabOk 60 ?_
  simp [go_sem, ea]
  repeat ((first | refine condT rfl ?_ | refine condF rfl ?_ | refine skD hC rfl rfl rfl ?_); refine runO hC tabOk 60 ?_; simp [go_sem, ea])
  try (refine runO hC tabOk 60 ?_; simp [go_sem, ea]; repeat ((first | refine condT rfl ?_ | refine condF rfl ?_ | refine skD hC rfl rfl rfl ?_); refine runO hC tabOk 60 ?_; simp [go_sem, ea]))
  refine voD hC rfl (vo_index hC tabOk rfl rfl rfl rfl rfl rfl (by omega) (by omega)) rfl rfl rfl rfl ?_
  refine runO hC tabOk 60 ?_
  simp [go_sem]
  repeat ((first | refine condT rfl ?_ | refine condF rfl ?_ | refine skD hC rfl rfl rfl ?_); refine runO hC tabOk 60 ?_; simp [go_sem])
  refine voD hC rfl (vo_load hC tabOk hcs_5.to rfl rfl rfl rfl rfl) rfl rfl rfl rfl ?_
  refine runO hC tabOk 60 ?_
  simp [go_sem]
  repeat ((first | refine condT rfl ?_ | refine condF rfl ?_ | refine skD hC rfl rfl rfl ?_); refine runO hC tabOk 60 ?_; simp [go_sem])
  refine voD hC rfl (vo_load hC tabOk ((ko.cs 9 (vs := [.int .i64 a.tk.key.k, .string a.tk.key.s, .int .i64 a.tk.key.n, .slice h0.tk.key.a a.tk.key.l.length h0.tk.key.cap]) (by intro j v hj; match j with | 0 => exact hj | 1 => exact hj | 2 => exact hj | 3 => exact hj | j + 4 => cases hj)).ks Kp.ks (by decide)) rfl rfl rfl rfl rfl) rfl rfl rfl rfl ?_
  refine runO hC tabOk 60 ?_
  simp [go_sem]
  repeat ((first | refine condT rfl ?_ | refine condF rfl ?_ | refine skD hC rfl rfl rfl ?_); refine runO hC tabOk 60 ?_; simp [go_sem])
  refine callD hC [] (by kernel_rfl) rfl rfl rfl rfl rfl rfl rfl rfl fun m2 g2 p2 e2 => ⟨_, box131 x5 a.tk.key 7 h_5 h0.tk.key _ k_5.to koa.tk.key.to, fun v2 u2 q2 s2 hv2 => ?_⟩
  obtain ⟨hb, rfl, kb⟩ := hv2
  generalize boxS x5 a.tk.key 7 = bb at kb hS ⊢
  by_cases h1 : bb.2 = 0
  rotate_left
  · refine runO hC tabOk 60 ?_
    simp [go_sem, h1]
    repeat ((first | refine condT rfl ?_ | refine condF rfl ?_ | refine skD hC rfl rfl rfl ?_); refine runO hC tabOk 60 ?_; simp [go_sem, h1])
    try (refine runO hC tabOk 60 ?_; simp [go_sem, h1]; repeat ((first | refine condT rfl ?_ | refine condF rfl ?_ | refine skD hC rfl rfl rfl ?_); refine runO hC tabOk 60 ?_; simp [go_sem, h1]))
    refine ret hC tabOk (fun _ => 1) rfl rfl fun m gf hl ex => ?_
    rw [hS.trans (if_neg h1)]
    rfl
  replace hS := hS.trans (if_pos h1)
  refine runO hC tabOk 60 ?_
  simp [go_sem, h1]
  repeat ((first | refine condT rfl ?_ | refine condF rfl ?_ | refine skD hC rfl rfl rfl ?_); refine runO hC tabOk 60 ?_; simp [go_sem, h1])
  try (refine runO hC tabOk 60 ?_; simp [go_sem, h1]; repeat ((first | refine condT rfl ?_ | refine condF rfl ?_ | refine skD hC rfl rfl rfl ?_); refine runO hC tabOk 60 ?_; simp [go_sem, h1]))
  refine draw hC [(0, 0), (1, 0), (2, 0), (3, 0), (4, 0), (5, 0), (6, 0), (7, 0), (8, 0), (9, 0), (10, 0), (11, 0), (12, 0), (13, 0), (14, 0), (15, 0), (16, 0), (17, 0), (18, 0), (19, 0), (20, 0), (21, 0), (22, 0), (23, 1), (24, 0), (25, 0), (26, 0)] [] mix (by kernel_rfl) ?_
  by_cases h2 : bb.1.k = 3
  rotate_left
  · have d2 : decide (bb.1.k = 3) = false := by simp [h2]
    refine runO hC tabOk 60 ?_
    simp [go_sem, d2]
    repeat ((first | refine condT rfl ?_ | refine condF rfl ?_ | refine skD hC rfl rfl rfl ?_); refine runO hC tabOk 60 ?_; simp [go_sem, d2])
    try (refine runO hC tabOk 60 ?_; simp [go_sem, d2]; repeat ((first | refine condT rfl ?_ | refine condF rfl ?_ | refine skD hC rfl rfl rfl ?_); refine runO hC tabOk 60 ?_; simp [go_sem, d2]))
    refine ret hC tabOk (fun _ => 1) rfl rfl fun m gf hl ex => ?_
    rw [hS.trans (if_neg (by intro q; exact h2 q.1))]
    rfl
  have d2 : decide (bb.1.k = 3) = true := by simp [h2]
  by_cases h3 : bb.1.s = .empty
  rotate_left
  · have d3 : decide (bb.1.s = .empty) = false := by simp [h3]
    refine runO hC tabOk 60 ?_
    simp [go_sem, d2, d3]
    repeat ((first | refine condT rfl ?_ | refine condF rfl ?_ | refine skD hC rfl rfl rfl ?_); refine runO hC tabOk 60 ?_; simp [go_sem, d2, d3])
    try (refine runO hC tabOk 60 ?_; simp [go_sem, d2, d3]; repeat ((first | refine condT rfl ?_ | refine condF rfl ?_ | refine skD hC rfl rfl rfl ?_); refine runO hC tabOk 60 ?_; simp [go_sem, d2, d3]))
    refine ret hC tabOk (fun _ => 1) rfl rfl fun m gf hl ex => ?_
    rw [hS.trans (if_neg (by intro q; exact h3 q.2.1))]
    rfl
  have d3 : decide (bb.1.s = .empty) = true := by simp [h3]
  by_cases h4 : bb.1.n = 0
  rotate_left
  · have d4 : decide (bb.1.n = 0) = false := by simp [h4]
    refine runO hC tabOk 60 ?_
    simp [go_sem, d2, d3, d4]
    repeat ((first | refine condT rfl ?_ | refine condF rfl ?_ | refine skD hC rfl rfl rfl ?_); refine runO hC tabOk 60 ?_; simp [go_sem, d2, d3, d4])
    try (refine runO hC tabOk 60 ?_; simp [go_sem, d2, d3, d4]; repeat ((first | refine condT rfl ?_ | refine condF rfl ?_ | refine skD hC rfl rfl rfl ?_); refine runO hC tabOk 60 ?_; simp [go_sem, d2, d3, d4]))
    refine ret hC tabOk (fun _ => 1) rfl rfl fun m gf hl ex => ?_
    rw [hS.trans (if_neg (by intro q; exact h4 q.2.2.1))]
    rfl
  have d4 : decide (bb.1.n = 0) = true := by simp [h4]
  rcases five_or bb.1.l with ⟨y0, y1, y2, y3, y4, el⟩ | h5
  rotate_left
  · have d5 : decide ((bb.1.l.length : Int) = 5) = false := by simp; omega
    refine runO hC tabOk 60 ?_
    simp [go_sem, d2, d3, d4, d5]
    repeat ((first | refine condT rfl ?_ | refine condF rfl ?_ | refine skD hC rfl rfl rfl ?_); refine runO hC tabOk 60 ?_; simp [go_sem, d2, d3, d4, d5])
    try (refine runO hC tabOk 60 ?_; simp [go_sem, d2, d3, d4, d5]; repeat ((first | refine condT rfl ?_ | refine condF rfl ?_ | refine skD hC rfl rfl rfl ?_); refine runO hC tabOk 60 ?_; simp [go_sem, d2, d3, d4, d5]))
    refine ret hC tabOk (fun _ => 1) rfl rfl fun m gf hl ex => ?_
    rw [hS.trans (if_neg (by intro q; exact h5 q.2.2.2.1))]
    rfl
  have d5 : decide ((bb.1.l.length : Int) = 5) = true := by rw [el]; rfl
  have hlen : bb.1.l.length = 5 := by rw [el]; rfl
  refine runO hC tabOk 60 ?_
  simp [go_sem, d2, d3, d4, d5]
  repeat ((first | refine condT rfl ?_ | refine condF rfl ?_ | refine skD hC rfl rfl rfl ?_); refine runO hC tabOk 60 ?_; simp [go_sem, d2, d3, d4, d5])
  try (refine runO hC tabOk 60 ?_; simp [go_sem, d2, d3, d4, d5]; repeat ((first | refine condT rfl ?_ | refine condF rfl ?_ | refine skD hC rfl rfl rfl ?_); refine runO hC tabOk 60 ?_; simp [go_sem, d2, d3, d4, d5]))
  refine voD hC rfl (vo_slarr hC tabOk rfl rfl Tryz.underlying300 rfl) rfl rfl rfl rfl ?_
  refine runO hC tabOk 60 ?_
  simp [go_sem]
  repeat ((first | refine condT rfl ?_ | refine condF rfl ?_ | refine skD hC rfl rfl rfl ?_); refine runO hC tabOk 60 ?_; simp [go_sem])
  refine callD hC [] (by kernel_rfl) rfl rfl rfl rfl rfl rfl rfl rfl fun m3 g3 p3 e3 => ⟨_, plain232 bb.1.l hb 51 (by decide) [0, 1, 1, 0, 0] ⟨some ⟨b3, 0, none⟩, 5⟩ _ kb.to.lst (kks.ks Kp.ks (by decide)) (by rw [hlen]; decide), fun v3 u3 q3 s3 hv3 => ?_⟩
  subst hv3
  cases h6 : plainL bb.1.l [0, 1, 1, 0, 0] with
  | false =>
    refine runO hC tabOk 60 ?_
    simp [go_sem]
    repeat ((first | refine condT rfl ?_ | refine condF rfl ?_ | refine skD hC rfl rfl rfl ?_); refine runO hC tabOk 60 ?_; simp [go_sem])
    refine ret hC tabOk (fun _ => 1) rfl rfl fun m gf hl ex => ?_
    rw [hS.trans (if_neg (by intro q; rw [h6] at q; exact absurd q.2.2.2.2 (by decide)))]
    rfl
  | true =>
  replace hS := hS.trans (if_pos ⟨h2, h3, h4, hlen, h6⟩)
  replace hS : oshS a now x5 = if y0.s = a.tk.cl ∧ y3.s = a.kind ∧ y4.s = a.target then (if y2.n = a.nonce then (if tOk y1.n && tOk now && tOk 300 && decide (y1.n - now ≤ 300) && decide (now - y1.n ≤ 300) then 0 else 30) else 70) else 51 := by rw [hS, el]; rfl
  obtain ⟨b9, off9, h_0, eb, hcs_0, k_0⟩ := kb.lst.get (i := 0) (t := y0) (by rw [el]; rfl)
  obtain ⟨b9', off9', h_1, eb1, hcs_1, k_1⟩ := kb.lst.get (i := 1) (t := y1) (by rw [el]; rfl)
  rw [eb] at eb1
  obtain ⟨rfl, rfl, _⟩ := Addr.mk.inj (Option.some.inj eb1)
  obtain ⟨b9', off9', h_2, eb1, hcs_2, k_2⟩ := kb.lst.get (i := 2) (t := y2) (by rw [el]; rfl)
  rw [eb] at eb1
  obtain ⟨rfl, rfl, _⟩ := Addr.mk.inj (Option.some.inj eb1)
  obtain ⟨b9', off9', h_3, eb1, hcs_3, k_3⟩ := kb.lst.get (i := 3) (t := y3) (by rw [el]; rfl)
  rw [eb] at eb1
  obtain ⟨rfl, rfl, _⟩ := Addr.mk.inj (Option.some.inj eb1)
  obtain ⟨b9', off9', h_4, eb1, hcs_4, k_4⟩ := kb.lst.get (i := 4) (t := y4) (by rw [el]; rfl)
  rw [eb] at eb1
  obtain ⟨rfl, rfl, _⟩ := Addr.mk.inj (Option.some.inj eb1)
  refine runO hC tabOk 60 ?_
  simp [go_sem, eb]
  repeat ((first | refine condT rfl ?_ | refine condF rfl ?_ | refine skD hC rfl rfl rfl ?_); refine runO hC tabOk 60 ?_; simp [go_sem, eb])
  try (refine runO hC tabOk 60 ?_; simp [go_sem, eb]; repeat ((first | refine condT rfl ?_ | refine condF rfl ?_ | refine skD hC rfl rfl rfl ?_); refine runO hC tabOk 60 ?_; simp [go_sem, eb]))
  refine small (fun _ => 1) rfl fun m7 g7 p7 e7 => ⟨⟨[(4, .c (.bp 0 0)), (0, .c (.v (ptr bo)))], [], [(0, ⟨25, [.v (.int .i64 bb.1.k), .v (.string bb.1.s), .v (.int .i64 bb.1.n), .v (.slice (some ⟨b9, off9, none⟩) bb.1.l.length hb.cap)], false⟩)], [], 1⟩, ⟨by simp [go_sem], by simp [go_sem], rfl, bxs_ok (n := 1) (Nat.le_refl _) (by simp [go_sem]), by simp [go_sem], ⟨_, rfl⟩⟩, by simp, ?_⟩
  refine draw hC [(0, 0), (1, 0), (2, 0), (3, 0), (4, 0), (5, 0), (6, 0), (7, 0), (8, 0), (9, 0), (10, 0), (11, 0), (12, 0), (13, 0), (14, 0), (15, 0), (16, 0), (17, 0), (18, 0), (19, 0), (20, 0), (21, 0), (22, 0), (23, 0), (24, 0), (25, 0), (26, 0), (27, 0), (28, 0), (29, 0), (30, 0), (31, 0), (32, 0), (33, 0), (34, 0), (35, 0), (36, 0), (37, 0), (38, 0)] [] mix (by kernel_rfl) ?_
  refine runO hC tabOk 60 ?_
  simp [go_sem, eb]
  repeat ((first | refine condT rfl ?_ | refine condF rfl ?_ | refine skD hC rfl rfl rfl ?_); refine runO hC tabOk 60 ?_; simp [go_sem, eb])
  try (refine runO hC tabOk 60 ?_; simp [go_sem, eb]; repeat ((first | refine condT rfl ?_ | refine condF rfl ?_ | refine skD hC rfl rfl rfl ?_); refine runO hC tabOk 60 ?_; simp [go_sem, eb]))
  refine voD hC rfl (vo_index hC tabOk rfl rfl rfl rfl rfl rfl (by omega) (by omega)) rfl rfl rfl rfl ?_
  refine runO hC tabOk 60 ?_
  simp [go_sem]
  repeat ((first | refine condT rfl ?_ | refine condF rfl ?_ | refine skD hC rfl rfl rfl ?_); refine runO hC tabOk 60 ?_; simp [go_sem])
  refine voD hC rfl (vo_load1 hC tabOk ((hcs_0.one 1 rfl).to) rfl rfl rfl rfl) rfl rfl rfl rfl ?_
  refine runO hC tabOk 60 ?_
  simp [go_sem]
  repeat ((first | refine condT rfl ?_ | refine condF rfl ?_ | refine skD hC rfl rfl rfl ?_); refine runO hC tabOk 60 ?_; simp [go_sem])
  refine voD hC rfl (vo_load1 hC tabOk ((ob1 ko 13 rfl).ks Kp.ks (by decide)) rfl rfl rfl rfl) rfl rfl rfl rfl ?_
  by_cases h7 : y0.s = a.tk.cl
  rotate_left
  · have d7 : decide (y0.s = a.tk.cl) = false := by simp [h7]
    refine runO hC tabOk 60 ?_
    simp [go_sem, d7]
    repeat ((first | refine condT rfl ?_ | refine condF rfl ?_ | refine skD hC rfl rfl rfl ?_); refine runO hC tabOk 60 ?_; simp [go_sem, d7])
    try (refine runO hC tabOk 60 ?_; simp [go_sem, d7]; repeat ((first | refine condT rfl ?_ | refine condF rfl ?_ | refine skD hC rfl rfl rfl ?_); refine runO hC tabOk 60 ?_; simp [go_sem, d7]))
    refine ret hC tabOk (fun _ => 1) rfl rfl fun m gf hl ex => ?_
    rw [hS.trans (if_neg (by intro q; exact h7 q.1))]
    rfl
  have d7 : decide (y0.s = a.tk.cl) = true := by simp [h7]
  refine runO hC tabOk 60 ?_
  simp [go_sem, d7, eb]
  repeat ((first | refine condT rfl ?_ | refine condF rfl ?_ | refine skD hC rfl rfl rfl ?_); refine runO hC tabOk 60 ?_; simp [go_sem, d7, eb])
  try (refine runO hC tabOk 60 ?_; simp [go_sem, d7, eb]; repeat ((first | refine condT rfl ?_ | refine condF rfl ?_ | refine skD hC rfl rfl rfl ?_); refine runO hC tabOk 60 ?_; simp [go_sem, d7, eb]))
  refine voD hC rfl (vo_index hC tabOk rfl rfl rfl rfl rfl rfl (by omega) (by omega)) rfl rfl rfl rfl ?_
  refine runO hC tabOk 60 ?_
  simp [go_sem]
  repeat ((first | refine condT rfl ?_ | refine condF rfl ?_ | refine skD hC rfl rfl rfl ?_); refine runO hC tabOk 60 ?_; simp [go_sem])
  refine voD hC rfl (vo_load1 hC tabOk ((hcs_3.one 1 rfl).to) rfl rfl rfl rfl) rfl rfl rfl rfl ?_
  refine runO hC tabOk 60 ?_
  simp [go_sem]
  repeat ((first | refine condT rfl ?_ | refine condF rfl ?_ | refine skD hC rfl rfl rfl ?_); refine runO hC tabOk 60 ?_; simp [go_sem])
  refine voD hC rfl (vo_load1 hC tabOk ((ob1 ko 0 rfl).ks Kp.ks (by decide)) rfl rfl rfl rfl) rfl rfl rfl rfl ?_
  by_cases h8 : y3.s = a.kind
  rotate_left
  · have d8 : decide (y3.s = a.kind) = false := by simp [h8]
    refine runO hC tabOk 60 ?_
    simp [go_sem, d8]
    repeat ((first | refine condT rfl ?_ | refine condF rfl ?_ | refine skD hC rfl rfl rfl ?_); refine runO hC tabOk 60 ?_; simp [go_sem, d8])
    try (refine runO hC tabOk 60 ?_; simp [go_sem, d8]; repeat ((first | refine condT rfl ?_ | refine condF rfl ?_ | refine skD hC rfl rfl rfl ?_); refine runO hC tabOk 60 ?_; simp [go_sem, d8]))
    refine ret hC tabOk (fun _ => 1) rfl rfl fun m gf hl ex => ?_
    rw [hS.trans (if_neg (by intro q; exact h8 q.2.1))]
    rfl
  have d8 : decide (y3.s = a.kind) = true := by simp [h8]
  refine runO hC tabOk 60 ?_
  simp [go_sem, d8, eb]
  repeat ((first | refine condT rfl ?_ | refine condF rfl ?_ | refine skD hC rfl rfl rfl ?_); refine runO hC tabOk 60 ?_; simp [go_sem, d8, eb])
  try (refine runO hC tabOk 60 ?_; simp [go_sem, d8, eb]; repeat ((first | refine condT rfl ?_ | refine condF rfl ?_ | refine skD hC rfl rfl rfl ?_); refine runO hC tabOk 60 ?_; simp [go_sem, d8, eb]))
  refine voD hC rfl (vo_index hC tabOk rfl rfl rfl rfl rfl rfl (by omega) (by omega)) rfl rfl rfl rfl ?_
  refine runO hC tabOk 60 ?_
  simp [go_sem]
  repeat ((first | refine condT rfl ?_ | refine condF rfl ?_ | refine skD hC rfl rfl rfl ?_); refine runO hC tabOk 60 ?_; simp [go_sem])
  refine voD hC rfl (vo_load1 hC tabOk ((hcs_4.one 1 rfl).to) rfl rfl rfl rfl) rfl rfl rfl rfl ?_
  refine runO hC tabOk 60 ?_
  simp [go_sem]
  repeat ((first | refine condT rfl ?_ | refine condF rfl ?_ | refine skD hC rfl rfl rfl ?_); refine runO hC tabOk 60 ?_; simp [go_sem])
  refine voD hC rfl (vo_load1 hC tabOk ((ob1 ko 1 rfl).ks Kp.ks (by decide)) rfl rfl rfl rfl) rfl rfl rfl rfl ?_
  by_cases h9 : y4.s = a.target
  rotate_left
  · have d9 : decide (y4.s = a.target) = false := by simp [h9]
    refine runO hC tabOk 60 ?_
    simp [go_sem, d9]
    repeat ((first | refine condT rfl ?_ | refine condF rfl ?_ | refine skD hC rfl rfl rfl ?_); refine runO hC tabOk 60 ?_; simp [go_sem, d9])
    try (refine runO hC tabOk 60 ?_; simp [go_sem, d9]; repeat ((first | refine condT rfl ?_ | refine condF rfl ?_ | refine skD hC rfl rfl rfl ?_); refine runO hC tabOk 60 ?_; simp [go_sem, d9]))
    refine ret hC tabOk (fun _ => 1) rfl rfl fun m gf hl ex => ?_
    rw [hS.trans (if_neg (by intro q; exact h9 q.2.2))]
    rfl
  have d9 : decide (y4.s = a.target) = true := by simp [h9]
  replace hS := hS.trans (if_pos ⟨h7, h8, h9⟩)
  refine runO hC tabOk 60 ?_
  simp [go_sem, d9]
  repeat ((first | refine condT rfl ?_ | refine condF rfl ?_ | refine skD hC rfl rfl rfl ?_); refine runO hC tabOk 60 ?_; simp [go_sem, d9])
  try (refine runO hC tabOk 60 ?_; simp [go_sem, d9]; repeat ((first | refine condT rfl ?_ | refine condF rfl ?_ | refine skD hC rfl rfl rfl ?_); refine runO hC tabOk 60 ?_; simp [go_sem, d9]))
  refine draw hC [(0, 0), (1, 0), (2, 0), (3, 0), (4, 0), (5, 0), (6, 0), (7, 0), (8, 0), (9, 0), (10, 0), (11, 0)] [] mix (by kernel_rfl) ?_
  refine runO hC tabOk 60 ?_
  simp [go_sem, eb]
  repeat ((first | refine condT rfl ?_ | refine condF rfl ?_ | refine skD hC rfl rfl rfl ?_); refine runO hC tabOk 60 ?_; simp [go_sem, eb])
  try (refine runO hC tabOk 60 ?_; simp [go_sem, eb]; repeat ((first | refine condT rfl ?_ | refine condF rfl ?_ | refine skD hC rfl rfl rfl ?_); refine runO hC tabOk 60 ?_; simp [go_sem, eb]))
  refine voD hC rfl (vo_index hC tabOk rfl rfl rfl rfl rfl rfl (by omega) (by omega)) rfl rfl rfl rfl ?_
  refine runO hC tabOk 60 ?_
  simp [go_sem]
  repeat ((first | refine condT rfl ?_ | refine condF rfl ?_ | refine skD hC rfl rfl rfl ?_); refine runO hC tabOk 60 ?_; simp [go_sem])
  refine voD hC rfl (vo_load1 hC tabOk ((hcs_2.one 2 rfl).to) rfl rfl rfl rfl) rfl rfl rfl rfl ?_
  refine runO hC tabOk 60 ?_
  simp [go_sem]
  repeat ((first | refine condT rfl ?_ | refine condF rfl ?_ | refine skD hC rfl rfl rfl ?_); refine runO hC tabOk 60 ?_; simp [go_sem])
  refine voD hC rfl (vo_load1 hC tabOk ((ob1 ko 2 rfl).ks Kp.ks (by decide)) rfl rfl rfl rfl) rfl rfl rfl rfl ?_
  by_cases h10 : y2.n = a.nonce
  rotate_left
  · have d10 : decide (y2.n = a.nonce) = false := by simp [h10]
    refine runO hC tabOk 60 ?_
    simp [go_sem, d10]
    repeat ((first | refine condT rfl ?_ | refine condF rfl ?_ | refine skD hC rfl rfl rfl ?_); refine runO hC tabOk 60 ?_; simp [go_sem, d10])
    try (refine runO hC tabOk 60 ?_; simp [go_sem, d10]; repeat ((first | refine condT rfl ?_ | refine condF rfl ?_ | refine skD hC rfl rfl rfl ?_); refine runO hC tabOk 60 ?_; simp [go_sem, d10]))
    refine ret hC tabOk (fun _ => 1) rfl rfl fun m gf hl ex => ?_
    rw [hS.trans (if_neg h10)]
    rfl
  have d10 : decide (y2.n = a.nonce) = true := by simp [h10]
  replace hS := hS.trans (if_pos h10)
  refine runO hC tabOk 60 ?_
  simp [go_sem, d10]
  repeat ((first | refine condT rfl ?_ | refine condF rfl ?_ | refine skD hC rfl rfl rfl ?_); refine runO hC tabOk 60 ?_; simp [go_sem, d10])
  try (refine runO hC tabOk 60 ?_; simp [go_sem, d10]; repeat ((first | refine condT rfl ?_ | refine condF rfl ?_ | refine skD hC rfl rfl rfl ?_); refine runO hC tabOk 60 ?_; simp [go_sem, d10]))
  refine draw hC [(0, 0), (1, 0), (2, 0), (3, 0), (4, 0), (5, 0), (6, 0), (7, 0), (8, 0), (9, 1), (10, 0), (11, 0)] [] mix (by kernel_rfl) ?_
  refine runO hC tabOk 60 ?_
  simp [go_sem, eb]
  repeat ((first | refine condT rfl ?_ | refine condF rfl ?_ | refine skD hC rfl rfl rfl ?_); refine runO hC tabOk 60 ?_; simp [go_sem, eb])
  try (refine runO hC tabOk 60 ?_; simp [go_sem, eb]; repeat ((first | refine condT rfl ?_ | refine condF rfl ?_ | refine skD hC rfl rfl rfl ?_); refine runO hC tabOk 60 ?_; simp [go_sem, eb]))
  refine voD hC rfl (vo_index hC tabOk rfl rfl rfl rfl rfl rfl (by omega) (by omega)) rfl rfl rfl rfl ?_
  refine runO hC tabOk 60 ?_
  simp [go_sem]
  repeat ((first | refine condT rfl ?_ | refine condF rfl ?_ | refine skD hC rfl rfl rfl ?_); refine runO hC tabOk 60 ?_; simp [go_sem])
  refine voD hC rfl (vo_load1 hC tabOk ((hcs_1.one 2 rfl).to) rfl rfl rfl rfl) rfl rfl rfl rfl ?_
  refine runO hC tabOk 60 ?_
  simp [go_sem]
  repeat ((first | refine condT rfl ?_ | refine condF rfl ?_ | refine skD hC rfl rfl rfl ?_); refine runO hC tabOk 60 ?_; simp [go_sem])
  refine voD hC rfl (vo_load1 hC tabOk ((ob1 ko 30 rfl).ks Kp.ks (by decide)) rfl rfl rfl rfl) rfl rfl rfl rfl ?_
  refine runO hC tabOk 60 ?_
  simp [go_sem]
  repeat ((first | refine condT rfl ?_ | refine condF rfl ?_ | refine skD hC rfl rfl rfl ?_); refine runO hC tabOk 60 ?_; simp [go_sem])
  refine callD hC [] (by kernel_rfl) rfl rfl rfl rfl rfl rfl rfl rfl fun m4 g4 p4 e4 => ⟨_, near226 y1.n now 300 _, fun v4 u4 q4 s4 hv4 => ?_⟩
  subst hv4
  cases h11 : (tOk y1.n && tOk now && tOk 300 && decide (y1.n - now ≤ 300) && decide (now - y1.n ≤ 300)) with
  | false =>
    refine runO hC tabOk 60 ?_
    simp [go_sem]
    repeat ((first | refine condT rfl ?_ | refine condF rfl ?_ | refine skD hC rfl rfl rfl ?_); refine runO hC tabOk 60 ?_; simp [go_sem])
    refine ret hC tabOk (fun _ => 1) rfl rfl fun m gf hl ex => ?_
    rw [hS.trans (if_neg (by rw [h11]; decide))]
    rfl
  | true =>
    refine runO hC tabOk 60 ?_
    simp [go_sem]
    repeat ((first | refine condT rfl ?_ | refine condF rfl ?_ | refine skD hC rfl rfl rfl ?_); refine runO hC tabOk 60 ?_; simp [go_sem])
    refine ret hC tabOk (fun _ => 1) rfl rfl fun m gf hl ex => ?_
    rw [hS.trans (if_pos h11)]
    rfl
end Go.Proofs.YtobhfopgoidniaaGreat
