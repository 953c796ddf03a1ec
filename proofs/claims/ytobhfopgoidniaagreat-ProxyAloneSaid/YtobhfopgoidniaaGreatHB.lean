/- Containers, verified; tickets. Tickets: read. Tickets: opened. -/
import Derived.Test.YtobhfopgoidniaaGreatHA
import Derived.Test.YtobhfopgoidniaaGreatED
set_option linter.all false
set_option linter.unusedVariables false
set_option linter.unusedSimpArgs false

/- Containers, verified; tickets. -/
namespace Go.Proofs.YtobhfopgoidniaaGreat
open Go Go.Eng

/-- What a container tells, if the server's sum is right. -/
def serverS (t server : T) : Au × Int := if (readM t).2 = 0 then (match t.l with | [d, s, _] => if summedS s server 18 d then readM t else (Au0, 62) | _ => (Au0, 62)) else readM t

theorem readM_or (t : T) : (readM t).2 = 0 ∧ (∃ d s c, t.l = [d, s, c]) ∨ readM t = (Au0, 50) := by
  unfold readM
  split
  · rename_i h
    split
    · exact .inr rfl
    · refine .inl ⟨rfl, ?_⟩
      match hl : t.l, h.2.1 with
      | [d, s, c], _ => exact ⟨d, s, c, rfl⟩
  · exact .inr rfl

theorem server152 (t server : T) (h hs : Hd) (g : G) (kt : TOk g t h) (ks : TOk g server hs) (hsz : tw t ≤ 2513169434843) : Ok Tryz.prog 152 [tv t h, tv server hs] g [61, 62, 63] (fun v g' => AE (serverS t server) v g') := by
  refine fbegin Tryz.func152 rfl Tryz.ntmps152 (Nat.le_of_ble_eq_true rfl) fun C hw hC => ?_
  refine runO hC tabOk 60 ?_
  simp [go_sem]
  repeat ((first | refine condT rfl ?_ | refine condF rfl ?_ | refine skD hC rfl rfl rfl ?_); refine runO hC tabOk 60 ?_; simp [go_sem])
  refine call hC [61,62,63] (by kernel_rfl) rfl rfl rfl rfl rfl fun m1 g1 p1 e1 => ⟨_, read231 t h _ kt.to hsz, fun v1 u1 q1 s1 hv1 => ?_⟩
  obtain ⟨ha, rfl, ka⟩ := hv1
  rcases readM_or t with ⟨e0, d, s, c, el⟩ | e0
  · obtain ⟨b, off, hd, ea, hcs, kd⟩ := kt.lst.get (i := 0) (t := d) (by rw [el]; rfl)
    obtain ⟨b2, off2, hs2, ea2, hcs2, ks2⟩ := kt.lst.get (i := 1) (t := s) (by rw [el]; rfl)
    rw [ea] at ea2
    obtain ⟨rfl, rfl, _⟩ := Addr.mk.inj (Option.some.inj ea2)
    refine runO hC tabOk 60 ?_
    simp [go_sem, e0, el, ea]
    repeat ((first | refine condT rfl ?_ | refine condF rfl ?_ | refine skD hC rfl rfl rfl ?_); refine runO hC tabOk 60 ?_; simp [go_sem, e0, el, ea])
    try (refine runO hC tabOk 60 ?_; simp [go_sem, e0, el, ea]; repeat ((first | refine condT rfl ?_ | refine condF rfl ?_ | refine skD hC rfl rfl rfl ?_); refine runO hC tabOk 60 ?_; simp [go_sem, e0, el, ea]))
    refine draw hC [(0, 0), (1, 0), (2, 0), (3, 0), (4, 0), (5, 0), (6, 0), (7, 0), (8, 0), (9, 1), (10, 0), (11, 0)] [] mix (by kernel_rfl) ?_
    refine runO hC tabOk 60 ?_
    simp [go_sem, el, ea]
    repeat ((first | refine condT rfl ?_ | refine condF rfl ?_ | refine skD hC rfl rfl rfl ?_); refine runO hC tabOk 60 ?_; simp [go_sem, el, ea])
    try (refine runO hC tabOk 60 ?_; simp [go_sem, el, ea]; repeat ((first | refine condT rfl ?_ | refine condF rfl ?_ | refine skD hC rfl rfl rfl ?_); refine runO hC tabOk 60 ?_; simp [go_sem, el, ea]))
    refine voD hC rfl (vo_index hC tabOk rfl rfl rfl rfl rfl rfl (by omega) (by omega)) rfl rfl rfl rfl ?_
    refine runO hC tabOk 60 ?_
    simp [go_sem]
    repeat ((first | refine condT rfl ?_ | refine condF rfl ?_ | refine skD hC rfl rfl rfl ?_); refine runO hC tabOk 60 ?_; simp [go_sem])
    refine voD hC rfl (vo_load hC tabOk hcs2.to rfl rfl rfl rfl rfl) rfl rfl rfl rfl ?_
    refine runO hC tabOk 60 ?_
    simp [go_sem]
    repeat ((first | refine condT rfl ?_ | refine condF rfl ?_ | refine skD hC rfl rfl rfl ?_); refine runO hC tabOk 60 ?_; simp [go_sem])
    refine voD hC rfl (vo_index hC tabOk rfl rfl rfl rfl rfl rfl (by omega) (by omega)) rfl rfl rfl rfl ?_
    refine runO hC tabOk 60 ?_
    simp [go_sem]
    repeat ((first | refine condT rfl ?_ | refine condF rfl ?_ | refine skD hC rfl rfl rfl ?_); refine runO hC tabOk 60 ?_; simp [go_sem])
    refine voD hC rfl (vo_load hC tabOk hcs.to rfl rfl rfl rfl rfl) rfl rfl rfl rfl ?_
    refine runO hC tabOk 60 ?_
    simp [go_sem]
    repeat ((first | refine condT rfl ?_ | refine condF rfl ?_ | refine skD hC rfl rfl rfl ?_); refine runO hC tabOk 60 ?_; simp [go_sem])
    refine callD hC [] (by kernel_rfl) rfl rfl rfl rfl rfl rfl rfl rfl fun m3 g3 p3 e3 => ⟨_, summed153 s server d 18 hs2 hs hd _ ks2.to ks.to kd.to, fun v3 u3 q3 s3 hv3 => ?_⟩
    subst hv3
    cases h6 : summedS s server 18 d with
    | true =>
      refine runO hC tabOk 60 ?_
      simp [go_sem]
      repeat ((first | refine condT rfl ?_ | refine condF rfl ?_ | refine skD hC rfl rfl rfl ?_); refine runO hC tabOk 60 ?_; simp [go_sem])
      refine ret hC tabOk (fun _ => 1) rfl rfl fun m gf hl ex => ?_
      have : serverS t server = readM t := by simp [serverS, e0, el, h6]
      rw [this]
      exact ⟨ha, by rw [e0]; rfl, ka.to⟩
    | false =>
      refine runO hC tabOk 60 ?_
      simp [go_sem]
      repeat ((first | refine condT rfl ?_ | refine condF rfl ?_ | refine skD hC rfl rfl rfl ?_); refine runO hC tabOk 60 ?_; simp [go_sem])
      refine ret hC tabOk (fun _ => 1) rfl rfl fun m gf hl ex => ?_
      have : serverS t server = (Au0, 62) := by simp [serverS, e0, el, h6]
      rw [this]
      exact ⟨⟨⟨none, 0⟩, ⟨none, 0⟩⟩, rfl, Au0_ok _⟩
  · refine runO hC tabOk 60 ?_
    simp [go_sem, e0]
    repeat ((first | refine condT rfl ?_ | refine condF rfl ?_ | refine skD hC rfl rfl rfl ?_); refine runO hC tabOk 60 ?_; simp [go_sem, e0])
    try (refine runO hC tabOk 60 ?_; simp [go_sem, e0]; repeat ((first | refine condT rfl ?_ | refine condF rfl ?_ | refine skD hC rfl rfl rfl ?_); refine runO hC tabOk 60 ?_; simp [go_sem, e0]))
    refine ret hC tabOk (fun _ => 1) rfl rfl fun m gf hl ex => ?_
    have : serverS t server = (Au0, 50) := by simp [serverS, e0]
    rw [this]
    exact ⟨⟨⟨none, 0⟩, ⟨none, 0⟩⟩, rfl, Au0_ok _⟩

theorem server_or (t server : T) : (serverS t server).2 = 0 ∧ (∃ d s c, t.l = [d, s, c]) ∨ ∃ e, e ≠ 0 ∧ serverS t server = (Au0, e) := by
  rcases readM_or t with ⟨e0, d, s, c, el⟩ | e0
  · unfold serverS
    rw [if_pos e0, el]
    dsimp only
    split
    · exact .inl ⟨e0, d, s, c, rfl⟩
    · exact .inr ⟨62, by decide, rfl⟩
  · exact .inr ⟨50, by decide, by simp [serverS, e0]⟩

/-- What a container tells, if both sums are right. -/
def verifyS (t server centre : T) : Au × Int := if (serverS t server).2 = 0 then (match t.l with | [_, s, c] => if summedS c centre 19 s then serverS t server else (Au0, 62) | _ => (Au0, 62)) else serverS t server

theorem verify54 (t server centre : T) (h hs hc : Hd) (g : G) (kt : TOk g t h) (ks : TOk g server hs) (kc : TOk g centre hc) (hsz : tw t ≤ 2513169434843) : Ok Tryz.prog 54 [tv t h, tv server hs, tv centre hc] g [61, 62, 63] (fun v g' => AE (verifyS t server centre) v g') := by
  refine fbegin Tryz.func54 rfl Tryz.ntmps54 (Nat.le_of_ble_eq_true rfl) fun C hw hC => ?_
  refine runO hC tabOk 60 ?_
  simp [go_sem]
  repeat ((first | refine condT rfl ?_ | refine condF rfl ?_ | refine skD hC rfl rfl rfl ?_); refine runO hC tabOk 60 ?_; simp [go_sem])
  refine call hC [61,62,63] (by kernel_rfl) rfl rfl rfl rfl rfl fun m1 g1 p1 e1 => ⟨_, server152 t server h hs _ kt.to ks.to hsz, fun v1 u1 q1 s1 hv1 => ?_⟩
  obtain ⟨ha, rfl, ka⟩ := hv1
  rcases server_or t server with ⟨e0, d, s, c, el⟩ | ⟨e, he, e0⟩
  · obtain ⟨b, off, hc2, ea, hcs, kc2⟩ := kt.lst.get (i := 2) (t := c) (by rw [el]; rfl)
    obtain ⟨b2, off2, hs2, ea2, hcs2, ks2⟩ := kt.lst.get (i := 1) (t := s) (by rw [el]; rfl)
    rw [ea] at ea2
    obtain ⟨rfl, rfl, _⟩ := Addr.mk.inj (Option.some.inj ea2)
    refine runO hC tabOk 60 ?_
    simp [go_sem, e0, el, ea]
    repeat ((first | refine condT rfl ?_ | refine condF rfl ?_ | refine skD hC rfl rfl rfl ?_); refine runO hC tabOk 60 ?_; simp [go_sem, e0, el, ea])
    try (refine runO hC tabOk 60 ?_; simp [go_sem, e0, el, ea]; repeat ((first | refine condT rfl ?_ | refine condF rfl ?_ | refine skD hC rfl rfl rfl ?_); refine runO hC tabOk 60 ?_; simp [go_sem, e0, el, ea]))
    refine draw hC [(0, 0), (1, 0), (2, 0), (3, 0), (4, 0), (5, 0), (6, 0), (7, 0), (8, 0), (9, 1), (10, 0), (11, 0)] [] mix (by kernel_rfl) ?_
    refine runO hC tabOk 60 ?_
    simp [go_sem, el, ea]
    repeat ((first | refine condT rfl ?_ | refine condF rfl ?_ | refine skD hC rfl rfl rfl ?_); refine runO hC tabOk 60 ?_; simp [go_sem, el, ea])
    try (refine runO hC tabOk 60 ?_; simp [go_sem, el, ea]; repeat ((first | refine condT rfl ?_ | refine condF rfl ?_ | refine skD hC rfl rfl rfl ?_); refine runO hC tabOk 60 ?_; simp [go_sem, el, ea]))
    refine voD hC rfl (vo_index hC tabOk rfl rfl rfl rfl rfl rfl (by omega) (by omega)) rfl rfl rfl rfl ?_
    refine runO hC tabOk 60 ?_
    simp [go_sem]
    repeat ((first | refine condT rfl ?_ | refine condF rfl ?_ | refine skD hC rfl rfl rfl ?_); refine runO hC tabOk 60 ?_; simp [go_sem])
    refine voD hC rfl (vo_load hC tabOk hcs.to rfl rfl rfl rfl rfl) rfl rfl rfl rfl ?_
    refine runO hC tabOk 60 ?_
    simp [go_sem]
    repeat ((first | refine condT rfl ?_ | refine condF rfl ?_ | refine skD hC rfl rfl rfl ?_); refine runO hC tabOk 60 ?_; simp [go_sem])
    refine voD hC rfl (vo_index hC tabOk rfl rfl rfl rfl rfl rfl (by omega) (by omega)) rfl rfl rfl rfl ?_
    refine runO hC tabOk 60 ?_
    simp [go_sem]
    repeat ((first | refine condT rfl ?_ | refine condF rfl ?_ | refine skD hC rfl rfl rfl ?_); refine runO hC tabOk 60 ?_; simp [go_sem])
    refine voD hC rfl (vo_load hC tabOk hcs2.to rfl rfl rfl rfl rfl) rfl rfl rfl rfl ?_
    refine runO hC tabOk 60 ?_
    simp [go_sem]
    repeat ((first | refine condT rfl ?_ | refine condF rfl ?_ | refine skD hC rfl rfl rfl ?_); refine runO hC tabOk 60 ?_; simp [go_sem])
    refine callD hC [] (by kernel_rfl) rfl rfl rfl rfl rfl rfl rfl rfl fun m3 g3 p3 e3 => ⟨_, summed153 c centre s 19 hc2 hc hs2 _ kc2.to kc.to ks2.to, fun v3 u3 q3 s3 hv3 => ?_⟩
    subst hv3
    cases h6 : summedS c centre 19 s with
    | true =>
      refine runO hC tabOk 60 ?_
      simp [go_sem]
      repeat ((first | refine condT rfl ?_ | refine condF rfl ?_ | refine skD hC rfl rfl rfl ?_); refine runO hC tabOk 60 ?_; simp [go_sem])
      refine ret hC tabOk (fun _ => 1) rfl rfl fun m gf hl ex => ?_
      have : verifyS t server centre = serverS t server := by simp [verifyS, e0, el, h6]
      rw [this]
      exact ⟨ha, by rw [e0]; rfl, ka.to⟩
    | false =>
      refine runO hC tabOk 60 ?_
      simp [go_sem]
      repeat ((first | refine condT rfl ?_ | refine condF rfl ?_ | refine skD hC rfl rfl rfl ?_); refine runO hC tabOk 60 ?_; simp [go_sem])
      refine ret hC tabOk (fun _ => 1) rfl rfl fun m gf hl ex => ?_
      have : verifyS t server centre = (Au0, 62) := by simp [verifyS, e0, el, h6]
      rw [this]
      exact ⟨⟨⟨none, 0⟩, ⟨none, 0⟩⟩, rfl, Au0_ok _⟩
  · refine runO hC tabOk 60 ?_
    simp [go_sem, e0, he]
    repeat ((first | refine condT rfl ?_ | refine condF rfl ?_ | refine skD hC rfl rfl rfl ?_); refine runO hC tabOk 60 ?_; simp [go_sem, e0, he])
    try (refine runO hC tabOk 60 ?_; simp [go_sem, e0, he]; repeat ((first | refine condT rfl ?_ | refine condF rfl ?_ | refine skD hC rfl rfl rfl ?_); refine runO hC tabOk 60 ?_; simp [go_sem, e0, he]))
    refine ret hC tabOk (fun _ => 1) rfl rfl fun m gf hl ex => ?_
    have : verifyS t server centre = (Au0, e) := by simp [verifyS, e0, he]
    rw [this]
    exact ⟨⟨⟨none, 0⟩, ⟨none, 0⟩⟩, rfl, Au0_ok _⟩

/-- May a ticket be? -/
def tktOk (k : Tkt) : Bool := nameS k.svc && nameS k.cl && decide (0 ≤ k.fl) && decide (k.fl ≤ 15) && decide ((readM k.auth).2 = 0) && decide (k.key.k = 2) && validT 0 k.key && sOk k.fr k.till

theorem tvalid230 (k : Tkt) (h : TktH) (g : G) (kk : TktOk g k h) (hsz : tw k.auth ≤ 2513169434843) : Ok Tryz.prog 230 [tkv k h] g [61, 62, 63] (fun v _ => v = .bool (tktOk k)) := by
  refine fbegin Tryz.func230 rfl Tryz.ntmps230 (Nat.le_of_ble_eq_true rfl) fun C hw hC => ?_
  refine runO hC tabOk 60 ?_
  simp [go_sem]
  repeat ((first | refine condT rfl ?_ | refine condF rfl ?_ | refine skD hC rfl rfl rfl ?_); refine runO hC tabOk 60 ?_; simp [go_sem])
  refine call hC [] (by kernel_rfl) rfl rfl rfl rfl rfl fun m1 g1 p1 e1 => ⟨_, name36 k.svc _ kk.sv, fun v1 u1 q1 s1 hv1 => ?_⟩
  subst hv1
  cases h1 : nameS k.svc with
  | false =>
    refine runO hC tabOk 60 ?_
    simp [go_sem]
    repeat ((first | refine condT rfl ?_ | refine condF rfl ?_ | refine skD hC rfl rfl rfl ?_); refine runO hC tabOk 60 ?_; simp [go_sem])
    refine ret hC tabOk (fun _ => 1) rfl rfl fun m gf hl ex => ?_
    simp [retv, SV.val, SC.val, vals, tktOk, h1]
  | true =>
  refine runO hC tabOk 60 ?_
  simp [go_sem]
  repeat ((first | refine condT rfl ?_ | refine condF rfl ?_ | refine skD hC rfl rfl rfl ?_); refine runO hC tabOk 60 ?_; simp [go_sem])
  refine call hC [] (by kernel_rfl) rfl rfl rfl rfl rfl fun m2 g2 p2 e2 => ⟨_, name36 k.cl _ kk.cl, fun v2 u2 q2 s2 hv2 => ?_⟩
  subst hv2
  cases h2 : nameS k.cl with
  | false =>
    refine runO hC tabOk 60 ?_
    simp [go_sem]
    repeat ((first | refine condT rfl ?_ | refine condF rfl ?_ | refine skD hC rfl rfl rfl ?_); refine runO hC tabOk 60 ?_; simp [go_sem])
    refine ret hC tabOk (fun _ => 1) rfl rfl fun m gf hl ex => ?_
    simp [retv, SV.val, SC.val, vals, tktOk, h1, h2]
  | true =>
  refine runO hC tabOk 60 ?_
  simp [go_sem]
  repeat ((first | refine condT rfl ?_ | refine condF rfl ?_ | refine skD hC rfl rfl rfl ?_); refine runO hC tabOk 60 ?_; simp [go_sem])
  by_cases h3 : k.fl < 0
  · have h3' : ¬ 0 ≤ k.fl := by omega
    refine runO hC tabOk 60 ?_
    simp [go_sem, h3]
    repeat ((first | refine condT rfl ?_ | refine condF rfl ?_ | refine skD hC rfl rfl rfl ?_); refine runO hC tabOk 60 ?_; simp [go_sem, h3])
    try (refine runO hC tabOk 60 ?_; simp [go_sem, h3]; repeat ((first | refine condT rfl ?_ | refine condF rfl ?_ | refine skD hC rfl rfl rfl ?_); refine runO hC tabOk 60 ?_; simp [go_sem, h3]))
    refine ret hC tabOk (fun _ => 1) rfl rfl fun m gf hl ex => ?_
    simp [retv, SV.val, SC.val, vals, tktOk, h1, h2, h3']
  have h3' : 0 ≤ k.fl := by omega
  by_cases h4 : 15 < k.fl
  · have h4' : ¬ k.fl ≤ 15 := by omega
    refine runO hC tabOk 60 ?_
    simp [go_sem, h3, h4]
    repeat ((first | refine condT rfl ?_ | refine condF rfl ?_ | refine skD hC rfl rfl rfl ?_); refine runO hC tabOk 60 ?_; simp [go_sem, h3, h4])
    try (refine runO hC tabOk 60 ?_; simp [go_sem, h3, h4]; repeat ((first | refine condT rfl ?_ | refine condF rfl ?_ | refine skD hC rfl rfl rfl ?_); refine runO hC tabOk 60 ?_; simp [go_sem, h3, h4]))
    refine ret hC tabOk (fun _ => 1) rfl rfl fun m gf hl ex => ?_
    simp [retv, SV.val, SC.val, vals, tktOk, h1, h2, h4']
  have h4' : k.fl ≤ 15 := by omega
  refine runO hC tabOk 60 ?_
  simp [go_sem, h3, h4]
  repeat ((first | refine condT rfl ?_ | refine condF rfl ?_ | refine skD hC rfl rfl rfl ?_); refine runO hC tabOk 60 ?_; simp [go_sem, h3, h4])
  try (refine runO hC tabOk 60 ?_; simp [go_sem, h3, h4]; repeat ((first | refine condT rfl ?_ | refine condF rfl ?_ | refine skD hC rfl rfl rfl ?_); refine runO hC tabOk 60 ?_; simp [go_sem, h3, h4]))
  refine call hC [61,62,63] (by kernel_rfl) rfl rfl rfl rfl rfl fun m5 g5 p5 e5 => ⟨_, read231 k.auth h.auth _ kk.auth.to hsz, fun v5 u5 q5 s5 hv5 => ?_⟩
  obtain ⟨ha, rfl, ka⟩ := hv5
  by_cases h5 : (readM k.auth).2 = 0
  rotate_left
  · refine runO hC tabOk 60 ?_
    simp [go_sem, h5]
    repeat ((first | refine condT rfl ?_ | refine condF rfl ?_ | refine skD hC rfl rfl rfl ?_); refine runO hC tabOk 60 ?_; simp [go_sem, h5])
    try (refine runO hC tabOk 60 ?_; simp [go_sem, h5]; repeat ((first | refine condT rfl ?_ | refine condF rfl ?_ | refine skD hC rfl rfl rfl ?_); refine runO hC tabOk 60 ?_; simp [go_sem, h5]))
    refine ret hC tabOk (fun _ => 1) rfl rfl fun m gf hl ex => ?_
    simp [retv, SV.val, SC.val, vals, tktOk, h1, h2, h3', h4', h5]
  by_cases h6 : k.key.k = 2
  rotate_left
  · refine runO hC tabOk 60 ?_
    simp [go_sem, h5, h6]
    repeat ((first | refine condT rfl ?_ | refine condF rfl ?_ | refine skD hC rfl rfl rfl ?_); refine runO hC tabOk 60 ?_; simp [go_sem, h5, h6])
    try (refine runO hC tabOk 60 ?_; simp [go_sem, h5, h6]; repeat ((first | refine condT rfl ?_ | refine condF rfl ?_ | refine skD hC rfl rfl rfl ?_); refine runO hC tabOk 60 ?_; simp [go_sem, h5, h6]))
    refine ret hC tabOk (fun _ => 1) rfl rfl fun m gf hl ex => ?_
    simp [retv, SV.val, SC.val, vals, tktOk, h1, h2, h3', h4', h5, h6]
  have d6 : decide (k.key.k = 2) = true := by simp [h6]
  refine runO hC tabOk 60 ?_
  simp [go_sem, h5, d6]
  repeat ((first | refine condT rfl ?_ | refine condF rfl ?_ | refine skD hC rfl rfl rfl ?_); refine runO hC tabOk 60 ?_; simp [go_sem, h5, d6])
  try (refine runO hC tabOk 60 ?_; simp [go_sem, h5, d6]; repeat ((first | refine condT rfl ?_ | refine condF rfl ?_ | refine skD hC rfl rfl rfl ?_); refine runO hC tabOk 60 ?_; simp [go_sem, h5, d6]))
  refine call hC [] (by kernel_rfl) rfl rfl rfl rfl rfl fun m7 g7 p7 e7 => ⟨_, tvalid191 k.key h.key _ kk.key.to, fun v7 u7 q7 s7 hv7 => ?_⟩
  subst hv7
  cases h7 : validT 0 k.key with
  | false =>
    refine runO hC tabOk 60 ?_
    simp [go_sem]
    repeat ((first | refine condT rfl ?_ | refine condF rfl ?_ | refine skD hC rfl rfl rfl ?_); refine runO hC tabOk 60 ?_; simp [go_sem])
    refine ret hC tabOk (fun _ => 1) rfl rfl fun m gf hl ex => ?_
    simp [retv, SV.val, SC.val, vals, tktOk, h1, h2, h3', h4', h5, h6, h7]
  | true =>
  refine runO hC tabOk 60 ?_
  simp [go_sem]
  repeat ((first | refine condT rfl ?_ | refine condF rfl ?_ | refine skD hC rfl rfl rfl ?_); refine runO hC tabOk 60 ?_; simp [go_sem])
  refine call hC [] (by kernel_rfl) rfl rfl rfl rfl rfl fun m8 g8 p8 e8 => ⟨_, svalid192 k.fr k.till _, fun v8 u8 q8 s8 hv8 => ?_⟩
  subst hv8
  refine runO hC tabOk 60 ?_
  simp [go_sem]
  repeat ((first | refine condT rfl ?_ | refine condF rfl ?_ | refine skD hC rfl rfl rfl ?_); refine runO hC tabOk 60 ?_; simp [go_sem])
  refine ret hC tabOk (fun _ => 1) rfl rfl fun m gf hl ex => ?_
  simp [retv, SV.val, SC.val, vals, tktOk, h1, h2, h3', h4', h5, h6, h7]

theorem msg136 (nm : ByteArray) (l : List T) (h : Hd) (g : G) (k : LOk g l h) (hnm : nm.size ≤ maxLen) (hn : 0 < l.length) (hm : l.length ≤ 2199023255551) : Ok Tryz.prog 136 [.string nm, .slice h.a l.length h.cap] g [] (fun v g' => TQ (listT (ofT nm :: l)) v g') := by
  refine fbegin Tryz.func136 rfl Tryz.ntmps136 (Nat.le_of_ble_eq_true rfl) fun C hw hC => ?_
  refine runO hC tabOk 60 ?_
  simp [go_sem]
  repeat ((first | refine condT rfl ?_ | refine condF rfl ?_ | refine skD hC rfl rfl rfl ?_); refine runO hC tabOk 60 ?_; simp [go_sem])
  refine call hC [] (by kernel_rfl) rfl rfl rfl rfl rfl fun m1 g1 p1 e1 => ⟨_, of118 nm _, fun v1 u1 q1 s1 hv1 => ?_⟩
  subst hv1
  refine runO hC tabOk 60 ?_
  simp [go_sem]
  repeat ((first | refine condT rfl ?_ | refine condF rfl ?_ | refine skD hC rfl rfl rfl ?_); refine runO hC tabOk 60 ?_; simp [go_sem])
  obtain ⟨hs, ehs, hr, hp⟩ := (k.to (g' := u1)).heads
  refine appF hC 99 56 tabOk rfl rfl rfl rfl rfl rfl rfl (by kernel_rfl) rfl rfl rfl fun m2 g2 p2 e2 => ?_
  have khs := (k.to (g' := g2)).heads
  obtain ⟨hs, ehs, hr, hp⟩ := khs
  have hlen : hs.length = l.length := by rw [← ehs]; simp
  refine ⟨1, m2.getD 1 0, 0, tc (ofT nm) ⟨none, 0⟩, l.length, rowc hs, h.a, h.cap, rfl, Cs.rd (e2.frz (i := 1) rfl rfl rfl), rfl, rfl, hr, by rw [rowc_len, hlen], hn, by simp [maxLen]; omega, by omega, fun v g3 g4 p3 p4 hv => ?_⟩
  refine relab hC 99 0 rfl rfl fun gr pr hwr hor => ?_
  obtain ⟨h', e3, hk'⟩ := LOk.of ((ofT nm, ⟨none, 0⟩) :: hs) ((show OwnRow g4 _ 99 25 4 v (1 + l.length) (rowc ((ofT nm, ⟨none, 0⟩) :: hs)) from hv).give hwr hor) (by simp [hlen]; omega) (lsc (tok_leaf _ _ _ _ hnm) (fun p hp' => (hp p hp').to))
  subst e3
  simp only [List.map_cons, ehs] at hk'
  have e4 : 1 + l.length = (ofT nm :: l).length := by simp; omega
  rw [e4]
  refine runO hC tabOk 60 ?_
  simp [go_sem]
  repeat ((first | refine condT rfl ?_ | refine condF rfl ?_ | refine skD hC rfl rfl rfl ?_); refine runO hC tabOk 60 ?_; simp [go_sem])
  refine call hC [] (by kernel_rfl) rfl rfl rfl rfl rfl fun m5 g5 p5 e5 => ⟨_, list56 (ofT nm :: l) h' _ hk'.to (by simp; omega), fun v5 u5 q5 s5 hv5 => ?_⟩
  obtain ⟨h6, rfl, k6⟩ := hv5
  refine runO hC tabOk 60 ?_
  simp [go_sem]
  repeat ((first | refine condT rfl ?_ | refine condF rfl ?_ | refine skD hC rfl rfl rfl ?_); refine runO hC tabOk 60 ?_; simp [go_sem])
  refine ret hC tabOk (fun _ => 1) rfl rfl fun m gf hl ex => ?_
  exact ⟨h6, rfl, k6.to⟩

def sTicket : ByteArray := ⟨#[116, 105, 99, 107, 101, 116]⟩

/-- A ticket as a term. -/
def makeS (k : Tkt) (key : T) : T × Int :=
  if tktOk k && decide (key.k = 2) then (listT [ofT sTicket, ofT k.svc, sealT key 2 (listT [numT k.fl, k.key, ofT k.cl, numT k.fr, numT k.till, k.auth])], 0) else (T0, 1)

theorem make206 (k : Tkt) (key : T) (h : TktH) (hk : Hd) (g : G) (kk : TktOk g k h) (ky : TOk g key hk) (hsz : tw k.auth ≤ 2513169434843) : Ok Tryz.prog 206 [tkv k h, tv key hk] g [61, 62, 63] (fun v g' => TE (makeS k key) v g') := by
  refine fbegin Tryz.func206 rfl Tryz.ntmps206 (Nat.le_of_ble_eq_true rfl) fun C hw hC => ?_
  refine runO hC tabOk 60 ?_
  simp [go_sem]
  repeat ((first | refine condT rfl ?_ | refine condF rfl ?_ | refine skD hC rfl rfl rfl ?_); refine runO hC tabOk 60 ?_; simp [go_sem])
  refine call hC [61,62,63] (by kernel_rfl) rfl rfl rfl rfl rfl fun m1 g1 p1 e1 => ⟨_, tvalid230 k h _ kk.to hsz, fun v1 u1 q1 s1 hv1 => ?_⟩
  subst hv1
  cases h1 : tktOk k with
  | false =>
    refine runO hC tabOk 60 ?_
    simp [go_sem]
    repeat ((first | refine condT rfl ?_ | refine condF rfl ?_ | refine skD hC rfl rfl rfl ?_); refine runO hC tabOk 60 ?_; simp [go_sem])
    refine ret hC tabOk (fun _ => 1) rfl rfl fun m gf hl ex => ?_
    simp only [makeS, h1]
    exact ⟨⟨none, 0⟩, rfl, T0_ok _⟩
  | true =>
  by_cases h2 : key.k = 2
  rotate_left
  · refine runO hC tabOk 60 ?_
    simp [go_sem, h2]
    repeat ((first | refine condT rfl ?_ | refine condF rfl ?_ | refine skD hC rfl rfl rfl ?_); refine runO hC tabOk 60 ?_; simp [go_sem, h2])
    try (refine runO hC tabOk 60 ?_; simp [go_sem, h2]; repeat ((first | refine condT rfl ?_ | refine condF rfl ?_ | refine skD hC rfl rfl rfl ?_); refine runO hC tabOk 60 ?_; simp [go_sem, h2]))
    refine ret hC tabOk (fun _ => 1) rfl rfl fun m gf hl ex => ?_
    simp only [makeS, h1, h2]
    exact ⟨⟨none, 0⟩, rfl, T0_ok _⟩
  have d2 : decide (key.k = 2) = true := by simp [h2]
  have hsv := kk.sv
  have hcl := kk.cl
  refine runO hC tabOk 60 ?_
  simp [go_sem, d2]
  repeat ((first | refine condT rfl ?_ | refine condF rfl ?_ | refine skD hC rfl rfl rfl ?_); refine runO hC tabOk 60 ?_; simp [go_sem, d2])
  try (refine runO hC tabOk 60 ?_; simp [go_sem, d2]; repeat ((first | refine condT rfl ?_ | refine condF rfl ?_ | refine skD hC rfl rfl rfl ?_); refine runO hC tabOk 60 ?_; simp [go_sem, d2]))
  refine draw hC [(0, 0), (1, 0), (3, 0), (4, 0), (5, 0), (6, 0), (8, 0), (9, 0), (10, 0), (12, 0), (13, 0), (14, 0), (16, 0), (17, 0), (20, 2), (2, 1), (7, 1), (11, 1), (15, 1), (18, 1), (19, 1), (20, 3)] [21] mix (by kernel_rfl) ?_
  refine runO hC tabOk 60 ?_
  simp [go_sem]
  repeat ((first | refine condT rfl ?_ | refine condF rfl ?_ | refine skD hC rfl rfl rfl ?_); refine runO hC tabOk 60 ?_; simp [go_sem])
  refine callD hC [] (by kernel_rfl) rfl rfl rfl rfl rfl rfl rfl rfl fun m2 g2 p2 e2 => ⟨_, num135 k.fl _, fun v2 u2 q2 s2 hv2 => ?_⟩
  subst hv2
  refine runO hC tabOk 60 ?_
  simp [go_sem]
  repeat ((first | refine condT rfl ?_ | refine condF rfl ?_ | refine skD hC rfl rfl rfl ?_); refine runO hC tabOk 60 ?_; simp [go_sem])
  refine callD hC [] (by kernel_rfl) rfl rfl rfl rfl rfl rfl rfl rfl fun m3 g3 p3 e3 => ⟨_, of118 k.cl _, fun v3 u3 q3 s3 hv3 => ?_⟩
  subst hv3
  refine runO hC tabOk 60 ?_
  simp [go_sem]
  repeat ((first | refine condT rfl ?_ | refine condF rfl ?_ | refine skD hC rfl rfl rfl ?_); refine runO hC tabOk 60 ?_; simp [go_sem])
  refine callD hC [] (by kernel_rfl) rfl rfl rfl rfl rfl rfl rfl rfl fun m4 g4 p4 e4 => ⟨_, num135 k.fr _, fun v4 u4 q4 s4 hv4 => ?_⟩
  subst hv4
  refine runO hC tabOk 60 ?_
  simp [go_sem]
  repeat ((first | refine condT rfl ?_ | refine condF rfl ?_ | refine skD hC rfl rfl rfl ?_); refine runO hC tabOk 60 ?_; simp [go_sem])
  refine callD hC [] (by kernel_rfl) rfl rfl rfl rfl rfl rfl rfl rfl fun m5 g5 p5 e5 => ⟨_, num135 k.till _, fun v5 u5 q5 s5 hv5 => ?_⟩
  subst hv5
  refine runO hC tabOk 60 ?_
  simp [go_sem]
  repeat ((first | refine condT rfl ?_ | refine condF rfl ?_ | refine skD hC rfl rfl rfl ?_); refine runO hC tabOk 60 ?_; simp [go_sem])
  refine callD hC [] (by kernel_rfl) rfl rfl rfl rfl rfl rfl rfl rfl fun m6 g6 p6 e6 => ⟨_, list56 [numT k.fl, k.key, ofT k.cl, numT k.fr, numT k.till, k.auth] ⟨some ⟨m6.getD 3 0, 0, none⟩, 6⟩ _ ⟨TsIs.of [(numT k.fl, ⟨none, 0⟩), (k.key, h.key), (ofT k.cl, ⟨none, 0⟩), (numT k.fr, ⟨none, 0⟩), (numT k.till, ⟨none, 0⟩), (k.auth, h.auth)] (e6.frz (i := 3) rfl rfl (by first | rfl | simp [rowc, tc, SC.val])) (lsc (tok_leaf _ _ _ _ (by first | exact Nat.zero_le _ | assumption | (simp [maxLen]; done))) (lsc (kk.key.to) (lsc (tok_leaf _ _ _ _ (by first | exact Nat.zero_le _ | assumption | (simp [maxLen]; done))) (lsc (tok_leaf _ _ _ _ (by first | exact Nat.zero_le _ | assumption | (simp [maxLen]; done))) (lsc (tok_leaf _ _ _ _ (by first | exact Nat.zero_le _ | assumption | (simp [maxLen]; done))) (lsc (kk.auth.to) lsn)))))), Nat.le_refl _, by simp [maxLen]⟩ (by simp), fun v6 u6 q6 s6 hv6 => ?_⟩
  obtain ⟨hb, rfl, kb⟩ := hv6
  refine runO hC tabOk 60 ?_
  simp [go_sem]
  repeat ((first | refine condT rfl ?_ | refine condF rfl ?_ | refine skD hC rfl rfl rfl ?_); refine runO hC tabOk 60 ?_; simp [go_sem])
  refine draw hC [(0, 0), (1, 0), (3, 0), (4, 0), (2, 1), (5, 1), (6, 1), (7, 1)] [8, 9] mix (by kernel_rfl) ?_
  refine runO hC tabOk 60 ?_
  simp [go_sem]
  repeat ((first | refine condT rfl ?_ | refine condF rfl ?_ | refine skD hC rfl rfl rfl ?_); refine runO hC tabOk 60 ?_; simp [go_sem])
  refine callD hC [] (by kernel_rfl) rfl rfl rfl rfl rfl rfl rfl rfl fun m7 g7 p7 e7 => ⟨_, of118 k.svc _, fun v7 u7 q7 s7 hv7 => ?_⟩
  subst hv7
  refine runO hC tabOk 60 ?_
  simp [go_sem]
  repeat ((first | refine condT rfl ?_ | refine condF rfl ?_ | refine skD hC rfl rfl rfl ?_); refine runO hC tabOk 60 ?_; simp [go_sem])
  refine callD hC [] (by kernel_rfl) rfl rfl rfl rfl rfl rfl rfl rfl fun m8 g8 p8 e8 => ⟨_, seal137 key (listT [numT k.fl, k.key, ofT k.cl, numT k.fr, numT k.till, k.auth]) hk hb 2 _ ky.to kb.to, fun v8 u8 q8 s8 hv8 => ?_⟩
  obtain ⟨hsl, rfl, ksl⟩ := hv8
  refine runO hC tabOk 60 ?_
  simp [go_sem]
  repeat ((first | refine condT rfl ?_ | refine condF rfl ?_ | refine skD hC rfl rfl rfl ?_); refine runO hC tabOk 60 ?_; simp [go_sem])
  refine callD hC [] (by kernel_rfl) rfl rfl rfl rfl rfl rfl rfl rfl fun m9 g9 p9 e9 => ⟨_, msg136 sTicket [ofT k.svc, sealT key 2 (listT [numT k.fl, k.key, ofT k.cl, numT k.fr, numT k.till, k.auth])] ⟨some ⟨m9.getD 5 0, 0, none⟩, 2⟩ _ ⟨TsIs.of [(ofT k.svc, ⟨none, 0⟩), (sealT key 2 (listT [numT k.fl, k.key, ofT k.cl, numT k.fr, numT k.till, k.auth]), hsl)] (e9.frz (i := 5) rfl rfl rfl) (ls2 (tok_leaf _ _ _ _ hsv) ksl.to), Nat.le_refl _, by simp [maxLen]⟩ (by decide) (by simp) (by simp), fun v9 u9 q9 s9 hv9 => ?_⟩
  obtain ⟨hm, rfl, km⟩ := hv9
  refine runO hC tabOk 60 ?_
  simp [go_sem]
  repeat ((first | refine condT rfl ?_ | refine condF rfl ?_ | refine skD hC rfl rfl rfl ?_); refine runO hC tabOk 60 ?_; simp [go_sem])
  refine ret hC tabOk (fun _ => 1) rfl rfl fun m gf hl ex => ?_
  simp only [makeS, h1, h2]
  exact ⟨hm, rfl, km.to⟩

/-- Is a term just a name, or a number? -/
def plainS (t : T) (k : Int) : Bool := decide (t.k = k) && decide (t.l.length = 0) && ((decide (k = 0) && decide (t.n = 0)) || (decide (k = 1) && decide (t.s = .empty)))

theorem plain229 (t : T) (k : Int) (h : Hd) (g : G) (kt : TOk g t h) : Ok Tryz.prog 229 [tv t h, .int .i64 k] g [] (fun v _ => v = .bool (plainS t k)) := by
  refine fbegin Tryz.func229 rfl Tryz.ntmps229 (Nat.le_of_ble_eq_true rfl) fun C hw hC => ?_
  refine runO hC tabOk 60 ?_
  simp [go_sem]
  repeat ((first | refine condT rfl ?_ | refine condF rfl ?_ | refine skD hC rfl rfl rfl ?_); refine runO hC tabOk 60 ?_; simp [go_sem])
  refine ret hC tabOk (fun _ => 1) rfl rfl fun m gf hl ex => ?_
  simp [retv, SV.val, SC.val, vals, plainS]
end Go.Proofs.YtobhfopgoidniaaGreat

/- Tickets: read. -/
namespace Go.Proofs.YtobhfopgoidniaaGreat
open Go Go.Eng

theorem take_or (t : T) (nm : ByteArray) (n : Int) : (takeS t nm n).2 = 0 ∧ ((takeS t nm n).1.length : Int) = n ∧ t.l = ofT nm :: (takeS t nm n).1 ∨ takeS t nm n = ([], 50) := by
  unfold takeS
  split
  · rename_i h
    obtain ⟨_, _, _, _, h5, h6⟩ := h
    refine .inl ⟨rfl, ?_, ?_⟩
    · have := List.length_tail (l := t.l)
      dsimp only
      omega
    · dsimp only
      cases hl2 : t.l with
      | nil => rw [hl2] at h6; cases h6
      | cons a r =>
        rw [hl2] at h6
        simp only [List.head?_cons, Option.some.injEq] at h6
        rw [h6]; rfl
  · exact .inr rfl

/-- Whose ticket a term is. -/
def serviceS (t : T) : ByteArray × Int := match takeS t sTicket 2 with
  | (x :: _, 0) => if plainS x 0 && nameS x.s then (x.s, 0) else (.empty, 50)
  | (_, e) => (.empty, e)

theorem service150 (t : T) (h : Hd) (g : G) (kt : TOk g t h) : Ok Tryz.prog 150 [tv t h] g [] (fun v _ => v = .tuple #[.string (serviceS t).1, .int .i64 (serviceS t).2] ∧ (serviceS t).1.size ≤ maxLen) := by
  refine fbegin Tryz.func150 rfl Tryz.ntmps150 (Nat.le_of_ble_eq_true rfl) fun C hw hC => ?_
  refine runO hC tabOk 60 ?_
  simp [go_sem]
  repeat ((first | refine condT rfl ?_ | refine condF rfl ?_ | refine skD hC rfl rfl rfl ?_); refine runO hC tabOk 60 ?_; simp [go_sem])
  refine call hC [] (by kernel_rfl) rfl rfl rfl rfl rfl fun m1 g1 p1 e1 => ⟨_, take51 t sTicket 2 h _ kt.to (by decide), fun v1 u1 q1 s1 hv1 => ?_⟩
  obtain ⟨hl1, rfl, kl⟩ := hv1
  rcases take_or t sTicket 2 with ⟨e0, hlen, el⟩ | e0
  rotate_left
  · refine runO hC tabOk 60 ?_
    simp [go_sem, e0]
    repeat ((first | refine condT rfl ?_ | refine condF rfl ?_ | refine skD hC rfl rfl rfl ?_); refine runO hC tabOk 60 ?_; simp [go_sem, e0])
    try (refine runO hC tabOk 60 ?_; simp [go_sem, e0]; repeat ((first | refine condT rfl ?_ | refine condF rfl ?_ | refine skD hC rfl rfl rfl ?_); refine runO hC tabOk 60 ?_; simp [go_sem, e0]))
    refine ret hC tabOk (fun _ => 1) rfl rfl fun m gf hl ex => ?_
    have : serviceS t = (.empty, 50) := by simp [serviceS, e0]
    rw [this]
    exact ⟨rfl, Nat.zero_le _⟩
  obtain ⟨x, y, exy⟩ : ∃ x y, (takeS t sTicket 2).1 = [x, y] := by
    match hq : (takeS t sTicket 2).1, hlen with
    | [x, y], _ => exact ⟨x, y, rfl⟩
  have et : takeS t sTicket 2 = ([x, y], 0) := Prod.ext exy e0
  rw [et] at kl
  obtain ⟨b, off, hx, ea, hcs, kx⟩ := kl.get (i := 0) (t := x) rfl
  have hsx := kx.str
  refine runO hC tabOk 60 ?_
  simp [go_sem, et, ea]
  repeat ((first | refine condT rfl ?_ | refine condF rfl ?_ | refine skD hC rfl rfl rfl ?_); refine runO hC tabOk 60 ?_; simp [go_sem, et, ea])
  try (refine runO hC tabOk 60 ?_; simp [go_sem, et, ea]; repeat ((first | refine condT rfl ?_ | refine condF rfl ?_ | refine skD hC rfl rfl rfl ?_); refine runO hC tabOk 60 ?_; simp [go_sem, et, ea]))
  refine vo hC (vo_index hC tabOk rfl rfl rfl rfl rfl rfl (by omega) (by omega)) rfl rfl rfl ?_
  refine runO hC tabOk 60 ?_
  simp [go_sem]
  repeat ((first | refine condT rfl ?_ | refine condF rfl ?_ | refine skD hC rfl rfl rfl ?_); refine runO hC tabOk 60 ?_; simp [go_sem])
  refine vo hC (vo_load hC tabOk hcs.to rfl rfl rfl rfl rfl) rfl rfl rfl ?_
  refine runO hC tabOk 60 ?_
  simp [go_sem]
  repeat ((first | refine condT rfl ?_ | refine condF rfl ?_ | refine skD hC rfl rfl rfl ?_); refine runO hC tabOk 60 ?_; simp [go_sem])
  refine call hC [] (by kernel_rfl) rfl rfl rfl rfl rfl fun m2 g2 p2 e2 => ⟨_, plain229 x 0 hx _ kx.to, fun v2 u2 q2 s2 hv2 => ?_⟩
  subst hv2
  cases h1 : plainS x 0 with
  | false =>
    refine runO hC tabOk 60 ?_
    simp [go_sem]
    repeat ((first | refine condT rfl ?_ | refine condF rfl ?_ | refine skD hC rfl rfl rfl ?_); refine runO hC tabOk 60 ?_; simp [go_sem])
    refine ret hC tabOk (fun _ => 1) rfl rfl fun m gf hl ex => ?_
    have : serviceS t = (.empty, 50) := by simp [serviceS, et, h1]
    rw [this]
    exact ⟨rfl, Nat.zero_le _⟩
  | true =>
  refine runO hC tabOk 60 ?_
  simp [go_sem]
  repeat ((first | refine condT rfl ?_ | refine condF rfl ?_ | refine skD hC rfl rfl rfl ?_); refine runO hC tabOk 60 ?_; simp [go_sem])
  refine vo hC (vo_index hC tabOk rfl rfl rfl rfl rfl rfl (by omega) (by omega)) rfl rfl rfl ?_
  refine runO hC tabOk 60 ?_
  simp [go_sem]
  repeat ((first | refine condT rfl ?_ | refine condF rfl ?_ | refine skD hC rfl rfl rfl ?_); refine runO hC tabOk 60 ?_; simp [go_sem])
  refine vo hC (vo_load1 hC tabOk ((hcs.to (g' := u2)).one 1 rfl).to rfl rfl rfl rfl) rfl rfl rfl ?_
  refine runO hC tabOk 60 ?_
  simp [go_sem]
  repeat ((first | refine condT rfl ?_ | refine condF rfl ?_ | refine skD hC rfl rfl rfl ?_); refine runO hC tabOk 60 ?_; simp [go_sem])
  refine call hC [] (by kernel_rfl) rfl rfl rfl rfl rfl fun m3 g3 p3 e3 => ⟨_, name36 x.s _ hsx, fun v3 u3 q3 s3 hv3 => ?_⟩
  subst hv3
  cases h2 : nameS x.s with
  | false =>
    refine runO hC tabOk 60 ?_
    simp [go_sem]
    repeat ((first | refine condT rfl ?_ | refine condF rfl ?_ | refine skD hC rfl rfl rfl ?_); refine runO hC tabOk 60 ?_; simp [go_sem])
    refine ret hC tabOk (fun _ => 1) rfl rfl fun m gf hl ex => ?_
    have : serviceS t = (.empty, 50) := by simp [serviceS, et, h1, h2]
    rw [this]
    exact ⟨rfl, Nat.zero_le _⟩
  | true =>
  refine runO hC tabOk 60 ?_
  simp [go_sem]
  repeat ((first | refine condT rfl ?_ | refine condF rfl ?_ | refine skD hC rfl rfl rfl ?_); refine runO hC tabOk 60 ?_; simp [go_sem])
  refine vo hC (vo_index hC tabOk rfl rfl rfl rfl rfl rfl (by omega) (by omega)) rfl rfl rfl ?_
  refine runO hC tabOk 60 ?_
  simp [go_sem]
  repeat ((first | refine condT rfl ?_ | refine condF rfl ?_ | refine skD hC rfl rfl rfl ?_); refine runO hC tabOk 60 ?_; simp [go_sem])
  refine vo hC (vo_load1 hC tabOk ((hcs.to (g' := u3)).one 1 rfl).to rfl rfl rfl rfl) rfl rfl rfl ?_
  refine runO hC tabOk 60 ?_
  simp [go_sem]
  repeat ((first | refine condT rfl ?_ | refine condF rfl ?_ | refine skD hC rfl rfl rfl ?_); refine runO hC tabOk 60 ?_; simp [go_sem])
  refine ret hC tabOk (fun _ => 1) rfl rfl fun m gf hl ex => ?_
  have : serviceS t = (x.s, 0) := by simp [serviceS, et, h1, h2]
  rw [this]
  exact ⟨rfl, hsx⟩

/-- A ticket, and an error. -/
def KE (r : Tkt × Int) (v : Value) (g : G) : Prop := ∃ h, v = .tuple #[tkv r.1 h, .int .i64 r.2] ∧ TktOk g r.1 h

/-- A ticket's body, read. -/
def bodyS (svc : ByteArray) (b : T) : Tkt × Int :=
  if b.k = 3 ∧ b.s = .empty ∧ b.n = 0 then (match b.l with
    | [f, k, c, x, y, a] => if plainS f 1 && decide (k.k = 2) && plainS c 0 && plainS x 1 && plainS y 1 && decide (a.k = 3) && tktOk ⟨svc, f.n, k, c.s, x.n, y.n, a⟩ then (⟨svc, f.n, k, c.s, x.n, y.n, a⟩, 0) else (Tkt0, 50)
    | _ => (Tkt0, 50))
  else (Tkt0, 50)
set_option maxHeartbeats 4000000 in
theorem body151 (svc : ByteArray) (b : T) (h : Hd) (g : G) (kb : TOk g b h) (hsv : svc.size ≤ maxLen) (hsz : tw b ≤ 2513169434843) : Ok Tryz.prog 151 [.string svc, tv b h] g [61, 62, 63] (fun v g' => KE (bodyS svc b) v g') := by
  obtain ⟨bk, bs, bn, bl⟩ := b
  have fail : ∀ (v : Value) (g' : G), v = .tuple #[tkv Tkt0 ⟨⟨none, 0⟩, ⟨none, 0⟩⟩, .int .i64 50] → bodyS svc (.mk bk bs bn bl) = (Tkt0, 50) → KE (bodyS svc (.mk bk bs bn bl)) v g' := by
    intro v g' e1 e2
    rw [e2]
    exact ⟨⟨⟨none, 0⟩, ⟨none, 0⟩⟩, e1, Tkt0_ok _⟩
  refine fbegin Tryz.func151 rfl Tryz.ntmps151 (Nat.le_of_ble_eq_true rfl) fun C hw hC => ?_
  refine runO hC tabOk 60 ?_
  simp [go_sem]
  repeat ((first | refine condT rfl ?_ | refine condF rfl ?_ | refine skD hC rfl rfl rfl ?_); refine runO hC tabOk 60 ?_; simp [go_sem])
  refine scope_ ?_
  refine runO hC tabOk 60 ?_
  simp [go_sem]
  repeat ((first | refine condT rfl ?_ | refine condF rfl ?_ | refine skD hC rfl rfl rfl ?_); refine runO hC tabOk 60 ?_; simp [go_sem])
  refine vo hC (vo_bld hC [(0, .int .i64 1), (1, .int .i64 2), (2, .int .i64 0), (3, .int .i64 1), (4, .int .i64 1), (5, .int .i64 3)] rfl rfl (run_bld tabOk Tryz.underlying296 rfl rfl rfl rfl)) rfl rfl rfl ?_
  refine runO hC tabOk 60 ?_
  simp [go_sem]
  repeat ((first | refine condT rfl ?_ | refine condF rfl ?_ | refine skD hC rfl rfl rfl ?_); refine runO hC tabOk 60 ?_; simp [go_sem])
  by_cases h1 : bk = 3
  rotate_left
  · refine runO hC tabOk 60 ?_
    simp [go_sem, h1]
    repeat ((first | refine condT rfl ?_ | refine condF rfl ?_ | refine skD hC rfl rfl rfl ?_); refine runO hC tabOk 60 ?_; simp [go_sem, h1])
    try (refine runO hC tabOk 60 ?_; simp [go_sem, h1]; repeat ((first | refine condT rfl ?_ | refine condF rfl ?_ | refine skD hC rfl rfl rfl ?_); refine runO hC tabOk 60 ?_; simp [go_sem, h1]))
    refine ret hC tabOk (fun _ => 1) rfl rfl fun m gf hl ex => ?_
    exact fail _ _ rfl (by simp [bodyS, h1])
  by_cases h3 : bs = .empty
  rotate_left
  · refine runO hC tabOk 60 ?_
    simp [go_sem, h1, h3]
    repeat ((first | refine condT rfl ?_ | refine condF rfl ?_ | refine skD hC rfl rfl rfl ?_); refine runO hC tabOk 60 ?_; simp [go_sem, h1, h3])
    try (refine runO hC tabOk 60 ?_; simp [go_sem, h1, h3]; repeat ((first | refine condT rfl ?_ | refine condF rfl ?_ | refine skD hC rfl rfl rfl ?_); refine runO hC tabOk 60 ?_; simp [go_sem, h1, h3]))
    refine ret hC tabOk (fun _ => 1) rfl rfl fun m gf hl ex => ?_
    exact fail _ _ rfl (by simp [bodyS, h3])
  by_cases h4 : bn = 0
  rotate_left
  · refine runO hC tabOk 60 ?_
    simp [go_sem, h1, h3, h4]
    repeat ((first | refine condT rfl ?_ | refine condF rfl ?_ | refine skD hC rfl rfl rfl ?_); refine runO hC tabOk 60 ?_; simp [go_sem, h1, h3, h4])
    try (refine runO hC tabOk 60 ?_; simp [go_sem, h1, h3, h4]; repeat ((first | refine condT rfl ?_ | refine condF rfl ?_ | refine skD hC rfl rfl rfl ?_); refine runO hC tabOk 60 ?_; simp [go_sem, h1, h3, h4]))
    refine ret hC tabOk (fun _ => 1) rfl rfl fun m gf hl ex => ?_
    exact fail _ _ rfl (by simp [bodyS, h4])
  by_cases h2 : bl.length = 6
  rotate_left
  · have h2' : ¬ (bl.length : Int) = 6 := by omega
    refine runO hC tabOk 60 ?_
    simp [go_sem, h1, h3, h4, h2']
    repeat ((first | refine condT rfl ?_ | refine condF rfl ?_ | refine skD hC rfl rfl rfl ?_); refine runO hC tabOk 60 ?_; simp [go_sem, h1, h3, h4, h2'])
    try (refine runO hC tabOk 60 ?_; simp [go_sem, h1, h3, h4, h2']; repeat ((first | refine condT rfl ?_ | refine condF rfl ?_ | refine skD hC rfl rfl rfl ?_); refine runO hC tabOk 60 ?_; simp [go_sem, h1, h3, h4, h2']))
    refine ret hC tabOk (fun _ => 1) rfl rfl fun m gf hl ex => ?_
    exact fail _ _ rfl (by
      unfold bodyS
      split
      · simp only [T.l_mk]
        split
        · simp at h2
        · rfl
      · rfl)
  obtain ⟨f, kk, c, x, y, a, rfl⟩ : ∃ f kk c x y a, bl = [f, kk, c, x, y, a] := by
    match bl, h2 with
    | [f, kk, c, x, y, a], _ => exact ⟨f, kk, c, x, y, a, rfl⟩
  obtain ⟨b0, off0, h_f, ea, hcs_f, k_f⟩ := kb.lst.get (i := 0) (t := f) rfl
  obtain ⟨b1, off1, h_kk, ea1, hcs_kk, k_kk⟩ := kb.lst.get (i := 1) (t := kk) rfl
  rw [ea] at ea1
  obtain ⟨rfl, rfl, _⟩ := Addr.mk.inj (Option.some.inj ea1)
  obtain ⟨b1, off1, h_c, ea1, hcs_c, k_c⟩ := kb.lst.get (i := 2) (t := c) rfl
  rw [ea] at ea1
  obtain ⟨rfl, rfl, _⟩ := Addr.mk.inj (Option.some.inj ea1)
  obtain ⟨b1, off1, h_x, ea1, hcs_x, k_x⟩ := kb.lst.get (i := 3) (t := x) rfl
  rw [ea] at ea1
  obtain ⟨rfl, rfl, _⟩ := Addr.mk.inj (Option.some.inj ea1)
  obtain ⟨b1, off1, h_y, ea1, hcs_y, k_y⟩ := kb.lst.get (i := 4) (t := y) rfl
  rw [ea] at ea1
  obtain ⟨rfl, rfl, _⟩ := Addr.mk.inj (Option.some.inj ea1)
  obtain ⟨b1, off1, h_a, ea1, hcs_a, k_a⟩ := kb.lst.get (i := 5) (t := a) rfl
  rw [ea] at ea1
  obtain ⟨rfl, rfl, _⟩ := Addr.mk.inj (Option.some.inj ea1)
  have ea' : h.a = some ⟨b0, off0, none⟩ := ea
  have hsz_a : tw a ≤ 2513169434843 := by
    have := tw_l (.mk bk bs bn [f, kk, c, x, y, a])
    simp only [T.l_mk, tws] at this
    omega
  refine runO hC tabOk 60 ?_
  simp [go_sem, h1, h3, h4, ea']
  repeat ((first | refine condT rfl ?_ | refine condF rfl ?_ | refine skD hC rfl rfl rfl ?_); refine runO hC tabOk 60 ?_; simp [go_sem, h1, h3, h4, ea'])
  try (refine runO hC tabOk 60 ?_; simp [go_sem, h1, h3, h4, ea']; repeat ((first | refine condT rfl ?_ | refine condF rfl ?_ | refine skD hC rfl rfl rfl ?_); refine runO hC tabOk 60 ?_; simp [go_sem, h1, h3, h4, ea']))
  refine lbl rfl ?_
  refine runO hC tabOk 60 ?_
  simp [go_sem]
  repeat ((first | refine condT rfl ?_ | refine condF rfl ?_ | refine skD hC rfl rfl rfl ?_); refine runO hC tabOk 60 ?_; simp [go_sem])
  have hall : bodyS svc (.mk bk bs bn [f, kk, c, x, y, a]) = if (plainS f 1 && decide (kk.k = 2) && plainS c 0 && plainS x 1 && plainS y 1 && decide (a.k = 3)) = true ∧ tktOk ⟨svc, f.n, kk, c.s, x.n, y.n, a⟩ = true then (⟨svc, f.n, kk, c.s, x.n, y.n, a⟩, 0) else (Tkt0, 50) := by
    unfold bodyS
    rw [if_pos ⟨h1, h3, h4⟩]
    simp only [T.l_mk, Bool.and_eq_true]
  refine midB (ι := Bool × G) (fun q => q.1 = (plainS f 1 && decide (kk.k = 2) && plainS c 0 && plainS x 1 && plainS y 1 && decide (a.k = 3)) ∧ Keeps [1] g q.2) (fun q => q.2)
    (fun x => ⟨(fun (q : Bool × G) => [(7, .c (.v (.bool q.1))), (0, .c (.v (.string svc))), (3, .c (.bp 0 0)), (4, .c (.bp 1 0))]) x, [], (fun (q : Bool × G) => [(0, ⟨25, [.v (.int .i64 3), .v (.string .empty), .v (.int .i64 0), .v (.slice (some ⟨b0, off0, none⟩) 6 h.cap)], false⟩), (1, ⟨70, [.v (.string .empty), .v (.int .i64 0), .v (.int .i64 0), .v (.string .empty), .v (.int .i64 0), .v (.slice none 0 0), .v (.string .empty), .v (.int .i64 0), .v (.int .i64 0), .v (.int .i64 0), .v (.string .empty), .v (.int .i64 0), .v (.slice none 0 0)], false⟩)]) x, [], 2⟩) rfl (fun ⟨r, g'⟩ ⟨hr, hk⟩ => ?_) ?_
  · dsimp only at hr hk ⊢
    haveI : Later g g' := .of hk (by first | (simp; done) | (simp; omega))
    refine runO hC tabOk 60 ?_
    simp [go_sem]
    repeat ((first | refine condT rfl ?_ | refine condF rfl ?_ | refine skD hC rfl rfl rfl ?_); refine runO hC tabOk 60 ?_; simp [go_sem])
    refine draw hC [(0, 0), (1, 0), (2, 0), (3, 0), (4, 0), (5, 0), (6, 0), (7, 0), (8, 0), (9, 0), (10, 0), (11, 0), (12, 0), (13, 0), (14, 0), (15, 0), (16, 0), (17, 0), (18, 0), (19, 0), (20, 0), (21, 0), (22, 0), (23, 0), (24, 0), (25, 0), (26, 0), (27, 0), (28, 0), (29, 0), (30, 0), (31, 1)] [32] mix (by kernel_rfl) ?_
    refine runO hC tabOk 60 ?_
    simp [go_sem]
    repeat ((first | refine condT rfl ?_ | refine condF rfl ?_ | refine skD hC rfl rfl rfl ?_); refine runO hC tabOk 60 ?_; simp [go_sem])
    refine voD hC rfl (vo_index hC tabOk rfl rfl rfl rfl rfl rfl (by omega) (by omega)) rfl rfl rfl rfl ?_
    refine runO hC tabOk 60 ?_
    simp [go_sem]
    repeat ((first | refine condT rfl ?_ | refine condF rfl ?_ | refine skD hC rfl rfl rfl ?_); refine runO hC tabOk 60 ?_; simp [go_sem])
    refine voD hC rfl (vo_load1 hC tabOk ((hcs_f.to (g' := g')).one 2 rfl) rfl rfl rfl rfl) rfl rfl rfl rfl ?_
    refine runO hC tabOk 60 ?_
    simp [go_sem]
    repeat ((first | refine condT rfl ?_ | refine condF rfl ?_ | refine skD hC rfl rfl rfl ?_); refine runO hC tabOk 60 ?_; simp [go_sem])
    refine voD hC rfl (vo_index hC tabOk rfl rfl rfl rfl rfl rfl (by omega) (by omega)) rfl rfl rfl rfl ?_
    refine runO hC tabOk 60 ?_
    simp [go_sem]
    repeat ((first | refine condT rfl ?_ | refine condF rfl ?_ | refine skD hC rfl rfl rfl ?_); refine runO hC tabOk 60 ?_; simp [go_sem])
    refine voD hC rfl (vo_load hC tabOk hcs_kk.to rfl rfl rfl rfl rfl) rfl rfl rfl rfl ?_
    refine runO hC tabOk 60 ?_
    simp [go_sem]
    repeat ((first | refine condT rfl ?_ | refine condF rfl ?_ | refine skD hC rfl rfl rfl ?_); refine runO hC tabOk 60 ?_; simp [go_sem])
    refine voD hC rfl (vo_index hC tabOk rfl rfl rfl rfl rfl rfl (by omega) (by omega)) rfl rfl rfl rfl ?_
    refine runO hC tabOk 60 ?_
    simp [go_sem]
    repeat ((first | refine condT rfl ?_ | refine condF rfl ?_ | refine skD hC rfl rfl rfl ?_); refine runO hC tabOk 60 ?_; simp [go_sem])
    refine voD hC rfl (vo_load1 hC tabOk ((hcs_c.to (g' := g')).one 1 rfl) rfl rfl rfl rfl) rfl rfl rfl rfl ?_
    refine runO hC tabOk 60 ?_
    simp [go_sem]
    repeat ((first | refine condT rfl ?_ | refine condF rfl ?_ | refine skD hC rfl rfl rfl ?_); refine runO hC tabOk 60 ?_; simp [go_sem])
    refine voD hC rfl (vo_index hC tabOk rfl rfl rfl rfl rfl rfl (by omega) (by omega)) rfl rfl rfl rfl ?_
    refine runO hC tabOk 60 ?_
    simp [go_sem]
    repeat ((first | refine condT rfl ?_ | refine condF rfl ?_ | refine skD hC rfl rfl rfl ?_); refine runO hC tabOk 60 ?_; simp [go_sem])
    refine voD hC rfl (vo_load1 hC tabOk ((hcs_x.to (g' := g')).one 2 rfl) rfl rfl rfl rfl) rfl rfl rfl rfl ?_
    refine runO hC tabOk 60 ?_
    simp [go_sem]
    repeat ((first | refine condT rfl ?_ | refine condF rfl ?_ | refine skD hC rfl rfl rfl ?_); refine runO hC tabOk 60 ?_; simp [go_sem])
    refine voD hC rfl (vo_index hC tabOk rfl rfl rfl rfl rfl rfl (by omega) (by omega)) rfl rfl rfl rfl ?_
    refine runO hC tabOk 60 ?_
    simp [go_sem]
    repeat ((first | refine condT rfl ?_ | refine condF rfl ?_ | refine skD hC rfl rfl rfl ?_); refine runO hC tabOk 60 ?_; simp [go_sem])
    refine voD hC rfl (vo_load1 hC tabOk ((hcs_y.to (g' := g')).one 2 rfl) rfl rfl rfl rfl) rfl rfl rfl rfl ?_
    refine runO hC tabOk 60 ?_
    simp [go_sem]
    repeat ((first | refine condT rfl ?_ | refine condF rfl ?_ | refine skD hC rfl rfl rfl ?_); refine runO hC tabOk 60 ?_; simp [go_sem])
    refine voD hC rfl (vo_index hC tabOk rfl rfl rfl rfl rfl rfl (by omega) (by omega)) rfl rfl rfl rfl ?_
    refine runO hC tabOk 60 ?_
    simp [go_sem]
    repeat ((first | refine condT rfl ?_ | refine condF rfl ?_ | refine skD hC rfl rfl rfl ?_); refine runO hC tabOk 60 ?_; simp [go_sem])
    refine voD hC rfl (vo_load hC tabOk hcs_a.to rfl rfl rfl rfl rfl) rfl rfl rfl rfl ?_
    refine runO hC tabOk 60 ?_
    simp [go_sem]
    repeat ((first | refine condT rfl ?_ | refine condF rfl ?_ | refine skD hC rfl rfl rfl ?_); refine runO hC tabOk 60 ?_; simp [go_sem])
    cases r with
    | false =>
      refine runO hC tabOk 60 ?_
      simp [go_sem]
      repeat ((first | refine condT rfl ?_ | refine condF rfl ?_ | refine skD hC rfl rfl rfl ?_); refine runO hC tabOk 60 ?_; simp [go_sem])
      refine ret hC tabOk (fun _ => 1) rfl rfl fun m gf hl ex => ?_
      exact fail _ _ rfl (by rw [hall, ← hr]; simp)
    | true =>
    refine runO hC tabOk 60 ?_
    simp [go_sem]
    repeat ((first | refine condT rfl ?_ | refine condF rfl ?_ | refine skD hC rfl rfl rfl ?_); refine runO hC tabOk 60 ?_; simp [go_sem])
    have ktk : TktOk g' ⟨svc, f.n, kk, c.s, x.n, y.n, a⟩ ⟨h_kk, h_a⟩ := ⟨k_kk.to, k_a.to, hsv, k_c.str⟩
    refine call hC [61,62,63] (by kernel_rfl) rfl rfl rfl rfl rfl fun m2 g2 p2 e2 => ⟨_, tvalid230 ⟨svc, f.n, kk, c.s, x.n, y.n, a⟩ ⟨h_kk, h_a⟩ _ ktk.to hsz_a, fun v2 u2 q2 s2 hv2 => ?_⟩
    subst hv2
    cases ho : tktOk ⟨svc, f.n, kk, c.s, x.n, y.n, a⟩ with
    | false =>
      refine runO hC tabOk 60 ?_
      simp [go_sem]
      repeat ((first | refine condT rfl ?_ | refine condF rfl ?_ | refine skD hC rfl rfl rfl ?_); refine runO hC tabOk 60 ?_; simp [go_sem])
      refine ret hC tabOk (fun _ => 1) rfl rfl fun m gf hl ex => ?_
      exact fail _ _ rfl (by rw [hall, ho]; simp)
    | true =>
    refine runO hC tabOk 60 ?_
    simp [go_sem]
    repeat ((first | refine condT rfl ?_ | refine condF rfl ?_ | refine skD hC rfl rfl rfl ?_); refine runO hC tabOk 60 ?_; simp [go_sem])
    refine ret hC tabOk (fun _ => 1) rfl rfl fun m gf hl ex => ?_
    rw [hall, ho, ← hr]
    exact ⟨⟨h_kk, h_a⟩, rfl, ktk.to⟩
  refine unroll ?_
  refine runO hC tabOk 60 ?_
  simp [go_sem]
  repeat ((first | refine condT rfl ?_ | refine condF rfl ?_ | refine skD hC rfl rfl rfl ?_); refine runO hC tabOk 60 ?_; simp [go_sem])
  refine vo hC (vo_ixa (vs := [.int .i64 1, .int .i64 2, .int .i64 0, .int .i64 1, .int .i64 1, .int .i64 3]) (v := .int .i64 1) hC tabOk rfl rfl (fun _ => rfl) rfl Tryz.underlying296 rfl rfl rfl (by omega) (by omega) rfl) rfl rfl rfl ?_
  refine runO hC tabOk 60 ?_
  simp [go_sem]
  repeat ((first | refine condT rfl ?_ | refine condF rfl ?_ | refine skD hC rfl rfl rfl ?_); refine runO hC tabOk 60 ?_; simp [go_sem])
  refine vo hC (vo_index hC tabOk rfl rfl rfl rfl rfl rfl (by omega) (by omega)) rfl rfl rfl ?_
  refine runO hC tabOk 60 ?_
  simp [go_sem]
  repeat ((first | refine condT rfl ?_ | refine condF rfl ?_ | refine skD hC rfl rfl rfl ?_); refine runO hC tabOk 60 ?_; simp [go_sem])
  refine vo hC (vo_load hC tabOk hcs_f.to rfl rfl rfl rfl rfl) rfl rfl rfl ?_
  refine runO hC tabOk 60 ?_
  simp [go_sem]
  repeat ((first | refine condT rfl ?_ | refine condF rfl ?_ | refine skD hC rfl rfl rfl ?_); refine runO hC tabOk 60 ?_; simp [go_sem])
  refine call hC [] (by kernel_rfl) rfl rfl rfl rfl rfl fun m20 g20 p20 e20 => ⟨_, plain229 f 1 h_f _ k_f.to, fun v20 u20 q20 s20 hv20 => ?_⟩
  subst hv20
  cases c0 : plainS f 1 with
  | false =>
    refine runO hC tabOk 60 ?_
    simp [go_sem]
    repeat ((first | refine condT rfl ?_ | refine condF rfl ?_ | refine skD hC rfl rfl rfl ?_); refine runO hC tabOk 60 ?_; simp [go_sem])
    refine kend (fun _ => 1) fun m8 g8 p8 e8 => ⟨(false, g8), ?_, rfl, ⟨by simp [go_sem], by simp [go_sem], rfl, bxs_ok (n := 2) (Nat.le_refl _) (by simp [go_sem]), by simp [go_sem], ⟨_, rfl⟩⟩, by simp [go_sem]⟩
    exact ⟨by simp [c0], Keeps.mono (Kp.ks (g := g) (g' := g8)) (by simp)⟩
  | true =>
  refine runO hC tabOk 60 ?_
  simp [go_sem]
  repeat ((first | refine condT rfl ?_ | refine condF rfl ?_ | refine skD hC rfl rfl rfl ?_); refine runO hC tabOk 60 ?_; simp [go_sem])
  refine small (fun _ => 1) rfl fun m41 g41 p41 e41 => ⟨⟨[(33, .c (.v (.int .i64 1))), (32, .ag [.v (.int .i64 1), .v (.int .i64 2), .v (.int .i64 0), .v (.int .i64 1), .v (.int .i64 1), .v (.int .i64 3)]), (7, .c (.v (.bool true))), (0, .c (.v (.string svc))), (3, .c (.bp 0 0)), (4, .c (.bp 1 0))], [], [(0, ⟨25, [.v (.int .i64 3), .v (.string .empty), .v (.int .i64 0), .v (.slice (some ⟨b0, off0, none⟩) 6 h.cap)], false⟩), (1, ⟨70, [.v (.string .empty), .v (.int .i64 0), .v (.int .i64 0), .v (.string .empty), .v (.int .i64 0), .v (.slice none 0 0), .v (.string .empty), .v (.int .i64 0), .v (.int .i64 0), .v (.int .i64 0), .v (.string .empty), .v (.int .i64 0), .v (.slice none 0 0)], false⟩)], [], 2⟩, ⟨by simp [go_sem], by simp [go_sem], rfl, bxs_ok (n := 2) (Nat.le_refl _) (by simp [go_sem]), by simp [go_sem], ⟨_, rfl⟩⟩, by simp, ?_⟩
  refine reroll ?_
  refine runO hC tabOk 60 ?_
  simp [go_sem]
  repeat ((first | refine condT rfl ?_ | refine condF rfl ?_ | refine skD hC rfl rfl rfl ?_); refine runO hC tabOk 60 ?_; simp [go_sem])
  refine vo hC (vo_ixa (vs := [.int .i64 1, .int .i64 2, .int .i64 0, .int .i64 1, .int .i64 1, .int .i64 3]) (v := .int .i64 2) hC tabOk rfl rfl (fun _ => rfl) rfl Tryz.underlying296 rfl rfl rfl (by omega) (by omega) rfl) rfl rfl rfl ?_
  refine runO hC tabOk 60 ?_
  simp [go_sem]
  repeat ((first | refine condT rfl ?_ | refine condF rfl ?_ | refine skD hC rfl rfl rfl ?_); refine runO hC tabOk 60 ?_; simp [go_sem])
  refine vo hC (vo_index hC tabOk rfl rfl rfl rfl rfl rfl (by omega) (by omega)) rfl rfl rfl ?_
  refine runO hC tabOk 60 ?_
  simp [go_sem]
  repeat ((first | refine condT rfl ?_ | refine condF rfl ?_ | refine skD hC rfl rfl rfl ?_); refine runO hC tabOk 60 ?_; simp [go_sem])
  refine vo hC (vo_load1 hC tabOk ((hcs_kk.to (g' := _)).one 0 rfl) rfl rfl rfl rfl) rfl rfl rfl ?_
  by_cases c1 : kk.k = 2
  rotate_left
  · refine runO hC tabOk 60 ?_
    simp [go_sem, c1]
    repeat ((first | refine condT rfl ?_ | refine condF rfl ?_ | refine skD hC rfl rfl rfl ?_); refine runO hC tabOk 60 ?_; simp [go_sem, c1])
    try (refine runO hC tabOk 60 ?_; simp [go_sem, c1]; repeat ((first | refine condT rfl ?_ | refine condF rfl ?_ | refine skD hC rfl rfl rfl ?_); refine runO hC tabOk 60 ?_; simp [go_sem, c1]))
    refine kend (fun _ => 1) fun m8 g8 p8 e8 => ⟨(false, g8), ?_, rfl, ⟨by simp [go_sem], by simp [go_sem], rfl, bxs_ok (n := 2) (Nat.le_refl _) (by simp [go_sem]), by simp [go_sem], ⟨_, rfl⟩⟩, by simp [go_sem]⟩
    exact ⟨by simp [c1], Keeps.mono (Kp.ks (g := g) (g' := g8)) (by simp)⟩
  refine runO hC tabOk 60 ?_
  simp [go_sem, c1]
  repeat ((first | refine condT rfl ?_ | refine condF rfl ?_ | refine skD hC rfl rfl rfl ?_); refine runO hC tabOk 60 ?_; simp [go_sem, c1])
  try (refine runO hC tabOk 60 ?_; simp [go_sem, c1]; repeat ((first | refine condT rfl ?_ | refine condF rfl ?_ | refine skD hC rfl rfl rfl ?_); refine runO hC tabOk 60 ?_; simp [go_sem, c1]))
  refine small (fun _ => 1) rfl fun m42 g42 p42 e42 => ⟨⟨[(33, .c (.v (.int .i64 2))), (32, .ag [.v (.int .i64 1), .v (.int .i64 2), .v (.int .i64 0), .v (.int .i64 1), .v (.int .i64 1), .v (.int .i64 3)]), (7, .c (.v (.bool true))), (0, .c (.v (.string svc))), (3, .c (.bp 0 0)), (4, .c (.bp 1 0))], [], [(0, ⟨25, [.v (.int .i64 3), .v (.string .empty), .v (.int .i64 0), .v (.slice (some ⟨b0, off0, none⟩) 6 h.cap)], false⟩), (1, ⟨70, [.v (.string .empty), .v (.int .i64 0), .v (.int .i64 0), .v (.string .empty), .v (.int .i64 0), .v (.slice none 0 0), .v (.string .empty), .v (.int .i64 0), .v (.int .i64 0), .v (.int .i64 0), .v (.string .empty), .v (.int .i64 0), .v (.slice none 0 0)], false⟩)], [], 2⟩, ⟨by simp [go_sem], by simp [go_sem], rfl, bxs_ok (n := 2) (Nat.le_refl _) (by simp [go_sem]), by simp [go_sem], ⟨_, rfl⟩⟩, by simp, ?_⟩
  refine reroll ?_
  refine runO hC tabOk 60 ?_
  simp [go_sem]
  repeat ((first | refine condT rfl ?_ | refine condF rfl ?_ | refine skD hC rfl rfl rfl ?_); refine runO hC tabOk 60 ?_; simp [go_sem])
  refine vo hC (vo_ixa (vs := [.int .i64 1, .int .i64 2, .int .i64 0, .int .i64 1, .int .i64 1, .int .i64 3]) (v := .int .i64 0) hC tabOk rfl rfl (fun _ => rfl) rfl Tryz.underlying296 rfl rfl rfl (by omega) (by omega) rfl) rfl rfl rfl ?_
  refine runO hC tabOk 60 ?_
  simp [go_sem]
  repeat ((first | refine condT rfl ?_ | refine condF rfl ?_ | refine skD hC rfl rfl rfl ?_); refine runO hC tabOk 60 ?_; simp [go_sem])
  refine vo hC (vo_index hC tabOk rfl rfl rfl rfl rfl rfl (by omega) (by omega)) rfl rfl rfl ?_
  refine runO hC tabOk 60 ?_
  simp [go_sem]
  repeat ((first | refine condT rfl ?_ | refine condF rfl ?_ | refine skD hC rfl rfl rfl ?_); refine runO hC tabOk 60 ?_; simp [go_sem])
  refine vo hC (vo_load hC tabOk hcs_c.to rfl rfl rfl rfl rfl) rfl rfl rfl ?_
  refine runO hC tabOk 60 ?_
  simp [go_sem]
  repeat ((first | refine condT rfl ?_ | refine condF rfl ?_ | refine skD hC rfl rfl rfl ?_); refine runO hC tabOk 60 ?_; simp [go_sem])
  refine call hC [] (by kernel_rfl) rfl rfl rfl rfl rfl fun m22 g22 p22 e22 => ⟨_, plain229 c 0 h_c _ k_c.to, fun v22 u22 q22 s22 hv22 => ?_⟩
  subst hv22
  cases c2 : plainS c 0 with
  | false =>
    refine runO hC tabOk 60 ?_
    simp [go_sem]
    repeat ((first | refine condT rfl ?_ | refine condF rfl ?_ | refine skD hC rfl rfl rfl ?_); refine runO hC tabOk 60 ?_; simp [go_sem])
    refine kend (fun _ => 1) fun m8 g8 p8 e8 => ⟨(false, g8), ?_, rfl, ⟨by simp [go_sem], by simp [go_sem], rfl, bxs_ok (n := 2) (Nat.le_refl _) (by simp [go_sem]), by simp [go_sem], ⟨_, rfl⟩⟩, by simp [go_sem]⟩
    exact ⟨by simp [c2], Keeps.mono (Kp.ks (g := g) (g' := g8)) (by simp)⟩
  | true =>
  refine runO hC tabOk 60 ?_
  simp [go_sem]
  repeat ((first | refine condT rfl ?_ | refine condF rfl ?_ | refine skD hC rfl rfl rfl ?_); refine runO hC tabOk 60 ?_; simp [go_sem])
  refine small (fun _ => 1) rfl fun m43 g43 p43 e43 => ⟨⟨[(33, .c (.v (.int .i64 3))), (32, .ag [.v (.int .i64 1), .v (.int .i64 2), .v (.int .i64 0), .v (.int .i64 1), .v (.int .i64 1), .v (.int .i64 3)]), (7, .c (.v (.bool true))), (0, .c (.v (.string svc))), (3, .c (.bp 0 0)), (4, .c (.bp 1 0))], [], [(0, ⟨25, [.v (.int .i64 3), .v (.string .empty), .v (.int .i64 0), .v (.slice (some ⟨b0, off0, none⟩) 6 h.cap)], false⟩), (1, ⟨70, [.v (.string .empty), .v (.int .i64 0), .v (.int .i64 0), .v (.string .empty), .v (.int .i64 0), .v (.slice none 0 0), .v (.string .empty), .v (.int .i64 0), .v (.int .i64 0), .v (.int .i64 0), .v (.string .empty), .v (.int .i64 0), .v (.slice none 0 0)], false⟩)], [], 2⟩, ⟨by simp [go_sem], by simp [go_sem], rfl, bxs_ok (n := 2) (Nat.le_refl _) (by simp [go_sem]), by simp [go_sem], ⟨_, rfl⟩⟩, by simp, ?_⟩
  refine reroll ?_
  refine runO hC tabOk 60 ?_
  simp [go_sem]
  repeat ((first | refine condT rfl ?_ | refine condF rfl ?_ | refine skD hC rfl rfl rfl ?_); refine runO hC tabOk 60 ?_; simp [go_sem])
  refine vo hC (vo_ixa (vs := [.int .i64 1, .int .i64 2, .int .i64 0, .int .i64 1, .int .i64 1, .int .i64 3]) (v := .int .i64 1) hC tabOk rfl rfl (fun _ => rfl) rfl Tryz.underlying296 rfl rfl rfl (by omega) (by omega) rfl) rfl rfl rfl ?_
  refine runO hC tabOk 60 ?_
  simp [go_sem]
  repeat ((first | refine condT rfl ?_ | refine condF rfl ?_ | refine skD hC rfl rfl rfl ?_); refine runO hC tabOk 60 ?_; simp [go_sem])
  refine vo hC (vo_index hC tabOk rfl rfl rfl rfl rfl rfl (by omega) (by omega)) rfl rfl rfl ?_
  refine runO hC tabOk 60 ?_
  simp [go_sem]
  repeat ((first | refine condT rfl ?_ | refine condF rfl ?_ | refine skD hC rfl rfl rfl ?_); refine runO hC tabOk 60 ?_; simp [go_sem])
  refine vo hC (vo_load hC tabOk hcs_x.to rfl rfl rfl rfl rfl) rfl rfl rfl ?_
  refine runO hC tabOk 60 ?_
  simp [go_sem]
  repeat ((first | refine condT rfl ?_ | refine condF rfl ?_ | refine skD hC rfl rfl rfl ?_); refine runO hC tabOk 60 ?_; simp [go_sem])
  refine call hC [] (by kernel_rfl) rfl rfl rfl rfl rfl fun m23 g23 p23 e23 => ⟨_, plain229 x 1 h_x _ k_x.to, fun v23 u23 q23 s23 hv23 => ?_⟩
  subst hv23
  cases c3 : plainS x 1 with
  | false =>
    refine runO hC tabOk 60 ?_
    simp [go_sem]
    repeat ((first | refine condT rfl ?_ | refine condF rfl ?_ | refine skD hC rfl rfl rfl ?_); refine runO hC tabOk 60 ?_; simp [go_sem])
    refine kend (fun _ => 1) fun m8 g8 p8 e8 => ⟨(false, g8), ?_, rfl, ⟨by simp [go_sem], by simp [go_sem], rfl, bxs_ok (n := 2) (Nat.le_refl _) (by simp [go_sem]), by simp [go_sem], ⟨_, rfl⟩⟩, by simp [go_sem]⟩
    exact ⟨by simp [c3], Keeps.mono (Kp.ks (g := g) (g' := g8)) (by simp)⟩
  | true =>
  refine runO hC tabOk 60 ?_
  simp [go_sem]
  repeat ((first | refine condT rfl ?_ | refine condF rfl ?_ | refine skD hC rfl rfl rfl ?_); refine runO hC tabOk 60 ?_; simp [go_sem])
  refine small (fun _ => 1) rfl fun m44 g44 p44 e44 => ⟨⟨[(33, .c (.v (.int .i64 4))), (32, .ag [.v (.int .i64 1), .v (.int .i64 2), .v (.int .i64 0), .v (.int .i64 1), .v (.int .i64 1), .v (.int .i64 3)]), (7, .c (.v (.bool true))), (0, .c (.v (.string svc))), (3, .c (.bp 0 0)), (4, .c (.bp 1 0))], [], [(0, ⟨25, [.v (.int .i64 3), .v (.string .empty), .v (.int .i64 0), .v (.slice (some ⟨b0, off0, none⟩) 6 h.cap)], false⟩), (1, ⟨70, [.v (.string .empty), .v (.int .i64 0), .v (.int .i64 0), .v (.string .empty), .v (.int .i64 0), .v (.slice none 0 0), .v (.string .empty), .v (.int .i64 0), .v (.int .i64 0), .v (.int .i64 0), .v (.string .empty), .v (.int .i64 0), .v (.slice none 0 0)], false⟩)], [], 2⟩, ⟨by simp [go_sem], by simp [go_sem], rfl, bxs_ok (n := 2) (Nat.le_refl _) (by simp [go_sem]), by simp [go_sem], ⟨_, rfl⟩⟩, by simp, ?_⟩
  refine reroll ?_
  refine runO hC tabOk 60 ?_
  simp [go_sem]
  repeat ((first | refine condT rfl ?_ | refine condF rfl ?_ | refine skD hC rfl rfl rfl ?_); refine runO hC tabOk 60 ?_; simp [go_sem])
  refine vo hC (vo_ixa (vs := [.int .i64 1, .int .i64 2, .int .i64 0, .int .i64 1, .int .i64 1, .int .i64 3]) (v := .int .i64 1) hC tabOk rfl rfl (fun _ => rfl) rfl Tryz.underlying296 rfl rfl rfl (by omega) (by omega) rfl) rfl rfl rfl ?_
  refine runO hC tabOk 60 ?_
  simp [go_sem]
  repeat ((first | refine condT rfl ?_ | refine condF rfl ?_ | refine skD hC rfl rfl rfl ?_); refine runO hC tabOk 60 ?_; simp [go_sem])
  refine vo hC (vo_index hC tabOk rfl rfl rfl rfl rfl rfl (by omega) (by omega)) rfl rfl rfl ?_
  refine runO hC tabOk 60 ?_
  simp [go_sem]
  repeat ((first | refine condT rfl ?_ | refine condF rfl ?_ | refine skD hC rfl rfl rfl ?_); refine runO hC tabOk 60 ?_; simp [go_sem])
  refine vo hC (vo_load hC tabOk hcs_y.to rfl rfl rfl rfl rfl) rfl rfl rfl ?_
  refine runO hC tabOk 60 ?_
  simp [go_sem]
  repeat ((first | refine condT rfl ?_ | refine condF rfl ?_ | refine skD hC rfl rfl rfl ?_); refine runO hC tabOk 60 ?_; simp [go_sem])
  refine call hC [] (by kernel_rfl) rfl rfl rfl rfl rfl fun m24 g24 p24 e24 => ⟨_, plain229 y 1 h_y _ k_y.to, fun v24 u24 q24 s24 hv24 => ?_⟩
  subst hv24
  cases c4 : plainS y 1 with
  | false =>
    refine runO hC tabOk 60 ?_
    simp [go_sem]
    repeat ((first | refine condT rfl ?_ | refine condF rfl ?_ | refine skD hC rfl rfl rfl ?_); refine runO hC tabOk 60 ?_; simp [go_sem])
    refine kend (fun _ => 1) fun m8 g8 p8 e8 => ⟨(false, g8), ?_, rfl, ⟨by simp [go_sem], by simp [go_sem], rfl, bxs_ok (n := 2) (Nat.le_refl _) (by simp [go_sem]), by simp [go_sem], ⟨_, rfl⟩⟩, by simp [go_sem]⟩
    exact ⟨by simp [c4], Keeps.mono (Kp.ks (g := g) (g' := g8)) (by simp)⟩
  | true =>
  refine runO hC tabOk 60 ?_
  simp [go_sem]
  repeat ((first | refine condT rfl ?_ | refine condF rfl ?_ | refine skD hC rfl rfl rfl ?_); refine runO hC tabOk 60 ?_; simp [go_sem])
  refine small (fun _ => 1) rfl fun m45 g45 p45 e45 => ⟨⟨[(33, .c (.v (.int .i64 5))), (32, .ag [.v (.int .i64 1), .v (.int .i64 2), .v (.int .i64 0), .v (.int .i64 1), .v (.int .i64 1), .v (.int .i64 3)]), (7, .c (.v (.bool true))), (0, .c (.v (.string svc))), (3, .c (.bp 0 0)), (4, .c (.bp 1 0))], [], [(0, ⟨25, [.v (.int .i64 3), .v (.string .empty), .v (.int .i64 0), .v (.slice (some ⟨b0, off0, none⟩) 6 h.cap)], false⟩), (1, ⟨70, [.v (.string .empty), .v (.int .i64 0), .v (.int .i64 0), .v (.string .empty), .v (.int .i64 0), .v (.slice none 0 0), .v (.string .empty), .v (.int .i64 0), .v (.int .i64 0), .v (.int .i64 0), .v (.string .empty), .v (.int .i64 0), .v (.slice none 0 0)], false⟩)], [], 2⟩, ⟨by simp [go_sem], by simp [go_sem], rfl, bxs_ok (n := 2) (Nat.le_refl _) (by simp [go_sem]), by simp [go_sem], ⟨_, rfl⟩⟩, by simp, ?_⟩
  refine reroll ?_
  refine runO hC tabOk 60 ?_
  simp [go_sem]
  repeat ((first | refine condT rfl ?_ | refine condF rfl ?_ | refine skD hC rfl rfl rfl ?_); refine runO hC tabOk 60 ?_; simp [go_sem])
  refine vo hC (vo_ixa (vs := [.int .i64 1, .int .i64 2, .int .i64 0, .int .i64 1, .int .i64 1, .int .i64 3]) (v := .int .i64 3) hC tabOk rfl rfl (fun _ => rfl) rfl Tryz.underlying296 rfl rfl rfl (by omega) (by omega) rfl) rfl rfl rfl ?_
  refine runO hC tabOk 60 ?_
  simp [go_sem]
  repeat ((first | refine condT rfl ?_ | refine condF rfl ?_ | refine skD hC rfl rfl rfl ?_); refine runO hC tabOk 60 ?_; simp [go_sem])
  refine vo hC (vo_index hC tabOk rfl rfl rfl rfl rfl rfl (by omega) (by omega)) rfl rfl rfl ?_
  refine runO hC tabOk 60 ?_
  simp [go_sem]
  repeat ((first | refine condT rfl ?_ | refine condF rfl ?_ | refine skD hC rfl rfl rfl ?_); refine runO hC tabOk 60 ?_; simp [go_sem])
  refine vo hC (vo_load1 hC tabOk ((hcs_a.to (g' := _)).one 0 rfl) rfl rfl rfl rfl) rfl rfl rfl ?_
  by_cases c5 : a.k = 3
  rotate_left
  · refine runO hC tabOk 60 ?_
    simp [go_sem, c5]
    repeat ((first | refine condT rfl ?_ | refine condF rfl ?_ | refine skD hC rfl rfl rfl ?_); refine runO hC tabOk 60 ?_; simp [go_sem, c5])
    try (refine runO hC tabOk 60 ?_; simp [go_sem, c5]; repeat ((first | refine condT rfl ?_ | refine condF rfl ?_ | refine skD hC rfl rfl rfl ?_); refine runO hC tabOk 60 ?_; simp [go_sem, c5]))
    refine kend (fun _ => 1) fun m8 g8 p8 e8 => ⟨(false, g8), ?_, rfl, ⟨by simp [go_sem], by simp [go_sem], rfl, bxs_ok (n := 2) (Nat.le_refl _) (by simp [go_sem]), by simp [go_sem], ⟨_, rfl⟩⟩, by simp [go_sem]⟩
    exact ⟨by simp [c5], Keeps.mono (Kp.ks (g := g) (g' := g8)) (by simp)⟩
  refine runO hC tabOk 60 ?_
  simp [go_sem, c5]
  repeat ((first | refine condT rfl ?_ | refine condF rfl ?_ | refine skD hC rfl rfl rfl ?_); refine runO hC tabOk 60 ?_; simp [go_sem, c5])
  try (refine runO hC tabOk 60 ?_; simp [go_sem, c5]; repeat ((first | refine condT rfl ?_ | refine condF rfl ?_ | refine skD hC rfl rfl rfl ?_); refine runO hC tabOk 60 ?_; simp [go_sem, c5]))
  refine small (fun _ => 1) rfl fun m46 g46 p46 e46 => ⟨⟨[(33, .c (.v (.int .i64 6))), (32, .ag [.v (.int .i64 1), .v (.int .i64 2), .v (.int .i64 0), .v (.int .i64 1), .v (.int .i64 1), .v (.int .i64 3)]), (7, .c (.v (.bool true))), (0, .c (.v (.string svc))), (3, .c (.bp 0 0)), (4, .c (.bp 1 0))], [], [(0, ⟨25, [.v (.int .i64 3), .v (.string .empty), .v (.int .i64 0), .v (.slice (some ⟨b0, off0, none⟩) 6 h.cap)], false⟩), (1, ⟨70, [.v (.string .empty), .v (.int .i64 0), .v (.int .i64 0), .v (.string .empty), .v (.int .i64 0), .v (.slice none 0 0), .v (.string .empty), .v (.int .i64 0), .v (.int .i64 0), .v (.int .i64 0), .v (.string .empty), .v (.int .i64 0), .v (.slice none 0 0)], false⟩)], [], 2⟩, ⟨by simp [go_sem], by simp [go_sem], rfl, bxs_ok (n := 2) (Nat.le_refl _) (by simp [go_sem]), by simp [go_sem], ⟨_, rfl⟩⟩, by simp, ?_⟩
  refine reroll ?_
  refine runO hC tabOk 60 ?_
  simp [go_sem]
  repeat ((first | refine condT rfl ?_ | refine condF rfl ?_ | refine skD hC rfl rfl rfl ?_); refine runO hC tabOk 60 ?_; simp [go_sem])
  refine kend (fun _ => 1) fun m8 g8 p8 e8 => ⟨(true, g8), ?_, rfl, ⟨by simp [go_sem], by simp [go_sem], rfl, bxs_ok (n := 2) (Nat.le_refl _) (by simp [go_sem]), by simp [go_sem], ⟨_, rfl⟩⟩, by simp [go_sem]⟩
  exact ⟨by simp [c0, c1, c2, c3, c4, c5], Keeps.mono (Kp.ks (g := g) (g' := g8)) (by simp)⟩

end Go.Proofs.YtobhfopgoidniaaGreat

/- Tickets: opened. -/
namespace Go.Proofs.YtobhfopgoidniaaGreat
open Go Go.Eng

/-- The ticket that a term is. -/
def openS (t key : T) : Tkt × Int := if (serviceS t).2 = 0 then (match t.l with
  | [_, _, z] => if (boxS z key 2).2 = 0 then bodyS (serviceS t).1 (boxS z key 2).1 else (Tkt0, (boxS z key 2).2)
  | _ => (Tkt0, 50)) else (Tkt0, (serviceS t).2)

theorem service_or (t : T) : (serviceS t).2 = 0 ∧ (∃ x y z, t.l = [x, y, z]) ∨ ∃ e, e ≠ 0 ∧ serviceS t = (.empty, e) := by
  rcases take_or t sTicket 2 with ⟨e0, hlen, el⟩ | e0
  · obtain ⟨x, y, exy⟩ : ∃ x y, (takeS t sTicket 2).1 = [x, y] := by
      match hq : (takeS t sTicket 2).1, hlen with
      | [x, y], _ => exact ⟨x, y, rfl⟩
    have et : takeS t sTicket 2 = ([x, y], 0) := Prod.ext exy e0
    rw [exy] at el
    cases h : plainS x 0 && nameS x.s
    · exact .inr ⟨50, by decide, by simp only [serviceS, et, h]; rfl⟩
    · exact .inl ⟨by simp only [serviceS, et, h]; rfl, _, _, _, el⟩
  · exact .inr ⟨50, by decide, by simp [serviceS, e0]⟩

theorem box_size (t key : T) (use : Int) : tw (boxS t key use).1 ≤ tw t := by
  have h0 : tw T0 ≤ tw t := by rw [tw_T0]; exact Nat.zero_le _
  have := tw_l t
  unfold boxS
  split
  · rename_i a b e
    have h1 : tw b ≤ tw t := by rw [this, e]; simp only [tws]; omega
    split
    · split
      · exact h1
      · exact h0
    · exact h0
  · exact h0

set_option maxHeartbeats 1000000 in
theorem topen53 (t key : T) (h hk : Hd) (g : G) (kt : TOk g t h) (ky : TOk g key hk) (hsz : tw t ≤ 2513169434843) : Ok Tryz.prog 53 [tv t h, tv key hk] g [61, 62, 63] (fun v g' => KE (openS t key) v g') := by
  refine fbegin Tryz.func53 rfl Tryz.ntmps53 (Nat.le_of_ble_eq_true rfl) fun C hw hC => ?_
  refine runO hC tabOk 60 ?_
  simp [go_sem]
  repeat ((first | refine condT rfl ?_ | refine condF rfl ?_ | refine skD hC rfl rfl rfl ?_); refine runO hC tabOk 60 ?_; simp [go_sem])
  refine call hC [] (by kernel_rfl) rfl rfl rfl rfl rfl fun m1 g1 p1 e1 => ⟨_, service150 t h _ kt.to, fun v1 u1 q1 s1 hv1 => ?_⟩
  obtain ⟨rfl, hss⟩ := hv1
  rcases service_or t with ⟨e0, x, y, z, el⟩ | ⟨e, he, e0⟩
  rotate_left
  · refine runO hC tabOk 60 ?_
    simp [go_sem, e0, he]
    repeat ((first | refine condT rfl ?_ | refine condF rfl ?_ | refine skD hC rfl rfl rfl ?_); refine runO hC tabOk 60 ?_; simp [go_sem, e0, he])
    try (refine runO hC tabOk 60 ?_; simp [go_sem, e0, he]; repeat ((first | refine condT rfl ?_ | refine condF rfl ?_ | refine skD hC rfl rfl rfl ?_); refine runO hC tabOk 60 ?_; simp [go_sem, e0, he]))
    refine ret hC tabOk (fun _ => 1) rfl rfl fun m gf hl ex => ?_
    have : openS t key = (Tkt0, e) := by simp [openS, e0, he]
    rw [this]
    exact ⟨⟨⟨none, 0⟩, ⟨none, 0⟩⟩, rfl, Tkt0_ok _⟩
  obtain ⟨b, off, hz, ea, hcs, kz⟩ := kt.lst.get (i := 2) (t := z) (by rw [el]; rfl)
  have hbs := box_size z key 2
  have hzs : tw z ≤ 2513169434843 := by
    have := tw_l t
    rw [el] at this
    simp only [tws] at this
    omega
  refine runO hC tabOk 60 ?_
  simp [go_sem, e0, el, ea]
  repeat ((first | refine condT rfl ?_ | refine condF rfl ?_ | refine skD hC rfl rfl rfl ?_); refine runO hC tabOk 60 ?_; simp [go_sem, e0, el, ea])
  try (refine runO hC tabOk 60 ?_; simp [go_sem, e0, el, ea]; repeat ((first | refine condT rfl ?_ | refine condF rfl ?_ | refine skD hC rfl rfl rfl ?_); refine runO hC tabOk 60 ?_; simp [go_sem, e0, el, ea]))
  refine draw hC [(0, 0), (1, 0), (2, 0), (3, 0), (4, 0), (9, 2), (5, 1), (6, 0), (7, 0), (8, 0), (9, 3), (10, 1)] [11] mix (by kernel_rfl) ?_
  refine runO hC tabOk 60 ?_
  simp [go_sem, el, ea]
  repeat ((first | refine condT rfl ?_ | refine condF rfl ?_ | refine skD hC rfl rfl rfl ?_); refine runO hC tabOk 60 ?_; simp [go_sem, el, ea])
  try (refine runO hC tabOk 60 ?_; simp [go_sem, el, ea]; repeat ((first | refine condT rfl ?_ | refine condF rfl ?_ | refine skD hC rfl rfl rfl ?_); refine runO hC tabOk 60 ?_; simp [go_sem, el, ea]))
  refine voD hC rfl (vo_index hC tabOk rfl rfl rfl rfl rfl rfl (by omega) (by omega)) rfl rfl rfl rfl ?_
  refine runO hC tabOk 60 ?_
  simp [go_sem]
  repeat ((first | refine condT rfl ?_ | refine condF rfl ?_ | refine skD hC rfl rfl rfl ?_); refine runO hC tabOk 60 ?_; simp [go_sem])
  refine voD hC rfl (vo_load hC tabOk hcs.to rfl rfl rfl rfl rfl) rfl rfl rfl rfl ?_
  refine runO hC tabOk 60 ?_
  simp [go_sem]
  repeat ((first | refine condT rfl ?_ | refine condF rfl ?_ | refine skD hC rfl rfl rfl ?_); refine runO hC tabOk 60 ?_; simp [go_sem])
  refine callD hC [] (by kernel_rfl) rfl rfl rfl rfl rfl rfl rfl rfl fun m2 g2 p2 e2 => ⟨_, box131 z key 2 hz hk _ kz.to ky.to, fun v2 u2 q2 s2 hv2 => ?_⟩
  obtain ⟨hb, rfl, kb⟩ := hv2
  by_cases e2 : (boxS z key 2).2 = 0
  rotate_left
  · refine runO hC tabOk 60 ?_
    simp [go_sem, e2]
    repeat ((first | refine condT rfl ?_ | refine condF rfl ?_ | refine skD hC rfl rfl rfl ?_); refine runO hC tabOk 60 ?_; simp [go_sem, e2])
    try (refine runO hC tabOk 60 ?_; simp [go_sem, e2]; repeat ((first | refine condT rfl ?_ | refine condF rfl ?_ | refine skD hC rfl rfl rfl ?_); refine runO hC tabOk 60 ?_; simp [go_sem, e2]))
    refine ret hC tabOk (fun _ => 1) rfl rfl fun m gf hl ex => ?_
    have : openS t key = (Tkt0, (boxS z key 2).2) := by simp [openS, e0, el, e2]
    rw [this]
    exact ⟨⟨⟨none, 0⟩, ⟨none, 0⟩⟩, rfl, Tkt0_ok _⟩
  refine runO hC tabOk 60 ?_
  simp [go_sem, e2]
  repeat ((first | refine condT rfl ?_ | refine condF rfl ?_ | refine skD hC rfl rfl rfl ?_); refine runO hC tabOk 60 ?_; simp [go_sem, e2])
  try (refine runO hC tabOk 60 ?_; simp [go_sem, e2]; repeat ((first | refine condT rfl ?_ | refine condF rfl ?_ | refine skD hC rfl rfl rfl ?_); refine runO hC tabOk 60 ?_; simp [go_sem, e2]))
  refine call hC [61,62,63] (by kernel_rfl) rfl rfl rfl rfl rfl fun m3 g3 p3 e3 => ⟨_, body151 (serviceS t).1 (boxS z key 2).1 hb _ kb.to hss (Nat.le_trans hbs hzs), fun v3 u3 q3 s3 hv3 => ?_⟩
  obtain ⟨hk3, rfl, k3⟩ := hv3
  refine runO hC tabOk 60 ?_
  simp [go_sem]
  repeat ((first | refine condT rfl ?_ | refine condF rfl ?_ | refine skD hC rfl rfl rfl ?_); refine runO hC tabOk 60 ?_; simp [go_sem])
  refine ret hC tabOk (fun _ => 1) rfl rfl fun m gf hl ex => ?_
  have : openS t key = bodyS (serviceS t).1 (boxS z key 2).1 := by simp [openS, e0, el, e2]
  rw [this]
  exact ⟨hk3, rfl, k3.to⟩
end Go.Proofs.YtobhfopgoidniaaGreat
