/- What is asked with a ticket: names and numbers. What is asked with a ticket: read. What is asked with a ticket: the ticket opened. -/
import Derived.Test.YtobhfopgoidniaaGreatJB
import Derived.Test.YtobhfopgoidniaaGreatED
set_option linter.all false
set_option linter.unusedVariables false
set_option linter.unusedSimpArgs false

/- What is asked with a ticket: names and numbers. -/
namespace Go.Proofs.YtobhfopgoidniaaGreat
open Go Go.Eng

def kindB (k : Int) (x : T) : Bool := if k = 1 then numB x else nameT x

/-- Are terms just names and numbers, kind by kind? -/
def plainL : List T → List Int → Bool
  | x :: l, k :: ks => kindB k x && plainL l ks
  | _, _ => true

def PlT (l : List T) (ks : List Int) (i : Nat) : Prop := plainL (l.take i) (ks.take i) = true

theorem plainL_app : ∀ (l1 : List T) (k1 : List Int) (l2 : List T) (k2 : List Int), l1.length = k1.length → plainL (l1 ++ l2) (k1 ++ k2) = (plainL l1 k1 && plainL l2 k2)
  | [], [], _, _, _ => rfl
  | [], _ :: _, _, _, h => by cases h
  | _ :: _, [], _, _, h => by cases h
  | x :: l1, k :: k1, l2, k2, h => by
    simp only [List.cons_append, plainL, plainL_app l1 k1 l2 k2 (by simpa using h), Bool.and_assoc]

theorem PlT.succ {l : List T} {ks : List Int} {i : Nat} (h : PlT l ks i) (h1 : i < l.length) (h2 : i < ks.length) (hk : kindB ks[i] l[i] = true) : PlT l ks (i + 1) := by
  unfold PlT at *
  rw [List.take_succ_eq_append_getElem h1, List.take_succ_eq_append_getElem h2, plainL_app _ _ _ _ (by simp; omega), h]
  simp [plainL, hk]

theorem plainL_no {l : List T} {ks : List Int} {i : Nat} (h1 : i < l.length) (h2 : i < ks.length) (hk : kindB ks[i] l[i] = false) : plainL l ks = false := by
  have e1 : l = l.take i ++ l.drop i := (List.take_append_drop i l).symm
  have e2 : ks = ks.take i ++ ks.drop i := (List.take_append_drop i ks).symm
  rw [e1, e2, plainL_app _ _ _ _ (by simp; omega), List.drop_eq_getElem_cons h1, List.drop_eq_getElem_cons h2]
  simp [plainL, hk]

theorem plainL_all {l : List T} {ks : List Int} (h : PlT l ks ks.length) (hl : ks.length ≤ l.length) : plainL l ks = true := by
  unfold PlT at h
  rw [List.take_length] at h
  have e1 : l = l.take ks.length ++ l.drop ks.length := (List.take_append_drop _ l).symm
  have e2 : ks = ks ++ [] := by simp
  rw [e1]
  conv => lhs; arg 2; rw [e2]
  rw [plainL_app _ _ _ _ (by simp; omega), h]
  cases List.drop ks.length l <;> rfl

theorem plain232 (l : List T) (h : Hd) (o : Nat) (ho : o ≠ 1) (ks : List Int) (hk : Hd) (g : G) (kl : LOk g l h) (kk : OOk ic g o ks hk) (hlen : ks.length ≤ l.length) :
    Ok Tryz.prog 232 [.slice h.a l.length h.cap, .slice hk.a ks.length hk.cap] g [] (fun v _ => v = .bool (plainL l ks)) := by
  have hkl : ks.length ≤ 9223372036854775807 := Nat.le_trans kk.len kk.cap
  refine fbegin Tryz.func232 rfl Tryz.ntmps232 (Nat.le_of_ble_eq_true rfl) fun C hw hC => ?_
  refine runO hC tabOk 60 ?_
  simp [go_sem]
  repeat ((first | refine condT rfl ?_ | refine condF rfl ?_ | refine skD hC rfl rfl rfl ?_); refine runO hC tabOk 60 ?_; simp [go_sem])
  refine small (fun _ => 1) rfl fun m0 gL p0 e0 => ⟨⟨(fun (x : Nat × G) => [(10, .c (.v (.int .i64 x.1))), (9, .c (.v (.int .i64 ks.length))), (8, .c (.v (.slice hk.a ks.length hk.cap))), (0, .c (.v (.slice h.a l.length h.cap)))]) ((0, gL)), [], (fun _ => []) ((0, gL)), [], 0⟩, ⟨by simp [go_sem], by simp [go_sem], rfl, by simp [go_sem], by simp [go_sem], ⟨_, rfl⟩⟩, by simp, ?_⟩
  refine loop (ι := Nat × G) (fun x => x.1 ≤ ks.length ∧ PlT l ks x.1 ∧ Keeps [1] g x.2) (fun x => x.2)
    (fun x => ⟨(fun (x : Nat × G) => [(10, .c (.v (.int .i64 x.1))), (9, .c (.v (.int .i64 ks.length))), (8, .c (.v (.slice hk.a ks.length hk.cap))), (0, .c (.v (.slice h.a l.length h.cap)))]) x, [], (fun _ => []) x, [], 0⟩) (fun x => ks.length - x.1) (fun ⟨i, g'⟩ ⟨hi, hp, hkp⟩ => ?_) ((0, gL)) (⟨Nat.zero_le _, rfl, Keeps.mono (Kp.ks (g := g) (g' := gL)) (by simp)⟩)
  dsimp only at hi hp hkp ⊢
  haveI : Later g g' := .of hkp (by decide)
  by_cases c1 : i < ks.length
  · have c2 : i < l.length := by omega
    obtain ⟨b1, o1, ea1, hcs1⟩ := (kk.ks hkp (by simp [ho])).row.get (List.getElem?_eq_getElem c1)
    obtain ⟨b2, o2, hx, ea2, hcs2, kx⟩ := (kl.to (g' := g')).get (List.getElem?_eq_getElem c2)
    have hst := kx.str
    have hsucc : kindB ks[i] l[i] = true → PlT l ks (i + 1) := hp.succ c2 c1
    have hno : kindB ks[i] l[i] = false → plainL l ks = false := plainL_no c2 c1
    generalize ks[i] = kd at hcs1 hsucc hno
    generalize l[i] = x at hcs2 kx hst hsucc hno
    rw [ea1, ea2]
    refine runO hC tabOk 60 ?_
    simp [go_sem, c1]
    repeat ((first | refine condT rfl ?_ | refine condF rfl ?_ | refine skD hC rfl rfl rfl ?_); refine runO hC tabOk 60 ?_; simp [go_sem, c1])
    try (refine runO hC tabOk 60 ?_; simp [go_sem, c1]; repeat ((first | refine condT rfl ?_ | refine condF rfl ?_ | refine skD hC rfl rfl rfl ?_); refine runO hC tabOk 60 ?_; simp [go_sem, c1]))
    refine vo hC (vo_index hC tabOk rfl rfl rfl rfl rfl rfl (by omega) (by omega)) rfl rfl rfl ?_
    refine runO hC tabOk 60 ?_
    simp [go_sem]
    repeat ((first | refine condT rfl ?_ | refine condF rfl ?_ | refine skD hC rfl rfl rfl ?_); refine runO hC tabOk 60 ?_; simp [go_sem])
    refine vo hC (vo_load1 hC tabOk hcs1 rfl rfl rfl rfl) (nc1 ho) rfl rfl ?_
    refine runO hC tabOk 60 ?_
    simp [go_sem]
    repeat ((first | refine condT rfl ?_ | refine condF rfl ?_ | refine skD hC rfl rfl rfl ?_); refine runO hC tabOk 60 ?_; simp [go_sem])
    refine vo hC (vo_index hC tabOk rfl rfl rfl rfl rfl rfl (by omega) (by omega)) rfl rfl rfl ?_
    refine runO hC tabOk 60 ?_
    simp [go_sem]
    repeat ((first | refine condT rfl ?_ | refine condF rfl ?_ | refine skD hC rfl rfl rfl ?_); refine runO hC tabOk 60 ?_; simp [go_sem])
    refine vo hC (vo_load1 hC tabOk (hcs2.one 1 rfl) rfl rfl rfl rfl) rfl rfl rfl ?_
    refine runO hC tabOk 60 ?_
    simp [go_sem]
    repeat ((first | refine condT rfl ?_ | refine condF rfl ?_ | refine skD hC rfl rfl rfl ?_); refine runO hC tabOk 60 ?_; simp [go_sem])
    refine call hC [] (by kernel_rfl) rfl rfl rfl rfl rfl fun m2 g2 p2 e2 => ⟨_, of118 x.s _, fun v2 u2 q2 s2 hv2 => ?_⟩
    subst hv2
    by_cases h1 : kd = 1
    · have d1 : decide (kd = 1) = true := by simp [h1]
      refine runO hC tabOk 60 ?_
      simp [go_sem, d1]
      repeat ((first | refine condT rfl ?_ | refine condF rfl ?_ | refine skD hC rfl rfl rfl ?_); refine runO hC tabOk 60 ?_; simp [go_sem, d1])
      try (refine runO hC tabOk 60 ?_; simp [go_sem, d1]; repeat ((first | refine condT rfl ?_ | refine condF rfl ?_ | refine skD hC rfl rfl rfl ?_); refine runO hC tabOk 60 ?_; simp [go_sem, d1]))
      refine vo hC (vo_index hC tabOk rfl rfl rfl rfl rfl rfl (by omega) (by omega)) rfl rfl rfl ?_
      refine runO hC tabOk 60 ?_
      simp [go_sem]
      repeat ((first | refine condT rfl ?_ | refine condF rfl ?_ | refine skD hC rfl rfl rfl ?_); refine runO hC tabOk 60 ?_; simp [go_sem])
      refine vo hC (vo_load1 hC tabOk ((hcs2.one 2 rfl).to) rfl rfl rfl rfl) rfl rfl rfl ?_
      refine runO hC tabOk 60 ?_
      simp [go_sem]
      repeat ((first | refine condT rfl ?_ | refine condF rfl ?_ | refine skD hC rfl rfl rfl ?_); refine runO hC tabOk 60 ?_; simp [go_sem])
      refine call hC [] (by kernel_rfl) rfl rfl rfl rfl rfl fun m3 g3 p3 e3 => ⟨_, num135 x.n _, fun v3 u3 q3 s3 hv3 => ?_⟩
      subst hv3
      refine runO hC tabOk 60 ?_
      simp [go_sem]
      repeat ((first | refine condT rfl ?_ | refine condF rfl ?_ | refine skD hC rfl rfl rfl ?_); refine runO hC tabOk 60 ?_; simp [go_sem])
      refine draw hC [(0, 0), (1, 0), (2, 0), (3, 0), (4, 0), (5, 1), (6, 0)] [] mix (by kernel_rfl) ?_
      refine runO hC tabOk 60 ?_
      simp [go_sem]
      repeat ((first | refine condT rfl ?_ | refine condF rfl ?_ | refine skD hC rfl rfl rfl ?_); refine runO hC tabOk 60 ?_; simp [go_sem])
      refine voD hC rfl (vo_index hC tabOk rfl rfl rfl rfl rfl rfl (by omega) (by omega)) rfl rfl rfl rfl ?_
      refine runO hC tabOk 60 ?_
      simp [go_sem]
      repeat ((first | refine condT rfl ?_ | refine condF rfl ?_ | refine skD hC rfl rfl rfl ?_); refine runO hC tabOk 60 ?_; simp [go_sem])
      refine voD hC rfl (vo_load hC tabOk hcs2.to rfl rfl rfl rfl rfl) rfl rfl rfl rfl ?_
      refine runO hC tabOk 60 ?_
      simp [go_sem]
      repeat ((first | refine condT rfl ?_ | refine condF rfl ?_ | refine skD hC rfl rfl rfl ?_); refine runO hC tabOk 60 ?_; simp [go_sem])
      refine callD hC [] (by kernel_rfl) rfl rfl rfl rfl rfl rfl rfl rfl fun m4 g4 p4 e4 => ⟨_, same44 x (numT x.n) hx ⟨none, 0⟩ _ kx.to (tok_leaf _ _ _ _ (Nat.zero_le _)), fun v4 u4 q4 s4 hv4 => ?_⟩
      subst hv4
      have e : kindB kd x = decide (x = numT x.n) := by unfold kindB; rw [if_pos h1]; rfl
      rw [e] at hsucc hno
      cases h2 : decide (x = numT x.n) with
      | false =>
        refine runO hC tabOk 60 ?_
        simp [go_sem]
        repeat ((first | refine condT rfl ?_ | refine condF rfl ?_ | refine skD hC rfl rfl rfl ?_); refine runO hC tabOk 60 ?_; simp [go_sem])
        refine ret hC tabOk (fun _ => 1) rfl rfl fun m gf hl ex => ?_
        rw [hno h2]
        simp [retv, SV.val, SC.val, vals]
      | true =>
        refine runO hC tabOk 60 ?_
        simp [go_sem]
        repeat ((first | refine condT rfl ?_ | refine condF rfl ?_ | refine skD hC rfl rfl rfl ?_); refine runO hC tabOk 60 ?_; simp [go_sem])
        refine again (fun _ => 1) fun m8 g8 p8 e8 => ⟨(i + 1, g8), ?_, ?_, rfl, ⟨by simp [go_sem], by simp [go_sem, ea1, ea2, wrap_inc (show i + 1 ≤ 9223372036854775807 by omega)], rfl, by simp [go_sem], by simp [go_sem], ⟨_, rfl⟩⟩, by simp [go_sem]⟩
        · exact ⟨c1, hsucc h2, hkp.then (by simp)⟩
        · dsimp only; omega
    · have d1 : decide (kd = 1) = false := by simp [h1]
      refine runO hC tabOk 60 ?_
      simp [go_sem, d1]
      repeat ((first | refine condT rfl ?_ | refine condF rfl ?_ | refine skD hC rfl rfl rfl ?_); refine runO hC tabOk 60 ?_; simp [go_sem, d1])
      try (refine runO hC tabOk 60 ?_; simp [go_sem, d1]; repeat ((first | refine condT rfl ?_ | refine condF rfl ?_ | refine skD hC rfl rfl rfl ?_); refine runO hC tabOk 60 ?_; simp [go_sem, d1]))
      refine draw hC [(0, 0), (1, 0), (2, 0), (3, 0), (4, 0), (5, 1), (6, 0)] [] mix (by kernel_rfl) ?_
      refine runO hC tabOk 60 ?_
      simp [go_sem]
      repeat ((first | refine condT rfl ?_ | refine condF rfl ?_ | refine skD hC rfl rfl rfl ?_); refine runO hC tabOk 60 ?_; simp [go_sem])
      refine voD hC rfl (vo_index hC tabOk rfl rfl rfl rfl rfl rfl (by omega) (by omega)) rfl rfl rfl rfl ?_
      refine runO hC tabOk 60 ?_
      simp [go_sem]
      repeat ((first | refine condT rfl ?_ | refine condF rfl ?_ | refine skD hC rfl rfl rfl ?_); refine runO hC tabOk 60 ?_; simp [go_sem])
      refine voD hC rfl (vo_load hC tabOk hcs2.to rfl rfl rfl rfl rfl) rfl rfl rfl rfl ?_
      refine runO hC tabOk 60 ?_
      simp [go_sem]
      repeat ((first | refine condT rfl ?_ | refine condF rfl ?_ | refine skD hC rfl rfl rfl ?_); refine runO hC tabOk 60 ?_; simp [go_sem])
      refine callD hC [] (by kernel_rfl) rfl rfl rfl rfl rfl rfl rfl rfl fun m4 g4 p4 e4 => ⟨_, same44 x (ofT x.s) hx ⟨none, 0⟩ _ kx.to (tok_leaf _ _ _ _ hst), fun v4 u4 q4 s4 hv4 => ?_⟩
      subst hv4
      have e : kindB kd x = decide (x = ofT x.s) := by unfold kindB; rw [if_neg h1]; rfl
      rw [e] at hsucc hno
      cases h2 : decide (x = ofT x.s) with
      | false =>
        refine runO hC tabOk 60 ?_
        simp [go_sem]
        repeat ((first | refine condT rfl ?_ | refine condF rfl ?_ | refine skD hC rfl rfl rfl ?_); refine runO hC tabOk 60 ?_; simp [go_sem])
        refine ret hC tabOk (fun _ => 1) rfl rfl fun m gf hl ex => ?_
        rw [hno h2]
        simp [retv, SV.val, SC.val, vals]
      | true =>
        refine runO hC tabOk 60 ?_
        simp [go_sem]
        repeat ((first | refine condT rfl ?_ | refine condF rfl ?_ | refine skD hC rfl rfl rfl ?_); refine runO hC tabOk 60 ?_; simp [go_sem])
        refine again (fun _ => 1) fun m8 g8 p8 e8 => ⟨(i + 1, g8), ?_, ?_, rfl, ⟨by simp [go_sem], by simp [go_sem, ea1, ea2, wrap_inc (show i + 1 ≤ 9223372036854775807 by omega)], rfl, by simp [go_sem], by simp [go_sem], ⟨_, rfl⟩⟩, by simp [go_sem]⟩
        · exact ⟨c1, hsucc h2, hkp.then (by simp)⟩
        · dsimp only; omega
  · refine runO hC tabOk 60 ?_
    simp [go_sem, c1]
    repeat ((first | refine condT rfl ?_ | refine condF rfl ?_ | refine skD hC rfl rfl rfl ?_); refine runO hC tabOk 60 ?_; simp [go_sem, c1])
    try (refine runO hC tabOk 60 ?_; simp [go_sem, c1]; repeat ((first | refine condT rfl ?_ | refine condF rfl ?_ | refine skD hC rfl rfl rfl ?_); refine runO hC tabOk 60 ?_; simp [go_sem, c1]))
    refine ret hC tabOk (fun _ => 1) rfl rfl fun m gf hl ex => ?_
    have e : i = ks.length := by omega
    subst e
    rw [plainL_all hp hlen]
    simp [retv, SV.val, SC.val, vals]
end Go.Proofs.YtobhfopgoidniaaGreat

/- What is asked with a ticket: read. -/
namespace Go.Proofs.YtobhfopgoidniaaGreat
open Go Go.Eng

/-- What is asked. -/
structure Asd where
  kind : ByteArray
  target : ByteArray
  nonce : Int
  extra : T
  tk : Tkt
  au : Au
  fr : Int
  till : Int
structure AsdH where
  ex : Hd
  tk : TktH
  au : AH
abbrev Asd0 : Asd := ⟨.empty, .empty, 0, T0, Tkt0, Au0, 0, 0⟩
abbrev AsdH0 : AsdH := ⟨⟨none, 0⟩, ⟨⟨none, 0⟩, ⟨none, 0⟩⟩, ⟨⟨none, 0⟩, ⟨none, 0⟩⟩⟩

def asc (a : Asd) (h : AsdH) : List Value := [.string a.kind, .string a.target, .int .i64 a.nonce,
  .int .i64 a.extra.k, .string a.extra.s, .int .i64 a.extra.n, .slice h.ex.a a.extra.l.length h.ex.cap,
  .string a.tk.svc, .int .i64 a.tk.fl, .int .i64 a.tk.key.k, .string a.tk.key.s, .int .i64 a.tk.key.n, .slice h.tk.key.a a.tk.key.l.length h.tk.key.cap, .string a.tk.cl, .int .i64 a.tk.fr, .int .i64 a.tk.till, .int .i64 a.tk.auth.k, .string a.tk.auth.s, .int .i64 a.tk.auth.n, .slice h.tk.auth.a a.tk.auth.l.length h.tk.auth.cap,
  .string a.au.user, .slice h.au.gr.a a.au.gr.length h.au.gr.cap, .int .i64 a.au.org, .slice h.au.tr.a a.au.tr.length h.au.tr.cap, .string a.au.svc, .bool a.au.fwd, .int .i64 a.au.till,
  .int .i64 a.fr, .int .i64 a.till]
attribute [go_sem] asc
def asv (a : Asd) (h : AsdH) : Value := .agg (asc a h).toArray
attribute [go_sem] asv

structure AsdOk (g : G) (a : Asd) (h : AsdH) : Prop where
  ex : TOk g a.extra h.ex
  tk : TktOk g a.tk h.tk
  au : AuOk g a.au h.au
  k : a.kind.size ≤ maxLen
  t : a.target.size ≤ maxLen
theorem AsdOk.to {g g' : G} [Later g g'] {a : Asd} {h : AsdH} (k : AsdOk g a h) : AsdOk g' a h := ⟨k.ex.to, k.tk.to, k.au.to, k.k, k.t⟩
theorem Asd0_ok (g : G) : AsdOk g Asd0 AsdH0 := ⟨T0_ok _, Tkt0_ok _, Au0_ok _, Nat.zero_le _, Nat.zero_le _⟩

def opc (a : Asd) (h : AsdH) (bc : Nat) (now : Int) (l : List T) (hl : Hd) (cen : T) (hc : Hd) : List Value := [.string a.kind, .string a.target, .int .i64 a.nonce,
  .int .i64 a.extra.k, .string a.extra.s, .int .i64 a.extra.n, .slice h.ex.a a.extra.l.length h.ex.cap,
  .string a.tk.svc, .int .i64 a.tk.fl, .int .i64 a.tk.key.k, .string a.tk.key.s, .int .i64 a.tk.key.n, .slice h.tk.key.a a.tk.key.l.length h.tk.key.cap, .string a.tk.cl, .int .i64 a.tk.fr, .int .i64 a.tk.till, .int .i64 a.tk.auth.k, .string a.tk.auth.s, .int .i64 a.tk.auth.n, .slice h.tk.auth.a a.tk.auth.l.length h.tk.auth.cap,
  .string a.au.user, .slice h.au.gr.a a.au.gr.length h.au.gr.cap, .int .i64 a.au.org, .slice h.au.tr.a a.au.tr.length h.au.tr.cap, .string a.au.svc, .bool a.au.fwd, .int .i64 a.au.till,
  .int .i64 a.fr, .int .i64 a.till, ptr bc, .int .i64 now, .slice hl.a l.length hl.cap, .int .i64 cen.k, .string cen.s, .int .i64 cen.n, .slice hc.a cen.l.length hc.cap]

/-- An opener, 50's. -/
def OpIs (g : G) (b : Nat) (a : Asd) (bc : Nat) (now : Int) (l : List T) (cen : T) : Prop := ∃ (h : AsdH) (hl hc : Hd), Ob g 50 b 223 (opc a h bc now l hl cen hc) ∧ AsdOk g a h ∧ LOk g l hl ∧ TOk g cen hc
theorem OpIs.ks {L : List Nat} {g g' : G} (hk : Keeps L g g') {b : Nat} {a : Asd} {bc : Nat} {now : Int} {l : List T} {cen : T} (k : OpIs g b a bc now l cen) (h0 : 50 ∉ L) (hz : 0 ∉ L) : OpIs g' b a bc now l cen := by
  obtain ⟨h, hl, hc, k1, k2, k3, k4⟩ := k
  haveI : Later g g' := .of hk hz
  exact ⟨h, hl, hc, k1.ks hk h0, k2.to, k3.to, k4.to⟩

/-- The parts of what is asked. -/
def rqS (t : T) : List T × Int := match takeS t sTgsReq 7 with
  | ([k, tg, n, tl, tk, au, ex], 0) => if nameT k && nameT tg && numB n && numB tl then ([k, tg, n, tl, tk, au, ex], 0) else ([], 50)
  | _ => ([], 50)

def rqA (l : List T) : Asd := match l with
  | [k, tg, n, _, _, _, ex] => ⟨k.s, tg.s, n.n, ex, Tkt0, Au0, 0, 0⟩
  | _ => Asd0

set_option maxHeartbeats 1000000 in
theorem oread154 (bo b bp : Nat) (c : Cen) (now : Int) (t : T) (h : Hd) (g : G) (k : CenIs g b bp c) (ko : OpIs g bo Asd0 b now [] T0) (kt : TOk g t h) :
    Ok Tryz.prog 154 [ptr bo, tv t h] g [50] (fun v g' => v = .int .i64 (if (rqS t).2 = 0 then (pkey c.ps sCentre).2 else 50) ∧ ((rqS t).2 = 0 → OpIs g' bo (rqA (rqS t).1) b now (rqS t).1 (pkey c.ps sCentre).1)) := by
  obtain ⟨h0, hl0, hc0, ko, koa, _, _⟩ := ko
  have fail : (rqS t) = ([], 50) → ∀ (v : Value) (g' : G), v = .int .i64 50 → v = .int .i64 (if (rqS t).2 = 0 then (pkey c.ps sCentre).2 else 50) ∧ ((rqS t).2 = 0 → OpIs g' bo (rqA (rqS t).1) b now (rqS t).1 (pkey c.ps sCentre).1) := by
    intro e v g' hv
    rw [e]
    exact ⟨by simpa using hv, fun q => by cases q⟩
  refine fbegin Tryz.func154 rfl Tryz.ntmps154 (Nat.le_of_ble_eq_true rfl) fun C hw hC => ?_
  refine runO hC tabOk 60 ?_
  simp [go_sem]
  repeat ((first | refine condT rfl ?_ | refine condF rfl ?_ | refine skD hC rfl rfl rfl ?_); refine runO hC tabOk 60 ?_; simp [go_sem])
  refine call hC [] (by kernel_rfl) rfl rfl rfl rfl rfl fun m1 g1 p1 e1 => ⟨_, take51 t sTgsReq 7 h _ kt.to (by decide), fun v1 u1 q1 s1 hv1 => ?_⟩
  obtain ⟨h1, rfl, kl⟩ := hv1
  rcases take_or t sTgsReq 7 with ⟨e0, hlen, el⟩ | e0
  rotate_left
  · refine runO hC tabOk 60 ?_
    simp [go_sem, e0]
    repeat ((first | refine condT rfl ?_ | refine condF rfl ?_ | refine skD hC rfl rfl rfl ?_); refine runO hC tabOk 60 ?_; simp [go_sem, e0])
    try (refine runO hC tabOk 60 ?_; simp [go_sem, e0]; repeat ((first | refine condT rfl ?_ | refine condF rfl ?_ | refine skD hC rfl rfl rfl ?_); refine runO hC tabOk 60 ?_; simp [go_sem, e0]))
    refine ret hC tabOk (fun _ => 1) rfl rfl fun m gf hl ex => ?_
    exact fail (by simp [rqS, e0]) _ _ rfl
  obtain ⟨x0, x1, x2, x3, x4, x5, x6, exy⟩ : ∃ x0 x1 x2 x3 x4 x5 x6, (takeS t sTgsReq 7).1 = [x0, x1, x2, x3, x4, x5, x6] := by
    match hq : (takeS t sTgsReq 7).1, hlen with
    | [x0, x1, x2, x3, x4, x5, x6], _ => exact ⟨x0, x1, x2, x3, x4, x5, x6, rfl⟩
  have et : takeS t sTgsReq 7 = ([x0, x1, x2, x3, x4, x5, x6], 0) := Prod.ext exy e0
  rw [et] at kl
  obtain ⟨b0, off0, h_0, ea, hcs_0, k_0⟩ := kl.get (i := 0) (t := x0) rfl
  obtain ⟨b1, off1, h_1, ea1, hcs_1, k_1⟩ := kl.get (i := 1) (t := x1) rfl
  rw [ea] at ea1
  obtain ⟨rfl, rfl, _⟩ := Addr.mk.inj (Option.some.inj ea1)
  obtain ⟨b1, off1, h_2, ea1, hcs_2, k_2⟩ := kl.get (i := 2) (t := x2) rfl
  rw [ea] at ea1
  obtain ⟨rfl, rfl, _⟩ := Addr.mk.inj (Option.some.inj ea1)
  obtain ⟨b1, off1, h_6, ea1, hcs_6, k_6⟩ := kl.get (i := 6) (t := x6) rfl
  rw [ea] at ea1
  obtain ⟨rfl, rfl, _⟩ := Addr.mk.inj (Option.some.inj ea1)
  refine runO hC tabOk 60 ?_
  simp [go_sem, et]
  repeat ((first | refine condT rfl ?_ | refine condF rfl ?_ | refine skD hC rfl rfl rfl ?_); refine runO hC tabOk 60 ?_; simp [go_sem, et])
  try (refine runO hC tabOk 60 ?_; simp [go_sem, et]; repeat ((first | refine condT rfl ?_ | refine condF rfl ?_ | refine skD hC rfl rfl rfl ?_); refine runO hC tabOk 60 ?_; simp [go_sem, et]))
  refine call hC [] (by kernel_rfl) rfl rfl rfl rfl rfl fun m2 g2 p2 e2 => ⟨_, plain232 [x0, x1, x2, x3, x4, x5, x6] h1 0 (by simp) [0, 0, 1, 1] ⟨some ⟨m2.getD 1 0, 0, none⟩, 4⟩ _ kl.to ⟨.inr ⟨_, 0, rfl, e2.frz (i := 1) rfl rfl rfl⟩, Nat.le_refl _, by simp [maxLen]⟩ (by simp), fun v2 u2 q2 s2 hv2 => ?_⟩
  subst hv2
  have ep : plainL [x0, x1, x2, x3, x4, x5, x6] [0, 0, 1, 1] = (nameT x0 && nameT x1 && numB x2 && numB x3) := by simp [plainL, kindB, Bool.and_assoc]
  rw [ep]
  cases h2 : (nameT x0 && nameT x1 && numB x2 && numB x3) with
  | false =>
    refine runO hC tabOk 60 ?_
    simp [go_sem]
    repeat ((first | refine condT rfl ?_ | refine condF rfl ?_ | refine skD hC rfl rfl rfl ?_); refine runO hC tabOk 60 ?_; simp [go_sem])
    refine ret hC tabOk (fun _ => 1) rfl rfl fun m gf hl ex => ?_
    exact fail (by simp only [rqS, et, h2]; rfl) _ _ rfl
  | true =>
  have hrq : rqS t = ([x0, x1, x2, x3, x4, x5, x6], 0) := by simp only [rqS, et, h2]; rfl
  refine runO hC tabOk 60 ?_
  simp [go_sem, ea]
  repeat ((first | refine condT rfl ?_ | refine condF rfl ?_ | refine skD hC rfl rfl rfl ?_); refine runO hC tabOk 60 ?_; simp [go_sem, ea])
  try (refine runO hC tabOk 60 ?_; simp [go_sem, ea]; repeat ((first | refine condT rfl ?_ | refine condF rfl ?_ | refine skD hC rfl rfl rfl ?_); refine runO hC tabOk 60 ?_; simp [go_sem, ea]))
  refine draw hC [(0, 0), (1, 0), (2, 0), (3, 0), (4, 0), (5, 0), (6, 0), (7, 0), (8, 0), (9, 0), (10, 0), (11, 0), (12, 0), (13, 0), (14, 0), (15, 0), (16, 0), (17, 0), (18, 0), (19, 0), (20, 0), (21, 0), (22, 0), (23, 1), (24, 0), (25, 0), (26, 0), (27, 1), (28, 0), (29, 0), (30, 0), (31, 1), (32, 0), (33, 0), (34, 0), (35, 1)] [36, 37, 38, 39] mix (by kernel_rfl) ?_
  refine runO hC tabOk 60 ?_
  simp [go_sem]
  repeat ((first | refine condT rfl ?_ | refine condF rfl ?_ | refine skD hC rfl rfl rfl ?_); refine runO hC tabOk 60 ?_; simp [go_sem])
  refine voD hC rfl (vo_index hC tabOk rfl rfl rfl rfl rfl rfl (by omega) (by omega)) rfl rfl rfl rfl ?_
  refine runO hC tabOk 60 ?_
  simp [go_sem]
  repeat ((first | refine condT rfl ?_ | refine condF rfl ?_ | refine skD hC rfl rfl rfl ?_); refine runO hC tabOk 60 ?_; simp [go_sem])
  refine voD hC rfl (vo_load1 hC tabOk ((hcs_0.one 1 rfl).to) rfl rfl rfl rfl) rfl rfl rfl rfl ?_
  refine runO hC tabOk 60 ?_
  simp [go_sem]
  repeat ((first | refine condT rfl ?_ | refine condF rfl ?_ | refine skD hC rfl rfl rfl ?_); refine runO hC tabOk 60 ?_; simp [go_sem])
  refine voD hC rfl (vo_index hC tabOk rfl rfl rfl rfl rfl rfl (by omega) (by omega)) rfl rfl rfl rfl ?_
  refine runO hC tabOk 60 ?_
  simp [go_sem]
  repeat ((first | refine condT rfl ?_ | refine condF rfl ?_ | refine skD hC rfl rfl rfl ?_); refine runO hC tabOk 60 ?_; simp [go_sem])
  refine voD hC rfl (vo_load1 hC tabOk ((hcs_1.one 1 rfl).to) rfl rfl rfl rfl) rfl rfl rfl rfl ?_
  refine runO hC tabOk 60 ?_
  simp [go_sem]
  repeat ((first | refine condT rfl ?_ | refine condF rfl ?_ | refine skD hC rfl rfl rfl ?_); refine runO hC tabOk 60 ?_; simp [go_sem])
  refine voD hC rfl (vo_index hC tabOk rfl rfl rfl rfl rfl rfl (by omega) (by omega)) rfl rfl rfl rfl ?_
  refine runO hC tabOk 60 ?_
  simp [go_sem]
  repeat ((first | refine condT rfl ?_ | refine condF rfl ?_ | refine skD hC rfl rfl rfl ?_); refine runO hC tabOk 60 ?_; simp [go_sem])
  refine voD hC rfl (vo_load1 hC tabOk ((hcs_2.one 2 rfl).to) rfl rfl rfl rfl) rfl rfl rfl rfl ?_
  refine runO hC tabOk 60 ?_
  simp [go_sem]
  repeat ((first | refine condT rfl ?_ | refine condF rfl ?_ | refine skD hC rfl rfl rfl ?_); refine runO hC tabOk 60 ?_; simp [go_sem])
  refine voD hC rfl (vo_index hC tabOk rfl rfl rfl rfl rfl rfl (by omega) (by omega)) rfl rfl rfl rfl ?_
  refine runO hC tabOk 60 ?_
  simp [go_sem]
  repeat ((first | refine condT rfl ?_ | refine condF rfl ?_ | refine skD hC rfl rfl rfl ?_); refine runO hC tabOk 60 ?_; simp [go_sem])
  refine voD hC rfl (vo_load hC tabOk hcs_6.to rfl rfl rfl rfl rfl) rfl rfl rfl rfl ?_
  refine runO hC tabOk 60 ?_
  simp [go_sem]
  repeat ((first | refine condT rfl ?_ | refine condF rfl ?_ | refine skD hC rfl rfl rfl ?_); refine runO hC tabOk 60 ?_; simp [go_sem])
  refine stobD hC tabOk 50 rfl (.inl (by simp)) rfl rfl rfl rfl rfl rfl rfl rfl rfl rfl rfl fun m9 g9 p9 e9 => ⟨223, _, ko.ks Kp.ks (by decide), by simp [opc, setV_len], fun g10 g11 p10 but10 p11 hob1 => ?_⟩
  refine runO hC tabOk 60 ?_
  simp [go_sem]
  repeat ((first | refine condT rfl ?_ | refine condF rfl ?_ | refine skD hC rfl rfl rfl ?_); refine runO hC tabOk 60 ?_; simp [go_sem])
  refine stobD hC tabOk 50 rfl (.inl (by simp)) rfl rfl rfl rfl rfl rfl rfl rfl rfl rfl rfl fun m12 g12 p12 e12 => ⟨223, _, hob1.ks Kp.ks (by decide), by simp [opc, setV_len], fun g13 g14 p13 but13 p14 hob2 => ?_⟩
  refine runO hC tabOk 60 ?_
  simp [go_sem]
  repeat ((first | refine condT rfl ?_ | refine condF rfl ?_ | refine skD hC rfl rfl rfl ?_); refine runO hC tabOk 60 ?_; simp [go_sem])
  refine stobD hC tabOk 50 rfl (.inl (by simp)) rfl rfl rfl rfl rfl rfl rfl rfl rfl rfl rfl fun m15 g15 p15 e15 => ⟨223, _, hob2.ks Kp.ks (by decide), by simp [opc, setV_len], fun g16 g17 p16 but16 p17 hob3 => ?_⟩
  refine runO hC tabOk 60 ?_
  simp [go_sem]
  repeat ((first | refine condT rfl ?_ | refine condF rfl ?_ | refine skD hC rfl rfl rfl ?_); refine runO hC tabOk 60 ?_; simp [go_sem])
  refine stobD hC tabOk 50 rfl (.inl (by simp)) rfl rfl rfl rfl rfl rfl rfl rfl rfl rfl rfl fun m18 g18 p18 e18 => ⟨223, _, hob3.ks Kp.ks (by decide), by simp [opc, setV_len], fun g19 g20 p19 but19 p20 hob4 => ?_⟩
  refine runO hC tabOk 60 ?_
  simp [go_sem]
  repeat ((first | refine condT rfl ?_ | refine condF rfl ?_ | refine skD hC rfl rfl rfl ?_); refine runO hC tabOk 60 ?_; simp [go_sem])
  refine stob hC tabOk 50 rfl (.inl (by simp)) rfl rfl rfl rfl rfl rfl rfl rfl fun m21 g21 p21 e21 => ⟨223, _, hob4.ks Kp.ks (by decide), by simp [opc, setV_len], fun g22 g23 p22 but22 p23 hob5 => ?_⟩
  have hob6 : Ob g23 50 bo 223 (opc ⟨x0.s, x1.s, x2.n, x6, Tkt0, Au0, 0, 0⟩ ⟨h_6, h0.tk, h0.au⟩ b now [x0, x1, x2, x3, x4, x5, x6] ⟨some ⟨b0, off0, none⟩, h1.cap⟩ T0 hc0) := hob5
  refine runO hC tabOk 60 ?_
  simp [go_sem]
  repeat ((first | refine condT rfl ?_ | refine condF rfl ?_ | refine skD hC rfl rfl rfl ?_); refine runO hC tabOk 60 ?_; simp [go_sem])
  refine vo hC (vo_load1 hC tabOk ((ob1 hob6 29 rfl).ks Kp.ks (by decide)) rfl rfl rfl rfl) rfl rfl rfl ?_
  refine runO hC tabOk 60 ?_
  simp [go_sem]
  repeat ((first | refine condT rfl ?_ | refine condF rfl ?_ | refine skD hC rfl rfl rfl ?_); refine runO hC tabOk 60 ?_; simp [go_sem])
  refine call hC [] (by kernel_rfl) rfl rfl rfl rfl rfl fun m30 g30 p30 e30 => ⟨_, key52 b bp c _ (k.ks Kp.ks (by decide) (by decide) (by decide) (by decide) (by decide) (by decide) (by decide) (by decide) (by decide)), fun v30 u30 q30 s30 hv30 => ?_⟩
  subst hv30
  refine runO hC tabOk 60 ?_
  simp [go_sem]
  repeat ((first | refine condT rfl ?_ | refine condF rfl ?_ | refine skD hC rfl rfl rfl ?_); refine runO hC tabOk 60 ?_; simp [go_sem])
  refine stob hC tabOk 50 rfl (.inl (by simp)) rfl rfl rfl rfl rfl rfl rfl rfl fun m31 g31 p31 e31 => ⟨223, _, hob6.ks Kp.ks (by decide), by simp [opc, setV_len], fun g32 g33 p32 but32 p33 hob7 => ?_⟩
  refine runO hC tabOk 60 ?_
  simp [go_sem]
  repeat ((first | refine condT rfl ?_ | refine condF rfl ?_ | refine skD hC rfl rfl rfl ?_); refine runO hC tabOk 60 ?_; simp [go_sem])
  refine ret hC tabOk (fun _ => 1) rfl rfl fun m gf hl ex => ?_
  rw [hrq]
  refine ⟨rfl, fun _ => ⟨⟨h_6, h0.tk, h0.au⟩, ⟨some ⟨b0, off0, none⟩, h1.cap⟩, ⟨none, 0⟩, hob7.ks Kp.ks (by decide), ⟨k_6.to, koa.tk.to, koa.au.to, k_0.str, k_1.str⟩, ⟨?_, kl.len, kl.cap⟩, (pkey_leaf c.ps sCentre _ (by decide)).1⟩⟩
  have := (kl.to (g' := gf)).row
  rw [ea] at this
  exact this
end Go.Proofs.YtobhfopgoidniaaGreat

/- What is asked with a ticket: the ticket opened. -/
namespace Go.Proofs.YtobhfopgoidniaaGreat
open Go Go.Eng

theorem body_size (svc : ByteArray) (b : T) : tw (bodyS svc b).1.auth ≤ tw b := by
  have h0 : tw T0 ≤ tw b := by rw [tw_T0]; exact Nat.zero_le _
  have := tw_l b
  unfold bodyS
  split
  · split
    · rename_i f k c x y a e
      split
      · have h1 : tw a ≤ tw b := by rw [this, e]; simp only [tws]; omega
        exact h1
      · exact h0
    · exact h0
  · exact h0

theorem open_size (t key : T) : tw (openS t key).1.auth ≤ tw t := by
  have h0 : tw T0 ≤ tw t := by rw [tw_T0]; exact Nat.zero_le _
  have := tw_l t
  unfold openS
  split
  · split
    · rename_i x y z e
      split
      · refine Nat.le_trans (body_size _ _) (Nat.le_trans (box_size z key 2) ?_)
        rw [this, e]; simp only [tws]; omega
      · exact h0
    · exact h0
  · exact h0

/-- The ticket that is shown. -/
def topenS (x4 cen : T) (now : Int) : Int :=
  if (serviceS x4).2 = 0 ∧ (serviceS x4).1 = sCentre then (if (openS x4 cen).2 = 0 then (if checkN ((openS x4 cen).1.fr, (openS x4 cen).1.till) now 0 = 0 then (if (verifyS (openS x4 cen).1.auth cen cen).2 = 0 then (if (verifyS (openS x4 cen).1.auth cen cen).1.svc = sCentre ∧ (verifyS (openS x4 cen).1.auth cen cen).1.till = (openS x4 cen).1.till then 0 else 62) else (verifyS (openS x4 cen).1.auth cen cen).2) else checkN ((openS x4 cen).1.fr, (openS x4 cen).1.till) now 0) else (openS x4 cen).2) else 50

set_option maxHeartbeats 1000000 in
theorem oopen155 (bo b : Nat) (a : Asd) (now : Int) (l : List T) (cen x4 : T) (g : G) (ko : OpIs g bo a b now l cen) (hx : l[4]? = some x4) (hsz : tw x4 ≤ 2513169434843) :
    Ok Tryz.prog 155 [ptr bo] g [50, 61, 62, 63] (fun v g' => v = .int .i64 (topenS x4 cen now) ∧ (topenS x4 cen now = 0 → OpIs g' bo { a with tk := (openS x4 cen).1, au := (verifyS (openS x4 cen).1.auth cen cen).1 } b now l cen)) := by
  obtain ⟨h0, hl0, hc0, ko, koa, kl, kcen⟩ := ko
  have hlt : 4 < l.length := (List.getElem?_eq_some_iff.1 hx).1
  obtain ⟨b0, off0, h_4, ea, hcs_4, k_4⟩ := kl.get hx
  have kopc : ∀ (a : Asd) (h0 : AsdH) j v, (tc cen hc0)[j]? = some v → (opc a h0 b now l hl0 cen hc0)[32 + j]? = some v := by
    intro a h0 j v hj
    match j with
    | 0 => exact hj
    | 1 => exact hj
    | 2 => exact hj
    | 3 => exact hj
    | j + 4 => cases hj
  refine fbegin Tryz.func155 rfl Tryz.ntmps155 (Nat.le_of_ble_eq_true rfl) fun C hw hC => ?_
  refine runO hC tabOk 60 ?_
  simp [go_sem]
  repeat ((first | refine condT rfl ?_ | refine condF rfl ?_ | refine skD hC rfl rfl rfl ?_); refine runO hC tabOk 60 ?_; simp [go_sem])
  refine vo hC (vo_load1 hC tabOk ((ob1 ko 31 rfl).ks Kp.ks (by decide)) rfl rfl rfl rfl) rfl rfl rfl ?_
  refine runO hC tabOk 60 ?_
  simp [go_sem, ea]
  repeat ((first | refine condT rfl ?_ | refine condF rfl ?_ | refine skD hC rfl rfl rfl ?_); refine runO hC tabOk 60 ?_; simp [go_sem, ea])
  try (refine runO hC tabOk 60 ?_; simp [go_sem, ea]; repeat ((first | refine condT rfl ?_ | refine condF rfl ?_ | refine skD hC rfl rfl rfl ?_); refine runO hC tabOk 60 ?_; simp [go_sem, ea]))
  refine vo hC (vo_index hC tabOk rfl rfl rfl rfl rfl rfl (by omega) (by omega)) rfl rfl rfl ?_
  refine runO hC tabOk 60 ?_
  simp [go_sem]
  repeat ((first | refine condT rfl ?_ | refine condF rfl ?_ | refine skD hC rfl rfl rfl ?_); refine runO hC tabOk 60 ?_; simp [go_sem])
  refine vo hC (vo_load hC tabOk hcs_4.to rfl rfl rfl rfl rfl) rfl rfl rfl ?_
  refine runO hC tabOk 60 ?_
  simp [go_sem]
  repeat ((first | refine condT rfl ?_ | refine condF rfl ?_ | refine skD hC rfl rfl rfl ?_); refine runO hC tabOk 60 ?_; simp [go_sem])
  refine call hC [] (by kernel_rfl) rfl rfl rfl rfl rfl fun m1 g1 p1 e1 => ⟨_, service150 x4 h_4 _ k_4.to, fun v1 u1 q1 s1 hv1 => ?_⟩
  obtain ⟨rfl, _⟩ := hv1
  by_cases h1 : (serviceS x4).2 = 0
  rotate_left
  · refine runO hC tabOk 60 ?_
    simp [go_sem, h1]
    repeat ((first | refine condT rfl ?_ | refine condF rfl ?_ | refine skD hC rfl rfl rfl ?_); refine runO hC tabOk 60 ?_; simp [go_sem, h1])
    try (refine runO hC tabOk 60 ?_; simp [go_sem, h1]; repeat ((first | refine condT rfl ?_ | refine condF rfl ?_ | refine skD hC rfl rfl rfl ?_); refine runO hC tabOk 60 ?_; simp [go_sem, h1]))
    refine ret hC tabOk (fun _ => 1) rfl rfl fun m gf hl ex => ?_
    have e : topenS x4 cen now = 50 := by unfold topenS; rw [if_neg (by intro q; exact h1 q.1)]
    rw [e]
    exact ⟨rfl, fun q => by cases q⟩
  by_cases h2 : (serviceS x4).1 = sCentre
  rotate_left
  · have d2 : decide ((serviceS x4).1 = ⟨#[99, 101, 110, 116, 114, 101]⟩) = false := by simpa [sCentre] using h2
    refine runO hC tabOk 60 ?_
    simp [go_sem, h1, d2]
    repeat ((first | refine condT rfl ?_ | refine condF rfl ?_ | refine skD hC rfl rfl rfl ?_); refine runO hC tabOk 60 ?_; simp [go_sem, h1, d2])
    try (refine runO hC tabOk 60 ?_; simp [go_sem, h1, d2]; repeat ((first | refine condT rfl ?_ | refine condF rfl ?_ | refine skD hC rfl rfl rfl ?_); refine runO hC tabOk 60 ?_; simp [go_sem, h1, d2]))
    refine ret hC tabOk (fun _ => 1) rfl rfl fun m gf hl ex => ?_
    have e : topenS x4 cen now = 50 := by unfold topenS; rw [if_neg (by intro q; exact h2 q.2)]
    rw [e]
    exact ⟨rfl, fun q => by cases q⟩
  have hS : topenS x4 cen now = (if (openS x4 cen).2 = 0 then (if checkN ((openS x4 cen).1.fr, (openS x4 cen).1.till) now 0 = 0 then (if (verifyS (openS x4 cen).1.auth cen cen).2 = 0 then (if (verifyS (openS x4 cen).1.auth cen cen).1.svc = sCentre ∧ (verifyS (openS x4 cen).1.auth cen cen).1.till = (openS x4 cen).1.till then 0 else 62) else (verifyS (openS x4 cen).1.auth cen cen).2) else checkN ((openS x4 cen).1.fr, (openS x4 cen).1.till) now 0) else (openS x4 cen).2) := by
    unfold topenS
    rw [if_pos ⟨h1, h2⟩]
  have d2 : decide ((serviceS x4).1 = ⟨#[99, 101, 110, 116, 114, 101]⟩) = true := by simpa [sCentre] using h2
  have hos := open_size x4 cen
  refine runO hC tabOk 60 ?_
  simp [go_sem, h1, d2]
  repeat ((first | refine condT rfl ?_ | refine condF rfl ?_ | refine skD hC rfl rfl rfl ?_); refine runO hC tabOk 60 ?_; simp [go_sem, h1, d2])
  try (refine runO hC tabOk 60 ?_; simp [go_sem, h1, d2]; repeat ((first | refine condT rfl ?_ | refine condF rfl ?_ | refine skD hC rfl rfl rfl ?_); refine runO hC tabOk 60 ?_; simp [go_sem, h1, d2]))
  refine draw hC [(0, 0), (1, 0), (2, 0), (3, 0), (4, 0), (5, 0), (6, 0), (7, 0), (8, 0), (9, 0), (10, 0), (11, 1), (12, 0), (13, 0), (14, 0)] [15, 16, 17, 18, 19] mix (by kernel_rfl) ?_
  refine runO hC tabOk 60 ?_
  simp [go_sem]
  repeat ((first | refine condT rfl ?_ | refine condF rfl ?_ | refine skD hC rfl rfl rfl ?_); refine runO hC tabOk 60 ?_; simp [go_sem])
  refine voD hC rfl (vo_load1 hC tabOk ((ob1 ko 31 rfl).ks Kp.ks (by decide)) rfl rfl rfl rfl) rfl rfl rfl rfl ?_
  refine runO hC tabOk 60 ?_
  simp [go_sem, ea]
  repeat ((first | refine condT rfl ?_ | refine condF rfl ?_ | refine skD hC rfl rfl rfl ?_); refine runO hC tabOk 60 ?_; simp [go_sem, ea])
  try (refine runO hC tabOk 60 ?_; simp [go_sem, ea]; repeat ((first | refine condT rfl ?_ | refine condF rfl ?_ | refine skD hC rfl rfl rfl ?_); refine runO hC tabOk 60 ?_; simp [go_sem, ea]))
  refine voD hC rfl (vo_index hC tabOk rfl rfl rfl rfl rfl rfl (by omega) (by omega)) rfl rfl rfl rfl ?_
  refine runO hC tabOk 60 ?_
  simp [go_sem]
  repeat ((first | refine condT rfl ?_ | refine condF rfl ?_ | refine skD hC rfl rfl rfl ?_); refine runO hC tabOk 60 ?_; simp [go_sem])
  refine voD hC rfl (vo_load hC tabOk hcs_4.to rfl rfl rfl rfl rfl) rfl rfl rfl rfl ?_
  refine runO hC tabOk 60 ?_
  simp [go_sem]
  repeat ((first | refine condT rfl ?_ | refine condF rfl ?_ | refine skD hC rfl rfl rfl ?_); refine runO hC tabOk 60 ?_; simp [go_sem])
  refine voD hC rfl (vo_load hC tabOk ((ko.cs 32 (kopc _ _)).ks Kp.ks (by decide)) rfl rfl rfl rfl rfl) rfl rfl rfl rfl ?_
  refine runO hC tabOk 60 ?_
  simp [go_sem]
  repeat ((first | refine condT rfl ?_ | refine condF rfl ?_ | refine skD hC rfl rfl rfl ?_); refine runO hC tabOk 60 ?_; simp [go_sem])
  refine callD hC [61,62,63] (by kernel_rfl) rfl rfl rfl rfl rfl rfl rfl rfl fun m2 g2 p2 e2 => ⟨_, topen53 x4 cen h_4 hc0 _ k_4.to kcen.to hsz, fun v2 u2 q2 s2 hv2 => ?_⟩
  obtain ⟨hk2, rfl, ktk⟩ := hv2
  generalize hot : openS x4 cen = ot at ktk hS hos ⊢
  refine runO hC tabOk 60 ?_
  simp [go_sem]
  repeat ((first | refine condT rfl ?_ | refine condF rfl ?_ | refine skD hC rfl rfl rfl ?_); refine runO hC tabOk 60 ?_; simp [go_sem])
  refine stob hC tabOk 50 rfl (.inl (by simp)) rfl rfl rfl rfl rfl rfl rfl rfl fun m9 g9 p9 e9 => ⟨223, _, ko.ks Kp.ks (by decide), by simp [opc, setV_len], fun g10 g11 p10 but10 p11 hob1 => ?_⟩
  have hob2 : Ob g11 50 bo 223 (opc { a with tk := ot.1 } { h0 with tk := hk2 } b now l hl0 cen hc0) := hob1
  by_cases h3 : ot.2 = 0
  rotate_left
  · refine runO hC tabOk 60 ?_
    simp [go_sem, h3]
    repeat ((first | refine condT rfl ?_ | refine condF rfl ?_ | refine skD hC rfl rfl rfl ?_); refine runO hC tabOk 60 ?_; simp [go_sem, h3])
    try (refine runO hC tabOk 60 ?_; simp [go_sem, h3]; repeat ((first | refine condT rfl ?_ | refine condF rfl ?_ | refine skD hC rfl rfl rfl ?_); refine runO hC tabOk 60 ?_; simp [go_sem, h3]))
    refine ret hC tabOk (fun _ => 1) rfl rfl fun m gf hl ex => ?_
    rw [if_neg h3] at hS
    rw [hS]
    exact ⟨rfl, fun q => absurd q h3⟩
  rw [if_pos h3] at hS
  refine runO hC tabOk 60 ?_
  simp [go_sem, h3]
  repeat ((first | refine condT rfl ?_ | refine condF rfl ?_ | refine skD hC rfl rfl rfl ?_); refine runO hC tabOk 60 ?_; simp [go_sem, h3])
  try (refine runO hC tabOk 60 ?_; simp [go_sem, h3]; repeat ((first | refine condT rfl ?_ | refine condF rfl ?_ | refine skD hC rfl rfl rfl ?_); refine runO hC tabOk 60 ?_; simp [go_sem, h3]))
  refine draw hC [(0, 0), (1, 0), (2, 0), (3, 0), (4, 0), (5, 0), (6, 0), (7, 0), (8, 0), (9, 0), (10, 1)] [11] mix (by kernel_rfl) ?_
  refine runO hC tabOk 60 ?_
  simp [go_sem]
  repeat ((first | refine condT rfl ?_ | refine condF rfl ?_ | refine skD hC rfl rfl rfl ?_); refine runO hC tabOk 60 ?_; simp [go_sem])
  refine voD hC rfl (vo_load hC tabOk ((hob2.cs 14 (vs := [.int .i64 ot.1.fr, .int .i64 ot.1.till]) (by intro j v hj; match j with | 0 => exact hj | 1 => exact hj | j + 2 => cases hj)).ks Kp.ks (by decide)) rfl rfl rfl rfl rfl) rfl rfl rfl rfl ?_
  refine runO hC tabOk 60 ?_
  simp [go_sem]
  repeat ((first | refine condT rfl ?_ | refine condF rfl ?_ | refine skD hC rfl rfl rfl ?_); refine runO hC tabOk 60 ?_; simp [go_sem])
  refine voD hC rfl (vo_load1 hC tabOk ((ob1 hob2 30 rfl).ks Kp.ks (by decide)) rfl rfl rfl rfl) rfl rfl rfl rfl ?_
  refine runO hC tabOk 60 ?_
  simp [go_sem]
  repeat ((first | refine condT rfl ?_ | refine condF rfl ?_ | refine skD hC rfl rfl rfl ?_); refine runO hC tabOk 60 ?_; simp [go_sem])
  refine callD hC [] (by kernel_rfl) rfl rfl rfl rfl rfl rfl rfl rfl fun m3 g3 p3 e3 => ⟨_, check233 ot.1.fr ot.1.till now 0 _, fun v3 u3 q3 s3 hv3 => ?_⟩
  subst hv3
  by_cases h4 : checkN (ot.1.fr, ot.1.till) now 0 = 0
  rotate_left
  · refine runO hC tabOk 60 ?_
    simp [go_sem, h4]
    repeat ((first | refine condT rfl ?_ | refine condF rfl ?_ | refine skD hC rfl rfl rfl ?_); refine runO hC tabOk 60 ?_; simp [go_sem, h4])
    try (refine runO hC tabOk 60 ?_; simp [go_sem, h4]; repeat ((first | refine condT rfl ?_ | refine condF rfl ?_ | refine skD hC rfl rfl rfl ?_); refine runO hC tabOk 60 ?_; simp [go_sem, h4]))
    refine ret hC tabOk (fun _ => 1) rfl rfl fun m gf hl ex => ?_
    rw [if_neg h4] at hS
    rw [hS]
    exact ⟨rfl, fun q => absurd q h4⟩
  rw [if_pos h4] at hS
  refine runO hC tabOk 60 ?_
  simp [go_sem, h4]
  repeat ((first | refine condT rfl ?_ | refine condF rfl ?_ | refine skD hC rfl rfl rfl ?_); refine runO hC tabOk 60 ?_; simp [go_sem, h4])
  try (refine runO hC tabOk 60 ?_; simp [go_sem, h4]; repeat ((first | refine condT rfl ?_ | refine condF rfl ?_ | refine skD hC rfl rfl rfl ?_); refine runO hC tabOk 60 ?_; simp [go_sem, h4]))
  refine draw hC [(0, 0), (1, 0), (2, 0), (3, 0), (4, 0), (5, 0), (6, 0), (7, 0), (8, 0), (9, 0), (10, 0), (11, 0), (12, 0), (13, 0), (14, 0), (15, 1), (16, 0), (17, 0), (18, 0)] [19, 20, 21, 22, 23] mix (by kernel_rfl) ?_
  refine runO hC tabOk 60 ?_
  simp [go_sem]
  repeat ((first | refine condT rfl ?_ | refine condF rfl ?_ | refine skD hC rfl rfl rfl ?_); refine runO hC tabOk 60 ?_; simp [go_sem])
  refine voD hC rfl (vo_load hC tabOk ((hob2.cs 16 (vs := [.int .i64 ot.1.auth.k, .string ot.1.auth.s, .int .i64 ot.1.auth.n, .slice hk2.auth.a ot.1.auth.l.length hk2.auth.cap]) (by intro j v hj; match j with | 0 => exact hj | 1 => exact hj | 2 => exact hj | 3 => exact hj | j + 4 => cases hj)).ks Kp.ks (by decide)) rfl rfl rfl rfl rfl) rfl rfl rfl rfl ?_
  refine runO hC tabOk 60 ?_
  simp [go_sem]
  repeat ((first | refine condT rfl ?_ | refine condF rfl ?_ | refine skD hC rfl rfl rfl ?_); refine runO hC tabOk 60 ?_; simp [go_sem])
  refine voD hC rfl (vo_load hC tabOk ((hob2.cs 32 (kopc _ _)).ks Kp.ks (by decide)) rfl rfl rfl rfl rfl) rfl rfl rfl rfl ?_
  refine runO hC tabOk 60 ?_
  simp [go_sem]
  repeat ((first | refine condT rfl ?_ | refine condF rfl ?_ | refine skD hC rfl rfl rfl ?_); refine runO hC tabOk 60 ?_; simp [go_sem])
  refine voD hC rfl (vo_load hC tabOk ((hob2.cs 32 (kopc _ _)).ks Kp.ks (by decide)) rfl rfl rfl rfl rfl) rfl rfl rfl rfl ?_
  refine runO hC tabOk 60 ?_
  simp [go_sem]
  repeat ((first | refine condT rfl ?_ | refine condF rfl ?_ | refine skD hC rfl rfl rfl ?_); refine runO hC tabOk 60 ?_; simp [go_sem])
  refine callD hC [61,62,63] (by kernel_rfl) rfl rfl rfl rfl rfl rfl rfl rfl fun m4 g4 p4 e4 => ⟨_, verify54 ot.1.auth cen cen hk2.auth hc0 hc0 _ ktk.auth.to kcen.to kcen.to (by omega), fun v4 u4 q4 s4 hv4 => ?_⟩
  obtain ⟨hau, rfl, kau⟩ := hv4
  generalize hvt : verifyS ot.1.auth cen cen = vt at kau hS ⊢
  refine runO hC tabOk 60 ?_
  simp [go_sem]
  repeat ((first | refine condT rfl ?_ | refine condF rfl ?_ | refine skD hC rfl rfl rfl ?_); refine runO hC tabOk 60 ?_; simp [go_sem])
  refine stob hC tabOk 50 rfl (.inl (by simp)) rfl rfl rfl rfl rfl rfl rfl rfl fun m12 g12 p12 e12 => ⟨223, _, hob2.ks Kp.ks (by decide), by simp [opc, setV_len], fun g13 g14 p13 but13 p14 hob3 => ?_⟩
  have hob4 : Ob g14 50 bo 223 (opc { a with tk := ot.1, au := vt.1 } { h0 with tk := hk2, au := hau } b now l hl0 cen hc0) := hob3
  by_cases h5 : vt.2 = 0
  rotate_left
  · refine runO hC tabOk 60 ?_
    simp [go_sem, h5]
    repeat ((first | refine condT rfl ?_ | refine condF rfl ?_ | refine skD hC rfl rfl rfl ?_); refine runO hC tabOk 60 ?_; simp [go_sem, h5])
    try (refine runO hC tabOk 60 ?_; simp [go_sem, h5]; repeat ((first | refine condT rfl ?_ | refine condF rfl ?_ | refine skD hC rfl rfl rfl ?_); refine runO hC tabOk 60 ?_; simp [go_sem, h5]))
    refine ret hC tabOk (fun _ => 1) rfl rfl fun m gf hl ex => ?_
    rw [if_neg h5] at hS
    rw [hS]
    exact ⟨rfl, fun q => absurd q h5⟩
  rw [if_pos h5] at hS
  refine runO hC tabOk 60 ?_
  simp [go_sem, h5]
  repeat ((first | refine condT rfl ?_ | refine condF rfl ?_ | refine skD hC rfl rfl rfl ?_); refine runO hC tabOk 60 ?_; simp [go_sem, h5])
  try (refine runO hC tabOk 60 ?_; simp [go_sem, h5]; repeat ((first | refine condT rfl ?_ | refine condF rfl ?_ | refine skD hC rfl rfl rfl ?_); refine runO hC tabOk 60 ?_; simp [go_sem, h5]))
  refine draw hC [(0, 0), (1, 0), (2, 0), (3, 0), (4, 0), (5, 0), (6, 0), (7, 0), (8, 0), (9, 0), (10, 0), (11, 0), (12, 0), (13, 0), (14, 0), (15, 0), (16, 0), (17, 0), (18, 0), (19, 0), (20, 0), (21, 0), (22, 0)] [] mix (by kernel_rfl) ?_
  refine runO hC tabOk 60 ?_
  simp [go_sem]
  repeat ((first | refine condT rfl ?_ | refine condF rfl ?_ | refine skD hC rfl rfl rfl ?_); refine runO hC tabOk 60 ?_; simp [go_sem])
  refine voD hC rfl (vo_load1 hC tabOk ((ob1 hob4 24 rfl).ks Kp.ks (by decide)) rfl rfl rfl rfl) rfl rfl rfl rfl ?_
  by_cases h6 : vt.1.svc = sCentre
  rotate_left
  · have d6 : decide (vt.1.svc = ⟨#[99, 101, 110, 116, 114, 101]⟩) = false := by simpa [sCentre] using h6
    refine runO hC tabOk 60 ?_
    simp [go_sem, d6]
    repeat ((first | refine condT rfl ?_ | refine condF rfl ?_ | refine skD hC rfl rfl rfl ?_); refine runO hC tabOk 60 ?_; simp [go_sem, d6])
    try (refine runO hC tabOk 60 ?_; simp [go_sem, d6]; repeat ((first | refine condT rfl ?_ | refine condF rfl ?_ | refine skD hC rfl rfl rfl ?_); refine runO hC tabOk 60 ?_; simp [go_sem, d6]))
    refine ret hC tabOk (fun _ => 1) rfl rfl fun m gf hl ex => ?_
    rw [if_neg (by intro q; exact h6 q.1)] at hS
    rw [hS]
    exact ⟨rfl, fun q => by cases q⟩
  have d6 : decide (vt.1.svc = ⟨#[99, 101, 110, 116, 114, 101]⟩) = true := by simpa [sCentre] using h6
  refine runO hC tabOk 60 ?_
  simp [go_sem, d6]
  repeat ((first | refine condT rfl ?_ | refine condF rfl ?_ | refine skD hC rfl rfl rfl ?_); refine runO hC tabOk 60 ?_; simp [go_sem, d6])
  try (refine runO hC tabOk 60 ?_; simp [go_sem, d6]; repeat ((first | refine condT rfl ?_ | refine condF rfl ?_ | refine skD hC rfl rfl rfl ?_); refine runO hC tabOk 60 ?_; simp [go_sem, d6]))
  refine voD hC rfl (vo_load1 hC tabOk ((ob1 hob4 26 rfl).ks Kp.ks (by decide)) rfl rfl rfl rfl) rfl rfl rfl rfl ?_
  refine runO hC tabOk 60 ?_
  simp [go_sem]
  repeat ((first | refine condT rfl ?_ | refine condF rfl ?_ | refine skD hC rfl rfl rfl ?_); refine runO hC tabOk 60 ?_; simp [go_sem])
  refine voD hC rfl (vo_load1 hC tabOk ((ob1 hob4 15 rfl).ks Kp.ks (by decide)) rfl rfl rfl rfl) rfl rfl rfl rfl ?_
  by_cases h7 : vt.1.till = ot.1.till
  rotate_left
  · have d7 : decide (vt.1.till = ot.1.till) = false := by simp [h7]
    refine runO hC tabOk 60 ?_
    simp [go_sem, d7]
    repeat ((first | refine condT rfl ?_ | refine condF rfl ?_ | refine skD hC rfl rfl rfl ?_); refine runO hC tabOk 60 ?_; simp [go_sem, d7])
    try (refine runO hC tabOk 60 ?_; simp [go_sem, d7]; repeat ((first | refine condT rfl ?_ | refine condF rfl ?_ | refine skD hC rfl rfl rfl ?_); refine runO hC tabOk 60 ?_; simp [go_sem, d7]))
    refine ret hC tabOk (fun _ => 1) rfl rfl fun m gf hl ex => ?_
    rw [if_neg (by intro q; exact h7 q.2)] at hS
    rw [hS]
    exact ⟨rfl, fun q => by cases q⟩
  have d7 : decide (vt.1.till = ot.1.till) = true := by simp [h7]
  refine runO hC tabOk 60 ?_
  simp [go_sem, d7]
  repeat ((first | refine condT rfl ?_ | refine condF rfl ?_ | refine skD hC rfl rfl rfl ?_); refine runO hC tabOk 60 ?_; simp [go_sem, d7])
  try (refine runO hC tabOk 60 ?_; simp [go_sem, d7]; repeat ((first | refine condT rfl ?_ | refine condF rfl ?_ | refine skD hC rfl rfl rfl ?_); refine runO hC tabOk 60 ?_; simp [go_sem, d7]))
  refine ret hC tabOk (fun _ => 1) rfl rfl fun m gf hl ex => ?_
  rw [if_pos ⟨h6, h7⟩] at hS
  rw [hS, hot, hvt]
  exact ⟨rfl, fun _ => ⟨{ h0 with tk := hk2, au := hau }, hl0, hc0, hob4.ks Kp.ks (by decide), ⟨koa.ex.to, ktk.to, kau.to, koa.k, koa.t⟩, kl.to, kcen.to⟩⟩
end Go.Proofs.YtobhfopgoidniaaGreat
