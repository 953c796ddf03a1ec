/- A user is told just to a service that may ask, of one that may be delegated. -/
import Derived.Test.YtobhfopgoidniaaGreatPD
import Derived.Test.YtobhfopgoidniaaGreatPA
set_option linter.all false
set_option linter.unusedVariables false
set_option linter.unusedSimpArgs false

namespace Go.Proofs.YtobhfopgoidniaaGreat
open Go Go.Eng

theorem allowed_inv {ps : List Pr} {a : Asd} {who : ByteArray} (h : allowedS ps a who = 0) : a.target = a.tk.cl ∧ a.au.user = a.target ∧ a.au.tr = [] ∧ (pget ps who).2 = 0 ∧ (pget ps a.target).1.tr = true ∧ (pget ps who).1.se = false := by
  unfold allowedS at h
  split at h
  · rename_i q
    simp only [itselfB, Bool.and_eq_true, decide_eq_true_eq] at q
    split at h
    · rename_i q2
      split at h
      · rename_i q3
        exact ⟨q.1.1, q.1.2, q.2, q2, q3.1, q3.2⟩
      · simp at h
    · rename_i q2; exact absurd h q2
  · simp at h

theorem trans_err {c : Cen} {now : Int} {t : T} (h : (transitS c now t).1.2 ≠ 0) : (transitS c now t).1.1 = T0 ∧ (transitS c now t).2.evs = c.evs := by
  have hk := (oop_kept c now t).evs
  unfold transitS at *
  split at h
  · rename_i q
    rw [if_pos q]
    split at h
    · rename_i q2
      rw [if_pos q2]
      split at h
      · rename_i q3
        rw [if_pos q3]
        obtain ⟨h1, h2⟩ := reply_err h
        exact ⟨h1, h2.trans hk⟩
      · rename_i q3
        rw [if_neg q3]
        exact ⟨rfl, hk⟩
    · rename_i q2
      rw [if_neg q2]
      exact ⟨rfl, hk⟩
  · rename_i q
    rw [if_neg q]
    exact ⟨rfl, hk⟩

/-- All that is known of what a service got for a user. -/
theorem trans_inv {c : Cen} {now : Int} {t : T} (h : (transitS c now t).1.2 = 0) : ∃ k tg n tl tk au ex a u s c2, Oop c now t k tg n tl tk au ex ∧ a = { oopX c k tg n tk ex with fr := a.fr, till := a.till } ∧
    a.till ≤ a.tk.till ∧ (pget c.ps a.target).2 = 0 ∧ allowedS c.ps a u = 0 ∧ Kept c c2 ∧ Good c.ps (traGr a u) s ∧
    transitS c now t = ((answerS sTgsRep (traGr a u).client (tkT c.ps (traGr a u) s) a.tk.key (keyT .empty s) 8 a.nonce (traGr a u), 0), noteS ⟨c.ps, c2.room, c2.came, s, c2.evs⟩ { traEv a u with at_ := now, fl := 1, till := a.till }) := by
  have hk := oop_kept c now t
  unfold transitS at h
  split at h
  · rename_i q
    obtain ⟨k, tg, n, tl, tk, au, ex, ho, hsh, hti, e⟩ := oop_inv q
    obtain ⟨t1, t2, t3, t4, _⟩ := otime_inv hti
    have eG : transitS c now t = (if (userS (oopS c now t).1.1).2 = 0 then (if allowedS (oopS c now t).2.ps (oopS c now t).1.1 (userS (oopS c now t).1.1).1 = 0 then replyS (oopS c now t).2 now (oopS c now t).1.1 (traGr (oopS c now t).1.1 (userS (oopS c now t).1.1).1) (traEv (oopS c now t).1.1 (userS (oopS c now t).1.1).1) else ((T0, allowedS (oopS c now t).2.ps (oopS c now t).1.1 (userS (oopS c now t).1.1).1), (oopS c now t).2)) else ((T0, (userS (oopS c now t).1.1).2), (oopS c now t).2)) := by unfold transitS; rw [if_pos q]
    generalize ha : (oopS c now t).1.1 = a at h eG
    generalize hc2 : (oopS c now t).2 = c2 at h eG hk
    rw [e] at ha hc2
    dsimp only at ha hc2
    by_cases q1 : (userS a).2 = 0
    · rw [if_pos q1] at h eG
      generalize (userS a).1 = u at h eG
      by_cases q2 : allowedS c2.ps a u = 0
      · rw [if_pos q2] at h eG
        obtain ⟨hg, er⟩ := reply_inv h
        rw [er] at eG
        have hp := hk.ps
        rw [hp] at hg eG q2
        refine ⟨k, tg, n, tl, tk, au, ex, a, u, _, c2, ho, ?_, ?_, ?_, q2, hk, hg, eG⟩
        · rw [← ha]
        · rw [← ha]
          show (otimeS c (oopX c k tg n tk ex) now tl au).1.1.2 ≤ (oopX c k tg n tk ex).tk.till
          rw [t3]; omega
        · rw [← ha]; exact t1
      · rw [if_neg q2] at h; exact absurd h q2
    · rw [if_neg q1] at h; exact absurd h q1
  · rename_i q; exact absurd h q

theorem pget_name {ps : List Pr} {nm : ByteArray} (h : (pget ps nm).2 = 0) : (pget ps nm).1.name = nm := by
  obtain ⟨p, h1, h2⟩ := pget_found h
  rw [h2]
  exact (pfind_mem2 h1).2

theorem only_pure {c : Cen} {now : Int} {t : T} (h : (transitS c now t).1.2 = 0) :
    ∃ (k tg n tl tk au ex : T) (r : Gr) (s nn : Int) (e : Ev) (K : Tkt) (was : Au) (pu psv : Pr),
      takeS t sTgsReq 7 = ([k, tg, n, tl, tk, au, ex], 0) ∧ openS tk (pkey c.ps sCentre).1 = (K, 0) ∧ verifyS K.auth (pkey c.ps sCentre).1 (pkey c.ps sCentre).1 = (was, 0) ∧
      (transitS c now t).1 = (answerS sTgsRep r.client (tkT c.ps r s) K.key (keyT .empty s) 8 nn r, 0) ∧ (transitS c now t).2.evs = c.evs ++ [e] ∧ (transitS c now t).2.ps = c.ps ∧ openS (tkT c.ps r s) (pkey c.ps r.svc).1 = (tkO c.ps r s, 0) ∧
      verifyS (auT c.ps r) (pkey c.ps r.svc).1 (pkey c.ps sCentre).1 = (auO c.ps r, 0) ∧
      pget c.ps r.user = (pu, 0) ∧ pget c.ps r.svc = (psv, 0) ∧ pu.se = false ∧ psv.tr = true ∧ pu.name = r.user ∧ psv.name = r.svc ∧
      r.org = 1 ∧ r.tr = [] ∧ r.fwd = true ∧ r.client = r.user ∧ was.user = r.svc ∧ was.tr = [] ∧ r.till ≤ was.till ∧
      e.kind = 2 ∧ e.at_ = now ∧ e.who = r.user ∧ e.by_ = r.svc ∧ e.wh = r.svc ∧ e.till = r.till ∧ (tkT c.ps r s).size ≤ 1100 ∧ (auT c.ps r).size ≤ 1000 ∧ tw tk ≤ tw t ∧ tw K.auth ≤ tw t ∧ r.svc.size ≤ maxLen := by
  obtain ⟨k, tg, n, tl, tk, au, ex, a, u, s, c2, ho, ha, t2, tp, hal, hk, hg, hG⟩ := trans_inv h
  obtain ⟨o1, o2, o3, o4, o5, o6⟩ := topen_inv ho.op
  obtain ⟨l1, l2, l3, l4, l5, l6⟩ := allowed_inv hal
  have hsv : (traGr a u).svc = a.target := rfl
  have hus : (traGr a u).user = u := rfl
  have htk : a.tk = (openS tk (pkey c.ps sCentre).1).1 := by rw [ha]; rfl
  have hau : a.au = (verifyS (openS tk (pkey c.ps sCentre).1).1.auth (pkey c.ps sCentre).1 (pkey c.ps sCentre).1).1 := by rw [ha]; rfl
  have htw : tw tk ≤ tw t := by
    have h1 := tw_l t
    have h2 : tk ∈ t.l := by
      rcases take_or t sTgsReq 7 with ⟨_, _, el⟩ | e0
      · rw [el, ho.eq]; simp
      · have := ho.eq; rw [e0] at this; simp at this
    have h3 := tws_mem _ _ h2
    omega
  have hos := open_size tk (pkey c.ps sCentre).1
  refine ⟨k, tg, n, tl, tk, au, ex, traGr a u, s, a.nonce, { traEv a u with at_ := now, fl := 1, till := a.till }, (openS tk (pkey c.ps sCentre).1).1, (verifyS (openS tk (pkey c.ps sCentre).1).1.auth (pkey c.ps sCentre).1 (pkey c.ps sCentre).1).1, (pget c.ps u).1, (pget c.ps a.target).1, ho.eq, Prod.ext rfl o2, Prod.ext rfl o4, ?_, ?_, ?_, hg.opens, hg.verify, Prod.ext rfl l4, Prod.ext rfl tp, l6, l5, pget_name l4, pget_name tp, rfl, rfl, rfl, rfl, ?_, ?_, ?_, rfl, rfl, rfl, rfl, rfl, rfl, tkT_size hg, ?_, htw, by omega, ?_⟩
  · rw [hG, ← htk]
  · rw [hG]
    show c2.evs ++ _ = _
    rw [hk.evs]
  · rw [hG]; rfl
  · rw [← hau]; exact l2
  · rw [← hau]; exact l3
  · show a.till ≤ _
    rw [o6, ← htk]; exact t2
  · exact build_size _ _ _ (pkey_size _ _) (pkey_size _ _) hg.au
  · have h1 := open_tkt (t := tkT c.ps (traGr a u) s) (key := (pkey c.ps (traGr a u).svc).1) (by rw [hg.opens])
    rw [hg.opens] at h1
    have h2 : nameS (traGr a u).svc = true := (tkt_inv h1).1
    simp only [nameS, Bool.and_eq_true, decide_eq_true_eq] at h2
    have h3 : (40 : Nat) ≤ maxLen := by decide
    omega
end Go.Proofs.YtobhfopgoidniaaGreat
