/- What is granted, taken apart. What is got is for the same user, and lasts no longer. -/
import Derived.Test.YtobhfopgoidniaaGreatPC
import Derived.Test.YtobhfopgoidniaaGreatPA
set_option linter.all false
set_option linter.unusedVariables false
set_option linter.unusedSimpArgs false

/- What is granted, taken apart. -/
namespace Go.Proofs.YtobhfopgoidniaaGreat
open Go Go.Eng

theorem body_tkt {svc : ByteArray} {b : T} (h : (bodyS svc b).2 = 0) : tktOk (bodyS svc b).1 = true := by
  unfold bodyS at *
  split at h
  · rename_i q
    rw [if_pos q]
    split at h
    · rename_i f k c x y a e
      split at h
      · rename_i q2
        rw [if_pos q2]
        simp only [Bool.and_eq_true] at q2
        exact q2.2
      · simp at h
    · simp at h
  · simp at h

theorem open_tkt {t key : T} (h : (openS t key).2 = 0) : tktOk (openS t key).1 = true := by
  unfold openS at *
  split at h
  · rename_i q
    rw [if_pos q]
    split at h
    · rename_i a b z e
      split at h
      · rename_i q2
        rw [if_pos q2]
        exact body_tkt h
      · rename_i q2; exact absurd h q2
    · simp at h
  · rename_i q; exact absurd h q

theorem fresh_fst (c : Cen) (mark : T) (now : Int) : (freshS c mark now).1.ps = c.ps ∧ (freshS c mark now).1.evs = c.evs ∧ (freshS c mark now).1.serial = c.serial ∧ (freshS c mark now).1.room = c.room ∧ (freshS c mark now).1.came.length ≤ c.came.length + 1 := by
  refine ⟨rfl, rfl, rfl, rfl, ?_⟩
  have hf : (c.came.filter fun x => decide (now < x.2)).length ≤ c.came.length := List.length_filter_le _ _
  unfold freshS putS
  dsimp only
  split
  · dsimp only; omega
  · split
    · dsimp only; omega
    · simp only [List.length_append, List.length_cons, List.length_nil]; omega

structure Kept (c c' : Cen) : Prop where
  ps : c'.ps = c.ps
  evs : c'.evs = c.evs
  serial : c'.serial = c.serial
  room : c'.room = c.room
  came : c'.came.length ≤ c.came.length + 1

theorem Kept.refl (c : Cen) : Kept c c := ⟨rfl, rfl, rfl, rfl, Nat.le_succ _⟩
theorem Kept.fresh (c : Cen) (mark : T) (now : Int) : Kept c (freshS c mark now).1 := by
  obtain ⟨h1, h2, h3, h4, h5⟩ := fresh_fst c mark now
  exact ⟨h1, h2, h3, h4, h5⟩

theorem otime_kept (c : Cen) (a : Asd) (now : Int) (x3 x5 : T) : Kept c (otimeS c a now x3 x5).2 := by
  unfold otimeS
  split
  · split
    · split
      · split
        · exact Kept.fresh _ _ _
        · exact Kept.refl _
      · exact Kept.refl _
    · exact Kept.refl _
  · exact Kept.refl _

theorem oop_kept (c : Cen) (now : Int) (t : T) : Kept c (oopS c now t).2 := by
  unfold oopS
  split
  · split
    · unfold oopA
      split
      · unfold oopT
        split
        · split
          · exact otime_kept _ _ _ _ _
          · exact otime_kept _ _ _ _ _
        · exact Kept.refl _
      · exact Kept.refl _
    · exact Kept.refl _
  · exact Kept.refl _

theorem left_inv {a b : Int} (h : (leftN a b).2 = 0) : a < b ∧ leftN a b = ((a, b), 0) := by
  unfold leftN at *
  split at h
  · simp at h
  · rename_i q
    rw [if_neg q]
    exact ⟨by omega, rfl⟩

theorem both_inv {s r : Int × Int} (h : (bothN s r).2 = 0) : sOk s.1 s.2 = true ∧ sOk r.1 r.2 = true ∧ max s.1 r.1 < min s.2 r.2 ∧ bothN s r = ((max s.1 r.1, min s.2 r.2), 0) := by
  unfold bothN at *
  split at h
  · rename_i q
    rw [if_pos q]
    simp only [Bool.and_eq_true] at q
    exact ⟨q.1, q.2, left_inv h⟩
  · simp at h

theorem cut_inv {s : Int × Int} {life : Int} (h : (cutN s life).2 = 0) : tOk life = true ∧ s.1 < min s.2 (s.1 + life) ∧ cutN s life = ((s.1, min s.2 (s.1 + life)), 0) := by
  unfold cutN at *
  split at h
  · rename_i q
    rw [if_pos q]
    simp only [Bool.and_eq_true] at q
    exact ⟨q.2, left_inv h⟩
  · simp at h

theorem otime_inv {c : Cen} {a : Asd} {now : Int} {x3 x5 : T} (h : (otimeS c a now x3 x5).1.2 = 0) :
    (pget c.ps a.target).2 = 0 ∧ (otimeS c a now x3 x5).1.1.1 = max now a.tk.fr ∧ (otimeS c a now x3 x5).1.1.2 = min (min x3.n a.tk.till) (max now a.tk.fr + (pget c.ps a.target).1.life) ∧ max now a.tk.fr < (otimeS c a now x3 x5).1.1.2 ∧ 0 ≤ now ∧ a.tk.till ≤ 1099511627776 ∧ 0 ≤ a.tk.fr ∧ x3.n ≤ 1099511627776 := by
  unfold otimeS at *
  by_cases h1 : (pget c.ps a.target).2 = 0
  · rw [if_pos h1] at h ⊢
    by_cases h2 : sOk now x3.n = true
    · rw [if_pos h2] at h ⊢
      by_cases h3 : (bothN (now, x3.n) (a.tk.fr, a.tk.till)).2 = 0
      · rw [if_pos h3] at h ⊢
        obtain ⟨b1, b2, b3, b4⟩ := both_inv h3
        by_cases h4 : (cutN (bothN (now, x3.n) (a.tk.fr, a.tk.till)).1 (pget c.ps a.target).1.life).2 = 0
        · rw [if_pos h4] at h ⊢
          obtain ⟨c1, c2, c3⟩ := cut_inv h4
          rw [b4] at c2 c3
          rw [b4]
          simp only [c3]
          simp only [sOk, tOk, Bool.and_eq_true, decide_eq_true_eq] at b1 b2
          exact ⟨h1, trivial, trivial, c2, b1.1.1.1, b2.1.2.2, b2.1.1.1, b1.1.2.2⟩
        · rw [if_neg h4] at h; exact absurd h h4
      · rw [if_neg h3] at h; exact absurd h h3
    · rw [if_neg h2] at h; simp at h
  · rw [if_neg h1] at h; exact absurd h h1

theorem reply_err {c : Cen} {now : Int} {a : Asd} {r : Gr} {e : Ev} (h : (replyS c now a r e).1.2 ≠ 0) : (replyS c now a r e).1.1 = T0 ∧ (replyS c now a r e).2.evs = c.evs := by
  unfold replyS at *
  split at h
  · simp at h
  · rename_i q
    rw [if_neg q]
    exact ⟨rfl, issue_evs c r⟩

theorem reply_inv {c : Cen} {now : Int} {a : Asd} {r : Gr} {e : Ev} (h : (replyS c now a r e).1.2 = 0) :
    Good c.ps r (IntKind.i64.wrap (c.serial + 1)) ∧ replyS c now a r e = ((answerS sTgsRep r.client (tkT c.ps r (IntKind.i64.wrap (c.serial + 1))) a.tk.key (keyT .empty (IntKind.i64.wrap (c.serial + 1))) 8 a.nonce r, 0), noteS { c with serial := IntKind.i64.wrap (c.serial + 1) } { e with at_ := now, fl := r.fl, till := r.till }) := by
  have hi : (issueS c r).1.2.2 = 0 := by
    unfold replyS at h
    split at h
    · assumption
    · rename_i q; exact absurd h q
  have hg := issue_inv hi
  exact ⟨hg, hg.reply rfl⟩

theorem gran_err {c : Cen} {now : Int} {a : Asd} (h : (granO c now a).1.2 ≠ 0) : (granO c now a).1.1 = T0 ∧ (granO c now a).2.evs = c.evs := by
  unfold granO at *
  split
  · exact ⟨rfl, rfl⟩
  · rename_i F hF
    rw [hF] at h
    dsimp only at h
    split
    · rename_i q
      rw [if_pos q] at h
      split
      · rename_i q2
        rw [if_pos q2] at h
        exact reply_err h
      · exact ⟨rfl, rfl⟩
    · exact ⟨rfl, rfl⟩

theorem grant_err {c : Cen} {now : Int} {t : T} (h : (grantS c now t).1.2 ≠ 0) : (grantS c now t).1.1 = T0 ∧ (grantS c now t).2.evs = c.evs := by
  have hk := (oop_kept c now t).evs
  unfold grantS at *
  split
  · rename_i q
    rw [if_pos q] at h
    obtain ⟨h1, h2⟩ := gran_err h
    exact ⟨h1, h2.trans hk⟩
  · exact ⟨rfl, hk⟩

/-- All that is known of what is granted. -/
theorem grant_inv {c : Cen} {now : Int} {t : T} (h : (grantS c now t).1.2 = 0) : ∃ k tg n tl tk au ex fl a s c2, Oop c now t k tg n tl tk au ex ∧ a = { oopX c k tg n tk ex with fr := a.fr, till := a.till } ∧
    a.fr = max now a.tk.fr ∧ a.till ≤ a.tk.till ∧ a.fr < a.till ∧ (pget c.ps a.target).2 = 0 ∧ kindS a = some (fl, 0) ∧ a.extra = listT [] ∧ Kept c c2 ∧ Good c.ps (granGr a fl) s ∧
    grantS c now t = ((answerS sTgsRep (granGr a fl).client (tkT c.ps (granGr a fl) s) a.tk.key (keyT .empty s) 8 a.nonce (granGr a fl), 0), noteS ⟨c.ps, c2.room, c2.came, s, c2.evs⟩ { granEv a with at_ := now, fl := fl, till := a.till }) := by
  have hk := oop_kept c now t
  unfold grantS at h
  split at h
  · rename_i q
    obtain ⟨k, tg, n, tl, tk, au, ex, ho, hsh, hti, e⟩ := oop_inv q
    obtain ⟨t1, t2, t3, t4, _⟩ := otime_inv hti
    have eG : grantS c now t = granO (oopS c now t).2 now (oopS c now t).1.1 := by unfold grantS; rw [if_pos q]
    generalize ha : (oopS c now t).1.1 = a at h eG
    generalize hc2 : (oopS c now t).2 = c2 at h eG hk
    rw [e] at ha hc2
    dsimp only at ha hc2
    unfold granO at h eG
    cases hF : kindS a with
    | none => rw [hF] at h; simp at h
    | some F =>
      rw [hF] at h eG
      dsimp only at h eG
      by_cases q1 : a.extra = listT []
      · rw [if_pos q1] at h eG
        by_cases q2 : F.2 = 0
        · rw [if_pos q2] at h eG
          obtain ⟨hg, er⟩ := reply_inv h
          rw [er] at eG
          have hp := hk.ps
          rw [hp] at hg eG
          refine ⟨k, tg, n, tl, tk, au, ex, F.1, a, _, c2, ho, ?_, ?_, ?_, ?_, ?_, ?_, q1, hk, hg, eG⟩
          · rw [← ha]
          · rw [← ha]; exact t2
          · rw [← ha]
            show (otimeS c (oopX c k tg n tk ex) now tl au).1.1.2 ≤ (oopX c k tg n tk ex).tk.till
            rw [t3]; omega
          · rw [← ha]
            show (otimeS c (oopX c k tg n tk ex) now tl au).1.1.1 < (otimeS c (oopX c k tg n tk ex) now tl au).1.1.2
            rw [t2]; exact t4
          · rw [← ha]; exact t1
          · rw [← q2]; exact hF
        · rw [if_neg q2] at h; exact absurd h q2
      · rw [if_neg q1] at h; simp at h
  · rename_i q; exact absurd h q
end Go.Proofs.YtobhfopgoidniaaGreat

/- What is got is for the same user, and lasts no longer. -/
namespace Go.Proofs.YtobhfopgoidniaaGreat
open Go Go.Eng

theorem issue_kept (c : Cen) (r : Gr) : (issueS c r).2.ps = c.ps ∧ (issueS c r).2.room = c.room ∧ (issueS c r).2.came = c.came ∧ (issueS c r).2.evs = c.evs := by
  unfold issueS
  split
  · exact ⟨rfl, rfl, rfl, rfl⟩
  · dsimp only
    split
    · exact ⟨rfl, rfl, rfl, rfl⟩
    · split <;> exact ⟨rfl, rfl, rfl, rfl⟩

theorem time_kept (c : Cen) (a : Ak) (now : Int) (key : T) (life : Int) : Kept c (timeS c a now key life).2 := by
  unfold timeS
  split
  · split
    · split
      · exact Kept.fresh _ _ _
      · exact Kept.refl _
    · exact Kept.refl _
  · exact Kept.refl _

theorem login_kept (c : Cen) (now : Int) (t : T) : (loginS c now t).2.ps = c.ps ∧ (loginS c now t).2.room = c.room ∧ (loginS c now t).2.came.length ≤ c.came.length + 1 ∧ (loginS c now t).2.evs.length ≤ c.evs.length + 1 := by
  unfold loginS
  dsimp only
  split
  · exact ⟨rfl, rfl, Nat.le_succ _, Nat.le_succ _⟩
  · split
    · exact ⟨rfl, rfl, Nat.le_succ _, Nat.le_succ _⟩
    · have hk := time_kept c (readQ t).1 now (keyT (readQ t).1.who (pget c.ps (readQ t).1.who).1.ver) (min (pget c.ps (readQ t).1.who).1.life (pget c.ps sCentre).1.life)
      split
      · exact ⟨hk.ps, hk.room, hk.came, by rw [hk.evs]; omega⟩
      · generalize timeS c (readQ t).1 now (keyT (readQ t).1.who (pget c.ps (readQ t).1.who).1.ver) (min (pget c.ps (readQ t).1.who).1.life (pget c.ps sCentre).1.life) = ts at hk ⊢
        have hi := issue_kept ts.2 (loginGr (readQ t).1.who (pget c.ps (readQ t).1.who).1.se ts.1.1)
        generalize issueS ts.2 (loginGr (readQ t).1.who (pget c.ps (readQ t).1.who).1.se ts.1.1) = is at hi ⊢
        obtain ⟨i1, i2, i3, i4⟩ := hi
        split
        · exact ⟨i1.trans hk.ps, i2.trans hk.room, by rw [i3]; exact hk.came, by rw [i4, hk.evs]; omega⟩
        · refine ⟨i1.trans hk.ps, i2.trans hk.room, ?_, ?_⟩
          · show is.2.came.length ≤ _; rw [i3]; exact hk.came
          · show (is.2.evs ++ [_]).length ≤ _
            rw [i4, hk.evs]; simp

theorem flags_ok : ∀ n : Fin 16, iandn (iandn (iandn (n.val : Int) 8) (n.val : Int)) 10 = 0 ∧ iandn (iandn (ior (n.val : Int) 8) (n.val : Int)) 10 = 0 ∧ iandn (iandn (ior (n.val : Int) 2) (n.val : Int)) 10 = 0 := by decide +kernel

theorem kind_flags {a : Asd} {fl : Int} (h : kindS a = some (fl, 0)) (h0 : 0 ≤ a.tk.fl) (h1 : a.tk.fl ≤ 15) : iandn (iandn fl a.tk.fl) 10 = 0 := by
  obtain ⟨n, hn⟩ : ∃ n : Nat, a.tk.fl = n := ⟨a.tk.fl.toNat, by omega⟩
  have hlt : n < 16 := by omega
  obtain ⟨f1, f2, f3⟩ := flags_ok ⟨n, hlt⟩
  dsimp only at f1 f2 f3
  rw [← hn] at f1 f2 f3
  unfold kindS at h
  split at h
  · have h := Option.some.inj h
    unfold askF at h
    split at h
    · simp at h
    · obtain ⟨rfl, _⟩ := Prod.mk.inj h; exact f1
  · split at h
    · have h := Option.some.inj h
      unfold lendF at h
      split at h
      · simp at h
      · split at h
        · obtain ⟨rfl, _⟩ := Prod.mk.inj h; exact f2
        · simp at h
    · split at h
      · have h := Option.some.inj h
        unfold forwF at h
        split at h
        · split at h
          · obtain ⟨rfl, _⟩ := Prod.mk.inj h; exact f3
          · simp at h
        · simp at h
      · simp at h

theorem keeps_pure {c : Cen} {now : Int} {t : T} (h : (grantS c now t).1.2 = 0) :
    ∃ (k tg n tl tk au ex : T) (r : Gr) (s nn : Int) (e : Ev) (K : Tkt) (was : Au),
      takeS t sTgsReq 7 = ([k, tg, n, tl, tk, au, ex], 0) ∧ openS tk (pkey c.ps sCentre).1 = (K, 0) ∧ verifyS K.auth (pkey c.ps sCentre).1 (pkey c.ps sCentre).1 = (was, 0) ∧ (pkey c.ps tg.s).2 = 0 ∧
      (grantS c now t).1 = (answerS sTgsRep r.client (tkT c.ps r s) K.key (keyT .empty s) 8 nn r, 0) ∧ (grantS c now t).2.evs = c.evs ++ [e] ∧ (grantS c now t).2.ps = c.ps ∧ openS (tkT c.ps r s) (pkey c.ps tg.s).1 = (tkO c.ps r s, 0) ∧
      verifyS (auT c.ps r) (pkey c.ps tg.s).1 (pkey c.ps sCentre).1 = (auO c.ps r, 0) ∧
      r.user = was.user ∧ r.org = was.org ∧ r.fwd = was.fwd ∧ r.tr = was.tr ∧ r.client = K.cl ∧ r.fr = max now K.fr ∧ r.till ≤ K.till ∧ iandn (iandn r.fl K.fl) 10 = 0 ∧
      e.who = r.user ∧ e.by_ = r.client ∧ e.wh = r.svc ∧ e.till = r.till ∧ (tkT c.ps r s).size ≤ 1100 ∧ (auT c.ps r).size ≤ 1000 ∧ tw tk ≤ tw t ∧ tw K.auth ≤ tw t := by
  obtain ⟨k, tg, n, tl, tk, au, ex, fl, a, s, c2, ho, ha, t1, t2, t3, _, hF, _, hk, hg, hG⟩ := grant_inv h
  obtain ⟨o1, o2, o3, o4, o5, o6⟩ := topen_inv ho.op
  have hsv : (granGr a fl).svc = tg.s := by
    have : (granGr a fl).svc = a.target := rfl
    rw [this, ha]
    rfl
  have hg1 := hg.opens
  have hg2 := hg.verify
  have hks := hg.ks
  rw [hsv] at hg1 hg2 hks
  have htk : a.tk = (openS tk (pkey c.ps sCentre).1).1 := by rw [ha]; rfl
  have hau : a.au = (verifyS (openS tk (pkey c.ps sCentre).1).1.auth (pkey c.ps sCentre).1 (pkey c.ps sCentre).1).1 := by rw [ha]; rfl
  have ht := tkt_inv (open_tkt o2)
  have htw : tw tk ≤ tw t := by
    have h1 := tw_l t
    have h2 : tk ∈ t.l := by
      rcases take_or t sTgsReq 7 with ⟨_, _, el⟩ | e0
      · rw [el, ho.eq]; simp
      · have := ho.eq; rw [e0] at this; simp at this
    have h3 := tws_mem _ _ h2
    omega
  have hos := open_size tk (pkey c.ps sCentre).1
  refine ⟨k, tg, n, tl, tk, au, ex, granGr a fl, s, a.nonce, { granEv a with at_ := now, fl := fl, till := a.till }, (openS tk (pkey c.ps sCentre).1).1, (verifyS (openS tk (pkey c.ps sCentre).1).1.auth (pkey c.ps sCentre).1 (pkey c.ps sCentre).1).1, ho.eq, Prod.ext rfl o2, Prod.ext rfl o4, hks, ?_, ?_, ?_, hg1, hg2, ?_, ?_, ?_, ?_, ?_, ?_, ?_, ?_, rfl, rfl, rfl, rfl, tkT_size hg, ?_, htw, by omega⟩
  · rw [hG, ← htk]
  · rw [hG]
    show c2.evs ++ _ = _
    rw [hk.evs]
  · rw [hG]; rfl
  · show a.au.user = _; rw [hau]
  · show a.au.org = _; rw [hau]
  · show a.au.fwd = _; rw [hau]
  · show a.au.tr = _; rw [hau]
  · show a.tk.cl = _; rw [htk]
  · show a.fr = _; rw [← htk]; exact t1
  · show a.till ≤ _; rw [← htk]; exact t2
  · rw [← htk]
    show iandn (iandn fl a.tk.fl) 10 = 0
    rw [← htk] at ht
    exact kind_flags hF ht.2.2.1 ht.2.2.2.1
  · exact build_size _ _ _ (pkey_size _ _) (pkey_size _ _) hg.au
end Go.Proofs.YtobhfopgoidniaaGreat
