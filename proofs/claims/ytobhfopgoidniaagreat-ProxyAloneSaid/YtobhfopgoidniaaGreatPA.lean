/- Who logs in, and asks, in time and for the first time, is answered. A service asks for a user, with a ticket that is in order. A service that is logged in asks for users: what comes of it. Sizes. -/
import Derived.Test.YtobhfopgoidniaaGreatNB
import Derived.Test.YtobhfopgoidniaaGreatLA
set_option linter.all false
set_option linter.unusedVariables false
set_option linter.unusedSimpArgs false

/- Who logs in, and asks, in time and for the first time, is answered. -/
namespace Go.Proofs.YtobhfopgoidniaaGreat
open Go Go.Eng

theorem wrap_id {x : Int} (h1 : -9223372036854775808 ≤ x) (h2 : x ≤ 9223372036854775807) : IntKind.i64.wrap x = x := by
  rw [IntKind.wrap_i64]; omega

theorem pfind_mem2 {ps : List Pr} {nm : ByteArray} {p : Pr} (h : pfind ps nm = some p) : p ∈ ps ∧ p.name = nm := by
  unfold pfind at h
  exact ⟨List.mem_of_find?_eq_some h, by simpa using List.find?_some h⟩

theorem pget_some {ps : List Pr} {nm : ByteArray} {p : Pr} (h : pfind ps nm = some p) : pget ps nm = (p, 0) := by unfold pget; rw [h]
theorem pkey_some {ps : List Pr} {nm : ByteArray} {p : Pr} (h : pfind ps nm = some p) : pkey ps nm = (keyT nm p.ver, 0) := by unfold pkey; rw [h]
theorem pget_none {ps : List Pr} {nm : ByteArray} (h : pfind ps nm = none) : pget ps nm = (zeroP, 40) := by unfold pget; rw [h]
theorem pkey_none {ps : List Pr} {nm : ByteArray} (h : pfind ps nm = none) : pkey ps nm = (T0, 40) := by unfold pkey; rw [h]
theorem pget_found {ps : List Pr} {nm : ByteArray} (h : (pget ps nm).2 = 0) : ∃ p, pfind ps nm = some p ∧ pget ps nm = (p, 0) := by
  cases e : pfind ps nm with
  | none => rw [pget_none e] at h; simp at h
  | some p => exact ⟨p, rfl, pget_some e⟩
theorem pkey_found {ps : List Pr} {nm : ByteArray} (h : (pkey ps nm).2 = 0) : ∃ p, pfind ps nm = some p ∧ pkey ps nm = (keyT nm p.ver, 0) := by
  cases e : pfind ps nm with
  | none => rw [pkey_none e] at h; simp at h
  | some p => exact ⟨p, rfl, pkey_some e⟩

abbrev AllP (ps : List Pr) : Prop := ∀ p ∈ ps, validP p = true

structure PGood (p : Pr) (nm : ByteArray) : Prop where
  eq : p.name = nm
  ok : nameS nm = true
  gr : p.gr.length ≤ 20
  l0 : 0 ≤ p.life
  l1 : p.life ≤ 1099511627776
  v : validP p = true

theorem pfind_good {ps : List Pr} {nm : ByteArray} {p : Pr} (hv : AllP ps) (h : pfind ps nm = some p) : PGood p nm := by
  obtain ⟨h1, h2⟩ := pfind_mem2 h
  have h3 := hv p h1
  have h4 := h3
  simp only [validP, Bool.and_eq_true, decide_eq_true_eq] at h4
  exact ⟨h2, h2 ▸ h4.1.1.1.1.1.1.1, h4.2, h4.1.1.2, h4.1.2, h3⟩

theorem name_sCentre : nameS sCentre = true := by decide +kernel

/-! ### What came -/

structure CameIn (l : List (T × Int)) (ms : List T) : Prop where
  len : l.length ≤ ms.length
  el : ∀ x ∈ l, x.1 ∈ ms

theorem CameIn.nil : CameIn [] [] := ⟨Nat.le_refl _, by simp⟩

theorem has_new {l : List (T × Int)} {ms : List T} (h : CameIn l ms) {mark : T} (hm : mark ∉ ms) (now : Int) : hasS l mark now = false := by
  unfold hasS
  rw [List.any_eq_false]
  intro x hx
  have : x.1 ≠ mark := fun e => hm (e ▸ h.el x hx)
  simp [this]

theorem fresh_new {c : Cen} {ms : List T} (h : CameIn c.came ms) {mark : T} (hm : mark ∉ ms) (hr : (ms.length : Int) < c.room) (now : Int) :
    ∃ came', freshS c mark now = ({ c with came := came' }, 0) ∧ CameIn came' (mark :: ms) := by
  have hlen : (c.came.filter fun x => decide (now < x.2)).length ≤ c.came.length := List.length_filter_le _ _
  have hl := h.len
  refine ⟨c.came.filter (fun x => decide (now < x.2)) ++ [(mark, IntKind.i64.wrap (now + 601))], ?_, ?_, ?_⟩
  · unfold freshS putS
    rw [if_neg (by rw [has_new h hm]; simp), if_neg (by omega)]
  · simp only [List.length_append, List.length_cons, List.length_nil]; omega
  · intro x hx
    rcases List.mem_append.1 hx with hx | hx
    · exact List.mem_cons_of_mem _ (h.el x (List.mem_filter.1 hx).1)
    · rw [List.mem_singleton.1 hx]; exact List.mem_cons_self ..

/-! ### Logging in -/

theorem readQ_ask (who : ByteArray) (key : T) (now nonce till : Int) : readQ (askS who key now nonce till) = (⟨who, nonce, till, sealT key 1 (listT [numT now, numT nonce])⟩, 0) := by
  unfold readQ askS
  rw [take_list _ _ (by simp)]
  simp [nameT, numB]

theorem shown_ask (who : ByteArray) (key : T) (now nonce till : Int) (hk : key.k = 2) : shownS ⟨who, nonce, till, sealT key 1 (listT [numT now, numT nonce])⟩ key = (now, 0) := by
  simp [shownS, box_seal 1 _ hk, numB]

theorem near_self {now : Int} (h0 : 0 ≤ now) (h1 : now ≤ 1099511627776) : nearN now now 300 = true := by
  simp [nearN, tOk, h0, h1]

theorem cut_ok {fr till life : Int} (h0 : 0 ≤ fr) (h1 : fr < till) (h2 : till ≤ 1099511627776) (h3 : 1 ≤ life) (h4 : life ≤ 1099511627776) : cutN (fr, till) life = ((fr, min till (fr + life)), 0) := by
  have e1 : sOk fr till = true := by simp [sOk, tOk]; omega
  have e2 : tOk life = true := by simp [tOk]; omega
  simp only [cutN, e1, e2, Bool.and_self, if_true, leftN]
  rw [if_neg (by omega)]

abbrev inMark (key : T) (now nonce : Int) : T := sealT key 1 (listT [numT now, numT nonce])

def inGr (who : ByteArray) (p q : Pr) (now : Int) : Gr := loginGr who p.se (now, min 1099511627776 (now + min p.life q.life))

theorem inGr_good {ps : List Pr} {who : ByteArray} {p q : Pr} {now s : Int} (hv : AllP ps) (hp : pfind ps who = some p) (hq : pfind ps sCentre = some q) (h0 : 0 ≤ now) (h1 : now ≤ 1099511627776) (hs : 1 ≤ s) : Good ps (inGr who p q now) s := by
  have gp := pfind_good hv hp
  have gq := pfind_good hv hq
  have l1 := gp.l0
  have l2 := gq.l0
  refine good_of (by simp [inGr, loginGr, pkey_some hq]) (by rw [pkey_some hq]) ?_ (by simpa [inGr, loginGr] using gp.ok) ?_ ?_ hs ?_
  · simp only [auOk, auO, inGr, loginGr, pget_some hp, gp.ok, name_sCentre, Bool.and_eq_true, decide_eq_true_eq]
    simp [gp.gr]
    omega
  · simp only [inGr, loginGr]; split <;> omega
  · simp only [inGr, loginGr]; split <;> omega
  · have e : (inGr who p q now).fr = now := rfl
    have e2 : (inGr who p q now).till = min 1099511627776 (now + min p.life q.life) := rfl
    rw [e, e2]
    simp only [sOk, tOk, Bool.and_eq_true, decide_eq_true_eq]
    omega

theorem login_ok {c : Cen} {who : ByteArray} {p q : Pr} {now nonce : Int} {ms : List T} (hv : AllP c.ps) (hp : pfind c.ps who = some p) (hq : pfind c.ps sCentre = some q) (h0 : 0 ≤ now) (h1 : now < 1099511627776) (hl : 1 ≤ p.life) (hl2 : 1 ≤ q.life)
    (hc : CameIn c.came ms) (hm : inMark (keyT who p.ver) now nonce ∉ ms) (hr : (ms.length : Int) < c.room) (hs0 : 0 ≤ c.serial) (hs1 : c.serial ≤ 1099511627776) :
    ∃ came', loginS c now (askS who (keyT who p.ver) now nonce 1099511627776) = ((answerS sAsRep who (tkT c.ps (inGr who p q now) (c.serial + 1)) (keyT who p.ver) (keyT .empty (c.serial + 1)) 3 nonce (inGr who p q now), 0),
      ⟨c.ps, c.room, came', c.serial + 1, c.evs ++ [⟨0, now, who, who, sCentre, [], (inGr who p q now).fl, (inGr who p q now).till, false, 0⟩]⟩) ∧ CameIn came' (inMark (keyT who p.ver) now nonce :: ms) := by
  obtain ⟨came', hf, hc'⟩ := fresh_new hc hm hr now
  refine ⟨came', ?_, hc'⟩
  have gp := pfind_good hv hp
  have gq := pfind_good hv hq
  have l1 := gp.l1
  have l2 := gq.l1
  have hg : Good c.ps (inGr who p q now) (c.serial + 1) := inGr_good hv hp hq h0 (by omega) (by omega)
  have ht : timeS c ⟨who, nonce, 1099511627776, inMark (keyT who p.ver) now nonce⟩ now (keyT who p.ver) (min p.life q.life) = (((now, min 1099511627776 (now + min p.life q.life)), 0), { c with came := came' }) := by
    unfold timeS
    rw [shown_ask who _ now nonce 1099511627776 rfl, cut_ok h0 h1 (Int.le_refl _) (by omega) (by omega), near_self h0 (by omega), hf]
    simp
  unfold loginS
  rw [readQ_ask]
  simp only [pget_some hp, pget_some hq, ht]
  have hi := Good.issue (c := { c with came := came' }) hg (wrap_id (by omega) (by omega) : IntKind.i64.wrap (c.serial + 1) = c.serial + 1).symm
  simp only [inGr] at hi ⊢
  rw [hi]
  simp [noteS, loginGr]

theorem in_ok {c : Cen} {who : ByteArray} {p q : Pr} {now nonce : Int} {ms : List T} (hv : AllP c.ps) (hp : pfind c.ps who = some p) (hq : pfind c.ps sCentre = some q) (h0 : 0 ≤ now) (h1 : now < 1099511627776) (hl : 1 ≤ p.life) (hl2 : 1 ≤ q.life)
    (hc : CameIn c.came ms) (hm : inMark (keyT who p.ver) now nonce ∉ ms) (hr : (ms.length : Int) < c.room) (hs0 : 0 ≤ c.serial) (hs1 : c.serial ≤ 1099511627776) :
    ∃ came', inS c who (keyT who p.ver) now nonce = ((tkT c.ps (inGr who p q now) (c.serial + 1), keyT .empty (c.serial + 1), true),
      ⟨c.ps, c.room, came', c.serial + 1, c.evs ++ [⟨0, now, who, who, sCentre, [], (inGr who p q now).fl, (inGr who p q now).till, false, 0⟩]⟩) ∧ CameIn came' (inMark (keyT who p.ver) now nonce :: ms) := by
  obtain ⟨came', h, hc'⟩ := login_ok hv hp hq h0 h1 hl hl2 hc hm hr hs0 hs1
  refine ⟨came', ?_, hc'⟩
  unfold inS
  rw [h]
  simp only [if_true]
  rw [part_answer _ _ _ _ _ _ _ _ rfl]

/-! ### Asking -/

abbrev gMark (session : T) (client : ByteArray) (now nonce : Int) (kind target : ByteArray) : T := sealT session 7 (listT [ofT client, numT now, numT nonce, ofT kind, ofT target])

theorem check_ok {fr till now : Int} (h0 : 0 ≤ fr) (h1 : fr ≤ now) (h2 : now < till) (h3 : till ≤ 1099511627776) : checkN (fr, till) now 0 = 0 := by
  have e1 : sOk fr till = true := by simp [sOk, tOk]; omega
  have e2 : tOk now = true := by simp [tOk]; omega
  have e3 : tOk 0 = true := by decide
  simp only [checkN, e1, e2, e3, Bool.and_self, if_true]
  rw [if_neg (by omega), if_neg (by omega)]

theorem both_ok {a b c d : Int} (h1 : 0 ≤ a) (h2 : a ≤ b) (h3 : b ≤ 1099511627776) (h4 : 0 ≤ c) (h5 : c ≤ d) (h6 : d ≤ 1099511627776) (h7 : max a c < min b d) : bothN (a, b) (c, d) = ((max a c, min b d), 0) := by
  have e1 : sOk a b = true := by simp [sOk, tOk]; omega
  have e2 : sOk c d = true := by simp [sOk, tOk]; omega
  simp only [bothN, e1, e2, Bool.and_self, if_true, leftN]
  rw [if_neg (by omega)]

theorem oop_ok {c : Cen} {r : Gr} {s : Int} {ms : List T} {t : Pr} {kind target : ByteArray} {extra : T} {now nonce till : Int} (hv : AllP c.ps) (h : Good c.ps r s) (hsv : r.svc = sCentre) (ht : pfind c.ps target = some t) (hl : 1 ≤ t.life)
    (h0 : 0 ≤ r.fr) (h1 : r.fr ≤ now) (h2 : now < r.till) (h3 : r.till ≤ 1099511627776) (h4 : now < till) (h5 : till ≤ 1099511627776)
    (hc : CameIn c.came ms) (hm : gMark (keyT .empty s) r.client now nonce kind target ∉ ms) (hr : (ms.length : Int) < c.room) :
    ∃ came', oopS c now (gaskS kind target r.client (keyT .empty s) (tkT c.ps r s) extra now nonce till) = ((⟨kind, target, nonce, extra, tkO c.ps r s, auO c.ps r, now, min (min till r.till) (now + t.life)⟩, 0), ⟨c.ps, c.room, came', c.serial, c.evs⟩) ∧ CameIn came' (gMark (keyT .empty s) r.client now nonce kind target :: ms) := by
  obtain ⟨came', hf, hc'⟩ := fresh_new hc hm hr now
  refine ⟨came', ?_, hc'⟩
  have gt := pfind_good hv ht
  have gl := gt.l1
  rw [h.oop hsv, if_pos (check_ok h0 h1 h2 h3)]
  unfold oopT
  have eo : oshS ⟨kind, target, nonce, extra, tkO c.ps r s, auO c.ps r, 0, 0⟩ now (gMark (keyT .empty s) r.client now nonce kind target) = 0 := by
    rw [osh_gask _ _ _ _ _ _ (by rfl), if_pos (by rfl)]
    have e1 : tOk now = true := by simp [tOk]; omega
    have e2 : tOk 300 = true := by decide
    simp [oshM, tkO, e1, e2]
  rw [eo]
  have et : otimeS c ⟨kind, target, nonce, extra, tkO c.ps r s, auO c.ps r, 0, 0⟩ now (numT till) (gMark (keyT .empty s) r.client now nonce kind target) = (((now, min (min till r.till) (now + t.life)), 0), { c with came := came' }) := by
    unfold otimeS
    have e1 : sOk now till = true := by simp [sOk, tOk]; omega
    have e2 : bothN (now, till) (r.fr, r.till) = ((now, min till r.till), 0) := by
      rw [both_ok (by omega) (by omega) h5 h0 (by omega) h3 (by omega)]
      have : max now r.fr = now := by omega
      rw [this]
    simp only [pget_some ht, T.n_mk, e1, if_true, tkO, e2, hf]
    rw [cut_ok (by omega) (by omega) (by omega) hl gl]
    simp
  rw [et]
  simp
end Go.Proofs.YtobhfopgoidniaaGreat

/- A service asks for a user, with a ticket that is in order. -/
namespace Go.Proofs.YtobhfopgoidniaaGreat
open Go Go.Eng

theorem extra_ne {a b : T} {u : ByteArray} : extraT a u = extraT b u ↔ a = b := by
  unfold extraT
  constructor
  · intro h; simpa using h
  · rintro rfl; rfl

theorem user_self {a : Asd} {key : T} {user : ByteArray} (hk : a.kind = sSelf) (he : a.extra = extraT key user) : userS a = if key = a.tk.key then (user, 0) else (.empty, 62) := by
  unfold userS
  have h1 : a.extra.k = 3 := by rw [he]; rfl
  have h2 : a.extra.s = .empty := by rw [he]; rfl
  have h3 : a.extra.n = 0 := by rw [he]; rfl
  rw [if_pos ⟨hk, h1, h2, h3⟩]
  have h4 : a.extra.l = [ofT user, sumT key 17 (ofT user)] := by rw [he]; rfl
  rw [h4]
  have h5 : nameT (ofT user) = true := by simp [nameT]
  simp only [h5, if_true]
  by_cases h : key = a.tk.key
  · rw [if_pos h]
    exact if_pos (show a.extra = extraT a.tk.key user by rw [he, h])
  · rw [if_neg h]
    exact if_neg (show ¬ a.extra = extraT a.tk.key user by rw [he, extra_ne]; exact h)

abbrev askd (kind target : ByteArray) (nonce : Int) (extra : T) (ps : List Pr) (r : Gr) (s now till : Int) (t : Pr) : Asd := ⟨kind, target, nonce, extra, tkO ps r s, auO ps r, now, min (min till r.till) (now + t.life)⟩

theorem transit_open {c : Cen} {r : Gr} {s : Int} {ms : List T} {t : Pr} {target user : ByteArray} {key : T} {now nonce till : Int} (hv : AllP c.ps) (h : Good c.ps r s) (hsv : r.svc = sCentre) (ht : pfind c.ps target = some t) (hl : 1 ≤ t.life)
    (h0 : 0 ≤ r.fr) (h1 : r.fr ≤ now) (h2 : now < r.till) (h3 : r.till ≤ 1099511627776) (h4 : now < till) (h5 : till ≤ 1099511627776)
    (hc : CameIn c.came ms) (hm : gMark (keyT .empty s) r.client now nonce sSelf target ∉ ms) (hr : (ms.length : Int) < c.room) :
    ∃ came', CameIn came' (gMark (keyT .empty s) r.client now nonce sSelf target :: ms) ∧ transitS c now (gaskS sSelf target r.client (keyT .empty s) (tkT c.ps r s) (extraT key user) now nonce till) =
      if key = keyT .empty s then (if allowedS c.ps (askd sSelf target nonce (extraT key user) c.ps r s now till t) user = 0 then replyS ⟨c.ps, c.room, came', c.serial, c.evs⟩ now (askd sSelf target nonce (extraT key user) c.ps r s now till t) (traGr (askd sSelf target nonce (extraT key user) c.ps r s now till t) user) (traEv (askd sSelf target nonce (extraT key user) c.ps r s now till t) user) else ((T0, allowedS c.ps (askd sSelf target nonce (extraT key user) c.ps r s now till t) user), ⟨c.ps, c.room, came', c.serial, c.evs⟩)) else ((T0, 62), ⟨c.ps, c.room, came', c.serial, c.evs⟩) := by
  obtain ⟨came', ho, hc'⟩ := oop_ok (kind := sSelf) (extra := extraT key user) (nonce := nonce) hv h hsv ht hl h0 h1 h2 h3 h4 h5 hc hm hr
  refine ⟨came', hc', ?_⟩
  unfold transitS
  rw [ho]
  simp only [if_true]
  rw [user_self (key := key) (user := user) rfl rfl]
  have e : (tkO c.ps r s).key = keyT .empty s := rfl
  rw [e]
  by_cases hk : key = keyT .empty s
  · simp only [if_pos hk, if_true]
  · simp only [if_neg hk]
    simp

theorem transit_good {ps : List Pr} {a : Asd} {user : ByteArray} {u t : Pr} {s : Int} (hv : AllP ps) (hu : pfind ps user = some u) (ht : pfind ps a.target = some t) (hq : (pkey ps sCentre).2 = 0) (hs : 1 ≤ s) (h0 : 0 ≤ a.fr) (h1 : a.fr ≤ a.till) (h2 : a.till ≤ 1099511627776) : Good ps (traGr a user) s := by
  have gu := pfind_good hv hu
  have gt := pfind_good hv ht
  refine good_of (by simp [traGr, pkey_some ht]) hq ?_ (by simpa [traGr] using gu.ok) (by simp [traGr]) (by simp [traGr]) hs ?_
  · simp only [auOk, auO, traGr, pget_some hu, gu.ok, gt.ok, Bool.and_eq_true, decide_eq_true_eq]
    simp [gu.gr]
    omega
  · have e1 : (traGr a user).fr = a.fr := rfl
    have e2 : (traGr a user).till = a.till := rfl
    rw [e1, e2]
    simp only [sOk, tOk, Bool.and_eq_true, decide_eq_true_eq]
    omega
end Go.Proofs.YtobhfopgoidniaaGreat

/- A service that is logged in asks for users: what comes of it. -/
namespace Go.Proofs.YtobhfopgoidniaaGreat
open Go Go.Eng

theorem part_T0 (nm : ByteArray) (n : Int) (key : T) (use : Int) : partS (takeS T0 nm n) key use = (T0, T0, false) := by
  have : takeS T0 nm n = ([], 50) := by simp [takeS]
  rw [this]; rfl

section
variable {PS : List Pr} {who : ByteArray} {p q : Pr} {now : Int}

theorem inGr_fr : (inGr who p q now).fr = now := rfl
theorem inGr_till : (inGr who p q now).till = min 1099511627776 (now + min p.life q.life) := rfl
theorem inGr_svc : (inGr who p q now).svc = sCentre := rfl
theorem inGr_client : (inGr who p q now).client = who := rfl
theorem inGr_user : (inGr who p q now).user = who := rfl
theorem inGr_tr : (inGr who p q now).tr = [] := rfl

theorem ways_in (hv : AllP PS) (hp : pfind PS who = some p) (hq : pfind PS sCentre = some q) (h0 : 0 ≤ now) (h1 : now ≤ 549755813888) (hl : 1 ≤ p.life) (hl2 : 1 ≤ q.life) :
    ∃ came1 evs1, inS ⟨PS, max 9 0, [], 0, []⟩ who (keyT who p.ver) now 1 = ((tkT PS (inGr who p q now) 1, keyT .empty 1, true), ⟨PS, max 9 0, came1, 1, evs1⟩) ∧ CameIn came1 [inMark (keyT who p.ver) now 1] ∧ evs1.length = 1 := by
  obtain ⟨came', h, hc⟩ := in_ok (c := ⟨PS, max 9 0, [], 0, []⟩) (nonce := 1) hv hp hq h0 (by omega) hl hl2 CameIn.nil (by simp) (by simp; omega) (by simp) (by simp)
  exact ⟨came', _, h, hc, rfl⟩

def wayW (PS : List Pr) (p : Pr) (user : ByteArray) : Int := if (pget PS user).2 = 0 then (if p.tr = true ∧ (pget PS user).1.se = false then 0 else 61) else 40

theorem pget_err (PS : List Pr) (nm : ByteArray) : (pget PS nm).2 = 0 ∨ (pget PS nm).2 = 40 := by
  cases e : pfind PS nm with
  | none => right; rw [pget_none e]
  | some p => left; rw [pget_some e]

theorem itself_in {s : Int} {target : ByteArray} {nonce : Int} {extra : T} {till : Int} {t : Pr} : itselfB (askd sSelf target nonce extra PS (inGr who p q now) s now till t) = decide (target = who) := by
  have e1 : (tkO PS (inGr who p q now) s).cl = who := rfl
  have e2 : (auO PS (inGr who p q now)).user = who := rfl
  have e3 : (auO PS (inGr who p q now)).tr = [] := rfl
  simp only [itselfB, e1, e2, e3]
  by_cases h : target = who
  · subst h; simp
  · simp [h]

theorem ways_a {came1 : List (T × Int)} {evs1 : List Ev} {user : ByteArray} (hv : AllP PS) (hp : pfind PS who = some p) (hq : pfind PS sCentre = some q) (h0 : 0 ≤ now) (h1 : now ≤ 549755813888) (hl : 1 ≤ p.life) (hl2 : 1 ≤ q.life) (hc : CameIn came1 [inMark (keyT who p.ver) now 1]) (he : evs1.length = 1) :
    ∃ x came2 s2 evs2, transitS ⟨PS, max 9 0, came1, 1, evs1⟩ now (gaskS sSelf who who (keyT .empty 1) (tkT PS (inGr who p q now) 1) (extraT (keyT .empty 1) user) now 2 1099511627776) = ((x, wayW PS p user), ⟨PS, max 9 0, came2, s2, evs2⟩) ∧
      CameIn came2 [gMark (keyT .empty 1) who now 2 sSelf who, inMark (keyT who p.ver) now 1] ∧ evs2.length ≤ 2 ∧ (partS (takeS x sTgsRep 3) (keyT .empty 1) 8).2.2 = decide (wayW PS p user = 0) := by
  have gp := pfind_good hv hp
  have gq := pfind_good hv hq
  have hg : Good PS (inGr who p q now) 1 := inGr_good hv hp hq h0 (by omega) (by omega)
  obtain ⟨came2, hc2, hT⟩ := transit_open (c := ⟨PS, max 9 0, came1, 1, evs1⟩) (r := inGr who p q now) (s := 1) (t := p) (target := who) (user := user) (key := keyT .empty 1) (now := now) (nonce := 2) (till := 1099511627776) hv hg inGr_svc hp hl (by rw [inGr_fr]; exact h0) (by rw [inGr_fr]; exact Int.le_refl _) (by rw [inGr_till]; omega) (by rw [inGr_till]; omega) (by omega) (by omega) hc
    (by simp [gMark, inMark, sealT, inGr_client]) (by simp; omega)
  rw [if_pos rfl, inGr_client] at hT
  rw [hT]
  have hA : allowedS PS (askd sSelf who 2 (extraT (keyT .empty 1) user) PS (inGr who p q now) 1 now 1099511627776 p) user = wayW PS p user := by
    unfold allowedS
    rw [itself_in]
    simp only [decide_true, if_true, pget_some hp, wayW]
    rcases pget_err PS user with e | e
    · rw [if_pos e, if_pos e]
    · rw [if_neg (by omega), if_neg (by omega), e]
  rw [hA]
  by_cases hw : wayW PS p user = 0
  · rw [if_pos hw]
    have hpu : (pget PS user).2 = 0 := by
      unfold wayW at hw
      split at hw
      · assumption
      · simp at hw
    obtain ⟨u, hu, _⟩ := pget_found hpu
    have gt := gp.l1
    have hgt : Good PS (traGr (askd sSelf who 2 (extraT (keyT .empty 1) user) PS (inGr who p q now) 1 now 1099511627776 p) user) 2 := transit_good hv hu hp hg.kc (by omega) h0 (by show now ≤ min (min 1099511627776 (inGr who p q now).till) (now + p.life); rw [inGr_till]; omega) (by show min (min 1099511627776 (inGr who p q now).till) (now + p.life) ≤ 1099511627776; omega)
    rw [Good.reply (c := ⟨PS, max 9 0, came2, 1, evs1⟩) hgt (by rw [wrap_id (by simp) (by simp)]; rfl), hw]
    refine ⟨_, came2, 2, _, rfl, hc2, by simp [noteS, he], ?_⟩
    have ek : (tkO PS (inGr who p q now) 1).key = keyT .empty 1 := rfl
    simp only [ek]
    rw [part_answer _ _ _ _ _ _ _ _ rfl]
    simp
  · rw [if_neg hw]
    refine ⟨T0, came2, 1, evs1, rfl, hc2, by omega, ?_⟩
    rw [part_T0]
    simp [hw]

theorem ways_b {came2 : List (T × Int)} {s2 : Int} {evs2 : List Ev} {user : ByteArray} (hv : AllP PS) (hp : pfind PS who = some p) (hq : pfind PS sCentre = some q) (h0 : 0 ≤ now) (h1 : now ≤ 549755813888) (hl : 1 ≤ p.life) (hl2 : 1 ≤ q.life) (hc : CameIn came2 [gMark (keyT .empty 1) who now 2 sSelf who, inMark (keyT who p.ver) now 1]) :
    ∃ came3, transitS ⟨PS, max 9 0, came2, s2, evs2⟩ now (gaskS sSelf who who (keyT .empty 1) (tkT PS (inGr who p q now) 1) (extraT (keyT .empty 99) user) now 3 1099511627776) = ((T0, 62), ⟨PS, max 9 0, came3, s2, evs2⟩) ∧
      CameIn came3 [gMark (keyT .empty 1) who now 3 sSelf who, gMark (keyT .empty 1) who now 2 sSelf who, inMark (keyT who p.ver) now 1] := by
  have hg : Good PS (inGr who p q now) 1 := inGr_good hv hp hq h0 (by omega) (by omega)
  obtain ⟨came3, hc3, hT⟩ := transit_open (c := ⟨PS, max 9 0, came2, s2, evs2⟩) (r := inGr who p q now) (s := 1) (t := p) (target := who) (user := user) (key := keyT .empty 99) (now := now) (nonce := 3) (till := 1099511627776) hv hg inGr_svc hp hl (by rw [inGr_fr]; exact h0) (by rw [inGr_fr]; exact Int.le_refl _) (by rw [inGr_till]; omega) (by rw [inGr_till]; omega) (by omega) (by omega) hc
    (by simp [gMark, inMark, sealT, listT, inGr_client]) (by simp; omega)
  rw [if_neg (by simp), inGr_client] at hT
  exact ⟨came3, hT, hc3⟩

theorem ways_c {came3 : List (T × Int)} {s2 : Int} {evs2 : List Ev} {user other : ByteArray} {o : Pr} (hv : AllP PS) (hp : pfind PS who = some p) (hq : pfind PS sCentre = some q) (ho : pfind PS other = some o) (hlo : 1 ≤ o.life) (hne : other ≠ who) (h0 : 0 ≤ now) (h1 : now ≤ 549755813888) (hl : 1 ≤ p.life) (hl2 : 1 ≤ q.life) (hc : CameIn came3 [gMark (keyT .empty 1) who now 3 sSelf who, gMark (keyT .empty 1) who now 2 sSelf who, inMark (keyT who p.ver) now 1]) :
    ∃ c4, transitS ⟨PS, max 9 0, came3, s2, evs2⟩ now (gaskS sSelf other who (keyT .empty 1) (tkT PS (inGr who p q now) 1) (extraT (keyT .empty 1) user) now 4 1099511627776) = ((T0, 61), c4) := by
  have hg : Good PS (inGr who p q now) 1 := inGr_good hv hp hq h0 (by omega) (by omega)
  obtain ⟨came4, hc4, hT⟩ := transit_open (c := ⟨PS, max 9 0, came3, s2, evs2⟩) (r := inGr who p q now) (s := 1) (t := o) (target := other) (user := user) (key := keyT .empty 1) (now := now) (nonce := 4) (till := 1099511627776) hv hg inGr_svc ho hlo (by rw [inGr_fr]; exact h0) (by rw [inGr_fr]; exact Int.le_refl _) (by rw [inGr_till]; omega) (by rw [inGr_till]; omega) (by omega) (by omega) hc
    (by simp [gMark, inMark, sealT, listT, inGr_client]) (by simp; omega)
  have hA : allowedS PS (askd sSelf other 4 (extraT (keyT .empty 1) user) PS (inGr who p q now) 1 now 1099511627776 o) user = 61 := by
    unfold allowedS
    rw [itself_in]
    simp [hne]
  rw [if_pos rfl, inGr_client] at hT
  simp only [hA] at hT
  rw [if_neg (by simp)] at hT
  exact ⟨_, hT⟩
end
end Go.Proofs.YtobhfopgoidniaaGreat

/- Sizes. -/
namespace Go.Proofs.YtobhfopgoidniaaGreat
open Go Go.Eng

theorem pkey_size (ps : List Pr) (nm : ByteArray) : (pkey ps nm).1.size = 1 := by
  unfold pkey; split <;> rfl

theorem tkT_size {ps : List Pr} {r : Gr} {s : Int} (h : Good ps r s) : (tkT ps r s).size ≤ 1100 := by
  have h1 := make_inv h.tk
  have h2 := build_size _ _ _ (pkey_size ps r.svc) (pkey_size ps sCentre) h.au
  have h3 := pkey_size ps r.svc
  unfold tkT
  rw [make_ok h1.1 h1.2]
  have h4 : (tkO ps r s).auth.size ≤ 1000 := h2
  have h5 : (tkO ps r s).key.size = 1 := rfl
  simp only [T.size, T.sizes, h3, h5]
  omega

theorem gask_size (kind target client : ByteArray) (session tgt extra : T) (now nonce till : Int) : (gaskS kind target client session tgt extra now nonce till).size = 13 + session.size + tgt.size + extra.size := by
  simp only [gaskS, T.size, T.sizes]
  omega

theorem extra_size (key : T) (user : ByteArray) : (extraT key user).size = 4 + key.size := by
  simp only [extraT, T.size, T.sizes]
  omega
end Go.Proofs.YtobhfopgoidniaaGreat
