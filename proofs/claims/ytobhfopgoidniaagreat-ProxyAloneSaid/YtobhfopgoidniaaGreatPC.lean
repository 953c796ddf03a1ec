/- A ticket is granted, in order. -/
import Derived.Test.YtobhfopgoidniaaGreatPA
import Derived.Test.YtobhfopgoidniaaGreatNB
set_option linter.all false
set_option linter.unusedVariables false
set_option linter.unusedSimpArgs false

namespace Go.Proofs.YtobhfopgoidniaaGreat
open Go Go.Eng

theorem grant_open {c : Cen} {r : Gr} {s : Int} {ms : List T} {t : Pr} {kind target : ByteArray} {extra : T} {now nonce till : Int} (hv : AllP c.ps) (h : Good c.ps r s) (hsv : r.svc = sCentre) (ht : pfind c.ps target = some t) (hl : 1 ≤ t.life)
    (h0 : 0 ≤ r.fr) (h1 : r.fr ≤ now) (h2 : now < r.till) (h3 : r.till ≤ 1099511627776) (h4 : now < till) (h5 : till ≤ 1099511627776)
    (hc : CameIn c.came ms) (hm : gMark (keyT .empty s) r.client now nonce kind target ∉ ms) (hr : (ms.length : Int) < c.room) :
    ∃ came', CameIn came' (gMark (keyT .empty s) r.client now nonce kind target :: ms) ∧ grantS c now (gaskS kind target r.client (keyT .empty s) (tkT c.ps r s) extra now nonce till) =
      granO ⟨c.ps, c.room, came', c.serial, c.evs⟩ now (askd kind target nonce extra c.ps r s now till t) := by
  obtain ⟨came', ho, hc'⟩ := oop_ok (kind := kind) (extra := extra) (nonce := nonce) hv h hsv ht hl h0 h1 h2 h3 h4 h5 hc hm hr
  refine ⟨came', hc', ?_⟩
  unfold grantS
  rw [ho]
  simp only [if_true]

theorem gran_good {ps : List Pr} {r : Gr} {s s' now till nonce fl : Int} {t : Pr} {kind target : ByteArray} {extra : T} (hv : AllP ps) (h : Good ps r s) (ht : pfind ps target = some t) (hl : 1 ≤ t.life) (h1 : 0 ≤ fl) (h2 : fl ≤ 15) (hs : 1 ≤ s') (h0 : 0 ≤ now) (h3 : now < r.till) (h4 : now < till) (h5 : till ≤ 1099511627776) :
    Good ps (granGr (askd kind target nonce extra ps r s now till t) fl) s' := by
  have gt := pfind_good hv ht
  obtain ⟨ha, _, _⟩ := build_inv h.au
  have hk := make_inv h.tk
  have hcl := (tkt_inv hk.1).2.1
  refine good_of (by simp [granGr, pkey_some ht]) h.kc ?_ hcl h1 h2 hs ?_
  · have hl0 := gt.l0
    have hl1 := gt.l1
    have e1 : (granGr (askd kind target nonce extra ps r s now till t) fl).till = min (min till r.till) (now + t.life) := rfl
    simp only [auOk, Bool.and_eq_true, decide_eq_true_eq] at ha ⊢
    obtain ⟨⟨⟨⟨⟨⟨⟨a1, a2⟩, a3⟩, a4⟩, a5⟩, a6⟩, a7⟩, a8⟩ := ha
    refine ⟨⟨⟨⟨⟨⟨⟨a1, ?_⟩, a3⟩, a4⟩, a5⟩, a6⟩, ?_⟩, ?_⟩
    · exact gt.ok
    · show 0 ≤ min (min till r.till) (now + t.life); omega
    · show min (min till r.till) (now + t.life) ≤ 1099511627776; omega
  · show sOk now (min (min till r.till) (now + t.life)) = true
    simp only [sOk, tOk, Bool.and_eq_true, decide_eq_true_eq]
    omega

theorem grant_ok {c : Cen} {r : Gr} {s : Int} {ms : List T} {t : Pr} {kind target : ByteArray} {now nonce till fl : Int} (hv : AllP c.ps) (h : Good c.ps r s) (hsv : r.svc = sCentre) (ht : pfind c.ps target = some t) (hl : 1 ≤ t.life)
    (h0 : 0 ≤ r.fr) (h1 : r.fr ≤ now) (h2 : now < r.till) (h3 : r.till ≤ 1099511627776) (h4 : now < till) (h5 : till ≤ 1099511627776)
    (hc : CameIn c.came ms) (hm : gMark (keyT .empty s) r.client now nonce kind target ∉ ms) (hr : (ms.length : Int) < c.room) (hs0 : 0 ≤ c.serial) (hs1 : c.serial ≤ 1099511627776)
    (hF : kindS (askd kind target nonce (listT []) c.ps r s now till t) = some (fl, 0)) (hf0 : 0 ≤ fl) (hf1 : fl ≤ 15) :
    Good c.ps (granGr (askd kind target nonce (listT []) c.ps r s now till t) fl) (c.serial + 1) ∧
    ∃ came', CameIn came' (gMark (keyT .empty s) r.client now nonce kind target :: ms) ∧ grantS c now (gaskS kind target r.client (keyT .empty s) (tkT c.ps r s) (listT []) now nonce till) =
      ((answerS sTgsRep r.client (tkT c.ps (granGr (askd kind target nonce (listT []) c.ps r s now till t) fl) (c.serial + 1)) (keyT .empty s) (keyT .empty (c.serial + 1)) 8 nonce (granGr (askd kind target nonce (listT []) c.ps r s now till t) fl), 0),
        ⟨c.ps, c.room, came', c.serial + 1, c.evs ++ [{ granEv (askd kind target nonce (listT []) c.ps r s now till t) with at_ := now, fl := fl, till := min (min till r.till) (now + t.life) }]⟩) := by
  obtain ⟨came', hc', hG⟩ := grant_open (kind := kind) (extra := listT []) (nonce := nonce) hv h hsv ht hl h0 h1 h2 h3 h4 h5 hc hm hr
  have hgood : Good c.ps (granGr (askd kind target nonce (listT []) c.ps r s now till t) fl) (c.serial + 1) := gran_good hv h ht hl hf0 hf1 (by omega) (by omega) h2 h4 h5
  refine ⟨hgood, came', hc', ?_⟩
  rw [hG]
  unfold granO
  rw [hF]
  simp only [if_true]
  exact Good.reply (c := ⟨c.ps, c.room, came', c.serial, c.evs⟩) hgood (wrap_id (by omega) (by omega)).symm

theorem kind_ask {a : Asd} (hk : a.kind = sAsk) (ht : a.target ≠ sCentre) : kindS a = some (iandn a.tk.fl 8, 0) := by
  simp [kindS, hk, askF, ht]
theorem kind_forward {a : Asd} (hk : a.kind = sForward) (ht : a.target = sCentre) (h1 : hasB a.tk.fl 1 = true) (h2 : a.au.fwd = true) : kindS a = some (ior a.tk.fl 2, 0) := by
  have q1 : sForward ≠ sAsk := by decide
  have q2 : sForward ≠ sLend := by decide
  simp [kindS, hk, q1, q2, forwF, ht, h1, h2]
end Go.Proofs.YtobhfopgoidniaaGreat
