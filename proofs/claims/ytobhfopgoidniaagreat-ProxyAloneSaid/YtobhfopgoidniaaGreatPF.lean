/- A ticket for the centre that is handed on, again and again. A user's own ticket gets nothing with another one's evidence. -/
import Derived.Test.YtobhfopgoidniaaGreatPC
import Derived.Test.YtobhfopgoidniaaGreatNE
import Derived.Test.YtobhfopgoidniaaGreatPA
import Derived.Test.YtobhfopgoidniaaGreatSB
set_option linter.all false
set_option linter.unusedVariables false
set_option linter.unusedSimpArgs false

/- A ticket for the centre that is handed on, again and again. -/
namespace Go.Proofs.YtobhfopgoidniaaGreat
open Go Go.Eng

def fwC : Pr := ⟨bCentre, 1, false, false, [], [], [], 1000⟩
def fwW (who : ByteArray) : Pr := ⟨who, 1, false, false, [], [], [], 500⟩
def fwB : Pr := ⟨bWeb, 1, false, false, [], [], [], 300⟩
def fwPs (who : ByteArray) : List Pr := [fwC, fwW who, fwB]

section
variable {who : ByteArray}

theorem fw_add (hn : nameS who = true) (h1 : who ≠ bCentre) (h2 : who ≠ bWeb) : addAll (fwPs who) = fwPs who := by
  have v1 : validP fwC = true := by decide +kernel
  have v3 : validP fwB = true := by decide +kernel
  have v2 : validP (fwW who) = true := by
    simp [validP, fwW, hn, namesB]
  have n13 : bCentre ≠ bWeb := by decide
  have e1 : padd [] fwC = ([fwC], 0) := by simp [padd, v1, pfind]
  have e2 : padd [fwC] (fwW who) = ([fwC, fwW who], 0) := by
    have : pfind [fwC] (fwW who).name = none := by
      simp only [pfind, List.find?_eq_none]
      intro x hx
      rw [List.mem_singleton.1 hx]
      simp [fwC, fwW, Ne.symm h1]
    simp [padd, v2, this]
  have e3 : padd [fwC, fwW who] fwB = ([fwC, fwW who, fwB], 0) := by
    have : pfind [fwC, fwW who] fwB.name = none := by
      simp only [pfind, List.find?_eq_none]
      intro x hx
      rcases List.mem_cons.1 hx with hx | hx
      · rw [hx]; simp [fwC, fwB, n13]
      · rw [List.mem_singleton.1 hx]
        simp [fwW, fwB, h2]
    simp [padd, v3, this]
  simp [addAll, fwPs, e1, e2, e3]

theorem fw_valid (hn : nameS who = true) : AllP (fwPs who) := by
  intro p hp
  simp only [fwPs, List.mem_cons, List.not_mem_nil, or_false] at hp
  rcases hp with rfl | rfl | rfl
  · decide +kernel
  · simp [validP, fwW, hn, namesB]
  · decide +kernel

theorem fw_c : pfind (fwPs who) sCentre = some fwC := by
  have : bCentre = sCentre := rfl
  simp [pfind, fwPs, fwC, this]
theorem fw_w (h1 : who ≠ bCentre) : pfind (fwPs who) who = some (fwW who) := by
  have e : decide (fwC.name = who) = false := decide_eq_false (show ¬ bCentre = who from Ne.symm h1)
  simp [pfind, fwPs, e, fwW]
theorem fw_b (h2 : who ≠ bWeb) : pfind (fwPs who) bWeb = some fwB := by
  have e : decide (fwC.name = bWeb) = false := by decide
  have e2 : decide ((fwW who).name = bWeb) = false := by simp [fwW, h2]
  simp [pfind, fwPs, e, e2, fwB]

/-- The ticket that stands after so many times. -/
def fwR (who : ByteArray) (now : Int) (i : Nat) : Gr := ⟨who, who, sCentre, if i = 0 then 5 else 7, 0, [], true, now, now + 500⟩

theorem ior52 : ior 5 2 = 7 := by decide +kernel
theorem ior72 : ior 7 2 = 7 := by decide +kernel
theorem iandn78 : iandn 7 8 = 7 := by decide +kernel
theorem has51 : hasB 5 1 = true := by decide +kernel
theorem has71 : hasB 7 1 = true := by decide +kernel
theorem has72 : hasB 7 2 = true := by decide +kernel

theorem fwR_zero {now : Int} (h1 : now ≤ 549755813888) : inGr who (fwW who) fwC now = fwR who now 0 := by
  have e : min 1099511627776 (now + min (fwW who).life fwC.life) = now + 500 := by
    have : min (fwW who).life fwC.life = 500 := rfl
    rw [this]; omega
  simp only [inGr, loginGr, fwR, e]
  rfl

abbrev fwA (who : ByteArray) (now : Int) (i : Nat) (nonce : Int) : Asd := askd sForward sCentre nonce (listT []) (fwPs who) (fwR who now i) (i + 1) now 1099511627776 fwC

theorem fwR_succ {now nonce : Int} (i : Nat) (h1 : now ≤ 549755813888) : granGr (fwA who now i nonce) 7 = fwR who now (i + 1) := by
  have e : min (min 1099511627776 (fwR who now i).till) (now + fwC.life) = now + 500 := by
    have e1 : (fwR who now i).till = now + 500 := rfl
    have e2 : fwC.life = 1000 := rfl
    rw [e1, e2]; omega
  have e3 : (granGr (fwA who now i nonce) 7).till = now + 500 := e
  have : granGr (fwA who now i nonce) 7 = ⟨who, who, sCentre, 7, 0, [], true, now, (granGr (fwA who now i nonce) 7).till⟩ := rfl
  rw [this, e3]
  simp [fwR]

structure FwC (who : ByteArray) (now : Int) (i : Nat) (c : Cen) (ms : List T) : Prop where
  ps : c.ps = fwPs who
  room : c.room = 20
  ser : c.serial = (i : Int) + 1
  came : CameIn c.came ms
  len : ms.length = i + 1
  ev : c.evs.length = i + 1
  ms : ∀ m ∈ ms, m = inMark (keyT who 1) now 1 ∨ ∃ j : Nat, j < i ∧ m = gMark (keyT .empty (j + 1)) who now (2 + j) sForward sCentre

theorem fw_in {now : Int} (hn : nameS who = true) (h1 : who ≠ bCentre) (h0 : 0 ≤ now) (h2 : now ≤ 549755813888) :
    ∃ c ms, inS ⟨fwPs who, max 20 0, [], 0, []⟩ who (keyT who 1) now 1 = ((tkT (fwPs who) (fwR who now 0) 1, keyT .empty 1, true), c) ∧ FwC who now 0 c ms := by
  obtain ⟨came', h, hc⟩ := in_ok (c := ⟨fwPs who, max 20 0, [], 0, []⟩) (nonce := 1) (now := now) (fw_valid hn) (fw_w h1) fw_c h0 (by omega) (show (1 : Int) ≤ 500 by decide) (by decide) CameIn.nil (by simp) (by simp; omega) (by simp) (by simp)
  rw [fwR_zero h2] at h
  exact ⟨_, _, h, rfl, rfl, rfl, hc, rfl, rfl, fun m hm => .inl (List.mem_singleton.1 hm)⟩

theorem fw_good {now : Int} (hn : nameS who = true) (h1 : who ≠ bCentre) (h0 : 0 ≤ now) (h2 : now ≤ 549755813888) : ∀ i : Nat, Good (fwPs who) (fwR who now i) ((i : Int) + 1)
  | 0 => by
    have := inGr_good (s := 1) (now := now) (fw_valid hn) (fw_w h1) fw_c h0 (by omega) (by omega)
    rw [fwR_zero h2] at this
    simpa using this
  | i + 1 => by
    have h := fw_good hn h1 h0 h2 i
    have := gran_good (s' := ((i + 1 : Nat) : Int) + 1) (kind := sForward) (extra := listT []) (nonce := 0) (fl := 7) (now := now) (till := 1099511627776) (fw_valid hn) h fw_c (by decide) (by omega) (by omega) (by omega) h0 (by show now < now + 500; omega) (by omega) (by omega)
    rwa [fwR_succ i h2] at this

theorem fw_step {now : Int} {i : Nat} {c : Cen} {ms : List T} (hn : nameS who = true) (h1 : who ≠ bCentre) (h0 : 0 ≤ now) (h2 : now ≤ 549755813888) (hi : i ≤ 4) (hc : FwC who now i c ms) :
    ∃ x c' ms', grantS c now (gaskS sForward sCentre who (keyT .empty ((i : Int) + 1)) (tkT (fwPs who) (fwR who now i) ((i : Int) + 1)) (listT []) now (2 + i) 1099511627776) = ((x, 0), c') ∧ FwC who now (i + 1) c' ms' ∧
      partS (takeS x sTgsRep 3) (keyT .empty ((i : Int) + 1)) 8 = (tkT (fwPs who) (fwR who now (i + 1)) ((i : Int) + 1 + 1), keyT .empty ((i : Int) + 1 + 1), true) := by
  obtain ⟨ps, room, came, ser, evs⟩ := c
  obtain ⟨a1, a2, a3, a4, a5, a6, a7⟩ := hc
  dsimp only at a1 a2 a3 a4 a6
  subst a1
  subst a2
  subst a3
  have hg := fw_good hn h1 h0 h2 i
  have hF : kindS (askd sForward sCentre (2 + (i : Int)) (listT []) (fwPs who) (fwR who now i) ((i : Int) + 1) now 1099511627776 fwC) = some (7, 0) := by
    rw [kind_forward rfl rfl ?_ rfl]
    · show some (ior (fwR who now i).fl 2, (0 : Int)) = _
      unfold fwR
      by_cases hi0 : i = 0
      · rw [if_pos hi0]; exact congrArg (fun x => some (x, (0 : Int))) ior52
      · rw [if_neg hi0]; exact congrArg (fun x => some (x, (0 : Int))) ior72
    · show hasB (fwR who now i).fl 1 = true
      unfold fwR
      by_cases hi0 : i = 0
      · rw [if_pos hi0]; exact has51
      · rw [if_neg hi0]; exact has71
  have hm : gMark (keyT .empty ((i : Int) + 1)) (fwR who now i).client now (2 + i) sForward sCentre ∉ ms := by
    intro hm
    rcases a7 _ hm with e | ⟨j, hj, e⟩
    · simp [gMark, inMark, sealT] at e
    · simp [gMark, sealT, listT] at e
      omega
  obtain ⟨hg', came', hc', hG⟩ := grant_ok (c := ⟨fwPs who, 20, came, (i : Int) + 1, evs⟩) (kind := sForward) (nonce := 2 + i) (now := now) (till := 1099511627776) (fl := 7) (fw_valid hn) hg rfl fw_c (by decide) h0 (Int.le_refl _) (by show now < now + 500; omega) (by show now + 500 ≤ _; omega) (by omega) (by omega) a4 hm (by dsimp only; omega) (by dsimp only; omega) (by dsimp only; omega) hF (by omega) (by omega)
  have e := fwR_succ (who := who) (now := now) (nonce := 2 + i) i h2
  dsimp only at hG
  rw [e] at hG
  refine ⟨_, _, _, hG, ⟨rfl, rfl, by dsimp only; omega, hc', by simp [a5], by simp [a6], fun m hmm => ?_⟩, part_answer _ _ _ _ _ _ _ _ rfl⟩
  rcases List.mem_cons.1 hmm with hmm | hmm
  · exact .inr ⟨i, by omega, hmm⟩
  · rcases a7 m hmm with e | ⟨j, hj, e⟩
    · exact .inl e
    · exact .inr ⟨j, by omega, e⟩

def fwL (who : ByteArray) (now : Int) : Gr := ⟨who, who, bWeb, 7, 0, [], true, now, now + 300⟩

theorem fw_last {now : Int} {i : Nat} {c : Cen} {ms : List T} (hn : nameS who = true) (h1 : who ≠ bCentre) (h3 : who ≠ bWeb) (h0 : 0 ≤ now) (h2 : now ≤ 549755813888) (hi : i ≤ 4) (hc : FwC who now (i + 1) c ms) :
    ∃ x c', grantS c now (gaskS sAsk bWeb who (keyT .empty ((i : Int) + 1 + 1)) (tkT (fwPs who) (fwR who now (i + 1)) ((i : Int) + 1 + 1)) (listT []) now 90 1099511627776) = ((x, 0), c') ∧
      partS (takeS x sTgsRep 3) (keyT .empty ((i : Int) + 1 + 1)) 8 = (tkT (fwPs who) (fwL who now) ((i : Int) + 1 + 1 + 1), keyT .empty ((i : Int) + 1 + 1 + 1), true) ∧ openS (tkT (fwPs who) (fwL who now) ((i : Int) + 1 + 1 + 1)) (keyT bWeb 1) = (tkO (fwPs who) (fwL who now) ((i : Int) + 1 + 1 + 1), 0) ∧ (tkT (fwPs who) (fwL who now) ((i : Int) + 1 + 1 + 1)).size ≤ 1100 := by
  obtain ⟨ps, room, came, ser, evs⟩ := c
  obtain ⟨a1, a2, a3, a4, a5, a6, a7⟩ := hc
  dsimp only at a1 a2 a3 a4 a6
  subst a1
  subst a2
  subst a3
  have hg := fw_good hn h1 h0 h2 (i + 1)
  have ei : ((i + 1 : Nat) : Int) = (i : Int) + 1 := by omega
  rw [ei] at hg ⊢
  have hF : kindS (askd sAsk bWeb 90 (listT []) (fwPs who) (fwR who now (i + 1)) ((i : Int) + 1 + 1) now 1099511627776 fwB) = some (7, 0) := by
    rw [kind_ask rfl (show bWeb ≠ sCentre by decide)]
    show some (iandn (fwR who now (i + 1)).fl 8, (0 : Int)) = _
    unfold fwR
    rw [if_neg (by omega)]
    exact congrArg (fun x => some (x, (0 : Int))) iandn78
  have hm : gMark (keyT .empty ((i : Int) + 1 + 1)) (fwR who now (i + 1)).client now 90 sAsk bWeb ∉ ms := by
    intro hm
    rcases a7 _ hm with e | ⟨j, hj, e⟩
    · simp [gMark, inMark, sealT] at e
    · simp [gMark, sealT, listT] at e
      omega
  obtain ⟨hg', came', hc', hG⟩ := grant_ok (c := ⟨fwPs who, 20, came, (i : Int) + 1 + 1, evs⟩) (kind := sAsk) (nonce := 90) (now := now) (till := 1099511627776) (fl := 7) (fw_valid hn) hg rfl (fw_b h3) (by decide) h0 (Int.le_refl _) (by show now < now + 500; omega) (by show now + 500 ≤ _; omega) (by omega) (by omega) a4 hm (by dsimp only; omega) (by dsimp only; omega) (by dsimp only; omega) hF (by omega) (by omega)
  have e : granGr (askd sAsk bWeb 90 (listT []) (fwPs who) (fwR who now (i + 1)) ((i : Int) + 1 + 1) now 1099511627776 fwB) 7 = fwL who now := by
    have e1 : min (min 1099511627776 (fwR who now (i + 1)).till) (now + fwB.life) = now + 300 := by
      have e1 : (fwR who now (i + 1)).till = now + 500 := rfl
      have e2 : fwB.life = 300 := rfl
      rw [e1, e2]; omega
    have e3 : granGr (askd sAsk bWeb 90 (listT []) (fwPs who) (fwR who now (i + 1)) ((i : Int) + 1 + 1) now 1099511627776 fwB) 7 = ⟨who, who, bWeb, 7, 0, [], true, now, min (min 1099511627776 (fwR who now (i + 1)).till) (now + fwB.life)⟩ := rfl
    rw [e3, e1]
    rfl
  dsimp only at hG hg'
  rw [e] at hG hg'
  have ho := hg'.opens
  have hk : (pkey (fwPs who) (fwL who now).svc).1 = keyT bWeb 1 := by
    show (pkey (fwPs who) bWeb).1 = _
    rw [pkey_some (fw_b h3)]
    rfl
  rw [hk] at ho
  exact ⟨_, _, hG, part_answer _ _ _ _ _ _ _ _ rfl, ho, tkT_size hg'⟩
end
end Go.Proofs.YtobhfopgoidniaaGreat

/- A user's own ticket gets nothing with another one's evidence. -/
namespace Go.Proofs.YtobhfopgoidniaaGreat
open Go Go.Eng

theorem proxy_refuse {c : Cen} {r : Gr} {s : Int} {ms : List T} {t : Pr} {target sv : ByteArray} {ex : T} {now nonce till : Int} (hv : AllP c.ps) (h : Good c.ps r s) (hsv : r.svc = sCentre) (ht : pfind c.ps target = some t) (hl : 1 ≤ t.life)
    (h0 : 0 ≤ r.fr) (h1 : r.fr ≤ now) (h2 : now < r.till) (h3 : r.till ≤ 1099511627776) (h4 : now < till) (h5 : till ≤ 1099511627776)
    (hc : CameIn c.came ms) (hm : gMark (keyT .empty s) r.client now nonce sProxy target ∉ ms) (hr : (ms.length : Int) < c.room)
    (hus : r.user = r.client) (htr : r.tr = []) (hk : (pkey c.ps r.client).2 = 0) (hex : serviceS ex = (sv, 0)) (hne : sv ≠ r.client) :
    ∃ came', CameIn came' (gMark (keyT .empty s) r.client now nonce sProxy target :: ms) ∧ proxyS c now (gaskS sProxy target r.client (keyT .empty s) (tkT c.ps r s) ex now nonce till) = ((T0, 50), ⟨c.ps, c.room, came', c.serial, c.evs⟩) := by
  obtain ⟨came', ho, hc'⟩ := oop_ok (kind := sProxy) (extra := ex) (nonce := nonce) hv h hsv ht hl h0 h1 h2 h3 h4 h5 hc hm hr
  refine ⟨came', hc', ?_⟩
  unfold proxyS
  rw [ho]
  dsimp only
  rw [if_pos rfl]
  have e1 : itsP (askd sProxy target nonce ex c.ps r s now till t) = 0 := by
    unfold itsP
    rw [if_pos (show (askd sProxy target nonce ex c.ps r s now till t).kind = sProxy from rfl)]
    exact if_pos ⟨hus, htr⟩
  have e2 : userP c.ps now (askd sProxy target nonce ex c.ps r s now till t) = 50 := by
    have e3 : takeP c.ps now r.client ex = ((Tkt0, Au0), 50) := by
      unfold takeP
      rw [if_pos ⟨hk, h.kc⟩, if_neg (by rw [hex]; exact fun q => hne q.2)]
    have e4 : takeP c.ps now (askd sProxy target nonce ex c.ps r s now till t).tk.cl (askd sProxy target nonce ex c.ps r s now till t).extra = ((Tkt0, Au0), 50) := e3
    unfold userP
    rw [e4]
    rfl
  unfold proxyO
  rw [if_pos e1, if_neg (by rw [e2]; decide), e2]

abbrev bBob : ByteArray := ⟨#[98, 111, 98]⟩
abbrev bDb' : ByteArray := ⟨#[100, 98]⟩
def lnA : Pr := ⟨bAnn, 1, false, false, [bDb'], [], [], 500⟩
def lnB : Pr := ⟨bBob, 1, false, false, [], [], [], 500⟩
def lnW : Pr := ⟨bWeb, 1, false, false, [bDb'], [], [], 300⟩
def lnD : Pr := ⟨bDb', 1, false, false, [], [], [], 200⟩
def lnPs : List Pr := [fwC, lnA, lnB, lnW, lnD]
theorem ln_add : addAll lnPs = lnPs := by
  have e : addAll lnPs = [fwC, lnA, lnB, lnW, lnD] := by rfl
  exact e
theorem ln_valid : AllP lnPs := by
  intro p hp
  simp only [lnPs, List.mem_cons, List.not_mem_nil, or_false] at hp
  rcases hp with rfl | rfl | rfl | rfl | rfl <;> decide +kernel
theorem ln_c : pfind lnPs sCentre = some fwC := by rfl
theorem ln_a : pfind lnPs bAnn = some lnA := by rfl
theorem ln_b : pfind lnPs bBob = some lnB := by rfl
theorem ln_w : pfind lnPs bWeb = some lnW := by rfl
theorem ln_d : pfind lnPs bDb' = some lnD := by rfl

def lnR (who : ByteArray) (now : Int) : Gr := ⟨who, who, sCentre, 5, 0, [], true, now, now + 500⟩
theorem ln_ra {now : Int} (h : now ≤ 549755813888) : inGr bAnn lnA fwC now = lnR bAnn now := by
  have e : min 1099511627776 (now + min lnA.life fwC.life) = now + 500 := by
    have : min lnA.life fwC.life = 500 := rfl
    rw [this]; omega
  simp only [inGr, loginGr, lnR, e]
  rfl
theorem ln_rb {now : Int} (h : now ≤ 549755813888) : inGr bBob lnB fwC now = lnR bBob now := by
  have e : min 1099511627776 (now + min lnB.life fwC.life) = now + 500 := by
    have : min lnB.life fwC.life = 500 := rfl
    rw [this]; omega
  simp only [inGr, loginGr, lnR, e]
  rfl
theorem iandn58 : iandn 5 8 = 5 := by decide +kernel

structure LnC (c : Cen) (n : Nat) : Prop where
  came : c.came.length ≤ n
  evs : c.evs.length ≤ n

theorem alone_pure {now nonce : Int} (h0 : 0 ≤ now) (h1 : now ≤ 549755813888) :
    ∃ c1 c2 x3 c3 c4 c5 c6 g3, inS ⟨lnPs, max 20 0, [], 0, []⟩ bAnn (keyT bAnn 1) now 1 = ((tkT lnPs (lnR bAnn now) 1, keyT .empty 1, true), c1) ∧
      inS c1 bBob (keyT bBob 1) now 2 = ((tkT lnPs (lnR bBob now) 2, keyT .empty 2, true), c2) ∧
      grantS c2 now (gaskS sAsk bWeb bBob (keyT .empty 2) (tkT lnPs (lnR bBob now) 2) (listT []) now 3 1099511627776) = ((x3, 0), c3) ∧
      partS (takeS x3 sTgsRep 3) (keyT .empty 2) 8 = (tkT lnPs g3 3, keyT .empty 3, true) ∧
      proxyS c3 now (gaskS sProxy bDb' bAnn (keyT .empty 1) (tkT lnPs (lnR bAnn now) 1) (tkT lnPs g3 3) now 4 1099511627776) = ((T0, 50), c4) ∧
      proxyS c4 now (gaskS sProxy bDb' bAnn (keyT .empty 1) (tkT lnPs (lnR bAnn now) 1) (tkT lnPs (lnR bAnn now) 1) now 5 1099511627776) = ((T0, 50), c5) ∧
      proxyS c5 now (gaskS sProxy bDb' bBob (keyT .empty 2) (tkT lnPs (lnR bBob now) 2) (tkT lnPs g3 3) now nonce 1099511627776) = ((T0, 50), c6) ∧
      LnC c1 10 ∧ LnC c2 10 ∧ LnC c3 10 ∧ LnC c4 10 ∧ LnC c5 10 ∧ (tkT lnPs (lnR bAnn now) 1).size ≤ 1100 ∧ (tkT lnPs (lnR bBob now) 2).size ≤ 1100 ∧ (tkT lnPs g3 3).size ≤ 1100 := by
  obtain ⟨came1, i1, hc1⟩ := in_ok (c := ⟨lnPs, max 20 0, [], 0, []⟩) (nonce := 1) (now := now) ln_valid ln_a ln_c h0 (by omega) (show (1 : Int) ≤ 500 by decide) (by decide) CameIn.nil (by simp) (by simp; omega) (by simp) (by simp)
  rw [ln_ra h1] at i1
  obtain ⟨came2, i2, hc2⟩ := in_ok (c := ⟨lnPs, max 20 0, came1, 0 + 1, [] ++ [⟨0, now, bAnn, bAnn, sCentre, [], (lnR bAnn now).fl, (lnR bAnn now).till, false, 0⟩]⟩) (nonce := 2) (now := now) ln_valid ln_b ln_c h0 (by omega) (show (1 : Int) ≤ 500 by decide) (by decide) hc1 (by simp [inMark, sealT, listT]) (by simp; omega) (by simp) (by simp)
  rw [ln_rb h1] at i2
  have ga : Good lnPs (lnR bAnn now) 1 := by
    have := inGr_good (s := 1) (now := now) ln_valid ln_a ln_c h0 (by omega) (by omega)
    rwa [ln_ra h1] at this
  have gb : Good lnPs (lnR bBob now) 2 := by
    have := inGr_good (s := 2) (now := now) ln_valid ln_b ln_c h0 (by omega) (by omega)
    rwa [ln_rb h1] at this
  have hF : kindS (askd sAsk bWeb 3 (listT []) lnPs (lnR bBob now) 2 now 1099511627776 lnW) = some (5, 0) := by
    rw [kind_ask rfl (show bWeb ≠ sCentre by decide)]
    exact congrArg (fun x => some (x, (0 : Int))) iandn58
  dsimp only at i2
  obtain ⟨hg3, came3, hc3, i3⟩ := grant_ok (c := ⟨lnPs, max 20 0, came2, 0 + 1 + 1, [] ++ [⟨0, now, bAnn, bAnn, sCentre, [], (lnR bAnn now).fl, (lnR bAnn now).till, false, 0⟩] ++ [⟨0, now, bBob, bBob, sCentre, [], (lnR bBob now).fl, (lnR bBob now).till, false, 0⟩]⟩) (s := 2) (kind := sAsk) (nonce := 3) (now := now) (till := 1099511627776) (fl := 5) ln_valid gb rfl ln_w (by decide) h0 (Int.le_refl _) (by show now < now + 500; omega) (by show now + 500 ≤ _; omega) (by omega) (by omega) hc2 (by simp [gMark, inMark, sealT]) (by simp; omega) (by simp) (by simp) hF (by omega) (by omega)
  dsimp only at i3 hg3
  generalize hg : granGr (askd sAsk bWeb 3 (listT []) lnPs (lnR bBob now) 2 now 1099511627776 lnW) 5 = g3 at i3 hg3
  have hsv3 : g3.svc = bWeb := by rw [← hg]; rfl
  have s3 := hg3.service
  have s1 := ga.service
  obtain ⟨came4, hc4, i4⟩ := proxy_refuse (c := ⟨lnPs, max 20 0, came3, 0 + 1 + 1 + 1, _⟩) (s := 1) (target := bDb') (nonce := 4) (now := now) (till := 1099511627776) ln_valid ga rfl ln_d (by decide) h0 (Int.le_refl _) (by show now < now + 500; omega) (by show now + 500 ≤ _; omega) (by omega) (by omega) hc3 (by simp [gMark, inMark, sealT, listT]) (by simp; omega) rfl rfl (by show (pkey lnPs bAnn).2 = 0; rw [pkey_some ln_a]) s3 (by rw [hsv3]; show bWeb ≠ bAnn; decide)
  obtain ⟨came5, hc5, i5⟩ := proxy_refuse (c := ⟨lnPs, max 20 0, came4, 0 + 1 + 1 + 1, _⟩) (s := 1) (target := bDb') (nonce := 5) (now := now) (till := 1099511627776) ln_valid ga rfl ln_d (by decide) h0 (Int.le_refl _) (by show now < now + 500; omega) (by show now + 500 ≤ _; omega) (by omega) (by omega) hc4 (by simp [gMark, inMark, sealT, listT]) (by simp; omega) rfl rfl (by show (pkey lnPs bAnn).2 = 0; rw [pkey_some ln_a]) s1 (by show sCentre ≠ bAnn; decide)
  have hpa : sProxy ≠ sAsk := by decide
  obtain ⟨came6, hc6, i6⟩ := proxy_refuse (c := ⟨lnPs, max 20 0, came5, 0 + 1 + 1 + 1, _⟩) (s := 2) (target := bDb') (nonce := nonce) (now := now) (till := 1099511627776) ln_valid gb rfl ln_d (by decide) h0 (Int.le_refl _) (by show now < now + 500; omega) (by show now + 500 ≤ _; omega) (by omega) (by omega) hc5 (by simp [gMark, inMark, sealT, listT, hpa]) (by simp; omega) rfl rfl (by show (pkey lnPs bBob).2 = 0; rw [pkey_some ln_b]) s3 (by rw [hsv3]; show bWeb ≠ bBob; decide)
  have l1 := hc1.len
  have l2 := hc2.len
  have l3 := hc3.len
  have l4 := hc4.len
  have l5 := hc5.len
  simp only [List.length_cons, List.length_nil] at l1 l2 l3 l4 l5
  refine ⟨_, _, _, _, _, _, _, g3, i1, i2, i3, part_answer _ _ _ _ _ _ _ _ rfl, i4, i5, i6, ⟨by dsimp only; omega, by simp⟩, ⟨by dsimp only; omega, by simp⟩, ⟨by dsimp only; omega, by simp⟩, ⟨by dsimp only; omega, by simp⟩, ⟨by dsimp only; omega, by simp⟩, tkT_size ga, tkT_size gb, tkT_size hg3⟩
end Go.Proofs.YtobhfopgoidniaaGreat
