/- A ticket for the centre that is handed on, again and again. A ticket for the centre that was handed on gets tickets that tell it. GrantForwarded: what is said of it holds at every input. No condition. -/
import Derived.Test.YtobhfopgoidniaaGreatPC
import Derived.Test.YtobhfopgoidniaaGreatNE
import Derived.Test.YtobhfopgoidniaaGreatPA
import Derived.Test.YtobhfopgoidniaaGreatNA
import Derived.Test.YtobhfopgoidniaaGreatMA
import Derived.Test.YtobhfopgoidniaaGreatMB
set_option linter.all false
set_option linter.unusedVariables false
set_option linter.unusedSimpArgs false

/- A ticket for the centre that is handed on, again and again. -/
namespace Go.Proofs.YtobhfopgoidniaaGreat
open Go Go.Eng

def fwC : Pr := ⟨bCentre, 1, false, false, [], [], [], 1000⟩
def fwW (who : ByteArray) : Pr := ⟨who, 1, false, false, [], [], [], 500⟩
def fwB : Pr := ⟨bWeb, 1, false, false, [], [], [], 300⟩
def fwPs (who : ByteArray) : List Pr := [fwC, fwW who, fwB]

section
variable {who : ByteArray}

theorem fw_add (hn : nameS who = true) (h1 : who ≠ bCentre) (h2 : who ≠ bWeb) : addAll (fwPs who) = fwPs who := by
  have v1 : validP fwC = true := by decide +kernel
  have v3 : validP fwB = true := by decide +kernel
  have v2 : validP (fwW who) = true := by
    simp [validP, fwW, hn, namesB]
  have n13 : bCentre ≠ bWeb := by decide
  have e1 : padd [] fwC = ([fwC], 0) := by simp [padd, v1, pfind]
  have e2 : padd [fwC] (fwW who) = ([fwC, fwW who], 0) := by
    have : pfind [fwC] (fwW who).name = none := by
      simp only [pfind, List.find?_eq_none]
      intro x hx
      rw [List.mem_singleton.1 hx]
      simp [fwC, fwW, Ne.symm h1]
    simp [padd, v2, this]
  have e3 : padd [fwC, fwW who] fwB = ([fwC, fwW who, fwB], 0) := by
    have : pfind [fwC, fwW who] fwB.name = none := by
      simp only [pfind, List.find?_eq_none]
      intro x hx
      rcases List.mem_cons.1 hx with hx | hx
      · rw [hx]; simp [fwC, fwB, n13]
      · rw [List.mem_singleton.1 hx]
        simp [fwW, fwB, h2]
    simp [padd, v3, this]
  simp [addAll, fwPs, e1, e2, e3]

theorem fw_valid (hn : nameS who = true) : AllP (fwPs who) := by
  intro p hp
  simp only [fwPs, List.mem_cons, List.not_mem_nil, or_false] at hp
  rcases hp with rfl | rfl | rfl
  · decide +kernel
  · simp [validP, fwW, hn, namesB]
  · decide +kernel

theorem fw_c : pfind (fwPs who) sCentre = some fwC := by
  have : bCentre = sCentre := rfl
  simp [pfind, fwPs, fwC, this]
theorem fw_w (h1 : who ≠ bCentre) : pfind (fwPs who) who = some (fwW who) := by
  have e : decide (fwC.name = who) = false := decide_eq_false (show ¬ bCentre = who from Ne.symm h1)
  simp [pfind, fwPs, e, fwW]
theorem fw_b (h2 : who ≠ bWeb) : pfind (fwPs who) bWeb = some fwB := by
  have e : decide (fwC.name = bWeb) = false := by decide
  have e2 : decide ((fwW who).name = bWeb) = false := by simp [fwW, h2]
  simp [pfind, fwPs, e, e2, fwB]

/-- The ticket that stands after so many times. -/
def fwR (who : ByteArray) (now : Int) (i : Nat) : Gr := ⟨who, who, sCentre, if i = 0 then 5 else 7, 0, [], true, now, now + 500⟩

theorem ior52 : ior 5 2 = 7 := by decide +kernel
theorem ior72 : ior 7 2 = 7 := by decide +kernel
theorem iandn78 : iandn 7 8 = 7 := by decide +kernel
theorem has51 : hasB 5 1 = true := by decide +kernel
theorem has71 : hasB 7 1 = true := by decide +kernel
theorem has72 : hasB 7 2 = true := by decide +kernel

theorem fwR_zero {now : Int} (h1 : now ≤ 549755813888) : inGr who (fwW who) fwC now = fwR who now 0 := by
  have e : min 1099511627776 (now + min (fwW who).life fwC.life) = now + 500 := by
    have : min (fwW who).life fwC.life = 500 := rfl
    rw [this]; omega
  simp only [inGr, loginGr, fwR, e]
  rfl

abbrev fwA (who : ByteArray) (now : Int) (i : Nat) (nonce : Int) : Asd := askd sForward sCentre nonce (listT []) (fwPs who) (fwR who now i) (i + 1) now 1099511627776 fwC

theorem fwR_succ {now nonce : Int} (i : Nat) (h1 : now ≤ 549755813888) : granGr (fwA who now i nonce) 7 = fwR who now (i + 1) := by
  have e : min (min 1099511627776 (fwR who now i).till) (now + fwC.life) = now + 500 := by
    have e1 : (fwR who now i).till = now + 500 := rfl
    have e2 : fwC.life = 1000 := rfl
    rw [e1, e2]; omega
  have e3 : (granGr (fwA who now i nonce) 7).till = now + 500 := e
  have : granGr (fwA who now i nonce) 7 = ⟨who, who, sCentre, 7, 0, [], true, now, (granGr (fwA who now i nonce) 7).till⟩ := rfl
  rw [this, e3]
  simp [fwR]

structure FwC (who : ByteArray) (now : Int) (i : Nat) (c : Cen) (ms : List T) : Prop where
  ps : c.ps = fwPs who
  room : c.room = 20
  ser : c.serial = (i : Int) + 1
  came : CameIn c.came ms
  len : ms.length = i + 1
  ev : c.evs.length = i + 1
  ms : ∀ m ∈ ms, m = inMark (keyT who 1) now 1 ∨ ∃ j : Nat, j < i ∧ m = gMark (keyT .empty (j + 1)) who now (2 + j) sForward sCentre

theorem fw_in {now : Int} (hn : nameS who = true) (h1 : who ≠ bCentre) (h0 : 0 ≤ now) (h2 : now ≤ 549755813888) :
    ∃ c ms, inS ⟨fwPs who, max 20 0, [], 0, []⟩ who (keyT who 1) now 1 = ((tkT (fwPs who) (fwR who now 0) 1, keyT .empty 1, true), c) ∧ FwC who now 0 c ms := by
  obtain ⟨came', h, hc⟩ := in_ok (c := ⟨fwPs who, max 20 0, [], 0, []⟩) (nonce := 1) (now := now) (fw_valid hn) (fw_w h1) fw_c h0 (by omega) (show (1 : Int) ≤ 500 by decide) (by decide) CameIn.nil (by simp) (by simp; omega) (by simp) (by simp)
  rw [fwR_zero h2] at h
  exact ⟨_, _, h, rfl, rfl, rfl, hc, rfl, rfl, fun m hm => .inl (List.mem_singleton.1 hm)⟩

theorem fw_good {now : Int} (hn : nameS who = true) (h1 : who ≠ bCentre) (h0 : 0 ≤ now) (h2 : now ≤ 549755813888) : ∀ i : Nat, Good (fwPs who) (fwR who now i) ((i : Int) + 1)
  | 0 => by
    have := inGr_good (s := 1) (now := now) (fw_valid hn) (fw_w h1) fw_c h0 (by omega) (by omega)
    rw [fwR_zero h2] at this
    simpa using this
  | i + 1 => by
    have h := fw_good hn h1 h0 h2 i
    have := gran_good (s' := ((i + 1 : Nat) : Int) + 1) (kind := sForward) (extra := listT []) (nonce := 0) (fl := 7) (now := now) (till := 1099511627776) (fw_valid hn) h fw_c (by decide) (by omega) (by omega) (by omega) h0 (by show now < now + 500; omega) (by omega) (by omega)
    rwa [fwR_succ i h2] at this

theorem fw_step {now : Int} {i : Nat} {c : Cen} {ms : List T} (hn : nameS who = true) (h1 : who ≠ bCentre) (h0 : 0 ≤ now) (h2 : now ≤ 549755813888) (hi : i ≤ 4) (hc : FwC who now i c ms) :
    ∃ x c' ms', grantS c now (gaskS sForward sCentre who (keyT .empty ((i : Int) + 1)) (tkT (fwPs who) (fwR who now i) ((i : Int) + 1)) (listT []) now (2 + i) 1099511627776) = ((x, 0), c') ∧ FwC who now (i + 1) c' ms' ∧
      partS (takeS x sTgsRep 3) (keyT .empty ((i : Int) + 1)) 8 = (tkT (fwPs who) (fwR who now (i + 1)) ((i : Int) + 1 + 1), keyT .empty ((i : Int) + 1 + 1), true) := by
  obtain ⟨ps, room, came, ser, evs⟩ := c
  obtain ⟨a1, a2, a3, a4, a5, a6, a7⟩ := hc
  dsimp only at a1 a2 a3 a4 a6
  subst a1
  subst a2
  subst a3
  have hg := fw_good hn h1 h0 h2 i
  have hF : kindS (askd sForward sCentre (2 + (i : Int)) (listT []) (fwPs who) (fwR who now i) ((i : Int) + 1) now 1099511627776 fwC) = some (7, 0) := by
    rw [kind_forward rfl rfl ?_ rfl]
    · show some (ior (fwR who now i).fl 2, (0 : Int)) = _
      unfold fwR
      by_cases hi0 : i = 0
      · rw [if_pos hi0]; exact congrArg (fun x => some (x, (0 : Int))) ior52
      · rw [if_neg hi0]; exact congrArg (fun x => some (x, (0 : Int))) ior72
    · show hasB (fwR who now i).fl 1 = true
      unfold fwR
      by_cases hi0 : i = 0
      · rw [if_pos hi0]; exact has51
      · rw [if_neg hi0]; exact has71
  have hm : gMark (keyT .empty ((i : Int) + 1)) (fwR who now i).client now (2 + i) sForward sCentre ∉ ms := by
    intro hm
    rcases a7 _ hm with e | ⟨j, hj, e⟩
    · simp [gMark, inMark, sealT] at e
    · simp [gMark, sealT, listT] at e
      omega
  obtain ⟨hg', came', hc', hG⟩ := grant_ok (c := ⟨fwPs who, 20, came, (i : Int) + 1, evs⟩) (kind := sForward) (nonce := 2 + i) (now := now) (till := 1099511627776) (fl := 7) (fw_valid hn) hg rfl fw_c (by decide) h0 (Int.le_refl _) (by show now < now + 500; omega) (by show now + 500 ≤ _; omega) (by omega) (by omega) a4 hm (by dsimp only; omega) (by dsimp only; omega) (by dsimp only; omega) hF (by omega) (by omega)
  have e := fwR_succ (who := who) (now := now) (nonce := 2 + i) i h2
  dsimp only at hG
  rw [e] at hG
  refine ⟨_, _, _, hG, ⟨rfl, rfl, by dsimp only; omega, hc', by simp [a5], by simp [a6], fun m hmm => ?_⟩, part_answer _ _ _ _ _ _ _ _ rfl⟩
  rcases List.mem_cons.1 hmm with hmm | hmm
  · exact .inr ⟨i, by omega, hmm⟩
  · rcases a7 m hmm with e | ⟨j, hj, e⟩
    · exact .inl e
    · exact .inr ⟨j, by omega, e⟩

def fwL (who : ByteArray) (now : Int) : Gr := ⟨who, who, bWeb, 7, 0, [], true, now, now + 300⟩

theorem fw_last {now : Int} {i : Nat} {c : Cen} {ms : List T} (hn : nameS who = true) (h1 : who ≠ bCentre) (h3 : who ≠ bWeb) (h0 : 0 ≤ now) (h2 : now ≤ 549755813888) (hi : i ≤ 4) (hc : FwC who now (i + 1) c ms) :
    ∃ x c', grantS c now (gaskS sAsk bWeb who (keyT .empty ((i : Int) + 1 + 1)) (tkT (fwPs who) (fwR who now (i + 1)) ((i : Int) + 1 + 1)) (listT []) now 90 1099511627776) = ((x, 0), c') ∧
      partS (takeS x sTgsRep 3) (keyT .empty ((i : Int) + 1 + 1)) 8 = (tkT (fwPs who) (fwL who now) ((i : Int) + 1 + 1 + 1), keyT .empty ((i : Int) + 1 + 1 + 1), true) ∧ openS (tkT (fwPs who) (fwL who now) ((i : Int) + 1 + 1 + 1)) (keyT bWeb 1) = (tkO (fwPs who) (fwL who now) ((i : Int) + 1 + 1 + 1), 0) ∧ (tkT (fwPs who) (fwL who now) ((i : Int) + 1 + 1 + 1)).size ≤ 1100 := by
  obtain ⟨ps, room, came, ser, evs⟩ := c
  obtain ⟨a1, a2, a3, a4, a5, a6, a7⟩ := hc
  dsimp only at a1 a2 a3 a4 a6
  subst a1
  subst a2
  subst a3
  have hg := fw_good hn h1 h0 h2 (i + 1)
  have ei : ((i + 1 : Nat) : Int) = (i : Int) + 1 := by omega
  rw [ei] at hg ⊢
  have hF : kindS (askd sAsk bWeb 90 (listT []) (fwPs who) (fwR who now (i + 1)) ((i : Int) + 1 + 1) now 1099511627776 fwB) = some (7, 0) := by
    rw [kind_ask rfl (show bWeb ≠ sCentre by decide)]
    show some (iandn (fwR who now (i + 1)).fl 8, (0 : Int)) = _
    unfold fwR
    rw [if_neg (by omega)]
    exact congrArg (fun x => some (x, (0 : Int))) iandn78
  have hm : gMark (keyT .empty ((i : Int) + 1 + 1)) (fwR who now (i + 1)).client now 90 sAsk bWeb ∉ ms := by
    intro hm
    rcases a7 _ hm with e | ⟨j, hj, e⟩
    · simp [gMark, inMark, sealT] at e
    · simp [gMark, sealT, listT] at e
      omega
  obtain ⟨hg', came', hc', hG⟩ := grant_ok (c := ⟨fwPs who, 20, came, (i : Int) + 1 + 1, evs⟩) (kind := sAsk) (nonce := 90) (now := now) (till := 1099511627776) (fl := 7) (fw_valid hn) hg rfl (fw_b h3) (by decide) h0 (Int.le_refl _) (by show now < now + 500; omega) (by show now + 500 ≤ _; omega) (by omega) (by omega) a4 hm (by dsimp only; omega) (by dsimp only; omega) (by dsimp only; omega) hF (by omega) (by omega)
  have e : granGr (askd sAsk bWeb 90 (listT []) (fwPs who) (fwR who now (i + 1)) ((i : Int) + 1 + 1) now 1099511627776 fwB) 7 = fwL who now := by
    have e1 : min (min 1099511627776 (fwR who now (i + 1)).till) (now + fwB.life) = now + 300 := by
      have e1 : (fwR who now (i + 1)).till = now + 500 := rfl
      have e2 : fwB.life = 300 := rfl
      rw [e1, e2]; omega
    have e3 : granGr (askd sAsk bWeb 90 (listT []) (fwPs who) (fwR who now (i + 1)) ((i : Int) + 1 + 1) now 1099511627776 fwB) 7 = ⟨who, who, bWeb, 7, 0, [], true, now, min (min 1099511627776 (fwR who now (i + 1)).till) (now + fwB.life)⟩ := rfl
    rw [e3, e1]
    rfl
  dsimp only at hG hg'
  rw [e] at hG hg'
  have ho := hg'.opens
  have hk : (pkey (fwPs who) (fwL who now).svc).1 = keyT bWeb 1 := by
    show (pkey (fwPs who) bWeb).1 = _
    rw [pkey_some (fw_b h3)]
    rfl
  rw [hk] at ho
  exact ⟨_, _, hG, part_answer _ _ _ _ _ _ _ _ rfl, ho, tkT_size hg'⟩
end
end Go.Proofs.YtobhfopgoidniaaGreat

/- A ticket for the centre that was handed on gets tickets that tell it. -/
namespace Go.Proofs.YtobhfopgoidniaaGreat
open Go Go.Eng

def fwHs (who : ByteArray) : List (Pr × PH) := (fwPs who).map fun p => (p, noH)
theorem fwHs_map (who : ByteArray) : (fwHs who).map (·.1) = fwPs who := by simp [fwHs, Function.comp_def]

set_option maxHeartbeats 4000000 in
set_option maxRecDepth 20000 in
theorem law8 (who : ByteArray) (now again : Int) (g : G) (hwho : who.size ≤ maxLen) :
    Ok Tryz.prog 8 [.string who, .int .i64 now, .int .i64 again] g [11, 20, 21, 30, 31, 32, 33, 50, 51, 61, 62, 63] (fun v _ => v = .bool true) := by
  have hbc : bCentre = (⟨#[99, 101, 110, 116, 114, 101]⟩ : ByteArray) := rfl
  have hbw : bWeb = (⟨#[119, 101, 98]⟩ : ByteArray) := rfl
  refine fbegin Tryz.func8 rfl Tryz.ntmps8 (Nat.le_of_ble_eq_true rfl) fun C hw hC => ?_
  refine runO hC tabOk 60 ?_
  simp [go_sem]
  repeat ((first | refine condT rfl ?_ | refine condF rfl ?_ | refine skD hC rfl rfl rfl ?_); (refine runO hC tabOk 60 ?_); simp [go_sem])
  first | refine call hC [11,20,21,30,31,32,33,50,51,61,62,63] (by kernel_rfl) rfl rfl rfl rfl rfl fun m1 g1 p1 e1 => ?_ | refine callD hC [11,20,21,30,31,32,33,50,51,61,62,63] (by kernel_rfl) rfl rfl rfl rfl rfl rfl rfl rfl fun m1 g1 p1 e1 => ?_
  refine ⟨_, works45 _, fun v1 u1 q1 s1 hv1 => ?_⟩
  subst hv1
  by_cases c1 : now < 0
  · refine runO hC tabOk 60 ?_
    simp [go_sem, c1]
    repeat ((first | refine condT rfl ?_ | refine condF rfl ?_ | refine skD hC rfl rfl rfl ?_); (refine runO hC tabOk 60 ?_); simp [go_sem, c1])
    try (refine runO hC tabOk 60 ?_; simp [go_sem, c1]; repeat ((first | refine condT rfl ?_ | refine condF rfl ?_ | refine skD hC rfl rfl rfl ?_); (refine runO hC tabOk 60 ?_); simp [go_sem, c1]))
    refine ret hC tabOk (fun _ => 1) rfl rfl fun m gf hl ex => ?_
    rfl
  by_cases c2 : 549755813888 < now
  · refine runO hC tabOk 60 ?_
    simp [go_sem, c1, c2]
    repeat ((first | refine condT rfl ?_ | refine condF rfl ?_ | refine skD hC rfl rfl rfl ?_); (refine runO hC tabOk 60 ?_); simp [go_sem, c1, c2])
    try (refine runO hC tabOk 60 ?_; simp [go_sem, c1, c2]; repeat ((first | refine condT rfl ?_ | refine condF rfl ?_ | refine skD hC rfl rfl rfl ?_); (refine runO hC tabOk 60 ?_); simp [go_sem, c1, c2]))
    refine ret hC tabOk (fun _ => 1) rfl rfl fun m gf hl ex => ?_
    rfl
  by_cases c3 : again < 0
  · refine runO hC tabOk 60 ?_
    simp [go_sem, c1, c2, c3]
    repeat ((first | refine condT rfl ?_ | refine condF rfl ?_ | refine skD hC rfl rfl rfl ?_); (refine runO hC tabOk 60 ?_); simp [go_sem, c1, c2, c3])
    try (refine runO hC tabOk 60 ?_; simp [go_sem, c1, c2, c3]; repeat ((first | refine condT rfl ?_ | refine condF rfl ?_ | refine skD hC rfl rfl rfl ?_); (refine runO hC tabOk 60 ?_); simp [go_sem, c1, c2, c3]))
    refine ret hC tabOk (fun _ => 1) rfl rfl fun m gf hl ex => ?_
    rfl
  by_cases c4 : 4 < again
  · refine runO hC tabOk 60 ?_
    simp [go_sem, c1, c2, c3, c4]
    repeat ((first | refine condT rfl ?_ | refine condF rfl ?_ | refine skD hC rfl rfl rfl ?_); (refine runO hC tabOk 60 ?_); simp [go_sem, c1, c2, c3, c4])
    try (refine runO hC tabOk 60 ?_; simp [go_sem, c1, c2, c3, c4]; repeat ((first | refine condT rfl ?_ | refine condF rfl ?_ | refine skD hC rfl rfl rfl ?_); (refine runO hC tabOk 60 ?_); simp [go_sem, c1, c2, c3, c4]))
    refine ret hC tabOk (fun _ => 1) rfl rfl fun m gf hl ex => ?_
    rfl
  refine runO hC tabOk 60 ?_
  simp [go_sem, c1, c2, c3, c4]
  repeat ((first | refine condT rfl ?_ | refine condF rfl ?_ | refine skD hC rfl rfl rfl ?_); (refine runO hC tabOk 60 ?_); simp [go_sem, c1, c2, c3, c4])
  try (refine runO hC tabOk 60 ?_; simp [go_sem, c1, c2, c3, c4]; repeat ((first | refine condT rfl ?_ | refine condF rfl ?_ | refine skD hC rfl rfl rfl ?_); (refine runO hC tabOk 60 ?_); simp [go_sem, c1, c2, c3, c4]))
  first | refine call hC [] (by kernel_rfl) rfl rfl rfl rfl rfl fun m2 g2 p2 e2 => ?_ | refine callD hC [] (by kernel_rfl) rfl rfl rfl rfl rfl rfl rfl rfl fun m2 g2 p2 e2 => ?_
  refine ⟨_, name36 who _ hwho, fun v2 u2 q2 s2 hv2 => ?_⟩
  subst hv2
  cases c5 : nameS who with
  | false =>
    refine runO hC tabOk 60 ?_
    simp [go_sem]
    repeat ((first | refine condT rfl ?_ | refine condF rfl ?_ | refine skD hC rfl rfl rfl ?_); (refine runO hC tabOk 60 ?_); simp [go_sem])
    refine ret hC tabOk (fun _ => 1) rfl rfl fun m gf hl ex => ?_
    rfl
  | true =>
  by_cases c6 : who = bCentre
  · rw [hbc] at c6
    refine runO hC tabOk 60 ?_
    simp [go_sem, c6]
    repeat ((first | refine condT rfl ?_ | refine condF rfl ?_ | refine skD hC rfl rfl rfl ?_); (refine runO hC tabOk 60 ?_); simp [go_sem, c6])
    try (refine runO hC tabOk 60 ?_; simp [go_sem, c6]; repeat ((first | refine condT rfl ?_ | refine condF rfl ?_ | refine skD hC rfl rfl rfl ?_); (refine runO hC tabOk 60 ?_); simp [go_sem, c6]))
    refine ret hC tabOk (fun _ => 1) rfl rfl fun m gf hl ex => ?_
    rfl
  by_cases c7 : who = bWeb
  · rw [hbc] at c6
    rw [hbw] at c7
    refine runO hC tabOk 60 ?_
    simp [go_sem, c6, c7]
    repeat ((first | refine condT rfl ?_ | refine condF rfl ?_ | refine skD hC rfl rfl rfl ?_); (refine runO hC tabOk 60 ?_); simp [go_sem, c6, c7])
    try (refine runO hC tabOk 60 ?_; simp [go_sem, c6, c7]; repeat ((first | refine condT rfl ?_ | refine condF rfl ?_ | refine skD hC rfl rfl rfl ?_); (refine runO hC tabOk 60 ?_); simp [go_sem, c6, c7]))
    refine ret hC tabOk (fun _ => 1) rfl rfl fun m gf hl ex => ?_
    rfl
  have d6 : ¬ who = (⟨#[99, 101, 110, 116, 114, 101]⟩ : ByteArray) := c6
  have d7 : ¬ who = (⟨#[119, 101, 98]⟩ : ByteArray) := c7
  refine runO hC tabOk 60 ?_
  simp [go_sem, d6, d7]
  repeat ((first | refine condT rfl ?_ | refine condF rfl ?_ | refine skD hC rfl rfl rfl ?_); (refine runO hC tabOk 60 ?_); simp [go_sem, d6, d7])
  try (refine runO hC tabOk 60 ?_; simp [go_sem, d6, d7]; repeat ((first | refine condT rfl ?_ | refine condF rfl ?_ | refine skD hC rfl rfl rfl ?_); (refine runO hC tabOk 60 ?_); simp [go_sem, d6, d7]))
  have kwp : ∀ (g : G), ∀ p ∈ fwHs who, POk g 0 p.1 p.2 := by
    intro g p hp
    simp only [fwHs, fwPs, List.map_cons, List.map_nil, List.mem_cons, List.not_mem_nil, or_false] at hp
    rcases hp with rfl | rfl | rfl
    · exact kw _ _ ⟨rfl, rfl, rfl, by decide⟩
    · exact kw _ _ ⟨rfl, rfl, rfl, hwho⟩
    · exact kw _ _ ⟨rfl, rfl, rfl, by decide⟩
  first | refine call hC [11,20,21] (by kernel_rfl) rfl rfl rfl rfl rfl fun m3 g3 p3 e3 => ?_ | refine callD hC [11,20,21] (by kernel_rfl) rfl rfl rfl rfl rfl rfl rfl rfl fun m3 g3 p3 e3 => ?_
  refine ⟨_, both34' (fwHs who) ⟨some ⟨m3.getD 0 0, 0, none⟩, 3⟩ _ ⟨.inr ⟨_, _, rfl, e3.frz (i := 0) rfl rfl rfl⟩, Nat.le_refl _, by show (3 : Nat) ≤ maxLen; decide, kwp _⟩, fun v3 u3 q3 s3 hv3 => ?_⟩
  obtain ⟨bp, br, hs', rfl, kpol, kref, _⟩ := hv3
  rw [fwHs_map, fw_add c5 c6 c7] at kpol
  refine runO hC tabOk 60 ?_
  simp [go_sem]
  repeat ((first | refine condT rfl ?_ | refine condF rfl ?_ | refine skD hC rfl rfl rfl ?_); (refine runO hC tabOk 60 ?_); simp [go_sem])
  first | refine call hC [] (by kernel_rfl) rfl rfl rfl rfl rfl fun m4 g4 p4 e4 => ?_ | refine callD hC [] (by kernel_rfl) rfl rfl rfl rfl rfl rfl rfl rfl fun m4 g4 p4 e4 => ?_
  refine ⟨_, lnew37 bp (fwPs who) 20 _ (kpol.ks Kp.ks (by first | (simp; done) | (simp; omega)) (by first | (simp; done) | (simp; omega)) (by first | (simp; done) | (simp; omega)) (by first | (simp; done) | (simp; omega))), fun v4 u4 q4 s4 hv4 => ?_⟩
  obtain ⟨b, rfl, kc⟩ := hv4
  refine runO hC tabOk 60 ?_
  simp [go_sem]
  repeat ((first | refine condT rfl ?_ | refine condF rfl ?_ | refine skD hC rfl rfl rfl ?_); (refine runO hC tabOk 60 ?_); simp [go_sem])
  first | refine call hC [] (by kernel_rfl) rfl rfl rfl rfl rfl fun m5 g5 p5 e5 => ?_ | refine callD hC [] (by kernel_rfl) rfl rfl rfl rfl rfl rfl rfl rfl fun m5 g5 p5 e5 => ?_
  refine ⟨_, key43 who 1 _, fun v5 u5 q5 s5 hv5 => ?_⟩
  subst hv5
  refine runO hC tabOk 60 ?_
  simp [go_sem]
  repeat ((first | refine condT rfl ?_ | refine condF rfl ?_ | refine skD hC rfl rfl rfl ?_); (refine runO hC tabOk 60 ?_); simp [go_sem])
  first | refine call hC [30,31,32,33,61,62,63] (by kernel_rfl) rfl rfl rfl rfl rfl fun m6 g6 p6 e6 => ?_ | refine callD hC [30,31,32,33,61,62,63] (by kernel_rfl) rfl rfl rfl rfl rfl rfl rfl rfl fun m6 g6 p6 e6 => ?_
  refine ⟨_, in39 b bp ⟨fwPs who, max 20 0, [], 0, []⟩ who (keyT who 1) now 1 ⟨none, 0⟩ _ (kc.ks Kp.ks (by first | (simp; done) | (simp; omega)) (by first | (simp; done) | (simp; omega)) (by first | (simp; done) | (simp; omega)) (by first | (simp; done) | (simp; omega)) (by first | (simp; done) | (simp; omega)) (by first | (simp; done) | (simp; omega)) (by first | (simp; done) | (simp; omega)) (by first | (simp; done) | (simp; omega)) (by first | (simp; done) | (simp; omega))) (tok_leaf _ _ _ _ hwho) hwho (Nat.zero_le _) (Nat.zero_le _), fun v6 u6 q6 s6 hv6 => ?_⟩
  obtain ⟨c0, ms0, ein, hf0⟩ := fw_in c5 c6 (show 0 ≤ now by omega) (by omega)
  rw [ein] at hv6
  obtain ⟨⟨h6, h6', rfl, k6, k6'⟩, kc6⟩ := hv6
  obtain ⟨n, rfl⟩ : ∃ n : Nat, again = n := ⟨again.toNat, by omega⟩
  dsimp only at k6 k6' kc6
  refine runO hC tabOk 60 ?_
  simp [go_sem]
  repeat ((first | refine condT rfl ?_ | refine condF rfl ?_ | refine skD hC rfl rfl rfl ?_); (refine runO hC tabOk 60 ?_); simp [go_sem])
  refine small (fun _ => 1) rfl fun m0 gL p0 e0 => ⟨⟨(fun (x : Nat × Hd × Hd × Cen × List T × G) => [(14, .c (.v (.int .i64 x.1))), (13, .c (.v (.bool true))), (12, .c (.bp 2 0)), (11, .c (.bp 1 0)), (10, .c (.v (ptr b))), (7, .c (.v (.bool true))), (0, .c (.v (.string who))), (1, .c (.v (.int .i64 now))), (2, .c (.v (.int .i64 n)))]) ((0, h6, h6', c0, ms0, gL)), [], (fun (x : Nat × Hd × Hd × Cen × List T × G) => [(0, ⟨40, [.v (.string ⟨#[99, 101, 110, 116, 114, 101]⟩), .v (.int .i64 1), .v (.bool false), .v (.bool false), .v (.slice none 0 0), .v (.slice none 0 0), .v (.slice none 0 0), .v (.int .i64 1000), .v (.string who), .v (.int .i64 1), .v (.bool false), .v (.bool false), .v (.slice none 0 0), .v (.slice none 0 0), .v (.slice none 0 0), .v (.int .i64 500), .v (.string ⟨#[119, 101, 98]⟩), .v (.int .i64 1), .v (.bool false), .v (.bool false), .v (.slice none 0 0), .v (.slice none 0 0), .v (.slice none 0 0), .v (.int .i64 300)], true⟩), (1, ⟨25, (tc (tkT (fwPs who) (fwR who now x.1) ((x.1 : Int) + 1)) x.2.1).map .v, false⟩), (2, ⟨25, (tc (keyT .empty ((x.1 : Int) + 1)) x.2.2.1).map .v, false⟩)]) ((0, h6, h6', c0, ms0, gL)), [], 3⟩, ⟨by simp [go_sem], by simp [go_sem], rfl, bxs_ok (n := 3) (Nat.le_refl _) (by simp [go_sem]), by simp [go_sem], ⟨_, rfl⟩⟩, by simp, ?_⟩
  refine loop (ι := Nat × Hd × Hd × Cen × List T × G) (fun x => x.1 ≤ n + 1 ∧ TOk x.2.2.2.2.2 (tkT (fwPs who) (fwR who now x.1) ((x.1 : Int) + 1)) x.2.1 ∧ TOk x.2.2.2.2.2 (keyT .empty ((x.1 : Int) + 1)) x.2.2.1 ∧ CenIs x.2.2.2.2.2 b bp x.2.2.2.1 ∧ FwC who now x.1 x.2.2.2.1 x.2.2.2.2.1 ∧ Keeps [1, 11, 20, 21, 30, 31, 32, 33, 50, 51, 61, 62, 63] g x.2.2.2.2.2) (fun x => x.2.2.2.2.2)
    (fun x => ⟨(fun (x : Nat × Hd × Hd × Cen × List T × G) => [(14, .c (.v (.int .i64 x.1))), (13, .c (.v (.bool true))), (12, .c (.bp 2 0)), (11, .c (.bp 1 0)), (10, .c (.v (ptr b))), (7, .c (.v (.bool true))), (0, .c (.v (.string who))), (1, .c (.v (.int .i64 now))), (2, .c (.v (.int .i64 n)))]) x, [], (fun (x : Nat × Hd × Hd × Cen × List T × G) => [(0, ⟨40, [.v (.string ⟨#[99, 101, 110, 116, 114, 101]⟩), .v (.int .i64 1), .v (.bool false), .v (.bool false), .v (.slice none 0 0), .v (.slice none 0 0), .v (.slice none 0 0), .v (.int .i64 1000), .v (.string who), .v (.int .i64 1), .v (.bool false), .v (.bool false), .v (.slice none 0 0), .v (.slice none 0 0), .v (.slice none 0 0), .v (.int .i64 500), .v (.string ⟨#[119, 101, 98]⟩), .v (.int .i64 1), .v (.bool false), .v (.bool false), .v (.slice none 0 0), .v (.slice none 0 0), .v (.slice none 0 0), .v (.int .i64 300)], true⟩), (1, ⟨25, (tc (tkT (fwPs who) (fwR who now x.1) ((x.1 : Int) + 1)) x.2.1).map .v, false⟩), (2, ⟨25, (tc (keyT .empty ((x.1 : Int) + 1)) x.2.2.1).map .v, false⟩)]) x, [], 3⟩) (fun x => n + 1 - x.1) (fun ⟨i, ht, hk, c, ms, g'⟩ ⟨hi, kt, kk, kcc, hfc, hkp⟩ => ?_) ((0, h6, h6', c0, ms0, gL)) (⟨Nat.zero_le _, by simpa using k6.to, by simpa using k6'.to, kc6.ks Kp.ks (by first | (simp; done) | (simp; omega)) (by first | (simp; done) | (simp; omega)) (by first | (simp; done) | (simp; omega)) (by first | (simp; done) | (simp; omega)) (by first | (simp; done) | (simp; omega)) (by first | (simp; done) | (simp; omega)) (by first | (simp; done) | (simp; omega)) (by first | (simp; done) | (simp; omega)) (by first | (simp; done) | (simp; omega)), hf0, Keeps.mono (Kp.ks (g := g) (g' := gL)) (by simp)⟩)
  dsimp only at hi kt kk kcc hfc hkp ⊢
  haveI : Later g g' := .of hkp (by first | (simp; done) | (simp; omega))
  have w0 : IntKind.i64.wrap (2 + (i : Int)) = 2 + (i : Int) := wrap_id (by omega) (by omega)
  have hcl := hfc.came.len
  have hml := hfc.len
  have hel := hfc.ev
  have hgs := tkT_size (fw_good c5 c6 (show 0 ≤ now by omega) (by omega) i)
  by_cases d1 : (i : Int) ≤ n
  · obtain ⟨x, c', ms', est, hfc', epart⟩ := fw_step c5 c6 (show 0 ≤ now by omega) (by omega) (by omega) hfc
    refine runO hC tabOk 60 ?_
    simp [go_sem, d1]
    repeat ((first | refine condT rfl ?_ | refine condF rfl ?_ | refine skD hC rfl rfl rfl ?_); (refine runO hC tabOk 60 ?_); simp [go_sem, d1])
    try (refine runO hC tabOk 60 ?_; simp [go_sem, d1]; repeat ((first | refine condT rfl ?_ | refine condF rfl ?_ | refine skD hC rfl rfl rfl ?_); (refine runO hC tabOk 60 ?_); simp [go_sem, d1]))
    refine draw hC [(0, 0), (1, 0), (2, 0), (3, 0), (4, 0), (6, 0), (7, 0), (8, 0), (14, 2), (5, 1), (9, 1), (10, 1), (11, 0), (12, 0), (13, 0), (14, 3), (15, 1)] [16] mix (by kernel_rfl) ?_
    refine runO hC tabOk 60 ?_
    simp [go_sem]
    repeat ((first | refine condT rfl ?_ | refine condF rfl ?_ | refine skD hC rfl rfl rfl ?_); (refine runO hC tabOk 60 ?_); simp [go_sem])
    first | refine call hC [] (by kernel_rfl) rfl rfl rfl rfl rfl fun m7 g7 p7 e7 => ?_ | refine callD hC [] (by kernel_rfl) rfl rfl rfl rfl rfl rfl rfl rfl fun m7 g7 p7 e7 => ?_
    refine ⟨_, list56 [] ⟨none, 0⟩ _ (nil_ok _) (by simp), fun v7 u7 q7 s7 hv7 => ?_⟩
    obtain ⟨h7, rfl, k7⟩ := hv7
    refine runO hC tabOk 60 ?_
    simp [go_sem, w0]
    repeat ((first | refine condT rfl ?_ | refine condF rfl ?_ | refine skD hC rfl rfl rfl ?_); (refine runO hC tabOk 60 ?_); simp [go_sem, w0])
    try (refine runO hC tabOk 60 ?_; simp [go_sem, w0]; repeat ((first | refine condT rfl ?_ | refine condF rfl ?_ | refine skD hC rfl rfl rfl ?_); (refine runO hC tabOk 60 ?_); simp [go_sem, w0]))
    first | refine call hC [] (by kernel_rfl) rfl rfl rfl rfl rfl fun m8 g8 p8 e8 => ?_ | refine callD hC [] (by kernel_rfl) rfl rfl rfl rfl rfl rfl rfl rfl fun m8 g8 p8 e8 => ?_
    refine ⟨_, gask41 sForward sCentre who (keyT .empty ((i : Int) + 1)) (tkT (fwPs who) (fwR who now i) ((i : Int) + 1)) (listT []) now (2 + (i : Int)) 1099511627776 hk ht h7 _ kk.to kt.to k7.to (by decide) (by decide) hwho, fun v8 u8 q8 s8 hv8 => ?_⟩
    obtain ⟨h8, rfl, k8⟩ := hv8
    refine runO hC tabOk 60 ?_
    simp [go_sem]
    repeat ((first | refine condT rfl ?_ | refine condF rfl ?_ | refine skD hC rfl rfl rfl ?_); (refine runO hC tabOk 60 ?_); simp [go_sem])
    first | refine call hC [30,31,32,33,50,51,61,62,63] (by kernel_rfl) rfl rfl rfl rfl rfl fun m9 g9 p9 e9 => ?_ | refine callD hC [30,31,32,33,50,51,61,62,63] (by kernel_rfl) rfl rfl rfl rfl rfl rfl rfl rfl fun m9 g9 p9 e9 => ?_
    refine ⟨_, answer50 b bp c now (gaskS sForward sCentre who (keyT .empty ((i : Int) + 1)) (tkT (fwPs who) (fwR who now i) ((i : Int) + 1)) (listT []) now (2 + (i : Int)) 1099511627776) h8 _ (kcc.ks Kp.ks (by first | (simp; done) | (simp; omega)) (by first | (simp; done) | (simp; omega)) (by first | (simp; done) | (simp; omega)) (by first | (simp; done) | (simp; omega)) (by first | (simp; done) | (simp; omega)) (by first | (simp; done) | (simp; omega)) (by first | (simp; done) | (simp; omega)) (by first | (simp; done) | (simp; omega)) (by first | (simp; done) | (simp; omega))) k8.to (by rw [gask_size]; simp only [T.size, T.sizes]; omega) (by omega) (by omega), fun v9 u9 q9 s9 hv9 => ?_⟩
    rw [est] at hv9
    obtain ⟨⟨h9, rfl, k9⟩, kc9⟩ := hv9
    refine runO hC tabOk 60 ?_
    simp [go_sem]
    repeat ((first | refine condT rfl ?_ | refine condF rfl ?_ | refine skD hC rfl rfl rfl ?_); (refine runO hC tabOk 60 ?_); simp [go_sem])
    first | refine call hC [] (by kernel_rfl) rfl rfl rfl rfl rfl fun m10 g10 p10 e10 => ?_ | refine callD hC [] (by kernel_rfl) rfl rfl rfl rfl rfl rfl rfl rfl fun m10 g10 p10 e10 => ?_
    refine ⟨_, got42 x (keyT .empty ((i : Int) + 1)) h9 hk _ k9.to kk.to, fun v10 u10 q10 s10 hv10 => ?_⟩
    rw [epart] at hv10
    obtain ⟨h10, h10', rfl, k10, k10'⟩ := hv10
    have ei : ((i + 1 : Nat) : Int) = (i : Int) + 1 := by omega
    refine runO hC tabOk 60 ?_
    simp [go_sem]
    repeat ((first | refine condT rfl ?_ | refine condF rfl ?_ | refine skD hC rfl rfl rfl ?_); (refine runO hC tabOk 60 ?_); simp [go_sem])
    refine again (fun _ => 1) fun m8 g8 p8 e8 => ⟨(i + 1, h10, h10', c', ms', g8), ?_, ?_, rfl, ⟨by simp [go_sem], by simp [go_sem, wrap_inc (show i + 1 ≤ 9223372036854775807 by omega)], rfl, bxs_ok (n := 3) (Nat.le_refl _) (by simp [go_sem, wrap_inc (show i + 1 ≤ 9223372036854775807 by omega)]), by simp [go_sem], ⟨_, rfl⟩⟩, by simp [go_sem]⟩
    · refine ⟨by omega, ?_, ?_, kc9.ks Kp.ks (by first | (simp; done) | (simp; omega)) (by first | (simp; done) | (simp; omega)) (by first | (simp; done) | (simp; omega)) (by first | (simp; done) | (simp; omega)) (by first | (simp; done) | (simp; omega)) (by first | (simp; done) | (simp; omega)) (by first | (simp; done) | (simp; omega)) (by first | (simp; done) | (simp; omega)) (by first | (simp; done) | (simp; omega)), hfc', hkp.then (by simp)⟩
      · show TOk g8 (tkT (fwPs who) (fwR who now (i + 1)) (((i + 1 : Nat) : Int) + 1)) h10
        rw [ei]; exact k10.to
      · show TOk g8 (keyT .empty (((i + 1 : Nat) : Int) + 1)) h10'
        rw [ei]; exact k10'.to
    · dsimp only; omega
  · have hin : i = n + 1 := by omega
    subst hin
    obtain ⟨x, c', est, epart, eop, hsl⟩ := fw_last c5 c6 c7 (show 0 ≤ now by omega) (by omega) (show n ≤ 4 by omega) hfc
    have en : ((n + 1 : Nat) : Int) = (n : Int) + 1 := by omega
    rw [en] at kt kk d1 hgs ⊢
    refine runO hC tabOk 60 ?_
    simp [go_sem, d1]
    repeat ((first | refine condT rfl ?_ | refine condF rfl ?_ | refine skD hC rfl rfl rfl ?_); (refine runO hC tabOk 60 ?_); simp [go_sem, d1])
    try (refine runO hC tabOk 60 ?_; simp [go_sem, d1]; repeat ((first | refine condT rfl ?_ | refine condF rfl ?_ | refine skD hC rfl rfl rfl ?_); (refine runO hC tabOk 60 ?_); simp [go_sem, d1]))
    refine draw hC [(0, 0), (1, 0), (2, 0), (3, 0), (4, 0), (6, 0), (12, 2), (5, 1), (7, 1), (8, 1), (9, 0), (10, 0), (11, 0), (12, 3), (13, 1)] [14] mix (by kernel_rfl) ?_
    refine runO hC tabOk 60 ?_
    simp [go_sem]
    repeat ((first | refine condT rfl ?_ | refine condF rfl ?_ | refine skD hC rfl rfl rfl ?_); (refine runO hC tabOk 60 ?_); simp [go_sem])
    first | refine call hC [] (by kernel_rfl) rfl rfl rfl rfl rfl fun m7 g7 p7 e7 => ?_ | refine callD hC [] (by kernel_rfl) rfl rfl rfl rfl rfl rfl rfl rfl fun m7 g7 p7 e7 => ?_
    refine ⟨_, list56 [] ⟨none, 0⟩ _ (nil_ok _) (by simp), fun v7 u7 q7 s7 hv7 => ?_⟩
    obtain ⟨h7, rfl, k7⟩ := hv7
    refine runO hC tabOk 60 ?_
    simp [go_sem]
    repeat ((first | refine condT rfl ?_ | refine condF rfl ?_ | refine skD hC rfl rfl rfl ?_); (refine runO hC tabOk 60 ?_); simp [go_sem])
    first | refine call hC [] (by kernel_rfl) rfl rfl rfl rfl rfl fun m8 g8 p8 e8 => ?_ | refine callD hC [] (by kernel_rfl) rfl rfl rfl rfl rfl rfl rfl rfl fun m8 g8 p8 e8 => ?_
    refine ⟨_, gask41 sAsk bWeb who (keyT .empty ((n : Int) + 1 + 1)) (tkT (fwPs who) (fwR who now (n + 1)) ((n : Int) + 1 + 1)) (listT []) now 90 1099511627776 hk ht h7 _ kk.to kt.to k7.to (by decide) (by decide) hwho, fun v8 u8 q8 s8 hv8 => ?_⟩
    obtain ⟨h8, rfl, k8⟩ := hv8
    refine runO hC tabOk 60 ?_
    simp [go_sem]
    repeat ((first | refine condT rfl ?_ | refine condF rfl ?_ | refine skD hC rfl rfl rfl ?_); (refine runO hC tabOk 60 ?_); simp [go_sem])
    first | refine call hC [30,31,32,33,50,51,61,62,63] (by kernel_rfl) rfl rfl rfl rfl rfl fun m9 g9 p9 e9 => ?_ | refine callD hC [30,31,32,33,50,51,61,62,63] (by kernel_rfl) rfl rfl rfl rfl rfl rfl rfl rfl fun m9 g9 p9 e9 => ?_
    refine ⟨_, answer50 b bp c now (gaskS sAsk bWeb who (keyT .empty ((n : Int) + 1 + 1)) (tkT (fwPs who) (fwR who now (n + 1)) ((n : Int) + 1 + 1)) (listT []) now 90 1099511627776) h8 _ (kcc.ks Kp.ks (by first | (simp; done) | (simp; omega)) (by first | (simp; done) | (simp; omega)) (by first | (simp; done) | (simp; omega)) (by first | (simp; done) | (simp; omega)) (by first | (simp; done) | (simp; omega)) (by first | (simp; done) | (simp; omega)) (by first | (simp; done) | (simp; omega)) (by first | (simp; done) | (simp; omega)) (by first | (simp; done) | (simp; omega))) k8.to (by rw [gask_size]; simp only [T.size, T.sizes]; omega) (by omega) (by omega), fun v9 u9 q9 s9 hv9 => ?_⟩
    rw [est] at hv9
    obtain ⟨⟨h9, rfl, k9⟩, kc9⟩ := hv9
    refine runO hC tabOk 60 ?_
    simp [go_sem]
    repeat ((first | refine condT rfl ?_ | refine condF rfl ?_ | refine skD hC rfl rfl rfl ?_); (refine runO hC tabOk 60 ?_); simp [go_sem])
    first | refine call hC [] (by kernel_rfl) rfl rfl rfl rfl rfl fun m10 g10 p10 e10 => ?_ | refine callD hC [] (by kernel_rfl) rfl rfl rfl rfl rfl rfl rfl rfl fun m10 g10 p10 e10 => ?_
    refine ⟨_, got42 x (keyT .empty ((n : Int) + 1 + 1)) h9 hk _ k9.to kk.to, fun v10 u10 q10 s10 hv10 => ?_⟩
    rw [epart] at hv10
    obtain ⟨h10, h10', rfl, k10, k10'⟩ := hv10
    refine runO hC tabOk 60 ?_
    simp [go_sem]
    repeat ((first | refine condT rfl ?_ | refine condF rfl ?_ | refine skD hC rfl rfl rfl ?_); (refine runO hC tabOk 60 ?_); simp [go_sem])
    refine draw hC [(0, 0), (6, 2), (1, 1), (2, 1), (3, 0), (4, 0), (5, 0), (6, 3), (7, 1)] [8] mix (by kernel_rfl) ?_
    refine runO hC tabOk 60 ?_
    simp [go_sem]
    repeat ((first | refine condT rfl ?_ | refine condF rfl ?_ | refine skD hC rfl rfl rfl ?_); (refine runO hC tabOk 60 ?_); simp [go_sem])
    first | refine call hC [] (by kernel_rfl) rfl rfl rfl rfl rfl fun m11 g11 p11 e11 => ?_ | refine callD hC [] (by kernel_rfl) rfl rfl rfl rfl rfl rfl rfl rfl fun m11 g11 p11 e11 => ?_
    refine ⟨_, key43 bWeb 1 _, fun v11 u11 q11 s11 hv11 => ?_⟩
    subst hv11
    refine runO hC tabOk 60 ?_
    simp [go_sem]
    repeat ((first | refine condT rfl ?_ | refine condF rfl ?_ | refine skD hC rfl rfl rfl ?_); (refine runO hC tabOk 60 ?_); simp [go_sem])
    first | refine call hC [61,62,63] (by kernel_rfl) rfl rfl rfl rfl rfl fun m12 g12 p12 e12 => ?_ | refine callD hC [61,62,63] (by kernel_rfl) rfl rfl rfl rfl rfl rfl rfl rfl fun m12 g12 p12 e12 => ?_
    refine ⟨_, topen53 (tkT (fwPs who) (fwL who now) ((n : Int) + 1 + 1 + 1)) (keyT bWeb 1) h10 ⟨none, 0⟩ _ k10.to (tok_leaf _ _ _ _ (by decide)) (by omega), fun v12 u12 q12 s12 hv12 => ?_⟩
    rw [eop] at hv12
    obtain ⟨h12, rfl, k12⟩ := hv12
    have f1 : (tkO (fwPs who) (fwL who now) ((n : Int) + 1 + 1 + 1)).fl = 7 := rfl
    have f2 : (tkO (fwPs who) (fwL who now) ((n : Int) + 1 + 1 + 1)).cl = who := rfl
    have f3 : (tkO (fwPs who) (fwL who now) ((n : Int) + 1 + 1 + 1)).fr = now := rfl
    have f4 : (tkO (fwPs who) (fwL who now) ((n : Int) + 1 + 1 + 1)).till = now + 300 := rfl
    generalize tkO (fwPs who) (fwL who now) ((n : Int) + 1 + 1 + 1) = tk at f1 f2 f3 f4 k12 ⊢
    have w1 : IntKind.i64.wrap (now + 300) = now + 300 := wrap_id (by omega) (by omega)
    refine runO hC tabOk 60 ?_
    simp [go_sem, f1]
    repeat ((first | refine condT rfl ?_ | refine condF rfl ?_ | refine skD hC rfl rfl rfl ?_); (refine runO hC tabOk 60 ?_); simp [go_sem, f1])
    try (refine runO hC tabOk 60 ?_; simp [go_sem, f1]; repeat ((first | refine condT rfl ?_ | refine condF rfl ?_ | refine skD hC rfl rfl rfl ?_); (refine runO hC tabOk 60 ?_); simp [go_sem, f1]))
    first | refine call hC [] (by kernel_rfl) rfl rfl rfl rfl rfl fun m13 g13 p13 e13 => ?_ | refine callD hC [] (by kernel_rfl) rfl rfl rfl rfl rfl rfl rfl rfl fun m13 g13 p13 e13 => ?_
    refine ⟨_, has57 7 2 _, fun v13 u13 q13 s13 hv13 => ?_⟩
    subst hv13
    refine runO hC tabOk 60 ?_
    simp [go_sem, has72, f2, f3, f4, w1]
    repeat ((first | refine condT rfl ?_ | refine condF rfl ?_ | refine skD hC rfl rfl rfl ?_); (refine runO hC tabOk 60 ?_); simp [go_sem, has72, f2, f3, f4, w1])
    try (refine runO hC tabOk 60 ?_; simp [go_sem, has72, f2, f3, f4, w1]; repeat ((first | refine condT rfl ?_ | refine condF rfl ?_ | refine skD hC rfl rfl rfl ?_); (refine runO hC tabOk 60 ?_); simp [go_sem, has72, f2, f3, f4, w1]))
    refine vo hC (vo_bin2 hC rfl rfl rfl (fun m w => run_speq _ _ _ _ _ _ w)) rfl rfl rfl ?_
    refine runO hC tabOk 60 ?_
    simp [go_sem, f3, f4]
    repeat ((first | refine condT rfl ?_ | refine condF rfl ?_ | refine skD hC rfl rfl rfl ?_); (refine runO hC tabOk 60 ?_); simp [go_sem, f3, f4])
    try (refine runO hC tabOk 60 ?_; simp [go_sem, f3, f4]; repeat ((first | refine condT rfl ?_ | refine condF rfl ?_ | refine skD hC rfl rfl rfl ?_); (refine runO hC tabOk 60 ?_); simp [go_sem, f3, f4]))
    refine ret hC tabOk (fun _ => 1) rfl rfl fun m gf hl ex => ?_
    rfl
end Go.Proofs.YtobhfopgoidniaaGreat

/- GrantForwarded: what is said of it holds at every input. No condition. -/
namespace Go.Proofs.YtobhfopgoidniaaGreat
open Go Go.Eng Go.ChangeShapes Go.WideShapes Go.RowKit
open Go.ChangeMaps (open_string)

set_option maxHeartbeats 1600000 in
set_option maxRecDepth 100000 in
theorem grantForwarded_lifted (os : Os) (started : os.Started) (H : Type) (enc : TypeId × Value → H) :
    ReturnsInHanded {} Tryz.checked os 8 .any (Rows.grantForwardedSpec.pre6 enc Tryz.prog Tryz.f8 Rows.grantForwardedRow.domain false) (Rows.grantForwardedSpec.post enc Tryz.prog Tryz.f8 false true false false) := by
  refine returnsInHanded_of_change (C := Tryz.checked) Tryz.own started (by kernel_rfl) Tryz.func8
    (ChangeSpec.witness6 (enc := enc) (C := Tryz.checked) false ⟨#[], #[.string .empty, .int .i64 0, .int .i64 0], []⟩ 8 (by kernel_rfl) (by kernel_rfl) (by kernel_rfl) (by kernel_rfl)) ?_
  intro W base args ds gs before hval0 hW _ _
  have hval : ∀ (j : Nat) t v, Tryz.f8.params[j]? = some t → args[j]? = some v → Value.okWide Tryz.prog W .any base t v := hval0
  have hW' : DataW.Whole enc Tryz.prog Tryz.f8.params.toList Rows.grantForwardedSpec.vars false W args.toList ds gs before := hW
  have hWk := hW'
  obtain ⟨p, q, hA, hV, _, _, _⟩ := hW'
  obtain ⟨rfl, rfl⟩ := trodVars_none hV
  rw [Tryz.params8] at hA hval
  obtain ⟨args⟩ := args
  dsimp only at hA hval
  obtain ⟨v0, vr0, d0, dr0, p0, pr0, rfl, rfl, rfl, h0, hA⟩ := trodAll_cons hA
  obtain ⟨v1, vr1, d1, dr1, p1, pr1, rfl, rfl, rfl, h1, hA⟩ := trodAll_cons hA
  obtain ⟨v2, vr2, d2, dr2, p2, pr2, rfl, rfl, rfl, h2, hA⟩ := trodAll_cons hA
  obtain ⟨rfl, rfl, rfl⟩ := trodAll_nil hA
  obtain ⟨s0, rfl, rfl, _, k0⟩ := open_string Tryz.underlying9 (hval 0 9 v0 rfl rfl) h0
  obtain ⟨n1, rfl⟩ := open_num (hval 1 3 v1 rfl rfl) h1
  obtain ⟨n2, rfl⟩ := open_num (hval 2 3 v2 rfl rfl) h2
  exact law_step (L := [11, 20, 21, 30, 31, 32, 33, 50, 51, 61, 62, 63]) (by kernel_rfl) (by rw [Tryz.params8]; exact reads_of (by kernel_rfl)) hWk rfl rfl (by decide) (law8 s0 n1 n2 (g0 W) k0)

set_option maxHeartbeats 4000000 in
theorem grantForwarded_closed : joinedFacts Tryz.prog 8 Tryz.f8 Rows.grantForwardedSpec Rows.grantForwardedRow = true :=
  joined_of rfl (by as_aux_lemma => kernel_rfl) (by as_aux_lemma => kernel_rfl) (by as_aux_lemma => kernel_rfl) (by as_aux_lemma => kernel_rfl) (by as_aux_lemma => kernel_rfl) (by as_aux_lemma => kernel_rfl)
    (by as_aux_lemma => kernel_rfl) (by as_aux_lemma => kernel_rfl) (by as_aux_lemma => kernel_rfl) (by as_aux_lemma => kernel_rfl) (by as_aux_lemma => kernel_rfl) (by as_aux_lemma => kernel_rfl)

set_option maxHeartbeats 4000000 in
theorem grantForwarded_holds : Rows.GrantForwardedSaid :=
  OpenClaim.holds_of_wide 8 Tryz.f8 rfl rfl rfl rfl rfl rfl rfl ⟨rfl, rfl, rfl, rfl, rfl⟩ rfl rfl rfl rfl rfl (by as_aux_lemma => kernel_rfl) Tryz.func8 grantForwarded_closed
    (of_decide_eq_true (by kernel_rfl)) (by unfold Func.isWrapper; rw [if_neg (of_decide_eq_false (by kernel_rfl))]; exact ⟨rfl, rfl⟩)
    (fun os started H enc _ => grantForwarded_lifted os started H enc)
end Go.Proofs.YtobhfopgoidniaaGreat
