/- When a ticket for the centre is good. -/
import Derived.Test.YtobhfopgoidniaaGreatPA
set_option linter.all false
set_option linter.unusedVariables false
set_option linter.unusedSimpArgs false

namespace Go.Proofs.YtobhfopgoidniaaGreat
open Go Go.Eng

theorem check_early {fr till now : Int} (h0 : 0 ≤ fr) (h1 : now < fr) (h2 : fr ≤ till) (h3 : till ≤ 1099511627776) (h4 : 0 ≤ now) : checkN (fr, till) now 0 = 31 := by
  have e1 : sOk fr till = true := by simp [sOk, tOk]; omega
  have e2 : tOk now = true := by simp [tOk]; omega
  have e3 : tOk 0 = true := by decide
  simp only [checkN, e1, e2, e3, Bool.and_self, if_true]
  rw [if_pos (by omega)]

theorem check_late {fr till now : Int} (h0 : 0 ≤ fr) (h1 : till ≤ now) (h2 : fr ≤ till) (h3 : till ≤ 1099511627776) (h4 : now ≤ 1099511627776) : checkN (fr, till) now 0 = 32 := by
  have e1 : sOk fr till = true := by simp [sOk, tOk]; omega
  have e2 : tOk now = true := by simp [tOk]; omega
  have e3 : tOk 0 = true := by decide
  simp only [checkN, e1, e2, e3, Bool.and_self, if_true]
  rw [if_neg (by omega), if_pos (by omega)]

/-- Another one's name. -/
theorem oop_auth {c : Cen} {r : Gr} {s : Int} {kind target client : ByteArray} {extra : T} {now at_ nonce till : Int} (h : Good c.ps r s) (hsv : r.svc = sCentre) (h0 : 0 ≤ r.fr) (h1 : r.fr ≤ now) (h2 : now < r.till) (h3 : r.till ≤ 1099511627776) (hne : client ≠ r.client) :
    oopS c now (gaskS kind target client (keyT .empty s) (tkT c.ps r s) extra at_ nonce till) = ((Asd0, 51), c) := by
  rw [h.oop hsv, if_pos (check_ok h0 h1 h2 h3)]
  unfold oopT
  have eo : oshS ⟨kind, target, nonce, extra, tkO c.ps r s, auO c.ps r, 0, 0⟩ now (gMark (keyT .empty s) client at_ nonce kind target) = 51 := by
    rw [osh_gask _ _ _ _ _ _ (by rfl), if_pos (by rfl)]
    simp [oshM, tkO, hne]
  rw [eo]
  simp

/-- Another key. -/
theorem oop_seal {c : Cen} {r : Gr} {s : Int} {kind target client : ByteArray} {session extra : T} {now at_ nonce till : Int} (h : Good c.ps r s) (hsv : r.svc = sCentre) (h0 : 0 ≤ r.fr) (h1 : r.fr ≤ now) (h2 : now < r.till) (h3 : r.till ≤ 1099511627776) (hne : session ≠ keyT .empty s) :
    oopS c now (gaskS kind target client session (tkT c.ps r s) extra at_ nonce till) = ((Asd0, 20), c) := by
  rw [h.oop hsv, if_pos (check_ok h0 h1 h2 h3)]
  unfold oopT
  have eo : oshS ⟨kind, target, nonce, extra, tkO c.ps r s, auO c.ps r, 0, 0⟩ now (gMark session client at_ nonce kind target) = 20 := by
    rw [osh_gask _ _ _ _ _ _ (by rfl)]
    exact if_neg hne
  rw [eo]
  simp

def sX : ByteArray := ⟨#[120]⟩

section
variable {PS : List Pr} {who target : ByteArray} {p q t : Pr} {now at_ : Int}

theorem over_all {came1 : List (T × Int)} {evs1 : List Ev} (hv : AllP PS) (hp : pfind PS who = some p) (hq : pfind PS sCentre = some q) (ht : pfind PS target = some t) (h0 : 0 ≤ now) (h1 : now ≤ 274877906944) (h2 : 0 ≤ at_) (h3 : at_ ≤ 549755813888) (hl : 1 ≤ p.life) (hl2 : 1 ≤ q.life) (hl3 : 1 ≤ t.life) (hc : CameIn came1 [inMark (keyT who p.ver) now 1]) :
    ∃ a1 a2 a3 c2 c3 c4 e1 e2 e3, oopS ⟨PS, max 9 0, came1, 1, evs1⟩ at_ (gaskS sX target who (keyT .empty 1) (tkT PS (inGr who p q now) 1) (listT []) at_ 2 1099511627776) = ((a1, e1), c2) ∧
      oopS c2 at_ (gaskS sX target target (keyT .empty 1) (tkT PS (inGr who p q now) 1) (listT []) at_ 3 1099511627776) = ((a2, e2), c3) ∧
      oopS c3 at_ (gaskS sX target who (keyT .empty 77) (tkT PS (inGr who p q now) 1) (listT []) at_ 4 1099511627776) = ((a3, e3), c4) ∧
      c2.came.length ≤ 5 ∧ c3.came.length ≤ 5 ∧ (at_ < now → e1 = 31 ∧ e2 = e1 ∧ e3 = e1) ∧ (now ≤ at_ → now + min p.life q.life ≤ at_ → e1 = 32 ∧ e2 = e1 ∧ e3 = e1) ∧
      (now ≤ at_ → at_ < now + min p.life q.life → e1 = 0 ∧ (e2 = 51 ∨ who = target) ∧ e3 = 20) := by
  have hg : Good PS (inGr who p q now) 1 := inGr_good hv hp hq h0 (by omega) (by omega)
  have hlen := hc.len
  simp only [List.length_cons, List.length_nil] at hlen
  have efr : (inGr who p q now).fr = now := rfl
  have etl : (inGr who p q now).till = min 1099511627776 (now + min p.life q.life) := rfl
  have key : ∀ n, n ≠ 0 → checkN ((inGr who p q now).fr, (inGr who p q now).till) at_ 0 = n → ∀ (cl : ByteArray) (ss : T) (nn : Int), oopS ⟨PS, max 9 0, came1, 1, evs1⟩ at_ (gaskS sX target cl ss (tkT PS (inGr who p q now) 1) (listT []) at_ nn 1099511627776) = ((Asd0, n), ⟨PS, max 9 0, came1, 1, evs1⟩) := by
    intro n hn hck cl ss nn
    have := Good.oop (c := ⟨PS, max 9 0, came1, 1, evs1⟩) hg rfl sX target cl ss (listT []) at_ at_ nn 1099511627776
    rw [hck, if_neg hn] at this
    exact this
  by_cases c1 : at_ < now
  · have := key 31 (by decide) (by rw [efr, etl]; exact check_early h0 c1 (by omega) (by omega) h2)
    exact ⟨_, _, _, _, _, _, 31, 31, 31, this _ _ _, this _ _ _, this _ _ _, by simp only; omega, by simp only; omega, fun _ => ⟨rfl, rfl, rfl⟩, fun h => by omega, fun h => by omega⟩
  · by_cases c2 : now + min p.life q.life ≤ at_
    · have := key 32 (by decide) (by rw [efr, etl]; exact check_late h0 (by omega) (by omega) (by omega) (by omega))
      exact ⟨_, _, _, _, _, _, 32, 32, 32, this _ _ _, this _ _ _, this _ _ _, by simp only; omega, by simp only; omega, fun h => by omega, fun _ _ => ⟨rfl, rfl, rfl⟩, fun _ h => by omega⟩
    · obtain ⟨came2, ho, hc2⟩ := oop_ok (c := ⟨PS, max 9 0, came1, 1, evs1⟩) (kind := sX) (extra := listT []) (now := at_) (nonce := 2) (till := 1099511627776) hv hg rfl ht hl3 (by rw [efr]; exact h0) (by rw [efr]; omega) (by rw [etl]; omega) (by rw [etl]; omega) (by omega) (by omega) hc (by simp [gMark, inMark, sealT]) (by simp; omega)
      have hlen2 := hc2.len
      simp only [List.length_cons, List.length_nil] at hlen2
      have ecl : (inGr who p q now).client = who := rfl
      rw [ecl] at ho hc2
      by_cases c3 : who = target
      · obtain ⟨came3, ho3, hc3⟩ := oop_ok (c := ⟨PS, max 9 0, came2, 1, evs1⟩) (kind := sX) (extra := listT []) (now := at_) (nonce := 3) (till := 1099511627776) hv hg rfl ht hl3 (by rw [efr]; exact h0) (by rw [efr]; omega) (by rw [etl]; omega) (by rw [etl]; omega) (by omega) (by omega) hc2 (by simp [gMark, inMark, sealT, listT]) (by simp; omega)
        have hlen3 := hc3.len
        simp only [List.length_cons, List.length_nil] at hlen3
        rw [ecl, c3] at ho3
        have ho4 := oop_seal (c := ⟨PS, max 9 0, came3, 1, evs1⟩) (kind := sX) (target := target) (client := who) (session := keyT .empty 77) (extra := listT []) (at_ := at_) (nonce := 4) (till := 1099511627776) hg rfl (by rw [efr]; exact h0) (show (inGr who p q now).fr ≤ at_ by rw [efr]; omega) (by rw [etl]; omega) (by rw [etl]; omega) (by simp)
        rw [c3] at ho ho4 ⊢
        exact ⟨_, _, _, _, _, _, 0, 0, 20, ho, ho3, ho4, by simp only; omega, by simp only; omega, fun h => by omega, fun _ h => by omega, fun _ _ => ⟨rfl, .inr rfl, rfl⟩⟩
      · have ho3 := oop_auth (c := ⟨PS, max 9 0, came2, 1, evs1⟩) (kind := sX) (target := target) (client := target) (extra := listT []) (at_ := at_) (nonce := 3) (till := 1099511627776) hg rfl (by rw [efr]; exact h0) (show (inGr who p q now).fr ≤ at_ by rw [efr]; omega) (by rw [etl]; omega) (by rw [etl]; omega) (by rw [ecl]; exact fun e => c3 e.symm)
        have ho4 := oop_seal (c := ⟨PS, max 9 0, came2, 1, evs1⟩) (kind := sX) (target := target) (client := who) (session := keyT .empty 77) (extra := listT []) (at_ := at_) (nonce := 4) (till := 1099511627776) hg rfl (by rw [efr]; exact h0) (show (inGr who p q now).fr ≤ at_ by rw [efr]; omega) (by rw [etl]; omega) (by rw [etl]; omega) (by simp)
        exact ⟨_, _, _, _, _, _, 0, 51, 20, ho, ho3, ho4, by simp only; omega, by simp only; omega, fun h => by omega, fun _ h => by omega, fun _ _ => ⟨rfl, .inl rfl, rfl⟩⟩
end
end Go.Proofs.YtobhfopgoidniaaGreat
