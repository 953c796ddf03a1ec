/- Few principals. -/
import Derived.Test.YtobhfopgoidniaaGreatFB
set_option linter.all false
set_option linter.unusedVariables false
set_option linter.unusedSimpArgs false

namespace Go.Proofs.YtobhfopgoidniaaGreat
open Go Go.Eng

def fewP (p : Pr) : Bool := decide (p.al.length ≤ 30) && decide (p.ac.length ≤ 30) && decide (p.gr.length ≤ 30)
def fewB (ps : List Pr) : Bool := ps.all fewP && decide (ps.length ≤ 30)

def AllF (hs : List (Pr × PH)) (i : Nat) : Prop := ((hs.take i).all fun p => fewP p.1) = true
theorem AllF.succ {hs : List (Pr × PH)} {i : Nat} (h : AllF hs i) (hi : i < hs.length) (hn : fewP hs[i].1 = true) : AllF hs (i + 1) := by
  unfold AllF at *
  rw [List.take_succ_eq_append_getElem hi, List.all_append, h]
  simp [hn]
theorem fewB_no {hs : List (Pr × PH)} {i : Nat} (hi : i < hs.length) (hn : fewP hs[i].1 = false) : fewB (hs.map (·.1)) = false := by
  unfold fewB
  rw [Bool.and_eq_false_iff]
  left
  rw [List.all_eq_false]
  exact ⟨hs[i].1, List.mem_map_of_mem (by simp), by simp [hn]⟩

theorem few33 (hs : List (Pr × PH)) (h : Hd) (g : G) (k : LPOk g hs h) : Ok Tryz.prog 33 [.slice h.a hs.length h.cap] g [] (fun v _ => v = .bool (fewB (hs.map (·.1)))) := by
  have hl : hs.length ≤ 9223372036854775807 := Nat.le_trans k.len k.cap
  refine fbegin Tryz.func33 rfl Tryz.ntmps33 (Nat.le_of_ble_eq_true rfl) fun C hw hC => ?_
  refine runO hC tabOk 60 ?_
  simp [go_sem]
  repeat ((first | refine condT rfl ?_ | refine condF rfl ?_ | refine skD hC rfl rfl rfl ?_); refine runO hC tabOk 60 ?_; simp [go_sem])
  refine small (fun _ => 1) rfl fun m0 gL p0 e0 => ⟨⟨(fun (x : Nat × G) => [(3, .c (.v (.int .i64 x.1))), (0, .c (.v (.slice h.a hs.length h.cap)))]) ((0, gL)), [], (fun _ => []) ((0, gL)), [], 0⟩, ⟨by simp [go_sem], by simp [go_sem], rfl, by simp [go_sem], by simp [go_sem], ⟨_, rfl⟩⟩, by simp, ?_⟩
  refine loop (ι := Nat × G) (fun x => x.1 ≤ hs.length ∧ AllF hs x.1 ∧ Keeps [1] g x.2) (fun x => x.2)
    (fun x => ⟨(fun (x : Nat × G) => [(3, .c (.v (.int .i64 x.1))), (0, .c (.v (.slice h.a hs.length h.cap)))]) x, [], (fun _ => []) x, [], 0⟩) (fun x => hs.length - x.1) (fun ⟨i, g'⟩ ⟨hi, hp, hkp⟩ => ?_) ((0, gL)) (⟨Nat.zero_le _, rfl, Keeps.mono (Kp.ks (g := g) (g' := gL)) (by simp)⟩)
  dsimp only at hi hp hkp ⊢
  haveI : Later g g' := .of hkp (by decide)
  by_cases c1 : i < hs.length
  · obtain ⟨b, off, ea, hcs⟩ := (k.to (g' := g')).get (List.getElem?_eq_getElem c1)
    have hsucc : fewP hs[i].1 = true → AllF hs (i + 1) := hp.succ c1
    have hno : fewP hs[i].1 = false → fewB (hs.map (·.1)) = false := fewB_no c1
    generalize hs[i] = p at hcs hsucc hno
    obtain ⟨p, ph⟩ := p
    dsimp only at hcs hsucc hno
    rw [ea]
    refine runO hC tabOk 60 ?_
    simp [go_sem, c1]
    repeat ((first | refine condT rfl ?_ | refine condF rfl ?_ | refine skD hC rfl rfl rfl ?_); refine runO hC tabOk 60 ?_; simp [go_sem, c1])
    try (refine runO hC tabOk 60 ?_; simp [go_sem, c1]; repeat ((first | refine condT rfl ?_ | refine condF rfl ?_ | refine skD hC rfl rfl rfl ?_); refine runO hC tabOk 60 ?_; simp [go_sem, c1]))
    refine vo hC (vo_index hC tabOk rfl rfl rfl rfl rfl rfl (by omega) (by omega)) rfl rfl rfl ?_
    refine runO hC tabOk 60 ?_
    simp [go_sem]
    repeat ((first | refine condT rfl ?_ | refine condF rfl ?_ | refine skD hC rfl rfl rfl ?_); refine runO hC tabOk 60 ?_; simp [go_sem])
    refine vo hC (vo_load1 hC tabOk (hcs.one 4 rfl) rfl rfl rfl rfl) rfl rfl rfl ?_
    by_cases h1 : (30 : Int) < (p.al.length : Int)
    · refine runO hC tabOk 60 ?_
      simp [go_sem, h1]
      repeat ((first | refine condT rfl ?_ | refine condF rfl ?_ | refine skD hC rfl rfl rfl ?_); refine runO hC tabOk 60 ?_; simp [go_sem, h1])
      try (refine runO hC tabOk 60 ?_; simp [go_sem, h1]; repeat ((first | refine condT rfl ?_ | refine condF rfl ?_ | refine skD hC rfl rfl rfl ?_); refine runO hC tabOk 60 ?_; simp [go_sem, h1]))
      refine ret hC tabOk (fun _ => 1) rfl rfl fun m gf hl ex => ?_
      have : ¬ p.al.length ≤ 30 := by omega
      rw [hno (by simp [fewP, this])]
      rfl
    refine runO hC tabOk 60 ?_
    simp [go_sem, h1]
    repeat ((first | refine condT rfl ?_ | refine condF rfl ?_ | refine skD hC rfl rfl rfl ?_); refine runO hC tabOk 60 ?_; simp [go_sem, h1])
    try (refine runO hC tabOk 60 ?_; simp [go_sem, h1]; repeat ((first | refine condT rfl ?_ | refine condF rfl ?_ | refine skD hC rfl rfl rfl ?_); refine runO hC tabOk 60 ?_; simp [go_sem, h1]))
    refine vo hC (vo_index hC tabOk rfl rfl rfl rfl rfl rfl (by omega) (by omega)) rfl rfl rfl ?_
    refine runO hC tabOk 60 ?_
    simp [go_sem]
    repeat ((first | refine condT rfl ?_ | refine condF rfl ?_ | refine skD hC rfl rfl rfl ?_); refine runO hC tabOk 60 ?_; simp [go_sem])
    refine vo hC (vo_load1 hC tabOk (hcs.one 5 rfl) rfl rfl rfl rfl) rfl rfl rfl ?_
    by_cases h2 : (30 : Int) < (p.ac.length : Int)
    · refine runO hC tabOk 60 ?_
      simp [go_sem, h2]
      repeat ((first | refine condT rfl ?_ | refine condF rfl ?_ | refine skD hC rfl rfl rfl ?_); refine runO hC tabOk 60 ?_; simp [go_sem, h2])
      try (refine runO hC tabOk 60 ?_; simp [go_sem, h2]; repeat ((first | refine condT rfl ?_ | refine condF rfl ?_ | refine skD hC rfl rfl rfl ?_); refine runO hC tabOk 60 ?_; simp [go_sem, h2]))
      refine ret hC tabOk (fun _ => 1) rfl rfl fun m gf hl ex => ?_
      have : ¬ p.ac.length ≤ 30 := by omega
      rw [hno (by simp [fewP, this])]
      rfl
    refine runO hC tabOk 60 ?_
    simp [go_sem, h2]
    repeat ((first | refine condT rfl ?_ | refine condF rfl ?_ | refine skD hC rfl rfl rfl ?_); refine runO hC tabOk 60 ?_; simp [go_sem, h2])
    try (refine runO hC tabOk 60 ?_; simp [go_sem, h2]; repeat ((first | refine condT rfl ?_ | refine condF rfl ?_ | refine skD hC rfl rfl rfl ?_); refine runO hC tabOk 60 ?_; simp [go_sem, h2]))
    refine vo hC (vo_index hC tabOk rfl rfl rfl rfl rfl rfl (by omega) (by omega)) rfl rfl rfl ?_
    refine runO hC tabOk 60 ?_
    simp [go_sem]
    repeat ((first | refine condT rfl ?_ | refine condF rfl ?_ | refine skD hC rfl rfl rfl ?_); refine runO hC tabOk 60 ?_; simp [go_sem])
    refine vo hC (vo_load1 hC tabOk (hcs.one 6 rfl) rfl rfl rfl rfl) rfl rfl rfl ?_
    by_cases h3 : (30 : Int) < (p.gr.length : Int)
    · refine runO hC tabOk 60 ?_
      simp [go_sem, h3]
      repeat ((first | refine condT rfl ?_ | refine condF rfl ?_ | refine skD hC rfl rfl rfl ?_); refine runO hC tabOk 60 ?_; simp [go_sem, h3])
      try (refine runO hC tabOk 60 ?_; simp [go_sem, h3]; repeat ((first | refine condT rfl ?_ | refine condF rfl ?_ | refine skD hC rfl rfl rfl ?_); refine runO hC tabOk 60 ?_; simp [go_sem, h3]))
      refine ret hC tabOk (fun _ => 1) rfl rfl fun m gf hl ex => ?_
      have : ¬ p.gr.length ≤ 30 := by omega
      rw [hno (by simp [fewP, this])]
      rfl
    refine runO hC tabOk 60 ?_
    simp [go_sem, h3]
    repeat ((first | refine condT rfl ?_ | refine condF rfl ?_ | refine skD hC rfl rfl rfl ?_); refine runO hC tabOk 60 ?_; simp [go_sem, h3])
    try (refine runO hC tabOk 60 ?_; simp [go_sem, h3]; repeat ((first | refine condT rfl ?_ | refine condF rfl ?_ | refine skD hC rfl rfl rfl ?_); refine runO hC tabOk 60 ?_; simp [go_sem, h3]))
    refine again (fun _ => 1) fun m8 g8 p8 e8 => ⟨(i + 1, g8), ?_, ?_, rfl, ⟨by simp [go_sem], by simp [go_sem, ea, wrap_inc (show i + 1 ≤ 9223372036854775807 by omega)], rfl, by simp [go_sem], by simp [go_sem], ⟨_, rfl⟩⟩, by simp [go_sem]⟩
    · refine ⟨c1, hsucc ?_, hkp.then (by simp)⟩
      simp only [fewP, Bool.and_eq_true, decide_eq_true_eq]
      omega
    · dsimp only; omega
  · refine runO hC tabOk 60 ?_
    simp [go_sem, c1]
    repeat ((first | refine condT rfl ?_ | refine condF rfl ?_ | refine skD hC rfl rfl rfl ?_); refine runO hC tabOk 60 ?_; simp [go_sem, c1])
    try (refine runO hC tabOk 60 ?_; simp [go_sem, c1]; repeat ((first | refine condT rfl ?_ | refine condF rfl ?_ | refine skD hC rfl rfl rfl ?_); refine runO hC tabOk 60 ?_; simp [go_sem, c1]))
    refine ret hC tabOk (fun _ => 1) rfl rfl fun m gf hl ex => ?_
    have e : i = hs.length := by omega
    subst e
    have h1 : (hs.map (·.1)).all fewP = true := by
      unfold AllF at hp
      rw [List.take_length] at hp
      rw [List.all_map]; exact hp
    have h2 : decide ((hs.length : Int) ≤ 30) = decide (hs.length ≤ 30) := by rw [decide_eq_decide]; omega
    simp [fewB, h1, retv, SV.val, SC.val, h2]
end Go.Proofs.YtobhfopgoidniaaGreat
