/- What came already: new, has. What came already: cleaned, put. What came already: put. -/
import Derived.Test.YtobhfopgoidniaaGreatHB
set_option linter.all false
set_option linter.unusedVariables false
set_option linter.unusedSimpArgs false

/- What came already: new, has. -/
namespace Go.Proofs.YtobhfopgoidniaaGreat
open Go Go.Eng

abbrev Ent := (T × Hd) × Int
def en (p : Ent) : List Value := [.int .i64 p.1.1.k, .string p.1.1.s, .int .i64 p.1.1.n, .slice p.1.2.a p.1.1.l.length p.1.2.cap, .int .i64 p.2]
def rowe (l : List Ent) : List Value := l.flatMap en
def ents' (l : List Ent) : List (T × Int) := l.map fun p => (p.1.1, p.2)

attribute [go_sem] en
theorem en_len (p : Ent) : (en p).length = 5 := rfl
theorem rowe_len : ∀ l : List Ent, (rowe l).length = l.length * 5
  | [] => rfl
  | q :: r => by
    have := rowe_len r
    simp only [rowe, List.flatMap_cons, List.length_append, List.length_cons, en_len] at this ⊢
    rw [this]; omega
theorem rowe_app (l r : List Ent) : rowe (l ++ r) = rowe l ++ rowe r := by simp [rowe]
theorem rowe_get : ∀ (l : List Ent) (i : Nat) (p : Ent), l[i]? = some p → ∀ j v, (en p)[j]? = some v → (rowe l)[i * 5 + j]? = some v
  | [], i, p, h, _, _, _ => by cases h
  | q :: r, 0, p, h, j, v, hj => by
    obtain rfl := Option.some.inj h
    have hlt : j < (en q).length := (List.getElem?_eq_some_iff.1 hj).1
    simp only [rowe, List.flatMap_cons, Nat.zero_mul, Nat.zero_add]
    rw [List.getElem?_append_left hlt]; exact hj
  | q :: r, i + 1, p, h, j, v, hj => by
    have := rowe_get r i p h j v hj
    simp only [rowe, List.flatMap_cons]
    rw [List.getElem?_append_right (by rw [en_len]; omega)]
    have e : (i + 1) * 5 + j - (en q).length = i * 5 + j := by rw [en_len]; omega
    rw [e]; exact this
theorem rowe_one (l : List Ent) : ∀ u ∈ rowe l, u.oneCell' = true := by
  intro u hu
  simp only [rowe, List.mem_flatMap] at hu
  obtain ⟨p, _, hp⟩ := hu
  simp only [en, List.mem_cons, List.not_mem_nil, or_false] at hp
  rcases hp with rfl | rfl | rfl | rfl | rfl <;> rfl

/-- A cache, n's; its row is n+1's. -/
structure CaIs (tyC tyE : Nat) (g : G) (n b : Nat) (room : Int) (l : List Ent) : Prop where
  row : ∃ a cap, Ob g n b tyC [.int .i64 room, .slice a l.length cap] ∧ OwnRow g 0 (n + 1) tyE 5 (.slice a l.length cap) l.length (rowe l)
  el : ∀ p ∈ l, TOk g p.1.1 p.1.2

theorem CaIs.ks {L : List Nat} {g g' : G} (hk : Keeps L g g') {tyC tyE n b : Nat} {room : Int} {l : List Ent} (k : CaIs tyC tyE g n b room l) (h0 : n ∉ L) (h1 : n + 1 ∉ L) (hz : 0 ∉ L) : CaIs tyC tyE g' n b room l := by
  obtain ⟨a, cap, q1, q2⟩ := k.row
  haveI : Later g g' := .of hk hz
  exact ⟨⟨a, cap, q1.ks hk h0, q2.ks hk h1⟩, fun p hp => (k.el p hp).to⟩

/-- An element's cells. -/
theorem ent_at {g : G} {o tyE n cap : Nat} {a : Option Addr} {l : List Ent} (hr : OwnRow g 0 o tyE 5 (.slice a n cap) n (rowe l)) (hn : l.length = n) {i : Nat} {p : Ent} (hi : l[i]? = some p) :
    ∃ b, a = some ⟨b, 0, none⟩ ∧ Cs g o b (i * 5) (en p) := by
  obtain ⟨a', cap', e, h1, h2, h3⟩ := hr.cs
  obtain ⟨rfl, _, rfl⟩ := Value.slice.inj e
  rcases h3 with h3 | ⟨b, rfl, h3⟩
  · exfalso
    have := rowe_len l
    rw [h3] at this
    have hlt := (List.getElem?_eq_some_iff.1 hi).1
    simp at this; omega
  · refine ⟨b, rfl, h3.1, h3.2.1, fun j v hj => ?_⟩
    have := h3.2.2 (i * 5 + j) v (rowe_get l i p hi j v hj)
    rwa [Nat.zero_add] at this

theorem cnew129 (n : Nat) (hn : 2 ≤ n) (room : Int) (g : G) : Ok Tryz.prog 129 [.int .i64 room] g [] (fun v g' => ∃ b, v = ptr b ∧ CaIs 288 345 g' n b (max room 0) []) := by
  refine fbegin Tryz.func129 rfl Tryz.ntmps129 (Nat.le_of_ble_eq_true rfl) fun C hw hC => ?_
  refine runO hC tabOk 60 ?_
  simp [go_sem]
  repeat ((first | refine condT rfl ?_ | refine condF rfl ?_ | refine skD hC rfl rfl rfl ?_); refine runO hC tabOk 60 ?_; simp [go_sem])
  refine vo hC (vo_bi (v := .int .i64 (max room 0)) hC rfl rfl (fun m c w => run_max _ _ c _ _ w)) rfl rfl rfl ?_
  refine runO hC tabOk 60 ?_
  simp [go_sem]
  repeat ((first | refine condT rfl ?_ | refine condF rfl ?_ | refine skD hC rfl rfl rfl ?_); refine runO hC tabOk 60 ?_; simp [go_sem])
  refine ret hC tabOk (fun _ => n) rfl rfl fun m gf hl ex => ?_
  exact ⟨_, rfl, ⟨none, 0, ex.ob (i := 0) rfl, rfl, .inl ⟨_, rfl, rfl⟩⟩, by simp⟩

/-- Did it come? -/
def hasS (l : List (T × Int)) (mark : T) (now : Int) : Bool := l.any fun x => decide (now < x.2) && decide (x.1 = mark)

def NoHas (l : List Ent) (mark : T) (now : Int) (i : Nat) : Prop := hasS (ents' (l.take i)) mark now = false
theorem NoHas.zero (l : List Ent) (mark : T) (now : Int) : NoHas l mark now 0 := rfl
theorem NoHas.succ {l : List Ent} {mark : T} {now : Int} {i : Nat} (h : NoHas l mark now i) (hi : i < l.length) (hn : (decide (now < l[i].2) && decide (l[i].1.1 = mark)) = false) : NoHas l mark now (i + 1) := by
  unfold NoHas hasS ents' at *
  rw [List.take_succ_eq_append_getElem hi, List.map_append, List.any_append, h]
  simpa using hn
theorem NoHas.all {l : List Ent} {mark : T} {now : Int} {i : Nat} (h : NoHas l mark now i) (hi : l.length ≤ i) : hasS (ents' l) mark now = false := by
  unfold NoHas at h
  rwa [List.take_of_length_le hi] at h
theorem has_of {l : List Ent} {mark : T} {now : Int} {i : Nat} (hi : i < l.length) (h1 : now < l[i].2) (h2 : l[i].1.1 = mark) : hasS (ents' l) mark now = true := by
  unfold hasS ents'
  rw [List.any_eq_true]
  exact ⟨(l[i].1.1, l[i].2), List.mem_map.2 ⟨l[i], by simp, rfl⟩, by simp [h1, h2]⟩

theorem chas292 (n : Nat) (hn : 2 ≤ n) (b : Nat) (room : Int) (l : List Ent) (mark : T) (hm : Hd) (now : Int) (g : G) (kc : CaIs 288 345 g n b room l) (km : TOk g mark hm) :
    Ok Tryz.prog 292 [ptr b, tv mark hm, .int .i64 now] g [] (fun v _ => v = .bool (hasS (ents' l) mark now)) := by
  have n1 : n ≠ 1 := by omega
  have n2 : n + 1 ≠ 1 := by omega
  obtain ⟨a, cap, q1, q2⟩ := kc.row
  have hlen : l.length ≤ 9223372036854775807 := by
    obtain ⟨a', cap', e, h1, h2, _⟩ := q2.cs
    exact Nat.le_trans h1 h2
  have c1 : Cs g n b 1 [.slice a l.length cap] := q1.cs 1 fun j v hj => by
    cases j with
    | zero => exact hj
    | succ j => cases hj
  refine fbegin Tryz.func292 rfl Tryz.ntmps292 (Nat.le_of_ble_eq_true rfl) fun C hw hC => ?_
  refine runO hC tabOk 60 ?_
  simp [go_sem]
  repeat ((first | refine condT rfl ?_ | refine condF rfl ?_ | refine skD hC rfl rfl rfl ?_); refine runO hC tabOk 60 ?_; simp [go_sem])
  refine vo hC (vo_load1 hC tabOk (c1.ks Kp.ks (by first | (simp; done) | (simp; omega))) rfl rfl rfl rfl) (nc1 n1) rfl rfl ?_
  refine runO hC tabOk 60 ?_
  simp [go_sem]
  repeat ((first | refine condT rfl ?_ | refine condF rfl ?_ | refine skD hC rfl rfl rfl ?_); refine runO hC tabOk 60 ?_; simp [go_sem])
  refine small (fun _ => 1) rfl fun m0 gL p0 e0 => ⟨⟨(fun (x : Nat × G) => [(14, .c (.v (.int .i64 x.1))), (13, .c (.v (.int .i64 l.length))), (12, .c (.v (.slice a l.length cap))), (2, .c (.v (.int .i64 now))), (4, .c (.bp 0 0))]) ((0, gL)), [], (fun (x : Nat × G) => [(0, ⟨25, [.v (.int .i64 mark.k), .v (.string mark.s), .v (.int .i64 mark.n), .v (.slice hm.a mark.l.length hm.cap)], false⟩)]) ((0, gL)), [], 1⟩, ⟨by simp [go_sem], by simp [go_sem], rfl, bxs_ok (n := 1) (Nat.le_refl _) (by simp [go_sem]), by simp [go_sem], ⟨_, rfl⟩⟩, by simp, ?_⟩
  refine loop (ι := Nat × G) (fun x => x.1 ≤ l.length ∧ NoHas l mark now x.1 ∧ Keeps [1] g x.2) (fun x => x.2)
    (fun x => ⟨(fun (x : Nat × G) => [(14, .c (.v (.int .i64 x.1))), (13, .c (.v (.int .i64 l.length))), (12, .c (.v (.slice a l.length cap))), (2, .c (.v (.int .i64 now))), (4, .c (.bp 0 0))]) x, [], (fun (x : Nat × G) => [(0, ⟨25, [.v (.int .i64 mark.k), .v (.string mark.s), .v (.int .i64 mark.n), .v (.slice hm.a mark.l.length hm.cap)], false⟩)]) x, [], 1⟩) (fun x => l.length - x.1) (fun ⟨i, g'⟩ ⟨hi, hno, hk⟩ => ?_) ((0, gL)) (⟨Nat.zero_le _, NoHas.zero _ _ _, Keeps.mono (Kp.ks (g := g) (g' := gL)) (by simp)⟩)
  dsimp only at hi hno hk ⊢
  haveI : Later g g' := .of hk (by first | (simp; done) | (simp; omega))
  by_cases h1 : i < l.length
  · obtain ⟨b2, ea, hcs⟩ := ent_at (q2.ks hk (by simp; omega)) rfl (List.getElem?_eq_getElem h1)
    have kel := (kc.el _ (List.getElem_mem h1)).to (g' := g')
    obtain ⟨⟨⟨em, eh⟩, eu⟩, hp⟩ : ∃ p, p = l[i] := ⟨_, rfl⟩
    rw [← hp] at hcs kel
    dsimp only at kel
    rw [ea]
    refine runO hC tabOk 60 ?_
    simp [go_sem, h1]
    repeat ((first | refine condT rfl ?_ | refine condF rfl ?_ | refine skD hC rfl rfl rfl ?_); refine runO hC tabOk 60 ?_; simp [go_sem, h1])
    try (refine runO hC tabOk 60 ?_; simp [go_sem, h1]; repeat ((first | refine condT rfl ?_ | refine condF rfl ?_ | refine skD hC rfl rfl rfl ?_); refine runO hC tabOk 60 ?_; simp [go_sem, h1]))
    refine vo hC (vo_index hC tabOk rfl rfl rfl rfl rfl rfl (by omega) (by omega)) rfl rfl rfl ?_
    refine runO hC tabOk 60 ?_
    simp [go_sem]
    repeat ((first | refine condT rfl ?_ | refine condF rfl ?_ | refine skD hC rfl rfl rfl ?_); refine runO hC tabOk 60 ?_; simp [go_sem])
    refine vo hC (vo_load hC tabOk hcs rfl rfl rfl rfl rfl) (nc1 n2) rfl rfl ?_
    by_cases h2 : now < eu
    · have d2 : decide (now < eu) = true := by simp [h2]
      refine runO hC tabOk 60 ?_
      simp [go_sem, d2]
      repeat ((first | refine condT rfl ?_ | refine condF rfl ?_ | refine skD hC rfl rfl rfl ?_); refine runO hC tabOk 60 ?_; simp [go_sem, d2])
      try (refine runO hC tabOk 60 ?_; simp [go_sem, d2]; repeat ((first | refine condT rfl ?_ | refine condF rfl ?_ | refine skD hC rfl rfl rfl ?_); refine runO hC tabOk 60 ?_; simp [go_sem, d2]))
      refine call hC [] (by kernel_rfl) rfl rfl rfl rfl rfl fun m3 g3 p3 e3 => ⟨_, same44 em mark eh hm _ kel.to km.to, fun v3 u3 q3 s3 hv3 => ?_⟩
      subst hv3
      by_cases h3 : em = mark
      · refine runO hC tabOk 60 ?_
        simp [go_sem, h3]
        repeat ((first | refine condT rfl ?_ | refine condF rfl ?_ | refine skD hC rfl rfl rfl ?_); refine runO hC tabOk 60 ?_; simp [go_sem, h3])
        try (refine runO hC tabOk 60 ?_; simp [go_sem, h3]; repeat ((first | refine condT rfl ?_ | refine condF rfl ?_ | refine skD hC rfl rfl rfl ?_); refine runO hC tabOk 60 ?_; simp [go_sem, h3]))
        refine ret hC tabOk (fun _ => 1) rfl rfl fun m gf hl ex => ?_
        rw [has_of h1 (by rw [← hp]; exact h2) (by rw [← hp]; exact h3)]
        simp [retv, SV.val, SC.val, vals]
      · refine runO hC tabOk 60 ?_
        simp [go_sem, h3]
        repeat ((first | refine condT rfl ?_ | refine condF rfl ?_ | refine skD hC rfl rfl rfl ?_); refine runO hC tabOk 60 ?_; simp [go_sem, h3])
        try (refine runO hC tabOk 60 ?_; simp [go_sem, h3]; repeat ((first | refine condT rfl ?_ | refine condF rfl ?_ | refine skD hC rfl rfl rfl ?_); refine runO hC tabOk 60 ?_; simp [go_sem, h3]))
        refine again (fun _ => 1) fun m8 g8 p8 e8 => ⟨(i + 1, g8), ?_, ?_, rfl, ⟨by simp [go_sem], by simp [go_sem, ea, wrap_inc (show i + 1 ≤ 9223372036854775807 by omega)], rfl, bxs_ok (n := 1) (Nat.le_refl _) (by simp [go_sem, ea, wrap_inc (show i + 1 ≤ 9223372036854775807 by omega)]), by simp [go_sem], ⟨_, rfl⟩⟩, by simp [go_sem]⟩
        · exact ⟨h1, hno.succ h1 (by rw [← hp]; simp [h3]), hk.then (by simp)⟩
        · dsimp only; omega
    · have d2 : decide (now < eu) = false := by simp; omega
      refine runO hC tabOk 60 ?_
      simp [go_sem, d2]
      repeat ((first | refine condT rfl ?_ | refine condF rfl ?_ | refine skD hC rfl rfl rfl ?_); refine runO hC tabOk 60 ?_; simp [go_sem, d2])
      try (refine runO hC tabOk 60 ?_; simp [go_sem, d2]; repeat ((first | refine condT rfl ?_ | refine condF rfl ?_ | refine skD hC rfl rfl rfl ?_); refine runO hC tabOk 60 ?_; simp [go_sem, d2]))
      refine again (fun _ => 1) fun m8 g8 p8 e8 => ⟨(i + 1, g8), ?_, ?_, rfl, ⟨by simp [go_sem], by simp [go_sem, ea, wrap_inc (show i + 1 ≤ 9223372036854775807 by omega)], rfl, bxs_ok (n := 1) (Nat.le_refl _) (by simp [go_sem, ea, wrap_inc (show i + 1 ≤ 9223372036854775807 by omega)]), by simp [go_sem], ⟨_, rfl⟩⟩, by simp [go_sem]⟩
      · exact ⟨h1, hno.succ h1 (by rw [← hp]; simp [h2]), hk.then (by simp)⟩
      · dsimp only; omega
  · refine runO hC tabOk 60 ?_
    simp [go_sem, h1]
    repeat ((first | refine condT rfl ?_ | refine condF rfl ?_ | refine skD hC rfl rfl rfl ?_); refine runO hC tabOk 60 ?_; simp [go_sem, h1])
    try (refine runO hC tabOk 60 ?_; simp [go_sem, h1]; repeat ((first | refine condT rfl ?_ | refine condF rfl ?_ | refine skD hC rfl rfl rfl ?_); refine runO hC tabOk 60 ?_; simp [go_sem, h1]))
    refine ret hC tabOk (fun _ => 1) rfl rfl fun m gf hl ex => ?_
    rw [hno.all (by omega)]
    simp [retv, SV.val, SC.val, vals]
end Go.Proofs.YtobhfopgoidniaaGreat

/- What came already: cleaned, put. -/
namespace Go.Proofs.YtobhfopgoidniaaGreat
open Go Go.Eng

def live (now : Int) (p : Ent) : Bool := decide (now < p.2)
def cleanS (l : List Ent) (now : Int) : List Ent := l.filter (live now)

theorem split_at {α : Type} {l : List α} {i : Nat} (h : i < l.length) : l = l.take i ++ l[i] :: l.drop (i + 1) := by
  rw [← List.drop_eq_getElem_cons h, List.take_append_drop]

theorem clean_del {l : List Ent} {i : Nat} {now : Int} (h : i < l.length) (hd : live now l[i] = false) : cleanS (l.take i ++ l.drop (i + 1)) now = cleanS l now := by
  have e : cleanS l now = cleanS (l.take i ++ l[i] :: l.drop (i + 1)) now := by rw [← split_at h]
  rw [e]
  unfold cleanS
  rw [List.filter_append, List.filter_append, List.filter_cons_of_neg (by rw [hd]; simp)]

theorem clean_all {l : List Ent} {now : Int} (h : ∀ p ∈ l, live now p = true) : cleanS l now = l := List.filter_eq_self.2 h

def Lv (now : Int) (l : List Ent) (i : Nat) : Prop := ∀ p ∈ l.take i, live now p = true
theorem Lv.zero (now : Int) (l : List Ent) : Lv now l 0 := by intro p hp; simp at hp
theorem Lv.succ {now : Int} {l : List Ent} {i : Nat} (h : Lv now l i) (hi : i < l.length) (hn : live now l[i] = true) : Lv now l (i + 1) := by
  intro p hp
  rw [List.take_succ_eq_append_getElem hi] at hp
  rcases List.mem_append.1 hp with hp | hp
  · exact h p hp
  · obtain rfl := List.mem_singleton.1 hp; exact hn
theorem Lv.del {now : Int} {l : List Ent} {i : Nat} (h : Lv now l i) (hi : i ≤ l.length) : Lv now (l.take i ++ l.drop (i + 1)) i := by
  intro p hp
  rw [List.take_append_of_le_length (by simp; omega)] at hp
  rw [List.take_take, Nat.min_self] at hp
  exact h p hp

/-- A row out of which one was taken. -/
theorem row_del {cells : List Value} {l : List Ent} {i : Nat} (hi : i < l.length) (ht : cells.take (l.length * 5) = rowe l) :
    (cells.take (i * 5) ++ rowe (l.drop (i + 1)) ++ cells.drop (i * 5 + (rowe (l.drop (i + 1))).length)).take ((l.take i ++ l.drop (i + 1)).length * 5) = rowe (l.take i ++ l.drop (i + 1)) := by
  have h1 : cells.take (i * 5) = rowe (l.take i) := by
    have : cells.take (i * 5) = (cells.take (l.length * 5)).take (i * 5) := by rw [List.take_take, Nat.min_eq_left (by omega)]
    rw [this, ht]
    have e : rowe l = rowe (l.take i) ++ rowe (l.drop i) := by rw [← rowe_app, List.take_append_drop]
    have e2 : (rowe (l.take i)).length = i * 5 := by rw [rowe_len, List.length_take, Nat.min_eq_left (by omega)]
    rw [e, ← e2, List.take_left]
  rw [h1, ← rowe_app]
  have e3 := rowe_len (l.take i ++ l.drop (i + 1))
  rw [← e3, List.take_left]

theorem cells_drop {cells : List Value} {l : List Ent} {k j : Nat} {v : Value} (hk : k ≤ l.length) (ht : cells.take (l.length * 5) = rowe l) (hv : (rowe (l.drop k))[j]? = some v) : cells[k * 5 + j]? = some v := by
  have e : rowe l = rowe (l.take k) ++ rowe (l.drop k) := by rw [← rowe_app, List.take_append_drop]
  have e2 : (rowe (l.take k)).length = k * 5 := by rw [rowe_len, List.length_take, Nat.min_eq_left hk]
  have h1 : (rowe l)[k * 5 + j]? = some v := by
    rw [e, List.getElem?_append_right (by omega), e2]
    have : k * 5 + j - k * 5 = j := by omega
    rw [this]; exact hv
  rw [← ht, List.getElem?_take] at h1
  split at h1
  · exact h1
  · cases h1

set_option maxHeartbeats 1000000 in
theorem clean293 (n : Nat) (hn : 2 ≤ n) (b : Nat) (room : Int) (l : List Ent) (now : Int) (g : G) (kc : CaIs 288 345 g n b room l) :
    Ok Tryz.prog 293 [ptr b, .int .i64 now] g [n, n + 1] (fun _ g' => CaIs 288 345 g' n b room (cleanS l now)) := by
  have n1 : n ≠ 1 := by omega
  have n2 : n + 1 ≠ 1 := by omega
  refine fbegin Tryz.func293 rfl Tryz.ntmps293 (Nat.le_of_ble_eq_true rfl) fun C hw hC => ?_
  refine runO hC tabOk 60 ?_
  simp [go_sem]
  repeat ((first | refine condT rfl ?_ | refine condF rfl ?_ | refine skD hC rfl rfl rfl ?_); refine runO hC tabOk 60 ?_; simp [go_sem])
  refine scopeJ (ι := Nat × List Ent × G) (fun x => x.1 ≤ x.2.1.length ∧ CaIs 288 345 x.2.2 n b room x.2.1 ∧ Lv now x.2.1 x.1 ∧ cleanS x.2.1 now = cleanS l now ∧ Keeps [1, n, n + 1] g x.2.2) (fun x => x.2.2) (fun x => ⟨[(4, .c (.v (.int .i64 x.1))), (0, .c (.v (ptr b))), (1, .c (.v (.int .i64 now)))], [], [], [], 0⟩) (fun x => x.2.1.length - x.1) (l := 0) rfl (fun ⟨i, l', g'⟩ ⟨hi, hc, hlv, hcl, hk⟩ J hJ => ?_) (fun J hpass => ?_)
  rotate_left
  · refine runO hC tabOk 60 ?_
    simp [go_sem]
    repeat ((first | refine condT rfl ?_ | refine condF rfl ?_ | refine skD hC rfl rfl rfl ?_); refine runO hC tabOk 60 ?_; simp [go_sem])
    refine lbl rfl ?_
    refine small (fun _ => 1) rfl fun m1 g1 p1 e1 => ⟨⟨[(4, .c (.v (.int .i64 ((0 : Nat) : Int)))), (0, .c (.v (ptr b))), (1, .c (.v (.int .i64 now)))], [], [], [], 0⟩, ⟨by simp [go_sem], by simp [go_sem], rfl, by simp [go_sem], by simp [go_sem], ⟨_, rfl⟩⟩, by simp, ?_⟩
    exact hpass (0, l, g1) ⟨Nat.zero_le _, kc.ks Kp.ks (by first | (simp; done) | (simp; omega)) (by first | (simp; done) | (simp; omega)) (by first | (simp; done) | (simp; omega)), Lv.zero _ _, rfl, Keeps.mono (Kp.ks (g := g) (g' := g1)) (by simp)⟩
  dsimp only at hi hc hlv hcl hk ⊢
  obtain ⟨a, cap, q1, q2⟩ := hc.row
  have hlen : l'.length ≤ 9223372036854775807 := by
    obtain ⟨a', cap', e, h1, h2, _⟩ := q2.cs
    exact Nat.le_trans h1 h2
  have c1 : Cs g' n b 1 [.slice a l'.length cap] := q1.cs 1 fun j v hj => by
    cases j with
    | zero => exact hj
    | succ j => cases hj
  refine runO hC tabOk 60 ?_
  simp [go_sem]
  repeat ((first | refine condT rfl ?_ | refine condF rfl ?_ | refine skD hC rfl rfl rfl ?_); refine runO hC tabOk 60 ?_; simp [go_sem])
  refine vo hC (vo_load1 hC tabOk (c1.ks Kp.ks (by first | (simp; done) | (simp; omega))) rfl rfl rfl rfl) (nc1 n1) rfl rfl ?_
  by_cases h1 : i < l'.length
  rotate_left
  · have d1 : decide (l'.length ≤ i) = true := by simp; omega
    refine runO hC tabOk 60 ?_
    simp [go_sem, h1, d1]
    repeat ((first | refine condT rfl ?_ | refine condF rfl ?_ | refine skD hC rfl rfl rfl ?_); refine runO hC tabOk 60 ?_; simp [go_sem, h1, d1])
    try (refine runO hC tabOk 60 ?_; simp [go_sem, h1, d1]; repeat ((first | refine condT rfl ?_ | refine condF rfl ?_ | refine skD hC rfl rfl rfl ?_); refine runO hC tabOk 60 ?_; simp [go_sem, h1, d1]))
    refine ret hC tabOk (fun _ => 1) rfl rfl fun m gf hl ex => ?_
    have e : l'.take i = l' := List.take_of_length_le (by omega)
    unfold Lv at hlv
    rw [e] at hlv
    rw [← hcl, clean_all hlv]
    exact hc.ks Kp.ks (by first | (simp; done) | (simp; omega)) (by first | (simp; done) | (simp; omega)) (by first | (simp; done) | (simp; omega))
  have d1 : decide (l'.length ≤ i) = false := by simp; omega
  obtain ⟨b2, ea, hcs⟩ := ent_at q2 rfl (List.getElem?_eq_getElem h1)
  obtain ⟨⟨⟨em, eh⟩, eu⟩, hp⟩ : ∃ p, p = l'[i] := ⟨_, rfl⟩
  rw [← hp] at hcs
  subst ea
  refine runO hC tabOk 60 ?_
  simp [go_sem, h1, d1]
  repeat ((first | refine condT rfl ?_ | refine condF rfl ?_ | refine skD hC rfl rfl rfl ?_); refine runO hC tabOk 60 ?_; simp [go_sem, h1, d1])
  try (refine runO hC tabOk 60 ?_; simp [go_sem, h1, d1]; repeat ((first | refine condT rfl ?_ | refine condF rfl ?_ | refine skD hC rfl rfl rfl ?_); refine runO hC tabOk 60 ?_; simp [go_sem, h1, d1]))
  refine vo hC (vo_load1 hC tabOk (c1.ks Kp.ks (by first | (simp; done) | (simp; omega))) rfl rfl rfl rfl) (nc1 n1) rfl rfl ?_
  refine runO hC tabOk 60 ?_
  simp [go_sem]
  repeat ((first | refine condT rfl ?_ | refine condF rfl ?_ | refine skD hC rfl rfl rfl ?_); refine runO hC tabOk 60 ?_; simp [go_sem])
  refine vo hC (vo_index hC tabOk rfl rfl rfl rfl rfl rfl (by omega) (by omega)) rfl rfl rfl ?_
  refine runO hC tabOk 60 ?_
  simp [go_sem]
  repeat ((first | refine condT rfl ?_ | refine condF rfl ?_ | refine skD hC rfl rfl rfl ?_); refine runO hC tabOk 60 ?_; simp [go_sem])
  refine vo hC (vo_load1 hC tabOk (hcs.one 4 rfl) rfl rfl rfl rfl) (nc1 n2) rfl rfl ?_
  by_cases h2 : now < eu
  · have d2 : decide (now < eu) = true := by simp [h2]
    refine runO hC tabOk 60 ?_
    simp [go_sem, d2]
    repeat ((first | refine condT rfl ?_ | refine condF rfl ?_ | refine skD hC rfl rfl rfl ?_); refine runO hC tabOk 60 ?_; simp [go_sem, d2])
    try (refine runO hC tabOk 60 ?_; simp [go_sem, d2]; repeat ((first | refine condT rfl ?_ | refine condF rfl ?_ | refine skD hC rfl rfl rfl ?_); refine runO hC tabOk 60 ?_; simp [go_sem, d2]))
    refine goto_ rfl hJ (fun _ => 1) fun m8 g8 p8 e8 => ⟨(i + 1, l', g8), ⟨h1, hc.ks Kp.ks (by first | (simp; done) | (simp; omega)) (by first | (simp; done) | (simp; omega)) (by first | (simp; done) | (simp; omega)), hlv.succ h1 (by rw [← hp]; simp [live, h2]), hcl, hk.then (by simp)⟩, by dsimp only; omega, rfl, ⟨by simp [go_sem], by simp [go_sem, wrap_inc (show i + 1 ≤ 9223372036854775807 by omega)], rfl, by simp [go_sem], by simp [go_sem], ⟨_, rfl⟩⟩, by simp⟩
  have d2 : decide (now < eu) = false := by simp; omega
  obtain ⟨hl1, hl2⟩ := q2
  rcases hl2 with ⟨_, e, e0⟩ | ⟨b3, cap3, cells, e, hb0, hob, hcap, hmax, hcl2, htk⟩
  · omega
  obtain ⟨e3, _, rfl⟩ := Value.slice.inj e
  obtain rfl := (Addr.mk.inj (Option.some.inj e3)).1
  have hne : ¬ cap = i := by omega
  have w1 : IntKind.i64.wrap ((i : Int) + 1) = (i : Int) + 1 := wrap_inc (show i + 1 ≤ 9223372036854775807 by omega)
  refine runO hC tabOk 60 ?_
  simp [go_sem, d2]
  repeat ((first | refine condT rfl ?_ | refine condF rfl ?_ | refine skD hC rfl rfl rfl ?_); refine runO hC tabOk 60 ?_; simp [go_sem, d2])
  try (refine runO hC tabOk 60 ?_; simp [go_sem, d2]; repeat ((first | refine condT rfl ?_ | refine condF rfl ?_ | refine skD hC rfl rfl rfl ?_); refine runO hC tabOk 60 ?_; simp [go_sem, d2]))
  refine draw hC [(0, 0), (1, 0), (2, 0), (3, 0), (4, 0), (5, 0), (6, 0), (7, 0), (8, 0), (9, 0), (10, 0), (11, 0), (12, 0), (13, 1)] [] mix (by kernel_rfl) ?_
  refine runO hC tabOk 60 ?_
  simp [go_sem]
  repeat ((first | refine condT rfl ?_ | refine condF rfl ?_ | refine skD hC rfl rfl rfl ?_); refine runO hC tabOk 60 ?_; simp [go_sem])
  refine voD hC rfl (vo_load1 hC tabOk (c1.ks Kp.ks (by first | (simp; done) | (simp; omega))) rfl rfl rfl rfl) (nc1 n1) rfl rfl rfl ?_
  refine runO hC tabOk 60 ?_
  simp [go_sem]
  repeat ((first | refine condT rfl ?_ | refine condF rfl ?_ | refine skD hC rfl rfl rfl ?_); refine runO hC tabOk 60 ?_; simp [go_sem])
  refine voD hC rfl (vo_slfrom hC tabOk rfl rfl rfl rfl rfl rfl (by omega) (by omega)) rfl rfl rfl rfl ?_
  refine runO hC tabOk 60 ?_
  simp [go_sem, hne, add_plain]
  repeat ((first | refine condT rfl ?_ | refine condF rfl ?_ | refine skD hC rfl rfl rfl ?_); refine runO hC tabOk 60 ?_; simp [go_sem, hne, add_plain])
  try (refine runO hC tabOk 60 ?_; simp [go_sem, hne, add_plain]; repeat ((first | refine condT rfl ?_ | refine condF rfl ?_ | refine skD hC rfl rfl rfl ?_); refine runO hC tabOk 60 ?_; simp [go_sem, hne, add_plain]))
  refine voD hC rfl (vo_load1 hC tabOk (c1.ks Kp.ks (by first | (simp; done) | (simp; omega))) rfl rfl rfl rfl) (nc1 n1) rfl rfl rfl ?_
  refine runO hC tabOk 60 ?_
  simp [go_sem, w1]
  repeat ((first | refine condT rfl ?_ | refine condF rfl ?_ | refine skD hC rfl rfl rfl ?_); refine runO hC tabOk 60 ?_; simp [go_sem, w1])
  try (refine runO hC tabOk 60 ?_; simp [go_sem, w1]; repeat ((first | refine condT rfl ?_ | refine condF rfl ?_ | refine skD hC rfl rfl rfl ?_); refine runO hC tabOk 60 ?_; simp [go_sem, w1]))
  refine voD hC rfl (vo_slfrom hC tabOk rfl rfl rfl rfl rfl rfl (by omega) (by omega)) rfl rfl rfl rfl ?_
  refine runO hC tabOk 60 ?_
  simp [go_sem, add_plain]
  repeat ((first | refine condT rfl ?_ | refine condF rfl ?_ | refine skD hC rfl rfl rfl ?_); refine runO hC tabOk 60 ?_; simp [go_sem, add_plain])
  try (refine runO hC tabOk 60 ?_; simp [go_sem, add_plain]; repeat ((first | refine condT rfl ?_ | refine condF rfl ?_ | refine skD hC rfl rfl rfl ?_); refine runO hC tabOk 60 ?_; simp [go_sem, add_plain]))
  refine cpyD hC (n + 1) tabOk (by first | (simp; done) | (simp; omega)) (.inl (by simp)) rfl rfl rfl rfl rfl rfl rfl rfl rfl (by simp; omega) rfl fun m5 g5 p5 e5 => ?_
  refine ⟨345, cells, l'.length - (i + 1), _, _, rowe (l'.drop (i + 1)), hob.ks Kp.ks (by first | (simp; done) | (simp; omega)), rfl, ?_, ?_, by omega, ?_, rowe_one _, fun g6 g7 p6 but6 p7 hob' => ?_⟩
  · by_cases hd : l'.length = i + 1
    · refine .inl ?_
      rw [List.drop_eq_nil_of_le (by omega)]; rfl
    · have hc' : ¬ cap = i + 1 := by omega
      rw [if_neg hc']
      exact ((hob.ks (g' := g5) Kp.ks (by first | (simp; done) | (simp; omega))).cs ((i + 1) * 5) fun j v hj => cells_drop (by omega) htk hj).rd
  · rw [rowe_len, List.length_drop]
  · rw [rowe_len, List.length_drop, hcl2]; omega
  have w3 : IntKind.i64.wrap ((l'.length : Int) - 1) = (l'.length : Int) - 1 := by rw [IntKind.wrap_i64]; omega
  have e4 : ((l'.length : Int) - 1).toNat = l'.length - 1 := by omega
  refine runO hC tabOk 60 ?_
  simp [go_sem]
  repeat ((first | refine condT rfl ?_ | refine condF rfl ?_ | refine skD hC rfl rfl rfl ?_); refine runO hC tabOk 60 ?_; simp [go_sem])
  refine draw hC [(0, 0), (1, 0), (2, 0), (3, 0), (4, 0), (5, 0), (6, 0), (7, 0), (8, 0), (9, 0), (10, 0), (11, 0)] [12, 13, 14] mix (by kernel_rfl) ?_
  refine runO hC tabOk 60 ?_
  simp [go_sem]
  repeat ((first | refine condT rfl ?_ | refine condF rfl ?_ | refine skD hC rfl rfl rfl ?_); refine runO hC tabOk 60 ?_; simp [go_sem])
  refine voD hC rfl (vo_load1 hC tabOk (c1.ks Kp.ks (by first | (simp; done) | (simp; omega))) rfl rfl rfl rfl) (nc1 n1) rfl rfl rfl ?_
  refine runO hC tabOk 60 ?_
  simp [go_sem]
  repeat ((first | refine condT rfl ?_ | refine condF rfl ?_ | refine skD hC rfl rfl rfl ?_); refine runO hC tabOk 60 ?_; simp [go_sem])
  refine voD hC rfl (vo_load1 hC tabOk (c1.ks Kp.ks (by first | (simp; done) | (simp; omega))) rfl rfl rfl rfl) (nc1 n1) rfl rfl rfl ?_
  refine runO hC tabOk 60 ?_
  simp [go_sem, w3]
  repeat ((first | refine condT rfl ?_ | refine condF rfl ?_ | refine skD hC rfl rfl rfl ?_); refine runO hC tabOk 60 ?_; simp [go_sem, w3])
  try (refine runO hC tabOk 60 ?_; simp [go_sem, w3]; repeat ((first | refine condT rfl ?_ | refine condF rfl ?_ | refine skD hC rfl rfl rfl ?_); refine runO hC tabOk 60 ?_; simp [go_sem, w3]))
  refine voD hC rfl (vo_slupto hC tabOk rfl rfl rfl rfl rfl rfl (by omega) (by omega) (fun b hb => by obtain rfl := Option.some.inj hb; simp [add_plain])) rfl rfl rfl rfl ?_
  refine runO hC tabOk 60 ?_
  simp [go_sem, e4]
  repeat ((first | refine condT rfl ?_ | refine condF rfl ?_ | refine skD hC rfl rfl rfl ?_); refine runO hC tabOk 60 ?_; simp [go_sem, e4])
  try (refine runO hC tabOk 60 ?_; simp [go_sem, e4]; repeat ((first | refine condT rfl ?_ | refine condF rfl ?_ | refine skD hC rfl rfl rfl ?_); refine runO hC tabOk 60 ?_; simp [go_sem, e4]))
  refine stob hC tabOk n (by first | (simp; done) | (simp; omega)) (.inl (by simp)) rfl rfl rfl rfl rfl rfl rfl rfl fun m9 g9 p9 e9 => ⟨288, _, q1.ks Kp.ks (by first | (simp; done) | (simp; omega)), by simp, fun g10 g11 p10 but10 p11 hob2 => ?_⟩
  have hnl : (l'.take i ++ l'.drop (i + 1)).length = l'.length - 1 := by simp; omega
  refine runO hC tabOk 60 ?_
  simp [go_sem]
  repeat ((first | refine condT rfl ?_ | refine condF rfl ?_ | refine skD hC rfl rfl rfl ?_); refine runO hC tabOk 60 ?_; simp [go_sem])
  refine goto_ rfl hJ (fun _ => 1) fun m8 g8 p8 e8 => ⟨(i, l'.take i ++ l'.drop (i + 1), g8), ⟨by dsimp only; rw [hnl]; omega, ⟨⟨some ⟨b2, 0, none⟩, cap, ?_, ?_⟩, ?_⟩, hlv.del hi, ?_, hk.then (by simp)⟩, by dsimp only; rw [hnl]; omega, rfl, ⟨by simp [go_sem], by simp [go_sem], rfl, by simp [go_sem], by simp [go_sem], ⟨_, rfl⟩⟩, by simp⟩
  · dsimp only
    rw [hnl]
    exact hob2.ks Kp.ks (by first | (simp; done) | (simp; omega))
  · dsimp only
    refine ⟨rowe_len _, .inr ⟨b2, cap, _, rfl, Nat.zero_le _, hob'.ks Kp.ks (by first | (simp; done) | (simp; omega)), by rw [hnl]; omega, hmax, ?_, row_del h1 htk⟩⟩
    have h5 : (cells.take (i * 5)).length = i * 5 := by rw [List.length_take, Nat.min_eq_left (by omega)]
    rw [List.length_append, List.length_append, h5, List.length_drop, rowe_len, List.length_drop, hcl2]
    omega
  · dsimp only
    intro p hp'
    refine (hc.el p ?_).to
    rcases List.mem_append.1 hp' with q | q
    · exact List.mem_of_mem_take q
    · exact List.mem_of_mem_drop q
  · rw [clean_del h1 (by rw [← hp]; simp [live, h2])]
    exact hcl
end Go.Proofs.YtobhfopgoidniaaGreat

/- What came already: put. -/
namespace Go.Proofs.YtobhfopgoidniaaGreat
open Go Go.Eng

/-- One more that came. -/
def putS (room : Int) (l : List (T × Int)) (mark : T) (till now : Int) : List (T × Int) × Int :=
  if hasS l mark now then (l, 52) else if room ≤ ((l.filter fun x => decide (now < x.2)).length : Int) then (l.filter fun x => decide (now < x.2), 53) else (l.filter (fun x => decide (now < x.2)) ++ [(mark, till)], 0)

theorem ents_clean (l : List Ent) (now : Int) : ents' (cleanS l now) = (ents' l).filter fun x => decide (now < x.2) := by
  unfold ents' cleanS
  rw [List.filter_map]
  rfl

theorem cput263 (n : Nat) (hn : 2 ≤ n) (b : Nat) (room : Int) (l : List Ent) (mark : T) (hm : Hd) (till now : Int) (g : G) (kc : CaIs 288 345 g n b room l) (km : TOk g mark hm) (hsz : l.length ≤ 1099511627776) :
    Ok Tryz.prog 263 [ptr b, tv mark hm, .int .i64 till, .int .i64 now] g [n, n + 1] (fun v g' => v = .int .i64 (putS room (ents' l) mark till now).2 ∧ ∃ l', CaIs 288 345 g' n b room l' ∧ ents' l' = (putS room (ents' l) mark till now).1) := by
  have n1 : n ≠ 1 := by omega
  have n2 : n + 1 ≠ 1 := by omega
  refine fbegin Tryz.func263 rfl Tryz.ntmps263 (Nat.le_of_ble_eq_true rfl) fun C hw hC => ?_
  refine runO hC tabOk 60 ?_
  simp [go_sem]
  repeat ((first | refine condT rfl ?_ | refine condF rfl ?_ | refine skD hC rfl rfl rfl ?_); refine runO hC tabOk 60 ?_; simp [go_sem])
  refine call hC [] (by kernel_rfl) rfl rfl rfl rfl rfl fun m1 g1 p1 e1 => ⟨_, chas292 n hn b room l mark hm now _ (kc.ks Kp.ks (by first | (simp; done) | (simp; omega)) (by first | (simp; done) | (simp; omega)) (by first | (simp; done) | (simp; omega))) km.to, fun v1 u1 q1 s1 hv1 => ?_⟩
  subst hv1
  cases h1 : hasS (ents' l) mark now with
  | true =>
    refine runO hC tabOk 60 ?_
    simp [go_sem]
    repeat ((first | refine condT rfl ?_ | refine condF rfl ?_ | refine skD hC rfl rfl rfl ?_); refine runO hC tabOk 60 ?_; simp [go_sem])
    refine ret hC tabOk (fun _ => 1) rfl rfl fun m gf hl ex => ?_
    simp only [putS, h1]
    exact ⟨rfl, l, kc.ks Kp.ks (by first | (simp; done) | (simp; omega)) (by first | (simp; done) | (simp; omega)) (by first | (simp; done) | (simp; omega)), rfl⟩
  | false =>
  refine runO hC tabOk 60 ?_
  simp [go_sem]
  repeat ((first | refine condT rfl ?_ | refine condF rfl ?_ | refine skD hC rfl rfl rfl ?_); refine runO hC tabOk 60 ?_; simp [go_sem])
  refine call hC [n,n+1] (by kernel_rfl) rfl rfl rfl (by first | (simp [subL]; done) | (simp [subL]; omega)) rfl fun m2 g2 p2 e2 => ⟨_, clean293 n hn b room l now _ (kc.ks Kp.ks (by first | (simp; done) | (simp; omega)) (by first | (simp; done) | (simp; omega)) (by first | (simp; done) | (simp; omega))), fun v2 u2 q2 s2 hv2 => ?_⟩
  have hcl : (cleanS l now).length ≤ 1099511627776 := Nat.le_trans (List.length_filter_le _ _) hsz
  have hec := ents_clean l now
  have hlen : ((ents' l).filter fun x => decide (now < x.2)).length = (cleanS l now).length := by rw [← hec]; simp [ents']
  generalize cleanS l now = lc at hv2 hcl hec hlen
  obtain ⟨a, cap, q1, q2⟩ := hv2.row
  have c1 : Cs u2 n b 1 [.slice a lc.length cap] := q1.cs 1 fun j v hj => by
    cases j with
    | zero => exact hj
    | succ j => cases hj
  have c0 : Cs u2 n b 0 [.int .i64 room] := q1.cs 0 fun j v hj => by
    cases j with
    | zero => exact hj
    | succ j => cases hj
  refine runO hC tabOk 60 ?_
  simp [go_sem]
  repeat ((first | refine condT rfl ?_ | refine condF rfl ?_ | refine skD hC rfl rfl rfl ?_); refine runO hC tabOk 60 ?_; simp [go_sem])
  refine draw hC [(0, 0), (1, 0), (2, 0), (3, 0), (4, 0), (5, 0), (6, 0), (7, 0), (8, 0), (9, 0)] [] mix (by kernel_rfl) ?_
  refine runO hC tabOk 60 ?_
  simp [go_sem]
  repeat ((first | refine condT rfl ?_ | refine condF rfl ?_ | refine skD hC rfl rfl rfl ?_); refine runO hC tabOk 60 ?_; simp [go_sem])
  refine voD hC rfl (vo_load1 hC tabOk (c1.ks Kp.ks (by first | (simp; done) | (simp; omega))) rfl rfl rfl rfl) (nc1 n1) rfl rfl rfl ?_
  refine runO hC tabOk 60 ?_
  simp [go_sem]
  repeat ((first | refine condT rfl ?_ | refine condF rfl ?_ | refine skD hC rfl rfl rfl ?_); refine runO hC tabOk 60 ?_; simp [go_sem])
  refine voD hC rfl (vo_load1 hC tabOk (c0.ks Kp.ks (by first | (simp; done) | (simp; omega))) rfl rfl rfl rfl) (nc1 n1) rfl rfl rfl ?_
  by_cases h2 : room ≤ (lc.length : Int)
  · have d2 : decide (room ≤ (lc.length : Int)) = true := by simp [h2]
    refine runO hC tabOk 60 ?_
    simp [go_sem, d2]
    repeat ((first | refine condT rfl ?_ | refine condF rfl ?_ | refine skD hC rfl rfl rfl ?_); refine runO hC tabOk 60 ?_; simp [go_sem, d2])
    try (refine runO hC tabOk 60 ?_; simp [go_sem, d2]; repeat ((first | refine condT rfl ?_ | refine condF rfl ?_ | refine skD hC rfl rfl rfl ?_); refine runO hC tabOk 60 ?_; simp [go_sem, d2]))
    refine ret hC tabOk (fun _ => 1) rfl rfl fun m gf hl ex => ?_
    simp only [putS, h1, hlen, h2]
    exact ⟨rfl, lc, hv2.ks Kp.ks (by first | (simp; done) | (simp; omega)) (by first | (simp; done) | (simp; omega)) (by first | (simp; done) | (simp; omega)), hec⟩
  have d2 : decide (room ≤ (lc.length : Int)) = false := by simp; omega
  refine runO hC tabOk 60 ?_
  simp [go_sem, d2]
  repeat ((first | refine condT rfl ?_ | refine condF rfl ?_ | refine skD hC rfl rfl rfl ?_); refine runO hC tabOk 60 ?_; simp [go_sem, d2])
  try (refine runO hC tabOk 60 ?_; simp [go_sem, d2]; repeat ((first | refine condT rfl ?_ | refine condF rfl ?_ | refine skD hC rfl rfl rfl ?_); refine runO hC tabOk 60 ?_; simp [go_sem, d2]))
  refine draw hC [(0, 0), (1, 0), (2, 0), (3, 0), (4, 0), (5, 0), (6, 0), (7, 0), (8, 1), (9, 1)] [10, 11, 12] mix (by kernel_rfl) ?_
  refine runO hC tabOk 60 ?_
  simp [go_sem]
  repeat ((first | refine condT rfl ?_ | refine condF rfl ?_ | refine skD hC rfl rfl rfl ?_); refine runO hC tabOk 60 ?_; simp [go_sem])
  refine voD hC rfl (vo_load1 hC tabOk (c1.ks Kp.ks (by first | (simp; done) | (simp; omega))) rfl rfl rfl rfl) (nc1 n1) rfl rfl rfl ?_
  refine runO hC tabOk 60 ?_
  simp [go_sem]
  repeat ((first | refine condT rfl ?_ | refine condF rfl ?_ | refine skD hC rfl rfl rfl ?_); refine runO hC tabOk 60 ?_; simp [go_sem])
  refine appD hC (n + 1) 0 64 tabOk (by first | (simp; done) | (simp; omega)) (.inl ⟨by simp, rfl⟩) rfl rfl rfl rfl rfl rfl rfl (by kernel_rfl) rfl rfl rfl (by simp; omega) rfl fun m6 g6 p6 e6 => ?_
  refine ⟨lc.length, rowe lc, 1, en ((mark, hm), till), some ⟨m6.getD 1 0, 0, none⟩, 1, q2.ks Kp.ks (by first | (simp; done) | (simp; omega)), rfl, Cs.rd (e6.frz (i := 1) rfl rfl rfl), rfl, by have := rowe_one [((mark, hm), till)]; simpa [rowe] using this, by simp [maxLen]; omega, by omega, fun v g7 g8 p7 p8 hv => ?_⟩
  obtain ⟨a', cap', rfl, hv1, hv3, hv4⟩ := hv.cs
  refine runO hC tabOk 60 ?_
  simp [go_sem]
  repeat ((first | refine condT rfl ?_ | refine condF rfl ?_ | refine skD hC rfl rfl rfl ?_); refine runO hC tabOk 60 ?_; simp [go_sem])
  refine stob hC tabOk n (by first | (simp; done) | (simp; omega)) (.inl (by simp)) rfl rfl rfl rfl rfl rfl rfl rfl fun m9 g9 p9 e9 => ⟨288, _, q1.ks Kp.ks (by first | (simp; done) | (simp; omega)), by simp, fun g10 g11 p10 but10 p11 hob' => ?_⟩
  refine runO hC tabOk 60 ?_
  simp [go_sem]
  repeat ((first | refine condT rfl ?_ | refine condF rfl ?_ | refine skD hC rfl rfl rfl ?_); refine runO hC tabOk 60 ?_; simp [go_sem])
  refine ret hC tabOk (fun _ => 1) rfl rfl fun m gf hl ex => ?_
  simp only [putS, h1, hlen, h2]
  refine ⟨rfl, lc ++ [((mark, hm), till)], ⟨⟨a', cap', ?_, ?_⟩, fun p hp => ?_⟩, ?_⟩
  · have := hob'.ks (g' := gf) Kp.ks (by first | (simp; done) | (simp; omega))
    rw [show (lc ++ [((mark, hm), till)]).length = lc.length + 1 by simp]
    exact this
  · have := hv.ks (g' := gf) Kp.ks (by first | (simp; done) | (simp; omega))
    rw [rowe_app]
    simpa [rowe] using this
  · rcases List.mem_append.1 hp with hp | hp
    · exact (hv2.el p hp).to
    · obtain rfl := List.mem_singleton.1 hp
      exact km.to
  · rw [← hec]; simp [ents']
end Go.Proofs.YtobhfopgoidniaaGreat
