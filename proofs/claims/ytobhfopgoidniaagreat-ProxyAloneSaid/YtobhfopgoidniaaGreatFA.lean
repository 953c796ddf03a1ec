/- Terms: comparing. Terms: the same, or not. Terms, by the document. Terms that are made. Names. -/
import Derived.Test.YtobhfopgoidniaaGreatTB
import Derived.Test.YtobhfopgoidniaaGreatED
import Derived.Test.YtobhfopgoidniaaGreatEC
import Derived.Test.YtobhfopgoidniaaGreatXW
set_option linter.all false
set_option linter.unusedVariables false
set_option linter.unusedSimpArgs false

/- Terms: comparing. -/
namespace Go.Proofs.YtobhfopgoidniaaGreat
open Go Go.Eng

theorem mix : Tryz.prog.follows .mixedOrders = true := by kernel_rfl

theorem nan268 (n : Int) (g : G) : Ok Tryz.prog 268 [.int .i64 n] g [] (fun v _ => v = .bool false) := by
  refine fbegin Tryz.func268 rfl Tryz.ntmps268 (Nat.le_of_ble_eq_true rfl) fun C hw hC => ?_
  refine runO hC tabOk 60 ?_
  simp [go_sem]
  repeat ((first | refine condT rfl ?_ | refine condF rfl ?_ | refine skD hC rfl rfl rfl ?_); refine runO hC tabOk 60 ?_; simp [go_sem])
  refine ret hC tabOk (fun _ => 1) rfl rfl fun m gf hl ex => ?_
  rfl

theorem nan270 (n : Int) (g : G) : Ok Tryz.prog 270 [.int .i64 n] g [] (fun v _ => v = .bool false) := by
  refine fbegin Tryz.func270 rfl Tryz.ntmps270 (Nat.le_of_ble_eq_true rfl) fun C hw hC => ?_
  refine runO hC tabOk 60 ?_
  simp [go_sem]
  repeat ((first | refine condT rfl ?_ | refine condF rfl ?_ | refine skD hC rfl rfl rfl ?_); refine runO hC tabOk 60 ?_; simp [go_sem])
  refine ret hC tabOk (fun _ => 1) rfl rfl fun m gf hl ex => ?_
  rfl

def icmp (x y : Int) : Int := if x < y then -1 else if y < x then 1 else 0

theorem cmp220 (x y : Int) (g : G) : Ok Tryz.prog 220 [.int .i64 x, .int .i64 y] g [] (fun v _ => v = .int .i64 (icmp x y)) := by
  refine fbegin Tryz.func220 rfl Tryz.ntmps220 (Nat.le_of_ble_eq_true rfl) fun C hw hC => ?_
  refine runO hC tabOk 60 ?_
  simp [go_sem]
  repeat ((first | refine condT rfl ?_ | refine condF rfl ?_ | refine skD hC rfl rfl rfl ?_); refine runO hC tabOk 60 ?_; simp [go_sem])
  refine call hC [] (by kernel_rfl) rfl rfl rfl rfl rfl fun m1 g1 p1 e1 => ⟨_, nan268 _ _, fun v1 u1 q1 s1 hv1 => ?_⟩
  subst hv1
  refine runO hC tabOk 60 ?_
  simp [go_sem]
  repeat ((first | refine condT rfl ?_ | refine condF rfl ?_ | refine skD hC rfl rfl rfl ?_); refine runO hC tabOk 60 ?_; simp [go_sem])
  refine call hC [] (by kernel_rfl) rfl rfl rfl rfl rfl fun m2 g2 p2 e2 => ⟨_, nan268 _ _, fun v2 u2 q2 s2 hv2 => ?_⟩
  subst hv2
  refine runO hC tabOk 60 ?_
  simp [go_sem]
  repeat ((first | refine condT rfl ?_ | refine condF rfl ?_ | refine skD hC rfl rfl rfl ?_); refine runO hC tabOk 60 ?_; simp [go_sem])
  refine sg_cond rfl (fun h => ?_) (fun h => ?_)
  · simp at h
    refine runO hC tabOk 60 ?_
    simp [go_sem]
    repeat ((first | refine condT rfl ?_ | refine condF rfl ?_ | refine skD hC rfl rfl rfl ?_); refine runO hC tabOk 60 ?_; simp [go_sem])
    refine ret hC tabOk (fun _ => 1) rfl rfl fun m gf hl ex => ?_
    simp [retv, SV.val, SC.val, vals, icmp, h]
  · simp at h
    refine runO hC tabOk 60 ?_
    simp [go_sem]
    repeat ((first | refine condT rfl ?_ | refine condF rfl ?_ | refine skD hC rfl rfl rfl ?_); refine runO hC tabOk 60 ?_; simp [go_sem])
    refine sg_cond rfl (fun h2 => ?_) (fun h2 => ?_)
    · simp at h2
      refine runO hC tabOk 60 ?_
      simp [go_sem]
      repeat ((first | refine condT rfl ?_ | refine condF rfl ?_ | refine skD hC rfl rfl rfl ?_); refine runO hC tabOk 60 ?_; simp [go_sem])
      refine ret hC tabOk (fun _ => 1) rfl rfl fun m gf hl ex => ?_
      have : ¬ x < y := by omega
      simp [retv, SV.val, SC.val, vals, icmp, h2, this]
    · simp at h2
      refine runO hC tabOk 60 ?_
      simp [go_sem]
      repeat ((first | refine condT rfl ?_ | refine condF rfl ?_ | refine skD hC rfl rfl rfl ?_); refine runO hC tabOk 60 ?_; simp [go_sem])
      refine ret hC tabOk (fun _ => 1) rfl rfl fun m gf hl ex => ?_
      have h3 : ¬ x < y := by omega
      have h4 : ¬ y < x := by omega
      simp [retv, SV.val, SC.val, vals, icmp, h3, h4]

theorem cmp222 (x y : Int) (g : G) : Ok Tryz.prog 222 [.int .i64 x, .int .i64 y] g [] (fun v _ => v = .int .i64 (icmp x y)) := by
  refine fbegin Tryz.func222 rfl Tryz.ntmps222 (Nat.le_of_ble_eq_true rfl) fun C hw hC => ?_
  refine runO hC tabOk 60 ?_
  simp [go_sem]
  repeat ((first | refine condT rfl ?_ | refine condF rfl ?_ | refine skD hC rfl rfl rfl ?_); refine runO hC tabOk 60 ?_; simp [go_sem])
  refine call hC [] (by kernel_rfl) rfl rfl rfl rfl rfl fun m1 g1 p1 e1 => ⟨_, nan270 _ _, fun v1 u1 q1 s1 hv1 => ?_⟩
  subst hv1
  refine runO hC tabOk 60 ?_
  simp [go_sem]
  repeat ((first | refine condT rfl ?_ | refine condF rfl ?_ | refine skD hC rfl rfl rfl ?_); refine runO hC tabOk 60 ?_; simp [go_sem])
  refine call hC [] (by kernel_rfl) rfl rfl rfl rfl rfl fun m2 g2 p2 e2 => ⟨_, nan270 _ _, fun v2 u2 q2 s2 hv2 => ?_⟩
  subst hv2
  refine runO hC tabOk 60 ?_
  simp [go_sem]
  repeat ((first | refine condT rfl ?_ | refine condF rfl ?_ | refine skD hC rfl rfl rfl ?_); refine runO hC tabOk 60 ?_; simp [go_sem])
  refine sg_cond rfl (fun h => ?_) (fun h => ?_)
  · simp at h
    refine runO hC tabOk 60 ?_
    simp [go_sem]
    repeat ((first | refine condT rfl ?_ | refine condF rfl ?_ | refine skD hC rfl rfl rfl ?_); refine runO hC tabOk 60 ?_; simp [go_sem])
    refine ret hC tabOk (fun _ => 1) rfl rfl fun m gf hl ex => ?_
    simp [retv, SV.val, SC.val, vals, icmp, h]
  · simp at h
    refine runO hC tabOk 60 ?_
    simp [go_sem]
    repeat ((first | refine condT rfl ?_ | refine condF rfl ?_ | refine skD hC rfl rfl rfl ?_); refine runO hC tabOk 60 ?_; simp [go_sem])
    refine sg_cond rfl (fun h2 => ?_) (fun h2 => ?_)
    · simp at h2
      refine runO hC tabOk 60 ?_
      simp [go_sem]
      repeat ((first | refine condT rfl ?_ | refine condF rfl ?_ | refine skD hC rfl rfl rfl ?_); refine runO hC tabOk 60 ?_; simp [go_sem])
      refine ret hC tabOk (fun _ => 1) rfl rfl fun m gf hl ex => ?_
      have : ¬ x < y := by omega
      simp [retv, SV.val, SC.val, vals, icmp, h2, this]
    · simp at h2
      refine runO hC tabOk 60 ?_
      simp [go_sem]
      repeat ((first | refine condT rfl ?_ | refine condF rfl ?_ | refine skD hC rfl rfl rfl ?_); refine runO hC tabOk 60 ?_; simp [go_sem])
      refine ret hC tabOk (fun _ => 1) rfl rfl fun m gf hl ex => ?_
      have h3 : ¬ x < y := by omega
      have h4 : ¬ y < x := by omega
      simp [retv, SV.val, SC.val, vals, icmp, h3, h4]

abbrev bcmp (a b : ByteArray) : Int := Extern.BytealgCompare.cmp a b

theorem bcmp_zero (a b : ByteArray) : bcmp a b = 0 ↔ a = b := by
  unfold bcmp Extern.BytealgCompare.cmp
  constructor
  · intro h
    split at h
    · split at h <;> cases h
    · rename_i hn
      rw [List.find?_eq_none] at hn
      have hs : a.size = b.size := by
        split at h
        · cases h
        · split at h
          · cases h
          · omega
      apply ByteArray.ext
      apply Array.ext
      · exact hs
      · intro i h1 h2
        have h1' : i < a.size := h1
        have := hn i (by simp only [List.mem_range]; have : b.size = a.size := hs.symm; omega)
        simp only [bne_iff_ne, ne_eq, Decidable.not_not] at this
        rw [getElem!_pos a i h1', getElem!_pos b i h2] at this
        exact this
  · rintro rfl
    have : ((List.range (min a.size a.size)).find? fun i => a[i]! != a[i]!) = none := by
      rw [List.find?_eq_none]; intro i _; simp
    rw [this]; simp

theorem scmp269 (x y : ByteArray) (g : G) : Ok Tryz.prog 269 [.string x, .string y] g [] (fun v _ => v = .int .i64 (bcmp x y)) := by
  refine fbegin Tryz.func269 rfl Tryz.ntmps269 (Nat.le_of_ble_eq_true rfl) fun C hw hC => ?_
  refine runO hC tabOk 60 ?_
  simp [go_sem]
  repeat ((first | refine condT rfl ?_ | refine condF rfl ?_ | refine skD hC rfl rfl rfl ?_); refine runO hC tabOk 60 ?_; simp [go_sem])
  refine vo hC (vo_extern (v := .int .i64 (bcmp x y)) hC rfl rfl Tryz.func294 rfl rfl rfl rfl fun m w => rfl) rfl rfl rfl ?_
  refine runO hC tabOk 60 ?_
  simp [go_sem]
  repeat ((first | refine condT rfl ?_ | refine condF rfl ?_ | refine skD hC rfl rfl rfl ?_); refine runO hC tabOk 60 ?_; simp [go_sem])
  refine ret hC tabOk (fun _ => 1) rfl rfl fun m gf hl ex => ?_
  rfl

theorem scmp221 (x y : ByteArray) (g : G) : Ok Tryz.prog 221 [.string x, .string y] g [] (fun v _ => v = .int .i64 (bcmp x y)) := by
  refine fbegin Tryz.func221 rfl Tryz.ntmps221 (Nat.le_of_ble_eq_true rfl) fun C hw hC => ?_
  refine runO hC tabOk 60 ?_
  simp [go_sem]
  repeat ((first | refine condT rfl ?_ | refine condF rfl ?_ | refine skD hC rfl rfl rfl ?_); refine runO hC tabOk 60 ?_; simp [go_sem])
  refine call hC [] (by kernel_rfl) rfl rfl rfl rfl rfl fun m1 g1 p1 e1 => ⟨_, scmp269 _ _ _, fun v1 u1 q1 s1 hv1 => ?_⟩
  subst hv1
  refine runO hC tabOk 60 ?_
  simp [go_sem]
  repeat ((first | refine condT rfl ?_ | refine condF rfl ?_ | refine skD hC rfl rfl rfl ?_); refine runO hC tabOk 60 ?_; simp [go_sem])
  refine ret hC tabOk (fun _ => 1) rfl rfl fun m gf hl ex => ?_
  rfl

def cor : List Int → Int
  | [] => 0
  | x :: r => if x = 0 then cor r else x

theorem or219 (l : List Int) (h : Hd) (g : G) (hl : IntsOk g l h) : Ok Tryz.prog 219 [.slice h.a l.length h.cap] g [] (fun v _ => v = .int .i64 (cor l)) := by
  refine fbegin Tryz.func219 rfl Tryz.ntmps219 (Nat.le_of_ble_eq_true rfl) fun C hw hC => ?_
  refine runO hC tabOk 60 ?_
  simp [go_sem]
  repeat ((first | refine condT rfl ?_ | refine condF rfl ?_ | refine skD hC rfl rfl rfl ?_); refine runO hC tabOk 60 ?_; simp [go_sem])
  refine small (fun _ => 1) rfl fun m0 gL p0 e0 => ⟨⟨(fun x => [(8, .c (.v (.int .i64 x.1))), (7, .c (.v (.int .i64 l.length))), (6, .c (.v (.slice h.a l.length h.cap))), (3, .c (.v (.int .i64 0)))]) ((0, gL)), [], (fun _ => []) ((0, gL)), [], 0⟩, ⟨by simp [go_sem], by simp [go_sem], rfl, by simp [go_sem], by simp [go_sem], ⟨_, rfl⟩⟩, by simp, ?_⟩
  refine loop (ι := Nat × G) (fun x => x.1 ≤ l.length ∧ cor l = cor (l.drop x.1) ∧ Keeps [1] g x.2) (fun x => x.2)
    (fun x => ⟨(fun x => [(8, .c (.v (.int .i64 x.1))), (7, .c (.v (.int .i64 l.length))), (6, .c (.v (.slice h.a l.length h.cap))), (3, .c (.v (.int .i64 0)))]) x, [], (fun _ => []) x, [], 0⟩) (fun x => l.length - x.1) (fun ⟨i, g'⟩ ⟨hi, hc, hk⟩ => ?_) ((0, gL)) (⟨Nat.zero_le _, rfl, p0.ks⟩)
  dsimp only at hi hc hk ⊢
  haveI : Later g g' := .of hk (by simp)
  refine runO hC tabOk 60 ?_
  simp [go_sem]
  repeat ((first | refine condT rfl ?_ | refine condF rfl ?_ | refine skD hC rfl rfl rfl ?_); refine runO hC tabOk 60 ?_; simp [go_sem])
  refine sg_cond rfl (fun h1 => ?_) (fun h1 => ?_)
  · simp at h1
    have hx : l[i]? = some l[i] := List.getElem?_eq_getElem h1
    obtain ⟨b, off, ha, hcs⟩ := (hl.to (g' := g')).row.get hx
    have hd : l.drop i = l[i] :: l.drop (i + 1) := List.drop_eq_getElem_cons h1
    have hn : l.length ≤ 9223372036854775807 := Nat.le_trans hl.len hl.cap
    rw [ha]
    refine runO hC tabOk 60 ?_
    simp [go_sem]
    repeat ((first | refine condT rfl ?_ | refine condF rfl ?_ | refine skD hC rfl rfl rfl ?_); refine runO hC tabOk 60 ?_; simp [go_sem])
    refine vo hC (vo_index hC tabOk rfl rfl rfl rfl rfl rfl (by omega) (by omega)) rfl rfl rfl ?_
    refine runO hC tabOk 60 ?_
    simp [go_sem]
    repeat ((first | refine condT rfl ?_ | refine condF rfl ?_ | refine skD hC rfl rfl rfl ?_); refine runO hC tabOk 60 ?_; simp [go_sem])
    refine vo hC (vo_load1 hC tabOk hcs rfl rfl rfl rfl) rfl rfl rfl ?_
    refine runO hC tabOk 60 ?_
    simp [go_sem]
    repeat ((first | refine condT rfl ?_ | refine condF rfl ?_ | refine skD hC rfl rfl rfl ?_); refine runO hC tabOk 60 ?_; simp [go_sem])
    refine sg_cond rfl (fun h2 => ?_) (fun h2 => ?_)
    · simp at h2
      refine runO hC tabOk 60 ?_
      simp [go_sem]
      repeat ((first | refine condT rfl ?_ | refine condF rfl ?_ | refine skD hC rfl rfl rfl ?_); refine runO hC tabOk 60 ?_; simp [go_sem])
      refine ret hC tabOk (fun _ => 1) rfl rfl fun m gf hl ex => ?_
      rw [hc, hd]
      simp [retv, SV.val, SC.val, vals, cor, h2]
    · simp at h2
      refine runO hC tabOk 60 ?_
      simp [go_sem]
      repeat ((first | refine condT rfl ?_ | refine condF rfl ?_ | refine skD hC rfl rfl rfl ?_); refine runO hC tabOk 60 ?_; simp [go_sem])
      refine again (fun _ => 1) fun m8 g8 p8 e8 => ⟨(i + 1, g8), ?_, ?_, rfl, ⟨by simp [go_sem], by simp [go_sem, ha, wrap_inc (show i + 1 ≤ 9223372036854775807 by omega)], rfl, by simp [go_sem], by simp [go_sem], ⟨_, rfl⟩⟩, by simp [go_sem]⟩
      · refine ⟨h1, ?_, hk.then (by simp)⟩
        rw [hc, hd]; simp [cor, h2]
      · dsimp only; omega
  · simp at h1
    refine runO hC tabOk 60 ?_
    simp [go_sem]
    repeat ((first | refine condT rfl ?_ | refine condF rfl ?_ | refine skD hC rfl rfl rfl ?_); refine runO hC tabOk 60 ?_; simp [go_sem])
    refine ret hC tabOk (fun _ => 1) rfl rfl fun m gf hl ex => ?_
    have : l.drop i = [] := List.drop_eq_nil_of_le (by omega)
    rw [hc, this]
    simp [retv, SV.val, SC.val, vals, cor]
end Go.Proofs.YtobhfopgoidniaaGreat

/- Terms: the same, or not. -/
namespace Go.Proofs.YtobhfopgoidniaaGreat
open Go Go.Eng

/-- What 'Order' promises of two terms. -/
def OrdQ (a b : T) (v : Value) : Prop := ∃ c : Int, v = .int .i64 c ∧ (c = 0 ↔ a = b)

def OrdsQ (a b : List T) (v : Value) : Prop := ∃ c : Int, v = .int .i64 c ∧ (c = 0 ↔ a = b)

theorem cmpf223 (l r : List T) (hl hr : Hd) (g : G) (kl : LOk g l hl) (kr : LOk g r hr)
    (H : ∀ x ∈ l, ∀ (y : T) (hx hy : Hd) (g' : G), TOk g' x hx → TOk g' y hy → Ok Tryz.prog 138 [tv x hx, tv y hy] g' [] (fun v _ => OrdQ x y v)) :
    Ok Tryz.prog 223 [.slice hl.a l.length hl.cap, .slice hr.a r.length hr.cap, .func (.func 138) #[] #[]] g [] (fun v _ => OrdsQ l r v) := by
  refine fbegin Tryz.func223 rfl Tryz.ntmps223 (Nat.le_of_ble_eq_true rfl) fun C hw hC => ?_
  refine runO hC tabOk 60 ?_
  simp [go_sem]
  repeat ((first | refine condT rfl ?_ | refine condF rfl ?_ | refine skD hC rfl rfl rfl ?_); refine runO hC tabOk 60 ?_; simp [go_sem])
  refine small (fun _ => 1) rfl fun m0 gL p0 e0 => ⟨⟨(fun x => [(13, .c (.v (.int .i64 x.1))), (12, .c (.v (.int .i64 l.length))), (11, .c (.v (.slice hl.a l.length hl.cap))), (0, .c (.v (.slice hl.a l.length hl.cap))), (1, .c (.v (.slice hr.a r.length hr.cap))), (2, .c (.v (.func (.func 138) #[] #[])))]) ((0, gL)), [], (fun _ => []) ((0, gL)), [], 0⟩, ⟨by simp [go_sem], by simp [go_sem], rfl, by simp [go_sem], by simp [go_sem], ⟨_, rfl⟩⟩, by simp, ?_⟩
  refine loop (ι := Nat × G) (fun x => x.1 ≤ l.length ∧ x.1 ≤ r.length ∧ l.take x.1 = r.take x.1 ∧ Keeps [1] g x.2) (fun x => x.2)
    (fun x => ⟨(fun x => [(13, .c (.v (.int .i64 x.1))), (12, .c (.v (.int .i64 l.length))), (11, .c (.v (.slice hl.a l.length hl.cap))), (0, .c (.v (.slice hl.a l.length hl.cap))), (1, .c (.v (.slice hr.a r.length hr.cap))), (2, .c (.v (.func (.func 138) #[] #[])))]) x, [], (fun _ => []) x, [], 0⟩) (fun x => l.length - x.1) (fun ⟨i, g'⟩ ⟨hi, hj, hc, hk⟩ => ?_) ((0, gL)) (⟨Nat.zero_le _, Nat.zero_le _, rfl, p0.ks⟩)
  dsimp only at hi hj hc hk ⊢
  haveI : Later g g' := .of hk (by simp)
  have hn : l.length ≤ 9223372036854775807 := Nat.le_trans kl.len kl.cap
  refine runO hC tabOk 60 ?_
  simp [go_sem]
  repeat ((first | refine condT rfl ?_ | refine condF rfl ?_ | refine skD hC rfl rfl rfl ?_); refine runO hC tabOk 60 ?_; simp [go_sem])
  refine sg_cond rfl (fun h1 => ?_) (fun h1 => ?_)
  · simp at h1
    obtain ⟨b, off, hx, ha, hcs, htx⟩ := (kl.to (g' := g')).get (List.getElem?_eq_getElem h1)
    rw [ha]
    refine runO hC tabOk 60 ?_
    simp [go_sem]
    repeat ((first | refine condT rfl ?_ | refine condF rfl ?_ | refine skD hC rfl rfl rfl ?_); refine runO hC tabOk 60 ?_; simp [go_sem])
    refine vo hC (vo_index hC tabOk rfl rfl rfl rfl rfl rfl (by omega) (by omega)) rfl rfl rfl ?_
    refine runO hC tabOk 60 ?_
    simp [go_sem]
    repeat ((first | refine condT rfl ?_ | refine condF rfl ?_ | refine skD hC rfl rfl rfl ?_); refine runO hC tabOk 60 ?_; simp [go_sem])
    refine vo hC (vo_load hC tabOk hcs rfl rfl rfl rfl rfl) rfl rfl rfl ?_
    refine runO hC tabOk 60 ?_
    simp [go_sem]
    repeat ((first | refine condT rfl ?_ | refine condF rfl ?_ | refine skD hC rfl rfl rfl ?_); refine runO hC tabOk 60 ?_; simp [go_sem])
    refine sg_cond rfl (fun h2 => ?_) (fun h2 => ?_)
    · simp at h2
      refine runO hC tabOk 60 ?_
      simp [go_sem]
      repeat ((first | refine condT rfl ?_ | refine condF rfl ?_ | refine skD hC rfl rfl rfl ?_); refine runO hC tabOk 60 ?_; simp [go_sem])
      refine ret hC tabOk (fun _ => 1) rfl rfl fun m gf hl ex => ?_
      refine ⟨1, rfl, by simp; intro e; rw [e] at h1; omega⟩
    · simp at h2
      obtain ⟨b', off', hy, ha', hcs', hty⟩ := (kr.to (g' := g')).get (List.getElem?_eq_getElem h2)
      rw [ha']
      refine runO hC tabOk 60 ?_
      simp [go_sem]
      repeat ((first | refine condT rfl ?_ | refine condF rfl ?_ | refine skD hC rfl rfl rfl ?_); refine runO hC tabOk 60 ?_; simp [go_sem])
      refine vo hC (vo_index hC tabOk rfl rfl rfl rfl rfl rfl (by omega) (by omega)) rfl rfl rfl ?_
      refine runO hC tabOk 60 ?_
      simp [go_sem]
      repeat ((first | refine condT rfl ?_ | refine condF rfl ?_ | refine skD hC rfl rfl rfl ?_); refine runO hC tabOk 60 ?_; simp [go_sem])
      refine vo hC (vo_load hC tabOk hcs' rfl rfl rfl rfl rfl) rfl rfl rfl ?_
      refine runO hC tabOk 60 ?_
      simp [go_sem]
      repeat ((first | refine condT rfl ?_ | refine condF rfl ?_ | refine skD hC rfl rfl rfl ?_); refine runO hC tabOk 60 ?_; simp [go_sem])
      refine callv hC [] 1 rfl rfl rfl rfl (by kernel_rfl) rfl rfl rfl rfl fun m2 g2 w2 p2 e2 => ⟨_, H l[i] (by simp) r[i] hx hy g2 htx.to hty.to, fun v2 j2 u2 q2 s2 hv2 r2 => ?_⟩
      obtain ⟨c, rfl, hcc⟩ := hv2
      refine runO hC tabOk 60 ?_
      simp [go_sem]
      repeat ((first | refine condT rfl ?_ | refine condF rfl ?_ | refine skD hC rfl rfl rfl ?_); refine runO hC tabOk 60 ?_; simp [go_sem])
      refine sg_cond rfl (fun h3 => ?_) (fun h3 => ?_)
      · simp at h3
        refine runO hC tabOk 60 ?_
        simp [go_sem]
        repeat ((first | refine condT rfl ?_ | refine condF rfl ?_ | refine skD hC rfl rfl rfl ?_); refine runO hC tabOk 60 ?_; simp [go_sem])
        refine ret hC tabOk (fun _ => 1) rfl rfl fun m gf hl ex => ?_
        refine ⟨c, rfl, ?_⟩
        rw [hcc]
        constructor
        · intro e; exact absurd (hcc.2 e) h3
        · intro e; subst e; rfl
      · simp at h3
        refine runO hC tabOk 60 ?_
        simp [go_sem]
        repeat ((first | refine condT rfl ?_ | refine condF rfl ?_ | refine skD hC rfl rfl rfl ?_); refine runO hC tabOk 60 ?_; simp [go_sem])
        refine again (fun _ => 1) fun m8 g8 p8 e8 => ⟨(i + 1, g8), ?_, ?_, rfl, ⟨by simp [go_sem], by simp [go_sem, ha, ha', wrap_inc (show i + 1 ≤ 9223372036854775807 by omega)], rfl, by simp [go_sem], by simp [go_sem], ⟨_, rfl⟩⟩, by simp [go_sem]⟩
        · refine ⟨h1, h2, ?_, hk.then (by simp)⟩
          dsimp only
          rw [List.take_succ_eq_append_getElem h1, List.take_succ_eq_append_getElem h2, hc, hcc.1 h3]
        · dsimp only; omega
  · simp at h1
    have hfull : l = r.take l.length := by
      have : i = l.length := by omega
      subst this
      rw [List.take_length] at hc; exact hc
    refine runO hC tabOk 60 ?_
    simp [go_sem]
    repeat ((first | refine condT rfl ?_ | refine condF rfl ?_ | refine skD hC rfl rfl rfl ?_); refine runO hC tabOk 60 ?_; simp [go_sem])
    refine sg_cond rfl (fun h2 => ?_) (fun h2 => ?_)
    · simp at h2
      refine runO hC tabOk 60 ?_
      simp [go_sem]
      repeat ((first | refine condT rfl ?_ | refine condF rfl ?_ | refine skD hC rfl rfl rfl ?_); refine runO hC tabOk 60 ?_; simp [go_sem])
      refine ret hC tabOk (fun _ => 1) rfl rfl fun m gf hl ex => ?_
      refine ⟨-1, rfl, by simp; intro e; rw [e] at h2; omega⟩
    · simp at h2
      refine runO hC tabOk 60 ?_
      simp [go_sem]
      repeat ((first | refine condT rfl ?_ | refine condF rfl ?_ | refine skD hC rfl rfl rfl ?_); refine runO hC tabOk 60 ?_; simp [go_sem])
      refine ret hC tabOk (fun _ => 1) rfl rfl fun m gf hl ex => ?_
      refine ⟨0, rfl, by simp; rw [hfull, List.take_of_length_le h2]⟩

theorem icmp_zero (x y : Int) : icmp x y = 0 ↔ x = y := by
  unfold icmp
  split
  · constructor
    · intro h; cases h
    · intro h; omega
  · split
    · constructor
      · intro h; cases h
      · intro h; omega
    · constructor
      · intro _; omega
      · intro _; rfl

theorem cor_zero : ∀ l : List Int, cor l = 0 ↔ ∀ x ∈ l, x = 0
  | [] => by simp [cor]
  | x :: r => by
    unfold cor
    split
    · rename_i h; rw [cor_zero r]; simp [h]
    · rename_i h; simp [h]

theorem order138 (a : T) : ∀ (b : T) (ha hb : Hd) (g : G), TOk g a ha → TOk g b hb → Ok Tryz.prog 138 [tv a ha, tv b hb] g [] (fun v _ => OrdQ a b v) := by
  induction a using T.ind with
  | h a ih =>
    intro b ha hb g ka kb
    refine fbegin Tryz.func138 rfl Tryz.ntmps138 (Nat.le_of_ble_eq_true rfl) fun C hw hC => ?_
    refine runO hC tabOk 60 ?_
    simp [go_sem]
    repeat ((first | refine condT rfl ?_ | refine condF rfl ?_ | refine skD hC rfl rfl rfl ?_); refine runO hC tabOk 60 ?_; simp [go_sem])
    refine draw hC [(0, 0), (1, 0), (2, 0), (3, 0), (5, 0), (6, 0), (7, 0), (8, 0), (10, 0), (11, 0), (12, 0), (13, 0), (15, 0), (16, 0), (17, 0), (18, 0), (4, 1), (9, 1), (14, 1), (19, 1), (20, 1), (21, 1)] [22] mix (by kernel_rfl) ?_
    refine runO hC tabOk 60 ?_
    simp [go_sem]
    repeat ((first | refine condT rfl ?_ | refine condF rfl ?_ | refine skD hC rfl rfl rfl ?_); refine runO hC tabOk 60 ?_; simp [go_sem])
    refine callD hC [] (by kernel_rfl) rfl rfl rfl rfl rfl rfl rfl rfl fun m1 g1 p1 e1 => ⟨_, cmp220 _ _ _, fun v1 u1 q1 s1 hv1 => ?_⟩
    subst hv1
    refine runO hC tabOk 60 ?_
    simp [go_sem]
    repeat ((first | refine condT rfl ?_ | refine condF rfl ?_ | refine skD hC rfl rfl rfl ?_); refine runO hC tabOk 60 ?_; simp [go_sem])
    refine callD hC [] (by kernel_rfl) rfl rfl rfl rfl rfl rfl rfl rfl fun m2 g2 p2 e2 => ⟨_, scmp221 _ _ _, fun v2 u2 q2 s2 hv2 => ?_⟩
    subst hv2
    refine runO hC tabOk 60 ?_
    simp [go_sem]
    repeat ((first | refine condT rfl ?_ | refine condF rfl ?_ | refine skD hC rfl rfl rfl ?_); refine runO hC tabOk 60 ?_; simp [go_sem])
    refine callD hC [] (by kernel_rfl) rfl rfl rfl rfl rfl rfl rfl rfl fun m3 g3 p3 e3 => ⟨_, cmp222 _ _ _, fun v3 u3 q3 s3 hv3 => ?_⟩
    subst hv3
    refine runO hC tabOk 60 ?_
    simp [go_sem]
    repeat ((first | refine condT rfl ?_ | refine condF rfl ?_ | refine skD hC rfl rfl rfl ?_); refine runO hC tabOk 60 ?_; simp [go_sem])
    refine callD hC [] (by kernel_rfl) rfl rfl rfl rfl rfl rfl rfl rfl fun m4 g4 p4 e4 => ⟨_, cmpf223 _ _ _ _ _ ka.lst.to kb.lst.to fun x hx y hx' hy' g' kx ky => ih x hx y hx' hy' g' kx ky, fun v4 u4 q4 s4 hv4 => ?_⟩
    obtain ⟨c, rfl, hc⟩ := hv4
    refine runO hC tabOk 60 ?_
    simp [go_sem]
    repeat ((first | refine condT rfl ?_ | refine condF rfl ?_ | refine skD hC rfl rfl rfl ?_); refine runO hC tabOk 60 ?_; simp [go_sem])
    refine callD hC [] (by kernel_rfl) rfl rfl rfl rfl rfl rfl rfl rfl fun m5 g5 p5 e5 => ⟨_, or219 [icmp a.k b.k, bcmp a.s b.s, icmp a.n b.n, c] ⟨_, 4⟩ _ ⟨.inr ⟨_, 0, rfl, e5.frz rfl rfl rfl⟩, Nat.le_refl _, by simp [maxLen]⟩, fun v5 u5 q5 s5 hv5 => ?_⟩
    subst hv5
    refine runO hC tabOk 60 ?_
    simp [go_sem]
    repeat ((first | refine condT rfl ?_ | refine condF rfl ?_ | refine skD hC rfl rfl rfl ?_); refine runO hC tabOk 60 ?_; simp [go_sem])
    refine ret hC tabOk (fun _ => 1) rfl rfl fun m gf hl ex => ?_
    refine ⟨_, rfl, ?_⟩
    rw [cor_zero, T.eq_iff]
    simp only [List.forall_mem_cons, List.not_mem_nil, icmp_zero, bcmp_zero, hc]
    simp

theorem same44 (a b : T) (ha hb : Hd) (g : G) (ka : TOk g a ha) (kb : TOk g b hb) : Ok Tryz.prog 44 [tv a ha, tv b hb] g [] (fun v _ => v = .bool (decide (a = b))) := by
  refine fbegin Tryz.func44 rfl Tryz.ntmps44 (Nat.le_of_ble_eq_true rfl) fun C hw hC => ?_
  refine runO hC tabOk 60 ?_
  simp [go_sem]
  repeat ((first | refine condT rfl ?_ | refine condF rfl ?_ | refine skD hC rfl rfl rfl ?_); refine runO hC tabOk 60 ?_; simp [go_sem])
  refine call hC [] (by kernel_rfl) rfl rfl rfl rfl rfl fun m1 g1 p1 e1 => ⟨_, order138 a b ha hb _ ka.to kb.to, fun v1 u1 q1 s1 hv1 => ?_⟩
  obtain ⟨c, rfl, hc⟩ := hv1
  refine runO hC tabOk 60 ?_
  simp [go_sem]
  repeat ((first | refine condT rfl ?_ | refine condF rfl ?_ | refine skD hC rfl rfl rfl ?_); refine runO hC tabOk 60 ?_; simp [go_sem])
  refine ret hC tabOk (fun _ => 1) rfl rfl fun m gf hl ex => ?_
  simp [retv, SV.val, SC.val, hc]
end Go.Proofs.YtobhfopgoidniaaGreat

/- Terms, by the document. -/
namespace Go.Proofs.YtobhfopgoidniaaGreat
open Go Go.Eng

theorem sign211 (b : Bool) (g : G) : Ok Tryz.prog 211 [.bool b] g [] (fun v _ => v = .int .i64 (if b then -1 else 1)) := by
  refine fbegin Tryz.func211 rfl Tryz.ntmps211 (Nat.le_of_ble_eq_true rfl) fun C hw hC => ?_
  refine runO hC tabOk 60 ?_
  simp [go_sem]
  repeat ((first | refine condT rfl ?_ | refine condF rfl ?_ | refine skD hC rfl rfl rfl ?_); refine runO hC tabOk 60 ?_; simp [go_sem])
  refine sg_cond rfl (fun h => ?_) (fun h => ?_)
  · subst h
    refine runO hC tabOk 60 ?_
    simp [go_sem]
    repeat ((first | refine condT rfl ?_ | refine condF rfl ?_ | refine skD hC rfl rfl rfl ?_); refine runO hC tabOk 60 ?_; simp [go_sem])
    refine ret hC tabOk (fun _ => 1) rfl rfl fun m gf hl ex => ?_
    rfl
  · subst h
    refine runO hC tabOk 60 ?_
    simp [go_sem]
    repeat ((first | refine condT rfl ?_ | refine condF rfl ?_ | refine skD hC rfl rfl rfl ?_); refine runO hC tabOk 60 ?_; simp [go_sem])
    refine ret hC tabOk (fun _ => 1) rfl rfl fun m gf hl ex => ?_
    rfl

theorem sgn_ne (p : Prop) [Decidable p] : (if p then (-1 : Int) else 1) = 0 ↔ False := by split <;> simp

theorem order117 (a : T) : ∀ (b : T) (ha hb : Hd) (g : G), TOk g a ha → TOk g b hb → Ok Tryz.prog 117 [tv a ha, tv b hb] g [] (fun v _ => OrdQ a b v) := by
  induction a using T.ind with
  | h a ih =>
    intro b ha hb g ka kb
    have nl : a.l.length ≤ 9223372036854775807 := Nat.le_trans ka.len ka.cap
    refine fbegin Tryz.func117 rfl Tryz.ntmps117 (Nat.le_of_ble_eq_true rfl) fun C hw hC => ?_
    refine runO hC tabOk 60 ?_
    simp [go_sem]
    repeat ((first | refine condT rfl ?_ | refine condF rfl ?_ | refine skD hC rfl rfl rfl ?_); refine runO hC tabOk 60 ?_; simp [go_sem])
    refine sg_cond rfl (fun h1 => ?_) (fun h1 => ?_)
    · simp at h1
      refine runO hC tabOk 60 ?_
      simp [go_sem]
      repeat ((first | refine condT rfl ?_ | refine condF rfl ?_ | refine skD hC rfl rfl rfl ?_); refine runO hC tabOk 60 ?_; simp [go_sem])
      refine call hC [] (by kernel_rfl) rfl rfl rfl rfl rfl fun m1 g1 p1 e1 => ⟨_, sign211 _ _, fun v1 u1 q1 s1 hv1 => ?_⟩
      subst hv1
      refine runO hC tabOk 60 ?_
      simp [go_sem]
      repeat ((first | refine condT rfl ?_ | refine condF rfl ?_ | refine skD hC rfl rfl rfl ?_); refine runO hC tabOk 60 ?_; simp [go_sem])
      refine ret hC tabOk (fun _ => 1) rfl rfl fun m gf hl ex => ?_
      refine ⟨_, rfl, ?_⟩
      rw [sgn_ne, T.eq_iff]
      simp [h1]
    simp at h1
    refine runO hC tabOk 60 ?_
    simp [go_sem]
    repeat ((first | refine condT rfl ?_ | refine condF rfl ?_ | refine skD hC rfl rfl rfl ?_); refine runO hC tabOk 60 ?_; simp [go_sem])
    refine sg_cond rfl (fun h2 => ?_) (fun h2 => ?_)
    · simp at h2
      refine runO hC tabOk 60 ?_
      simp [go_sem]
      repeat ((first | refine condT rfl ?_ | refine condF rfl ?_ | refine skD hC rfl rfl rfl ?_); refine runO hC tabOk 60 ?_; simp [go_sem])
      refine vo hC (vo_bin hC rfl rfl rfl (run_slss _ _ _ _ _)) rfl rfl rfl ?_
      refine runO hC tabOk 60 ?_
      simp [go_sem]
      repeat ((first | refine condT rfl ?_ | refine condF rfl ?_ | refine skD hC rfl rfl rfl ?_); refine runO hC tabOk 60 ?_; simp [go_sem])
      refine call hC [] (by kernel_rfl) rfl rfl rfl rfl rfl fun m1 g1 p1 e1 => ⟨_, sign211 _ _, fun v1 u1 q1 s1 hv1 => ?_⟩
      subst hv1
      refine runO hC tabOk 60 ?_
      simp [go_sem]
      repeat ((first | refine condT rfl ?_ | refine condF rfl ?_ | refine skD hC rfl rfl rfl ?_); refine runO hC tabOk 60 ?_; simp [go_sem])
      refine ret hC tabOk (fun _ => 1) rfl rfl fun m gf hl ex => ?_
      refine ⟨_, rfl, ?_⟩
      rw [sgn_ne, T.eq_iff]
      simp [h2]
    simp at h2
    refine runO hC tabOk 60 ?_
    simp [go_sem]
    repeat ((first | refine condT rfl ?_ | refine condF rfl ?_ | refine skD hC rfl rfl rfl ?_); refine runO hC tabOk 60 ?_; simp [go_sem])
    refine sg_cond rfl (fun h3 => ?_) (fun h3 => ?_)
    · simp at h3
      refine runO hC tabOk 60 ?_
      simp [go_sem]
      repeat ((first | refine condT rfl ?_ | refine condF rfl ?_ | refine skD hC rfl rfl rfl ?_); refine runO hC tabOk 60 ?_; simp [go_sem])
      refine call hC [] (by kernel_rfl) rfl rfl rfl rfl rfl fun m1 g1 p1 e1 => ⟨_, sign211 _ _, fun v1 u1 q1 s1 hv1 => ?_⟩
      subst hv1
      refine runO hC tabOk 60 ?_
      simp [go_sem]
      repeat ((first | refine condT rfl ?_ | refine condF rfl ?_ | refine skD hC rfl rfl rfl ?_); refine runO hC tabOk 60 ?_; simp [go_sem])
      refine ret hC tabOk (fun _ => 1) rfl rfl fun m gf hl ex => ?_
      refine ⟨_, rfl, ?_⟩
      rw [sgn_ne, T.eq_iff]
      simp [h3]
    simp at h3
    refine runO hC tabOk 60 ?_
    simp [go_sem]
    repeat ((first | refine condT rfl ?_ | refine condF rfl ?_ | refine skD hC rfl rfl rfl ?_); refine runO hC tabOk 60 ?_; simp [go_sem])
    refine small (fun _ => 1) rfl fun m0 gL p0 e0 => ⟨⟨(fun x => [(5, .c (.v (.int .i64 x.1))), (2, .c (.bp 0 0)), (3, .c (.bp 1 0))]) ((0, gL)), [], (fun x => [(0, ⟨25, (tc a ha).map .v, false⟩), (1, ⟨25, (tc b hb).map .v, false⟩)]) ((0, gL)), [], 2⟩, ⟨by simp [go_sem], by simp [go_sem], rfl, bxs_ok (n := 2) (Nat.le_refl _) (by simp [go_sem]), by simp [go_sem], ⟨_, rfl⟩⟩, by simp, ?_⟩
    refine loop (ι := Nat × G) (fun x => x.1 ≤ a.l.length ∧ x.1 ≤ b.l.length ∧ a.l.take x.1 = b.l.take x.1 ∧ Keeps [1] g x.2) (fun x => x.2)
      (fun x => ⟨(fun x => [(5, .c (.v (.int .i64 x.1))), (2, .c (.bp 0 0)), (3, .c (.bp 1 0))]) x, [], (fun x => [(0, ⟨25, (tc a ha).map .v, false⟩), (1, ⟨25, (tc b hb).map .v, false⟩)]) x, [], 2⟩) (fun x => a.l.length - x.1) (fun ⟨i, g'⟩ ⟨hi, hj, hc, hk⟩ => ?_) ((0, gL)) (⟨Nat.zero_le _, Nat.zero_le _, rfl, p0.ks⟩)
    dsimp only at hi hj hc hk ⊢
    haveI : Later g g' := .of hk (by simp)
    refine runO hC tabOk 60 ?_
    simp [go_sem]
    repeat ((first | refine condT rfl ?_ | refine condF rfl ?_ | refine skD hC rfl rfl rfl ?_); refine runO hC tabOk 60 ?_; simp [go_sem])
    refine sg_cond rfl (fun h4 => ?_) (fun h4 => ?_)
    · simp at h4
      obtain ⟨h4, h5⟩ := h4
      obtain ⟨bl, off, hx, ea, hcs, htx⟩ := (ka.lst.to (g' := g')).get (List.getElem?_eq_getElem h4)
      obtain ⟨bl', off', hy, eb, hcs', hty⟩ := (kb.lst.to (g' := g')).get (List.getElem?_eq_getElem h5)
      rw [ea, eb]
      refine runO hC tabOk 60 ?_
      simp [go_sem]
      repeat ((first | refine condT rfl ?_ | refine condF rfl ?_ | refine skD hC rfl rfl rfl ?_); refine runO hC tabOk 60 ?_; simp [go_sem])
      refine draw hC [(0, 0), (1, 0), (2, 0), (3, 0), (4, 0), (5, 0), (6, 0), (7, 0), (8, 0), (9, 0), (10, 1)] [11] mix (by kernel_rfl) ?_
      refine runO hC tabOk 60 ?_
      simp [go_sem]
      repeat ((first | refine condT rfl ?_ | refine condF rfl ?_ | refine skD hC rfl rfl rfl ?_); refine runO hC tabOk 60 ?_; simp [go_sem])
      refine voD hC rfl (vo_index hC tabOk rfl rfl rfl rfl rfl rfl (by omega) (by omega)) rfl rfl rfl rfl ?_
      refine runO hC tabOk 60 ?_
      simp [go_sem]
      repeat ((first | refine condT rfl ?_ | refine condF rfl ?_ | refine skD hC rfl rfl rfl ?_); refine runO hC tabOk 60 ?_; simp [go_sem])
      refine voD hC rfl (vo_load hC tabOk hcs rfl rfl rfl rfl rfl) rfl rfl rfl rfl ?_
      refine runO hC tabOk 60 ?_
      simp [go_sem]
      repeat ((first | refine condT rfl ?_ | refine condF rfl ?_ | refine skD hC rfl rfl rfl ?_); refine runO hC tabOk 60 ?_; simp [go_sem])
      refine voD hC rfl (vo_index hC tabOk rfl rfl rfl rfl rfl rfl (by omega) (by omega)) rfl rfl rfl rfl ?_
      refine runO hC tabOk 60 ?_
      simp [go_sem]
      repeat ((first | refine condT rfl ?_ | refine condF rfl ?_ | refine skD hC rfl rfl rfl ?_); refine runO hC tabOk 60 ?_; simp [go_sem])
      refine voD hC rfl (vo_load hC tabOk hcs' rfl rfl rfl rfl rfl) rfl rfl rfl rfl ?_
      refine runO hC tabOk 60 ?_
      simp [go_sem]
      repeat ((first | refine condT rfl ?_ | refine condF rfl ?_ | refine skD hC rfl rfl rfl ?_); refine runO hC tabOk 60 ?_; simp [go_sem])
      refine callD hC [] (by kernel_rfl) rfl rfl rfl rfl rfl rfl rfl rfl fun m2 g2 p2 e2 => ⟨_, ih a.l[i] (by simp) b.l[i] hx hy g2 htx.to hty.to, fun v2 u2 q2 s2 hv2 => ?_⟩
      obtain ⟨c, rfl, hcc⟩ := hv2
      refine runO hC tabOk 60 ?_
      simp [go_sem]
      repeat ((first | refine condT rfl ?_ | refine condF rfl ?_ | refine skD hC rfl rfl rfl ?_); refine runO hC tabOk 60 ?_; simp [go_sem])
      refine sg_cond rfl (fun h6 => ?_) (fun h6 => ?_)
      · simp at h6
        refine runO hC tabOk 60 ?_
        simp [go_sem]
        repeat ((first | refine condT rfl ?_ | refine condF rfl ?_ | refine skD hC rfl rfl rfl ?_); refine runO hC tabOk 60 ?_; simp [go_sem])
        refine ret hC tabOk (fun _ => 1) rfl rfl fun m gf hl ex => ?_
        refine ⟨c, rfl, ?_⟩
        rw [hcc]
        constructor
        · intro e; exact absurd (hcc.2 e) h6
        · intro e; subst e; rfl
      · simp at h6
        refine runO hC tabOk 60 ?_
        simp [go_sem]
        repeat ((first | refine condT rfl ?_ | refine condF rfl ?_ | refine skD hC rfl rfl rfl ?_); refine runO hC tabOk 60 ?_; simp [go_sem])
        refine again (fun _ => 1) fun m8 g8 p8 e8 => ⟨(i + 1, g8), ?_, ?_, rfl, ⟨by simp [go_sem], by simp [go_sem, ea, eb, wrap_inc (show i + 1 ≤ 9223372036854775807 by omega)], rfl, bxs_ok (n := 2) (Nat.le_refl _) (by simp [go_sem, ea, eb, wrap_inc (show i + 1 ≤ 9223372036854775807 by omega)]), by simp [go_sem], ⟨_, rfl⟩⟩, by simp [go_sem]⟩
        · refine ⟨h4, h5, ?_, hk.then (by simp)⟩
          dsimp only
          rw [List.take_succ_eq_append_getElem h4, List.take_succ_eq_append_getElem h5, hc, hcc.1 h6]
        · dsimp only; omega
    · simp at h4
      refine runO hC tabOk 60 ?_
      simp [go_sem]
      repeat ((first | refine condT rfl ?_ | refine condF rfl ?_ | refine skD hC rfl rfl rfl ?_); refine runO hC tabOk 60 ?_; simp [go_sem])
      refine sg_cond rfl (fun h5 => ?_) (fun h5 => ?_)
      · simp at h5
        refine runO hC tabOk 60 ?_
        simp [go_sem]
        repeat ((first | refine condT rfl ?_ | refine condF rfl ?_ | refine skD hC rfl rfl rfl ?_); refine runO hC tabOk 60 ?_; simp [go_sem])
        refine call hC [] (by kernel_rfl) rfl rfl rfl rfl rfl fun m1 g1 p1 e1 => ⟨_, sign211 _ _, fun v1 u1 q1 s1 hv1 => ?_⟩
        subst hv1
        refine runO hC tabOk 60 ?_
        simp [go_sem]
        repeat ((first | refine condT rfl ?_ | refine condF rfl ?_ | refine skD hC rfl rfl rfl ?_); refine runO hC tabOk 60 ?_; simp [go_sem])
        refine ret hC tabOk (fun _ => 1) rfl rfl fun m gf hl ex => ?_
        refine ⟨_, rfl, ?_⟩
        rw [sgn_ne, T.eq_iff]
        simp
        intro _ _ _ e
        rw [e] at h5
        omega
      · simp at h5
        refine runO hC tabOk 60 ?_
        simp [go_sem]
        repeat ((first | refine condT rfl ?_ | refine condF rfl ?_ | refine skD hC rfl rfl rfl ?_); refine runO hC tabOk 60 ?_; simp [go_sem])
        refine ret hC tabOk (fun _ => 1) rfl rfl fun m gf hl ex => ?_
        refine ⟨0, rfl, ?_⟩
        rw [T.eq_iff]
        have : i = a.l.length := by
          by_cases q : i < a.l.length
          · have := h4 q; omega
          · omega
        subst this
        have hb' : a.l.length = b.l.length := by omega
        rw [List.take_length, hb', List.take_length] at hc
        simp [h1, h2, h3, hc]

theorem same30 (a b : T) (ha hb : Hd) (g : G) (ka : TOk g a ha) (kb : TOk g b hb) : Ok Tryz.prog 30 [tv a ha, tv b hb] g [] (fun v _ => v = .bool (decide (a = b))) := by
  refine fbegin Tryz.func30 rfl Tryz.ntmps30 (Nat.le_of_ble_eq_true rfl) fun C hw hC => ?_
  refine runO hC tabOk 60 ?_
  simp [go_sem]
  repeat ((first | refine condT rfl ?_ | refine condF rfl ?_ | refine skD hC rfl rfl rfl ?_); refine runO hC tabOk 60 ?_; simp [go_sem])
  refine call hC [] (by kernel_rfl) rfl rfl rfl rfl rfl fun m1 g1 p1 e1 => ⟨_, order117 a b ha hb _ ka.to kb.to, fun v1 u1 q1 s1 hv1 => ?_⟩
  obtain ⟨c, rfl, hc⟩ := hv1
  refine runO hC tabOk 60 ?_
  simp [go_sem]
  repeat ((first | refine condT rfl ?_ | refine condF rfl ?_ | refine skD hC rfl rfl rfl ?_); refine runO hC tabOk 60 ?_; simp [go_sem])
  refine ret hC tabOk (fun _ => 1) rfl rfl fun m gf hl ex => ?_
  simp [retv, SV.val, SC.val, vals, hc]

theorem of120 (s : ByteArray) (g : G) : Ok Tryz.prog 120 [.string s] g [] (fun v _ => v = tv (.mk 0 s 0 []) ⟨none, 0⟩) := by
  refine fbegin Tryz.func120 rfl Tryz.ntmps120 (Nat.le_of_ble_eq_true rfl) fun C hw hC => ?_
  refine runO hC tabOk 60 ?_
  simp [go_sem]
  repeat ((first | refine condT rfl ?_ | refine condF rfl ?_ | refine skD hC rfl rfl rfl ?_); refine runO hC tabOk 60 ?_; simp [go_sem])
  refine ret hC tabOk (fun _ => 1) rfl rfl fun m gf hl ex => ?_
  rfl

theorem of118 (s : ByteArray) (g : G) : Ok Tryz.prog 118 [.string s] g [] (fun v _ => v = tv (.mk 0 s 0 []) ⟨none, 0⟩) := by
  refine fbegin Tryz.func118 rfl Tryz.ntmps118 (Nat.le_of_ble_eq_true rfl) fun C hw hC => ?_
  refine runO hC tabOk 60 ?_
  simp [go_sem]
  repeat ((first | refine condT rfl ?_ | refine condF rfl ?_ | refine skD hC rfl rfl rfl ?_); refine runO hC tabOk 60 ?_; simp [go_sem])
  refine ret hC tabOk (fun _ => 1) rfl rfl fun m gf hl ex => ?_
  rfl

theorem num135 (n : Int) (g : G) : Ok Tryz.prog 135 [.int .i64 n] g [] (fun v _ => v = tv (.mk 1 .empty n []) ⟨none, 0⟩) := by
  refine fbegin Tryz.func135 rfl Tryz.ntmps135 (Nat.le_of_ble_eq_true rfl) fun C hw hC => ?_
  refine runO hC tabOk 60 ?_
  simp [go_sem]
  repeat ((first | refine condT rfl ?_ | refine condF rfl ?_ | refine skD hC rfl rfl rfl ?_); refine runO hC tabOk 60 ?_; simp [go_sem])
  refine ret hC tabOk (fun _ => 1) rfl rfl fun m gf hl ex => ?_
  rfl

theorem key43 (s : ByteArray) (n : Int) (g : G) : Ok Tryz.prog 43 [.string s, .int .i64 n] g [] (fun v _ => v = tv (.mk 2 s n []) ⟨none, 0⟩) := by
  refine fbegin Tryz.func43 rfl Tryz.ntmps43 (Nat.le_of_ble_eq_true rfl) fun C hw hC => ?_
  refine runO hC tabOk 60 ?_
  simp [go_sem]
  repeat ((first | refine condT rfl ?_ | refine condF rfl ?_ | refine skD hC rfl rfl rfl ?_); refine runO hC tabOk 60 ?_; simp [go_sem])
  refine ret hC tabOk (fun _ => 1) rfl rfl fun m gf hl ex => ?_
  rfl

theorem list121 (l : List T) (h : Hd) (g : G) : Ok Tryz.prog 121 [.slice h.a l.length h.cap] g [] (fun v _ => v = tv (.mk 3 .empty 0 l) h) := by
  refine fbegin Tryz.func121 rfl Tryz.ntmps121 (Nat.le_of_ble_eq_true rfl) fun C hw hC => ?_
  refine runO hC tabOk 60 ?_
  simp [go_sem]
  repeat ((first | refine condT rfl ?_ | refine condF rfl ?_ | refine skD hC rfl rfl rfl ?_); refine runO hC tabOk 60 ?_; simp [go_sem])
  refine ret hC tabOk (fun _ => 1) rfl rfl fun m gf hl ex => ?_
  rfl
end Go.Proofs.YtobhfopgoidniaaGreat

/- Terms that are made. -/
namespace Go.Proofs.YtobhfopgoidniaaGreat
open Go Go.Eng

theorem clone158 (l : List T) (h : Hd) (g : G) (k : LOk g l h) (hn : l.length ≤ 2199023255552) : Ok Tryz.prog 158 [.slice h.a l.length h.cap] g [] (fun v g' => ∃ h' : Hd, v = .slice h'.a l.length h'.cap ∧ LOk g' l h') := by
  refine fbegin Tryz.func158 rfl Tryz.ntmps158 (Nat.le_of_ble_eq_true rfl) fun C hw hC => ?_
  refine runO hC tabOk 60 ?_
  simp [go_sem]
  repeat ((first | refine condT rfl ?_ | refine condF rfl ?_ | refine skD hC rfl rfl rfl ?_); refine runO hC tabOk 60 ?_; simp [go_sem])
  refine vo hC (vo_bin hC rfl rfl rfl (run_slnil Tryz.prog Tryz.underlying23 _ _ _ _ _)) rfl rfl rfl ?_
  refine runO hC tabOk 60 ?_
  simp [go_sem]
  repeat ((first | refine condT rfl ?_ | refine condF rfl ?_ | refine skD hC rfl rfl rfl ?_); refine runO hC tabOk 60 ?_; simp [go_sem])
  refine sg_cond rfl (fun h1 => ?_) (fun h1 => ?_)
  · simp at h1
    refine runO hC tabOk 60 ?_
    simp [go_sem]
    repeat ((first | refine condT rfl ?_ | refine condF rfl ?_ | refine skD hC rfl rfl rfl ?_); refine runO hC tabOk 60 ?_; simp [go_sem])
    refine ret hC tabOk (fun _ => 1) rfl rfl fun m gf hl ex => ?_
    have : l = [] := by
      cases hl0 : l with
      | nil => rfl
      | cons x r =>
        obtain ⟨b, off, h', e, _⟩ := k.get (i := 0) (t := x) (by rw [hl0]; rfl)
        rw [h1] at e; cases e
    subst this
    exact ⟨⟨none, 0⟩, rfl, .nil, Nat.le_refl _, by simp [maxLen]⟩
  · simp at h1
    refine runO hC tabOk 60 ?_
    simp [go_sem]
    repeat ((first | refine condT rfl ?_ | refine condF rfl ?_ | refine skD hC rfl rfl rfl ?_); refine runO hC tabOk 60 ?_; simp [go_sem])
    refine app hC 99 g.w.heap.size 56 tabOk rfl (.inr rfl) rfl rfl rfl rfl rfl rfl (by kernel_rfl) rfl rfl rfl fun m1 g1 p1 e1 => ?_
    obtain ⟨hs, e, hr, hp⟩ := (k.to (g' := g1)).heads
    refine ⟨0, [], l.length, rowc hs, h.a, h.cap, ⟨rfl, .inl ⟨_, rfl, rfl⟩⟩, rfl, hr, ?_, rowc_one hs, ?_, ?_, fun v g2 g3 p2 p3 hv => ?_⟩
    · rw [rowc_len, ← e]; simp
    · simp [maxLen]; omega
    · omega
    refine relab hC 99 0 rfl rfl fun g4 p4 hw4 ho4 => ?_
    obtain ⟨h', e2, hk'⟩ := LOk.of hs ((show OwnRow g3 _ 99 25 4 v (0 + l.length) (rowc hs) from by simpa using hv).give hw4 ho4) (by rw [← e]; simp) (fun p hp' => (hp p hp').to)
    rw [e] at hk'
    subst e2
    refine runO hC tabOk 60 ?_
    simp [go_sem]
    repeat ((first | refine condT rfl ?_ | refine condF rfl ?_ | refine skD hC rfl rfl rfl ?_); refine runO hC tabOk 60 ?_; simp [go_sem])
    refine ret hC tabOk (fun _ => 1) rfl rfl fun m gf hl ex => ?_
    exact ⟨h', rfl, hk'.to⟩

theorem list56 (l : List T) (h : Hd) (g : G) (k : LOk g l h) (hn : l.length ≤ 2199023255552) : Ok Tryz.prog 56 [.slice h.a l.length h.cap] g [] (fun v g' => TQ (.mk 3 .empty 0 l) v g') := by
  refine fbegin Tryz.func56 rfl Tryz.ntmps56 (Nat.le_of_ble_eq_true rfl) fun C hw hC => ?_
  refine runO hC tabOk 60 ?_
  simp [go_sem]
  repeat ((first | refine condT rfl ?_ | refine condF rfl ?_ | refine skD hC rfl rfl rfl ?_); refine runO hC tabOk 60 ?_; simp [go_sem])
  refine call hC [] (by kernel_rfl) rfl rfl rfl rfl rfl fun m1 g1 p1 e1 => ⟨_, clone158 l h _ k.to hn, fun v1 u1 q1 s1 hv1 => ?_⟩
  obtain ⟨h', rfl, k'⟩ := hv1
  refine runO hC tabOk 60 ?_
  simp [go_sem]
  repeat ((first | refine condT rfl ?_ | refine condF rfl ?_ | refine skD hC rfl rfl rfl ?_); refine runO hC tabOk 60 ?_; simp [go_sem])
  refine ret hC tabOk (fun _ => 1) rfl rfl fun m gf hl ex => ?_
  exact ⟨h', rfl, k'.to.row, k'.len, k'.cap, Nat.zero_le _⟩

theorem sum119 (k b : T) (hk hb : Hd) (n : Int) (g : G) (kk : TOk g k hk) (kb : TOk g b hb) : Ok Tryz.prog 119 [tv k hk, .int .i64 n, tv b hb] g [] (fun v g' => TQ (.mk 5 .empty n [k, b]) v g') := by
  refine fbegin Tryz.func119 rfl Tryz.ntmps119 (Nat.le_of_ble_eq_true rfl) fun C hw hC => ?_
  refine runO hC tabOk 60 ?_
  simp [go_sem]
  repeat ((first | refine condT rfl ?_ | refine condF rfl ?_ | refine skD hC rfl rfl rfl ?_); refine runO hC tabOk 60 ?_; simp [go_sem])
  refine ret hC tabOk (fun _ => 1) rfl rfl fun m gf hl ex => ?_
  exact ⟨⟨some ⟨m.getD 3 0, 0, none⟩, 2⟩, rfl, TsIs.of [(k, hk), (b, hb)] (ex.frz (i := 3) rfl rfl rfl) (by simp only [List.forall_mem_cons]; exact ⟨kk.to, kb.to, by simp⟩), Nat.le_refl _, by simp [maxLen], Nat.zero_le _⟩

theorem sum122 (k b : T) (hk hb : Hd) (n : Int) (g : G) (kk : TOk g k hk) (kb : TOk g b hb) : Ok Tryz.prog 122 [tv k hk, .int .i64 n, tv b hb] g [] (fun v g' => TQ (.mk 5 .empty n [k, b]) v g') := by
  refine fbegin Tryz.func122 rfl Tryz.ntmps122 (Nat.le_of_ble_eq_true rfl) fun C hw hC => ?_
  refine runO hC tabOk 60 ?_
  simp [go_sem]
  repeat ((first | refine condT rfl ?_ | refine condF rfl ?_ | refine skD hC rfl rfl rfl ?_); refine runO hC tabOk 60 ?_; simp [go_sem])
  refine ret hC tabOk (fun _ => 1) rfl rfl fun m gf hl ex => ?_
  exact ⟨⟨some ⟨m.getD 3 0, 0, none⟩, 2⟩, rfl, TsIs.of [(k, hk), (b, hb)] (ex.frz (i := 3) rfl rfl rfl) (by simp only [List.forall_mem_cons]; exact ⟨kk.to, kb.to, by simp⟩), Nat.le_refl _, by simp [maxLen], Nat.zero_le _⟩

theorem seal137 (k b : T) (hk hb : Hd) (n : Int) (g : G) (kk : TOk g k hk) (kb : TOk g b hb) : Ok Tryz.prog 137 [tv k hk, .int .i64 n, tv b hb] g [] (fun v g' => TQ (.mk 4 .empty n [k, b]) v g') := by
  refine fbegin Tryz.func137 rfl Tryz.ntmps137 (Nat.le_of_ble_eq_true rfl) fun C hw hC => ?_
  refine runO hC tabOk 60 ?_
  simp [go_sem]
  repeat ((first | refine condT rfl ?_ | refine condF rfl ?_ | refine skD hC rfl rfl rfl ?_); refine runO hC tabOk 60 ?_; simp [go_sem])
  refine ret hC tabOk (fun _ => 1) rfl rfl fun m gf hl ex => ?_
  exact ⟨⟨some ⟨m.getD 3 0, 0, none⟩, 2⟩, rfl, TsIs.of [(k, hk), (b, hb)] (ex.frz (i := 3) rfl rfl rfl) (by simp only [List.forall_mem_cons]; exact ⟨kk.to, kb.to, by simp⟩), Nat.le_refl _, by simp [maxLen], Nat.zero_le _⟩

/-- For which user a service asks. -/
def extraT (session : T) (user : ByteArray) : T := .mk 3 .empty 0 [.mk 0 user 0 [], .mk 5 .empty 17 [session, .mk 0 user 0 []]]

theorem tok_leaf (g : G) (k : Int) (s : ByteArray) (n : Int) (hs : s.size ≤ maxLen) : TOk g (.mk k s n []) ⟨none, 0⟩ := ⟨.nil, Nat.le_refl _, Nat.zero_le _, hs⟩

theorem extra31 (session : T) (h : Hd) (user : ByteArray) (g : G) (ks : TOk g session h) (hu : user.size ≤ maxLen) : Ok Tryz.prog 31 [tv session h, .string user] g [] (fun v g' => TQ (extraT session user) v g') := by
  refine fbegin Tryz.func31 rfl Tryz.ntmps31 (Nat.le_of_ble_eq_true rfl) fun C hw hC => ?_
  refine runO hC tabOk 60 ?_
  simp [go_sem]
  repeat ((first | refine condT rfl ?_ | refine condF rfl ?_ | refine skD hC rfl rfl rfl ?_); refine runO hC tabOk 60 ?_; simp [go_sem])
  refine call hC [] (by kernel_rfl) rfl rfl rfl rfl rfl fun m1 g1 p1 e1 => ⟨_, of118 user _, fun v1 u1 q1 s1 hv1 => ?_⟩
  subst hv1
  refine runO hC tabOk 60 ?_
  simp [go_sem]
  repeat ((first | refine condT rfl ?_ | refine condF rfl ?_ | refine skD hC rfl rfl rfl ?_); refine runO hC tabOk 60 ?_; simp [go_sem])
  refine draw hC [(0, 0), (1, 0), (2, 0), (3, 1)] [4, 5, 6] mix (by kernel_rfl) ?_
  refine runO hC tabOk 60 ?_
  simp [go_sem]
  repeat ((first | refine condT rfl ?_ | refine condF rfl ?_ | refine skD hC rfl rfl rfl ?_); refine runO hC tabOk 60 ?_; simp [go_sem])
  refine callD hC [] (by kernel_rfl) rfl rfl rfl rfl rfl rfl rfl rfl fun m2 g2 p2 e2 => ⟨_, sum119 session (.mk 0 user 0 []) h ⟨none, 0⟩ 17 _ ks.to (tok_leaf _ 0 user 0 hu), fun v2 u2 q2 s2 hv2 => ?_⟩
  obtain ⟨hh, rfl, kh⟩ := hv2
  refine runO hC tabOk 60 ?_
  simp [go_sem]
  repeat ((first | refine condT rfl ?_ | refine condF rfl ?_ | refine skD hC rfl rfl rfl ?_); refine runO hC tabOk 60 ?_; simp [go_sem])
  refine call hC [] (by kernel_rfl) rfl rfl rfl rfl rfl fun m3 g3 p3 e3 => ⟨_, list56 [.mk 0 user 0 [], .mk 5 .empty 17 [session, .mk 0 user 0 []]] ⟨some ⟨m3.getD 3 0, 0, none⟩, 2⟩ _ ⟨TsIs.of [(.mk 0 user 0 [], ⟨none, 0⟩), (.mk 5 .empty 17 [session, .mk 0 user 0 []], hh)] (e3.frz (i := 3) rfl rfl rfl) (by simp only [List.forall_mem_cons]; exact ⟨tok_leaf _ 0 user 0 hu, kh.to, by simp⟩), Nat.le_refl _, by simp [maxLen]⟩ (by simp), fun v3 u3 q3 s3 hv3 => ?_⟩
  obtain ⟨h4, rfl, k4⟩ := hv3
  refine runO hC tabOk 60 ?_
  simp [go_sem]
  repeat ((first | refine condT rfl ?_ | refine condF rfl ?_ | refine skD hC rfl rfl rfl ?_); refine runO hC tabOk 60 ?_; simp [go_sem])
  refine ret hC tabOk (fun _ => 1) rfl rfl fun m gf hl ex => ?_
  exact ⟨h4, rfl, k4.to⟩

theorem extra32 (session : T) (h : Hd) (user : ByteArray) (g : G) (ks : TOk g session h) (hu : user.size ≤ maxLen) : Ok Tryz.prog 32 [tv session h, .string user] g [] (fun v g' => TQ (extraT session user) v g') := by
  refine fbegin Tryz.func32 rfl Tryz.ntmps32 (Nat.le_of_ble_eq_true rfl) fun C hw hC => ?_
  refine runO hC tabOk 60 ?_
  simp [go_sem]
  repeat ((first | refine condT rfl ?_ | refine condF rfl ?_ | refine skD hC rfl rfl rfl ?_); refine runO hC tabOk 60 ?_; simp [go_sem])
  refine call hC [] (by kernel_rfl) rfl rfl rfl rfl rfl fun m1 g1 p1 e1 => ⟨_, of120 user _, fun v1 u1 q1 s1 hv1 => ?_⟩
  subst hv1
  refine runO hC tabOk 60 ?_
  simp [go_sem]
  repeat ((first | refine condT rfl ?_ | refine condF rfl ?_ | refine skD hC rfl rfl rfl ?_); refine runO hC tabOk 60 ?_; simp [go_sem])
  refine draw hC [(0, 0), (1, 0), (2, 0), (3, 1)] [4, 5, 6] mix (by kernel_rfl) ?_
  refine runO hC tabOk 60 ?_
  simp [go_sem]
  repeat ((first | refine condT rfl ?_ | refine condF rfl ?_ | refine skD hC rfl rfl rfl ?_); refine runO hC tabOk 60 ?_; simp [go_sem])
  refine callD hC [] (by kernel_rfl) rfl rfl rfl rfl rfl rfl rfl rfl fun m2 g2 p2 e2 => ⟨_, sum122 session (.mk 0 user 0 []) h ⟨none, 0⟩ 17 _ ks.to (tok_leaf _ 0 user 0 hu), fun v2 u2 q2 s2 hv2 => ?_⟩
  obtain ⟨hh, rfl, kh⟩ := hv2
  refine runO hC tabOk 60 ?_
  simp [go_sem]
  repeat ((first | refine condT rfl ?_ | refine condF rfl ?_ | refine skD hC rfl rfl rfl ?_); refine runO hC tabOk 60 ?_; simp [go_sem])
  refine call hC [] (by kernel_rfl) rfl rfl rfl rfl rfl fun m3 g3 p3 e3 => ⟨_, list121 [.mk 0 user 0 [], .mk 5 .empty 17 [session, .mk 0 user 0 []]] ⟨some ⟨m3.getD 3 0, 0, none⟩, 2⟩ _, fun v3 u3 q3 s3 hv3 => ?_⟩
  subst hv3
  refine runO hC tabOk 60 ?_
  simp [go_sem]
  repeat ((first | refine condT rfl ?_ | refine condF rfl ?_ | refine skD hC rfl rfl rfl ?_); refine runO hC tabOk 60 ?_; simp [go_sem])
  refine ret hC tabOk (fun _ => 1) rfl rfl fun m gf hl ex => ?_
  exact ⟨⟨some ⟨m3.getD 3 0, 0, none⟩, 2⟩, rfl, TsIs.to (TsIs.of [(.mk 0 user 0 [], ⟨none, 0⟩), (.mk 5 .empty 17 [session, .mk 0 user 0 []], hh)] (e3.frz (i := 3) rfl rfl rfl) (by simp only [List.forall_mem_cons]; exact ⟨tok_leaf _ 0 user 0 hu, kh.to, by simp⟩)), Nat.le_refl _, by simp [maxLen], Nat.zero_le _⟩
end Go.Proofs.YtobhfopgoidniaaGreat

/- Names. -/
namespace Go.Proofs.YtobhfopgoidniaaGreat
open Go Go.Eng

theorem ib217 (s : ByteArray) (c : Int) (g : G) : Ok Tryz.prog 217 [.string s, .int .u8 c] g [] (fun v _ => v = .int .i64 (firstIdx s c.toNat.toUInt8)) := by
  refine fbegin Tryz.func217 rfl Tryz.ntmps217 (Nat.le_of_ble_eq_true rfl) fun C hw hC => ?_
  refine runO hC tabOk 60 ?_
  simp [go_sem]
  repeat ((first | refine condT rfl ?_ | refine condF rfl ?_ | refine skD hC rfl rfl rfl ?_); refine runO hC tabOk 60 ?_; simp [go_sem])
  refine vo hC (vo_extern (v := .int .i64 (firstIdx s c.toNat.toUInt8)) hC rfl rfl Tryz.func267 rfl rfl rfl rfl fun m w => run_indexByte_string s c w) rfl rfl rfl ?_
  refine runO hC tabOk 60 ?_
  simp [go_sem]
  repeat ((first | refine condT rfl ?_ | refine condF rfl ?_ | refine skD hC rfl rfl rfl ?_); refine runO hC tabOk 60 ?_; simp [go_sem])
  refine ret hC tabOk (fun _ => 1) rfl rfl fun m gf hl ex => ?_
  rfl

theorem ib128 (s : ByteArray) (c : Int) (g : G) : Ok Tryz.prog 128 [.string s, .int .u8 c] g [] (fun v _ => v = .int .i64 (firstIdx s c.toNat.toUInt8)) := by
  refine fbegin Tryz.func128 rfl Tryz.ntmps128 (Nat.le_of_ble_eq_true rfl) fun C hw hC => ?_
  refine runO hC tabOk 60 ?_
  simp [go_sem]
  repeat ((first | refine condT rfl ?_ | refine condF rfl ?_ | refine skD hC rfl rfl rfl ?_); refine runO hC tabOk 60 ?_; simp [go_sem])
  refine call hC [] (by kernel_rfl) rfl rfl rfl rfl rfl fun m1 g1 p1 e1 => ⟨_, ib217 _ _ _, fun v1 u1 q1 s1 hv1 => ?_⟩
  subst hv1
  refine runO hC tabOk 60 ?_
  simp [go_sem]
  repeat ((first | refine condT rfl ?_ | refine condF rfl ?_ | refine skD hC rfl rfl rfl ?_); refine runO hC tabOk 60 ?_; simp [go_sem])
  refine ret hC tabOk (fun _ => 1) rfl rfl fun m gf hl ex => ?_
  rfl

/-- May a byte be in a name? -/
def nameB (c : Int) : Bool := (decide (97 ≤ c) && decide (c ≤ 122)) || (decide (48 ≤ c) && decide (c ≤ 57)) || (decide (c = 45) || decide (c = 46) || decide (c = 47))

theorem idx_dash' : ((List.range 256).all fun n => decide (0 ≤ firstIdx ⟨#[45, 46, 47]⟩ (UInt8.ofNat n)) == (decide ((n : Int) = 45) || decide ((n : Int) = 46) || decide ((n : Int) = 47))) = true := by kernel_rfl
theorem idx_dash (c : Int) (h0 : 0 ≤ c) (h1 : c < 256) : decide (0 ≤ firstIdx ⟨#[45, 46, 47]⟩ (UInt8.ofNat c.toNat)) = (decide (c = 45) || decide (c = 46) || decide (c = 47)) := by
  have := List.all_eq_true.1 idx_dash' c.toNat (by simp; omega)
  have e : ((c.toNat : Nat) : Int) = c := by omega
  rw [e] at this
  exact eq_of_beq this

theorem nb127 (c : Int) (g : G) (h0 : 0 ≤ c) (h1 : c < 256) : Ok Tryz.prog 127 [.int .u8 c] g [] (fun v _ => v = .bool (nameB c)) := by
  refine fbegin Tryz.func127 rfl Tryz.ntmps127 (Nat.le_of_ble_eq_true rfl) fun C hw hC => ?_
  refine runO hC tabOk 22 ?_
  simp [go_sem]
  repeat ((first | refine condT rfl ?_ | refine condF rfl ?_ | refine skD hC rfl rfl rfl ?_); refine runO hC tabOk 22 ?_; simp [go_sem])
  obtain ⟨b, hb⟩ : ∃ b, (decide (97 ≤ c) && decide (c ≤ 122) || decide (48 ≤ c) && decide (c ≤ 57)) = b := ⟨_, rfl⟩
  rw [hb]
  cases b with
  | true =>
    refine runO hC tabOk 60 ?_
    simp [go_sem]
    repeat ((first | refine condT rfl ?_ | refine condF rfl ?_ | refine skD hC rfl rfl rfl ?_); refine runO hC tabOk 60 ?_; simp [go_sem])
    refine ret hC tabOk (fun _ => 1) rfl rfl fun m gf hl ex => ?_
    simp [retv, SV.val, SC.val, vals, nameB, hb]
  | false =>
    refine runO hC tabOk 60 ?_
    simp [go_sem]
    repeat ((first | refine condT rfl ?_ | refine condF rfl ?_ | refine skD hC rfl rfl rfl ?_); refine runO hC tabOk 60 ?_; simp [go_sem])
    refine call hC [] (by kernel_rfl) rfl rfl rfl rfl rfl fun m1 g1 p1 e1 => ⟨_, ib128 _ _ _, fun v1 u1 q1 s1 hv1 => ?_⟩
    subst hv1
    refine runO hC tabOk 60 ?_
    simp [go_sem]
    repeat ((first | refine condT rfl ?_ | refine condF rfl ?_ | refine skD hC rfl rfl rfl ?_); refine runO hC tabOk 60 ?_; simp [go_sem])
    refine ret hC tabOk (fun _ => 1) rfl rfl fun m gf hl ex => ?_
    simp [retv, SV.val, SC.val, vals, nameB, hb]
    exact idx_dash c h0 h1

theorem wrap_add (a b : Int) : IntKind.i64.wrap (IntKind.i64.wrap a + IntKind.i64.wrap b) = IntKind.i64.wrap (a + b) := by
  simp only [IntKind.wrap_i64]
  omega

theorem sizes_app : ∀ l r : List T, T.sizes (l ++ r) = T.sizes l + T.sizes r
  | [], r => by simp [T.sizes]
  | a :: l, r => by simp only [List.cons_append, T.sizes, sizes_app l r]; omega

theorem sizes_take (l : List T) (i : Nat) (h : i < l.length) : T.sizes (l.take (i + 1)) = T.sizes (l.take i) + l[i].size := by
  rw [List.take_succ_eq_append_getElem h, sizes_app]
  simp [T.sizes]

theorem size116 (t : T) : ∀ (h : Hd) (g : G), TOk g t h → Ok Tryz.prog 116 [tv t h] g [] (fun v _ => v = .int .i64 (IntKind.i64.wrap t.size)) := by
  induction t using T.ind with
  | h t ih =>
    intro h g k
    have nl : t.l.length ≤ 9223372036854775807 := Nat.le_trans k.len k.cap
    refine fbegin Tryz.func116 rfl Tryz.ntmps116 (Nat.le_of_ble_eq_true rfl) fun C hw hC => ?_
    refine runO hC tabOk 60 ?_
    simp [go_sem]
    repeat ((first | refine condT rfl ?_ | refine condF rfl ?_ | refine skD hC rfl rfl rfl ?_); refine runO hC tabOk 60 ?_; simp [go_sem])
    refine small (fun _ => 1) rfl fun m0 gL p0 e0 => ⟨⟨(fun (x : Nat × G) => [(4, .c (.v (.int .i64 x.1))), (3, .c (.v (.int .i64 (IntKind.i64.wrap (1 + T.sizes (t.l.take x.1)))))), (1, .c (.bp 0 0))]) ((0, gL)), [], (fun x => [(0, ⟨25, (tc t h).map .v, false⟩)]) ((0, gL)), [], 1⟩, ⟨by simp [go_sem], by simp [go_sem, T.sizes, show IntKind.i64.wrap 1 = 1 from rfl], rfl, bxs_ok (n := 1) (Nat.le_refl _) (by simp [go_sem, T.sizes, show IntKind.i64.wrap 1 = 1 from rfl]), by simp [go_sem], ⟨_, rfl⟩⟩, by simp, ?_⟩
    refine loop (ι := Nat × G) (fun x => x.1 ≤ t.l.length ∧ Keeps [1] g x.2) (fun x => x.2)
      (fun x => ⟨(fun (x : Nat × G) => [(4, .c (.v (.int .i64 x.1))), (3, .c (.v (.int .i64 (IntKind.i64.wrap (1 + T.sizes (t.l.take x.1)))))), (1, .c (.bp 0 0))]) x, [], (fun x => [(0, ⟨25, (tc t h).map .v, false⟩)]) x, [], 1⟩) (fun x => t.l.length - x.1) (fun ⟨i, g'⟩ ⟨hi, hk⟩ => ?_) ((0, gL)) (⟨Nat.zero_le _, p0.ks⟩)
    dsimp only at hi hk ⊢
    haveI : Later g g' := .of hk (by simp)
    refine runO hC tabOk 60 ?_
    simp [go_sem]
    repeat ((first | refine condT rfl ?_ | refine condF rfl ?_ | refine skD hC rfl rfl rfl ?_); refine runO hC tabOk 60 ?_; simp [go_sem])
    refine sg_cond rfl (fun h1 => ?_) (fun h1 => ?_)
    · simp at h1
      obtain ⟨b, off, hx, ea, hcs, htx⟩ := (k.lst.to (g' := g')).get (List.getElem?_eq_getElem h1)
      rw [ea]
      refine runO hC tabOk 60 ?_
      simp [go_sem]
      repeat ((first | refine condT rfl ?_ | refine condF rfl ?_ | refine skD hC rfl rfl rfl ?_); refine runO hC tabOk 60 ?_; simp [go_sem])
      refine vo hC (vo_index hC tabOk rfl rfl rfl rfl rfl rfl (by omega) (by omega)) rfl rfl rfl ?_
      refine runO hC tabOk 60 ?_
      simp [go_sem]
      repeat ((first | refine condT rfl ?_ | refine condF rfl ?_ | refine skD hC rfl rfl rfl ?_); refine runO hC tabOk 60 ?_; simp [go_sem])
      refine vo hC (vo_load hC tabOk hcs rfl rfl rfl rfl rfl) rfl rfl rfl ?_
      refine runO hC tabOk 60 ?_
      simp [go_sem]
      repeat ((first | refine condT rfl ?_ | refine condF rfl ?_ | refine skD hC rfl rfl rfl ?_); refine runO hC tabOk 60 ?_; simp [go_sem])
      refine call hC [] (by kernel_rfl) rfl rfl rfl rfl rfl fun m2 g2 p2 e2 => ⟨_, ih t.l[i] (by simp) hx _ htx.to, fun v2 u2 q2 s2 hv2 => ?_⟩
      subst hv2
      refine runO hC tabOk 60 ?_
      simp [go_sem]
      repeat ((first | refine condT rfl ?_ | refine condF rfl ?_ | refine skD hC rfl rfl rfl ?_); refine runO hC tabOk 60 ?_; simp [go_sem])
      have hsz : IntKind.i64.wrap (IntKind.i64.wrap (1 + ↑(T.sizes (List.take i t.l))) + IntKind.i64.wrap ↑t.l[i].size) = IntKind.i64.wrap (1 + ↑(T.sizes (List.take (i + 1) t.l))) := by
        rw [wrap_add, sizes_take _ _ h1]
        congr 1
        push_cast
        omega
      refine again (fun _ => 1) fun m8 g8 p8 e8 => ⟨(i + 1, g8), ?_, ?_, rfl, ⟨by simp [go_sem], by simp [go_sem, ea, wrap_inc (show i + 1 ≤ 9223372036854775807 by omega), hsz], rfl, bxs_ok (n := 1) (Nat.le_refl _) (by simp [go_sem, ea, wrap_inc (show i + 1 ≤ 9223372036854775807 by omega), hsz]), by simp [go_sem], ⟨_, rfl⟩⟩, by simp [go_sem]⟩
      · exact ⟨h1, hk.then (by simp)⟩
      · dsimp only; omega
    · simp at h1
      refine runO hC tabOk 60 ?_
      simp [go_sem]
      repeat ((first | refine condT rfl ?_ | refine condF rfl ?_ | refine skD hC rfl rfl rfl ?_); refine runO hC tabOk 60 ?_; simp [go_sem])
      refine ret hC tabOk (fun _ => 1) rfl rfl fun m gf hl ex => ?_
      have : i = t.l.length := by omega
      subst this
      rw [List.take_length]
      obtain ⟨k0, s0, n0, l0⟩ := t
      show _ = Value.int .i64 (IntKind.i64.wrap ((1 + T.sizes l0 : Nat) : Int))
      push_cast
      rfl

theorem large29 (t : T) (n : Int) (h : Hd) (g : G) (k : TOk g t h) : Ok Tryz.prog 29 [tv t h, .int .i64 n] g [] (fun v _ => v = .bool (decide (n < IntKind.i64.wrap t.size))) := by
  refine fbegin Tryz.func29 rfl Tryz.ntmps29 (Nat.le_of_ble_eq_true rfl) fun C hw hC => ?_
  refine runO hC tabOk 60 ?_
  simp [go_sem]
  repeat ((first | refine condT rfl ?_ | refine condF rfl ?_ | refine skD hC rfl rfl rfl ?_); refine runO hC tabOk 60 ?_; simp [go_sem])
  refine call hC [] (by kernel_rfl) rfl rfl rfl rfl rfl fun m1 g1 p1 e1 => ⟨_, size116 t h _ k.to, fun v1 u1 q1 s1 hv1 => ?_⟩
  subst hv1
  refine runO hC tabOk 60 ?_
  simp [go_sem]
  repeat ((first | refine condT rfl ?_ | refine condF rfl ?_ | refine skD hC rfl rfl rfl ?_); refine runO hC tabOk 60 ?_; simp [go_sem])
  refine ret hC tabOk (fun _ => 1) rfl rfl fun m gf hl ex => ?_
  rfl

/-- Is a text a name? -/
def nameS (s : ByteArray) : Bool := s.data.toList.all (fun b => nameB b.toNat) && decide (1 ≤ s.size) && decide (s.size ≤ 40)

theorem bget (s : ByteArray) (i : Nat) (h : i < s.size) : s.data.toList[i]? = some s[i] := by
  rw [Array.getElem?_toList]
  exact Array.getElem?_eq_getElem h

theorem btake (s : ByteArray) (i : Nat) (h : i < s.size) : s.data.toList.take (i + 1) = s.data.toList.take i ++ [s[i]] := by
  have hl : i < s.data.toList.length := by simpa using h
  rw [List.take_succ_eq_append_getElem hl]
  congr 2

theorem blen (s : ByteArray) : s.data.toList.length = s.size := by simp

theorem name36 (s : ByteArray) (g : G) (hs : s.size ≤ maxLen) : Ok Tryz.prog 36 [.string s] g [] (fun v _ => v = .bool (nameS s)) := by
  have hs' : s.size ≤ 9223372036854775807 := hs
  refine fbegin Tryz.func36 rfl Tryz.ntmps36 (Nat.le_of_ble_eq_true rfl) fun C hw hC => ?_
  refine runO hC tabOk 60 ?_
  simp [go_sem]
  repeat ((first | refine condT rfl ?_ | refine condF rfl ?_ | refine skD hC rfl rfl rfl ?_); refine runO hC tabOk 60 ?_; simp [go_sem])
  refine small (fun _ => 1) rfl fun m0 gL p0 e0 => ⟨⟨(fun (x : Nat × G) => [(7, .c (.v (.int .i64 x.1))), (6, .c (.v (.int .i64 s.size))), (0, .c (.v (.string s))), (3, .c (.fn (.func 127) [] []))]) ((0, gL)), [], (fun _ => []) ((0, gL)), [], 0⟩, ⟨by simp [go_sem], by simp [go_sem], rfl, by simp [go_sem], by simp [go_sem], ⟨_, rfl⟩⟩, by simp, ?_⟩
  refine loop (ι := Nat × G) (fun x => x.1 ≤ s.size ∧ (∀ b, b ∈ s.data.toList.take x.1 → nameB b.toNat = true) ∧ Keeps [1] g x.2) (fun x => x.2)
    (fun x => ⟨(fun (x : Nat × G) => [(7, .c (.v (.int .i64 x.1))), (6, .c (.v (.int .i64 s.size))), (0, .c (.v (.string s))), (3, .c (.fn (.func 127) [] []))]) x, [], (fun _ => []) x, [], 0⟩) (fun x => s.size - x.1) (fun ⟨i, g'⟩ ⟨hi, hc, hk⟩ => ?_) ((0, gL)) (⟨Nat.zero_le _, by simp, p0.ks⟩)
  dsimp only at hi hc hk ⊢
  haveI : Later g g' := .of hk (by simp)
  refine runO hC tabOk 60 ?_
  simp [go_sem]
  repeat ((first | refine condT rfl ?_ | refine condF rfl ?_ | refine skD hC rfl rfl rfl ?_); refine runO hC tabOk 60 ?_; simp [go_sem])
  refine sg_cond rfl (fun h1 => ?_) (fun h1 => ?_)
  · simp at h1
    refine runO hC tabOk 60 ?_
    simp [go_sem]
    repeat ((first | refine condT rfl ?_ | refine condF rfl ?_ | refine skD hC rfl rfl rfl ?_); refine runO hC tabOk 60 ?_; simp [go_sem])
    refine vo hC (vo_byte hC tabOk rfl rfl rfl rfl rfl h1) rfl rfl rfl ?_
    refine runO hC tabOk 60 ?_
    simp [go_sem]
    repeat ((first | refine condT rfl ?_ | refine condF rfl ?_ | refine skD hC rfl rfl rfl ?_); refine runO hC tabOk 60 ?_; simp [go_sem])
    refine callv hC [] 1 rfl rfl rfl rfl (by kernel_rfl) rfl rfl rfl rfl fun m2 g2 w2 p2 e2 => ⟨_, nb127 _ _ (by omega) (by have := s[i].toNat_lt; omega), fun v2 j2 u2 q2 s2 hv2 r2 => ?_⟩
    subst hv2
    refine runO hC tabOk 60 ?_
    simp [go_sem]
    repeat ((first | refine condT rfl ?_ | refine condF rfl ?_ | refine skD hC rfl rfl rfl ?_); refine runO hC tabOk 60 ?_; simp [go_sem])
    refine sg_cond rfl (fun h3 => ?_) (fun h3 => ?_)
    · simp at h3
      refine runO hC tabOk 60 ?_
      simp [go_sem]
      repeat ((first | refine condT rfl ?_ | refine condF rfl ?_ | refine skD hC rfl rfl rfl ?_); refine runO hC tabOk 60 ?_; simp [go_sem])
      refine ret hC tabOk (fun _ => 1) rfl rfl fun m gf hl ex => ?_
      have : nameS s = false := by
        unfold nameS
        rw [Bool.and_eq_false_iff, Bool.and_eq_false_iff]
        refine .inl (.inl ?_)
        rw [List.all_eq_false]
        exact ⟨s[i], List.mem_of_getElem? (bget s i h1), by simp [h3]⟩
      rw [this]; rfl
    · simp at h3
      refine runO hC tabOk 60 ?_
      simp [go_sem]
      repeat ((first | refine condT rfl ?_ | refine condF rfl ?_ | refine skD hC rfl rfl rfl ?_); refine runO hC tabOk 60 ?_; simp [go_sem])
      refine again (fun _ => 1) fun m8 g8 p8 e8 => ⟨(i + 1, g8), ?_, ?_, rfl, ⟨by simp [go_sem], by simp [go_sem, wrap_inc (show i + 1 ≤ 9223372036854775807 by omega)], rfl, by simp [go_sem], by simp [go_sem], ⟨_, rfl⟩⟩, by simp [go_sem]⟩
      · refine ⟨h1, fun b hb => ?_, hk.then (by simp)⟩
        dsimp only at hb
        rw [btake s i h1, List.mem_append] at hb
        rcases hb with hb | hb
        · exact hc b hb
        · obtain rfl := List.mem_singleton.1 hb
          exact h3
      · dsimp only; omega
  · simp at h1
    have hall : s.data.toList.all (fun b => nameB b.toNat) = true := by
      rw [List.all_eq_true]
      intro b hb
      refine hc b ?_
      rw [List.take_of_length_le (by rw [blen]; exact h1)]
      exact hb
    refine runO hC tabOk 60 ?_
    simp [go_sem]
    repeat ((first | refine condT rfl ?_ | refine condF rfl ?_ | refine skD hC rfl rfl rfl ?_); refine runO hC tabOk 60 ?_; simp [go_sem])
    refine ret hC tabOk (fun _ => 1) rfl rfl fun m gf hl ex => ?_
    unfold nameS
    rw [hall]
    simp [retv, SV.val, SC.val, vals]
    rw [decide_eq_decide.2 (show (1 : Int) ≤ s.size ↔ 1 ≤ s.size by omega), decide_eq_decide.2 (show (s.size : Int) ≤ 40 ↔ s.size ≤ 40 by omega)]

theorem name239 (s : ByteArray) (g : G) (hs : s.size ≤ maxLen) : Ok Tryz.prog 239 [.string s] g [] (fun v _ => v = .bool (nameS s)) := by
  have hs' : s.size ≤ 9223372036854775807 := hs
  refine fbegin Tryz.func239 rfl Tryz.ntmps239 (Nat.le_of_ble_eq_true rfl) fun C hw hC => ?_
  refine runO hC tabOk 60 ?_
  simp [go_sem]
  repeat ((first | refine condT rfl ?_ | refine condF rfl ?_ | refine skD hC rfl rfl rfl ?_); refine runO hC tabOk 60 ?_; simp [go_sem])
  refine small (fun _ => 1) rfl fun m0 gL p0 e0 => ⟨⟨(fun (x : Nat × G) => [(3, .c (.v (.int .i64 x.1))), (0, .c (.v (.string s)))]) ((0, gL)), [], (fun _ => []) ((0, gL)), [], 0⟩, ⟨by simp [go_sem], by simp [go_sem], rfl, by simp [go_sem], by simp [go_sem], ⟨_, rfl⟩⟩, by simp, ?_⟩
  refine loop (ι := Nat × G) (fun x => x.1 ≤ s.size ∧ (∀ b, b ∈ s.data.toList.take x.1 → nameB b.toNat = true) ∧ Keeps [1] g x.2) (fun x => x.2)
    (fun x => ⟨(fun (x : Nat × G) => [(3, .c (.v (.int .i64 x.1))), (0, .c (.v (.string s)))]) x, [], (fun _ => []) x, [], 0⟩) (fun x => s.size - x.1) (fun ⟨i, g'⟩ ⟨hi, hc, hk⟩ => ?_) ((0, gL)) (⟨Nat.zero_le _, by simp, p0.ks⟩)
  dsimp only at hi hc hk ⊢
  haveI : Later g g' := .of hk (by simp)
  refine runO hC tabOk 60 ?_
  simp [go_sem]
  repeat ((first | refine condT rfl ?_ | refine condF rfl ?_ | refine skD hC rfl rfl rfl ?_); refine runO hC tabOk 60 ?_; simp [go_sem])
  refine sg_cond rfl (fun h1 => ?_) (fun h1 => ?_)
  · simp at h1
    refine runO hC tabOk 60 ?_
    simp [go_sem]
    repeat ((first | refine condT rfl ?_ | refine condF rfl ?_ | refine skD hC rfl rfl rfl ?_); refine runO hC tabOk 60 ?_; simp [go_sem])
    refine vo hC (vo_byte hC tabOk rfl rfl rfl rfl rfl h1) rfl rfl rfl ?_
    refine runO hC tabOk 60 ?_
    simp [go_sem]
    repeat ((first | refine condT rfl ?_ | refine condF rfl ?_ | refine skD hC rfl rfl rfl ?_); refine runO hC tabOk 60 ?_; simp [go_sem])
    refine sg_cond rfl (fun h3 => ?_) (fun h3 => ?_)
    · have h3 : nameB s[i].toNat = false := by
        simp at h3
        cases hq : nameB s[i].toNat with
        | false => rfl
        | true => exfalso; simp [nameB] at hq; omega
      refine runO hC tabOk 60 ?_
      simp [go_sem]
      repeat ((first | refine condT rfl ?_ | refine condF rfl ?_ | refine skD hC rfl rfl rfl ?_); refine runO hC tabOk 60 ?_; simp [go_sem])
      refine ret hC tabOk (fun _ => 1) rfl rfl fun m gf hl ex => ?_
      have : nameS s = false := by
        unfold nameS
        rw [Bool.and_eq_false_iff, Bool.and_eq_false_iff]
        refine .inl (.inl ?_)
        rw [List.all_eq_false]
        exact ⟨s[i], List.mem_of_getElem? (bget s i h1), by simp [h3]⟩
      rw [this]; rfl
    · have h3 : nameB s[i].toNat = true := by
        simp at h3
        cases hq : nameB s[i].toNat with
        | true => rfl
        | false => exfalso; simp [nameB] at hq; omega
      refine runO hC tabOk 60 ?_
      simp [go_sem]
      repeat ((first | refine condT rfl ?_ | refine condF rfl ?_ | refine skD hC rfl rfl rfl ?_); refine runO hC tabOk 60 ?_; simp [go_sem])
      refine again (fun _ => 1) fun m8 g8 p8 e8 => ⟨(i + 1, g8), ?_, ?_, rfl, ⟨by simp [go_sem], by simp [go_sem, wrap_inc (show i + 1 ≤ 9223372036854775807 by omega)], rfl, by simp [go_sem], by simp [go_sem], ⟨_, rfl⟩⟩, by simp [go_sem]⟩
      · refine ⟨h1, fun b hb => ?_, hk.then (by simp)⟩
        dsimp only at hb
        rw [btake s i h1, List.mem_append] at hb
        rcases hb with hb | hb
        · exact hc b hb
        · obtain rfl := List.mem_singleton.1 hb
          exact h3
      · dsimp only; omega
  · simp at h1
    have hall : s.data.toList.all (fun b => nameB b.toNat) = true := by
      rw [List.all_eq_true]
      intro b hb
      refine hc b ?_
      rw [List.take_of_length_le (by rw [blen]; exact h1)]
      exact hb
    refine runO hC tabOk 60 ?_
    simp [go_sem]
    repeat ((first | refine condT rfl ?_ | refine condF rfl ?_ | refine skD hC rfl rfl rfl ?_); refine runO hC tabOk 60 ?_; simp [go_sem])
    refine ret hC tabOk (fun _ => 1) rfl rfl fun m gf hl ex => ?_
    unfold nameS
    rw [hall]
    simp [retv, SV.val, SC.val, vals]
    rw [decide_eq_decide.2 (show (1 : Int) ≤ s.size ↔ 1 ≤ s.size by omega), decide_eq_decide.2 (show (s.size : Int) ≤ 40 ↔ s.size ≤ 40 by omega)]
end Go.Proofs.YtobhfopgoidniaaGreat
