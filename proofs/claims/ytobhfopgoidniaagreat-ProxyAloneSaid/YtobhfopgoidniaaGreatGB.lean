/- Containers: what may be, their words. Containers: made; read, word by word. Terms: shape, valid. -/
import Derived.Test.YtobhfopgoidniaaGreatGA
import Derived.Test.YtobhfopgoidniaaGreatED
set_option linter.all false
set_option linter.unusedVariables false
set_option linter.unusedSimpArgs false

/- Containers: what may be, their words. -/
namespace Go.Proofs.YtobhfopgoidniaaGreat
open Go Go.Eng

theorem clone158e (g : G) : Ok Tryz.prog 158 [.slice none 0 0] g [] (fun v _ => v = .slice none 0 0) := by
  refine fbegin Tryz.func158 rfl Tryz.ntmps158 (Nat.le_of_ble_eq_true rfl) fun C hw hC => ?_
  refine runO hC tabOk 60 ?_
  simp [go_sem]
  repeat ((first | refine condT rfl ?_ | refine condF rfl ?_ | refine skD hC rfl rfl rfl ?_); refine runO hC tabOk 60 ?_; simp [go_sem])
  refine vo hC (vo_bin hC rfl rfl rfl (run_slnil Tryz.prog Tryz.underlying23 _ _ _ _ _)) rfl rfl rfl ?_
  refine runO hC tabOk 60 ?_
  simp [go_sem]
  repeat ((first | refine condT rfl ?_ | refine condF rfl ?_ | refine skD hC rfl rfl rfl ?_); refine runO hC tabOk 60 ?_; simp [go_sem])
  refine ret hC tabOk (fun _ => 1) rfl rfl fun m gf hl ex => ?_
  simp [retv, SV.val, SC.val, vals]

theorem list56e (g : G) : Ok Tryz.prog 56 [.slice none 0 0] g [] (fun v _ => v = tv (listT []) ⟨none, 0⟩) := by
  refine fbegin Tryz.func56 rfl Tryz.ntmps56 (Nat.le_of_ble_eq_true rfl) fun C hw hC => ?_
  refine runO hC tabOk 60 ?_
  simp [go_sem]
  repeat ((first | refine condT rfl ?_ | refine condF rfl ?_ | refine skD hC rfl rfl rfl ?_); refine runO hC tabOk 60 ?_; simp [go_sem])
  refine call hC [] (by kernel_rfl) rfl rfl rfl rfl rfl fun m1 g1 p1 e1 => ⟨_, clone158e _, fun v1 u1 q1 s1 hv1 => ?_⟩
  subst hv1
  refine runO hC tabOk 60 ?_
  simp [go_sem]
  repeat ((first | refine condT rfl ?_ | refine condF rfl ?_ | refine skD hC rfl rfl rfl ?_); refine runO hC tabOk 60 ?_; simp [go_sem])
  refine ret hC tabOk (fun _ => 1) rfl rfl fun m gf hl ex => ?_
  rfl

theorem row290 (l : List ByteArray) (h : Hd) (g : G) (k : StrsOk g 0 l h) (hn : l.length ≤ 2199023255552) : Ok Tryz.prog 290 [.slice h.a l.length h.cap] g [] (fun v g' => TQ (listT (l.map ofT)) v g') := by
  refine fbegin Tryz.func290 rfl Tryz.ntmps290 (Nat.le_of_ble_eq_true rfl) fun C hw hC => ?_
  refine runO hC tabOk 60 ?_
  simp [go_sem]
  repeat ((first | refine condT rfl ?_ | refine condF rfl ?_ | refine skD hC rfl rfl rfl ?_); refine runO hC tabOk 60 ?_; simp [go_sem])
  refine call hC [] (by kernel_rfl) rfl rfl rfl rfl rfl fun m1 g1 p1 e1 => ⟨_, list56e _, fun v1 u1 q1 s1 hv1 => ?_⟩
  subst hv1
  refine runO hC tabOk 60 ?_
  simp [go_sem]
  repeat ((first | refine condT rfl ?_ | refine condF rfl ?_ | refine skD hC rfl rfl rfl ?_); refine runO hC tabOk 60 ?_; simp [go_sem])
  refine small (fun _ => 1) rfl fun m0 gL p0 e0 => ⟨⟨(fun (x : Nat × Option Addr × Nat × G) => [(9, .c (.v (.int .i64 x.1))), (8, .c (.v (.int .i64 l.length))), (7, .c (.v (.slice h.a l.length h.cap))), (2, .c (.bp 0 0)), (3, .c (.bp 1 0))]) ((0, none, 0, gL)), [], (fun (x : Nat × Option Addr × Nat × G) => [(0, ⟨25, [.v (.int .i64 0), .v (.string .empty), .v (.int .i64 0), .v (.slice none 0 0)], false⟩), (1, ⟨25, [.v (.int .i64 3), .v (.string .empty), .v (.int .i64 0), .v (.slice x.2.1 x.1 x.2.2.1)], false⟩)]) ((0, none, 0, gL)), [], 2⟩, ⟨by simp [go_sem], by simp [go_sem], rfl, bxs_ok (n := 2) (Nat.le_refl _) (by simp [go_sem]), by simp [go_sem], ⟨_, rfl⟩⟩, by simp, ?_⟩
  refine loop (ι := Nat × Option Addr × Nat × G) (fun x => x.1 ≤ l.length ∧ OwnRow x.2.2.2 g.w.heap.size 99 25 4 (.slice x.2.1 x.1 x.2.2.1) x.1 (rowc (leafs ofT (l.take x.1))) ∧ Keeps [1, 99] g x.2.2.2) (fun x => x.2.2.2)
    (fun x => ⟨(fun (x : Nat × Option Addr × Nat × G) => [(9, .c (.v (.int .i64 x.1))), (8, .c (.v (.int .i64 l.length))), (7, .c (.v (.slice h.a l.length h.cap))), (2, .c (.bp 0 0)), (3, .c (.bp 1 0))]) x, [], (fun (x : Nat × Option Addr × Nat × G) => [(0, ⟨25, [.v (.int .i64 0), .v (.string .empty), .v (.int .i64 0), .v (.slice none 0 0)], false⟩), (1, ⟨25, [.v (.int .i64 3), .v (.string .empty), .v (.int .i64 0), .v (.slice x.2.1 x.1 x.2.2.1)], false⟩)]) x, [], 2⟩) (fun x => l.length - x.1) (fun ⟨i, a, cap, g'⟩ ⟨hi, hrow, hk⟩ => ?_) ((0, none, 0, gL)) (⟨Nat.zero_le _, ⟨rfl, .inl ⟨_, rfl, rfl⟩⟩, Keeps.mono (Kp.ks (g := g) (g' := gL)) (by simp)⟩)
  dsimp only at hi hrow hk ⊢
  haveI : Later g g' := .of hk (by first | (simp; done) | (simp; omega))
  refine runO hC tabOk 60 ?_
  simp [go_sem]
  repeat ((first | refine condT rfl ?_ | refine condF rfl ?_ | refine skD hC rfl rfl rfl ?_); refine runO hC tabOk 60 ?_; simp [go_sem])
  refine sg_cond rfl (fun h1 => ?_) (fun h1 => ?_)
  · simp at h1
    obtain ⟨b2, off, ea, hcs⟩ := (k.to (g' := g')).one.row.get (List.getElem?_eq_getElem h1)
    have hsz : l[i].size ≤ maxLen := k.str _ (by simp)
    rw [ea]
    refine runO hC tabOk 60 ?_
    simp [go_sem]
    repeat ((first | refine condT rfl ?_ | refine condF rfl ?_ | refine skD hC rfl rfl rfl ?_); refine runO hC tabOk 60 ?_; simp [go_sem])
    refine vo hC (vo_index hC tabOk rfl rfl rfl rfl rfl rfl (by omega) (by omega)) rfl rfl rfl ?_
    refine runO hC tabOk 60 ?_
    simp [go_sem]
    repeat ((first | refine condT rfl ?_ | refine condF rfl ?_ | refine skD hC rfl rfl rfl ?_); refine runO hC tabOk 60 ?_; simp [go_sem])
    refine vo hC (vo_load1 hC tabOk hcs rfl rfl rfl rfl) rfl rfl rfl ?_
    refine runO hC tabOk 60 ?_
    simp [go_sem]
    repeat ((first | refine condT rfl ?_ | refine condF rfl ?_ | refine skD hC rfl rfl rfl ?_); refine runO hC tabOk 60 ?_; simp [go_sem])
    refine draw hC [(0, 0), (1, 0), (2, 0), (3, 1), (4, 1)] [5, 6, 7] mix (by kernel_rfl) ?_
    refine runO hC tabOk 60 ?_
    simp [go_sem]
    repeat ((first | refine condT rfl ?_ | refine condF rfl ?_ | refine skD hC rfl rfl rfl ?_); refine runO hC tabOk 60 ?_; simp [go_sem])
    refine callD hC [] (by kernel_rfl) rfl rfl rfl rfl rfl rfl rfl rfl fun m2 g2 p2 e2 => ⟨_, of118 l[i] _, fun v2 u2 q2 s2 hv2 => ?_⟩
    subst hv2
    refine runO hC tabOk 60 ?_
    simp [go_sem]
    repeat ((first | refine condT rfl ?_ | refine condF rfl ?_ | refine skD hC rfl rfl rfl ?_); refine runO hC tabOk 60 ?_; simp [go_sem])
    refine app hC 99 g.w.heap.size 56 tabOk rfl (.inr rfl) rfl rfl rfl rfl rfl rfl (by kernel_rfl) rfl rfl rfl fun m5 g5 p5 e5 => ?_
    refine ⟨i, _, 1, tc (ofT l[i]) ⟨none, 0⟩, some ⟨m5.getD 2 0, 0, none⟩, 1, hrow.ks Kp.ks (by first | (simp; done) | (simp; omega)), rfl, Cs.rd (e5.frz (i := 2) rfl rfl rfl), rfl, by have := rowc_one [(ofT l[i], ⟨none, 0⟩)]; simpa [rowc] using this, by simp [maxLen]; omega, by omega, fun v g6 g7 p6 p7 hv => ?_⟩
    rw [← leafs_take ofT l i h1] at hv
    obtain ⟨a', cap', rfl, _⟩ := hv.cs
    refine runO hC tabOk 60 ?_
    simp [go_sem]
    repeat ((first | refine condT rfl ?_ | refine condF rfl ?_ | refine skD hC rfl rfl rfl ?_); refine runO hC tabOk 60 ?_; simp [go_sem])
    refine again (fun _ => 1) fun m8 g8 p8 e8 => ⟨(i + 1, a', cap', g8), ?_, ?_, rfl, ⟨by simp [go_sem], by simp [go_sem, ea, wrap_inc (show i + 1 ≤ 9223372036854775807 by omega)], rfl, bxs_ok (n := 2) (Nat.le_refl _) (by simp [go_sem, ea, wrap_inc (show i + 1 ≤ 9223372036854775807 by omega)]), by simp [go_sem], ⟨_, rfl⟩⟩, by simp [go_sem]⟩
    · exact ⟨h1, hv.ks Kp.ks (by first | (simp; done) | (simp; omega)), hk.then (by simp)⟩
    · dsimp only; omega
  · simp at h1
    have hil : i = l.length := by omega
    subst hil
    refine runO hC tabOk 60 ?_
    simp [go_sem]
    repeat ((first | refine condT rfl ?_ | refine condF rfl ?_ | refine skD hC rfl rfl rfl ?_); refine runO hC tabOk 60 ?_; simp [go_sem])
    refine relab hC 99 0 rfl rfl fun gr pr hwr hor => ?_
    obtain ⟨h', e2, hk'⟩ := LOk.of (leafs ofT (l.take l.length)) ((hrow.ks (g' := g') Kp.ks (by first | (simp; done) | (simp; omega))).give hwr hor) (by simp [leafs]) (fun p hp => by obtain ⟨s, hs, rfl⟩ := List.mem_map.1 hp; exact tok_leaf _ _ _ _ (k.str s (List.mem_of_mem_take hs)))
    rw [leafs_map, List.take_length] at hk'
    obtain ⟨rfl, _, rfl⟩ := Value.slice.inj e2
    refine runO hC tabOk 60 ?_
    simp [go_sem]
    repeat ((first | refine condT rfl ?_ | refine condF rfl ?_ | refine skD hC rfl rfl rfl ?_); refine runO hC tabOk 60 ?_; simp [go_sem])
    refine ret hC tabOk (fun _ => 1) rfl rfl fun m gf hl ex => ?_
    have hk2 := hk'.to (g' := gf)
    refine ⟨h', ?_, hk2.row, hk2.len, hk2.cap, Nat.zero_le _⟩
    simp [retv, SV.val, SC.val, vals, tv, tc, T.k, T.s, T.n, T.l]

theorem bit291 (b : Bool) (g : G) : Ok Tryz.prog 291 [.bool b] g [] (fun v _ => v = .int .i64 (if b then 1 else 0)) := by
  cases b
  · refine fbegin Tryz.func291 rfl Tryz.ntmps291 (Nat.le_of_ble_eq_true rfl) fun C hw hC => ?_
    refine runO hC tabOk 60 ?_
    simp [go_sem]
    repeat ((first | refine condT rfl ?_ | refine condF rfl ?_ | refine skD hC rfl rfl rfl ?_); refine runO hC tabOk 60 ?_; simp [go_sem])
    refine ret hC tabOk (fun _ => 1) rfl rfl fun m gf hl ex => ?_
    rfl
  · refine fbegin Tryz.func291 rfl Tryz.ntmps291 (Nat.le_of_ble_eq_true rfl) fun C hw hC => ?_
    refine runO hC tabOk 60 ?_
    simp [go_sem]
    repeat ((first | refine condT rfl ?_ | refine condF rfl ?_ | refine skD hC rfl rfl rfl ?_); refine runO hC tabOk 60 ?_; simp [go_sem])
    refine ret hC tabOk (fun _ => 1) rfl rfl fun m gf hl ex => ?_
    rfl

theorem odd288 (s : ByteArray) (g : G) (hs : s.size ≤ maxLen) : Ok Tryz.prog 288 [.string s] g [] (fun v _ => v = .bool (!nameS s)) := by
  refine fbegin Tryz.func288 rfl Tryz.ntmps288 (Nat.le_of_ble_eq_true rfl) fun C hw hC => ?_
  refine runO hC tabOk 60 ?_
  simp [go_sem]
  repeat ((first | refine condT rfl ?_ | refine condF rfl ?_ | refine skD hC rfl rfl rfl ?_); refine runO hC tabOk 60 ?_; simp [go_sem])
  refine call hC [] (by kernel_rfl) rfl rfl rfl rfl rfl fun m1 g1 p1 e1 => ⟨_, name36 s _ hs, fun v1 u1 q1 s1 hv1 => ?_⟩
  subst hv1
  refine runO hC tabOk 60 ?_
  simp [go_sem]
  repeat ((first | refine condT rfl ?_ | refine condF rfl ?_ | refine skD hC rfl rfl rfl ?_); refine runO hC tabOk 60 ?_; simp [go_sem])
  refine ret hC tabOk (fun _ => 1) rfl rfl fun m gf hl ex => ?_
  simp [retv, SV.val, SC.val, vals]

def AllN (l : List ByteArray) (i : Nat) : Prop := (l.take i).all nameS = true
theorem AllN.zero (l : List ByteArray) : AllN l 0 := rfl
theorem AllN.succ {l : List ByteArray} {i : Nat} (h : AllN l i) (hi : i < l.length) (hn : nameS l[i] = true) : AllN l (i + 1) := by
  unfold AllN at *
  rw [List.take_succ_eq_append_getElem hi, List.all_append, h]
  simp [hn]

theorem idx299 (l : List ByteArray) (h : Hd) (g : G) (k : StrsOk g 0 l h) : Ok Tryz.prog 299 [.slice h.a l.length h.cap, .func (.func 288) #[] #[]] g [] (fun v _ => ∃ i : Int, v = .int .i64 i ∧ decide (0 ≤ i) = !(l.all nameS)) := by
  have hl : l.length ≤ 9223372036854775807 := Nat.le_trans k.one.len k.one.cap
  refine fbegin Tryz.func299 rfl Tryz.ntmps299 (Nat.le_of_ble_eq_true rfl) fun C hw hC => ?_
  refine runO hC tabOk 60 ?_
  simp [go_sem]
  repeat ((first | refine condT rfl ?_ | refine condF rfl ?_ | refine skD hC rfl rfl rfl ?_); refine runO hC tabOk 60 ?_; simp [go_sem])
  refine small (fun _ => 1) rfl fun m0 gL p0 e0 => ⟨⟨(fun (x : Nat × G) => [(8, .c (.v (.int .i64 x.1))), (7, .c (.v (.int .i64 l.length))), (0, .c (.v (.slice h.a l.length h.cap))), (1, .c (.v (.func (.func 288) #[] #[])))]) ((0, gL)), [], (fun _ => []) ((0, gL)), [], 0⟩, ⟨by simp [go_sem], by simp [go_sem], rfl, by simp [go_sem], by simp [go_sem], ⟨_, rfl⟩⟩, by simp, ?_⟩
  refine loop (ι := Nat × G) (fun x => x.1 ≤ l.length ∧ AllN l x.1 ∧ Keeps [1] g x.2) (fun x => x.2)
    (fun x => ⟨(fun (x : Nat × G) => [(8, .c (.v (.int .i64 x.1))), (7, .c (.v (.int .i64 l.length))), (0, .c (.v (.slice h.a l.length h.cap))), (1, .c (.v (.func (.func 288) #[] #[])))]) x, [], (fun _ => []) x, [], 0⟩) (fun x => l.length - x.1) (fun ⟨i, g'⟩ ⟨hi, hc, hk⟩ => ?_) ((0, gL)) (⟨Nat.zero_le _, AllN.zero l, p0.ks⟩)
  dsimp only at hi hc hk ⊢
  refine runO hC tabOk 60 ?_
  simp [go_sem]
  repeat ((first | refine condT rfl ?_ | refine condF rfl ?_ | refine skD hC rfl rfl rfl ?_); refine runO hC tabOk 60 ?_; simp [go_sem])
  refine sg_cond rfl (fun h1 => ?_) (fun h1 => ?_)
  · simp at h1
    obtain ⟨b2, off, ea, hcs⟩ := (k.ks hk (by simp)).one.row.get (List.getElem?_eq_getElem h1)
    have hsz : l[i].size ≤ maxLen := k.str _ (by simp)
    rw [ea]
    refine runO hC tabOk 60 ?_
    simp [go_sem]
    repeat ((first | refine condT rfl ?_ | refine condF rfl ?_ | refine skD hC rfl rfl rfl ?_); refine runO hC tabOk 60 ?_; simp [go_sem])
    refine vo hC (vo_index hC tabOk rfl rfl rfl rfl rfl rfl (by omega) (by omega)) rfl rfl rfl ?_
    refine runO hC tabOk 60 ?_
    simp [go_sem]
    repeat ((first | refine condT rfl ?_ | refine condF rfl ?_ | refine skD hC rfl rfl rfl ?_); refine runO hC tabOk 60 ?_; simp [go_sem])
    refine vo hC (vo_load1 hC tabOk hcs rfl rfl rfl rfl) rfl rfl rfl ?_
    refine runO hC tabOk 60 ?_
    simp [go_sem]
    repeat ((first | refine condT rfl ?_ | refine condF rfl ?_ | refine skD hC rfl rfl rfl ?_); refine runO hC tabOk 60 ?_; simp [go_sem])
    refine callv hC [] 1 rfl rfl rfl rfl (by kernel_rfl) rfl rfl rfl rfl fun m5 g5 w5 p5 e5 => ⟨_, odd288 l[i] _ hsz, fun v5 j5 u5 q5 s5 hv5 r5 => ?_⟩
    subst hv5
    cases hn : nameS l[i] with
    | false =>
      refine runO hC tabOk 60 ?_
      simp [go_sem]
      repeat ((first | refine condT rfl ?_ | refine condF rfl ?_ | refine skD hC rfl rfl rfl ?_); refine runO hC tabOk 60 ?_; simp [go_sem])
      refine ret hC tabOk (fun _ => 1) rfl rfl fun m gf hl ex => ?_
      refine ⟨i, rfl, ?_⟩
      have e1 : decide (0 ≤ (i : Int)) = true := by simp
      have e2 : l.all nameS = false := by rw [List.all_eq_false]; exact ⟨l[i], by simp, by simp [hn]⟩
      rw [e1, e2]; rfl
    | true =>
      refine runO hC tabOk 60 ?_
      simp [go_sem]
      repeat ((first | refine condT rfl ?_ | refine condF rfl ?_ | refine skD hC rfl rfl rfl ?_); refine runO hC tabOk 60 ?_; simp [go_sem])
      refine again (fun _ => 1) fun m8 g8 p8 e8 => ⟨(i + 1, g8), ?_, ?_, rfl, ⟨by simp [go_sem], by simp [go_sem, ea, wrap_inc (show i + 1 ≤ 9223372036854775807 by omega)], rfl, by simp [go_sem], by simp [go_sem], ⟨_, rfl⟩⟩, by simp [go_sem]⟩
      · exact ⟨h1, hc.succ h1 hn, hk.then (by simp)⟩
      · dsimp only; omega
  · simp at h1
    refine runO hC tabOk 60 ?_
    simp [go_sem]
    repeat ((first | refine condT rfl ?_ | refine condF rfl ?_ | refine skD hC rfl rfl rfl ?_); refine runO hC tabOk 60 ?_; simp [go_sem])
    refine ret hC tabOk (fun _ => 1) rfl rfl fun m gf hl ex => ?_
    have e : i = l.length := by omega
    subst e
    unfold AllN at hc
    rw [List.take_length] at hc
    refine ⟨-1, rfl, ?_⟩
    rw [hc]; rfl

theorem any289 (l : List ByteArray) (h : Hd) (g : G) (k : StrsOk g 0 l h) : Ok Tryz.prog 289 [.slice h.a l.length h.cap, .func (.func 288) #[] #[]] g [] (fun v _ => v = .bool (!(l.all nameS))) := by
  refine fbegin Tryz.func289 rfl Tryz.ntmps289 (Nat.le_of_ble_eq_true rfl) fun C hw hC => ?_
  refine runO hC tabOk 60 ?_
  simp [go_sem]
  repeat ((first | refine condT rfl ?_ | refine condF rfl ?_ | refine skD hC rfl rfl rfl ?_); refine runO hC tabOk 60 ?_; simp [go_sem])
  refine call hC [] (by kernel_rfl) rfl rfl rfl rfl rfl fun m1 g1 p1 e1 => ⟨_, idx299 l h _ k.to, fun v1 u1 q1 s1 hv1 => ?_⟩
  obtain ⟨i, rfl, hi⟩ := hv1
  refine runO hC tabOk 60 ?_
  simp [go_sem]
  repeat ((first | refine condT rfl ?_ | refine condF rfl ?_ | refine skD hC rfl rfl rfl ?_); refine runO hC tabOk 60 ?_; simp [go_sem])
  refine ret hC tabOk (fun _ => 1) rfl rfl fun m gf hl ex => ?_
  simp [retv, SV.val, SC.val, vals]
  simpa using hi

def auOk (a : Au) : Bool := nameS a.user && nameS a.svc && a.tr.all nameS && decide (a.gr.length ≤ 20) && decide (a.tr.length ≤ 8) && (decide (a.org = 0) || decide (a.org = 1)) && decide (0 ≤ a.till) && decide (a.till ≤ 1099511627776)

theorem dlen (n k : Nat) : decide ((n : Int) ≤ (k : Int)) = decide (n ≤ k) := by
  rw [decide_eq_decide]; omega

theorem avalid257 (a : Au) (h : AH) (g : G) (k : AuOk g a h) : Ok Tryz.prog 257 [auv a h] g [] (fun v _ => v = .bool (auOk a)) := by
  refine fbegin Tryz.func257 rfl Tryz.ntmps257 (Nat.le_of_ble_eq_true rfl) fun C hw hC => ?_
  refine runO hC tabOk 60 ?_
  simp [go_sem]
  repeat ((first | refine condT rfl ?_ | refine condF rfl ?_ | refine skD hC rfl rfl rfl ?_); refine runO hC tabOk 60 ?_; simp [go_sem])
  refine callv hC [] 1 rfl rfl rfl rfl (by kernel_rfl) rfl rfl rfl rfl fun m1 g1 w1 p1 e1 => ⟨_, odd288 a.user _ k.us, fun v1 j1 u1 q1 s1 hv1 r1 => ?_⟩
  subst hv1
  cases h1 : nameS a.user with
  | false =>
    refine runO hC tabOk 60 ?_
    simp [go_sem]
    repeat ((first | refine condT rfl ?_ | refine condF rfl ?_ | refine skD hC rfl rfl rfl ?_); refine runO hC tabOk 60 ?_; simp [go_sem])
    refine ret hC tabOk (fun _ => 1) rfl rfl fun m gf hl ex => ?_
    simp [retv, SV.val, SC.val, vals, auOk, h1]
  | true =>
  refine runO hC tabOk 60 ?_
  simp [go_sem]
  repeat ((first | refine condT rfl ?_ | refine condF rfl ?_ | refine skD hC rfl rfl rfl ?_); refine runO hC tabOk 60 ?_; simp [go_sem])
  refine callv hC [] 1 rfl rfl rfl rfl (by kernel_rfl) rfl rfl rfl rfl fun m2 g2 w2 p2 e2 => ⟨_, odd288 a.svc _ k.sv, fun v2 j2 u2 q2 s2 hv2 r2 => ?_⟩
  subst hv2
  cases h2 : nameS a.svc with
  | false =>
    refine runO hC tabOk 60 ?_
    simp [go_sem]
    repeat ((first | refine condT rfl ?_ | refine condF rfl ?_ | refine skD hC rfl rfl rfl ?_); refine runO hC tabOk 60 ?_; simp [go_sem])
    refine ret hC tabOk (fun _ => 1) rfl rfl fun m gf hl ex => ?_
    simp [retv, SV.val, SC.val, vals, auOk, h1, h2]
  | true =>
  refine runO hC tabOk 60 ?_
  simp [go_sem]
  repeat ((first | refine condT rfl ?_ | refine condF rfl ?_ | refine skD hC rfl rfl rfl ?_); refine runO hC tabOk 60 ?_; simp [go_sem])
  refine call hC [] (by kernel_rfl) rfl rfl rfl rfl rfl fun m3 g3 p3 e3 => ⟨_, any289 a.tr h.tr _ k.tr.to, fun v3 u3 q3 s3 hv3 => ?_⟩
  subst hv3
  cases h3 : a.tr.all nameS with
  | false =>
    refine runO hC tabOk 60 ?_
    simp [go_sem]
    repeat ((first | refine condT rfl ?_ | refine condF rfl ?_ | refine skD hC rfl rfl rfl ?_); refine runO hC tabOk 60 ?_; simp [go_sem])
    refine ret hC tabOk (fun _ => 1) rfl rfl fun m gf hl ex => ?_
    simp [retv, SV.val, SC.val, vals, auOk, h1, h2, h3]
  | true =>
  refine runO hC tabOk 60 ?_
  simp [go_sem]
  repeat ((first | refine condT rfl ?_ | refine condF rfl ?_ | refine skD hC rfl rfl rfl ?_); refine runO hC tabOk 60 ?_; simp [go_sem])
  refine ret hC tabOk (fun _ => 1) rfl rfl fun m gf hl ex => ?_
  simp [retv, SV.val, SC.val, vals, auOk, h1, h2, h3]
  have e1 : decide ((a.gr.length : Int) ≤ 20) = decide (a.gr.length ≤ 20) := dlen _ 20
  have e2 : decide ((a.tr.length : Int) ≤ 8) = decide (a.tr.length ≤ 8) := dlen _ 8
  simp [e1, e2]

/-- A container's words. -/
def dataT (a : Au) : T := listT [ofT a.user, listT (a.gr.map numT), numT a.org, listT (a.tr.map ofT), ofT a.svc, numT (if a.fwd then 1 else 0), numT a.till]

theorem data258 (a : Au) (h : AH) (g : G) (k : AuOk g a h) (h1 : a.gr.length ≤ 2199023255552) (h2 : a.tr.length ≤ 2199023255552) : Ok Tryz.prog 258 [auv a h] g [] (fun v g' => TQ (dataT a) v g') := by
  refine fbegin Tryz.func258 rfl Tryz.ntmps258 (Nat.le_of_ble_eq_true rfl) fun C hw hC => ?_
  refine runO hC tabOk 60 ?_
  simp [go_sem]
  repeat ((first | refine condT rfl ?_ | refine condF rfl ?_ | refine skD hC rfl rfl rfl ?_); refine runO hC tabOk 60 ?_; simp [go_sem])
  refine call hC [] (by kernel_rfl) rfl rfl rfl rfl rfl fun m1 g1 p1 e1 => ⟨_, list56e _, fun v1 u1 q1 s1 hv1 => ?_⟩
  subst hv1
  refine runO hC tabOk 60 ?_
  simp [go_sem]
  repeat ((first | refine condT rfl ?_ | refine condF rfl ?_ | refine skD hC rfl rfl rfl ?_); refine runO hC tabOk 60 ?_; simp [go_sem])
  refine small (fun _ => 1) rfl fun m0 gL p0 e0 => ⟨⟨(fun (x : Nat × Option Addr × Nat × G) => [(10, .c (.v (.int .i64 x.1))), (9, .c (.v (.int .i64 a.gr.length))), (8, .c (.v (.slice h.gr.a a.gr.length h.gr.cap))), (1, .c (.bp 0 0)), (2, .c (.bp 1 0)), (3, .c (.bp 2 0))]) ((0, none, 0, gL)), [], (fun (x : Nat × Option Addr × Nat × G) => [(0, ⟨74, (auc a h).map .v, false⟩), (1, ⟨25, [.v (.int .i64 0), .v (.string .empty), .v (.int .i64 0), .v (.slice none 0 0)], false⟩), (2, ⟨25, [.v (.int .i64 3), .v (.string .empty), .v (.int .i64 0), .v (.slice x.2.1 x.1 x.2.2.1)], false⟩)]) ((0, none, 0, gL)), [], 3⟩, ⟨by simp [go_sem], by simp [go_sem], rfl, bxs_ok (n := 3) (Nat.le_refl _) (by simp [go_sem]), by simp [go_sem], ⟨_, rfl⟩⟩, by simp, ?_⟩
  refine loop (ι := Nat × Option Addr × Nat × G) (fun x => x.1 ≤ a.gr.length ∧ OwnRow x.2.2.2 g.w.heap.size 99 25 4 (.slice x.2.1 x.1 x.2.2.1) x.1 (rowc (leafs numT (a.gr.take x.1))) ∧ Keeps [1, 99] g x.2.2.2) (fun x => x.2.2.2)
    (fun x => ⟨(fun (x : Nat × Option Addr × Nat × G) => [(10, .c (.v (.int .i64 x.1))), (9, .c (.v (.int .i64 a.gr.length))), (8, .c (.v (.slice h.gr.a a.gr.length h.gr.cap))), (1, .c (.bp 0 0)), (2, .c (.bp 1 0)), (3, .c (.bp 2 0))]) x, [], (fun (x : Nat × Option Addr × Nat × G) => [(0, ⟨74, (auc a h).map .v, false⟩), (1, ⟨25, [.v (.int .i64 0), .v (.string .empty), .v (.int .i64 0), .v (.slice none 0 0)], false⟩), (2, ⟨25, [.v (.int .i64 3), .v (.string .empty), .v (.int .i64 0), .v (.slice x.2.1 x.1 x.2.2.1)], false⟩)]) x, [], 3⟩) (fun x => a.gr.length - x.1) (fun ⟨i, ad, cap, g'⟩ ⟨hi, hrow, hk⟩ => ?_) ((0, none, 0, gL)) (⟨Nat.zero_le _, ⟨rfl, .inl ⟨_, rfl, rfl⟩⟩, Keeps.mono (Kp.ks (g := g) (g' := gL)) (by simp)⟩)
  dsimp only at hi hrow hk ⊢
  haveI : Later g g' := .of hk (by first | (simp; done) | (simp; omega))
  refine runO hC tabOk 60 ?_
  simp [go_sem]
  repeat ((first | refine condT rfl ?_ | refine condF rfl ?_ | refine skD hC rfl rfl rfl ?_); refine runO hC tabOk 60 ?_; simp [go_sem])
  refine sg_cond rfl (fun h3 => ?_) (fun h3 => ?_)
  · simp at h3
    obtain ⟨b2, off, ea, hcs⟩ := (k.gr.to (g' := g')).row.get (List.getElem?_eq_getElem h3)
    rw [ea]
    refine runO hC tabOk 60 ?_
    simp [go_sem]
    repeat ((first | refine condT rfl ?_ | refine condF rfl ?_ | refine skD hC rfl rfl rfl ?_); refine runO hC tabOk 60 ?_; simp [go_sem])
    refine vo hC (vo_index hC tabOk rfl rfl rfl rfl rfl rfl (by omega) (by omega)) rfl rfl rfl ?_
    refine runO hC tabOk 60 ?_
    simp [go_sem]
    repeat ((first | refine condT rfl ?_ | refine condF rfl ?_ | refine skD hC rfl rfl rfl ?_); refine runO hC tabOk 60 ?_; simp [go_sem])
    refine vo hC (vo_load1 hC tabOk hcs rfl rfl rfl rfl) rfl rfl rfl ?_
    refine runO hC tabOk 60 ?_
    simp [go_sem]
    repeat ((first | refine condT rfl ?_ | refine condF rfl ?_ | refine skD hC rfl rfl rfl ?_); refine runO hC tabOk 60 ?_; simp [go_sem])
    refine draw hC [(0, 0), (1, 0), (2, 0), (3, 1), (4, 1)] [5, 6, 7] mix (by kernel_rfl) ?_
    refine runO hC tabOk 60 ?_
    simp [go_sem]
    repeat ((first | refine condT rfl ?_ | refine condF rfl ?_ | refine skD hC rfl rfl rfl ?_); refine runO hC tabOk 60 ?_; simp [go_sem])
    refine callD hC [] (by kernel_rfl) rfl rfl rfl rfl rfl rfl rfl rfl fun m2 g2 p2 e2 => ⟨_, num135 a.gr[i] _, fun v2 u2 q2 s2 hv2 => ?_⟩
    subst hv2
    refine runO hC tabOk 60 ?_
    simp [go_sem]
    repeat ((first | refine condT rfl ?_ | refine condF rfl ?_ | refine skD hC rfl rfl rfl ?_); refine runO hC tabOk 60 ?_; simp [go_sem])
    refine app hC 99 g.w.heap.size 56 tabOk rfl (.inr rfl) rfl rfl rfl rfl rfl rfl (by kernel_rfl) rfl rfl rfl fun m5 g5 p5 e5 => ?_
    refine ⟨i, _, 1, tc (numT a.gr[i]) ⟨none, 0⟩, some ⟨m5.getD 3 0, 0, none⟩, 1, hrow.ks Kp.ks (by first | (simp; done) | (simp; omega)), rfl, Cs.rd (e5.frz (i := 3) rfl rfl rfl), rfl, by have := rowc_one [(numT a.gr[i], ⟨none, 0⟩)]; simpa [rowc] using this, by simp [maxLen]; omega, by omega, fun v g6 g7 p6 p7 hv => ?_⟩
    rw [← leafs_take numT a.gr i h3] at hv
    obtain ⟨a', cap', rfl, _⟩ := hv.cs
    refine runO hC tabOk 60 ?_
    simp [go_sem]
    repeat ((first | refine condT rfl ?_ | refine condF rfl ?_ | refine skD hC rfl rfl rfl ?_); refine runO hC tabOk 60 ?_; simp [go_sem])
    refine again (fun _ => 1) fun m8 g8 p8 e8 => ⟨(i + 1, a', cap', g8), ?_, ?_, rfl, ⟨by simp [go_sem], by simp [go_sem, ea, wrap_inc (show i + 1 ≤ 9223372036854775807 by omega)], rfl, bxs_ok (n := 3) (Nat.le_refl _) (by simp [go_sem, ea, wrap_inc (show i + 1 ≤ 9223372036854775807 by omega)]), by simp [go_sem], ⟨_, rfl⟩⟩, by simp [go_sem]⟩
    · exact ⟨h3, hv.ks Kp.ks (by first | (simp; done) | (simp; omega)), hk.then (by simp)⟩
    · dsimp only; omega
  · simp at h3
    have hil : i = a.gr.length := by omega
    refine runO hC tabOk 60 ?_
    simp [go_sem]
    repeat ((first | refine condT rfl ?_ | refine condF rfl ?_ | refine skD hC rfl rfl rfl ?_); refine runO hC tabOk 60 ?_; simp [go_sem])
    refine relab hC 99 0 rfl rfl fun gr pr hwr hor => ?_
    obtain ⟨h', e2, hk'⟩ := LOk.of (leafs numT (a.gr.take i)) ((hrow.ks (g' := g') Kp.ks (by first | (simp; done) | (simp; omega))).give hwr hor) (by simp [leafs]; omega) (fun p hp => by obtain ⟨s, hs, rfl⟩ := List.mem_map.1 hp; exact tok_leaf _ _ _ _ (Nat.zero_le _))
    rw [leafs_map, hil, List.take_length] at hk'
    obtain ⟨rfl, _, rfl⟩ := Value.slice.inj e2
    subst hil
    refine runO hC tabOk 60 ?_
    simp [go_sem]
    repeat ((first | refine condT rfl ?_ | refine condF rfl ?_ | refine skD hC rfl rfl rfl ?_); refine runO hC tabOk 60 ?_; simp [go_sem])
    refine draw hC [(0, 0), (1, 0), (3, 0), (4, 0), (5, 0), (7, 0), (8, 0), (10, 0), (11, 0), (13, 0), (14, 0), (17, 0), (18, 0), (2, 1), (6, 1), (9, 1), (12, 1), (15, 1), (16, 1), (19, 1), (20, 1), (21, 1)] [22] mix (by kernel_rfl) ?_
    refine runO hC tabOk 60 ?_
    simp [go_sem]
    repeat ((first | refine condT rfl ?_ | refine condF rfl ?_ | refine skD hC rfl rfl rfl ?_); refine runO hC tabOk 60 ?_; simp [go_sem])
    refine callD hC [] (by kernel_rfl) rfl rfl rfl rfl rfl rfl rfl rfl fun m3 g3 p3 e3 => ⟨_, of118 a.user _, fun v3 u3 q3 s3 hv3 => ?_⟩
    subst hv3
    refine runO hC tabOk 60 ?_
    simp [go_sem]
    repeat ((first | refine condT rfl ?_ | refine condF rfl ?_ | refine skD hC rfl rfl rfl ?_); refine runO hC tabOk 60 ?_; simp [go_sem])
    refine callD hC [] (by kernel_rfl) rfl rfl rfl rfl rfl rfl rfl rfl fun m4 g4 p4 e4 => ⟨_, num135 a.org _, fun v4 u4 q4 s4 hv4 => ?_⟩
    subst hv4
    refine runO hC tabOk 60 ?_
    simp [go_sem]
    repeat ((first | refine condT rfl ?_ | refine condF rfl ?_ | refine skD hC rfl rfl rfl ?_); refine runO hC tabOk 60 ?_; simp [go_sem])
    refine callD hC [] (by kernel_rfl) rfl rfl rfl rfl rfl rfl rfl rfl fun m5 g5 p5 e5 => ⟨_, row290 a.tr h.tr _ k.tr.to h2, fun v5 u5 q5 s5 hv5 => ?_⟩
    obtain ⟨h5, rfl, k5⟩ := hv5
    refine runO hC tabOk 60 ?_
    simp [go_sem]
    repeat ((first | refine condT rfl ?_ | refine condF rfl ?_ | refine skD hC rfl rfl rfl ?_); refine runO hC tabOk 60 ?_; simp [go_sem])
    refine callD hC [] (by kernel_rfl) rfl rfl rfl rfl rfl rfl rfl rfl fun m6 g6 p6 e6 => ⟨_, of118 a.svc _, fun v6 u6 q6 s6 hv6 => ?_⟩
    subst hv6
    refine runO hC tabOk 60 ?_
    simp [go_sem]
    repeat ((first | refine condT rfl ?_ | refine condF rfl ?_ | refine skD hC rfl rfl rfl ?_); refine runO hC tabOk 60 ?_; simp [go_sem])
    refine callD hC [] (by kernel_rfl) rfl rfl rfl rfl rfl rfl rfl rfl fun m7 g7 p7 e7 => ⟨_, bit291 a.fwd _, fun v7 u7 q7 s7 hv7 => ?_⟩
    subst hv7
    refine runO hC tabOk 60 ?_
    simp [go_sem]
    repeat ((first | refine condT rfl ?_ | refine condF rfl ?_ | refine skD hC rfl rfl rfl ?_); refine runO hC tabOk 60 ?_; simp [go_sem])
    refine callD hC [] (by kernel_rfl) rfl rfl rfl rfl rfl rfl rfl rfl fun m8 g8 p8 e8 => ⟨_, num135 (if a.fwd then 1 else 0) _, fun v8 u8 q8 s8 hv8 => ?_⟩
    subst hv8
    refine runO hC tabOk 60 ?_
    simp [go_sem]
    repeat ((first | refine condT rfl ?_ | refine condF rfl ?_ | refine skD hC rfl rfl rfl ?_); refine runO hC tabOk 60 ?_; simp [go_sem])
    refine callD hC [] (by kernel_rfl) rfl rfl rfl rfl rfl rfl rfl rfl fun m9 g9 p9 e9 => ⟨_, num135 a.till _, fun v9 u9 q9 s9 hv9 => ?_⟩
    subst hv9
    refine runO hC tabOk 60 ?_
    simp [go_sem]
    repeat ((first | refine condT rfl ?_ | refine condF rfl ?_ | refine skD hC rfl rfl rfl ?_); refine runO hC tabOk 60 ?_; simp [go_sem])
    have kt : TOk gr (listT (a.gr.map numT)) h' := ⟨hk'.row, hk'.len, hk'.cap, Nat.zero_le _⟩
    refine callD hC [] (by kernel_rfl) rfl rfl rfl rfl rfl rfl rfl rfl fun m10 g10 p10 e10 => ⟨_, list56 [ofT a.user, listT (a.gr.map numT), numT a.org, listT (a.tr.map ofT), ofT a.svc, numT (if a.fwd then 1 else 0), numT a.till] ⟨some ⟨m10.getD 3 0, 0, none⟩, 7⟩ _ ⟨TsIs.of [(ofT a.user, ⟨none, 0⟩), (listT (a.gr.map numT), h'), (numT a.org, ⟨none, 0⟩), (listT (a.tr.map ofT), h5), (ofT a.svc, ⟨none, 0⟩), (numT (if a.fwd then 1 else 0), ⟨none, 0⟩), (numT a.till, ⟨none, 0⟩)] (e10.frz (i := 3) rfl rfl (by simp [rowc, tc, SC.val, T.k, T.s, T.n, T.l])) (lsc (tok_leaf _ _ _ _ k.us) (lsc kt.to (lsc (tok_leaf _ _ _ _ (Nat.zero_le _)) (lsc k5.to (lsc (tok_leaf _ _ _ _ k.sv) (lsc (tok_leaf _ _ _ _ (Nat.zero_le _)) (lsc (tok_leaf _ _ _ _ (Nat.zero_le _)) lsn))))))), Nat.le_refl _, by simp [maxLen]⟩ (by simp), fun v10 u10 q10 s10 hv10 => ?_⟩
    obtain ⟨h11, rfl, k11⟩ := hv10
    refine runO hC tabOk 60 ?_
    simp [go_sem]
    repeat ((first | refine condT rfl ?_ | refine condF rfl ?_ | refine skD hC rfl rfl rfl ?_); refine runO hC tabOk 60 ?_; simp [go_sem])
    refine ret hC tabOk (fun _ => 1) rfl rfl fun m gf hl ex => ?_
    exact ⟨h11, rfl, k11.to⟩
end Go.Proofs.YtobhfopgoidniaaGreat

/- Containers: made; read, word by word. -/
namespace Go.Proofs.YtobhfopgoidniaaGreat
open Go Go.Eng

/-- A term, and an error. -/
def TE (r : T × Int) (v : Value) (g : G) : Prop := ∃ h, v = .tuple #[tv r.1 h, .int .i64 r.2] ∧ TOk g r.1 h

def buildS (a : Au) (server centre : T) : T × Int :=
  if auOk a && decide (server.k = 2) && decide (centre.k = 2) then (listT [dataT a, sumT server 18 (dataT a), sumT centre 19 (sumT server 18 (dataT a))], 0) else (T0, 1)

theorem build205 (a : Au) (h : AH) (s c : T) (hs hc : Hd) (g : G) (k : AuOk g a h) (ks : TOk g s hs) (kc : TOk g c hc) : Ok Tryz.prog 205 [auv a h, tv s hs, tv c hc] g [] (fun v g' => TE (buildS a s c) v g') := by
  refine fbegin Tryz.func205 rfl Tryz.ntmps205 (Nat.le_of_ble_eq_true rfl) fun C hw hC => ?_
  refine runO hC tabOk 60 ?_
  simp [go_sem]
  repeat ((first | refine condT rfl ?_ | refine condF rfl ?_ | refine skD hC rfl rfl rfl ?_); refine runO hC tabOk 60 ?_; simp [go_sem])
  refine call hC [] (by kernel_rfl) rfl rfl rfl rfl rfl fun m1 g1 p1 e1 => ⟨_, avalid257 a h _ k.to, fun v1 u1 q1 s1 hv1 => ?_⟩
  subst hv1
  cases h1 : auOk a with
  | false =>
    refine runO hC tabOk 60 ?_
    simp [go_sem]
    repeat ((first | refine condT rfl ?_ | refine condF rfl ?_ | refine skD hC rfl rfl rfl ?_); refine runO hC tabOk 60 ?_; simp [go_sem])
    refine ret hC tabOk (fun _ => 1) rfl rfl fun m gf hl ex => ?_
    simp only [buildS, h1]
    exact ⟨⟨none, 0⟩, rfl, T0_ok _⟩
  | true =>
  have h1' := h1
  unfold auOk at h1'
  simp only [Bool.and_eq_true, decide_eq_true_eq] at h1'
  by_cases h2 : s.k = 2
  · by_cases h3 : c.k = 2
    · have d2 : decide (s.k = 2) = true := by simp [h2]
      have d3 : decide (c.k = 2) = true := by simp [h3]
      refine runO hC tabOk 60 ?_
      simp [go_sem, d2, d3]
      repeat ((first | refine condT rfl ?_ | refine condF rfl ?_ | refine skD hC rfl rfl rfl ?_); refine runO hC tabOk 60 ?_; simp [go_sem, d2, d3])
      try (refine runO hC tabOk 60 ?_; simp [go_sem, d2, d3]; repeat ((first | refine condT rfl ?_ | refine condF rfl ?_ | refine skD hC rfl rfl rfl ?_); refine runO hC tabOk 60 ?_; simp [go_sem, d2, d3]))
      refine call hC [] (by kernel_rfl) rfl rfl rfl rfl rfl fun m2 g2 p2 e2 => ⟨_, data258 a h _ k.to (by omega) (by omega), fun v2 u2 q2 s2 hv2 => ?_⟩
      obtain ⟨h4, rfl, k4⟩ := hv2
      refine runO hC tabOk 60 ?_
      simp [go_sem]
      repeat ((first | refine condT rfl ?_ | refine condF rfl ?_ | refine skD hC rfl rfl rfl ?_); refine runO hC tabOk 60 ?_; simp [go_sem])
      refine call hC [] (by kernel_rfl) rfl rfl rfl rfl rfl fun m3 g3 p3 e3 => ⟨_, sum119 s (dataT a) hs h4 18 _ ks.to k4.to, fun v3 u3 q3 s3 hv3 => ?_⟩
      obtain ⟨h5, rfl, k5⟩ := hv3
      refine runO hC tabOk 60 ?_
      simp [go_sem]
      repeat ((first | refine condT rfl ?_ | refine condF rfl ?_ | refine skD hC rfl rfl rfl ?_); refine runO hC tabOk 60 ?_; simp [go_sem])
      refine draw hC [(0, 0), (1, 0), (2, 0), (3, 0), (4, 1)] [5, 6, 7, 8] mix (by kernel_rfl) ?_
      refine runO hC tabOk 60 ?_
      simp [go_sem]
      repeat ((first | refine condT rfl ?_ | refine condF rfl ?_ | refine skD hC rfl rfl rfl ?_); refine runO hC tabOk 60 ?_; simp [go_sem])
      refine callD hC [] (by kernel_rfl) rfl rfl rfl rfl rfl rfl rfl rfl fun m4 g4 p4 e4 => ⟨_, sum119 c (sumT s 18 (dataT a)) hc h5 19 _ kc.to k5.to, fun v4 u4 q4 s4 hv4 => ?_⟩
      obtain ⟨h6, rfl, k6⟩ := hv4
      refine runO hC tabOk 60 ?_
      simp [go_sem]
      repeat ((first | refine condT rfl ?_ | refine condF rfl ?_ | refine skD hC rfl rfl rfl ?_); refine runO hC tabOk 60 ?_; simp [go_sem])
      refine call hC [] (by kernel_rfl) rfl rfl rfl rfl rfl fun m5 g5 p5 e5 => ⟨_, list56 [dataT a, sumT s 18 (dataT a), sumT c 19 (sumT s 18 (dataT a))] ⟨some ⟨m5.getD 6 0, 0, none⟩, 3⟩ _ ⟨TsIs.of [(dataT a, h4), (sumT s 18 (dataT a), h5), (sumT c 19 (sumT s 18 (dataT a)), h6)] (e5.frz (i := 6) rfl rfl (by first | rfl | simp [rowc, tc, SC.val])) (lsc (k4.to) (lsc (k5.to) (lsc (k6.to) lsn))), Nat.le_refl _, by simp [maxLen]⟩ (by simp), fun v5 u5 q5 s5 hv5 => ?_⟩
      obtain ⟨h7, rfl, k7⟩ := hv5
      refine runO hC tabOk 60 ?_
      simp [go_sem]
      repeat ((first | refine condT rfl ?_ | refine condF rfl ?_ | refine skD hC rfl rfl rfl ?_); refine runO hC tabOk 60 ?_; simp [go_sem])
      refine ret hC tabOk (fun _ => 1) rfl rfl fun m gf hl ex => ?_
      simp only [buildS, h1, h2, h3]
      exact ⟨h7, rfl, k7.to⟩
    · refine runO hC tabOk 60 ?_
      simp [go_sem, h2, h3]
      repeat ((first | refine condT rfl ?_ | refine condF rfl ?_ | refine skD hC rfl rfl rfl ?_); refine runO hC tabOk 60 ?_; simp [go_sem, h2, h3])
      try (refine runO hC tabOk 60 ?_; simp [go_sem, h2, h3]; repeat ((first | refine condT rfl ?_ | refine condF rfl ?_ | refine skD hC rfl rfl rfl ?_); refine runO hC tabOk 60 ?_; simp [go_sem, h2, h3]))
      refine ret hC tabOk (fun _ => 1) rfl rfl fun m gf hl ex => ?_
      simp only [buildS, h1, h2, h3]
      exact ⟨⟨none, 0⟩, rfl, T0_ok _⟩
  · refine runO hC tabOk 60 ?_
    simp [go_sem, h2]
    repeat ((first | refine condT rfl ?_ | refine condF rfl ?_ | refine skD hC rfl rfl rfl ?_); refine runO hC tabOk 60 ?_; simp [go_sem, h2])
    try (refine runO hC tabOk 60 ?_; simp [go_sem, h2]; repeat ((first | refine condT rfl ?_ | refine condF rfl ?_ | refine skD hC rfl rfl rfl ?_); refine runO hC tabOk 60 ?_; simp [go_sem, h2]))
    refine ret hC tabOk (fun _ => 1) rfl rfl fun m gf hl ex => ?_
    simp only [buildS, h1, h2]
    exact ⟨⟨none, 0⟩, rfl, T0_ok _⟩

/-! ### The reader -/

/-- A reader, o's: what is left, and whether something was odd. -/
def RdIs (g : G) (o b : Nat) (l : List T) (odd : Bool) : Prop := ∃ h : Hd, Ob g o b 332 [.slice h.a l.length h.cap, .bool odd] ∧ LOk g l h

theorem RdIs.ks {L : List Nat} {g g' : G} (hk : Keeps L g g') {o b : Nat} {l : List T} {odd : Bool} (k : RdIs g o b l odd) (h0 : o ∉ L) (hz : 0 ∉ L) : RdIs g' o b l odd := by
  obtain ⟨h, k1, k2⟩ := k
  haveI : Later g g' := .of hk hz
  exact ⟨h, k1.ks hk h0, k2.to⟩

theorem ob_odd {g : G} {o b n c : Nat} {a : Option Addr} {odd : Bool} (k : Ob g o b 332 [.slice a n c, .bool odd]) : Cs g o b 1 [.bool odd] :=
  k.cs 1 fun j v hj => by
    cases j with
    | zero => exact hj
    | succ j => cases hj
theorem ob_l {g : G} {o b n c : Nat} {a : Option Addr} {odd : Bool} (k : Ob g o b 332 [.slice a n c, .bool odd]) : Cs g o b 0 [.slice a n c] :=
  k.cs 0 fun j v hj => by
    cases j with
    | zero => exact hj
    | succ j => cases hj

abbrev ptr (b : Nat) : Value := .pointer (some ⟨b, 0, none⟩)

/-- Has a word other fields than those of its kind? -/
def oddT (t : T) : Bool := if t.k = 0 then decide (t.n ≠ 0) || decide (0 < t.l.length) else if t.k = 1 then decide (t.s ≠ .empty) || decide (0 < t.l.length) else decide (t.s ≠ .empty) || decide (t.n ≠ 0)

theorem plain296 (o b : Nat) (ho : o ≠ 0) (ho1 : o ≠ 1) (l : List T) (odd : Bool) (t : T) (h : Hd) (g : G) (k : RdIs g o b l odd) (kt : TOk g t h) :
    Ok Tryz.prog 296 [ptr b, tv t h] g [o] (fun _ g' => RdIs g' o b l (odd || oddT t)) := by
  obtain ⟨hd, k1, k2⟩ := k
  refine fbegin Tryz.func296 rfl Tryz.ntmps296 (Nat.le_of_ble_eq_true rfl) fun C hw hC => ?_
  refine runO hC tabOk 60 ?_
  simp [go_sem]
  repeat ((first | refine condT rfl ?_ | refine condF rfl ?_ | refine skD hC rfl rfl rfl ?_); refine runO hC tabOk 60 ?_; simp [go_sem])
  by_cases h0 : t.k = 0
  · refine runO hC tabOk 60 ?_
    simp [go_sem, h0]
    repeat ((first | refine condT rfl ?_ | refine condF rfl ?_ | refine skD hC rfl rfl rfl ?_); refine runO hC tabOk 60 ?_; simp [go_sem, h0])
    try (refine runO hC tabOk 60 ?_; simp [go_sem, h0]; repeat ((first | refine condT rfl ?_ | refine condF rfl ?_ | refine skD hC rfl rfl rfl ?_); refine runO hC tabOk 60 ?_; simp [go_sem, h0]))
    refine vo hC (vo_load1 hC tabOk ((ob_odd k1).ks Kp.ks (by first | (simp; done) | (simp; omega))) rfl rfl rfl rfl) (nc1 ho1) rfl rfl ?_
    refine runO hC tabOk 60 ?_
    simp [go_sem]
    repeat ((first | refine condT rfl ?_ | refine condF rfl ?_ | refine skD hC rfl rfl rfl ?_); refine runO hC tabOk 60 ?_; simp [go_sem])
    refine stob hC tabOk o (by first | (simp; done) | (simp; omega)) (.inl (by simp)) rfl rfl rfl rfl rfl rfl rfl rfl fun m9 g9 p9 e9 => ⟨332, _, k1.ks Kp.ks (by first | (simp; done) | (simp; omega)), by simp, fun g10 g11 p10 but10 p11 hob' => ?_⟩
    refine runO hC tabOk 60 ?_
    simp [go_sem]
    repeat ((first | refine condT rfl ?_ | refine condF rfl ?_ | refine skD hC rfl rfl rfl ?_); refine runO hC tabOk 60 ?_; simp [go_sem])
    refine done hC tabOk (fun _ => 1) rfl rfl fun m gf hl ex => ?_
    have q := hob'.ks (g' := gf) Kp.ks (by first | (simp; done) | (simp; omega))
    refine ⟨hd, ?_, k2.to⟩
    simpa [oddT, h0, Bool.or_assoc, SC.val, setV] using q
  by_cases h1 : t.k = 1
  · refine runO hC tabOk 60 ?_
    simp [go_sem, h0, h1]
    repeat ((first | refine condT rfl ?_ | refine condF rfl ?_ | refine skD hC rfl rfl rfl ?_); refine runO hC tabOk 60 ?_; simp [go_sem, h0, h1])
    try (refine runO hC tabOk 60 ?_; simp [go_sem, h0, h1]; repeat ((first | refine condT rfl ?_ | refine condF rfl ?_ | refine skD hC rfl rfl rfl ?_); refine runO hC tabOk 60 ?_; simp [go_sem, h0, h1]))
    refine vo hC (vo_load1 hC tabOk ((ob_odd k1).ks Kp.ks (by first | (simp; done) | (simp; omega))) rfl rfl rfl rfl) (nc1 ho1) rfl rfl ?_
    refine runO hC tabOk 60 ?_
    simp [go_sem]
    repeat ((first | refine condT rfl ?_ | refine condF rfl ?_ | refine skD hC rfl rfl rfl ?_); refine runO hC tabOk 60 ?_; simp [go_sem])
    refine stob hC tabOk o (by first | (simp; done) | (simp; omega)) (.inl (by simp)) rfl rfl rfl rfl rfl rfl rfl rfl fun m9 g9 p9 e9 => ⟨332, _, k1.ks Kp.ks (by first | (simp; done) | (simp; omega)), by simp, fun g10 g11 p10 but10 p11 hob' => ?_⟩
    refine runO hC tabOk 60 ?_
    simp [go_sem]
    repeat ((first | refine condT rfl ?_ | refine condF rfl ?_ | refine skD hC rfl rfl rfl ?_); refine runO hC tabOk 60 ?_; simp [go_sem])
    refine done hC tabOk (fun _ => 1) rfl rfl fun m gf hl ex => ?_
    have q := hob'.ks (g' := gf) Kp.ks (by first | (simp; done) | (simp; omega))
    refine ⟨hd, ?_, k2.to⟩
    simpa [oddT, h0, h1, Bool.or_assoc, SC.val, setV] using q
  · refine runO hC tabOk 60 ?_
    simp [go_sem, h0, h1]
    repeat ((first | refine condT rfl ?_ | refine condF rfl ?_ | refine skD hC rfl rfl rfl ?_); refine runO hC tabOk 60 ?_; simp [go_sem, h0, h1])
    try (refine runO hC tabOk 60 ?_; simp [go_sem, h0, h1]; repeat ((first | refine condT rfl ?_ | refine condF rfl ?_ | refine skD hC rfl rfl rfl ?_); refine runO hC tabOk 60 ?_; simp [go_sem, h0, h1]))
    refine vo hC (vo_load1 hC tabOk ((ob_odd k1).ks Kp.ks (by first | (simp; done) | (simp; omega))) rfl rfl rfl rfl) (nc1 ho1) rfl rfl ?_
    refine runO hC tabOk 60 ?_
    simp [go_sem]
    repeat ((first | refine condT rfl ?_ | refine condF rfl ?_ | refine skD hC rfl rfl rfl ?_); refine runO hC tabOk 60 ?_; simp [go_sem])
    refine stob hC tabOk o (by first | (simp; done) | (simp; omega)) (.inl (by simp)) rfl rfl rfl rfl rfl rfl rfl rfl fun m9 g9 p9 e9 => ⟨332, _, k1.ks Kp.ks (by first | (simp; done) | (simp; omega)), by simp, fun g10 g11 p10 but10 p11 hob' => ?_⟩
    refine runO hC tabOk 60 ?_
    simp [go_sem]
    repeat ((first | refine condT rfl ?_ | refine condF rfl ?_ | refine skD hC rfl rfl rfl ?_); refine runO hC tabOk 60 ?_; simp [go_sem])
    refine done hC tabOk (fun _ => 1) rfl rfl fun m gf hl ex => ?_
    have q := hob'.ks (g' := gf) Kp.ks (by first | (simp; done) | (simp; omega))
    refine ⟨hd, ?_, k2.to⟩
    simpa [oddT, h0, h1, Bool.or_assoc, SC.val, setV] using q

/-- The next word, of a kind. -/
def nextS (k : Int) : List T × Bool → T × List T × Bool
  | ([], _) => (T0, [], true)
  | (t :: r, odd) => if odd || decide (t.k ≠ k) then (T0, t :: r, true) else (t, r, oddT t)

theorem next274 (o b : Nat) (ho : o ≠ 0) (ho1 : o ≠ 1) (k : Int) (l : List T) (odd : Bool) (g : G) (kr : RdIs g o b l odd) :
    Ok Tryz.prog 274 [ptr b, .int .i64 k] g [o] (fun v g' => TQ (nextS k (l, odd)).1 v g' ∧ RdIs g' o b (nextS k (l, odd)).2.1 (nextS k (l, odd)).2.2) := by
  obtain ⟨hd, k1, k2⟩ := kr
  refine fbegin Tryz.func274 rfl Tryz.ntmps274 (Nat.le_of_ble_eq_true rfl) fun C hw hC => ?_
  refine runO hC tabOk 60 ?_
  simp [go_sem]
  repeat ((first | refine condT rfl ?_ | refine condF rfl ?_ | refine skD hC rfl rfl rfl ?_); refine runO hC tabOk 60 ?_; simp [go_sem])
  refine vo hC (vo_load1 hC tabOk ((ob_odd k1).ks Kp.ks (by first | (simp; done) | (simp; omega))) rfl rfl rfl rfl) (nc1 ho1) rfl rfl ?_
  cases hodd : odd with
  | true =>
    subst hodd
    refine runO hC tabOk 60 ?_
    simp [go_sem]
    repeat ((first | refine condT rfl ?_ | refine condF rfl ?_ | refine skD hC rfl rfl rfl ?_); refine runO hC tabOk 60 ?_; simp [go_sem])
    refine stob hC tabOk o (by first | (simp; done) | (simp; omega)) (.inl (by simp)) rfl rfl rfl rfl rfl rfl rfl rfl fun m9 g9 p9 e9 => ⟨332, _, k1.ks Kp.ks (by first | (simp; done) | (simp; omega)), by simp, fun g10 g11 p10 but10 p11 hob' => ?_⟩
    refine runO hC tabOk 60 ?_
    simp [go_sem]
    repeat ((first | refine condT rfl ?_ | refine condF rfl ?_ | refine skD hC rfl rfl rfl ?_); refine runO hC tabOk 60 ?_; simp [go_sem])
    refine ret hC tabOk (fun _ => 1) rfl rfl fun m gf hl ex => ?_
    have q := hob'.ks (g' := gf) Kp.ks (by first | (simp; done) | (simp; omega))
    have e : nextS k (l, true) = (T0, l, true) := by cases l <;> simp [nextS]
    rw [e]
    exact ⟨⟨⟨none, 0⟩, rfl, T0_ok _⟩, hd, q, k2.to⟩
  | false =>
  subst hodd
  refine runO hC tabOk 60 ?_
  simp [go_sem]
  repeat ((first | refine condT rfl ?_ | refine condF rfl ?_ | refine skD hC rfl rfl rfl ?_); refine runO hC tabOk 60 ?_; simp [go_sem])
  refine vo hC (vo_load1 hC tabOk ((ob_l k1).ks Kp.ks (by first | (simp; done) | (simp; omega))) rfl rfl rfl rfl) (nc1 ho1) rfl rfl ?_
  cases hll : l with
  | nil =>
    subst hll
    refine runO hC tabOk 60 ?_
    simp [go_sem]
    repeat ((first | refine condT rfl ?_ | refine condF rfl ?_ | refine skD hC rfl rfl rfl ?_); refine runO hC tabOk 60 ?_; simp [go_sem])
    refine stob hC tabOk o (by first | (simp; done) | (simp; omega)) (.inl (by simp)) rfl rfl rfl rfl rfl rfl rfl rfl fun m9 g9 p9 e9 => ⟨332, _, k1.ks Kp.ks (by first | (simp; done) | (simp; omega)), by simp, fun g10 g11 p10 but10 p11 hob' => ?_⟩
    refine runO hC tabOk 60 ?_
    simp [go_sem]
    repeat ((first | refine condT rfl ?_ | refine condF rfl ?_ | refine skD hC rfl rfl rfl ?_); refine runO hC tabOk 60 ?_; simp [go_sem])
    refine ret hC tabOk (fun _ => 1) rfl rfl fun m gf hl ex => ?_
    have q := hob'.ks (g' := gf) Kp.ks (by first | (simp; done) | (simp; omega))
    exact ⟨⟨⟨none, 0⟩, rfl, T0_ok _⟩, hd, q, k2.to⟩
  | cons t r =>
    subst hll
    obtain ⟨b2, off, ht, ea, hcs, kt⟩ := k2.get (i := 0) (t := t) rfl
    have hz : ¬ ((r.length : Int) + 1 = 0) := by omega
    have hp : (0 : Int) < (r.length : Int) + 1 := by omega
    refine runO hC tabOk 60 ?_
    simp [go_sem, ea, hz]
    repeat ((first | refine condT rfl ?_ | refine condF rfl ?_ | refine skD hC rfl rfl rfl ?_); refine runO hC tabOk 60 ?_; simp [go_sem, ea, hz])
    try (refine runO hC tabOk 60 ?_; simp [go_sem, ea, hz]; repeat ((first | refine condT rfl ?_ | refine condF rfl ?_ | refine skD hC rfl rfl rfl ?_); refine runO hC tabOk 60 ?_; simp [go_sem, ea, hz]))
    refine vo hC (vo_load1 hC tabOk ((ob_l k1).ks Kp.ks (by first | (simp; done) | (simp; omega))) rfl rfl rfl rfl) (nc1 ho1) rfl rfl ?_
    rw [ea]
    refine runO hC tabOk 60 ?_
    simp [go_sem]
    repeat ((first | refine condT rfl ?_ | refine condF rfl ?_ | refine skD hC rfl rfl rfl ?_); refine runO hC tabOk 60 ?_; simp [go_sem])
    refine vo hC (vo_index hC tabOk rfl rfl rfl rfl rfl rfl (by omega) (by simp)) rfl rfl rfl ?_
    refine runO hC tabOk 60 ?_
    simp [go_sem]
    repeat ((first | refine condT rfl ?_ | refine condF rfl ?_ | refine skD hC rfl rfl rfl ?_); refine runO hC tabOk 60 ?_; simp [go_sem])
    refine vo hC (vo_load1 hC tabOk ((hcs.to (g' := _)).one 0 rfl) rfl rfl rfl rfl) rfl rfl rfl ?_
    by_cases hk : t.k = k
    · refine runO hC tabOk 60 ?_
      simp [go_sem, hk]
      repeat ((first | refine condT rfl ?_ | refine condF rfl ?_ | refine skD hC rfl rfl rfl ?_); refine runO hC tabOk 60 ?_; simp [go_sem, hk])
      try (refine runO hC tabOk 60 ?_; simp [go_sem, hk]; repeat ((first | refine condT rfl ?_ | refine condF rfl ?_ | refine skD hC rfl rfl rfl ?_); refine runO hC tabOk 60 ?_; simp [go_sem, hk]))
      refine vo hC (vo_load1 hC tabOk ((ob_l k1).ks Kp.ks (by first | (simp; done) | (simp; omega))) rfl rfl rfl rfl) (nc1 ho1) rfl rfl ?_
      rw [ea]
      refine runO hC tabOk 60 ?_
      simp [go_sem]
      repeat ((first | refine condT rfl ?_ | refine condF rfl ?_ | refine skD hC rfl rfl rfl ?_); refine runO hC tabOk 60 ?_; simp [go_sem])
      refine vo hC (vo_index hC tabOk rfl rfl rfl rfl rfl rfl (by omega) (by simp)) rfl rfl rfl ?_
      refine runO hC tabOk 60 ?_
      simp [go_sem]
      repeat ((first | refine condT rfl ?_ | refine condF rfl ?_ | refine skD hC rfl rfl rfl ?_); refine runO hC tabOk 60 ?_; simp [go_sem])
      refine vo hC (vo_load hC tabOk hcs.to rfl rfl rfl rfl rfl) rfl rfl rfl ?_
      refine runO hC tabOk 60 ?_
      simp [go_sem]
      repeat ((first | refine condT rfl ?_ | refine condF rfl ?_ | refine skD hC rfl rfl rfl ?_); refine runO hC tabOk 60 ?_; simp [go_sem])
      refine vo hC (vo_load1 hC tabOk ((ob_l k1).ks Kp.ks (by first | (simp; done) | (simp; omega))) rfl rfl rfl rfl) (nc1 ho1) rfl rfl ?_
      refine runO hC tabOk 60 ?_
      simp [go_sem]
      repeat ((first | refine condT rfl ?_ | refine condF rfl ?_ | refine skD hC rfl rfl rfl ?_); refine runO hC tabOk 60 ?_; simp [go_sem])
      refine vo hC (vo_slfrom hC tabOk rfl rfl rfl rfl rfl rfl (by omega) (by simp; omega)) rfl rfl rfl ?_
      refine runO hC tabOk 60 ?_
      simp [go_sem]
      repeat ((first | refine condT rfl ?_ | refine condF rfl ?_ | refine skD hC rfl rfl rfl ?_); refine runO hC tabOk 60 ?_; simp [go_sem])
      refine stob hC tabOk o (by first | (simp; done) | (simp; omega)) (.inl (by simp)) rfl rfl rfl rfl rfl rfl rfl rfl fun m9 g9 p9 e9 => ⟨332, _, k1.ks Kp.ks (by first | (simp; done) | (simp; omega)), by simp, fun g10 g11 p10 but10 p11 hob' => ?_⟩
      refine runO hC tabOk 60 ?_
      simp [go_sem]
      repeat ((first | refine condT rfl ?_ | refine condF rfl ?_ | refine skD hC rfl rfl rfl ?_); refine runO hC tabOk 60 ?_; simp [go_sem])
      refine call hC [o] (by kernel_rfl) rfl rfl rfl (by first | (simp [subL]; done) | (simp [subL]; omega)) rfl fun m3 g3 p3 e3 => ⟨_, plain296 o b ho ho1 r false t ht _ ⟨_, hob'.ks Kp.ks (by first | (simp; done) | (simp; omega)), k2.tl.to⟩ kt.to, fun v3 u3 q3 s3 hv3 => ?_⟩
      refine runO hC tabOk 60 ?_
      simp [go_sem]
      repeat ((first | refine condT rfl ?_ | refine condF rfl ?_ | refine skD hC rfl rfl rfl ?_); refine runO hC tabOk 60 ?_; simp [go_sem])
      refine ret hC tabOk (fun _ => 1) rfl rfl fun m gf hl ex => ?_
      have e : nextS k (t :: r, false) = (t, r, oddT t) := by simp [nextS, hk]
      rw [e]
      exact ⟨⟨ht, rfl, kt.to⟩, by simpa using hv3.ks (g' := gf) Kp.ks (by first | (simp; done) | (simp; omega)) (by first | (simp; done) | (simp; omega))⟩
    · refine runO hC tabOk 60 ?_
      simp [go_sem, hk]
      repeat ((first | refine condT rfl ?_ | refine condF rfl ?_ | refine skD hC rfl rfl rfl ?_); refine runO hC tabOk 60 ?_; simp [go_sem, hk])
      try (refine runO hC tabOk 60 ?_; simp [go_sem, hk]; repeat ((first | refine condT rfl ?_ | refine condF rfl ?_ | refine skD hC rfl rfl rfl ?_); refine runO hC tabOk 60 ?_; simp [go_sem, hk]))
      refine stob hC tabOk o (by first | (simp; done) | (simp; omega)) (.inl (by simp)) rfl rfl rfl rfl rfl rfl rfl rfl fun m9 g9 p9 e9 => ⟨332, _, k1.ks Kp.ks (by first | (simp; done) | (simp; omega)), by simp, fun g10 g11 p10 but10 p11 hob' => ?_⟩
      refine runO hC tabOk 60 ?_
      simp [go_sem]
      repeat ((first | refine condT rfl ?_ | refine condF rfl ?_ | refine skD hC rfl rfl rfl ?_); refine runO hC tabOk 60 ?_; simp [go_sem])
      refine ret hC tabOk (fun _ => 1) rfl rfl fun m gf hl ex => ?_
      have q := hob'.ks (g' := gf) Kp.ks (by first | (simp; done) | (simp; omega))
      have e : nextS k (t :: r, false) = (T0, t :: r, true) := by simp [nextS, hk]
      rw [e]
      exact ⟨⟨⟨none, 0⟩, rfl, T0_ok _⟩, hd, q, k2.to⟩
end Go.Proofs.YtobhfopgoidniaaGreat

/- Terms: shape, valid. -/
namespace Go.Proofs.YtobhfopgoidniaaGreat
open Go Go.Eng

/-- May a term be, by itself? -/
def shapeT (t : T) : Bool :=
  if t.k = 0 then nameS t.s && decide (t.n = 0) && decide (t.l.length = 0)
  else if t.k = 1 then decide (t.s = .empty) && decide (t.l.length = 0)
  else if t.k = 2 then (decide (t.s = .empty) || nameS t.s) && decide (1 ≤ t.n) && decide (t.l.length = 0)
  else if t.k = 3 then decide (t.s = .empty) && decide (t.n = 0) && decide (t.l.length ≤ 64)
  else if t.k = 4 ∨ t.k = 5 then decide (t.s = .empty) && decide (1 ≤ t.n) && decide (t.n ≤ 255) && decide (t.l.length = 2) && (match t.l with | a :: _ => decide (a.k = 2) | [] => false)
  else false

set_option maxHeartbeats 1000000 in
theorem shape282 (t : T) (h : Hd) (g : G) (k : TOk g t h) : Ok Tryz.prog 282 [tv t h] g [] (fun v _ => v = .bool (shapeT t)) := by
  obtain ⟨tk, ts, tn, tl⟩ := t
  have hsz := k.str
  dsimp only [T.s] at hsz
  refine fbegin Tryz.func282 rfl Tryz.ntmps282 (Nat.le_of_ble_eq_true rfl) fun C hw hC => ?_
  refine runO hC tabOk 60 ?_
  simp [go_sem]
  repeat ((first | refine condT rfl ?_ | refine condF rfl ?_ | refine skD hC rfl rfl rfl ?_); refine runO hC tabOk 60 ?_; simp [go_sem])
  by_cases h0 : tk = 0
  · refine runO hC tabOk 60 ?_
    simp [go_sem, h0]
    repeat ((first | refine condT rfl ?_ | refine condF rfl ?_ | refine skD hC rfl rfl rfl ?_); refine runO hC tabOk 60 ?_; simp [go_sem, h0])
    try (refine runO hC tabOk 60 ?_; simp [go_sem, h0]; repeat ((first | refine condT rfl ?_ | refine condF rfl ?_ | refine skD hC rfl rfl rfl ?_); refine runO hC tabOk 60 ?_; simp [go_sem, h0]))
    refine call hC [] (by kernel_rfl) rfl rfl rfl rfl rfl fun m1 g1 p1 e1 => ⟨_, name36 ts _ hsz, fun v1 u1 q1 s1 hv1 => ?_⟩
    subst hv1
    refine runO hC tabOk 60 ?_
    simp [go_sem]
    repeat ((first | refine condT rfl ?_ | refine condF rfl ?_ | refine skD hC rfl rfl rfl ?_); refine runO hC tabOk 60 ?_; simp [go_sem])
    refine ret hC tabOk (fun _ => 1) rfl rfl fun m gf hl ex => ?_
    simp [retv, SV.val, SC.val, vals, shapeT, h0]
  by_cases h1 : tk = 1
  · refine runO hC tabOk 60 ?_
    simp [go_sem, h0, h1]
    repeat ((first | refine condT rfl ?_ | refine condF rfl ?_ | refine skD hC rfl rfl rfl ?_); refine runO hC tabOk 60 ?_; simp [go_sem, h0, h1])
    try (refine runO hC tabOk 60 ?_; simp [go_sem, h0, h1]; repeat ((first | refine condT rfl ?_ | refine condF rfl ?_ | refine skD hC rfl rfl rfl ?_); refine runO hC tabOk 60 ?_; simp [go_sem, h0, h1]))
    refine ret hC tabOk (fun _ => 1) rfl rfl fun m gf hl ex => ?_
    simp [retv, SV.val, SC.val, vals, shapeT, h0, h1]
  by_cases h2 : tk = 2
  · by_cases h3 : ts = .empty
    · refine runO hC tabOk 60 ?_
      simp [go_sem, h0, h1, h2, h3]
      repeat ((first | refine condT rfl ?_ | refine condF rfl ?_ | refine skD hC rfl rfl rfl ?_); refine runO hC tabOk 60 ?_; simp [go_sem, h0, h1, h2, h3])
      try (refine runO hC tabOk 60 ?_; simp [go_sem, h0, h1, h2, h3]; repeat ((first | refine condT rfl ?_ | refine condF rfl ?_ | refine skD hC rfl rfl rfl ?_); refine runO hC tabOk 60 ?_; simp [go_sem, h0, h1, h2, h3]))
      refine ret hC tabOk (fun _ => 1) rfl rfl fun m gf hl ex => ?_
      simp [retv, SV.val, SC.val, vals, shapeT, h0, h1, h2, h3]
    · refine runO hC tabOk 60 ?_
      simp [go_sem, h0, h1, h2, h3]
      repeat ((first | refine condT rfl ?_ | refine condF rfl ?_ | refine skD hC rfl rfl rfl ?_); refine runO hC tabOk 60 ?_; simp [go_sem, h0, h1, h2, h3])
      try (refine runO hC tabOk 60 ?_; simp [go_sem, h0, h1, h2, h3]; repeat ((first | refine condT rfl ?_ | refine condF rfl ?_ | refine skD hC rfl rfl rfl ?_); refine runO hC tabOk 60 ?_; simp [go_sem, h0, h1, h2, h3]))
      refine call hC [] (by kernel_rfl) rfl rfl rfl rfl rfl fun m1 g1 p1 e1 => ⟨_, name36 ts _ hsz, fun v1 u1 q1 s1 hv1 => ?_⟩
      subst hv1
      refine runO hC tabOk 60 ?_
      simp [go_sem]
      repeat ((first | refine condT rfl ?_ | refine condF rfl ?_ | refine skD hC rfl rfl rfl ?_); refine runO hC tabOk 60 ?_; simp [go_sem])
      refine ret hC tabOk (fun _ => 1) rfl rfl fun m gf hl ex => ?_
      simp [retv, SV.val, SC.val, vals, shapeT, h0, h1, h2, h3]
  by_cases h3 : tk = 3
  · refine runO hC tabOk 60 ?_
    simp [go_sem, h0, h1, h2, h3]
    repeat ((first | refine condT rfl ?_ | refine condF rfl ?_ | refine skD hC rfl rfl rfl ?_); refine runO hC tabOk 60 ?_; simp [go_sem, h0, h1, h2, h3])
    try (refine runO hC tabOk 60 ?_; simp [go_sem, h0, h1, h2, h3]; repeat ((first | refine condT rfl ?_ | refine condF rfl ?_ | refine skD hC rfl rfl rfl ?_); refine runO hC tabOk 60 ?_; simp [go_sem, h0, h1, h2, h3]))
    refine ret hC tabOk (fun _ => 1) rfl rfl fun m gf hl ex => ?_
    have e1 : decide ((tl.length : Int) ≤ 64) = decide (tl.length ≤ 64) := dlen _ 64
    simp [retv, SV.val, SC.val, vals, shapeT, h0, h1, h2, h3, e1]
  by_cases h4 : tk = 4
  · skip
    by_cases hs : ts = .empty
    · by_cases n1 : 1 ≤ tn
      · by_cases n2 : tn ≤ 255
        · by_cases hln : tl.length = 2
          · obtain ⟨x, r, rfl⟩ : ∃ x r, tl = x :: r := by
              cases tl with
              | nil => cases hln
              | cons x r => exact ⟨x, r, rfl⟩
            obtain ⟨b, off, hx, ea, hcs, kx⟩ := k.lst.get (i := 0) (t := x) rfl
            simp only [List.length_cons] at hln
            have ea' : h.a = some ⟨b, off, none⟩ := ea
            refine runO hC tabOk 60 ?_
            simp [go_sem, h0, h1, h2, h3, h4, hs, n1, n2, hln, ea']
            repeat ((first | refine condT rfl ?_ | refine condF rfl ?_ | refine skD hC rfl rfl rfl ?_); refine runO hC tabOk 60 ?_; simp [go_sem, h0, h1, h2, h3, h4, hs, n1, n2, hln, ea'])
            try (refine runO hC tabOk 60 ?_; simp [go_sem, h0, h1, h2, h3, h4, hs, n1, n2, hln, ea']; repeat ((first | refine condT rfl ?_ | refine condF rfl ?_ | refine skD hC rfl rfl rfl ?_); refine runO hC tabOk 60 ?_; simp [go_sem, h0, h1, h2, h3, h4, hs, n1, n2, hln, ea']))
            refine vo hC (vo_index hC tabOk rfl rfl rfl rfl rfl rfl (by omega) (by omega)) rfl rfl rfl ?_
            refine runO hC tabOk 60 ?_
            simp [go_sem]
            repeat ((first | refine condT rfl ?_ | refine condF rfl ?_ | refine skD hC rfl rfl rfl ?_); refine runO hC tabOk 60 ?_; simp [go_sem])
            refine vo hC (vo_load1 hC tabOk ((hcs.to (g' := _)).one 0 rfl) rfl rfl rfl rfl) rfl rfl rfl ?_
            refine runO hC tabOk 60 ?_
            simp [go_sem]
            repeat ((first | refine condT rfl ?_ | refine condF rfl ?_ | refine skD hC rfl rfl rfl ?_); refine runO hC tabOk 60 ?_; simp [go_sem])
            refine ret hC tabOk (fun _ => 1) rfl rfl fun m gf hl ex => ?_
            simp [retv, SV.val, SC.val, vals, shapeT, h0, h1, h2, h3, h4, hs, n1, n2, hln]
          · have hl' : ¬ (tl.length : Int) = 2 := by omega
            refine runO hC tabOk 60 ?_
            simp [go_sem, h0, h1, h2, h3, h4, hs, n1, n2, hln, hl']
            repeat ((first | refine condT rfl ?_ | refine condF rfl ?_ | refine skD hC rfl rfl rfl ?_); refine runO hC tabOk 60 ?_; simp [go_sem, h0, h1, h2, h3, h4, hs, n1, n2, hln, hl'])
            try (refine runO hC tabOk 60 ?_; simp [go_sem, h0, h1, h2, h3, h4, hs, n1, n2, hln, hl']; repeat ((first | refine condT rfl ?_ | refine condF rfl ?_ | refine skD hC rfl rfl rfl ?_); refine runO hC tabOk 60 ?_; simp [go_sem, h0, h1, h2, h3, h4, hs, n1, n2, hln, hl']))
            refine ret hC tabOk (fun _ => 1) rfl rfl fun m gf hl ex => ?_
            simp [retv, SV.val, SC.val, vals, shapeT, h0, h1, h2, h3, h4, hs, n1, n2, hln]
        · refine runO hC tabOk 60 ?_
          simp [go_sem, h0, h1, h2, h3, h4, hs, n1, n2]
          repeat ((first | refine condT rfl ?_ | refine condF rfl ?_ | refine skD hC rfl rfl rfl ?_); refine runO hC tabOk 60 ?_; simp [go_sem, h0, h1, h2, h3, h4, hs, n1, n2])
          try (refine runO hC tabOk 60 ?_; simp [go_sem, h0, h1, h2, h3, h4, hs, n1, n2]; repeat ((first | refine condT rfl ?_ | refine condF rfl ?_ | refine skD hC rfl rfl rfl ?_); refine runO hC tabOk 60 ?_; simp [go_sem, h0, h1, h2, h3, h4, hs, n1, n2]))
          refine ret hC tabOk (fun _ => 1) rfl rfl fun m gf hl ex => ?_
          simp [retv, SV.val, SC.val, vals, shapeT, h0, h1, h2, h3, h4, hs, n1, n2]
      · refine runO hC tabOk 60 ?_
        simp [go_sem, h0, h1, h2, h3, h4, hs, n1]
        repeat ((first | refine condT rfl ?_ | refine condF rfl ?_ | refine skD hC rfl rfl rfl ?_); refine runO hC tabOk 60 ?_; simp [go_sem, h0, h1, h2, h3, h4, hs, n1])
        try (refine runO hC tabOk 60 ?_; simp [go_sem, h0, h1, h2, h3, h4, hs, n1]; repeat ((first | refine condT rfl ?_ | refine condF rfl ?_ | refine skD hC rfl rfl rfl ?_); refine runO hC tabOk 60 ?_; simp [go_sem, h0, h1, h2, h3, h4, hs, n1]))
        refine ret hC tabOk (fun _ => 1) rfl rfl fun m gf hl ex => ?_
        simp [retv, SV.val, SC.val, vals, shapeT, h0, h1, h2, h3, h4, hs, n1]
    · refine runO hC tabOk 60 ?_
      simp [go_sem, h0, h1, h2, h3, h4, hs]
      repeat ((first | refine condT rfl ?_ | refine condF rfl ?_ | refine skD hC rfl rfl rfl ?_); refine runO hC tabOk 60 ?_; simp [go_sem, h0, h1, h2, h3, h4, hs])
      try (refine runO hC tabOk 60 ?_; simp [go_sem, h0, h1, h2, h3, h4, hs]; repeat ((first | refine condT rfl ?_ | refine condF rfl ?_ | refine skD hC rfl rfl rfl ?_); refine runO hC tabOk 60 ?_; simp [go_sem, h0, h1, h2, h3, h4, hs]))
      refine ret hC tabOk (fun _ => 1) rfl rfl fun m gf hl ex => ?_
      simp [retv, SV.val, SC.val, vals, shapeT, h0, h1, h2, h3, h4, hs]
  by_cases h5 : tk = 5
  · skip
    by_cases hs : ts = .empty
    · by_cases n1 : 1 ≤ tn
      · by_cases n2 : tn ≤ 255
        · by_cases hln : tl.length = 2
          · obtain ⟨x, r, rfl⟩ : ∃ x r, tl = x :: r := by
              cases tl with
              | nil => cases hln
              | cons x r => exact ⟨x, r, rfl⟩
            obtain ⟨b, off, hx, ea, hcs, kx⟩ := k.lst.get (i := 0) (t := x) rfl
            simp only [List.length_cons] at hln
            have ea' : h.a = some ⟨b, off, none⟩ := ea
            refine runO hC tabOk 60 ?_
            simp [go_sem, h0, h1, h2, h3, h4, h5, hs, n1, n2, hln, ea']
            repeat ((first | refine condT rfl ?_ | refine condF rfl ?_ | refine skD hC rfl rfl rfl ?_); refine runO hC tabOk 60 ?_; simp [go_sem, h0, h1, h2, h3, h4, h5, hs, n1, n2, hln, ea'])
            try (refine runO hC tabOk 60 ?_; simp [go_sem, h0, h1, h2, h3, h4, h5, hs, n1, n2, hln, ea']; repeat ((first | refine condT rfl ?_ | refine condF rfl ?_ | refine skD hC rfl rfl rfl ?_); refine runO hC tabOk 60 ?_; simp [go_sem, h0, h1, h2, h3, h4, h5, hs, n1, n2, hln, ea']))
            refine vo hC (vo_index hC tabOk rfl rfl rfl rfl rfl rfl (by omega) (by omega)) rfl rfl rfl ?_
            refine runO hC tabOk 60 ?_
            simp [go_sem]
            repeat ((first | refine condT rfl ?_ | refine condF rfl ?_ | refine skD hC rfl rfl rfl ?_); refine runO hC tabOk 60 ?_; simp [go_sem])
            refine vo hC (vo_load1 hC tabOk ((hcs.to (g' := _)).one 0 rfl) rfl rfl rfl rfl) rfl rfl rfl ?_
            refine runO hC tabOk 60 ?_
            simp [go_sem]
            repeat ((first | refine condT rfl ?_ | refine condF rfl ?_ | refine skD hC rfl rfl rfl ?_); refine runO hC tabOk 60 ?_; simp [go_sem])
            refine ret hC tabOk (fun _ => 1) rfl rfl fun m gf hl ex => ?_
            simp [retv, SV.val, SC.val, vals, shapeT, h0, h1, h2, h3, h4, h5, hs, n1, n2, hln]
          · have hl' : ¬ (tl.length : Int) = 2 := by omega
            refine runO hC tabOk 60 ?_
            simp [go_sem, h0, h1, h2, h3, h4, h5, hs, n1, n2, hln, hl']
            repeat ((first | refine condT rfl ?_ | refine condF rfl ?_ | refine skD hC rfl rfl rfl ?_); refine runO hC tabOk 60 ?_; simp [go_sem, h0, h1, h2, h3, h4, h5, hs, n1, n2, hln, hl'])
            try (refine runO hC tabOk 60 ?_; simp [go_sem, h0, h1, h2, h3, h4, h5, hs, n1, n2, hln, hl']; repeat ((first | refine condT rfl ?_ | refine condF rfl ?_ | refine skD hC rfl rfl rfl ?_); refine runO hC tabOk 60 ?_; simp [go_sem, h0, h1, h2, h3, h4, h5, hs, n1, n2, hln, hl']))
            refine ret hC tabOk (fun _ => 1) rfl rfl fun m gf hl ex => ?_
            simp [retv, SV.val, SC.val, vals, shapeT, h0, h1, h2, h3, h4, h5, hs, n1, n2, hln]
        · refine runO hC tabOk 60 ?_
          simp [go_sem, h0, h1, h2, h3, h4, h5, hs, n1, n2]
          repeat ((first | refine condT rfl ?_ | refine condF rfl ?_ | refine skD hC rfl rfl rfl ?_); refine runO hC tabOk 60 ?_; simp [go_sem, h0, h1, h2, h3, h4, h5, hs, n1, n2])
          try (refine runO hC tabOk 60 ?_; simp [go_sem, h0, h1, h2, h3, h4, h5, hs, n1, n2]; repeat ((first | refine condT rfl ?_ | refine condF rfl ?_ | refine skD hC rfl rfl rfl ?_); refine runO hC tabOk 60 ?_; simp [go_sem, h0, h1, h2, h3, h4, h5, hs, n1, n2]))
          refine ret hC tabOk (fun _ => 1) rfl rfl fun m gf hl ex => ?_
          simp [retv, SV.val, SC.val, vals, shapeT, h0, h1, h2, h3, h4, h5, hs, n1, n2]
      · refine runO hC tabOk 60 ?_
        simp [go_sem, h0, h1, h2, h3, h4, h5, hs, n1]
        repeat ((first | refine condT rfl ?_ | refine condF rfl ?_ | refine skD hC rfl rfl rfl ?_); refine runO hC tabOk 60 ?_; simp [go_sem, h0, h1, h2, h3, h4, h5, hs, n1])
        try (refine runO hC tabOk 60 ?_; simp [go_sem, h0, h1, h2, h3, h4, h5, hs, n1]; repeat ((first | refine condT rfl ?_ | refine condF rfl ?_ | refine skD hC rfl rfl rfl ?_); refine runO hC tabOk 60 ?_; simp [go_sem, h0, h1, h2, h3, h4, h5, hs, n1]))
        refine ret hC tabOk (fun _ => 1) rfl rfl fun m gf hl ex => ?_
        simp [retv, SV.val, SC.val, vals, shapeT, h0, h1, h2, h3, h4, h5, hs, n1]
    · refine runO hC tabOk 60 ?_
      simp [go_sem, h0, h1, h2, h3, h4, h5, hs]
      repeat ((first | refine condT rfl ?_ | refine condF rfl ?_ | refine skD hC rfl rfl rfl ?_); refine runO hC tabOk 60 ?_; simp [go_sem, h0, h1, h2, h3, h4, h5, hs])
      try (refine runO hC tabOk 60 ?_; simp [go_sem, h0, h1, h2, h3, h4, h5, hs]; repeat ((first | refine condT rfl ?_ | refine condF rfl ?_ | refine skD hC rfl rfl rfl ?_); refine runO hC tabOk 60 ?_; simp [go_sem, h0, h1, h2, h3, h4, h5, hs]))
      refine ret hC tabOk (fun _ => 1) rfl rfl fun m gf hl ex => ?_
      simp [retv, SV.val, SC.val, vals, shapeT, h0, h1, h2, h3, h4, h5, hs]
  refine runO hC tabOk 60 ?_
  simp [go_sem, h0, h1, h2, h3, h4, h5]
  repeat ((first | refine condT rfl ?_ | refine condF rfl ?_ | refine skD hC rfl rfl rfl ?_); refine runO hC tabOk 60 ?_; simp [go_sem, h0, h1, h2, h3, h4, h5])
  try (refine runO hC tabOk 60 ?_; simp [go_sem, h0, h1, h2, h3, h4, h5]; repeat ((first | refine condT rfl ?_ | refine condF rfl ?_ | refine skD hC rfl rfl rfl ?_); refine runO hC tabOk 60 ?_; simp [go_sem, h0, h1, h2, h3, h4, h5]))
  refine ret hC tabOk (fun _ => 1) rfl rfl fun m gf hl ex => ?_
  simp [retv, SV.val, SC.val, vals, shapeT, h0, h1, h2, h3, h4, h5]

mutual
/-- May a term be, so deep? -/
def validT : Int → T → Bool
  | deep, .mk k s n l => decide (deep ≤ 16) && shapeT (.mk k s n l) && validTs (deep + 1) l
def validTs : Int → List T → Bool
  | _, [] => true
  | d, a :: l => validT d a && validTs d l
end

theorem validTs_all (d : Int) : ∀ l : List T, validTs d l = l.all (validT d)
  | [] => rfl
  | a :: l => by simp [validTs, validTs_all d l]

def AllV (p : T → Bool) (l : List T) (i : Nat) : Prop := (l.take i).all p = true
theorem AllV.zero (p : T → Bool) (l : List T) : AllV p l 0 := rfl
theorem AllV.succ {p : T → Bool} {l : List T} {i : Nat} (h : AllV p l i) (hi : i < l.length) (hn : p l[i] = true) : AllV p l (i + 1) := by
  unfold AllV at *
  rw [List.take_succ_eq_append_getElem hi, List.all_append, h]
  simp [hn]

/-- What stands where a closure looks. -/
abbrev Deep (g : G) (b : Nat) (d : Int) : Prop := Cs g 50 b 0 [.int .i64 d]

/-- The closure's contract, over a list. -/
def Clo (d : Int) (l : List T) : Prop := ∀ x ∈ l, ∀ (hx : Hd) (b : Nat) (g : G), TOk g x hx → Deep g b d → Ok Tryz.prog 284 [tv x hx, .pointer (some ⟨b, 0, none⟩)] g [] (fun v _ => v = .bool (!validT (d + 1) x))

theorem idx298 (l : List T) (h : Hd) (d : Int) (b : Nat) (hc : Clo d l) (g : G) (k : LOk g l h) (kd : Deep g b d) : Ok Tryz.prog 298 [.slice h.a l.length h.cap, .func (.func 284) #[] #[.pointer (some ⟨b, 0, none⟩)]] g [] (fun v _ => ∃ i : Int, v = .int .i64 i ∧ decide (0 ≤ i) = !(l.all (validT (d + 1)))) := by
  have hl : l.length ≤ 9223372036854775807 := Nat.le_trans k.len k.cap
  refine fbegin Tryz.func298 rfl Tryz.ntmps298 (Nat.le_of_ble_eq_true rfl) fun C hw hC => ?_
  refine runO hC tabOk 60 ?_
  simp [go_sem]
  repeat ((first | refine condT rfl ?_ | refine condF rfl ?_ | refine skD hC rfl rfl rfl ?_); refine runO hC tabOk 60 ?_; simp [go_sem])
  refine small (fun _ => 1) rfl fun m0 gL p0 e0 => ⟨⟨(fun (x : Nat × G) => [(8, .c (.v (.int .i64 x.1))), (7, .c (.v (.int .i64 l.length))), (0, .c (.v (.slice h.a l.length h.cap))), (1, .c (.v (.func (.func 284) #[] #[.pointer (some ⟨b, 0, none⟩)])))]) ((0, gL)), [], (fun _ => []) ((0, gL)), [], 0⟩, ⟨by simp [go_sem], by simp [go_sem], rfl, by simp [go_sem], by simp [go_sem], ⟨_, rfl⟩⟩, by simp, ?_⟩
  refine loop (ι := Nat × G) (fun x => x.1 ≤ l.length ∧ AllV (validT (d + 1)) l x.1 ∧ Keeps [1] g x.2) (fun x => x.2)
    (fun x => ⟨(fun (x : Nat × G) => [(8, .c (.v (.int .i64 x.1))), (7, .c (.v (.int .i64 l.length))), (0, .c (.v (.slice h.a l.length h.cap))), (1, .c (.v (.func (.func 284) #[] #[.pointer (some ⟨b, 0, none⟩)])))]) x, [], (fun _ => []) x, [], 0⟩) (fun x => l.length - x.1) (fun ⟨i, g'⟩ ⟨hi, hc2, hk⟩ => ?_) ((0, gL)) (⟨Nat.zero_le _, AllV.zero _ l, p0.ks⟩)
  dsimp only at hi hc2 hk ⊢
  haveI : Later g g' := .of hk (by first | (simp; done) | (simp; omega))
  refine runO hC tabOk 60 ?_
  simp [go_sem]
  repeat ((first | refine condT rfl ?_ | refine condF rfl ?_ | refine skD hC rfl rfl rfl ?_); refine runO hC tabOk 60 ?_; simp [go_sem])
  refine sg_cond rfl (fun h1 => ?_) (fun h1 => ?_)
  · simp at h1
    obtain ⟨b2, off, hx, ea, hcs, kx⟩ := (k.to (g' := g')).get (List.getElem?_eq_getElem h1)
    rw [ea]
    refine runO hC tabOk 60 ?_
    simp [go_sem]
    repeat ((first | refine condT rfl ?_ | refine condF rfl ?_ | refine skD hC rfl rfl rfl ?_); refine runO hC tabOk 60 ?_; simp [go_sem])
    refine vo hC (vo_index hC tabOk rfl rfl rfl rfl rfl rfl (by omega) (by omega)) rfl rfl rfl ?_
    refine runO hC tabOk 60 ?_
    simp [go_sem]
    repeat ((first | refine condT rfl ?_ | refine condF rfl ?_ | refine skD hC rfl rfl rfl ?_); refine runO hC tabOk 60 ?_; simp [go_sem])
    refine vo hC (vo_load hC tabOk hcs rfl rfl rfl rfl rfl) rfl rfl rfl ?_
    refine runO hC tabOk 60 ?_
    simp [go_sem]
    repeat ((first | refine condT rfl ?_ | refine condF rfl ?_ | refine skD hC rfl rfl rfl ?_); refine runO hC tabOk 60 ?_; simp [go_sem])
    refine callv hC [] 1 rfl rfl rfl rfl (by kernel_rfl) rfl rfl rfl rfl fun m5 g5 w5 p5 e5 => ⟨_, hc l[i] (by simp) hx b _ kx.to ((kd.ks hk (by first | (simp; done) | (simp; omega))).ks Kp.ks (by first | (simp; done) | (simp; omega))), fun v5 j5 u5 q5 s5 hv5 r5 => ?_⟩
    subst hv5
    cases hn : validT (d + 1) l[i] with
    | false =>
      refine runO hC tabOk 60 ?_
      simp [go_sem]
      repeat ((first | refine condT rfl ?_ | refine condF rfl ?_ | refine skD hC rfl rfl rfl ?_); refine runO hC tabOk 60 ?_; simp [go_sem])
      refine ret hC tabOk (fun _ => 1) rfl rfl fun m gf hl ex => ?_
      refine ⟨i, rfl, ?_⟩
      have e1 : decide (0 ≤ (i : Int)) = true := by simp
      have e2 : l.all (validT (d + 1)) = false := by rw [List.all_eq_false]; exact ⟨l[i], by simp, by simp [hn]⟩
      rw [e1, e2]; rfl
    | true =>
      refine runO hC tabOk 60 ?_
      simp [go_sem]
      repeat ((first | refine condT rfl ?_ | refine condF rfl ?_ | refine skD hC rfl rfl rfl ?_); refine runO hC tabOk 60 ?_; simp [go_sem])
      refine again (fun _ => 1) fun m8 g8 p8 e8 => ⟨(i + 1, g8), ?_, ?_, rfl, ⟨by simp [go_sem], by simp [go_sem, ea, wrap_inc (show i + 1 ≤ 9223372036854775807 by omega)], rfl, by simp [go_sem], by simp [go_sem], ⟨_, rfl⟩⟩, by simp [go_sem]⟩
      · exact ⟨h1, hc2.succ h1 hn, hk.then (by simp)⟩
      · dsimp only; omega
  · simp at h1
    refine runO hC tabOk 60 ?_
    simp [go_sem]
    repeat ((first | refine condT rfl ?_ | refine condF rfl ?_ | refine skD hC rfl rfl rfl ?_); refine runO hC tabOk 60 ?_; simp [go_sem])
    refine ret hC tabOk (fun _ => 1) rfl rfl fun m gf hl ex => ?_
    have e : i = l.length := by omega
    subst e
    unfold AllV at hc2
    rw [List.take_length] at hc2
    refine ⟨-1, rfl, ?_⟩
    rw [hc2]; rfl

theorem any283 (l : List T) (h : Hd) (d : Int) (b : Nat) (hc : Clo d l) (g : G) (k : LOk g l h) (kd : Deep g b d) : Ok Tryz.prog 283 [.slice h.a l.length h.cap, .func (.func 284) #[] #[.pointer (some ⟨b, 0, none⟩)]] g [] (fun v _ => v = .bool (!(l.all (validT (d + 1))))) := by
  refine fbegin Tryz.func283 rfl Tryz.ntmps283 (Nat.le_of_ble_eq_true rfl) fun C hw hC => ?_
  refine runO hC tabOk 60 ?_
  simp [go_sem]
  repeat ((first | refine condT rfl ?_ | refine condF rfl ?_ | refine skD hC rfl rfl rfl ?_); refine runO hC tabOk 60 ?_; simp [go_sem])
  refine call hC [] (by kernel_rfl) rfl rfl rfl rfl rfl fun m1 g1 p1 e1 => ⟨_, idx298 l h d b hc _ k.to (kd.ks Kp.ks (by first | (simp; done) | (simp; omega))), fun v1 u1 q1 s1 hv1 => ?_⟩
  obtain ⟨i, rfl, hi⟩ := hv1
  refine runO hC tabOk 60 ?_
  simp [go_sem]
  repeat ((first | refine condT rfl ?_ | refine condF rfl ?_ | refine skD hC rfl rfl rfl ?_); refine runO hC tabOk 60 ?_; simp [go_sem])
  refine ret hC tabOk (fun _ => 1) rfl rfl fun m gf hl ex => ?_
  simp [retv, SV.val, SC.val, vals]
  simpa using hi

theorem valid249 (t : T) : ∀ (h : Hd) (d : Int) (g : G), 0 ≤ d → TOk g t h → Ok Tryz.prog 249 [tv t h, .int .i64 d] g [] (fun v _ => v = .bool (validT d t)) := by
  induction t using T.induct with
  | h tk ts tn tl ih =>
  intro h d g hd0 k
  have hclo : ∀ hd : d ≤ 16, Clo d tl := by
    intro hd16 x hx hh b g' kx kd
    have w1 : IntKind.i64.wrap (d + 1) = d + 1 := by rw [IntKind.wrap_i64]; omega
    refine fbegin Tryz.func284 rfl Tryz.ntmps284 (Nat.le_of_ble_eq_true rfl) fun C hw hC => ?_
    refine runO hC tabOk 60 ?_
    simp [go_sem]
    repeat ((first | refine condT rfl ?_ | refine condF rfl ?_ | refine skD hC rfl rfl rfl ?_); refine runO hC tabOk 60 ?_; simp [go_sem])
    refine vo hC (vo_load1 hC tabOk (kd.ks Kp.ks (by first | (simp; done) | (simp; omega))) rfl rfl rfl rfl) rfl rfl rfl ?_
    refine runO hC tabOk 60 ?_
    simp [go_sem, w1]
    repeat ((first | refine condT rfl ?_ | refine condF rfl ?_ | refine skD hC rfl rfl rfl ?_); refine runO hC tabOk 60 ?_; simp [go_sem, w1])
    try (refine runO hC tabOk 60 ?_; simp [go_sem, w1]; repeat ((first | refine condT rfl ?_ | refine condF rfl ?_ | refine skD hC rfl rfl rfl ?_); refine runO hC tabOk 60 ?_; simp [go_sem, w1]))
    refine call hC [] (by kernel_rfl) rfl rfl rfl rfl rfl fun m2 g2 p2 e2 => ⟨_, ih x hx hh (d + 1) _ (by omega) kx.to, fun v2 u2 q2 s2 hv2 => ?_⟩
    subst hv2
    refine runO hC tabOk 60 ?_
    simp [go_sem]
    repeat ((first | refine condT rfl ?_ | refine condF rfl ?_ | refine skD hC rfl rfl rfl ?_); refine runO hC tabOk 60 ?_; simp [go_sem])
    refine ret hC tabOk (fun _ => 1) rfl rfl fun m gf hl ex => ?_
    simp [retv, SV.val, SC.val, vals]
  have hall : validT d (.mk tk ts tn tl) = (decide (d ≤ 16) && shapeT (.mk tk ts tn tl) && tl.all (validT (d + 1))) := by
    rw [validT, validTs_all]
  rw [hall]
  refine fbegin Tryz.func249 rfl Tryz.ntmps249 (Nat.le_of_ble_eq_true rfl) fun C hw hC => ?_
  refine runO hC tabOk 60 ?_
  simp [go_sem]
  repeat ((first | refine condT rfl ?_ | refine condF rfl ?_ | refine skD hC rfl rfl rfl ?_); refine runO hC tabOk 60 ?_; simp [go_sem])
  by_cases h1 : d ≤ 16
  · refine runO hC tabOk 60 ?_
    simp [go_sem, h1]
    repeat ((first | refine condT rfl ?_ | refine condF rfl ?_ | refine skD hC rfl rfl rfl ?_); refine runO hC tabOk 60 ?_; simp [go_sem, h1])
    try (refine runO hC tabOk 60 ?_; simp [go_sem, h1]; repeat ((first | refine condT rfl ?_ | refine condF rfl ?_ | refine skD hC rfl rfl rfl ?_); refine runO hC tabOk 60 ?_; simp [go_sem, h1]))
    refine call hC [] (by kernel_rfl) rfl rfl rfl rfl rfl fun m1 g1 p1 e1 => ⟨_, shape282 (.mk tk ts tn tl) h _ k.to, fun v1 u1 q1 s1 hv1 => ?_⟩
    subst hv1
    cases h2 : shapeT (.mk tk ts tn tl) with
    | false =>
      refine runO hC tabOk 60 ?_
      simp [go_sem]
      repeat ((first | refine condT rfl ?_ | refine condF rfl ?_ | refine skD hC rfl rfl rfl ?_); refine runO hC tabOk 60 ?_; simp [go_sem])
      refine ret hC tabOk (fun _ => 1) rfl rfl fun m gf hl ex => ?_
      simp [retv, SV.val, SC.val, vals, h1, h2]
    | true =>
    refine runO hC tabOk 60 ?_
    simp [go_sem]
    repeat ((first | refine condT rfl ?_ | refine condF rfl ?_ | refine skD hC rfl rfl rfl ?_); refine runO hC tabOk 60 ?_; simp [go_sem])
    refine callv hC [] 50 rfl rfl rfl rfl (by kernel_rfl) rfl rfl rfl rfl fun m3 g3 w3 p3 e3 => ⟨_, any283 tl h d _ (hclo h1) _ (k.to).lst ((e3.ob (i := 1) rfl).all), fun v3 j3 u3 q3 s3 hv3 r3 => ?_⟩
    subst hv3
    refine runO hC tabOk 60 ?_
    simp [go_sem]
    repeat ((first | refine condT rfl ?_ | refine condF rfl ?_ | refine skD hC rfl rfl rfl ?_); refine runO hC tabOk 60 ?_; simp [go_sem])
    refine ret hC tabOk (fun _ => 1) rfl rfl fun m gf hl ex => ?_
    simp [retv, SV.val, SC.val, vals, h1, h2]
  · refine runO hC tabOk 60 ?_
    simp [go_sem, h1]
    repeat ((first | refine condT rfl ?_ | refine condF rfl ?_ | refine skD hC rfl rfl rfl ?_); refine runO hC tabOk 60 ?_; simp [go_sem, h1])
    try (refine runO hC tabOk 60 ?_; simp [go_sem, h1]; repeat ((first | refine condT rfl ?_ | refine condF rfl ?_ | refine skD hC rfl rfl rfl ?_); refine runO hC tabOk 60 ?_; simp [go_sem, h1]))
    refine ret hC tabOk (fun _ => 1) rfl rfl fun m gf hl ex => ?_
    simp [retv, SV.val, SC.val, vals, h1]

theorem tvalid191 (t : T) (h : Hd) (g : G) (k : TOk g t h) : Ok Tryz.prog 191 [tv t h] g [] (fun v _ => v = .bool (validT 0 t)) := by
  refine fbegin Tryz.func191 rfl Tryz.ntmps191 (Nat.le_of_ble_eq_true rfl) fun C hw hC => ?_
  refine runO hC tabOk 60 ?_
  simp [go_sem]
  repeat ((first | refine condT rfl ?_ | refine condF rfl ?_ | refine skD hC rfl rfl rfl ?_); refine runO hC tabOk 60 ?_; simp [go_sem])
  refine call hC [] (by kernel_rfl) rfl rfl rfl rfl rfl fun m1 g1 p1 e1 => ⟨_, valid249 t h 0 _ (Int.le_refl _) k.to, fun v1 u1 q1 s1 hv1 => ?_⟩
  subst hv1
  refine runO hC tabOk 60 ?_
  simp [go_sem]
  repeat ((first | refine condT rfl ?_ | refine condF rfl ?_ | refine skD hC rfl rfl rfl ?_); refine runO hC tabOk 60 ?_; simp [go_sem])
  refine ret hC tabOk (fun _ => 1) rfl rfl fun m gf hl ex => ?_
  simp [retv, SV.val, SC.val, vals]
end Go.Proofs.YtobhfopgoidniaaGreat
