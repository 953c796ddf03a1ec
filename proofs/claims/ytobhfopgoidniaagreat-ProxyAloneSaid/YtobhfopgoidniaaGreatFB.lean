/- Principals: copied. Principals: valid. Principals: valid; the store. The store of principals. The store: asked. The document's store. The document's store: one more. Both stores. -/
import Derived.Test.YtobhfopgoidniaaGreatFA
set_option linter.all false
set_option linter.unusedVariables false
set_option linter.unusedSimpArgs false

/- Principals: copied. -/
namespace Go.Proofs.YtobhfopgoidniaaGreat
open Go Go.Eng

theorem one_all {α : Type} {c : α → Value} (hc : ∀ x, (c x).oneCell' = true) (l : List α) : ∀ u ∈ l.map c, u.oneCell' = true := by
  intro u hu
  obtain ⟨x, _, rfl⟩ := List.mem_map.1 hu
  exact hc x

theorem clone215 (l : List ByteArray) (h : Hd) (g : G) (o lbl : Nat) (ho : o ≠ 1) (hlb : lbl ≠ 1) (k : StrsOk g o l h) (hn : l.length ≤ 2199023255552) : Ok Tryz.prog 215 [.slice h.a l.length h.cap] g [] (fun v g' => ∃ h' : Hd, v = .slice h'.a l.length h'.cap ∧ StrsOk g' lbl l h') := by
  refine fbegin Tryz.func215 rfl Tryz.ntmps215 (Nat.le_of_ble_eq_true rfl) fun C hw hC => ?_
  refine runO hC tabOk 60 ?_
  simp [go_sem]
  repeat ((first | refine condT rfl ?_ | refine condF rfl ?_ | refine skD hC rfl rfl rfl ?_); refine runO hC tabOk 60 ?_; simp [go_sem])
  refine vo hC (vo_bin hC rfl rfl rfl (run_slnil Tryz.prog Tryz.underlying37 _ _ _ _ _)) rfl rfl rfl ?_
  refine runO hC tabOk 60 ?_
  simp [go_sem]
  repeat ((first | refine condT rfl ?_ | refine condF rfl ?_ | refine skD hC rfl rfl rfl ?_); refine runO hC tabOk 60 ?_; simp [go_sem])
  refine sg_cond rfl (fun h1 => ?_) (fun h1 => ?_)
  · simp at h1
    refine runO hC tabOk 60 ?_
    simp [go_sem]
    repeat ((first | refine condT rfl ?_ | refine condF rfl ?_ | refine skD hC rfl rfl rfl ?_); refine runO hC tabOk 60 ?_; simp [go_sem])
    refine ret hC tabOk (fun _ => 1) rfl rfl fun m gf hl ex => ?_
    obtain rfl := k.one.isnil h1
    exact ⟨⟨none, 0⟩, rfl, ⟨.inl rfl, Nat.le_refl _, by simp [maxLen]⟩, by simp⟩
  · simp at h1
    refine runO hC tabOk 60 ?_
    simp [go_sem]
    repeat ((first | refine condT rfl ?_ | refine condF rfl ?_ | refine skD hC rfl rfl rfl ?_); refine runO hC tabOk 60 ?_; simp [go_sem])
    refine app hC 99 g.w.heap.size 16 tabOk rfl (.inr rfl) rfl rfl rfl rfl rfl rfl (by kernel_rfl) rfl rfl rfl fun m1 g1 p1 e1 => ?_
    refine ⟨0, [], l.length, l.map sc, h.a, h.cap, ⟨rfl, .inl ⟨_, rfl, rfl⟩⟩, rfl, (k.ks p1.ks (by simp; exact ho)).one.row.rd, ?_, one_all (fun _ => rfl) l, ?_, ?_, fun v g2 g3 p2 p3 hv => ?_⟩
    · simp
    · simp [maxLen]; omega
    · omega
    refine relab hC 99 lbl rfl rfl fun g4 p4 hw4 ho4 => ?_
    obtain ⟨h', e2, hk'⟩ := OOk.of (c := sc) (l := l) ((show OwnRow g3 _ 99 9 1 v (0 + l.length) (l.map sc) from by simpa using hv).give hw4 ho4) (by simp)
    subst e2
    refine runO hC tabOk 60 ?_
    simp [go_sem]
    repeat ((first | refine condT rfl ?_ | refine condF rfl ?_ | refine skD hC rfl rfl rfl ?_); refine runO hC tabOk 60 ?_; simp [go_sem])
    refine ret hC tabOk (fun _ => 1) rfl rfl fun m gf hl ex => ?_
    exact ⟨h', rfl, hk'.ks hl.ks (by simp; exact hlb), k.str⟩

theorem clone216 (l : List Int) (h : Hd) (g : G) (o lbl : Nat) (ho : o ≠ 1) (hlb : lbl ≠ 1) (k : OOk ic g o l h) (hn : l.length ≤ 2199023255552) : Ok Tryz.prog 216 [.slice h.a l.length h.cap] g [] (fun v g' => ∃ h' : Hd, v = .slice h'.a l.length h'.cap ∧ OOk ic g' lbl l h') := by
  refine fbegin Tryz.func216 rfl Tryz.ntmps216 (Nat.le_of_ble_eq_true rfl) fun C hw hC => ?_
  refine runO hC tabOk 60 ?_
  simp [go_sem]
  repeat ((first | refine condT rfl ?_ | refine condF rfl ?_ | refine skD hC rfl rfl rfl ?_); refine runO hC tabOk 60 ?_; simp [go_sem])
  refine vo hC (vo_bin hC rfl rfl rfl (run_slnil Tryz.prog Tryz.underlying38 _ _ _ _ _)) rfl rfl rfl ?_
  refine runO hC tabOk 60 ?_
  simp [go_sem]
  repeat ((first | refine condT rfl ?_ | refine condF rfl ?_ | refine skD hC rfl rfl rfl ?_); refine runO hC tabOk 60 ?_; simp [go_sem])
  refine sg_cond rfl (fun h1 => ?_) (fun h1 => ?_)
  · simp at h1
    refine runO hC tabOk 60 ?_
    simp [go_sem]
    repeat ((first | refine condT rfl ?_ | refine condF rfl ?_ | refine skD hC rfl rfl rfl ?_); refine runO hC tabOk 60 ?_; simp [go_sem])
    refine ret hC tabOk (fun _ => 1) rfl rfl fun m gf hl ex => ?_
    obtain rfl := k.isnil h1
    exact ⟨⟨none, 0⟩, rfl, .inl rfl, Nat.le_refl _, by simp [maxLen]⟩
  · simp at h1
    refine runO hC tabOk 60 ?_
    simp [go_sem]
    repeat ((first | refine condT rfl ?_ | refine condF rfl ?_ | refine skD hC rfl rfl rfl ?_); refine runO hC tabOk 60 ?_; simp [go_sem])
    refine app hC 99 g.w.heap.size 8 tabOk rfl (.inr rfl) rfl rfl rfl rfl rfl rfl (by kernel_rfl) rfl rfl rfl fun m1 g1 p1 e1 => ?_
    refine ⟨0, [], l.length, l.map ic, h.a, h.cap, ⟨rfl, .inl ⟨_, rfl, rfl⟩⟩, rfl, (k.ks p1.ks (by simp; exact ho)).row.rd, ?_, one_all (fun _ => rfl) l, ?_, ?_, fun v g2 g3 p2 p3 hv => ?_⟩
    · simp
    · simp [maxLen]; omega
    · omega
    refine relab hC 99 lbl rfl rfl fun g4 p4 hw4 ho4 => ?_
    obtain ⟨h', e2, hk'⟩ := OOk.of (c := ic) (l := l) ((show OwnRow g3 _ 99 3 1 v (0 + l.length) (l.map ic) from by simpa using hv).give hw4 ho4) (by simp)
    subst e2
    refine runO hC tabOk 60 ?_
    simp [go_sem]
    repeat ((first | refine condT rfl ?_ | refine condF rfl ?_ | refine skD hC rfl rfl rfl ?_); refine runO hC tabOk 60 ?_; simp [go_sem])
    refine ret hC tabOk (fun _ => 1) rfl rfl fun m gf hl ex => ?_
    exact ⟨h', rfl, hk'.ks hl.ks (by simp; exact hlb)⟩

theorem copied126 (p : Pr) (h : PH) (g : G) (o lbl : Nat) (ho : o ≠ 1) (hlb : lbl ≠ 1) (k : POk g o p h) (h1 : p.al.length ≤ 2199023255552) (h2 : p.ac.length ≤ 2199023255552) (h3 : p.gr.length ≤ 2199023255552) :
    Ok Tryz.prog 126 [ppv p h] g [] (fun v g' => ∃ h' : PH, v = ppv p h' ∧ POk g' lbl p h') := by
  have ho' : o ∉ [1] := by simpa using ho
  have hl' : lbl ∉ [1] := by simpa using hlb
  refine fbegin Tryz.func126 rfl Tryz.ntmps126 (Nat.le_of_ble_eq_true rfl) fun C hw hC => ?_
  refine runO hC tabOk 60 ?_
  simp [go_sem]
  repeat ((first | refine condT rfl ?_ | refine condF rfl ?_ | refine skD hC rfl rfl rfl ?_); refine runO hC tabOk 60 ?_; simp [go_sem])
  refine draw hC [(0, 0), (1, 0), (3, 0), (4, 0), (6, 0), (7, 0), (2, 1), (9, 0), (5, 1), (8, 1)] [10, 11, 12, 13, 14] mix (by kernel_rfl) ?_
  refine runO hC tabOk 60 ?_
  simp [go_sem]
  repeat ((first | refine condT rfl ?_ | refine condF rfl ?_ | refine skD hC rfl rfl rfl ?_); refine runO hC tabOk 60 ?_; simp [go_sem])
  refine callD hC [] (by kernel_rfl) rfl rfl rfl rfl rfl rfl rfl rfl fun m1 g1 p1 e1 => ⟨_, clone215 p.al h.al _ o lbl ho hlb (k.al.ks p1.ks ho') h1, fun v1 u1 q1 s1 hv1 => ?_⟩
  obtain ⟨a1, rfl, k1⟩ := hv1
  refine runO hC tabOk 60 ?_
  simp [go_sem]
  repeat ((first | refine condT rfl ?_ | refine condF rfl ?_ | refine skD hC rfl rfl rfl ?_); refine runO hC tabOk 60 ?_; simp [go_sem])
  refine callD hC [] (by kernel_rfl) rfl rfl rfl rfl rfl rfl rfl rfl fun m2 g2 p2 e2 => ⟨_, clone215 p.ac h.ac _ o lbl ho hlb (k.ac.ks ((((p1.ks.trans q1.ks).trans p2.ks)).mono (L' := [1]) (by simp)) ho') h2, fun v2 u2 q2 s2 hv2 => ?_⟩
  obtain ⟨a2, rfl, k2⟩ := hv2
  refine runO hC tabOk 60 ?_
  simp [go_sem]
  repeat ((first | refine condT rfl ?_ | refine condF rfl ?_ | refine skD hC rfl rfl rfl ?_); refine runO hC tabOk 60 ?_; simp [go_sem])
  refine callD hC [] (by kernel_rfl) rfl rfl rfl rfl rfl rfl rfl rfl fun m3 g3 p3 e3 => ⟨_, clone216 p.gr h.gr _ o lbl ho hlb (k.gr.ks ((((((p1.ks.trans q1.ks).trans p2.ks)).trans q2.ks).trans p3.ks).mono (L' := [1]) (by simp)) ho') h3, fun v3 u3 q3 s3 hv3 => ?_⟩
  obtain ⟨a3, rfl, k3⟩ := hv3
  refine runO hC tabOk 60 ?_
  simp [go_sem]
  repeat ((first | refine condT rfl ?_ | refine condF rfl ?_ | refine skD hC rfl rfl rfl ?_); refine runO hC tabOk 60 ?_; simp [go_sem])
  refine ret hC tabOk (fun _ => 1) rfl rfl fun m gf hl ex => ?_
  refine ⟨⟨a1, a2, a3⟩, rfl, ?_, ?_, ?_, k.nm⟩
  · exact k1.ks (Keeps.mono (L' := [1]) ((p2.ks.trans q2.ks).trans ((p3.ks.trans q3.ks).trans hl.ks)) (by simp)) hl'
  · exact k2.ks (Keeps.mono (L' := [1]) ((p3.ks.trans q3.ks).trans hl.ks) (by simp)) hl'
  · exact k3.ks hl.ks hl'
end Go.Proofs.YtobhfopgoidniaaGreat

/- Principals: valid. -/
namespace Go.Proofs.YtobhfopgoidniaaGreat
open Go Go.Eng

/-- Names, each once, so many at most. -/
def namesB (l : List ByteArray) : Bool := l.all nameS && decide l.Nodup && decide (l.length ≤ 50)

def metM (l : List ByteArray) : List (ByteArray × Value) := l.map fun s => (s, Value.bool true)

theorem mget_of (l : List ByteArray) (k : ByteArray) : (mget (metM l) k).getD (.bool false) = .bool (decide (k ∈ l)) := by
  induction l with
  | nil => rfl
  | cons a l ih =>
    simp only [metM, List.map_cons, mget]
    by_cases h : k = a
    · simp [h]
    · rw [if_neg h]; unfold metM at ih; rw [ih]
      simp [h]

theorem mput_of (l : List ByteArray) (k : ByteArray) (h : k ∉ l) : mput (metM l) k (.bool true) = metM (l ++ [k]) := by
  induction l with
  | nil => rfl
  | cons a l ih =>
    simp only [List.mem_cons, not_or] at h
    unfold metM at ih ⊢
    simp only [List.map_cons, mput, if_neg h.1, List.cons_append, ih h.2]

theorem nodup_take {α : Type} {l : List α} (h : l.Nodup) {i : Nat} (hi : i < l.length) : l[i] ∉ l.take i := by
  have h1 : (l.take (i + 1)).Nodup := h.sublist (List.take_sublist _ _)
  rw [List.take_succ_eq_append_getElem hi, List.nodup_append] at h1
  exact fun hm => h1.2.2 _ hm _ (by simp) rfl

theorem names265 (l : List ByteArray) (h : Hd) (g : G) (o : Nat) (ho : o ≠ 1) (ho2 : o ≠ 99) (k : StrsOk g o l h) : Ok Tryz.prog 265 [.slice h.a l.length h.cap] g [] (fun v _ => v = .bool (namesB l)) := by
  have hl : l.length ≤ 9223372036854775807 := Nat.le_trans k.one.len k.one.cap
  have ho' : o ∉ [1, 99] := by simp [ho, ho2]
  refine fbegin Tryz.func265 rfl Tryz.ntmps265 (Nat.le_of_ble_eq_true rfl) fun C hw hC => ?_
  refine runO hC tabOk 60 ?_
  simp [go_sem]
  repeat ((first | refine condT rfl ?_ | refine condF rfl ?_ | refine skD hC rfl rfl rfl ?_); refine runO hC tabOk 60 ?_; simp [go_sem])
  refine mkmap hC 99 rfl rfl rfl rfl fun m1 g1 p1 e1 b g2 g3 p2 p3 hb hm => ?_
  refine runO hC tabOk 60 ?_
  simp [go_sem]
  repeat ((first | refine condT rfl ?_ | refine condF rfl ?_ | refine skD hC rfl rfl rfl ?_); refine runO hC tabOk 60 ?_; simp [go_sem])
  refine small (fun _ => 1) rfl fun m0 gL p0 e0 => ⟨⟨(fun (x : Nat × G) => [(9, .c (.v (.int .i64 x.1))), (8, .c (.v (.int .i64 l.length))), (7, .c (.v (.slice h.a l.length h.cap))), (3, .c (.v (.map (some b)))), (0, .c (.v (.slice h.a l.length h.cap)))]) ((0, gL)), [], (fun _ => []) ((0, gL)), [], 0⟩, ⟨by simp [go_sem], by simp [go_sem], rfl, by simp [go_sem], by simp [go_sem], ⟨_, rfl⟩⟩, by simp, ?_⟩
  refine loop (ι := Nat × G) (fun x => x.1 ≤ l.length ∧ (∀ s, s ∈ l.take x.1 → nameS s = true) ∧ (l.take x.1).Nodup ∧ Mp x.2 99 b (metM (l.take x.1)) ∧ Keeps [1, 99] g x.2) (fun x => x.2)
    (fun x => ⟨(fun (x : Nat × G) => [(9, .c (.v (.int .i64 x.1))), (8, .c (.v (.int .i64 l.length))), (7, .c (.v (.slice h.a l.length h.cap))), (3, .c (.v (.map (some b)))), (0, .c (.v (.slice h.a l.length h.cap)))]) x, [], (fun _ => []) x, [], 0⟩) (fun x => l.length - x.1) (fun ⟨i, g'⟩ ⟨hi, hc, hnd, hmp, hk⟩ => ?_) ((0, gL)) (⟨Nat.zero_le _, by simp, by simp, hm.ks p0.ks (by simp), (((p1.ks.trans p2.ks).trans p3.ks).trans p0.ks).mono (by simp)⟩)
  dsimp only at hi hc hnd hmp hk ⊢
  refine runO hC tabOk 60 ?_
  simp [go_sem]
  repeat ((first | refine condT rfl ?_ | refine condF rfl ?_ | refine skD hC rfl rfl rfl ?_); refine runO hC tabOk 60 ?_; simp [go_sem])
  refine sg_cond rfl (fun h1 => ?_) (fun h1 => ?_)
  · simp at h1
    obtain ⟨b2, off, ea, hcs⟩ := (k.ks hk ho').one.row.get (List.getElem?_eq_getElem h1)
    have hsz : l[i].size ≤ maxLen := k.str _ (by simp)
    rw [ea]
    refine runO hC tabOk 60 ?_
    simp [go_sem]
    repeat ((first | refine condT rfl ?_ | refine condF rfl ?_ | refine skD hC rfl rfl rfl ?_); refine runO hC tabOk 60 ?_; simp [go_sem])
    refine vo hC (vo_index hC tabOk rfl rfl rfl rfl rfl rfl (by omega) (by omega)) rfl rfl rfl ?_
    refine runO hC tabOk 60 ?_
    simp [go_sem]
    repeat ((first | refine condT rfl ?_ | refine condF rfl ?_ | refine skD hC rfl rfl rfl ?_); refine runO hC tabOk 60 ?_; simp [go_sem])
    refine vo hC (vo_load1 hC tabOk hcs rfl rfl rfl rfl) (nc1 ho) rfl rfl ?_
    refine runO hC tabOk 60 ?_
    simp [go_sem]
    repeat ((first | refine condT rfl ?_ | refine condF rfl ?_ | refine skD hC rfl rfl rfl ?_); refine runO hC tabOk 60 ?_; simp [go_sem])
    refine call hC [] (by kernel_rfl) rfl rfl rfl rfl rfl fun m5 g5 p5 e5 => ⟨_, name36 l[i] _ hsz, fun v5 u5 q5 s5 hv5 => ?_⟩
    subst hv5
    cases hn : nameS l[i] with
    | false =>
      refine runO hC tabOk 60 ?_
      simp [go_sem]
      repeat ((first | refine condT rfl ?_ | refine condF rfl ?_ | refine skD hC rfl rfl rfl ?_); refine runO hC tabOk 60 ?_; simp [go_sem])
      refine ret hC tabOk (fun _ => 1) rfl rfl fun m gf hl ex => ?_
      have : namesB l = false := by
        unfold namesB
        rw [Bool.and_eq_false_iff, Bool.and_eq_false_iff]
        refine .inl (.inl ?_)
        rw [List.all_eq_false]
        exact ⟨l[i], by simp, by simp [hn]⟩
      rw [this]; rfl
    | true =>
      refine runO hC tabOk 60 ?_
      simp [go_sem]
      repeat ((first | refine condT rfl ?_ | refine condF rfl ?_ | refine skD hC rfl rfl rfl ?_); refine runO hC tabOk 60 ?_; simp [go_sem])
      refine vo hC (vo_look hC tabOk (hmp.ks (Keeps.mono (L' := [1]) (p5.ks.trans q5.ks) (by simp)) (by simp)) rfl rfl rfl Tryz.underlying346 Tryz.underlying9 rfl rfl (mget_of _ _)) rfl rfl rfl ?_
      cases hd : decide (l[i] ∈ l.take i) with
      | true =>
        refine runO hC tabOk 60 ?_
        simp [go_sem]
        repeat ((first | refine condT rfl ?_ | refine condF rfl ?_ | refine skD hC rfl rfl rfl ?_); refine runO hC tabOk 60 ?_; simp [go_sem])
        refine ret hC tabOk (fun _ => 1) rfl rfl fun m gf hl ex => ?_
        have : namesB l = false := by
          unfold namesB
          rw [Bool.and_eq_false_iff, Bool.and_eq_false_iff]
          refine .inl (.inr ?_)
          rw [decide_eq_false_iff_not]
          intro hnd'
          have h5 := nodup_take hnd' h1
          exact h5 (of_decide_eq_true hd)
        rw [this]; rfl
      | false =>
        refine runO hC tabOk 60 ?_
        simp [go_sem]
        repeat ((first | refine condT rfl ?_ | refine condF rfl ?_ | refine skD hC rfl rfl rfl ?_); refine runO hC tabOk 60 ?_; simp [go_sem])
        refine mupd hC 99 rfl (.inr hb) (.inl rfl) rfl rfl rfl Tryz.underlying346 Tryz.underlying9 rfl rfl fun m6 g6 p6 e6 => ⟨_, hmp.ks (Keeps.mono (L' := [1]) ((p5.ks.trans q5.ks).trans p6.ks) (by simp)) (by simp), fun g7 g9 q6 but6 q7 hm9 => ?_⟩
        have hd' : l[i] ∉ l.take i := of_decide_eq_false hd
        rw [show (SV.val m6 (ofV (.bool true))) = Value.bool true from rfl, mput_of _ _ hd', ← List.take_succ_eq_append_getElem h1] at hm9
        refine runO hC tabOk 60 ?_
        simp [go_sem]
        repeat ((first | refine condT rfl ?_ | refine condF rfl ?_ | refine skD hC rfl rfl rfl ?_); refine runO hC tabOk 60 ?_; simp [go_sem])
        refine again (fun _ => 1) fun m8 g8 p8 e8 => ⟨(i + 1, g8), ?_, ?_, rfl, ⟨by simp [go_sem], by simp [go_sem, ea, wrap_inc (show i + 1 ≤ 9223372036854775807 by omega)], rfl, by simp [go_sem], by simp [go_sem], ⟨_, rfl⟩⟩, by simp [go_sem]⟩
        · refine ⟨h1, fun s hs => ?_, ?_, hm9.ks p8.ks (by simp), (((((hk.trans p5.ks).trans q5.ks).trans p6.ks).trans q6.ks).trans (q7.ks.trans p8.ks)).mono (by simp)⟩
          · dsimp only at hs
            rw [List.take_succ_eq_append_getElem h1, List.mem_append] at hs
            rcases hs with hs | hs
            · exact hc s hs
            · obtain rfl := List.mem_singleton.1 hs; exact hn
          · dsimp only
            rw [List.take_succ_eq_append_getElem h1, List.nodup_append]
            exact ⟨hnd, by simp, fun a ha b hb e => by obtain rfl := List.mem_singleton.1 hb; exact hd' (e ▸ ha)⟩
        · dsimp only; omega
  · simp at h1
    refine runO hC tabOk 60 ?_
    simp [go_sem]
    repeat ((first | refine condT rfl ?_ | refine condF rfl ?_ | refine skD hC rfl rfl rfl ?_); refine runO hC tabOk 60 ?_; simp [go_sem])
    refine ret hC tabOk (fun _ => 1) rfl rfl fun m gf hl ex => ?_
    have e : i = l.length := by omega
    subst e
    rw [List.take_length] at hc hnd
    have : namesB l = decide (l.length ≤ 50) := by
      unfold namesB
      rw [List.all_eq_true.2 hc, decide_eq_true hnd]
      simp
    rw [this]
    simp [retv, SV.val, SC.val, vals]
    omega
end Go.Proofs.YtobhfopgoidniaaGreat

/- Principals: valid; the store. -/
namespace Go.Proofs.YtobhfopgoidniaaGreat
open Go Go.Eng

/-- May a principal be? -/
def validP (p : Pr) : Bool := nameS p.name && namesB p.al && namesB p.ac && decide (1 ≤ p.ver) && decide (p.ver ≤ 1000) && decide (0 ≤ p.life) && decide (p.life ≤ 1099511627776) && decide (p.gr.length ≤ 20)

theorem valid212 (p : Pr) (h : PH) (g : G) (o : Nat) (ho : o ≠ 1) (ho2 : o ≠ 99) (k : POk g o p h) : Ok Tryz.prog 212 [ppv p h] g [] (fun v _ => v = .bool (validP p)) := by
  have ho' : o ∉ [1] := by simpa using ho
  refine fbegin Tryz.func212 rfl Tryz.ntmps212 (Nat.le_of_ble_eq_true rfl) fun C hw hC => ?_
  refine runO hC tabOk 60 ?_
  simp [go_sem]
  repeat ((first | refine condT rfl ?_ | refine condF rfl ?_ | refine skD hC rfl rfl rfl ?_); refine runO hC tabOk 60 ?_; simp [go_sem])
  refine call hC [] (by kernel_rfl) rfl rfl rfl rfl rfl fun m1 g1 p1 e1 => ⟨_, name36 _ _ k.nm, fun v1 u1 q1 s1 hv1 => ?_⟩
  subst hv1
  cases h1 : nameS p.name with
  | false =>
    refine runO hC tabOk 60 ?_
    simp [go_sem]
    repeat ((first | refine condT rfl ?_ | refine condF rfl ?_ | refine skD hC rfl rfl rfl ?_); refine runO hC tabOk 60 ?_; simp [go_sem])
    refine ret hC tabOk (fun _ => 1) rfl rfl fun m gf hl ex => ?_
    simp [retv, SV.val, SC.val, vals, validP, h1]
  | true =>
  refine runO hC tabOk 60 ?_
  simp [go_sem]
  repeat ((first | refine condT rfl ?_ | refine condF rfl ?_ | refine skD hC rfl rfl rfl ?_); refine runO hC tabOk 60 ?_; simp [go_sem])
  refine call hC [] (by kernel_rfl) rfl rfl rfl rfl rfl fun m2 g2 p2 e2 => ⟨_, names265 p.al h.al _ o ho ho2 (k.al.ks (Keeps.mono (L' := [1]) ((p1.ks.trans q1.ks).trans p2.ks) (by simp)) ho'), fun v2 u2 q2 s2 hv2 => ?_⟩
  subst hv2
  cases h2 : namesB p.al with
  | false =>
    refine runO hC tabOk 60 ?_
    simp [go_sem]
    repeat ((first | refine condT rfl ?_ | refine condF rfl ?_ | refine skD hC rfl rfl rfl ?_); refine runO hC tabOk 60 ?_; simp [go_sem])
    refine ret hC tabOk (fun _ => 1) rfl rfl fun m gf hl ex => ?_
    simp [retv, SV.val, SC.val, vals, validP, h1, h2]
  | true =>
  refine runO hC tabOk 60 ?_
  simp [go_sem]
  repeat ((first | refine condT rfl ?_ | refine condF rfl ?_ | refine skD hC rfl rfl rfl ?_); refine runO hC tabOk 60 ?_; simp [go_sem])
  refine call hC [] (by kernel_rfl) rfl rfl rfl rfl rfl fun m3 g3 p3 e3 => ⟨_, names265 p.ac h.ac _ o ho ho2 (k.ac.ks (Keeps.mono (L' := [1]) ((((p1.ks.trans q1.ks).trans p2.ks).trans q2.ks).trans p3.ks) (by simp)) ho'), fun v3 u3 q3 s3 hv3 => ?_⟩
  subst hv3
  cases h3 : namesB p.ac with
  | false =>
    refine runO hC tabOk 60 ?_
    simp [go_sem]
    repeat ((first | refine condT rfl ?_ | refine condF rfl ?_ | refine skD hC rfl rfl rfl ?_); refine runO hC tabOk 60 ?_; simp [go_sem])
    refine ret hC tabOk (fun _ => 1) rfl rfl fun m gf hl ex => ?_
    simp [retv, SV.val, SC.val, vals, validP, h1, h2, h3]
  | true =>
  refine runO hC tabOk 60 ?_
  simp [go_sem]
  repeat ((first | refine condT rfl ?_ | refine condF rfl ?_ | refine skD hC rfl rfl rfl ?_); refine runO hC tabOk 60 ?_; simp [go_sem])
  refine ret hC tabOk (fun _ => 1) rfl rfl fun m gf hl ex => ?_
  simp [retv, SV.val, SC.val, vals, validP, h1, h2, h3]
  rw [decide_eq_decide.2 (show ((p.gr.length : Int) ≤ 20) ↔ p.gr.length ≤ 20 by omega)]

theorem names266 (l : List ByteArray) (h : Hd) (g : G) (o : Nat) (ho : o ≠ 1) (k : StrsOk g o l h) : Ok Tryz.prog 266 [.slice h.a l.length h.cap] g [] (fun v _ => v = .bool (namesB l)) := by
  have hl : l.length ≤ 9223372036854775807 := Nat.le_trans k.one.len k.one.cap
  have ho' : o ∉ [1] := by simp [ho]
  refine fbegin Tryz.func266 rfl Tryz.ntmps266 (Nat.le_of_ble_eq_true rfl) fun C hw hC => ?_
  refine runO hC tabOk 60 ?_
  simp [go_sem]
  repeat ((first | refine condT rfl ?_ | refine condF rfl ?_ | refine skD hC rfl rfl rfl ?_); refine runO hC tabOk 60 ?_; simp [go_sem])
  refine small (fun _ => 1) rfl fun m0 gL p0 e0 => ⟨⟨(fun (x : Nat × G) => [(3, .c (.v (.int .i64 x.1))), (0, .c (.v (.slice h.a l.length h.cap)))]) ((0, gL)), [], (fun _ => []) ((0, gL)), [], 0⟩, ⟨by simp [go_sem], by simp [go_sem], rfl, by simp [go_sem], by simp [go_sem], ⟨_, rfl⟩⟩, by simp, ?_⟩
  refine loop (ι := Nat × G) (fun x => x.1 ≤ l.length ∧ (∀ s, s ∈ l.take x.1 → nameS s = true) ∧ (l.take x.1).Nodup ∧ Keeps [1] g x.2) (fun x => x.2)
    (fun x => ⟨(fun (x : Nat × G) => [(3, .c (.v (.int .i64 x.1))), (0, .c (.v (.slice h.a l.length h.cap)))]) x, [], (fun _ => []) x, [], 0⟩) (fun x => l.length - x.1) (fun ⟨i, g'⟩ ⟨hi, hc, hnd, hk⟩ => ?_) ((0, gL)) (⟨Nat.zero_le _, by simp, by simp, p0.ks⟩)
  dsimp only at hi hc hnd hk ⊢
  refine runO hC tabOk 60 ?_
  simp [go_sem]
  repeat ((first | refine condT rfl ?_ | refine condF rfl ?_ | refine skD hC rfl rfl rfl ?_); refine runO hC tabOk 60 ?_; simp [go_sem])
  refine sg_cond rfl (fun h1 => ?_) (fun h1 => ?_)
  · simp at h1
    obtain ⟨b2, off, ea, hcs⟩ := (k.ks hk ho').one.row.get (List.getElem?_eq_getElem h1)
    have hsz : l[i].size ≤ maxLen := k.str _ (by simp)
    rw [ea]
    refine runO hC tabOk 60 ?_
    simp [go_sem]
    repeat ((first | refine condT rfl ?_ | refine condF rfl ?_ | refine skD hC rfl rfl rfl ?_); refine runO hC tabOk 60 ?_; simp [go_sem])
    refine vo hC (vo_index hC tabOk rfl rfl rfl rfl rfl rfl (by omega) (by omega)) rfl rfl rfl ?_
    refine runO hC tabOk 60 ?_
    simp [go_sem]
    repeat ((first | refine condT rfl ?_ | refine condF rfl ?_ | refine skD hC rfl rfl rfl ?_); refine runO hC tabOk 60 ?_; simp [go_sem])
    refine vo hC (vo_load1 hC tabOk hcs rfl rfl rfl rfl) (nc1 ho) rfl rfl ?_
    refine runO hC tabOk 60 ?_
    simp [go_sem]
    repeat ((first | refine condT rfl ?_ | refine condF rfl ?_ | refine skD hC rfl rfl rfl ?_); refine runO hC tabOk 60 ?_; simp [go_sem])
    refine call hC [] (by kernel_rfl) rfl rfl rfl rfl rfl fun m5 g5 p5 e5 => ⟨_, name239 l[i] _ hsz, fun v5 u5 q5 s5 hv5 => ?_⟩
    subst hv5
    cases hn : nameS l[i] with
    | false =>
      refine runO hC tabOk 60 ?_
      simp [go_sem]
      repeat ((first | refine condT rfl ?_ | refine condF rfl ?_ | refine skD hC rfl rfl rfl ?_); refine runO hC tabOk 60 ?_; simp [go_sem])
      refine ret hC tabOk (fun _ => 1) rfl rfl fun m gf hl ex => ?_
      have : namesB l = false := by
        unfold namesB
        rw [Bool.and_eq_false_iff, Bool.and_eq_false_iff]
        refine .inl (.inl ?_)
        rw [List.all_eq_false]
        exact ⟨l[i], by simp, by simp [hn]⟩
      rw [this]; rfl
    | true =>
      refine runO hC tabOk 60 ?_
      simp [go_sem]
      repeat ((first | refine condT rfl ?_ | refine condF rfl ?_ | refine skD hC rfl rfl rfl ?_); refine runO hC tabOk 60 ?_; simp [go_sem])
      have hk5 : Keeps [1] g u5 := ((hk.trans p5.ks).trans q5.ks).mono (by simp)
      refine small (fun _ => 1) rfl fun m0 gL p0 e0 => ⟨⟨(fun (x : Nat × G) => [(4, .c (.v (.int .i64 x.1))), (3, .c (.v (.int .i64 i))), (0, .c (.v (.slice (some ⟨b2, off, none⟩) l.length h.cap)))]) ((0, gL)), [], (fun _ => []) ((0, gL)), [], 0⟩, ⟨by simp [go_sem], by simp [go_sem], rfl, by simp [go_sem], by simp [go_sem], ⟨_, rfl⟩⟩, by simp, ?_⟩
      refine loop (ι := Nat × G) (fun x => x.1 ≤ i ∧ (∀ s, s ∈ l.take x.1 → s ≠ l[i]) ∧ Keeps [1] g x.2) (fun x => x.2)
        (fun x => ⟨(fun (x : Nat × G) => [(4, .c (.v (.int .i64 x.1))), (3, .c (.v (.int .i64 i))), (0, .c (.v (.slice (some ⟨b2, off, none⟩) l.length h.cap)))]) x, [], (fun _ => []) x, [], 0⟩) (fun x => i - x.1) (fun ⟨j, g6⟩ ⟨hj, hd, hk6⟩ => ?_) ((0, gL)) (⟨Nat.zero_le _, by simp, (hk5.trans p0.ks).mono (by simp)⟩)
      dsimp only at hj hd hk6 ⊢
      refine runO hC tabOk 60 ?_
      simp [go_sem]
      repeat ((first | refine condT rfl ?_ | refine condF rfl ?_ | refine skD hC rfl rfl rfl ?_); refine runO hC tabOk 60 ?_; simp [go_sem])
      refine sg_cond rfl (fun h2 => ?_) (fun h2 => ?_)
      · simp at h2
        have hjl : j < l.length := by omega
        obtain ⟨b3, off3, ea3, hcs3⟩ := (k.ks hk6 ho').one.row.get (List.getElem?_eq_getElem hjl)
        obtain ⟨b4, off4, ea4, hcs4⟩ := (k.ks hk6 ho').one.row.get (List.getElem?_eq_getElem h1)
        rw [ea] at ea3 ea4
        obtain ⟨rfl, rfl, _⟩ := Addr.mk.inj (Option.some.inj ea3)
        obtain ⟨rfl, rfl, _⟩ := Addr.mk.inj (Option.some.inj ea4)
        refine runO hC tabOk 60 ?_
        simp [go_sem]
        repeat ((first | refine condT rfl ?_ | refine condF rfl ?_ | refine skD hC rfl rfl rfl ?_); refine runO hC tabOk 60 ?_; simp [go_sem])
        refine draw hC [(0, 0), (1, 0), (2, 0), (3, 0), (4, 0), (5, 0), (6, 0), (7, 0)] [8] mix (by kernel_rfl) ?_
        refine runO hC tabOk 60 ?_
        simp [go_sem]
        repeat ((first | refine condT rfl ?_ | refine condF rfl ?_ | refine skD hC rfl rfl rfl ?_); refine runO hC tabOk 60 ?_; simp [go_sem])
        refine voD hC rfl (vo_index hC tabOk rfl rfl rfl rfl rfl rfl (by omega) (by omega)) rfl rfl rfl rfl ?_
        refine runO hC tabOk 60 ?_
        simp [go_sem]
        repeat ((first | refine condT rfl ?_ | refine condF rfl ?_ | refine skD hC rfl rfl rfl ?_); refine runO hC tabOk 60 ?_; simp [go_sem])
        refine voD hC rfl (vo_load1 hC tabOk hcs3 rfl rfl rfl rfl) (nc1 ho) rfl rfl rfl ?_
        refine runO hC tabOk 60 ?_
        simp [go_sem]
        repeat ((first | refine condT rfl ?_ | refine condF rfl ?_ | refine skD hC rfl rfl rfl ?_); refine runO hC tabOk 60 ?_; simp [go_sem])
        refine voD hC rfl (vo_index hC tabOk rfl rfl rfl rfl rfl rfl (by omega) (by omega)) rfl rfl rfl rfl ?_
        refine runO hC tabOk 60 ?_
        simp [go_sem]
        repeat ((first | refine condT rfl ?_ | refine condF rfl ?_ | refine skD hC rfl rfl rfl ?_); refine runO hC tabOk 60 ?_; simp [go_sem])
        refine voD hC rfl (vo_load1 hC tabOk hcs4 rfl rfl rfl rfl) (nc1 ho) rfl rfl rfl ?_
        refine runO hC tabOk 60 ?_
        simp [go_sem]
        repeat ((first | refine condT rfl ?_ | refine condF rfl ?_ | refine skD hC rfl rfl rfl ?_); refine runO hC tabOk 60 ?_; simp [go_sem])
        refine sg_cond rfl (fun h3 => ?_) (fun h3 => ?_)
        · simp at h3
          refine runO hC tabOk 60 ?_
          simp [go_sem]
          repeat ((first | refine condT rfl ?_ | refine condF rfl ?_ | refine skD hC rfl rfl rfl ?_); refine runO hC tabOk 60 ?_; simp [go_sem])
          refine ret hC tabOk (fun _ => 1) rfl rfl fun m gf hl ex => ?_
          have : namesB l = false := by
            unfold namesB
            rw [Bool.and_eq_false_iff, Bool.and_eq_false_iff]
            refine .inl (.inr ?_)
            rw [decide_eq_false_iff_not]
            intro hnd'
            have h5 := nodup_take hnd' h1
            refine h5 ?_
            rw [← h3]
            exact List.mem_of_getElem? (i := j) (by rw [List.getElem?_take, if_pos h2, List.getElem?_eq_getElem hjl])
          rw [this]; rfl
        · simp at h3
          refine runO hC tabOk 60 ?_
          simp [go_sem]
          repeat ((first | refine condT rfl ?_ | refine condF rfl ?_ | refine skD hC rfl rfl rfl ?_); refine runO hC tabOk 60 ?_; simp [go_sem])
          refine again (fun _ => 1) fun m8 g8 p8 e8 => ⟨(j + 1, g8), ?_, ?_, rfl, ⟨by simp [go_sem], by simp [go_sem, wrap_inc (show j + 1 ≤ 9223372036854775807 by omega)], rfl, by simp [go_sem], by simp [go_sem], ⟨_, rfl⟩⟩, by simp [go_sem]⟩
          · refine ⟨h2, fun s hs => ?_, hk6.then (by simp)⟩
            dsimp only at hs
            rw [List.take_succ_eq_append_getElem hjl, List.mem_append] at hs
            rcases hs with hs | hs
            · exact hd s hs
            · obtain rfl := List.mem_singleton.1 hs; exact h3
          · dsimp only; omega
      · simp at h2
        have hji : j = i := by omega
        subst hji
        refine runO hC tabOk 60 ?_
        simp [go_sem]
        repeat ((first | refine condT rfl ?_ | refine condF rfl ?_ | refine skD hC rfl rfl rfl ?_); refine runO hC tabOk 60 ?_; simp [go_sem])
        refine again (fun _ => 1) fun m8 g8 p8 e8 => ⟨(j + 1, g8), ?_, ?_, rfl, ⟨by simp [go_sem], by simp [go_sem, ea, wrap_inc (show j + 1 ≤ 9223372036854775807 by omega)], rfl, by simp [go_sem], by simp [go_sem], ⟨_, rfl⟩⟩, by simp [go_sem]⟩
        · refine ⟨h1, fun s hs => ?_, ?_, hk6.then (by simp)⟩
          · dsimp only at hs
            rw [List.take_succ_eq_append_getElem h1, List.mem_append] at hs
            rcases hs with hs | hs
            · exact hc s hs
            · obtain rfl := List.mem_singleton.1 hs; exact hn
          · dsimp only
            rw [List.take_succ_eq_append_getElem h1, List.nodup_append]
            exact ⟨hnd, by simp, fun a ha b hb e => by obtain rfl := List.mem_singleton.1 hb; exact hd a ha e⟩
        · dsimp only; omega
  · simp at h1
    refine runO hC tabOk 60 ?_
    simp [go_sem]
    repeat ((first | refine condT rfl ?_ | refine condF rfl ?_ | refine skD hC rfl rfl rfl ?_); refine runO hC tabOk 60 ?_; simp [go_sem])
    refine ret hC tabOk (fun _ => 1) rfl rfl fun m gf hl ex => ?_
    have e : i = l.length := by omega
    subst e
    rw [List.take_length] at hc hnd
    have : namesB l = decide (l.length ≤ 50) := by
      unfold namesB
      rw [List.all_eq_true.2 hc, decide_eq_true hnd]
      simp
    rw [this]
    simp [retv, SV.val, SC.val, vals]
    omega

theorem valid213 (p : Pr) (h : PH) (g : G) (o : Nat) (ho : o ≠ 1) (k : POk g o p h) : Ok Tryz.prog 213 [ppv p h] g [] (fun v _ => v = .bool (validP p)) := by
  have ho' : o ∉ [1] := by simpa using ho
  refine fbegin Tryz.func213 rfl Tryz.ntmps213 (Nat.le_of_ble_eq_true rfl) fun C hw hC => ?_
  refine runO hC tabOk 60 ?_
  simp [go_sem]
  repeat ((first | refine condT rfl ?_ | refine condF rfl ?_ | refine skD hC rfl rfl rfl ?_); refine runO hC tabOk 60 ?_; simp [go_sem])
  refine call hC [] (by kernel_rfl) rfl rfl rfl rfl rfl fun m1 g1 p1 e1 => ⟨_, name239 _ _ k.nm, fun v1 u1 q1 s1 hv1 => ?_⟩
  subst hv1
  cases h1 : nameS p.name with
  | false =>
    refine runO hC tabOk 60 ?_
    simp [go_sem]
    repeat ((first | refine condT rfl ?_ | refine condF rfl ?_ | refine skD hC rfl rfl rfl ?_); refine runO hC tabOk 60 ?_; simp [go_sem])
    refine ret hC tabOk (fun _ => 1) rfl rfl fun m gf hl ex => ?_
    simp [retv, SV.val, SC.val, vals, validP, h1]
  | true =>
  refine runO hC tabOk 60 ?_
  simp [go_sem]
  repeat ((first | refine condT rfl ?_ | refine condF rfl ?_ | refine skD hC rfl rfl rfl ?_); refine runO hC tabOk 60 ?_; simp [go_sem])
  refine call hC [] (by kernel_rfl) rfl rfl rfl rfl rfl fun m2 g2 p2 e2 => ⟨_, names266 p.al h.al _ o ho (k.al.ks (Keeps.mono (L' := [1]) ((p1.ks.trans q1.ks).trans p2.ks) (by simp)) ho'), fun v2 u2 q2 s2 hv2 => ?_⟩
  subst hv2
  cases h2 : namesB p.al with
  | false =>
    refine runO hC tabOk 60 ?_
    simp [go_sem]
    repeat ((first | refine condT rfl ?_ | refine condF rfl ?_ | refine skD hC rfl rfl rfl ?_); refine runO hC tabOk 60 ?_; simp [go_sem])
    refine ret hC tabOk (fun _ => 1) rfl rfl fun m gf hl ex => ?_
    simp [retv, SV.val, SC.val, vals, validP, h1, h2]
  | true =>
  refine runO hC tabOk 60 ?_
  simp [go_sem]
  repeat ((first | refine condT rfl ?_ | refine condF rfl ?_ | refine skD hC rfl rfl rfl ?_); refine runO hC tabOk 60 ?_; simp [go_sem])
  refine call hC [] (by kernel_rfl) rfl rfl rfl rfl rfl fun m3 g3 p3 e3 => ⟨_, names266 p.ac h.ac _ o ho (k.ac.ks (Keeps.mono (L' := [1]) ((((p1.ks.trans q1.ks).trans p2.ks).trans q2.ks).trans p3.ks) (by simp)) ho'), fun v3 u3 q3 s3 hv3 => ?_⟩
  subst hv3
  cases h3 : namesB p.ac with
  | false =>
    refine runO hC tabOk 60 ?_
    simp [go_sem]
    repeat ((first | refine condT rfl ?_ | refine condF rfl ?_ | refine skD hC rfl rfl rfl ?_); refine runO hC tabOk 60 ?_; simp [go_sem])
    refine ret hC tabOk (fun _ => 1) rfl rfl fun m gf hl ex => ?_
    simp [retv, SV.val, SC.val, vals, validP, h1, h2, h3]
  | true =>
  refine runO hC tabOk 60 ?_
  simp [go_sem]
  repeat ((first | refine condT rfl ?_ | refine condF rfl ?_ | refine skD hC rfl rfl rfl ?_); refine runO hC tabOk 60 ?_; simp [go_sem])
  refine ret hC tabOk (fun _ => 1) rfl rfl fun m gf hl ex => ?_
  simp [retv, SV.val, SC.val, vals, validP, h1, h2, h3]
  rw [decide_eq_decide.2 (show ((p.gr.length : Int) ≤ 20) ↔ p.gr.length ≤ 20 by omega)]
end Go.Proofs.YtobhfopgoidniaaGreat

/- The store of principals. -/
namespace Go.Proofs.YtobhfopgoidniaaGreat
open Go Go.Eng

theorem pnew123 (n : Nat) (hn : 2 ≤ n) (g : G) : Ok Tryz.prog 123 [] g [] (fun v g' => ∃ bs bm, PolIs g' n v bs bm [] []) := by
  have h1 : ((n + 1 != 0 && n + 1 != 1) = true) := by simp; omega
  refine fbegin Tryz.func123 rfl Tryz.ntmps123 (Nat.le_of_ble_eq_true rfl) fun C hw hC => ?_
  refine runO hC tabOk 60 ?_
  simp [go_sem]
  repeat ((first | refine condT rfl ?_ | refine condF rfl ?_ | refine skD hC rfl rfl rfl ?_); refine runO hC tabOk 60 ?_; simp [go_sem])
  refine mkmap hC (n + 1) h1 rfl rfl rfl fun m1 g1 p1 e1 b g2 g3 p2 p3 hb hm => ?_
  refine runO hC tabOk 60 ?_
  simp [go_sem]
  repeat ((first | refine condT rfl ?_ | refine condF rfl ?_ | refine skD hC rfl rfl rfl ?_); refine runO hC tabOk 60 ?_; simp [go_sem])
  refine ret hC tabOk (fun _ => n) rfl rfl fun m gf hl ex => ?_
  refine ⟨m.getD 0 0, b, rfl, ?_, hm.ks hl.ks (by first | (simp; done) | (simp; omega)), rfl, List.nodup_nil, fun i p b hp => by simp at hp⟩
  exact ex.ob (i := 0) rfl

def padd (ps : List Pr) (p : Pr) : List Pr × Int :=
  if validP p then (if (pfind ps p.name).isSome then (ps, 41) else if 100 ≤ ps.length then (ps, 53) else (ps ++ [p], 0)) else (ps, 1)

theorem vlen (l : List ByteArray) (h : namesB l = true) : l.length ≤ 2199023255552 := by
  unfold namesB at h
  simp only [Bool.and_eq_true, decide_eq_true_eq] at h
  omega

theorem padd124 (n : Nat) (hn : 2 ≤ n) (hn9 : n + 3 < 99) (vs : Value) (bs bm : Nat) (ptrs : List Nat) (ps : List Pr) (p : Pr) (h : PH) (g : G) (ks : PolIs g n vs bs bm ptrs ps) (k : POk g 0 p h) :
    Ok Tryz.prog 124 [vs, ppv p h] g [n + 1] (fun v g' => v = .int .i64 (padd ps p).2 ∧ ∃ ptrs', PolIs g' n vs bs bm ptrs' (padd ps p).1) := by
  have ks0 := ks
  obtain ⟨rfl, kob, kmp, klen, knd, kel⟩ := ks
  have n1 : n ≠ 1 := by omega
  have n2 : n + 1 ≠ 1 := by omega
  refine fbegin Tryz.func124 rfl Tryz.ntmps124 (Nat.le_of_ble_eq_true rfl) fun C hw hC => ?_
  refine runO hC tabOk 60 ?_
  simp [go_sem]
  repeat ((first | refine condT rfl ?_ | refine condF rfl ?_ | refine skD hC rfl rfl rfl ?_); refine runO hC tabOk 60 ?_; simp [go_sem])
  refine call hC [] (by kernel_rfl) rfl rfl rfl rfl rfl fun m1 g1 p1 e1 => ⟨_, valid212 p h _ 0 (by simp) (by simp) k.to, fun v1 u1 q1 s1 hv1 => ?_⟩
  subst hv1
  cases h1 : validP p with
  | false =>
    refine runO hC tabOk 60 ?_
    simp [go_sem]
    repeat ((first | refine condT rfl ?_ | refine condF rfl ?_ | refine skD hC rfl rfl rfl ?_); refine runO hC tabOk 60 ?_; simp [go_sem])
    refine ret hC tabOk (fun _ => 1) rfl rfl fun m gf hl ex => ?_
    simp only [padd, h1]
    exact ⟨rfl, ptrs, ks0.ks Kp.ks (by first | (simp; done) | (simp; omega)) (by first | (simp; done) | (simp; omega)) (by first | (simp; done) | (simp; omega)) (by first | (simp; done) | (simp; omega))⟩
  | true =>
  refine runO hC tabOk 60 ?_
  simp [go_sem]
  repeat ((first | refine condT rfl ?_ | refine condF rfl ?_ | refine skD hC rfl rfl rfl ?_); refine runO hC tabOk 60 ?_; simp [go_sem])
  refine draw hC [(0, 0), (1, 0), (2, 0), (3, 0), (4, 0), (5, 0), (6, 0), (7, 0), (8, 0)] [] mix (by kernel_rfl) ?_
  refine runO hC tabOk 60 ?_
  simp [go_sem]
  repeat ((first | refine condT rfl ?_ | refine condF rfl ?_ | refine skD hC rfl rfl rfl ?_); refine runO hC tabOk 60 ?_; simp [go_sem])
  refine voD hC rfl (vo_load1 hC tabOk (kob.ks Kp.ks (by first | (simp; done) | (simp; omega))).all rfl rfl rfl rfl) (nc1 n1) rfl rfl rfl ?_
  refine runO hC tabOk 60 ?_
  simp [go_sem]
  repeat ((first | refine condT rfl ?_ | refine condF rfl ?_ | refine skD hC rfl rfl rfl ?_); refine runO hC tabOk 60 ?_; simp [go_sem])
  refine voD hC rfl (vo_look hC tabOk (kmp.ks Kp.ks (by first | (simp; done) | (simp; omega))) rfl rfl rfl Tryz.underlying186 Tryz.underlying9 rfl rfl rfl) (nc1 n2) rfl rfl rfl ?_
  rcases mget_ents ps ptrs p.name klen with ⟨q1, q2⟩ | ⟨i, p', b, q1, q2, q3, q4, q5⟩
  · rw [q1]
    refine runO hC tabOk 60 ?_
    simp [go_sem]
    repeat ((first | refine condT rfl ?_ | refine condF rfl ?_ | refine skD hC rfl rfl rfl ?_); refine runO hC tabOk 60 ?_; simp [go_sem])
    refine voD hC rfl (vo_bin hC rfl rfl rfl (run_ptrnnil Tryz.prog Tryz.underlying185 _ _ _)) rfl rfl rfl rfl ?_
    refine runO hC tabOk 60 ?_
    simp [go_sem]
    repeat ((first | refine condT rfl ?_ | refine condF rfl ?_ | refine skD hC rfl rfl rfl ?_); refine runO hC tabOk 60 ?_; simp [go_sem])
    refine vo hC (vo_load1 hC tabOk (kob.ks Kp.ks (by first | (simp; done) | (simp; omega))).all rfl rfl rfl rfl) (nc1 n1) rfl rfl ?_
    refine runO hC tabOk 60 ?_
    simp [go_sem]
    repeat ((first | refine condT rfl ?_ | refine condF rfl ?_ | refine skD hC rfl rfl rfl ?_); refine runO hC tabOk 60 ?_; simp [go_sem])
    refine vo hC (vo_lenm hC (kmp.ks Kp.ks (by first | (simp; done) | (simp; omega))) rfl rfl Tryz.underlying186) (nc1 n2) rfl rfl ?_
    rw [ents_len _ _ klen]
    refine runO hC tabOk 60 ?_
    simp [go_sem]
    repeat ((first | refine condT rfl ?_ | refine condF rfl ?_ | refine skD hC rfl rfl rfl ?_); refine runO hC tabOk 60 ?_; simp [go_sem])
    refine sg_cond rfl (fun h2 => ?_) (fun h2 => ?_)
    · simp at h2
      refine runO hC tabOk 60 ?_
      simp [go_sem]
      repeat ((first | refine condT rfl ?_ | refine condF rfl ?_ | refine skD hC rfl rfl rfl ?_); refine runO hC tabOk 60 ?_; simp [go_sem])
      refine ret hC tabOk (fun _ => 1) rfl rfl fun m gf hl ex => ?_
      have : 100 ≤ ps.length := by omega
      simp only [padd, h1, q2, this]
      exact ⟨rfl, ptrs, ks0.ks Kp.ks (by first | (simp; done) | (simp; omega)) (by first | (simp; done) | (simp; omega)) (by first | (simp; done) | (simp; omega)) (by first | (simp; done) | (simp; omega))⟩
    · simp at h2
      have hv := h1
      unfold validP at hv
      simp only [Bool.and_eq_true, decide_eq_true_eq] at hv
      refine runO hC tabOk 60 ?_
      simp [go_sem]
      repeat ((first | refine condT rfl ?_ | refine condF rfl ?_ | refine skD hC rfl rfl rfl ?_); refine runO hC tabOk 60 ?_; simp [go_sem])
      refine call hC [] (by kernel_rfl) rfl rfl rfl rfl rfl fun m3 g3 p3 e3 => ⟨_, copied126 p h _ 0 (n + 3) (by simp) (by omega) k.to (vlen _ hv.1.1.1.1.1.1.2) (vlen _ hv.1.1.1.1.1.2) (by omega), fun v3 u3 q3 s3 hv3 => ?_⟩
      obtain ⟨h', rfl, k'⟩ := hv3
      refine runO hC tabOk 60 ?_
      simp [go_sem]
      repeat ((first | refine condT rfl ?_ | refine condF rfl ?_ | refine skD hC rfl rfl rfl ?_); refine runO hC tabOk 60 ?_; simp [go_sem])
      refine draw hC [(0, 0), (1, 0), (2, 0), (3, 0), (4, 0), (5, 0)] [6] mix (by kernel_rfl) ?_
      refine runO hC tabOk 60 ?_
      simp [go_sem]
      repeat ((first | refine condT rfl ?_ | refine condF rfl ?_ | refine skD hC rfl rfl rfl ?_); refine runO hC tabOk 60 ?_; simp [go_sem])
      refine voD hC rfl (vo_load1 hC tabOk (kob.ks Kp.ks (by first | (simp; done) | (simp; omega))).all rfl rfl rfl rfl) (nc1 n1) rfl rfl rfl ?_
      refine runO hC tabOk 60 ?_
      simp [go_sem]
      repeat ((first | refine condT rfl ?_ | refine condF rfl ?_ | refine skD hC rfl rfl rfl ?_); refine runO hC tabOk 60 ?_; simp [go_sem])
      refine mupd hC (n + 1) (by first | (simp; done) | (simp; omega)) (.inl (by simp)) (.inl rfl) rfl rfl rfl Tryz.underlying186 Tryz.underlying9 rfl rfl fun m6 g6 p6 e6 => ⟨_, kmp.ks Kp.ks (by first | (simp; done) | (simp; omega)), fun g7 g9 q6 but6 q7 hm9 => ?_⟩
      refine runO hC tabOk 60 ?_
      simp [go_sem]
      repeat ((first | refine condT rfl ?_ | refine condF rfl ?_ | refine skD hC rfl rfl rfl ?_); refine runO hC tabOk 60 ?_; simp [go_sem])
      refine ret hC tabOk (fun i => if i = 1 then n + 2 else 1) rfl rfl fun m gf hl ex => ?_
      have hm := ex.same (by simpa using e6.len)
      dsimp only at hm
      subst hm
      have hne : ∀ b ∈ ptrs, b ≠ m.getD 1 0 := by
        intro b hb e
        obtain ⟨i, hi, rfl⟩ := List.getElem_of_mem hb
        obtain ⟨hq, q9, _⟩ := kel i (ps[i]'(by omega)) ptrs[i] (List.getElem?_eq_getElem _) (List.getElem?_eq_getElem _)
        have o1 := (q9.ks (g' := g6) Kp.ks (by first | (simp; done) | (simp; omega))).own
        have o2 : g6.o (m.getD 1 0) = 1 := (e6.ob (i := 1) rfl).own
        rw [e] at o1
        omega
      have hp : padd ps p = (ps ++ [p], 0) := by
        have : ¬ 100 ≤ ps.length := by omega
        simp [padd, h1, q2, this]
      rw [hp]
      refine ⟨rfl, ptrs ++ [m.getD 1 0], rfl, kob.ks Kp.ks (by first | (simp; done) | (simp; omega)), ?_, by simp [klen], ?_, fun i p1 b hp1 hb => ?_⟩
      · rw [← mput_ents ps ptrs p _ klen q2]
        exact hm9.ks Kp.ks (by first | (simp; done) | (simp; omega))
      · rw [List.nodup_append]
        exact ⟨knd, by simp, fun a ha b hb => by obtain rfl := List.mem_singleton.1 hb; exact hne a ha⟩
      · by_cases hi : i < ps.length
        · rw [List.getElem?_append_left hi] at hp1
          rw [List.getElem?_append_left (by omega)] at hb
          obtain ⟨hq, q8, q9⟩ := kel i p1 b hp1 hb
          exact ⟨hq, q8.ks Kp.ks (by first | (simp; done) | (simp; omega)), q9.ks Kp.ks (by first | (simp; done) | (simp; omega))⟩
        · rw [List.getElem?_append_right (by omega)] at hp1 hb
          rw [klen] at hb
          have hi0 : i - ps.length = 0 := by
            by_cases q : i - ps.length = 0
            · exact q
            · obtain ⟨j, hj⟩ := Nat.exists_eq_succ_of_ne_zero q
              rw [hj] at hp1; cases hp1
          rw [hi0] at hp1 hb
          obtain rfl := Option.some.inj hp1
          obtain rfl := Option.some.inj hb
          exact ⟨h', ex.ob (i := 1) rfl, k'.ks Kp.ks (by first | (simp; done) | (simp; omega))⟩
  · rw [q3]
    refine runO hC tabOk 60 ?_
    simp [go_sem]
    repeat ((first | refine condT rfl ?_ | refine condF rfl ?_ | refine skD hC rfl rfl rfl ?_); refine runO hC tabOk 60 ?_; simp [go_sem])
    refine voD hC rfl (vo_bin hC rfl rfl rfl (run_ptrnnil Tryz.prog Tryz.underlying185 _ _ _)) rfl rfl rfl rfl ?_
    refine runO hC tabOk 60 ?_
    simp [go_sem]
    repeat ((first | refine condT rfl ?_ | refine condF rfl ?_ | refine skD hC rfl rfl rfl ?_); refine runO hC tabOk 60 ?_; simp [go_sem])
    refine ret hC tabOk (fun _ => 1) rfl rfl fun m gf hl ex => ?_
    simp only [padd, h1, q4]
    exact ⟨rfl, ptrs, ks0.ks Kp.ks (by first | (simp; done) | (simp; omega)) (by first | (simp; done) | (simp; omega)) (by first | (simp; done) | (simp; omega)) (by first | (simp; done) | (simp; omega))⟩
end Go.Proofs.YtobhfopgoidniaaGreat

/- The store: asked. -/
namespace Go.Proofs.YtobhfopgoidniaaGreat
open Go Go.Eng

def zeroP : Pr := ⟨.empty, 0, false, false, [], [], [], 0⟩
def pget (ps : List Pr) (nm : ByteArray) : Pr × Int := match pfind ps nm with
  | some p => (p, 0)
  | none => (zeroP, 40)

/-- What the store hands back: a principal, an error. -/
def PQ (r : Pr × Int) (v : Value) (g : G) : Prop := ∃ h, v = .tuple #[ppv r.1 h, .int .i64 r.2] ∧ POk g 0 r.1 h

theorem zeroP_ok (g : G) : POk g 0 zeroP ⟨⟨none, 0⟩, ⟨none, 0⟩, ⟨none, 0⟩⟩ :=
  ⟨⟨⟨.inl rfl, Nat.le_refl _, Nat.zero_le _⟩, by simp [zeroP]⟩, ⟨⟨.inl rfl, Nat.le_refl _, Nat.zero_le _⟩, by simp [zeroP]⟩, ⟨.inl rfl, Nat.le_refl _, Nat.zero_le _⟩, Nat.zero_le _⟩

theorem vp_al {p : Pr} (h : validP p = true) : p.al.length ≤ 2199023255552 ∧ p.ac.length ≤ 2199023255552 ∧ p.gr.length ≤ 2199023255552 := by
  unfold validP at h
  simp only [Bool.and_eq_true, decide_eq_true_eq] at h
  exact ⟨vlen _ h.1.1.1.1.1.1.2, vlen _ h.1.1.1.1.1.2, by omega⟩

theorem pfind_mem {ps : List Pr} {nm : ByteArray} {p : Pr} (h : pfind ps nm = some p) : p ∈ ps := List.mem_of_find?_eq_some h

theorem pget35 (n : Nat) (hn : 2 ≤ n) (hn9 : n + 3 < 99) (vs : Value) (bs bm : Nat) (ptrs : List Nat) (ps : List Pr) (nm : ByteArray) (g : G) (ks : PolIs g n vs bs bm ptrs ps) (hv : ∀ p ∈ ps, validP p = true) :
    Ok Tryz.prog 35 [vs, .string nm] g [] (fun v g' => PQ (pget ps nm) v g') := by
  obtain ⟨rfl, kob, kmp, klen, knd, kel⟩ := ks
  have n1 : n ≠ 1 := by omega
  have n2 : n + 1 ≠ 1 := by omega
  have n3 : n + 2 ≠ 1 := by omega
  refine fbegin Tryz.func35 rfl Tryz.ntmps35 (Nat.le_of_ble_eq_true rfl) fun C hw hC => ?_
  refine runO hC tabOk 60 ?_
  simp [go_sem]
  repeat ((first | refine condT rfl ?_ | refine condF rfl ?_ | refine skD hC rfl rfl rfl ?_); refine runO hC tabOk 60 ?_; simp [go_sem])
  refine vo hC (vo_load1 hC tabOk kob.all rfl rfl rfl rfl) (nc1 n1) rfl rfl ?_
  refine runO hC tabOk 60 ?_
  simp [go_sem]
  repeat ((first | refine condT rfl ?_ | refine condF rfl ?_ | refine skD hC rfl rfl rfl ?_); refine runO hC tabOk 60 ?_; simp [go_sem])
  refine vo hC (vo_look hC tabOk kmp rfl rfl rfl Tryz.underlying186 Tryz.underlying9 rfl rfl rfl) (nc1 n2) rfl rfl ?_
  rcases mget_ents ps ptrs nm klen with ⟨q1, q2⟩ | ⟨i, p', b, q1, q2, q3, q4, q5⟩
  · rw [q1]
    refine runO hC tabOk 60 ?_
    simp [go_sem]
    repeat ((first | refine condT rfl ?_ | refine condF rfl ?_ | refine skD hC rfl rfl rfl ?_); refine runO hC tabOk 60 ?_; simp [go_sem])
    refine vo hC (vo_bin hC rfl rfl rfl (run_ptrnil Tryz.prog Tryz.underlying185 _ _ _)) rfl rfl rfl ?_
    refine runO hC tabOk 60 ?_
    simp [go_sem]
    repeat ((first | refine condT rfl ?_ | refine condF rfl ?_ | refine skD hC rfl rfl rfl ?_); refine runO hC tabOk 60 ?_; simp [go_sem])
    refine ret hC tabOk (fun _ => 1) rfl rfl fun m gf hl ex => ?_
    simp only [pget, q2]
    exact ⟨⟨⟨none, 0⟩, ⟨none, 0⟩, ⟨none, 0⟩⟩, rfl, zeroP_ok _⟩
  · rw [q3]
    refine runO hC tabOk 60 ?_
    simp [go_sem]
    repeat ((first | refine condT rfl ?_ | refine condF rfl ?_ | refine skD hC rfl rfl rfl ?_); refine runO hC tabOk 60 ?_; simp [go_sem])
    refine vo hC (vo_bin hC rfl rfl rfl (run_ptrnil Tryz.prog Tryz.underlying185 _ _ _)) rfl rfl rfl ?_
    obtain ⟨hq, q8, q9⟩ := kel i p' b q1 q2
    obtain ⟨a1, a2, a3⟩ := vp_al (hv p' (pfind_mem q4))
    refine runO hC tabOk 60 ?_
    simp [go_sem]
    repeat ((first | refine condT rfl ?_ | refine condF rfl ?_ | refine skD hC rfl rfl rfl ?_); refine runO hC tabOk 60 ?_; simp [go_sem])
    refine vo hC (vo_load hC tabOk q8.all rfl rfl rfl rfl rfl) (nc1 n3) rfl rfl ?_
    refine runO hC tabOk 60 ?_
    simp [go_sem]
    repeat ((first | refine condT rfl ?_ | refine condF rfl ?_ | refine skD hC rfl rfl rfl ?_); refine runO hC tabOk 60 ?_; simp [go_sem])
    refine call hC [] (by kernel_rfl) rfl rfl rfl rfl rfl fun m3 g3 p3 e3 => ⟨_, copied126 p' hq _ (n + 3) 0 (by omega) (by simp) (q9.ks Kp.ks (by first | (simp; done) | (simp; omega))) a1 a2 a3, fun v3 u3 q3 s3 hv3 => ?_⟩
    obtain ⟨h', rfl, k'⟩ := hv3
    refine runO hC tabOk 60 ?_
    simp [go_sem]
    repeat ((first | refine condT rfl ?_ | refine condF rfl ?_ | refine skD hC rfl rfl rfl ?_); refine runO hC tabOk 60 ?_; simp [go_sem])
    refine ret hC tabOk (fun _ => 1) rfl rfl fun m gf hl ex => ?_
    simp only [pget, q4]
    exact ⟨h', rfl, k'.to⟩

def pkey (ps : List Pr) (nm : ByteArray) : T × Int := match pfind ps nm with
  | some p => (.mk 2 nm p.ver [], 0)
  | none => (.mk 0 .empty 0 [], 40)

theorem pkey38 (n : Nat) (hn : 2 ≤ n) (hn9 : n + 3 < 99) (vs : Value) (bs bm : Nat) (ptrs : List Nat) (ps : List Pr) (nm : ByteArray) (g : G) (ks : PolIs g n vs bs bm ptrs ps) :
    Ok Tryz.prog 38 [vs, .string nm] g [] (fun v g' => v = .tuple #[tv (pkey ps nm).1 ⟨none, 0⟩, .int .i64 (pkey ps nm).2]) := by
  obtain ⟨rfl, kob, kmp, klen, knd, kel⟩ := ks
  have n1 : n ≠ 1 := by omega
  have n2 : n + 1 ≠ 1 := by omega
  have n3 : n + 2 ≠ 1 := by omega
  refine fbegin Tryz.func38 rfl Tryz.ntmps38 (Nat.le_of_ble_eq_true rfl) fun C hw hC => ?_
  refine runO hC tabOk 60 ?_
  simp [go_sem]
  repeat ((first | refine condT rfl ?_ | refine condF rfl ?_ | refine skD hC rfl rfl rfl ?_); refine runO hC tabOk 60 ?_; simp [go_sem])
  refine vo hC (vo_load1 hC tabOk kob.all rfl rfl rfl rfl) (nc1 n1) rfl rfl ?_
  refine runO hC tabOk 60 ?_
  simp [go_sem]
  repeat ((first | refine condT rfl ?_ | refine condF rfl ?_ | refine skD hC rfl rfl rfl ?_); refine runO hC tabOk 60 ?_; simp [go_sem])
  refine vo hC (vo_look hC tabOk kmp rfl rfl rfl Tryz.underlying186 Tryz.underlying9 rfl rfl rfl) (nc1 n2) rfl rfl ?_
  rcases mget_ents ps ptrs nm klen with ⟨q1, q2⟩ | ⟨i, p', b, q1, q2, q3, q4, q5⟩
  · rw [q1]
    refine runO hC tabOk 60 ?_
    simp [go_sem]
    repeat ((first | refine condT rfl ?_ | refine condF rfl ?_ | refine skD hC rfl rfl rfl ?_); refine runO hC tabOk 60 ?_; simp [go_sem])
    refine vo hC (vo_bin hC rfl rfl rfl (run_ptrnil Tryz.prog Tryz.underlying185 _ _ _)) rfl rfl rfl ?_
    refine runO hC tabOk 60 ?_
    simp [go_sem]
    repeat ((first | refine condT rfl ?_ | refine condF rfl ?_ | refine skD hC rfl rfl rfl ?_); refine runO hC tabOk 60 ?_; simp [go_sem])
    refine ret hC tabOk (fun _ => 1) rfl rfl fun m gf hl ex => ?_
    simp only [pkey, q2]
    rfl
  · rw [q3]
    refine runO hC tabOk 60 ?_
    simp [go_sem]
    repeat ((first | refine condT rfl ?_ | refine condF rfl ?_ | refine skD hC rfl rfl rfl ?_); refine runO hC tabOk 60 ?_; simp [go_sem])
    refine vo hC (vo_bin hC rfl rfl rfl (run_ptrnil Tryz.prog Tryz.underlying185 _ _ _)) rfl rfl rfl ?_
    obtain ⟨hq, q8, q9⟩ := kel i p' b q1 q2
    refine runO hC tabOk 60 ?_
    simp [go_sem]
    repeat ((first | refine condT rfl ?_ | refine condF rfl ?_ | refine skD hC rfl rfl rfl ?_); refine runO hC tabOk 60 ?_; simp [go_sem])
    refine vo hC (vo_load1 hC tabOk (q8.cs 1 (vs := [.int .i64 p'.ver]) (by intro j v hj; cases j with | zero => exact hj | succ j => cases hj)) rfl rfl rfl rfl) (nc1 n3) rfl rfl ?_
    refine runO hC tabOk 60 ?_
    simp [go_sem]
    repeat ((first | refine condT rfl ?_ | refine condF rfl ?_ | refine skD hC rfl rfl rfl ?_); refine runO hC tabOk 60 ?_; simp [go_sem])
    refine call hC [] (by kernel_rfl) rfl rfl rfl rfl rfl fun m3 g3 p3 e3 => ⟨_, key43 nm p'.ver _, fun v3 u3 q3 s3 hv3 => ?_⟩
    subst hv3
    refine runO hC tabOk 60 ?_
    simp [go_sem]
    repeat ((first | refine condT rfl ?_ | refine condF rfl ?_ | refine skD hC rfl rfl rfl ?_); refine runO hC tabOk 60 ?_; simp [go_sem])
    refine ret hC tabOk (fun _ => 1) rfl rfl fun m gf hl ex => ?_
    simp only [pkey, q4]
    rfl
end Go.Proofs.YtobhfopgoidniaaGreat

/- The document's store. -/
namespace Go.Proofs.YtobhfopgoidniaaGreat
open Go Go.Eng

/-- Where a principal is: -1: nowhere. -/
def pidx (ps : List Pr) (nm : ByteArray) : Int := match ps.findIdx? fun p => decide (p.name = nm) with
  | some i => i
  | none => -1

/-- None of the first i has that name. -/
def Un (hs : List (Pr × PH)) (i : Nat) (nm : ByteArray) : Prop := ∀ p, p ∈ hs.take i → p.1.name ≠ nm

theorem Un.zero (hs : List (Pr × PH)) (nm : ByteArray) : Un hs 0 nm := by intro p hp; simp at hp
theorem Un.succ {hs : List (Pr × PH)} {i : Nat} {nm : ByteArray} (h : Un hs i nm) (hi : i < hs.length) (hne : hs[i].1.name ≠ nm) : Un hs (i + 1) nm := by
  intro p hp
  rw [List.take_succ_eq_append_getElem hi, List.mem_append] at hp
  rcases hp with hp | hp
  · exact h p hp
  · obtain rfl := List.mem_singleton.1 hp; exact hne

theorem pidx_some {hs : List (Pr × PH)} {i : Nat} {nm : ByteArray} (h : Un hs i nm) (hi : i < hs.length) (he : hs[i].1.name = nm) : pidx (hs.map (·.1)) nm = i := by
  have : (hs.map (·.1)).findIdx? (fun p => decide (p.name = nm)) = some i := by
    rw [List.findIdx?_eq_some_iff_getElem]
    refine ⟨by simpa using hi, by simpa using he, fun j hj => ?_⟩
    have : hs[j] ∈ hs.take i := List.mem_of_getElem? (i := j) (by rw [List.getElem?_take, if_pos hj, List.getElem?_eq_getElem (by omega)])
    simpa using h _ this
  unfold pidx
  rw [this]

theorem pidx_none {hs : List (Pr × PH)} {nm : ByteArray} (h : Un hs hs.length nm) : pidx (hs.map (·.1)) nm = -1 := by
  have : (hs.map (·.1)).findIdx? (fun p => decide (p.name = nm)) = none := by
    rw [List.findIdx?_eq_none_iff]
    intro p hp
    obtain ⟨q, hq, rfl⟩ := List.mem_map.1 hp
    have := h q (by rw [List.take_length]; exact hq)
    simpa using this
  unfold pidx
  rw [this]

theorem rfind214 (n : Nat) (hn : 2 ≤ n) (vs : Value) (bs : Nat) (hs : List (Pr × PH)) (nm : ByteArray) (g : G) (ks : RefIs g n vs bs hs) :
    Ok Tryz.prog 214 [vs, .string nm] g [] (fun v _ => v = .int .i64 (pidx (hs.map (·.1)) nm)) := by
  obtain ⟨a, cap, hob, hrow⟩ := ks.row
  obtain ⟨_, _, e, hlc, hcm, _⟩ := hrow.cs
  obtain ⟨rfl, _, rfl⟩ := Value.slice.inj e
  have hl : hs.length ≤ 9223372036854775807 := Nat.le_trans hlc hcm
  have ks0 := ks
  obtain ⟨rfl, _, _⟩ := ks0
  have n1 : n ≠ 1 := by omega
  have n2 : n + 1 ≠ 1 := by omega
  refine fbegin Tryz.func214 rfl Tryz.ntmps214 (Nat.le_of_ble_eq_true rfl) fun C hw hC => ?_
  refine runO hC tabOk 60 ?_
  simp [go_sem]
  repeat ((first | refine condT rfl ?_ | refine condF rfl ?_ | refine skD hC rfl rfl rfl ?_); refine runO hC tabOk 60 ?_; simp [go_sem])
  refine small (fun _ => 1) rfl fun m0 gL p0 e0 => ⟨⟨(fun (x : Nat × G) => [(5, .c (.v (.int .i64 x.1))), (0, .c (.v (.pointer (some ⟨bs, 0, none⟩)))), (1, .c (.v (.string nm)))]) ((0, gL)), [], (fun _ => []) ((0, gL)), [], 0⟩, ⟨by simp [go_sem], by simp [go_sem], rfl, by simp [go_sem], by simp [go_sem], ⟨_, rfl⟩⟩, by simp, ?_⟩
  refine loop (ι := Nat × G) (fun x => x.1 ≤ hs.length ∧ Un hs x.1 nm ∧ Keeps [1] g x.2) (fun x => x.2)
    (fun x => ⟨(fun (x : Nat × G) => [(5, .c (.v (.int .i64 x.1))), (0, .c (.v (.pointer (some ⟨bs, 0, none⟩)))), (1, .c (.v (.string nm)))]) x, [], (fun _ => []) x, [], 0⟩) (fun x => hs.length - x.1) (fun ⟨i, g'⟩ ⟨hi, hc, hk⟩ => ?_) ((0, gL)) (⟨Nat.zero_le _, Un.zero _ _, p0.ks⟩)
  dsimp only at hi hc hk ⊢
  refine runO hC tabOk 60 ?_
  simp [go_sem]
  repeat ((first | refine condT rfl ?_ | refine condF rfl ?_ | refine skD hC rfl rfl rfl ?_); refine runO hC tabOk 60 ?_; simp [go_sem])
  refine vo hC (vo_load1 hC tabOk (hob.ks hk (by first | (simp; done) | (simp; omega))).all rfl rfl rfl rfl) (nc1 n1) rfl rfl ?_
  refine runO hC tabOk 60 ?_
  simp [go_sem]
  repeat ((first | refine condT rfl ?_ | refine condF rfl ?_ | refine skD hC rfl rfl rfl ?_); refine runO hC tabOk 60 ?_; simp [go_sem])
  refine sg_cond rfl (fun h1 => ?_) (fun h1 => ?_)
  · simp at h1
    have kr := ks.ks hk (by first | (simp; done) | (simp; omega)) (by first | (simp; done) | (simp; omega)) (by first | (simp; done) | (simp; omega))
    obtain ⟨b, rfl, hcs⟩ := kr.at (hrow.ks hk (by first | (simp; done) | (simp; omega))) (List.getElem?_eq_getElem h1)
    refine runO hC tabOk 60 ?_
    simp [go_sem]
    repeat ((first | refine condT rfl ?_ | refine condF rfl ?_ | refine skD hC rfl rfl rfl ?_); refine runO hC tabOk 60 ?_; simp [go_sem])
    refine vo hC (vo_load1 hC tabOk (hob.ks hk (by first | (simp; done) | (simp; omega))).all rfl rfl rfl rfl) (nc1 n1) rfl rfl ?_
    refine runO hC tabOk 60 ?_
    simp [go_sem]
    repeat ((first | refine condT rfl ?_ | refine condF rfl ?_ | refine skD hC rfl rfl rfl ?_); refine runO hC tabOk 60 ?_; simp [go_sem])
    refine vo hC (vo_index hC tabOk rfl rfl rfl rfl rfl rfl (by omega) (by omega)) rfl rfl rfl ?_
    refine runO hC tabOk 60 ?_
    simp [go_sem]
    repeat ((first | refine condT rfl ?_ | refine condF rfl ?_ | refine skD hC rfl rfl rfl ?_); refine runO hC tabOk 60 ?_; simp [go_sem])
    refine vo hC (vo_load1 hC tabOk (hcs.one 0 rfl) rfl (by simp [go_sem]) rfl rfl) (nc1 n2) rfl rfl ?_
    refine runO hC tabOk 60 ?_
    simp [go_sem]
    repeat ((first | refine condT rfl ?_ | refine condF rfl ?_ | refine skD hC rfl rfl rfl ?_); refine runO hC tabOk 60 ?_; simp [go_sem])
    refine sg_cond rfl (fun h2 => ?_) (fun h2 => ?_)
    · simp at h2
      refine runO hC tabOk 60 ?_
      simp [go_sem]
      repeat ((first | refine condT rfl ?_ | refine condF rfl ?_ | refine skD hC rfl rfl rfl ?_); refine runO hC tabOk 60 ?_; simp [go_sem])
      refine ret hC tabOk (fun _ => 1) rfl rfl fun m gf hl ex => ?_
      rw [pidx_some hc h1 h2]
      simp [retv, SV.val, SC.val, vals]
    · simp at h2
      refine runO hC tabOk 60 ?_
      simp [go_sem]
      repeat ((first | refine condT rfl ?_ | refine condF rfl ?_ | refine skD hC rfl rfl rfl ?_); refine runO hC tabOk 60 ?_; simp [go_sem])
      refine again (fun _ => 1) fun m8 g8 p8 e8 => ⟨(i + 1, g8), ?_, ?_, rfl, ⟨by simp [go_sem], by simp [go_sem, wrap_inc (show i + 1 ≤ 9223372036854775807 by omega)], rfl, by simp [go_sem], by simp [go_sem], ⟨_, rfl⟩⟩, by simp [go_sem]⟩
      · exact ⟨h1, hc.succ h1 h2, hk.then (by simp)⟩
      · dsimp only; omega
  · simp at h1
    refine runO hC tabOk 60 ?_
    simp [go_sem]
    repeat ((first | refine condT rfl ?_ | refine condF rfl ?_ | refine skD hC rfl rfl rfl ?_); refine runO hC tabOk 60 ?_; simp [go_sem])
    refine ret hC tabOk (fun _ => 1) rfl rfl fun m gf hl ex => ?_
    have : i = hs.length := by omega
    subst this
    rw [pidx_none hc]
    simp [retv, SV.val, SC.val, vals]
end Go.Proofs.YtobhfopgoidniaaGreat

/- The document's store: one more. -/
namespace Go.Proofs.YtobhfopgoidniaaGreat
open Go Go.Eng

theorem pidx_find (ps : List Pr) (nm : ByteArray) : (0 ≤ pidx ps nm) ↔ (pfind ps nm).isSome = true := by
  unfold pidx pfind
  cases h : ps.findIdx? fun p => decide (p.name = nm) with
  | none =>
    rw [List.findIdx?_eq_none_iff] at h
    simp only [List.find?_isSome]
    constructor
    · intro h0; omega
    · rintro ⟨x, hx, hd⟩
      rw [h x hx] at hd; cases hd
  | some i =>
    rw [List.findIdx?_eq_some_iff_getElem] at h
    obtain ⟨hi, hd, _⟩ := h
    simp only [List.find?_isSome]
    constructor
    · intro _; exact ⟨ps[i], by simp, hd⟩
    · intro _; omega

theorem radd125 (n : Nat) (hn : 2 ≤ n) (vs : Value) (bs : Nat) (hs : List (Pr × PH)) (p : Pr) (h : PH) (g : G) (ks : RefIs g n vs bs hs) (k : POk g 0 p h) :
    Ok Tryz.prog 125 [vs, ppv p h] g [n, n + 1] (fun v g' => v = .int .i64 (padd (hs.map (·.1)) p).2 ∧ ∃ hs', RefIs g' n vs bs hs' ∧ hs'.map (·.1) = (padd (hs.map (·.1)) p).1) := by
  have ks0 := ks
  obtain ⟨rfl, _, _⟩ := ks0
  obtain ⟨a, cap, hob, hrow⟩ := ks.row
  have n1 : n ≠ 1 := by omega
  have n2 : n + 1 ≠ 1 := by omega
  refine fbegin Tryz.func125 rfl Tryz.ntmps125 (Nat.le_of_ble_eq_true rfl) fun C hw hC => ?_
  refine runO hC tabOk 60 ?_
  simp [go_sem]
  repeat ((first | refine condT rfl ?_ | refine condF rfl ?_ | refine skD hC rfl rfl rfl ?_); refine runO hC tabOk 60 ?_; simp [go_sem])
  refine call hC [] (by kernel_rfl) rfl rfl rfl rfl rfl fun m1 g1 p1 e1 => ⟨_, valid213 p h _ 0 (by simp) k.to, fun v1 u1 q1 s1 hv1 => ?_⟩
  subst hv1
  cases h1 : validP p with
  | false =>
    refine runO hC tabOk 60 ?_
    simp [go_sem]
    repeat ((first | refine condT rfl ?_ | refine condF rfl ?_ | refine skD hC rfl rfl rfl ?_); refine runO hC tabOk 60 ?_; simp [go_sem])
    refine ret hC tabOk (fun _ => 1) rfl rfl fun m gf hl ex => ?_
    simp only [padd, h1]
    exact ⟨rfl, hs, ks.ks Kp.ks (by first | (simp; done) | (simp; omega)) (by first | (simp; done) | (simp; omega)) (by first | (simp; done) | (simp; omega)), rfl⟩
  | true =>
  refine runO hC tabOk 60 ?_
  simp [go_sem]
  repeat ((first | refine condT rfl ?_ | refine condF rfl ?_ | refine skD hC rfl rfl rfl ?_); refine runO hC tabOk 60 ?_; simp [go_sem])
  refine call hC [] (by kernel_rfl) rfl rfl rfl rfl rfl fun m2 g2 p2 e2 => ⟨_, rfind214 n hn _ bs hs p.name _ (ks.ks Kp.ks (by first | (simp; done) | (simp; omega)) (by first | (simp; done) | (simp; omega)) (by first | (simp; done) | (simp; omega))), fun v2 u2 q2 s2 hv2 => ?_⟩
  subst hv2
  refine runO hC tabOk 60 ?_
  simp [go_sem]
  repeat ((first | refine condT rfl ?_ | refine condF rfl ?_ | refine skD hC rfl rfl rfl ?_); refine runO hC tabOk 60 ?_; simp [go_sem])
  refine sg_cond rfl (fun h2 => ?_) (fun h2 => ?_)
  · simp at h2
    rw [pidx_find] at h2
    refine runO hC tabOk 60 ?_
    simp [go_sem]
    repeat ((first | refine condT rfl ?_ | refine condF rfl ?_ | refine skD hC rfl rfl rfl ?_); refine runO hC tabOk 60 ?_; simp [go_sem])
    refine ret hC tabOk (fun _ => 1) rfl rfl fun m gf hl ex => ?_
    simp only [padd, h1, h2]
    exact ⟨rfl, hs, ks.ks Kp.ks (by first | (simp; done) | (simp; omega)) (by first | (simp; done) | (simp; omega)) (by first | (simp; done) | (simp; omega)), rfl⟩
  have h3 : (pfind (hs.map (·.1)) p.name).isSome = false := by
    cases q : (pfind (hs.map (·.1)) p.name).isSome with
    | false => rfl
    | true => rw [← pidx_find] at q; simp at h2; omega
  refine runO hC tabOk 60 ?_
  simp [go_sem]
  repeat ((first | refine condT rfl ?_ | refine condF rfl ?_ | refine skD hC rfl rfl rfl ?_); refine runO hC tabOk 60 ?_; simp [go_sem])
  refine vo hC (vo_load1 hC tabOk (hob.ks Kp.ks (by first | (simp; done) | (simp; omega))).all rfl rfl rfl rfl) (nc1 n1) rfl rfl ?_
  refine runO hC tabOk 60 ?_
  simp [go_sem]
  repeat ((first | refine condT rfl ?_ | refine condF rfl ?_ | refine skD hC rfl rfl rfl ?_); refine runO hC tabOk 60 ?_; simp [go_sem])
  refine sg_cond rfl (fun h4 => ?_) (fun h4 => ?_)
  · simp at h4
    have h5 : 100 ≤ (hs.map (·.1)).length := by simp; omega
    refine runO hC tabOk 60 ?_
    simp [go_sem]
    repeat ((first | refine condT rfl ?_ | refine condF rfl ?_ | refine skD hC rfl rfl rfl ?_); refine runO hC tabOk 60 ?_; simp [go_sem])
    refine ret hC tabOk (fun _ => 1) rfl rfl fun m gf hl ex => ?_
    simp only [padd, h1, h3, h5]
    exact ⟨rfl, hs, ks.ks Kp.ks (by first | (simp; done) | (simp; omega)) (by first | (simp; done) | (simp; omega)) (by first | (simp; done) | (simp; omega)), rfl⟩
  simp at h4
  have hp : padd (hs.map (·.1)) p = (hs.map (·.1) ++ [p], 0) := by
    have : ¬ 100 ≤ (hs.map (·.1)).length := by simp; omega
    simp only [padd, h1, h3, this]
    rfl
  refine runO hC tabOk 60 ?_
  simp [go_sem]
  repeat ((first | refine condT rfl ?_ | refine condF rfl ?_ | refine skD hC rfl rfl rfl ?_); refine runO hC tabOk 60 ?_; simp [go_sem])
  refine draw hC [(0, 0), (1, 0), (2, 0), (3, 0), (4, 0), (5, 0), (6, 1), (7, 1)] [8, 9, 10] mix (by kernel_rfl) ?_
  refine runO hC tabOk 60 ?_
  simp [go_sem]
  repeat ((first | refine condT rfl ?_ | refine condF rfl ?_ | refine skD hC rfl rfl rfl ?_); refine runO hC tabOk 60 ?_; simp [go_sem])
  refine voD hC rfl (vo_load1 hC tabOk (hob.ks Kp.ks (by first | (simp; done) | (simp; omega))).all rfl rfl rfl rfl) (nc1 n1) rfl rfl rfl ?_
  refine runO hC tabOk 60 ?_
  simp [go_sem]
  repeat ((first | refine condT rfl ?_ | refine condF rfl ?_ | refine skD hC rfl rfl rfl ?_); refine runO hC tabOk 60 ?_; simp [go_sem])
  refine appD hC (n + 1) 0 112 tabOk (by first | (simp; done) | (simp; omega)) (.inl ⟨by simp, rfl⟩) rfl rfl rfl rfl rfl rfl rfl (by kernel_rfl) rfl rfl rfl (by simp; omega) rfl fun m6 g6 p6 e6 => ?_
  refine ⟨hs.length, rowp hs, 1, pc p h, some ⟨m6.getD 1 0, 0, none⟩, 1, hrow.ks Kp.ks (by first | (simp; done) | (simp; omega)), rfl, Cs.rd (e6.frz (i := 1) rfl rfl rfl), rfl, by have := rowp_one [(p, h)]; simpa [rowp] using this, by simp [maxLen]; omega, by omega, fun v g7 g8 p7 p8 hv => ?_⟩
  obtain ⟨a', cap', rfl, hv1, hv2, hv3⟩ := hv.cs
  refine runO hC tabOk 60 ?_
  simp [go_sem]
  repeat ((first | refine condT rfl ?_ | refine condF rfl ?_ | refine skD hC rfl rfl rfl ?_); refine runO hC tabOk 60 ?_; simp [go_sem])
  refine stob hC tabOk n (by first | (simp; done) | (simp; omega)) (.inl (by simp)) rfl rfl rfl rfl rfl rfl rfl rfl fun m9 g9 p9 e9 => ⟨183, [.slice a hs.length cap], hob.ks Kp.ks (by first | (simp; done) | (simp; omega)), by simp, fun g10 g11 p10 but10 p11 hob' => ?_⟩
  refine runO hC tabOk 60 ?_
  simp [go_sem]
  repeat ((first | refine condT rfl ?_ | refine condF rfl ?_ | refine skD hC rfl rfl rfl ?_); refine runO hC tabOk 60 ?_; simp [go_sem])
  refine ret hC tabOk (fun _ => 1) rfl rfl fun m gf hl ex => ?_
  rw [hp]
  refine ⟨rfl, hs ++ [(p, h)], ⟨rfl, ⟨a', cap', ?_, ?_⟩, fun q hq => ?_⟩, by simp⟩
  · have := hob'.ks (g' := gf) Kp.ks (by first | (simp; done) | (simp; omega))
    rw [show (hs ++ [(p, h)]).length = hs.length + 1 by simp]
    exact this
  · have := hv.ks (g' := gf) Kp.ks (by first | (simp; done) | (simp; omega))
    simpa [rowp] using this
  · rcases List.mem_append.1 hq with hq | hq
    · exact (ks.el q hq).ks Kp.ks (by first | (simp; done) | (simp; omega))
    · obtain rfl := List.mem_singleton.1 hq
      exact k.ks Kp.ks (by first | (simp; done) | (simp; omega))
end Go.Proofs.YtobhfopgoidniaaGreat

/- Both stores. -/
namespace Go.Proofs.YtobhfopgoidniaaGreat
open Go Go.Eng

/-- A list of principals in memory. -/
structure LPOk (g : G) (hs : List (Pr × PH)) (h : Hd) : Prop where
  row : hs = [] ∨ ∃ b off, h.a = some ⟨b, off, none⟩ ∧ Cs g 0 b off (rowp hs)
  len : hs.length ≤ h.cap
  cap : h.cap ≤ maxLen
  el : ∀ p ∈ hs, POk g 0 p.1 p.2

theorem LPOk.to {g g' : G} [Later g g'] {hs : List (Pr × PH)} {h : Hd} (k : LPOk g hs h) : LPOk g' hs h :=
  ⟨by rcases k.row with q | ⟨b, off, q1, q2⟩
      · exact .inl q
      · exact .inr ⟨b, off, q1, q2.to⟩, k.len, k.cap, fun p hp => (k.el p hp).to⟩

theorem LPOk.get {g : G} {hs : List (Pr × PH)} {h : Hd} (k : LPOk g hs h) {i : Nat} {p : Pr × PH} (hi : hs[i]? = some p) : ∃ b off, h.a = some ⟨b, off, none⟩ ∧ Cs g 0 b (off + i * 8) (pc p.1 p.2) := by
  rcases k.row with q | ⟨b, off, q1, q2⟩
  · rw [q] at hi; cases hi
  · refine ⟨b, off, q1, q2.1, q2.2.1, fun j v hj => ?_⟩
    have := q2.2.2 (i * 8 + j) v (rowp_get hs i p hi j v hj)
    rwa [← Nat.add_assoc] at this

/-- All of them, one after another. -/
def addAll (l : List Pr) : List Pr := l.foldl (fun ps p => (padd ps p).1) []

theorem addAll_take (l : List Pr) (i : Nat) (h : i < l.length) : addAll (l.take (i + 1)) = (padd (addAll (l.take i)) l[i]).1 := by
  unfold addAll
  rw [List.take_succ_eq_append_getElem h, List.foldl_append]
  rfl

theorem both34 (n r : Nat) (hn : 2 ≤ n) (hr : n + 4 ≤ r) (hr9 : r + 1 < 99) (hs : List (Pr × PH)) (h : Hd) (g : G) (k : LPOk g hs h) :
    Ok Tryz.prog 34 [.slice h.a hs.length h.cap] g [n + 1, r, r + 1] (fun v g' => ∃ vp vq bs bm ptrs br hs', v = .tuple #[vp, vq] ∧ PolIs g' n vp bs bm ptrs (addAll (hs.map (·.1))) ∧ RefIs g' r vq br hs' ∧ hs'.map (·.1) = addAll (hs.map (·.1))) := by
  have hl : hs.length ≤ 9223372036854775807 := Nat.le_trans k.len k.cap
  refine fbegin Tryz.func34 rfl Tryz.ntmps34 (Nat.le_of_ble_eq_true rfl) fun C hw hC => ?_
  refine runO hC tabOk 60 ?_
  simp [go_sem]
  repeat ((first | refine condT rfl ?_ | refine condF rfl ?_ | refine skD hC rfl rfl rfl ?_); refine runO hC tabOk 60 ?_; simp [go_sem])
  refine call hC [] (by kernel_rfl) rfl rfl rfl rfl rfl fun m1 g1 p1 e1 => ⟨_, pnew123 n hn _, fun v1 u1 q1 s1 hv1 => ?_⟩
  obtain ⟨bs, bm, kp⟩ := hv1
  obtain rfl := kp.v
  refine runO hC tabOk 60 ?_
  simp [go_sem]
  repeat ((first | refine condT rfl ?_ | refine condF rfl ?_ | refine skD hC rfl rfl rfl ?_); refine runO hC tabOk 60 ?_; simp [go_sem])
  refine smallX (fun _ => r) rfl fun m2 g2 p2 e2 => ⟨⟨[(6, .c (.v (.int .i64 0))), (4, .c (.v (.pointer (some ⟨bs, 0, none⟩)))), (5, .c (.v (.pointer (some ⟨m2.getD 0 0, 0, none⟩)))), (0, .c (.v (.slice h.a hs.length h.cap)))], [], [], [], 0⟩, ⟨by simp [go_sem], by simp [go_sem, SV.val, SC.val], rfl, by simp [go_sem], by simp [go_sem], ⟨_, rfl⟩⟩, by simp, ?_⟩
  have kr : RefIs g2 r (.pointer (some ⟨m2.getD 0 0, 0, none⟩)) (m2.getD 0 0) [] := ⟨rfl, ⟨none, 0, e2.ob (i := 0) rfl, rfl, .inl ⟨none, rfl, rfl⟩⟩, by simp⟩
  refine small (fun _ => 1) rfl fun m0 gL p0 e0 => ⟨⟨(fun (x : Nat × G) => [(6, .c (.v (.int .i64 x.1))), (4, .c (.v (.pointer (some ⟨bs, 0, none⟩)))), (5, .c (.v (.pointer (some ⟨m2.getD 0 0, 0, none⟩)))), (0, .c (.v (.slice h.a hs.length h.cap)))]) ((0, gL)), [], (fun _ => []) ((0, gL)), [], 0⟩, ⟨by simp [go_sem], by simp [go_sem], rfl, by simp [go_sem], by simp [go_sem], ⟨_, rfl⟩⟩, by simp, ?_⟩
  refine loop (ι := Nat × G) (fun x => x.1 ≤ hs.length ∧ (∃ ptrs, PolIs x.2 n (.pointer (some ⟨bs, 0, none⟩)) bs bm ptrs (addAll ((hs.map (·.1)).take x.1))) ∧ (∃ hs', RefIs x.2 r (.pointer (some ⟨m2.getD 0 0, 0, none⟩)) (m2.getD 0 0) hs' ∧ hs'.map (·.1) = addAll ((hs.map (·.1)).take x.1)) ∧ Keeps [1, n + 1, r, r + 1] g x.2) (fun x => x.2)
    (fun x => ⟨(fun (x : Nat × G) => [(6, .c (.v (.int .i64 x.1))), (4, .c (.v (.pointer (some ⟨bs, 0, none⟩)))), (5, .c (.v (.pointer (some ⟨m2.getD 0 0, 0, none⟩)))), (0, .c (.v (.slice h.a hs.length h.cap)))]) x, [], (fun _ => []) x, [], 0⟩) (fun x => hs.length - x.1) (fun ⟨i, g'⟩ ⟨hi, ⟨ptrs, hpol⟩, ⟨hs', href, hrr⟩, hk⟩ => ?_) ((0, gL)) (⟨Nat.zero_le _, ⟨[], kp.ks Kp.ks (by first | (simp; done) | (simp; omega)) (by first | (simp; done) | (simp; omega)) (by first | (simp; done) | (simp; omega)) (by first | (simp; done) | (simp; omega))⟩, ⟨[], kr.ks Kp.ks (by first | (simp; done) | (simp; omega)) (by first | (simp; done) | (simp; omega)) (by first | (simp; done) | (simp; omega)), rfl⟩, Keeps.mono (Kp.ks (g := g) (g' := gL)) (by simp)⟩)
  dsimp only at hi hpol href hrr hk ⊢
  haveI : Later g g' := .of hk (by first | (simp; done) | (simp; omega))
  by_cases h1 : i < hs.length
  · obtain ⟨b, off, ea, hcs⟩ := (k.to (g' := g')).get (List.getElem?_eq_getElem h1)
    have kel : POk g' 0 hs[i].1 hs[i].2 := (k.to (g' := g')).el _ (by simp)
    rw [ea]
    refine runO hC tabOk 60 ?_
    simp [go_sem, h1]
    repeat ((first | refine condT rfl ?_ | refine condF rfl ?_ | refine skD hC rfl rfl rfl ?_); refine runO hC tabOk 60 ?_; simp [go_sem, h1])
    try (refine runO hC tabOk 60 ?_; simp [go_sem, h1]; repeat ((first | refine condT rfl ?_ | refine condF rfl ?_ | refine skD hC rfl rfl rfl ?_); refine runO hC tabOk 60 ?_; simp [go_sem, h1]))
    refine vo hC (vo_bin hC rfl rfl rfl (run_ptrnnil Tryz.prog Tryz.underlying33 _ _ _)) rfl rfl rfl ?_
    refine runO hC tabOk 60 ?_
    simp [go_sem]
    repeat ((first | refine condT rfl ?_ | refine condF rfl ?_ | refine skD hC rfl rfl rfl ?_); refine runO hC tabOk 60 ?_; simp [go_sem])
    refine vo hC (vo_index hC tabOk rfl rfl rfl rfl rfl rfl (by omega) (by omega)) rfl rfl rfl ?_
    refine runO hC tabOk 60 ?_
    simp [go_sem]
    repeat ((first | refine condT rfl ?_ | refine condF rfl ?_ | refine skD hC rfl rfl rfl ?_); refine runO hC tabOk 60 ?_; simp [go_sem])
    refine vo hC (vo_load hC tabOk hcs rfl rfl rfl rfl rfl) rfl rfl rfl ?_
    refine runO hC tabOk 60 ?_
    simp [go_sem]
    repeat ((first | refine condT rfl ?_ | refine condF rfl ?_ | refine skD hC rfl rfl rfl ?_); refine runO hC tabOk 60 ?_; simp [go_sem])
    refine call hC [n+1] (by kernel_rfl) rfl rfl rfl (by first | (simp [subL]; done) | (simp [subL]; omega)) rfl fun m3 g3 p3 e3 => ⟨_, padd124 n hn (by omega) _ bs bm ptrs _ hs[i].1 hs[i].2 _ (hpol.ks Kp.ks (by first | (simp; done) | (simp; omega)) (by first | (simp; done) | (simp; omega)) (by first | (simp; done) | (simp; omega)) (by first | (simp; done) | (simp; omega))) kel.to, fun v3 u3 q3 s3 hv3 => ?_⟩
    obtain ⟨rfl, ptrs', hpol'⟩ := hv3
    refine runO hC tabOk 60 ?_
    simp [go_sem]
    repeat ((first | refine condT rfl ?_ | refine condF rfl ?_ | refine skD hC rfl rfl rfl ?_); refine runO hC tabOk 60 ?_; simp [go_sem])
    refine vo hC (vo_index hC tabOk rfl rfl rfl rfl rfl rfl (by omega) (by omega)) rfl rfl rfl ?_
    refine runO hC tabOk 60 ?_
    simp [go_sem]
    repeat ((first | refine condT rfl ?_ | refine condF rfl ?_ | refine skD hC rfl rfl rfl ?_); refine runO hC tabOk 60 ?_; simp [go_sem])
    refine vo hC (vo_load hC tabOk (hcs.ks Kp.ks (by first | (simp; done) | (simp; omega))) rfl rfl rfl rfl rfl) rfl rfl rfl ?_
    refine runO hC tabOk 60 ?_
    simp [go_sem]
    repeat ((first | refine condT rfl ?_ | refine condF rfl ?_ | refine skD hC rfl rfl rfl ?_); refine runO hC tabOk 60 ?_; simp [go_sem])
    refine call hC [r,r+1] (by kernel_rfl) rfl rfl rfl (by first | (simp [subL]; done) | (simp [subL]; omega)) rfl fun m4 g4 p4 e4 => ⟨_, radd125 r (by omega) _ _ hs' hs[i].1 hs[i].2 _ (href.ks Kp.ks (by first | (simp; done) | (simp; omega)) (by first | (simp; done) | (simp; omega)) (by first | (simp; done) | (simp; omega))) (kel.ks Kp.ks (by first | (simp; done) | (simp; omega))), fun v4 u4 q4 s4 hv4 => ?_⟩
    obtain ⟨rfl, hs2, href', hrr'⟩ := hv4
    refine runO hC tabOk 60 ?_
    simp [go_sem]
    repeat ((first | refine condT rfl ?_ | refine condF rfl ?_ | refine skD hC rfl rfl rfl ?_); refine runO hC tabOk 60 ?_; simp [go_sem])
    have ea2 := addAll_take (hs.map (·.1)) i (by simpa using h1)
    refine again (fun _ => 1) fun m8 g8 p8 e8 => ⟨(i + 1, g8), ?_, ?_, rfl, ⟨by simp [go_sem], by simp [go_sem, ea, wrap_inc (show i + 1 ≤ 9223372036854775807 by omega)], rfl, by simp [go_sem], by simp [go_sem], ⟨_, rfl⟩⟩, by simp [go_sem]⟩
    · refine ⟨h1, ⟨ptrs', ?_⟩, ⟨hs2, href'.ks Kp.ks (by first | (simp; done) | (simp; omega)) (by first | (simp; done) | (simp; omega)) (by first | (simp; done) | (simp; omega)), ?_⟩, (hk.then (by first | (simp; done) | (simp; omega)))⟩
      · rw [ea2, List.getElem_map]
        exact hpol'.ks Kp.ks (by first | (simp; done) | (simp; omega)) (by first | (simp; done) | (simp; omega)) (by first | (simp; done) | (simp; omega)) (by first | (simp; done) | (simp; omega))
      · rw [ea2, List.getElem_map, hrr', hrr]
    · dsimp only; omega
  · refine runO hC tabOk 60 ?_
    simp [go_sem, h1]
    repeat ((first | refine condT rfl ?_ | refine condF rfl ?_ | refine skD hC rfl rfl rfl ?_); refine runO hC tabOk 60 ?_; simp [go_sem, h1])
    try (refine runO hC tabOk 60 ?_; simp [go_sem, h1]; repeat ((first | refine condT rfl ?_ | refine condF rfl ?_ | refine skD hC rfl rfl rfl ?_); refine runO hC tabOk 60 ?_; simp [go_sem, h1]))
    refine ret hC tabOk (fun _ => 1) rfl rfl fun m gf hl ex => ?_
    have : i = hs.length := by omega
    subst this
    have e : (hs.map (·.1)).take hs.length = hs.map (·.1) := List.take_of_length_le (by simp)
    rw [e] at hpol hrr
    exact ⟨_, _, bs, bm, ptrs, m2.getD 0 0, hs', rfl, hpol.ks Kp.ks (by first | (simp; done) | (simp; omega)) (by first | (simp; done) | (simp; omega)) (by first | (simp; done) | (simp; omega)) (by first | (simp; done) | (simp; omega)), href.ks Kp.ks (by first | (simp; done) | (simp; omega)) (by first | (simp; done) | (simp; omega)) (by first | (simp; done) | (simp; omega)), hrr⟩
end Go.Proofs.YtobhfopgoidniaaGreat
