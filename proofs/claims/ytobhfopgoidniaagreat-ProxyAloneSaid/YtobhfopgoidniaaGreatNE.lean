/- A login, and a ticket: the document's example. -/
import Derived.Test.YtobhfopgoidniaaGreatNB
import Derived.Test.YtobhfopgoidniaaGreatLA
import Derived.Laws.StructEq
set_option linter.all false
set_option linter.unusedVariables false
set_option linter.unusedSimpArgs false

namespace Go.Eng
open Go
section
variable {C : Ctx} {P : Program} {fn : Func} {n : Nat} {g0 g : G} {L0 : List Nat} {Post : Value → G → Prop} {s : St} {T : Tab} {a : Act} {w : World} {m : List Nat}

/-- Of values of any kind. -/
theorem vo_bin2 (hC : Fnc C P fn n g0 L0 Post) {o : Oper} {op : BinOp} {t t2 : Nat} {x y : Operand} {u v : SV} {r : Value} (ho : o.op = .binOp op t x y t2) (hx : evg [] s.env x = some u) (hy : evg [] s.env y = some v)
    (hr : ∀ m w, ((do eqGuard op t x y (u.val m) (v.val m); binOp op t (u.val m) (v.val m) : Sem Value)).run P w = .ok r w) : Vo C g s o r [] := by
  intro a w m hs w2 _
  have e1 : a.eval x = u.val m := (hs.ev hx).1
  have e2 : a.eval y = v.val m := (hs.ev hy).1
  have h := hr m w2
  simp only [execOp, ho, e1, e2]
  rw [hC.P, Sem.run_bind]
  rw [h]
  rfl
end
end Go.Eng

namespace Go.Proofs.YtobhfopgoidniaaGreat
open Go Go.Eng

theorem fields68 : Tryz.prog.fieldsOf 68 = #[{ name := "From", type := 3, offset := 0, embedded := false, tag := "", pkgPath := "", byteOffset := 0 }, { name := "To", type := 3, offset := 1, embedded := false, tag := "", pkgPath := "", byteOffset := 8 }] := by
  unfold Program.fieldsOf
  rw [Tryz.underlying68]

theorem run_part3 (xs : Array Value) (i : Nat) (v : Value) (h : xs[i]? = some v) (w : World) : (part 3 xs i).run Tryz.prog w = .ok v w := by
  unfold part
  simp only [Sem.run_bind, isAgg, run_underlying Tryz.underlying3, Result.andThen_ok, Sem.run_pure]
  simp [h]

theorem run_speq (x y : Operand) (a b c d : Int) (w : World) : ((do eqGuard .eql 68 x y (spv (a, b)) (spv (c, d)); binOp .eql 68 (spv (a, b)) (spv (c, d)) : Sem Value)).run Tryz.prog w = .ok (.bool (decide (a = c) && decide (b = d))) w := by
  rw [Sem.run_bind]
  unfold spv
  rw [run_eqGuard_agg _ _ _ _ _ _ _ (by kernel_rfl), Result.andThen_ok, run_eql_struct, run_equalIn_struct _ _ _ _ _ (by rw [fields68]; exact Tryz.underlying68) (by kernel_rfl), fields68]
  have h1 : ("From" : String) ≠ "_" := by decide
  have h2 : ("To" : String) ≠ "_" := by decide
  simp only [Op.eqFields, if_pos h1, if_pos h2, Sem.run_bind]
  rw [run_part3 _ 0 (.int .i64 a) rfl, Result.andThen_ok, run_part3 _ 0 (.int .i64 c) rfl, Result.andThen_ok, run_equalIn_int _ _ _ _ _ _ _ Tryz.underlying3, Result.andThen_ok]
  by_cases e : a = c
  · simp [e]
    rw [run_part3 _ 1 (.int .i64 b) rfl, Result.andThen_ok, run_part3 _ 1 (.int .i64 d) rfl, Result.andThen_ok, run_equalIn_int _ _ _ _ _ _ _ Tryz.underlying3]
    by_cases e2 : b = d <;> simp [e2]
  · simp [e]

/-- One cell of an event that stands. -/
theorem EvAt.at {g : G} {a : Option Addr} {cap : Nat} {evs : List Ev} (k : EvAt g a cap evs) {i : Nat} {e : Ev} (hi : evs[i]? = some e) : ∃ b h, a = some ⟨b, 0, none⟩ ∧ Cs g 31 b (i * 10) (evc e h) ∧ StrsOk g 0 e.tr h := by
  obtain ⟨hs, k1, k2, k3⟩ := k
  have hlt : i < evs.length := (List.getElem?_eq_some_iff.1 hi).1
  have hsl : hs.length = evs.length := by rw [← k2]; simp
  obtain ⟨a', cap', e', h1, h2, h3⟩ := k1.cs
  obtain ⟨rfl, _, rfl⟩ := Value.slice.inj e'
  have hp : hs[i]? = some hs[i] := List.getElem?_eq_getElem (by omega)
  have he : hs[i].1 = e := by
    have : (hs.map (·.1))[i]? = some e := by rw [k2]; exact hi
    rw [List.getElem?_map, hp] at this
    simpa using this
  rcases h3 with h3 | ⟨b, rfl, h3⟩
  · exfalso
    have := rowv_len hs
    rw [h3] at this
    simp at this; omega
  · refine ⟨b, hs[i].2, rfl, ⟨h3.1, h3.2.1, fun j v hj => ?_⟩, he ▸ k3 _ (by simp)⟩
    have hr : ∀ (l : List (Ev × Hd)) (i : Nat) (p : Ev × Hd), l[i]? = some p → ∀ j v, (evc p.1 p.2)[j]? = some v → (rowv l)[i * 10 + j]? = some v := by
      intro l
      induction l with
      | nil => intro i p h; cases h
      | cons q r ih =>
        intro i p h j v hj
        cases i with
        | zero =>
          obtain rfl := Option.some.inj h
          have hlt : j < (evc q.1 q.2).length := (List.getElem?_eq_some_iff.1 hj).1
          simp only [rowv, List.flatMap_cons, Nat.zero_mul, Nat.zero_add]
          rw [List.getElem?_append_left hlt]; exact hj
        | succ i =>
          have := ih i p h j v hj
          have e10 : (evc q.1 q.2).length = 10 := rfl
          simp only [rowv, List.flatMap_cons]
          rw [List.getElem?_append_right (by rw [e10]; omega)]
          have e : (i + 1) * 10 + j - (evc q.1 q.2).length = i * 10 + j := by rw [e10]; omega
          rw [e]; exact this
    have := h3.2.2 (i * 10 + j) v (hr hs i hs[i] hp j v (by rw [he]; exact hj))
    rwa [Nat.zero_add] at this

def aPs : List Pr := [⟨bCentre, 1, false, false, [], [], [], 1000⟩, ⟨bAnn, 1, false, false, [], [], [], 500⟩, ⟨bWeb, 1, false, false, [], [], [], 300⟩]
def aHs : List (Pr × PH) := aPs.map fun p => (p, noH)
def a0 : Cen := ⟨addAll (aHs.map (·.1)), max 9 0, [], 0, []⟩
def a1 := inS a0 bAnn (.mk 2 bAnn 1 []) 100 1
def a2 := grantS a1.2 110 (gaskS sAsk bWeb bAnn a1.1.2.1 a1.1.1 (listT []) 110 2 5000)
def a3 := partS (takeS a2.1.1 sTgsRep 3) a1.1.2.1 8
def a4 := openS a3.1 (.mk 2 bWeb 1 [])
def a5 := verifyS a4.1.auth (.mk 2 bWeb 1 []) (.mk 2 bCentre 1 [])

theorem a_a : a1.1.2.2 = true := by decide +kernel
theorem a_b : a2.1.2 = 0 := by decide +kernel
theorem a_c : a3.2.2 = true := by decide +kernel
theorem a_d : a4.2 = 0 := by decide +kernel
theorem a_e : a5.2 = 0 := by decide +kernel
theorem a_f : decide (a5.1.user = bAnn) = true := by decide +kernel
theorem a_g : a4.1.fr = 110 := by decide +kernel
theorem a_h : a4.1.till = 410 := by decide +kernel
theorem a_i : a2.2.evs.length = 2 := by decide +kernel
theorem a_j : (a2.2.evs.getD 1 ⟨0, 0, .empty, .empty, .empty, [], 0, 0, false, 0⟩).kind = 1 := by decide +kernel
theorem a_s1 : tw ((gaskS sAsk bWeb bAnn a1.1.2.1 a1.1.1 (listT []) 110 2 5000)) ≤ 2513169434843 := by decide +kernel
theorem a_s2 : a1.2.came.length ≤ 1099511627776 := by decide +kernel
theorem a_s3 : a1.2.evs.length ≤ 1099511627776 := by decide +kernel
theorem a_s4 : tw (a3.1) ≤ 2513169434843 := by decide +kernel
theorem a_s5 : tw (a4.1.auth) ≤ 2513169434843 := by decide +kernel

theorem kw (g : G) (p : Pr) (h : p.al = [] ∧ p.ac = [] ∧ p.gr = [] ∧ p.name.size ≤ maxLen) : POk g 0 p noH := by
  obtain ⟨h1, h2, h3, h4⟩ := h
  exact ⟨⟨⟨.inl h1, by rw [h1]; exact Nat.le_refl _, Nat.zero_le _⟩, by rw [h1]; simp⟩, ⟨⟨.inl h2, by rw [h2]; exact Nat.le_refl _, Nat.zero_le _⟩, by rw [h2]; simp⟩, ⟨.inl h3, by rw [h3]; exact Nat.le_refl _, Nat.zero_le _⟩, h4⟩

set_option maxHeartbeats 1000000 in
theorem works45 (g : G) : Ok Tryz.prog 45 [] g [11, 20, 21, 30, 31, 32, 33, 50, 51, 61, 62, 63] (fun v _ => v = .bool true) := by
  have kwp : ∀ (g : G), ∀ p ∈ aHs, POk g 0 p.1 p.2 := by
    intro g p hp
    simp only [aHs, aPs, List.map_cons, List.map_nil, List.mem_cons, List.not_mem_nil, or_false] at hp
    rcases hp with rfl | rfl | rfl
    · exact kw _ _ ⟨rfl, rfl, rfl, by decide⟩
    · exact kw _ _ ⟨rfl, rfl, rfl, by decide⟩
    · exact kw _ _ ⟨rfl, rfl, rfl, by decide⟩
  refine fbegin Tryz.func45 rfl Tryz.ntmps45 (Nat.le_of_ble_eq_true rfl) fun C hw hC => ?_
  refine runO hC tabOk 60 ?_
  simp [go_sem]
  repeat ((first | refine condT rfl ?_ | refine condF rfl ?_ | refine skD hC rfl rfl rfl ?_); refine runO hC tabOk 60 ?_; simp [go_sem])
  refine call hC [11,20,21] (by kernel_rfl) rfl rfl rfl rfl rfl fun m1 g1 p1 e1 => ⟨_, both34' aHs ⟨some ⟨m1.getD 0 0, 0, none⟩, 3⟩ _ ⟨.inr ⟨_, _, rfl, e1.frz (i := 0) rfl rfl rfl⟩, Nat.le_refl _, by show (3 : Nat) ≤ maxLen; decide, kwp _⟩, fun v1 u1 q1 s1 hv1 => ?_⟩
  obtain ⟨bp, br, hs', rfl, kpol, kref, _⟩ := hv1
  refine runO hC tabOk 60 ?_
  simp [go_sem]
  repeat ((first | refine condT rfl ?_ | refine condF rfl ?_ | refine skD hC rfl rfl rfl ?_); refine runO hC tabOk 60 ?_; simp [go_sem])
  refine vo hC (vo_bin hC rfl rfl rfl (run_ptrnil Tryz.prog Tryz.underlying33 _ _ _)) rfl rfl rfl ?_
  refine runO hC tabOk 60 ?_
  simp [go_sem]
  repeat ((first | refine condT rfl ?_ | refine condF rfl ?_ | refine skD hC rfl rfl rfl ?_); refine runO hC tabOk 60 ?_; simp [go_sem])
  refine small (fun _ => 1) rfl fun m2 g2 p2 e2 => ⟨⟨[(27, .c (.v (ptr bp)))], [], [], [], 0⟩, ⟨by simp [go_sem], by simp [go_sem], rfl, bxs_ok (n := 0) (Nat.le_refl _) (by simp [go_sem]), by simp [go_sem], ⟨_, rfl⟩⟩, by simp, ?_⟩
  refine call hC [] (by kernel_rfl) rfl rfl rfl rfl rfl fun m3 g3 p3 e3 => ⟨_, lnew37 bp (addAll (aHs.map (·.1))) 9 _ (kpol.ks Kp.ks (by decide) (by decide) (by decide) (by decide)), fun v3 u3 q3 s3 hv3 => ?_⟩
  obtain ⟨b, rfl, kc⟩ := hv3
  refine runO hC tabOk 60 ?_
  simp [go_sem]
  repeat ((first | refine condT rfl ?_ | refine condF rfl ?_ | refine skD hC rfl rfl rfl ?_); refine runO hC tabOk 60 ?_; simp [go_sem])
  refine vo hC (vo_bin hC rfl rfl rfl (run_ptrnil Tryz.prog Tryz.underlying45 _ _ _)) rfl rfl rfl ?_
  refine runO hC tabOk 60 ?_
  simp [go_sem]
  repeat ((first | refine condT rfl ?_ | refine condF rfl ?_ | refine skD hC rfl rfl rfl ?_); refine runO hC tabOk 60 ?_; simp [go_sem])
  refine small (fun _ => 1) rfl fun m4 g4 p4 e4 => ⟨⟨[(32, .c (.v (ptr b))), (3, .c (.v (ptr b)))], [], [], [], 0⟩, ⟨by simp [go_sem], by simp [go_sem], rfl, bxs_ok (n := 0) (Nat.le_refl _) (by simp [go_sem]), by simp [go_sem], ⟨_, rfl⟩⟩, by simp, ?_⟩
  refine call hC [] (by kernel_rfl) rfl rfl rfl rfl rfl fun m5 g5 p5 e5 => ⟨_, key43 bAnn 1 _, fun v5 u5 q5 s5 hv5 => ?_⟩
  subst hv5
  refine runO hC tabOk 60 ?_
  simp [go_sem]
  repeat ((first | refine condT rfl ?_ | refine condF rfl ?_ | refine skD hC rfl rfl rfl ?_); refine runO hC tabOk 60 ?_; simp [go_sem])
  refine call hC [30,31,32,33,61,62,63] (by kernel_rfl) rfl rfl rfl rfl rfl fun m6 g6 p6 e6 => ⟨_, in39 b bp a0 bAnn (.mk 2 bAnn 1 []) 100 1 ⟨none, 0⟩ _ (kc.ks Kp.ks (by decide) (by decide) (by decide) (by decide) (by decide) (by decide) (by decide) (by decide) (by decide)) (tok_leaf _ _ _ _ (by decide)) (by decide) (Nat.zero_le _) (Nat.zero_le _), fun v6 u6 q6 s6 hv6 => ?_⟩
  have hw1 : inS a0 bAnn (.mk 2 bAnn 1 []) 100 1 = a1 := rfl
  rw [hw1] at hv6
  obtain ⟨⟨h1, h2, rfl, k1, k2⟩, kc6⟩ := hv6
  refine runO hC tabOk 60 ?_
  simp [go_sem]
  repeat ((first | refine condT rfl ?_ | refine condF rfl ?_ | refine skD hC rfl rfl rfl ?_); refine runO hC tabOk 60 ?_; simp [go_sem])
  refine draw hC [(0, 0), (1, 0), (2, 0), (9, 2), (3, 1), (4, 1), (5, 1), (6, 0), (7, 0), (8, 0), (9, 3), (10, 1)] [11] mix (by kernel_rfl) ?_
  refine runO hC tabOk 60 ?_
  simp [go_sem]
  repeat ((first | refine condT rfl ?_ | refine condF rfl ?_ | refine skD hC rfl rfl rfl ?_); refine runO hC tabOk 60 ?_; simp [go_sem])
  refine callD hC [] (by kernel_rfl) rfl rfl rfl rfl rfl rfl rfl rfl fun m7 g7 p7 e7 => ⟨_, list56 [] ⟨none, 0⟩ _ (nil_ok _) (by simp), fun v7 u7 q7 s7 hv7 => ?_⟩
  obtain ⟨h7, rfl, k7⟩ := hv7
  refine runO hC tabOk 60 ?_
  simp [go_sem]
  repeat ((first | refine condT rfl ?_ | refine condF rfl ?_ | refine skD hC rfl rfl rfl ?_); refine runO hC tabOk 60 ?_; simp [go_sem])
  refine callD hC [] (by kernel_rfl) rfl rfl rfl rfl rfl rfl rfl rfl fun m8 g8 p8 e8 => ⟨_, gask41 sAsk bWeb bAnn a1.1.2.1 a1.1.1 (listT []) 110 2 5000 h2 h1 h7 _ k2.to k1.to k7.to (by decide) (by decide) (by decide), fun v8 u8 q8 s8 hv8 => ?_⟩
  obtain ⟨h8, rfl, k8⟩ := hv8
  refine runO hC tabOk 60 ?_
  simp [go_sem]
  repeat ((first | refine condT rfl ?_ | refine condF rfl ?_ | refine skD hC rfl rfl rfl ?_); refine runO hC tabOk 60 ?_; simp [go_sem])
  refine callD hC [30,31,32,33,50,51,61,62,63] (by kernel_rfl) rfl rfl rfl rfl rfl rfl rfl rfl fun m9 g9 p9 e9 => ⟨_, answer50 b bp a1.2 110 (gaskS sAsk bWeb bAnn a1.1.2.1 a1.1.1 (listT []) 110 2 5000) h8 _ (kc6.ks Kp.ks (by decide) (by decide) (by decide) (by decide) (by decide) (by decide) (by decide) (by decide) (by decide)) k8.to a_s1 a_s2 a_s3, fun v9 u9 q9 s9 hv9 => ?_⟩
  have hw2 : grantS a1.2 110 (gaskS sAsk bWeb bAnn a1.1.2.1 a1.1.1 (listT []) 110 2 5000) = a2 := rfl
  rw [hw2] at hv9
  obtain ⟨⟨h9, rfl, k9⟩, kc9⟩ := hv9
  refine runO hC tabOk 60 ?_
  simp [go_sem]
  repeat ((first | refine condT rfl ?_ | refine condF rfl ?_ | refine skD hC rfl rfl rfl ?_); refine runO hC tabOk 60 ?_; simp [go_sem])
  refine call hC [] (by kernel_rfl) rfl rfl rfl rfl rfl fun m10 g10 p10 e10 => ⟨_, got42 a2.1.1 a1.1.2.1 h9 h2 _ k9.to k2.to, fun v10 u10 q10 s10 hv10 => ?_⟩
  have hw3 : partS (takeS a2.1.1 sTgsRep 3) a1.1.2.1 8 = a3 := rfl
  rw [hw3] at hv10
  obtain ⟨h10, h10', rfl, k10, k10'⟩ := hv10
  refine runO hC tabOk 60 ?_
  simp [go_sem]
  repeat ((first | refine condT rfl ?_ | refine condF rfl ?_ | refine skD hC rfl rfl rfl ?_); refine runO hC tabOk 60 ?_; simp [go_sem])
  refine draw hC [(0, 0), (6, 2), (1, 1), (2, 1), (3, 0), (4, 0), (5, 0), (6, 3), (7, 1)] [8] mix (by kernel_rfl) ?_
  refine runO hC tabOk 60 ?_
  simp [go_sem]
  repeat ((first | refine condT rfl ?_ | refine condF rfl ?_ | refine skD hC rfl rfl rfl ?_); refine runO hC tabOk 60 ?_; simp [go_sem])
  refine callD hC [] (by kernel_rfl) rfl rfl rfl rfl rfl rfl rfl rfl fun m11 g11 p11 e11 => ⟨_, key43 bWeb 1 _, fun v11 u11 q11 s11 hv11 => ?_⟩
  subst hv11
  refine runO hC tabOk 60 ?_
  simp [go_sem]
  repeat ((first | refine condT rfl ?_ | refine condF rfl ?_ | refine skD hC rfl rfl rfl ?_); refine runO hC tabOk 60 ?_; simp [go_sem])
  refine callD hC [61,62,63] (by kernel_rfl) rfl rfl rfl rfl rfl rfl rfl rfl fun m12 g12 p12 e12 => ⟨_, topen53 a3.1 (.mk 2 bWeb 1 []) h10 ⟨none, 0⟩ _ k10.to (tok_leaf _ _ _ _ (by decide)) a_s4, fun v12 u12 q12 s12 hv12 => ?_⟩
  have hw4 : openS a3.1 (.mk 2 bWeb 1 []) = a4 := rfl
  rw [hw4] at hv12
  obtain ⟨h12, rfl, k12⟩ := hv12
  refine runO hC tabOk 60 ?_
  simp [go_sem]
  repeat ((first | refine condT rfl ?_ | refine condF rfl ?_ | refine skD hC rfl rfl rfl ?_); refine runO hC tabOk 60 ?_; simp [go_sem])
  refine draw hC [(0, 0), (1, 0), (8, 2), (2, 1), (3, 1), (4, 1), (5, 0), (6, 0), (7, 0), (8, 3), (9, 1)] [10] mix (by kernel_rfl) ?_
  refine runO hC tabOk 60 ?_
  simp [go_sem]
  repeat ((first | refine condT rfl ?_ | refine condF rfl ?_ | refine skD hC rfl rfl rfl ?_); refine runO hC tabOk 60 ?_; simp [go_sem])
  refine callD hC [] (by kernel_rfl) rfl rfl rfl rfl rfl rfl rfl rfl fun m13 g13 p13 e13 => ⟨_, key43 bWeb 1 _, fun v13 u13 q13 s13 hv13 => ?_⟩
  subst hv13
  refine runO hC tabOk 60 ?_
  simp [go_sem]
  repeat ((first | refine condT rfl ?_ | refine condF rfl ?_ | refine skD hC rfl rfl rfl ?_); refine runO hC tabOk 60 ?_; simp [go_sem])
  refine callD hC [] (by kernel_rfl) rfl rfl rfl rfl rfl rfl rfl rfl fun m14 g14 p14 e14 => ⟨_, key43 bCentre 1 _, fun v14 u14 q14 s14 hv14 => ?_⟩
  subst hv14
  refine runO hC tabOk 60 ?_
  simp [go_sem]
  repeat ((first | refine condT rfl ?_ | refine condF rfl ?_ | refine skD hC rfl rfl rfl ?_); refine runO hC tabOk 60 ?_; simp [go_sem])
  refine callD hC [61,62,63] (by kernel_rfl) rfl rfl rfl rfl rfl rfl rfl rfl fun m15 g15 p15 e15 => ⟨_, verify54 a4.1.auth (.mk 2 bWeb 1 []) (.mk 2 bCentre 1 []) h12.auth ⟨none, 0⟩ ⟨none, 0⟩ _ k12.auth.to (tok_leaf _ _ _ _ (by decide)) (tok_leaf _ _ _ _ (by decide)) a_s5, fun v15 u15 q15 s15 hv15 => ?_⟩
  have hw5 : verifyS a4.1.auth (.mk 2 bWeb 1 []) (.mk 2 bCentre 1 []) = a5 := rfl
  rw [hw5] at hv15
  obtain ⟨h15, rfl, k15⟩ := hv15
  refine runO hC tabOk 60 ?_
  simp [go_sem]
  repeat ((first | refine condT rfl ?_ | refine condF rfl ?_ | refine skD hC rfl rfl rfl ?_); refine runO hC tabOk 60 ?_; simp [go_sem])
  refine call hC [30] (by kernel_rfl) rfl rfl rfl rfl rfl fun m16 g16 p16 e16 => ⟨_, events49 b bp a2.2 _ (kc9.ks Kp.ks (by decide) (by decide) (by decide) (by decide) (by decide) (by decide) (by decide) (by decide) (by decide)), fun v16 u16 q16 s16 hv16 => ?_⟩
  obtain ⟨⟨ea, ecap, rfl, kev⟩, kc16⟩ := hv16
  have h1' : a2.2.evs[1]? = some (a2.2.evs.getD 1 ⟨0, 0, .empty, .empty, .empty, [], 0, 0, false, 0⟩) := getD_some _ _ _ (by rw [a_i]; decide)
  obtain ⟨be, he, rfl, kcs, _⟩ := kev.at h1'
  have hlen : (a2.2.evs.length : Int) = 2 := by rw [a_i]; rfl
  have hfr := a_g
  have htl := a_h
  refine runO hC tabOk 60 ?_
  simp [go_sem, a_a, a_b, a_c, a_d, a_e, a_f]
  repeat ((first | refine condT rfl ?_ | refine condF rfl ?_ | refine skD hC rfl rfl rfl ?_); refine runO hC tabOk 60 ?_; simp [go_sem, a_a, a_b, a_c, a_d, a_e, a_f])
  try (refine runO hC tabOk 60 ?_; simp [go_sem, a_a, a_b, a_c, a_d, a_e, a_f]; repeat ((first | refine condT rfl ?_ | refine condF rfl ?_ | refine skD hC rfl rfl rfl ?_); refine runO hC tabOk 60 ?_; simp [go_sem, a_a, a_b, a_c, a_d, a_e, a_f]))
  refine vo hC (vo_bin2 hC rfl rfl rfl (fun m w => run_speq _ _ _ _ _ _ w)) rfl rfl rfl ?_
  refine runO hC tabOk 60 ?_
  simp [go_sem, hfr, htl, hlen]
  repeat ((first | refine condT rfl ?_ | refine condF rfl ?_ | refine skD hC rfl rfl rfl ?_); refine runO hC tabOk 60 ?_; simp [go_sem, hfr, htl, hlen])
  try (refine runO hC tabOk 60 ?_; simp [go_sem, hfr, htl, hlen]; repeat ((first | refine condT rfl ?_ | refine condF rfl ?_ | refine skD hC rfl rfl rfl ?_); refine runO hC tabOk 60 ?_; simp [go_sem, hfr, htl, hlen]))
  refine vo hC (vo_index hC tabOk rfl rfl rfl rfl rfl rfl (by omega) (by omega)) rfl rfl rfl ?_
  refine runO hC tabOk 60 ?_
  simp [go_sem]
  repeat ((first | refine condT rfl ?_ | refine condF rfl ?_ | refine skD hC rfl rfl rfl ?_); refine runO hC tabOk 60 ?_; simp [go_sem])
  refine vo hC (vo_load1 hC tabOk ((kcs.one 0 rfl).ks Kp.ks (by decide)) rfl rfl rfl rfl) rfl rfl rfl ?_
  have hk1 := a_j
  refine runO hC tabOk 60 ?_
  simp [go_sem, hk1]
  repeat ((first | refine condT rfl ?_ | refine condF rfl ?_ | refine skD hC rfl rfl rfl ?_); refine runO hC tabOk 60 ?_; simp [go_sem, hk1])
  try (refine runO hC tabOk 60 ?_; simp [go_sem, hk1]; repeat ((first | refine condT rfl ?_ | refine condF rfl ?_ | refine skD hC rfl rfl rfl ?_); refine runO hC tabOk 60 ?_; simp [go_sem, hk1]))
  refine ret hC tabOk (fun _ => 1) rfl rfl fun m gf hl ex => ?_
  rfl
end Go.Proofs.YtobhfopgoidniaaGreat
