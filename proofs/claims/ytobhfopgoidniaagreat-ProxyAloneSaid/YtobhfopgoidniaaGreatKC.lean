/- What is asked with a ticket: all of it. For which user a service may ask; what is answered. -/
import Derived.Test.YtobhfopgoidniaaGreatKB
set_option linter.all false
set_option linter.unusedVariables false
set_option linter.unusedSimpArgs false

/- What is asked with a ticket: all of it. -/
namespace Go.Eng
open Go

section
variable {C : Ctx} {P : Program} {fn : Func} {n : Nat} {g0 g : G} {L0 : List Nat} {Post : Value → G → Prop} {s : St} {T : Tab}

theorem vo_bldf (hC : Fnc C P fn n g0 L0 Post) {o : Oper} {t : Nat} {ps : Array (Nat × Operand)} (vs : List (Nat × Value)) {v : Value} (ho : o.op = .build t ps) (hps : ∀ m, ps.toList.map (fun p => (p.1, (evg [] s.env p.2).map (SV.val m))) = vs.map (fun p => (p.1, some p.2)))
    (hr : ∀ w, (Instr.build t vs.toArray).run P w = .ok v w) : Vo C g s o v [] := by
  intro a w m hs w2 _
  have key : ∀ (l : List (Nat × Operand)) (vs : List (Nat × Value)), l.map (fun p => (p.1, (evg [] s.env p.2).map (SV.val m))) = vs.map (fun p => (p.1, some p.2)) → l.map (fun p => (p.1, a.eval p.2)) = vs := by
    intro l
    induction l with
    | nil =>
      intro vs h
      cases vs with
      | nil => rfl
      | cons _ _ => cases h
    | cons p l ih =>
      intro vs h
      cases vs with
      | nil => cases h
      | cons q vs =>
        simp only [List.map_cons, List.cons.injEq, Prod.mk.injEq] at h
        obtain ⟨⟨h1, h2⟩, h3⟩ := h
        obtain ⟨sv, h2, h4⟩ := Option.map_eq_some_iff.1 h2
        have h4 := (hs.ev h2).1.trans h4
        rw [List.map_cons, ih vs h3, h4, h1]
  have e : (ps.map fun p => (p.1, a.eval p.2)) = vs.toArray := by
    apply Array.ext'
    simp only [Array.toList_map]
    exact key _ _ (hps m)
  simp only [execOp, ho]
  rw [hC.P, Sem.run_bind]
  have := hr w2
  rw [← e] at this
  rw [this]
  rfl
end
end Go.Eng

namespace Go.Proofs.YtobhfopgoidniaaGreat
open Go Go.Eng

def OpE (r : Asd × Int) (v : Value) (g : G) : Prop := ∃ h : AsdH, v = .tuple #[asv r.1 h, .int .i64 r.2] ∧ AsdOk g r.1 h

def oopT (c : Cen) (now : Int) (a : Asd) (x3 x5 : T) : (Asd × Int) × Cen :=
  if oshS a now x5 = 0 then (if (otimeS c a now x3 x5).1.2 = 0 then (({ a with fr := (otimeS c a now x3 x5).1.1.1, till := (otimeS c a now x3 x5).1.1.2 }, 0), (otimeS c a now x3 x5).2) else ((Asd0, (otimeS c a now x3 x5).1.2), (otimeS c a now x3 x5).2)) else ((Asd0, oshS a now x5), c)

def oopA (c : Cen) (now : Int) (a : Asd) (cen x3 x4 x5 : T) : (Asd × Int) × Cen :=
  if topenS x4 cen now = 0 then oopT c now { a with tk := (openS x4 cen).1, au := (verifyS (openS x4 cen).1.auth cen cen).1 } x3 x5 else ((Asd0, topenS x4 cen now), c)

/-- What is asked with a ticket, opened. -/
def oopS (c : Cen) (now : Int) (t : T) : (Asd × Int) × Cen :=
  if (rqS t).2 = 0 then (if (pkey c.ps sCentre).2 = 0 then oopA c now (rqA (rqS t).1) (pkey c.ps sCentre).1 ((rqS t).1.getD 3 T0) ((rqS t).1.getD 4 T0) ((rqS t).1.getD 5 T0) else ((Asd0, (pkey c.ps sCentre).2), c)) else ((Asd0, 50), c)

theorem asc_opc (a : Asd) (h : AsdH) (bc : Nat) (now : Int) (l : List T) (hl : Hd) (cen : T) (hc : Hd) {j : Nat} {v : Value} (hj : (asc a h)[j]? = some v) : (opc a h bc now l hl cen hc)[j]? = some v := by
  have e : opc a h bc now l hl cen hc = asc a h ++ [ptr bc, .int .i64 now, .slice hl.a l.length hl.cap, .int .i64 cen.k, .string cen.s, .int .i64 cen.n, .slice hc.a cen.l.length hc.cap] := rfl
  rw [e]
  rw [List.getElem?_append_left (List.getElem?_eq_some_iff.1 hj).1]
  exact hj

theorem sizes_mem : ∀ (l : List T) (x : T), x ∈ l → x.size ≤ T.sizes l
  | [], x, h => by cases h
  | y :: l, x, h => by
    simp only [T.sizes]
    rcases List.mem_cons.1 h with rfl | h
    · omega
    · have := sizes_mem l x h
      omega

theorem rq_or (t : T) (h : (rqS t).2 = 0) : (rqS t).1.length = 7 ∧ ∀ x ∈ (rqS t).1, tw x ≤ tw t := by
  have hne : ¬ (50 : Int) = 0 := by decide
  rcases take_or t sTgsReq 7 with ⟨e0, hlen, el⟩ | e0
  · have hrq : (rqS t).1 = (takeS t sTgsReq 7).1 := by
      revert h
      unfold rqS
      split
      · rename_i e
        split
        · intro _; rw [e]
        · intro h; exact absurd h hne
      · intro h; exact absurd h hne
    rw [hrq]
    refine ⟨by omega, fun x hx => ?_⟩
    have h1 := tw_l t
    rw [el] at h1
    have h2 := tws_mem _ _ hx
    simp only [tws] at h1
    omega
  · have : rqS t = ([], 50) := by unfold rqS; rw [e0]
    rw [this] at h
    exact absurd h hne

theorem getD_some {α : Type} (l : List α) (i : Nat) (d : α) (h : i < l.length) : l[i]? = some (l.getD i d) := by
  rw [List.getD_eq_getElem?_getD, List.getElem?_eq_getElem h]; rfl

set_option maxHeartbeats 1000000 in
theorem open55 (b bp : Nat) (c : Cen) (now : Int) (t : T) (h : Hd) (g : G) (k : CenIs g b bp c) (kt : TOk g t h) (hsz : tw t ≤ 2513169434843) (hca : c.came.length ≤ 1099511627776) :
    Ok Tryz.prog 55 [ptr b, .int .i64 now, tv t h] g [32, 33, 50, 51, 61, 62, 63] (fun v g' => OpE (oopS c now t).1 v g' ∧ CenIs g' b bp (oopS c now t).2) := by
  have hO : oopS c now t = if (rqS t).2 = 0 then (if (pkey c.ps sCentre).2 = 0 then oopA c now (rqA (rqS t).1) (pkey c.ps sCentre).1 ((rqS t).1.getD 3 T0) ((rqS t).1.getD 4 T0) ((rqS t).1.getD 5 T0) else ((Asd0, (pkey c.ps sCentre).2), c)) else ((Asd0, 50), c) := rfl
  have fail : ∀ (v : Value) (g' : G) (e : Int) (c' : Cen), v = .tuple #[asv Asd0 AsdH0, .int .i64 e] → oopS c now t = ((Asd0, e), c') → CenIs g' b bp c' → OpE (oopS c now t).1 v g' ∧ CenIs g' b bp (oopS c now t).2 := by
    intro v g' e c' h1 h2 h3
    rw [h2]
    exact ⟨⟨AsdH0, h1, Asd0_ok _⟩, h3⟩
  refine fbegin Tryz.func55 rfl Tryz.ntmps55 (Nat.le_of_ble_eq_true rfl) fun C hw hC => ?_
  refine runO hC tabOk 14 ?_
  simp [go_sem]
  repeat ((first | refine condT rfl ?_ | refine condF rfl ?_ | refine skD hC rfl rfl rfl ?_); refine runO hC tabOk 14 ?_; simp [go_sem])
  refine smallX (fun i => if i = 2 then 50 else 1) rfl fun m1 g1 p1 e1 => ⟨⟨[(16, .c (.v (ptr (m1.getD 2 0)))), (8, .c (.v (ptr (m1.getD 2 0)))), (0, .c (.v (ptr b))), (1, .c (.v (.int .i64 now))), (5, .c (.bp 0 0)), (6, .c (.bp 1 0))], [], [(0, ⟨25, [.v (.int .i64 t.k), .v (.string t.s), .v (.int .i64 t.n), .v (.slice h.a t.l.length h.cap)], false⟩), (1, ⟨82, [.v (.string .empty), .v (.string .empty), .v (.int .i64 0), .v (.int .i64 0), .v (.string .empty), .v (.int .i64 0), .v (.slice none 0 0), .v (.string .empty), .v (.int .i64 0), .v (.int .i64 0), .v (.string .empty), .v (.int .i64 0), .v (.slice none 0 0), .v (.string .empty), .v (.int .i64 0), .v (.int .i64 0), .v (.int .i64 0), .v (.string .empty), .v (.int .i64 0), .v (.slice none 0 0), .v (.string .empty), .v (.slice none 0 0), .v (.int .i64 0), .v (.slice none 0 0), .v (.string .empty), .v (.bool false), .v (.int .i64 0), .v (.int .i64 0), .v (.int .i64 0)], false⟩)], [], 2⟩, ⟨by simp [go_sem], by simp [go_sem, SV.val, SC.val], rfl, bxs_ok (n := 2) (Nat.le_refl _) (by simp [go_sem]), by simp [go_sem], ⟨_, rfl⟩⟩, fun i hi => by dsimp only at hi ⊢; rw [if_neg (by omega)], ?_⟩
  have kop : OpIs g1 (m1.getD 2 0) Asd0 b now [] T0 := ⟨AsdH0, ⟨none, 0⟩, ⟨none, 0⟩, e1.ob (i := 2) rfl, Asd0_ok _, nil_ok _, T0_ok _⟩
  generalize m1.getD 2 0 = bo at kop ⊢
  refine runO hC tabOk 60 ?_
  simp [go_sem]
  repeat ((first | refine condT rfl ?_ | refine condF rfl ?_ | refine skD hC rfl rfl rfl ?_); refine runO hC tabOk 60 ?_; simp [go_sem])
  refine call hC [50] (by kernel_rfl) rfl rfl rfl rfl rfl fun m2 g2 p2 e2 => ⟨_, oread154 bo b bp c now t h _ (k.ks Kp.ks (by decide) (by decide) (by decide) (by decide) (by decide) (by decide) (by decide) (by decide) (by decide)) (kop.ks Kp.ks (by decide) (by decide)) kt.to, fun v2 u2 q2 s2 hv2 => ?_⟩
  obtain ⟨hv2, hop⟩ := hv2
  by_cases h1 : (rqS t).2 = 0
  rotate_left
  · rw [if_neg h1] at hv2
    subst hv2
    refine runO hC tabOk 60 ?_
    simp [go_sem]
    repeat ((first | refine condT rfl ?_ | refine condF rfl ?_ | refine skD hC rfl rfl rfl ?_); refine runO hC tabOk 60 ?_; simp [go_sem])
    refine ret hC tabOk (fun _ => 1) rfl rfl fun m gf hl ex => ?_
    exact fail _ _ _ _ rfl (hO.trans (if_neg h1)) (k.ks Kp.ks (by decide) (by decide) (by decide) (by decide) (by decide) (by decide) (by decide) (by decide) (by decide))
  replace hO := hO.trans (if_pos h1)
  obtain ⟨hl7, hsx⟩ := rq_or t h1
  replace hop := hop h1
  rw [if_pos h1] at hv2
  subst hv2
  by_cases h2 : (pkey c.ps sCentre).2 = 0
  rotate_left
  · refine runO hC tabOk 60 ?_
    simp [go_sem, h2]
    repeat ((first | refine condT rfl ?_ | refine condF rfl ?_ | refine skD hC rfl rfl rfl ?_); refine runO hC tabOk 60 ?_; simp [go_sem, h2])
    try (refine runO hC tabOk 60 ?_; simp [go_sem, h2]; repeat ((first | refine condT rfl ?_ | refine condF rfl ?_ | refine skD hC rfl rfl rfl ?_); refine runO hC tabOk 60 ?_; simp [go_sem, h2]))
    refine ret hC tabOk (fun _ => 1) rfl rfl fun m gf hl ex => ?_
    exact fail _ _ _ _ rfl (hO.trans (if_neg h2)) (k.ks Kp.ks (by decide) (by decide) (by decide) (by decide) (by decide) (by decide) (by decide) (by decide) (by decide))
  replace hO := hO.trans (if_pos h2)
  have hx3 := getD_some (rqS t).1 3 T0 (by omega)
  have hx4 := getD_some (rqS t).1 4 T0 (by omega)
  have hx5 := getD_some (rqS t).1 5 T0 (by omega)
  have hs4 := hsx _ (List.mem_of_getElem? hx4)
  generalize (rqS t).1.getD 3 T0 = x3 at hO hx3
  generalize (rqS t).1.getD 4 T0 = x4 at hO hx4 hs4
  generalize (rqS t).1.getD 5 T0 = x5 at hO hx5
  generalize rqA (rqS t).1 = a at hO hop
  generalize (rqS t).1 = l at hx3 hx4 hx5 hop
  generalize (pkey c.ps sCentre).1 = cen at hO hop
  refine runO hC tabOk 60 ?_
  simp [go_sem, h2]
  repeat ((first | refine condT rfl ?_ | refine condF rfl ?_ | refine skD hC rfl rfl rfl ?_); refine runO hC tabOk 60 ?_; simp [go_sem, h2])
  try (refine runO hC tabOk 60 ?_; simp [go_sem, h2]; repeat ((first | refine condT rfl ?_ | refine condF rfl ?_ | refine skD hC rfl rfl rfl ?_); refine runO hC tabOk 60 ?_; simp [go_sem, h2]))
  refine vo hC (vo_bldf hC [(0, .func (.func 155) #[ptr bo] #[]), (1, .func (.func 156) #[ptr bo] #[]), (2, .func (.func 157) #[ptr bo] #[])] rfl (fun _ => rfl) (run_bld tabOk Tryz.underlying226 rfl rfl rfl rfl)) rfl rfl rfl ?_
  refine runO hC tabOk 60 ?_
  simp [go_sem]
  repeat ((first | refine condT rfl ?_ | refine condF rfl ?_ | refine skD hC rfl rfl rfl ?_); refine runO hC tabOk 60 ?_; simp [go_sem])
  refine small (fun _ => 1) rfl fun m3 g3 p3 e3 => ⟨⟨[(31, .c (.v (.int .i64 0))), (30, .ag [.v (.func (.func 155) #[ptr bo] #[]), .v (.func (.func 156) #[ptr bo] #[]), .v (.func (.func 157) #[ptr bo] #[])]), (8, .c (.v (ptr bo))), (6, .c (.bp 1 0))], [], [(0, ⟨25, [.v (.int .i64 t.k), .v (.string t.s), .v (.int .i64 t.n), .v (.slice h.a t.l.length h.cap)], false⟩), (1, ⟨82, [.v (.string .empty), .v (.string .empty), .v (.int .i64 0), .v (.int .i64 0), .v (.string .empty), .v (.int .i64 0), .v (.slice none 0 0), .v (.string .empty), .v (.int .i64 0), .v (.int .i64 0), .v (.string .empty), .v (.int .i64 0), .v (.slice none 0 0), .v (.string .empty), .v (.int .i64 0), .v (.int .i64 0), .v (.int .i64 0), .v (.string .empty), .v (.int .i64 0), .v (.slice none 0 0), .v (.string .empty), .v (.slice none 0 0), .v (.int .i64 0), .v (.slice none 0 0), .v (.string .empty), .v (.bool false), .v (.int .i64 0), .v (.int .i64 0), .v (.int .i64 0)], false⟩)], [], 2⟩, ⟨by simp [go_sem], by simp [go_sem], rfl, bxs_ok (n := 2) (Nat.le_refl _) (by simp [go_sem]), by simp [go_sem], ⟨_, rfl⟩⟩, by simp, ?_⟩
  refine unroll ?_
  refine runO hC tabOk 60 ?_
  simp [go_sem]
  repeat ((first | refine condT rfl ?_ | refine condF rfl ?_ | refine skD hC rfl rfl rfl ?_); refine runO hC tabOk 60 ?_; simp [go_sem])
  refine vo hC (vo_ixa (vs := [.func (.func 155) #[ptr bo] #[], .func (.func 156) #[ptr bo] #[], .func (.func 157) #[ptr bo] #[]]) (v := .func (.func 155) #[ptr bo] #[]) hC tabOk rfl rfl (fun _ => rfl) rfl Tryz.underlying226 rfl rfl rfl (by omega) (by omega) rfl) rfl rfl rfl ?_
  refine runO hC tabOk 60 ?_
  simp [go_sem]
  repeat ((first | refine condT rfl ?_ | refine condF rfl ?_ | refine skD hC rfl rfl rfl ?_); refine runO hC tabOk 60 ?_; simp [go_sem])
  refine callv hC [50,61,62,63] 1 rfl rfl rfl rfl (by kernel_rfl) rfl rfl rfl rfl fun m4 g4 w4 p4 e4 => ⟨_, oopen155 bo b a now l cen x4 _ (hop.ks Kp.ks (by decide) (by decide)) hx4 (by omega), fun v4 j4 u4 q4 s4 hv4 r4 => ?_⟩
  obtain ⟨rfl, hop4⟩ := hv4
  by_cases h3 : topenS x4 cen now = 0
  rotate_left
  · refine runO hC tabOk 60 ?_
    simp [go_sem, h3]
    repeat ((first | refine condT rfl ?_ | refine condF rfl ?_ | refine skD hC rfl rfl rfl ?_); refine runO hC tabOk 60 ?_; simp [go_sem, h3])
    try (refine runO hC tabOk 60 ?_; simp [go_sem, h3]; repeat ((first | refine condT rfl ?_ | refine condF rfl ?_ | refine skD hC rfl rfl rfl ?_); refine runO hC tabOk 60 ?_; simp [go_sem, h3]))
    refine ret hC tabOk (fun _ => 1) rfl rfl fun m gf hl ex => ?_
    exact fail _ _ _ _ rfl (by rw [hO]; unfold oopA; rw [if_neg h3]) (k.ks Kp.ks (by decide) (by decide) (by decide) (by decide) (by decide) (by decide) (by decide) (by decide) (by decide))
  have hop5 := hop4 h3
  replace hO : oopS c now t = oopT c now { a with tk := (openS x4 cen).1, au := (verifyS (openS x4 cen).1.auth cen cen).1 } x3 x5 := by rw [hO]; unfold oopA; rw [if_pos h3]
  generalize ({ a with tk := (openS x4 cen).1, au := (verifyS (openS x4 cen).1.auth cen cen).1 } : Asd) = a2 at hO hop5
  refine runO hC tabOk 60 ?_
  simp [go_sem, h3]
  repeat ((first | refine condT rfl ?_ | refine condF rfl ?_ | refine skD hC rfl rfl rfl ?_); refine runO hC tabOk 60 ?_; simp [go_sem, h3])
  try (refine runO hC tabOk 60 ?_; simp [go_sem, h3]; repeat ((first | refine condT rfl ?_ | refine condF rfl ?_ | refine skD hC rfl rfl rfl ?_); refine runO hC tabOk 60 ?_; simp [go_sem, h3]))
  refine small (fun _ => 1) rfl fun m5 g5 p5 e5 => ⟨⟨[(31, .c (.v (.int .i64 1))), (30, .ag [.v (.func (.func 155) #[ptr bo] #[]), .v (.func (.func 156) #[ptr bo] #[]), .v (.func (.func 157) #[ptr bo] #[])]), (8, .c (.v (ptr bo))), (6, .c (.bp 1 0))], [], [(0, ⟨25, [.v (.int .i64 t.k), .v (.string t.s), .v (.int .i64 t.n), .v (.slice h.a t.l.length h.cap)], false⟩), (1, ⟨82, [.v (.string .empty), .v (.string .empty), .v (.int .i64 0), .v (.int .i64 0), .v (.string .empty), .v (.int .i64 0), .v (.slice none 0 0), .v (.string .empty), .v (.int .i64 0), .v (.int .i64 0), .v (.string .empty), .v (.int .i64 0), .v (.slice none 0 0), .v (.string .empty), .v (.int .i64 0), .v (.int .i64 0), .v (.int .i64 0), .v (.string .empty), .v (.int .i64 0), .v (.slice none 0 0), .v (.string .empty), .v (.slice none 0 0), .v (.int .i64 0), .v (.slice none 0 0), .v (.string .empty), .v (.bool false), .v (.int .i64 0), .v (.int .i64 0), .v (.int .i64 0)], false⟩)], [], 2⟩, ⟨by simp [go_sem], by simp [go_sem], rfl, bxs_ok (n := 2) (Nat.le_refl _) (by simp [go_sem]), by simp [go_sem], ⟨_, rfl⟩⟩, by simp, ?_⟩
  refine reroll ?_
  refine runO hC tabOk 60 ?_
  simp [go_sem]
  repeat ((first | refine condT rfl ?_ | refine condF rfl ?_ | refine skD hC rfl rfl rfl ?_); refine runO hC tabOk 60 ?_; simp [go_sem])
  refine vo hC (vo_ixa (vs := [.func (.func 155) #[ptr bo] #[], .func (.func 156) #[ptr bo] #[], .func (.func 157) #[ptr bo] #[]]) (v := .func (.func 156) #[ptr bo] #[]) hC tabOk rfl rfl (fun _ => rfl) rfl Tryz.underlying226 rfl rfl rfl (by omega) (by omega) rfl) rfl rfl rfl ?_
  refine runO hC tabOk 60 ?_
  simp [go_sem]
  repeat ((first | refine condT rfl ?_ | refine condF rfl ?_ | refine skD hC rfl rfl rfl ?_); refine runO hC tabOk 60 ?_; simp [go_sem])
  refine callv hC [51] 1 rfl rfl rfl rfl (by kernel_rfl) rfl rfl rfl rfl fun m6 g6 w6 p6 e6 => ⟨_, shown156 bo b a2 now l cen x5 _ (hop5.ks Kp.ks (by decide) (by decide)) hx5, fun v6 j6 u6 q6 s6 hv6 r6 => ?_⟩
  subst hv6
  have hT : oopS c now t = if oshS a2 now x5 = 0 then (if (otimeS c a2 now x3 x5).1.2 = 0 then (({ a2 with fr := (otimeS c a2 now x3 x5).1.1.1, till := (otimeS c a2 now x3 x5).1.1.2 }, 0), (otimeS c a2 now x3 x5).2) else ((Asd0, (otimeS c a2 now x3 x5).1.2), (otimeS c a2 now x3 x5).2)) else ((Asd0, oshS a2 now x5), c) := hO
  by_cases h4 : oshS a2 now x5 = 0
  rotate_left
  · refine runO hC tabOk 60 ?_
    simp [go_sem, h4]
    repeat ((first | refine condT rfl ?_ | refine condF rfl ?_ | refine skD hC rfl rfl rfl ?_); refine runO hC tabOk 60 ?_; simp [go_sem, h4])
    try (refine runO hC tabOk 60 ?_; simp [go_sem, h4]; repeat ((first | refine condT rfl ?_ | refine condF rfl ?_ | refine skD hC rfl rfl rfl ?_); refine runO hC tabOk 60 ?_; simp [go_sem, h4]))
    refine ret hC tabOk (fun _ => 1) rfl rfl fun m gf hl ex => ?_
    exact fail _ _ _ _ rfl (hT.trans (if_neg h4)) (k.ks Kp.ks (by decide) (by decide) (by decide) (by decide) (by decide) (by decide) (by decide) (by decide) (by decide))
  replace hT := hT.trans (if_pos h4)
  refine runO hC tabOk 60 ?_
  simp [go_sem, h4]
  repeat ((first | refine condT rfl ?_ | refine condF rfl ?_ | refine skD hC rfl rfl rfl ?_); refine runO hC tabOk 60 ?_; simp [go_sem, h4])
  try (refine runO hC tabOk 60 ?_; simp [go_sem, h4]; repeat ((first | refine condT rfl ?_ | refine condF rfl ?_ | refine skD hC rfl rfl rfl ?_); refine runO hC tabOk 60 ?_; simp [go_sem, h4]))
  refine small (fun _ => 1) rfl fun m7 g7 p7 e7 => ⟨⟨[(31, .c (.v (.int .i64 2))), (30, .ag [.v (.func (.func 155) #[ptr bo] #[]), .v (.func (.func 156) #[ptr bo] #[]), .v (.func (.func 157) #[ptr bo] #[])]), (8, .c (.v (ptr bo))), (6, .c (.bp 1 0))], [], [(0, ⟨25, [.v (.int .i64 t.k), .v (.string t.s), .v (.int .i64 t.n), .v (.slice h.a t.l.length h.cap)], false⟩), (1, ⟨82, [.v (.string .empty), .v (.string .empty), .v (.int .i64 0), .v (.int .i64 0), .v (.string .empty), .v (.int .i64 0), .v (.slice none 0 0), .v (.string .empty), .v (.int .i64 0), .v (.int .i64 0), .v (.string .empty), .v (.int .i64 0), .v (.slice none 0 0), .v (.string .empty), .v (.int .i64 0), .v (.int .i64 0), .v (.int .i64 0), .v (.string .empty), .v (.int .i64 0), .v (.slice none 0 0), .v (.string .empty), .v (.slice none 0 0), .v (.int .i64 0), .v (.slice none 0 0), .v (.string .empty), .v (.bool false), .v (.int .i64 0), .v (.int .i64 0), .v (.int .i64 0)], false⟩)], [], 2⟩, ⟨by simp [go_sem], by simp [go_sem], rfl, bxs_ok (n := 2) (Nat.le_refl _) (by simp [go_sem]), by simp [go_sem], ⟨_, rfl⟩⟩, by simp, ?_⟩
  refine reroll ?_
  refine runO hC tabOk 60 ?_
  simp [go_sem]
  repeat ((first | refine condT rfl ?_ | refine condF rfl ?_ | refine skD hC rfl rfl rfl ?_); refine runO hC tabOk 60 ?_; simp [go_sem])
  refine vo hC (vo_ixa (vs := [.func (.func 155) #[ptr bo] #[], .func (.func 156) #[ptr bo] #[], .func (.func 157) #[ptr bo] #[]]) (v := .func (.func 157) #[ptr bo] #[]) hC tabOk rfl rfl (fun _ => rfl) rfl Tryz.underlying226 rfl rfl rfl (by omega) (by omega) rfl) rfl rfl rfl ?_
  refine runO hC tabOk 60 ?_
  simp [go_sem]
  repeat ((first | refine condT rfl ?_ | refine condF rfl ?_ | refine skD hC rfl rfl rfl ?_); refine runO hC tabOk 60 ?_; simp [go_sem])
  refine callv hC [32,33,50] 1 rfl rfl rfl rfl (by kernel_rfl) rfl rfl rfl rfl fun m8 g8 w8 p8 e8 => ⟨_, otime157 bo b bp c a2 now l cen x3 x5 _ (k.ks Kp.ks (by decide) (by decide) (by decide) (by decide) (by decide) (by decide) (by decide) (by decide) (by decide)) (hop5.ks Kp.ks (by decide) (by decide)) hx3 hx5 hca, fun v8 j8 u8 q8 s8 hv8 r8 => ?_⟩
  obtain ⟨rfl, kc8, hop8⟩ := hv8
  generalize otimeS c a2 now x3 x5 = ot at hT kc8 hop8 ⊢
  by_cases h5 : ot.1.2 = 0
  rotate_left
  · refine runO hC tabOk 60 ?_
    simp [go_sem, h5]
    repeat ((first | refine condT rfl ?_ | refine condF rfl ?_ | refine skD hC rfl rfl rfl ?_); refine runO hC tabOk 60 ?_; simp [go_sem, h5])
    try (refine runO hC tabOk 60 ?_; simp [go_sem, h5]; repeat ((first | refine condT rfl ?_ | refine condF rfl ?_ | refine skD hC rfl rfl rfl ?_); refine runO hC tabOk 60 ?_; simp [go_sem, h5]))
    refine ret hC tabOk (fun _ => 1) rfl rfl fun m gf hl ex => ?_
    exact fail _ _ _ _ rfl (hT.trans (if_neg h5)) (kc8.ks Kp.ks (by decide) (by decide) (by decide) (by decide) (by decide) (by decide) (by decide) (by decide) (by decide))
  replace hT := hT.trans (if_pos h5)
  replace hop8 := hop8 h5
  refine runO hC tabOk 60 ?_
  simp [go_sem, h5]
  repeat ((first | refine condT rfl ?_ | refine condF rfl ?_ | refine skD hC rfl rfl rfl ?_); refine runO hC tabOk 60 ?_; simp [go_sem, h5])
  try (refine runO hC tabOk 60 ?_; simp [go_sem, h5]; repeat ((first | refine condT rfl ?_ | refine condF rfl ?_ | refine skD hC rfl rfl rfl ?_); refine runO hC tabOk 60 ?_; simp [go_sem, h5]))
  refine small (fun _ => 1) rfl fun m9 g9 p9 e9 => ⟨⟨[(31, .c (.v (.int .i64 3))), (30, .ag [.v (.func (.func 155) #[ptr bo] #[]), .v (.func (.func 156) #[ptr bo] #[]), .v (.func (.func 157) #[ptr bo] #[])]), (8, .c (.v (ptr bo))), (6, .c (.bp 1 0))], [], [(0, ⟨25, [.v (.int .i64 t.k), .v (.string t.s), .v (.int .i64 t.n), .v (.slice h.a t.l.length h.cap)], false⟩), (1, ⟨82, [.v (.string .empty), .v (.string .empty), .v (.int .i64 0), .v (.int .i64 0), .v (.string .empty), .v (.int .i64 0), .v (.slice none 0 0), .v (.string .empty), .v (.int .i64 0), .v (.int .i64 0), .v (.string .empty), .v (.int .i64 0), .v (.slice none 0 0), .v (.string .empty), .v (.int .i64 0), .v (.int .i64 0), .v (.int .i64 0), .v (.string .empty), .v (.int .i64 0), .v (.slice none 0 0), .v (.string .empty), .v (.slice none 0 0), .v (.int .i64 0), .v (.slice none 0 0), .v (.string .empty), .v (.bool false), .v (.int .i64 0), .v (.int .i64 0), .v (.int .i64 0)], false⟩)], [], 2⟩, ⟨by simp [go_sem], by simp [go_sem], rfl, bxs_ok (n := 2) (Nat.le_refl _) (by simp [go_sem]), by simp [go_sem], ⟨_, rfl⟩⟩, by simp, ?_⟩
  refine reroll ?_
  generalize ({ a2 with fr := ot.1.1.1, till := ot.1.1.2 } : Asd) = a3 at hT hop8
  obtain ⟨ha, hl, hc, ko, koa, _, _⟩ := hop8
  refine runO hC tabOk 60 ?_
  simp [go_sem]
  repeat ((first | refine condT rfl ?_ | refine condF rfl ?_ | refine skD hC rfl rfl rfl ?_); refine runO hC tabOk 60 ?_; simp [go_sem])
  refine vo hC (vo_load hC tabOk ((ko.cs 0 (vs := asc a3 ha) (by intro j v hj; rw [Nat.zero_add]; exact asc_opc _ _ _ _ _ _ _ _ hj)).ks Kp.ks (by decide)) rfl rfl rfl rfl rfl) rfl rfl rfl ?_
  refine runO hC tabOk 60 ?_
  simp [go_sem]
  repeat ((first | refine condT rfl ?_ | refine condF rfl ?_ | refine skD hC rfl rfl rfl ?_); refine runO hC tabOk 60 ?_; simp [go_sem])
  refine ret hC tabOk (fun _ => 1) rfl rfl fun m gf hl ex => ?_
  rw [hT]
  exact ⟨⟨ha, rfl, koa.to⟩, kc8.ks Kp.ks (by decide) (by decide) (by decide) (by decide) (by decide) (by decide) (by decide) (by decide) (by decide)⟩
end Go.Proofs.YtobhfopgoidniaaGreat

/- For which user a service may ask; what is answered. -/
namespace Go.Proofs.YtobhfopgoidniaaGreat
open Go Go.Eng

def itselfB (a : Asd) : Bool := decide (a.target = a.tk.cl) && decide (a.au.user = a.target) && decide (a.au.tr = [])

theorem itself218 (bx : Nat) (a : Asd) (ha : AsdH) (g : G) (k : Ob g 50 bx 82 (asc a ha)) : Ok Tryz.prog 218 [ptr bx] g [] (fun v _ => v = .bool (itselfB a)) := by
  refine fbegin Tryz.func218 rfl Tryz.ntmps218 (Nat.le_of_ble_eq_true rfl) fun C hw hC => ?_
  refine runO hC tabOk 60 ?_
  simp [go_sem]
  repeat ((first | refine condT rfl ?_ | refine condF rfl ?_ | refine skD hC rfl rfl rfl ?_); refine runO hC tabOk 60 ?_; simp [go_sem])
  refine vo hC (vo_load1 hC tabOk (((k.cs 1 (vs := [.string a.target]) (by intro j v hj; match j with | 0 => exact hj | j + 1 => cases hj)).one 0 rfl).ks Kp.ks (by decide)) rfl rfl rfl rfl) rfl rfl rfl ?_
  refine runO hC tabOk 60 ?_
  simp [go_sem]
  repeat ((first | refine condT rfl ?_ | refine condF rfl ?_ | refine skD hC rfl rfl rfl ?_); refine runO hC tabOk 60 ?_; simp [go_sem])
  refine vo hC (vo_load1 hC tabOk (((k.cs 13 (vs := [.string a.tk.cl]) (by intro j v hj; match j with | 0 => exact hj | j + 1 => cases hj)).one 0 rfl).ks Kp.ks (by decide)) rfl rfl rfl rfl) rfl rfl rfl ?_
  by_cases h1 : a.target = a.tk.cl
  rotate_left
  · have d1 : decide (a.target = a.tk.cl) = false := by simp [h1]
    refine runO hC tabOk 60 ?_
    simp [go_sem, d1]
    repeat ((first | refine condT rfl ?_ | refine condF rfl ?_ | refine skD hC rfl rfl rfl ?_); refine runO hC tabOk 60 ?_; simp [go_sem, d1])
    try (refine runO hC tabOk 60 ?_; simp [go_sem, d1]; repeat ((first | refine condT rfl ?_ | refine condF rfl ?_ | refine skD hC rfl rfl rfl ?_); refine runO hC tabOk 60 ?_; simp [go_sem, d1]))
    refine ret hC tabOk (fun _ => 1) rfl rfl fun m gf hl ex => ?_
    simp [itselfB, h1, retv, SV.val, SC.val, vals]
  have d1 : decide (a.target = a.tk.cl) = true := by simp [← h1]
  refine runO hC tabOk 60 ?_
  simp [go_sem, d1]
  repeat ((first | refine condT rfl ?_ | refine condF rfl ?_ | refine skD hC rfl rfl rfl ?_); refine runO hC tabOk 60 ?_; simp [go_sem, d1])
  try (refine runO hC tabOk 60 ?_; simp [go_sem, d1]; repeat ((first | refine condT rfl ?_ | refine condF rfl ?_ | refine skD hC rfl rfl rfl ?_); refine runO hC tabOk 60 ?_; simp [go_sem, d1]))
  refine vo hC (vo_load1 hC tabOk (((k.cs 20 (vs := [.string a.au.user]) (by intro j v hj; match j with | 0 => exact hj | j + 1 => cases hj)).one 0 rfl).ks Kp.ks (by decide)) rfl rfl rfl rfl) rfl rfl rfl ?_
  refine runO hC tabOk 60 ?_
  simp [go_sem]
  repeat ((first | refine condT rfl ?_ | refine condF rfl ?_ | refine skD hC rfl rfl rfl ?_); refine runO hC tabOk 60 ?_; simp [go_sem])
  refine vo hC (vo_load1 hC tabOk (((k.cs 1 (vs := [.string a.target]) (by intro j v hj; match j with | 0 => exact hj | j + 1 => cases hj)).one 0 rfl).ks Kp.ks (by decide)) rfl rfl rfl rfl) rfl rfl rfl ?_
  by_cases h2 : a.au.user = a.target
  rotate_left
  · have d2 : decide (a.au.user = a.target) = false := by simp [h2]
    refine runO hC tabOk 60 ?_
    simp [go_sem, d2]
    repeat ((first | refine condT rfl ?_ | refine condF rfl ?_ | refine skD hC rfl rfl rfl ?_); refine runO hC tabOk 60 ?_; simp [go_sem, d2])
    try (refine runO hC tabOk 60 ?_; simp [go_sem, d2]; repeat ((first | refine condT rfl ?_ | refine condF rfl ?_ | refine skD hC rfl rfl rfl ?_); refine runO hC tabOk 60 ?_; simp [go_sem, d2]))
    refine ret hC tabOk (fun _ => 1) rfl rfl fun m gf hl ex => ?_
    simp [itselfB, h2, retv, SV.val, SC.val, vals]
  have d2 : decide (a.au.user = a.target) = true := by simp [← h2]
  refine runO hC tabOk 60 ?_
  simp [go_sem, d2]
  repeat ((first | refine condT rfl ?_ | refine condF rfl ?_ | refine skD hC rfl rfl rfl ?_); refine runO hC tabOk 60 ?_; simp [go_sem, d2])
  try (refine runO hC tabOk 60 ?_; simp [go_sem, d2]; repeat ((first | refine condT rfl ?_ | refine condF rfl ?_ | refine skD hC rfl rfl rfl ?_); refine runO hC tabOk 60 ?_; simp [go_sem, d2]))
  refine vo hC (vo_load1 hC tabOk (((k.cs 23 (vs := [.slice ha.au.tr.a a.au.tr.length ha.au.tr.cap]) (by intro j v hj; match j with | 0 => exact hj | j + 1 => cases hj)).one 0 rfl).ks Kp.ks (by decide)) rfl rfl rfl rfl) rfl rfl rfl ?_
  refine runO hC tabOk 60 ?_
  simp [go_sem]
  repeat ((first | refine condT rfl ?_ | refine condF rfl ?_ | refine skD hC rfl rfl rfl ?_); refine runO hC tabOk 60 ?_; simp [go_sem])
  refine ret hC tabOk (fun _ => 1) rfl rfl fun m gf hl ex => ?_
  simp [itselfB, d1, d2, retv, SV.val, SC.val, vals]

/-- May it ask for him? -/
def allowedS (ps : List Pr) (a : Asd) (who : ByteArray) : Int :=
  if itselfB a then (if (pget ps who).2 = 0 then (if (pget ps a.target).1.tr = true ∧ (pget ps who).1.se = false then 0 else 61) else (pget ps who).2) else 61

theorem allowed133 (bp bm : Nat) (ptrs : List Nat) (ps : List Pr) (a : Asd) (ha : AsdH) (who : ByteArray) (g : G) (kp : PolIs g 10 (ptr bp) bp bm ptrs ps) (kv : ∀ p ∈ ps, validP p = true) :
    Ok Tryz.prog 133 [ptr bp, asv a ha, .string who] g [] (fun v _ => v = .int .i64 (allowedS ps a who)) := by
  have hA : allowedS ps a who = if itselfB a then (if (pget ps who).2 = 0 then (if (pget ps a.target).1.tr = true ∧ (pget ps who).1.se = false then 0 else 61) else (pget ps who).2) else 61 := rfl
  refine fbegin Tryz.func133 rfl Tryz.ntmps133 (Nat.le_of_ble_eq_true rfl) fun C hw hC => ?_
  refine runO hC tabOk 60 ?_
  simp [go_sem]
  repeat ((first | refine condT rfl ?_ | refine condF rfl ?_ | refine skD hC rfl rfl rfl ?_); refine runO hC tabOk 60 ?_; simp [go_sem])
  refine callv hC [] 50 rfl rfl rfl rfl (by kernel_rfl) rfl rfl rfl rfl fun m1 g1 w1 p1 e1 => ⟨_, itself218 (m1.getD 0 0) a ha _ (e1.ob (i := 0) rfl), fun v1 j1 u1 q1 s1 hv1 r1 => ?_⟩
  subst hv1
  cases h1 : itselfB a with
  | false =>
    refine runO hC tabOk 60 ?_
    simp [go_sem]
    repeat ((first | refine condT rfl ?_ | refine condF rfl ?_ | refine skD hC rfl rfl rfl ?_); refine runO hC tabOk 60 ?_; simp [go_sem])
    refine ret hC tabOk (fun _ => 1) rfl rfl fun m gf hl ex => ?_
    rw [hA.trans (if_neg (by simp [h1]))]
    rfl
  | true =>
  replace hA := hA.trans (if_pos h1)
  refine runO hC tabOk 60 ?_
  simp [go_sem]
  repeat ((first | refine condT rfl ?_ | refine condF rfl ?_ | refine skD hC rfl rfl rfl ?_); refine runO hC tabOk 60 ?_; simp [go_sem])
  refine call hC [] (by kernel_rfl) rfl rfl rfl rfl rfl fun m2 g2 p2 e2 => ⟨_, pget35 10 (by simp) (by simp) (ptr bp) bp bm ptrs ps who _ (kp.ks Kp.ks (by decide) (by decide) (by decide) (by decide)) kv, fun v2 u2 q2 s2 hv2 => ?_⟩
  obtain ⟨hp, rfl, kpr⟩ := hv2
  generalize pget ps who = pw at kpr hA ⊢
  by_cases h2 : pw.2 = 0
  rotate_left
  · refine runO hC tabOk 60 ?_
    simp [go_sem, h2]
    repeat ((first | refine condT rfl ?_ | refine condF rfl ?_ | refine skD hC rfl rfl rfl ?_); refine runO hC tabOk 60 ?_; simp [go_sem, h2])
    try (refine runO hC tabOk 60 ?_; simp [go_sem, h2]; repeat ((first | refine condT rfl ?_ | refine condF rfl ?_ | refine skD hC rfl rfl rfl ?_); refine runO hC tabOk 60 ?_; simp [go_sem, h2]))
    refine ret hC tabOk (fun _ => 1) rfl rfl fun m gf hl ex => ?_
    rw [hA.trans (if_neg h2)]
    rfl
  replace hA := hA.trans (if_pos h2)
  refine runO hC tabOk 60 ?_
  simp [go_sem, h2]
  repeat ((first | refine condT rfl ?_ | refine condF rfl ?_ | refine skD hC rfl rfl rfl ?_); refine runO hC tabOk 60 ?_; simp [go_sem, h2])
  try (refine runO hC tabOk 60 ?_; simp [go_sem, h2]; repeat ((first | refine condT rfl ?_ | refine condF rfl ?_ | refine skD hC rfl rfl rfl ?_); refine runO hC tabOk 60 ?_; simp [go_sem, h2]))
  refine call hC [] (by kernel_rfl) rfl rfl rfl rfl rfl fun m3 g3 p3 e3 => ⟨_, pget35 10 (by simp) (by simp) (ptr bp) bp bm ptrs ps a.target _ (kp.ks Kp.ks (by decide) (by decide) (by decide) (by decide)) kv, fun v3 u3 q3 s3 hv3 => ?_⟩
  obtain ⟨hp3, rfl, kpr3⟩ := hv3
  generalize pget ps a.target = pt at kpr3 hA ⊢
  refine runO hC tabOk 60 ?_
  simp [go_sem]
  repeat ((first | refine condT rfl ?_ | refine condF rfl ?_ | refine skD hC rfl rfl rfl ?_); refine runO hC tabOk 60 ?_; simp [go_sem])
  cases h3 : pt.1.tr with
  | false =>
    refine runO hC tabOk 60 ?_
    simp [go_sem]
    repeat ((first | refine condT rfl ?_ | refine condF rfl ?_ | refine skD hC rfl rfl rfl ?_); refine runO hC tabOk 60 ?_; simp [go_sem])
    refine ret hC tabOk (fun _ => 1) rfl rfl fun m gf hl ex => ?_
    rw [hA.trans (if_neg (by simp [h3]))]
    rfl
  | true =>
  refine runO hC tabOk 60 ?_
  simp [go_sem]
  repeat ((first | refine condT rfl ?_ | refine condF rfl ?_ | refine skD hC rfl rfl rfl ?_); refine runO hC tabOk 60 ?_; simp [go_sem])
  cases h4 : pw.1.se with
  | true =>
    refine runO hC tabOk 60 ?_
    simp [go_sem]
    repeat ((first | refine condT rfl ?_ | refine condF rfl ?_ | refine skD hC rfl rfl rfl ?_); refine runO hC tabOk 60 ?_; simp [go_sem])
    refine ret hC tabOk (fun _ => 1) rfl rfl fun m gf hl ex => ?_
    rw [hA.trans (if_neg (by simp [h4]))]
    rfl
  | false =>
  refine runO hC tabOk 60 ?_
  simp [go_sem]
  repeat ((first | refine condT rfl ?_ | refine condF rfl ?_ | refine skD hC rfl rfl rfl ?_); refine runO hC tabOk 60 ?_; simp [go_sem])
  refine ret hC tabOk (fun _ => 1) rfl rfl fun m gf hl ex => ?_
  rw [hA.trans (if_pos ⟨h3, h4⟩)]
  rfl

theorem otime_evs (c : Cen) (a : Asd) (now : Int) (x3 x5 : T) : (otimeS c a now x3 x5).2.evs = c.evs := by
  unfold otimeS
  split
  · split
    · split
      · split
        · rfl
        · rfl
      · rfl
    · rfl
  · rfl

theorem oop_evs (c : Cen) (now : Int) (t : T) : (oopS c now t).2.evs = c.evs := by
  unfold oopS
  split
  · split
    · unfold oopA
      split
      · unfold oopT
        split
        · split
          · exact otime_evs _ _ _ _ _
          · exact otime_evs _ _ _ _ _
        · rfl
      · rfl
    · rfl
  · rfl

/-- What is to be issued. -/
def traGr (a : Asd) (who : ByteArray) : Gr := ⟨who, who, a.target, 1, 1, [], true, a.fr, a.till⟩
def traEv (a : Asd) (who : ByteArray) : Ev := ⟨2, 0, who, a.target, a.target, [], 0, 0, false, 0⟩

/-- A service asks for a user. -/
def transitS (c : Cen) (now : Int) (t : T) : (T × Int) × Cen :=
  if (oopS c now t).1.2 = 0 then (if (userS (oopS c now t).1.1).2 = 0 then (if allowedS (oopS c now t).2.ps (oopS c now t).1.1 (userS (oopS c now t).1.1).1 = 0 then replyS (oopS c now t).2 now (oopS c now t).1.1 (traGr (oopS c now t).1.1 (userS (oopS c now t).1.1).1) (traEv (oopS c now t).1.1 (userS (oopS c now t).1.1).1) else ((T0, allowedS (oopS c now t).2.ps (oopS c now t).1.1 (userS (oopS c now t).1.1).1), (oopS c now t).2)) else ((T0, (userS (oopS c now t).1.1).2), (oopS c now t).2)) else ((T0, (oopS c now t).1.2), (oopS c now t).2)

theorem answer40 (b bp : Nat) (c : Cen) (now : Int) (t : T) (h : Hd) (g : G) (k : CenIs g b bp c) (kt : TOk g t h) (hsz : tw t ≤ 2513169434843) (hca : c.came.length ≤ 1099511627776) (hev : c.evs.length ≤ 1099511627776) :
    Ok Tryz.prog 40 [ptr b, .int .i64 now, tv t h] g [30, 31, 32, 33, 50, 51, 61, 62, 63] (fun v g' => TE (transitS c now t).1 v g' ∧ CenIs g' b bp (transitS c now t).2) := by
  have hO : transitS c now t = if (oopS c now t).1.2 = 0 then (if (userS (oopS c now t).1.1).2 = 0 then (if allowedS (oopS c now t).2.ps (oopS c now t).1.1 (userS (oopS c now t).1.1).1 = 0 then replyS (oopS c now t).2 now (oopS c now t).1.1 (traGr (oopS c now t).1.1 (userS (oopS c now t).1.1).1) (traEv (oopS c now t).1.1 (userS (oopS c now t).1.1).1) else ((T0, allowedS (oopS c now t).2.ps (oopS c now t).1.1 (userS (oopS c now t).1.1).1), (oopS c now t).2)) else ((T0, (userS (oopS c now t).1.1).2), (oopS c now t).2)) else ((T0, (oopS c now t).1.2), (oopS c now t).2) := rfl
  have fail : ∀ (v : Value) (g' : G) (e : Int) (c' : Cen), v = .tuple #[tv T0 ⟨none, 0⟩, .int .i64 e] → transitS c now t = ((T0, e), c') → CenIs g' b bp c' → TE (transitS c now t).1 v g' ∧ CenIs g' b bp (transitS c now t).2 := by
    intro v g' e c' h1 h2 h3
    rw [h2]
    exact ⟨⟨⟨none, 0⟩, h1, T0_ok _⟩, h3⟩
  have hev2 := oop_evs c now t
  refine fbegin Tryz.func40 rfl Tryz.ntmps40 (Nat.le_of_ble_eq_true rfl) fun C hw hC => ?_
  refine runO hC tabOk 60 ?_
  simp [go_sem]
  repeat ((first | refine condT rfl ?_ | refine condF rfl ?_ | refine skD hC rfl rfl rfl ?_); refine runO hC tabOk 60 ?_; simp [go_sem])
  refine call hC [32,33,50,51,61,62,63] (by kernel_rfl) rfl rfl rfl rfl rfl fun m1 g1 p1 e1 => ⟨_, open55 b bp c now t h _ (k.ks Kp.ks (by decide) (by decide) (by decide) (by decide) (by decide) (by decide) (by decide) (by decide) (by decide)) kt.to hsz hca, fun v1 u1 q1 s1 hv1 => ?_⟩
  obtain ⟨⟨ha, rfl, ka⟩, kc⟩ := hv1
  generalize oopS c now t = oo at ka kc hO hev2 ⊢
  obtain ⟨⟨a, oe⟩, c2⟩ := oo
  dsimp only at ka kc hO hev2 ⊢
  by_cases h1 : oe = 0
  rotate_left
  · refine runO hC tabOk 60 ?_
    simp [go_sem, h1]
    repeat ((first | refine condT rfl ?_ | refine condF rfl ?_ | refine skD hC rfl rfl rfl ?_); refine runO hC tabOk 60 ?_; simp [go_sem, h1])
    try (refine runO hC tabOk 60 ?_; simp [go_sem, h1]; repeat ((first | refine condT rfl ?_ | refine condF rfl ?_ | refine skD hC rfl rfl rfl ?_); refine runO hC tabOk 60 ?_; simp [go_sem, h1]))
    refine ret hC tabOk (fun _ => 1) rfl rfl fun m gf hl ex => ?_
    exact fail _ _ _ _ rfl (hO.trans (if_neg h1)) (kc.ks Kp.ks (by decide) (by decide) (by decide) (by decide) (by decide) (by decide) (by decide) (by decide) (by decide))
  replace hO := hO.trans (if_pos h1)
  refine runO hC tabOk 60 ?_
  simp [go_sem, h1]
  repeat ((first | refine condT rfl ?_ | refine condF rfl ?_ | refine skD hC rfl rfl rfl ?_); refine runO hC tabOk 60 ?_; simp [go_sem, h1])
  try (refine runO hC tabOk 60 ?_; simp [go_sem, h1]; repeat ((first | refine condT rfl ?_ | refine condF rfl ?_ | refine skD hC rfl rfl rfl ?_); refine runO hC tabOk 60 ?_; simp [go_sem, h1]))
  refine call hC [] (by kernel_rfl) rfl rfl rfl rfl rfl fun m2 g2 p2 e2 => ⟨_, user132 a ha _ ka.to, fun v2 u2 q2 s2 hv2 => ?_⟩
  obtain ⟨rfl, hus⟩ := hv2
  generalize userS a = uu at hus hO ⊢
  by_cases h2 : uu.2 = 0
  rotate_left
  · refine runO hC tabOk 60 ?_
    simp [go_sem, h2]
    repeat ((first | refine condT rfl ?_ | refine condF rfl ?_ | refine skD hC rfl rfl rfl ?_); refine runO hC tabOk 60 ?_; simp [go_sem, h2])
    try (refine runO hC tabOk 60 ?_; simp [go_sem, h2]; repeat ((first | refine condT rfl ?_ | refine condF rfl ?_ | refine skD hC rfl rfl rfl ?_); refine runO hC tabOk 60 ?_; simp [go_sem, h2]))
    refine ret hC tabOk (fun _ => 1) rfl rfl fun m gf hl ex => ?_
    exact fail _ _ _ _ rfl (hO.trans (if_neg h2)) (kc.ks Kp.ks (by decide) (by decide) (by decide) (by decide) (by decide) (by decide) (by decide) (by decide) (by decide))
  replace hO := hO.trans (if_pos h2)
  refine runO hC tabOk 60 ?_
  simp [go_sem, h2]
  repeat ((first | refine condT rfl ?_ | refine condF rfl ?_ | refine skD hC rfl rfl rfl ?_); refine runO hC tabOk 60 ?_; simp [go_sem, h2])
  try (refine runO hC tabOk 60 ?_; simp [go_sem, h2]; repeat ((first | refine condT rfl ?_ | refine condF rfl ?_ | refine skD hC rfl rfl rfl ?_); refine runO hC tabOk 60 ?_; simp [go_sem, h2]))
  refine draw hC [(0, 0), (2, 0), (3, 0), (1, 1)] [4, 5] mix (by kernel_rfl) ?_
  refine runO hC tabOk 60 ?_
  simp [go_sem]
  repeat ((first | refine condT rfl ?_ | refine condF rfl ?_ | refine skD hC rfl rfl rfl ?_); refine runO hC tabOk 60 ?_; simp [go_sem])
  refine callD hC [] (by kernel_rfl) rfl rfl rfl rfl rfl rfl rfl rfl fun m3 g3 p3 e3 => ⟨_, policy134 b bp c2 _ (kc.ks Kp.ks (by decide) (by decide) (by decide) (by decide) (by decide) (by decide) (by decide) (by decide) (by decide)), fun v3 u3 q3 s3 hv3 => ?_⟩
  subst hv3
  refine runO hC tabOk 60 ?_
  simp [go_sem]
  repeat ((first | refine condT rfl ?_ | refine condF rfl ?_ | refine skD hC rfl rfl rfl ?_); refine runO hC tabOk 60 ?_; simp [go_sem])
  have kc0 := kc
  obtain ⟨⟨⟨bm, ptrs, kp⟩, kv⟩, _⟩ := kc0
  refine call hC [] (by kernel_rfl) rfl rfl rfl rfl rfl fun m4 g4 p4 e4 => ⟨_, allowed133 bp bm ptrs c2.ps a ha uu.1 _ (kp.ks Kp.ks (by decide) (by decide) (by decide) (by decide)) kv, fun v4 u4 q4 s4 hv4 => ?_⟩
  subst hv4
  by_cases h3 : allowedS c2.ps a uu.1 = 0
  rotate_left
  · refine runO hC tabOk 60 ?_
    simp [go_sem, h3]
    repeat ((first | refine condT rfl ?_ | refine condF rfl ?_ | refine skD hC rfl rfl rfl ?_); refine runO hC tabOk 60 ?_; simp [go_sem, h3])
    try (refine runO hC tabOk 60 ?_; simp [go_sem, h3]; repeat ((first | refine condT rfl ?_ | refine condF rfl ?_ | refine skD hC rfl rfl rfl ?_); refine runO hC tabOk 60 ?_; simp [go_sem, h3]))
    refine ret hC tabOk (fun _ => 1) rfl rfl fun m gf hl ex => ?_
    exact fail _ _ _ _ rfl (hO.trans (if_neg h3)) (kc.ks Kp.ks (by decide) (by decide) (by decide) (by decide) (by decide) (by decide) (by decide) (by decide) (by decide))
  replace hO := hO.trans (if_pos h3)
  refine runO hC tabOk 60 ?_
  simp [go_sem, h3]
  repeat ((first | refine condT rfl ?_ | refine condF rfl ?_ | refine skD hC rfl rfl rfl ?_); refine runO hC tabOk 60 ?_; simp [go_sem, h3])
  try (refine runO hC tabOk 60 ?_; simp [go_sem, h3]; repeat ((first | refine condT rfl ?_ | refine condF rfl ?_ | refine skD hC rfl rfl rfl ?_); refine runO hC tabOk 60 ?_; simp [go_sem, h3]))
  refine call hC [30,31,61,62,63] (by kernel_rfl) rfl rfl rfl rfl rfl fun m5 g5 p5 e5 => ⟨_, reply59 b bp c2 now a (traGr a uu.1) (traEv a uu.1) ha ⟨none, 0⟩ ⟨none, 0⟩ _ (kc.ks Kp.ks (by decide) (by decide) (by decide) (by decide) (by decide) (by decide) (by decide) (by decide) (by decide)) ka.to ⟨⟨⟨.inl rfl, Nat.le_refl _, Nat.zero_le _⟩, by simp [traGr]⟩, hus, hus, ka.t⟩ ⟨⟨.inl rfl, Nat.le_refl _, Nat.zero_le _⟩, by simp [traEv]⟩ (Nat.zero_le _) (by rw [hev2]; exact hev), fun v5 u5 q5 s5 hv5 => ?_⟩
  obtain ⟨⟨h5, rfl, k5⟩, kc5⟩ := hv5
  refine runO hC tabOk 60 ?_
  simp [go_sem]
  repeat ((first | refine condT rfl ?_ | refine condF rfl ?_ | refine skD hC rfl rfl rfl ?_); refine runO hC tabOk 60 ?_; simp [go_sem])
  refine ret hC tabOk (fun _ => 1) rfl rfl fun m gf hl ex => ?_
  rw [hO]
  exact ⟨⟨h5, rfl, k5.to⟩, kc5.ks Kp.ks (by decide) (by decide) (by decide) (by decide) (by decide) (by decide) (by decide) (by decide) (by decide)⟩
end Go.Proofs.YtobhfopgoidniaaGreat
