/- The flags of what is granted; events handed over. What is built is read again. What is opened was in order. A ticket is granted. -/
import Derived.Test.YtobhfopgoidniaaGreatKB
import Derived.Test.YtobhfopgoidniaaGreatKC
set_option linter.all false
set_option linter.unusedVariables false
set_option linter.unusedSimpArgs false

/- The flags of what is granted; events handed over. -/
namespace Go.Proofs.YtobhfopgoidniaaGreat
open Go Go.Eng

def iand (x y : Int) : Int := IntKind.i64.wrap ((BitVec.ofInt 64 x &&& BitVec.ofInt 64 y).toNat)
def ior (x y : Int) : Int := IntKind.i64.wrap ((BitVec.ofInt 64 x ||| BitVec.ofInt 64 y).toNat)
def iandn (x y : Int) : Int := IntKind.i64.wrap ((BitVec.ofInt 64 x &&& ~~~BitVec.ofInt 64 y).toNat)

theorem run_iand (P : Program) (t : Nat) (x y : Operand) (a b : Int) (w : World) : ((do eqGuard .and t x y (.int .i64 a) (.int .i64 b); binOp .and t (.int .i64 a) (.int .i64 b) : Sem Value)).run P w = .ok (.int .i64 (iand a b)) w := rfl
theorem run_ior (P : Program) (t : Nat) (x y : Operand) (a b : Int) (w : World) : ((do eqGuard .or t x y (.int .i64 a) (.int .i64 b); binOp .or t (.int .i64 a) (.int .i64 b) : Sem Value)).run P w = .ok (.int .i64 (ior a b)) w := rfl
theorem run_iandn (P : Program) (t : Nat) (x y : Operand) (a b : Int) (w : World) : ((do eqGuard .andNot t x y (.int .i64 a) (.int .i64 b); binOp .andNot t (.int .i64 a) (.int .i64 b) : Sem Value)).run P w = .ok (.int .i64 (iandn a b)) w := rfl

def hasB (fl k : Int) : Bool := decide (iand fl k = k)

theorem has57 (fl k : Int) (g : G) : Ok Tryz.prog 57 [.int .i64 fl, .int .i64 k] g [] (fun v _ => v = .bool (hasB fl k)) := by
  refine fbegin Tryz.func57 rfl Tryz.ntmps57 (Nat.le_of_ble_eq_true rfl) fun C hw hC => ?_
  refine runO hC tabOk 60 ?_
  simp [go_sem]
  repeat ((first | refine condT rfl ?_ | refine condF rfl ?_ | refine skD hC rfl rfl rfl ?_); refine runO hC tabOk 60 ?_; simp [go_sem])
  refine vo hC (vo_bin hC rfl rfl rfl (run_iand Tryz.prog _ _ _ _ _)) rfl rfl rfl ?_
  refine runO hC tabOk 60 ?_
  simp [go_sem]
  repeat ((first | refine condT rfl ?_ | refine condF rfl ?_ | refine skD hC rfl rfl rfl ?_); refine runO hC tabOk 60 ?_; simp [go_sem])
  refine ret hC tabOk (fun _ => 1) rfl rfl fun m gf hl ex => ?_
  simp [retv, SV.val, SC.val, vals, hasB]

theorem events49 (b bp : Nat) (c : Cen) (g : G) (k : CenIs g b bp c) :
    Ok Tryz.prog 49 [ptr b] g [30] (fun v g' => (∃ a cap, v = .slice a c.evs.length cap ∧ EvAt g' a cap c.evs) ∧ CenIs g' b bp { c with evs := [] }) := by
  obtain ⟨kp, bc, a, cap, k1, k2, k3⟩ := k
  refine fbegin Tryz.func49 rfl Tryz.ntmps49 (Nat.le_of_ble_eq_true rfl) fun C hw hC => ?_
  refine runO hC tabOk 60 ?_
  simp [go_sem]
  repeat ((first | refine condT rfl ?_ | refine condF rfl ?_ | refine skD hC rfl rfl rfl ?_); refine runO hC tabOk 60 ?_; simp [go_sem])
  refine vo hC (vo_load1 hC tabOk (ob1 k1 3 rfl) rfl rfl rfl rfl) rfl rfl rfl ?_
  refine runO hC tabOk 60 ?_
  simp [go_sem]
  repeat ((first | refine condT rfl ?_ | refine condF rfl ?_ | refine skD hC rfl rfl rfl ?_); refine runO hC tabOk 60 ?_; simp [go_sem])
  refine stob hC tabOk 30 (by decide) (.inl (by simp)) rfl rfl rfl rfl rfl rfl rfl rfl fun m9 g9 p9 e9 => ⟨195, _, k1.ks Kp.ks (by decide), by simp, fun g10 g11 p10 but10 p11 hob' => ?_⟩
  refine runO hC tabOk 60 ?_
  simp [go_sem]
  repeat ((first | refine condT rfl ?_ | refine condF rfl ?_ | refine skD hC rfl rfl rfl ?_); refine runO hC tabOk 60 ?_; simp [go_sem])
  refine ret hC tabOk (fun _ => 1) rfl rfl fun m gf hl ex => ?_
  exact ⟨⟨a, cap, rfl, k3.ks Kp.ks (by decide) (by decide)⟩, kp.ks Kp.ks (by decide) (by decide) (by decide) (by decide), bc, none, 0, hob'.ks (g' := gf) Kp.ks (by decide), k2.ks Kp.ks (by decide) (by decide) (by decide), [], ⟨rfl, .inl ⟨_, rfl, rfl⟩⟩, rfl, fun p hp => by simp at hp⟩

def askF (a : Asd) : Int × Int := if a.target = sCentre then (0, 61) else (iandn a.tk.fl 8, 0)
def lendF (a : Asd) : Int × Int := if a.target = sCentre then (0, 61) else if hasB a.tk.fl 4 then (ior a.tk.fl 8, 0) else (0, 60)
def forwF (a : Asd) : Int × Int := if a.target = sCentre then (if hasB a.tk.fl 1 && a.au.fwd then (ior a.tk.fl 2, 0) else (0, 60)) else (0, 61)

theorem ask147 (a : Asd) (h : AsdH) (g : G) : Ok Tryz.prog 147 [asv a h] g [] (fun v _ => v = .tuple #[.int .i64 (askF a).1, .int .i64 (askF a).2]) := by
  have hS : sCentre = ⟨#[99, 101, 110, 116, 114, 101]⟩ := rfl
  refine fbegin Tryz.func147 rfl Tryz.ntmps147 (Nat.le_of_ble_eq_true rfl) fun C hw hC => ?_
  refine runO hC tabOk 60 ?_
  simp [go_sem]
  repeat ((first | refine condT rfl ?_ | refine condF rfl ?_ | refine skD hC rfl rfl rfl ?_); refine runO hC tabOk 60 ?_; simp [go_sem])
  rw [← hS]
  by_cases h1 : a.target = sCentre
  · refine runO hC tabOk 60 ?_
    simp [go_sem, h1]
    repeat ((first | refine condT rfl ?_ | refine condF rfl ?_ | refine skD hC rfl rfl rfl ?_); refine runO hC tabOk 60 ?_; simp [go_sem, h1])
    try (refine runO hC tabOk 60 ?_; simp [go_sem, h1]; repeat ((first | refine condT rfl ?_ | refine condF rfl ?_ | refine skD hC rfl rfl rfl ?_); refine runO hC tabOk 60 ?_; simp [go_sem, h1]))
    refine ret hC tabOk (fun _ => 1) rfl rfl fun m gf hl ex => ?_
    simp [askF, h1, retv, SV.val, SC.val, vals]
  · refine runO hC tabOk 60 ?_
    simp [go_sem, h1]
    repeat ((first | refine condT rfl ?_ | refine condF rfl ?_ | refine skD hC rfl rfl rfl ?_); refine runO hC tabOk 60 ?_; simp [go_sem, h1])
    try (refine runO hC tabOk 60 ?_; simp [go_sem, h1]; repeat ((first | refine condT rfl ?_ | refine condF rfl ?_ | refine skD hC rfl rfl rfl ?_); refine runO hC tabOk 60 ?_; simp [go_sem, h1]))
    refine vo hC (vo_bin hC rfl rfl rfl (run_iandn Tryz.prog _ _ _ _ _)) rfl rfl rfl ?_
    refine runO hC tabOk 60 ?_
    simp [go_sem]
    repeat ((first | refine condT rfl ?_ | refine condF rfl ?_ | refine skD hC rfl rfl rfl ?_); refine runO hC tabOk 60 ?_; simp [go_sem])
    refine ret hC tabOk (fun _ => 1) rfl rfl fun m gf hl ex => ?_
    simp [askF, h1, retv, SV.val, SC.val, vals]

theorem lend148 (a : Asd) (h : AsdH) (g : G) : Ok Tryz.prog 148 [asv a h] g [] (fun v _ => v = .tuple #[.int .i64 (lendF a).1, .int .i64 (lendF a).2]) := by
  have hS : sCentre = ⟨#[99, 101, 110, 116, 114, 101]⟩ := rfl
  refine fbegin Tryz.func148 rfl Tryz.ntmps148 (Nat.le_of_ble_eq_true rfl) fun C hw hC => ?_
  refine runO hC tabOk 60 ?_
  simp [go_sem]
  repeat ((first | refine condT rfl ?_ | refine condF rfl ?_ | refine skD hC rfl rfl rfl ?_); refine runO hC tabOk 60 ?_; simp [go_sem])
  rw [← hS]
  by_cases h1 : a.target = sCentre
  · refine runO hC tabOk 60 ?_
    simp [go_sem, h1]
    repeat ((first | refine condT rfl ?_ | refine condF rfl ?_ | refine skD hC rfl rfl rfl ?_); refine runO hC tabOk 60 ?_; simp [go_sem, h1])
    try (refine runO hC tabOk 60 ?_; simp [go_sem, h1]; repeat ((first | refine condT rfl ?_ | refine condF rfl ?_ | refine skD hC rfl rfl rfl ?_); refine runO hC tabOk 60 ?_; simp [go_sem, h1]))
    refine ret hC tabOk (fun _ => 1) rfl rfl fun m gf hl ex => ?_
    simp [lendF, h1, retv, SV.val, SC.val, vals]
  · refine runO hC tabOk 60 ?_
    simp [go_sem, h1]
    repeat ((first | refine condT rfl ?_ | refine condF rfl ?_ | refine skD hC rfl rfl rfl ?_); refine runO hC tabOk 60 ?_; simp [go_sem, h1])
    try (refine runO hC tabOk 60 ?_; simp [go_sem, h1]; repeat ((first | refine condT rfl ?_ | refine condF rfl ?_ | refine skD hC rfl rfl rfl ?_); refine runO hC tabOk 60 ?_; simp [go_sem, h1]))
    refine call hC [] (by kernel_rfl) rfl rfl rfl rfl rfl fun m1 g1 p1 e1 => ⟨_, has57 a.tk.fl 4 _, fun v1 u1 q1 s1 hv1 => ?_⟩
    subst hv1
    cases h2 : hasB a.tk.fl 4 with
    | false =>
      refine runO hC tabOk 60 ?_
      simp [go_sem]
      repeat ((first | refine condT rfl ?_ | refine condF rfl ?_ | refine skD hC rfl rfl rfl ?_); refine runO hC tabOk 60 ?_; simp [go_sem])
      refine ret hC tabOk (fun _ => 1) rfl rfl fun m gf hl ex => ?_
      simp [lendF, h1, h2, retv, SV.val, SC.val, vals]
    | true =>
      refine runO hC tabOk 60 ?_
      simp [go_sem]
      repeat ((first | refine condT rfl ?_ | refine condF rfl ?_ | refine skD hC rfl rfl rfl ?_); refine runO hC tabOk 60 ?_; simp [go_sem])
      refine vo hC (vo_bin hC rfl rfl rfl (run_ior Tryz.prog _ _ _ _ _)) rfl rfl rfl ?_
      refine runO hC tabOk 60 ?_
      simp [go_sem]
      repeat ((first | refine condT rfl ?_ | refine condF rfl ?_ | refine skD hC rfl rfl rfl ?_); refine runO hC tabOk 60 ?_; simp [go_sem])
      refine ret hC tabOk (fun _ => 1) rfl rfl fun m gf hl ex => ?_
      simp [lendF, h1, h2, retv, SV.val, SC.val, vals]

theorem forw149 (a : Asd) (h : AsdH) (g : G) : Ok Tryz.prog 149 [asv a h] g [] (fun v _ => v = .tuple #[.int .i64 (forwF a).1, .int .i64 (forwF a).2]) := by
  have hS : sCentre = ⟨#[99, 101, 110, 116, 114, 101]⟩ := rfl
  refine fbegin Tryz.func149 rfl Tryz.ntmps149 (Nat.le_of_ble_eq_true rfl) fun C hw hC => ?_
  refine runO hC tabOk 60 ?_
  simp [go_sem]
  repeat ((first | refine condT rfl ?_ | refine condF rfl ?_ | refine skD hC rfl rfl rfl ?_); refine runO hC tabOk 60 ?_; simp [go_sem])
  rw [← hS]
  by_cases h1 : a.target = sCentre
  · refine runO hC tabOk 60 ?_
    simp [go_sem, h1]
    repeat ((first | refine condT rfl ?_ | refine condF rfl ?_ | refine skD hC rfl rfl rfl ?_); refine runO hC tabOk 60 ?_; simp [go_sem, h1])
    try (refine runO hC tabOk 60 ?_; simp [go_sem, h1]; repeat ((first | refine condT rfl ?_ | refine condF rfl ?_ | refine skD hC rfl rfl rfl ?_); refine runO hC tabOk 60 ?_; simp [go_sem, h1]))
    refine call hC [] (by kernel_rfl) rfl rfl rfl rfl rfl fun m1 g1 p1 e1 => ⟨_, has57 a.tk.fl 1 _, fun v1 u1 q1 s1 hv1 => ?_⟩
    subst hv1
    cases h2 : hasB a.tk.fl 1 with
    | false =>
      refine runO hC tabOk 60 ?_
      simp [go_sem]
      repeat ((first | refine condT rfl ?_ | refine condF rfl ?_ | refine skD hC rfl rfl rfl ?_); refine runO hC tabOk 60 ?_; simp [go_sem])
      refine ret hC tabOk (fun _ => 1) rfl rfl fun m gf hl ex => ?_
      simp [forwF, h1, h2, retv, SV.val, SC.val, vals]
    | true =>
      cases h3 : a.au.fwd with
      | false =>
        refine runO hC tabOk 60 ?_
        simp [go_sem, h3]
        repeat ((first | refine condT rfl ?_ | refine condF rfl ?_ | refine skD hC rfl rfl rfl ?_); refine runO hC tabOk 60 ?_; simp [go_sem, h3])
        try (refine runO hC tabOk 60 ?_; simp [go_sem, h3]; repeat ((first | refine condT rfl ?_ | refine condF rfl ?_ | refine skD hC rfl rfl rfl ?_); refine runO hC tabOk 60 ?_; simp [go_sem, h3]))
        refine ret hC tabOk (fun _ => 1) rfl rfl fun m gf hl ex => ?_
        simp [forwF, h1, h2, h3, retv, SV.val, SC.val, vals]
      | true =>
        refine runO hC tabOk 60 ?_
        simp [go_sem, h3]
        repeat ((first | refine condT rfl ?_ | refine condF rfl ?_ | refine skD hC rfl rfl rfl ?_); refine runO hC tabOk 60 ?_; simp [go_sem, h3])
        try (refine runO hC tabOk 60 ?_; simp [go_sem, h3]; repeat ((first | refine condT rfl ?_ | refine condF rfl ?_ | refine skD hC rfl rfl rfl ?_); refine runO hC tabOk 60 ?_; simp [go_sem, h3]))
        refine vo hC (vo_bin hC rfl rfl rfl (run_ior Tryz.prog _ _ _ _ _)) rfl rfl rfl ?_
        refine runO hC tabOk 60 ?_
        simp [go_sem]
        repeat ((first | refine condT rfl ?_ | refine condF rfl ?_ | refine skD hC rfl rfl rfl ?_); refine runO hC tabOk 60 ?_; simp [go_sem])
        refine ret hC tabOk (fun _ => 1) rfl rfl fun m gf hl ex => ?_
        simp [forwF, h1, h2, h3, retv, SV.val, SC.val, vals]
  · refine runO hC tabOk 60 ?_
    simp [go_sem, h1]
    repeat ((first | refine condT rfl ?_ | refine condF rfl ?_ | refine skD hC rfl rfl rfl ?_); refine runO hC tabOk 60 ?_; simp [go_sem, h1])
    try (refine runO hC tabOk 60 ?_; simp [go_sem, h1]; repeat ((first | refine condT rfl ?_ | refine condF rfl ?_ | refine skD hC rfl rfl rfl ?_); refine runO hC tabOk 60 ?_; simp [go_sem, h1]))
    refine ret hC tabOk (fun _ => 1) rfl rfl fun m gf hl ex => ?_
    simp [forwF, h1, retv, SV.val, SC.val, vals]
end Go.Proofs.YtobhfopgoidniaaGreat

/- What is built is read again. -/
namespace Go.Proofs.YtobhfopgoidniaaGreat
open Go Go.Eng

theorem box_seal {key : T} (use : Int) (b : T) (hk : key.k = 2) : boxS (sealT key use b) key use = (b, 0) := by simp [boxS, hk]

theorem box_ne {key key' : T} (use : Int) (b : T) (hk : key'.k = 2) (hne : key ≠ key') : boxS (sealT key use b) key' use = (T0, 20) := by simp [boxS, hk, hne]

theorem take_list (nm : ByteArray) (l : List T) {n : Int} (h : (l.length : Int) = n) : takeS (listT (ofT nm :: l)) nm n = (l, 0) := by
  subst h
  simp [takeS]

theorem rowS_nums : ∀ l : List Int, rowS 1 (l.map numT) false = (l.map numT, false)
  | [] => rfl
  | a :: l => by simp [rowS, oddT, rowS_nums l]
theorem rowS_ofs : ∀ l : List ByteArray, rowS 0 (l.map ofT) false = (l.map ofT, false)
  | [] => rfl
  | a :: l => by simp [rowS, oddT, rowS_ofs l]

theorem read_data (a : Au) (x y : T) (h : auOk a = true) : readM (listT [dataT a, x, y]) = (a, 0) := by
  have e1 : rd1 (listT [dataT a, x, y]) = (dataT a, [], false) := by simp [rd1, nextS, dataT, oddT]
  have e2 : rd2 (listT [dataT a, x, y]) = (ofT a.user, [listT (a.gr.map numT), numT a.org, listT (a.tr.map ofT), ofT a.svc, numT (if a.fwd then 1 else 0), numT a.till], false) := by
    rw [rd2, e1]; simp [dataT, nextS, oddT]
  have e3 : rd3 (listT [dataT a, x, y]) = (a.gr.map numT, [numT a.org, listT (a.tr.map ofT), ofT a.svc, numT (if a.fwd then 1 else 0), numT a.till], false) := by
    rw [rd3, e2]; simp [eachS, nextS, oddT, rowS_nums]
  have e4 : rd4 (listT [dataT a, x, y]) = (numT a.org, [listT (a.tr.map ofT), ofT a.svc, numT (if a.fwd then 1 else 0), numT a.till], false) := by
    rw [rd4, e3]; simp [nextS, oddT]
  have e5 : rd5 (listT [dataT a, x, y]) = (a.tr.map ofT, [ofT a.svc, numT (if a.fwd then 1 else 0), numT a.till], false) := by
    rw [rd5, e4]; simp [eachS, nextS, oddT, rowS_ofs]
  have e6 : rd6 (listT [dataT a, x, y]) = (ofT a.svc, [numT (if a.fwd then 1 else 0), numT a.till], false) := by
    rw [rd6, e5]; simp [nextS, oddT]
  have e7 : rd7 (listT [dataT a, x, y]) = (a.fwd, [numT a.till], false) := by
    rw [rd7, e6]
    cases hf : a.fwd <;> simp [flagS, nextS, oddT]
  have e8 : rd8 (listT [dataT a, x, y]) = (numT a.till, [], false) := by
    rw [rd8, e7]; simp [nextS, oddT]
  have eA : rdA (listT [dataT a, x, y]) = a := by
    simp [rdA, e2, e3, e4, e5, e6, e7, e8, Function.comp_def]
  simp [readM, e8, eA, h]

theorem build_ok {a : Au} {s c : T} (h : auOk a = true) (hs : s.k = 2) (hc : c.k = 2) : buildS a s c = (listT [dataT a, sumT s 18 (dataT a), sumT c 19 (sumT s 18 (dataT a))], 0) := by
  simp [buildS, h, hs, hc]

theorem build_inv {a : Au} {s c : T} (h : (buildS a s c).2 = 0) : auOk a = true ∧ s.k = 2 ∧ c.k = 2 := by
  unfold buildS at h
  split at h
  · rename_i q; simpa [and_assoc] using q
  · simp at h

theorem verify_build {a : Au} {s c : T} (h : (buildS a s c).2 = 0) : verifyS (buildS a s c).1 s c = (a, 0) := by
  obtain ⟨h1, h2, h3⟩ := build_inv h
  rw [build_ok h1 h2 h3]
  have e : serverS (listT [dataT a, sumT s 18 (dataT a), sumT c 19 (sumT s 18 (dataT a))]) s = (a, 0) := by
    simp [serverS, read_data a _ _ h1, summedS, h2]
  simp [verifyS, e, summedS, h3]

theorem tkt_inv {k : Tkt} (h : tktOk k = true) : nameS k.svc = true ∧ nameS k.cl = true ∧ 0 ≤ k.fl ∧ k.fl ≤ 15 ∧ (readM k.auth).2 = 0 ∧ k.key.k = 2 ∧ validT 0 k.key = true ∧ sOk k.fr k.till = true := by
  simpa [tktOk, and_assoc] using h

theorem make_ok {k : Tkt} {key : T} (h : tktOk k = true) (hk : key.k = 2) : makeS k key = (listT [ofT sTicket, ofT k.svc, sealT key 2 (listT [numT k.fl, k.key, ofT k.cl, numT k.fr, numT k.till, k.auth])], 0) := by
  simp [makeS, h, hk]

theorem make_inv {k : Tkt} {key : T} (h : (makeS k key).2 = 0) : tktOk k = true ∧ key.k = 2 := by
  unfold makeS at h
  split at h
  · rename_i q; simpa using q
  · simp at h

theorem service_of (svc : ByteArray) (z : T) (hs : nameS svc = true) : serviceS (listT [ofT sTicket, ofT svc, z]) = (svc, 0) := by
  unfold serviceS
  rw [take_list _ _ (by simp)]
  simp [plainS, hs]

theorem service_make {k : Tkt} {key : T} (h : (makeS k key).2 = 0) : serviceS (makeS k key).1 = (k.svc, 0) := by
  obtain ⟨h1, h2⟩ := make_inv h
  rw [make_ok h1 h2]
  exact service_of _ _ (tkt_inv h1).1

theorem read_k {t : T} (h : (readM t).2 = 0) : t.k = 3 := by
  unfold readM at h
  split at h
  · rename_i q; exact q.1
  · simp at h

theorem open_make {k : Tkt} {key : T} (h : (makeS k key).2 = 0) : openS (makeS k key).1 key = (k, 0) := by
  obtain ⟨h1, h2⟩ := make_inv h
  have hs := service_make h
  rw [make_ok h1 h2] at hs ⊢
  have h4 := tkt_inv h1
  have e : (⟨k.svc, k.fl, k.key, k.cl, k.fr, k.till, k.auth⟩ : Tkt) = k := rfl
  have hb : bodyS k.svc (listT [numT k.fl, k.key, ofT k.cl, numT k.fr, numT k.till, k.auth]) = (k, 0) := by
    simp [bodyS, plainS, h4.2.2.2.2.2.1, read_k h4.2.2.2.2.1, h1]
  simp only [openS, hs, T.l_mk, box_seal 2 _ h2, hb, if_true]

/-- With another key it is not opened. -/
theorem open_ne {k : Tkt} {key key' : T} (h : (makeS k key).2 = 0) (hk : key'.k = 2) (hne : key ≠ key') : openS (makeS k key).1 key' = (Tkt0, 20) := by
  obtain ⟨h1, h2⟩ := make_inv h
  have hs := service_make h
  rw [make_ok h1 h2] at hs ⊢
  simp only [openS, hs, T.l_mk, box_ne 2 _ hk hne, if_true]
  simp

/-! ### What is issued -/

def auO (ps : List Pr) (r : Gr) : Au := ⟨r.user, (pget ps r.user).1.gr, r.org, r.tr, r.svc, r.fwd, r.till⟩
def auT (ps : List Pr) (r : Gr) : T := (buildS (auO ps r) (pkey ps r.svc).1 (pkey ps sCentre).1).1
def tkO (ps : List Pr) (r : Gr) (s : Int) : Tkt := ⟨r.svc, r.fl, keyT .empty s, r.client, r.fr, r.till, auT ps r⟩
def tkT (ps : List Pr) (r : Gr) (s : Int) : T := (makeS (tkO ps r s) (pkey ps r.svc).1).1

structure Good (ps : List Pr) (r : Gr) (s : Int) : Prop where
  ks : (pkey ps r.svc).2 = 0
  kc : (pkey ps sCentre).2 = 0
  au : (buildS (auO ps r) (pkey ps r.svc).1 (pkey ps sCentre).1).2 = 0
  tk : (makeS (tkO ps r s) (pkey ps r.svc).1).2 = 0

theorem Good.issue {c : Cen} {r : Gr} {s : Int} (h : Good c.ps r s) (hs : s = IntKind.i64.wrap (c.serial + 1)) : issueS c r = ((tkT c.ps r s, keyT .empty s, 0), { c with serial := s }) := by
  subst hs
  have e1 : buildS (grAu c r) (pkey c.ps r.svc).1 (pkey c.ps sCentre).1 = (auT c.ps r, 0) := Prod.ext rfl h.au
  have e2 := h.tk
  unfold tkO at e2
  simp [issueS, h.ks, h.kc, e1, e2, tkT, tkO]

theorem issue_inv {c : Cen} {r : Gr} (h : (issueS c r).1.2.2 = 0) : Good c.ps r (IntKind.i64.wrap (c.serial + 1)) := by
  unfold issueS at h
  split at h
  · simp at h
  · rename_i h1
    have h1 : (pkey c.ps r.svc).2 = 0 ∧ (pkey c.ps sCentre).2 = 0 := by simpa using h1
    dsimp only at h
    split at h
    · rename_i h2; exact absurd h h2
    · rename_i h2
      have h2 : (buildS (grAu c r) (pkey c.ps r.svc).1 (pkey c.ps sCentre).1).2 = 0 := by simpa using h2
      split at h
      · rename_i h3; exact absurd h h3
      · rename_i h3
        exact ⟨h1.1, h1.2, h2, by simpa [tkO, auT, grAu, auO] using h3⟩

theorem Good.opens {ps : List Pr} {r : Gr} {s : Int} (h : Good ps r s) : openS (tkT ps r s) (pkey ps r.svc).1 = (tkO ps r s, 0) := open_make h.tk
theorem Good.service {ps : List Pr} {r : Gr} {s : Int} (h : Good ps r s) : serviceS (tkT ps r s) = (r.svc, 0) := service_make h.tk
theorem Good.verify {ps : List Pr} {r : Gr} {s : Int} (h : Good ps r s) : verifyS (auT ps r) (pkey ps r.svc).1 (pkey ps sCentre).1 = (auO ps r, 0) := verify_build h.au

theorem pkey_k {ps : List Pr} {nm : ByteArray} (h : (pkey ps nm).2 = 0) : (pkey ps nm).1.k = 2 := by
  unfold pkey at *
  split
  · rfl
  · rename_i e; rw [e] at h; simp at h

theorem key_valid {s : Int} (h : 1 ≤ s) : validT 0 (keyT .empty s) = true := by
  simp [keyT, validT, shapeT, validTs, h]

theorem good_of {ps : List Pr} {r : Gr} {s : Int} (h1 : (pkey ps r.svc).2 = 0) (h2 : (pkey ps sCentre).2 = 0) (h3 : auOk (auO ps r) = true) (h4 : nameS r.client = true) (h5 : 0 ≤ r.fl) (h6 : r.fl ≤ 15) (h7 : 1 ≤ s) (h8 : sOk r.fr r.till = true) : Good ps r s := by
  have hb := build_ok h3 (pkey_k h1) (pkey_k h2)
  have hsv : nameS r.svc = true := by
    have : nameS (auO ps r).svc = true := by simp only [auOk, Bool.and_eq_true] at h3; simp [h3]
    exact this
  refine ⟨h1, h2, by rw [hb], ?_⟩
  have ht : tktOk (tkO ps r s) = true := by
    have e : (readM (auT ps r)).2 = 0 := by
      unfold auT
      rw [hb, read_data _ _ _ h3]
    simp [tktOk, tkO, hsv, h4, h5, h6, e, key_valid h7, h8]
  rw [make_ok ht (pkey_k h1)]

/-! ### What an answer hands over -/

theorem part_answer (nm client : ByteArray) (tk key session : T) (use nonce : Int) (r : Gr) (hk : key.k = 2) : partS (takeS (answerS nm client tk key session use nonce r) nm 3) key use = (tk, session, true) := by
  unfold answerS
  rw [take_list _ _ (by simp)]
  simp [partS, box_seal use _ hk]

theorem Good.reply {c : Cen} {now : Int} {a : Asd} {r : Gr} {e : Ev} {s : Int} (h : Good c.ps r s) (hs : s = IntKind.i64.wrap (c.serial + 1)) :
    replyS c now a r e = ((answerS sTgsRep r.client (tkT c.ps r s) a.tk.key (keyT .empty s) 8 a.nonce r, 0), noteS { c with serial := s } { e with at_ := now, fl := r.fl, till := r.till }) := by
  simp [replyS, h.issue hs]

/-! ### What is asked with a ticket -/

theorem rq_gask (kind target client : ByteArray) (session tgt extra : T) (now nonce till : Int) :
    rqS (gaskS kind target client session tgt extra now nonce till) = ([ofT kind, ofT target, numT nonce, numT till, tgt, sealT session 7 (listT [ofT client, numT now, numT nonce, ofT kind, ofT target]), extra], 0) := by
  unfold rqS gaskS
  rw [take_list _ _ (by simp)]
  simp [nameT, numB]

theorem Good.topen {ps : List Pr} {r : Gr} {s : Int} (h : Good ps r s) (hc : r.svc = sCentre) (now : Int) : topenS (tkT ps r s) (pkey ps sCentre).1 now = checkN (r.fr, r.till) now 0 := by
  have h1 := h.opens
  have h2 := h.service
  have h3 := h.verify
  rw [hc] at h1 h2 h3
  unfold topenS
  rw [h1, h2]
  simp only [tkO, h3]
  simp [auO, hc]
  exact fun e => e.symm

theorem Good.oop {c : Cen} {r : Gr} {s : Int} (h : Good c.ps r s) (hc : r.svc = sCentre) (kind target client : ByteArray) (session extra : T) (now at_ nonce till : Int) :
    oopS c now (gaskS kind target client session (tkT c.ps r s) extra at_ nonce till) = if checkN (r.fr, r.till) now 0 = 0 then oopT c now ⟨kind, target, nonce, extra, tkO c.ps r s, auO c.ps r, 0, 0⟩ (numT till) (sealT session 7 (listT [ofT client, numT at_, numT nonce, ofT kind, ofT target])) else ((Asd0, checkN (r.fr, r.till) now 0), c) := by
  have h1 := h.opens
  have h3 := h.verify
  rw [hc] at h1 h3
  unfold oopS
  rw [rq_gask]
  simp only [h.kc, if_true, List.getD_cons_zero, List.getD_cons_succ, oopA, h.topen hc, rqA, T.s_mk, T.n_mk]
  rw [h1]
  have h4 : verifyS (tkO c.ps r s).auth (pkey c.ps sCentre).1 (pkey c.ps sCentre).1 = (auO c.ps r, 0) := h3
  rw [h4]

theorem osh_gask {a : Asd} {now : Int} (client kind target : ByteArray) (session : T) (at_ nonce : Int) (hk : a.tk.key.k = 2) :
    oshS a now (sealT session 7 (listT [ofT client, numT at_, numT nonce, ofT kind, ofT target])) = if session = a.tk.key then oshM a now [ofT client, numT at_, numT nonce, ofT kind, ofT target] else 20 := by
  unfold oshS
  by_cases h : session = a.tk.key
  · subst h
    rw [box_seal 7 _ hk]
    simp [plainL, kindB, numB, nameT]
  · rw [box_ne 7 _ hk h, if_neg h]
    simp
end Go.Proofs.YtobhfopgoidniaaGreat

/- What is opened was in order. -/
namespace Go.Proofs.YtobhfopgoidniaaGreat
open Go Go.Eng

theorem read_inv {t : T} (h : (readM t).2 = 0) : auOk (readM t).1 = true ∧ t.k = 3 ∧ t.l.length = 3 ∧ t.s = .empty ∧ t.n = 0 := by
  unfold readM at *
  split at h
  · rename_i q
    rw [if_pos q]
    split at h
    · simp at h
    · rename_i q2
      rw [if_neg q2]
      simp only [not_or, Bool.not_eq_false] at q2
      exact ⟨q2.2.2, q⟩
  · simp at h

theorem server_inv {t s : T} (h : (serverS t s).2 = 0) : ∃ d x y, t.l = [d, x, y] ∧ (readM t).2 = 0 ∧ summedS x s 18 d = true ∧ serverS t s = readM t := by
  unfold serverS at *
  by_cases h0 : (readM t).2 = 0
  · rw [if_pos h0] at h ⊢
    obtain ⟨_, _, hl, _⟩ := read_inv h0
    match hq : t.l, hl with
    | [d, x, y], _ =>
      rw [hq] at h
      dsimp only at h ⊢
      by_cases h1 : summedS x s 18 d = true
      · exact ⟨d, x, y, rfl, h0, h1, by rw [if_pos h1]⟩
      · rw [if_neg h1] at h; simp at h
  · rw [if_neg h0] at h; exact absurd h h0

theorem verify_inv {t s c : T} (h : (verifyS t s c).2 = 0) : ∃ d x y, t.l = [d, x, y] ∧ (readM t).2 = 0 ∧ summedS x s 18 d = true ∧ summedS y c 19 x = true ∧ verifyS t s c = readM t := by
  unfold verifyS at *
  by_cases h0 : (serverS t s).2 = 0
  · rw [if_pos h0] at h ⊢
    obtain ⟨d, x, y, hq, h1, h2, h3⟩ := server_inv h0
    rw [hq] at h ⊢
    dsimp only at h ⊢
    by_cases h4 : summedS y c 19 x = true
    · exact ⟨d, x, y, rfl, h1, h2, h4, by rw [if_pos h4, h3]⟩
    · rw [if_neg h4] at h; simp at h
  · rw [if_neg h0] at h; exact absurd h h0

theorem verify_au {t s c : T} (h : (verifyS t s c).2 = 0) : auOk (verifyS t s c).1 = true := by
  obtain ⟨_, _, _, _, h1, _, _, h2⟩ := verify_inv h
  rw [h2]
  exact (read_inv h1).1

theorem topen_inv {x4 cen : T} {now : Int} (h : topenS x4 cen now = 0) : serviceS x4 = (sCentre, 0) ∧ (openS x4 cen).2 = 0 ∧ checkN ((openS x4 cen).1.fr, (openS x4 cen).1.till) now 0 = 0 ∧ (verifyS (openS x4 cen).1.auth cen cen).2 = 0 ∧ (verifyS (openS x4 cen).1.auth cen cen).1.svc = sCentre ∧ (verifyS (openS x4 cen).1.auth cen cen).1.till = (openS x4 cen).1.till := by
  unfold topenS at h
  split at h
  · rename_i h1
    split at h
    · rename_i h2
      split at h
      · rename_i h3
        split at h
        · rename_i h4
          split at h
          · rename_i h5
            exact ⟨Prod.ext h1.2 h1.1, h2, h3, h4, h5⟩
          · simp at h
        · rename_i h4; exact absurd h h4
      · rename_i h3; exact absurd h h3
    · rename_i h2; exact absurd h h2
  · simp at h

/-- The parts of what is asked that opens. -/
structure Oop (c : Cen) (now : Int) (t k tg n tl tk au ex : T) : Prop where
  eq : takeS t sTgsReq 7 = ([k, tg, n, tl, tk, au, ex], 0)
  nk : nameT k = true
  nt : nameT tg = true
  nn : numB n = true
  nl : numB tl = true
  kc : (pkey c.ps sCentre).2 = 0
  op : topenS tk (pkey c.ps sCentre).1 now = 0

def oopX (c : Cen) (k tg n tk ex : T) : Asd := ⟨k.s, tg.s, n.n, ex, (openS tk (pkey c.ps sCentre).1).1, (verifyS (openS tk (pkey c.ps sCentre).1).1.auth (pkey c.ps sCentre).1 (pkey c.ps sCentre).1).1, 0, 0⟩

theorem oop_inv {c : Cen} {now : Int} {t : T} (h : (oopS c now t).1.2 = 0) : ∃ k tg n tl tk au ex, Oop c now t k tg n tl tk au ex ∧ oshS (oopX c k tg n tk ex) now au = 0 ∧ (otimeS c (oopX c k tg n tk ex) now tl au).1.2 = 0 ∧
    oopS c now t = (({ oopX c k tg n tk ex with fr := (otimeS c (oopX c k tg n tk ex) now tl au).1.1.1, till := (otimeS c (oopX c k tg n tk ex) now tl au).1.1.2 }, 0), (otimeS c (oopX c k tg n tk ex) now tl au).2) := by
  unfold oopS at *
  by_cases h1 : (rqS t).2 = 0
  · rw [if_pos h1] at h ⊢
    by_cases h2 : (pkey c.ps sCentre).2 = 0
    · rw [if_pos h2] at h ⊢
      obtain ⟨k, tg, n, tl, tk, au, ex, ht, hn⟩ : ∃ k tg n tl tk au ex, takeS t sTgsReq 7 = ([k, tg, n, tl, tk, au, ex], 0) ∧ (nameT k && nameT tg && numB n && numB tl) = true := by
        unfold rqS at h1
        split at h1
        · rename_i k tg n tl tk au ex e
          split at h1
          · rename_i q; exact ⟨k, tg, n, tl, tk, au, ex, e, q⟩
          · simp at h1
        · simp at h1
      have hr : (rqS t).1 = [k, tg, n, tl, tk, au, ex] := by unfold rqS; rw [ht]; simp only [hn, if_true]
      rw [hr] at h ⊢
      simp only [List.getD_cons_zero, List.getD_cons_succ, rqA] at h ⊢
      unfold oopA at *
      by_cases h3 : topenS tk (pkey c.ps sCentre).1 now = 0
      · rw [if_pos h3] at h ⊢
        unfold oopT at *
        simp only [Bool.and_eq_true] at hn
        split at h
        · rename_i h4
          rw [if_pos h4]
          split at h
          · rename_i h5
            rw [if_pos h5]
            exact ⟨k, tg, n, tl, tk, au, ex, ⟨ht, hn.1.1.1, hn.1.1.2, hn.1.2, hn.2, h2, h3⟩, h4, h5, rfl⟩
          · rename_i h5; exact absurd h h5
        · rename_i h4; exact absurd h h4
      · rw [if_neg h3] at h; exact absurd h h3
    · rw [if_neg h2] at h; exact absurd h h2
  · rw [if_neg h1] at h; simp at h

theorem oop_au {c : Cen} {now : Int} {t : T} (h : (oopS c now t).1.2 = 0) : auOk (oopS c now t).1.1.au = true := by
  obtain ⟨k, tg, n, tl, tk, au, ex, ho, _, _, e⟩ := oop_inv h
  rw [e]
  exact verify_au (topen_inv ho.op).2.2.2.1
end Go.Proofs.YtobhfopgoidniaaGreat

/- A ticket is granted. -/
namespace Go.Proofs.YtobhfopgoidniaaGreat
open Go Go.Eng

def sAsk : ByteArray := ⟨#[97, 115, 107]⟩
def sLend : ByteArray := ⟨#[108, 101, 110, 100]⟩
def sForward : ByteArray := ⟨#[102, 111, 114, 119, 97, 114, 100]⟩

def kindM : List (ByteArray × Value) := [(sAsk, .func (.func 147) #[] #[]), (sLend, .func (.func 148) #[] #[]), (sForward, .func (.func 149) #[] #[])]
def kindS (a : Asd) : Option (Int × Int) := if a.kind = sAsk then some (askF a) else if a.kind = sLend then some (lendF a) else if a.kind = sForward then some (forwF a) else none

theorem kind_or (a : Asd) (ha : AsdH) : (mget kindM a.kind = none ∧ kindS a = none) ∨ ∃ f F, mget kindM a.kind = some (.func (.func f) #[] #[]) ∧ kindS a = some F ∧ callable Tryz.prog f = true ∧ ∀ g, Ok Tryz.prog f [asv a ha] g [] (fun v _ => v = .tuple #[.int .i64 F.1, .int .i64 F.2]) := by
  by_cases h1 : a.kind = sAsk
  · exact .inr ⟨147, askF a, by simp [kindM, mget, h1], by simp [kindS, h1], by kernel_rfl, fun g => ask147 a ha g⟩
  by_cases h2 : a.kind = sLend
  · refine .inr ⟨148, lendF a, ?_, ?_, by kernel_rfl, fun g => lend148 a ha g⟩
    · have : sLend ≠ sAsk := by decide
      simp [kindM, mget, h2, this]
    · have : sLend ≠ sAsk := by decide
      simp [kindS, h2, this]
  by_cases h3 : a.kind = sForward
  · have q1 : sForward ≠ sAsk := by decide
    have q2 : sForward ≠ sLend := by decide
    exact .inr ⟨149, forwF a, by simp [kindM, mget, h3, q1, q2], by simp [kindS, h3, q1, q2], by kernel_rfl, fun g => forw149 a ha g⟩
  · exact .inl ⟨by simp [kindM, mget, h1, h2, h3], by simp [kindS, h1, h2, h3]⟩

def granGr (a : Asd) (fl : Int) : Gr := ⟨a.au.user, a.tk.cl, a.target, fl, a.au.org, a.au.tr, a.au.fwd, a.fr, a.till⟩
def granEv (a : Asd) : Ev := ⟨1, 0, a.au.user, a.tk.cl, a.target, a.au.tr, 0, 0, false, 0⟩

/-- What is granted, once it is opened. -/
def granO (c : Cen) (now : Int) (a : Asd) : (T × Int) × Cen := match kindS a with
  | none => ((T0, 50), c)
  | some F => if a.extra = listT [] then (if F.2 = 0 then replyS c now a (granGr a F.1) (granEv a) else ((T0, F.2), c)) else ((T0, 50), c)

def grantS (c : Cen) (now : Int) (t : T) : (T × Int) × Cen :=
  if (oopS c now t).1.2 = 0 then granO (oopS c now t).2 now (oopS c now t).1.1 else ((T0, (oopS c now t).1.2), (oopS c now t).2)

set_option maxHeartbeats 1000000 in
theorem answer50 (b bp : Nat) (c : Cen) (now : Int) (t : T) (h : Hd) (g : G) (k : CenIs g b bp c) (kt : TOk g t h) (hsz : tw t ≤ 2513169434843) (hca : c.came.length ≤ 1099511627776) (hev : c.evs.length ≤ 1099511627776) :
    Ok Tryz.prog 50 [ptr b, .int .i64 now, tv t h] g [30, 31, 32, 33, 50, 51, 61, 62, 63] (fun v g' => TE (grantS c now t).1 v g' ∧ CenIs g' b bp (grantS c now t).2) := by
  have hO : grantS c now t = if (oopS c now t).1.2 = 0 then granO (oopS c now t).2 now (oopS c now t).1.1 else ((T0, (oopS c now t).1.2), (oopS c now t).2) := rfl
  have fail : ∀ (v : Value) (g' : G) (e : Int) (c' : Cen), v = .tuple #[tv T0 ⟨none, 0⟩, .int .i64 e] → grantS c now t = ((T0, e), c') → CenIs g' b bp c' → TE (grantS c now t).1 v g' ∧ CenIs g' b bp (grantS c now t).2 := by
    intro v g' e c' h1 h2 h3
    rw [h2]
    exact ⟨⟨⟨none, 0⟩, h1, T0_ok _⟩, h3⟩
  have hev2 := oop_evs c now t
  have hau := @oop_au c now t
  refine fbegin Tryz.func50 rfl Tryz.ntmps50 (Nat.le_of_ble_eq_true rfl) fun C hw hC => ?_
  refine runO hC tabOk 60 ?_
  simp [go_sem]
  repeat ((first | refine condT rfl ?_ | refine condF rfl ?_ | refine skD hC rfl rfl rfl ?_); refine runO hC tabOk 60 ?_; simp [go_sem])
  refine call hC [32,33,50,51,61,62,63] (by kernel_rfl) rfl rfl rfl rfl rfl fun m1 g1 p1 e1 => ⟨_, open55 b bp c now t h _ (k.ks Kp.ks (by decide) (by decide) (by decide) (by decide) (by decide) (by decide) (by decide) (by decide) (by decide)) kt.to hsz hca, fun v1 u1 q1 s1 hv1 => ?_⟩
  obtain ⟨⟨ha, rfl, ka⟩, kc⟩ := hv1
  generalize oopS c now t = oo at ka kc hO hev2 hau ⊢
  obtain ⟨⟨a, oe⟩, c2⟩ := oo
  dsimp only at ka kc hO hev2 hau ⊢
  by_cases h1 : oe = 0
  rotate_left
  · refine runO hC tabOk 60 ?_
    simp [go_sem, h1]
    repeat ((first | refine condT rfl ?_ | refine condF rfl ?_ | refine skD hC rfl rfl rfl ?_); refine runO hC tabOk 60 ?_; simp [go_sem, h1])
    try (refine runO hC tabOk 60 ?_; simp [go_sem, h1]; repeat ((first | refine condT rfl ?_ | refine condF rfl ?_ | refine skD hC rfl rfl rfl ?_); refine runO hC tabOk 60 ?_; simp [go_sem, h1]))
    refine ret hC tabOk (fun _ => 1) rfl rfl fun m gf hl ex => ?_
    exact fail _ _ _ _ rfl (hO.trans (if_neg h1)) (kc.ks Kp.ks (by decide) (by decide) (by decide) (by decide) (by decide) (by decide) (by decide) (by decide) (by decide))
  replace hO := hO.trans (if_pos h1)
  have htr : a.au.tr.length ≤ 8 := by
    have := hau h1
    simp only [auOk, Bool.and_eq_true, decide_eq_true_eq] at this
    exact this.1.1.1.2
  refine runO hC tabOk 60 ?_
  simp [go_sem, h1]
  repeat ((first | refine condT rfl ?_ | refine condF rfl ?_ | refine skD hC rfl rfl rfl ?_); refine runO hC tabOk 60 ?_; simp [go_sem, h1])
  try (refine runO hC tabOk 60 ?_; simp [go_sem, h1]; repeat ((first | refine condT rfl ?_ | refine condF rfl ?_ | refine skD hC rfl rfl rfl ?_); refine runO hC tabOk 60 ?_; simp [go_sem, h1]))
  refine mkmap hC 99 rfl rfl rfl rfl fun m2 g2 p2 e2 bm g3 g4 p3 p4 hbm hm => ?_
  refine runO hC tabOk 60 ?_
  simp [go_sem]
  repeat ((first | refine condT rfl ?_ | refine condF rfl ?_ | refine skD hC rfl rfl rfl ?_); refine runO hC tabOk 60 ?_; simp [go_sem])
  refine mupd hC 99 rfl (.inr hbm) (.inr rfl) rfl rfl rfl Tryz.underlying214 Tryz.underlying9 rfl rfl fun m5 g5 p5 e5 => ⟨_, hm.ks Kp.ks (by decide), fun g6 g7 p6 but6 p7 hm7 => ?_⟩
  refine runO hC tabOk 60 ?_
  simp [go_sem]
  repeat ((first | refine condT rfl ?_ | refine condF rfl ?_ | refine skD hC rfl rfl rfl ?_); refine runO hC tabOk 60 ?_; simp [go_sem])
  refine mupd hC 99 rfl (.inr hbm) (.inr rfl) rfl rfl rfl Tryz.underlying214 Tryz.underlying9 rfl rfl fun m8 g8 p8 e8 => ⟨_, hm7.ks Kp.ks (by decide), fun g9 g10 p9 but9 p10 hm10 => ?_⟩
  refine runO hC tabOk 60 ?_
  simp [go_sem]
  repeat ((first | refine condT rfl ?_ | refine condF rfl ?_ | refine skD hC rfl rfl rfl ?_); refine runO hC tabOk 60 ?_; simp [go_sem])
  refine mupd hC 99 rfl (.inr hbm) (.inr rfl) rfl rfl rfl Tryz.underlying214 Tryz.underlying9 rfl rfl fun m11 g11 p11 e11 => ⟨_, hm10.ks Kp.ks (by decide), fun g12 g13 p12 but12 p13 hm13 => ?_⟩
  refine runO hC tabOk 60 ?_
  simp [go_sem]
  repeat ((first | refine condT rfl ?_ | refine condF rfl ?_ | refine skD hC rfl rfl rfl ?_); refine runO hC tabOk 60 ?_; simp [go_sem])
  have hmm : Mp g13 99 bm kindM := hm13
  rcases kind_or a ha with ⟨q1, q2⟩ | ⟨f, F, q1, q2, q3, q4⟩
  · refine vo hC (vo_look2 (v := .tuple #[.nilFunc, .bool false]) hC tabOk (hmm.ks Kp.ks (by decide)) rfl rfl rfl Tryz.underlying214 Tryz.underlying9 rfl rfl (by rw [q1]; rfl)) rfl rfl rfl ?_
    refine runO hC tabOk 60 ?_
    simp [go_sem]
    repeat ((first | refine condT rfl ?_ | refine condF rfl ?_ | refine skD hC rfl rfl rfl ?_); refine runO hC tabOk 60 ?_; simp [go_sem])
    refine draw hC [(0, 0), (1, 0), (2, 0), (3, 0), (4, 0), (5, 1), (6, 1), (7, 0), (8, 0)] [] mix (by kernel_rfl) ?_
    refine runO hC tabOk 60 ?_
    simp [go_sem]
    repeat ((first | refine condT rfl ?_ | refine condF rfl ?_ | refine skD hC rfl rfl rfl ?_); refine runO hC tabOk 60 ?_; simp [go_sem])
    refine ret hC tabOk (fun _ => 1) rfl rfl fun m gf hl ex => ?_
    refine fail _ _ _ _ rfl (hO.trans ?_) (kc.ks Kp.ks (by decide) (by decide) (by decide) (by decide) (by decide) (by decide) (by decide) (by decide) (by decide))
    unfold granO; rw [q2]
  · refine vo hC (vo_look2 (v := .tuple #[.func (.func f) #[] #[], .bool true]) hC tabOk (hmm.ks Kp.ks (by decide)) rfl rfl rfl Tryz.underlying214 Tryz.underlying9 rfl rfl (by rw [q1]; rfl)) rfl rfl rfl ?_
    refine runO hC tabOk 60 ?_
    simp [go_sem]
    repeat ((first | refine condT rfl ?_ | refine condF rfl ?_ | refine skD hC rfl rfl rfl ?_); refine runO hC tabOk 60 ?_; simp [go_sem])
    refine draw hC [(0, 0), (1, 0), (2, 0), (3, 0), (4, 0), (5, 1), (6, 1), (7, 0), (8, 0)] [] mix (by kernel_rfl) ?_
    refine runO hC tabOk 60 ?_
    simp [go_sem]
    repeat ((first | refine condT rfl ?_ | refine condF rfl ?_ | refine skD hC rfl rfl rfl ?_); refine runO hC tabOk 60 ?_; simp [go_sem])
    refine callD hC [] (by kernel_rfl) rfl rfl rfl rfl rfl rfl rfl rfl fun m14 g14 p14 e14 => ⟨_, list56 [] ⟨none, 0⟩ _ (nil_ok _) (by simp), fun v14 u14 q14 s14 hv14 => ?_⟩
    obtain ⟨h14, rfl, k14⟩ := hv14
    refine runO hC tabOk 60 ?_
    simp [go_sem]
    repeat ((first | refine condT rfl ?_ | refine condF rfl ?_ | refine skD hC rfl rfl rfl ?_); refine runO hC tabOk 60 ?_; simp [go_sem])
    refine callD hC [] (by kernel_rfl) rfl rfl rfl rfl rfl rfl rfl rfl fun m15 g15 p15 e15 => ⟨_, same44 a.extra (listT []) ha.ex h14 _ ka.ex.to k14.to, fun v15 u15 q15 s15 hv15 => ?_⟩
    subst hv15
    have hG : granO c2 now a = if a.extra = listT [] then (if F.2 = 0 then replyS c2 now a (granGr a F.1) (granEv a) else ((T0, F.2), c2)) else ((T0, 50), c2) := by unfold granO; rw [q2]
    by_cases h2 : a.extra = listT []
    rotate_left
    · have d2 : decide (a.extra = listT []) = false := by simp [h2]
      refine runO hC tabOk 60 ?_
      simp [go_sem, d2]
      repeat ((first | refine condT rfl ?_ | refine condF rfl ?_ | refine skD hC rfl rfl rfl ?_); refine runO hC tabOk 60 ?_; simp [go_sem, d2])
      try (refine runO hC tabOk 60 ?_; simp [go_sem, d2]; repeat ((first | refine condT rfl ?_ | refine condF rfl ?_ | refine skD hC rfl rfl rfl ?_); refine runO hC tabOk 60 ?_; simp [go_sem, d2]))
      refine ret hC tabOk (fun _ => 1) rfl rfl fun m gf hl ex => ?_
      exact fail _ _ _ _ rfl (hO.trans (hG.trans (if_neg h2))) (kc.ks Kp.ks (by decide) (by decide) (by decide) (by decide) (by decide) (by decide) (by decide) (by decide) (by decide))
    have d2 : decide (a.extra = listT []) = true := by simp [h2]
    replace hG := hG.trans (if_pos h2)
    refine runO hC tabOk 60 ?_
    simp [go_sem, d2]
    repeat ((first | refine condT rfl ?_ | refine condF rfl ?_ | refine skD hC rfl rfl rfl ?_); refine runO hC tabOk 60 ?_; simp [go_sem, d2])
    try (refine runO hC tabOk 60 ?_; simp [go_sem, d2]; repeat ((first | refine condT rfl ?_ | refine condF rfl ?_ | refine skD hC rfl rfl rfl ?_); refine runO hC tabOk 60 ?_; simp [go_sem, d2]))
    refine callv hC [] 1 rfl rfl rfl rfl q3 rfl rfl rfl rfl fun m16 g16 w16 p16 e16 => ⟨_, q4 _, fun v16 j16 u16 q16 s16 hv16 r16 => ?_⟩
    subst hv16
    by_cases h3 : F.2 = 0
    rotate_left
    · refine runO hC tabOk 60 ?_
      simp [go_sem, h3]
      repeat ((first | refine condT rfl ?_ | refine condF rfl ?_ | refine skD hC rfl rfl rfl ?_); refine runO hC tabOk 60 ?_; simp [go_sem, h3])
      try (refine runO hC tabOk 60 ?_; simp [go_sem, h3]; repeat ((first | refine condT rfl ?_ | refine condF rfl ?_ | refine skD hC rfl rfl rfl ?_); refine runO hC tabOk 60 ?_; simp [go_sem, h3]))
      refine ret hC tabOk (fun _ => 1) rfl rfl fun m gf hl ex => ?_
      exact fail _ _ _ _ rfl (hO.trans (hG.trans (if_neg h3))) (kc.ks Kp.ks (by decide) (by decide) (by decide) (by decide) (by decide) (by decide) (by decide) (by decide) (by decide))
    replace hG := hG.trans (if_pos h3)
    refine runO hC tabOk 60 ?_
    simp [go_sem, h3]
    repeat ((first | refine condT rfl ?_ | refine condF rfl ?_ | refine skD hC rfl rfl rfl ?_); refine runO hC tabOk 60 ?_; simp [go_sem, h3])
    try (refine runO hC tabOk 60 ?_; simp [go_sem, h3]; repeat ((first | refine condT rfl ?_ | refine condF rfl ?_ | refine skD hC rfl rfl rfl ?_); refine runO hC tabOk 60 ?_; simp [go_sem, h3]))
    refine call hC [30,31,61,62,63] (by kernel_rfl) rfl rfl rfl rfl rfl fun m17 g17 p17 e17 => ⟨_, reply59 b bp c2 now a (granGr a F.1) (granEv a) ha ha.au.tr ha.au.tr _ (kc.ks Kp.ks (by decide) (by decide) (by decide) (by decide) (by decide) (by decide) (by decide) (by decide) (by decide)) ka.to ⟨ka.au.tr.to, ka.au.us, ka.tk.cl, ka.t⟩ ka.au.tr.to (by simp only [granEv]; omega) (by rw [hev2]; exact hev), fun v17 u17 q17 s17 hv17 => ?_⟩
    obtain ⟨⟨h5, rfl, k5⟩, kc5⟩ := hv17
    refine runO hC tabOk 60 ?_
    simp [go_sem]
    repeat ((first | refine condT rfl ?_ | refine condF rfl ?_ | refine skD hC rfl rfl rfl ?_); refine runO hC tabOk 60 ?_; simp [go_sem])
    refine ret hC tabOk (fun _ => 1) rfl rfl fun m gf hl ex => ?_
    rw [hO, hG]
    exact ⟨⟨h5, rfl, k5.to⟩, kc5.ks Kp.ks (by decide) (by decide) (by decide) (by decide) (by decide) (by decide) (by decide) (by decide) (by decide)⟩
end Go.Proofs.YtobhfopgoidniaaGreat
