/- Times and spans. Spans as numbers. Spans, cut. Spans: both, check; the document's. -/
import Derived.Test.YtobhfopgoidniaaGreatFB
import Derived.Test.YtobhfopgoidniaaGreatED
set_option linter.all false
set_option linter.unusedVariables false
set_option linter.unusedSimpArgs false

/- Times and spans. -/
namespace Go.Proofs.YtobhfopgoidniaaGreat
open Go Go.Eng

def tOk (n : Int) : Bool := decide (0 ≤ n) && decide (n ≤ 1099511627776)

/-- The first i may all be times. -/
def Tk (l : List Int) (i : Nat) : Prop := (l.take i).all tOk = true

theorem Tk.zero (l : List Int) : Tk l 0 := rfl
theorem Tk.succ {l : List Int} {i : Nat} (h : Tk l i) (hi : i < l.length) (ht : tOk l[i] = true) : Tk l (i + 1) := by
  unfold Tk at h ⊢
  rw [List.take_succ_eq_append_getElem hi, List.all_append, h]
  simp [ht]

theorem time250 (l : List Int) (h : Hd) (g : G) (k : IntsOk g l h) : Ok Tryz.prog 250 [.slice h.a l.length h.cap] g [] (fun v _ => v = .bool (l.all tOk)) := by
  have hl : l.length ≤ 9223372036854775807 := Nat.le_trans k.len k.cap
  refine fbegin Tryz.func250 rfl Tryz.ntmps250 (Nat.le_of_ble_eq_true rfl) fun C hw hC => ?_
  refine runO hC tabOk 60 ?_
  simp [go_sem]
  repeat ((first | refine condT rfl ?_ | refine condF rfl ?_ | refine skD hC rfl rfl rfl ?_); refine runO hC tabOk 60 ?_; simp [go_sem])
  refine small (fun _ => 1) rfl fun m0 gL p0 e0 => ⟨⟨(fun (x : Nat × G) => [(7, .c (.v (.int .i64 x.1))), (6, .c (.v (.int .i64 l.length))), (5, .c (.v (.slice h.a l.length h.cap)))]) ((0, gL)), [], (fun _ => []) ((0, gL)), [], 0⟩, ⟨by simp [go_sem], by simp [go_sem], rfl, by simp [go_sem], by simp [go_sem], ⟨_, rfl⟩⟩, by simp, ?_⟩
  refine loop (ι := Nat × G) (fun x => x.1 ≤ l.length ∧ Tk l x.1 ∧ Keeps [1] g x.2) (fun x => x.2)
    (fun x => ⟨(fun (x : Nat × G) => [(7, .c (.v (.int .i64 x.1))), (6, .c (.v (.int .i64 l.length))), (5, .c (.v (.slice h.a l.length h.cap)))]) x, [], (fun _ => []) x, [], 0⟩) (fun x => l.length - x.1) (fun ⟨i, g'⟩ ⟨hi, hc, hk⟩ => ?_) ((0, gL)) (⟨Nat.zero_le _, Tk.zero _, p0.ks⟩)
  dsimp only at hi hc hk ⊢
  haveI : Later g g' := .of hk (by simp)
  refine runO hC tabOk 60 ?_
  simp [go_sem]
  repeat ((first | refine condT rfl ?_ | refine condF rfl ?_ | refine skD hC rfl rfl rfl ?_); refine runO hC tabOk 60 ?_; simp [go_sem])
  refine sg_cond rfl (fun h1 => ?_) (fun h1 => ?_)
  · simp at h1
    obtain ⟨b, off, ea, hcs⟩ := (k.to (g' := g')).row.get (List.getElem?_eq_getElem h1)
    rw [ea]
    refine runO hC tabOk 60 ?_
    simp [go_sem]
    repeat ((first | refine condT rfl ?_ | refine condF rfl ?_ | refine skD hC rfl rfl rfl ?_); refine runO hC tabOk 60 ?_; simp [go_sem])
    refine vo hC (vo_index hC tabOk rfl rfl rfl rfl rfl rfl (by omega) (by omega)) rfl rfl rfl ?_
    refine runO hC tabOk 60 ?_
    simp [go_sem]
    repeat ((first | refine condT rfl ?_ | refine condF rfl ?_ | refine skD hC rfl rfl rfl ?_); refine runO hC tabOk 60 ?_; simp [go_sem])
    refine vo hC (vo_load1 hC tabOk hcs rfl rfl rfl rfl) rfl rfl rfl ?_
    refine runO hC tabOk 60 ?_
    simp [go_sem]
    repeat ((first | refine condT rfl ?_ | refine condF rfl ?_ | refine skD hC rfl rfl rfl ?_); refine runO hC tabOk 60 ?_; simp [go_sem])
    refine sg_cond rfl (fun h2 => ?_) (fun h2 => ?_)
    · have ht : tOk l[i] = false := by
        simp at h2
        cases q : tOk l[i] with
        | false => rfl
        | true => exfalso; simp [tOk] at q; omega
      refine runO hC tabOk 60 ?_
      simp [go_sem]
      repeat ((first | refine condT rfl ?_ | refine condF rfl ?_ | refine skD hC rfl rfl rfl ?_); refine runO hC tabOk 60 ?_; simp [go_sem])
      refine ret hC tabOk (fun _ => 1) rfl rfl fun m gf hl ex => ?_
      have : l.all tOk = false := by
        rw [List.all_eq_false]
        exact ⟨l[i], by simp, by simp [ht]⟩
      rw [this]; rfl
    · have ht : tOk l[i] = true := by
        simp at h2
        cases q : tOk l[i] with
        | true => rfl
        | false => exfalso; simp [tOk] at q; omega
      refine runO hC tabOk 60 ?_
      simp [go_sem]
      repeat ((first | refine condT rfl ?_ | refine condF rfl ?_ | refine skD hC rfl rfl rfl ?_); refine runO hC tabOk 60 ?_; simp [go_sem])
      refine again (fun _ => 1) fun m8 g8 p8 e8 => ⟨(i + 1, g8), ?_, ?_, rfl, ⟨by simp [go_sem], by simp [go_sem, ea, wrap_inc (show i + 1 ≤ 9223372036854775807 by omega)], rfl, by simp [go_sem], by simp [go_sem], ⟨_, rfl⟩⟩, by simp [go_sem]⟩
      · exact ⟨h1, hc.succ h1 ht, hk.then (by simp)⟩
      · dsimp only; omega
  · simp at h1
    refine runO hC tabOk 60 ?_
    simp [go_sem]
    repeat ((first | refine condT rfl ?_ | refine condF rfl ?_ | refine skD hC rfl rfl rfl ?_); refine runO hC tabOk 60 ?_; simp [go_sem])
    refine ret hC tabOk (fun _ => 1) rfl rfl fun m gf hl ex => ?_
    have : l.all tOk = true := by
      unfold Tk at hc
      rwa [List.take_of_length_le (by omega)] at hc
    rw [this]; rfl

/-- May a span be? -/
def sOk (f t : Int) : Bool := tOk f && tOk t && decide (f ≤ t)

theorem svalid192 (f t : Int) (g : G) : Ok Tryz.prog 192 [.agg #[.int .i64 f, .int .i64 t]] g [] (fun v _ => v = .bool (sOk f t)) := by
  refine fbegin Tryz.func192 rfl Tryz.ntmps192 (Nat.le_of_ble_eq_true rfl) fun C hw hC => ?_
  refine runO hC tabOk 60 ?_
  simp [go_sem]
  repeat ((first | refine condT rfl ?_ | refine condF rfl ?_ | refine skD hC rfl rfl rfl ?_); refine runO hC tabOk 60 ?_; simp [go_sem])
  refine call hC [] (by kernel_rfl) rfl rfl rfl rfl rfl fun m1 g1 p1 e1 => ⟨_, time250 [f, t] ⟨_, 2⟩ _ ⟨.inr ⟨_, 0, rfl, e1.frz (i := 1) rfl rfl rfl⟩, Nat.le_refl _, by simp [maxLen]⟩, fun v1 u1 q1 s1 hv1 => ?_⟩
  subst hv1
  refine runO hC tabOk 60 ?_
  simp [go_sem]
  repeat ((first | refine condT rfl ?_ | refine condF rfl ?_ | refine skD hC rfl rfl rfl ?_); refine runO hC tabOk 60 ?_; simp [go_sem])
  refine ret hC tabOk (fun _ => 1) rfl rfl fun m gf hl ex => ?_
  simp [retv, SV.val, SC.val, vals, sOk]

theorem near226 (a b c : Int) (g : G) : Ok Tryz.prog 226 [.int .i64 a, .int .i64 b, .int .i64 c] g [] (fun v _ => v = .bool (tOk a && tOk b && tOk c && decide (a - b ≤ c) && decide (b - a ≤ c))) := by
  refine fbegin Tryz.func226 rfl Tryz.ntmps226 (Nat.le_of_ble_eq_true rfl) fun C hw hC => ?_
  refine runO hC tabOk 60 ?_
  simp [go_sem]
  repeat ((first | refine condT rfl ?_ | refine condF rfl ?_ | refine skD hC rfl rfl rfl ?_); refine runO hC tabOk 60 ?_; simp [go_sem])
  refine call hC [] (by kernel_rfl) rfl rfl rfl rfl rfl fun m1 g1 p1 e1 => ⟨_, time250 [a, b, c] ⟨_, 3⟩ _ ⟨.inr ⟨_, 0, rfl, e1.frz (i := 0) rfl rfl rfl⟩, Nat.le_refl _, by simp [maxLen]⟩, fun v1 u1 q1 s1 hv1 => ?_⟩
  subst hv1
  cases h1 : [a, b, c].all tOk with
  | false =>
    refine runO hC tabOk 60 ?_
    simp [go_sem]
    repeat ((first | refine condT rfl ?_ | refine condF rfl ?_ | refine skD hC rfl rfl rfl ?_); refine runO hC tabOk 60 ?_; simp [go_sem])
    refine ret hC tabOk (fun _ => 1) rfl rfl fun m gf hl ex => ?_
    have : (tOk a && tOk b && tOk c) = false := by simpa [Bool.and_assoc] using h1
    rw [this]
    simp [retv, SV.val, SC.val, vals]
  | true =>
    have h2 : (tOk a && tOk b && tOk c) = true := by simpa [Bool.and_assoc] using h1
    have h3 : tOk a = true ∧ tOk b = true ∧ tOk c = true := by simpa [Bool.and_assoc, and_assoc] using h2
    obtain ⟨ha, hb, hc⟩ := h3
    unfold tOk at ha hb hc
    simp only [Bool.and_eq_true, decide_eq_true_eq] at ha hb hc
    have w1 : IntKind.i64.wrap (a - b) = a - b := by rw [IntKind.wrap_i64]; omega
    have w2 : IntKind.i64.wrap (b - a) = b - a := by rw [IntKind.wrap_i64]; omega
    refine runO hC tabOk 60 ?_
    simp [go_sem]
    repeat ((first | refine condT rfl ?_ | refine condF rfl ?_ | refine skD hC rfl rfl rfl ?_); refine runO hC tabOk 60 ?_; simp [go_sem])
    rw [w1, w2]
    refine vo hC (vo_bi (v := .int .i64 (max (a - b) (b - a))) hC rfl rfl (fun m c w => run_max _ _ c _ _ w)) rfl rfl rfl ?_
    refine runO hC tabOk 60 ?_
    simp [go_sem]
    repeat ((first | refine condT rfl ?_ | refine condF rfl ?_ | refine skD hC rfl rfl rfl ?_); refine runO hC tabOk 60 ?_; simp [go_sem])
    refine ret hC tabOk (fun _ => 1) rfl rfl fun m gf hl ex => ?_
    rw [h2]
    simp [retv, SV.val, SC.val, vals]
    rw [← Bool.decide_and, decide_eq_decide]
    omega
end Go.Proofs.YtobhfopgoidniaaGreat

/- Spans as numbers. -/
namespace Go.Proofs.YtobhfopgoidniaaGreat
open Go Go.Eng

theorem fl0 : fl 0 = 0 := by decide +kernel
theorem flM : fl 1099511627776 = 4787326403894837248 := by decide +kernel

theorem tOk_abs {n : Int} (h : tOk n = true) : n.natAbs < 2 ^ 41 := by
  simp only [tOk, Bool.and_eq_true, decide_eq_true_eq] at h
  have : (2 : Nat) ^ 41 = 2199023255552 := rfl
  omega

theorem lt52 {n : Nat} (h : n < 2 ^ 42) : n < 2 ^ 52 := Nat.lt_of_lt_of_le h (Nat.pow_le_pow_right (by omega) (by omega))
theorem lt41 {n : Nat} (h : n < 2 ^ 41) : n < 2 ^ 52 := Nat.lt_of_lt_of_le h (Nat.pow_le_pow_right (by omega) (by omega))

theorem point272 (f t : Int) (g : G) (h : sOk f t = true) : Ok Tryz.prog 272 [.agg #[.int .i64 f, .int .i64 t]] g [] (fun v _ => v = .complex .f64 (fl f) (fl t)) := by
  refine fbegin Tryz.func272 rfl Tryz.ntmps272 (Nat.le_of_ble_eq_true rfl) fun C hw hC => ?_
  refine runO hC tabOk 60 ?_
  simp [go_sem]
  repeat ((first | refine condT rfl ?_ | refine condF rfl ?_ | refine skD hC rfl rfl rfl ?_); refine runO hC tabOk 60 ?_; simp [go_sem])
  refine call hC [] (by kernel_rfl) rfl rfl rfl rfl rfl fun m1 g1 p1 e1 => ⟨_, svalid192 f t _, fun v1 u1 q1 s1 hv1 => ?_⟩
  subst hv1
  rw [h]
  refine runO hC tabOk 60 ?_
  simp [go_sem]
  repeat ((first | refine condT rfl ?_ | refine condF rfl ?_ | refine skD hC rfl rfl rfl ?_); refine runO hC tabOk 60 ?_; simp [go_sem])
  refine vo hC (vo_conv hC rfl rfl (run_i2f Tryz.underlying3 Tryz.underlying329 _)) rfl rfl rfl ?_
  refine runO hC tabOk 60 ?_
  simp [go_sem]
  repeat ((first | refine condT rfl ?_ | refine condF rfl ?_ | refine skD hC rfl rfl rfl ?_); refine runO hC tabOk 60 ?_; simp [go_sem])
  refine vo hC (vo_conv hC rfl rfl (run_i2f Tryz.underlying3 Tryz.underlying329 _)) rfl rfl rfl ?_
  refine runO hC tabOk 60 ?_
  simp [go_sem]
  repeat ((first | refine condT rfl ?_ | refine condF rfl ?_ | refine skD hC rfl rfl rfl ?_); refine runO hC tabOk 60 ?_; simp [go_sem])
  refine vo hC (vo_bi (v := .complex .f64 (fl f) (fl t)) hC rfl rfl (fun m c w => run_cplx _ _ c _ _ w)) rfl rfl rfl ?_
  refine runO hC tabOk 60 ?_
  simp [go_sem]
  repeat ((first | refine condT rfl ?_ | refine condF rfl ?_ | refine skD hC rfl rfl rfl ?_); refine runO hC tabOk 60 ?_; simp [go_sem])
  refine ret hC tabOk (fun _ => 1) rfl rfl fun m gf hl ex => ?_
  rfl

theorem run_trunc (P : Program) (n : Int) (hn : n.natAbs < 2 ^ 52) (w : World) : (Extern.MathFloor.toIntegral "math.archTrunc" .zero #[.float .f64 (fl n)]).run P w = .ok (.float .f64 (fl n)) w := by
  obtain ⟨s, m, k, h1, _, _, _⟩ := decode_fl n hn
  have h2 := (toInt_fl n hn).2
  rw [h1] at h2
  conv => lhs; arg 2; whnf
  rw [h1]
  show Sem.run P (pure (Value.float .f64 (FloatKind.f64.encode (Ieee.Datum.integral Ieee.Toward.zero (Ieee.Datum.number s m (-↑k)))))) w = _
  rw [h2]
  rfl

theorem trunc301 (n : Int) (hn : n.natAbs < 2 ^ 52) (g : G) : Ok Tryz.prog 301 [.float .f64 (fl n)] g [] (fun v _ => v = .float .f64 (fl n)) := by
  refine fbegin Tryz.func301 rfl Tryz.ntmps301 (Nat.le_of_ble_eq_true rfl) fun C hw hC => ?_
  refine runO hC tabOk 60 ?_
  simp [go_sem]
  repeat ((first | refine condT rfl ?_ | refine condF rfl ?_ | refine skD hC rfl rfl rfl ?_); refine runO hC tabOk 60 ?_; simp [go_sem])
  refine vo hC (vo_extern (v := .float .f64 (fl n)) hC rfl rfl Tryz.func302 rfl rfl rfl rfl fun m w => run_trunc _ n hn w) rfl rfl rfl ?_
  refine runO hC tabOk 60 ?_
  simp [go_sem]
  repeat ((first | refine condT rfl ?_ | refine condF rfl ?_ | refine skD hC rfl rfl rfl ?_); refine runO hC tabOk 60 ?_; simp [go_sem])
  refine ret hC tabOk (fun _ => 1) rfl rfl fun m gf hl ex => ?_
  rfl

theorem whole300 (n : Int) (hn : n.natAbs < 2 ^ 52) (g : G) : Ok Tryz.prog 300 [.float .f64 (fl n)] g [] (fun v _ => v = .bool (tOk n)) := by
  have hz : (0 : Int).natAbs < 2 ^ 52 := by decide
  have hM : (1099511627776 : Int).natAbs < 2 ^ 52 := by decide
  refine fbegin Tryz.func300 rfl Tryz.ntmps300 (Nat.le_of_ble_eq_true rfl) fun C hw hC => ?_
  refine runO hC tabOk 60 ?_
  simp [go_sem]
  repeat ((first | refine condT rfl ?_ | refine condF rfl ?_ | refine skD hC rfl rfl rfl ?_); refine runO hC tabOk 60 ?_; simp [go_sem])
  refine call hC [] (by kernel_rfl) rfl rfl rfl rfl rfl fun m1 g1 p1 e1 => ⟨_, trunc301 n hn _, fun v1 u1 q1 s1 hv1 => ?_⟩
  subst hv1
  refine runO hC tabOk 60 ?_
  simp [go_sem]
  repeat ((first | refine condT rfl ?_ | refine condF rfl ?_ | refine skD hC rfl rfl rfl ?_); refine runO hC tabOk 60 ?_; simp [go_sem])
  refine vo hC (vo_bin hC rfl rfl rfl (run_feq _ _ _ _ n n hn hn)) rfl rfl rfl ?_
  rw [decide_eq_true rfl]
  have e0 := fun x y t w => run_fle Tryz.prog x y t 0 n hz hn w
  have e1 := fun x y t w => run_fle Tryz.prog x y t n 1099511627776 hn hM w
  rw [fl0] at e0
  rw [flM] at e1
  refine runO hC tabOk 60 ?_
  simp [go_sem]
  repeat ((first | refine condT rfl ?_ | refine condF rfl ?_ | refine skD hC rfl rfl rfl ?_); refine runO hC tabOk 60 ?_; simp [go_sem])
  refine vo hC (vo_bin hC rfl rfl rfl (e0 _ _ _)) rfl rfl rfl ?_
  cases h1 : decide (0 ≤ n) with
  | false =>
    refine runO hC tabOk 60 ?_
    simp [go_sem]
    repeat ((first | refine condT rfl ?_ | refine condF rfl ?_ | refine skD hC rfl rfl rfl ?_); refine runO hC tabOk 60 ?_; simp [go_sem])
    refine ret hC tabOk (fun _ => 1) rfl rfl fun m gf hl ex => ?_
    simp [retv, SV.val, SC.val, vals, tOk, h1]
  | true =>
    refine runO hC tabOk 60 ?_
    simp [go_sem]
    repeat ((first | refine condT rfl ?_ | refine condF rfl ?_ | refine skD hC rfl rfl rfl ?_); refine runO hC tabOk 60 ?_; simp [go_sem])
    refine vo hC (vo_bin hC rfl rfl rfl (e1 _ _ _)) rfl rfl rfl ?_
    refine runO hC tabOk 60 ?_
    simp [go_sem]
    repeat ((first | refine condT rfl ?_ | refine condF rfl ?_ | refine skD hC rfl rfl rfl ?_); refine runO hC tabOk 60 ?_; simp [go_sem])
    refine ret hC tabOk (fun _ => 1) rfl rfl fun m gf hl ex => ?_
    simp [retv, SV.val, SC.val, vals, tOk, h1]
end Go.Proofs.YtobhfopgoidniaaGreat

/- Spans, cut. -/
namespace Go.Proofs.YtobhfopgoidniaaGreat
open Go Go.Eng

def spv (s : Int × Int) : Value := .agg #[.int .i64 s.1, .int .i64 s.2]

def ofS (a b : Int) : Int × Int := if tOk a && tOk b && decide (a ≤ b) then (a, b) else (0, 0)

theorem of295 (a b : Int) (ha : a.natAbs < 2 ^ 52) (hb : b.natAbs < 2 ^ 52) (g : G) : Ok Tryz.prog 295 [.complex .f64 (fl a) (fl b)] g [] (fun v _ => v = spv (ofS a b)) := by
  refine fbegin Tryz.func295 rfl Tryz.ntmps295 (Nat.le_of_ble_eq_true rfl) fun C hw hC => ?_
  refine runO hC tabOk 60 ?_
  simp [go_sem]
  repeat ((first | refine condT rfl ?_ | refine condF rfl ?_ | refine skD hC rfl rfl rfl ?_); refine runO hC tabOk 60 ?_; simp [go_sem])
  refine vo hC (vo_bi (v := .float .f64 (fl a)) hC rfl rfl (fun m c w => Eng.run_real _ _ c _ _ w)) rfl rfl rfl ?_
  refine runO hC tabOk 60 ?_
  simp [go_sem]
  repeat ((first | refine condT rfl ?_ | refine condF rfl ?_ | refine skD hC rfl rfl rfl ?_); refine runO hC tabOk 60 ?_; simp [go_sem])
  refine call hC [] (by kernel_rfl) rfl rfl rfl rfl rfl fun m1 g1 p1 e1 => ⟨_, whole300 a ha _, fun v1 u1 q1 s1 hv1 => ?_⟩
  subst hv1
  cases h1 : tOk a with
  | false =>
    refine runO hC tabOk 60 ?_
    simp [go_sem]
    repeat ((first | refine condT rfl ?_ | refine condF rfl ?_ | refine skD hC rfl rfl rfl ?_); refine runO hC tabOk 60 ?_; simp [go_sem])
    refine ret hC tabOk (fun _ => 1) rfl rfl fun m gf hl ex => ?_
    simp [retv, SV.val, SC.val, vals, spv, ofS, h1]
  | true =>
  refine runO hC tabOk 60 ?_
  simp [go_sem]
  repeat ((first | refine condT rfl ?_ | refine condF rfl ?_ | refine skD hC rfl rfl rfl ?_); refine runO hC tabOk 60 ?_; simp [go_sem])
  refine vo hC (vo_bi (v := .float .f64 (fl b)) hC rfl rfl (fun m c w => Eng.run_imag _ _ c _ _ w)) rfl rfl rfl ?_
  refine runO hC tabOk 60 ?_
  simp [go_sem]
  repeat ((first | refine condT rfl ?_ | refine condF rfl ?_ | refine skD hC rfl rfl rfl ?_); refine runO hC tabOk 60 ?_; simp [go_sem])
  refine call hC [] (by kernel_rfl) rfl rfl rfl rfl rfl fun m2 g2 p2 e2 => ⟨_, whole300 b hb _, fun v2 u2 q2 s2 hv2 => ?_⟩
  subst hv2
  cases h2 : tOk b with
  | false =>
    refine runO hC tabOk 60 ?_
    simp [go_sem]
    repeat ((first | refine condT rfl ?_ | refine condF rfl ?_ | refine skD hC rfl rfl rfl ?_); refine runO hC tabOk 60 ?_; simp [go_sem])
    refine ret hC tabOk (fun _ => 1) rfl rfl fun m gf hl ex => ?_
    simp [retv, SV.val, SC.val, vals, spv, ofS, h1, h2]
  | true =>
  refine runO hC tabOk 60 ?_
  simp [go_sem]
  repeat ((first | refine condT rfl ?_ | refine condF rfl ?_ | refine skD hC rfl rfl rfl ?_); refine runO hC tabOk 60 ?_; simp [go_sem])
  refine vo hC (vo_bi (v := .float .f64 (fl a)) hC rfl rfl (fun m c w => Eng.run_real _ _ c _ _ w)) rfl rfl rfl ?_
  refine runO hC tabOk 60 ?_
  simp [go_sem]
  repeat ((first | refine condT rfl ?_ | refine condF rfl ?_ | refine skD hC rfl rfl rfl ?_); refine runO hC tabOk 60 ?_; simp [go_sem])
  refine vo hC (vo_bi (v := .float .f64 (fl b)) hC rfl rfl (fun m c w => Eng.run_imag _ _ c _ _ w)) rfl rfl rfl ?_
  refine runO hC tabOk 60 ?_
  simp [go_sem]
  repeat ((first | refine condT rfl ?_ | refine condF rfl ?_ | refine skD hC rfl rfl rfl ?_); refine runO hC tabOk 60 ?_; simp [go_sem])
  refine vo hC (vo_bin hC rfl rfl rfl (run_fgt _ _ _ _ a b ha hb)) rfl rfl rfl ?_
  refine runO hC tabOk 60 ?_
  simp [go_sem]
  repeat ((first | refine condT rfl ?_ | refine condF rfl ?_ | refine skD hC rfl rfl rfl ?_); refine runO hC tabOk 60 ?_; simp [go_sem])
  refine sg_cond rfl (fun h3 => ?_) (fun h3 => ?_)
  · simp at h3
    have : ¬ a ≤ b := by omega
    refine runO hC tabOk 60 ?_
    simp [go_sem]
    repeat ((first | refine condT rfl ?_ | refine condF rfl ?_ | refine skD hC rfl rfl rfl ?_); refine runO hC tabOk 60 ?_; simp [go_sem])
    refine ret hC tabOk (fun _ => 1) rfl rfl fun m gf hl ex => ?_
    simp [retv, SV.val, SC.val, vals, spv, ofS, h1, h2, this]
  · simp at h3
    refine runO hC tabOk 60 ?_
    simp [go_sem]
    repeat ((first | refine condT rfl ?_ | refine condF rfl ?_ | refine skD hC rfl rfl rfl ?_); refine runO hC tabOk 60 ?_; simp [go_sem])
    refine vo hC (vo_bi (v := .float .f64 (fl a)) hC rfl rfl (fun m c w => Eng.run_real _ _ c _ _ w)) rfl rfl rfl ?_
    refine runO hC tabOk 60 ?_
    simp [go_sem]
    repeat ((first | refine condT rfl ?_ | refine condF rfl ?_ | refine skD hC rfl rfl rfl ?_); refine runO hC tabOk 60 ?_; simp [go_sem])
    refine vo hC (vo_conv hC rfl rfl (run_f2i Tryz.underlying329 Tryz.underlying3 a ha)) rfl rfl rfl ?_
    refine runO hC tabOk 60 ?_
    simp [go_sem]
    repeat ((first | refine condT rfl ?_ | refine condF rfl ?_ | refine skD hC rfl rfl rfl ?_); refine runO hC tabOk 60 ?_; simp [go_sem])
    refine vo hC (vo_bi (v := .float .f64 (fl b)) hC rfl rfl (fun m c w => Eng.run_imag _ _ c _ _ w)) rfl rfl rfl ?_
    refine runO hC tabOk 60 ?_
    simp [go_sem]
    repeat ((first | refine condT rfl ?_ | refine condF rfl ?_ | refine skD hC rfl rfl rfl ?_); refine runO hC tabOk 60 ?_; simp [go_sem])
    refine vo hC (vo_conv hC rfl rfl (run_f2i Tryz.underlying329 Tryz.underlying3 b hb)) rfl rfl rfl ?_
    refine runO hC tabOk 60 ?_
    simp [go_sem]
    repeat ((first | refine condT rfl ?_ | refine condF rfl ?_ | refine skD hC rfl rfl rfl ?_); refine runO hC tabOk 60 ?_; simp [go_sem])
    refine ret hC tabOk (fun _ => 1) rfl rfl fun m gf hl ex => ?_
    simp [retv, SV.val, SC.val, vals, spv, ofS, h1, h2, h3]

def leftS (a b : Int) : (Int × Int) × Int := if b ≤ a then ((0, 0), 63) else (ofS a b, 0)

theorem left273 (a b : Int) (ha : a.natAbs < 2 ^ 52) (hb : b.natAbs < 2 ^ 52) (g : G) : Ok Tryz.prog 273 [.complex .f64 (fl a) (fl b)] g [] (fun v _ => v = .tuple #[spv (leftS a b).1, .int .i64 (leftS a b).2]) := by
  refine fbegin Tryz.func273 rfl Tryz.ntmps273 (Nat.le_of_ble_eq_true rfl) fun C hw hC => ?_
  refine runO hC tabOk 60 ?_
  simp [go_sem]
  repeat ((first | refine condT rfl ?_ | refine condF rfl ?_ | refine skD hC rfl rfl rfl ?_); refine runO hC tabOk 60 ?_; simp [go_sem])
  refine vo hC (vo_bi (v := .float .f64 (fl b)) hC rfl rfl (fun m c w => Eng.run_imag _ _ c _ _ w)) rfl rfl rfl ?_
  refine runO hC tabOk 60 ?_
  simp [go_sem]
  repeat ((first | refine condT rfl ?_ | refine condF rfl ?_ | refine skD hC rfl rfl rfl ?_); refine runO hC tabOk 60 ?_; simp [go_sem])
  refine vo hC (vo_bi (v := .float .f64 (fl a)) hC rfl rfl (fun m c w => Eng.run_real _ _ c _ _ w)) rfl rfl rfl ?_
  refine runO hC tabOk 60 ?_
  simp [go_sem]
  repeat ((first | refine condT rfl ?_ | refine condF rfl ?_ | refine skD hC rfl rfl rfl ?_); refine runO hC tabOk 60 ?_; simp [go_sem])
  refine vo hC (vo_bin hC rfl rfl rfl (run_fle _ _ _ _ b a hb ha)) rfl rfl rfl ?_
  refine runO hC tabOk 60 ?_
  simp [go_sem]
  repeat ((first | refine condT rfl ?_ | refine condF rfl ?_ | refine skD hC rfl rfl rfl ?_); refine runO hC tabOk 60 ?_; simp [go_sem])
  refine sg_cond rfl (fun h3 => ?_) (fun h3 => ?_)
  · simp at h3
    refine runO hC tabOk 60 ?_
    simp [go_sem]
    repeat ((first | refine condT rfl ?_ | refine condF rfl ?_ | refine skD hC rfl rfl rfl ?_); refine runO hC tabOk 60 ?_; simp [go_sem])
    refine ret hC tabOk (fun _ => 1) rfl rfl fun m gf hl ex => ?_
    simp [retv, SV.val, SC.val, vals, spv, leftS, h3]
  · simp at h3
    have h4 : ¬ b ≤ a := by omega
    refine runO hC tabOk 60 ?_
    simp [go_sem]
    repeat ((first | refine condT rfl ?_ | refine condF rfl ?_ | refine skD hC rfl rfl rfl ?_); refine runO hC tabOk 60 ?_; simp [go_sem])
    refine call hC [] (by kernel_rfl) rfl rfl rfl rfl rfl fun m1 g1 p1 e1 => ⟨_, of295 a b ha hb _, fun v1 u1 q1 s1 hv1 => ?_⟩
    subst hv1
    unfold spv
    refine runO hC tabOk 60 ?_
    simp [go_sem]
    repeat ((first | refine condT rfl ?_ | refine condF rfl ?_ | refine skD hC rfl rfl rfl ?_); refine runO hC tabOk 60 ?_; simp [go_sem])
    refine ret hC tabOk (fun _ => 1) rfl rfl fun m gf hl ex => ?_
    simp [retv, SV.val, SC.val, vals, spv, leftS, h4]

def cutS (s : Int × Int) (life : Int) : (Int × Int) × Int := if sOk s.1 s.2 && tOk life then leftS s.1 (min s.2 (s.1 + life)) else ((0, 0), 1)

theorem sok_abs {f t : Int} (h : sOk f t = true) : f.natAbs < 2 ^ 41 ∧ t.natAbs < 2 ^ 41 := by
  simp only [sOk, Bool.and_eq_true] at h
  exact ⟨tOk_abs h.1.1, tOk_abs h.1.2⟩

theorem cut227 (f t life : Int) (g : G) : Ok Tryz.prog 227 [spv (f, t), .int .i64 life] g [] (fun v _ => v = .tuple #[spv (cutS (f, t) life).1, .int .i64 (cutS (f, t) life).2]) := by
  unfold spv
  refine fbegin Tryz.func227 rfl Tryz.ntmps227 (Nat.le_of_ble_eq_true rfl) fun C hw hC => ?_
  refine runO hC tabOk 60 ?_
  simp [go_sem]
  repeat ((first | refine condT rfl ?_ | refine condF rfl ?_ | refine skD hC rfl rfl rfl ?_); refine runO hC tabOk 60 ?_; simp [go_sem])
  refine call hC [] (by kernel_rfl) rfl rfl rfl rfl rfl fun m1 g1 p1 e1 => ⟨_, svalid192 f t _, fun v1 u1 q1 s1 hv1 => ?_⟩
  subst hv1
  cases h1 : sOk f t with
  | false =>
    refine runO hC tabOk 60 ?_
    simp [go_sem]
    repeat ((first | refine condT rfl ?_ | refine condF rfl ?_ | refine skD hC rfl rfl rfl ?_); refine runO hC tabOk 60 ?_; simp [go_sem])
    refine ret hC tabOk (fun _ => 1) rfl rfl fun m gf hl ex => ?_
    simp [retv, SV.val, SC.val, vals, cutS, h1]
  | true =>
  refine runO hC tabOk 60 ?_
  simp [go_sem]
  repeat ((first | refine condT rfl ?_ | refine condF rfl ?_ | refine skD hC rfl rfl rfl ?_); refine runO hC tabOk 60 ?_; simp [go_sem])
  refine call hC [] (by kernel_rfl) rfl rfl rfl rfl rfl fun m2 g2 p2 e2 => ⟨_, time250 [life] ⟨_, 1⟩ _ ⟨.inr ⟨_, 0, rfl, e2.frz (i := 2) rfl rfl rfl⟩, Nat.le_refl _, by simp [maxLen]⟩, fun v2 u2 q2 s2 hv2 => ?_⟩
  subst hv2
  cases h2 : tOk life with
  | false =>
    refine runO hC tabOk 60 ?_
    simp [go_sem, h2]
    repeat ((first | refine condT rfl ?_ | refine condF rfl ?_ | refine skD hC rfl rfl rfl ?_); refine runO hC tabOk 60 ?_; simp [go_sem, h2])
    try (refine runO hC tabOk 60 ?_; simp [go_sem, h2]; repeat ((first | refine condT rfl ?_ | refine condF rfl ?_ | refine skD hC rfl rfl rfl ?_); refine runO hC tabOk 60 ?_; simp [go_sem, h2]))
    refine ret hC tabOk (fun _ => 1) rfl rfl fun m gf hl ex => ?_
    simp [retv, SV.val, SC.val, vals, cutS, h1, h2]
  | true =>
  obtain ⟨hf, ht⟩ := sok_abs h1
  have hlf := tOk_abs h2
  have hs : (f + life).natAbs < 2 ^ 42 := by
    have a1 : (2 : Nat) ^ 41 = 2199023255552 := rfl
    have a2 : (2 : Nat) ^ 42 = 4398046511104 := rfl
    omega
  have hmin : (min t (f + life)).natAbs < 2 ^ 52 := by
    rcases Int.le_total t (f + life) with q | q
    · rw [Int.min_eq_left q]; exact lt41 ht
    · rw [Int.min_eq_right q]; exact lt52 hs
  refine runO hC tabOk 60 ?_
  simp [go_sem, h2]
  repeat ((first | refine condT rfl ?_ | refine condF rfl ?_ | refine skD hC rfl rfl rfl ?_); refine runO hC tabOk 60 ?_; simp [go_sem, h2])
  try (refine runO hC tabOk 60 ?_; simp [go_sem, h2]; repeat ((first | refine condT rfl ?_ | refine condF rfl ?_ | refine skD hC rfl rfl rfl ?_); refine runO hC tabOk 60 ?_; simp [go_sem, h2]))
  refine call hC [] (by kernel_rfl) rfl rfl rfl rfl rfl fun m3 g3 p3 e3 => ⟨_, point272 f t _ h1, fun v3 u3 q3 s3 hv3 => ?_⟩
  subst hv3
  refine runO hC tabOk 60 ?_
  simp [go_sem]
  repeat ((first | refine condT rfl ?_ | refine condF rfl ?_ | refine skD hC rfl rfl rfl ?_); refine runO hC tabOk 60 ?_; simp [go_sem])
  refine vo hC (vo_bi (v := .float .f64 (fl f)) hC rfl rfl (fun m c w => Eng.run_real _ _ c _ _ w)) rfl rfl rfl ?_
  refine runO hC tabOk 60 ?_
  simp [go_sem]
  repeat ((first | refine condT rfl ?_ | refine condF rfl ?_ | refine skD hC rfl rfl rfl ?_); refine runO hC tabOk 60 ?_; simp [go_sem])
  refine vo hC (vo_bi (v := .float .f64 (fl t)) hC rfl rfl (fun m c w => Eng.run_imag _ _ c _ _ w)) rfl rfl rfl ?_
  refine runO hC tabOk 60 ?_
  simp [go_sem]
  repeat ((first | refine condT rfl ?_ | refine condF rfl ?_ | refine skD hC rfl rfl rfl ?_); refine runO hC tabOk 60 ?_; simp [go_sem])
  refine vo hC (vo_bi (v := .float .f64 (fl f)) hC rfl rfl (fun m c w => Eng.run_real _ _ c _ _ w)) rfl rfl rfl ?_
  refine runO hC tabOk 60 ?_
  simp [go_sem]
  repeat ((first | refine condT rfl ?_ | refine condF rfl ?_ | refine skD hC rfl rfl rfl ?_); refine runO hC tabOk 60 ?_; simp [go_sem])
  refine vo hC (vo_conv hC rfl rfl (run_i2f Tryz.underlying3 Tryz.underlying329 _)) rfl rfl rfl ?_
  refine runO hC tabOk 60 ?_
  simp [go_sem]
  repeat ((first | refine condT rfl ?_ | refine condF rfl ?_ | refine skD hC rfl rfl rfl ?_); refine runO hC tabOk 60 ?_; simp [go_sem])
  refine vo hC (vo_bin hC rfl rfl rfl (run_fadd _ _ _ _ f life (lt41 hf) (lt41 hlf) (lt52 hs))) rfl rfl rfl ?_
  refine runO hC tabOk 60 ?_
  simp [go_sem]
  repeat ((first | refine condT rfl ?_ | refine condF rfl ?_ | refine skD hC rfl rfl rfl ?_); refine runO hC tabOk 60 ?_; simp [go_sem])
  refine vo hC (vo_bi (v := .float .f64 (fl (min t (f + life)))) hC rfl rfl (fun m c w => run_fmin _ _ c _ _ (lt41 ht) (lt52 hs) w)) rfl rfl rfl ?_
  refine runO hC tabOk 60 ?_
  simp [go_sem]
  repeat ((first | refine condT rfl ?_ | refine condF rfl ?_ | refine skD hC rfl rfl rfl ?_); refine runO hC tabOk 60 ?_; simp [go_sem])
  refine vo hC (vo_bi (v := .complex .f64 (fl f) (fl (min t (f + life)))) hC rfl rfl (fun m c w => run_cplx _ _ c _ _ w)) rfl rfl rfl ?_
  refine runO hC tabOk 60 ?_
  simp [go_sem]
  repeat ((first | refine condT rfl ?_ | refine condF rfl ?_ | refine skD hC rfl rfl rfl ?_); refine runO hC tabOk 60 ?_; simp [go_sem])
  refine call hC [] (by kernel_rfl) rfl rfl rfl rfl rfl fun m4 g4 p4 e4 => ⟨_, left273 f (min t (f + life)) (lt41 hf) hmin _, fun v4 u4 q4 s4 hv4 => ?_⟩
  subst hv4
  unfold spv
  refine runO hC tabOk 60 ?_
  simp [go_sem]
  repeat ((first | refine condT rfl ?_ | refine condF rfl ?_ | refine skD hC rfl rfl rfl ?_); refine runO hC tabOk 60 ?_; simp [go_sem])
  refine ret hC tabOk (fun _ => 1) rfl rfl fun m gf hl ex => ?_
  simp [retv, SV.val, SC.val, vals, cutS, h1, h2]
end Go.Proofs.YtobhfopgoidniaaGreat

/- Spans: both, check; the document's. -/
namespace Go.Proofs.YtobhfopgoidniaaGreat
open Go Go.Eng

def leftN (a b : Int) : (Int × Int) × Int := if b ≤ a then ((0, 0), 63) else ((a, b), 0)
def bothN (s r : Int × Int) : (Int × Int) × Int := if sOk s.1 s.2 && sOk r.1 r.2 then leftN (max s.1 r.1) (min s.2 r.2) else ((0, 0), 1)
def cutN (s : Int × Int) (life : Int) : (Int × Int) × Int := if sOk s.1 s.2 && tOk life then leftN s.1 (min s.2 (s.1 + life)) else ((0, 0), 1)
def checkN (s : Int × Int) (at_ skew : Int) : Int := if sOk s.1 s.2 && tOk at_ && tOk skew then (if at_ + skew < s.1 then 31 else if s.2 ≤ at_ - skew then 32 else 0) else 1
def nearN (a b c : Int) : Bool := tOk a && tOk b && tOk c && decide (a - b ≤ c) && decide (b - a ≤ c)

theorem leftS_eq {a b : Int} (ha : tOk a = true) (hb : tOk b = true) : leftS a b = leftN a b := by
  unfold leftS leftN ofS
  split
  · rfl
  · rename_i h
    have : a ≤ b := by omega
    simp [ha, hb, this]

theorem sok_iff {f t : Int} : sOk f t = true ↔ 0 ≤ f ∧ f ≤ t ∧ t ≤ 1099511627776 := by
  simp [sOk, tOk]; omega
theorem tok_iff {n : Int} : tOk n = true ↔ 0 ≤ n ∧ n ≤ 1099511627776 := by
  simp [tOk]

theorem cutS_eq (s : Int × Int) (life : Int) : cutS s life = cutN s life := by
  unfold cutS cutN
  split
  · rename_i h
    rw [Bool.and_eq_true, sok_iff, tok_iff] at h
    exact leftS_eq (tok_iff.2 (by omega)) (tok_iff.2 (by omega))
  · rfl

theorem span_cut227 (f t life : Int) (g : G) : Ok Tryz.prog 227 [spv (f, t), .int .i64 life] g [] (fun v _ => v = .tuple #[spv (cutN (f, t) life).1, .int .i64 (cutN (f, t) life).2]) := by
  have := cut227 f t life g
  rwa [cutS_eq] at this

theorem both234 (a b c d : Int) (g : G) : Ok Tryz.prog 234 [spv (a, b), spv (c, d)] g [] (fun v _ => v = .tuple #[spv (bothN (a, b) (c, d)).1, .int .i64 (bothN (a, b) (c, d)).2]) := by
  unfold spv
  refine fbegin Tryz.func234 rfl Tryz.ntmps234 (Nat.le_of_ble_eq_true rfl) fun C hw hC => ?_
  refine runO hC tabOk 60 ?_
  simp [go_sem]
  repeat ((first | refine condT rfl ?_ | refine condF rfl ?_ | refine skD hC rfl rfl rfl ?_); refine runO hC tabOk 60 ?_; simp [go_sem])
  refine call hC [] (by kernel_rfl) rfl rfl rfl rfl rfl fun m1 g1 p1 e1 => ⟨_, svalid192 a b _, fun v1 u1 q1 s1 hv1 => ?_⟩
  subst hv1
  cases h1 : sOk a b with
  | false =>
    refine runO hC tabOk 60 ?_
    simp [go_sem]
    repeat ((first | refine condT rfl ?_ | refine condF rfl ?_ | refine skD hC rfl rfl rfl ?_); refine runO hC tabOk 60 ?_; simp [go_sem])
    refine ret hC tabOk (fun _ => 1) rfl rfl fun m gf hl ex => ?_
    simp [retv, SV.val, SC.val, vals, spv, bothN, h1]
  | true =>
  refine runO hC tabOk 60 ?_
  simp [go_sem]
  repeat ((first | refine condT rfl ?_ | refine condF rfl ?_ | refine skD hC rfl rfl rfl ?_); refine runO hC tabOk 60 ?_; simp [go_sem])
  refine call hC [] (by kernel_rfl) rfl rfl rfl rfl rfl fun m2 g2 p2 e2 => ⟨_, svalid192 c d _, fun v2 u2 q2 s2 hv2 => ?_⟩
  subst hv2
  cases h2 : sOk c d with
  | false =>
    refine runO hC tabOk 60 ?_
    simp [go_sem]
    repeat ((first | refine condT rfl ?_ | refine condF rfl ?_ | refine skD hC rfl rfl rfl ?_); refine runO hC tabOk 60 ?_; simp [go_sem])
    refine ret hC tabOk (fun _ => 1) rfl rfl fun m gf hl ex => ?_
    simp [retv, SV.val, SC.val, vals, spv, bothN, h1, h2]
  | true =>
  obtain ⟨hf, ht⟩ := sok_abs h1
  obtain ⟨hf', ht'⟩ := sok_abs h2
  have k1 := sok_iff.1 h1
  have k2 := sok_iff.1 h2
  have hmax : (max a c).natAbs < 2 ^ 52 := by
    rcases Int.le_total a c with q | q
    · rw [Int.max_eq_right q]; exact lt41 hf'
    · rw [Int.max_eq_left q]; exact lt41 hf
  have hmin : (min b d).natAbs < 2 ^ 52 := by
    rcases Int.le_total b d with q | q
    · rw [Int.min_eq_left q]; exact lt41 ht
    · rw [Int.min_eq_right q]; exact lt41 ht'
  refine runO hC tabOk 60 ?_
  simp [go_sem]
  repeat ((first | refine condT rfl ?_ | refine condF rfl ?_ | refine skD hC rfl rfl rfl ?_); refine runO hC tabOk 60 ?_; simp [go_sem])
  refine draw hC [(0, 0), (2, 0), (1, 1)] [3, 4, 5] mix (by kernel_rfl) ?_
  refine runO hC tabOk 60 ?_
  simp [go_sem]
  repeat ((first | refine condT rfl ?_ | refine condF rfl ?_ | refine skD hC rfl rfl rfl ?_); refine runO hC tabOk 60 ?_; simp [go_sem])
  refine callD hC [] (by kernel_rfl) rfl rfl rfl rfl rfl rfl rfl rfl fun m3 g3 p3 e3 => ⟨_, point272 a b _ h1, fun v3 u3 q3 s3 hv3 => ?_⟩
  subst hv3
  refine runO hC tabOk 60 ?_
  simp [go_sem]
  repeat ((first | refine condT rfl ?_ | refine condF rfl ?_ | refine skD hC rfl rfl rfl ?_); refine runO hC tabOk 60 ?_; simp [go_sem])
  refine call hC [] (by kernel_rfl) rfl rfl rfl rfl rfl fun m4 g4 p4 e4 => ⟨_, point272 c d _ h2, fun v4 u4 q4 s4 hv4 => ?_⟩
  subst hv4
  refine runO hC tabOk 60 ?_
  simp [go_sem]
  repeat ((first | refine condT rfl ?_ | refine condF rfl ?_ | refine skD hC rfl rfl rfl ?_); refine runO hC tabOk 60 ?_; simp [go_sem])
  refine vo hC (vo_bi (v := .float .f64 (fl a)) hC rfl rfl (fun m c w => Eng.run_real _ _ c _ _ w)) rfl rfl rfl ?_
  refine runO hC tabOk 60 ?_
  simp [go_sem]
  repeat ((first | refine condT rfl ?_ | refine condF rfl ?_ | refine skD hC rfl rfl rfl ?_); refine runO hC tabOk 60 ?_; simp [go_sem])
  refine vo hC (vo_bi (v := .float .f64 (fl c)) hC rfl rfl (fun m c w => Eng.run_real _ _ c _ _ w)) rfl rfl rfl ?_
  refine runO hC tabOk 60 ?_
  simp [go_sem]
  repeat ((first | refine condT rfl ?_ | refine condF rfl ?_ | refine skD hC rfl rfl rfl ?_); refine runO hC tabOk 60 ?_; simp [go_sem])
  refine vo hC (vo_bi (v := .float .f64 (fl (max a c))) hC rfl rfl (fun m c w => run_fmax _ _ c _ _ (lt41 hf) (lt41 hf') w)) rfl rfl rfl ?_
  refine runO hC tabOk 60 ?_
  simp [go_sem]
  repeat ((first | refine condT rfl ?_ | refine condF rfl ?_ | refine skD hC rfl rfl rfl ?_); refine runO hC tabOk 60 ?_; simp [go_sem])
  refine vo hC (vo_bi (v := .float .f64 (fl b)) hC rfl rfl (fun m c w => Eng.run_imag _ _ c _ _ w)) rfl rfl rfl ?_
  refine runO hC tabOk 60 ?_
  simp [go_sem]
  repeat ((first | refine condT rfl ?_ | refine condF rfl ?_ | refine skD hC rfl rfl rfl ?_); refine runO hC tabOk 60 ?_; simp [go_sem])
  refine vo hC (vo_bi (v := .float .f64 (fl d)) hC rfl rfl (fun m c w => Eng.run_imag _ _ c _ _ w)) rfl rfl rfl ?_
  refine runO hC tabOk 60 ?_
  simp [go_sem]
  repeat ((first | refine condT rfl ?_ | refine condF rfl ?_ | refine skD hC rfl rfl rfl ?_); refine runO hC tabOk 60 ?_; simp [go_sem])
  refine vo hC (vo_bi (v := .float .f64 (fl (min b d))) hC rfl rfl (fun m c w => run_fmin _ _ c _ _ (lt41 ht) (lt41 ht') w)) rfl rfl rfl ?_
  refine runO hC tabOk 60 ?_
  simp [go_sem]
  repeat ((first | refine condT rfl ?_ | refine condF rfl ?_ | refine skD hC rfl rfl rfl ?_); refine runO hC tabOk 60 ?_; simp [go_sem])
  refine vo hC (vo_bi (v := .complex .f64 (fl (max a c)) (fl (min b d))) hC rfl rfl (fun m c w => run_cplx _ _ c _ _ w)) rfl rfl rfl ?_
  refine runO hC tabOk 60 ?_
  simp [go_sem]
  repeat ((first | refine condT rfl ?_ | refine condF rfl ?_ | refine skD hC rfl rfl rfl ?_); refine runO hC tabOk 60 ?_; simp [go_sem])
  refine call hC [] (by kernel_rfl) rfl rfl rfl rfl rfl fun m5 g5 p5 e5 => ⟨_, left273 (max a c) (min b d) hmax hmin _, fun v5 u5 q5 s5 hv5 => ?_⟩
  subst hv5
  rw [leftS_eq (tok_iff.2 (by omega)) (tok_iff.2 (by omega))]
  unfold spv
  refine runO hC tabOk 60 ?_
  simp [go_sem]
  repeat ((first | refine condT rfl ?_ | refine condF rfl ?_ | refine skD hC rfl rfl rfl ?_); refine runO hC tabOk 60 ?_; simp [go_sem])
  refine ret hC tabOk (fun _ => 1) rfl rfl fun m gf hl ex => ?_
  simp [retv, SV.val, SC.val, vals, bothN, h1, h2]

theorem check233 (f t at_ skew : Int) (g : G) : Ok Tryz.prog 233 [spv (f, t), .int .i64 at_, .int .i64 skew] g [] (fun v _ => v = .int .i64 (checkN (f, t) at_ skew)) := by
  unfold spv
  refine fbegin Tryz.func233 rfl Tryz.ntmps233 (Nat.le_of_ble_eq_true rfl) fun C hw hC => ?_
  refine runO hC tabOk 60 ?_
  simp [go_sem]
  repeat ((first | refine condT rfl ?_ | refine condF rfl ?_ | refine skD hC rfl rfl rfl ?_); refine runO hC tabOk 60 ?_; simp [go_sem])
  refine call hC [] (by kernel_rfl) rfl rfl rfl rfl rfl fun m1 g1 p1 e1 => ⟨_, svalid192 f t _, fun v1 u1 q1 s1 hv1 => ?_⟩
  subst hv1
  cases h1 : sOk f t with
  | false =>
    refine runO hC tabOk 60 ?_
    simp [go_sem]
    repeat ((first | refine condT rfl ?_ | refine condF rfl ?_ | refine skD hC rfl rfl rfl ?_); refine runO hC tabOk 60 ?_; simp [go_sem])
    refine ret hC tabOk (fun _ => 1) rfl rfl fun m gf hl ex => ?_
    simp [retv, SV.val, SC.val, vals, checkN, h1]
  | true =>
  refine runO hC tabOk 60 ?_
  simp [go_sem]
  repeat ((first | refine condT rfl ?_ | refine condF rfl ?_ | refine skD hC rfl rfl rfl ?_); refine runO hC tabOk 60 ?_; simp [go_sem])
  refine call hC [] (by kernel_rfl) rfl rfl rfl rfl rfl fun m2 g2 p2 e2 => ⟨_, time250 [at_, skew] ⟨_, 2⟩ _ ⟨.inr ⟨_, 0, rfl, e2.frz (i := 1) rfl rfl rfl⟩, Nat.le_refl _, by simp [maxLen]⟩, fun v2 u2 q2 s2 hv2 => ?_⟩
  subst hv2
  have e3 : [at_, skew].all tOk = (tOk at_ && tOk skew) := by simp
  rw [e3]
  cases h2 : (tOk at_ && tOk skew) with
  | false =>
    refine runO hC tabOk 60 ?_
    simp [go_sem]
    repeat ((first | refine condT rfl ?_ | refine condF rfl ?_ | refine skD hC rfl rfl rfl ?_); refine runO hC tabOk 60 ?_; simp [go_sem])
    refine ret hC tabOk (fun _ => 1) rfl rfl fun m gf hl ex => ?_
    simp [retv, SV.val, SC.val, vals, checkN, h1, h2]
  | true =>
  rw [Bool.and_eq_true] at h2
  obtain ⟨h2, h3⟩ := h2
  have k1 := sok_iff.1 h1
  have k2 := tok_iff.1 h2
  have k3 := tok_iff.1 h3
  obtain ⟨hf, ht⟩ := sok_abs h1
  have ha := tOk_abs h2
  have hs := tOk_abs h3
  have e41 : (2 : Nat) ^ 41 = 2199023255552 := rfl
  have e42 : (2 : Nat) ^ 42 = 4398046511104 := rfl
  have hfa : (f - at_).natAbs < 2 ^ 52 := lt52 (by omega)
  have hta : (t - at_).natAbs < 2 ^ 52 := lt52 (by omega)
  refine runO hC tabOk 60 ?_
  simp [go_sem]
  repeat ((first | refine condT rfl ?_ | refine condF rfl ?_ | refine skD hC rfl rfl rfl ?_); refine runO hC tabOk 60 ?_; simp [go_sem])
  refine call hC [] (by kernel_rfl) rfl rfl rfl rfl rfl fun m3 g3 p3 e3 => ⟨_, point272 f t _ h1, fun v3 u3 q3 s3 hv3 => ?_⟩
  subst hv3
  refine runO hC tabOk 60 ?_
  simp [go_sem]
  repeat ((first | refine condT rfl ?_ | refine condF rfl ?_ | refine skD hC rfl rfl rfl ?_); refine runO hC tabOk 60 ?_; simp [go_sem])
  refine vo hC (vo_conv hC rfl rfl (run_i2f Tryz.underlying3 Tryz.underlying329 _)) rfl rfl rfl ?_
  refine runO hC tabOk 60 ?_
  simp [go_sem]
  repeat ((first | refine condT rfl ?_ | refine condF rfl ?_ | refine skD hC rfl rfl rfl ?_); refine runO hC tabOk 60 ?_; simp [go_sem])
  refine vo hC (vo_conv hC rfl rfl (run_i2f Tryz.underlying3 Tryz.underlying329 _)) rfl rfl rfl ?_
  refine runO hC tabOk 60 ?_
  simp [go_sem]
  repeat ((first | refine condT rfl ?_ | refine condF rfl ?_ | refine skD hC rfl rfl rfl ?_); refine runO hC tabOk 60 ?_; simp [go_sem])
  refine vo hC (vo_bi (v := .complex .f64 (fl at_) (fl at_)) hC rfl rfl (fun m c w => run_cplx _ _ c _ _ w)) rfl rfl rfl ?_
  refine runO hC tabOk 60 ?_
  simp [go_sem]
  repeat ((first | refine condT rfl ?_ | refine condF rfl ?_ | refine skD hC rfl rfl rfl ?_); refine runO hC tabOk 60 ?_; simp [go_sem])
  refine vo hC (vo_bin hC rfl rfl rfl (run_csub _ _ _ _ f t at_ at_ (lt41 hf) (lt41 ht) (lt41 ha) (lt41 ha) hfa hta)) rfl rfl rfl ?_
  refine runO hC tabOk 60 ?_
  simp [go_sem]
  repeat ((first | refine condT rfl ?_ | refine condF rfl ?_ | refine skD hC rfl rfl rfl ?_); refine runO hC tabOk 60 ?_; simp [go_sem])
  refine vo hC (vo_bi (v := .float .f64 (fl (f - at_))) hC rfl rfl (fun m c w => Eng.run_real _ _ c _ _ w)) rfl rfl rfl ?_
  refine runO hC tabOk 60 ?_
  simp [go_sem]
  repeat ((first | refine condT rfl ?_ | refine condF rfl ?_ | refine skD hC rfl rfl rfl ?_); refine runO hC tabOk 60 ?_; simp [go_sem])
  refine vo hC (vo_conv hC rfl rfl (run_i2f Tryz.underlying3 Tryz.underlying329 _)) rfl rfl rfl ?_
  refine runO hC tabOk 60 ?_
  simp [go_sem]
  repeat ((first | refine condT rfl ?_ | refine condF rfl ?_ | refine skD hC rfl rfl rfl ?_); refine runO hC tabOk 60 ?_; simp [go_sem])
  refine vo hC (vo_bin hC rfl rfl rfl (run_fgt _ _ _ _ (f - at_) skew hfa (lt41 hs))) rfl rfl rfl ?_
  refine runO hC tabOk 60 ?_
  simp [go_sem]
  repeat ((first | refine condT rfl ?_ | refine condF rfl ?_ | refine skD hC rfl rfl rfl ?_); refine runO hC tabOk 60 ?_; simp [go_sem])
  refine sg_cond rfl (fun h4 => ?_) (fun h4 => ?_)
  · simp at h4
    have : at_ + skew < f := by omega
    refine runO hC tabOk 60 ?_
    simp [go_sem]
    repeat ((first | refine condT rfl ?_ | refine condF rfl ?_ | refine skD hC rfl rfl rfl ?_); refine runO hC tabOk 60 ?_; simp [go_sem])
    refine ret hC tabOk (fun _ => 1) rfl rfl fun m gf hl ex => ?_
    simp [retv, SV.val, SC.val, vals, checkN, h1, h2, h3, this]
  simp at h4
  have h5 : ¬ at_ + skew < f := by omega
  refine runO hC tabOk 60 ?_
  simp [go_sem]
  repeat ((first | refine condT rfl ?_ | refine condF rfl ?_ | refine skD hC rfl rfl rfl ?_); refine runO hC tabOk 60 ?_; simp [go_sem])
  refine vo hC (vo_bi (v := .float .f64 (fl (t - at_))) hC rfl rfl (fun m c w => Eng.run_imag _ _ c _ _ w)) rfl rfl rfl ?_
  refine runO hC tabOk 60 ?_
  simp [go_sem]
  repeat ((first | refine condT rfl ?_ | refine condF rfl ?_ | refine skD hC rfl rfl rfl ?_); refine runO hC tabOk 60 ?_; simp [go_sem])
  refine vo hC (vo_conv hC rfl rfl (run_i2f Tryz.underlying3 Tryz.underlying329 _)) rfl rfl rfl ?_
  refine runO hC tabOk 60 ?_
  simp [go_sem]
  repeat ((first | refine condT rfl ?_ | refine condF rfl ?_ | refine skD hC rfl rfl rfl ?_); refine runO hC tabOk 60 ?_; simp [go_sem])
  refine vo hC (vo_un hC rfl rfl (run_fneg _)) rfl rfl rfl ?_
  refine runO hC tabOk 60 ?_
  simp [go_sem]
  repeat ((first | refine condT rfl ?_ | refine condF rfl ?_ | refine skD hC rfl rfl rfl ?_); refine runO hC tabOk 60 ?_; simp [go_sem])
  refine vo hC (vo_bin hC rfl rfl rfl (run_flen _ _ _ _ _ _ (t - at_) (-skew) (isN_fl _ hta) (isN_neg _ k3.1 (lt41 hs)))) rfl rfl rfl ?_
  refine runO hC tabOk 60 ?_
  simp [go_sem]
  repeat ((first | refine condT rfl ?_ | refine condF rfl ?_ | refine skD hC rfl rfl rfl ?_); refine runO hC tabOk 60 ?_; simp [go_sem])
  refine sg_cond rfl (fun h6 => ?_) (fun h6 => ?_)
  · simp at h6
    have : t ≤ at_ - skew := by omega
    refine runO hC tabOk 60 ?_
    simp [go_sem]
    repeat ((first | refine condT rfl ?_ | refine condF rfl ?_ | refine skD hC rfl rfl rfl ?_); refine runO hC tabOk 60 ?_; simp [go_sem])
    refine ret hC tabOk (fun _ => 1) rfl rfl fun m gf hl ex => ?_
    simp [retv, SV.val, SC.val, vals, checkN, h1, h2, h3, h5, this]
  · simp at h6
    have : ¬ t ≤ at_ - skew := by omega
    refine runO hC tabOk 60 ?_
    simp [go_sem]
    repeat ((first | refine condT rfl ?_ | refine condF rfl ?_ | refine skD hC rfl rfl rfl ?_); refine runO hC tabOk 60 ?_; simp [go_sem])
    refine ret hC tabOk (fun _ => 1) rfl rfl fun m gf hl ex => ?_
    simp [retv, SV.val, SC.val, vals, checkN, h1, h2, h3, h5, this]

theorem rtime242 (n : Int) (g : G) : Ok Tryz.prog 242 [.int .i64 n] g [] (fun v _ => v = .bool (tOk n)) := by
  refine fbegin Tryz.func242 rfl Tryz.ntmps242 (Nat.le_of_ble_eq_true rfl) fun C hw hC => ?_
  refine runO hC tabOk 60 ?_
  simp [go_sem]
  repeat ((first | refine condT rfl ?_ | refine condF rfl ?_ | refine skD hC rfl rfl rfl ?_); refine runO hC tabOk 60 ?_; simp [go_sem])
  refine ret hC tabOk (fun _ => 1) rfl rfl fun m gf hl ex => ?_
  simp [retv, SV.val, SC.val, vals, tOk]

theorem rvalid174 (f t : Int) (g : G) : Ok Tryz.prog 174 [spv (f, t)] g [] (fun v _ => v = .bool (sOk f t)) := by
  unfold spv
  refine fbegin Tryz.func174 rfl Tryz.ntmps174 (Nat.le_of_ble_eq_true rfl) fun C hw hC => ?_
  refine runO hC tabOk 60 ?_
  simp [go_sem]
  repeat ((first | refine condT rfl ?_ | refine condF rfl ?_ | refine skD hC rfl rfl rfl ?_); refine runO hC tabOk 60 ?_; simp [go_sem])
  refine ret hC tabOk (fun _ => 1) rfl rfl fun m gf hl ex => ?_
  simp [retv, SV.val, SC.val, vals]
  rw [Bool.eq_iff_iff, sok_iff]
  simp [and_assoc]

theorem rnear173 (a b c : Int) (g : G) : Ok Tryz.prog 173 [.int .i64 a, .int .i64 b, .int .i64 c] g [] (fun v _ => v = .bool (nearN a b c)) := by
  refine fbegin Tryz.func173 rfl Tryz.ntmps173 (Nat.le_of_ble_eq_true rfl) fun C hw hC => ?_
  refine runO hC tabOk 60 ?_
  simp [go_sem]
  repeat ((first | refine condT rfl ?_ | refine condF rfl ?_ | refine skD hC rfl rfl rfl ?_); refine runO hC tabOk 60 ?_; simp [go_sem])
  refine call hC [] (by kernel_rfl) rfl rfl rfl rfl rfl fun m1 g1 p1 e1 => ⟨_, rtime242 a _, fun v1 u1 q1 s1 hv1 => ?_⟩
  subst hv1
  cases h1 : tOk a with
  | false =>
    refine runO hC tabOk 60 ?_
    simp [go_sem]
    repeat ((first | refine condT rfl ?_ | refine condF rfl ?_ | refine skD hC rfl rfl rfl ?_); refine runO hC tabOk 60 ?_; simp [go_sem])
    refine ret hC tabOk (fun _ => 1) rfl rfl fun m gf hl ex => ?_
    simp [retv, SV.val, SC.val, vals, nearN, h1]
  | true =>
  refine runO hC tabOk 60 ?_
  simp [go_sem]
  repeat ((first | refine condT rfl ?_ | refine condF rfl ?_ | refine skD hC rfl rfl rfl ?_); refine runO hC tabOk 60 ?_; simp [go_sem])
  refine call hC [] (by kernel_rfl) rfl rfl rfl rfl rfl fun m2 g2 p2 e2 => ⟨_, rtime242 b _, fun v2 u2 q2 s2 hv2 => ?_⟩
  subst hv2
  cases h2 : tOk b with
  | false =>
    refine runO hC tabOk 60 ?_
    simp [go_sem]
    repeat ((first | refine condT rfl ?_ | refine condF rfl ?_ | refine skD hC rfl rfl rfl ?_); refine runO hC tabOk 60 ?_; simp [go_sem])
    refine ret hC tabOk (fun _ => 1) rfl rfl fun m gf hl ex => ?_
    simp [retv, SV.val, SC.val, vals, nearN, h1, h2]
  | true =>
  refine runO hC tabOk 60 ?_
  simp [go_sem]
  repeat ((first | refine condT rfl ?_ | refine condF rfl ?_ | refine skD hC rfl rfl rfl ?_); refine runO hC tabOk 60 ?_; simp [go_sem])
  refine call hC [] (by kernel_rfl) rfl rfl rfl rfl rfl fun m3 g3 p3 e3 => ⟨_, rtime242 c _, fun v3 u3 q3 s3 hv3 => ?_⟩
  subst hv3
  cases h3 : tOk c with
  | false =>
    refine runO hC tabOk 60 ?_
    simp [go_sem]
    repeat ((first | refine condT rfl ?_ | refine condF rfl ?_ | refine skD hC rfl rfl rfl ?_); refine runO hC tabOk 60 ?_; simp [go_sem])
    refine ret hC tabOk (fun _ => 1) rfl rfl fun m gf hl ex => ?_
    simp [retv, SV.val, SC.val, vals, nearN, h1, h2, h3]
  | true =>
  have k1 := tok_iff.1 h1
  have k2 := tok_iff.1 h2
  have w1 : IntKind.i64.wrap (a - b) = a - b := by rw [IntKind.wrap_i64]; omega
  have w2 : IntKind.i64.wrap (b - a) = b - a := by rw [IntKind.wrap_i64]; omega
  refine runO hC tabOk 60 ?_
  simp [go_sem]
  repeat ((first | refine condT rfl ?_ | refine condF rfl ?_ | refine skD hC rfl rfl rfl ?_); refine runO hC tabOk 60 ?_; simp [go_sem])
  refine ret hC tabOk (fun _ => 1) rfl rfl fun m gf hl ex => ?_
  simp [retv, SV.val, SC.val, vals, nearN, h1, h2, h3, w1, w2]

theorem rboth175 (a b c d : Int) (g : G) : Ok Tryz.prog 175 [spv (a, b), spv (c, d)] g [] (fun v _ => v = .tuple #[spv (bothN (a, b) (c, d)).1, .int .i64 (bothN (a, b) (c, d)).2]) := by
  unfold spv
  refine fbegin Tryz.func175 rfl Tryz.ntmps175 (Nat.le_of_ble_eq_true rfl) fun C hw hC => ?_
  refine runO hC tabOk 60 ?_
  simp [go_sem]
  repeat ((first | refine condT rfl ?_ | refine condF rfl ?_ | refine skD hC rfl rfl rfl ?_); refine runO hC tabOk 60 ?_; simp [go_sem])
  refine call hC [] (by kernel_rfl) rfl rfl rfl rfl rfl fun m1 g1 p1 e1 => ⟨_, rvalid174 a b _, fun v1 u1 q1 s1 hv1 => ?_⟩
  subst hv1
  cases h1 : sOk a b with
  | false =>
    refine runO hC tabOk 60 ?_
    simp [go_sem]
    repeat ((first | refine condT rfl ?_ | refine condF rfl ?_ | refine skD hC rfl rfl rfl ?_); refine runO hC tabOk 60 ?_; simp [go_sem])
    refine ret hC tabOk (fun _ => 1) rfl rfl fun m gf hl ex => ?_
    simp [retv, SV.val, SC.val, vals, spv, bothN, h1]
  | true =>
  refine runO hC tabOk 60 ?_
  simp [go_sem]
  repeat ((first | refine condT rfl ?_ | refine condF rfl ?_ | refine skD hC rfl rfl rfl ?_); refine runO hC tabOk 60 ?_; simp [go_sem])
  refine call hC [] (by kernel_rfl) rfl rfl rfl rfl rfl fun m2 g2 p2 e2 => ⟨_, rvalid174 c d _, fun v2 u2 q2 s2 hv2 => ?_⟩
  subst hv2
  cases h2 : sOk c d with
  | false =>
    refine runO hC tabOk 60 ?_
    simp [go_sem]
    repeat ((first | refine condT rfl ?_ | refine condF rfl ?_ | refine skD hC rfl rfl rfl ?_); refine runO hC tabOk 60 ?_; simp [go_sem])
    refine ret hC tabOk (fun _ => 1) rfl rfl fun m gf hl ex => ?_
    simp [retv, SV.val, SC.val, vals, spv, bothN, h1, h2]
  | true =>
  refine runO hC tabOk 60 ?_
  simp [go_sem]
  repeat ((first | refine condT rfl ?_ | refine condF rfl ?_ | refine skD hC rfl rfl rfl ?_); refine runO hC tabOk 60 ?_; simp [go_sem])
  refine vo hC (vo_bi (v := .int .i64 (max a c)) hC rfl rfl (fun m c w => run_max _ _ c _ _ w)) rfl rfl rfl ?_
  refine runO hC tabOk 60 ?_
  simp [go_sem]
  repeat ((first | refine condT rfl ?_ | refine condF rfl ?_ | refine skD hC rfl rfl rfl ?_); refine runO hC tabOk 60 ?_; simp [go_sem])
  refine vo hC (vo_bi (v := .int .i64 (min b d)) hC rfl rfl (fun m c w => run_min _ _ c _ _ w)) rfl rfl rfl ?_
  refine runO hC tabOk 60 ?_
  simp [go_sem]
  repeat ((first | refine condT rfl ?_ | refine condF rfl ?_ | refine skD hC rfl rfl rfl ?_); refine runO hC tabOk 60 ?_; simp [go_sem])
  refine sg_cond rfl (fun h3 => ?_) (fun h3 => ?_)
  · simp at h3
    refine runO hC tabOk 60 ?_
    simp [go_sem]
    repeat ((first | refine condT rfl ?_ | refine condF rfl ?_ | refine skD hC rfl rfl rfl ?_); refine runO hC tabOk 60 ?_; simp [go_sem])
    refine ret hC tabOk (fun _ => 1) rfl rfl fun m gf hl ex => ?_
    simp [retv, SV.val, SC.val, vals, spv, bothN, leftN, h1, h2, h3]
  · simp at h3
    have h3' := Int.not_le.2 h3
    refine runO hC tabOk 60 ?_
    simp [go_sem]
    repeat ((first | refine condT rfl ?_ | refine condF rfl ?_ | refine skD hC rfl rfl rfl ?_); refine runO hC tabOk 60 ?_; simp [go_sem])
    refine ret hC tabOk (fun _ => 1) rfl rfl fun m gf hl ex => ?_
    simp [retv, SV.val, SC.val, vals, spv, bothN, leftN, h1, h2, h3']

theorem rcut176 (f t life : Int) (g : G) : Ok Tryz.prog 176 [spv (f, t), .int .i64 life] g [] (fun v _ => v = .tuple #[spv (cutN (f, t) life).1, .int .i64 (cutN (f, t) life).2]) := by
  unfold spv
  refine fbegin Tryz.func176 rfl Tryz.ntmps176 (Nat.le_of_ble_eq_true rfl) fun C hw hC => ?_
  refine runO hC tabOk 60 ?_
  simp [go_sem]
  repeat ((first | refine condT rfl ?_ | refine condF rfl ?_ | refine skD hC rfl rfl rfl ?_); refine runO hC tabOk 60 ?_; simp [go_sem])
  refine call hC [] (by kernel_rfl) rfl rfl rfl rfl rfl fun m1 g1 p1 e1 => ⟨_, rvalid174 f t _, fun v1 u1 q1 s1 hv1 => ?_⟩
  subst hv1
  cases h1 : sOk f t with
  | false =>
    refine runO hC tabOk 60 ?_
    simp [go_sem]
    repeat ((first | refine condT rfl ?_ | refine condF rfl ?_ | refine skD hC rfl rfl rfl ?_); refine runO hC tabOk 60 ?_; simp [go_sem])
    refine ret hC tabOk (fun _ => 1) rfl rfl fun m gf hl ex => ?_
    simp [retv, SV.val, SC.val, vals, spv, cutN, h1]
  | true =>
  refine runO hC tabOk 60 ?_
  simp [go_sem]
  repeat ((first | refine condT rfl ?_ | refine condF rfl ?_ | refine skD hC rfl rfl rfl ?_); refine runO hC tabOk 60 ?_; simp [go_sem])
  refine call hC [] (by kernel_rfl) rfl rfl rfl rfl rfl fun m2 g2 p2 e2 => ⟨_, rtime242 life _, fun v2 u2 q2 s2 hv2 => ?_⟩
  subst hv2
  cases h2 : tOk life with
  | false =>
    refine runO hC tabOk 60 ?_
    simp [go_sem]
    repeat ((first | refine condT rfl ?_ | refine condF rfl ?_ | refine skD hC rfl rfl rfl ?_); refine runO hC tabOk 60 ?_; simp [go_sem])
    refine ret hC tabOk (fun _ => 1) rfl rfl fun m gf hl ex => ?_
    simp [retv, SV.val, SC.val, vals, spv, cutN, h1, h2]
  | true =>
  have k1 := sok_iff.1 h1
  have k2 := tok_iff.1 h2
  have w1 : IntKind.i64.wrap (t - f) = t - f := by rw [IntKind.wrap_i64]; omega
  have w2 : IntKind.i64.wrap (f + life) = f + life := by rw [IntKind.wrap_i64]; omega
  refine runO hC tabOk 60 ?_
  simp [go_sem, w1]
  repeat ((first | refine condT rfl ?_ | refine condF rfl ?_ | refine skD hC rfl rfl rfl ?_); refine runO hC tabOk 60 ?_; simp [go_sem, w1])
  try (refine runO hC tabOk 60 ?_; simp [go_sem, w1]; repeat ((first | refine condT rfl ?_ | refine condF rfl ?_ | refine skD hC rfl rfl rfl ?_); refine runO hC tabOk 60 ?_; simp [go_sem, w1]))
  refine sg_cond rfl (fun h3 => ?_) (fun h3 => ?_)
  · simp at h3
    have e1 : min t (f + life) = f + life := by omega
    refine runO hC tabOk 60 ?_
    simp [go_sem, w2]
    repeat ((first | refine condT rfl ?_ | refine condF rfl ?_ | refine skD hC rfl rfl rfl ?_); refine runO hC tabOk 60 ?_; simp [go_sem, w2])
    try (refine runO hC tabOk 60 ?_; simp [go_sem, w2]; repeat ((first | refine condT rfl ?_ | refine condF rfl ?_ | refine skD hC rfl rfl rfl ?_); refine runO hC tabOk 60 ?_; simp [go_sem, w2]))
    refine sg_cond rfl (fun h4 => ?_) (fun h4 => ?_)
    · simp [w2] at h4
      refine runO hC tabOk 60 ?_
      simp [go_sem]
      repeat ((first | refine condT rfl ?_ | refine condF rfl ?_ | refine skD hC rfl rfl rfl ?_); refine runO hC tabOk 60 ?_; simp [go_sem])
      refine ret hC tabOk (fun _ => 1) rfl rfl fun m gf hl ex => ?_
      have : f + life ≤ f := by omega
      simp [retv, SV.val, SC.val, vals, spv, cutN, leftN, h1, h2, e1, this]
    · simp [w2] at h4
      refine runO hC tabOk 60 ?_
      simp [go_sem]
      repeat ((first | refine condT rfl ?_ | refine condF rfl ?_ | refine skD hC rfl rfl rfl ?_); refine runO hC tabOk 60 ?_; simp [go_sem])
      refine ret hC tabOk (fun _ => 1) rfl rfl fun m gf hl ex => ?_
      have : ¬ f + life ≤ f := by omega
      simp [retv, SV.val, SC.val, vals, spv, cutN, leftN, h1, h2, e1, this]
  · simp [w1] at h3
    have e1 : min t (f + life) = t := by omega
    refine runO hC tabOk 60 ?_
    simp [go_sem]
    repeat ((first | refine condT rfl ?_ | refine condF rfl ?_ | refine skD hC rfl rfl rfl ?_); refine runO hC tabOk 60 ?_; simp [go_sem])
    refine sg_cond rfl (fun h4 => ?_) (fun h4 => ?_)
    · simp at h4
      refine runO hC tabOk 60 ?_
      simp [go_sem]
      repeat ((first | refine condT rfl ?_ | refine condF rfl ?_ | refine skD hC rfl rfl rfl ?_); refine runO hC tabOk 60 ?_; simp [go_sem])
      refine ret hC tabOk (fun _ => 1) rfl rfl fun m gf hl ex => ?_
      simp [retv, SV.val, SC.val, vals, spv, cutN, leftN, h1, h2, e1, h4]
    · simp at h4
      have h4' := Int.not_le.2 h4
      refine runO hC tabOk 60 ?_
      simp [go_sem]
      repeat ((first | refine condT rfl ?_ | refine condF rfl ?_ | refine skD hC rfl rfl rfl ?_); refine runO hC tabOk 60 ?_; simp [go_sem])
      refine ret hC tabOk (fun _ => 1) rfl rfl fun m gf hl ex => ?_
      simp [retv, SV.val, SC.val, vals, spv, cutN, leftN, h1, h2, e1, h4']

theorem rcheck170 (f t at_ skew : Int) (g : G) : Ok Tryz.prog 170 [spv (f, t), .int .i64 at_, .int .i64 skew] g [] (fun v _ => v = .int .i64 (checkN (f, t) at_ skew)) := by
  unfold spv
  refine fbegin Tryz.func170 rfl Tryz.ntmps170 (Nat.le_of_ble_eq_true rfl) fun C hw hC => ?_
  refine runO hC tabOk 60 ?_
  simp [go_sem]
  repeat ((first | refine condT rfl ?_ | refine condF rfl ?_ | refine skD hC rfl rfl rfl ?_); refine runO hC tabOk 60 ?_; simp [go_sem])
  refine call hC [] (by kernel_rfl) rfl rfl rfl rfl rfl fun m1 g1 p1 e1 => ⟨_, rvalid174 f t _, fun v1 u1 q1 s1 hv1 => ?_⟩
  subst hv1
  cases h1 : sOk f t with
  | false =>
    refine runO hC tabOk 60 ?_
    simp [go_sem]
    repeat ((first | refine condT rfl ?_ | refine condF rfl ?_ | refine skD hC rfl rfl rfl ?_); refine runO hC tabOk 60 ?_; simp [go_sem])
    refine ret hC tabOk (fun _ => 1) rfl rfl fun m gf hl ex => ?_
    simp [retv, SV.val, SC.val, vals, checkN, h1]
  | true =>
  refine runO hC tabOk 60 ?_
  simp [go_sem]
  repeat ((first | refine condT rfl ?_ | refine condF rfl ?_ | refine skD hC rfl rfl rfl ?_); refine runO hC tabOk 60 ?_; simp [go_sem])
  refine call hC [] (by kernel_rfl) rfl rfl rfl rfl rfl fun m2 g2 p2 e2 => ⟨_, rtime242 at_ _, fun v2 u2 q2 s2 hv2 => ?_⟩
  subst hv2
  cases h2 : tOk at_ with
  | false =>
    refine runO hC tabOk 60 ?_
    simp [go_sem]
    repeat ((first | refine condT rfl ?_ | refine condF rfl ?_ | refine skD hC rfl rfl rfl ?_); refine runO hC tabOk 60 ?_; simp [go_sem])
    refine ret hC tabOk (fun _ => 1) rfl rfl fun m gf hl ex => ?_
    simp [retv, SV.val, SC.val, vals, checkN, h1, h2]
  | true =>
  refine runO hC tabOk 60 ?_
  simp [go_sem]
  repeat ((first | refine condT rfl ?_ | refine condF rfl ?_ | refine skD hC rfl rfl rfl ?_); refine runO hC tabOk 60 ?_; simp [go_sem])
  refine call hC [] (by kernel_rfl) rfl rfl rfl rfl rfl fun m3 g3 p3 e3 => ⟨_, rtime242 skew _, fun v3 u3 q3 s3 hv3 => ?_⟩
  subst hv3
  cases h3 : tOk skew with
  | false =>
    refine runO hC tabOk 60 ?_
    simp [go_sem]
    repeat ((first | refine condT rfl ?_ | refine condF rfl ?_ | refine skD hC rfl rfl rfl ?_); refine runO hC tabOk 60 ?_; simp [go_sem])
    refine ret hC tabOk (fun _ => 1) rfl rfl fun m gf hl ex => ?_
    simp [retv, SV.val, SC.val, vals, checkN, h1, h2, h3]
  | true =>
  have k1 := sok_iff.1 h1
  have k2 := tok_iff.1 h2
  have k3 := tok_iff.1 h3
  have w1 : IntKind.i64.wrap (at_ + skew) = at_ + skew := by rw [IntKind.wrap_i64]; omega
  have w2 : IntKind.i64.wrap (at_ - skew) = at_ - skew := by rw [IntKind.wrap_i64]; omega
  refine runO hC tabOk 60 ?_
  simp [go_sem]
  repeat ((first | refine condT rfl ?_ | refine condF rfl ?_ | refine skD hC rfl rfl rfl ?_); refine runO hC tabOk 60 ?_; simp [go_sem])
  refine sg_cond rfl (fun h4 => ?_) (fun h4 => ?_)
  · simp [w1] at h4
    refine runO hC tabOk 60 ?_
    simp [go_sem]
    repeat ((first | refine condT rfl ?_ | refine condF rfl ?_ | refine skD hC rfl rfl rfl ?_); refine runO hC tabOk 60 ?_; simp [go_sem])
    refine ret hC tabOk (fun _ => 1) rfl rfl fun m gf hl ex => ?_
    simp [retv, SV.val, SC.val, vals, checkN, h1, h2, h3, h4]
  · simp [w1] at h4
    have h5 : ¬ at_ + skew < f := by omega
    refine runO hC tabOk 60 ?_
    simp [go_sem]
    repeat ((first | refine condT rfl ?_ | refine condF rfl ?_ | refine skD hC rfl rfl rfl ?_); refine runO hC tabOk 60 ?_; simp [go_sem])
    refine sg_cond rfl (fun h6 => ?_) (fun h6 => ?_)
    · simp [w2] at h6
      refine runO hC tabOk 60 ?_
      simp [go_sem]
      repeat ((first | refine condT rfl ?_ | refine condF rfl ?_ | refine skD hC rfl rfl rfl ?_); refine runO hC tabOk 60 ?_; simp [go_sem])
      refine ret hC tabOk (fun _ => 1) rfl rfl fun m gf hl ex => ?_
      simp [retv, SV.val, SC.val, vals, checkN, h1, h2, h3, h5, h6]
    · simp [w2] at h6
      have h7 : ¬ t ≤ at_ - skew := by omega
      refine runO hC tabOk 60 ?_
      simp [go_sem]
      repeat ((first | refine condT rfl ?_ | refine condF rfl ?_ | refine skD hC rfl rfl rfl ?_); refine runO hC tabOk 60 ?_; simp [go_sem])
      refine ret hC tabOk (fun _ => 1) rfl rfl fun m gf hl ex => ?_
      simp [retv, SV.val, SC.val, vals, checkN, h1, h2, h3, h5, h7]
end Go.Proofs.YtobhfopgoidniaaGreat
