/- A run's steps in short words. append to a row that is full, or to none; a slice with its end and its room. The store: who may ask on behalf of whom. Evidence, taken. Who asks on behalf of a user: step by step. -/
import Derived.Test.YtobhfopgoidniaaGreatTB
import Derived.Test.YtobhfopgoidniaaGreatED
import Derived.Test.YtobhfopgoidniaaGreatJA
import Derived.Test.YtobhfopgoidniaaGreatKC
set_option linter.all false
set_option linter.unusedVariables false
set_option linter.unusedSimpArgs false

/- A run's steps in short words. -/
namespace Go.Eng
open Go
/-- A test that is decided, an operation that its guard leaves out. -/
def nx1 (n : Nat) : Cfg → Option Cfg
  | ⟨.code (.cond c x y) :: k, s⟩ => match evg [] s.env c with
    | some (.c (.v (.bool true))) => some ⟨.code x :: k, s⟩
    | some (.c (.v (.bool false))) => some ⟨.code y :: k, s⟩
    | _ => none
  | ⟨.opsD all ((i, 1) :: p) st fb fl none :: k, s⟩ => match all[i]? with
    | some o => match gOff all s o && okDst n s o.dst with
      | true => some ⟨.opsD all p st fb fl none :: k, putE s o.dst (.c (.v undef))⟩
      | false => none
    | none => none
  | _ => none

theorem nx {C : Ctx} {P : Program} {fn : Func} {n : Nat} {g0 g : G} {L0 : List Nat} {Post : Value → G → Prop} (hC : Fnc C P fn n g0 L0 Post) {c c' : Cfg} (h : nx1 n c = some c') (H : Sg C g c') : Sg C g c := by
  unfold nx1 at h
  split at h
  · split at h
    · rename_i e
      obtain rfl := Option.some.inj h
      exact condT e H
    · rename_i e
      obtain rfl := Option.some.inj h
      exact condF e H
    · cases h
  · split at h
    · rename_i e
      split at h
      · rename_i e2
        obtain rfl := Option.some.inj h
        rw [Bool.and_eq_true] at e2
        exact skD hC e e2.1 e2.2 H
      · cases h
    · cases h
  · cases h
end Go.Eng

namespace Go.Proofs.YtobhfopgoidniaaGreat
open Go Go.Eng
section
variable {C : Ctx} {fn : Func} {n : Nat} {g0 g : G} {L0 : List Nat} {Post : Value → G → Prop} {c c' : Cfg}
theorem rn (hC : Fnc C Tryz.prog fn n g0 L0 Post) (h : Sg C g (exO 60 tab n c)) : Sg C g c := runO hC tabOk 60 h
theorem nr (hC : Fnc C Tryz.prog fn n g0 L0 Post) (h : nx1 n c = some c') (H : Sg C g (exO 60 tab n c')) : Sg C g c := nx hC h (rn hC H)
end
end Go.Proofs.YtobhfopgoidniaaGreat

/- append to a row that is full, or to none; a slice with its end and its room. -/
namespace Go.Eng
open Go
section
variable {C : Ctx} {P : Program} {fn : Func} {n : Nat} {g0 g : G} {L0 : List Nat} {Post : Value → G → Prop} {s : St} {T : Tab} {a : Act} {w : World} {m : List Nat}

/-- A slice up to a place, with room up to a place. -/
theorem vo_slfull (hC : Fnc C P fn n g0 L0 Post) (hT : TabOk P T) {o : Oper} {t : Nat} {x y z : Operand} {ad : Option Addr} {len cap : Nat} {i : Nat} {d de : TD} (ho : o.op = .slice t x none (some y) (some z)) (hx : evg [] s.env x = some (.c (.v (.slice ad len cap))))
    (hy : evg [] s.env y = some (.c (.v (.int .i64 i)))) (hz : evg [] s.env z = some (.c (.v (.int .i64 i)))) (hd : T t = some d) (hcl : d.cl = 1) (hde : T d.el = some de) (hl : i ≤ cap) (had : ∀ b, ad = some b → b.add 0 = b) :
    Vo C g s o (.slice ad i i) [] := by
  intro a w m hs w2 _
  obtain ⟨_, u, _, hu, _, _, _, _, _, _, _, hsl, _⟩ := hT.ok t d hd
  obtain ⟨ie, _, hie, _, hsz, _⟩ := hT.ok d.el de hde
  have e1 : a.eval x = .slice ad len cap := (hs.ev hx).1
  have e2 : a.eval y = .int .i64 i := (hs.ev hy).1
  have e2' : a.eval z = .int .i64 i := (hs.ev hz).1
  rw [hsl hcl] at hu
  have e3 : ∀ k : Nat, (if k = 0 then ad else ad.map (·.add 0)) = ad := by
    intro k
    split
    · rfl
    · cases ad with
      | none => rfl
      | some b => simp [had b rfl]
  simp only [execOp, ho, e1, e2, e2', Option.map_some, Option.map_none]
  rw [hC.P]
  simp [Instr.sliceAt, Instr.slice, Instr.sliceBounds, Instr.sliceBound, asIntOf, run_underlying hu, sizeOf, rti hie, hl, e3]

theorem run_appG {t ty e : Nat} {i : TypeInfo} {z : Value} {g : G} (hwf : WF g) (ht : P.underlying t = some (.slice e)) (hi : P.info? e = some i) (hz : i.zero = some z) (hzs : z.cells.size = i.size) (hsz : 0 < i.size)
    {l : Nat} {a1 : Option Addr} {n : Nat} {xs : List Value} (hr1 : Rd g a1 xs) (hl1 : xs.length = n * i.size) {a2 : Option Addr} {n2 c2 : Nat} {news : List Value}
    (hr : Rd g a2 news) (hl2 : news.length = n2 * i.size) (h1 : ∀ u ∈ news, u.oneCell' = true) (hn2 : 0 < n2) (hm : n + n2 ≤ maxLen) (hby : (n + n2) * i.bytes ≤ 140737488355328) {base : Nat} (hb : base ≤ g.w.heap.size) :
    ∃ v' g', (Builtin.append_ #[t, t] ty #[.slice a1 n n, .slice a2 n2 c2]).run P g.w = .ok v' g'.w ∧ Step [l] g g' ∧ OwnRow g' base l e i.size v' (n + n2) (xs ++ news) ∧ (∀ k, k < g.w.heap.size → k < base → g'.w.heap[k]? = g.w.heap[k]?) := by
  rcases Nat.eq_zero_or_pos n with rfl | hn
  · obtain rfl : xs = [] := List.eq_nil_of_length_eq_zero (by simpa using hl1)
    exact run_app hwf ht hi hz hzs hsz hb (l := l) (xs := []) (n := 0) ⟨by simp, .inl ⟨a1, rfl, rfl⟩⟩ hr hl2 h1 hm hby
  · rcases hr1 with rfl | ⟨b1, off1, rfl, hr1⟩
    · simp only [List.length_nil] at hl1
      rcases Nat.mul_eq_zero.1 hl1.symm with h | h <;> omega
    · obtain ⟨v', g', q1, q2, q3⟩ := run_appF (P := P) (ty := ty) (l := l) (c2 := c2) hwf ht hi hz hzs hsz hb hr1 hl1 hr hl2 hn2 hm hby
      exact ⟨v', g', q1, step_mono q2 (by simp), q3, fun k hk _ => q2.keep k hk (by simp)⟩

theorem appGD (hC : Fnc C P fn n g0 L0 Post) (l : Nat) {o : Oper} {ii : Nat} {all : Array Oper} {p : List (Nat × Nat)} {st fb fl : List Nat} {vt : Option (Nat × Nat × Nat)} {k : List KI} {x1 x2 : Operand} {v1 v2 : SV} {t : Nat} {d de : TD} (B : Nat) (hT : TabOk P T) (hl : (l != 0 && l != 1) = true)
    (hii : all[ii]? = some o)
    (ho : o.op = .call ⟨.builtin .append, #[x1, x2], #[t, t]⟩) (hx1 : evg [] s.env x1 = some v1) (hx2 : evg [] s.env x2 = some v2)
    (hdt : T t = some d) (hcl : (d.cl == 1) = true) (hde : T d.el = some de) (hB : ((P.info? d.el).map (·.bytes) == some B) = true) (hsz : Nat.blt 0 de.size = true) (hw : gOn all s o = true) (hd : okDst n s o.dst = true)
    (hfl : fl.all (fun x => x != l && x != 1) = true) (hvt : vtOk all vt o = true)
    (H : ∀ m g1, Prv [1] g g1 → Expo s m (fun _ => 1) g1 → ∃ n a1 xs n2 news a2 c2, v1.val m = .slice a1 n n ∧ Rd g1 a1 xs ∧ xs.length = n * de.size ∧ v2.val m = .slice a2 n2 c2 ∧ Rd g1 a2 news ∧ news.length = n2 * de.size ∧ (∀ u ∈ news, u.oneCell' = true) ∧ 0 < n2 ∧ n + n2 ≤ maxLen ∧ (n + n2) * B ≤ 140737488355328 ∧
      ∀ v g2 g3, Prv [l] g1 g2 → Prv [1] g2 g3 → OwnRow g3 g0.w.heap.size l d.el de.size v (n + n2) (xs ++ news) → Sg C g3 ⟨.opsD all p st fb fl vt :: k, putE (nameAll s m) o.dst (ofV v)⟩) :
    Sg C g ⟨.opsD all ((ii, 1) :: p) st fb fl vt :: k, s⟩ := by
  simp only [Bool.and_eq_true, bne_iff_ne, ne_eq] at hl
  obtain ⟨_, u, _, ht, _, _, _, _, _, _, _, hsl, _⟩ := hT.ok t d hdt
  obtain ⟨i, ue, hi, _, his, _, hz, hzl, hone, _⟩ := hT.ok d.el de hde
  rw [hsl (eq_of_beq hcl)] at ht
  have hbi : i.bytes = B := by
    rw [hi] at hB
    simpa using hB
  have hzs : (bif de.agg then Value.agg de.zero.toArray else de.zero.headD undef).cells.size = i.size := by
    rw [his]
    cases hag : de.agg
    · obtain ⟨q1, q2⟩ := hone hag
      simp only [cond_false]
      rw [q2, q1]; rfl
    · simpa [Value.cells] using hzl
  have hsz' : 0 < i.size := by rw [his]; simpa using hsz
  refine stpFD hC [l] 1 (by simp) (by simp; exact fun h => hl.2 h.symm) (by simp; exact fun h => hl.1 h.symm) (by simp; exact fun h => hl.2 h.symm) hii hw hd (fun x hx => by have := List.all_eq_true.1 hfl x hx; simpa using this) hvt fun a w m g1 hs hgw hwf p1 e1 hlow hsz1 => ?_
  obtain ⟨n, a1, xs, n2, news, a2, c2, q0, q1, q1', q2, q3, q4, q5, q5', q6, q7, q8⟩ := H m g1 p1 e1
  obtain ⟨v', g', r1, r2, r3, r4⟩ := run_appG (P := P) (ty := o.type) (l := l) (xs := xs) (n := n) (c2 := c2) hwf ht hi hz hzs hsz' q1 (by rw [his]; exact q1') q3 (by rw [his]; exact q4) q5 q5' q6 (by rw [hbi]; exact q7) hsz1
  rw [his] at r3
  have hrun : (execOp a.eval o).run C.P g1.w = .ok (.value v') g'.w := by
    have ev1 := (hs.ev hx1).1
    have ev2 := (hs.ev hx2).1
    rw [q0] at ev1
    rw [q2] at ev2
    simp only [execOp, ho, resolve, invoke, builtin, Sem.run_bind, Sem.run_pure, Result.andThen_ok, List.map_toArray, List.map_cons, List.map_nil, ev1, ev2]
    rw [hC.P, r1]
    rfl
  refine ⟨fun v g2 => OwnRow g2 g0.w.heap.size l d.el de.size v (n + n2) (xs ++ news) ∧ (∀ k, k < g1.w.heap.size → k < g0.w.heap.size → g2.w.heap[k]? = g1.w.heap[k]?), does_val hrun r2 ⟨r3, r4⟩, fun v g2 st hp k hk hkl => ?_, fun v g2 g3 p2 st hp p3 _ => q8 v g2 g3 p2 p3 (hp.1.ks p3.ks (by simp; exact hl.2))⟩
  exact hp.2 k (Nat.lt_of_lt_of_le hk hsz1) hk
end
end Go.Eng

/- The store: who may ask on behalf of whom. -/
namespace Go.Proofs.YtobhfopgoidniaaGreat
open Go Go.Eng

/-- Not among the first. -/
def NotN (l : List ByteArray) (s : ByteArray) (i : Nat) : Prop := s ∉ l.take i
theorem NotN.zero (l : List ByteArray) (s : ByteArray) : NotN l s 0 := by simp [NotN]
theorem NotN.succ {l : List ByteArray} {s : ByteArray} {i : Nat} (h : NotN l s i) (hi : i < l.length) (hn : s ≠ l[i]) : NotN l s (i + 1) := by
  unfold NotN at *
  rw [List.take_succ_eq_append_getElem hi]
  simp only [List.mem_append, not_or]; exact ⟨h, by simpa using hn⟩

theorem index246 (l : List ByteArray) (h : Hd) (s : ByteArray) (g : G) (o : Nat) (ho : o ≠ 1) (k : StrsOk g o l h) : Ok Tryz.prog 246 [.slice h.a l.length h.cap, .string s] g [] (fun v _ => ∃ i : Int, v = .int .i64 i ∧ decide (0 ≤ i) = decide (s ∈ l)) := by
  have hl : l.length ≤ 9223372036854775807 := Nat.le_trans k.one.len k.one.cap
  refine fbegin Tryz.func246 rfl Tryz.ntmps246 (Nat.le_of_ble_eq_true rfl) fun C hw hC => ?_
  refine rn hC ?_
  simp [go_sem]
  repeat (refine nr hC rfl ?_; simp [go_sem])
  refine small (fun _ => 1) rfl fun m0 gL p0 e0 => ⟨⟨(fun (x : Nat × G) => [(8, .c (.v (.int .i64 x.1))), (7, .c (.v (.int .i64 l.length))), (0, .c (.v (.slice h.a l.length h.cap))), (1, .c (.v (.string s)))]) ((0, gL)), [], (fun _ => []) ((0, gL)), [], 0⟩, ⟨by simp [go_sem], by simp [go_sem], rfl, by simp [go_sem], by simp [go_sem], ⟨_, rfl⟩⟩, by simp, ?_⟩
  refine loop (ι := Nat × G) (fun x => x.1 ≤ l.length ∧ NotN l s x.1 ∧ Keeps [1] g x.2) (fun x => x.2)
    (fun x => ⟨(fun (x : Nat × G) => [(8, .c (.v (.int .i64 x.1))), (7, .c (.v (.int .i64 l.length))), (0, .c (.v (.slice h.a l.length h.cap))), (1, .c (.v (.string s)))]) x, [], (fun _ => []) x, [], 0⟩) (fun x => l.length - x.1) (fun ⟨i, g'⟩ ⟨hi, hc, hk⟩ => ?_) ((0, gL)) (⟨Nat.zero_le _, NotN.zero l s, p0.ks⟩)
  dsimp only at hi hc hk ⊢
  refine rn hC ?_
  simp [go_sem]
  repeat (refine nr hC rfl ?_; simp [go_sem])
  refine sg_cond rfl (fun h1 => ?_) (fun h1 => ?_)
  · simp at h1
    obtain ⟨b2, off, ea, hcs⟩ := (k.ks hk (by simp [ho])).one.row.get (List.getElem?_eq_getElem h1)
    rw [ea]
    refine rn hC ?_
    simp [go_sem]
    repeat (refine nr hC rfl ?_; simp [go_sem])
    refine vo hC (vo_index hC tabOk rfl rfl rfl rfl rfl rfl (by omega) (by omega)) rfl rfl rfl ?_
    refine rn hC ?_
    simp [go_sem]
    repeat (refine nr hC rfl ?_; simp [go_sem])
    refine vo hC (vo_load1 hC tabOk hcs rfl rfl rfl rfl) (nc1 ho) rfl rfl ?_
    by_cases hn : s = l[i]
    · have d1 : decide (s = l[i]) = true := by simp [← hn]
      refine rn hC ?_
      simp [go_sem, d1]
      repeat (refine nr hC rfl ?_; simp [go_sem, d1])
      try (refine rn hC ?_; simp [go_sem, d1]; repeat (refine nr hC rfl ?_; simp [go_sem, d1]))
      refine ret hC tabOk (fun _ => 1) rfl rfl fun m gf hl ex => ?_
      refine ⟨i, rfl, ?_⟩
      have e1 : decide (0 ≤ (i : Int)) = true := by simp
      have e2 : decide (s ∈ l) = true := by rw [decide_eq_true_iff, hn]; exact List.getElem_mem h1
      rw [e1, e2]
    · have d1 : decide (s = l[i]) = false := by simp [hn]
      refine rn hC ?_
      simp [go_sem, d1]
      repeat (refine nr hC rfl ?_; simp [go_sem, d1])
      try (refine rn hC ?_; simp [go_sem, d1]; repeat (refine nr hC rfl ?_; simp [go_sem, d1]))
      refine again (fun _ => 1) fun m8 g8 p8 e8 => ⟨(i + 1, g8), ?_, ?_, rfl, ⟨by simp [go_sem], by simp [go_sem, ea, wrap_inc (show i + 1 ≤ 9223372036854775807 by omega)], rfl, by simp [go_sem], by simp [go_sem], ⟨_, rfl⟩⟩, by simp [go_sem]⟩
      · exact ⟨h1, hc.succ h1 hn, hk.then (by simp)⟩
      · dsimp only; omega
  · simp at h1
    refine rn hC ?_
    simp [go_sem]
    repeat (refine nr hC rfl ?_; simp [go_sem])
    refine ret hC tabOk (fun _ => 1) rfl rfl fun m gf hl ex => ?_
    have e : i = l.length := by omega
    subst e
    unfold NotN at hc
    rw [List.take_length] at hc
    refine ⟨-1, rfl, ?_⟩
    simp [hc]

theorem contains185 (l : List ByteArray) (h : Hd) (s : ByteArray) (g : G) (o : Nat) (ho : o ≠ 1) (k : StrsOk g o l h) : Ok Tryz.prog 185 [.slice h.a l.length h.cap, .string s] g [] (fun v _ => v = .bool (decide (s ∈ l))) := by
  refine fbegin Tryz.func185 rfl Tryz.ntmps185 (Nat.le_of_ble_eq_true rfl) fun C hw hC => ?_
  refine rn hC ?_
  simp [go_sem]
  repeat (refine nr hC rfl ?_; simp [go_sem])
  refine call hC [] (by kernel_rfl) rfl rfl rfl rfl rfl fun m1 g1 p1 e1 => ⟨_, index246 l h s _ o ho (k.ks Kp.ks (by simp [ho])), fun v1 u1 q1 s1 hv1 => ?_⟩
  obtain ⟨i, rfl, hi⟩ := hv1
  refine rn hC ?_
  simp [go_sem]
  repeat (refine nr hC rfl ?_; simp [go_sem])
  refine ret hC tabOk (fun _ => 1) rfl rfl fun m gf hl ex => ?_
  simp [retv, SV.val, SC.val, vals]
  simpa using hi

def alB (ps : List Pr) (a b : ByteArray) : Bool := match pfind ps a with
  | some p => decide (b ∈ p.al)
  | none => false
def acB (ps : List Pr) (a b : ByteArray) : Bool := match pfind ps b with
  | some q => decide (a ∈ q.ac)
  | none => false

/-- Whom a look finds. -/
theorem look_al {g : G} {n bs bm : Nat} {ptrs : List Nat} {ps : List Pr} {vs : Value} (ks : PolIs g n vs bs bm ptrs ps) (a b : ByteArray) :
    (∃ oa, (mget (ents ps ptrs) a).getD (.pointer none) = .pointer oa ∧ ((oa = none ∧ alB ps a b = false) ∨ ∃ bb p h, oa = some ⟨bb, 0, none⟩ ∧ Ob g (n + 2) bb 40 (pc p h) ∧ StrsOk g (n + 3) p.al h.al ∧ alB ps a b = decide (b ∈ p.al))) := by
  rcases mget_ents ps ptrs a ks.len with ⟨q1, q2⟩ | ⟨i, p', bb, q1, q2, q3, q4, q5⟩
  · exact ⟨none, by rw [q1]; rfl, .inl ⟨rfl, by unfold alB; rw [q2]⟩⟩
  · obtain ⟨h, h1, h2⟩ := ks.el i p' bb q1 q2
    exact ⟨_, by rw [q3]; rfl, .inr ⟨bb, p', h, rfl, h1, h2.al, by unfold alB; rw [q4]⟩⟩

theorem look_ac {g : G} {n bs bm : Nat} {ptrs : List Nat} {ps : List Pr} {vs : Value} (ks : PolIs g n vs bs bm ptrs ps) (a b : ByteArray) :
    (∃ oa, (mget (ents ps ptrs) b).getD (.pointer none) = .pointer oa ∧ ((oa = none ∧ acB ps a b = false) ∨ ∃ bb p h, oa = some ⟨bb, 0, none⟩ ∧ Ob g (n + 2) bb 40 (pc p h) ∧ StrsOk g (n + 3) p.ac h.ac ∧ acB ps a b = decide (a ∈ p.ac))) := by
  rcases mget_ents ps ptrs b ks.len with ⟨q1, q2⟩ | ⟨i, p', bb, q1, q2, q3, q4, q5⟩
  · exact ⟨none, by rw [q1]; rfl, .inl ⟨rfl, by unfold acB; rw [q2]⟩⟩
  · obtain ⟨h, h1, h2⟩ := ks.el i p' bb q1 q2
    exact ⟨_, by rw [q3]; rfl, .inr ⟨bb, p', h, rfl, h1, h2.ac, by unfold acB; rw [q4]⟩⟩

set_option maxRecDepth 20000 in
theorem may67 (n : Nat) (hn : 2 ≤ n) (hn9 : n + 3 < 99) (vs : Value) (bs bm : Nat) (ptrs : List Nat) (ps : List Pr) (a b : ByteArray) (g : G) (ks : PolIs g n vs bs bm ptrs ps) :
    Ok Tryz.prog 67 [vs, .string a, .string b] g [] (fun v _ => v = .tuple #[.bool (alB ps a b), .bool (acB ps a b)]) := by
  obtain ⟨oa, ea, hoa⟩ := look_al ks a b
  obtain ⟨ob, eb, hob⟩ := look_ac ks a b
  obtain ⟨rfl, kob, kmp, klen, knd, kel⟩ := ks
  have n1 : n ≠ 1 := by omega
  have n2 : n + 1 ≠ 1 := by omega
  have n3 : n + 2 ≠ 1 := by omega
  have n4 : n + 3 ≠ 1 := by omega
  refine fbegin Tryz.func67 rfl Tryz.ntmps67 (Nat.le_of_ble_eq_true rfl) fun C hw hC => ?_
  refine rn hC ?_
  simp [go_sem]
  repeat (refine nr hC rfl ?_; simp [go_sem])
  refine draw hC [(0, 0), (1, 0), (2, 0), (3, 0), (4, 0), (5, 0), (6, 0), (7, 0), (8, 0), (9, 0), (10, 0), (11, 0), (12, 0)] [13] mix (by kernel_rfl) ?_
  refine rn hC ?_
  simp [go_sem]
  repeat (refine nr hC rfl ?_; simp [go_sem])
  refine voD hC rfl (vo_load1 hC tabOk kob.all rfl rfl rfl rfl) (nc1 n1) rfl rfl rfl ?_
  refine rn hC ?_
  simp [go_sem]
  repeat (refine nr hC rfl ?_; simp [go_sem])
  refine voD hC rfl (vo_look hC tabOk kmp rfl rfl rfl Tryz.underlying186 Tryz.underlying9 rfl rfl ea) (nc1 n2) rfl rfl rfl ?_
  refine rn hC ?_
  simp [go_sem]
  repeat (refine nr hC rfl ?_; simp [go_sem])
  refine voD hC rfl (vo_load1 hC tabOk kob.all rfl rfl rfl rfl) (nc1 n1) rfl rfl rfl ?_
  refine rn hC ?_
  simp [go_sem]
  repeat (refine nr hC rfl ?_; simp [go_sem])
  refine voD hC rfl (vo_look hC tabOk kmp rfl rfl rfl Tryz.underlying186 Tryz.underlying9 rfl rfl eb) (nc1 n2) rfl rfl rfl ?_
  refine rn hC ?_
  simp [go_sem]
  repeat (refine nr hC rfl ?_; simp [go_sem])
  rcases hoa with ⟨rfl, eA⟩ | ⟨b1, p1', h1, rfl, k1, k2, eA⟩
  · refine vo hC (vo_bin hC rfl rfl rfl (run_ptrnnil Tryz.prog Tryz.underlying185 _ _ _)) rfl rfl rfl ?_
    refine rn hC ?_
    simp [go_sem]
    repeat (refine nr hC rfl ?_; simp [go_sem])
    rcases hob with ⟨rfl, eB⟩ | ⟨b2, p2', h2, rfl, k3, k4, eB⟩
    · refine vo hC (vo_bin hC rfl rfl rfl (run_ptrnnil Tryz.prog Tryz.underlying185 _ _ _)) rfl rfl rfl ?_
      refine rn hC ?_
      simp [go_sem]
      repeat (refine nr hC rfl ?_; simp [go_sem])
      refine ret hC tabOk (fun _ => 1) rfl rfl fun m gf hl ex => ?_
      rw [eA, eB]
      rfl
    · refine vo hC (vo_bin hC rfl rfl rfl (run_ptrnnil Tryz.prog Tryz.underlying185 _ _ _)) rfl rfl rfl ?_
      refine rn hC ?_
      simp [go_sem]
      repeat (refine nr hC rfl ?_; simp [go_sem])
      refine vo hC (vo_load1 hC tabOk (k3.all.one 5 rfl) rfl rfl rfl rfl) (nc1 n3) rfl rfl ?_
      refine rn hC ?_
      simp [go_sem]
      repeat (refine nr hC rfl ?_; simp [go_sem])
      refine call hC [] (by kernel_rfl) rfl rfl rfl rfl rfl fun m3 g3 p3 e3 => ⟨_, contains185 p2'.ac h2.ac a _ (n + 3) n4 (k4.ks Kp.ks (by simp)), fun v3 u3 q3 s3 hv3 => ?_⟩
      subst hv3
      refine rn hC ?_
      simp [go_sem]
      repeat (refine nr hC rfl ?_; simp [go_sem])
      refine ret hC tabOk (fun _ => 1) rfl rfl fun m gf hl ex => ?_
      rw [eA, eB]
      rfl
  · refine vo hC (vo_bin hC rfl rfl rfl (run_ptrnnil Tryz.prog Tryz.underlying185 _ _ _)) rfl rfl rfl ?_
    refine rn hC ?_
    simp [go_sem]
    repeat (refine nr hC rfl ?_; simp [go_sem])
    refine vo hC (vo_load1 hC tabOk (k1.all.one 4 rfl) rfl rfl rfl rfl) (nc1 n3) rfl rfl ?_
    refine rn hC ?_
    simp [go_sem]
    repeat (refine nr hC rfl ?_; simp [go_sem])
    refine call hC [] (by kernel_rfl) rfl rfl rfl rfl rfl fun m3 g3 p3 e3 => ⟨_, contains185 p1'.al h1.al b _ (n + 3) n4 (k2.ks Kp.ks (by simp)), fun v3 u3 q3 s3 hv3 => ?_⟩
    subst hv3
    refine rn hC ?_
    simp [go_sem]
    repeat (refine nr hC rfl ?_; simp [go_sem])
    rcases hob with ⟨rfl, eB⟩ | ⟨b2, p2', h2, rfl, k3, k4, eB⟩
    · refine vo hC (vo_bin hC rfl rfl rfl (run_ptrnnil Tryz.prog Tryz.underlying185 _ _ _)) rfl rfl rfl ?_
      refine rn hC ?_
      simp [go_sem]
      repeat (refine nr hC rfl ?_; simp [go_sem])
      refine ret hC tabOk (fun _ => 1) rfl rfl fun m gf hl ex => ?_
      rw [eA, eB]
      rfl
    · refine vo hC (vo_bin hC rfl rfl rfl (run_ptrnnil Tryz.prog Tryz.underlying185 _ _ _)) rfl rfl rfl ?_
      refine rn hC ?_
      simp [go_sem]
      repeat (refine nr hC rfl ?_; simp [go_sem])
      refine vo hC (vo_load1 hC tabOk ((k3.all.one 5 rfl).ks Kp.ks (by simp)) rfl rfl rfl rfl) (nc1 n3) rfl rfl ?_
      refine rn hC ?_
      simp [go_sem]
      repeat (refine nr hC rfl ?_; simp [go_sem])
      refine call hC [] (by kernel_rfl) rfl rfl rfl rfl rfl fun m4 g4 p4 e4 => ⟨_, contains185 p2'.ac h2.ac a _ (n + 3) n4 (k4.ks Kp.ks (by simp)), fun v4 u4 q4 s4 hv4 => ?_⟩
      subst hv4
      refine rn hC ?_
      simp [go_sem]
      repeat (refine nr hC rfl ?_; simp [go_sem])
      refine ret hC tabOk (fun _ => 1) rfl rfl fun m gf hl ex => ?_
      rw [eA, eB]
      rfl

/-- A hop: classic, an error. -/
def hopS (ps : List Pr) (a b : ByteArray) : Bool × Int := if b = sCentre ∨ (alB ps a b = false ∧ acB ps a b = false) then (false, 61) else (alB ps a b, 0)

theorem hop179 (vs : Value) (bs bm : Nat) (ptrs : List Nat) (ps : List Pr) (a b : ByteArray) (g : G) (ks : PolIs g 10 vs bs bm ptrs ps) :
    Ok Tryz.prog 179 [vs, .string a, .string b] g [] (fun v _ => v = .tuple #[.bool (hopS ps a b).1, .int .i64 (hopS ps a b).2]) := by
  have hH : hopS ps a b = if b = sCentre ∨ (alB ps a b = false ∧ acB ps a b = false) then (false, 61) else (alB ps a b, 0) := rfl
  obtain rfl := ks.v
  refine fbegin Tryz.func179 rfl Tryz.ntmps179 (Nat.le_of_ble_eq_true rfl) fun C hw hC => ?_
  refine rn hC ?_
  simp [go_sem]
  repeat (refine nr hC rfl ?_; simp [go_sem])
  refine call hC [] (by kernel_rfl) rfl rfl rfl rfl rfl fun m1 g1 p1 e1 => ⟨_, may67 10 (by simp) (by simp) (ptr bs) bs bm ptrs ps a b _ (ks.ks Kp.ks (by decide) (by decide) (by decide) (by decide)), fun v1 u1 q1 s1 hv1 => ?_⟩
  subst hv1
  generalize alB ps a b = x at hH ⊢
  generalize acB ps a b = y at hH ⊢
  by_cases h1 : b = sCentre
  · have d1 : decide (b = (⟨#[99, 101, 110, 116, 114, 101]⟩ : ByteArray)) = true := decide_eq_true h1
    rw [if_pos (Or.inl h1)] at hH
    refine rn hC ?_
    simp [go_sem, d1]
    repeat (refine nr hC rfl ?_; simp [go_sem, d1])
    try (refine rn hC ?_; simp [go_sem, d1]; repeat (refine nr hC rfl ?_; simp [go_sem, d1]))
    refine ret hC tabOk (fun _ => 1) rfl rfl fun m gf hl ex => ?_
    rw [hH]
    rfl
  · have d1 : decide (b = (⟨#[99, 101, 110, 116, 114, 101]⟩ : ByteArray)) = false := decide_eq_false h1
    simp only [h1, false_or] at hH
    cases x with
    | true =>
      simp only [Bool.true_eq_false, false_and, if_false] at hH
      refine rn hC ?_
      simp [go_sem, d1]
      repeat (refine nr hC rfl ?_; simp [go_sem, d1])
      try (refine rn hC ?_; simp [go_sem, d1]; repeat (refine nr hC rfl ?_; simp [go_sem, d1]))
      refine ret hC tabOk (fun _ => 1) rfl rfl fun m gf hl ex => ?_
      rw [hH]
      rfl
    | false =>
      cases y with
      | true =>
        simp at hH
        refine rn hC ?_
        simp [go_sem, d1]
        repeat (refine nr hC rfl ?_; simp [go_sem, d1])
        try (refine rn hC ?_; simp [go_sem, d1]; repeat (refine nr hC rfl ?_; simp [go_sem, d1]))
        refine ret hC tabOk (fun _ => 1) rfl rfl fun m gf hl ex => ?_
        rw [hH]
        rfl
      | false =>
        simp at hH
        refine rn hC ?_
        simp [go_sem, d1]
        repeat (refine nr hC rfl ?_; simp [go_sem, d1])
        try (refine rn hC ?_; simp [go_sem, d1]; repeat (refine nr hC rfl ?_; simp [go_sem, d1]))
        refine ret hC tabOk (fun _ => 1) rfl rfl fun m gf hl ex => ?_
        rw [hH]
        rfl
end Go.Proofs.YtobhfopgoidniaaGreat

/- Evidence, taken. -/
namespace Go.Proofs.YtobhfopgoidniaaGreat
open Go Go.Eng

def ptc (k : Tkt) (a : Au) (hk : TktH) (ha : AH) : List Value := [.string k.svc, .int .i64 k.fl, .int .i64 k.key.k, .string k.key.s, .int .i64 k.key.n, .slice hk.key.a k.key.l.length hk.key.cap, .string k.cl, .int .i64 k.fr, .int .i64 k.till, .int .i64 k.auth.k, .string k.auth.s, .int .i64 k.auth.n, .slice hk.auth.a k.auth.l.length hk.auth.cap,
  .string a.user, .slice ha.gr.a a.gr.length ha.gr.cap, .int .i64 a.org, .slice ha.tr.a a.tr.length ha.tr.cap, .string a.svc, .bool a.fwd, .int .i64 a.till]
attribute [go_sem] ptc
def PE (r : (Tkt × Au) × Int) (v : Value) (g : G) : Prop := ∃ (hk : TktH) (ha : AH), v = .tuple #[.agg (ptc r.1.1 r.1.2 hk ha).toArray, .int .i64 r.2] ∧ TktOk g r.1.1 hk ∧ AuOk g r.1.2 ha

/-- What is taken: a ticket for a service, and what it says. -/
def takeV (svc : ByteArray) (now : Int) (k : Tkt) (v : Au × Int) : (Tkt × Au) × Int :=
  if v.2 = 0 then (if v.1.svc = svc then (if v.1.fwd = true then (if now < v.1.till then ((k, v.1), 0) else ((Tkt0, Au0), 32)) else ((Tkt0, Au0), 60)) else ((Tkt0, Au0), 62)) else ((Tkt0, Au0), v.2)
def takeP (ps : List Pr) (now : Int) (svc : ByteArray) (t : T) : (Tkt × Au) × Int :=
  if (pkey ps svc).2 = 0 ∧ (pkey ps sCentre).2 = 0 then (if (serviceS t).2 = 0 ∧ (serviceS t).1 = svc then (if (openS t (pkey ps svc).1).2 = 0 then takeV svc now (openS t (pkey ps svc).1).1 (verifyS (openS t (pkey ps svc).1).1.auth (pkey ps svc).1 (pkey ps sCentre).1) else ((Tkt0, Au0), (openS t (pkey ps svc).1).2)) else ((Tkt0, Au0), 50)) else ((Tkt0, Au0), 40)

set_option maxHeartbeats 2000000 in
set_option maxRecDepth 20000 in
theorem take178 (b bp : Nat) (c : Cen) (now : Int) (svc : ByteArray) (t : T) (h : Hd) (g : G) (k : CenIs g b bp c) (kt : TOk g t h) (hsv : svc.size ≤ maxLen) (hsz : tw t ≤ 2513169434843) :
    Ok Tryz.prog 178 [ptr b, .int .i64 now, .string svc, tv t h] g [61, 62, 63] (fun v g' => PE (takeP c.ps now svc t) v g') := by
  have fail : ∀ (v : Value) (g' : G) (e : Int), v = .tuple #[.agg (ptc Tkt0 Au0 ⟨⟨none, 0⟩, ⟨none, 0⟩⟩ ⟨⟨none, 0⟩, ⟨none, 0⟩⟩).toArray, .int .i64 e] → takeP c.ps now svc t = ((Tkt0, Au0), e) → PE (takeP c.ps now svc t) v g' := by
    intro v g' e h1 h2
    rw [h2]
    exact ⟨⟨⟨none, 0⟩, ⟨none, 0⟩⟩, ⟨⟨none, 0⟩, ⟨none, 0⟩⟩, h1, Tkt0_ok _, Au0_ok _⟩
  have hP : takeP c.ps now svc t = if (pkey c.ps svc).2 = 0 ∧ (pkey c.ps sCentre).2 = 0 then (if (serviceS t).2 = 0 ∧ (serviceS t).1 = svc then (if (openS t (pkey c.ps svc).1).2 = 0 then takeV svc now (openS t (pkey c.ps svc).1).1 (verifyS (openS t (pkey c.ps svc).1).1.auth (pkey c.ps svc).1 (pkey c.ps sCentre).1) else ((Tkt0, Au0), (openS t (pkey c.ps svc).1).2)) else ((Tkt0, Au0), 50)) else ((Tkt0, Au0), 40) := rfl
  have kkey : ∀ g, TOk g (pkey c.ps svc).1 ⟨none, 0⟩ := fun g => (pkey_leaf c.ps svc g hsv).1
  have kcen : ∀ g, TOk g (pkey c.ps sCentre).1 ⟨none, 0⟩ := fun g => (pkey_leaf c.ps sCentre g (by decide)).1
  have k0 := k
  obtain ⟨⟨⟨bm, ptrs, kp⟩, kv⟩, _⟩ := k0
  refine fbegin Tryz.func178 rfl Tryz.ntmps178 (Nat.le_of_ble_eq_true rfl) fun C hw hC => ?_
  refine rn hC ?_
  simp [go_sem]
  repeat (refine nr hC rfl ?_; simp [go_sem])
  refine call hC [] (by kernel_rfl) rfl rfl rfl rfl rfl fun m1 g1 p1 e1 => ⟨_, policy134 b bp c _ (k.ks Kp.ks (by decide) (by decide) (by decide) (by decide) (by decide) (by decide) (by decide) (by decide) (by decide)), fun v1 u1 q1 s1 hv1 => ?_⟩
  subst hv1
  refine rn hC ?_
  simp [go_sem]
  repeat (refine nr hC rfl ?_; simp [go_sem])
  refine call hC [] (by kernel_rfl) rfl rfl rfl rfl rfl fun m2 g2 p2 e2 => ⟨_, pkey38 10 (by simp) (by simp) (ptr bp) bp bm ptrs c.ps svc _ (kp.ks Kp.ks (by decide) (by decide) (by decide) (by decide)), fun v2 u2 q2 s2 hv2 => ?_⟩
  subst hv2
  refine rn hC ?_
  simp [go_sem]
  repeat (refine nr hC rfl ?_; simp [go_sem])
  refine call hC [] (by kernel_rfl) rfl rfl rfl rfl rfl fun m3 g3 p3 e3 => ⟨_, key52 b bp c _ (k.ks Kp.ks (by decide) (by decide) (by decide) (by decide) (by decide) (by decide) (by decide) (by decide) (by decide)), fun v3 u3 q3 s3 hv3 => ?_⟩
  subst hv3
  by_cases h1 : (pkey c.ps svc).2 = 0
  rotate_left
  · refine rn hC ?_
    simp [go_sem, h1]
    repeat (refine nr hC rfl ?_; simp [go_sem, h1])
    try (refine rn hC ?_; simp [go_sem, h1]; repeat (refine nr hC rfl ?_; simp [go_sem, h1]))
    refine ret hC tabOk (fun _ => 1) rfl rfl fun m gf hl ex => ?_
    exact fail _ _ _ rfl (hP.trans (if_neg (fun q => h1 q.1)))
  by_cases h2 : (pkey c.ps sCentre).2 = 0
  rotate_left
  · refine rn hC ?_
    simp [go_sem, h1, h2]
    repeat (refine nr hC rfl ?_; simp [go_sem, h1, h2])
    try (refine rn hC ?_; simp [go_sem, h1, h2]; repeat (refine nr hC rfl ?_; simp [go_sem, h1, h2]))
    refine ret hC tabOk (fun _ => 1) rfl rfl fun m gf hl ex => ?_
    exact fail _ _ _ rfl (hP.trans (if_neg (fun q => h2 q.2)))
  replace hP := hP.trans (if_pos ⟨h1, h2⟩)
  generalize (pkey c.ps svc).1 = key at kkey hP
  generalize (pkey c.ps sCentre).1 = cen at kcen hP
  refine rn hC ?_
  simp [go_sem, h1, h2]
  repeat (refine nr hC rfl ?_; simp [go_sem, h1, h2])
  try (refine rn hC ?_; simp [go_sem, h1, h2]; repeat (refine nr hC rfl ?_; simp [go_sem, h1, h2]))
  refine call hC [] (by kernel_rfl) rfl rfl rfl rfl rfl fun m4 g4 p4 e4 => ⟨_, service150 t h _ kt.to, fun v4 u4 q4 s4 hv4 => ?_⟩
  obtain ⟨rfl, _⟩ := hv4
  by_cases h3 : (serviceS t).2 = 0
  rotate_left
  · refine rn hC ?_
    simp [go_sem, h3]
    repeat (refine nr hC rfl ?_; simp [go_sem, h3])
    try (refine rn hC ?_; simp [go_sem, h3]; repeat (refine nr hC rfl ?_; simp [go_sem, h3]))
    refine ret hC tabOk (fun _ => 1) rfl rfl fun m gf hl ex => ?_
    exact fail _ _ _ rfl (hP.trans (if_neg (fun q => h3 q.1)))
  by_cases h4 : (serviceS t).1 = svc
  rotate_left
  · have d4 : decide ((serviceS t).1 = svc) = false := by simp [h4]
    refine rn hC ?_
    simp [go_sem, h3, d4]
    repeat (refine nr hC rfl ?_; simp [go_sem, h3, d4])
    try (refine rn hC ?_; simp [go_sem, h3, d4]; repeat (refine nr hC rfl ?_; simp [go_sem, h3, d4]))
    refine ret hC tabOk (fun _ => 1) rfl rfl fun m gf hl ex => ?_
    exact fail _ _ _ rfl (hP.trans (if_neg (fun q => h4 q.2)))
  replace hP := hP.trans (if_pos ⟨h3, h4⟩)
  have d4 : decide ((serviceS t).1 = svc) = true := by simp [h4]
  have hos := open_size t key
  refine rn hC ?_
  simp [go_sem, h3, d4]
  repeat (refine nr hC rfl ?_; simp [go_sem, h3, d4])
  try (refine rn hC ?_; simp [go_sem, h3, d4]; repeat (refine nr hC rfl ?_; simp [go_sem, h3, d4]))
  refine call hC [61,62,63] (by kernel_rfl) rfl rfl rfl rfl rfl fun m5 g5 p5 e5 => ⟨_, topen53 t key h ⟨none, 0⟩ _ kt.to (kkey _) hsz, fun v5 u5 q5 s5 hv5 => ?_⟩
  obtain ⟨h5, rfl, k5⟩ := hv5
  generalize openS t key = ot at k5 hP hos
  by_cases h6 : ot.2 = 0
  rotate_left
  · refine rn hC ?_
    simp [go_sem, h6]
    repeat (refine nr hC rfl ?_; simp [go_sem, h6])
    try (refine rn hC ?_; simp [go_sem, h6]; repeat (refine nr hC rfl ?_; simp [go_sem, h6]))
    refine ret hC tabOk (fun _ => 1) rfl rfl fun m gf hl ex => ?_
    exact fail _ _ _ rfl (hP.trans (if_neg h6))
  replace hP := hP.trans (if_pos h6)
  refine rn hC ?_
  simp [go_sem, h6]
  repeat (refine nr hC rfl ?_; simp [go_sem, h6])
  try (refine rn hC ?_; simp [go_sem, h6]; repeat (refine nr hC rfl ?_; simp [go_sem, h6]))
  refine call hC [61,62,63] (by kernel_rfl) rfl rfl rfl rfl rfl fun m6 g6 p6 e6 => ⟨_, verify54 ot.1.auth key cen h5.auth ⟨none, 0⟩ ⟨none, 0⟩ _ k5.auth.to (kkey _) (kcen _) (by omega), fun v6 u6 q6 s6 hv6 => ?_⟩
  obtain ⟨ha, rfl, k6⟩ := hv6
  generalize verifyS ot.1.auth key cen = ve at k6 hP
  unfold takeV at hP
  by_cases h7 : ve.2 = 0
  rotate_left
  · refine rn hC ?_
    simp [go_sem, h7]
    repeat (refine nr hC rfl ?_; simp [go_sem, h7])
    try (refine rn hC ?_; simp [go_sem, h7]; repeat (refine nr hC rfl ?_; simp [go_sem, h7]))
    refine ret hC tabOk (fun _ => 1) rfl rfl fun m gf hl ex => ?_
    exact fail _ _ _ rfl (hP.trans (if_neg h7))
  replace hP := hP.trans (if_pos h7)
  by_cases h8 : ve.1.svc = svc
  rotate_left
  · have d8 : decide (ve.1.svc = svc) = false := by simp [h8]
    refine rn hC ?_
    simp [go_sem, h7, d8]
    repeat (refine nr hC rfl ?_; simp [go_sem, h7, d8])
    try (refine rn hC ?_; simp [go_sem, h7, d8]; repeat (refine nr hC rfl ?_; simp [go_sem, h7, d8]))
    refine ret hC tabOk (fun _ => 1) rfl rfl fun m gf hl ex => ?_
    exact fail _ _ _ rfl (hP.trans (if_neg h8))
  replace hP := hP.trans (if_pos h8)
  have d8 : decide (ve.1.svc = svc) = true := by simp [h8]
  cases h9 : ve.1.fwd with
  | false =>
    refine rn hC ?_
    simp [go_sem, h7, d8, h9]
    repeat (refine nr hC rfl ?_; simp [go_sem, h7, d8, h9])
    try (refine rn hC ?_; simp [go_sem, h7, d8, h9]; repeat (refine nr hC rfl ?_; simp [go_sem, h7, d8, h9]))
    refine ret hC tabOk (fun _ => 1) rfl rfl fun m gf hl ex => ?_
    exact fail _ _ _ rfl (hP.trans (if_neg (by simp [h9])))
  | true =>
  replace hP := hP.trans (if_pos h9)
  by_cases h10 : now < ve.1.till
  rotate_left
  · have d10 : decide (ve.1.till ≤ now) = true := by simp; omega
    refine rn hC ?_
    simp [go_sem, h7, d8, h9, d10]
    repeat (refine nr hC rfl ?_; simp [go_sem, h7, d8, h9, d10])
    try (refine rn hC ?_; simp [go_sem, h7, d8, h9, d10]; repeat (refine nr hC rfl ?_; simp [go_sem, h7, d8, h9, d10]))
    refine ret hC tabOk (fun _ => 1) rfl rfl fun m gf hl ex => ?_
    exact fail _ _ _ rfl (hP.trans (if_neg h10))
  have d10 : decide (ve.1.till ≤ now) = false := by simp; omega
  replace hP := hP.trans (if_pos h10)
  refine rn hC ?_
  simp [go_sem, h7, d8, h9, d10]
  repeat (refine nr hC rfl ?_; simp [go_sem, h7, d8, h9, d10])
  try (refine rn hC ?_; simp [go_sem, h7, d8, h9, d10]; repeat (refine nr hC rfl ?_; simp [go_sem, h7, d8, h9, d10]))
  refine ret hC tabOk (fun _ => 1) rfl rfl fun m gf hl ex => ?_
  rw [hP]
  refine ⟨h5, ha, ?_, k5.to, k6.to⟩
  simp only [ptc, h9]
  rfl
end Go.Proofs.YtobhfopgoidniaaGreat

/- Who asks on behalf of a user: step by step. -/
namespace Go.Proofs.YtobhfopgoidniaaGreat
open Go Go.Eng

def sProxy : ByteArray := ⟨#[112, 114, 111, 120, 121]⟩

def pxc (a : Asd) (h : AsdH) (bc : Nat) (now : Int) (w : Au) (hw : AH) (cl : Bool) (fr till : Int) : List Value := [.string a.kind, .string a.target, .int .i64 a.nonce,
  .int .i64 a.extra.k, .string a.extra.s, .int .i64 a.extra.n, .slice h.ex.a a.extra.l.length h.ex.cap,
  .string a.tk.svc, .int .i64 a.tk.fl, .int .i64 a.tk.key.k, .string a.tk.key.s, .int .i64 a.tk.key.n, .slice h.tk.key.a a.tk.key.l.length h.tk.key.cap, .string a.tk.cl, .int .i64 a.tk.fr, .int .i64 a.tk.till, .int .i64 a.tk.auth.k, .string a.tk.auth.s, .int .i64 a.tk.auth.n, .slice h.tk.auth.a a.tk.auth.l.length h.tk.auth.cap,
  .string a.au.user, .slice h.au.gr.a a.au.gr.length h.au.gr.cap, .int .i64 a.au.org, .slice h.au.tr.a a.au.tr.length h.au.tr.cap, .string a.au.svc, .bool a.au.fwd, .int .i64 a.au.till,
  .int .i64 a.fr, .int .i64 a.till, ptr bc, .int .i64 now,
  .string w.user, .slice hw.gr.a w.gr.length hw.gr.cap, .int .i64 w.org, .slice hw.tr.a w.tr.length hw.tr.cap, .string w.svc, .bool w.fwd, .int .i64 w.till,
  .bool cl, .int .i64 fr, .int .i64 till]

/-- What is asked on behalf of a user: 50's. -/
def PxIs (g : G) (b : Nat) (a : Asd) (bc : Nat) (now : Int) (w : Au) (cl : Bool) (fr till : Int) : Prop := ∃ (h : AsdH) (hw : AH), Ob g 50 b 247 (pxc a h bc now w hw cl fr till) ∧ AsdOk g a h ∧ AuOk g w hw
theorem PxIs.ks {L : List Nat} {g g' : G} (hk : Keeps L g g') {b : Nat} {a : Asd} {bc : Nat} {now : Int} {w : Au} {cl : Bool} {fr till : Int} (k : PxIs g b a bc now w cl fr till) (h0 : 50 ∉ L) (hz : 0 ∉ L) : PxIs g' b a bc now w cl fr till := by
  obtain ⟨h, hw, k1, k2, k3⟩ := k
  haveI : Later g g' := .of hk hz
  exact ⟨h, hw, k1.ks hk h0, k2.to, k3.to⟩

def itsP (a : Asd) : Int := if a.kind = sProxy then (if a.au.user = a.tk.cl ∧ a.au.tr = [] then 0 else 61) else 50

set_option maxHeartbeats 1000000 in
set_option maxRecDepth 20000 in
theorem pits180 (bo b : Nat) (a : Asd) (now : Int) (w : Au) (cl : Bool) (fr till : Int) (g : G) (k : PxIs g bo a b now w cl fr till) : Ok Tryz.prog 180 [ptr bo] g [] (fun v _ => v = .int .i64 (itsP a)) := by
  obtain ⟨h, hw, ko, ka, kw⟩ := k
  have hI : itsP a = if a.kind = sProxy then (if a.au.user = a.tk.cl ∧ a.au.tr = [] then 0 else 61) else 50 := rfl
  refine fbegin Tryz.func180 rfl Tryz.ntmps180 (Nat.le_of_ble_eq_true rfl) fun C hw hC => ?_
  refine rn hC ?_
  simp [go_sem]
  repeat (refine nr hC rfl ?_; simp [go_sem])
  refine vo hC (vo_load1 hC tabOk ((ob1 ko 0 rfl).ks Kp.ks (by decide)) rfl rfl rfl rfl) rfl rfl rfl ?_
  by_cases h1 : a.kind = sProxy
  rotate_left
  · have d1 : decide (a.kind = (⟨#[112, 114, 111, 120, 121]⟩ : ByteArray)) = false := decide_eq_false h1
    refine rn hC ?_
    simp [go_sem, d1]
    repeat (refine nr hC rfl ?_; simp [go_sem, d1])
    try (refine rn hC ?_; simp [go_sem, d1]; repeat (refine nr hC rfl ?_; simp [go_sem, d1]))
    refine ret hC tabOk (fun _ => 1) rfl rfl fun m gf hl ex => ?_
    rw [hI.trans (if_neg h1)]
    rfl
  have d1 : decide (a.kind = (⟨#[112, 114, 111, 120, 121]⟩ : ByteArray)) = true := decide_eq_true h1
  replace hI := hI.trans (if_pos h1)
  refine rn hC ?_
  simp [go_sem, d1]
  repeat (refine nr hC rfl ?_; simp [go_sem, d1])
  try (refine rn hC ?_; simp [go_sem, d1]; repeat (refine nr hC rfl ?_; simp [go_sem, d1]))
  refine draw hC [(0, 0), (1, 0), (2, 0), (3, 0), (4, 0), (5, 0), (6, 0), (7, 0), (8, 0), (9, 0), (10, 0), (11, 0), (12, 0), (13, 0), (14, 0), (15, 0), (16, 0), (17, 0), (18, 0), (19, 0), (20, 0), (21, 0), (22, 0), (23, 0)] [] mix (by kernel_rfl) ?_
  refine rn hC ?_
  simp [go_sem]
  repeat (refine nr hC rfl ?_; simp [go_sem])
  refine voD hC rfl (vo_load1 hC tabOk ((ob1 ko 20 rfl).ks Kp.ks (by decide)) rfl rfl rfl rfl) rfl rfl rfl rfl ?_
  refine rn hC ?_
  simp [go_sem]
  repeat (refine nr hC rfl ?_; simp [go_sem])
  refine voD hC rfl (vo_load1 hC tabOk ((ob1 ko 13 rfl).ks Kp.ks (by decide)) rfl rfl rfl rfl) rfl rfl rfl rfl ?_
  by_cases h2 : a.au.user = a.tk.cl
  rotate_left
  · have d2 : decide (a.au.user = a.tk.cl) = false := decide_eq_false h2
    refine rn hC ?_
    simp [go_sem, d2]
    repeat (refine nr hC rfl ?_; simp [go_sem, d2])
    try (refine rn hC ?_; simp [go_sem, d2]; repeat (refine nr hC rfl ?_; simp [go_sem, d2]))
    refine ret hC tabOk (fun _ => 1) rfl rfl fun m gf hl ex => ?_
    rw [hI.trans (if_neg (fun q => h2 q.1))]
    rfl
  have d2 : decide (a.au.user = a.tk.cl) = true := decide_eq_true h2
  refine rn hC ?_
  simp [go_sem, d2]
  repeat (refine nr hC rfl ?_; simp [go_sem, d2])
  try (refine rn hC ?_; simp [go_sem, d2]; repeat (refine nr hC rfl ?_; simp [go_sem, d2]))
  refine voD hC rfl (vo_load1 hC tabOk ((ob1 ko 23 rfl).ks Kp.ks (by decide)) rfl rfl rfl rfl) rfl rfl rfl rfl ?_
  by_cases h3 : a.au.tr = []
  · replace hI := hI.trans (if_pos ⟨h2, h3⟩)
    have d3 : a.au.tr.length = 0 := by rw [h3]; rfl
    refine rn hC ?_
    simp [go_sem, d3]
    repeat (refine nr hC rfl ?_; simp [go_sem, d3])
    try (refine rn hC ?_; simp [go_sem, d3]; repeat (refine nr hC rfl ?_; simp [go_sem, d3]))
    refine ret hC tabOk (fun _ => 1) rfl rfl fun m gf hl ex => ?_
    rw [hI]
    rfl
  · replace hI := hI.trans (if_neg (fun q => h3 q.2))
    have d3 : decide (0 < a.au.tr.length) = true := by
      rw [decide_eq_true_iff]
      exact List.length_pos_iff.2 h3
    refine rn hC ?_
    simp [go_sem, d3]
    repeat (refine nr hC rfl ?_; simp [go_sem, d3])
    try (refine rn hC ?_; simp [go_sem, d3]; repeat (refine nr hC rfl ?_; simp [go_sem, d3]))
    refine ret hC tabOk (fun _ => 1) rfl rfl fun m gf hl ex => ?_
    rw [hI]
    rfl

def userP (ps : List Pr) (now : Int) (a : Asd) : Int :=
  if (takeP ps now a.tk.cl a.extra).2 = 0 then (if (pget ps (takeP ps now a.tk.cl a.extra).1.2.user).2 = 0 then (if (pget ps (takeP ps now a.tk.cl a.extra).1.2.user).1.se = true then 61 else (if 8 ≤ (takeP ps now a.tk.cl a.extra).1.2.tr.length then 11 else 0)) else (pget ps (takeP ps now a.tk.cl a.extra).1.2.user).2) else (takeP ps now a.tk.cl a.extra).2

set_option maxHeartbeats 2000000 in
set_option maxRecDepth 20000 in
theorem puser181 (bo b bp : Nat) (c : Cen) (a : Asd) (now : Int) (w : Au) (cl : Bool) (fr till : Int) (g : G) (k : PxIs g bo a b now w cl fr till) (kc : CenIs g b bp c) (hsz : tw a.extra ≤ 2513169434843) :
    Ok Tryz.prog 181 [ptr bo] g [50, 61, 62, 63] (fun v g' => v = .int .i64 (userP c.ps now a) ∧ (userP c.ps now a = 0 → PxIs g' bo a b now (takeP c.ps now a.tk.cl a.extra).1.2 cl fr till)) := by
  obtain ⟨h, hw, ko, ka, kw⟩ := k
  have hU : userP c.ps now a = if (takeP c.ps now a.tk.cl a.extra).2 = 0 then (if (pget c.ps (takeP c.ps now a.tk.cl a.extra).1.2.user).2 = 0 then (if (pget c.ps (takeP c.ps now a.tk.cl a.extra).1.2.user).1.se = true then 61 else (if 8 ≤ (takeP c.ps now a.tk.cl a.extra).1.2.tr.length then 11 else 0)) else (pget c.ps (takeP c.ps now a.tk.cl a.extra).1.2.user).2) else (takeP c.ps now a.tk.cl a.extra).2 := rfl
  have hcl := ka.tk.cl
  refine fbegin Tryz.func181 rfl Tryz.ntmps181 (Nat.le_of_ble_eq_true rfl) fun C hw hC => ?_
  refine rn hC ?_
  simp [go_sem]
  repeat (refine nr hC rfl ?_; simp [go_sem])
  refine draw hC [(0, 0), (1, 0), (2, 0), (3, 0), (4, 0), (5, 0), (6, 0), (7, 0), (8, 0), (9, 0), (10, 0), (11, 0), (12, 0), (13, 0), (14, 0), (15, 0), (16, 0), (17, 0), (18, 0), (23, 2), (19, 1), (20, 0), (21, 0), (22, 0), (23, 3), (24, 1)] [25] mix (by kernel_rfl) ?_
  refine rn hC ?_
  simp [go_sem]
  repeat (refine nr hC rfl ?_; simp [go_sem])
  refine voD hC rfl (vo_load1 hC tabOk ((ob1 ko 29 rfl).ks Kp.ks (by decide)) rfl rfl rfl rfl) rfl rfl rfl rfl ?_
  refine rn hC ?_
  simp [go_sem]
  repeat (refine nr hC rfl ?_; simp [go_sem])
  refine voD hC rfl (vo_load1 hC tabOk ((ob1 ko 30 rfl).ks Kp.ks (by decide)) rfl rfl rfl rfl) rfl rfl rfl rfl ?_
  refine rn hC ?_
  simp [go_sem]
  repeat (refine nr hC rfl ?_; simp [go_sem])
  refine voD hC rfl (vo_load1 hC tabOk ((ob1 ko 13 rfl).ks Kp.ks (by decide)) rfl rfl rfl rfl) rfl rfl rfl rfl ?_
  refine rn hC ?_
  simp [go_sem]
  repeat (refine nr hC rfl ?_; simp [go_sem])
  refine voD hC rfl (vo_load hC tabOk ((ko.cs 3 (vs := tc a.extra h.ex) (by intro j v hj; match j with | 0 => exact hj | 1 => exact hj | 2 => exact hj | 3 => exact hj | j + 4 => cases hj)).ks Kp.ks (by decide)) rfl rfl rfl rfl rfl) rfl rfl rfl rfl ?_
  refine rn hC ?_
  simp [go_sem]
  repeat (refine nr hC rfl ?_; simp [go_sem])
  refine callD hC [61,62,63] (by kernel_rfl) rfl rfl rfl rfl rfl rfl rfl rfl fun m1 g1 p1 e1 => ⟨_, take178 b bp c now a.tk.cl a.extra h.ex _ (kc.ks Kp.ks (by decide) (by decide) (by decide) (by decide) (by decide) (by decide) (by decide) (by decide) (by decide)) ka.ex.to hcl hsz, fun v1 u1 q1 s1 hv1 => ?_⟩
  obtain ⟨hk1, ha1, rfl, k1, k1'⟩ := hv1
  generalize htp : takeP c.ps now a.tk.cl a.extra = tp at hU k1 k1' ⊢
  by_cases h1 : tp.2 = 0
  rotate_left
  · refine rn hC ?_
    simp [go_sem, h1]
    repeat (refine nr hC rfl ?_; simp [go_sem, h1])
    try (refine rn hC ?_; simp [go_sem, h1]; repeat (refine nr hC rfl ?_; simp [go_sem, h1]))
    refine ret hC tabOk (fun _ => 1) rfl rfl fun m gf hl ex => ?_
    rw [hU.trans (if_neg h1)]
    exact ⟨rfl, fun q => absurd q h1⟩
  replace hU := hU.trans (if_pos h1)
  refine rn hC ?_
  simp [go_sem, h1]
  repeat (refine nr hC rfl ?_; simp [go_sem, h1])
  try (refine rn hC ?_; simp [go_sem, h1]; repeat (refine nr hC rfl ?_; simp [go_sem, h1]))
  refine stob hC tabOk 50 rfl (.inl (by simp)) rfl rfl rfl rfl rfl rfl rfl rfl fun m9 g9 p9 e9 => ⟨247, _, ko.ks Kp.ks (by decide), by simp [pxc, setV_len], fun g10 g11 p10 but10 p11 hob1 => ?_⟩
  have hob2 : Ob g11 50 bo 247 (pxc a h b now tp.1.2 ha1 cl fr till) := hob1
  have kc2 := kc.ks (g' := g11) Kp.ks (by decide) (by decide) (by decide) (by decide) (by decide) (by decide) (by decide) (by decide) (by decide)
  have kc3 := kc2
  obtain ⟨⟨⟨bm, ptrs, kp⟩, kv⟩, _⟩ := kc3
  refine rn hC ?_
  simp [go_sem]
  repeat (refine nr hC rfl ?_; simp [go_sem])
  refine draw hC [(0, 0), (1, 0), (2, 0), (3, 0), (5, 0), (6, 0), (7, 0), (12, 2), (4, 1), (8, 1), (9, 0), (10, 0), (11, 0), (12, 3), (13, 1)] [14] mix (by kernel_rfl) ?_
  refine rn hC ?_
  simp [go_sem]
  repeat (refine nr hC rfl ?_; simp [go_sem])
  refine voD hC rfl (vo_load1 hC tabOk ((ob1 hob2 29 rfl).ks Kp.ks (by decide)) rfl rfl rfl rfl) rfl rfl rfl rfl ?_
  refine rn hC ?_
  simp [go_sem]
  repeat (refine nr hC rfl ?_; simp [go_sem])
  refine callD hC [] (by kernel_rfl) rfl rfl rfl rfl rfl rfl rfl rfl fun m2 g2 p2 e2 => ⟨_, policy134 b bp c _ (kc2.ks Kp.ks (by decide) (by decide) (by decide) (by decide) (by decide) (by decide) (by decide) (by decide) (by decide)), fun v2 u2 q2 s2 hv2 => ?_⟩
  subst hv2
  refine rn hC ?_
  simp [go_sem]
  repeat (refine nr hC rfl ?_; simp [go_sem])
  refine callD hC [] (by kernel_rfl) rfl rfl rfl rfl rfl rfl rfl rfl fun m3 g3 p3 e3 => ⟨_, pget35 10 (by simp) (by simp) (ptr bp) bp bm ptrs c.ps tp.1.2.user _ (kp.ks Kp.ks (by decide) (by decide) (by decide) (by decide)) kv, fun v3 u3 q3 s3 hv3 => ?_⟩
  obtain ⟨h3, rfl, k3⟩ := hv3
  generalize pget c.ps tp.1.2.user = pu at hU k3 ⊢
  by_cases h4 : pu.2 = 0
  rotate_left
  · refine rn hC ?_
    simp [go_sem, h4]
    repeat (refine nr hC rfl ?_; simp [go_sem, h4])
    try (refine rn hC ?_; simp [go_sem, h4]; repeat (refine nr hC rfl ?_; simp [go_sem, h4]))
    refine ret hC tabOk (fun _ => 1) rfl rfl fun m gf hl ex => ?_
    rw [hU.trans (if_neg h4)]
    exact ⟨rfl, fun q => absurd q h4⟩
  replace hU := hU.trans (if_pos h4)
  cases h5 : pu.1.se with
  | true =>
    refine rn hC ?_
    simp [go_sem, h4, h5]
    repeat (refine nr hC rfl ?_; simp [go_sem, h4, h5])
    try (refine rn hC ?_; simp [go_sem, h4, h5]; repeat (refine nr hC rfl ?_; simp [go_sem, h4, h5]))
    refine ret hC tabOk (fun _ => 1) rfl rfl fun m gf hl ex => ?_
    rw [hU.trans (if_pos h5)]
    exact ⟨rfl, fun q => absurd q (by decide)⟩
  | false =>
  replace hU := hU.trans (if_neg (by rw [h5]; decide))
  by_cases h6 : 8 ≤ tp.1.2.tr.length
  · have d6 : decide ((8 : Int) ≤ (tp.1.2.tr.length : Int)) = true := by simp; omega
    refine rn hC ?_
    simp [go_sem, h4, h5, d6]
    repeat (refine nr hC rfl ?_; simp [go_sem, h4, h5, d6])
    try (refine rn hC ?_; simp [go_sem, h4, h5, d6]; repeat (refine nr hC rfl ?_; simp [go_sem, h4, h5, d6]))
    refine ret hC tabOk (fun _ => 1) rfl rfl fun m gf hl ex => ?_
    rw [hU.trans (if_pos h6)]
    exact ⟨rfl, fun q => absurd q (by decide)⟩
  · have d6 : decide ((8 : Int) ≤ (tp.1.2.tr.length : Int)) = false := by simp; omega
    refine rn hC ?_
    simp [go_sem, h4, h5, d6]
    repeat (refine nr hC rfl ?_; simp [go_sem, h4, h5, d6])
    try (refine rn hC ?_; simp [go_sem, h4, h5, d6]; repeat (refine nr hC rfl ?_; simp [go_sem, h4, h5, d6]))
    refine ret hC tabOk (fun _ => 1) rfl rfl fun m gf hl ex => ?_
    rw [hU.trans (if_neg h6), htp]
    exact ⟨rfl, fun _ => ⟨h, ha1, hob2.ks Kp.ks (by decide), ka.to, k1'.to⟩⟩

set_option maxHeartbeats 2000000 in
set_option maxRecDepth 20000 in
theorem phop182 (bo b bp : Nat) (c : Cen) (a : Asd) (now : Int) (w : Au) (cl : Bool) (fr till : Int) (g : G) (k : PxIs g bo a b now w cl fr till) (kc : CenIs g b bp c) :
    Ok Tryz.prog 182 [ptr bo] g [50] (fun v g' => v = .int .i64 (if (hopS c.ps a.tk.cl a.target).2 = 0 then (bothN (a.fr, a.till) (now, w.till)).2 else (hopS c.ps a.tk.cl a.target).2) ∧ ((hopS c.ps a.tk.cl a.target).2 = 0 → PxIs g' bo a b now w (hopS c.ps a.tk.cl a.target).1 (bothN (a.fr, a.till) (now, w.till)).1.1 (bothN (a.fr, a.till) (now, w.till)).1.2)) := by
  obtain ⟨h, ah, ko, ka, kw⟩ := k
  have kc0 := kc
  obtain ⟨⟨⟨bm, ptrs, kp⟩, kv⟩, _⟩ := kc0
  refine fbegin Tryz.func182 rfl Tryz.ntmps182 (Nat.le_of_ble_eq_true rfl) fun C hw hC => ?_
  refine rn hC ?_
  simp [go_sem]
  repeat (refine nr hC rfl ?_; simp [go_sem])
  refine draw hC [(0, 0), (1, 0), (2, 0), (3, 0), (4, 0), (6, 0), (7, 0), (8, 0), (9, 0), (10, 0), (11, 0), (12, 0), (13, 0), (14, 0), (15, 0), (16, 0), (5, 1), (17, 1), (18, 0), (19, 0), (20, 0)] [21, 22, 23, 24] mix (by kernel_rfl) ?_
  refine rn hC ?_
  simp [go_sem]
  repeat (refine nr hC rfl ?_; simp [go_sem])
  refine voD hC rfl (vo_load1 hC tabOk ((ob1 ko 29 rfl).ks Kp.ks (by decide)) rfl rfl rfl rfl) rfl rfl rfl rfl ?_
  refine rn hC ?_
  simp [go_sem]
  repeat (refine nr hC rfl ?_; simp [go_sem])
  refine voD hC rfl (vo_load1 hC tabOk ((ob1 ko 13 rfl).ks Kp.ks (by decide)) rfl rfl rfl rfl) rfl rfl rfl rfl ?_
  refine rn hC ?_
  simp [go_sem]
  repeat (refine nr hC rfl ?_; simp [go_sem])
  refine voD hC rfl (vo_load1 hC tabOk ((ob1 ko 1 rfl).ks Kp.ks (by decide)) rfl rfl rfl rfl) rfl rfl rfl rfl ?_
  refine rn hC ?_
  simp [go_sem]
  repeat (refine nr hC rfl ?_; simp [go_sem])
  refine callD hC [] (by kernel_rfl) rfl rfl rfl rfl rfl rfl rfl rfl fun m1 g1 p1 e1 => ⟨_, policy134 b bp c _ (kc.ks Kp.ks (by decide) (by decide) (by decide) (by decide) (by decide) (by decide) (by decide) (by decide) (by decide)), fun v1 u1 q1 s1 hv1 => ?_⟩
  subst hv1
  refine rn hC ?_
  simp [go_sem]
  repeat (refine nr hC rfl ?_; simp [go_sem])
  refine callD hC [] (by kernel_rfl) rfl rfl rfl rfl rfl rfl rfl rfl fun m2 g2 p2 e2 => ⟨_, hop179 (ptr bp) bp bm ptrs c.ps a.tk.cl a.target _ (kp.ks Kp.ks (by decide) (by decide) (by decide) (by decide)), fun v2 u2 q2 s2 hv2 => ?_⟩
  subst hv2
  generalize hhp : hopS c.ps a.tk.cl a.target = hp
  refine rn hC ?_
  simp [go_sem]
  repeat (refine nr hC rfl ?_; simp [go_sem])
  refine stob hC tabOk 50 rfl (.inl (by simp)) rfl rfl rfl rfl rfl rfl rfl rfl fun m9 g9 p9 e9 => ⟨247, _, ko.ks Kp.ks (by decide), by simp [pxc, setV_len], fun g10 g11 p10 but10 p11 hob1 => ?_⟩
  have hob2 : Ob g11 50 bo 247 (pxc a h b now w ah hp.1 fr till) := hob1
  by_cases h1 : hp.2 = 0
  rotate_left
  · refine rn hC ?_
    simp [go_sem, h1]
    repeat (refine nr hC rfl ?_; simp [go_sem, h1])
    try (refine rn hC ?_; simp [go_sem, h1]; repeat (refine nr hC rfl ?_; simp [go_sem, h1]))
    refine ret hC tabOk (fun _ => 1) rfl rfl fun m gf hl ex => ?_
    rw [hhp, if_neg h1]
    exact ⟨rfl, fun q => absurd q h1⟩
  refine rn hC ?_
  simp [go_sem, h1]
  repeat (refine nr hC rfl ?_; simp [go_sem, h1])
  try (refine rn hC ?_; simp [go_sem, h1]; repeat (refine nr hC rfl ?_; simp [go_sem, h1]))
  refine draw hC [(0, 0), (1, 0), (2, 0), (3, 0), (4, 0), (5, 0), (6, 0), (7, 0), (8, 0), (9, 0), (10, 0), (11, 0), (12, 0), (13, 0), (14, 0), (15, 0), (16, 1), (17, 0), (18, 0), (19, 0)] [20, 21, 22, 23] mix (by kernel_rfl) ?_
  refine rn hC ?_
  simp [go_sem]
  repeat (refine nr hC rfl ?_; simp [go_sem])
  refine voD hC rfl (vo_load hC tabOk ((hob2.cs 27 (vs := [.int .i64 a.fr, .int .i64 a.till]) (by intro j v hj; match j with | 0 => exact hj | 1 => exact hj | j + 2 => cases hj)).ks Kp.ks (by decide)) rfl rfl rfl rfl rfl) rfl rfl rfl rfl ?_
  refine rn hC ?_
  simp [go_sem]
  repeat (refine nr hC rfl ?_; simp [go_sem])
  refine voD hC rfl (vo_load1 hC tabOk ((ob1 hob2 30 rfl).ks Kp.ks (by decide)) rfl rfl rfl rfl) rfl rfl rfl rfl ?_
  refine rn hC ?_
  simp [go_sem]
  repeat (refine nr hC rfl ?_; simp [go_sem])
  refine voD hC rfl (vo_load1 hC tabOk ((ob1 hob2 37 rfl).ks Kp.ks (by decide)) rfl rfl rfl rfl) rfl rfl rfl rfl ?_
  refine rn hC ?_
  simp [go_sem]
  repeat (refine nr hC rfl ?_; simp [go_sem])
  refine callD hC [] (by kernel_rfl) rfl rfl rfl rfl rfl rfl rfl rfl fun m3 g3 p3 e3 => ⟨_, both234 a.fr a.till now w.till _, fun v3 u3 q3 s3 hv3 => ?_⟩
  subst hv3
  generalize hbn : bothN (a.fr, a.till) (now, w.till) = bn
  refine rn hC ?_
  simp [go_sem]
  repeat (refine nr hC rfl ?_; simp [go_sem])
  refine stob hC tabOk 50 rfl (.inl (by simp)) rfl rfl rfl rfl rfl rfl rfl rfl fun m19 g19 p19 e19 => ⟨247, _, hob2.ks Kp.ks (by decide), by simp [pxc, setV_len], fun g20 g21 p20 but20 p21 hob3 => ?_⟩
  have hob4 : Ob g21 50 bo 247 (pxc a h b now w ah hp.1 bn.1.1 bn.1.2) := hob3
  refine rn hC ?_
  simp [go_sem]
  repeat (refine nr hC rfl ?_; simp [go_sem])
  refine ret hC tabOk (fun _ => 1) rfl rfl fun m gf hl ex => ?_
  rw [hhp, hbn, if_pos h1]
  exact ⟨rfl, fun _ => ⟨h, ah, hob4.ks Kp.ks (by decide), ka.to, kw.to⟩⟩
end Go.Proofs.YtobhfopgoidniaaGreat
