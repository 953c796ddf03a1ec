/- The steps of a proof, over a context that is a name. Values that hang on what stands; loops; a state made small. Steps of any kind, by contract; objects. Small steps. Rows that are grown; owners told anew. Maps with strings as keys; loads and stores of objects; cuts of slices. -/
import Derived.Test.YtobhfopgoidniaaGreatEB
import Derived.KernelRfl
import Derived.Laws.Externs
import Derived.Laws.AppendOwn
import Derived.Laws.CopyRow
import Derived.Laws.Cover3
import Derived.Laws.Pointers
import Derived.Laws.Small
import Derived.MapKept
set_option linter.all false
set_option linter.unusedVariables false
set_option linter.unusedSimpArgs false

/- The steps of a proof, over a context that is a name. -/
namespace Go.Eng
open Go

/-- What a context is. -/
structure Fnc (C : Ctx) (P : Program) (fn : Func) (n : Nat) (g0 : G) (L : List Nat) (Post : Value → G → Prop) : Prop where
  P : C.P = P
  fn : C.fn = fn
  R : C.R = ResP L C.g0 Post
  n : C.n = n
  g0 : C.g0 = g0
  L : C.L = L

section
variable {C : Ctx} {P : Program} {fn : Func} {n : Nat} {g0 g : G} {L : List Nat} {Post : Value → G → Prop} {s : St} {T : Tab}

theorem fbegin {f : FuncId} {args : List Value} {c : Code} (hf : P.funcs[f]? = some fn) (hb : fn.body = some c) (hn : fn.ntmps = n) (hl : (args.length ≤ n))
    (H : ∀ C, WF g → Fnc C P fn n g L Post → Sg C g ⟨[.code c], ⟨ent 0 args, [], [], [], 0⟩⟩) : Ok P f args g L Post := by
  subst hn
  exact enter hf hb hl fun hw => H _ hw ⟨rfl, rfl, rfl, rfl, rfl, rfl⟩

theorem run (hC : Fnc C P fn n g0 L Post) (hT : TabOk P T) (f : Nat) {c : Cfg} (h : Sg C g (ex f T n c)) : Sg C g c := by
  rw [← hC.n] at h
  exact ex_ok (by rw [hC.P]; exact hT) f c h

theorem draw (hC : Fnc C P fn n g0 L Post) {id : Nat} {all : Array Oper} (plan : List (Nat × Nat)) (st : List Nat) {k : List KI} (hm : P.follows .mixedOrders = true)
    (hok : (Region.noSelect all && waitsAll all st && okD all st plan (Array.replicate all.size false) (Array.replicate all.size false) && decide (cnt plan + st.length = all.size)) = true)
    (h : Sg C g ⟨.opsD all plan st [] [] none :: k, s⟩) : Sg C g ⟨.code (.region id all true) :: k, s⟩ :=
  sg_draw (by rw [hC.P]; exact hm) hok h

def callable (P : Program) (f : FuncId) : Bool := ((P.funcs[f]?).map fun fn => fn.body.isSome && fn.name != "runtime.NumGoroutine") == some true

/-- May these be written by what is called? -/
def subL (L C : List Nat) : Bool := L.all fun l => C.contains l && l != 0 && l != 1

theorem subL_ok {L' : List Nat} (h : subL L' L = true) : ∀ l ∈ L', l ∈ L ∧ l ≠ 0 ∧ l ≠ 1 := fun l hl => by
  have := List.all_eq_true.1 h l hl
  simpa [and_assoc] using this

theorem call (hC : Fnc C P fn n g0 L Post) (L' : List Nat) {o : Oper} {f : FuncId} {args : Array Operand} {tys : Array TypeId} {vs : List SV} {all : Array Oper} {r : List Oper} {k : List KI} (hb : callable P f = true)
    (ho : o.op = .call ⟨.value (.func f), args, tys⟩) (hv : evs s.env args.toList = some vs) (hw : gOn all s o = true) (hL : subL L' L = true) (hd : okDst n s o.dst = true)
    (H : ∀ m g1, Prv [1] g g1 → Expo s m (fun _ => 1) g1 → ∃ Q, Ok P f (vs.map (SV.val m)) g1 L' Q ∧ ∀ v g2, Prv L' g1 g2 → Step L' g1 g2 → Q v g2 → Sg C g2 ⟨.ops all r :: k, putE (nameAll s m) o.dst (ofV v)⟩) :
    Sg C g ⟨.ops all (o :: r) :: k, s⟩ :=
  sg_call L' ho hv hw (by rw [hC.P]; exact eq_of_beq hb) (by rw [hC.L]; exact subL_ok hL) (by rw [hC.n]; exact hd) (by rw [hC.P]; exact H)

theorem callD (hC : Fnc C P fn n g0 L Post) (L' : List Nat) {o : Oper} {f : FuncId} {i : Nat} {args : Array Operand} {tys : Array TypeId} {vs : List SV} {all : Array Oper} {p : List (Nat × Nat)} {st fb fl : List Nat} {vt : Option (Nat × Nat × Nat)} {k : List KI} (hb : callable P f = true)
    (hi : all[i]? = some o) (ho : o.op = .call ⟨.value (.func f), args, tys⟩) (hv : evs s.env args.toList = some vs) (hw : gOn all s o = true) (hL : subL L' L = true) (hd : okDst n s o.dst = true)
    (hfl : fl.all (fun l => !L'.contains l && l != 1) = true) (hvt : vtOk all vt o = true)
    (H : ∀ m g1, Prv [1] g g1 → Expo s m (fun _ => 1) g1 → ∃ Q, Ok P f (vs.map (SV.val m)) g1 L' Q ∧ ∀ v g2, Prv L' g1 g2 → Step L' g1 g2 → Q v g2 → Sg C g2 ⟨.opsD all p st fb fl vt :: k, putE (nameAll s m) o.dst (ofV v)⟩) :
    Sg C g ⟨.opsD all ((i, 1) :: p) st fb fl vt :: k, s⟩ :=
  sgD_call L' hi ho hv hw (by rw [hC.P]; exact eq_of_beq hb) (by rw [hC.L]; exact subL_ok hL) (by rw [hC.n]; exact hd)
    (fun l hl => by have := List.all_eq_true.1 hfl l hl; simpa using this) hvt (by rw [hC.P]; exact H)

theorem ret (hC : Fnc C P fn n g0 L Post) (hT : TabOk P T) (lab : Nat → Nat) {k : List KI} {rs : List ResultVar} {vs : List SV} (hf : fn.results.toList = rs) (hr : resv T s rs = some vs)
    (H : ∀ m gf, Prv [1] g gf → Expo s m lab gf → Post (retv m vs) gf) : Sg C g ⟨.code .ret :: k, s⟩ :=
  sg_ret (by rw [hC.P]; exact hT) lab hC.R hC.L (by rw [hC.fn, hf]; exact hr) H

theorem done (hC : Fnc C P fn n g0 L Post) (hT : TabOk P T) (lab : Nat → Nat) {rs : List ResultVar} {vs : List SV} (hf : fn.results.toList = rs) (hr : resv T s rs = some vs)
    (H : ∀ m gf, Prv [1] g gf → Expo s m lab gf → Post (retv m vs) gf) : Sg C g ⟨[], s⟩ :=
  sg_done (by rw [hC.P]; exact hT) lab hC.R hC.L (by rw [hC.fn, hf]; exact hr) H
end
attribute [go_sem] ex stepO stepF opx opAb pv lenv evg resb lk ent ofV sv1 svo bop ldc nth fld fillS fillB setAt caps toCap nag cellsOf repl okDst putE newB setB setb isGd gsOf gpure vtOk gOn addb noD popTo rdb evs nameAll resv cond_true cond_false
end Go.Eng

/- Values that hang on what stands; loops; a state made small. -/
namespace Go.Eng
open Go

/-- Operation o leaves v in every world in which what is owned by one of ls stands as in g. -/
def Vo (C : Ctx) (g : G) (s : St) (o : Oper) (v : Value) (ls : List Nat) : Prop :=
  ∀ a w m, Sat C g s a w m → ∀ w2, (∀ k, k < g.w.heap.size → g.o k ∈ ls → w2.heap[k]? = g.w.heap[k]?) → (execOp a.eval o).run C.P w2 = .ok (.value v) w2

section
variable {C : Ctx} {P : Program} {fn : Func} {n : Nat} {g0 g : G} {L : List Nat} {Post : Value → G → Prop} {s : St} {T : Tab} {a : Act} {w : World} {m : List Nat}

theorem vo (hC : Fnc C P fn n g0 L Post) {o : Oper} {v : Value} {ls : List Nat} {all : Array Oper} {r : List Oper} {k : List KI} (hv : Vo C g s o v ls) (hl : ls.contains 1 = false) (hw : gOn all s o = true) (hd : okDst n s o.dst = true)
    (h : Sg C g ⟨.ops all r :: k, putE s o.dst (ofV v)⟩) : Sg C g ⟨.ops all (o :: r) :: k, s⟩ := by
  have hl' : 1 ∉ ls := by simpa using hl
  refine sg_ops (A := fun _ _ => True) (Φ := fun g' s' => g' = g ∧ s' = putE s o.dst (ofV v)) (gOn_ok hw) (fun a w m hs K Q hk => ?_) fun g' s' e => by rw [e.1, e.2]; exact h
  have hr := hv a w m hs w fun k hk hm => ((hs.keeps fun _ => 1).keep k hk (by simp only [List.mem_singleton]; exact fun e => hl' (e ▸ hm))).2
  unfold Oper.wp
  rw [hr]
  exact hk g _ _ w m ⟨rfl, rfl⟩ (hs.put (by rw [hC.n]; exact hd) (isGd_ofV v) fun _ => ofV_val _ v) (Tr.same _ (by cases o.dst <;> rfl) fun u hu => put_tmps hu)

theorem voD (hC : Fnc C P fn n g0 L Post) {o : Oper} {v : Value} {ls : List Nat} {i : Nat} {all : Array Oper} {p : List (Nat × Nat)} {st fb fl : List Nat} {vt : Option (Nat × Nat × Nat)} {k : List KI} (hi : all[i]? = some o) (hv : Vo C g s o v ls) (hl : ls.contains 1 = false)
    (hw : gOn all s o = true) (hd : okDst n s o.dst = true) (hvt : vtOk all vt o = true) (h : Sg C g ⟨.opsD all p st fb (ls ++ fl) vt :: k, putE s o.dst (ofV v)⟩) : Sg C g ⟨.opsD all ((i, 0) :: p) st fb fl vt :: k, s⟩ := by
  have hl' : 1 ∉ ls := by simpa using hl
  refine sgD_fst hi (fun a w m hs hSS => ⟨v, .inl ⟨gOn_ok hw a m hs.env0, fun w2 h2 => hv a w m hs w2 fun k hk hm => h2.2 k hk (List.mem_append.2 (.inl hm))⟩, hs.put (by rw [hC.n]; exact hd) (isGd_ofV v) fun _ => ofV_val _ v, by cases o.dst <;> rfl,
    ⟨hSS.1, fun k hk hm => ?_⟩, fun w2 h2 => ⟨h2.1, fun k hk hm => h2.2 k hk (List.mem_append.2 (.inr hm))⟩⟩) (fun j u ty e => ?_) h
  · rcases List.mem_append.1 hm with hm | hm
    · exact ((hs.keeps fun _ => 1).keep k hk (by simp only [List.mem_singleton]; exact fun e => hl' (e ▸ hm))).2
    · exact hSS.2 k hk hm
  · subst e
    unfold vtOk at hvt
    simp only [Bool.and_eq_true, bne_iff_ne, ne_eq] at hvt
    exact ⟨putE_lk hvt.1, fun hu => by rw [putE_gl]; exact hu, hvt.1⟩

/-- What stands at a place: cells of a block of owner l. -/
def Cs (g : G) (l b off : Nat) (vs : List Value) : Prop := b < g.w.heap.size ∧ g.o b = l ∧ ∀ j v, vs[j]? = some v → g.w.cell? ⟨b, off + j, none⟩ = some v

theorem cell_same {w w2 : World} {b : Nat} (h : w2.heap[b]? = w.heap[b]?) (j : Nat) : w2.cell? ⟨b, j, none⟩ = w.cell? ⟨b, j, none⟩ := by
  simp [World.cell?, h]

/-- A load of what stands. -/
theorem vo_load (hC : Fnc C P fn n g0 L Post) (hT : TabOk P T) {o : Oper} {t : Nat} {x : Operand} {b off l : Nat} {vs : List Value} {d : TD} (hc : Cs g l b off vs) (ho : o.op = .load t x) (hx : evg [] s.env x = some (.c (.v (.pointer (some ⟨b, off, none⟩))))) (hd : T t = some d) (hag : d.agg = true) (hn : vs.length = d.size) :
    Vo C g s o (.agg vs.toArray) [l] := by
  intro a w m hs w2 h2
  obtain ⟨i, u, hi, hu, hsz, hagu, _⟩ := hT.ok t d hd
  have e : a.eval x = .pointer (some ⟨b, off, none⟩) := (hs.ev hx).1
  have hb := h2 b hc.1 (by rw [hc.2.1]; simp)
  simp only [execOp, ho, e, Instr.loadAt, Instr.sureAddr, pure_bind]
  rw [hC.P, Sem.run_bind, run_loadVar_agg hi hu (by rw [hagu]; exact hag) (cs := vs) (by rw [hsz, hn])]
  · rfl
  · intro j v hj
    rw [add_plain, cell_same hb]
    exact hc.2.2 j v hj

theorem vo_load1 (hC : Fnc C P fn n g0 L Post) (hT : TabOk P T) {o : Oper} {t : Nat} {x : Operand} {b off l : Nat} {v : Value} {d : TD} (hc : Cs g l b off [v]) (ho : o.op = .load t x) (hx : evg [] s.env x = some (.c (.v (.pointer (some ⟨b, off, none⟩))))) (hd : T t = some d) (hag : d.agg = false) :
    Vo C g s o v [l] := by
  intro a w m hs w2 h2
  obtain ⟨i, u, hi, hu, hsz, hagu, _⟩ := hT.ok t d hd
  have e : a.eval x = .pointer (some ⟨b, off, none⟩) := (hs.ev hx).1
  have hb := h2 b hc.1 (by rw [hc.2.1]; simp)
  simp only [execOp, ho, e, Instr.loadAt, Instr.sureAddr, pure_bind]
  rw [hC.P, Sem.run_bind, run_loadVar_one hu (by rw [hagu]; exact hag) (v := v)]
  · rfl
  · rw [cell_same hb]; exact hc.2.2 0 v rfl

/-- An index into a slice. -/
theorem vo_index (hC : Fnc C P fn n g0 L Post) (hT : TabOk P T) {o : Oper} {t : Nat} {x y : Operand} {b off len cap : Nat} {i : Int} {d de : TD} (ho : o.op = .indexAddr t x y) (hx : evg [] s.env x = some (.c (.v (.slice (some ⟨b, off, none⟩) len cap))))
    (hy : evg [] s.env y = some (.c (.v (.int .i64 i)))) (hd : T t = some d) (hcl : d.cl = 1) (hde : T d.el = some de) (h0 : 0 ≤ i) (hl : i < len) : Vo C g s o (.pointer (some ⟨b, off + i.toNat * de.size, none⟩)) [] := by
  intro a w m hs w2 _
  obtain ⟨_, u, _, hu, _, _, _, _, _, _, _, hsl, _⟩ := hT.ok t d hd
  obtain ⟨ie, _, hie, _, hsz, _⟩ := hT.ok d.el de hde
  have e1 : a.eval x = .slice (some ⟨b, off, none⟩) len cap := (hs.ev hx).1
  have e2 : a.eval y = .int .i64 i := (hs.ev hy).1
  have e3 : (⟨b, off, none⟩ : Addr).add (i.toNat * de.size) = ⟨b, off + i.toNat * de.size, none⟩ := add_plain _ _ _
  rw [hsl hcl] at hu
  simp only [execOp, ho, e1, e2, Instr.indexAt, asIntOf, pure_bind]
  rw [hC.P]
  simp [run_underlying hu, sizeOf, rti hie, hsz, h0, hl, e3]

/-- A byte of a string. -/
theorem vo_byte (hC : Fnc C P fn n g0 L Post) (hT : TabOk P T) {o : Oper} {t : Nat} {x y : Operand} {str : ByteArray} {i : Nat} {d : TD} (ho : o.op = .index t x y) (hx : evg [] s.env x = some (.c (.v (.string str))))
    (hy : evg [] s.env y = some (.c (.v (.int .i64 i)))) (hd : T t = some d) (hcl : d.cl = 2) (hl : i < str.size) : Vo C g s o (.int .u8 (str[i]).toNat) [] := by
  intro a w m hs w2 _
  obtain ⟨_, u, _, hu, _, _, _, _, _, _, _, _, hsl⟩ := hT.ok t d hd
  have e1 : a.eval x = .string str := (hs.ev hx).1
  have e2 : a.eval y = .int .i64 i := (hs.ev hy).1
  rw [hsl hcl] at hu
  simp only [execOp, ho, e1, e2, Instr.index, asIntOf, pure_bind]
  rw [hC.P]
  simp [run_underlying hu, hl]

/-- A function without a body. -/
theorem vo_extern (hC : Fnc C P fn n g0 L Post) {o : Oper} {f : FuncId} {args : Array Operand} {tys : Array TypeId} {vs : List SV} {fe : Func} {e : Array Value → Sem Value} {v : Value} (ho : o.op = .call ⟨.value (.func f), args, tys⟩) (hv : evs s.env args.toList = some vs)
    (hf : P.funcs[f]? = some fe) (hname : (fe.name == "runtime.NumGoroutine") = false) (hb : fe.body.isNone = true) (hn : Extern.findNext fe = none) (he : Extern.find fe = some e)
    (hr : ∀ m w, (e (vs.map (SV.val m)).toArray).run P w = .ok v w) : Vo C g s o v [] := by
  intro a w m hs w2 _
  have hargs : args.map a.eval = (vs.map (SV.val m)).toArray := by
    rw [← evs_ok hs hv]; apply Array.ext'; simp
  simp only [execOp, ho, resolve, Act.eval, Deferred.ofValue, Sem.run_bind, Sem.run_pure, Result.andThen_ok, invoke]
  rw [hC.P]
  have := run_callFunc_extern hf hname hb hn he (args.map a.eval) w2
  rw [hargs, hr, Result.andThen_ok] at this
  simpa [hargs] using this

/-! ### A state made small -/

def lowC (n : Nat) : SC → Bool
  | .v _ => true
  | .bp i _ => decide (i < n)
  | .bs i _ _ => decide (i < n)
  | .fn _ a b => a.all (fun | .b i _ => decide (i < n) | .v _ => true) && b.all (fun | .b i _ => decide (i < n) | .v _ => true)

def lowV (n : Nat) : SV → Bool
  | .c x => lowC n x
  | .ag l => l.all (lowC n)
  | .tp l => l.all fun | .inl x => lowC n x | .inr l => l.all (lowC n)
  | .gd .. => false

theorem take_getD {n i : Nat} (h : i < n) (hn : n ≤ m.length) (t t' : List Nat) : (m.take n ++ t).getD i 0 = (m ++ t').getD i 0 := by
  have h1 : i < (m.take n).length := by simp; omega
  have h2 : i < m.length := by omega
  simp only [List.getD_eq_getElem?_getD]
  rw [List.getElem?_append_left h1, List.getElem?_append_left h2, List.getElem?_take, if_pos h]

theorem cap_low {n : Nat} (hn : n ≤ m.length) (t t' : List Nat) {l : List Cap} (h : l.all (fun | .b i _ => decide (i < n) | .v _ => true) = true) : l.map (Cap.val (m.take n ++ t)) = l.map (Cap.val (m ++ t')) := by
  apply List.map_congr_left
  intro c hc
  have := List.all_eq_true.1 h c hc
  cases c with
  | v => rfl
  | b i off => simp only [decide_eq_true_eq] at this; simp only [Cap.val]; rw [take_getD this hn t t']

theorem lowC_val {n : Nat} (hn : n ≤ m.length) (t t' : List Nat) {x : SC} (h : lowC n x = true) : x.val (m.take n ++ t) = x.val (m ++ t') := by
  cases x with
  | v => rfl
  | bp i off => simp only [lowC, decide_eq_true_eq] at h; simp only [SC.val]; rw [take_getD h hn t t']
  | bs i l c => simp only [lowC, decide_eq_true_eq] at h; simp only [SC.val]; rw [take_getD h hn t t']
  | fn f a b =>
    simp only [lowC, Bool.and_eq_true] at h
    simp only [SC.val]
    rw [cap_low hn t t' h.1, cap_low hn t t' h.2]

theorem lowL_val {n : Nat} (hn : n ≤ m.length) (t t' : List Nat) {l : List SC} (h : l.all (lowC n) = true) : vals (m.take n ++ t) l = vals (m ++ t') l := by
  unfold vals
  congr 1
  exact List.map_congr_left fun x hx => lowC_val hn t t' (List.all_eq_true.1 h x hx)

theorem lowV_val {n : Nat} (hn : n ≤ m.length) (t t' : List Nat) {x : SV} (h : lowV n x = true) : x.val (m.take n ++ t) = x.val (m ++ t') := by
  cases x with
  | c x => exact lowC_val hn t t' h
  | ag l => simp only [SV.val, lowL_val hn t t' h]
  | tp l =>
    simp only [SV.val]
    congr 2
    apply List.map_congr_left
    intro y hy
    have := List.all_eq_true.1 h y hy
    cases y with
    | inl x => exact lowC_val hn t t' this
    | inr l => simp only [lowL_val hn t t' this]
  | gd => cases h

/-- State s' says no more than s, of the first boxes. -/
structure Wk (s : St) (m : List Nat) (s' : St) : Prop where
  nb : s'.nb ≤ s.nb
  env : ∀ p ∈ s'.env, lk s.env p.1 = some p.2 ∧ lowV s'.nb p.2 = true
  gl : s'.gl = []
  bx : ∀ i, i < s'.nb → lk s'.bx i = lk s.bx i
  bxl : ∀ p ∈ s'.bx, p.1 < s'.nb ∧ p.2.cells.all (lowC s'.nb) = true
  bl : ∃ t, m.take s'.nb = s'.bl ++ t

theorem lowV_gd {n : Nat} {x : SV} (h : lowV n x = true) : isGd x = false := by cases x <;> first | rfl | cases h

theorem Sat.wk (hs : Sat C g s a w m) (lab : Nat → Nat) {s' : St} (h : Wk s m s') (hlab : ∀ i, i < s'.nb → lab i = 1) : Sat C ⟨w, ownOf g s w m lab⟩ s' a w (m.take s'.nb) := by
  have hn : s'.nb ≤ m.length := by rw [hs.len]; exact h.nb
  refine ⟨h.bl, by simp; omega, hs.dfs, hs.tmps, fun t x y hy => ?_, fun t u b y hy => ?_, ?_, fun i b hb => ?_, fun i hi => ?_, fun k hk => hs.own0 k (List.mem_of_mem_take hk), Nat.le_refl _, Nat.le_trans hs.size0 hs.size,
    fun k hk => hs.fresh k (List.mem_of_mem_take hk), fun _ _ _ => rfl, hs.base, fun k hk => own_low hs lab hk, own_wf hs lab, hs.os, hs.tape, hs.out⟩
  · obtain ⟨h1, h2⟩ := h.env _ (lk_mem hy)
    have h3 := hs.env0 x y h1
    have h4 := lowV_val hn t [] h2
    rw [List.append_nil] at h4
    cases y with
    | gd => cases h2
    | c => dsimp only at h3 ⊢; rw [h3, h4]
    | ag => dsimp only at h3 ⊢; rw [h3, h4]
    | tp => dsimp only at h3 ⊢; rw [h3, h4]
  · obtain ⟨_, h2⟩ := h.env _ (lk_mem hy)
    cases h2
  · exact List.Nodup.sublist (List.take_sublist _ _) hs.nd
  · obtain ⟨h1, h2⟩ := h.bxl _ (lk_mem hb)
    have hb' : lk s.bx i = some b := by rw [← h.bx i h1]; exact hb
    obtain ⟨k, hk, hw, _⟩ := hs.bxs i b hb'
    refine ⟨k, by rw [List.getElem?_take, if_pos h1]; exact hk, fun t => ?_, fun _ => ?_⟩
    · rw [lowL_val hn t [] h2]; exact hw []
    · simp only [ownOf, idxOf_nd hs.nd hk, hb', hlab i h1]
  · obtain ⟨b, hb⟩ := hs.full i (Nat.lt_of_lt_of_le hi h.nb)
    exact ⟨b, by rw [h.bx i hi]; exact hb⟩

/-- From here on with a smaller state, over a world that has a name. -/
theorem small (lab : Nat → Nat) {k : List KI} (hk : noD k = true) (H : ∀ m g1, Prv [1] g g1 → Expo s m lab g1 → ∃ s', Wk s m s' ∧ (∀ i, i < s'.nb → lab i = 1) ∧ Sg C g1 ⟨k, s'⟩) : Sg C g ⟨k, s⟩ := by
  intro a w m hs
  obtain ⟨s', h1, h2, h3⟩ := H m _ ⟨hs.keeps lab, by simp⟩ (hs.expo lab)
  have := h3 a w _ (hs.wk lab h1 h2)
  rw [den_noD hk] at this ⊢
  exact this

/-! ### Loops -/

def Again (C : Ctx) {ι : Type} (I : ι → Prop) (F : ι → G) (S : ι → St) (μ : ι → Nat) (x : ι) (a : Act) (w : World) : Prop := ∃ x', I x' ∧ μ x' < μ x ∧ ∃ m, Sat C (F x') (S x') a w m

theorem loop {ι : Type} (I : ι → Prop) (F : ι → G) (S : ι → St) (μ : ι → Nat) {B : Code} {k : List KI} (hb : ∀ x, I x → Sg C (F x) ⟨.code B :: .kont (Again C I F S μ x) :: k, S x⟩) : ∀ x, I x → Sg C (F x) ⟨.code (.loop B) :: k, S x⟩ := by
  intro x hx a w m hs
  show (Code.loop B).wp C.P (denK C k) a w
  intro b kk cs
  have key : ∀ n x a w m, μ x = n → I x → Sat C (F x) (S x) a w m →
      ∃ e a' w', denK C k e a' w' ∧ Arrives C.P (lone (b.at a (.code B :: .inLoop B :: kk)) cs w) b kk cs e a' w' := by
    intro n
    induction n using Nat.strongRecOn with
    | _ n ih =>
      intro x a w m hn hI hs
      obtain ⟨e, a₁, w₁, hq, harr⟩ := hb x hI a w m hs b (.inLoop B :: kk) cs
      cases e with
      | normal =>
        obtain ⟨x', hI', hlt, m', hs'⟩ := hq
        obtain ⟨e₂, a₂, w₂, hq₂, harr₂⟩ := ih (μ x') (hn ▸ hlt) x' a₁ w₁ m' rfl hI' hs'
        exact ⟨e₂, a₂, w₂, hq₂, .of_steps (Steps.trans harr (.one step_inLoop)) harr₂⟩
      | exit id => exact ⟨_, a₁, w₁, hq, .pass (x := .inLoop B) rfl (fun _ _ => .inl (by simp)) harr⟩
      | goto l => exact ⟨_, a₁, w₁, hq, .pass (x := .inLoop B) rfl (fun _ _ => .inl (by simp)) harr⟩
      | ret => exact ⟨_, a₁, w₁, hq, .pass (x := .inLoop B) rfl (fun _ _ => .inl (by simp)) harr⟩
      | panic ch => exact ⟨_, a₁, w₁, hq, .pass (x := .inLoop B) rfl (fun _ _ => .inl (by simp)) harr⟩
      | outgrown => exact ⟨_, a₁, w₁, hq, .pass (x := .inLoop B) rfl (fun _ _ => .inl (by simp)) harr⟩
  obtain ⟨e, a', w', hq, harr⟩ := key _ x a w m rfl hx hs
  exact ⟨e, a', w', hq, .of_steps (.one step_loop) harr⟩

/-- The round has ended: once more. -/
theorem again {ι : Type} {I : ι → Prop} {F : ι → G} {S : ι → St} {μ : ι → Nat} {x : ι} {k : List KI} (lab : Nat → Nat)
    (H : ∀ m g1, Prv [1] g g1 → Expo s m lab g1 → ∃ x', I x' ∧ μ x' < μ x ∧ F x' = g1 ∧ Wk s m (S x') ∧ (∀ i, i < (S x').nb → lab i = 1)) : Sg C g ⟨.kont (Again C I F S μ x) :: k, s⟩ := by
  intro a w m hs
  obtain ⟨x', h1, h2, h3, h4, h5⟩ := H m _ ⟨hs.keeps lab, by simp⟩ (hs.expo lab)
  exact ⟨x', h1, h2, _, by rw [h3]; exact hs.wk lab h4 h5⟩
end
attribute [go_sem] lowC lowV
end Go.Eng

/- Steps of any kind, by contract; objects. -/
namespace Go.Eng
open Go

/-- From g on all that is not owned by one of L stands: along the whole chain. -/
class Kp (L : outParam (List Nat)) (g g' : G) : Prop where
  ks : Keeps L g g'

theorem Keeps.refl (g : G) : Keeps [] g g := ⟨Nat.le_refl _, fun _ _ _ => ⟨rfl, rfl⟩⟩
theorem Keeps.trans {L L' : List Nat} {a b c : G} (h : Keeps L a b) (h' : Keeps L' b c) : Keeps (L ++ L') a c :=
  ⟨Nat.le_trans h.size h'.size, fun k hk hl => by
    simp only [List.mem_append, not_or] at hl
    obtain ⟨e1, e2⟩ := h.keep k hk hl.1
    obtain ⟨e3, e4⟩ := h'.keep k (Nat.lt_of_lt_of_le hk h.size) (by rw [e1]; exact hl.2)
    exact ⟨e3.trans e1, e4.trans e2⟩⟩

instance Kp.refl (g : G) : Kp [] g g := ⟨Keeps.refl g⟩
instance Kp.prv {L L' : List Nat} {a b c : G} [h : Prv L b c] [h' : Kp L' a b] : Kp (L' ++ L) a c := ⟨h'.ks.trans h.ks⟩

/-- Block b is l's: these cells. -/
structure Ob (g : G) (l b : Nat) (ty : Nat) (cs : List Value) : Prop where
  lt : b < g.w.heap.size
  own : g.o b = l
  at_ : g.w.heap[b]? = some (.cells cs.toArray ty (0, 0))

theorem Ob.ks {L : List Nat} {g g' : G} (hk : Keeps L g g') {l b ty : Nat} {cs : List Value} (h : Ob g l b ty cs) (hl : l ∉ L) : Ob g' l b ty cs := by
  obtain ⟨e1, e2⟩ := hk.keep b h.lt (by rw [h.own]; exact hl)
  exact ⟨Nat.lt_of_lt_of_le h.lt hk.size, e1.trans h.own, e2.trans h.at_⟩

theorem Cs.ks {L : List Nat} {g g' : G} (hk : Keeps L g g') {l b off : Nat} {vs : List Value} (h : Cs g l b off vs) (hl : l ∉ L) : Cs g' l b off vs := by
  obtain ⟨e1, e2⟩ := hk.keep b h.1 (by rw [h.2.1]; exact hl)
  exact ⟨Nat.lt_of_lt_of_le h.1 hk.size, e1.trans h.2.1, fun j v hj => by rw [cell_same e2]; exact h.2.2 j v hj⟩

/-- Cells of an object, from a place on. -/
theorem Ob.cs {g : G} {l b ty : Nat} {cs : List Value} (h : Ob g l b ty cs) (off : Nat) {vs : List Value} (hv : ∀ j v, vs[j]? = some v → cs[off + j]? = some v) : Cs g l b off vs :=
  ⟨h.lt, h.own, fun j v hj => by simp [World.cell?, h.at_, hv j v hj]⟩

theorem Ob.all {g : G} {l b ty : Nat} {cs : List Value} (h : Ob g l b ty cs) : Cs g l b 0 cs := h.cs 0 fun j v hj => by simpa using hj

section
variable {C : Ctx} {P : Program} {fn : Func} {n : Nat} {g0 g : G} {L0 : List Nat} {Post : Value → G → Prop} {s : St} {T : Tab} {a : Act} {w : World} {m : List Nat}

/-- What an operation does in a world: v, and what holds behind it. -/
def Does (C : Ctx) (a : Act) (o : Oper) (g : G) (L : List Nat) (Post : Value → G → Prop) : Prop :=
  ∀ (K : Act → World → Prop) (Q : Exit → Act → World → Prop), (∀ v g2, Step L g g2 → Post v g2 → K (a.put o.dst v) g2.w) → o.wp C.P a g.w K Q

theorem chg_do' {o : Oper} (L : List Nat) (l : Nat) (hl0 : l ≠ 0) (hlL : l ∉ L) (h0L : 0 ∉ L) (h1L : 1 ∉ L) (hd : okDst C.n s o.dst = true)
    {Φ : G → St → Prop} (H : ∀ a w m g1, Sat C g s a w m → g1.w = w → WF g1 → Prv [1] g g1 → Expo s m (fun _ => l) g1 →
      (∀ k, k < C.g0.w.heap.size → g1.o k = C.g0.o k) → C.g0.w.heap.size ≤ g1.w.heap.size →
      ∃ Post, Does C a o g1 L Post ∧ (∀ v g2, Step L g1 g2 → Post v g2 → ∀ k, k < C.g0.w.heap.size → C.g0.o k ∉ C.L → g2.w.heap[k]? = g1.w.heap[k]?) ∧
        ∀ v g2 g3, Prv L g1 g2 → Step L g1 g2 → Post v g2 → Prv [l] g2 g3 → g3.w = g2.w → Φ g3 (putE (nameAll s m) o.dst (ofV v))) :
    Chg C (fun _ fl => ∀ x ∈ fl, x ∉ L ∧ x ≠ 1) g s o Φ := by
  intro a w m hs K Q hk
  obtain ⟨Post, hdo, hB, hΦ⟩ := H a w m ⟨w, ownOf g s w m fun _ => l⟩ hs rfl (own_wf hs _) ⟨hs.keeps _, by simp⟩ (hs.expo _) (fun k hk => own_low hs _ hk) (Nat.le_trans hs.size0 hs.size)
  refine hdo K Q fun v g2 st hp => ?_
  obtain ⟨w2, o2⟩ := g2
  -- the boxes' owner is told anew
  let o3 : Nat → Nat := fun k => if k ∈ m ∧ o2 k = l then 1 else o2 k
  have hks : Keeps L ⟨w, ownOf g s w m fun _ => l⟩ ⟨w2, o2⟩ := ⟨st.size, fun k hk hl => ⟨st.own k hk, st.keep k hk hl⟩⟩
  have h23 : Keeps [l] ⟨w2, o2⟩ ⟨w2, o3⟩ := ⟨Nat.le_refl _, fun k hk hl => ⟨by
    simp only [List.mem_singleton] at hl
    show (if k ∈ m ∧ o2 k = l then 1 else o2 k) = o2 k
    rw [if_neg (fun h => hl h.2)], rfl⟩⟩
  have hφ := hΦ v ⟨w2, o2⟩ ⟨w2, o3⟩ ⟨hks, h0L⟩ st hp ⟨h23, by simp only [List.mem_singleton]; exact fun e => hl0 e.symm⟩ rfl
  have ho2 : ∀ k, k < w.heap.size → o2 k = ownOf g s w m (fun _ => l) k := st.own
  have hbxo : ∀ i b k, lk s.bx i = some b → m[i]? = some k → ownOf g s w m (fun _ => l) k = bif b.fz then 0 else l := fun i b k hb hki => by simp only [ownOf, idxOf_nd hs.nd hki, hb]
  have hS : Sat C ⟨w2, o3⟩ (nameAll s m) a w2 m := by
    refine ⟨⟨[], by simp [nameAll]⟩, hs.len, hs.dfs, hs.tmps, hs.env, hs.gl, hs.nd, fun i b (hb' : lk s.bx i = some b) => ?_, hs.full, hs.own0, Nat.le_refl _, Nat.le_trans hs.size0 (Nat.le_trans hs.size st.size), fun k hk => Nat.lt_of_lt_of_le (hs.fresh k hk) st.size, fun _ _ _ => rfl, fun k hk hl => ?_, fun k hk => ?_, fun k hk => ?_, st.os.trans hs.os, st.tape.trans hs.tape, st.out.trans hs.out⟩
    · obtain ⟨k, hki, hw, _⟩ := hs.bxs i b hb'
      have hkm := List.mem_of_getElem? hki
      have hlt := hs.fresh k hkm
      have hown := hbxo i b k hb' hki
      refine ⟨k, hki, fun t => ?_, fun _ => ?_⟩
      · have := st.keep k hlt (by dsimp only; rw [hown]; cases b.fz <;> simp [h0L, hlL])
        rw [this]; exact hw t
      · show (if k ∈ m ∧ o2 k = l then 1 else o2 k) = _
        rw [ho2 k hlt, hown]
        cases b.fz
        · simp [hkm]
        · simp [hkm]; intro e; exact absurd e.symm hl0
    · have := hB v ⟨w2, o2⟩ st hp k hk hl
      dsimp only at this
      rw [this]; exact hs.base k hk hl
    · have hkm : k ∉ m := fun h => by have := hs.own0 k h; omega
      show (if k ∈ m ∧ o2 k = l then 1 else o2 k) = _
      rw [if_neg (fun h => hkm h.1), ho2 k (Nat.lt_of_lt_of_le hk (Nat.le_trans hs.size0 hs.size)), own_low hs _ hk]
    · have hkm : k ∉ m := fun h => by
        have h1 := hs.fresh k h
        have h2 := st.size
        dsimp only at h2 hk
        omega
      show (if k ∈ m ∧ o2 k = l then 1 else o2 k) = _
      rw [if_neg (fun h => hkm h.1)]
      exact st.wf k hk
  refine hk _ _ _ w2 m hφ (hS.put (by cases h : o.dst <;> rw [h] at hd <;> exact hd) (isGd_ofV v) fun t => ofV_val _ v) ⟨st.size, fun N hN h0 hm ho => ?_, fun u hu => put_tmps hu, fun fb fl hA => ⟨fun x h2 => ?_, fun h2 => ?_⟩⟩
  · have hown : ownOf g s w m (fun _ => l) N = 1 := by
      simp only [ownOf, idxOf_none hm]
      by_cases hNg : N < g.w.heap.size
      · rw [if_pos hNg]; exact ho hNg
      · rw [if_neg hNg, if_pos hN]
    refine ⟨st.keep N hN (by dsimp only; rw [hown]; exact h1L), fun _ => ?_, hm⟩
    show (if N ∈ m ∧ o2 N = l then 1 else o2 N) = 1
    rw [if_neg (fun h => hm h.1), ho2 N hN, hown]
  · have hbx : (putE (nameAll s m) o.dst (ofV v)).bx = s.bx := by cases o.dst <;> rfl
    rw [hbx] at h2
    refine ⟨h2.1, fun k hk hl => ?_⟩
    obtain ⟨hA1, hA2⟩ := hA _ hl
    have hkw := Nat.lt_of_lt_of_le hk hs.size
    obtain ⟨e0, e0'⟩ := (hs.keeps fun _ => l).keep k hk (by simpa using hA2)
    dsimp only at e0 e0'
    have e1 : o3 k = g.o k := by
      show (if k ∈ m ∧ o2 k = l then 1 else o2 k) = _
      rw [ho2 k hkw, e0]
      split
      · rename_i h
        exfalso
        obtain ⟨hkm, hkl⟩ := h
        obtain ⟨i, hi, e⟩ := List.getElem_of_mem hkm
        have hki : m[i]? = some k := by rw [List.getElem?_eq_getElem hi, e]
        obtain ⟨b, hb⟩ := hs.full i (by rw [← hs.len]; exact hi)
        obtain ⟨k', hk', _, hoo⟩ := hs.bxs i b hb
        rw [hki] at hk'
        obtain rfl := Option.some.inj hk'
        have h3 := hoo hk
        cases hz : b.fz
        · rw [hz] at h3; exact hA2 h3
        · rw [hz] at h3; rw [h3] at hkl; exact hl0 hkl.symm
      · rfl
    rw [h2.2 k (Nat.lt_of_lt_of_le hkw st.size) (by dsimp only; rw [e1]; exact hl)]
    have e2 := st.keep k hkw (by dsimp only; rw [e0]; exact hA1)
    dsimp only at e2 ⊢
    rw [e2]
    exact e0'
  · have hbx : (putE (nameAll s m) o.dst (ofV v)).bx = s.bx := by cases o.dst <;> rfl
    rw [hbx]
    refine ⟨fun i hi b hb' => ?_, fun k hk hl => rfl⟩
    obtain ⟨k, hki, hw, _⟩ := hs.bxs i b hb'
    have hlt := hs.fresh k (List.mem_of_getElem? hki)
    have hown := hbxo i b k hb' hki
    refine ⟨k, hki, ?_⟩
    have := st.keep k hlt (by dsimp only; rw [hown]; cases b.fz <;> simp [h0L, hlL])
    rw [this]
    have := hw []
    rwa [List.append_nil] at this

theorem chg_do {o : Oper} (L : List Nat) (l : Nat) (hl0 : l ≠ 0) (hlL : l ∉ L) (hL : ∀ l ∈ L, l ∈ C.L ∧ l ≠ 0 ∧ l ≠ 1) (hd : okDst C.n s o.dst = true)
    {Φ : G → St → Prop} (H : ∀ a w m g1, Sat C g s a w m → g1.w = w → WF g1 → Prv [1] g g1 → Expo s m (fun _ => l) g1 →
      (∀ k, k < C.g0.w.heap.size → g1.o k = C.g0.o k) → C.g0.w.heap.size ≤ g1.w.heap.size →
      ∃ Post, Does C a o g1 L Post ∧ ∀ v g2 g3, Prv L g1 g2 → Step L g1 g2 → Post v g2 → Prv [l] g2 g3 → g3.w = g2.w → Φ g3 (putE (nameAll s m) o.dst (ofV v))) :
    Chg C (fun _ fl => ∀ x ∈ fl, x ∉ L ∧ x ≠ 1) g s o Φ :=
  chg_do' L l hl0 hlL (fun h => (hL 0 h).2.1 rfl) (fun h => (hL 1 h).2.2 rfl) hd fun a w m g1 q1 q2 q3 q4 q5 q6 q7 => by
    obtain ⟨Post, h1, h2⟩ := H a w m g1 q1 q2 q3 q4 q5 q6 q7
    exact ⟨Post, h1, fun v g2 st _ k hk hl => st.keep k (Nat.lt_of_lt_of_le hk q7) (by rw [q6 k hk]; exact fun h => hl (hL _ h).1), h2⟩

/-- The same, where what is written is this call's own. -/
theorem stpF (hC : Fnc C P fn n g0 L0 Post) {o : Oper} {all : Array Oper} {r : List Oper} {k : List KI} (L : List Nat) (l : Nat) (hl0 : l ≠ 0) (hlL : l ∉ L) (h0L : 0 ∉ L) (h1L : 1 ∉ L) (hw : gOn all s o = true) (hd : okDst n s o.dst = true)
    (H : ∀ a w m g1, Sat C g s a w m → g1.w = w → WF g1 → Prv [1] g g1 → Expo s m (fun _ => l) g1 →
      (∀ k, k < g0.w.heap.size → g1.o k = g0.o k) → g0.w.heap.size ≤ g1.w.heap.size →
      ∃ Post, Does C a o g1 L Post ∧ (∀ v g2, Step L g1 g2 → Post v g2 → ∀ k, k < g0.w.heap.size → g0.o k ∉ L0 → g2.w.heap[k]? = g1.w.heap[k]?) ∧
        ∀ v g2 g3, Prv L g1 g2 → Step L g1 g2 → Post v g2 → Prv [l] g2 g3 → g3.w = g2.w → Sg C g3 ⟨.ops all r :: k, putE (nameAll s m) o.dst (ofV v)⟩) :
    Sg C g ⟨.ops all (o :: r) :: k, s⟩ := by
  rw [← hC.n] at hd
  rw [← hC.g0, ← hC.L] at H
  exact sg_ops (gOn_ok hw) (chg_do' (Φ := fun g2 s2 => Sg C g2 ⟨.ops all r :: k, s2⟩) L l hl0 hlL h0L h1L hd H) fun _ _ h => h

theorem stpFD (hC : Fnc C P fn n g0 L0 Post) {o : Oper} {i : Nat} {all : Array Oper} {p : List (Nat × Nat)} {st fb fl : List Nat} {vt : Option (Nat × Nat × Nat)} {k : List KI} (L : List Nat) (l : Nat) (hl0 : l ≠ 0) (hlL : l ∉ L) (h0L : 0 ∉ L) (h1L : 1 ∉ L)
    (hi : all[i]? = some o) (hw : gOn all s o = true) (hd : okDst n s o.dst = true) (hfl : ∀ x ∈ fl, x ∉ L ∧ x ≠ 1) (hvt : vtOk all vt o = true)
    (H : ∀ a w m g1, Sat C g s a w m → g1.w = w → WF g1 → Prv [1] g g1 → Expo s m (fun _ => l) g1 →
      (∀ k, k < g0.w.heap.size → g1.o k = g0.o k) → g0.w.heap.size ≤ g1.w.heap.size →
      ∃ Post, Does C a o g1 L Post ∧ (∀ v g2, Step L g1 g2 → Post v g2 → ∀ k, k < g0.w.heap.size → g0.o k ∉ L0 → g2.w.heap[k]? = g1.w.heap[k]?) ∧
        ∀ v g2 g3, Prv L g1 g2 → Step L g1 g2 → Post v g2 → Prv [l] g2 g3 → g3.w = g2.w → Sg C g3 ⟨.opsD all p st fb fl vt :: k, putE (nameAll s m) o.dst (ofV v)⟩) :
    Sg C g ⟨.opsD all ((i, 1) :: p) st fb fl vt :: k, s⟩ := by
  rw [← hC.n] at hd
  rw [← hC.g0, ← hC.L] at H
  refine sgD_chg (Φ := fun g2 s2 => Sg C g2 ⟨.opsD all p st fb fl vt :: k, s2⟩ ∧ ∃ m v, s2 = putE (nameAll s m) o.dst (ofV v)) hi (gOn_ok hw)
    (chg_do' L l hl0 hlL h0L h1L hd fun a w m g1 h1 h2 h3 h4 h5 h6 h7 => ?_) hfl (fun j u ty e => ?_) fun g2 s2 h => h.1
  · obtain ⟨Post, q1, q0, q2⟩ := H a w m g1 h1 h2 h3 h4 h5 h6 h7
    exact ⟨Post, q1, q0, fun v g2 g3 p1 p2 p3 p4 p5 => ⟨q2 v g2 g3 p1 p2 p3 p4 p5, m, v, rfl⟩⟩
  · subst e
    unfold vtOk at hvt
    simp only [Bool.and_eq_true, bne_iff_ne, ne_eq] at hvt
    refine ⟨hvt.1, fun g2 s2 h => ?_⟩
    obtain ⟨_, m, v, rfl⟩ := h
    exact ⟨putE_lk hvt.1, fun hu => by rw [putE_gl]; exact hu⟩

/-- A step by contract; its boxes are owned by l for so long. -/
theorem stp (hC : Fnc C P fn n g0 L0 Post) {o : Oper} {all : Array Oper} {r : List Oper} {k : List KI} (L : List Nat) (l : Nat) (hl0 : l ≠ 0) (hlL : l ∉ L) (hL : ∀ l ∈ L, l ∈ L0 ∧ l ≠ 0 ∧ l ≠ 1) (hw : gOn all s o = true) (hd : okDst n s o.dst = true)
    (H : ∀ a w m g1, Sat C g s a w m → g1.w = w → WF g1 → Prv [1] g g1 → Expo s m (fun _ => l) g1 →
      (∀ k, k < g0.w.heap.size → g1.o k = g0.o k) → g0.w.heap.size ≤ g1.w.heap.size →
      ∃ Post, Does C a o g1 L Post ∧ ∀ v g2 g3, Prv L g1 g2 → Step L g1 g2 → Post v g2 → Prv [l] g2 g3 → g3.w = g2.w → Sg C g3 ⟨.ops all r :: k, putE (nameAll s m) o.dst (ofV v)⟩) :
    Sg C g ⟨.ops all (o :: r) :: k, s⟩ := by
  rw [← hC.L] at hL
  rw [← hC.n] at hd
  rw [← hC.g0] at H
  exact sg_ops (gOn_ok hw) (chg_do (Φ := fun g2 s2 => Sg C g2 ⟨.ops all r :: k, s2⟩) L l hl0 hlL hL hd H) fun _ _ h => h

theorem stpD (hC : Fnc C P fn n g0 L0 Post) {o : Oper} {i : Nat} {all : Array Oper} {p : List (Nat × Nat)} {st fb fl : List Nat} {vt : Option (Nat × Nat × Nat)} {k : List KI} (L : List Nat) (l : Nat) (hl0 : l ≠ 0) (hlL : l ∉ L) (hL : ∀ l ∈ L, l ∈ L0 ∧ l ≠ 0 ∧ l ≠ 1)
    (hi : all[i]? = some o) (hw : gOn all s o = true) (hd : okDst n s o.dst = true) (hfl : ∀ x ∈ fl, x ∉ L ∧ x ≠ 1) (hvt : vtOk all vt o = true)
    (H : ∀ a w m g1, Sat C g s a w m → g1.w = w → WF g1 → Prv [1] g g1 → Expo s m (fun _ => l) g1 →
      (∀ k, k < g0.w.heap.size → g1.o k = g0.o k) → g0.w.heap.size ≤ g1.w.heap.size →
      ∃ Post, Does C a o g1 L Post ∧ ∀ v g2 g3, Prv L g1 g2 → Step L g1 g2 → Post v g2 → Prv [l] g2 g3 → g3.w = g2.w → Sg C g3 ⟨.opsD all p st fb fl vt :: k, putE (nameAll s m) o.dst (ofV v)⟩) :
    Sg C g ⟨.opsD all ((i, 1) :: p) st fb fl vt :: k, s⟩ := by
  rw [← hC.L] at hL
  rw [← hC.n] at hd
  rw [← hC.g0] at H
  refine sgD_chg (Φ := fun g2 s2 => Sg C g2 ⟨.opsD all p st fb fl vt :: k, s2⟩ ∧ ∃ m v, s2 = putE (nameAll s m) o.dst (ofV v)) hi (gOn_ok hw)
    (chg_do L l hl0 hlL hL hd fun a w m g1 h1 h2 h3 h4 h5 h6 h7 => ?_) hfl (fun j u ty e => ?_) fun g2 s2 h => h.1
  · obtain ⟨Post, q1, q2⟩ := H a w m g1 h1 h2 h3 h4 h5 h6 h7
    exact ⟨Post, q1, fun v g2 g3 p1 p2 p3 p4 p5 => ⟨q2 v g2 g3 p1 p2 p3 p4 p5, m, v, rfl⟩⟩
  · subst e
    unfold vtOk at hvt
    simp only [Bool.and_eq_true, bne_iff_ne, ne_eq] at hvt
    refine ⟨hvt.1, fun g2 s2 h => ?_⟩
    obtain ⟨_, m, v, rfl⟩ := h
    exact ⟨putE_lk hvt.1, fun hu => by rw [putE_gl]; exact hu⟩

/-- What runs to a value. -/
theorem does_val {o : Oper} {g1 : G} {L : List Nat} {Post : Value → G → Prop} {v : Value} {g2 : G} (hr : (execOp a.eval o).run C.P g1.w = .ok (.value v) g2.w) (st : Step L g1 g2) (hp : Post v g2) : Does C a o g1 L Post := by
  intro K Q hk
  unfold Oper.wp
  rw [hr]
  exact hk v g2 st hp

theorem does_skip {o : Oper} {g1 : G} {L : List Nat} {Post : Value → G → Prop} {g2 : G} (hr : (execOp a.eval o).run C.P g1.w = .ok .skip g2.w) (st : Step L g1 g2) (hp : Post undef g2) : Does C a o g1 L Post := by
  intro K Q hk
  unfold Oper.wp
  rw [hr]
  exact hk undef g2 st hp

/-- A call of a function value, or of a function. -/
theorem does_call {o : Oper} {g1 : G} {L : List Nat} {Post : Value → G → Prop} {f : FuncId} {x : Operand} {args : Array Operand} {tys : Array TypeId} {first caps vs : List Value} (hb : callable C.P f = true)
    (ho : o.op = .call ⟨.value x, args, tys⟩) (hx : a.eval x = .func (.func f) first.toArray caps.toArray) (hv : args.toList.map a.eval = vs) (hw : WF g1) (hok : Ok C.P f (first ++ vs ++ caps) g1 L Post) : Does C a o g1 L Post := by
  intro K Q hk
  have hc := hok hw
  have hargs : args.map a.eval = vs.toArray := by rw [← hv]; apply Array.ext'; simp
  have hr : (execOp a.eval o).run C.P g1.w = .ok (.enter f (first ++ vs ++ caps).toArray) g1.w := by
    have hb' := eq_of_beq hb
    rw [Option.map_eq_some_iff] at hb'
    obtain ⟨fn, hfn, hb'⟩ := hb'
    simp only [Bool.and_eq_true, bne_iff_ne, ne_eq] at hb'
    obtain ⟨bc, hbody⟩ := Option.isSome_iff_exists.1 hb'.1
    simp only [execOp, ho, resolve, hx, Deferred.ofValue, Sem.run_bind, Sem.run_pure, Result.andThen_ok, invoke]
    simp [callFunc, hfn, hb'.2, hbody, hargs]
  unfold Oper.wp
  rw [hr, Oper.upon_enter]
  refine hc.mono fun e w2 he => ?_
  obtain ⟨v, o2, rfl, st, hp⟩ := he
  exact hk v ⟨w2, o2⟩ st hp
end
end Go.Eng

/- Small steps. -/
namespace Go.Eng
open Go

/-! ### The run, so that nothing opens it but its equations -/

noncomputable def exO : Nat → Tab → Nat → Cfg → Cfg := Classical.choose (⟨ex, rfl⟩ : ∃ f, f = ex)
theorem exO_eq : exO = ex := Classical.choose_spec (⟨ex, rfl⟩ : ∃ f, f = ex)
theorem exO_zero (T : Tab) (n : Nat) (c : Cfg) : exO 0 T n c = c := by rw [exO_eq]; rfl
theorem exO_succ (f : Nat) (T : Tab) (n : Nat) (c : Cfg) : exO (f + 1) T n c = match c.k with
    | .ops all (o :: r) :: k => match stepO T n all c.s o with
      | some s' => exO f T n ⟨.ops all r :: k, s'⟩
      | none => c
    | .ops _ [] :: k => bif noD k then exO f T n ⟨k, c.s⟩ else c
    | .code (.seq x y) :: k => exO f T n ⟨.code x :: .code y :: k, c.s⟩
    | .code .skip :: k => bif noD k then exO f T n ⟨k, c.s⟩ else c
    | .code (.block id b) :: k => exO f T n ⟨.code b :: .blk id :: k, c.s⟩
    | .code (.region _ ops false) :: k => exO f T n ⟨.ops ops ops.toList :: k, c.s⟩
    | .code (.exit id) :: k => match popTo id k with
      | some k2 => bif noD k2 then exO f T n ⟨k2, c.s⟩ else c
      | none => c
    | .blk _ :: k => bif noD k then exO f T n ⟨k, c.s⟩ else c
    | .opsD all ((i, 0) :: p) st fb fl vt :: k => match all[i]? with
      | some o => match stepF T n all c.s o with
        | some x => bif vtOk all vt o then exO f T n ⟨.opsD all p st (addb x.2 fb) fl vt :: k, x.1⟩ else c
        | none => c
      | none => c
    | .opsD all ((i, 1) :: p) st fb fl vt :: k => match all[i]? with
      | some o => match opx T n c.s o with
        | some s' => bif vtOk all vt o && gOn all c.s o && opAb c.s o fb fl then exO f T n ⟨.opsD all p st fb fl vt :: k, s'⟩ else c
        | none => c
      | none => c
    | .opsD all ((i, 2) :: p) st fb fl none :: k => match all[i]? with
      | some ⟨some u, .alloc ty, _, _, _, none⟩ => match T ty with
        | some _ => bif (lk c.s.env u).isNone && !c.s.gl.contains u && decide (u < n) then exO f T n ⟨.opsD all p st fb fl (some (i, u, ty)) :: k, c.s⟩ else c
        | none => c
      | _ => c
    | .opsD all ((i, 3) :: p) st fb fl (some (j, u, ty)) :: k => match T ty with
      | some d => bif i == j && !fb.contains c.s.nb && decide (u < n) && !c.s.gl.contains u then exO f T n ⟨.opsD all p st fb fl none :: k, putE (newB c.s ty (d.zero.map .v) false) (some u) (.c (.bp c.s.nb 0))⟩ else c
      | none => c
    | .opsD all [] st _ _ none :: k => match (st.mapM fun i => all[i]?) with
      | some l => exO f T n ⟨.ops all l :: k, c.s⟩
      | none => c
    | _ => c := by
  rw [exO_eq, ex]; rfl

section
variable {C : Ctx} {P : Program} {fn : Func} {n : Nat} {g0 g : G} {L0 : List Nat} {Post : Value → G → Prop} {s : St} {T : Tab} {a : Act} {w : World} {m : List Nat}

theorem condT {c : Operand} {x y : Code} {k : List KI} (hc : evg [] s.env c = some (.c (.v (.bool true)))) (h : Sg C g ⟨.code x :: k, s⟩) : Sg C g ⟨.code (.cond c x y) :: k, s⟩ :=
  sg_cond hc (fun _ => h) fun e => by cases e
theorem condF {c : Operand} {x y : Code} {k : List KI} (hc : evg [] s.env c = some (.c (.v (.bool false)))) (h : Sg C g ⟨.code y :: k, s⟩) : Sg C g ⟨.code (.cond c x y) :: k, s⟩ :=
  sg_cond hc (fun e => by cases e) fun _ => h

/-- The first boxes are as they were. -/
def sameB : Nat → List (Nat × Bx) → List (Nat × Bx) → Prop
  | 0, _, _ => True
  | n + 1, a, b => lk a n = lk b n ∧ sameB n a b
theorem bxs_ok' : ∀ {n : Nat} {a b : List (Nat × Bx)}, sameB n a b → ∀ i, i < n → lk a i = lk b i
  | 0, _, _, _, i, h => absurd h (by omega)
  | n + 1, a, b, h, i, hi => by
    by_cases e : i = n
    · subst e; exact h.1
    · exact bxs_ok' h.2 i (by omega)
theorem bxs_ok {n k : Nat} {a b : List (Nat × Bx)} (hn : k ≤ n) (h : sameB n a b) : ∀ i, i < k → lk a i = lk b i := fun i hi => bxs_ok' h i (by omega)

theorem Keeps.mono {L L' : List Nat} {g g' : G} (h : Keeps L g g') (hl : ∀ l ∈ L, l ∈ L') : Keeps L' g g' := ⟨h.size, fun k hk hn => h.keep k hk fun hm => hn (hl _ hm)⟩

theorem Later.of {L : List Nat} {g g' : G} (h : Keeps L g g') (h0 : 0 ∉ L) : Later g g' := ⟨h.size, fun k hk e => by
  obtain ⟨e1, e2⟩ := h.keep k hk (by rw [e]; exact h0)
  exact ⟨e1.trans e, e2⟩⟩

/-- What a chain keeps behind what is kept ahead of it. -/
theorem Keeps.then {L L' M : List Nat} {a b c : G} (h : Keeps L a b) [k : Kp L' b c] (hl : ∀ l ∈ L ++ L', l ∈ M) : Keeps M a c := (h.trans k.ks).mono hl

theorem nc1 {o : Nat} (h : o ≠ 1) : [o].contains 1 = false := by simp; exact fun e => h e.symm

theorem wrap_nat {n : Nat} (h : n ≤ 9223372036854775807) : IntKind.i64.wrap (n : Int) = n := by
  simp only [IntKind.wrap, IntKind.bits, IntKind.signed]
  simp
  omega
theorem wrap_inc {n : Nat} (h : n + 1 ≤ 9223372036854775807) : IntKind.i64.wrap ((n : Int) + 1) = (n : Int) + 1 := wrap_nat h

theorem vo_bin (hC : Fnc C P fn n g0 L0 Post) {o : Oper} {op : BinOp} {t t2 : Nat} {x y : Operand} {u v r : Value} (ho : o.op = .binOp op t x y t2) (hx : evg [] s.env x = some (.c (.v u))) (hy : evg [] s.env y = some (.c (.v v)))
    (hr : ∀ w, ((do eqGuard op t x y u v; binOp op t u v : Sem Value)).run P w = .ok r w) : Vo C g s o r [] := by
  intro a w m hs w2 _
  have e1 : a.eval x = u := (hs.ev hx).1
  have e2 : a.eval y = v := (hs.ev hy).1
  have h := hr w2
  simp only [execOp, ho, e1, e2]
  rw [hC.P, Sem.run_bind, h, Result.andThen_ok]
  rfl

theorem run_slss (x y : Operand) (t : Nat) (p q : ByteArray) (w : World) : ((do eqGuard .lss t x y (.string p) (.string q); binOp .lss t (.string p) (.string q) : Sem Value)).run P w = .ok (.bool (Op.bytesLess p.toList q.toList)) w := rfl

/-- A function value: the function, what comes ahead of the arguments, what behind. -/
def fnp : SV → Option (FuncId × (List Nat → List Value) × (List Nat → List Value))
  | .c (.fn (.func f) a b) => some (f, fun m => a.map (Cap.val m), fun m => b.map (Cap.val m))
  | .c (.v (.func (.func f) a b)) => some (f, fun _ => a.toList, fun _ => b.toList)
  | _ => none

theorem fnp_ok {v : SV} {f : FuncId} {first caps : List Nat → List Value} (h : fnp v = some (f, first, caps)) (m : List Nat) : v.val m = .func (.func f) (first m).toArray (caps m).toArray := by
  unfold fnp at h
  split at h
  · obtain ⟨rfl, rfl, rfl⟩ := Option.some.inj h; rfl
  · obtain ⟨rfl, rfl, rfl⟩ := Option.some.inj h; simp [SV.val, SC.val]
  · cases h

/-- A call of a function value; my boxes are l's for so long. -/
theorem callv (hC : Fnc C P fn n g0 L0 Post) (L' : List Nat) (l : Nat) {o : Oper} {f : FuncId} {x : Operand} {args : Array Operand} {tys : Array TypeId} {fv : SV} {first caps : List Nat → List Value} {vs : List SV} {all : Array Oper} {r : List Oper} {k : List KI} (hl : (l != 0 && !L'.contains l) = true)
    (ho : o.op = .call ⟨.value x, args, tys⟩) (hx : evg [] s.env x = some fv) (hf : fnp fv = some (f, first, caps)) (hb : callable P f = true) (hv : evs s.env args.toList = some vs) (hw : gOn all s o = true) (hL : subL L' L0 = true) (hd : okDst n s o.dst = true)
    (H : ∀ m g1, WF g1 → Prv [1] g g1 → Expo s m (fun _ => l) g1 → ∃ Q, Ok P f (first m ++ vs.map (SV.val m) ++ caps m) g1 L' Q ∧ ∀ v g2 g3, Prv L' g1 g2 → Step L' g1 g2 → Q v g2 → Prv [l] g2 g3 → Sg C g3 ⟨.ops all r :: k, putE (nameAll s m) o.dst (ofV v)⟩) :
    Sg C g ⟨.ops all (o :: r) :: k, s⟩ := by
  simp only [Bool.and_eq_true, bne_iff_ne, ne_eq, Bool.not_eq_true', List.contains_eq_mem, decide_eq_false_iff_not] at hl
  refine stp hC L' l hl.1 hl.2 (subL_ok hL) hw hd fun a w m g1 hs hgw hwf p1 e1 _ _ => ?_
  obtain ⟨Q, hok, hq⟩ := H m g1 hwf p1 e1
  refine ⟨Q, ?_, fun v g2 g3 q1 q2 q3 q4 q5 => hq v g2 g3 q1 q2 q3 q4⟩
  rw [← hC.P] at hb hok
  have hxe := (hs.ev hx).1
  rw [fnp_ok hf m] at hxe
  exact does_call hb ho hxe (evs_ok hs hv) hwf hok

theorem callvD (hC : Fnc C P fn n g0 L0 Post) (L' : List Nat) (l : Nat) {o : Oper} {i : Nat} {f : FuncId} {x : Operand} {args : Array Operand} {tys : Array TypeId} {fv : SV} {first caps : List Nat → List Value} {vs : List SV} {all : Array Oper} {p : List (Nat × Nat)} {st fb fl : List Nat} {vt : Option (Nat × Nat × Nat)} {k : List KI} (hl : (l != 0 && !L'.contains l) = true)
    (hi : all[i]? = some o) (ho : o.op = .call ⟨.value x, args, tys⟩) (hx : evg [] s.env x = some fv) (hf : fnp fv = some (f, first, caps)) (hb : callable P f = true) (hv : evs s.env args.toList = some vs) (hw : gOn all s o = true) (hL : subL L' L0 = true) (hd : okDst n s o.dst = true)
    (hfl : fl.all (fun l => !L'.contains l && l != 1) = true) (hvt : vtOk all vt o = true)
    (H : ∀ m g1, WF g1 → Prv [1] g g1 → Expo s m (fun _ => l) g1 → ∃ Q, Ok P f (first m ++ vs.map (SV.val m) ++ caps m) g1 L' Q ∧ ∀ v g2 g3, Prv L' g1 g2 → Step L' g1 g2 → Q v g2 → Prv [l] g2 g3 → Sg C g3 ⟨.opsD all p st fb fl vt :: k, putE (nameAll s m) o.dst (ofV v)⟩) :
    Sg C g ⟨.opsD all ((i, 1) :: p) st fb fl vt :: k, s⟩ := by
  simp only [Bool.and_eq_true, bne_iff_ne, ne_eq, Bool.not_eq_true', List.contains_eq_mem, decide_eq_false_iff_not] at hl
  refine stpD hC L' l hl.1 hl.2 (subL_ok hL) hi hw hd (fun x hx => by have := List.all_eq_true.1 hfl x hx; simpa using this) hvt fun a w m g1 hs hgw hwf p1 e1 _ _ => ?_
  obtain ⟨Q, hok, hq⟩ := H m g1 hwf p1 e1
  refine ⟨Q, ?_, fun v g2 g3 q1 q2 q3 q4 q5 => hq v g2 g3 q1 q2 q3 q4⟩
  rw [← hC.P] at hb hok
  have hxe := (hs.ev hx).1
  rw [fnp_ok hf m] at hxe
  exact does_call hb ho hxe (evs_ok hs hv) hwf hok

/-- State s' says no more than s, of the first boxes, by what the slots hold. -/
structure WkX (s : St) (m : List Nat) (s' : St) : Prop where
  nb : s'.nb ≤ s.nb
  env : ∀ p ∈ s'.env, ∃ y, lk s.env p.1 = some y ∧ isGd y = false ∧ y.val m = p.2.val m ∧ lowV s'.nb p.2 = true
  gl : s'.gl = []
  bx : ∀ i, i < s'.nb → lk s'.bx i = lk s.bx i
  bxl : ∀ p ∈ s'.bx, p.1 < s'.nb ∧ p.2.cells.all (lowC s'.nb) = true
  bl : ∃ t, m.take s'.nb = s'.bl ++ t

theorem Sat.wkX (hs : Sat C g s a w m) (lab : Nat → Nat) {s' : St} (h : WkX s m s') (hlab : ∀ i, i < s'.nb → lab i = 1) : Sat C ⟨w, ownOf g s w m lab⟩ s' a w (m.take s'.nb) := by
  have hn : s'.nb ≤ m.length := by rw [hs.len]; exact h.nb
  refine ⟨h.bl, by simp; omega, hs.dfs, hs.tmps, fun t x y hy => ?_, fun t u b y hy => ?_, ?_, fun i b hb => ?_, fun i hi => ?_, fun k hk => hs.own0 k (List.mem_of_mem_take hk), Nat.le_refl _, Nat.le_trans hs.size0 hs.size,
    fun k hk => hs.fresh k (List.mem_of_mem_take hk), fun _ _ _ => rfl, hs.base, fun k hk => own_low hs lab hk, own_wf hs lab, hs.os, hs.tape, hs.out⟩
  · obtain ⟨z, h1, hg, hv, h2⟩ := h.env _ (lk_mem hy)
    have h3 := hs.env0 x z h1
    have h4 := lowV_val hn t [] h2
    rw [List.append_nil] at h4
    have h5 : a.tmps[x]? = some (z.val m) := by cases z <;> first | exact h3 | cases hg
    dsimp only at hv
    rw [hv] at h5
    cases y with
    | gd => cases h2
    | c => dsimp only; rw [h5, h4]
    | ag => dsimp only; rw [h5, h4]
    | tp => dsimp only; rw [h5, h4]
  · obtain ⟨_, _, _, _, h2⟩ := h.env _ (lk_mem hy)
    cases h2
  · exact List.Nodup.sublist (List.take_sublist _ _) hs.nd
  · obtain ⟨h1, h2⟩ := h.bxl _ (lk_mem hb)
    have hb' : lk s.bx i = some b := by rw [← h.bx i h1]; exact hb
    obtain ⟨k, hk, hw, _⟩ := hs.bxs i b hb'
    refine ⟨k, by rw [List.getElem?_take, if_pos h1]; exact hk, fun t => ?_, fun _ => ?_⟩
    · rw [lowL_val hn t [] h2]; exact hw []
    · simp only [ownOf, idxOf_nd hs.nd hk, hb', hlab i h1]
  · obtain ⟨b, hb⟩ := hs.full i (Nat.lt_of_lt_of_le hi h.nb)
    exact ⟨b, by rw [h.bx i hi]; exact hb⟩

/-- From here on with a smaller state, over a world that has a name; boxes that are left out are owned as 'lab' says. -/
theorem smallX (lab : Nat → Nat) {k : List KI} (hk : noD k = true) (H : ∀ m g1, Prv [1] g g1 → Expo s m lab g1 → ∃ s', WkX s m s' ∧ (∀ i, i < s'.nb → lab i = 1) ∧ Sg C g1 ⟨k, s'⟩) : Sg C g ⟨k, s⟩ := by
  intro a w m hs
  obtain ⟨s', h1, h2, h3⟩ := H m _ ⟨hs.keeps lab, by simp⟩ (hs.expo lab)
  have := h3 a w _ (hs.wkX lab h1 h2)
  rw [den_noD hk] at this ⊢
  exact this

/-- What a box is in a world that has a name. -/
theorem Expo.ob {lab : Nat → Nat} {g1 : G} (e : Expo s m lab g1) {i : Nat} {b : Bx} (hb : lk s.bx i = some b) : Ob g1 (bif b.fz then 0 else lab i) (m.getD i 0) b.ty (vals m b.cells).toList := by
  obtain ⟨h1, h2, h3⟩ := e.box i b hb
  exact ⟨h1, h3, by simpa using h2⟩

theorem Expo.same {lab : Nat → Nat} {g1 : G} (e : Expo s m lab g1) (h : s.bl.length = s.nb) : m = s.bl := by
  obtain ⟨t, ht⟩ := e.pre
  have h1 := e.len
  rw [ht, List.length_append, h] at h1
  have : t = [] := List.eq_nil_of_length_eq_zero (by omega)
  rw [ht, this, List.append_nil]

theorem Expo.frz {lab : Nat → Nat} {g1 : G} (e : Expo s m lab g1) {i : Nat} {b : Bx} (hb : lk s.bx i = some b) (hz : b.fz = true) {vs : List Value} (hv : b.cells.map (SC.val m) = vs) : Cs g1 0 (m.getD i 0) 0 vs := by
  have := (e.ob hb).all
  rw [hz] at this
  simpa [vals, hv] using this

theorem runO (hC : Fnc C P fn n g0 L0 Post) (hT : TabOk P T) (f : Nat) {c : Cfg} (h : Sg C g (exO f T n c)) : Sg C g c := by
  rw [exO_eq] at h
  exact run hC hT f h
end
attribute [go_sem] exO_zero exO_succ sameB isGd
end Go.Eng

/- Rows that are grown; owners told anew. -/
namespace Go.Eng
open Go
section
variable {C : Ctx} {P : Program} {fn : Func} {n : Nat} {g0 g : G} {L0 : List Nat} {Post : Value → G → Prop} {s : St} {T : Tab} {a : Act} {w : World} {m : List Nat}

/-- From here on blocks of this call's own that were l's are l''s. -/
theorem relab (hC : Fnc C P fn n g0 L0 Post) (l l' : Nat) {k : List KI} (hk : noD k = true) (hl : (l != 0 && l != 1) = true)
    (H : ∀ g', Prv [l] g g' → g'.w = g.w → (∀ b, g0.w.heap.size ≤ b → b < g.w.heap.size → g.o b = l → g'.o b = l') → Sg C g' ⟨k, s⟩) : Sg C g ⟨k, s⟩ := by
  simp only [Bool.and_eq_true, bne_iff_ne, ne_eq] at hl
  intro a w m hs
  let o' : Nat → Nat := fun k => if g0.w.heap.size ≤ k ∧ k < g.w.heap.size ∧ g.o k = l then l' else g.o k
  have hne : ∀ k, g.o k ≠ l → o' k = g.o k := fun k h => by
    show (if _ then _ else _) = _
    rw [if_neg (fun q => h q.2.2)]
  have hlow : ∀ k, ¬ (g0.w.heap.size ≤ k ∧ k < g.w.heap.size) → o' k = g.o k := fun k h => by
    show (if _ then _ else _) = _
    rw [if_neg (fun q => h ⟨q.1, q.2.1⟩)]
  have h1 := H ⟨g.w, o'⟩ ⟨⟨Nat.le_refl _, fun k hk hn => ⟨hne k (by simpa using hn), rfl⟩⟩, by simp only [List.mem_singleton]; exact fun e => hl.1 e.symm⟩ rfl
    (fun b hb hlt e => by show (if _ then _ else _) = _; rw [if_pos ⟨hb, hlt, e⟩])
  have hs' : Sat C ⟨g.w, o'⟩ s a w m := by
    refine ⟨hs.pre, hs.len, hs.dfs, hs.tmps, hs.env, hs.gl, hs.nd, fun i b hb => ?_, hs.full, hs.own0, hs.size, hs.size0, hs.fresh, hs.old, hs.base, fun k hk => ?_, fun k hk => ?_, hs.os, hs.tape, hs.out⟩
    · obtain ⟨k, h2, h3, h4⟩ := hs.bxs i b hb
      refine ⟨k, h2, h3, fun hk => ?_⟩
      have h5 := h4 hk
      show o' k = _
      rw [hne k (by rw [h5]; cases b.fz <;> simp [Ne.symm hl.1, Ne.symm hl.2])]
      exact h5
    · show o' k = _
      rw [hlow k (by rw [hC.g0] at hk; omega)]
      exact hs.own k hk
    · show o' k = _
      dsimp only at hk
      rw [hlow k (by omega)]
      exact hs.wf k hk
  have := h1 a w m hs'
  rw [den_noD hk] at this ⊢
  exact this

/-- Cells that stand from a on. -/
def Rd (g : G) (a : Option Addr) (cs : List Value) : Prop := cs = [] ∨ ∃ b off, a = some ⟨b, off, none⟩ ∧ ∀ j v, cs[j]? = some v → g.w.cell? ⟨b, off + j, none⟩ = some v

theorem Cs.rd {l b off : Nat} {vs : List Value} (h : Cs g l b off vs) : Rd g (some ⟨b, off, none⟩) vs := .inr ⟨b, off, rfl, h.2.2⟩

/-- A row that l owns, n elements of it in use: these cells. -/
def OwnRow (g : G) (base l ty size : Nat) (v : Value) (n : Nat) (xs : List Value) : Prop :=
  xs.length = n * size ∧ ((∃ a, v = .slice a 0 0 ∧ n = 0) ∨
    ∃ b cap cells, v = .slice (some ⟨b, 0, none⟩) n cap ∧ base ≤ b ∧ Ob g l b ty cells ∧ n ≤ cap ∧ cap ≤ maxLen ∧ cells.length = cap * size ∧ cells.take (n * size) = xs)

theorem OwnRow.ks {L : List Nat} {g g' : G} (hk : Keeps L g g') {base l ty size : Nat} {v : Value} {n : Nat} {xs : List Value} (h : OwnRow g base l ty size v n xs) (hl : l ∉ L) : OwnRow g' base l ty size v n xs := by
  refine ⟨h.1, ?_⟩
  rcases h.2 with q | ⟨b, cap, cells, q1, q2, q3, q4⟩
  · exact .inl q
  · exact .inr ⟨b, cap, cells, q1, q2, q3.ks hk hl, q4⟩

/-- The world with a new block, l's. -/
def gpush (g : G) (w' : World) (l : Nat) : G := ⟨w', fun k => if k = g.w.heap.size then l else g.o k⟩

theorem step_push {g : G} {w' : World} {l : Nat} {o : Obj} (hw : WF g) (hh : w'.heap = g.w.heap.push o) (h1 : w'.os = g.w.os) (h2 : w'.tape = g.w.tape) (h3 : w'.output = g.w.output) : Step [] g (gpush g w' l) := by
  have hsz : w'.heap.size = g.w.heap.size + 1 := by rw [hh]; simp
  refine ⟨by show _ ≤ w'.heap.size; omega, fun k hk => ?_, fun k hk _ => ?_, fun k hk => ?_, h1, h2, h3⟩
  · show (if _ then _ else _) = _
    rw [if_neg (by omega)]
  · show w'.heap[k]? = _
    rw [hh, Array.getElem?_push, if_neg (by omega)]
  · have hk' : w'.heap.size ≤ k := hk
    show (if _ then _ else _) = _
    rw [if_neg (by omega)]
    exact hw k (by omega)

theorem step_mono {L L' : List Nat} {g g' : G} (h : Step L g g') (hl : ∀ l ∈ L, l ∈ L') : Step L' g g' := ⟨h.size, h.own, fun k hk hn => h.keep k hk fun hm => hn (hl _ hm), h.wf, h.os, h.tape, h.out⟩

theorem cell_add {w : World} {b off j : Nat} : w.cell? ((⟨b, off, none⟩ : Addr).add j) = w.cell? ⟨b, off + j, none⟩ := by rw [add_plain]

/-- What append does to a row that is owned. -/
theorem run_app {t ty e : Nat} {i : TypeInfo} {z : Value} {g : G} (hwf : WF g) (ht : P.underlying t = some (.slice e)) (hi : P.info? e = some i) (hz : i.zero = some z) (hzs : z.cells.size = i.size) (hsz : 0 < i.size)
    {base l : Nat} (hb : base ≤ g.w.heap.size) {v : Value} {n : Nat} {xs : List Value} (h : OwnRow g base l e i.size v n xs) {a2 : Option Addr} {n2 c2 : Nat} {news : List Value}
    (hr : Rd g a2 news) (hl2 : news.length = n2 * i.size) (h1 : ∀ u ∈ news, u.oneCell' = true) (hm : n + n2 ≤ maxLen) (hby : (n + n2) * i.bytes ≤ 140737488355328) :
    ∃ v' g', (Builtin.append_ #[t, t] ty #[v, .slice a2 n2 c2]).run P g.w = .ok v' g'.w ∧ Step [l] g g' ∧ OwnRow g' base l e i.size v' (n + n2) (xs ++ news) ∧ (∀ k, k < g.w.heap.size → k < base → g'.w.heap[k]? = g.w.heap[k]?) := by
  have hlen : (xs ++ news).length = (n + n2) * i.size := by rw [List.length_append, h.1, hl2, Nat.add_mul]
  have hm' : n + n2 ≤ 9223372036854775807 := by simp only [maxLen] at hm; omega
  -- nothing to append
  by_cases hn2 : n2 = 0
  · subst hn2
    obtain rfl : news = [] := List.eq_nil_of_length_eq_zero (by simpa using hl2)
    refine ⟨v, g, ?_, ⟨Nat.le_refl _, fun _ _ => rfl, fun _ _ _ => rfl, hwf, rfl, rfl, rfl⟩, by simpa using h, fun _ _ _ => rfl⟩
    rcases h.2 with ⟨a, rfl, rfl⟩ | ⟨b, cap, cells, rfl, _, _, hc, _⟩
    · cases a <;> cases a2 <;> simp [Builtin.append_, run_underlying ht, sizeOf, typeInfo, hi, Builtin.lenOf, Builtin.firstCells, loadCells, loadCellsFrom, storeCells]
    · cases a2 <;> simp [Builtin.append_, run_underlying ht, sizeOf, typeInfo, hi, Builtin.lenOf, Builtin.firstCells, loadCells, loadCellsFrom, hc, storeCells]
  have hne : news ≠ [] := by
    intro e; rw [e] at hl2
    simp only [List.length_nil] at hl2
    rcases Nat.mul_eq_zero.1 hl2.symm with h | h <;> omega
  obtain ⟨b2, off2, rfl, hcs⟩ : ∃ b off, a2 = some ⟨b, off, none⟩ ∧ ∀ j v, news[j]? = some v → g.w.cell? ⟨b, off + j, none⟩ = some v := by
    rcases hr with h | h
    · exact absurd h hne
    · exact h
  have hnews : ∀ j u, news[j]? = some u → g.w.cell? ((⟨b2, off2, none⟩ : Addr).add j) = some u := fun j u hu => by rw [cell_add]; exact hcs j u hu
  -- a new row
  have grown : ∀ (old : Nat), old < n + n2 →
      Step [l] g (gpush g (g.w.drew.alloc (.cells (xs.toArray ++ news.toArray ++ Builtin.zeroCells z.cells (grownCap g.w (n + n2) old e - (n + n2))) e)) l) ∧
      OwnRow (gpush g (g.w.drew.alloc (.cells (xs.toArray ++ news.toArray ++ Builtin.zeroCells z.cells (grownCap g.w (n + n2) old e - (n + n2))) e)) l) base l e i.size (.slice (some ⟨g.w.heap.size, 0, none⟩) (n + n2) (grownCap g.w (n + n2) old e)) (n + n2) (xs ++ news) ∧
      (∀ k, k < g.w.heap.size → k < base → (g.w.drew.alloc (.cells (xs.toArray ++ news.toArray ++ Builtin.zeroCells z.cells (grownCap g.w (n + n2) old e - (n + n2))) e)).heap[k]? = g.w.heap[k]?) := by
    intro old ho
    have hge := grownCap_ge g.w (n + n2) old e
    have hcm : grownCap g.w (n + n2) old e ≤ maxLen := grownCap_le_maxLen g.w (n + n2) old e hm
    refine ⟨step_mono (step_push hwf rfl rfl rfl rfl) (by simp), ⟨hlen, .inr ⟨g.w.heap.size, _, (xs ++ news ++ (Builtin.zeroCells z.cells (grownCap g.w (n + n2) old e - (n + n2))).toList), rfl, hb, ⟨?_, ?_, ?_⟩, hge, hcm, ?_, ?_⟩⟩, fun k hk _ => heap_alloc_old g.w.drew _ k hk⟩
    · show _ < (g.w.drew.alloc _).heap.size
      simp
    · show (if _ then _ else _) = _
      rw [if_pos rfl]
    · show (g.w.drew.alloc _).heap[_]? = _
      have := heap_alloc_new g.w.drew (.cells (xs.toArray ++ news.toArray ++ Builtin.zeroCells z.cells (grownCap g.w (n + n2) old e - (n + n2))) e)
      have e1 : g.w.drew.heap.size = g.w.heap.size := rfl
      rw [e1] at this
      rw [this]
      congr 2
      apply Array.ext'
      simp
    · simp only [List.length_append, Array.length_toList, size_zeroCells, hzs, h.1, hl2, ← Nat.add_mul]
      congr 1
      omega
    · rw [← hlen]
      exact List.take_left
  rcases h.2 with ⟨a, rfl, rfl⟩ | ⟨b, cap, cells, rfl, hbg, hob, hnc, hcm, hcl, htake⟩
  · obtain rfl : xs = [] := List.eq_nil_of_length_eq_zero (by simpa using h.1)
    obtain ⟨q1, q2, q3⟩ := grown 0 (by omega)
    refine ⟨_, _, ?_, q1, q2, q3⟩
    cases a with
    | none =>
      have := run_append_nil (P := P) g.w t ty e i z ht hi hz ⟨b2, off2, none⟩ n2 c2 news hl2 hnews (by omega) (by omega) (by have := hby; simp only [Nat.zero_add] at this; omega)
      simpa [gpush] using this
    | some a =>
      have := run_append_grow (P := P) g.w t ty e i z ht hi hz a 0 0 [] (by simp) (by simp) ⟨b2, off2, none⟩ n2 c2 news hl2 hnews (by omega) (by omega) (growslice_fits (by omega) hby)
      simpa [gpush] using this
  · by_cases hroom : n + n2 ≤ cap
    · have hfit : n * i.size + news.length ≤ cells.toArray.size := by simp only [List.size_toArray]; rw [hl2, hcl, ← Nat.add_mul]; exact Nat.mul_le_mul_right _ hroom
      have hr := run_append_room (P := P) g.w t ty e i ht hi b n cap cells.toArray hob.at_ ⟨b2, off2, none⟩ n2 c2 news hl2 hnews h1 hroom hfit
      refine ⟨_, ⟨g.w.setRow b (cells.toArray.toList.take (n * i.size) ++ news ++ cells.toArray.toList.drop (n * i.size + news.length)).toArray, g.o⟩, hr, ⟨?_, fun _ _ => rfl, fun k hk hn => ?_, fun k hk => ?_, rfl, rfl, rfl⟩, ⟨hlen, .inr ⟨b, cap, _, rfl, hbg, ⟨?_, hob.own, setRow_heap g.w b _ _ e _ hob.at_⟩, hroom, hcm, ?_, ?_⟩⟩, fun k hk hkb => setRow_other g.w b k _ (by omega)⟩
      · show g.w.heap.size ≤ (g.w.setRow _ _).heap.size
        simp [World.setRow]
      · have : b ≠ k := fun e => hn (by rw [← e, hob.own]; simp)
        exact setRow_other g.w b k _ (Ne.symm this)
      · have : g.w.heap.size ≤ k := by simpa [World.setRow] using hk
        exact hwf k this
      · show b < (g.w.setRow _ _).heap.size
        simpa [World.setRow] using hob.lt
      · simp only [List.length_append, List.length_take, List.length_drop]
        simp only [List.size_toArray] at hfit
        omega
      · have : (cells.toArray.toList.take (n * i.size) ++ news).length = (n + n2) * i.size := by simp only [htake]; exact hlen
        rw [← this, List.take_left]
        simp only [htake]
    · have holds : ∀ j u, xs[j]? = some u → g.w.cell? ((⟨b, 0, none⟩ : Addr).add j) = some u := fun j u hu => by
        rw [cell_add]
        refine hob.all.2.2 j u ?_
        rw [← htake, List.getElem?_take] at hu
        split at hu
        · exact hu
        · cases hu
      obtain ⟨q1, q2, q3⟩ := grown cap (by omega)
      refine ⟨_, _, ?_, q1, q2, q3⟩
      have := run_append_grow (P := P) g.w t ty e i z ht hi hz ⟨b, 0, none⟩ n cap xs h.1 holds ⟨b2, off2, none⟩ n2 c2 news hl2 hnews (by omega) (by omega) (growslice_fits (by omega) hby)
      simpa [gpush] using this

/-- append, of a row that l owns. -/
theorem app (hC : Fnc C P fn n g0 L0 Post) (l base : Nat) {o : Oper} {all : Array Oper} {r : List Oper} {k : List KI} {x1 x2 : Operand} {v1 v2 : SV} {t : Nat} {d de : TD} (B : Nat) (hT : TabOk P T) (hl : (l != 0 && l != 1) = true)
    (hb : l ∈ L0 ∧ base = 0 ∨ base = g0.w.heap.size)
    (ho : o.op = .call ⟨.builtin .append, #[x1, x2], #[t, t]⟩) (hx1 : evg [] s.env x1 = some v1) (hx2 : evg [] s.env x2 = some v2)
    (hdt : T t = some d) (hcl : (d.cl == 1) = true) (hde : T d.el = some de) (hB : ((P.info? d.el).map (·.bytes) == some B) = true) (hsz : Nat.blt 0 de.size = true) (hw : gOn all s o = true) (hd : okDst n s o.dst = true)
    (H : ∀ m g1, Prv [1] g g1 → Expo s m (fun _ => 1) g1 → ∃ n xs n2 news a2 c2, OwnRow g1 base l d.el de.size (v1.val m) n xs ∧ v2.val m = .slice a2 n2 c2 ∧ Rd g1 a2 news ∧ news.length = n2 * de.size ∧ (∀ u ∈ news, u.oneCell' = true) ∧ n + n2 ≤ maxLen ∧ (n + n2) * B ≤ 140737488355328 ∧
      ∀ v g2 g3, Prv [l] g1 g2 → Prv [1] g2 g3 → OwnRow g3 base l d.el de.size v (n + n2) (xs ++ news) → Sg C g3 ⟨.ops all r :: k, putE (nameAll s m) o.dst (ofV v)⟩) :
    Sg C g ⟨.ops all (o :: r) :: k, s⟩ := by
  simp only [Bool.and_eq_true, bne_iff_ne, ne_eq] at hl
  obtain ⟨_, u, _, ht, _, _, _, _, _, _, _, hsl, _⟩ := hT.ok t d hdt
  obtain ⟨i, ue, hi, _, his, _, hz, hzl, hone, _⟩ := hT.ok d.el de hde
  rw [hsl (eq_of_beq hcl)] at ht
  have hbi : i.bytes = B := by
    rw [hi] at hB
    simpa using hB
  have hzs : (bif de.agg then Value.agg de.zero.toArray else de.zero.headD undef).cells.size = i.size := by
    rw [his]
    cases hag : de.agg
    · obtain ⟨q1, q2⟩ := hone hag
      simp only [cond_false]
      rw [q2, q1]; rfl
    · simpa [Value.cells] using hzl
  have hsz' : 0 < i.size := by rw [his]; simpa using hsz
  refine stpF hC [l] 1 (by simp) (by simp; exact fun h => hl.2 h.symm) (by simp; exact fun h => hl.1 h.symm) (by simp; exact fun h => hl.2 h.symm) hw hd fun a w m g1 hs hgw hwf p1 e1 hlow hsz1 => ?_
  obtain ⟨n, xs, n2, news, a2, c2, q1, q2, q3, q4, q5, q6, q7, q8⟩ := H m g1 p1 e1
  have hbase : base ≤ g1.w.heap.size := by
    rcases hb with ⟨_, hb⟩ | hb
    · rw [hb]; exact Nat.zero_le _
    · rw [hb]; exact hsz1
  obtain ⟨v', g', r1, r2, r3, r4⟩ := run_app (P := P) (ty := o.type) (l := l) (xs := xs) (v := v1.val m) (n := n) hwf ht hi hz hzs hsz' hbase (by rw [his]; exact q1) q3 (by rw [his]; exact q4) q5 q6 (by rw [hbi]; exact q7)
  rw [his] at r3
  have hrun : (execOp a.eval o).run C.P g1.w = .ok (.value v') g'.w := by
    have ev1 := (hs.ev hx1).1
    have ev2 := (hs.ev hx2).1
    rw [q2] at ev2
    simp only [execOp, ho, resolve, invoke, builtin, Sem.run_bind, Sem.run_pure, Result.andThen_ok, List.map_toArray, List.map_cons, List.map_nil, ev1, ev2]
    rw [hC.P, r1]
    rfl
  refine ⟨fun v g2 => OwnRow g2 base l d.el de.size v (n + n2) (xs ++ news) ∧ (∀ k, k < g1.w.heap.size → k < base → g2.w.heap[k]? = g1.w.heap[k]?), does_val hrun r2 ⟨r3, r4⟩, fun v g2 st hp k hk hkl => ?_, fun v g2 g3 p2 st hp p3 _ => q8 v g2 g3 p2 p3 (hp.1.ks p3.ks (by simp; exact hl.2))⟩
  rcases hb with ⟨hb, _⟩ | rfl
  · exact st.keep k (Nat.lt_of_lt_of_le hk hsz1) (by rw [hlow k hk]; simp only [List.mem_singleton]; exact fun h => hkl (h ▸ hb))
  · exact hp.2 k (Nat.lt_of_lt_of_le hk hsz1) hk

theorem appD (hC : Fnc C P fn n g0 L0 Post) (l base : Nat) {o : Oper} {ii : Nat} {all : Array Oper} {p : List (Nat × Nat)} {st fb fl : List Nat} {vt : Option (Nat × Nat × Nat)} {k : List KI} {x1 x2 : Operand} {v1 v2 : SV} {t : Nat} {d de : TD} (B : Nat) (hT : TabOk P T) (hl : (l != 0 && l != 1) = true)
    (hb : l ∈ L0 ∧ base = 0 ∨ base = g0.w.heap.size) (hii : all[ii]? = some o)
    (ho : o.op = .call ⟨.builtin .append, #[x1, x2], #[t, t]⟩) (hx1 : evg [] s.env x1 = some v1) (hx2 : evg [] s.env x2 = some v2)
    (hdt : T t = some d) (hcl : (d.cl == 1) = true) (hde : T d.el = some de) (hB : ((P.info? d.el).map (·.bytes) == some B) = true) (hsz : Nat.blt 0 de.size = true) (hw : gOn all s o = true) (hd : okDst n s o.dst = true)
    (hfl : fl.all (fun x => x != l && x != 1) = true) (hvt : vtOk all vt o = true)
    (H : ∀ m g1, Prv [1] g g1 → Expo s m (fun _ => 1) g1 → ∃ n xs n2 news a2 c2, OwnRow g1 base l d.el de.size (v1.val m) n xs ∧ v2.val m = .slice a2 n2 c2 ∧ Rd g1 a2 news ∧ news.length = n2 * de.size ∧ (∀ u ∈ news, u.oneCell' = true) ∧ n + n2 ≤ maxLen ∧ (n + n2) * B ≤ 140737488355328 ∧
      ∀ v g2 g3, Prv [l] g1 g2 → Prv [1] g2 g3 → OwnRow g3 base l d.el de.size v (n + n2) (xs ++ news) → Sg C g3 ⟨.opsD all p st fb fl vt :: k, putE (nameAll s m) o.dst (ofV v)⟩) :
    Sg C g ⟨.opsD all ((ii, 1) :: p) st fb fl vt :: k, s⟩ := by
  simp only [Bool.and_eq_true, bne_iff_ne, ne_eq] at hl
  obtain ⟨_, u, _, ht, _, _, _, _, _, _, _, hsl, _⟩ := hT.ok t d hdt
  obtain ⟨i, ue, hi, _, his, _, hz, hzl, hone, _⟩ := hT.ok d.el de hde
  rw [hsl (eq_of_beq hcl)] at ht
  have hbi : i.bytes = B := by
    rw [hi] at hB
    simpa using hB
  have hzs : (bif de.agg then Value.agg de.zero.toArray else de.zero.headD undef).cells.size = i.size := by
    rw [his]
    cases hag : de.agg
    · obtain ⟨q1, q2⟩ := hone hag
      simp only [cond_false]
      rw [q2, q1]; rfl
    · simpa [Value.cells] using hzl
  have hsz' : 0 < i.size := by rw [his]; simpa using hsz
  refine stpFD hC [l] 1 (by simp) (by simp; exact fun h => hl.2 h.symm) (by simp; exact fun h => hl.1 h.symm) (by simp; exact fun h => hl.2 h.symm) hii hw hd (fun x hx => by have := List.all_eq_true.1 hfl x hx; simpa using this) hvt fun a w m g1 hs hgw hwf p1 e1 hlow hsz1 => ?_
  obtain ⟨n, xs, n2, news, a2, c2, q1, q2, q3, q4, q5, q6, q7, q8⟩ := H m g1 p1 e1
  have hbase : base ≤ g1.w.heap.size := by
    rcases hb with ⟨_, hb⟩ | hb
    · rw [hb]; exact Nat.zero_le _
    · rw [hb]; exact hsz1
  obtain ⟨v', g', r1, r2, r3, r4⟩ := run_app (P := P) (ty := o.type) (l := l) (xs := xs) (v := v1.val m) (n := n) hwf ht hi hz hzs hsz' hbase (by rw [his]; exact q1) q3 (by rw [his]; exact q4) q5 q6 (by rw [hbi]; exact q7)
  rw [his] at r3
  have hrun : (execOp a.eval o).run C.P g1.w = .ok (.value v') g'.w := by
    have ev1 := (hs.ev hx1).1
    have ev2 := (hs.ev hx2).1
    rw [q2] at ev2
    simp only [execOp, ho, resolve, invoke, builtin, Sem.run_bind, Sem.run_pure, Result.andThen_ok, List.map_toArray, List.map_cons, List.map_nil, ev1, ev2]
    rw [hC.P, r1]
    rfl
  refine ⟨fun v g2 => OwnRow g2 base l d.el de.size v (n + n2) (xs ++ news) ∧ (∀ k, k < g1.w.heap.size → k < base → g2.w.heap[k]? = g1.w.heap[k]?), does_val hrun r2 ⟨r3, r4⟩, fun v g2 st hp k hk hkl => ?_, fun v g2 g3 p2 st hp p3 _ => q8 v g2 g3 p2 p3 (hp.1.ks p3.ks (by simp; exact hl.2))⟩
  rcases hb with ⟨hb, _⟩ | rfl
  · exact st.keep k (Nat.lt_of_lt_of_le hk hsz1) (by rw [hlow k hk]; simp only [List.mem_singleton]; exact fun h => hkl (h ▸ hb))
  · exact hp.2 k (Nat.lt_of_lt_of_le hk hsz1) hk

/-- The row, handed to another owner. -/
theorem OwnRow.give {g g' : G} {base l l' ty size : Nat} {v : Value} {n : Nat} {xs : List Value} (h : OwnRow g base l ty size v n xs) (hw : g'.w = g.w) (ho : ∀ b, base ≤ b → b < g.w.heap.size → g.o b = l → g'.o b = l') : OwnRow g' base l' ty size v n xs := by
  refine ⟨h.1, ?_⟩
  rcases h.2 with q | ⟨b, cap, cells, q1, q2, q3, q4⟩
  · exact .inl q
  · exact .inr ⟨b, cap, cells, q1, q2, ⟨by rw [hw]; exact q3.lt, ho b q2 q3.lt q3.own, by rw [hw]; exact q3.at_⟩, q4⟩

/-- What stands in a row. -/
theorem OwnRow.cs {g : G} {base l ty size : Nat} {v : Value} {n : Nat} {xs : List Value} (h : OwnRow g base l ty size v n xs) : ∃ a cap, v = .slice a n cap ∧ n ≤ cap ∧ cap ≤ maxLen ∧ (xs = [] ∨ ∃ b, a = some ⟨b, 0, none⟩ ∧ Cs g l b 0 xs) := by
  rcases h.2 with ⟨a, rfl, rfl⟩ | ⟨b, cap, cells, rfl, hbg, hob, hnc, hcm, hcl, htake⟩
  · exact ⟨a, 0, rfl, Nat.le_refl _, Nat.zero_le _, .inl (List.eq_nil_of_length_eq_zero (by simpa using h.1))⟩
  · refine ⟨_, cap, rfl, hnc, hcm, .inr ⟨b, rfl, hob.cs 0 fun j v hj => ?_⟩⟩
    rw [← htake, List.getElem?_take] at hj
    split at hj
    · simpa using hj
    · cases hj

/-- nil, or not. -/
theorem run_slnil (P : Program) {t e : Nat} (ht : P.underlying t = some (.slice e)) (x y : Operand) (a : Option Addr) (n c : Nat) (w : World) :
    ((do eqGuard .eql t x y (.slice a n c) (.slice none 0 0); binOp .eql t (.slice a n c) (.slice none 0 0) : Sem Value)).run P w = .ok (.bool a.isNone) w := by
  have h1 : (eqGuard .eql t x y (.slice a n c) (.slice none 0 0)).run P w = .ok () w := by simp [eqGuard]
  have h2 : binOp .eql t (.slice a n c) (.slice none 0 0) = (do pure (.bool (← Op.equal t (.slice a n c) (.slice none 0 0))) : Sem Value) := rfl
  rw [Sem.run_bind, h1, Result.andThen_ok, h2, Sem.run_bind, run_equal_slice_nil w t e a n c ht]
  rfl

theorem pointee_of (P : Program) {t e : Nat} (ht : P.underlying t = some (.pointer e)) : P.underlying t = some (.pointer (P.pointee t)) := by
  have : P.pointee t = e := by simp [Program.pointee, ht]
  rw [this]; exact ht

theorem run_ptrnil (P : Program) {t e : Nat} (ht : P.underlying t = some (.pointer e)) (x y : Operand) (a : Option Addr) (w : World) :
    ((do eqGuard .eql t x y (.pointer a) (.pointer none); binOp .eql t (.pointer a) (.pointer none) : Sem Value)).run P w = .ok (.bool a.isNone) w := by
  have h1 : (eqGuard .eql t x y (.pointer a) (.pointer none)).run P w = .ok () w := by simp [eqGuard]
  have h2 : binOp .eql t (.pointer a) (.pointer none) = (do pure (.bool (← Op.equal t (.pointer a) (.pointer none))) : Sem Value) := rfl
  rw [Sem.run_bind, h1, Result.andThen_ok, h2, Sem.run_bind, run_equal_pointer_nil w t a (pointee_of P ht)]
  rfl

theorem run_ptrnnil (P : Program) {t e : Nat} (ht : P.underlying t = some (.pointer e)) (x y : Operand) (a : Option Addr) (w : World) :
    ((do eqGuard .neq t x y (.pointer a) (.pointer none); binOp .neq t (.pointer a) (.pointer none) : Sem Value)).run P w = .ok (.bool a.isSome) w := by
  have h1 : (eqGuard .neq t x y (.pointer a) (.pointer none)).run P w = .ok () w := by simp [eqGuard]
  have h2 : binOp .neq t (.pointer a) (.pointer none) = (do pure (.bool (!(← Op.equal t (.pointer a) (.pointer none)))) : Sem Value) := rfl
  rw [Sem.run_bind, h1, Result.andThen_ok, h2, Sem.run_bind, run_equal_pointer_nil w t a (pointee_of P ht)]
  cases a <;> rfl

theorem run_beq (P : Program) {t : Nat} (ht : P.underlying t = some .bool) (x y : Operand) (a b : Bool) (w : World) :
    ((do eqGuard .eql t x y (.bool a) (.bool b); binOp .eql t (.bool a) (.bool b) : Sem Value)).run P w = .ok (.bool (a == b)) w := by
  have h1 : (eqGuard .eql t x y (.bool a) (.bool b)).run P w = .ok () w := by simp [eqGuard]
  have h2 : binOp .eql t (.bool a) (.bool b) = (do pure (.bool (← Op.equal t (.bool a) (.bool b))) : Sem Value) := rfl
  rw [Sem.run_bind, h1, Result.andThen_ok, h2, Sem.run_bind, run_equal_bool w t a b ht]
  rfl

theorem run_bneq (P : Program) {t : Nat} (ht : P.underlying t = some .bool) (x y : Operand) (a b : Bool) (w : World) :
    ((do eqGuard .neq t x y (.bool a) (.bool b); binOp .neq t (.bool a) (.bool b) : Sem Value)).run P w = .ok (.bool (a != b)) w := by
  have h1 : (eqGuard .neq t x y (.bool a) (.bool b)).run P w = .ok () w := by simp [eqGuard]
  have h2 : binOp .neq t (.bool a) (.bool b) = (do pure (.bool (!(← Op.equal t (.bool a) (.bool b)))) : Sem Value) := rfl
  rw [Sem.run_bind, h1, Result.andThen_ok, h2, Sem.run_bind, run_equal_bool w t a b ht]
  rfl
end
end Go.Eng

/- Maps with strings as keys; loads and stores of objects; cuts of slices. -/
namespace Go.Eng
open Go

/-- What a map has at a key. -/
def mget : List (ByteArray × Value) → ByteArray → Option Value
  | [], _ => none
  | (a, v) :: r, k => if k = a then some v else mget r k

def mput : List (ByteArray × Value) → ByteArray → Value → List (ByteArray × Value)
  | [], k, v => [(k, v)]
  | (a, u) :: r, k, v => if k = a then (a, v) :: r else (a, u) :: mput r k v

/-- Block b is l's: a map. -/
structure Mp (g : G) (l b : Nat) (es : List (ByteArray × Value)) : Prop where
  lt : b < g.w.heap.size
  own : g.o b = l
  at_ : ∃ ents clock, g.w.heap[b]? = some (.map ents clock) ∧ ents.toList.map (fun e => (e.key, e.val)) = es.map fun p => (.string p.1, p.2)

theorem Mp.ks {L : List Nat} {g g' : G} (hk : Keeps L g g') {l b : Nat} {es : List (ByteArray × Value)} (h : Mp g l b es) (hl : l ∉ L) : Mp g' l b es := by
  obtain ⟨e1, e2⟩ := hk.keep b h.lt (by rw [h.own]; exact hl)
  exact ⟨Nat.lt_of_lt_of_le h.lt hk.size, e1.trans h.own, by rw [e2]; exact h.at_⟩

theorem str_eq (a b : ByteArray) : (a == b) = decide (a = b) := by
  rw [Bool.eq_iff_iff, MapKept.bytes_beq, decide_eq_true_iff]

instance : LawfulBEq ByteArray where
  eq_of_beq h := (MapKept.bytes_beq _ _).1 h
  rfl := (MapKept.bytes_beq _ _).2 rfl

theorem findNow_eq (k : ByteArray) : ∀ (ents : List MapEntry) (es : List (ByteArray × Value)) (i : Nat), ents.map (fun e => (e.key, e.val)) = es.map (fun p => (.string p.1, p.2)) →
    (mget es k = none ∧ Instr.findNow .string (.string k) ents i = some none) ∨
    ∃ j v a, mget es k = some v ∧ Instr.findNow .string (.string k) ents i = some (some (i + j, v)) ∧ (es[j]?) = some (a, v) ∧ a = k ∧ mput es k = fun u => es.set j (k, u)
  | [], [], i, _ => .inl ⟨rfl, rfl⟩
  | [], _ :: _, _, h => by cases h
  | _ :: _, [], _, h => by cases h
  | e :: ents, (a, u) :: es, i, h => by
    simp only [List.map_cons, List.cons.injEq, Prod.mk.injEq] at h
    obtain ⟨⟨h1, h2⟩, h3⟩ := h
    by_cases hk : k = a
    · subst hk
      refine .inr ⟨0, u, k, by simp [mget], ?_, rfl, rfl, ?_⟩
      · simp [Instr.findNow, Instr.sameNow, h1, h2, str_eq]
      · funext v; simp [mput]
    · have hs : Instr.findNow .string (.string k) (e :: ents) i = Instr.findNow .string (.string k) ents (i + 1) := by
        have : (k == a) = false := by rw [str_eq]; simpa using hk
        simp [Instr.findNow, Instr.sameNow, h1, this]
      rcases findNow_eq k ents es (i + 1) h3 with ⟨q1, q2⟩ | ⟨j, v, b, q1, q2, q3, q4, q5⟩
      · exact .inl ⟨by simp [mget, hk, q1], by rw [hs, q2]⟩
      · refine .inr ⟨j + 1, v, b, by simp [mget, hk, q1], ?_, by simpa using q3, q4, ?_⟩
        · rw [hs, q2]
          have : i + 1 + j = i + (j + 1) := by omega
          rw [this]
        · funext u'
          simp only [mput, if_neg hk, List.set_cons_succ, q5]

section
variable {C : Ctx} {P : Program} {fn : Func} {n : Nat} {g0 g : G} {L0 : List Nat} {Post : Value → G → Prop} {s : St} {T : Tab} {a : Act} {w : World} {m : List Nat}

theorem run_checkStr {kt : Nat} (hk : P.underlying kt = some .string) (e : Bool) (k : ByteArray) (w : World) : (Instr.checkKey e 10000 kt (.string k)).run P w = .ok () w := by
  have : (10000 : Nat) = 9999 + 1 := rfl
  rw [this]
  unfold Instr.checkKey
  rw [Sem.run_bind, run_underlying hk, Result.andThen_ok]
  rfl

theorem run_findKey {kt : Nat} (hk : P.underlying kt = some .string) (k : ByteArray) (ents : List MapEntry) (r : Option (Nat × Value)) (h : Instr.findNow .string (.string k) ents 0 = some r) (w : World) : (Instr.findKey kt (.string k) ents).run P w = .ok r w := by
  unfold Instr.findKey
  rw [Sem.run_bind, run_underlying hk, Result.andThen_ok, h]
  rfl

theorem run_lookup {t kt vt : Nat} {i : TypeInfo} {z : Value} (ht : P.underlying t = some (.map kt vt)) (hk : P.underlying kt = some .string) (hi : P.info? vt = some i) (hz : i.zero = some z) {g : G} {l b : Nat} {es : List (ByteArray × Value)} (h : Mp g l b es) (k : ByteArray) {w : World} (hw : w.heap[b]? = g.w.heap[b]?) (ok : Bool) :
    (Instr.lookup t (.map (some b)) (.string k) ok).run P w = .ok (if ok then .tuple #[(mget es k).getD z, .bool (mget es k).isSome] else (mget es k).getD z) w := by
  obtain ⟨ents, clock, hh, he⟩ := h.at_
  have hg : (getObj b).run P w = .ok (.map ents clock) w := MapKept.run_getObj_map (by rw [hw]; exact hh)
  have hzv : (zeroValue vt).run P w = .ok z w := by simp [zeroValue, typeInfo, hi, hz]
  unfold Instr.lookup
  simp only [Sem.run_bind, run_underlying ht, Result.andThen_ok, hg, Sem.run_pure, run_checkStr hk]
  rcases findNow_eq k ents.toList es 0 he with ⟨q1, q2⟩ | ⟨j, v, a, q1, q2, _⟩
  · rw [run_findKey hk k _ _ q2, q1]
    simp only [Result.andThen_ok, Sem.run_bind, hzv, Sem.run_pure]
    cases ok <;> rfl
  · rw [run_findKey hk k _ _ q2, q1]
    simp only [Result.andThen_ok, Sem.run_bind, Sem.run_pure]
    cases ok <;> rfl

/-- Looking up. -/
theorem vo_lookup (hC : Fnc C P fn n g0 L0 Post) {o : Oper} {t kt vt : Nat} {x y : Operand} {ok : Bool} {i : TypeInfo} {z : Value} {l b : Nat} {es : List (ByteArray × Value)} {k : ByteArray} (hm : Mp g l b es) (ho : o.op = .lookup t x y ok) (hx : evg [] s.env x = some (.c (.v (.map (some b))))) (hy : evg [] s.env y = some (.c (.v (.string k))))
    (ht : P.underlying t = some (.map kt vt)) (hk : P.underlying kt = some .string) (hi : P.info? vt = some i) (hz : i.zero = some z) : Vo C g s o (if ok then .tuple #[(mget es k).getD z, .bool (mget es k).isSome] else (mget es k).getD z) [l] := by
  intro a w m hs w2 h2
  have e1 : a.eval x = .map (some b) := (hs.ev hx).1
  have e2 : a.eval y = .string k := (hs.ev hy).1
  simp only [execOp, ho, e1, e2]
  rw [hC.P, Sem.run_bind, run_lookup ht hk hi hz hm k (h2 b hm.lt (by rw [hm.own]; simp)) ok]
  rfl

theorem vo_look (hC : Fnc C P fn n g0 L0 Post) (hT : TabOk P T) {o : Oper} {t kt vt : Nat} {x y : Operand} {v : Value} {dz : TD} {l b : Nat} {es : List (ByteArray × Value)} {k : ByteArray} (hm : Mp g l b es) (ho : o.op = .lookup t x y false) (hx : evg [] s.env x = some (.c (.v (.map (some b))))) (hy : evg [] s.env y = some (.c (.v (.string k))))
    (ht : P.underlying t = some (.map kt vt)) (hk : P.underlying kt = some .string) (hd : T vt = some dz) (hag : dz.agg = false) (hv : (mget es k).getD (dz.zero.headD undef) = v) : Vo C g s o v [l] := by
  subst hv
  obtain ⟨i, u, hi, hu, hsz, ha, hz, _⟩ := hT.ok vt dz hd
  rw [hag] at hz
  exact vo_lookup hC (ok := false) hm ho hx hy ht hk hi hz

theorem vo_look2 (hC : Fnc C P fn n g0 L0 Post) (hT : TabOk P T) {o : Oper} {t kt vt : Nat} {x y : Operand} {v : Value} {dz : TD} {l b : Nat} {es : List (ByteArray × Value)} {k : ByteArray} (hm : Mp g l b es) (ho : o.op = .lookup t x y true) (hx : evg [] s.env x = some (.c (.v (.map (some b))))) (hy : evg [] s.env y = some (.c (.v (.string k))))
    (ht : P.underlying t = some (.map kt vt)) (hk : P.underlying kt = some .string) (hd : T vt = some dz) (hag : dz.agg = false) (hv : .tuple #[(mget es k).getD (dz.zero.headD undef), .bool (mget es k).isSome] = v) : Vo C g s o v [l] := by
  subst hv
  obtain ⟨i, u, hi, hu, hsz, ha, hz, _⟩ := hT.ok vt dz hd
  rw [hag] at hz
  exact vo_lookup hC (ok := true) hm ho hx hy ht hk hi hz

theorem vo_lenm (hC : Fnc C P fn n g0 L0 Post) {o : Oper} {t kt vt : Nat} {x : Operand} {l b : Nat} {es : List (ByteArray × Value)} (hm : Mp g l b es) (ho : o.op = .call ⟨.builtin .len, #[x], #[t]⟩) (hx : evg [] s.env x = some (.c (.v (.map (some b)))))
    (ht : P.underlying t = some (.map kt vt)) : Vo C g s o (.int .i64 es.length) [l] := by
  intro a w m hs w2 h2
  obtain ⟨ents, clock, hh, he⟩ := hm.at_
  have e1 : a.eval x = .map (some b) := (hs.ev hx).1
  have hg : (getObj b).run P w2 = .ok (.map ents clock) w2 := MapKept.run_getObj_map (by rw [h2 b hm.lt (by rw [hm.own]; simp)]; exact hh)
  have hl : ents.size = es.length := by
    have := congrArg List.length he
    simpa using this
  simp only [execOp, ho, resolve, invoke, builtin, Sem.run_bind, Sem.run_pure, Result.andThen_ok, List.map_toArray, List.map_cons, List.map_nil, e1]
  rw [hC.P]
  simp [Builtin.len_, run_underlying ht, hg, hl, goInt]

/-- The world with block b turned. -/
def gset (g : G) (b : Nat) (o : Obj) : G := ⟨wset g.w b o, g.o⟩

theorem step_set {g : G} {b l : Nat} {o : Obj} (hwf : WF g) (hb : g.o b = l) : Step [l] g (gset g b o) := by
  refine ⟨by show _ ≤ (wset _ _ _).heap.size; rw [wset_size]; exact Nat.le_refl _, fun _ _ => rfl, fun k hk hn => ?_, fun k hk => ?_, rfl, rfl, rfl⟩
  · have : b ≠ k := fun e => hn (by rw [← e, hb]; simp)
    exact wset_ne this
  · have : (wset g.w b o).heap.size ≤ k := hk
    rw [wset_size] at this
    exact hwf k this

/-- All but block b stands. -/
def But (b : Nat) (g g' : G) : Prop := ∀ k, k < g.w.heap.size → k ≠ b → g'.o k = g.o k ∧ g'.w.heap[k]? = g.w.heap[k]?

theorem but_set (g : G) (b : Nat) (o : Obj) : But b g (gset g b o) := fun k _ hk => ⟨rfl, wset_ne (Ne.symm hk)⟩

theorem run_mapUpdate {t kt vt : Nat} (ht : P.underlying t = some (.map kt vt)) (hk : P.underlying kt = some .string) {g : G} {l b : Nat} {es : List (ByteArray × Value)} (hwf : WF g) (h : Mp g l b es) (k : ByteArray) (v : Value) :
    ∃ g', (Instr.mapUpdate t (.map (some b)) (.string k) v).run P g.w = .ok () g'.w ∧ Step [l] g g' ∧ But b g g' ∧ Mp g' l b (mput es k v) := by
  obtain ⟨ents, clock, hh, he⟩ := h.at_
  have hg : (getObj b).run P g.w = .ok (.map ents clock) g.w := MapKept.run_getObj_map hh
  have hset : ∀ o, (setObj b o).run P g.w = .ok () (gset g b o).w := fun o => MapKept.run_setObj_map o hh
  unfold Instr.mapUpdate
  simp only [Sem.run_bind, run_underlying ht, Result.andThen_ok, hg, Sem.run_pure, run_checkStr hk]
  rcases findNow_eq k ents.toList es 0 he with ⟨q1, q2⟩ | ⟨j, u, a, q1, q2, q3, rfl, q5⟩
  · rw [run_findKey hk k _ _ q2]
    simp only [Result.andThen_ok, hset]
    refine ⟨_, rfl, step_set hwf h.own, but_set g b _, ⟨by show b < (wset _ _ _).heap.size; rw [wset_size]; exact h.lt, h.own, _, _, wset_get hh, ?_⟩⟩
    have hp : mput es k v = es ++ [(k, v)] := by
      clear he hh hg hset q2 h
      induction es with
      | nil => rfl
      | cons p r ih =>
        obtain ⟨a, u⟩ := p
        simp only [mget] at q1
        split at q1
        · cases q1
        · rename_i hne
          simp only [mput, if_neg hne, List.cons_append, ih q1]
    rw [hp]
    simp [he]
  · rw [run_findKey hk a _ _ q2]
    simp only [Result.andThen_ok, Sem.run_bind, Nat.zero_add]
    have hkey : ((ents[j]?).map (·.key)).getD (.string a) = .string a := by
      have h1 := congrArg (·[j]?) he
      simp only [List.getElem?_map, q3, Array.getElem?_toList] at h1
      cases hj : ents[j]? with
      | none => rfl
      | some e =>
        rw [hj] at h1
        simp only [Option.map_some, Option.some.injEq, Prod.mk.injEq] at h1
        simp [h1.1]
    have hst : (Instr.keyThatStays (.string a) (.string a)).run P g.w = .ok (.string a) g.w := by
      have : Instr.sameBits 10000 (.string a) (.string a) = true := by
        have : (10000 : Nat) = 9999 + 1 := rfl
        rw [this]; simp [Instr.sameBits, str_eq]
      simp [Instr.keyThatStays, this]
    rw [hkey, hst]
    simp only [Result.andThen_ok, hset]
    refine ⟨_, rfl, step_set hwf h.own, but_set g b _, ⟨by show b < (wset _ _ _).heap.size; rw [wset_size]; exact h.lt, h.own, _, _, wset_get hh, ?_⟩⟩
    rw [q5]
    apply List.ext_getElem?
    intro i
    have h1 := congrArg (·[i]?) he
    simp only [List.getElem?_map, Array.getElem?_toList] at h1
    simp only [List.getElem?_map, Array.getElem?_toList, Array.getElem?_modify]
    by_cases hij : j = i
    · subst hij
      have hlt : j < es.length := (List.getElem?_eq_some_iff.1 q3).1
      rw [if_pos rfl, List.getElem?_set_self hlt]
      rw [q3] at h1
      cases hj : ents[j]? with
      | none => rw [hj] at h1; cases h1
      | some e => rfl
    · rw [if_neg hij, List.getElem?_set_ne hij]
      exact h1
end
section
variable {C : Ctx} {P : Program} {fn : Func} {n : Nat} {g0 g : G} {L0 : List Nat} {Post : Value → G → Prop} {s : St} {T : Tab} {a : Act} {w : World} {m : List Nat}

theorem Ob.but {g g' : G} {l b b' ty : Nat} {cs : List Value} (h : Ob g l b ty cs) (hb : But b' g g') (hz : g.w.heap.size ≤ g'.w.heap.size) (hne : b ≠ b') : Ob g' l b ty cs :=
  ⟨Nat.lt_of_lt_of_le h.lt hz, (hb b h.lt hne).1.trans h.own, (hb b h.lt hne).2.trans h.at_⟩

/-- Cells in place of those from a place on. -/
def setV : List Value → Nat → List Value → List Value
  | cs, _, [] => cs
  | [], _, _ => []
  | _ :: cs, 0, v :: vs => v :: setV cs 0 vs
  | c :: cs, k + 1, vs => c :: setV cs k vs

theorem setV_len : ∀ (cs : List Value) (k : Nat) (vs : List Value), (setV cs k vs).length = cs.length
  | cs, _, [] => by cases cs <;> rfl
  | [], _, _ :: _ => rfl
  | _ :: cs, 0, v :: vs => by simp [setV, setV_len cs 0 vs]
  | c :: cs, k + 1, v :: vs => by simp [setV, setV_len cs k (v :: vs)]

theorem setV_get : ∀ (cs : List Value) (k : Nat) (vs : List Value), k + vs.length ≤ cs.length → ∀ j, (setV cs k vs)[j]? = if k ≤ j ∧ j < k + vs.length then vs[j - k]? else cs[j]?
  | cs, k, [], _, j => by
    rw [if_neg (by simp)]
    cases cs <;> rfl
  | [], _, _ :: _, h, _ => by simp at h
  | c :: cs, 0, v :: vs, h, j => by
    simp only [List.length_cons] at h
    cases j with
    | zero => simp [setV]
    | succ j =>
      simp only [setV, List.getElem?_cons_succ, List.length_cons]
      rw [setV_get cs 0 vs (by omega) j]
      by_cases hj : j < vs.length
      · rw [if_pos ⟨Nat.zero_le _, by omega⟩, if_pos ⟨Nat.zero_le _, by omega⟩]; simp
      · rw [if_neg (by omega), if_neg (by omega)]
  | c :: cs, k + 1, v :: vs, h, j => by
    simp only [List.length_cons] at h
    cases j with
    | zero => rw [if_neg (by omega)]; rfl
    | succ j =>
      simp only [setV, List.getElem?_cons_succ, List.length_cons]
      rw [setV_get cs k (v :: vs) (by simp only [List.length_cons]; omega) j]
      simp only [List.length_cons]
      by_cases hj : k ≤ j ∧ j < k + (vs.length + 1)
      · rw [if_pos hj, if_pos (by omega)]
        congr 1; omega
      · rw [if_neg hj, if_neg (by omega)]

theorem setAt_v {cs : List Value} {off : Nat} {l : List SC} (hle : off + l.length ≤ cs.length) (m : List Nat) : vals m (setAt (cs.map .v) off l) = (setV cs off (l.map (SC.val m))).toArray := by
  apply Array.ext_getElem?
  intro j
  rw [vals_get, setAt_get _ _ _ _ (by simpa using hle), List.getElem?_toArray, setV_get _ _ _ (by simpa using hle)]
  simp only [List.length_map]
  split
  · simp
  · simp only [List.getElem?_map]
    cases cs[j]? <;> rfl

/-- A store into an object. -/
theorem stob (hC : Fnc C P fn n g0 L0 Post) (hT : TabOk P T) (l : Nat) {o : Oper} {all : Array Oper} {r : List Oper} {k : List KI} {t : Nat} {p x : Operand} {b off : Nat} {v : SV} {sc : List SC} {d : TD} (hl : (l != 0 && l != 1) = true)
    (hb : l ∈ L0 ∨ g0.w.heap.size ≤ b) (ho : o.op = .store t p x) (hp : evg [] s.env p = some (.c (.v (.pointer (some ⟨b, off, none⟩))))) (hx : evg [] s.env x = some v) (hc : cellsOf v = some sc) (hd : T t = some d) (hsz : (sc.length == d.size && sc.all nag) = true) (hw : gOn all s o = true) (hdst : o.dst = none)
    (H : ∀ m g1, Prv [1] g g1 → Expo s m (fun _ => 1) g1 → ∃ ty cs, Ob g1 l b ty cs ∧ off + sc.length ≤ cs.length ∧
      ∀ g2 g3, Prv [l] g1 g2 → But b g1 g2 → Prv [1] g2 g3 → Ob g3 l b ty (setV cs off (sc.map (SC.val m))) → Sg C g3 ⟨.ops all r :: k, nameAll s m⟩) :
    Sg C g ⟨.ops all (o :: r) :: k, s⟩ := by
  simp only [Bool.and_eq_true, bne_iff_ne, ne_eq, beq_iff_eq] at hl hsz
  refine stpF hC [l] 1 (by simp) (by simp; exact fun h => hl.2 h.symm) (by simp; exact fun h => hl.1 h.symm) (by simp; exact fun h => hl.2 h.symm) hw (by rw [hdst]; rfl) fun a w m g1 hs hgw hwf p1 e1 hlow hsz1 => ?_
  obtain ⟨ty, cs, hob, hle, hq⟩ := H m g1 p1 e1
  have ep := (hs.ev hp).1
  have ex := (hs.ev hx).1
  have hcs : (v.val m).cells = vals m sc := cellsOf_ok hc m
  have hat : g1.w.heap[b]? = some (.cells (vals m (cs.map .v)) ty (0, 0)) := by rw [vals_map_v']; exact hob.at_
  have hrun : (execOp a.eval o).run C.P g1.w = .ok .skip (gset g1 b (.cells (setV cs off (sc.map (SC.val m))).toArray ty (0, 0))).w := by
    simp only [execOp, ho, ep, SV.val, SC.val]
    rw [Sem.run_bind, run_store_box (C := C) (m := m) (by rw [hC.P]; exact hT) hd hat (by rw [ex]; exact hcs) hsz.1 (by simpa using hle) (List.all_eq_true.1 hsz.2), setAt_v hle]
    rfl
  refine ⟨fun v g2 => But b g1 g2 ∧ Ob g2 l b ty (setV cs off (sc.map (SC.val m))), does_skip hrun (step_set hwf hob.own) ⟨but_set g1 b _, ⟨by show b < (wset _ _ _).heap.size; rw [wset_size]; exact hob.lt, hob.own, wset_get hob.at_⟩⟩, fun v g2 st hp k hk hkl => ?_, fun v g2 g3 p2 st hp p3 _ => ?_⟩
  · rcases hb with hb | hb
    · exact st.keep k (Nat.lt_of_lt_of_le hk hsz1) (by rw [hlow k hk]; simp only [List.mem_singleton]; exact fun h => hkl (h ▸ hb))
    · exact (hp.1 k (Nat.lt_of_lt_of_le hk hsz1) (by omega)).2
  · have := hq g2 g3 p2 hp.1 p3 (hp.2.ks p3.ks (by simp; exact hl.2))
    rw [hdst]; exact this

/-- A map's update. -/
theorem mupd (hC : Fnc C P fn n g0 L0 Post) (l : Nat) {o : Oper} {all : Array Oper} {r : List Oper} {k : List KI} {t kt vt : Nat} {xm xk xv : Operand} {b : Nat} {key : ByteArray} {v : SV} (hl : (l != 0 && l != 1) = true)
    (hb : l ∈ L0 ∨ g0.w.heap.size ≤ b) (ho : o.op = .mapUpdate t xm xk xv ∨ o.op = .insert t xm xk xv) (hm : evg [] s.env xm = some (.c (.v (.map (some b))))) (hk : evg [] s.env xk = some (.c (.v (.string key)))) (hv : evg [] s.env xv = some v)
    (ht : P.underlying t = some (.map kt vt)) (hkt : P.underlying kt = some .string) (hw : gOn all s o = true) (hdst : o.dst = none)
    (H : ∀ m g1, Prv [1] g g1 → Expo s m (fun _ => 1) g1 → ∃ es, Mp g1 l b es ∧
      ∀ g2 g3, Prv [l] g1 g2 → But b g1 g2 → Prv [1] g2 g3 → Mp g3 l b (mput es key (v.val m)) → Sg C g3 ⟨.ops all r :: k, nameAll s m⟩) :
    Sg C g ⟨.ops all (o :: r) :: k, s⟩ := by
  simp only [Bool.and_eq_true, bne_iff_ne, ne_eq] at hl
  refine stpF hC [l] 1 (by simp) (by simp; exact fun h => hl.2 h.symm) (by simp; exact fun h => hl.1 h.symm) (by simp; exact fun h => hl.2 h.symm) hw (by rw [hdst]; rfl) fun a w m g1 hs hgw hwf p1 e1 hlow hsz1 => ?_
  obtain ⟨es, hmp, hq⟩ := H m g1 p1 e1
  have em : a.eval xm = .map (some b) := (hs.ev hm).1
  have ek : a.eval xk = .string key := (hs.ev hk).1
  have ev := (hs.ev hv).1
  obtain ⟨g', r1, r2, r3, r4⟩ := run_mapUpdate ht hkt hwf hmp key (v.val m)
  have hrun : (execOp a.eval o).run C.P g1.w = .ok .skip g'.w := by
    rw [hC.P]
    rcases ho with ho | ho
    · simp only [execOp, ho, em, ek, ev]
      rw [Sem.run_bind, r1]; rfl
    · simp only [execOp, ho, em, ek, ev]
      rw [Sem.run_bind, r1]; rfl
  refine ⟨fun v' g2 => But b g1 g2 ∧ Mp g2 l b (mput es key (v.val m)), does_skip hrun r2 ⟨r3, r4⟩, fun v g2 st hp k hk hkl => ?_, fun v g2 g3 p2 st hp p3 _ => ?_⟩
  · rcases hb with hb | hb
    · exact st.keep k (Nat.lt_of_lt_of_le hk hsz1) (by rw [hlow k hk]; simp only [List.mem_singleton]; exact fun h => hkl (h ▸ hb))
    · exact (hp.1 k (Nat.lt_of_lt_of_le hk hsz1) (by omega)).2
  · have := hq g2 g3 p2 hp.1 p3 (hp.2.ks p3.ks (by simp; exact hl.2))
    rw [hdst]; exact this

/-- A new map, l's. -/
theorem mkmap (hC : Fnc C P fn n g0 L0 Post) (l : Nat) {o : Oper} {all : Array Oper} {r : List Oper} {k : List KI} {t : Nat} (hl : (l != 0 && l != 1) = true) (ho : o.op = .makeMap t none) (hw : gOn all s o = true) (hd : okDst n s o.dst = true)
    (H : ∀ m g1, Prv [1] g g1 → Expo s m (fun _ => 1) g1 → ∀ b g2 g3, Prv [] g1 g2 → Prv [1] g2 g3 → g0.w.heap.size ≤ b → Mp g3 l b [] → Sg C g3 ⟨.ops all r :: k, putE (nameAll s m) o.dst (ofV (.map (some b)))⟩) :
    Sg C g ⟨.ops all (o :: r) :: k, s⟩ := by
  simp only [Bool.and_eq_true, bne_iff_ne, ne_eq] at hl
  refine stp hC [] 1 (by simp) (by simp) (by simp) hw hd fun a w m g1 hs hgw hwf p1 e1 hlow hsz1 => ?_
  have hrun : (execOp a.eval o).run C.P g1.w = .ok (.value (.map (some g1.w.heap.size))) (gpush g1 { g1.w with heap := g1.w.heap.push (.map #[] 0) } l).w := by
    simp only [execOp, ho, Instr.makeMap]
    rfl
  refine ⟨fun v g2 => v = .map (some g1.w.heap.size) ∧ Mp g2 l g1.w.heap.size [], does_val hrun (step_push hwf rfl rfl rfl rfl) ⟨rfl, ⟨?_, ?_, #[], 0, ?_, rfl⟩⟩, fun v g2 g3 p2 st hp p3 _ => ?_⟩
  · show _ < (g1.w.heap.push _).size
    simp
  · show (if _ then _ else _) = _
    rw [if_pos rfl]
  · show (g1.w.heap.push _)[_]? = _
    simp
  · obtain ⟨rfl, hp⟩ := hp
    exact H m g1 p1 e1 _ g2 g3 p2 p3 hsz1 (hp.ks p3.ks (by simp; exact hl.2))
end
attribute [go_sem] setV mget mput undef
end Go.Eng
