/- The centre: what it is; its key; what came; what is noted. The centre: tickets issued. The centre: answers; what one asks who logs in. -/
import Derived.Test.YtobhfopgoidniaaGreatIA
import Derived.Test.YtobhfopgoidniaaGreatFB
set_option linter.all false
set_option linter.unusedVariables false
set_option linter.unusedSimpArgs false

/- The centre: what it is; its key; what came; what is noted. -/
namespace Go.Proofs.YtobhfopgoidniaaGreat
open Go Go.Eng

structure Ev where
  kind : Int
  at_ : Int
  who : ByteArray
  by_ : ByteArray
  wh : ByteArray
  tr : List ByteArray
  fl : Int
  till : Int
  classic : Bool
  code : Int

def evc (e : Ev) (h : Hd) : List Value := [.int .i64 e.kind, .int .i64 e.at_, .string e.who, .string e.by_, .string e.wh, .slice h.a e.tr.length h.cap, .int .i64 e.fl, .int .i64 e.till, .bool e.classic, .int .i64 e.code]
attribute [go_sem] evc
def evv (e : Ev) (h : Hd) : Value := .agg (evc e h).toArray
attribute [go_sem] evv

def rowv (l : List (Ev × Hd)) : List Value := l.flatMap fun p => evc p.1 p.2
theorem rowv_len : ∀ l : List (Ev × Hd), (rowv l).length = l.length * 10
  | [] => rfl
  | q :: r => by
    have := rowv_len r
    have e : (evc q.1 q.2).length = 10 := rfl
    simp only [rowv, List.flatMap_cons, List.length_append, List.length_cons, e] at this ⊢
    rw [this]; omega
theorem rowv_app (l : List (Ev × Hd)) (p : Ev × Hd) : rowv (l ++ [p]) = rowv l ++ evc p.1 p.2 := by simp [rowv]
theorem evc_one (e : Ev) (h : Hd) : ∀ u ∈ evc e h, u.oneCell' = true := by
  intro u hu
  simp only [evc, List.mem_cons, List.not_mem_nil, or_false] at hu
  rcases hu with rfl | rfl | rfl | rfl | rfl | rfl | rfl | rfl | rfl | rfl <;> rfl

def AllE (g : G) (l : List (Ev × Hd)) : Prop := ∀ p ∈ l, StrsOk g 0 p.1.tr p.2
theorem AllE.to {g g' : G} [Later g g'] {l : List (Ev × Hd)} (h : AllE g l) : AllE g' l := fun p hp => (h p hp).to
theorem AllE.app {g g' : G} [Later g g'] {l : List (Ev × Hd)} (h : AllE g l) {p : Ev × Hd} (hp : StrsOk g' 0 p.1.tr p.2) : AllE g' (l ++ [p]) := by
  intro q hq
  rcases List.mem_append.1 hq with hq | hq
  · exact (h q hq).to
  · obtain rfl := List.mem_singleton.1 hq; exact hp

/-- The centre. -/
structure Cen where
  ps : List Pr
  room : Int
  came : List (T × Int)
  serial : Int
  evs : List Ev

/-- The policy as it stands: 10's to 13's. -/
def PolAt (g : G) (bp : Nat) (ps : List Pr) : Prop := (∃ bm ptrs, PolIs g 10 (ptr bp) bp bm ptrs ps) ∧ ∀ p ∈ ps, validP p = true
theorem PolAt.ks {L : List Nat} {g g' : G} (hk : Keeps L g g') {bp : Nat} {ps : List Pr} (k : PolAt g bp ps) (h0 : 10 ∉ L) (h1 : 11 ∉ L) (h2 : 12 ∉ L) (h3 : 13 ∉ L) : PolAt g' bp ps := by
  obtain ⟨⟨bm, ptrs, k1⟩, k2⟩ := k
  exact ⟨⟨bm, ptrs, k1.ks hk h0 h1 h2 h3⟩, k2⟩

/-- The cache as it stands: 32's and 33's. -/
def CaAt (g : G) (bc : Nat) (room : Int) (came : List (T × Int)) : Prop := ∃ el, CaIs 288 345 g 32 bc room el ∧ ents' el = came
theorem CaAt.ks {L : List Nat} {g g' : G} (hk : Keeps L g g') {bc : Nat} {room : Int} {came : List (T × Int)} (k : CaAt g bc room came) (h0 : 32 ∉ L) (h1 : 33 ∉ L) (hz : 0 ∉ L) : CaAt g' bc room came := by
  obtain ⟨el, k1, k2⟩ := k
  exact ⟨el, k1.ks hk h0 h1 hz, k2⟩

/-- The events as they stand: 31's. -/
def EvAt (g : G) (a : Option Addr) (cap : Nat) (evs : List Ev) : Prop := ∃ hs : List (Ev × Hd), OwnRow g 0 31 79 10 (.slice a evs.length cap) evs.length (rowv hs) ∧ hs.map (·.1) = evs ∧ AllE g hs
theorem EvAt.ks {L : List Nat} {g g' : G} (hk : Keeps L g g') {a : Option Addr} {cap : Nat} {evs : List Ev} (k : EvAt g a cap evs) (h0 : 31 ∉ L) (hz : 0 ∉ L) : EvAt g' a cap evs := by
  obtain ⟨hs, k1, k2, k3⟩ := k
  haveI : Later g g' := .of hk hz
  exact ⟨hs, k1.ks hk h0, k2, k3.to⟩

/-- A centre in memory: 30's. -/
structure CenIs (g : G) (b bp : Nat) (c : Cen) : Prop where
  pol : PolAt g bp c.ps
  ob : ∃ bc a cap, Ob g 30 b 195 [ptr bp, ptr bc, .int .i64 c.serial, .slice a c.evs.length cap] ∧ CaAt g bc c.room c.came ∧ EvAt g a cap c.evs

theorem CenIs.ks {L : List Nat} {g g' : G} (hk : Keeps L g g') {b bp : Nat} {c : Cen} (k : CenIs g b bp c) (h0 : 10 ∉ L) (h1 : 11 ∉ L) (h2 : 12 ∉ L) (h3 : 13 ∉ L) (h4 : 30 ∉ L) (h5 : 31 ∉ L) (h6 : 32 ∉ L) (h7 : 33 ∉ L) (hz : 0 ∉ L) : CenIs g' b bp c := by
  obtain ⟨bc, a, cap, k1, k2, k3⟩ := k.ob
  exact ⟨k.pol.ks hk h0 h1 h2 h3, bc, a, cap, k1.ks hk h4, k2.ks hk h6 h7 hz, k3.ks hk h5 hz⟩

/-- One cell of an object. -/
theorem ob1 {g : G} {o b ty : Nat} {cs : List Value} (k : Ob g o b ty cs) (i : Nat) {v : Value} (hv : cs[i]? = some v) : Cs g o b i [v] :=
  k.cs i fun j w hj => by
    cases j with
    | zero => obtain rfl := Option.some.inj hj; exact hv
    | succ j => cases hj

theorem lnew37 (bp : Nat) (ps : List Pr) (room : Int) (g : G) (kp : PolAt g bp ps) : Ok Tryz.prog 37 [ptr bp, .int .i64 room] g [] (fun v g' => ∃ b, v = ptr b ∧ CenIs g' b bp ⟨ps, max room 0, [], 0, []⟩) := by
  refine fbegin Tryz.func37 rfl Tryz.ntmps37 (Nat.le_of_ble_eq_true rfl) fun C hw hC => ?_
  refine runO hC tabOk 60 ?_
  simp [go_sem]
  repeat ((first | refine condT rfl ?_ | refine condF rfl ?_ | refine skD hC rfl rfl rfl ?_); refine runO hC tabOk 60 ?_; simp [go_sem])
  refine call hC [] (by kernel_rfl) rfl rfl rfl rfl rfl fun m1 g1 p1 e1 => ⟨_, cnew129 32 (by simp) room _, fun v1 u1 q1 s1 hv1 => ?_⟩
  obtain ⟨bc, rfl, kc⟩ := hv1
  refine runO hC tabOk 60 ?_
  simp [go_sem]
  repeat ((first | refine condT rfl ?_ | refine condF rfl ?_ | refine skD hC rfl rfl rfl ?_); refine runO hC tabOk 60 ?_; simp [go_sem])
  refine ret hC tabOk (fun _ => 30) rfl rfl fun m gf hl ex => ?_
  exact ⟨_, rfl, kp.ks Kp.ks (by decide) (by decide) (by decide) (by decide), bc, none, 0, ex.ob (i := 0) rfl, ⟨[], kc.ks Kp.ks (by decide) (by decide) (by decide), rfl⟩, [], ⟨rfl, .inl ⟨_, rfl, rfl⟩⟩, rfl, fun p hp => by simp at hp⟩

theorem policy134 (b bp : Nat) (c : Cen) (g : G) (k : CenIs g b bp c) : Ok Tryz.prog 134 [ptr b] g [] (fun v _ => v = ptr bp) := by
  obtain ⟨kp, bc, a, cap, k1, k2, k3⟩ := k
  refine fbegin Tryz.func134 rfl Tryz.ntmps134 (Nat.le_of_ble_eq_true rfl) fun C hw hC => ?_
  refine runO hC tabOk 60 ?_
  simp [go_sem]
  repeat ((first | refine condT rfl ?_ | refine condF rfl ?_ | refine skD hC rfl rfl rfl ?_); refine runO hC tabOk 60 ?_; simp [go_sem])
  refine vo hC (vo_load1 hC tabOk (ob1 k1 0 rfl) rfl rfl rfl rfl) rfl rfl rfl ?_
  refine runO hC tabOk 60 ?_
  simp [go_sem]
  repeat ((first | refine condT rfl ?_ | refine condF rfl ?_ | refine skD hC rfl rfl rfl ?_); refine runO hC tabOk 60 ?_; simp [go_sem])
  refine ret hC tabOk (fun _ => 1) rfl rfl fun m gf hl ex => ?_
  simp [retv, SV.val, SC.val, vals]

def sCentre : ByteArray := ⟨#[99, 101, 110, 116, 114, 101]⟩

theorem key52 (b bp : Nat) (c : Cen) (g : G) (k : CenIs g b bp c) : Ok Tryz.prog 52 [ptr b] g [] (fun v _ => v = .tuple #[tv (pkey c.ps sCentre).1 ⟨none, 0⟩, .int .i64 (pkey c.ps sCentre).2]) := by
  obtain ⟨⟨⟨bm, ptrs, kp⟩, kv⟩, bc, a, cap, k1, k2, k3⟩ := k
  refine fbegin Tryz.func52 rfl Tryz.ntmps52 (Nat.le_of_ble_eq_true rfl) fun C hw hC => ?_
  refine runO hC tabOk 60 ?_
  simp [go_sem]
  repeat ((first | refine condT rfl ?_ | refine condF rfl ?_ | refine skD hC rfl rfl rfl ?_); refine runO hC tabOk 60 ?_; simp [go_sem])
  refine vo hC (vo_load1 hC tabOk ((ob1 k1 0 rfl).ks Kp.ks (by decide)) rfl rfl rfl rfl) rfl rfl rfl ?_
  refine runO hC tabOk 60 ?_
  simp [go_sem]
  repeat ((first | refine condT rfl ?_ | refine condF rfl ?_ | refine skD hC rfl rfl rfl ?_); refine runO hC tabOk 60 ?_; simp [go_sem])
  refine call hC [] (by kernel_rfl) rfl rfl rfl rfl rfl fun m1 g1 p1 e1 => ⟨_, pkey38 10 (by simp) (by simp) (ptr bp) bp bm ptrs c.ps sCentre _ (kp.ks Kp.ks (by decide) (by decide) (by decide) (by decide)), fun v1 u1 q1 s1 hv1 => ?_⟩
  subst hv1
  refine runO hC tabOk 60 ?_
  simp [go_sem]
  repeat ((first | refine condT rfl ?_ | refine condF rfl ?_ | refine skD hC rfl rfl rfl ?_); refine runO hC tabOk 60 ?_; simp [go_sem])
  refine ret hC tabOk (fun _ => 1) rfl rfl fun m gf hl ex => ?_
  simp [retv, SV.val, SC.val, vals, tv, tc]

/-- What came, noted. -/
def freshS (c : Cen) (mark : T) (now : Int) : Cen × Int :=
  ({ c with came := (putS c.room c.came mark (IntKind.i64.wrap (now + 601)) now).1 }, (putS c.room c.came mark (IntKind.i64.wrap (now + 601)) now).2)

theorem fresh228 (b bp : Nat) (c : Cen) (mark : T) (hm : Hd) (now : Int) (g : G) (k : CenIs g b bp c) (km : TOk g mark hm) (hsz : c.came.length ≤ 1099511627776) :
    Ok Tryz.prog 228 [ptr b, tv mark hm, .int .i64 now] g [32, 33] (fun v g' => v = .int .i64 (freshS c mark now).2 ∧ CenIs g' b bp (freshS c mark now).1) := by
  obtain ⟨kp, bc, a, cap, k1, ⟨el, k2, k2'⟩, k3⟩ := k
  have hl2 : el.length ≤ 1099511627776 := by
    have : el.length = c.came.length := by rw [← k2']; simp [ents']
    omega
  refine fbegin Tryz.func228 rfl Tryz.ntmps228 (Nat.le_of_ble_eq_true rfl) fun C hw hC => ?_
  refine runO hC tabOk 60 ?_
  simp [go_sem]
  repeat ((first | refine condT rfl ?_ | refine condF rfl ?_ | refine skD hC rfl rfl rfl ?_); refine runO hC tabOk 60 ?_; simp [go_sem])
  refine draw hC [(0, 0), (1, 0), (2, 0), (3, 0), (4, 0), (5, 0), (6, 0), (7, 0), (8, 1)] [9] mix (by kernel_rfl) ?_
  refine runO hC tabOk 60 ?_
  simp [go_sem]
  repeat ((first | refine condT rfl ?_ | refine condF rfl ?_ | refine skD hC rfl rfl rfl ?_); refine runO hC tabOk 60 ?_; simp [go_sem])
  refine voD hC rfl (vo_load1 hC tabOk ((ob1 k1 1 rfl).ks Kp.ks (by decide)) rfl rfl rfl rfl) rfl rfl rfl rfl ?_
  refine runO hC tabOk 60 ?_
  simp [go_sem]
  repeat ((first | refine condT rfl ?_ | refine condF rfl ?_ | refine skD hC rfl rfl rfl ?_); refine runO hC tabOk 60 ?_; simp [go_sem])
  refine callD hC [32,33] (by kernel_rfl) rfl rfl rfl rfl rfl rfl rfl rfl fun m1 g1 p1 e1 => ⟨_, cput263 32 (by simp) bc c.room el mark hm _ now _ (k2.ks Kp.ks (by decide) (by decide) (by decide)) km.to hl2, fun v1 u1 q1 s1 hv1 => ?_⟩
  obtain ⟨rfl, el', k4, k5⟩ := hv1
  refine runO hC tabOk 60 ?_
  simp [go_sem]
  repeat ((first | refine condT rfl ?_ | refine condF rfl ?_ | refine skD hC rfl rfl rfl ?_); refine runO hC tabOk 60 ?_; simp [go_sem])
  refine ret hC tabOk (fun _ => 1) rfl rfl fun m gf hl ex => ?_
  rw [k2'] at k5
  refine ⟨by rw [k2']; rfl, kp.ks Kp.ks (by decide) (by decide) (by decide) (by decide), bc, a, cap, k1.ks Kp.ks (by decide), ⟨el', k4.ks Kp.ks (by decide) (by decide) (by decide), k5⟩, k3.ks Kp.ks (by decide) (by decide)⟩

def noteS (c : Cen) (e : Ev) : Cen := { c with evs := c.evs ++ [e] }

theorem note145 (b bp : Nat) (c : Cen) (e : Ev) (h : Hd) (g : G) (k : CenIs g b bp c) (ke : StrsOk g 0 e.tr h) (htr : e.tr.length ≤ 2199023255552) (hev : c.evs.length ≤ 1099511627776) :
    Ok Tryz.prog 145 [ptr b, evv e h] g [30, 31] (fun _ g' => CenIs g' b bp (noteS c e)) := by
  obtain ⟨kp, bc, a, cap, k1, k2, hs, k3, k4, k5⟩ := k
  refine fbegin Tryz.func145 rfl Tryz.ntmps145 (Nat.le_of_ble_eq_true rfl) fun C hw hC => ?_
  refine runO hC tabOk 60 ?_
  simp [go_sem]
  repeat ((first | refine condT rfl ?_ | refine condF rfl ?_ | refine skD hC rfl rfl rfl ?_); refine runO hC tabOk 60 ?_; simp [go_sem])
  refine call hC [] (by kernel_rfl) rfl rfl rfl rfl rfl fun m1 g1 p1 e1 => ⟨_, clone215 e.tr h _ 0 0 (by simp) (by simp) ke.to htr, fun v1 u1 q1 s1 hv1 => ?_⟩
  obtain ⟨h', rfl, kc⟩ := hv1
  refine runO hC tabOk 60 ?_
  simp [go_sem]
  repeat ((first | refine condT rfl ?_ | refine condF rfl ?_ | refine skD hC rfl rfl rfl ?_); refine runO hC tabOk 60 ?_; simp [go_sem])
  refine draw hC [(0, 0), (1, 0), (2, 0), (3, 0), (4, 0), (5, 0), (6, 1), (7, 1)] [8, 9, 10] mix (by kernel_rfl) ?_
  refine runO hC tabOk 60 ?_
  simp [go_sem]
  repeat ((first | refine condT rfl ?_ | refine condF rfl ?_ | refine skD hC rfl rfl rfl ?_); refine runO hC tabOk 60 ?_; simp [go_sem])
  refine voD hC rfl (vo_load1 hC tabOk ((ob1 k1 3 rfl).ks Kp.ks (by decide)) rfl rfl rfl rfl) rfl rfl rfl rfl ?_
  refine runO hC tabOk 60 ?_
  simp [go_sem]
  repeat ((first | refine condT rfl ?_ | refine condF rfl ?_ | refine skD hC rfl rfl rfl ?_); refine runO hC tabOk 60 ?_; simp [go_sem])
  refine appD hC 31 0 120 tabOk (by decide) (.inl ⟨by simp, rfl⟩) rfl rfl rfl rfl rfl rfl rfl (by kernel_rfl) rfl rfl rfl (by simp) rfl fun m6 g6 p6 e6 => ?_
  refine ⟨c.evs.length, rowv hs, 1, evc e h', some ⟨m6.getD 1 0, 0, none⟩, 1, k3.ks Kp.ks (by decide), rfl, Cs.rd (e6.frz (i := 1) rfl rfl rfl), rfl, evc_one e h', by simp [maxLen]; omega, by omega, fun v g7 g8 p7 p8 hv => ?_⟩
  obtain ⟨a', cap', rfl, hv1, hv3, hv4⟩ := hv.cs
  refine runO hC tabOk 60 ?_
  simp [go_sem]
  repeat ((first | refine condT rfl ?_ | refine condF rfl ?_ | refine skD hC rfl rfl rfl ?_); refine runO hC tabOk 60 ?_; simp [go_sem])
  refine stob hC tabOk 30 (by decide) (.inl (by simp)) rfl rfl rfl rfl rfl rfl rfl rfl fun m9 g9 p9 e9 => ⟨195, _, k1.ks Kp.ks (by decide), by simp, fun g10 g11 p10 but10 p11 hob' => ?_⟩
  refine runO hC tabOk 60 ?_
  simp [go_sem]
  repeat ((first | refine condT rfl ?_ | refine condF rfl ?_ | refine skD hC rfl rfl rfl ?_); refine runO hC tabOk 60 ?_; simp [go_sem])
  refine done hC tabOk (fun _ => 1) rfl rfl fun m gf hl ex => ?_
  have el : (noteS c e).evs.length = c.evs.length + 1 := by simp [noteS]
  refine ⟨kp.ks Kp.ks (by decide) (by decide) (by decide) (by decide), bc, a', cap', ?_, k2.ks Kp.ks (by decide) (by decide) (by decide), hs ++ [(e, h')], ?_, by simp [noteS, k4], AllE.app k5 kc.to⟩
  · rw [el]
    exact hob'.ks (g' := gf) Kp.ks (by decide)
  · rw [el, rowv_app]
    exact hv.ks (g' := gf) Kp.ks (by decide)
end Go.Proofs.YtobhfopgoidniaaGreat

/- The centre: tickets issued. -/
namespace Go.Proofs.YtobhfopgoidniaaGreat
open Go Go.Eng

/-- What a ticket is to be. -/
structure Gr where
  user : ByteArray
  client : ByteArray
  svc : ByteArray
  fl : Int
  org : Int
  tr : List ByteArray
  fwd : Bool
  fr : Int
  till : Int

def grc (r : Gr) (h : Hd) : List Value := [.string r.user, .string r.client, .string r.svc, .int .i64 r.fl, .int .i64 r.org, .slice h.a r.tr.length h.cap, .bool r.fwd, .int .i64 r.fr, .int .i64 r.till]
attribute [go_sem] grc
def grv (r : Gr) (h : Hd) : Value := .agg (grc r h).toArray
attribute [go_sem] grv

structure GrOk (g : G) (r : Gr) (h : Hd) : Prop where
  tr : StrsOk g 0 r.tr h
  us : r.user.size ≤ maxLen
  cl : r.client.size ≤ maxLen
  sv : r.svc.size ≤ maxLen
theorem GrOk.to {g g' : G} [Later g g'] {r : Gr} {h : Hd} (k : GrOk g r h) : GrOk g' r h := ⟨k.tr.to, k.us, k.cl, k.sv⟩

/-- Two terms, and an error. -/
def TTE (r : T × T × Int) (v : Value) (g : G) : Prop := ∃ h h2, v = .tuple #[tv r.1 h, tv r.2.1 h2, .int .i64 r.2.2] ∧ TOk g r.1 h ∧ TOk g r.2.1 h2

def grAu (c : Cen) (r : Gr) : Au := ⟨r.user, (pget c.ps r.user).1.gr, r.org, r.tr, r.svc, r.fwd, r.till⟩

/-- A ticket, issued. -/
def issueS (c : Cen) (r : Gr) : (T × T × Int) × Cen :=
  if (pkey c.ps r.svc).2 ≠ 0 ∨ (pkey c.ps sCentre).2 ≠ 0 then ((T0, T0, 40), c) else
  let s := IntKind.i64.wrap (c.serial + 1)
  let c' := { c with serial := s }
  let a := buildS (grAu c r) (pkey c.ps r.svc).1 (pkey c.ps sCentre).1
  if a.2 ≠ 0 then ((T0, T0, a.2), c') else
  let t := makeS ⟨r.svc, r.fl, keyT .empty s, r.client, r.fr, r.till, a.1⟩ (pkey c.ps r.svc).1
  if t.2 ≠ 0 then ((T0, T0, t.2), c') else ((t.1, keyT .empty s, 0), c')

theorem pkey_leaf (ps : List Pr) (nm : ByteArray) (g : G) (hn : nm.size ≤ maxLen) : TOk g (pkey ps nm).1 ⟨none, 0⟩ ∧ (pkey ps nm).1.size = 1 := by
  unfold pkey
  split
  · exact ⟨tok_leaf _ _ _ _ hn, rfl⟩
  · exact ⟨tok_leaf _ _ _ _ (Nat.zero_le _), rfl⟩

theorem sizes_leaf {α : Type} (f : α → T) (hf : ∀ x, (f x).size = 1) : ∀ l : List α, T.sizes (l.map f) = l.length
  | [] => rfl
  | a :: l => by simp only [List.map_cons, T.sizes, hf, sizes_leaf f hf l, List.length_cons]; omega

theorem data_size (a : Au) : (dataT a).size = 8 + a.gr.length + a.tr.length := by
  simp only [dataT, T.size, T.sizes, sizes_leaf numT (fun _ => rfl), sizes_leaf ofT (fun _ => rfl)]
  omega

theorem build_size (a : Au) (s c : T) (hs : s.size = 1) (hc : c.size = 1) (h0 : (buildS a s c).2 = 0) : (buildS a s c).1.size ≤ 1000 := by
  unfold buildS at *
  split at h0
  · rename_i h
    simp only [Bool.and_eq_true] at h
    have h1 := h.1.1
    unfold auOk at h1
    simp only [Bool.and_eq_true, decide_eq_true_eq] at h1
    rw [if_pos (by simp only [Bool.and_eq_true]; exact h)]
    have e := data_size a
    simp only [T.size, T.sizes, hs, hc, e]
    omega
  · exact absurd h0 (by decide)

theorem issue144 (b bp : Nat) (c : Cen) (r : Gr) (h : Hd) (g : G) (k : CenIs g b bp c) (kr : GrOk g r h) :
    Ok Tryz.prog 144 [ptr b, grv r h] g [30, 61, 62, 63] (fun v g' => TTE (issueS c r).1 v g' ∧ CenIs g' b bp (issueS c r).2) := by
  have k0 := k
  obtain ⟨⟨⟨bm, ptrs, kp⟩, kv⟩, bc, a, cap, k1, k2, k3⟩ := k
  have hus := kr.us
  have hcl := kr.cl
  have hsv := kr.sv
  refine fbegin Tryz.func144 rfl Tryz.ntmps144 (Nat.le_of_ble_eq_true rfl) fun C hw hC => ?_
  refine runO hC tabOk 60 ?_
  simp [go_sem]
  repeat ((first | refine condT rfl ?_ | refine condF rfl ?_ | refine skD hC rfl rfl rfl ?_); refine runO hC tabOk 60 ?_; simp [go_sem])
  refine draw hC [(0, 0), (1, 0), (2, 0), (3, 0), (4, 0), (5, 0), (10, 2), (6, 1), (7, 0), (8, 0), (9, 0), (10, 3), (11, 1)] [12] mix (by kernel_rfl) ?_
  refine runO hC tabOk 60 ?_
  simp [go_sem]
  repeat ((first | refine condT rfl ?_ | refine condF rfl ?_ | refine skD hC rfl rfl rfl ?_); refine runO hC tabOk 60 ?_; simp [go_sem])
  refine voD hC rfl (vo_load1 hC tabOk ((ob1 k1 0 rfl).ks Kp.ks (by decide)) rfl rfl rfl rfl) rfl rfl rfl rfl ?_
  refine runO hC tabOk 60 ?_
  simp [go_sem]
  repeat ((first | refine condT rfl ?_ | refine condF rfl ?_ | refine skD hC rfl rfl rfl ?_); refine runO hC tabOk 60 ?_; simp [go_sem])
  refine callD hC [] (by kernel_rfl) rfl rfl rfl rfl rfl rfl rfl rfl fun m1 g1 p1 e1 => ⟨_, pkey38 10 (by simp) (by simp) (ptr bp) bp bm ptrs c.ps r.svc _ (kp.ks Kp.ks (by decide) (by decide) (by decide) (by decide)), fun v1 u1 q1 s1 hv1 => ?_⟩
  subst hv1
  refine runO hC tabOk 60 ?_
  simp [go_sem]
  repeat ((first | refine condT rfl ?_ | refine condF rfl ?_ | refine skD hC rfl rfl rfl ?_); refine runO hC tabOk 60 ?_; simp [go_sem])
  refine call hC [] (by kernel_rfl) rfl rfl rfl rfl rfl fun m2 g2 p2 e2 => ⟨_, key52 b bp c _ (k0.ks Kp.ks (by decide) (by decide) (by decide) (by decide) (by decide) (by decide) (by decide) (by decide) (by decide)), fun v2 u2 q2 s2 hv2 => ?_⟩
  subst hv2
  by_cases h1 : (pkey c.ps r.svc).2 = 0
  rotate_left
  · refine runO hC tabOk 60 ?_
    simp [go_sem, h1]
    repeat ((first | refine condT rfl ?_ | refine condF rfl ?_ | refine skD hC rfl rfl rfl ?_); refine runO hC tabOk 60 ?_; simp [go_sem, h1])
    try (refine runO hC tabOk 60 ?_; simp [go_sem, h1]; repeat ((first | refine condT rfl ?_ | refine condF rfl ?_ | refine skD hC rfl rfl rfl ?_); refine runO hC tabOk 60 ?_; simp [go_sem, h1]))
    refine ret hC tabOk (fun _ => 1) rfl rfl fun m gf hl ex => ?_
    have e : issueS c r = ((T0, T0, 40), c) := by unfold issueS; rw [if_pos (.inl h1)]
    rw [e]
    exact ⟨⟨⟨none, 0⟩, ⟨none, 0⟩, rfl, T0_ok _, T0_ok _⟩, k0.ks Kp.ks (by decide) (by decide) (by decide) (by decide) (by decide) (by decide) (by decide) (by decide) (by decide)⟩
  by_cases h2 : (pkey c.ps sCentre).2 = 0
  rotate_left
  · refine runO hC tabOk 60 ?_
    simp [go_sem, h1, h2]
    repeat ((first | refine condT rfl ?_ | refine condF rfl ?_ | refine skD hC rfl rfl rfl ?_); refine runO hC tabOk 60 ?_; simp [go_sem, h1, h2])
    try (refine runO hC tabOk 60 ?_; simp [go_sem, h1, h2]; repeat ((first | refine condT rfl ?_ | refine condF rfl ?_ | refine skD hC rfl rfl rfl ?_); refine runO hC tabOk 60 ?_; simp [go_sem, h1, h2]))
    refine ret hC tabOk (fun _ => 1) rfl rfl fun m gf hl ex => ?_
    have e : issueS c r = ((T0, T0, 40), c) := by unfold issueS; rw [if_pos (.inr h2)]
    rw [e]
    exact ⟨⟨⟨none, 0⟩, ⟨none, 0⟩, rfl, T0_ok _, T0_ok _⟩, k0.ks Kp.ks (by decide) (by decide) (by decide) (by decide) (by decide) (by decide) (by decide) (by decide) (by decide)⟩
  have hiss : issueS c r = (let s := IntKind.i64.wrap (c.serial + 1)
    let c' := { c with serial := s }
    let a := buildS (grAu c r) (pkey c.ps r.svc).1 (pkey c.ps sCentre).1
    if a.2 ≠ 0 then ((T0, T0, a.2), c') else
    let t := makeS ⟨r.svc, r.fl, keyT .empty s, r.client, r.fr, r.till, a.1⟩ (pkey c.ps r.svc).1
    if t.2 ≠ 0 then ((T0, T0, t.2), c') else ((t.1, keyT .empty s, 0), c')) := by
    unfold issueS
    rw [if_neg (by simp [h1, h2])]
  obtain ⟨kk1, ks1⟩ := pkey_leaf c.ps r.svc u2 hsv
  obtain ⟨kk2, ks2⟩ := pkey_leaf c.ps sCentre u2 (by decide)
  refine runO hC tabOk 60 ?_
  simp [go_sem, h1, h2]
  repeat ((first | refine condT rfl ?_ | refine condF rfl ?_ | refine skD hC rfl rfl rfl ?_); refine runO hC tabOk 60 ?_; simp [go_sem, h1, h2])
  try (refine runO hC tabOk 60 ?_; simp [go_sem, h1, h2]; repeat ((first | refine condT rfl ?_ | refine condF rfl ?_ | refine skD hC rfl rfl rfl ?_); refine runO hC tabOk 60 ?_; simp [go_sem, h1, h2]))
  refine vo hC (vo_load1 hC tabOk ((ob1 k1 2 rfl).ks Kp.ks (by decide)) rfl rfl rfl rfl) rfl rfl rfl ?_
  refine runO hC tabOk 60 ?_
  simp [go_sem]
  repeat ((first | refine condT rfl ?_ | refine condF rfl ?_ | refine skD hC rfl rfl rfl ?_); refine runO hC tabOk 60 ?_; simp [go_sem])
  refine stob hC tabOk 30 (by decide) (.inl (by simp)) rfl rfl rfl rfl rfl rfl rfl rfl fun m9 g9 p9 e9 => ⟨195, _, k1.ks Kp.ks (by decide), by simp, fun g10 g11 p10 but10 p11 hob => ?_⟩
  have hob2 : Ob g11 30 b 195 [ptr bp, ptr bc, .int .i64 (IntKind.i64.wrap (c.serial + 1)), .slice a c.evs.length cap] := hob
  have kc11 : CenIs g11 b bp { c with serial := IntKind.i64.wrap (c.serial + 1) } := ⟨PolAt.ks (g := g) Kp.ks ⟨⟨bm, ptrs, kp⟩, kv⟩ (by decide) (by decide) (by decide) (by decide), bc, a, cap, hob2, k2.ks Kp.ks (by decide) (by decide) (by decide), k3.ks Kp.ks (by decide) (by decide)⟩
  generalize hse : IntKind.i64.wrap (c.serial + 1) = se at hob2 kc11 hiss
  refine runO hC tabOk 60 ?_
  simp [go_sem]
  repeat ((first | refine condT rfl ?_ | refine condF rfl ?_ | refine skD hC rfl rfl rfl ?_); refine runO hC tabOk 60 ?_; simp [go_sem])
  refine vo hC (vo_load1 hC tabOk ((ob1 hob2 2 rfl).ks Kp.ks (by decide)) rfl rfl rfl rfl) rfl rfl rfl ?_
  refine runO hC tabOk 60 ?_
  simp [go_sem]
  repeat ((first | refine condT rfl ?_ | refine condF rfl ?_ | refine skD hC rfl rfl rfl ?_); refine runO hC tabOk 60 ?_; simp [go_sem])
  refine call hC [] (by kernel_rfl) rfl rfl rfl rfl rfl fun m3 g3 p3 e3 => ⟨_, key43 .empty se _, fun v3 u3 q3 s3 hv3 => ?_⟩
  subst hv3
  refine runO hC tabOk 60 ?_
  simp [go_sem]
  repeat ((first | refine condT rfl ?_ | refine condF rfl ?_ | refine skD hC rfl rfl rfl ?_); refine runO hC tabOk 60 ?_; simp [go_sem])
  refine draw hC [(0, 0), (1, 0), (2, 0), (3, 0), (4, 0), (5, 0), (10, 2), (6, 1), (7, 0), (8, 0), (9, 0), (10, 3), (11, 1)] [12] mix (by kernel_rfl) ?_
  refine runO hC tabOk 60 ?_
  simp [go_sem]
  repeat ((first | refine condT rfl ?_ | refine condF rfl ?_ | refine skD hC rfl rfl rfl ?_); refine runO hC tabOk 60 ?_; simp [go_sem])
  refine voD hC rfl (vo_load1 hC tabOk ((ob1 hob2 0 rfl).ks Kp.ks (by decide)) rfl rfl rfl rfl) rfl rfl rfl rfl ?_
  refine runO hC tabOk 60 ?_
  simp [go_sem]
  repeat ((first | refine condT rfl ?_ | refine condF rfl ?_ | refine skD hC rfl rfl rfl ?_); refine runO hC tabOk 60 ?_; simp [go_sem])
  refine callD hC [] (by kernel_rfl) rfl rfl rfl rfl rfl rfl rfl rfl fun m4 g4 p4 e4 => ⟨_, pget35 10 (by simp) (by simp) (ptr bp) bp bm ptrs c.ps r.user _ (kp.ks Kp.ks (by decide) (by decide) (by decide) (by decide)) kv, fun v4 u4 q4 s4 hv4 => ?_⟩
  obtain ⟨hp, rfl, kpr⟩ := hv4
  refine runO hC tabOk 60 ?_
  simp [go_sem]
  repeat ((first | refine condT rfl ?_ | refine condF rfl ?_ | refine skD hC rfl rfl rfl ?_); refine runO hC tabOk 60 ?_; simp [go_sem])
  have ka : AuOk u4 (grAu c r) ⟨hp.gr, h⟩ := ⟨kpr.gr, kr.tr.to, hus, hsv⟩
  refine call hC [] (by kernel_rfl) rfl rfl rfl rfl rfl fun m5 g5 p5 e5 => ⟨_, build205 (grAu c r) ⟨hp.gr, h⟩ (pkey c.ps r.svc).1 (pkey c.ps sCentre).1 ⟨none, 0⟩ ⟨none, 0⟩ _ ka.to kk1.to kk2.to, fun v5 u5 q5 s5 hv5 => ?_⟩
  obtain ⟨hb, rfl, kb⟩ := hv5
  have hbs := build_size (grAu c r) _ _ ks1 ks2
  dsimp only at hiss
  generalize buildS (grAu c r) (pkey c.ps r.svc).1 (pkey c.ps sCentre).1 = bt at kb hiss hbs ⊢
  by_cases h3 : bt.2 = 0
  rotate_left
  · refine runO hC tabOk 60 ?_
    simp [go_sem, h3]
    repeat ((first | refine condT rfl ?_ | refine condF rfl ?_ | refine skD hC rfl rfl rfl ?_); refine runO hC tabOk 60 ?_; simp [go_sem, h3])
    try (refine runO hC tabOk 60 ?_; simp [go_sem, h3]; repeat ((first | refine condT rfl ?_ | refine condF rfl ?_ | refine skD hC rfl rfl rfl ?_); refine runO hC tabOk 60 ?_; simp [go_sem, h3]))
    refine ret hC tabOk (fun _ => 1) rfl rfl fun m gf hl ex => ?_
    rw [if_pos h3] at hiss
    rw [hiss]
    exact ⟨⟨⟨none, 0⟩, ⟨none, 0⟩, rfl, T0_ok _, T0_ok _⟩, kc11.ks Kp.ks (by decide) (by decide) (by decide) (by decide) (by decide) (by decide) (by decide) (by decide) (by decide)⟩
  rw [if_neg (by simp [h3])] at hiss
  have ktk : TktOk u5 ⟨r.svc, r.fl, keyT .empty se, r.client, r.fr, r.till, bt.1⟩ ⟨⟨none, 0⟩, hb⟩ := ⟨tok_leaf _ _ _ _ (Nat.zero_le _), kb, hsv, hcl⟩
  refine runO hC tabOk 60 ?_
  simp [go_sem, h3]
  repeat ((first | refine condT rfl ?_ | refine condF rfl ?_ | refine skD hC rfl rfl rfl ?_); refine runO hC tabOk 60 ?_; simp [go_sem, h3])
  try (refine runO hC tabOk 60 ?_; simp [go_sem, h3]; repeat ((first | refine condT rfl ?_ | refine condF rfl ?_ | refine skD hC rfl rfl rfl ?_); refine runO hC tabOk 60 ?_; simp [go_sem, h3]))
  refine call hC [61,62,63] (by kernel_rfl) rfl rfl rfl rfl rfl fun m6 g6 p6 e6 => ⟨_, make206 ⟨r.svc, r.fl, keyT .empty se, r.client, r.fr, r.till, bt.1⟩ (pkey c.ps r.svc).1 ⟨⟨none, 0⟩, hb⟩ ⟨none, 0⟩ _ ktk.to kk1.to (by have := hbs h3; have := tw_size bt.1; dsimp only; omega), fun v6 u6 q6 s6 hv6 => ?_⟩
  obtain ⟨ht, rfl, kt⟩ := hv6
  generalize makeS ⟨r.svc, r.fl, keyT .empty se, r.client, r.fr, r.till, bt.1⟩ (pkey c.ps r.svc).1 = mt at kt hiss ⊢
  by_cases h4 : mt.2 = 0
  rotate_left
  · refine runO hC tabOk 60 ?_
    simp [go_sem, h4]
    repeat ((first | refine condT rfl ?_ | refine condF rfl ?_ | refine skD hC rfl rfl rfl ?_); refine runO hC tabOk 60 ?_; simp [go_sem, h4])
    try (refine runO hC tabOk 60 ?_; simp [go_sem, h4]; repeat ((first | refine condT rfl ?_ | refine condF rfl ?_ | refine skD hC rfl rfl rfl ?_); refine runO hC tabOk 60 ?_; simp [go_sem, h4]))
    refine ret hC tabOk (fun _ => 1) rfl rfl fun m gf hl ex => ?_
    rw [if_pos h4] at hiss
    rw [hiss]
    exact ⟨⟨⟨none, 0⟩, ⟨none, 0⟩, rfl, T0_ok _, T0_ok _⟩, kc11.ks Kp.ks (by decide) (by decide) (by decide) (by decide) (by decide) (by decide) (by decide) (by decide) (by decide)⟩
  rw [if_neg (by simp [h4])] at hiss
  refine runO hC tabOk 60 ?_
  simp [go_sem, h4]
  repeat ((first | refine condT rfl ?_ | refine condF rfl ?_ | refine skD hC rfl rfl rfl ?_); refine runO hC tabOk 60 ?_; simp [go_sem, h4])
  try (refine runO hC tabOk 60 ?_; simp [go_sem, h4]; repeat ((first | refine condT rfl ?_ | refine condF rfl ?_ | refine skD hC rfl rfl rfl ?_); refine runO hC tabOk 60 ?_; simp [go_sem, h4]))
  refine draw hC [(0, 0), (1, 0), (2, 1)] [3, 4] mix (by kernel_rfl) ?_
  refine runO hC tabOk 60 ?_
  simp [go_sem]
  repeat ((first | refine condT rfl ?_ | refine condF rfl ?_ | refine skD hC rfl rfl rfl ?_); refine runO hC tabOk 60 ?_; simp [go_sem])
  refine ret hC tabOk (fun _ => 1) rfl rfl fun m gf hl ex => ?_
  rw [hiss]
  exact ⟨⟨ht, ⟨none, 0⟩, rfl, kt.to, tok_leaf _ _ _ _ (Nat.zero_le _)⟩, kc11.ks Kp.ks (by decide) (by decide) (by decide) (by decide) (by decide) (by decide) (by decide) (by decide) (by decide)⟩
end Go.Proofs.YtobhfopgoidniaaGreat

/- The centre: answers; what one asks who logs in. -/
namespace Go.Proofs.YtobhfopgoidniaaGreat
open Go Go.Eng

def answerS (name client : ByteArray) (tk key session : T) (use nonce : Int) (r : Gr) : T :=
  listT [ofT name, ofT client, tk, sealT key use (listT [session, numT nonce, numT r.fl, numT r.fr, numT r.till, ofT r.svc])]

theorem answer146 (name client : ByteArray) (tk key session : T) (use nonce : Int) (r : Gr) (ht hk hs h : Hd) (g : G) (kt : TOk g tk ht) (kk : TOk g key hk) (ks : TOk g session hs) (kr : GrOk g r h) (hn : name.size ≤ maxLen) (hc : client.size ≤ maxLen) :
    Ok Tryz.prog 146 [.string name, .string client, tv tk ht, tv key hk, tv session hs, .int .i64 use, .int .i64 nonce, grv r h] g [] (fun v g' => TQ (answerS name client tk key session use nonce r) v g') := by
  have hsv := kr.sv
  refine fbegin Tryz.func146 rfl Tryz.ntmps146 (Nat.le_of_ble_eq_true rfl) fun C hw hC => ?_
  refine runO hC tabOk 60 ?_
  simp [go_sem]
  repeat ((first | refine condT rfl ?_ | refine condF rfl ?_ | refine skD hC rfl rfl rfl ?_); refine runO hC tabOk 60 ?_; simp [go_sem])
  refine draw hC [(0, 0), (1, 0), (3, 0), (4, 0), (6, 0), (7, 0), (8, 0), (10, 0), (11, 0), (12, 0), (14, 0), (15, 0), (19, 2), (2, 1), (5, 1), (9, 1), (13, 1), (16, 1), (17, 1), (18, 1), (19, 3)] [20] mix (by kernel_rfl) ?_
  refine runO hC tabOk 60 ?_
  simp [go_sem]
  repeat ((first | refine condT rfl ?_ | refine condF rfl ?_ | refine skD hC rfl rfl rfl ?_); refine runO hC tabOk 60 ?_; simp [go_sem])
  refine callD hC [] (by kernel_rfl) rfl rfl rfl rfl rfl rfl rfl rfl fun m1 g1 p1 e1 => ⟨_, num135 nonce _, fun v1 u1 q1 s1 hv1 => ?_⟩
  subst hv1
  refine runO hC tabOk 60 ?_
  simp [go_sem]
  repeat ((first | refine condT rfl ?_ | refine condF rfl ?_ | refine skD hC rfl rfl rfl ?_); refine runO hC tabOk 60 ?_; simp [go_sem])
  refine callD hC [] (by kernel_rfl) rfl rfl rfl rfl rfl rfl rfl rfl fun m2 g2 p2 e2 => ⟨_, num135 r.fl _, fun v2 u2 q2 s2 hv2 => ?_⟩
  subst hv2
  refine runO hC tabOk 60 ?_
  simp [go_sem]
  repeat ((first | refine condT rfl ?_ | refine condF rfl ?_ | refine skD hC rfl rfl rfl ?_); refine runO hC tabOk 60 ?_; simp [go_sem])
  refine callD hC [] (by kernel_rfl) rfl rfl rfl rfl rfl rfl rfl rfl fun m3 g3 p3 e3 => ⟨_, num135 r.fr _, fun v3 u3 q3 s3 hv3 => ?_⟩
  subst hv3
  refine runO hC tabOk 60 ?_
  simp [go_sem]
  repeat ((first | refine condT rfl ?_ | refine condF rfl ?_ | refine skD hC rfl rfl rfl ?_); refine runO hC tabOk 60 ?_; simp [go_sem])
  refine callD hC [] (by kernel_rfl) rfl rfl rfl rfl rfl rfl rfl rfl fun m4 g4 p4 e4 => ⟨_, num135 r.till _, fun v4 u4 q4 s4 hv4 => ?_⟩
  subst hv4
  refine runO hC tabOk 60 ?_
  simp [go_sem]
  repeat ((first | refine condT rfl ?_ | refine condF rfl ?_ | refine skD hC rfl rfl rfl ?_); refine runO hC tabOk 60 ?_; simp [go_sem])
  refine callD hC [] (by kernel_rfl) rfl rfl rfl rfl rfl rfl rfl rfl fun m5 g5 p5 e5 => ⟨_, of118 r.svc _, fun v5 u5 q5 s5 hv5 => ?_⟩
  subst hv5
  refine runO hC tabOk 60 ?_
  simp [go_sem]
  repeat ((first | refine condT rfl ?_ | refine condF rfl ?_ | refine skD hC rfl rfl rfl ?_); refine runO hC tabOk 60 ?_; simp [go_sem])
  refine callD hC [] (by kernel_rfl) rfl rfl rfl rfl rfl rfl rfl rfl fun m6 g6 p6 e6 => ⟨_, list56 [session, numT nonce, numT r.fl, numT r.fr, numT r.till, ofT r.svc] ⟨some ⟨m6.getD 5 0, 0, none⟩, 6⟩ _ ⟨TsIs.of [(session, hs), (numT nonce, ⟨none, 0⟩), (numT r.fl, ⟨none, 0⟩), (numT r.fr, ⟨none, 0⟩), (numT r.till, ⟨none, 0⟩), (ofT r.svc, ⟨none, 0⟩)] (e6.frz (i := 5) rfl rfl (by first | rfl | simp [rowc, tc, SC.val])) (lsc (ks.to) (lsc (tok_leaf _ _ _ _ (by first | exact Nat.zero_le _ | assumption | (simp [maxLen]; done))) (lsc (tok_leaf _ _ _ _ (by first | exact Nat.zero_le _ | assumption | (simp [maxLen]; done))) (lsc (tok_leaf _ _ _ _ (by first | exact Nat.zero_le _ | assumption | (simp [maxLen]; done))) (lsc (tok_leaf _ _ _ _ (by first | exact Nat.zero_le _ | assumption | (simp [maxLen]; done))) (lsc (tok_leaf _ _ _ _ (by first | exact Nat.zero_le _ | assumption | (simp [maxLen]; done))) lsn)))))), Nat.le_refl _, by simp [maxLen]⟩ (by simp), fun v6 u6 q6 s6 hv6 => ?_⟩
  obtain ⟨hi, rfl, ki⟩ := hv6
  refine runO hC tabOk 60 ?_
  simp [go_sem]
  repeat ((first | refine condT rfl ?_ | refine condF rfl ?_ | refine skD hC rfl rfl rfl ?_); refine runO hC tabOk 60 ?_; simp [go_sem])
  refine draw hC [(0, 0), (1, 0), (3, 0), (4, 0), (5, 0), (6, 0), (2, 1), (7, 1), (8, 1)] [9, 10] mix (by kernel_rfl) ?_
  refine runO hC tabOk 60 ?_
  simp [go_sem]
  repeat ((first | refine condT rfl ?_ | refine condF rfl ?_ | refine skD hC rfl rfl rfl ?_); refine runO hC tabOk 60 ?_; simp [go_sem])
  refine callD hC [] (by kernel_rfl) rfl rfl rfl rfl rfl rfl rfl rfl fun m7 g7 p7 e7 => ⟨_, of118 client _, fun v7 u7 q7 s7 hv7 => ?_⟩
  subst hv7
  refine runO hC tabOk 60 ?_
  simp [go_sem]
  repeat ((first | refine condT rfl ?_ | refine condF rfl ?_ | refine skD hC rfl rfl rfl ?_); refine runO hC tabOk 60 ?_; simp [go_sem])
  refine callD hC [] (by kernel_rfl) rfl rfl rfl rfl rfl rfl rfl rfl fun m8 g8 p8 e8 => ⟨_, seal137 key (listT [session, numT nonce, numT r.fl, numT r.fr, numT r.till, ofT r.svc]) hk hi use _ kk.to ki.to, fun v8 u8 q8 s8 hv8 => ?_⟩
  obtain ⟨hl1, rfl, kl⟩ := hv8
  refine runO hC tabOk 60 ?_
  simp [go_sem]
  repeat ((first | refine condT rfl ?_ | refine condF rfl ?_ | refine skD hC rfl rfl rfl ?_); refine runO hC tabOk 60 ?_; simp [go_sem])
  refine call hC [] (by kernel_rfl) rfl rfl rfl rfl rfl fun m9 g9 p9 e9 => ⟨_, msg136 name [ofT client, tk, sealT key use (listT [session, numT nonce, numT r.fl, numT r.fr, numT r.till, ofT r.svc])] ⟨some ⟨m9.getD 7 0, 0, none⟩, 3⟩ _ ⟨TsIs.of [(ofT client, ⟨none, 0⟩), (tk, ht), (sealT key use (listT [session, numT nonce, numT r.fl, numT r.fr, numT r.till, ofT r.svc]), hl1)] (e9.frz (i := 7) rfl rfl rfl) (ls3 (tok_leaf _ _ _ _ hc) kt.to kl.to), Nat.le_refl _, by simp [maxLen]⟩ hn (by simp) (by simp), fun v9 u9 q9 s9 hv9 => ?_⟩
  obtain ⟨hm, rfl, km⟩ := hv9
  refine runO hC tabOk 60 ?_
  simp [go_sem]
  repeat ((first | refine condT rfl ?_ | refine condF rfl ?_ | refine skD hC rfl rfl rfl ?_); refine runO hC tabOk 60 ?_; simp [go_sem])
  refine ret hC tabOk (fun _ => 1) rfl rfl fun m gf hl ex => ?_
  exact ⟨hm, rfl, km.to⟩

def sAsReq : ByteArray := ⟨#[97, 115, 45, 114, 101, 113]⟩
def sAsRep : ByteArray := ⟨#[97, 115, 45, 114, 101, 112]⟩

def askS (client : ByteArray) (key : T) (now nonce till : Int) : T :=
  listT [ofT sAsReq, ofT client, numT nonce, numT till, sealT key 1 (listT [numT now, numT nonce])]

theorem ask130 (client : ByteArray) (key : T) (now nonce till : Int) (hk : Hd) (g : G) (kk : TOk g key hk) (hc : client.size ≤ maxLen) :
    Ok Tryz.prog 130 [.string client, tv key hk, .int .i64 now, .int .i64 nonce, .int .i64 till] g [] (fun v g' => TQ (askS client key now nonce till) v g') := by
  refine fbegin Tryz.func130 rfl Tryz.ntmps130 (Nat.le_of_ble_eq_true rfl) fun C hw hC => ?_
  refine runO hC tabOk 60 ?_
  simp [go_sem]
  repeat ((first | refine condT rfl ?_ | refine condF rfl ?_ | refine skD hC rfl rfl rfl ?_); refine runO hC tabOk 60 ?_; simp [go_sem])
  refine draw hC [(0, 0), (1, 0), (3, 0), (8, 2), (2, 1), (4, 1), (5, 1), (6, 1), (7, 1), (8, 3)] [9] mix (by kernel_rfl) ?_
  refine runO hC tabOk 60 ?_
  simp [go_sem]
  repeat ((first | refine condT rfl ?_ | refine condF rfl ?_ | refine skD hC rfl rfl rfl ?_); refine runO hC tabOk 60 ?_; simp [go_sem])
  refine callD hC [] (by kernel_rfl) rfl rfl rfl rfl rfl rfl rfl rfl fun m1 g1 p1 e1 => ⟨_, num135 now _, fun v1 u1 q1 s1 hv1 => ?_⟩
  subst hv1
  refine runO hC tabOk 60 ?_
  simp [go_sem]
  repeat ((first | refine condT rfl ?_ | refine condF rfl ?_ | refine skD hC rfl rfl rfl ?_); refine runO hC tabOk 60 ?_; simp [go_sem])
  refine callD hC [] (by kernel_rfl) rfl rfl rfl rfl rfl rfl rfl rfl fun m2 g2 p2 e2 => ⟨_, num135 nonce _, fun v2 u2 q2 s2 hv2 => ?_⟩
  subst hv2
  refine runO hC tabOk 60 ?_
  simp [go_sem]
  repeat ((first | refine condT rfl ?_ | refine condF rfl ?_ | refine skD hC rfl rfl rfl ?_); refine runO hC tabOk 60 ?_; simp [go_sem])
  refine callD hC [] (by kernel_rfl) rfl rfl rfl rfl rfl rfl rfl rfl fun m3 g3 p3 e3 => ⟨_, list56 [numT now, numT nonce] ⟨some ⟨m3.getD 2 0, 0, none⟩, 2⟩ _ ⟨TsIs.of [(numT now, ⟨none, 0⟩), (numT nonce, ⟨none, 0⟩)] (e3.frz (i := 2) rfl rfl (by first | rfl | simp [rowc, tc, SC.val])) (lsc (tok_leaf _ _ _ _ (by first | exact Nat.zero_le _ | assumption | (simp [maxLen]; done))) (lsc (tok_leaf _ _ _ _ (by first | exact Nat.zero_le _ | assumption | (simp [maxLen]; done))) lsn)), Nat.le_refl _, by simp [maxLen]⟩ (by simp), fun v3 u3 q3 s3 hv3 => ?_⟩
  obtain ⟨hi, rfl, ki⟩ := hv3
  refine runO hC tabOk 60 ?_
  simp [go_sem]
  repeat ((first | refine condT rfl ?_ | refine condF rfl ?_ | refine skD hC rfl rfl rfl ?_); refine runO hC tabOk 60 ?_; simp [go_sem])
  refine callD hC [] (by kernel_rfl) rfl rfl rfl rfl rfl rfl rfl rfl fun m4 g4 p4 e4 => ⟨_, seal137 key (listT [numT now, numT nonce]) hk hi 1 _ kk.to ki.to, fun v4 u4 q4 s4 hv4 => ?_⟩
  obtain ⟨hp, rfl, kp⟩ := hv4
  refine runO hC tabOk 60 ?_
  simp [go_sem]
  repeat ((first | refine condT rfl ?_ | refine condF rfl ?_ | refine skD hC rfl rfl rfl ?_); refine runO hC tabOk 60 ?_; simp [go_sem])
  refine draw hC [(0, 0), (2, 0), (4, 0), (6, 0), (1, 1), (3, 1), (5, 1)] [7, 8, 9] mix (by kernel_rfl) ?_
  refine runO hC tabOk 60 ?_
  simp [go_sem]
  repeat ((first | refine condT rfl ?_ | refine condF rfl ?_ | refine skD hC rfl rfl rfl ?_); refine runO hC tabOk 60 ?_; simp [go_sem])
  refine callD hC [] (by kernel_rfl) rfl rfl rfl rfl rfl rfl rfl rfl fun m5 g5 p5 e5 => ⟨_, of118 client _, fun v5 u5 q5 s5 hv5 => ?_⟩
  subst hv5
  refine runO hC tabOk 60 ?_
  simp [go_sem]
  repeat ((first | refine condT rfl ?_ | refine condF rfl ?_ | refine skD hC rfl rfl rfl ?_); refine runO hC tabOk 60 ?_; simp [go_sem])
  refine callD hC [] (by kernel_rfl) rfl rfl rfl rfl rfl rfl rfl rfl fun m6 g6 p6 e6 => ⟨_, num135 nonce _, fun v6 u6 q6 s6 hv6 => ?_⟩
  subst hv6
  refine runO hC tabOk 60 ?_
  simp [go_sem]
  repeat ((first | refine condT rfl ?_ | refine condF rfl ?_ | refine skD hC rfl rfl rfl ?_); refine runO hC tabOk 60 ?_; simp [go_sem])
  refine callD hC [] (by kernel_rfl) rfl rfl rfl rfl rfl rfl rfl rfl fun m7 g7 p7 e7 => ⟨_, num135 till _, fun v7 u7 q7 s7 hv7 => ?_⟩
  subst hv7
  refine runO hC tabOk 60 ?_
  simp [go_sem]
  repeat ((first | refine condT rfl ?_ | refine condF rfl ?_ | refine skD hC rfl rfl rfl ?_); refine runO hC tabOk 60 ?_; simp [go_sem])
  refine call hC [] (by kernel_rfl) rfl rfl rfl rfl rfl fun m8 g8 p8 e8 => ⟨_, msg136 sAsReq [ofT client, numT nonce, numT till, sealT key 1 (listT [numT now, numT nonce])] ⟨some ⟨m8.getD 4 0, 0, none⟩, 4⟩ _ ⟨TsIs.of [(ofT client, ⟨none, 0⟩), (numT nonce, ⟨none, 0⟩), (numT till, ⟨none, 0⟩), (sealT key 1 (listT [numT now, numT nonce]), hp)] (e8.frz (i := 4) rfl rfl rfl) (lsc (tok_leaf _ _ _ _ hc) (ls3 (tok_leaf _ _ _ _ (Nat.zero_le _)) (tok_leaf _ _ _ _ (Nat.zero_le _)) kp.to)), Nat.le_refl _, by simp [maxLen]⟩ (by decide) (by simp) (by simp), fun v8 u8 q8 s8 hv8 => ?_⟩
  obtain ⟨hm, rfl, km⟩ := hv8
  refine runO hC tabOk 60 ?_
  simp [go_sem]
  repeat ((first | refine condT rfl ?_ | refine condF rfl ?_ | refine skD hC rfl rfl rfl ?_); refine runO hC tabOk 60 ?_; simp [go_sem])
  refine ret hC tabOk (fun _ => 1) rfl rfl fun m gf hl ex => ?_
  exact ⟨hm, rfl, km.to⟩

def nameT (x : T) : Bool := decide (x = ofT x.s)
def numB (x : T) : Bool := decide (x = numT x.n)

theorem number224 (x : T) (h : Hd) (g : G) (k : TOk g x h) : Ok Tryz.prog 224 [tv x h] g [] (fun v _ => v = .bool (numB x)) := by
  refine fbegin Tryz.func224 rfl Tryz.ntmps224 (Nat.le_of_ble_eq_true rfl) fun C hw hC => ?_
  refine runO hC tabOk 60 ?_
  simp [go_sem]
  repeat ((first | refine condT rfl ?_ | refine condF rfl ?_ | refine skD hC rfl rfl rfl ?_); refine runO hC tabOk 60 ?_; simp [go_sem])
  refine draw hC [(0, 0), (1, 0), (2, 0), (3, 1)] [4, 5] mix (by kernel_rfl) ?_
  refine runO hC tabOk 60 ?_
  simp [go_sem]
  repeat ((first | refine condT rfl ?_ | refine condF rfl ?_ | refine skD hC rfl rfl rfl ?_); refine runO hC tabOk 60 ?_; simp [go_sem])
  refine callD hC [] (by kernel_rfl) rfl rfl rfl rfl rfl rfl rfl rfl fun m1 g1 p1 e1 => ⟨_, num135 x.n _, fun v1 u1 q1 s1 hv1 => ?_⟩
  subst hv1
  refine runO hC tabOk 60 ?_
  simp [go_sem]
  repeat ((first | refine condT rfl ?_ | refine condF rfl ?_ | refine skD hC rfl rfl rfl ?_); refine runO hC tabOk 60 ?_; simp [go_sem])
  refine call hC [] (by kernel_rfl) rfl rfl rfl rfl rfl fun m2 g2 p2 e2 => ⟨_, same44 x (numT x.n) h ⟨none, 0⟩ _ k.to (tok_leaf _ _ _ _ (Nat.zero_le _)), fun v2 u2 q2 s2 hv2 => ?_⟩
  subst hv2
  refine runO hC tabOk 60 ?_
  simp [go_sem]
  repeat ((first | refine condT rfl ?_ | refine condF rfl ?_ | refine skD hC rfl rfl rfl ?_); refine runO hC tabOk 60 ?_; simp [go_sem])
  refine ret hC tabOk (fun _ => 1) rfl rfl fun m gf hl ex => ?_
  simp [retv, SV.val, SC.val, vals, numB]

theorem number271 (x : T) (h : Hd) (g : G) (k : TOk g x h) : Ok Tryz.prog 271 [tv x h] g [] (fun v _ => v = .bool (numB x)) := by
  refine fbegin Tryz.func271 rfl Tryz.ntmps271 (Nat.le_of_ble_eq_true rfl) fun C hw hC => ?_
  refine runO hC tabOk 60 ?_
  simp [go_sem]
  repeat ((first | refine condT rfl ?_ | refine condF rfl ?_ | refine skD hC rfl rfl rfl ?_); refine runO hC tabOk 60 ?_; simp [go_sem])
  refine draw hC [(0, 0), (1, 0), (2, 0), (3, 1)] [4, 5] mix (by kernel_rfl) ?_
  refine runO hC tabOk 60 ?_
  simp [go_sem]
  repeat ((first | refine condT rfl ?_ | refine condF rfl ?_ | refine skD hC rfl rfl rfl ?_); refine runO hC tabOk 60 ?_; simp [go_sem])
  refine callD hC [] (by kernel_rfl) rfl rfl rfl rfl rfl rfl rfl rfl fun m1 g1 p1 e1 => ⟨_, num135 x.n _, fun v1 u1 q1 s1 hv1 => ?_⟩
  subst hv1
  refine runO hC tabOk 60 ?_
  simp [go_sem]
  repeat ((first | refine condT rfl ?_ | refine condF rfl ?_ | refine skD hC rfl rfl rfl ?_); refine runO hC tabOk 60 ?_; simp [go_sem])
  refine call hC [] (by kernel_rfl) rfl rfl rfl rfl rfl fun m2 g2 p2 e2 => ⟨_, same44 x (numT x.n) h ⟨none, 0⟩ _ k.to (tok_leaf _ _ _ _ (Nat.zero_le _)), fun v2 u2 q2 s2 hv2 => ?_⟩
  subst hv2
  refine runO hC tabOk 60 ?_
  simp [go_sem]
  repeat ((first | refine condT rfl ?_ | refine condF rfl ?_ | refine skD hC rfl rfl rfl ?_); refine runO hC tabOk 60 ?_; simp [go_sem])
  refine ret hC tabOk (fun _ => 1) rfl rfl fun m gf hl ex => ?_
  simp [retv, SV.val, SC.val, vals, numB]

/-- What one asks who logs in. -/
structure Ak where
  who : ByteArray
  nonce : Int
  till : Int
  pre : T
abbrev Ak0 : Ak := ⟨.empty, 0, 0, T0⟩
def akc (a : Ak) (h : Hd) : List Value := [.string a.who, .int .i64 a.nonce, .int .i64 a.till, .int .i64 a.pre.k, .string a.pre.s, .int .i64 a.pre.n, .slice h.a a.pre.l.length h.cap]
attribute [go_sem] akc
def akv (a : Ak) (h : Hd) : Value := .agg (akc a h).toArray
attribute [go_sem] akv
def AkE (r : Ak × Int) (v : Value) (g : G) : Prop := ∃ h, v = .tuple #[akv r.1 h, .int .i64 r.2] ∧ TOk g r.1.pre h ∧ r.1.who.size ≤ maxLen

def readQ (t : T) : Ak × Int := match takeS t sAsReq 4 with
  | ([a, b, c, d], 0) => if nameT a && numB b && numB c then (⟨a.s, b.n, c.n, d⟩, 0) else (Ak0, 50)
  | _ => (Ak0, 50)

theorem lread142 (t : T) (h : Hd) (g : G) (k : TOk g t h) : Ok Tryz.prog 142 [tv t h] g [] (fun v g' => AkE (readQ t) v g') := by
  have fail : ∀ (v : Value) (g' : G), v = .tuple #[akv Ak0 ⟨none, 0⟩, .int .i64 50] → readQ t = (Ak0, 50) → AkE (readQ t) v g' := by
    intro v g' e1 e2
    rw [e2]
    exact ⟨⟨none, 0⟩, e1, T0_ok _, Nat.zero_le _⟩
  refine fbegin Tryz.func142 rfl Tryz.ntmps142 (Nat.le_of_ble_eq_true rfl) fun C hw hC => ?_
  refine runO hC tabOk 60 ?_
  simp [go_sem]
  repeat ((first | refine condT rfl ?_ | refine condF rfl ?_ | refine skD hC rfl rfl rfl ?_); refine runO hC tabOk 60 ?_; simp [go_sem])
  refine call hC [] (by kernel_rfl) rfl rfl rfl rfl rfl fun m1 g1 p1 e1 => ⟨_, take51 t sAsReq 4 h _ k.to (by decide), fun v1 u1 q1 s1 hv1 => ?_⟩
  obtain ⟨hl1, rfl, kl⟩ := hv1
  rcases take_or t sAsReq 4 with ⟨e0, hlen, el⟩ | e0
  rotate_left
  · refine runO hC tabOk 60 ?_
    simp [go_sem, e0]
    repeat ((first | refine condT rfl ?_ | refine condF rfl ?_ | refine skD hC rfl rfl rfl ?_); refine runO hC tabOk 60 ?_; simp [go_sem, e0])
    try (refine runO hC tabOk 60 ?_; simp [go_sem, e0]; repeat ((first | refine condT rfl ?_ | refine condF rfl ?_ | refine skD hC rfl rfl rfl ?_); refine runO hC tabOk 60 ?_; simp [go_sem, e0]))
    refine ret hC tabOk (fun _ => 1) rfl rfl fun m gf hl ex => ?_
    exact fail _ _ rfl (by simp [readQ, e0])
  obtain ⟨a, b, c, d, exy⟩ : ∃ a b c d, (takeS t sAsReq 4).1 = [a, b, c, d] := by
    match hq : (takeS t sAsReq 4).1, hlen with
    | [a, b, c, d], _ => exact ⟨a, b, c, d, rfl⟩
  have et : takeS t sAsReq 4 = ([a, b, c, d], 0) := Prod.ext exy e0
  rw [et] at kl
  obtain ⟨b0, off0, h_a, ea, hcs_a, k_a⟩ := kl.get (i := 0) (t := a) rfl
  obtain ⟨b1, off1, h_b, ea1, hcs_b, k_b⟩ := kl.get (i := 1) (t := b) rfl
  rw [ea] at ea1
  obtain ⟨rfl, rfl, _⟩ := Addr.mk.inj (Option.some.inj ea1)
  obtain ⟨b1, off1, h_c, ea1, hcs_c, k_c⟩ := kl.get (i := 2) (t := c) rfl
  rw [ea] at ea1
  obtain ⟨rfl, rfl, _⟩ := Addr.mk.inj (Option.some.inj ea1)
  obtain ⟨b1, off1, h_d, ea1, hcs_d, k_d⟩ := kl.get (i := 3) (t := d) rfl
  rw [ea] at ea1
  obtain ⟨rfl, rfl, _⟩ := Addr.mk.inj (Option.some.inj ea1)
  have hsa := k_a.str
  refine runO hC tabOk 60 ?_
  simp [go_sem, et, ea]
  repeat ((first | refine condT rfl ?_ | refine condF rfl ?_ | refine skD hC rfl rfl rfl ?_); refine runO hC tabOk 60 ?_; simp [go_sem, et, ea])
  try (refine runO hC tabOk 60 ?_; simp [go_sem, et, ea]; repeat ((first | refine condT rfl ?_ | refine condF rfl ?_ | refine skD hC rfl rfl rfl ?_); refine runO hC tabOk 60 ?_; simp [go_sem, et, ea]))
  refine draw hC [(0, 0), (1, 0), (2, 0), (3, 0), (4, 0), (5, 0), (6, 0), (7, 1), (8, 1), (9, 0), (10, 0), (11, 0), (12, 0), (13, 0), (14, 0), (15, 1), (16, 0), (17, 0), (18, 0), (19, 0), (20, 0), (21, 0), (22, 0), (23, 1), (24, 0), (25, 0)] [] mix (by kernel_rfl) ?_
  refine runO hC tabOk 60 ?_
  simp [go_sem]
  repeat ((first | refine condT rfl ?_ | refine condF rfl ?_ | refine skD hC rfl rfl rfl ?_); refine runO hC tabOk 60 ?_; simp [go_sem])
  refine voD hC rfl (vo_index hC tabOk rfl rfl rfl rfl rfl rfl (by omega) (by omega)) rfl rfl rfl rfl ?_
  refine runO hC tabOk 60 ?_
  simp [go_sem]
  repeat ((first | refine condT rfl ?_ | refine condF rfl ?_ | refine skD hC rfl rfl rfl ?_); refine runO hC tabOk 60 ?_; simp [go_sem])
  refine voD hC rfl (vo_load hC tabOk hcs_a.to rfl rfl rfl rfl rfl) rfl rfl rfl rfl ?_
  refine runO hC tabOk 60 ?_
  simp [go_sem]
  repeat ((first | refine condT rfl ?_ | refine condF rfl ?_ | refine skD hC rfl rfl rfl ?_); refine runO hC tabOk 60 ?_; simp [go_sem])
  refine voD hC rfl (vo_index hC tabOk rfl rfl rfl rfl rfl rfl (by omega) (by omega)) rfl rfl rfl rfl ?_
  refine runO hC tabOk 60 ?_
  simp [go_sem]
  repeat ((first | refine condT rfl ?_ | refine condF rfl ?_ | refine skD hC rfl rfl rfl ?_); refine runO hC tabOk 60 ?_; simp [go_sem])
  refine voD hC rfl (vo_load1 hC tabOk ((hcs_a.one 1 rfl).to) rfl rfl rfl rfl) rfl rfl rfl rfl ?_
  refine runO hC tabOk 60 ?_
  simp [go_sem]
  repeat ((first | refine condT rfl ?_ | refine condF rfl ?_ | refine skD hC rfl rfl rfl ?_); refine runO hC tabOk 60 ?_; simp [go_sem])
  refine callD hC [] (by kernel_rfl) rfl rfl rfl rfl rfl rfl rfl rfl fun m2 g2 p2 e2 => ⟨_, of118 a.s _, fun v2 u2 q2 s2 hv2 => ?_⟩
  subst hv2
  refine runO hC tabOk 60 ?_
  simp [go_sem]
  repeat ((first | refine condT rfl ?_ | refine condF rfl ?_ | refine skD hC rfl rfl rfl ?_); refine runO hC tabOk 60 ?_; simp [go_sem])
  refine callD hC [] (by kernel_rfl) rfl rfl rfl rfl rfl rfl rfl rfl fun m3 g3 p3 e3 => ⟨_, same44 a (ofT a.s) h_a ⟨none, 0⟩ _ k_a.to (tok_leaf _ _ _ _ hsa), fun v3 u3 q3 s3 hv3 => ?_⟩
  subst hv3
  by_cases h1 : a = ofT a.s
  rotate_left
  · have d1 : decide (a = ofT a.s) = false := by simp [h1]
    refine runO hC tabOk 60 ?_
    simp [go_sem, d1]
    repeat ((first | refine condT rfl ?_ | refine condF rfl ?_ | refine skD hC rfl rfl rfl ?_); refine runO hC tabOk 60 ?_; simp [go_sem, d1])
    try (refine runO hC tabOk 60 ?_; simp [go_sem, d1]; repeat ((first | refine condT rfl ?_ | refine condF rfl ?_ | refine skD hC rfl rfl rfl ?_); refine runO hC tabOk 60 ?_; simp [go_sem, d1]))
    refine ret hC tabOk (fun _ => 1) rfl rfl fun m gf hl ex => ?_
    exact fail _ _ rfl (by simp [readQ, et, nameT, d1])
  have d1 : decide (a = ofT a.s) = true := by simp [← h1]
  refine runO hC tabOk 60 ?_
  simp [go_sem, d1]
  repeat ((first | refine condT rfl ?_ | refine condF rfl ?_ | refine skD hC rfl rfl rfl ?_); refine runO hC tabOk 60 ?_; simp [go_sem, d1])
  try (refine runO hC tabOk 60 ?_; simp [go_sem, d1]; repeat ((first | refine condT rfl ?_ | refine condF rfl ?_ | refine skD hC rfl rfl rfl ?_); refine runO hC tabOk 60 ?_; simp [go_sem, d1]))
  refine voD hC rfl (vo_index hC tabOk rfl rfl rfl rfl rfl rfl (by omega) (by omega)) rfl rfl rfl rfl ?_
  refine runO hC tabOk 60 ?_
  simp [go_sem]
  repeat ((first | refine condT rfl ?_ | refine condF rfl ?_ | refine skD hC rfl rfl rfl ?_); refine runO hC tabOk 60 ?_; simp [go_sem])
  refine voD hC rfl (vo_load hC tabOk hcs_b.to rfl rfl rfl rfl rfl) rfl rfl rfl rfl ?_
  refine runO hC tabOk 60 ?_
  simp [go_sem]
  repeat ((first | refine condT rfl ?_ | refine condF rfl ?_ | refine skD hC rfl rfl rfl ?_); refine runO hC tabOk 60 ?_; simp [go_sem])
  refine callvD hC [] 1 rfl rfl rfl rfl rfl (by kernel_rfl) rfl rfl rfl rfl rfl rfl fun m4 g4 w4 p4 e4 => ⟨_, number224 b h_b _ k_b.to, fun v4 j4 u4 q4 s4 hv4 r4 => ?_⟩
  subst hv4
  cases h2 : numB b with
  | false =>
    refine runO hC tabOk 60 ?_
    simp [go_sem]
    repeat ((first | refine condT rfl ?_ | refine condF rfl ?_ | refine skD hC rfl rfl rfl ?_); refine runO hC tabOk 60 ?_; simp [go_sem])
    refine ret hC tabOk (fun _ => 1) rfl rfl fun m gf hl ex => ?_
    exact fail _ _ rfl (by simp [readQ, et, h2])
  | true =>
  refine runO hC tabOk 60 ?_
  simp [go_sem]
  repeat ((first | refine condT rfl ?_ | refine condF rfl ?_ | refine skD hC rfl rfl rfl ?_); refine runO hC tabOk 60 ?_; simp [go_sem])
  refine voD hC rfl (vo_index hC tabOk rfl rfl rfl rfl rfl rfl (by omega) (by omega)) rfl rfl rfl rfl ?_
  refine runO hC tabOk 60 ?_
  simp [go_sem]
  repeat ((first | refine condT rfl ?_ | refine condF rfl ?_ | refine skD hC rfl rfl rfl ?_); refine runO hC tabOk 60 ?_; simp [go_sem])
  refine voD hC rfl (vo_load hC tabOk hcs_c.to rfl rfl rfl rfl rfl) rfl rfl rfl rfl ?_
  refine runO hC tabOk 60 ?_
  simp [go_sem]
  repeat ((first | refine condT rfl ?_ | refine condF rfl ?_ | refine skD hC rfl rfl rfl ?_); refine runO hC tabOk 60 ?_; simp [go_sem])
  refine callvD hC [] 1 rfl rfl rfl rfl rfl (by kernel_rfl) rfl rfl rfl rfl rfl rfl fun m5 g5 w5 p5 e5 => ⟨_, number224 c h_c _ k_c.to, fun v5 j5 u5 q5 s5 hv5 r5 => ?_⟩
  subst hv5
  cases h3 : numB c with
  | false =>
    refine runO hC tabOk 60 ?_
    simp [go_sem]
    repeat ((first | refine condT rfl ?_ | refine condF rfl ?_ | refine skD hC rfl rfl rfl ?_); refine runO hC tabOk 60 ?_; simp [go_sem])
    refine ret hC tabOk (fun _ => 1) rfl rfl fun m gf hl ex => ?_
    exact fail _ _ rfl (by simp [readQ, et, h3])
  | true =>
  refine runO hC tabOk 60 ?_
  simp [go_sem]
  repeat ((first | refine condT rfl ?_ | refine condF rfl ?_ | refine skD hC rfl rfl rfl ?_); refine runO hC tabOk 60 ?_; simp [go_sem])
  refine draw hC [(0, 0), (1, 0), (2, 0), (3, 0), (4, 0), (5, 0), (6, 0), (7, 0), (8, 0), (9, 0), (10, 0), (11, 0), (12, 0), (13, 0), (14, 0), (15, 0)] [16, 17] mix (by kernel_rfl) ?_
  refine runO hC tabOk 60 ?_
  simp [go_sem]
  repeat ((first | refine condT rfl ?_ | refine condF rfl ?_ | refine skD hC rfl rfl rfl ?_); refine runO hC tabOk 60 ?_; simp [go_sem])
  refine voD hC rfl (vo_index hC tabOk rfl rfl rfl rfl rfl rfl (by omega) (by omega)) rfl rfl rfl rfl ?_
  refine runO hC tabOk 60 ?_
  simp [go_sem]
  repeat ((first | refine condT rfl ?_ | refine condF rfl ?_ | refine skD hC rfl rfl rfl ?_); refine runO hC tabOk 60 ?_; simp [go_sem])
  refine voD hC rfl (vo_load1 hC tabOk ((hcs_a.one 1 rfl).to) rfl rfl rfl rfl) rfl rfl rfl rfl ?_
  refine runO hC tabOk 60 ?_
  simp [go_sem]
  repeat ((first | refine condT rfl ?_ | refine condF rfl ?_ | refine skD hC rfl rfl rfl ?_); refine runO hC tabOk 60 ?_; simp [go_sem])
  refine voD hC rfl (vo_index hC tabOk rfl rfl rfl rfl rfl rfl (by omega) (by omega)) rfl rfl rfl rfl ?_
  refine runO hC tabOk 60 ?_
  simp [go_sem]
  repeat ((first | refine condT rfl ?_ | refine condF rfl ?_ | refine skD hC rfl rfl rfl ?_); refine runO hC tabOk 60 ?_; simp [go_sem])
  refine voD hC rfl (vo_load1 hC tabOk ((hcs_b.one 2 rfl).to) rfl rfl rfl rfl) rfl rfl rfl rfl ?_
  refine runO hC tabOk 60 ?_
  simp [go_sem]
  repeat ((first | refine condT rfl ?_ | refine condF rfl ?_ | refine skD hC rfl rfl rfl ?_); refine runO hC tabOk 60 ?_; simp [go_sem])
  refine voD hC rfl (vo_index hC tabOk rfl rfl rfl rfl rfl rfl (by omega) (by omega)) rfl rfl rfl rfl ?_
  refine runO hC tabOk 60 ?_
  simp [go_sem]
  repeat ((first | refine condT rfl ?_ | refine condF rfl ?_ | refine skD hC rfl rfl rfl ?_); refine runO hC tabOk 60 ?_; simp [go_sem])
  refine voD hC rfl (vo_load1 hC tabOk ((hcs_c.one 2 rfl).to) rfl rfl rfl rfl) rfl rfl rfl rfl ?_
  refine runO hC tabOk 60 ?_
  simp [go_sem]
  repeat ((first | refine condT rfl ?_ | refine condF rfl ?_ | refine skD hC rfl rfl rfl ?_); refine runO hC tabOk 60 ?_; simp [go_sem])
  refine voD hC rfl (vo_index hC tabOk rfl rfl rfl rfl rfl rfl (by omega) (by omega)) rfl rfl rfl rfl ?_
  refine runO hC tabOk 60 ?_
  simp [go_sem]
  repeat ((first | refine condT rfl ?_ | refine condF rfl ?_ | refine skD hC rfl rfl rfl ?_); refine runO hC tabOk 60 ?_; simp [go_sem])
  refine voD hC rfl (vo_load hC tabOk hcs_d.to rfl rfl rfl rfl rfl) rfl rfl rfl rfl ?_
  refine runO hC tabOk 60 ?_
  simp [go_sem]
  repeat ((first | refine condT rfl ?_ | refine condF rfl ?_ | refine skD hC rfl rfl rfl ?_); refine runO hC tabOk 60 ?_; simp [go_sem])
  refine ret hC tabOk (fun _ => 1) rfl rfl fun m gf hl ex => ?_
  have : readQ t = (⟨a.s, b.n, c.n, d⟩, 0) := by simp [readQ, et, nameT, d1, h2, h3]
  rw [this]
  exact ⟨h_d, rfl, k_d.to, hsa⟩
end Go.Proofs.YtobhfopgoidniaaGreat
