/- Tests and operations that are left out, in one step; the run goes on behind them. -/
import Derived.Test.YtobhfopgoidniaaGreatED
set_option linter.all false
set_option linter.unusedVariables false
set_option linter.unusedSimpArgs false

namespace Go.Eng
open Go

/-- What a decided test, or a guard that is off, leaves to run. -/
def hdS (n : Nat) (c : Cfg) : Option Cfg :=
  match c.k with
  | .code (.cond x a b) :: k => match evg [] c.s.env x with
    | some (.c (.v (.bool true))) => some ⟨.code a :: k, c.s⟩
    | some (.c (.v (.bool false))) => some ⟨.code b :: k, c.s⟩
    | _ => none
  | .opsD all ((i, 1) :: p) st fb fl none :: k => match all[i]? with
    | some o => bif gOff all c.s o && okDst n c.s o.dst then some ⟨.opsD all p st fb fl none :: k, putE c.s o.dst (.c (.v undef))⟩ else none
    | none => none
  | _ => none

section
variable {C : Ctx} {P : Program} {fn : Func} {n : Nat} {g0 g : G} {L0 : List Nat} {Post : Value → G → Prop} {s : St} {T : Tab}

theorem runC (hC : Fnc C P fn n g0 L0 Post) (hT : TabOk P T) {c c' : Cfg} (hh : hdS n c = some c') (h : Sg C g (exO 60 T n c')) : Sg C g c := by
  have h1 : Sg C g c' := runO hC hT 60 h
  obtain ⟨k, s⟩ := c
  unfold hdS at hh
  dsimp only at hh
  split at hh
  · rename_i x a b k2
    split at hh
    · rename_i hv
      obtain rfl := Option.some.inj hh
      exact condT hv h1
    · rename_i hv
      obtain rfl := Option.some.inj hh
      exact condF hv h1
    · cases hh
  · rename_i all i p st fb fl k2
    split at hh
    · rename_i o ho
      cases hg : gOff all s o && okDst n s o.dst
      · rw [hg] at hh; cases hh
      · rw [hg] at hh
        obtain rfl := Option.some.inj hh
        rw [Bool.and_eq_true] at hg
        exact skD hC ho hg.1 hg.2 h1
    · cases hh
  · cases hh
end
end Go.Eng
