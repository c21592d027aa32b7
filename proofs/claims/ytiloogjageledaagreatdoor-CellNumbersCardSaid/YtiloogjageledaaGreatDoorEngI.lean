/-
  The engine, more: an integer's negative.
-/
import Derived.Test.YtiloogjageledaaGreatDoorEngH
namespace Go.E
open Go

section
variable {P : Program} {w : World} {t : TypeId} {Q : Exit → Act → World → Prop} {D : List Deferred} {n : Nat} {E : Env} {l rest : List Oper} {x : Operand} {d T : Nat} {pos : String} {af : Array Edge}
theorem LW.neg {k : IntKind} {p z : Int} (hx : ev E x = some (.int k p)) (hz : k.wrap (0 - p) = z) (hn : Nat.blt d n = true) (h : LW P l Q rest D n ((d, .int k z) :: E) w) :
    LW P l Q ({ dst := some d, op := .unOp .neg t x, type := T, pos, after := af, guard := none } :: rest) D n E w := by
  refine LW.val rfl rfl hn (fun a ha => ?_) h
  rw [show (0 : Int) - p = -p by omega] at hz
  simp [execOp, ha.eval hx, Op.unary, Op.intArith, hz]
end
end Go.E
