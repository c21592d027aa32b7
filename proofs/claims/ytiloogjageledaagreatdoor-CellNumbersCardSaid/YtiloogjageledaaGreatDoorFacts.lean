/-
  Closed facts of this seat's program that every row asks; a row's closed facts, one by one.
-/
import Derived.Test.YtiloogjageledaaGreatDoorRows
import Derived.Test.YtiloogjageledaaGreatDoorTie
import Derived.JoinedOf
import Derived.SevenTiedAt
import Derived.KernelRfl
namespace Go.Proofs.YtiloogjageledaaGreatDoor
open Go

theorem andT {a b : Bool} (h : a = true) (k : b = true) : (a && b) = true := by rw [h, k]; rfl
theorem mayE : Tryz.prog.mayEnter = true := by kernel_rfl
theorem makeE : (Tryz.prog.make == some Make.cut) = true := by kernel_rfl
theorem liftedE : (false == Tryz.prog.liftsFinal) = true := by kernel_rfl
theorem looksE : true = Tryz.prog.looks [] := by kernel_rfl
theorem mainE : Tryz.prog.mainIs = some (true, "3f8d1e3edfd3264eb51a82ec06728b799716ec29cf74c67b1c9a02fdda9ab015".toList) := by kernel_rfl
end Go.Proofs.YtiloogjageledaaGreatDoor
