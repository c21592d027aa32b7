/-
  Joined by program out of the texts RPar1 RPar2 RPar3 RPar4 RPar5 RPar6 RTree RTreeB.
-/
import Derived.Test.YtefaigjfkddelaaGreatDoorCkB
import Derived.Test.YtefaigjfkddelaaGreatDoorCkE
import Derived.Test.YtefaigjfkddelaaGreatDoorCkC
namespace Go.Proofs.YtefaigjfkddelaaGreatDoor
open Go Go.E
end Go.Proofs.YtefaigjfkddelaaGreatDoor
