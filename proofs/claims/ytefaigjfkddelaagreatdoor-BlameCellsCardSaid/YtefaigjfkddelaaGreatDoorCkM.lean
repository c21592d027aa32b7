/-
  Joined by program out of the texts Ral1 Ral2 Ral3 Ral4 Ral5 Ral6.
-/
import Derived.Test.YtefaigjfkddelaaGreatDoorCkL
import Derived.Test.YtefaigjfkddelaaGreatDoorCkJ
namespace Go.Proofs.YtefaigjfkddelaaGreatDoor
open Go Go.E
end Go.Proofs.YtefaigjfkddelaaGreatDoor
