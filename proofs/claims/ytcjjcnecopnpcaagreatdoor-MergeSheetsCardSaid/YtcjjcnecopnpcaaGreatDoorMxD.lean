/-
  Joined by program out of the texts RPar1 RPar2 RPar3 RPar4 RPar5 RPar6 RTree RTreeB.
-/
import Derived.Test.YtcjjcnecopnpcaaGreatDoorMxB
import Derived.Test.YtcjjcnecopnpcaaGreatDoorMxE
import Derived.Test.YtcjjcnecopnpcaaGreatDoorMxC
namespace Go.Proofs.YtcjjcnecopnpcaaGreatDoor
open Tryz
open Go Go.E
end Go.Proofs.YtcjjcnecopnpcaaGreatDoor
