/-
  Joined by program out of the texts Book8 Book5 Book9 BookA Mvb1 Lin1.
-/
import Derived.Test.YtcjjcnecopnpcaaGreatDoorMxK
import Derived.Test.YtcjjcnecopnpcaaGreatDoorMxM
import Derived.Test.YtcjjcnecopnpcaaGreatDoorMxI
import Derived.Test.YtcjjcnecopnpcaaGreatDoorMxH
import Derived.Test.YtcjjcnecopnpcaaGreatDoorMxL
namespace Go.Proofs.YtcjjcnecopnpcaaGreatDoor
open Tryz
open Go Go.E
end Go.Proofs.YtcjjcnecopnpcaaGreatDoor
