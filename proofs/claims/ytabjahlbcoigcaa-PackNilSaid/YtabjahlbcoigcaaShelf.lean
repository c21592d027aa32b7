/-
  The library contracts that this claim uses, laid at this program.
-/
import Derived.Shelf.Slices.Turned
import Derived.Test.YtabjahlbcoigcaaProg
namespace Go.Proofs
open Go.Shelf
end Go.Proofs
