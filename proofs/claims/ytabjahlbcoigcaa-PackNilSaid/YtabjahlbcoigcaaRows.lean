/-
  No cell of these rows narrows 'for every input' (looked for: loops, veiled, ifaces, maps, wideKeys, modest, calm, conditions, laid).
  DERIVED. THE GIVEN ROWS OF THIS SEAT. 3 by the template 'for every input the law returns true; each argument reads behind the call as it read before'; 0 by the template 'total and deterministic' (their statements: YtabjahlbcoigcaaTotals.lean).
  GIVEN WITH THE SEED: the statements are not yours to turn. If you find one false, say at which input.
  Laid BY PROGRAM, IN A SANDBOX (cutbox-rows.mjs): the forced cells as the released guide's own fill.sh prints them over the translation f33151bfee25daaa… (all of the seat's roots in one cut). By AI agents, Wed Nov 11 2026. No macro, syntax, notation, axiom, sorry.
-/
import Derived.Test.YtabjahlbcoigcaaChecked
import GoSem.Claim
import GoSem.ClaimJoined
import GoSem.ClaimMapViews
import Derived.JoinedTies
import Derived.KernelRfl
namespace Go.Proofs.Ytabjahlbcoigcaa
/- THE CELL 'sum', in the pinned program and in every row, IS THE sha256 OF THE DUMP (.gsa) THAT YtabjahlbcoigcaaProg.lean LOADS. Nothing in Lean hashes anything: it is a label: what it is worth is what the hold of that sum in a sandbox is worth. -/
noncomputable def Try.pinned : Pinned := { name := "ytabjahlbcoigcaa", sum := "f33151bfee25daaaab3a171e3b9c06de6d192a95053365766777e8fc1fca7235", checked := Try.checked }
namespace Rows
def none {H : Type} : Left H := { results := [], args := [] }

/-- 'chequerlaw24.PackHas': WHATEVER THE INPUT: true; the input reads as it did. -/
def packHasSpec : ChangeSpec := { name := "packHas", fn := fun _ => fun
  | [d1, d2, d3] => { results := [.lit (.bool true)], args := [d1, d2, d3] }
  | _ => none }
def packHasRow : OpenClaim := { program := "ytabjahlbcoigcaa", sum := "f33151bfee25daaaab3a171e3b9c06de6d192a95053365766777e8fc1fca7235", func := "chequer/chequerlaw24.PackHas", spec := "packHas", unfollowed := true, recurses := true, apart := false }
def PackHasSaid : Prop := packHasRow.holds Try.pinned (OpenSpec.ofChange packHasSpec)

/-- ITS FALSE NEIGHBOUR: 'it returns false'. Refute it at one input. -/
def packHasWrong : ChangeSpec := { name := "packHas", fn := fun _ => fun
  | [d1, d2, d3] => { results := [.lit (.bool false)], args := [d1, d2, d3] }
  | _ => none }
def PackHasWrongFalsely : Prop := packHasRow.holds Try.pinned (OpenSpec.ofChange packHasWrong)

/-- 'chequerlaw24.PackNil': WHATEVER THE INPUT: true; the input reads as it did. -/
def packNilSpec : ChangeSpec := { name := "packNil", fn := fun _ => fun
  | [d] => { results := [.lit (.bool true)], args := [d] }
  | _ => none }
def packNilRow : OpenClaim := { program := "ytabjahlbcoigcaa", sum := "f33151bfee25daaaab3a171e3b9c06de6d192a95053365766777e8fc1fca7235", func := "chequer/chequerlaw24.PackNil", spec := "packNil", unfollowed := true, recurses := true, apart := false }
def PackNilSaid : Prop := packNilRow.holds Try.pinned (OpenSpec.ofChange packNilSpec)

/-- ITS FALSE NEIGHBOUR: 'it returns false'. Refute it at one input. -/
def packNilWrong : ChangeSpec := { name := "packNil", fn := fun _ => fun
  | [d] => { results := [.lit (.bool false)], args := [d] }
  | _ => none }
def PackNilWrongFalsely : Prop := packNilRow.holds Try.pinned (OpenSpec.ofChange packNilWrong)

/-- 'chequerlaw24.PackFalls': WHATEVER THE INPUT: true; the input reads as it did. -/
def packFallsSpec : ChangeSpec := { name := "packFalls", fn := fun _ => fun
  | [d1, d2, d3, d4, d5] => { results := [.lit (.bool true)], args := [d1, d2, d3, d4, d5] }
  | _ => none }
def packFallsRow : OpenClaim := { program := "ytabjahlbcoigcaa", sum := "f33151bfee25daaaab3a171e3b9c06de6d192a95053365766777e8fc1fca7235", func := "chequer/chequerlaw24.PackFalls", spec := "packFalls", unfollowed := true, recurses := true, apart := false }
def PackFallsSaid : Prop := packFallsRow.holds Try.pinned (OpenSpec.ofChange packFallsSpec)

/-- ITS FALSE NEIGHBOUR: 'it returns false'. Refute it at one input. -/
def packFallsWrong : ChangeSpec := { name := "packFalls", fn := fun _ => fun
  | [d1, d2, d3, d4, d5] => { results := [.lit (.bool false)], args := [d1, d2, d3, d4, d5] }
  | _ => none }
def PackFallsWrongFalsely : Prop := packFallsRow.holds Try.pinned (OpenSpec.ofChange packFallsWrong)

/- THE SECOND FORM. 'bulk': how many values and letters a reading holds, each counted each time it is reached (what is shared counts as often as it is met; a slice's spare places count too). A statement '..UptoSaid' is the law's where the arguments, and the package variables that the reading takes, are together of bulk at most 1048576: NARROWER than '..Said'. Prove '..Said' where nothing that the law and all that it calls make is longer than what came in: it says more and counts as full. Else prove '..UptoSaid'. A law counts once. -/
mutual
def uptoBulk {H : Type} : DataW H → Nat
  | .lit (.string bytes) => bytes.length + 1
  | .lit _ => 1
  | .nil => 1
  | .ptr d => uptoBulk d + 1
  | .slice elems spare => uptoBulkAll elems + uptoBulkAll spare + 1
  | .agg parts => uptoBulkAll parts + 1
  | .iface _ d => uptoBulk d + 1
  | .map entries => uptoBulkEntries entries + 1
  | .held _ => 1
def uptoBulkAll {H : Type} : List (DataW H) → Nat
  | [] => 0
  | d :: r => uptoBulk d + uptoBulkAll r
def uptoBulkEntries {H : Type} : List (Lit × DataW H) → Nat
  | [] => 0
  | x :: r => uptoBulkEntry x + uptoBulkEntries r
def uptoBulkEntry {H : Type} : Lit × DataW H → Nat
  | (.string bytes, d) => bytes.length + uptoBulk d + 1
  | (_, d) => uptoBulk d + 1
 end
def uptoSmall : (H : Type) → List (DataW H) → Bool := fun _ ds => decide (uptoBulkAll ds ≤ 1048576)
def OpenSpec.upto (s : _root_.Go.ChangeSpec) : _root_.Go.OpenSpec := { _root_.Go.OpenSpec.ofChange s with cond := some uptoSmall }

/-- 'chequerlaw24.PackHas', WHERE WHAT IT READS IS OF BULK AT MOST 1048576: true; the input reads as it did. -/
def packHasUptoRow : OpenClaim := { program := "ytabjahlbcoigcaa", sum := "f33151bfee25daaaab3a171e3b9c06de6d192a95053365766777e8fc1fca7235", func := "chequer/chequerlaw24.PackHas", spec := "packHas", unfollowed := true, recurses := true, apart := false, narrowed := true }
def PackHasUptoSaid : Prop := packHasUptoRow.holds Try.pinned (OpenSpec.upto packHasSpec)

/-- 'chequerlaw24.PackNil', WHERE WHAT IT READS IS OF BULK AT MOST 1048576: true; the input reads as it did. -/
def packNilUptoRow : OpenClaim := { program := "ytabjahlbcoigcaa", sum := "f33151bfee25daaaab3a171e3b9c06de6d192a95053365766777e8fc1fca7235", func := "chequer/chequerlaw24.PackNil", spec := "packNil", unfollowed := true, recurses := true, apart := false, narrowed := true }
def PackNilUptoSaid : Prop := packNilUptoRow.holds Try.pinned (OpenSpec.upto packNilSpec)

/-- 'chequerlaw24.PackFalls', WHERE WHAT IT READS IS OF BULK AT MOST 1048576: true; the input reads as it did. -/
def packFallsUptoRow : OpenClaim := { program := "ytabjahlbcoigcaa", sum := "f33151bfee25daaaab3a171e3b9c06de6d192a95053365766777e8fc1fca7235", func := "chequer/chequerlaw24.PackFalls", spec := "packFalls", unfollowed := true, recurses := true, apart := false, narrowed := true }
def PackFallsUptoSaid : Prop := packFallsUptoRow.holds Try.pinned (OpenSpec.upto packFallsSpec)

end Rows
end Go.Proofs.Ytabjahlbcoigcaa
