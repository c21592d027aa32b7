/-
  DERIVED. GIVEN WITH THE SEED: THE CARDS: each row of YtgdohpcnpgjpaaaGreatDoorRows.lean that lists a variable, with what it lists TIED to the program's text (the seventh form; the later family's looks); each row that meets fmt, with fmt's text TOLD by the authors' own Lean function (tested against real Go, not proved from fmt's source: count such statements apart). THE CARD IS WHAT COUNTS. Prove the row's statement (the work); the ties are given (YtgdohpcnpgjpaaaGreatDoorTie.lean); close each card by the builder's one call (the guide's Derived/Test/ToyasCard.lean, 'card_holds'). Laid BY PROGRAM, IN A SANDBOX (cutbox-door.mjs). By AI agents, Wed Nov 11 2026. No macro, syntax, notation, axiom, sorry.
-/
import Derived.Test.YtgdohpcnpgjpaaaGreatDoorRows
import GoSem.ClaimSeven
namespace Go.Proofs.YtgdohpcnpgjpaaaGreatDoor
namespace Rows

/-- THE TIED CARD OF 'chequerlaw21.ObjectAll'. -/
def objectAllCard : Claim7 := { stood := { row := objectAllRow, standIns := [], harness := (true, "100ffabdc54716368d92eab27fd4ccef6de63779e53e72c01751288b6c68ed74"), looks := true }, kinds := [], alts := [], laidByText := true, laidKinds := [.data, .data, .data, .data, .sentinel, .sentinel, .pinned], laidTests := true, laidLooks := .later }
def ObjectAllCardSaid : Prop := Claim7.holds Tryz.pinned (.plain (OpenSpec.ofChange objectAllSpec)) objectAllCard

/-- THE TIED CARD OF 'chequerlaw21.ObjectBack'. -/
def objectBackCard : Claim7 := { stood := { row := objectBackRow, standIns := [], harness := (true, "100ffabdc54716368d92eab27fd4ccef6de63779e53e72c01751288b6c68ed74"), looks := true }, kinds := [], alts := [], laidByText := true, laidKinds := [.data, .data, .data, .data, .sentinel, .sentinel, .pinned], laidTests := true, laidLooks := .later }
def ObjectBackCardSaid : Prop := Claim7.holds Tryz.pinned (.plain (OpenSpec.ofChange objectBackSpec)) objectBackCard

/-- THE TIED CARD OF 'chequerlaw21.ObjectBounds'. -/
def objectBoundsCard : Claim7 := { stood := { row := objectBoundsRow, standIns := [], harness := (true, "100ffabdc54716368d92eab27fd4ccef6de63779e53e72c01751288b6c68ed74"), looks := true }, kinds := [], alts := [], laidByText := true, laidKinds := [.data, .data, .data, .data, .sentinel, .sentinel, .pinned], laidTests := true, laidLooks := .later }
def ObjectBoundsCardSaid : Prop := Claim7.holds Tryz.pinned (.plain (OpenSpec.ofChange objectBoundsSpec)) objectBoundsCard

/-- THE SECOND FORM's CARD OF 'chequerlaw21.ObjectAll'. -/
def objectAllUptoCard : Claim7 := { stood := { row := objectAllUptoRow, standIns := [], harness := (true, "100ffabdc54716368d92eab27fd4ccef6de63779e53e72c01751288b6c68ed74"), looks := true }, kinds := [], alts := [], laidByText := true, laidKinds := [.data, .data, .data, .data, .sentinel, .sentinel, .pinned], laidTests := true, laidLooks := .later }
def ObjectAllUptoCardSaid : Prop := Claim7.holds Tryz.pinned (.plain (OpenSpec.upto objectAllSpec)) objectAllUptoCard

/-- THE SECOND FORM's CARD OF 'chequerlaw21.ObjectBack'. -/
def objectBackUptoCard : Claim7 := { stood := { row := objectBackUptoRow, standIns := [], harness := (true, "100ffabdc54716368d92eab27fd4ccef6de63779e53e72c01751288b6c68ed74"), looks := true }, kinds := [], alts := [], laidByText := true, laidKinds := [.data, .data, .data, .data, .sentinel, .sentinel, .pinned], laidTests := true, laidLooks := .later }
def ObjectBackUptoCardSaid : Prop := Claim7.holds Tryz.pinned (.plain (OpenSpec.upto objectBackSpec)) objectBackUptoCard

/-- THE SECOND FORM's CARD OF 'chequerlaw21.ObjectBounds'. -/
def objectBoundsUptoCard : Claim7 := { stood := { row := objectBoundsUptoRow, standIns := [], harness := (true, "100ffabdc54716368d92eab27fd4ccef6de63779e53e72c01751288b6c68ed74"), looks := true }, kinds := [], alts := [], laidByText := true, laidKinds := [.data, .data, .data, .data, .sentinel, .sentinel, .pinned], laidTests := true, laidLooks := .later }
def ObjectBoundsUptoCardSaid : Prop := Claim7.holds Tryz.pinned (.plain (OpenSpec.upto objectBoundsSpec)) objectBoundsUptoCard
end Rows
end Go.Proofs.YtgdohpcnpgjpaaaGreatDoor
