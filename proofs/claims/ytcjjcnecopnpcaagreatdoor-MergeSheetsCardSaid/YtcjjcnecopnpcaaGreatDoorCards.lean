/-
  DERIVED. GIVEN WITH THE SEED: THE CARDS: each row of YtcjjcnecopnpcaaGreatDoorRows.lean that lists a variable, with what it lists TIED to the program's text (the seventh form; the later family's looks); each row that meets fmt, with fmt's text TOLD by the authors' own Lean function (tested against real Go, not proved from fmt's source: count such statements apart). THE CARD IS WHAT COUNTS. Prove the row's statement (the work); the ties are given (YtcjjcnecopnpcaaGreatDoorTie.lean); close each card by the builder's one call (the guide's Derived/Test/ToyasCard.lean, 'card_holds'). Laid BY PROGRAM, IN A SANDBOX (cutbox-door.mjs). By AI agents, Wed Nov 11 2026. No macro, syntax, notation, axiom, sorry.
-/
import Derived.Test.YtcjjcnecopnpcaaGreatDoorRows
import GoSem.ClaimSeven
namespace Go.Proofs.YtcjjcnecopnpcaaGreatDoor
namespace Rows

/-- THE TIED CARD OF 'chequerlaw20.MergeAll'. -/
def mergeAllCard : Claim7 := { stood := { row := mergeAllRow, standIns := [], harness := (true, "45fe76bfface8cd7f167b49b9bd043f235505513f9cd3f11f75ad6fa32c28959"), looks := true }, kinds := [], alts := [], laidByText := true, laidKinds := [.data, .data, .data, .data, .sentinel, .sentinel, .pinned], laidTests := true, laidLooks := .later }
def MergeAllCardSaid : Prop := Claim7.holds Tryz.pinned (.plain (OpenSpec.ofChange mergeAllSpec)) mergeAllCard

/-- THE TIED CARD OF 'chequerlaw20.MergeMade'. -/
def mergeMadeCard : Claim7 := { stood := { row := mergeMadeRow, standIns := [], harness := (true, "45fe76bfface8cd7f167b49b9bd043f235505513f9cd3f11f75ad6fa32c28959"), looks := true }, kinds := [], alts := [], laidByText := true, laidKinds := [.data, .data, .data, .data, .sentinel, .sentinel, .pinned], laidTests := true, laidLooks := .later }
def MergeMadeCardSaid : Prop := Claim7.holds Tryz.pinned (.plain (OpenSpec.ofChange mergeMadeSpec)) mergeMadeCard

/-- THE TIED CARD OF 'chequerlaw20.MergeOne'. -/
def mergeOneCard : Claim7 := { stood := { row := mergeOneRow, standIns := [], harness := (true, "45fe76bfface8cd7f167b49b9bd043f235505513f9cd3f11f75ad6fa32c28959"), looks := true }, kinds := [], alts := [], laidByText := true, laidKinds := [.data, .data, .data, .data, .sentinel, .sentinel, .pinned], laidTests := true, laidLooks := .later }
def MergeOneCardSaid : Prop := Claim7.holds Tryz.pinned (.plain (OpenSpec.ofChange mergeOneSpec)) mergeOneCard

/-- THE TIED CARD OF 'chequerlaw20.MergeAny'. -/
def mergeAnyCard : Claim7 := { stood := { row := mergeAnyRow, standIns := [], harness := (true, "45fe76bfface8cd7f167b49b9bd043f235505513f9cd3f11f75ad6fa32c28959"), looks := true }, kinds := [], alts := [], laidByText := true, laidKinds := [.data, .data, .data, .data, .sentinel, .sentinel, .pinned], laidTests := true, laidLooks := .later }
def MergeAnyCardSaid : Prop := Claim7.holds Tryz.pinned (.plain (OpenSpec.ofChange mergeAnySpec)) mergeAnyCard

/-- THE TIED CARD OF 'chequerlaw20.MergeCells'. -/
def mergeCellsCard : Claim7 := { stood := { row := mergeCellsRow, standIns := [], harness := (true, "45fe76bfface8cd7f167b49b9bd043f235505513f9cd3f11f75ad6fa32c28959"), looks := true }, kinds := [], alts := [], laidByText := true, laidKinds := [.data, .data, .data, .data, .sentinel, .sentinel, .pinned], laidTests := true, laidLooks := .later }
def MergeCellsCardSaid : Prop := Claim7.holds Tryz.pinned (.plain (OpenSpec.ofChange mergeCellsSpec)) mergeCellsCard

/-- THE TIED CARD OF 'chequerlaw20.MergeRefs'. -/
def mergeRefsCard : Claim7 := { stood := { row := mergeRefsRow, standIns := [], harness := (true, "45fe76bfface8cd7f167b49b9bd043f235505513f9cd3f11f75ad6fa32c28959"), looks := true }, kinds := [], alts := [], laidByText := true, laidKinds := [.data, .data, .data, .data, .sentinel, .sentinel, .pinned], laidTests := true, laidLooks := .later }
def MergeRefsCardSaid : Prop := Claim7.holds Tryz.pinned (.plain (OpenSpec.ofChange mergeRefsSpec)) mergeRefsCard

/-- THE TIED CARD OF 'chequerlaw20.MergeGone'. -/
def mergeGoneCard : Claim7 := { stood := { row := mergeGoneRow, standIns := [], harness := (true, "45fe76bfface8cd7f167b49b9bd043f235505513f9cd3f11f75ad6fa32c28959"), looks := true }, kinds := [], alts := [], laidByText := true, laidKinds := [.data, .data, .data, .data, .sentinel, .sentinel, .pinned], laidTests := true, laidLooks := .later }
def MergeGoneCardSaid : Prop := Claim7.holds Tryz.pinned (.plain (OpenSpec.ofChange mergeGoneSpec)) mergeGoneCard

/-- THE TIED CARD OF 'chequerlaw20.MergeSheets'. -/
def mergeSheetsCard : Claim7 := { stood := { row := mergeSheetsRow, standIns := [], harness := (true, "45fe76bfface8cd7f167b49b9bd043f235505513f9cd3f11f75ad6fa32c28959"), looks := true }, kinds := [], alts := [], laidByText := true, laidKinds := [.data, .data, .data, .data, .sentinel, .sentinel, .pinned], laidTests := true, laidLooks := .later }
def MergeSheetsCardSaid : Prop := Claim7.holds Tryz.pinned (.plain (OpenSpec.ofChange mergeSheetsSpec)) mergeSheetsCard

/-- THE TIED CARD OF 'chequerlaw20.MergeRows'. -/
def mergeRowsCard : Claim7 := { stood := { row := mergeRowsRow, standIns := [], harness := (true, "45fe76bfface8cd7f167b49b9bd043f235505513f9cd3f11f75ad6fa32c28959"), looks := true }, kinds := [], alts := [], laidByText := true, laidKinds := [.data, .data, .data, .data, .sentinel, .sentinel, .pinned], laidTests := true, laidLooks := .later }
def MergeRowsCardSaid : Prop := Claim7.holds Tryz.pinned (.plain (OpenSpec.ofChange mergeRowsSpec)) mergeRowsCard

/-- THE TIED CARD OF 'chequerlaw20.MergeLarge'. -/
def mergeLargeCard : Claim7 := { stood := { row := mergeLargeRow, standIns := [], harness := (true, "45fe76bfface8cd7f167b49b9bd043f235505513f9cd3f11f75ad6fa32c28959"), looks := true }, kinds := [], alts := [], laidByText := true, laidKinds := [.data, .data, .data, .data, .sentinel, .sentinel, .pinned], laidTests := true, laidLooks := .later }
def MergeLargeCardSaid : Prop := Claim7.holds Tryz.pinned (.plain (OpenSpec.ofChange mergeLargeSpec)) mergeLargeCard

/-- THE SECOND FORM's CARD OF 'chequerlaw20.MergeAll'. -/
def mergeAllUptoCard : Claim7 := { stood := { row := mergeAllUptoRow, standIns := [], harness := (true, "45fe76bfface8cd7f167b49b9bd043f235505513f9cd3f11f75ad6fa32c28959"), looks := true }, kinds := [], alts := [], laidByText := true, laidKinds := [.data, .data, .data, .data, .sentinel, .sentinel, .pinned], laidTests := true, laidLooks := .later }
def MergeAllUptoCardSaid : Prop := Claim7.holds Tryz.pinned (.plain (OpenSpec.upto mergeAllSpec)) mergeAllUptoCard

/-- THE SECOND FORM's CARD OF 'chequerlaw20.MergeMade'. -/
def mergeMadeUptoCard : Claim7 := { stood := { row := mergeMadeUptoRow, standIns := [], harness := (true, "45fe76bfface8cd7f167b49b9bd043f235505513f9cd3f11f75ad6fa32c28959"), looks := true }, kinds := [], alts := [], laidByText := true, laidKinds := [.data, .data, .data, .data, .sentinel, .sentinel, .pinned], laidTests := true, laidLooks := .later }
def MergeMadeUptoCardSaid : Prop := Claim7.holds Tryz.pinned (.plain (OpenSpec.upto mergeMadeSpec)) mergeMadeUptoCard

/-- THE SECOND FORM's CARD OF 'chequerlaw20.MergeOne'. -/
def mergeOneUptoCard : Claim7 := { stood := { row := mergeOneUptoRow, standIns := [], harness := (true, "45fe76bfface8cd7f167b49b9bd043f235505513f9cd3f11f75ad6fa32c28959"), looks := true }, kinds := [], alts := [], laidByText := true, laidKinds := [.data, .data, .data, .data, .sentinel, .sentinel, .pinned], laidTests := true, laidLooks := .later }
def MergeOneUptoCardSaid : Prop := Claim7.holds Tryz.pinned (.plain (OpenSpec.upto mergeOneSpec)) mergeOneUptoCard

/-- THE SECOND FORM's CARD OF 'chequerlaw20.MergeAny'. -/
def mergeAnyUptoCard : Claim7 := { stood := { row := mergeAnyUptoRow, standIns := [], harness := (true, "45fe76bfface8cd7f167b49b9bd043f235505513f9cd3f11f75ad6fa32c28959"), looks := true }, kinds := [], alts := [], laidByText := true, laidKinds := [.data, .data, .data, .data, .sentinel, .sentinel, .pinned], laidTests := true, laidLooks := .later }
def MergeAnyUptoCardSaid : Prop := Claim7.holds Tryz.pinned (.plain (OpenSpec.upto mergeAnySpec)) mergeAnyUptoCard

/-- THE SECOND FORM's CARD OF 'chequerlaw20.MergeCells'. -/
def mergeCellsUptoCard : Claim7 := { stood := { row := mergeCellsUptoRow, standIns := [], harness := (true, "45fe76bfface8cd7f167b49b9bd043f235505513f9cd3f11f75ad6fa32c28959"), looks := true }, kinds := [], alts := [], laidByText := true, laidKinds := [.data, .data, .data, .data, .sentinel, .sentinel, .pinned], laidTests := true, laidLooks := .later }
def MergeCellsUptoCardSaid : Prop := Claim7.holds Tryz.pinned (.plain (OpenSpec.upto mergeCellsSpec)) mergeCellsUptoCard

/-- THE SECOND FORM's CARD OF 'chequerlaw20.MergeRefs'. -/
def mergeRefsUptoCard : Claim7 := { stood := { row := mergeRefsUptoRow, standIns := [], harness := (true, "45fe76bfface8cd7f167b49b9bd043f235505513f9cd3f11f75ad6fa32c28959"), looks := true }, kinds := [], alts := [], laidByText := true, laidKinds := [.data, .data, .data, .data, .sentinel, .sentinel, .pinned], laidTests := true, laidLooks := .later }
def MergeRefsUptoCardSaid : Prop := Claim7.holds Tryz.pinned (.plain (OpenSpec.upto mergeRefsSpec)) mergeRefsUptoCard

/-- THE SECOND FORM's CARD OF 'chequerlaw20.MergeGone'. -/
def mergeGoneUptoCard : Claim7 := { stood := { row := mergeGoneUptoRow, standIns := [], harness := (true, "45fe76bfface8cd7f167b49b9bd043f235505513f9cd3f11f75ad6fa32c28959"), looks := true }, kinds := [], alts := [], laidByText := true, laidKinds := [.data, .data, .data, .data, .sentinel, .sentinel, .pinned], laidTests := true, laidLooks := .later }
def MergeGoneUptoCardSaid : Prop := Claim7.holds Tryz.pinned (.plain (OpenSpec.upto mergeGoneSpec)) mergeGoneUptoCard

/-- THE SECOND FORM's CARD OF 'chequerlaw20.MergeSheets'. -/
def mergeSheetsUptoCard : Claim7 := { stood := { row := mergeSheetsUptoRow, standIns := [], harness := (true, "45fe76bfface8cd7f167b49b9bd043f235505513f9cd3f11f75ad6fa32c28959"), looks := true }, kinds := [], alts := [], laidByText := true, laidKinds := [.data, .data, .data, .data, .sentinel, .sentinel, .pinned], laidTests := true, laidLooks := .later }
def MergeSheetsUptoCardSaid : Prop := Claim7.holds Tryz.pinned (.plain (OpenSpec.upto mergeSheetsSpec)) mergeSheetsUptoCard

/-- THE SECOND FORM's CARD OF 'chequerlaw20.MergeRows'. -/
def mergeRowsUptoCard : Claim7 := { stood := { row := mergeRowsUptoRow, standIns := [], harness := (true, "45fe76bfface8cd7f167b49b9bd043f235505513f9cd3f11f75ad6fa32c28959"), looks := true }, kinds := [], alts := [], laidByText := true, laidKinds := [.data, .data, .data, .data, .sentinel, .sentinel, .pinned], laidTests := true, laidLooks := .later }
def MergeRowsUptoCardSaid : Prop := Claim7.holds Tryz.pinned (.plain (OpenSpec.upto mergeRowsSpec)) mergeRowsUptoCard

/-- THE SECOND FORM's CARD OF 'chequerlaw20.MergeLarge'. -/
def mergeLargeUptoCard : Claim7 := { stood := { row := mergeLargeUptoRow, standIns := [], harness := (true, "45fe76bfface8cd7f167b49b9bd043f235505513f9cd3f11f75ad6fa32c28959"), looks := true }, kinds := [], alts := [], laidByText := true, laidKinds := [.data, .data, .data, .data, .sentinel, .sentinel, .pinned], laidTests := true, laidLooks := .later }
def MergeLargeUptoCardSaid : Prop := Claim7.holds Tryz.pinned (.plain (OpenSpec.upto mergeLargeSpec)) mergeLargeUptoCard
end Rows
end Go.Proofs.YtcjjcnecopnpcaaGreatDoor
