/-
  DERIVED. GIVEN WITH THE SEED: THE CARDS: each row of YtiloogjageledaaGreatDoorRows.lean that lists a variable, with what it lists TIED to the program's text (the seventh form; the later family's looks); each row that meets fmt, with fmt's text TOLD by the authors' own Lean function (tested against real Go, not proved from fmt's source: count such statements apart). THE CARD IS WHAT COUNTS. Prove the row's statement (the work); the ties are given (YtiloogjageledaaGreatDoorTie.lean); close each card by the builder's one call (the guide's Derived/Test/ToyasCard.lean, 'card_holds'). Laid BY PROGRAM, IN A SANDBOX (cutbox-door.mjs). By AI agents, Wed Nov 11 2026. No macro, syntax, notation, axiom, sorry.
-/
import Derived.Test.YtiloogjageledaaGreatDoorRows
import GoSem.ClaimSeven
namespace Go.Proofs.YtiloogjageledaaGreatDoor
namespace Rows

/-- THE TIED CARD OF 'chequerlaw5.ParseTexts'. -/
def parseTextsCard : Claim7 := { stood := { row := parseTextsRow, standIns := [], harness := (true, "3f8d1e3edfd3264eb51a82ec06728b799716ec29cf74c67b1c9a02fdda9ab015"), looks := true }, kinds := [], alts := [], laidByText := true, laidKinds := [.data, .data, .data, .sentinel, .sentinel], laidTests := true, laidLooks := .later }
def ParseTextsCardSaid : Prop := Claim7.holds Tryz.pinned (.plain (OpenSpec.ofChange parseTextsSpec)) parseTextsCard

/-- THE TIED CARD OF 'chequerlaw5.ParseTrees'. -/
def parseTreesCard : Claim7 := { stood := { row := parseTreesRow, standIns := [], harness := (true, "3f8d1e3edfd3264eb51a82ec06728b799716ec29cf74c67b1c9a02fdda9ab015"), looks := true }, kinds := [], alts := [], laidByText := true, laidKinds := [.data, .data, .data, .sentinel, .sentinel], laidTests := true, laidLooks := .later }
def ParseTreesCardSaid : Prop := Claim7.holds Tryz.pinned (.plain (OpenSpec.ofChange parseTreesSpec)) parseTreesCard

/-- THE TIED CARD OF 'chequerlaw6.ShowAll'. -/
def showAllCard : Claim7 := { stood := { row := showAllRow, standIns := [], harness := (true, "3f8d1e3edfd3264eb51a82ec06728b799716ec29cf74c67b1c9a02fdda9ab015"), looks := true }, kinds := [], alts := [], laidByText := true, laidKinds := [.data, .data, .data, .data, .sentinel, .sentinel, .pinned], laidTests := true, laidLooks := .later }
def ShowAllCardSaid : Prop := Claim7.holds Tryz.pinned (.plain (OpenSpec.ofChange showAllSpec)) showAllCard

/-- THE TIED CARD OF 'chequerlaw6.ShowTexts'. -/
def showTextsCard : Claim7 := { stood := { row := showTextsRow, standIns := [], harness := (true, "3f8d1e3edfd3264eb51a82ec06728b799716ec29cf74c67b1c9a02fdda9ab015"), looks := true }, kinds := [], alts := [], laidByText := true, laidKinds := [.data, .data, .data, .data, .sentinel, .sentinel, .pinned], laidTests := true, laidLooks := .later }
def ShowTextsCardSaid : Prop := Claim7.holds Tryz.pinned (.plain (OpenSpec.ofChange showTextsSpec)) showTextsCard

/-- THE TIED CARD OF 'chequerlaw6.ShowMade'. -/
def showMadeCard : Claim7 := { stood := { row := showMadeRow, standIns := [], harness := (true, "3f8d1e3edfd3264eb51a82ec06728b799716ec29cf74c67b1c9a02fdda9ab015"), looks := true }, kinds := [], alts := [], laidByText := true, laidKinds := [.data, .data, .data, .data, .sentinel, .sentinel, .pinned], laidTests := true, laidLooks := .later }
def ShowMadeCardSaid : Prop := Claim7.holds Tryz.pinned (.plain (OpenSpec.ofChange showMadeSpec)) showMadeCard

/-- THE TIED CARD OF 'chequerlaw6.ShowLeast'. -/
def showLeastCard : Claim7 := { stood := { row := showLeastRow, standIns := [], harness := (true, "3f8d1e3edfd3264eb51a82ec06728b799716ec29cf74c67b1c9a02fdda9ab015"), looks := true }, kinds := [], alts := [], laidByText := true, laidKinds := [.data, .data, .data, .data, .sentinel, .sentinel, .pinned], laidTests := true, laidLooks := .later }
def ShowLeastCardSaid : Prop := Claim7.holds Tryz.pinned (.plain (OpenSpec.ofChange showLeastSpec)) showLeastCard

/-- THE TIED CARD OF 'chequerlaw9.CellLong'. -/
def cellLongCard : Claim7 := { stood := { row := cellLongRow, standIns := [], harness := (true, "3f8d1e3edfd3264eb51a82ec06728b799716ec29cf74c67b1c9a02fdda9ab015"), looks := true }, kinds := [], alts := [], laidByText := true, laidKinds := [.data, .data, .data, .data, .sentinel, .sentinel, .pinned], laidTests := true, laidLooks := .later }
def CellLongCardSaid : Prop := Claim7.holds Tryz.pinned (.plain (OpenSpec.ofChange cellLongSpec)) cellLongCard

/-- THE TIED CARD OF 'chequerlaw9.CellStays'. -/
def cellStaysCard : Claim7 := { stood := { row := cellStaysRow, standIns := [], harness := (true, "3f8d1e3edfd3264eb51a82ec06728b799716ec29cf74c67b1c9a02fdda9ab015"), looks := true }, kinds := [], alts := [], laidByText := true, laidKinds := [.data, .data, .data, .data, .sentinel, .sentinel, .pinned], laidTests := true, laidLooks := .later }
def CellStaysCardSaid : Prop := Claim7.holds Tryz.pinned (.plain (OpenSpec.ofChange cellStaysSpec)) cellStaysCard

/-- THE TIED CARD OF 'chequerlaw9.CellNumbers'. -/
def cellNumbersCard : Claim7 := { stood := { row := cellNumbersRow, standIns := [], harness := (true, "3f8d1e3edfd3264eb51a82ec06728b799716ec29cf74c67b1c9a02fdda9ab015"), looks := true }, kinds := [], alts := [], laidByText := true, laidKinds := [.data, .data, .data, .data, .sentinel, .sentinel, .pinned], laidTests := true, laidLooks := .later }
def CellNumbersCardSaid : Prop := Claim7.holds Tryz.pinned (.plain (OpenSpec.ofChange cellNumbersSpec)) cellNumbersCard

/-- THE TIED CARD OF 'chequerlaw9.CellTexts'. -/
def cellTextsCard : Claim7 := { stood := { row := cellTextsRow, standIns := [], harness := (true, "3f8d1e3edfd3264eb51a82ec06728b799716ec29cf74c67b1c9a02fdda9ab015"), looks := true }, kinds := [], alts := [], laidByText := true, laidKinds := [.data, .data, .data, .data, .sentinel, .sentinel, .pinned], laidTests := true, laidLooks := .later }
def CellTextsCardSaid : Prop := Claim7.holds Tryz.pinned (.plain (OpenSpec.ofChange cellTextsSpec)) cellTextsCard

/-- THE TIED CARD OF 'chequerlaw10.BookMade'. -/
def bookMadeCard : Claim7 := { stood := { row := bookMadeRow, standIns := [], harness := (true, "3f8d1e3edfd3264eb51a82ec06728b799716ec29cf74c67b1c9a02fdda9ab015"), looks := true }, kinds := [], alts := [], laidByText := true, laidKinds := [.data, .data, .data, .data, .sentinel, .sentinel, .pinned], laidTests := true, laidLooks := .later }
def BookMadeCardSaid : Prop := Claim7.holds Tryz.pinned (.plain (OpenSpec.ofChange bookMadeSpec)) bookMadeCard

/-- THE TIED CARD OF 'chequerlaw10.BookOne'. -/
def bookOneCard : Claim7 := { stood := { row := bookOneRow, standIns := [], harness := (true, "3f8d1e3edfd3264eb51a82ec06728b799716ec29cf74c67b1c9a02fdda9ab015"), looks := true }, kinds := [], alts := [], laidByText := true, laidKinds := [.data, .data, .data, .data, .sentinel, .sentinel, .pinned], laidTests := true, laidLooks := .later }
def BookOneCardSaid : Prop := Claim7.holds Tryz.pinned (.plain (OpenSpec.ofChange bookOneSpec)) bookOneCard

/-- THE TIED CARD OF 'chequerlaw10.BookApart'. -/
def bookApartCard : Claim7 := { stood := { row := bookApartRow, standIns := [], harness := (true, "3f8d1e3edfd3264eb51a82ec06728b799716ec29cf74c67b1c9a02fdda9ab015"), looks := true }, kinds := [], alts := [], laidByText := true, laidKinds := [.data, .data, .data, .data, .sentinel, .sentinel, .pinned], laidTests := true, laidLooks := .later }
def BookApartCardSaid : Prop := Claim7.holds Tryz.pinned (.plain (OpenSpec.ofChange bookApartSpec)) bookApartCard

/-- THE TIED CARD OF 'chequerlaw12.MoveAll'. -/
def moveAllCard : Claim7 := { stood := { row := moveAllRow, standIns := [], harness := (true, "3f8d1e3edfd3264eb51a82ec06728b799716ec29cf74c67b1c9a02fdda9ab015"), looks := true }, kinds := [], alts := [], laidByText := true, laidKinds := [.data, .data, .data, .data, .sentinel, .sentinel, .pinned], laidTests := true, laidLooks := .later }
def MoveAllCardSaid : Prop := Claim7.holds Tryz.pinned (.plain (OpenSpec.ofChange moveAllSpec)) moveAllCard

/-- THE TIED CARD OF 'chequerlaw12.MoveMade'. -/
def moveMadeCard : Claim7 := { stood := { row := moveMadeRow, standIns := [], harness := (true, "3f8d1e3edfd3264eb51a82ec06728b799716ec29cf74c67b1c9a02fdda9ab015"), looks := true }, kinds := [], alts := [], laidByText := true, laidKinds := [.data, .data, .data, .data, .sentinel, .sentinel, .pinned], laidTests := true, laidLooks := .later }
def MoveMadeCardSaid : Prop := Claim7.holds Tryz.pinned (.plain (OpenSpec.ofChange moveMadeSpec)) moveMadeCard

/-- THE TIED CARD OF 'chequerlaw12.MoveStays'. -/
def moveStaysCard : Claim7 := { stood := { row := moveStaysRow, standIns := [], harness := (true, "3f8d1e3edfd3264eb51a82ec06728b799716ec29cf74c67b1c9a02fdda9ab015"), looks := true }, kinds := [], alts := [], laidByText := true, laidKinds := [.data, .data, .data, .data, .sentinel, .sentinel, .pinned], laidTests := true, laidLooks := .later }
def MoveStaysCardSaid : Prop := Claim7.holds Tryz.pinned (.plain (OpenSpec.ofChange moveStaysSpec)) moveStaysCard

/-- THE TIED CARD OF 'chequerlaw12.MoveOne'. -/
def moveOneCard : Claim7 := { stood := { row := moveOneRow, standIns := [], harness := (true, "3f8d1e3edfd3264eb51a82ec06728b799716ec29cf74c67b1c9a02fdda9ab015"), looks := true }, kinds := [], alts := [], laidByText := true, laidKinds := [.data, .data, .data, .data, .sentinel, .sentinel, .pinned], laidTests := true, laidLooks := .later }
def MoveOneCardSaid : Prop := Claim7.holds Tryz.pinned (.plain (OpenSpec.ofChange moveOneSpec)) moveOneCard

/-- THE TIED CARD OF 'chequerlaw12.MoveTwice'. -/
def moveTwiceCard : Claim7 := { stood := { row := moveTwiceRow, standIns := [], harness := (true, "3f8d1e3edfd3264eb51a82ec06728b799716ec29cf74c67b1c9a02fdda9ab015"), looks := true }, kinds := [], alts := [], laidByText := true, laidKinds := [.data, .data, .data, .data, .sentinel, .sentinel, .pinned], laidTests := true, laidLooks := .later }
def MoveTwiceCardSaid : Prop := Claim7.holds Tryz.pinned (.plain (OpenSpec.ofChange moveTwiceSpec)) moveTwiceCard

/-- THE SECOND FORM's CARD OF 'chequerlaw5.ParseTexts'. -/
def parseTextsUptoCard : Claim7 := { stood := { row := parseTextsUptoRow, standIns := [], harness := (true, "3f8d1e3edfd3264eb51a82ec06728b799716ec29cf74c67b1c9a02fdda9ab015"), looks := true }, kinds := [], alts := [], laidByText := true, laidKinds := [.data, .data, .data, .sentinel, .sentinel], laidTests := true, laidLooks := .later }
def ParseTextsUptoCardSaid : Prop := Claim7.holds Tryz.pinned (.plain (OpenSpec.upto parseTextsSpec)) parseTextsUptoCard

/-- THE SECOND FORM's CARD OF 'chequerlaw5.ParseTrees'. -/
def parseTreesUptoCard : Claim7 := { stood := { row := parseTreesUptoRow, standIns := [], harness := (true, "3f8d1e3edfd3264eb51a82ec06728b799716ec29cf74c67b1c9a02fdda9ab015"), looks := true }, kinds := [], alts := [], laidByText := true, laidKinds := [.data, .data, .data, .sentinel, .sentinel], laidTests := true, laidLooks := .later }
def ParseTreesUptoCardSaid : Prop := Claim7.holds Tryz.pinned (.plain (OpenSpec.upto parseTreesSpec)) parseTreesUptoCard

/-- THE SECOND FORM's CARD OF 'chequerlaw6.ShowAll'. -/
def showAllUptoCard : Claim7 := { stood := { row := showAllUptoRow, standIns := [], harness := (true, "3f8d1e3edfd3264eb51a82ec06728b799716ec29cf74c67b1c9a02fdda9ab015"), looks := true }, kinds := [], alts := [], laidByText := true, laidKinds := [.data, .data, .data, .data, .sentinel, .sentinel, .pinned], laidTests := true, laidLooks := .later }
def ShowAllUptoCardSaid : Prop := Claim7.holds Tryz.pinned (.plain (OpenSpec.upto showAllSpec)) showAllUptoCard

/-- THE SECOND FORM's CARD OF 'chequerlaw6.ShowTexts'. -/
def showTextsUptoCard : Claim7 := { stood := { row := showTextsUptoRow, standIns := [], harness := (true, "3f8d1e3edfd3264eb51a82ec06728b799716ec29cf74c67b1c9a02fdda9ab015"), looks := true }, kinds := [], alts := [], laidByText := true, laidKinds := [.data, .data, .data, .data, .sentinel, .sentinel, .pinned], laidTests := true, laidLooks := .later }
def ShowTextsUptoCardSaid : Prop := Claim7.holds Tryz.pinned (.plain (OpenSpec.upto showTextsSpec)) showTextsUptoCard

/-- THE SECOND FORM's CARD OF 'chequerlaw6.ShowMade'. -/
def showMadeUptoCard : Claim7 := { stood := { row := showMadeUptoRow, standIns := [], harness := (true, "3f8d1e3edfd3264eb51a82ec06728b799716ec29cf74c67b1c9a02fdda9ab015"), looks := true }, kinds := [], alts := [], laidByText := true, laidKinds := [.data, .data, .data, .data, .sentinel, .sentinel, .pinned], laidTests := true, laidLooks := .later }
def ShowMadeUptoCardSaid : Prop := Claim7.holds Tryz.pinned (.plain (OpenSpec.upto showMadeSpec)) showMadeUptoCard

/-- THE SECOND FORM's CARD OF 'chequerlaw6.ShowLeast'. -/
def showLeastUptoCard : Claim7 := { stood := { row := showLeastUptoRow, standIns := [], harness := (true, "3f8d1e3edfd3264eb51a82ec06728b799716ec29cf74c67b1c9a02fdda9ab015"), looks := true }, kinds := [], alts := [], laidByText := true, laidKinds := [.data, .data, .data, .data, .sentinel, .sentinel, .pinned], laidTests := true, laidLooks := .later }
def ShowLeastUptoCardSaid : Prop := Claim7.holds Tryz.pinned (.plain (OpenSpec.upto showLeastSpec)) showLeastUptoCard

/-- THE SECOND FORM's CARD OF 'chequerlaw9.CellLong'. -/
def cellLongUptoCard : Claim7 := { stood := { row := cellLongUptoRow, standIns := [], harness := (true, "3f8d1e3edfd3264eb51a82ec06728b799716ec29cf74c67b1c9a02fdda9ab015"), looks := true }, kinds := [], alts := [], laidByText := true, laidKinds := [.data, .data, .data, .data, .sentinel, .sentinel, .pinned], laidTests := true, laidLooks := .later }
def CellLongUptoCardSaid : Prop := Claim7.holds Tryz.pinned (.plain (OpenSpec.upto cellLongSpec)) cellLongUptoCard

/-- THE SECOND FORM's CARD OF 'chequerlaw9.CellStays'. -/
def cellStaysUptoCard : Claim7 := { stood := { row := cellStaysUptoRow, standIns := [], harness := (true, "3f8d1e3edfd3264eb51a82ec06728b799716ec29cf74c67b1c9a02fdda9ab015"), looks := true }, kinds := [], alts := [], laidByText := true, laidKinds := [.data, .data, .data, .data, .sentinel, .sentinel, .pinned], laidTests := true, laidLooks := .later }
def CellStaysUptoCardSaid : Prop := Claim7.holds Tryz.pinned (.plain (OpenSpec.upto cellStaysSpec)) cellStaysUptoCard

/-- THE SECOND FORM's CARD OF 'chequerlaw9.CellNumbers'. -/
def cellNumbersUptoCard : Claim7 := { stood := { row := cellNumbersUptoRow, standIns := [], harness := (true, "3f8d1e3edfd3264eb51a82ec06728b799716ec29cf74c67b1c9a02fdda9ab015"), looks := true }, kinds := [], alts := [], laidByText := true, laidKinds := [.data, .data, .data, .data, .sentinel, .sentinel, .pinned], laidTests := true, laidLooks := .later }
def CellNumbersUptoCardSaid : Prop := Claim7.holds Tryz.pinned (.plain (OpenSpec.upto cellNumbersSpec)) cellNumbersUptoCard

/-- THE SECOND FORM's CARD OF 'chequerlaw9.CellTexts'. -/
def cellTextsUptoCard : Claim7 := { stood := { row := cellTextsUptoRow, standIns := [], harness := (true, "3f8d1e3edfd3264eb51a82ec06728b799716ec29cf74c67b1c9a02fdda9ab015"), looks := true }, kinds := [], alts := [], laidByText := true, laidKinds := [.data, .data, .data, .data, .sentinel, .sentinel, .pinned], laidTests := true, laidLooks := .later }
def CellTextsUptoCardSaid : Prop := Claim7.holds Tryz.pinned (.plain (OpenSpec.upto cellTextsSpec)) cellTextsUptoCard

/-- THE SECOND FORM's CARD OF 'chequerlaw10.BookMade'. -/
def bookMadeUptoCard : Claim7 := { stood := { row := bookMadeUptoRow, standIns := [], harness := (true, "3f8d1e3edfd3264eb51a82ec06728b799716ec29cf74c67b1c9a02fdda9ab015"), looks := true }, kinds := [], alts := [], laidByText := true, laidKinds := [.data, .data, .data, .data, .sentinel, .sentinel, .pinned], laidTests := true, laidLooks := .later }
def BookMadeUptoCardSaid : Prop := Claim7.holds Tryz.pinned (.plain (OpenSpec.upto bookMadeSpec)) bookMadeUptoCard

/-- THE SECOND FORM's CARD OF 'chequerlaw10.BookOne'. -/
def bookOneUptoCard : Claim7 := { stood := { row := bookOneUptoRow, standIns := [], harness := (true, "3f8d1e3edfd3264eb51a82ec06728b799716ec29cf74c67b1c9a02fdda9ab015"), looks := true }, kinds := [], alts := [], laidByText := true, laidKinds := [.data, .data, .data, .data, .sentinel, .sentinel, .pinned], laidTests := true, laidLooks := .later }
def BookOneUptoCardSaid : Prop := Claim7.holds Tryz.pinned (.plain (OpenSpec.upto bookOneSpec)) bookOneUptoCard

/-- THE SECOND FORM's CARD OF 'chequerlaw10.BookApart'. -/
def bookApartUptoCard : Claim7 := { stood := { row := bookApartUptoRow, standIns := [], harness := (true, "3f8d1e3edfd3264eb51a82ec06728b799716ec29cf74c67b1c9a02fdda9ab015"), looks := true }, kinds := [], alts := [], laidByText := true, laidKinds := [.data, .data, .data, .data, .sentinel, .sentinel, .pinned], laidTests := true, laidLooks := .later }
def BookApartUptoCardSaid : Prop := Claim7.holds Tryz.pinned (.plain (OpenSpec.upto bookApartSpec)) bookApartUptoCard

/-- THE SECOND FORM's CARD OF 'chequerlaw12.MoveAll'. -/
def moveAllUptoCard : Claim7 := { stood := { row := moveAllUptoRow, standIns := [], harness := (true, "3f8d1e3edfd3264eb51a82ec06728b799716ec29cf74c67b1c9a02fdda9ab015"), looks := true }, kinds := [], alts := [], laidByText := true, laidKinds := [.data, .data, .data, .data, .sentinel, .sentinel, .pinned], laidTests := true, laidLooks := .later }
def MoveAllUptoCardSaid : Prop := Claim7.holds Tryz.pinned (.plain (OpenSpec.upto moveAllSpec)) moveAllUptoCard

/-- THE SECOND FORM's CARD OF 'chequerlaw12.MoveMade'. -/
def moveMadeUptoCard : Claim7 := { stood := { row := moveMadeUptoRow, standIns := [], harness := (true, "3f8d1e3edfd3264eb51a82ec06728b799716ec29cf74c67b1c9a02fdda9ab015"), looks := true }, kinds := [], alts := [], laidByText := true, laidKinds := [.data, .data, .data, .data, .sentinel, .sentinel, .pinned], laidTests := true, laidLooks := .later }
def MoveMadeUptoCardSaid : Prop := Claim7.holds Tryz.pinned (.plain (OpenSpec.upto moveMadeSpec)) moveMadeUptoCard

/-- THE SECOND FORM's CARD OF 'chequerlaw12.MoveStays'. -/
def moveStaysUptoCard : Claim7 := { stood := { row := moveStaysUptoRow, standIns := [], harness := (true, "3f8d1e3edfd3264eb51a82ec06728b799716ec29cf74c67b1c9a02fdda9ab015"), looks := true }, kinds := [], alts := [], laidByText := true, laidKinds := [.data, .data, .data, .data, .sentinel, .sentinel, .pinned], laidTests := true, laidLooks := .later }
def MoveStaysUptoCardSaid : Prop := Claim7.holds Tryz.pinned (.plain (OpenSpec.upto moveStaysSpec)) moveStaysUptoCard

/-- THE SECOND FORM's CARD OF 'chequerlaw12.MoveOne'. -/
def moveOneUptoCard : Claim7 := { stood := { row := moveOneUptoRow, standIns := [], harness := (true, "3f8d1e3edfd3264eb51a82ec06728b799716ec29cf74c67b1c9a02fdda9ab015"), looks := true }, kinds := [], alts := [], laidByText := true, laidKinds := [.data, .data, .data, .data, .sentinel, .sentinel, .pinned], laidTests := true, laidLooks := .later }
def MoveOneUptoCardSaid : Prop := Claim7.holds Tryz.pinned (.plain (OpenSpec.upto moveOneSpec)) moveOneUptoCard

/-- THE SECOND FORM's CARD OF 'chequerlaw12.MoveTwice'. -/
def moveTwiceUptoCard : Claim7 := { stood := { row := moveTwiceUptoRow, standIns := [], harness := (true, "3f8d1e3edfd3264eb51a82ec06728b799716ec29cf74c67b1c9a02fdda9ab015"), looks := true }, kinds := [], alts := [], laidByText := true, laidKinds := [.data, .data, .data, .data, .sentinel, .sentinel, .pinned], laidTests := true, laidLooks := .later }
def MoveTwiceUptoCardSaid : Prop := Claim7.holds Tryz.pinned (.plain (OpenSpec.upto moveTwiceSpec)) moveTwiceUptoCard
end Rows
end Go.Proofs.YtiloogjageledaaGreatDoor
