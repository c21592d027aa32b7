/-
  DERIVED. GIVEN WITH THE SEED: THE CARDS: each row of YtefaigjfkddelaaGreatDoorRows.lean that lists a variable, with what it lists TIED to the program's text (the seventh form; the later family's looks); each row that meets fmt, with fmt's text TOLD by the authors' own Lean function (tested against real Go, not proved from fmt's source: count such statements apart). THE CARD IS WHAT COUNTS. Prove the row's statement (the work); the ties are given (YtefaigjfkddelaaGreatDoorTie.lean); close each card by the builder's one call (the guide's Derived/Test/ToyasCard.lean, 'card_holds'). Laid BY PROGRAM, IN A SANDBOX (cutbox-door.mjs). By AI agents, Wed Nov 11 2026. No macro, syntax, notation, axiom, sorry.
-/
import Derived.Test.YtefaigjfkddelaaGreatDoorRows
import GoSem.ClaimSeven
namespace Go.Proofs.YtefaigjfkddelaaGreatDoor
namespace Rows

/-- THE TIED CARD OF 'chequerlaw26.BlameAll'. -/
def blameAllCard : Claim7 := { stood := { row := blameAllRow, standIns := [], harness := (true, "a1ee3375d75279109cd3520cc4e359e095d378b7d9d85e3f712764b05672bf85"), looks := true }, kinds := [], alts := [], laidByText := true, laidKinds := [.data, .data, .data, .data, .sentinel, .sentinel, .pinned], laidTests := true, laidLooks := .later }
def BlameAllCardSaid : Prop := Claim7.holds Tryz.pinned (.plain (OpenSpec.ofChange blameAllSpec)) blameAllCard

/-- THE TIED CARD OF 'chequerlaw26.BlameMade'. -/
def blameMadeCard : Claim7 := { stood := { row := blameMadeRow, standIns := [], harness := (true, "a1ee3375d75279109cd3520cc4e359e095d378b7d9d85e3f712764b05672bf85"), looks := true }, kinds := [], alts := [], laidByText := true, laidKinds := [.data, .data, .data, .data, .sentinel, .sentinel, .pinned], laidTests := true, laidLooks := .later }
def BlameMadeCardSaid : Prop := Claim7.holds Tryz.pinned (.plain (OpenSpec.ofChange blameMadeSpec)) blameMadeCard

/-- THE TIED CARD OF 'chequerlaw26.BlameNobody'. -/
def blameNobodyCard : Claim7 := { stood := { row := blameNobodyRow, standIns := [], harness := (true, "a1ee3375d75279109cd3520cc4e359e095d378b7d9d85e3f712764b05672bf85"), looks := true }, kinds := [], alts := [], laidByText := true, laidKinds := [.data, .data, .data, .data, .sentinel, .sentinel, .pinned], laidTests := true, laidLooks := .later }
def BlameNobodyCardSaid : Prop := Claim7.holds Tryz.pinned (.plain (OpenSpec.ofChange blameNobodySpec)) blameNobodyCard

/-- THE TIED CARD OF 'chequerlaw26.BlameCells'. -/
def blameCellsCard : Claim7 := { stood := { row := blameCellsRow, standIns := [], harness := (true, "a1ee3375d75279109cd3520cc4e359e095d378b7d9d85e3f712764b05672bf85"), looks := true }, kinds := [], alts := [], laidByText := true, laidKinds := [.data, .data, .data, .data, .sentinel, .sentinel, .pinned], laidTests := true, laidLooks := .later }
def BlameCellsCardSaid : Prop := Claim7.holds Tryz.pinned (.plain (OpenSpec.ofChange blameCellsSpec)) blameCellsCard

/-- THE TIED CARD OF 'chequerlaw26.BlameRows'. -/
def blameRowsCard : Claim7 := { stood := { row := blameRowsRow, standIns := [], harness := (true, "a1ee3375d75279109cd3520cc4e359e095d378b7d9d85e3f712764b05672bf85"), looks := true }, kinds := [], alts := [], laidByText := true, laidKinds := [.data, .data, .data, .data, .sentinel, .sentinel, .pinned], laidTests := true, laidLooks := .later }
def BlameRowsCardSaid : Prop := Claim7.holds Tryz.pinned (.plain (OpenSpec.ofChange blameRowsSpec)) blameRowsCard

/-- THE SECOND FORM's CARD OF 'chequerlaw26.BlameAll'. -/
def blameAllUptoCard : Claim7 := { stood := { row := blameAllUptoRow, standIns := [], harness := (true, "a1ee3375d75279109cd3520cc4e359e095d378b7d9d85e3f712764b05672bf85"), looks := true }, kinds := [], alts := [], laidByText := true, laidKinds := [.data, .data, .data, .data, .sentinel, .sentinel, .pinned], laidTests := true, laidLooks := .later }
def BlameAllUptoCardSaid : Prop := Claim7.holds Tryz.pinned (.plain (OpenSpec.upto blameAllSpec)) blameAllUptoCard

/-- THE SECOND FORM's CARD OF 'chequerlaw26.BlameMade'. -/
def blameMadeUptoCard : Claim7 := { stood := { row := blameMadeUptoRow, standIns := [], harness := (true, "a1ee3375d75279109cd3520cc4e359e095d378b7d9d85e3f712764b05672bf85"), looks := true }, kinds := [], alts := [], laidByText := true, laidKinds := [.data, .data, .data, .data, .sentinel, .sentinel, .pinned], laidTests := true, laidLooks := .later }
def BlameMadeUptoCardSaid : Prop := Claim7.holds Tryz.pinned (.plain (OpenSpec.upto blameMadeSpec)) blameMadeUptoCard

/-- THE SECOND FORM's CARD OF 'chequerlaw26.BlameNobody'. -/
def blameNobodyUptoCard : Claim7 := { stood := { row := blameNobodyUptoRow, standIns := [], harness := (true, "a1ee3375d75279109cd3520cc4e359e095d378b7d9d85e3f712764b05672bf85"), looks := true }, kinds := [], alts := [], laidByText := true, laidKinds := [.data, .data, .data, .data, .sentinel, .sentinel, .pinned], laidTests := true, laidLooks := .later }
def BlameNobodyUptoCardSaid : Prop := Claim7.holds Tryz.pinned (.plain (OpenSpec.upto blameNobodySpec)) blameNobodyUptoCard

/-- THE SECOND FORM's CARD OF 'chequerlaw26.BlameCells'. -/
def blameCellsUptoCard : Claim7 := { stood := { row := blameCellsUptoRow, standIns := [], harness := (true, "a1ee3375d75279109cd3520cc4e359e095d378b7d9d85e3f712764b05672bf85"), looks := true }, kinds := [], alts := [], laidByText := true, laidKinds := [.data, .data, .data, .data, .sentinel, .sentinel, .pinned], laidTests := true, laidLooks := .later }
def BlameCellsUptoCardSaid : Prop := Claim7.holds Tryz.pinned (.plain (OpenSpec.upto blameCellsSpec)) blameCellsUptoCard

/-- THE SECOND FORM's CARD OF 'chequerlaw26.BlameRows'. -/
def blameRowsUptoCard : Claim7 := { stood := { row := blameRowsUptoRow, standIns := [], harness := (true, "a1ee3375d75279109cd3520cc4e359e095d378b7d9d85e3f712764b05672bf85"), looks := true }, kinds := [], alts := [], laidByText := true, laidKinds := [.data, .data, .data, .data, .sentinel, .sentinel, .pinned], laidTests := true, laidLooks := .later }
def BlameRowsUptoCardSaid : Prop := Claim7.holds Tryz.pinned (.plain (OpenSpec.upto blameRowsSpec)) blameRowsUptoCard
end Rows
end Go.Proofs.YtefaigjfkddelaaGreatDoor
