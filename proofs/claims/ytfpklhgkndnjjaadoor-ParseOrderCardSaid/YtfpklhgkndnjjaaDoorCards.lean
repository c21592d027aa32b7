/-
  DERIVED. GIVEN WITH THE SEED: THE CARDS: each row of YtfpklhgkndnjjaaDoorRows.lean that lists a variable, with what it lists TIED to the program's text (the seventh form; the later family's looks); each row that meets fmt, with fmt's text TOLD by the authors' own Lean function (tested against real Go, not proved from fmt's source: count such statements apart). THE CARD IS WHAT COUNTS. Prove the row's statement (the work); the ties are given (YtfpklhgkndnjjaaDoorTie.lean); close each card by the builder's one call (the guide's Derived/Test/ToyasCard.lean, 'card_holds'). Laid BY PROGRAM, IN A SANDBOX (cutbox-door.mjs). By AI agents, Wed Nov 11 2026. No macro, syntax, notation, axiom, sorry.
-/
import Derived.Test.YtfpklhgkndnjjaaDoorRows
import GoSem.ClaimSeven
namespace Go.Proofs.YtfpklhgkndnjjaaDoor
namespace Rows

/-- THE TIED CARD OF 'chequerlaw3.AddrAll'. -/
def addrAllCard : Claim7 := { stood := { row := addrAllRow, standIns := [], harness := (true, "c0e2a9c16aaec4d09fbd73cf38509e6da833436406d341c859824a5d2c560447"), looks := true }, kinds := [], alts := [], laidByText := true, laidKinds := [.data, .data, .data, .sentinel, .sentinel], laidTests := true, laidLooks := .later }
def AddrAllCardSaid : Prop := Claim7.holds Tryd.pinned (.plain (OpenSpec.ofChange addrAllSpec)) addrAllCard

/-- THE TIED CARD OF 'chequerlaw3.AddrBack'. -/
def addrBackCard : Claim7 := { stood := { row := addrBackRow, standIns := [], harness := (true, "c0e2a9c16aaec4d09fbd73cf38509e6da833436406d341c859824a5d2c560447"), looks := true }, kinds := [], alts := [], laidByText := true, laidKinds := [.data, .data, .data, .sentinel, .sentinel], laidTests := true, laidLooks := .later }
def AddrBackCardSaid : Prop := Claim7.holds Tryd.pinned (.plain (OpenSpec.ofChange addrBackSpec)) addrBackCard

/-- THE TIED CARD OF 'chequerlaw3.AddrCols'. -/
def addrColsCard : Claim7 := { stood := { row := addrColsRow, standIns := [], harness := (true, "c0e2a9c16aaec4d09fbd73cf38509e6da833436406d341c859824a5d2c560447"), looks := true }, kinds := [], alts := [], laidByText := true, laidKinds := [.data, .data, .data, .sentinel, .sentinel], laidTests := true, laidLooks := .later }
def AddrColsCardSaid : Prop := Claim7.holds Tryd.pinned (.plain (OpenSpec.ofChange addrColsSpec)) addrColsCard

/-- THE TIED CARD OF 'chequerlaw4.LexTexts'. -/
def lexTextsCard : Claim7 := { stood := { row := lexTextsRow, standIns := [], harness := (true, "c0e2a9c16aaec4d09fbd73cf38509e6da833436406d341c859824a5d2c560447"), looks := true }, kinds := [], alts := [], laidByText := true, laidKinds := [.data, .data, .data, .sentinel, .sentinel], laidTests := true, laidLooks := .later }
def LexTextsCardSaid : Prop := Claim7.holds Tryd.pinned (.plain (OpenSpec.ofChange lexTextsSpec)) lexTextsCard

/-- THE TIED CARD OF 'chequerlaw4.LexBlanks'. -/
def lexBlanksCard : Claim7 := { stood := { row := lexBlanksRow, standIns := [], harness := (true, "c0e2a9c16aaec4d09fbd73cf38509e6da833436406d341c859824a5d2c560447"), looks := true }, kinds := [], alts := [], laidByText := true, laidKinds := [.data, .data, .data, .sentinel, .sentinel], laidTests := true, laidLooks := .later }
def LexBlanksCardSaid : Prop := Claim7.holds Tryd.pinned (.plain (OpenSpec.ofChange lexBlanksSpec)) lexBlanksCard

/-- THE TIED CARD OF 'chequerlaw4.LexQuotes'. -/
def lexQuotesCard : Claim7 := { stood := { row := lexQuotesRow, standIns := [], harness := (true, "c0e2a9c16aaec4d09fbd73cf38509e6da833436406d341c859824a5d2c560447"), looks := true }, kinds := [], alts := [], laidByText := true, laidKinds := [.data, .data, .data, .sentinel, .sentinel], laidTests := true, laidLooks := .later }
def LexQuotesCardSaid : Prop := Claim7.holds Tryd.pinned (.plain (OpenSpec.ofChange lexQuotesSpec)) lexQuotesCard

/-- THE TIED CARD OF 'chequerlaw4.LexNumbers'. -/
def lexNumbersCard : Claim7 := { stood := { row := lexNumbersRow, standIns := [], harness := (true, "c0e2a9c16aaec4d09fbd73cf38509e6da833436406d341c859824a5d2c560447"), looks := true }, kinds := [], alts := [], laidByText := true, laidKinds := [.data, .data, .data, .sentinel, .sentinel], laidTests := true, laidLooks := .later }
def LexNumbersCardSaid : Prop := Claim7.holds Tryd.pinned (.plain (OpenSpec.ofChange lexNumbersSpec)) lexNumbersCard

/-- THE TIED CARD OF 'chequerlaw5.ParseDeep'. -/
def parseDeepCard : Claim7 := { stood := { row := parseDeepRow, standIns := [], harness := (true, "c0e2a9c16aaec4d09fbd73cf38509e6da833436406d341c859824a5d2c560447"), looks := true }, kinds := [], alts := [], laidByText := true, laidKinds := [.data, .data, .data, .sentinel, .sentinel], laidTests := true, laidLooks := .later }
def ParseDeepCardSaid : Prop := Claim7.holds Tryd.pinned (.plain (OpenSpec.ofChange parseDeepSpec)) parseDeepCard

/-- THE TIED CARD OF 'chequerlaw5.ParseCalls'. -/
def parseCallsCard : Claim7 := { stood := { row := parseCallsRow, standIns := [], harness := (true, "c0e2a9c16aaec4d09fbd73cf38509e6da833436406d341c859824a5d2c560447"), looks := true }, kinds := [], alts := [], laidByText := true, laidKinds := [.data, .data, .data, .sentinel, .sentinel], laidTests := true, laidLooks := .later }
def ParseCallsCardSaid : Prop := Claim7.holds Tryd.pinned (.plain (OpenSpec.ofChange parseCallsSpec)) parseCallsCard

/-- THE TIED CARD OF 'chequerlaw5.ParseOrder'. -/
def parseOrderCard : Claim7 := { stood := { row := parseOrderRow, standIns := [], harness := (true, "c0e2a9c16aaec4d09fbd73cf38509e6da833436406d341c859824a5d2c560447"), looks := true }, kinds := [], alts := [], laidByText := true, laidKinds := [.data, .data, .data, .sentinel, .sentinel], laidTests := true, laidLooks := .later }
def ParseOrderCardSaid : Prop := Claim7.holds Tryd.pinned (.plain (OpenSpec.ofChange parseOrderSpec)) parseOrderCard

/-- THE SECOND FORM's CARD OF 'chequerlaw3.AddrAll'. -/
def addrAllUptoCard : Claim7 := { stood := { row := addrAllUptoRow, standIns := [], harness := (true, "c0e2a9c16aaec4d09fbd73cf38509e6da833436406d341c859824a5d2c560447"), looks := true }, kinds := [], alts := [], laidByText := true, laidKinds := [.data, .data, .data, .sentinel, .sentinel], laidTests := true, laidLooks := .later }
def AddrAllUptoCardSaid : Prop := Claim7.holds Tryd.pinned (.plain (OpenSpec.upto addrAllSpec)) addrAllUptoCard

/-- THE SECOND FORM's CARD OF 'chequerlaw3.AddrBack'. -/
def addrBackUptoCard : Claim7 := { stood := { row := addrBackUptoRow, standIns := [], harness := (true, "c0e2a9c16aaec4d09fbd73cf38509e6da833436406d341c859824a5d2c560447"), looks := true }, kinds := [], alts := [], laidByText := true, laidKinds := [.data, .data, .data, .sentinel, .sentinel], laidTests := true, laidLooks := .later }
def AddrBackUptoCardSaid : Prop := Claim7.holds Tryd.pinned (.plain (OpenSpec.upto addrBackSpec)) addrBackUptoCard

/-- THE SECOND FORM's CARD OF 'chequerlaw3.AddrCols'. -/
def addrColsUptoCard : Claim7 := { stood := { row := addrColsUptoRow, standIns := [], harness := (true, "c0e2a9c16aaec4d09fbd73cf38509e6da833436406d341c859824a5d2c560447"), looks := true }, kinds := [], alts := [], laidByText := true, laidKinds := [.data, .data, .data, .sentinel, .sentinel], laidTests := true, laidLooks := .later }
def AddrColsUptoCardSaid : Prop := Claim7.holds Tryd.pinned (.plain (OpenSpec.upto addrColsSpec)) addrColsUptoCard

/-- THE SECOND FORM's CARD OF 'chequerlaw4.LexTexts'. -/
def lexTextsUptoCard : Claim7 := { stood := { row := lexTextsUptoRow, standIns := [], harness := (true, "c0e2a9c16aaec4d09fbd73cf38509e6da833436406d341c859824a5d2c560447"), looks := true }, kinds := [], alts := [], laidByText := true, laidKinds := [.data, .data, .data, .sentinel, .sentinel], laidTests := true, laidLooks := .later }
def LexTextsUptoCardSaid : Prop := Claim7.holds Tryd.pinned (.plain (OpenSpec.upto lexTextsSpec)) lexTextsUptoCard

/-- THE SECOND FORM's CARD OF 'chequerlaw4.LexBlanks'. -/
def lexBlanksUptoCard : Claim7 := { stood := { row := lexBlanksUptoRow, standIns := [], harness := (true, "c0e2a9c16aaec4d09fbd73cf38509e6da833436406d341c859824a5d2c560447"), looks := true }, kinds := [], alts := [], laidByText := true, laidKinds := [.data, .data, .data, .sentinel, .sentinel], laidTests := true, laidLooks := .later }
def LexBlanksUptoCardSaid : Prop := Claim7.holds Tryd.pinned (.plain (OpenSpec.upto lexBlanksSpec)) lexBlanksUptoCard

/-- THE SECOND FORM's CARD OF 'chequerlaw4.LexQuotes'. -/
def lexQuotesUptoCard : Claim7 := { stood := { row := lexQuotesUptoRow, standIns := [], harness := (true, "c0e2a9c16aaec4d09fbd73cf38509e6da833436406d341c859824a5d2c560447"), looks := true }, kinds := [], alts := [], laidByText := true, laidKinds := [.data, .data, .data, .sentinel, .sentinel], laidTests := true, laidLooks := .later }
def LexQuotesUptoCardSaid : Prop := Claim7.holds Tryd.pinned (.plain (OpenSpec.upto lexQuotesSpec)) lexQuotesUptoCard

/-- THE SECOND FORM's CARD OF 'chequerlaw4.LexNumbers'. -/
def lexNumbersUptoCard : Claim7 := { stood := { row := lexNumbersUptoRow, standIns := [], harness := (true, "c0e2a9c16aaec4d09fbd73cf38509e6da833436406d341c859824a5d2c560447"), looks := true }, kinds := [], alts := [], laidByText := true, laidKinds := [.data, .data, .data, .sentinel, .sentinel], laidTests := true, laidLooks := .later }
def LexNumbersUptoCardSaid : Prop := Claim7.holds Tryd.pinned (.plain (OpenSpec.upto lexNumbersSpec)) lexNumbersUptoCard

/-- THE SECOND FORM's CARD OF 'chequerlaw5.ParseDeep'. -/
def parseDeepUptoCard : Claim7 := { stood := { row := parseDeepUptoRow, standIns := [], harness := (true, "c0e2a9c16aaec4d09fbd73cf38509e6da833436406d341c859824a5d2c560447"), looks := true }, kinds := [], alts := [], laidByText := true, laidKinds := [.data, .data, .data, .sentinel, .sentinel], laidTests := true, laidLooks := .later }
def ParseDeepUptoCardSaid : Prop := Claim7.holds Tryd.pinned (.plain (OpenSpec.upto parseDeepSpec)) parseDeepUptoCard

/-- THE SECOND FORM's CARD OF 'chequerlaw5.ParseCalls'. -/
def parseCallsUptoCard : Claim7 := { stood := { row := parseCallsUptoRow, standIns := [], harness := (true, "c0e2a9c16aaec4d09fbd73cf38509e6da833436406d341c859824a5d2c560447"), looks := true }, kinds := [], alts := [], laidByText := true, laidKinds := [.data, .data, .data, .sentinel, .sentinel], laidTests := true, laidLooks := .later }
def ParseCallsUptoCardSaid : Prop := Claim7.holds Tryd.pinned (.plain (OpenSpec.upto parseCallsSpec)) parseCallsUptoCard

/-- THE SECOND FORM's CARD OF 'chequerlaw5.ParseOrder'. -/
def parseOrderUptoCard : Claim7 := { stood := { row := parseOrderUptoRow, standIns := [], harness := (true, "c0e2a9c16aaec4d09fbd73cf38509e6da833436406d341c859824a5d2c560447"), looks := true }, kinds := [], alts := [], laidByText := true, laidKinds := [.data, .data, .data, .sentinel, .sentinel], laidTests := true, laidLooks := .later }
def ParseOrderUptoCardSaid : Prop := Claim7.holds Tryd.pinned (.plain (OpenSpec.upto parseOrderSpec)) parseOrderUptoCard
end Rows
end Go.Proofs.YtfpklhgkndnjjaaDoor
