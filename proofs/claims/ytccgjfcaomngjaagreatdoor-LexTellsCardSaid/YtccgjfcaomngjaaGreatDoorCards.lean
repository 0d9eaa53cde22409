/-
  DERIVED. GIVEN WITH THE SEED: THE CARDS: each row of YtccgjfcaomngjaaGreatDoorRows.lean that lists a variable, with what it lists TIED to the program's text (the seventh form; the later family's looks); each row that meets fmt, with fmt's text TOLD by the authors' own Lean function (tested against real Go, not proved from fmt's source: count such statements apart). THE CARD IS WHAT COUNTS. Prove the row's statement (the work); the ties are given (YtccgjfcaomngjaaGreatDoorTie.lean); close each card by the builder's one call (the guide's Derived/Test/ToyasCard.lean, 'card_holds'). Laid BY PROGRAM, IN A SANDBOX (cutbox-door.mjs). By AI agents, Wed Nov 11 2026. No macro, syntax, notation, axiom, sorry.
-/
import Derived.Test.YtccgjfcaomngjaaGreatDoorRows
import GoSem.ClaimSeven
namespace Go.Proofs.YtccgjfcaomngjaaGreatDoor
namespace Rows

/-- THE TIED CARD OF 'bridlewaylaw02.ValueTexts'. -/
def valueTextsCard : Claim7 := { stood := { row := valueTextsRow, standIns := [], harness := (true, "85473fe71cd54ca590a27e19d236922eb7b7005c6bd5a6f36343bb793bc0d819"), looks := true }, kinds := [], alts := [], laidByText := true, laidKinds := [.data, .data, .data, .data, .sentinel, .sentinel, .pinned], laidTests := true, laidLooks := .later }
def ValueTextsCardSaid : Prop := Claim7.holds Tryz.pinned (.plain (OpenSpec.ofChange valueTextsSpec)) valueTextsCard

/-- THE TIED CARD OF 'bridlewaylaw10.LexTells'. -/
def lexTellsCard : Claim7 := { stood := { row := lexTellsRow, standIns := [], harness := (true, "85473fe71cd54ca590a27e19d236922eb7b7005c6bd5a6f36343bb793bc0d819"), looks := true }, kinds := [], alts := [], laidByText := true, laidKinds := [.data, .data, .data, .data, .sentinel, .sentinel, .widerDeep, .widerDeep, .pinned], laidTests := true, laidLooks := .later }
def LexTellsCardSaid : Prop := Claim7.holds Tryz.pinned (.plain (OpenSpec.ofChange lexTellsSpec)) lexTellsCard

/-- THE TIED CARD OF 'bridlewaylaw09.SumGraphs'. -/
def sumGraphsCard : Claim7 := { stood := { row := sumGraphsRow, standIns := [], harness := (true, "85473fe71cd54ca590a27e19d236922eb7b7005c6bd5a6f36343bb793bc0d819"), looks := true }, kinds := [], alts := [], laidByText := true, laidKinds := [.data, .data, .data], laidTests := true, laidLooks := .later }
def SumGraphsCardSaid : Prop := Claim7.holds Tryz.pinned (.plain (OpenSpec.ofChange sumGraphsSpec)) sumGraphsCard

/-- THE TIED CARD OF 'bridlewaylaw11.ParseTells'. -/
def parseTellsCard : Claim7 := { stood := { row := parseTellsRow, standIns := [], harness := (true, "85473fe71cd54ca590a27e19d236922eb7b7005c6bd5a6f36343bb793bc0d819"), looks := true }, kinds := [], alts := [], laidByText := true, laidKinds := [.data, .data, .data, .data, .sentinel, .sentinel, .widerDeep, .widerDeep, .pinned, .pinned], laidTests := true, laidLooks := .later }
def ParseTellsCardSaid : Prop := Claim7.holds Tryz.pinned (.plain (OpenSpec.ofChange parseTellsSpec)) parseTellsCard

/-- THE TIED CARD OF 'bridlewaylaw11.ParseGroups'. -/
def parseGroupsCard : Claim7 := { stood := { row := parseGroupsRow, standIns := [], harness := (true, "85473fe71cd54ca590a27e19d236922eb7b7005c6bd5a6f36343bb793bc0d819"), looks := true }, kinds := [], alts := [], laidByText := true, laidKinds := [.data, .data, .data, .data, .sentinel, .sentinel, .widerDeep, .widerDeep, .pinned, .pinned], laidTests := true, laidLooks := .later }
def ParseGroupsCardSaid : Prop := Claim7.holds Tryz.pinned (.plain (OpenSpec.ofChange parseGroupsSpec)) parseGroupsCard

/-- THE TIED CARD OF 'bridlewaylaw11.ParseHeads'. -/
def parseHeadsCard : Claim7 := { stood := { row := parseHeadsRow, standIns := [], harness := (true, "85473fe71cd54ca590a27e19d236922eb7b7005c6bd5a6f36343bb793bc0d819"), looks := true }, kinds := [], alts := [], laidByText := true, laidKinds := [.data, .data, .data, .data, .sentinel, .sentinel, .widerDeep, .widerDeep, .pinned, .pinned], laidTests := true, laidLooks := .later }
def ParseHeadsCardSaid : Prop := Claim7.holds Tryz.pinned (.plain (OpenSpec.ofChange parseHeadsSpec)) parseHeadsCard

/-- THE TIED CARD OF 'bridlewaylaw11.ParseTimes'. -/
def parseTimesCard : Claim7 := { stood := { row := parseTimesRow, standIns := [], harness := (true, "85473fe71cd54ca590a27e19d236922eb7b7005c6bd5a6f36343bb793bc0d819"), looks := true }, kinds := [], alts := [], laidByText := true, laidKinds := [.data, .data, .data, .data, .sentinel, .sentinel, .widerDeep, .widerDeep, .pinned, .pinned], laidTests := true, laidLooks := .later }
def ParseTimesCardSaid : Prop := Claim7.holds Tryz.pinned (.plain (OpenSpec.ofChange parseTimesSpec)) parseTimesCard

/-- THE TIED CARD OF 'bridlewaylaw11.ParseDirs'. -/
def parseDirsCard : Claim7 := { stood := { row := parseDirsRow, standIns := [], harness := (true, "85473fe71cd54ca590a27e19d236922eb7b7005c6bd5a6f36343bb793bc0d819"), looks := true }, kinds := [], alts := [], laidByText := true, laidKinds := [.data, .data, .data, .data, .sentinel, .sentinel, .widerDeep, .widerDeep, .pinned, .pinned], laidTests := true, laidLooks := .later }
def ParseDirsCardSaid : Prop := Claim7.holds Tryz.pinned (.plain (OpenSpec.ofChange parseDirsSpec)) parseDirsCard

/-- THE TIED CARD OF 'bridlewaylaw11.ParseWords'. -/
def parseWordsCard : Claim7 := { stood := { row := parseWordsRow, standIns := [], harness := (true, "85473fe71cd54ca590a27e19d236922eb7b7005c6bd5a6f36343bb793bc0d819"), looks := true }, kinds := [], alts := [], laidByText := true, laidKinds := [.data, .data, .data, .data, .sentinel, .sentinel, .widerDeep, .widerDeep, .pinned, .pinned], laidTests := true, laidLooks := .later }
def ParseWordsCardSaid : Prop := Claim7.holds Tryz.pinned (.plain (OpenSpec.ofChange parseWordsSpec)) parseWordsCard

/-- THE TIED CARD OF 'bridlewaylaw11.ParseRows'. -/
def parseRowsCard : Claim7 := { stood := { row := parseRowsRow, standIns := [], harness := (true, "85473fe71cd54ca590a27e19d236922eb7b7005c6bd5a6f36343bb793bc0d819"), looks := true }, kinds := [], alts := [], laidByText := true, laidKinds := [.data, .data, .data, .data, .sentinel, .sentinel, .widerDeep, .widerDeep, .pinned, .pinned], laidTests := true, laidLooks := .later }
def ParseRowsCardSaid : Prop := Claim7.holds Tryz.pinned (.plain (OpenSpec.ofChange parseRowsSpec)) parseRowsCard

/-- THE TIED CARD OF 'bridlewaylaw11.ParseTokens'. -/
def parseTokensCard : Claim7 := { stood := { row := parseTokensRow, standIns := [], harness := (true, "85473fe71cd54ca590a27e19d236922eb7b7005c6bd5a6f36343bb793bc0d819"), looks := true }, kinds := [], alts := [], laidByText := true, laidKinds := [.data, .data, .data, .data, .sentinel, .sentinel, .widerDeep, .widerDeep, .pinned, .pinned], laidTests := true, laidLooks := .later }
def ParseTokensCardSaid : Prop := Claim7.holds Tryz.pinned (.plain (OpenSpec.ofChange parseTokensSpec)) parseTokensCard

/-- THE SECOND FORM's CARD OF 'bridlewaylaw02.ValueTexts'. -/
def valueTextsUptoCard : Claim7 := { stood := { row := valueTextsUptoRow, standIns := [], harness := (true, "85473fe71cd54ca590a27e19d236922eb7b7005c6bd5a6f36343bb793bc0d819"), looks := true }, kinds := [], alts := [], laidByText := true, laidKinds := [.data, .data, .data, .data, .sentinel, .sentinel, .pinned], laidTests := true, laidLooks := .later }
def ValueTextsUptoCardSaid : Prop := Claim7.holds Tryz.pinned (.plain (OpenSpec.upto valueTextsSpec)) valueTextsUptoCard

/-- THE SECOND FORM's CARD OF 'bridlewaylaw10.LexTells'. -/
def lexTellsUptoCard : Claim7 := { stood := { row := lexTellsUptoRow, standIns := [], harness := (true, "85473fe71cd54ca590a27e19d236922eb7b7005c6bd5a6f36343bb793bc0d819"), looks := true }, kinds := [], alts := [], laidByText := true, laidKinds := [.data, .data, .data, .data, .sentinel, .sentinel, .widerDeep, .widerDeep, .pinned], laidTests := true, laidLooks := .later }
def LexTellsUptoCardSaid : Prop := Claim7.holds Tryz.pinned (.plain (OpenSpec.upto lexTellsSpec)) lexTellsUptoCard

/-- THE SECOND FORM's CARD OF 'bridlewaylaw09.SumGraphs'. -/
def sumGraphsUptoCard : Claim7 := { stood := { row := sumGraphsUptoRow, standIns := [], harness := (true, "85473fe71cd54ca590a27e19d236922eb7b7005c6bd5a6f36343bb793bc0d819"), looks := true }, kinds := [], alts := [], laidByText := true, laidKinds := [.data, .data, .data], laidTests := true, laidLooks := .later }
def SumGraphsUptoCardSaid : Prop := Claim7.holds Tryz.pinned (.plain (OpenSpec.upto sumGraphsSpec)) sumGraphsUptoCard

/-- THE SECOND FORM's CARD OF 'bridlewaylaw11.ParseTells'. -/
def parseTellsUptoCard : Claim7 := { stood := { row := parseTellsUptoRow, standIns := [], harness := (true, "85473fe71cd54ca590a27e19d236922eb7b7005c6bd5a6f36343bb793bc0d819"), looks := true }, kinds := [], alts := [], laidByText := true, laidKinds := [.data, .data, .data, .data, .sentinel, .sentinel, .widerDeep, .widerDeep, .pinned, .pinned], laidTests := true, laidLooks := .later }
def ParseTellsUptoCardSaid : Prop := Claim7.holds Tryz.pinned (.plain (OpenSpec.upto parseTellsSpec)) parseTellsUptoCard

/-- THE SECOND FORM's CARD OF 'bridlewaylaw11.ParseGroups'. -/
def parseGroupsUptoCard : Claim7 := { stood := { row := parseGroupsUptoRow, standIns := [], harness := (true, "85473fe71cd54ca590a27e19d236922eb7b7005c6bd5a6f36343bb793bc0d819"), looks := true }, kinds := [], alts := [], laidByText := true, laidKinds := [.data, .data, .data, .data, .sentinel, .sentinel, .widerDeep, .widerDeep, .pinned, .pinned], laidTests := true, laidLooks := .later }
def ParseGroupsUptoCardSaid : Prop := Claim7.holds Tryz.pinned (.plain (OpenSpec.upto parseGroupsSpec)) parseGroupsUptoCard

/-- THE SECOND FORM's CARD OF 'bridlewaylaw11.ParseHeads'. -/
def parseHeadsUptoCard : Claim7 := { stood := { row := parseHeadsUptoRow, standIns := [], harness := (true, "85473fe71cd54ca590a27e19d236922eb7b7005c6bd5a6f36343bb793bc0d819"), looks := true }, kinds := [], alts := [], laidByText := true, laidKinds := [.data, .data, .data, .data, .sentinel, .sentinel, .widerDeep, .widerDeep, .pinned, .pinned], laidTests := true, laidLooks := .later }
def ParseHeadsUptoCardSaid : Prop := Claim7.holds Tryz.pinned (.plain (OpenSpec.upto parseHeadsSpec)) parseHeadsUptoCard

/-- THE SECOND FORM's CARD OF 'bridlewaylaw11.ParseTimes'. -/
def parseTimesUptoCard : Claim7 := { stood := { row := parseTimesUptoRow, standIns := [], harness := (true, "85473fe71cd54ca590a27e19d236922eb7b7005c6bd5a6f36343bb793bc0d819"), looks := true }, kinds := [], alts := [], laidByText := true, laidKinds := [.data, .data, .data, .data, .sentinel, .sentinel, .widerDeep, .widerDeep, .pinned, .pinned], laidTests := true, laidLooks := .later }
def ParseTimesUptoCardSaid : Prop := Claim7.holds Tryz.pinned (.plain (OpenSpec.upto parseTimesSpec)) parseTimesUptoCard

/-- THE SECOND FORM's CARD OF 'bridlewaylaw11.ParseDirs'. -/
def parseDirsUptoCard : Claim7 := { stood := { row := parseDirsUptoRow, standIns := [], harness := (true, "85473fe71cd54ca590a27e19d236922eb7b7005c6bd5a6f36343bb793bc0d819"), looks := true }, kinds := [], alts := [], laidByText := true, laidKinds := [.data, .data, .data, .data, .sentinel, .sentinel, .widerDeep, .widerDeep, .pinned, .pinned], laidTests := true, laidLooks := .later }
def ParseDirsUptoCardSaid : Prop := Claim7.holds Tryz.pinned (.plain (OpenSpec.upto parseDirsSpec)) parseDirsUptoCard

/-- THE SECOND FORM's CARD OF 'bridlewaylaw11.ParseWords'. -/
def parseWordsUptoCard : Claim7 := { stood := { row := parseWordsUptoRow, standIns := [], harness := (true, "85473fe71cd54ca590a27e19d236922eb7b7005c6bd5a6f36343bb793bc0d819"), looks := true }, kinds := [], alts := [], laidByText := true, laidKinds := [.data, .data, .data, .data, .sentinel, .sentinel, .widerDeep, .widerDeep, .pinned, .pinned], laidTests := true, laidLooks := .later }
def ParseWordsUptoCardSaid : Prop := Claim7.holds Tryz.pinned (.plain (OpenSpec.upto parseWordsSpec)) parseWordsUptoCard

/-- THE SECOND FORM's CARD OF 'bridlewaylaw11.ParseRows'. -/
def parseRowsUptoCard : Claim7 := { stood := { row := parseRowsUptoRow, standIns := [], harness := (true, "85473fe71cd54ca590a27e19d236922eb7b7005c6bd5a6f36343bb793bc0d819"), looks := true }, kinds := [], alts := [], laidByText := true, laidKinds := [.data, .data, .data, .data, .sentinel, .sentinel, .widerDeep, .widerDeep, .pinned, .pinned], laidTests := true, laidLooks := .later }
def ParseRowsUptoCardSaid : Prop := Claim7.holds Tryz.pinned (.plain (OpenSpec.upto parseRowsSpec)) parseRowsUptoCard

/-- THE SECOND FORM's CARD OF 'bridlewaylaw11.ParseTokens'. -/
def parseTokensUptoCard : Claim7 := { stood := { row := parseTokensUptoRow, standIns := [], harness := (true, "85473fe71cd54ca590a27e19d236922eb7b7005c6bd5a6f36343bb793bc0d819"), looks := true }, kinds := [], alts := [], laidByText := true, laidKinds := [.data, .data, .data, .data, .sentinel, .sentinel, .widerDeep, .widerDeep, .pinned, .pinned], laidTests := true, laidLooks := .later }
def ParseTokensUptoCardSaid : Prop := Claim7.holds Tryz.pinned (.plain (OpenSpec.upto parseTokensSpec)) parseTokensUptoCard
end Rows
end Go.Proofs.YtccgjfcaomngjaaGreatDoor
