/-
  DERIVED. GIVEN WITH THE SEED: THE CARDS: each row of YtjnabgddjogkbaaGreatDoorRows.lean that lists a variable, with what it lists TIED to the program's text (the seventh form; the later family's looks); each row that meets fmt, with fmt's text TOLD by the authors' own Lean function (tested against real Go, not proved from fmt's source: count such statements apart). THE CARD IS WHAT COUNTS. Prove the row's statement (the work); the ties are given (YtjnabgddjogkbaaGreatDoorTie.lean); close each card by the builder's one call (the guide's Derived/Test/ToyasCard.lean, 'card_holds'). Laid BY PROGRAM, IN A SANDBOX (cutbox-door.mjs). By AI agents, Wed Nov 11 2026. No macro, syntax, notation, axiom, sorry.
-/
import Derived.Test.YtjnabgddjogkbaaGreatDoorRows
import GoSem.ClaimSeven
namespace Go.Proofs.YtjnabgddjogkbaaGreatDoor
namespace Rows

/-- THE TIED CARD OF 'bridlewaylaw11.ParseTells'. -/
def parseTellsCard : Claim7 := { stood := { row := parseTellsRow, standIns := [], harness := (true, "0cbd5ef9c35ee844e513ae7502e5ebfd381e1ade3e3d12611c62348d078263fd"), looks := true }, kinds := [], alts := [], laidByText := true, laidKinds := [.data, .data, .data, .data, .sentinel, .sentinel, .widerDeep, .widerDeep, .pinned, .pinned], laidTests := true, laidLooks := .later }
def ParseTellsCardSaid : Prop := Claim7.holds Tryz.pinned (.plain (OpenSpec.ofChange parseTellsSpec)) parseTellsCard

/-- THE TIED CARD OF 'bridlewaylaw11.ParseGroups'. -/
def parseGroupsCard : Claim7 := { stood := { row := parseGroupsRow, standIns := [], harness := (true, "0cbd5ef9c35ee844e513ae7502e5ebfd381e1ade3e3d12611c62348d078263fd"), looks := true }, kinds := [], alts := [], laidByText := true, laidKinds := [.data, .data, .data, .data, .sentinel, .sentinel, .widerDeep, .widerDeep, .pinned, .pinned], laidTests := true, laidLooks := .later }
def ParseGroupsCardSaid : Prop := Claim7.holds Tryz.pinned (.plain (OpenSpec.ofChange parseGroupsSpec)) parseGroupsCard

/-- THE TIED CARD OF 'bridlewaylaw11.ParseHeads'. -/
def parseHeadsCard : Claim7 := { stood := { row := parseHeadsRow, standIns := [], harness := (true, "0cbd5ef9c35ee844e513ae7502e5ebfd381e1ade3e3d12611c62348d078263fd"), looks := true }, kinds := [], alts := [], laidByText := true, laidKinds := [.data, .data, .data, .data, .sentinel, .sentinel, .widerDeep, .widerDeep, .pinned, .pinned], laidTests := true, laidLooks := .later }
def ParseHeadsCardSaid : Prop := Claim7.holds Tryz.pinned (.plain (OpenSpec.ofChange parseHeadsSpec)) parseHeadsCard

/-- THE TIED CARD OF 'bridlewaylaw11.ParseTimes'. -/
def parseTimesCard : Claim7 := { stood := { row := parseTimesRow, standIns := [], harness := (true, "0cbd5ef9c35ee844e513ae7502e5ebfd381e1ade3e3d12611c62348d078263fd"), looks := true }, kinds := [], alts := [], laidByText := true, laidKinds := [.data, .data, .data, .data, .sentinel, .sentinel, .widerDeep, .widerDeep, .pinned, .pinned], laidTests := true, laidLooks := .later }
def ParseTimesCardSaid : Prop := Claim7.holds Tryz.pinned (.plain (OpenSpec.ofChange parseTimesSpec)) parseTimesCard

/-- THE TIED CARD OF 'bridlewaylaw11.ParseDirs'. -/
def parseDirsCard : Claim7 := { stood := { row := parseDirsRow, standIns := [], harness := (true, "0cbd5ef9c35ee844e513ae7502e5ebfd381e1ade3e3d12611c62348d078263fd"), looks := true }, kinds := [], alts := [], laidByText := true, laidKinds := [.data, .data, .data, .data, .sentinel, .sentinel, .widerDeep, .widerDeep, .pinned, .pinned], laidTests := true, laidLooks := .later }
def ParseDirsCardSaid : Prop := Claim7.holds Tryz.pinned (.plain (OpenSpec.ofChange parseDirsSpec)) parseDirsCard

/-- THE TIED CARD OF 'bridlewaylaw11.ParseWords'. -/
def parseWordsCard : Claim7 := { stood := { row := parseWordsRow, standIns := [], harness := (true, "0cbd5ef9c35ee844e513ae7502e5ebfd381e1ade3e3d12611c62348d078263fd"), looks := true }, kinds := [], alts := [], laidByText := true, laidKinds := [.data, .data, .data, .data, .sentinel, .sentinel, .widerDeep, .widerDeep, .pinned, .pinned], laidTests := true, laidLooks := .later }
def ParseWordsCardSaid : Prop := Claim7.holds Tryz.pinned (.plain (OpenSpec.ofChange parseWordsSpec)) parseWordsCard

/-- THE TIED CARD OF 'bridlewaylaw11.ParseRows'. -/
def parseRowsCard : Claim7 := { stood := { row := parseRowsRow, standIns := [], harness := (true, "0cbd5ef9c35ee844e513ae7502e5ebfd381e1ade3e3d12611c62348d078263fd"), looks := true }, kinds := [], alts := [], laidByText := true, laidKinds := [.data, .data, .data, .data, .sentinel, .sentinel, .widerDeep, .widerDeep, .pinned, .pinned], laidTests := true, laidLooks := .later }
def ParseRowsCardSaid : Prop := Claim7.holds Tryz.pinned (.plain (OpenSpec.ofChange parseRowsSpec)) parseRowsCard

/-- THE TIED CARD OF 'bridlewaylaw11.ParseTokens'. -/
def parseTokensCard : Claim7 := { stood := { row := parseTokensRow, standIns := [], harness := (true, "0cbd5ef9c35ee844e513ae7502e5ebfd381e1ade3e3d12611c62348d078263fd"), looks := true }, kinds := [], alts := [], laidByText := true, laidKinds := [.data, .data, .data, .data, .sentinel, .sentinel, .widerDeep, .widerDeep, .pinned, .pinned], laidTests := true, laidLooks := .later }
def ParseTokensCardSaid : Prop := Claim7.holds Tryz.pinned (.plain (OpenSpec.ofChange parseTokensSpec)) parseTokensCard

/-- THE SECOND FORM's CARD OF 'bridlewaylaw11.ParseTells'. -/
def parseTellsUptoCard : Claim7 := { stood := { row := parseTellsUptoRow, standIns := [], harness := (true, "0cbd5ef9c35ee844e513ae7502e5ebfd381e1ade3e3d12611c62348d078263fd"), looks := true }, kinds := [], alts := [], laidByText := true, laidKinds := [.data, .data, .data, .data, .sentinel, .sentinel, .widerDeep, .widerDeep, .pinned, .pinned], laidTests := true, laidLooks := .later }
def ParseTellsUptoCardSaid : Prop := Claim7.holds Tryz.pinned (.plain (OpenSpec.upto parseTellsSpec)) parseTellsUptoCard

/-- THE SECOND FORM's CARD OF 'bridlewaylaw11.ParseGroups'. -/
def parseGroupsUptoCard : Claim7 := { stood := { row := parseGroupsUptoRow, standIns := [], harness := (true, "0cbd5ef9c35ee844e513ae7502e5ebfd381e1ade3e3d12611c62348d078263fd"), looks := true }, kinds := [], alts := [], laidByText := true, laidKinds := [.data, .data, .data, .data, .sentinel, .sentinel, .widerDeep, .widerDeep, .pinned, .pinned], laidTests := true, laidLooks := .later }
def ParseGroupsUptoCardSaid : Prop := Claim7.holds Tryz.pinned (.plain (OpenSpec.upto parseGroupsSpec)) parseGroupsUptoCard

/-- THE SECOND FORM's CARD OF 'bridlewaylaw11.ParseHeads'. -/
def parseHeadsUptoCard : Claim7 := { stood := { row := parseHeadsUptoRow, standIns := [], harness := (true, "0cbd5ef9c35ee844e513ae7502e5ebfd381e1ade3e3d12611c62348d078263fd"), looks := true }, kinds := [], alts := [], laidByText := true, laidKinds := [.data, .data, .data, .data, .sentinel, .sentinel, .widerDeep, .widerDeep, .pinned, .pinned], laidTests := true, laidLooks := .later }
def ParseHeadsUptoCardSaid : Prop := Claim7.holds Tryz.pinned (.plain (OpenSpec.upto parseHeadsSpec)) parseHeadsUptoCard

/-- THE SECOND FORM's CARD OF 'bridlewaylaw11.ParseTimes'. -/
def parseTimesUptoCard : Claim7 := { stood := { row := parseTimesUptoRow, standIns := [], harness := (true, "0cbd5ef9c35ee844e513ae7502e5ebfd381e1ade3e3d12611c62348d078263fd"), looks := true }, kinds := [], alts := [], laidByText := true, laidKinds := [.data, .data, .data, .data, .sentinel, .sentinel, .widerDeep, .widerDeep, .pinned, .pinned], laidTests := true, laidLooks := .later }
def ParseTimesUptoCardSaid : Prop := Claim7.holds Tryz.pinned (.plain (OpenSpec.upto parseTimesSpec)) parseTimesUptoCard

/-- THE SECOND FORM's CARD OF 'bridlewaylaw11.ParseDirs'. -/
def parseDirsUptoCard : Claim7 := { stood := { row := parseDirsUptoRow, standIns := [], harness := (true, "0cbd5ef9c35ee844e513ae7502e5ebfd381e1ade3e3d12611c62348d078263fd"), looks := true }, kinds := [], alts := [], laidByText := true, laidKinds := [.data, .data, .data, .data, .sentinel, .sentinel, .widerDeep, .widerDeep, .pinned, .pinned], laidTests := true, laidLooks := .later }
def ParseDirsUptoCardSaid : Prop := Claim7.holds Tryz.pinned (.plain (OpenSpec.upto parseDirsSpec)) parseDirsUptoCard

/-- THE SECOND FORM's CARD OF 'bridlewaylaw11.ParseWords'. -/
def parseWordsUptoCard : Claim7 := { stood := { row := parseWordsUptoRow, standIns := [], harness := (true, "0cbd5ef9c35ee844e513ae7502e5ebfd381e1ade3e3d12611c62348d078263fd"), looks := true }, kinds := [], alts := [], laidByText := true, laidKinds := [.data, .data, .data, .data, .sentinel, .sentinel, .widerDeep, .widerDeep, .pinned, .pinned], laidTests := true, laidLooks := .later }
def ParseWordsUptoCardSaid : Prop := Claim7.holds Tryz.pinned (.plain (OpenSpec.upto parseWordsSpec)) parseWordsUptoCard

/-- THE SECOND FORM's CARD OF 'bridlewaylaw11.ParseRows'. -/
def parseRowsUptoCard : Claim7 := { stood := { row := parseRowsUptoRow, standIns := [], harness := (true, "0cbd5ef9c35ee844e513ae7502e5ebfd381e1ade3e3d12611c62348d078263fd"), looks := true }, kinds := [], alts := [], laidByText := true, laidKinds := [.data, .data, .data, .data, .sentinel, .sentinel, .widerDeep, .widerDeep, .pinned, .pinned], laidTests := true, laidLooks := .later }
def ParseRowsUptoCardSaid : Prop := Claim7.holds Tryz.pinned (.plain (OpenSpec.upto parseRowsSpec)) parseRowsUptoCard

/-- THE SECOND FORM's CARD OF 'bridlewaylaw11.ParseTokens'. -/
def parseTokensUptoCard : Claim7 := { stood := { row := parseTokensUptoRow, standIns := [], harness := (true, "0cbd5ef9c35ee844e513ae7502e5ebfd381e1ade3e3d12611c62348d078263fd"), looks := true }, kinds := [], alts := [], laidByText := true, laidKinds := [.data, .data, .data, .data, .sentinel, .sentinel, .widerDeep, .widerDeep, .pinned, .pinned], laidTests := true, laidLooks := .later }
def ParseTokensUptoCardSaid : Prop := Claim7.holds Tryz.pinned (.plain (OpenSpec.upto parseTokensSpec)) parseTokensUptoCard
end Rows
end Go.Proofs.YtjnabgddjogkbaaGreatDoor
