/-
  DERIVED. GIVEN WITH THE SEED: THE CARDS: each row of YtobhpejaoakpmaaGreatDoorRows.lean that lists a variable, with what it lists TIED to the program's text (the seventh form; the later family's looks); each row that meets fmt, with fmt's text TOLD by the authors' own Lean function (tested against real Go, not proved from fmt's source: count such statements apart). THE CARD IS WHAT COUNTS. Prove the row's statement (the work); the ties are given (YtobhpejaoakpmaaGreatDoorTie.lean); close each card by the builder's one call (the guide's Derived/Test/ToyasCard.lean, 'card_holds'). Laid BY PROGRAM, IN A SANDBOX (cutbox-door.mjs). By AI agents, Wed Nov 11 2026. No macro, syntax, notation, axiom, sorry.
-/
import Derived.Test.YtobhpejaoakpmaaGreatDoorRows
import GoSem.ClaimSeven
namespace Go.Proofs.YtobhpejaoakpmaaGreatDoor
namespace Rows

/-- THE TIED CARD OF 'bridlewaylaw09.SumGraphs'. -/
def sumGraphsCard : Claim7 := { stood := { row := sumGraphsRow, standIns := [], harness := (true, "b491b2a3a6a55ee39cc2d301559ffb3f1a29ef9a25ad19e19be97c44f12181e3"), looks := true }, kinds := [], alts := [], laidByText := true, laidKinds := [.data, .data, .data], laidTests := true, laidLooks := .later }
def SumGraphsCardSaid : Prop := Claim7.holds Tryz.pinned (.plain (OpenSpec.ofChange sumGraphsSpec)) sumGraphsCard

/-- THE TIED CARD OF 'bridlewaylaw08.LoadReads'. -/
def loadReadsCard : Claim7 := { stood := { row := loadReadsRow, standIns := [], harness := (true, "b491b2a3a6a55ee39cc2d301559ffb3f1a29ef9a25ad19e19be97c44f12181e3"), looks := true }, kinds := [], alts := [], laidByText := true, laidKinds := [.data, .data, .data, .data, .sentinel, .sentinel, .pinned], laidTests := true, laidLooks := .later }
def LoadReadsCardSaid : Prop := Claim7.holds Tryz.pinned (.plain (OpenSpec.ofChange loadReadsSpec)) loadReadsCard

/-- THE TIED CARD OF 'bridlewaylaw08.LoadPrints'. -/
def loadPrintsCard : Claim7 := { stood := { row := loadPrintsRow, standIns := [], harness := (true, "b491b2a3a6a55ee39cc2d301559ffb3f1a29ef9a25ad19e19be97c44f12181e3"), looks := true }, kinds := [], alts := [], laidByText := true, laidKinds := [.data, .data, .data, .data, .sentinel, .sentinel, .pinned], laidTests := true, laidLooks := .later }
def LoadPrintsCardSaid : Prop := Claim7.holds Tryz.pinned (.plain (OpenSpec.ofChange loadPrintsSpec)) loadPrintsCard

/-- THE TIED CARD OF 'bridlewaylaw08.LoadBack'. -/
def loadBackCard : Claim7 := { stood := { row := loadBackRow, standIns := [], harness := (true, "b491b2a3a6a55ee39cc2d301559ffb3f1a29ef9a25ad19e19be97c44f12181e3"), looks := true }, kinds := [], alts := [], laidByText := true, laidKinds := [.data, .data, .data, .data, .sentinel, .sentinel, .pinned], laidTests := true, laidLooks := .later }
def LoadBackCardSaid : Prop := Claim7.holds Tryz.pinned (.plain (OpenSpec.ofChange loadBackSpec)) loadBackCard

/-- THE TIED CARD OF 'bridlewaylaw08.LoadRight'. -/
def loadRightCard : Claim7 := { stood := { row := loadRightRow, standIns := [], harness := (true, "b491b2a3a6a55ee39cc2d301559ffb3f1a29ef9a25ad19e19be97c44f12181e3"), looks := true }, kinds := [], alts := [], laidByText := true, laidKinds := [.data, .data, .data, .data, .sentinel, .sentinel, .pinned], laidTests := true, laidLooks := .later }
def LoadRightCardSaid : Prop := Claim7.holds Tryz.pinned (.plain (OpenSpec.ofChange loadRightSpec)) loadRightCard

/-- THE TIED CARD OF 'bridlewaylaw08.LoadBlanks'. -/
def loadBlanksCard : Claim7 := { stood := { row := loadBlanksRow, standIns := [], harness := (true, "b491b2a3a6a55ee39cc2d301559ffb3f1a29ef9a25ad19e19be97c44f12181e3"), looks := true }, kinds := [], alts := [], laidByText := true, laidKinds := [.data, .data, .data, .data, .sentinel, .sentinel, .pinned], laidTests := true, laidLooks := .later }
def LoadBlanksCardSaid : Prop := Claim7.holds Tryz.pinned (.plain (OpenSpec.ofChange loadBlanksSpec)) loadBlanksCard

/-- THE TIED CARD OF 'bridlewaylaw08.LoadOrder'. -/
def loadOrderCard : Claim7 := { stood := { row := loadOrderRow, standIns := [], harness := (true, "b491b2a3a6a55ee39cc2d301559ffb3f1a29ef9a25ad19e19be97c44f12181e3"), looks := true }, kinds := [], alts := [], laidByText := true, laidKinds := [.data, .data, .data, .data, .sentinel, .sentinel, .pinned], laidTests := true, laidLooks := .later }
def LoadOrderCardSaid : Prop := Claim7.holds Tryz.pinned (.plain (OpenSpec.ofChange loadOrderSpec)) loadOrderCard

/-- THE TIED CARD OF 'bridlewaylaw08.LoadLines'. -/
def loadLinesCard : Claim7 := { stood := { row := loadLinesRow, standIns := [], harness := (true, "b491b2a3a6a55ee39cc2d301559ffb3f1a29ef9a25ad19e19be97c44f12181e3"), looks := true }, kinds := [], alts := [], laidByText := true, laidKinds := [.data, .data, .data, .data, .sentinel, .sentinel, .pinned], laidTests := true, laidLooks := .later }
def LoadLinesCardSaid : Prop := Claim7.holds Tryz.pinned (.plain (OpenSpec.ofChange loadLinesSpec)) loadLinesCard

/-- THE TIED CARD OF 'bridlewaylaw08.LoadTwice'. -/
def loadTwiceCard : Claim7 := { stood := { row := loadTwiceRow, standIns := [], harness := (true, "b491b2a3a6a55ee39cc2d301559ffb3f1a29ef9a25ad19e19be97c44f12181e3"), looks := true }, kinds := [], alts := [], laidByText := true, laidKinds := [.data, .data, .data, .data, .sentinel, .sentinel, .pinned], laidTests := true, laidLooks := .later }
def LoadTwiceCardSaid : Prop := Claim7.holds Tryz.pinned (.plain (OpenSpec.ofChange loadTwiceSpec)) loadTwiceCard

/-- THE TIED CARD OF 'bridlewaylaw09.SumSources'. -/
def sumSourcesCard : Claim7 := { stood := { row := sumSourcesRow, standIns := [], harness := (true, "b491b2a3a6a55ee39cc2d301559ffb3f1a29ef9a25ad19e19be97c44f12181e3"), looks := true }, kinds := [], alts := [], laidByText := true, laidKinds := [.data, .data, .data, .data, .sentinel, .sentinel, .pinned], laidTests := true, laidLooks := .later }
def SumSourcesCardSaid : Prop := Claim7.holds Tryz.pinned (.plain (OpenSpec.ofChange sumSourcesSpec)) sumSourcesCard

/-- THE SECOND FORM's CARD OF 'bridlewaylaw09.SumGraphs'. -/
def sumGraphsUptoCard : Claim7 := { stood := { row := sumGraphsUptoRow, standIns := [], harness := (true, "b491b2a3a6a55ee39cc2d301559ffb3f1a29ef9a25ad19e19be97c44f12181e3"), looks := true }, kinds := [], alts := [], laidByText := true, laidKinds := [.data, .data, .data], laidTests := true, laidLooks := .later }
def SumGraphsUptoCardSaid : Prop := Claim7.holds Tryz.pinned (.plain (OpenSpec.upto sumGraphsSpec)) sumGraphsUptoCard

/-- THE SECOND FORM's CARD OF 'bridlewaylaw08.LoadReads'. -/
def loadReadsUptoCard : Claim7 := { stood := { row := loadReadsUptoRow, standIns := [], harness := (true, "b491b2a3a6a55ee39cc2d301559ffb3f1a29ef9a25ad19e19be97c44f12181e3"), looks := true }, kinds := [], alts := [], laidByText := true, laidKinds := [.data, .data, .data, .data, .sentinel, .sentinel, .pinned], laidTests := true, laidLooks := .later }
def LoadReadsUptoCardSaid : Prop := Claim7.holds Tryz.pinned (.plain (OpenSpec.upto loadReadsSpec)) loadReadsUptoCard

/-- THE SECOND FORM's CARD OF 'bridlewaylaw08.LoadPrints'. -/
def loadPrintsUptoCard : Claim7 := { stood := { row := loadPrintsUptoRow, standIns := [], harness := (true, "b491b2a3a6a55ee39cc2d301559ffb3f1a29ef9a25ad19e19be97c44f12181e3"), looks := true }, kinds := [], alts := [], laidByText := true, laidKinds := [.data, .data, .data, .data, .sentinel, .sentinel, .pinned], laidTests := true, laidLooks := .later }
def LoadPrintsUptoCardSaid : Prop := Claim7.holds Tryz.pinned (.plain (OpenSpec.upto loadPrintsSpec)) loadPrintsUptoCard

/-- THE SECOND FORM's CARD OF 'bridlewaylaw08.LoadBack'. -/
def loadBackUptoCard : Claim7 := { stood := { row := loadBackUptoRow, standIns := [], harness := (true, "b491b2a3a6a55ee39cc2d301559ffb3f1a29ef9a25ad19e19be97c44f12181e3"), looks := true }, kinds := [], alts := [], laidByText := true, laidKinds := [.data, .data, .data, .data, .sentinel, .sentinel, .pinned], laidTests := true, laidLooks := .later }
def LoadBackUptoCardSaid : Prop := Claim7.holds Tryz.pinned (.plain (OpenSpec.upto loadBackSpec)) loadBackUptoCard

/-- THE SECOND FORM's CARD OF 'bridlewaylaw08.LoadRight'. -/
def loadRightUptoCard : Claim7 := { stood := { row := loadRightUptoRow, standIns := [], harness := (true, "b491b2a3a6a55ee39cc2d301559ffb3f1a29ef9a25ad19e19be97c44f12181e3"), looks := true }, kinds := [], alts := [], laidByText := true, laidKinds := [.data, .data, .data, .data, .sentinel, .sentinel, .pinned], laidTests := true, laidLooks := .later }
def LoadRightUptoCardSaid : Prop := Claim7.holds Tryz.pinned (.plain (OpenSpec.upto loadRightSpec)) loadRightUptoCard

/-- THE SECOND FORM's CARD OF 'bridlewaylaw08.LoadBlanks'. -/
def loadBlanksUptoCard : Claim7 := { stood := { row := loadBlanksUptoRow, standIns := [], harness := (true, "b491b2a3a6a55ee39cc2d301559ffb3f1a29ef9a25ad19e19be97c44f12181e3"), looks := true }, kinds := [], alts := [], laidByText := true, laidKinds := [.data, .data, .data, .data, .sentinel, .sentinel, .pinned], laidTests := true, laidLooks := .later }
def LoadBlanksUptoCardSaid : Prop := Claim7.holds Tryz.pinned (.plain (OpenSpec.upto loadBlanksSpec)) loadBlanksUptoCard

/-- THE SECOND FORM's CARD OF 'bridlewaylaw08.LoadOrder'. -/
def loadOrderUptoCard : Claim7 := { stood := { row := loadOrderUptoRow, standIns := [], harness := (true, "b491b2a3a6a55ee39cc2d301559ffb3f1a29ef9a25ad19e19be97c44f12181e3"), looks := true }, kinds := [], alts := [], laidByText := true, laidKinds := [.data, .data, .data, .data, .sentinel, .sentinel, .pinned], laidTests := true, laidLooks := .later }
def LoadOrderUptoCardSaid : Prop := Claim7.holds Tryz.pinned (.plain (OpenSpec.upto loadOrderSpec)) loadOrderUptoCard

/-- THE SECOND FORM's CARD OF 'bridlewaylaw08.LoadLines'. -/
def loadLinesUptoCard : Claim7 := { stood := { row := loadLinesUptoRow, standIns := [], harness := (true, "b491b2a3a6a55ee39cc2d301559ffb3f1a29ef9a25ad19e19be97c44f12181e3"), looks := true }, kinds := [], alts := [], laidByText := true, laidKinds := [.data, .data, .data, .data, .sentinel, .sentinel, .pinned], laidTests := true, laidLooks := .later }
def LoadLinesUptoCardSaid : Prop := Claim7.holds Tryz.pinned (.plain (OpenSpec.upto loadLinesSpec)) loadLinesUptoCard

/-- THE SECOND FORM's CARD OF 'bridlewaylaw08.LoadTwice'. -/
def loadTwiceUptoCard : Claim7 := { stood := { row := loadTwiceUptoRow, standIns := [], harness := (true, "b491b2a3a6a55ee39cc2d301559ffb3f1a29ef9a25ad19e19be97c44f12181e3"), looks := true }, kinds := [], alts := [], laidByText := true, laidKinds := [.data, .data, .data, .data, .sentinel, .sentinel, .pinned], laidTests := true, laidLooks := .later }
def LoadTwiceUptoCardSaid : Prop := Claim7.holds Tryz.pinned (.plain (OpenSpec.upto loadTwiceSpec)) loadTwiceUptoCard

/-- THE SECOND FORM's CARD OF 'bridlewaylaw09.SumSources'. -/
def sumSourcesUptoCard : Claim7 := { stood := { row := sumSourcesUptoRow, standIns := [], harness := (true, "b491b2a3a6a55ee39cc2d301559ffb3f1a29ef9a25ad19e19be97c44f12181e3"), looks := true }, kinds := [], alts := [], laidByText := true, laidKinds := [.data, .data, .data, .data, .sentinel, .sentinel, .pinned], laidTests := true, laidLooks := .later }
def SumSourcesUptoCardSaid : Prop := Claim7.holds Tryz.pinned (.plain (OpenSpec.upto sumSourcesSpec)) sumSourcesUptoCard
end Rows
end Go.Proofs.YtobhpejaoakpmaaGreatDoor
