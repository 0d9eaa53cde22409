/-
  DERIVED. GIVEN WITH THE SEED: THE CARDS: each row of YtjmlknjbhbfneaaGreatDoorRows.lean that lists a variable, with what it lists TIED to the program's text (the seventh form; the later family's looks); each row that meets fmt, with fmt's text TOLD by the authors' own Lean function (tested against real Go, not proved from fmt's source: count such statements apart). THE CARD IS WHAT COUNTS. Prove the row's statement (the work); the ties are given (YtjmlknjbhbfneaaGreatDoorTie.lean); close each card by the builder's one call (the guide's Derived/Test/ToyasCard.lean, 'card_holds'). Laid BY PROGRAM, IN A SANDBOX (cutbox-door.mjs). By AI agents, Wed Nov 11 2026. No macro, syntax, notation, axiom, sorry.
-/
import Derived.Test.YtjmlknjbhbfneaaGreatDoorRows
import GoSem.ClaimSeven
namespace Go.Proofs.YtjmlknjbhbfneaaGreatDoor
namespace Rows

/-- THE TIED CARD OF 'bridlewaylaw08.LoadReads'. -/
def loadReadsCard : Claim7 := { stood := { row := loadReadsRow, standIns := [], harness := (true, "9e35a6defae1476fe977e484d3b0d318c5253838a41e78032a297c8505784686"), looks := true }, kinds := [], alts := [], laidByText := true, laidKinds := [.data, .data, .data, .data, .sentinel, .sentinel, .pinned], laidTests := true, laidLooks := .later }
def LoadReadsCardSaid : Prop := Claim7.holds Tryz.pinned (.plain (OpenSpec.ofChange loadReadsSpec)) loadReadsCard

/-- THE TIED CARD OF 'bridlewaylaw08.LoadRight'. -/
def loadRightCard : Claim7 := { stood := { row := loadRightRow, standIns := [], harness := (true, "9e35a6defae1476fe977e484d3b0d318c5253838a41e78032a297c8505784686"), looks := true }, kinds := [], alts := [], laidByText := true, laidKinds := [.data, .data, .data, .data, .sentinel, .sentinel, .pinned], laidTests := true, laidLooks := .later }
def LoadRightCardSaid : Prop := Claim7.holds Tryz.pinned (.plain (OpenSpec.ofChange loadRightSpec)) loadRightCard

/-- THE TIED CARD OF 'bridlewaylaw08.LoadBlanks'. -/
def loadBlanksCard : Claim7 := { stood := { row := loadBlanksRow, standIns := [], harness := (true, "9e35a6defae1476fe977e484d3b0d318c5253838a41e78032a297c8505784686"), looks := true }, kinds := [], alts := [], laidByText := true, laidKinds := [.data, .data, .data, .data, .sentinel, .sentinel, .pinned], laidTests := true, laidLooks := .later }
def LoadBlanksCardSaid : Prop := Claim7.holds Tryz.pinned (.plain (OpenSpec.ofChange loadBlanksSpec)) loadBlanksCard

/-- THE TIED CARD OF 'bridlewaylaw08.LoadOrder'. -/
def loadOrderCard : Claim7 := { stood := { row := loadOrderRow, standIns := [], harness := (true, "9e35a6defae1476fe977e484d3b0d318c5253838a41e78032a297c8505784686"), looks := true }, kinds := [], alts := [], laidByText := true, laidKinds := [.data, .data, .data, .data, .sentinel, .sentinel, .pinned], laidTests := true, laidLooks := .later }
def LoadOrderCardSaid : Prop := Claim7.holds Tryz.pinned (.plain (OpenSpec.ofChange loadOrderSpec)) loadOrderCard

/-- THE SECOND FORM's CARD OF 'bridlewaylaw08.LoadReads'. -/
def loadReadsUptoCard : Claim7 := { stood := { row := loadReadsUptoRow, standIns := [], harness := (true, "9e35a6defae1476fe977e484d3b0d318c5253838a41e78032a297c8505784686"), looks := true }, kinds := [], alts := [], laidByText := true, laidKinds := [.data, .data, .data, .data, .sentinel, .sentinel, .pinned], laidTests := true, laidLooks := .later }
def LoadReadsUptoCardSaid : Prop := Claim7.holds Tryz.pinned (.plain (OpenSpec.upto loadReadsSpec)) loadReadsUptoCard

/-- THE SECOND FORM's CARD OF 'bridlewaylaw08.LoadRight'. -/
def loadRightUptoCard : Claim7 := { stood := { row := loadRightUptoRow, standIns := [], harness := (true, "9e35a6defae1476fe977e484d3b0d318c5253838a41e78032a297c8505784686"), looks := true }, kinds := [], alts := [], laidByText := true, laidKinds := [.data, .data, .data, .data, .sentinel, .sentinel, .pinned], laidTests := true, laidLooks := .later }
def LoadRightUptoCardSaid : Prop := Claim7.holds Tryz.pinned (.plain (OpenSpec.upto loadRightSpec)) loadRightUptoCard

/-- THE SECOND FORM's CARD OF 'bridlewaylaw08.LoadBlanks'. -/
def loadBlanksUptoCard : Claim7 := { stood := { row := loadBlanksUptoRow, standIns := [], harness := (true, "9e35a6defae1476fe977e484d3b0d318c5253838a41e78032a297c8505784686"), looks := true }, kinds := [], alts := [], laidByText := true, laidKinds := [.data, .data, .data, .data, .sentinel, .sentinel, .pinned], laidTests := true, laidLooks := .later }
def LoadBlanksUptoCardSaid : Prop := Claim7.holds Tryz.pinned (.plain (OpenSpec.upto loadBlanksSpec)) loadBlanksUptoCard

/-- THE SECOND FORM's CARD OF 'bridlewaylaw08.LoadOrder'. -/
def loadOrderUptoCard : Claim7 := { stood := { row := loadOrderUptoRow, standIns := [], harness := (true, "9e35a6defae1476fe977e484d3b0d318c5253838a41e78032a297c8505784686"), looks := true }, kinds := [], alts := [], laidByText := true, laidKinds := [.data, .data, .data, .data, .sentinel, .sentinel, .pinned], laidTests := true, laidLooks := .later }
def LoadOrderUptoCardSaid : Prop := Claim7.holds Tryz.pinned (.plain (OpenSpec.upto loadOrderSpec)) loadOrderUptoCard
end Rows
end Go.Proofs.YtjmlknjbhbfneaaGreatDoor
