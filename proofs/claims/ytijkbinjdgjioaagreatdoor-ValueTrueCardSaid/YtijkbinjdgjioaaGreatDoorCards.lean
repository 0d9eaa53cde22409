/-
  DERIVED. GIVEN WITH THE SEED: THE CARDS: each row of YtijkbinjdgjioaaGreatDoorRows.lean that lists a variable, with what it lists TIED to the program's text (the seventh form; the later family's looks); each row that meets fmt, with fmt's text TOLD by the authors' own Lean function (tested against real Go, not proved from fmt's source: count such statements apart). THE CARD IS WHAT COUNTS. Prove the row's statement (the work); the ties are given (YtijkbinjdgjioaaGreatDoorTie.lean); close each card by the builder's one call (the guide's Derived/Test/ToyasCard.lean, 'card_holds'). Laid BY PROGRAM, IN A SANDBOX (cutbox-door.mjs). By AI agents, Wed Nov 11 2026. No macro, syntax, notation, axiom, sorry.
-/
import Derived.Test.YtijkbinjdgjioaaGreatDoorRows
import GoSem.ClaimSeven
namespace Go.Proofs.YtijkbinjdgjioaaGreatDoor
namespace Rows

/-- THE TIED CARD OF 'bridlewaylaw02.ValueTests'. -/
def valueTestsCard : Claim7 := { stood := { row := valueTestsRow, standIns := [], harness := (true, "d71980e5cc58bd77f9629ebc95594cc1235e9650d69b108405a4a618691126a5"), looks := true }, kinds := [], alts := [], laidByText := true, laidKinds := [.data, .data, .data, .data, .sentinel, .sentinel, .pinned], laidTests := true, laidLooks := .later }
def ValueTestsCardSaid : Prop := Claim7.holds Tryz.pinned (.plain (OpenSpec.ofChange valueTestsSpec)) valueTestsCard

/-- THE TIED CARD OF 'bridlewaylaw02.ValueReckons'. -/
def valueReckonsCard : Claim7 := { stood := { row := valueReckonsRow, standIns := [], harness := (true, "d71980e5cc58bd77f9629ebc95594cc1235e9650d69b108405a4a618691126a5"), looks := true }, kinds := [], alts := [], laidByText := true, laidKinds := [.data, .data, .data, .data, .sentinel, .sentinel, .pinned], laidTests := true, laidLooks := .later }
def ValueReckonsCardSaid : Prop := Claim7.holds Tryz.pinned (.plain (OpenSpec.ofChange valueReckonsSpec)) valueReckonsCard

/-- THE TIED CARD OF 'bridlewaylaw02.ValueTexts'. -/
def valueTextsCard : Claim7 := { stood := { row := valueTextsRow, standIns := [], harness := (true, "d71980e5cc58bd77f9629ebc95594cc1235e9650d69b108405a4a618691126a5"), looks := true }, kinds := [], alts := [], laidByText := true, laidKinds := [.data, .data, .data, .data, .sentinel, .sentinel, .pinned], laidTests := true, laidLooks := .later }
def ValueTextsCardSaid : Prop := Claim7.holds Tryz.pinned (.plain (OpenSpec.ofChange valueTextsSpec)) valueTextsCard

/-- THE TIED CARD OF 'bridlewaylaw02.ValueTrue'. -/
def valueTrueCard : Claim7 := { stood := { row := valueTrueRow, standIns := [], harness := (true, "d71980e5cc58bd77f9629ebc95594cc1235e9650d69b108405a4a618691126a5"), looks := true }, kinds := [], alts := [], laidByText := true, laidKinds := [.data, .data, .data, .data, .sentinel, .sentinel, .pinned], laidTests := true, laidLooks := .later }
def ValueTrueCardSaid : Prop := Claim7.holds Tryz.pinned (.plain (OpenSpec.ofChange valueTrueSpec)) valueTrueCard

/-- THE TIED CARD OF 'bridlewaylaw02.ValueNulls'. -/
def valueNullsCard : Claim7 := { stood := { row := valueNullsRow, standIns := [], harness := (true, "d71980e5cc58bd77f9629ebc95594cc1235e9650d69b108405a4a618691126a5"), looks := true }, kinds := [], alts := [], laidByText := true, laidKinds := [.data, .data, .data, .data, .sentinel, .sentinel, .pinned], laidTests := true, laidLooks := .later }
def ValueNullsCardSaid : Prop := Claim7.holds Tryz.pinned (.plain (OpenSpec.ofChange valueNullsSpec)) valueNullsCard

/-- THE TIED CARD OF 'bridlewaylaw02.ValueBack'. -/
def valueBackCard : Claim7 := { stood := { row := valueBackRow, standIns := [], harness := (true, "d71980e5cc58bd77f9629ebc95594cc1235e9650d69b108405a4a618691126a5"), looks := true }, kinds := [], alts := [], laidByText := true, laidKinds := [.data, .data, .data, .data, .sentinel, .sentinel, .pinned], laidTests := true, laidLooks := .later }
def ValueBackCardSaid : Prop := Claim7.holds Tryz.pinned (.plain (OpenSpec.ofChange valueBackSpec)) valueBackCard

/-- THE TIED CARD OF 'bridlewaylaw02.ValueTurned'. -/
def valueTurnedCard : Claim7 := { stood := { row := valueTurnedRow, standIns := [], harness := (true, "d71980e5cc58bd77f9629ebc95594cc1235e9650d69b108405a4a618691126a5"), looks := true }, kinds := [], alts := [], laidByText := true, laidKinds := [.data, .data, .data, .data, .sentinel, .sentinel, .pinned], laidTests := true, laidLooks := .later }
def ValueTurnedCardSaid : Prop := Claim7.holds Tryz.pinned (.plain (OpenSpec.ofChange valueTurnedSpec)) valueTurnedCard

/-- THE TIED CARD OF 'bridlewaylaw02.ValueRead'. -/
def valueReadCard : Claim7 := { stood := { row := valueReadRow, standIns := [], harness := (true, "d71980e5cc58bd77f9629ebc95594cc1235e9650d69b108405a4a618691126a5"), looks := true }, kinds := [], alts := [], laidByText := true, laidKinds := [.data, .data, .data, .data, .sentinel, .sentinel, .pinned], laidTests := true, laidLooks := .later }
def ValueReadCardSaid : Prop := Claim7.holds Tryz.pinned (.plain (OpenSpec.ofChange valueReadSpec)) valueReadCard

/-- THE TIED CARD OF 'bridlewaylaw02.ValueTells'. -/
def valueTellsCard : Claim7 := { stood := { row := valueTellsRow, standIns := [], harness := (true, "d71980e5cc58bd77f9629ebc95594cc1235e9650d69b108405a4a618691126a5"), looks := true }, kinds := [], alts := [], laidByText := true, laidKinds := [.data, .data, .data, .data, .sentinel, .sentinel, .pinned], laidTests := true, laidLooks := .later }
def ValueTellsCardSaid : Prop := Claim7.holds Tryz.pinned (.plain (OpenSpec.ofChange valueTellsSpec)) valueTellsCard

/-- THE TIED CARD OF 'bridlewaylaw02.ValueOrder'. -/
def valueOrderCard : Claim7 := { stood := { row := valueOrderRow, standIns := [], harness := (true, "d71980e5cc58bd77f9629ebc95594cc1235e9650d69b108405a4a618691126a5"), looks := true }, kinds := [], alts := [], laidByText := true, laidKinds := [.data, .data, .data, .data, .sentinel, .sentinel, .pinned], laidTests := true, laidLooks := .later }
def ValueOrderCardSaid : Prop := Claim7.holds Tryz.pinned (.plain (OpenSpec.ofChange valueOrderSpec)) valueOrderCard

/-- THE TIED CARD OF 'bridlewaylaw02.ValueEqual'. -/
def valueEqualCard : Claim7 := { stood := { row := valueEqualRow, standIns := [], harness := (true, "d71980e5cc58bd77f9629ebc95594cc1235e9650d69b108405a4a618691126a5"), looks := true }, kinds := [], alts := [], laidByText := true, laidKinds := [.data, .data, .data, .data, .sentinel, .sentinel, .pinned], laidTests := true, laidLooks := .later }
def ValueEqualCardSaid : Prop := Claim7.holds Tryz.pinned (.plain (OpenSpec.ofChange valueEqualSpec)) valueEqualCard

/-- THE SECOND FORM's CARD OF 'bridlewaylaw02.ValueTests'. -/
def valueTestsUptoCard : Claim7 := { stood := { row := valueTestsUptoRow, standIns := [], harness := (true, "d71980e5cc58bd77f9629ebc95594cc1235e9650d69b108405a4a618691126a5"), looks := true }, kinds := [], alts := [], laidByText := true, laidKinds := [.data, .data, .data, .data, .sentinel, .sentinel, .pinned], laidTests := true, laidLooks := .later }
def ValueTestsUptoCardSaid : Prop := Claim7.holds Tryz.pinned (.plain (OpenSpec.upto valueTestsSpec)) valueTestsUptoCard

/-- THE SECOND FORM's CARD OF 'bridlewaylaw02.ValueReckons'. -/
def valueReckonsUptoCard : Claim7 := { stood := { row := valueReckonsUptoRow, standIns := [], harness := (true, "d71980e5cc58bd77f9629ebc95594cc1235e9650d69b108405a4a618691126a5"), looks := true }, kinds := [], alts := [], laidByText := true, laidKinds := [.data, .data, .data, .data, .sentinel, .sentinel, .pinned], laidTests := true, laidLooks := .later }
def ValueReckonsUptoCardSaid : Prop := Claim7.holds Tryz.pinned (.plain (OpenSpec.upto valueReckonsSpec)) valueReckonsUptoCard

/-- THE SECOND FORM's CARD OF 'bridlewaylaw02.ValueTexts'. -/
def valueTextsUptoCard : Claim7 := { stood := { row := valueTextsUptoRow, standIns := [], harness := (true, "d71980e5cc58bd77f9629ebc95594cc1235e9650d69b108405a4a618691126a5"), looks := true }, kinds := [], alts := [], laidByText := true, laidKinds := [.data, .data, .data, .data, .sentinel, .sentinel, .pinned], laidTests := true, laidLooks := .later }
def ValueTextsUptoCardSaid : Prop := Claim7.holds Tryz.pinned (.plain (OpenSpec.upto valueTextsSpec)) valueTextsUptoCard

/-- THE SECOND FORM's CARD OF 'bridlewaylaw02.ValueTrue'. -/
def valueTrueUptoCard : Claim7 := { stood := { row := valueTrueUptoRow, standIns := [], harness := (true, "d71980e5cc58bd77f9629ebc95594cc1235e9650d69b108405a4a618691126a5"), looks := true }, kinds := [], alts := [], laidByText := true, laidKinds := [.data, .data, .data, .data, .sentinel, .sentinel, .pinned], laidTests := true, laidLooks := .later }
def ValueTrueUptoCardSaid : Prop := Claim7.holds Tryz.pinned (.plain (OpenSpec.upto valueTrueSpec)) valueTrueUptoCard

/-- THE SECOND FORM's CARD OF 'bridlewaylaw02.ValueNulls'. -/
def valueNullsUptoCard : Claim7 := { stood := { row := valueNullsUptoRow, standIns := [], harness := (true, "d71980e5cc58bd77f9629ebc95594cc1235e9650d69b108405a4a618691126a5"), looks := true }, kinds := [], alts := [], laidByText := true, laidKinds := [.data, .data, .data, .data, .sentinel, .sentinel, .pinned], laidTests := true, laidLooks := .later }
def ValueNullsUptoCardSaid : Prop := Claim7.holds Tryz.pinned (.plain (OpenSpec.upto valueNullsSpec)) valueNullsUptoCard

/-- THE SECOND FORM's CARD OF 'bridlewaylaw02.ValueBack'. -/
def valueBackUptoCard : Claim7 := { stood := { row := valueBackUptoRow, standIns := [], harness := (true, "d71980e5cc58bd77f9629ebc95594cc1235e9650d69b108405a4a618691126a5"), looks := true }, kinds := [], alts := [], laidByText := true, laidKinds := [.data, .data, .data, .data, .sentinel, .sentinel, .pinned], laidTests := true, laidLooks := .later }
def ValueBackUptoCardSaid : Prop := Claim7.holds Tryz.pinned (.plain (OpenSpec.upto valueBackSpec)) valueBackUptoCard

/-- THE SECOND FORM's CARD OF 'bridlewaylaw02.ValueTurned'. -/
def valueTurnedUptoCard : Claim7 := { stood := { row := valueTurnedUptoRow, standIns := [], harness := (true, "d71980e5cc58bd77f9629ebc95594cc1235e9650d69b108405a4a618691126a5"), looks := true }, kinds := [], alts := [], laidByText := true, laidKinds := [.data, .data, .data, .data, .sentinel, .sentinel, .pinned], laidTests := true, laidLooks := .later }
def ValueTurnedUptoCardSaid : Prop := Claim7.holds Tryz.pinned (.plain (OpenSpec.upto valueTurnedSpec)) valueTurnedUptoCard

/-- THE SECOND FORM's CARD OF 'bridlewaylaw02.ValueRead'. -/
def valueReadUptoCard : Claim7 := { stood := { row := valueReadUptoRow, standIns := [], harness := (true, "d71980e5cc58bd77f9629ebc95594cc1235e9650d69b108405a4a618691126a5"), looks := true }, kinds := [], alts := [], laidByText := true, laidKinds := [.data, .data, .data, .data, .sentinel, .sentinel, .pinned], laidTests := true, laidLooks := .later }
def ValueReadUptoCardSaid : Prop := Claim7.holds Tryz.pinned (.plain (OpenSpec.upto valueReadSpec)) valueReadUptoCard

/-- THE SECOND FORM's CARD OF 'bridlewaylaw02.ValueTells'. -/
def valueTellsUptoCard : Claim7 := { stood := { row := valueTellsUptoRow, standIns := [], harness := (true, "d71980e5cc58bd77f9629ebc95594cc1235e9650d69b108405a4a618691126a5"), looks := true }, kinds := [], alts := [], laidByText := true, laidKinds := [.data, .data, .data, .data, .sentinel, .sentinel, .pinned], laidTests := true, laidLooks := .later }
def ValueTellsUptoCardSaid : Prop := Claim7.holds Tryz.pinned (.plain (OpenSpec.upto valueTellsSpec)) valueTellsUptoCard

/-- THE SECOND FORM's CARD OF 'bridlewaylaw02.ValueOrder'. -/
def valueOrderUptoCard : Claim7 := { stood := { row := valueOrderUptoRow, standIns := [], harness := (true, "d71980e5cc58bd77f9629ebc95594cc1235e9650d69b108405a4a618691126a5"), looks := true }, kinds := [], alts := [], laidByText := true, laidKinds := [.data, .data, .data, .data, .sentinel, .sentinel, .pinned], laidTests := true, laidLooks := .later }
def ValueOrderUptoCardSaid : Prop := Claim7.holds Tryz.pinned (.plain (OpenSpec.upto valueOrderSpec)) valueOrderUptoCard

/-- THE SECOND FORM's CARD OF 'bridlewaylaw02.ValueEqual'. -/
def valueEqualUptoCard : Claim7 := { stood := { row := valueEqualUptoRow, standIns := [], harness := (true, "d71980e5cc58bd77f9629ebc95594cc1235e9650d69b108405a4a618691126a5"), looks := true }, kinds := [], alts := [], laidByText := true, laidKinds := [.data, .data, .data, .data, .sentinel, .sentinel, .pinned], laidTests := true, laidLooks := .later }
def ValueEqualUptoCardSaid : Prop := Claim7.holds Tryz.pinned (.plain (OpenSpec.upto valueEqualSpec)) valueEqualUptoCard
end Rows
end Go.Proofs.YtijkbinjdgjioaaGreatDoor
