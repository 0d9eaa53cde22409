/-
  No cell of these rows narrows 'for every input' (looked for: loops, veiled, ifaces, maps, wideKeys, modest, calm, conditions, laid).
  DERIVED. THE GIVEN ROWS OF THIS SEAT. 9 by the template 'for every input the law returns true; each argument reads behind the call as it read before'; 0 by the template 'total and deterministic' (their statements: YtnjjieeepfcloaaTotals.lean).
  GIVEN WITH THE SEED: the statements are not yours to turn. If you find one false, say at which input.
  Laid BY PROGRAM, IN A SANDBOX (cutbox-rows.mjs): the forced cells as the released guide's own fill.sh prints them over the translation 0b6719914a78753f… (all of the seat's roots in one cut). By AI agents, Wed Nov 11 2026. No macro, syntax, notation, axiom, sorry.
-/
import Derived.Test.YtnjjieeepfcloaaChecked
import GoSem.Claim
import GoSem.ClaimJoined
import GoSem.ClaimMapViews
import Derived.JoinedTies
import Derived.KernelRfl
namespace Go.Proofs.Ytnjjieeepfcloaa
/- THE CELL 'sum', in the pinned program and in every row, IS THE sha256 OF THE DUMP (.gsa) THAT YtnjjieeepfcloaaProg.lean LOADS. Nothing in Lean hashes anything: it is a label: what it is worth is what the hold of that sum in a sandbox is worth. -/
noncomputable def Try.pinned : Pinned := { name := "ytnjjieeepfcloaa", sum := "0b6719914a78753fa91903396e7536b45e4efa0c2b383db78c3f7ca40be17bd6", checked := Try.checked }
namespace Rows
def none {H : Type} : Left H := { results := [], args := [] }

/-- 'bridlewaylaw09.SumTells': WHATEVER THE INPUT: true; the input reads as it did. -/
def sumTellsSpec : ChangeSpec := { name := "sumTells", fn := fun _ => fun
  | [d1, d2] => { results := [.lit (.bool true)], args := [d1, d2] }
  | _ => none }
def sumTellsRow : OpenClaim := { program := "ytnjjieeepfcloaa", sum := "0b6719914a78753fa91903396e7536b45e4efa0c2b383db78c3f7ca40be17bd6", func := "bridleway/bridlewaylaw09.SumTells", spec := "sumTells", unfollowed := true, recurses := true, apart := false }
def SumTellsSaid : Prop := sumTellsRow.holds Try.pinned (OpenSpec.ofChange sumTellsSpec)

/-- ITS FALSE NEIGHBOUR: 'it returns false'. Refute it at one input. -/
def sumTellsWrong : ChangeSpec := { name := "sumTells", fn := fun _ => fun
  | [d1, d2] => { results := [.lit (.bool false)], args := [d1, d2] }
  | _ => none }
def SumTellsWrongFalsely : Prop := sumTellsRow.holds Try.pinned (OpenSpec.ofChange sumTellsWrong)

/-- 'bridlewaylaw09.SumPieces': WHATEVER THE INPUT: true; the input reads as it did. -/
def sumPiecesSpec : ChangeSpec := { name := "sumPieces", fn := fun _ => fun
  | [d] => { results := [.lit (.bool true)], args := [d] }
  | _ => none }
def sumPiecesRow : OpenClaim := { program := "ytnjjieeepfcloaa", sum := "0b6719914a78753fa91903396e7536b45e4efa0c2b383db78c3f7ca40be17bd6", func := "bridleway/bridlewaylaw09.SumPieces", spec := "sumPieces", unfollowed := true, recurses := true, apart := false }
def SumPiecesSaid : Prop := sumPiecesRow.holds Try.pinned (OpenSpec.ofChange sumPiecesSpec)

/-- ITS FALSE NEIGHBOUR: 'it returns false'. Refute it at one input. -/
def sumPiecesWrong : ChangeSpec := { name := "sumPieces", fn := fun _ => fun
  | [d] => { results := [.lit (.bool false)], args := [d] }
  | _ => none }
def SumPiecesWrongFalsely : Prop := sumPiecesRow.holds Try.pinned (OpenSpec.ofChange sumPiecesWrong)

/-- 'bridlewaylaw09.SumApart': WHATEVER THE INPUT: true; the input reads as it did. -/
def sumApartSpec : ChangeSpec := { name := "sumApart", fn := fun _ => fun
  | [d1, d2, d3, d4, d5] => { results := [.lit (.bool true)], args := [d1, d2, d3, d4, d5] }
  | _ => none }
def sumApartRow : OpenClaim := { program := "ytnjjieeepfcloaa", sum := "0b6719914a78753fa91903396e7536b45e4efa0c2b383db78c3f7ca40be17bd6", func := "bridleway/bridlewaylaw09.SumApart", spec := "sumApart", unfollowed := true, recurses := true, apart := false }
def SumApartSaid : Prop := sumApartRow.holds Try.pinned (OpenSpec.ofChange sumApartSpec)

/-- ITS FALSE NEIGHBOUR: 'it returns false'. Refute it at one input. -/
def sumApartWrong : ChangeSpec := { name := "sumApart", fn := fun _ => fun
  | [d1, d2, d3, d4, d5] => { results := [.lit (.bool false)], args := [d1, d2, d3, d4, d5] }
  | _ => none }
def SumApartWrongFalsely : Prop := sumApartRow.holds Try.pinned (OpenSpec.ofChange sumApartWrong)

/-- 'bridlewaylaw04.LogicOrder': WHATEVER THE INPUT: true; the input reads as it did. -/
def logicOrderSpec : ChangeSpec := { name := "logicOrder", fn := fun _ => fun
  | [d1, d2] => { results := [.lit (.bool true)], args := [d1, d2] }
  | _ => none }
def logicOrderRow : OpenClaim := { program := "ytnjjieeepfcloaa", sum := "0b6719914a78753fa91903396e7536b45e4efa0c2b383db78c3f7ca40be17bd6", func := "bridleway/bridlewaylaw04.LogicOrder", spec := "logicOrder", apart := false }
def LogicOrderSaid : Prop := logicOrderRow.holds Try.pinned (OpenSpec.ofChange logicOrderSpec)

/-- ITS FALSE NEIGHBOUR: 'it returns false'. Refute it at one input. -/
def logicOrderWrong : ChangeSpec := { name := "logicOrder", fn := fun _ => fun
  | [d1, d2] => { results := [.lit (.bool false)], args := [d1, d2] }
  | _ => none }
def LogicOrderWrongFalsely : Prop := logicOrderRow.holds Try.pinned (OpenSpec.ofChange logicOrderWrong)

/-- 'bridlewaylaw04.LogicNeutral': WHATEVER THE INPUT: true; the input reads as it did. -/
def logicNeutralSpec : ChangeSpec := { name := "logicNeutral", fn := fun _ => fun
  | [d1, d2] => { results := [.lit (.bool true)], args := [d1, d2] }
  | _ => none }
def logicNeutralRow : OpenClaim := { program := "ytnjjieeepfcloaa", sum := "0b6719914a78753fa91903396e7536b45e4efa0c2b383db78c3f7ca40be17bd6", func := "bridleway/bridlewaylaw04.LogicNeutral", spec := "logicNeutral", unfollowed := true, recurses := true, apart := false }
def LogicNeutralSaid : Prop := logicNeutralRow.holds Try.pinned (OpenSpec.ofChange logicNeutralSpec)

/-- ITS FALSE NEIGHBOUR: 'it returns false'. Refute it at one input. -/
def logicNeutralWrong : ChangeSpec := { name := "logicNeutral", fn := fun _ => fun
  | [d1, d2] => { results := [.lit (.bool false)], args := [d1, d2] }
  | _ => none }
def LogicNeutralWrongFalsely : Prop := logicNeutralRow.holds Try.pinned (OpenSpec.ofChange logicNeutralWrong)

/-- 'bridlewaylaw04.LogicTwice': WHATEVER THE INPUT: true; the input reads as it did. -/
def logicTwiceSpec : ChangeSpec := { name := "logicTwice", fn := fun _ => fun
  | [d1, d2] => { results := [.lit (.bool true)], args := [d1, d2] }
  | _ => none }
def logicTwiceRow : OpenClaim := { program := "ytnjjieeepfcloaa", sum := "0b6719914a78753fa91903396e7536b45e4efa0c2b383db78c3f7ca40be17bd6", func := "bridleway/bridlewaylaw04.LogicTwice", spec := "logicTwice", apart := false }
def LogicTwiceSaid : Prop := logicTwiceRow.holds Try.pinned (OpenSpec.ofChange logicTwiceSpec)

/-- ITS FALSE NEIGHBOUR: 'it returns false'. Refute it at one input. -/
def logicTwiceWrong : ChangeSpec := { name := "logicTwice", fn := fun _ => fun
  | [d1, d2] => { results := [.lit (.bool false)], args := [d1, d2] }
  | _ => none }
def LogicTwiceWrongFalsely : Prop := logicTwiceRow.holds Try.pinned (OpenSpec.ofChange logicTwiceWrong)

/-- 'bridlewaylaw04.LogicTurns': WHATEVER THE INPUT: true; the input reads as it did. -/
def logicTurnsSpec : ChangeSpec := { name := "logicTurns", fn := fun _ => fun
  | [d] => { results := [.lit (.bool true)], args := [d] }
  | _ => none }
def logicTurnsRow : OpenClaim := { program := "ytnjjieeepfcloaa", sum := "0b6719914a78753fa91903396e7536b45e4efa0c2b383db78c3f7ca40be17bd6", func := "bridleway/bridlewaylaw04.LogicTurns", spec := "logicTurns", apart := false }
def LogicTurnsSaid : Prop := logicTurnsRow.holds Try.pinned (OpenSpec.ofChange logicTurnsSpec)

/-- ITS FALSE NEIGHBOUR: 'it returns false'. Refute it at one input. -/
def logicTurnsWrong : ChangeSpec := { name := "logicTurns", fn := fun _ => fun
  | [d] => { results := [.lit (.bool false)], args := [d] }
  | _ => none }
def LogicTurnsWrongFalsely : Prop := logicTurnsRow.holds Try.pinned (OpenSpec.ofChange logicTurnsWrong)

/-- 'bridlewaylaw04.LogicBack': WHATEVER THE INPUT: true; the input reads as it did. -/
def logicBackSpec : ChangeSpec := { name := "logicBack", fn := fun _ => fun
  | [d1, d2] => { results := [.lit (.bool true)], args := [d1, d2] }
  | _ => none }
def logicBackRow : OpenClaim := { program := "ytnjjieeepfcloaa", sum := "0b6719914a78753fa91903396e7536b45e4efa0c2b383db78c3f7ca40be17bd6", func := "bridleway/bridlewaylaw04.LogicBack", spec := "logicBack", apart := false }
def LogicBackSaid : Prop := logicBackRow.holds Try.pinned (OpenSpec.ofChange logicBackSpec)

/-- ITS FALSE NEIGHBOUR: 'it returns false'. Refute it at one input. -/
def logicBackWrong : ChangeSpec := { name := "logicBack", fn := fun _ => fun
  | [d1, d2] => { results := [.lit (.bool false)], args := [d1, d2] }
  | _ => none }
def LogicBackWrongFalsely : Prop := logicBackRow.holds Try.pinned (OpenSpec.ofChange logicBackWrong)

/-- 'bridlewaylaw04.LogicTells': WHATEVER THE INPUT: true; the input reads as it did. -/
def logicTellsSpec : ChangeSpec := { name := "logicTells", fn := fun _ => fun
  | [d1, d2, d3] => { results := [.lit (.bool true)], args := [d1, d2, d3] }
  | _ => none }
def logicTellsRow : OpenClaim := { program := "ytnjjieeepfcloaa", sum := "0b6719914a78753fa91903396e7536b45e4efa0c2b383db78c3f7ca40be17bd6", func := "bridleway/bridlewaylaw04.LogicTells", spec := "logicTells", apart := false }
def LogicTellsSaid : Prop := logicTellsRow.holds Try.pinned (OpenSpec.ofChange logicTellsSpec)

/-- ITS FALSE NEIGHBOUR: 'it returns false'. Refute it at one input. -/
def logicTellsWrong : ChangeSpec := { name := "logicTells", fn := fun _ => fun
  | [d1, d2, d3] => { results := [.lit (.bool false)], args := [d1, d2, d3] }
  | _ => none }
def LogicTellsWrongFalsely : Prop := logicTellsRow.holds Try.pinned (OpenSpec.ofChange logicTellsWrong)

/- THE SECOND FORM. 'bulk': how many values and letters a reading holds, each counted each time it is reached (what is shared counts as often as it is met; a slice's spare places count too). A statement '..UptoSaid' is the law's where the arguments, and the package variables that the reading takes, are together of bulk at most 1048576: NARROWER than '..Said'. Prove '..Said' where nothing that the law and all that it calls make is longer than what came in: it says more and counts as full. Else prove '..UptoSaid'. A law counts once. -/
mutual
def uptoBulk {H : Type} : DataW H → Nat
  | .lit (.string bytes) => bytes.length + 1
  | .lit _ => 1
  | .nil => 1
  | .ptr d => uptoBulk d + 1
  | .slice elems spare => uptoBulkAll elems + uptoBulkAll spare + 1
  | .agg parts => uptoBulkAll parts + 1
  | .iface _ d => uptoBulk d + 1
  | .map entries => uptoBulkEntries entries + 1
  | .held _ => 1
def uptoBulkAll {H : Type} : List (DataW H) → Nat
  | [] => 0
  | d :: r => uptoBulk d + uptoBulkAll r
def uptoBulkEntries {H : Type} : List (Lit × DataW H) → Nat
  | [] => 0
  | x :: r => uptoBulkEntry x + uptoBulkEntries r
def uptoBulkEntry {H : Type} : Lit × DataW H → Nat
  | (.string bytes, d) => bytes.length + uptoBulk d + 1
  | (_, d) => uptoBulk d + 1
 end
def uptoSmall : (H : Type) → List (DataW H) → Bool := fun _ ds => decide (uptoBulkAll ds ≤ 1048576)
def OpenSpec.upto (s : _root_.Go.ChangeSpec) : _root_.Go.OpenSpec := { _root_.Go.OpenSpec.ofChange s with cond := some uptoSmall }

/-- 'bridlewaylaw09.SumTells', WHERE WHAT IT READS IS OF BULK AT MOST 1048576: true; the input reads as it did. -/
def sumTellsUptoRow : OpenClaim := { program := "ytnjjieeepfcloaa", sum := "0b6719914a78753fa91903396e7536b45e4efa0c2b383db78c3f7ca40be17bd6", func := "bridleway/bridlewaylaw09.SumTells", spec := "sumTells", unfollowed := true, recurses := true, apart := false, narrowed := true }
def SumTellsUptoSaid : Prop := sumTellsUptoRow.holds Try.pinned (OpenSpec.upto sumTellsSpec)

/-- 'bridlewaylaw09.SumPieces', WHERE WHAT IT READS IS OF BULK AT MOST 1048576: true; the input reads as it did. -/
def sumPiecesUptoRow : OpenClaim := { program := "ytnjjieeepfcloaa", sum := "0b6719914a78753fa91903396e7536b45e4efa0c2b383db78c3f7ca40be17bd6", func := "bridleway/bridlewaylaw09.SumPieces", spec := "sumPieces", unfollowed := true, recurses := true, apart := false, narrowed := true }
def SumPiecesUptoSaid : Prop := sumPiecesUptoRow.holds Try.pinned (OpenSpec.upto sumPiecesSpec)

/-- 'bridlewaylaw09.SumApart', WHERE WHAT IT READS IS OF BULK AT MOST 1048576: true; the input reads as it did. -/
def sumApartUptoRow : OpenClaim := { program := "ytnjjieeepfcloaa", sum := "0b6719914a78753fa91903396e7536b45e4efa0c2b383db78c3f7ca40be17bd6", func := "bridleway/bridlewaylaw09.SumApart", spec := "sumApart", unfollowed := true, recurses := true, apart := false, narrowed := true }
def SumApartUptoSaid : Prop := sumApartUptoRow.holds Try.pinned (OpenSpec.upto sumApartSpec)

/-- 'bridlewaylaw04.LogicOrder', WHERE WHAT IT READS IS OF BULK AT MOST 1048576: true; the input reads as it did. -/
def logicOrderUptoRow : OpenClaim := { program := "ytnjjieeepfcloaa", sum := "0b6719914a78753fa91903396e7536b45e4efa0c2b383db78c3f7ca40be17bd6", func := "bridleway/bridlewaylaw04.LogicOrder", spec := "logicOrder", apart := false, narrowed := true }
def LogicOrderUptoSaid : Prop := logicOrderUptoRow.holds Try.pinned (OpenSpec.upto logicOrderSpec)

/-- 'bridlewaylaw04.LogicNeutral', WHERE WHAT IT READS IS OF BULK AT MOST 1048576: true; the input reads as it did. -/
def logicNeutralUptoRow : OpenClaim := { program := "ytnjjieeepfcloaa", sum := "0b6719914a78753fa91903396e7536b45e4efa0c2b383db78c3f7ca40be17bd6", func := "bridleway/bridlewaylaw04.LogicNeutral", spec := "logicNeutral", unfollowed := true, recurses := true, apart := false, narrowed := true }
def LogicNeutralUptoSaid : Prop := logicNeutralUptoRow.holds Try.pinned (OpenSpec.upto logicNeutralSpec)

/-- 'bridlewaylaw04.LogicTwice', WHERE WHAT IT READS IS OF BULK AT MOST 1048576: true; the input reads as it did. -/
def logicTwiceUptoRow : OpenClaim := { program := "ytnjjieeepfcloaa", sum := "0b6719914a78753fa91903396e7536b45e4efa0c2b383db78c3f7ca40be17bd6", func := "bridleway/bridlewaylaw04.LogicTwice", spec := "logicTwice", apart := false, narrowed := true }
def LogicTwiceUptoSaid : Prop := logicTwiceUptoRow.holds Try.pinned (OpenSpec.upto logicTwiceSpec)

/-- 'bridlewaylaw04.LogicTurns', WHERE WHAT IT READS IS OF BULK AT MOST 1048576: true; the input reads as it did. -/
def logicTurnsUptoRow : OpenClaim := { program := "ytnjjieeepfcloaa", sum := "0b6719914a78753fa91903396e7536b45e4efa0c2b383db78c3f7ca40be17bd6", func := "bridleway/bridlewaylaw04.LogicTurns", spec := "logicTurns", apart := false, narrowed := true }
def LogicTurnsUptoSaid : Prop := logicTurnsUptoRow.holds Try.pinned (OpenSpec.upto logicTurnsSpec)

/-- 'bridlewaylaw04.LogicBack', WHERE WHAT IT READS IS OF BULK AT MOST 1048576: true; the input reads as it did. -/
def logicBackUptoRow : OpenClaim := { program := "ytnjjieeepfcloaa", sum := "0b6719914a78753fa91903396e7536b45e4efa0c2b383db78c3f7ca40be17bd6", func := "bridleway/bridlewaylaw04.LogicBack", spec := "logicBack", apart := false, narrowed := true }
def LogicBackUptoSaid : Prop := logicBackUptoRow.holds Try.pinned (OpenSpec.upto logicBackSpec)

/-- 'bridlewaylaw04.LogicTells', WHERE WHAT IT READS IS OF BULK AT MOST 1048576: true; the input reads as it did. -/
def logicTellsUptoRow : OpenClaim := { program := "ytnjjieeepfcloaa", sum := "0b6719914a78753fa91903396e7536b45e4efa0c2b383db78c3f7ca40be17bd6", func := "bridleway/bridlewaylaw04.LogicTells", spec := "logicTells", apart := false, narrowed := true }
def LogicTellsUptoSaid : Prop := logicTellsUptoRow.holds Try.pinned (OpenSpec.upto logicTellsSpec)

end Rows
end Go.Proofs.Ytnjjieeepfcloaa
