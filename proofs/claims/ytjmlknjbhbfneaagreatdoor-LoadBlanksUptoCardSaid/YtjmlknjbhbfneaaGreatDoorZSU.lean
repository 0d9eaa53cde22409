/- Layer 9's sums: what they are, in plain numbers. · Layer 9's sums: slices.Values and sum.More, by the kit's own walk. · The functions of layer 9 and its reference, by the calculus. · The statements of layer 9 that speak of bytes: their walks. -/
import Derived.Laws.Bits64
import Derived.Laws.BitsLemmas
import Derived.RangeFuncBox
import Derived.RangeFuncBound
import Derived.RangeFuncCalls
import Derived.RangeFuncNested
import Derived.RangeFuncLeaves
import Derived.Shelf.Abstract
import Derived.WalkKit
import Derived.OwnWalkIn
import Derived.TacticsInMore
import Derived.LoopNIn
import Derived.LoopIn
import Derived.Test.YtjmlknjbhbfneaaGreatDoorProg
import Derived.Test.YtjmlknjbhbfneaaGreatDoorZA
import Derived.Lib.SlBytesConst
namespace Go.Proofs.YtjmlknjbhbfneaaGreatDoor

/-! one byte more is one to one, either way round -/
end Go.Proofs.YtjmlknjbhbfneaaGreatDoor
namespace Go.Proofs.YtjmlknjbhbfneaaGreatDoor
open Go.RowKit Go.Shelf

attribute [local go_sem] Oper.semAt_some

/-- what has come when k rounds are over -/
def upto {α : Type} (f : Nat → α) (k : Nat) : List α := (List.range k).map f
end Go.Proofs.YtjmlknjbhbfneaaGreatDoor
namespace Go.Proofs.YtjmlknjbhbfneaaGreatDoor
open Go.RowKit Go.Bw
set_option linter.unusedVariables false
set_option linter.unusedSimpArgs false


end Go.Proofs.YtjmlknjbhbfneaaGreatDoor
namespace Go.Proofs.YtjmlknjbhbfneaaGreatDoor
open Go.RowKit Go.Bw
set_option linter.unusedVariables false
set_option linter.unusedSimpArgs false

theorem rd_frozen (w : World) (l : List UInt8) (e : TypeId) (fr : Nat × Nat) : Rd (w.alloc (.cells (u8s l).toArray e fr)) 1 (some ⟨w.heap.size, 0, none⟩) l.length (u8s l) :=
  ⟨by rw [u8s_length]; omega, fun _ => ⟨_, rfl, fun j u hu => by
    have hadd : (⟨w.heap.size, 0, none⟩ : Addr).add j = ⟨w.heap.size, j, none⟩ := by unfold Addr.add; split <;> simp_all
    rw [hadd, World.cell?_alloc_mark]
    simpa using hu⟩⟩

end Go.Proofs.YtjmlknjbhbfneaaGreatDoor
