import Derived.Test.YtjmlknjbhbfneaaGreatDoorZY
import Derived.RangeFuncBox
import Derived.RangeFuncBound
import Derived.RangeFuncCalls
import Derived.RangeFuncNested
import Derived.RangeFuncLeaves
import Derived.Shelf.Abstract
import Derived.OwnWalkIn
import Derived.TacticsInMore
import Derived.LoopNIn
import Derived.LoopIn
namespace Go.Proofs.YtjmlknjbhbfneaaGreatDoor
open Go.RowKit Go.Shelf
attribute [local go_sem] Oper.semAt_some
end Go.Proofs.YtjmlknjbhbfneaaGreatDoor
namespace Go.Proofs.YtjmlknjbhbfneaaGreatDoor
open Go.RowKit Go.Bw
set_option linter.unusedVariables false
set_option linter.unusedSimpArgs false
theorem rd_frozen (w:World) (l:al) (e:TypeId) (fr:Nat×Nat):Rd (w.alloc (.cells (dq l).toArray e fr)) 1 (some ⟨w.heap.size,0,none⟩) l.length (dq l):=
 ⟨by rw [qI];omega,fun _=>⟨_,rfl,fun j u hu=>by
  have hadd:(⟨w.heap.size,0,none⟩:Addr).add j=⟨w.heap.size,j,none⟩:=by unfold Addr.add;split<;>simp_all
  rw [hadd,World.cell?_alloc_mark]
  simpa using hu⟩⟩
end Go.Proofs.YtjmlknjbhbfneaaGreatDoor
