import Derived.Test.YtjmlknjbhbfneaaGreatDoorZLpA
import Derived.Test.YtjmlknjbhbfneaaGreatDoorZLS
namespace Go.Proofs.YtjmlknjbhbfneaaGreatDoor
open Go.RowKit Go.Bw Go.Bw.Fl
set_option linter.unusedVariables false
set_option linter.unusedSimpArgs false
theorem afz (ps:List Pr):xZ ps ps=true:=by
 unfold xZ;rw [decide_eq_true rfl,Bool.true_and];exact tz fun j _=>by unfold rv;rw [afA,decide_eq_true rfl];rfl
theorem SY (d:ND):ou d d=true:=by unfold ou;rw [afz];simp
theorem afy (g:GV):xY g g=true:=by
 unfold xY;have h1:fU g.ns.length (ov g g)=true:=tz fun j _=>SY _;have h2:fU g.es.length (j4 g g)=true:=tz fun j _=>by unfold j4 uD;rw [SY];simp
 rw [h1,h2];simp
end Go.Proofs.YtjmlknjbhbfneaaGreatDoor
