import Derived.Test.YtjmlknjbhbfneaaGreatDoorZLS
namespace Go.Proofs.YtjmlknjbhbfneaaGreatDoor
open Go.RowKit Go.Bw Go.Bw.Fl
set_option linter.unusedVariables false
set_option linter.unusedSimpArgs false
def ZR (L:List (al)):al:=L.flatMap (fun l=>l++ [10])
def pos (L:List (al)) (j:Nat):Nat:=(ZR (L.take j)).length
end Go.Proofs.YtjmlknjbhbfneaaGreatDoor
