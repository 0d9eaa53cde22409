import Derived.Test.YtjmlknjbhbfneaaGreatDoorZLE
import Derived.Test.YtjmlknjbhbfneaaGreatDoorZGD
namespace Go.Proofs.YtjmlknjbhbfneaaGreatDoor
open Go.RowKit Go.Bw Go.Bw.Fl
set_option linter.unusedVariables false
set_option linter.unusedSimpArgs false
end Go.Proofs.YtjmlknjbhbfneaaGreatDoor
