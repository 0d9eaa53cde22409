/- ref06: In, Word, by the calculus. -/
import Derived.Test.YtjmlknjbhbfneaaGreatDoorZL
import Derived.Test.YtjmlknjbhbfneaaGreatDoorZQ
namespace Go.Proofs.YtjmlknjbhbfneaaGreatDoor
open Go.RowKit Go.Bw Go.Bw.Fl
set_option linter.unusedVariables false
set_option linter.unusedSimpArgs false
end Go.Proofs.YtjmlknjbhbfneaaGreatDoor
