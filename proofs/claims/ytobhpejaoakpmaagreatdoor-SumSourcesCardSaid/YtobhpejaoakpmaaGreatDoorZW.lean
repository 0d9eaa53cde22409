/- ref06: In, Word, by the calculus. -/
import Derived.Test.YtobhpejaoakpmaaGreatDoorZL
import Derived.Test.YtobhpejaoakpmaaGreatDoorZQ
namespace Go.Proofs.YtobhpejaoakpmaaGreatDoor
open Go.RowKit Go.Bw Go.Bw.Fl
set_option linter.unusedVariables false
set_option linter.unusedSimpArgs false
end Go.Proofs.YtobhpejaoakpmaaGreatDoor
