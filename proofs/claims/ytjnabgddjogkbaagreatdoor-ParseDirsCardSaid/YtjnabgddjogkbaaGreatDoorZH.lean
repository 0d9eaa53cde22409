/- value.Right, by the calculus. -/
import Derived.Test.YtjnabgddjogkbaaGreatDoorZE
namespace Go.Proofs.YtjnabgddjogkbaaGreatDoor
open Go.RowKit Go.Bw Go.Bw.Fl
set_option linter.unusedVariables false
set_option linter.unusedSimpArgs false

end Go.Proofs.YtjnabgddjogkbaaGreatDoor
