/- The reference: Right, Same, null, Truth, by the calculus. · bridlewayref02.Int and sign, by the calculus. · bridlewayref02.Text, by the calculus. -/
import Derived.Test.YtobhpejaoakpmaaGreatDoorZH
import Derived.Test.YtobhpejaoakpmaaGreatDoorZD
import Derived.Test.YtobhpejaoakpmaaGreatDoorZJ
namespace Go.Proofs.YtobhpejaoakpmaaGreatDoor
open Go.RowKit Go.Bw Go.Bw.Fl
set_option linter.unusedVariables false
set_option linter.unusedSimpArgs false
end Go.Proofs.YtobhpejaoakpmaaGreatDoor
namespace Go.Proofs.YtobhpejaoakpmaaGreatDoor
open Go.RowKit Go.Bw Go.Bw.Fl
set_option linter.unusedVariables false
set_option linter.unusedSimpArgs false
end Go.Proofs.YtobhpejaoakpmaaGreatDoor
namespace Go.Proofs.YtobhpejaoakpmaaGreatDoor
open Go.RowKit Go.Bw Go.Bw.Fl
set_option linter.unusedVariables false
set_option linter.unusedSimpArgs false
end Go.Proofs.YtobhpejaoakpmaaGreatDoor
