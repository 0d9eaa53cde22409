/- Plain: tokens behind tokens, ahead of a cut, written again. -/
import Derived.Test.YtjnabgddjogkbaaGreatDoorZT
namespace Go.Proofs.YtjnabgddjogkbaaGreatDoor
open Go.RowKit Go.Bw Go.Bw.Fl
set_option linter.unusedVariables false
set_option linter.unusedSimpArgs false
/-! ### rows of tokens -/
def Tok.up (d : Nat) (t : Tok) : Tok := ⟨t.k, t.t, t.a + d⟩
end Go.Proofs.YtjnabgddjogkbaaGreatDoor
