/- value.Right, by the calculus. · value.Text, by the calculus. -/
import Derived.Test.YtjnabgddjogkbaaGreatDoorZE
import Derived.Test.YtjnabgddjogkbaaGreatDoorZF
namespace Go.Proofs.YtjnabgddjogkbaaGreatDoor
open Go.RowKit Go.Bw Go.Bw.Fl
set_option linter.unusedVariables false
set_option linter.unusedSimpArgs false

theorem beqN (x y : Nat) : ((x : Int) == (y : Int)) = decide (x = y) := by rw [Bool.eq_iff_iff, beq_iff_eq, decide_eq_true_eq]; omega
end Go.Proofs.YtjnabgddjogkbaaGreatDoor
namespace Go.Proofs.YtjnabgddjogkbaaGreatDoor
open Go.RowKit Go.Bw Go.Bw.Fl
set_option linter.unusedVariables false
set_option linter.unusedSimpArgs false

def textV (q : List UInt8) (a : Val) : List UInt8 × Int :=
  if rightV a = false then ([], 1) else if a.k = 1 then ((if (a.n == 1) = true then [116, 114, 117, 101] else [102, 97, 108, 115, 101]), 0)
  else if a.k = 2 then (Lib.itoa a.n, 0) else if a.k = 3 then (textF a.f, 0) else if a.k = 4 then (q, 0) else ([110, 117, 108, 108], 0)
end Go.Proofs.YtjnabgddjogkbaaGreatDoor
