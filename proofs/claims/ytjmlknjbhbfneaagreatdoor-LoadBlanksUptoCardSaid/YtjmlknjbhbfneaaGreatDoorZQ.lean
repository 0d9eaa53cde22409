/- bridlewayref01.number, by the calculus; canonical numerals. · Plain: the document's way to read a float's text. · bridlewayref01.Parse, by the calculus. · Plain: Read tells the longest beginning that is a value's text. · bridlewayref02.one, quoted, Read, by the calculus. -/
import Derived.Test.YtjmlknjbhbfneaaGreatDoorZK
import Derived.Test.YtjmlknjbhbfneaaGreatDoorZF
import Derived.Test.YtjmlknjbhbfneaaGreatDoorZJ
import Derived.Test.YtjmlknjbhbfneaaGreatDoorZA
namespace Go.Proofs.YtjmlknjbhbfneaaGreatDoor
open Go.RowKit Go.Bw Go.Bw.Fl
set_option linter.unusedVariables false
set_option linter.unusedSimpArgs false

end Go.Proofs.YtjmlknjbhbfneaaGreatDoor
namespace Go.Proofs.YtjmlknjbhbfneaaGreatDoor
open Go.RowKit Go.Bw Go.Bw.Fl
set_option linter.unusedVariables false
set_option linter.unusedSimpArgs false
/-- where the first p is, or the end -/
structure PmAt (t : List UInt8) (i : Nat) : Prop where
  le : i ≤ t.length
  no : (112 : UInt8) ∉ t.take i
  at_ : i < t.length → t.getD i 0 = 112
section
variable {s : List UInt8} {i : Nat} {z : Int} (h0 : s ≠ [110, 97, 110]) (h1 : Lib.trimPrefix s [45] ≠ [105, 110, 102]) (h2 : Lib.trimPrefix s [45] ≠ [48, 112, 48]) (hi : PmAt (Lib.trimPrefix s [45]) i)
include h0 h1 h2 hi
end
end Go.Proofs.YtjmlknjbhbfneaaGreatDoor
namespace Go.Proofs.YtjmlknjbhbfneaaGreatDoor
open Go.RowKit Go.Bw Go.Bw.Fl
set_option linter.unusedVariables false
set_option linter.unusedSimpArgs false
end Go.Proofs.YtjmlknjbhbfneaaGreatDoor
namespace Go.Proofs.YtjmlknjbhbfneaaGreatDoor
open Go.RowKit Go.Bw Go.Bw.Fl
set_option linter.unusedVariables false
set_option linter.unusedSimpArgs false
end Go.Proofs.YtjmlknjbhbfneaaGreatDoor
namespace Go.Proofs.YtjmlknjbhbfneaaGreatDoor
open Go.RowKit Go.Bw Go.Bw.Fl
set_option linter.unusedVariables false
set_option linter.unusedSimpArgs false
end Go.Proofs.YtjmlknjbhbfneaaGreatDoor
