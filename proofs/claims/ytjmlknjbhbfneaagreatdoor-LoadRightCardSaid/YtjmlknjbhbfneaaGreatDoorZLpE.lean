/- SumSources, by the calculus. -/
import Derived.Test.YtjmlknjbhbfneaaGreatDoorZLpA
import Derived.Test.YtjmlknjbhbfneaaGreatDoorZLU
namespace Go.Proofs.YtjmlknjbhbfneaaGreatDoor
open Go.RowKit Go.Bw Go.Bw.Fl
set_option linter.unusedVariables false
set_option linter.unusedSimpArgs false

theorem len_print {S : Nat → Prop} {w : World} {A B : Option Addr} {c e : Nat} {g : GV} (hG : GAt S w A c B e g) (h : rightG g = 0) : (printG g).length ≤ 2100 * szG g + 40000 := by
  obtain ⟨h1, h2, h3⟩ := rightG_zero h
  have := print_len hG.oks hG.oke h3 h1 h2
  unfold printG; rw [List.length_append]; exact this
end Go.Proofs.YtjmlknjbhbfneaaGreatDoor
