/- Plain: where lines stand in a printed graph; some of them, one of them twice. -/
import Derived.Test.YtjmlknjbhbfneaaGreatDoorZLS
namespace Go.Proofs.YtjmlknjbhbfneaaGreatDoor
open Go.RowKit Go.Bw Go.Bw.Fl
set_option linter.unusedVariables false
set_option linter.unusedSimpArgs false
def feeds (L : List (List UInt8)) : List UInt8 := L.flatMap (fun l => l ++ [10])
def pos (L : List (List UInt8)) (j : Nat) : Nat := (feeds (L.take j)).length
theorem u8_ten (c : UInt8) : ((c.toNat : Int) = 10) ↔ c = 10 := ⟨fun h => u8_of (n := 10) h (by decide), fun h => by rw [h]; rfl⟩
/-! some lines -/
/-! a line twice -/
end Go.Proofs.YtjmlknjbhbfneaaGreatDoor
