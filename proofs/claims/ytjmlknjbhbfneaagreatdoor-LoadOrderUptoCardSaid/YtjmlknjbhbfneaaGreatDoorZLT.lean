/- Plain: where lines stand in a printed graph; some of them, one of them twice. -/
import Derived.Test.YtjmlknjbhbfneaaGreatDoorZLS
namespace Go.Proofs.YtjmlknjbhbfneaaGreatDoor
open Go.RowKit Go.Bw Go.Bw.Fl
set_option linter.unusedVariables false
set_option linter.unusedSimpArgs false
def feeds (L : List (List UInt8)) : List UInt8 := L.flatMap (fun l => l ++ [10])
def pos (L : List (List UInt8)) (j : Nat) : Nat := (feeds (L.take j)).length
theorem feeds_app (a b : List (List UInt8)) : feeds (a ++ b) = feeds a ++ feeds b := List.flatMap_append
/-! some lines -/
theorem loads_end {a : List (List UInt8)} {g : GV} (h : Reads a ⟨[], []⟩ g) : loadGo (a ++ [[]]) 0 ⟨[], []⟩ = (g, 0, 0) := by
  rw [h.go [[]] 0, loadGo_cons, step_blank rfl g]
  dsimp only
  rw [if_pos rfl]; rfl
/-! a line twice -/
end Go.Proofs.YtjmlknjbhbfneaaGreatDoor
