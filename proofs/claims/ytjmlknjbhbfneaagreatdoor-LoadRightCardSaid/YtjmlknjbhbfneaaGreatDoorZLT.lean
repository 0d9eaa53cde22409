/- Plain: where lines stand in a printed graph; some of them, one of them twice. -/
import Derived.Test.YtjmlknjbhbfneaaGreatDoorZLS
namespace Go.Proofs.YtjmlknjbhbfneaaGreatDoor
open Go.RowKit Go.Bw Go.Bw.Fl
set_option linter.unusedVariables false
set_option linter.unusedSimpArgs false
def feeds (L : List (List UInt8)) : List UInt8 := L.flatMap (fun l => l ++ [10])
def pos (L : List (List UInt8)) (j : Nat) : Nat := (feeds (L.take j)).length
theorem feeds_app (a b : List (List UInt8)) : feeds (a ++ b) = feeds a ++ feeds b := List.flatMap_append
theorem pos_succ {L : List (List UInt8)} {i : Nat} (hi : i < L.length) : pos L (i + 1) = pos L i + (L.getD i []).length + 1 := by
  unfold pos
  rw [List.take_succ_eq_append_getElem hi, feeds_app, List.length_append, getD_at [] hi]
  unfold feeds
  simp; omega
theorem u8_ten (c : UInt8) : ((c.toNat : Int) = 10) ↔ c = 10 := ⟨fun h => u8_of (n := 10) h (by decide), fun h => by rw [h]; rfl⟩
/-! some lines -/
/-! a line twice -/
end Go.Proofs.YtjmlknjbhbfneaaGreatDoor
