/- The references for graphs (06, 07): rising, props, Find, FindEdge, Right, by the calculus. · The reference for graphs (07): Find, FindEdge, Right, by the calculus. · The reference's Right (07), by the calculus. · The reference's print (08): fields, Print, by the calculus. -/
import Derived.Test.YtjmlknjbhbfneaaGreatDoorZW
import Derived.Test.YtjmlknjbhbfneaaGreatDoorZK
import Derived.Test.YtjmlknjbhbfneaaGreatDoorZGB
namespace Go.Proofs.YtjmlknjbhbfneaaGreatDoor
open Go.RowKit Go.Bw Go.Bw.Fl
set_option linter.unusedVariables false
set_option linter.unusedSimpArgs false

end Go.Proofs.YtjmlknjbhbfneaaGreatDoor
namespace Go.Proofs.YtjmlknjbhbfneaaGreatDoor
open Go.RowKit Go.Bw Go.Bw.Fl
set_option linter.unusedVariables false
set_option linter.unusedSimpArgs false
def firstAt (l : List (List UInt8)) (i : Nat) : Bool := allN i (fun j => decide (l.getD j [] ≠ l.getD i []))
theorem firstAt_iff {l : List (List UInt8)} {i : Nat} : firstAt l i = true ↔ ∀ j, j < i → l.getD j [] ≠ l.getD i [] := by unfold firstAt; rw [allN_iff]; exact ⟨fun h j hj => of_decide_eq_true (h j hj), fun h j hj => decide_eq_true (h j hj)⟩
theorem keys_mapN (l : List (List UInt8)) : ∀ (i : Nat) (x : List UInt8), x ∈ keys (mapN l i) ↔ ∃ j, j < i ∧ l.getD j [] = x
  | 0, x => by simp [mapN, keys]
  | i + 1, x => by
    have ih := keys_mapN l i
    unfold mapN
    rw [keys_mput]
    split
    · rename_i h
      rw [ih x]
      refine ⟨fun ⟨j, h1, h2⟩ => ⟨j, by omega, h2⟩, fun ⟨j, h1, h2⟩ => ?_⟩
      by_cases e : j = i
      · subst e; rw [← h2]; exact (ih _).1 h
      · exact ⟨j, by omega, h2⟩
    · rw [List.mem_append, ih x, List.mem_singleton]
      refine ⟨fun h => ?_, fun ⟨j, h1, h2⟩ => ?_⟩
      · rcases h with ⟨j, h1, h2⟩ | h
        · exact ⟨j, by omega, h2⟩
        · exact ⟨i, by omega, h.symm⟩
      · by_cases e : j = i
        · subst e; exact .inr h2.symm
        · exact .inl ⟨j, by omega, h2⟩
theorem keys_len (kv : List (List UInt8 × Value)) : (keys kv).length = kv.length := by simp [keys]
theorem mapN_len (l : List (List UInt8)) : ∀ i, (mapN l i).length ≤ i ∧ ((mapN l i).length = i ↔ ∀ j, j < i → firstAt l j = true)
  | 0 => by simp [mapN]
  | i + 1 => by
    obtain ⟨h1, h2⟩ := mapN_len l i
    have hk := congrArg List.length (keys_mput (mapN l i) (l.getD i []) (.int .i64 i))
    rw [keys_len] at hk
    have hm := keys_mapN l i (l.getD i [])
    have e : mapN l (i + 1) = mput (mapN l i) (l.getD i []) (.int .i64 i) := rfl
    rw [e, hk]
    split
    · rename_i h
      rw [keys_len]
      refine ⟨by omega, fun h3 => by omega, fun h3 => ?_⟩
      obtain ⟨j, h4, h5⟩ := hm.1 h
      exact absurd h5 (firstAt_iff.1 (h3 i (by omega)) j h4)
    · rename_i h
      rw [List.length_append, keys_len]
      refine ⟨by simp; omega, fun h3 j hj => ?_, fun h3 => ?_⟩
      · have h4 : (mapN l i).length = i := by simp at h3; omega
        by_cases e : j = i
        · subst e; exact firstAt_iff.2 fun k hk h5 => h (hm.2 ⟨k, hk, h5⟩)
        · exact h2.1 h4 j (by omega)
      · have := h2.2 (fun j hj => h3 j (by omega)); simp; omega
theorem distinct_iff (l : List (List UInt8)) : distinct l = allN l.length (firstAt l) := by
  unfold distinct
  rw [Bool.eq_iff_iff, decide_eq_true_eq, allN_iff]; exact (mapN_len l l.length).2
end Go.Proofs.YtjmlknjbhbfneaaGreatDoor
namespace Go.Proofs.YtjmlknjbhbfneaaGreatDoor
open Go.RowKit Go.Bw Go.Bw.Fl
set_option linter.unusedVariables false
set_option linter.unusedSimpArgs false

end Go.Proofs.YtjmlknjbhbfneaaGreatDoor
namespace Go.Proofs.YtjmlknjbhbfneaaGreatDoor
open Go.RowKit Go.Bw Go.Bw.Fl
set_option linter.unusedVariables false
set_option linter.unusedSimpArgs false

def labF (l : List UInt8) : List UInt8 := 32 :: 58 :: l
def prF (p : Pr) : List UInt8 := 32 :: propF p
def restV (ls : List (List UInt8)) (ps : List Pr) : List UInt8 := ls.flatMap labF ++ ps.flatMap prF
theorem restV_eq (ls : List (List UInt8)) (ps : List Pr) : (fieldsV ls ps).flatMap (fun y => (32 : UInt8) :: y) = restV ls ps := by
  unfold fieldsV restV
  rw [List.flatMap_append, List.flatMap_map, List.flatMap_map]; rfl
theorem nodeL_ref (d : ND) : nodeL d = [110, 111, 100, 101, 32] ++ d.n ++ (restV d.ls d.ps ++ [10]) := by
  unfold nodeL nodeF
  show (wNode ++ (d.n :: fieldsV d.ls d.ps).flatMap (fun y => (32 : UInt8) :: y)) ++ [10] = _
  rw [List.flatMap_cons, restV_eq]; simp [wNode]
theorem edgeL_ref (g : GV) (d : ED) : edgeL g d = [101, 100, 103, 101, 32] ++ d.n ++ [32] ++ (g.ns.getD d.fr.toNat nd0).n ++ (32 :: arrowV d.dir ++ [32]) ++ (g.ns.getD d.tw.toNat nd0).n ++ (restV d.ls d.ps ++ [10]) := by
  unfold edgeL edgeF
  show (wEdge ++ (d.n :: (g.ns.getD d.fr.toNat nd0).n :: arrowV d.dir :: (g.ns.getD d.tw.toNat nd0).n :: fieldsV d.ls d.ps).flatMap (fun y => (32 : UInt8) :: y)) ++ [10] = _
  rw [List.flatMap_cons, List.flatMap_cons, List.flatMap_cons, List.flatMap_cons, restV_eq]; simp [wEdge]
end Go.Proofs.YtjmlknjbhbfneaaGreatDoor
