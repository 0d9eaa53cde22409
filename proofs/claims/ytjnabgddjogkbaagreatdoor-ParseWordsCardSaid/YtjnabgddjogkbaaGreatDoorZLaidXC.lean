/- The witness's world: the listed variables read as listed; whatever the arguments. -/
import Derived.Test.YtjnabgddjogkbaaGreatDoorZLaidX
import Derived.Test.YtjnabgddjogkbaaGreatDoorZShelfD
namespace Go.Proofs.YtjnabgddjogkbaaGreatDoor
open Go.RowKit Go.Bw Go.Bw.Fl
set_option linter.unusedVariables false
set_option linter.unusedSimpArgs false
theorem laidVars_split {P : Program} {w : World} : ∀ {l l' : List (String × DataW Unit)} {ps : List MemPlace}, DataW.LaidVars P w (l ++ l') ps → ∃ p q, DataW.LaidVars P w l p ∧ DataW.LaidVars P w l' q ∧ ps = p ++ q
  | [], l', ps, h => ⟨[], ps, rfl, h, rfl⟩
  | (n, d) :: r, l', ps, h => by
    obtain ⟨g, t, cs, fuel, p, q, h1, h2, h3, h4, h5, h6⟩ := h
    obtain ⟨p', q', h7, h8, h9⟩ := laidVars_split h5
    refine ⟨MemPlace.row ⟨g, 0, none⟩ cs.size ++ p ++ p', q', ⟨g, t, cs, fuel, p, p', h1, h2, h3, h4, h7, rfl⟩, h8, ?_⟩
    rw [h6, h9]; simp [List.append_assoc]
theorem laidMet_swap {P : Program} {w : World} {l l' : List (String × DataW Unit)} {c : String × DataW Unit} (h : laidMet P ((l ++ l') ++ [c]) w) : laidMet P (l ++ c :: l') w := by
  obtain ⟨ps, h1, h2, h3⟩ := h
  obtain ⟨p, q, h4, h5, rfl⟩ := laidVars_split h1
  obtain ⟨p1, p2, h6, h7, rfl⟩ := laidVars_split h4
  have hp : ((p1 ++ p2) ++ q).Perm (p1 ++ (q ++ p2)) := by rw [List.append_assoc]; exact List.Perm.append_left p1 List.perm_append_comm
  exact ⟨_, LaidVars_append h6 (LaidVars_append h5 h7), hp.nodup_iff.1 h2, fun b off hm => h3 b off (hp.mem_iff.2 hm)⟩
def caseRen : Go.Shelf.Ren := { Tryz.lays274_ren with g := fun | 13 => 11 | n => n }
theorem laysCase : Go.Proofs.Lays.n274 Tryz.prog caseRen := { Tryz.lays274 with }
theorem laid7_eq : laid7 = laid7.take 8 ++ ("unicode.CaseRanges", Lib.caseData) :: laid7.drop 9 := by rw [← Pinned.caseRanges_eq]; kernel_rfl
theorem laidWorld_met (os : Os) (args : Array Value) : laidMet Tryz.prog laid7 ((laidWorld os).forCall (fun _ _ => 0) ⟨#[], args, []⟩).memory := by
  rw [laid7_eq]
  exact laidMet_swap (laidMet_with_case (ρ := caseRen) laysCase Tryz.underlying240 ⟨by kernel_rfl, by kernel_rfl, by kernel_rfl, by kernel_rfl, by kernel_rfl, by kernel_rfl⟩ (l := laid7.take 8 ++ laid7.drop 9) 8 (by kernel_rfl) (by kernel_rfl) (by kernel_rfl) (low + 4) (caseRen.t 208) (of_decide_eq_true (by kernel_rfl)) (by kernel_rfl) (by kernel_rfl) (by kernel_rfl))
theorem laidWorld_vars (os : Os) (args : Array Value) : ((laidWorld os).forCall (fun _ _ => 0) ⟨#[], args, []⟩).variablesRefB Tryz.checked.prog = true := by kernel_rfl
theorem laidWorld_rest (os : Os) (args : Array Value) : (((laidWorld os).forCall (fun _ _ => 0) ⟨#[], args, []⟩).heap.toList.drop Tryz.checked.prog.globals.size).take ((begin Tryz.checked.prog (fun _ _ => 0) default).world.heap.size - Tryz.checked.prog.globals.size) = (begin Tryz.checked.prog (fun _ _ => 0) default).world.heap.toList.drop Tryz.checked.prog.globals.size := by kernel_rfl
end Go.Proofs.YtjnabgddjogkbaaGreatDoor
