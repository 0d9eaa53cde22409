/- LoadBack, by the calculus. -/
import Derived.Test.YtjmlknjbhbfneaaGreatDoorZLpA
import Derived.Test.YtjmlknjbhbfneaaGreatDoorZLS
namespace Go.Proofs.YtjmlknjbhbfneaaGreatDoor
open Go.RowKit Go.Bw Go.Bw.Fl
set_option linter.unusedVariables false
set_option linter.unusedSimpArgs false

theorem samePs_refl (ps : List Pr) : samePs ps ps = true := by
  unfold samePs
  rw [decide_eq_true rfl, Bool.true_and]
  exact allN_t fun j _ => by unfold samePA; rw [sameV_self, decide_eq_true rfl]; rfl
theorem sameN_refl (d : ND) : sameN d d = true := by unfold sameN; rw [samePs_refl]; simp
theorem sameG_refl (g : GV) : sameG g g = true := by
  unfold sameG
  have h1 : allN g.ns.length (sameNA g g) = true := allN_t fun j _ => sameN_refl _
  have h2 : allN g.es.length (sameEA g g) = true := allN_t fun j _ => by unfold sameEA sameE; rw [sameN_refl]; simp
  rw [h1, h2]; simp
end Go.Proofs.YtjmlknjbhbfneaaGreatDoor
