/- LoadBack, by the calculus. -/
import Derived.Test.YtobhpejaoakpmaaGreatDoorZLpA
import Derived.Test.YtobhpejaoakpmaaGreatDoorZLS
namespace Go.Proofs.YtobhpejaoakpmaaGreatDoor
open Go.RowKit Go.Bw Go.Bw.Fl
set_option linter.unusedVariables false
set_option linter.unusedSimpArgs false
theorem samePs_refl (ps : List Pr) : samePs ps ps = true := by
  unfold samePs
  rw [decide_eq_true rfl, Bool.true_and]
  exact allN_t fun j _ => by unfold samePA; rw [sameV_self, decide_eq_true rfl]; rfl
theorem sameN_refl (d : ND) : sameN d d = true := by unfold sameN; rw [samePs_refl]; simp
theorem sameG_refl (g : GV) : sameG g g = true := by
  unfold sameG
  have h1 : allN g.ns.length (sameNA g g) = true := allN_t fun j _ => sameN_refl _
  have h2 : allN g.es.length (sameEA g g) = true := allN_t fun j _ => by unfold sameEA sameE; rw [sameN_refl]; simp
  rw [h1, h2]; simp
theorem print_le {S : Nat → Prop} {w : World} {A B : Option Addr} {c e : Nat} {g : GV} (hG : GAt S w A c B e g) (h : rightG g = 0) (hsz : szG g ≤ 1048576) : (printG g).length < 4294967281 := by
  obtain ⟨h1, h2, h3⟩ := rightG_zero h
  have := print_len hG.oks hG.oke h3 h1 h2
  unfold printG; rw [List.length_append]; omega
end Go.Proofs.YtobhpejaoakpmaaGreatDoor
