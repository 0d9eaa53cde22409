/- When graphs are the same (06, 07), by the calculus; the same right graphs are printed alike. · When graphs are the same (07), by the calculus. · The statement of layer 9 that speaks of graphs: its walk. -/
import Derived.Test.YtobhpejaoakpmaaGreatDoorZGB
import Derived.Test.YtobhpejaoakpmaaGreatDoorZK
import Derived.Test.YtobhpejaoakpmaaGreatDoorZGC
import Derived.Test.YtobhpejaoakpmaaGreatDoorZSU
namespace Go.Proofs.YtobhpejaoakpmaaGreatDoor
open Go.RowKit Go.Bw Go.Bw.Fl
set_option linter.unusedVariables false
set_option linter.unusedSimpArgs false
end Go.Proofs.YtobhpejaoakpmaaGreatDoor
namespace Go.Proofs.YtobhpejaoakpmaaGreatDoor
open Go.RowKit Go.Bw Go.Bw.Fl
set_option linter.unusedVariables false
set_option linter.unusedSimpArgs false
end Go.Proofs.YtobhpejaoakpmaaGreatDoor
namespace Go.Proofs.YtobhpejaoakpmaaGreatDoor
open Go.RowKit Go.Bw Go.Bw.Fl
set_option linter.unusedVariables false
set_option linter.unusedSimpArgs false
/-! at most thirty -/
def fewG (g : GV) : GV := ⟨g.ns.take 30, g.es.take 30⟩
theorem getD_take {α : Type} (z : α) {l : List α} {i k : Nat} (hi : i < (l.take k).length) : (l.take k).getD i z = l.getD i z := by
  have h2 : i < l.length := by have : (l.take k).length ≤ l.length := List.length_take_le' _ _; omega
  rw [getD_at z hi, getD_at z h2, List.getElem_take]
theorem GAt.few {S : Nat → Prop} {w : World} {A B : Option Addr} {c e : Nat} {g : GV} (h : GAt S w A c B e g) : GAt S w A c B e (fewG g) := by
  have hn : (g.ns.take 30).length ≤ g.ns.length := List.length_take_le' _ _
  have he : (g.es.take 30).length ≤ g.es.length := List.length_take_le' _ _
  refine ⟨Nat.le_trans hn h.nc, Nat.le_trans he h.ec, fun i hi => ?_, fun i hi => ?_, fun d hd => h.oks d (List.mem_of_mem_take hd), fun d hd => h.oke d (List.mem_of_mem_take hd)⟩
  · obtain ⟨p, cs, h1, h2, h3, h4⟩ := h.rn i (Nat.lt_of_lt_of_le hi hn)
    exact ⟨p, cs, h1, h2, h3, by show NodeC S w cs ((g.ns.take 30).getD i nd0); rw [getD_take nd0 hi]; exact h4⟩
  · obtain ⟨p, cs, h1, h2, h3, h4⟩ := h.re i (Nat.lt_of_lt_of_le hi he)
    exact ⟨p, cs, h1, h2, h3, by show EdgeC S w cs ((g.es.take 30).getD i ed0); rw [getD_take ed0 hi]; exact h4⟩
theorem take_sum_le (f : ND → Nat) (l : List ND) (k : Nat) : ((l.take k).map f).sum ≤ (l.map f).sum := by
  have := congrArg (fun l => (List.map f l).sum) (List.take_append_drop k l)
  simp only [List.map_append, List.sum_append] at this; omega
theorem take_sum_le2 (f : ED → Nat) (l : List ED) (k : Nat) : ((l.take k).map f).sum ≤ (l.map f).sum := by
  have := congrArg (fun l => (List.map f l).sum) (List.take_append_drop k l)
  simp only [List.map_append, List.sum_append] at this; omega
theorem fewG_sz (g : GV) : szG (fewG g) ≤ szG g := by
  have h1 := take_sum_le szN g.ns 30
  have h2 := take_sum_le2 szE g.es 30
  unfold szG fewG; show ((g.ns.take 30).map szN).sum + ((g.es.take 30).map szE).sum ≤ _; omega
theorem min_take {α : Type} (l : List α) : (min (l.length : Int) 30).toNat = (l.take 30).length := by rw [List.length_take]; omega
end Go.Proofs.YtobhpejaoakpmaaGreatDoor
