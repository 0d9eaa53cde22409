/- Plain: what is read is right; the lines ahead of one that is wrong. -/
import Derived.Test.YtjmlknjbhbfneaaGreatDoorZLT
namespace Go.Proofs.YtjmlknjbhbfneaaGreatDoor
open Go.RowKit Go.Bw Go.Bw.Fl
set_option linter.unusedVariables false
set_option linter.unusedSimpArgs false
/-! no error: all apart -/
theorem el_back {n : List UInt8} {ls : List (List UInt8)} {ps : List Pr} (h : ElOk n ls ps) : elementV n ls ps = true := by
  have rise : ∀ {l : List (List UInt8)}, (∀ w ∈ l, wordA w = true) → l.Pairwise (fun x y => Op.bytesLess x y = true) → risingV l = true := fun {l} hw hp => allN_t fun j hj => by
    unfold riseAt
    rw [getD_at [] hj, hw _ (List.getElem_mem hj), Bool.true_and]
    by_cases h0 : j = 0
    · subst h0; rfl
    · have hj1 : j - 1 < l.length := by omega
      rw [getD_at [] hj1, List.pairwise_iff_getElem.1 hp (j - 1) j hj1 hj (by omega)]; simp
  have h1 : risingV (ps.map (·.1)) = true := rise (fun w hw => by obtain ⟨p, hp, rfl⟩ := List.mem_map.1 hw; exact (h.po p hp).1) (List.pairwise_map.2 h.pp)
  unfold elementV
  rw [rise h.lw h.lp, h1, h.nw]
  have h2 : allN ps.length (valueAt ps) = true := allN_t fun j hj => by
    unfold valueAt
    rw [getD_at pr0 hj, decide_eq_true (h.pn _ (List.getElem_mem hj)), (h.po _ (List.getElem_mem hj)).2.2]; rfl
  rw [h2]; rfl
theorem nodup_dist {l : List (List UInt8)} (h : l.Nodup) : distinct l = true := by
  rw [distinct_iff]
  refine allN_t fun j hj => firstAt_iff.2 fun i hi e => ?_
  have hi' : i < l.length := by omega
  rw [getD_at [] hi', getD_at [] hj] at e
  exact List.pairwise_iff_getElem.1 h i j hi' hj hi e
theorem RG.right {g : GV} (h : RG g) : rightG g = 0 := by
  have h1 : okG g = true := by
    unfold okG
    rw [nodup_dist h.nd, nodup_dist h.ed]
    have a1 : allN g.ns.length (fun i => nodeV (g.ns.getD i nd0)) = true := allN_t fun j hj => by
      rw [getD_at nd0 hj]; exact el_back (h.ns _ (List.getElem_mem hj))
    have a2 : allN g.es.length (fun i => edgeV g.ns.length (g.es.getD i ed0)) = true := allN_t fun j hj => by
      have := h.es _ (List.getElem_mem hj)
      rw [getD_at ed0 hj]
      unfold edgeV isV
      rw [el_back this.el, decide_eq_true this.f0, decide_eq_true this.f1, decide_eq_true this.t0, decide_eq_true this.t1]; rfl
    rw [a1, a2]; rfl
  unfold rightG
  rw [if_neg (by have := h.nl; have := h.el; omega), if_pos h1]
end Go.Proofs.YtjmlknjbhbfneaaGreatDoor
