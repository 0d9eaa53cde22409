/- When graphs are the same (06, 07), by the calculus; the same right graphs are printed alike. · When graphs are the same (07), by the calculus. · The statement of layer 9 that speaks of graphs: its walk. -/
import Derived.Test.YtobhpejaoakpmaaGreatDoorZGB
import Derived.Test.YtobhpejaoakpmaaGreatDoorZK
import Derived.Test.YtobhpejaoakpmaaGreatDoorZGC
import Derived.Test.YtobhpejaoakpmaaGreatDoorZSU
namespace Go.Proofs.YtobhpejaoakpmaaGreatDoor
open Go.RowKit Go.Bw Go.Bw.Fl
set_option linter.unusedVariables false
set_option linter.unusedSimpArgs false
end Go.Proofs.YtobhpejaoakpmaaGreatDoor
namespace Go.Proofs.YtobhpejaoakpmaaGreatDoor
open Go.RowKit Go.Bw Go.Bw.Fl
set_option linter.unusedVariables false
set_option linter.unusedSimpArgs false
end Go.Proofs.YtobhpejaoakpmaaGreatDoor
namespace Go.Proofs.YtobhpejaoakpmaaGreatDoor
open Go.RowKit Go.Bw Go.Bw.Fl
set_option linter.unusedVariables false
set_option linter.unusedSimpArgs false
theorem txt22SgA : Txt Tryz.prog 22 := ⟨_, Tryz.func22, by kernel_rfl, rfl⟩   -- bridleway/load.Print
theorem txt26SgA : Txt Tryz.prog 26 := ⟨_, Tryz.func26, by kernel_rfl, rfl⟩   -- bridleway/sum.Sum
/-! at most thirty -/
theorem sumGraph_r (S : Nat → Prop) (A : Option Addr) (c : Nat) (B : Option Addr) (e : Nat) (g : GV) (w : World) (hG : GAt S w A c B e g) (hsz : szG g ≤ 8388608) (hL : Lt w) :
    Ret Tryz.prog 15 [.agg #[.slice A g.ns.length c, .slice B g.es.length e]] w fun v w' => v = .tuple #[.int .u64 (if rightG g = 0 then sum0 (printG g) else 0), .int .i64 (rightG g)] ∧ Below w.heap.size w w' := by
  have hb := Below.refl w.heap.size w
  have hG_hb := hG
  have hL_hb := hL
  refine enter Tryz.func15 rfl rfl rfl ?_
  refine Wc.seq fun _ hK_1 => Wc.region ?_
  refine Wl.boxN rfl rfl ?_
  rintro g_o0 w_o0 hg_o0 hn_o0 hs_o0
  have hz_o0 := hs_o0.size
  have hb := hb.trans (hs_o0.mono hb.size)
  have hG := hG_hb.below hb
  have hL := hL_hb.below hb
  have hB_o0 := hn_o0
  have hl_o0 := hB_o0.lt
  refine Wl.sg rfl rfl <| Wl.sg rfl rfl <| Wl.nil <| Wq.next hK_1 <| Wc.seq fun _ hK_5 => Wc.region ?_
  refine Wl.l (l_loadS Tryz.underlying25 (by kernel_rfl) rfl (by exact fun j u hu => hB_o0.at hu)) rfl ?_
  refine Wl.call txt22SgA rfl rfl (GPrint_r S A c B e g _ hG hsz hL) rfl ?_
  rintro _ w_k0 ⟨rfl, hs_k0⟩
  have hz_k0 := hs_k0.size
  have hb := hb.trans (hs_k0.mono hb.size)
  have hG := hG_hb.below hb
  have hL := hL_hb.below hb
  refine Wl.mv rfl rfl <| Wl.y (y_extract rfl rfl) rfl <| Wl.y (y_extract rfl rfl) rfl <| Wl.sg rfl rfl <| Wl.sg rfl rfl <| Wl.nil <| Wq.next hK_5 <| Wc.seq fun _ hK_13 => Wc.seq fun _ hK_14 => Wc.region ?_
  refine Wl.mv rfl rfl <| Wl.y (y_neqi rfl rfl) rfl <| Wl.nil <| Wq.next hK_14 ?_
  refine Wc.cond rfl (fun c0_17 => ?_) (fun c0_17 => ?_)
  ·
   have c0_17_ := c0_17
   simp only [DZ] at c0_17
   refine Wc.seq fun _ hK_18 => Wc.region <| Wl.mv rfl rfl <| Wl.sg rfl rfl <| Wl.sg rfl rfl <| Wl.nil <| Wq.next hK_18 <| Wc.ret <| Wq.then_ret ?_
   refine ret2 rfl rfl rfl ?_
   exact ⟨_, rfl, by have hn : ¬ rightG g = 0 := (by simpa using c0_17); simp only [if_neg hn]; rfl, hb⟩
  have c0_17_ := c0_17
  simp only [DZ] at c0_17
  have h0 : rightG g = 0 := by simpa using c0_17
  obtain ⟨hn1, he1, hok⟩ := rightG_zero h0
  have hpl := print_len hG.oks hG.oke hok hn1 he1
  have hpl2 : (if rightG g = 0 then printG g else []).length ≤ 140737488351232 := by rw [if_pos h0]; unfold printG; rw [List.length_append]; omega
  refine Wc.skip <| Wq.next hK_13 <| Wc.seq fun _ hK_22 => Wc.region <| Wl.mv rfl rfl ?_
  refine Wl.bytesN Tryz.underlying9 Tryz.underlying33 Tryz.underlying5 rfl rfl ?_
  rintro g_o14 c_o14 w_o14 hg_o14 hl_o14 hn_o14 hs_o14
  have hz_o14 := hs_o14.size
  have hb := hb.trans (hs_o14.mono hb.size)
  have hG := hG_hb.below hb
  have hL := hL_hb.below hb
  have hR_o14 := hn_o14
  refine Wl.call txt26SgA rfl rfl (Sum_r _ _ _ (if rightG g = 0 then printG g else []) _ hpl2 hR_o14) rfl ?_
  rintro _ w_k1 ⟨rfl, hs_k1⟩
  have hz_k1 := hs_k1.size
  have hb := hb.trans (hs_k1.mono hb.size)
  have hG := hG_hb.below hb
  have hL := hL_hb.below hb
  refine Wl.sg rfl rfl <| Wl.sg rfl rfl <| Wl.nil <| Wq.next hK_22 <| Wc.ret ?_
  refine ret2 rfl rfl rfl ?_
  exact ⟨_, rfl, by simp only [h0, if_true], hb⟩
end Go.Proofs.YtobhpejaoakpmaaGreatDoor
