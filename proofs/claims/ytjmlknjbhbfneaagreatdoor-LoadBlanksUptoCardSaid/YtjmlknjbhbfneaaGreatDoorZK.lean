/- The reference: Right, Same, null, Truth, by the calculus. · bridlewayref02.Int and sign, by the calculus. · bridlewayref02.Text, by the calculus. -/
import Derived.Test.YtjmlknjbhbfneaaGreatDoorZH
import Derived.Test.YtjmlknjbhbfneaaGreatDoorZD
import Derived.Test.YtjmlknjbhbfneaaGreatDoorZJ
namespace Go.Proofs.YtjmlknjbhbfneaaGreatDoor
open Go.RowKit Go.Bw Go.Bw.Fl
set_option linter.unusedVariables false
set_option linter.unusedSimpArgs false
theorem fa96_0RefR (p : Addr) (w : World) : (Instr.fieldAt 96 (.pointer (some p)) 0).run Tryz.prog w = .ok (.pointer (some (p.add 0))) w := run_fieldAt (i := 0) (sz := 0) Tryz.underlying96 rfl (by kernel_rfl) p w
theorem fa96_1RefR (p : Addr) (w : World) : (Instr.fieldAt 96 (.pointer (some p)) 1).run Tryz.prog w = .ok (.pointer (some (p.add 1))) w := run_fieldAt (i := 1) (sz := 0) Tryz.underlying96 rfl (by kernel_rfl) p w
theorem fa96_2RefR (p : Addr) (w : World) : (Instr.fieldAt 96 (.pointer (some p)) 2).run Tryz.prog w = .ok (.pointer (some (p.add 2))) w := run_fieldAt (i := 2) (sz := 0) Tryz.underlying96 rfl (by kernel_rfl) p w
theorem fa96_3RefR (p : Addr) (w : World) : (Instr.fieldAt 96 (.pointer (some p)) 3).run Tryz.prog w = .ok (.pointer (some (p.add 3))) w := run_fieldAt (i := 3) (sz := 0) Tryz.underlying96 rfl (by kernel_rfl) p w
theorem one2RefR : One Tryz.prog 2 := ⟨_, Tryz.underlying2, rfl, by kernel_rfl⟩
theorem one3RefR : One Tryz.prog 3 := ⟨_, Tryz.underlying3, rfl, by kernel_rfl⟩
theorem one9RefR : One Tryz.prog 9 := ⟨_, Tryz.underlying9, rfl, by kernel_rfl⟩
theorem one94RefR : One Tryz.prog 94 := ⟨_, Tryz.underlying94, rfl, by kernel_rfl⟩
theorem txt82RefR : Txt Tryz.prog 82 := ⟨_, Tryz.func82, by kernel_rfl, rfl⟩   -- bridleway/bridlewayref01.Bits
theorem key_canon_iff {a b : Nat} (ha : a < 18446744073709551616) (hb : b < 18446744073709551616) : keyW a = keyW b ↔ canon a = canon b :=
  ⟨canon_inj ha hb, fun h => by rw [← key_canon a, ← key_canon b, h]⟩
theorem RSame_r (a b : Val) (oa : a.Ok) (ob : b.Ok) (w : World) : Ret Tryz.prog 50 [a.enc, b.enc] w fun v w' => v = .bool (sameV a b) ∧ Below w.heap.size w w' := by
  have hk := key_canon_iff oa.f1 ob.f1
  have hb := Below.refl w.heap.size w
  refine enter Tryz.func50 rfl rfl rfl <| Wc.seq fun _ hK_1 => Wc.region <| Wl.boxN rfl rfl ?_
  rintro g_o0 w_o0 hg_o0 hn_o0 hs_o0
  have hz_o0 := hs_o0.size
  have hb := hb.trans (hs_o0.mono hb.size)
  have hB_o0 := hn_o0
  have hl_o0 := hB_o0.lt
  refine Wl.boxN rfl rfl ?_
  rintro g_o1 w_o1 hg_o1 hn_o1 hs_o1
  have hz_o1 := hs_o1.size
  have hb := hb.trans (hs_o1.mono hb.size)
  have hB_o0 := Blk.below hB_o0 hs_o1
  have hB_o1 := hn_o1
  have hl_o1 := hB_o1.lt
  refine Wl.sg rfl rfl <| Wl.nil <| Wq.next hK_1 <| Wc.seq fun _ hK_5 => Wc.quiet (by kernel_rfl) (by kernel_rfl) <| Wy.y (y_fieldAddr (fa96_0RefR _) rfl) rfl <| Wy.l (fun wq hq => l_load one3RefR rfl (by have hB_o0 := Blk.below hB_o0 hq; have hB_o1 := Blk.below hB_o1 hq; first | exact hB_o0.at rfl | exact hB_o1.at rfl | exact hB_o0.cell 0 | exact hB_o1.cell 0 | assumption)) rfl <| Wy.y (y_fieldAddr (fa96_0RefR _) rfl) rfl <| Wy.l (fun wq hq => l_load one3RefR rfl (by have hB_o0 := Blk.below hB_o0 hq; have hB_o1 := Blk.below hB_o1 hq; first | exact hB_o0.at rfl | exact hB_o1.at rfl | exact hB_o0.cell 0 | exact hB_o1.cell 0 | assumption)) rfl <| Wy.y (y_eqli rfl rfl) rfl <| Wy.y (y_move rfl) rfl <| Wy.guardT rfl rfl rfl (fun g_12 => ?_) (fun g_12 => ?_)
  ·
   have g_12_ := g_12
   refine Wy.y (y_fieldAddr (fa96_1RefR _) rfl) rfl <| Wy.on' rfl rfl g_12_ <| Wy.l (fun wq hq => l_load one2RefR rfl (by have hB_o0 := Blk.below hB_o0 hq; have hB_o1 := Blk.below hB_o1 hq; first | exact hB_o0.at rfl | exact hB_o1.at rfl | exact hB_o0.cell 0 | exact hB_o1.cell 0 | assumption)) rfl <| Wy.on' rfl rfl g_12_ <| Wy.y (y_fieldAddr (fa96_1RefR _) rfl) rfl <| Wy.on' rfl rfl g_12_ <| Wy.l (fun wq hq => l_load one2RefR rfl (by have hB_o0 := Blk.below hB_o0 hq; have hB_o1 := Blk.below hB_o1 hq; first | exact hB_o0.at rfl | exact hB_o1.at rfl | exact hB_o0.cell 0 | exact hB_o1.cell 0 | assumption)) rfl <| Wy.on' rfl rfl g_12_ <| Wy.y (y_eqli rfl rfl) rfl <| Wy.y (y_pickT rfl g_12_ rfl) rfl <| Wy.y (y_move rfl) rfl <| Wy.guardT rfl rfl rfl (fun g_20 => ?_) (fun g_20 => ?_)
   ·
    have g_20_ := g_20
    refine Wy.y (y_fieldAddr (fa96_3RefR _) rfl) rfl <| Wy.on' rfl rfl g_20_ <| Wy.l (fun wq hq => l_load one9RefR rfl (by have hB_o0 := Blk.below hB_o0 hq; have hB_o1 := Blk.below hB_o1 hq; first | exact hB_o0.at rfl | exact hB_o1.at rfl | exact hB_o0.cell 0 | exact hB_o1.cell 0 | assumption)) rfl <| Wy.on' rfl rfl g_20_ <| Wy.y (y_fieldAddr (fa96_3RefR _) rfl) rfl <| Wy.on' rfl rfl g_20_ <| Wy.l (fun wq hq => l_load one9RefR rfl (by have hB_o0 := Blk.below hB_o0 hq; have hB_o1 := Blk.below hB_o1 hq; first | exact hB_o0.at rfl | exact hB_o1.at rfl | exact hB_o0.cell 0 | exact hB_o1.cell 0 | assumption)) rfl <| Wy.on' rfl rfl g_20_ <| Wy.y (y_eqls rfl rfl) rfl <| Wy.y (y_pickT rfl g_20_ rfl) rfl <| Wy.y (y_move rfl) rfl <| Wy.guardT rfl rfl rfl (fun g_28 => ?_) (fun g_28 => ?_)
    ·
     have g_28_ := g_28
     refine Wy.y (y_fieldAddr (fa96_2RefR _) rfl) rfl <| Wy.on' rfl rfl g_28_ <| Wy.l (fun wq hq => l_load one94RefR rfl (by have hB_o0 := Blk.below hB_o0 hq; have hB_o1 := Blk.below hB_o1 hq; first | exact hB_o0.at rfl | exact hB_o1.at rfl | exact hB_o0.cell 0 | exact hB_o1.cell 0 | assumption)) rfl <| Wy.on' rfl rfl g_28_ <| Wy.call txt82RefR rfl rfl (fun wq hq => by have hB_o0 := Blk.below hB_o0 hq; have hB_o1 := Blk.below hB_o1 hq; exact Ret.quiet (Bits_r _ oa.f1 _)) rfl <| Wy.on' rfl rfl g_28_ <| Wy.y (y_fieldAddr (fa96_2RefR _) rfl) rfl <| Wy.on' rfl rfl g_28_ <| Wy.l (fun wq hq => l_load one94RefR rfl (by have hB_o0 := Blk.below hB_o0 hq; have hB_o1 := Blk.below hB_o1 hq; first | exact hB_o0.at rfl | exact hB_o1.at rfl | exact hB_o0.cell 0 | exact hB_o1.cell 0 | assumption)) rfl <| Wy.on' rfl rfl g_28_ <| Wy.call txt82RefR rfl rfl (fun wq hq => by have hB_o0 := Blk.below hB_o0 hq; have hB_o1 := Blk.below hB_o1 hq; exact Ret.quiet (Bits_r _ ob.f1 _)) rfl <| Wy.on' rfl rfl g_28_ <| Wy.y (y_eqli rfl rfl) rfl <| Wy.y (y_pickT rfl g_28_ rfl) rfl <| Wy.y (y_assign rfl) rfl <| Wy.nil fun w_g1 hs_g1 => ?_
     have hz_g1 := hs_g1.size
     have hb := hb.trans (hs_g1.mono hb.size)
     refine Wq.next hK_5 <| Wc.ret <| ret1 rfl rfl ?_
     exact ⟨_, rfl, bool_eq (by unfold sameV; rw [Bool.eq_iff_iff]; simp only [decide_eq_true_eq, hk, beqN]; clear hk; simp_all), hb⟩
    have g_28_ := g_28
    refine Wy.off' rfl rfl g_28_ rfl rfl <| Wy.off' rfl rfl g_28_ rfl rfl <| Wy.off' rfl rfl g_28_ rfl rfl <| Wy.off' rfl rfl g_28_ rfl rfl <| Wy.off' rfl rfl g_28_ rfl rfl <| Wy.off' rfl rfl g_28_ rfl rfl <| Wy.y (y_pickF rfl g_28_ rfl) rfl <| Wy.y (y_assign rfl) rfl <| Wy.nil fun w_g1 hs_g1 => ?_
    have hz_g1 := hs_g1.size
    have hb := hb.trans (hs_g1.mono hb.size)
    refine Wq.next hK_5 <| Wc.ret <| ret1 rfl rfl ?_
    exact ⟨_, rfl, bool_eq (by unfold sameV; rw [Bool.eq_iff_iff]; simp only [decide_eq_true_eq, hk, beqN]; clear hk; simp_all), hb⟩
   have g_20_ := g_20
   refine Wy.off' rfl rfl g_20_ rfl rfl <| Wy.off' rfl rfl g_20_ rfl rfl <| Wy.off' rfl rfl g_20_ rfl rfl <| Wy.off' rfl rfl g_20_ rfl rfl <| Wy.y (y_pickF rfl g_20_ rfl) rfl <| Wy.y (y_move rfl) rfl <| Wy.off' rfl rfl rfl rfl rfl <| Wy.off' rfl rfl rfl rfl rfl <| Wy.off' rfl rfl rfl rfl rfl <| Wy.off' rfl rfl rfl rfl rfl <| Wy.off' rfl rfl rfl rfl rfl <| Wy.off' rfl rfl rfl rfl rfl <| Wy.off' rfl rfl rfl rfl rfl <| Wy.y (y_pickF rfl rfl rfl) rfl <| Wy.y (y_assign rfl) rfl <| Wy.nil fun w_g1 hs_g1 => ?_
   have hz_g1 := hs_g1.size
   have hb := hb.trans (hs_g1.mono hb.size)
   refine Wq.next hK_5 <| Wc.ret <| ret1 rfl rfl ?_
   exact ⟨_, rfl, bool_eq (by unfold sameV; rw [Bool.eq_iff_iff]; simp only [decide_eq_true_eq, hk, beqN]; clear hk; simp_all), hb⟩
  have g_12_ := g_12
  refine Wy.off' rfl rfl g_12_ rfl rfl <| Wy.off' rfl rfl g_12_ rfl rfl <| Wy.off' rfl rfl g_12_ rfl rfl <| Wy.off' rfl rfl g_12_ rfl rfl <| Wy.y (y_pickF rfl g_12_ rfl) rfl <| Wy.y (y_move rfl) rfl <| Wy.off' rfl rfl rfl rfl rfl <| Wy.off' rfl rfl rfl rfl rfl <| Wy.off' rfl rfl rfl rfl rfl <| Wy.off' rfl rfl rfl rfl rfl <| Wy.off' rfl rfl rfl rfl rfl <| Wy.y (y_pickF rfl rfl rfl) rfl <| Wy.y (y_move rfl) rfl <| Wy.off' rfl rfl rfl rfl rfl <| Wy.off' rfl rfl rfl rfl rfl <| Wy.off' rfl rfl rfl rfl rfl <| Wy.off' rfl rfl rfl rfl rfl <| Wy.off' rfl rfl rfl rfl rfl <| Wy.off' rfl rfl rfl rfl rfl <| Wy.off' rfl rfl rfl rfl rfl <| Wy.y (y_pickF rfl rfl rfl) rfl <| Wy.y (y_assign rfl) rfl <| Wy.nil fun w_g1 hs_g1 => ?_
  have hz_g1 := hs_g1.size
  have hb := hb.trans (hs_g1.mono hb.size)
  refine Wq.next hK_5 <| Wc.ret <| ret1 rfl rfl ?_
  exact ⟨_, rfl, bool_eq (by unfold sameV; rw [Bool.eq_iff_iff]; simp only [decide_eq_true_eq, hk, beqN]; clear hk; simp_all), hb⟩
end Go.Proofs.YtjmlknjbhbfneaaGreatDoor
namespace Go.Proofs.YtjmlknjbhbfneaaGreatDoor
open Go.RowKit Go.Bw Go.Bw.Fl
set_option linter.unusedVariables false
set_option linter.unusedSimpArgs false
end Go.Proofs.YtjmlknjbhbfneaaGreatDoor
namespace Go.Proofs.YtjmlknjbhbfneaaGreatDoor
open Go.RowKit Go.Bw Go.Bw.Fl
set_option linter.unusedVariables false
set_option linter.unusedSimpArgs false
end Go.Proofs.YtjmlknjbhbfneaaGreatDoor
