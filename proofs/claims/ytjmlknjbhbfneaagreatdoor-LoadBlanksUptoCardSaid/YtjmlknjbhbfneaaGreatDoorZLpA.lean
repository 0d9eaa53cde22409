/- LoadPrints, by the calculus. -/
import Derived.Test.YtjmlknjbhbfneaaGreatDoorZLE
import Derived.Test.YtjmlknjbhbfneaaGreatDoorZGD
namespace Go.Proofs.YtjmlknjbhbfneaaGreatDoor
open Go.RowKit Go.Bw Go.Bw.Fl
set_option linter.unusedVariables false
set_option linter.unusedSimpArgs false
theorem fa27_0LpA (p : Addr) (w : World) : (Instr.fieldAt 27 (.pointer (some p)) 0).run Tryz.prog w = .ok (.pointer (some (p.add 0))) w := run_fieldAt (i := 0) (sz := 0) Tryz.underlying27 rfl (by kernel_rfl) p w
theorem fa27_1LpA (p : Addr) (w : World) : (Instr.fieldAt 27 (.pointer (some p)) 1).run Tryz.prog w = .ok (.pointer (some (p.add 1))) w := run_fieldAt (i := 1) (sz := 0) Tryz.underlying27 rfl (by kernel_rfl) p w
theorem one24LpA : One Tryz.prog 24 := ⟨_, Tryz.underlying24, rfl, by kernel_rfl⟩
theorem one25LpA : One Tryz.prog 25 := ⟨_, Tryz.underlying25, rfl, by kernel_rfl⟩
theorem sz43LpA : (Tryz.prog.info? 43).map (·.size) = some 3 := by kernel_rfl
theorem sz46LpA : (Tryz.prog.info? 46).map (·.size) = some 6 := by kernel_rfl
theorem few8_r (A : Option Addr) (c : Nat) (B : Option Addr) (e : Nat) (g : GV) (w : World) (hc : g.ns.length ≤ c) (he : g.es.length ≤ e) (h1 : g.ns.length ≤ 1099511627776) (h2 : g.es.length ≤ 1099511627776) :
    Ret Tryz.prog 13 [.agg #[.slice A g.ns.length c, .slice B g.es.length e]] w fun v w' => v = .agg #[.slice A (fewG g).ns.length c, .slice B (fewG g).es.length e] ∧ Below w.heap.size w w' := by
  have hb := Below.refl w.heap.size w
  refine enter Tryz.func13 rfl rfl rfl <| Wc.seq fun _ hK_1 => Wc.region <| Wl.boxN rfl rfl ?_
  rintro g_o0 w_o0 hg_o0 hn_o0 hs_o0
  have hz_o0 := hs_o0.size
  have hb := hb.trans (hs_o0.mono hb.size)
  have hB_o0 := hn_o0
  have hl_o0 := hB_o0.lt
  refine Wl.allocN (z := (.agg #[(.slice none 0 0), (.slice none 0 0)])) (by kernel_rfl) rfl ?_
  rintro g_o1 w_o1 hg_o1 hn_o1 hs_o1
  have hz_o1 := hs_o1.size
  have hb := hb.trans (hs_o1.mono hb.size)
  have hB_o0 := Blk.below hB_o0 hs_o1
  have hB_o1 := hn_o1
  have hl_o1 := hB_o1.lt
  refine Wl.nil <| Wq.next hK_1 <| Wc.seq fun _ hK_4 => Wc.any (n := 16) (fun w' => Below w.heap.size w w' ∧ Blk w' g_o0 27 [.slice A g.ns.length c, .slice B g.es.length e]) #[false, false, false, false, false, false, false, false, false, false, false, false, false, false, false, false] (by kernel_rfl) rfl (by kernel_rfl) <| Wa.drew ?_
  rintro w_g1 hs_g1
  have hz_g1 := hs_g1.size
  have hb := hb.trans (hs_g1.mono hb.size)
  have hB_o0 := Blk.below hB_o0 hs_g1
  have hB_o1 := Blk.below hB_o1 hs_g1
  refine Wa.take (i := 0) #[true, false, false, false, false, false, false, false, false, false, false, false, false, false, false, false] rfl (by kernel_rfl) (fun _ _ _ h => h) rfl (fun wq hq => Yl.ld (y_fieldAddr (fa27_0LpA _) rfl)) ⟨hb, hB_o0⟩ <| Wa.take (i := 1) #[true, true, false, false, false, false, false, false, false, false, false, false, false, false, false, false] rfl (by kernel_rfl) (fun _ _ _ h => h) rfl (fun wq hq => l_load one24LpA rfl (by obtain ⟨hq, hB_o0⟩ := hq; exact hB_o0.at (j := 0) rfl)) ⟨hb, hB_o0⟩ <| Wa.take (i := 2) #[true, true, true, false, false, false, false, false, false, false, false, false, false, false, false, false] rfl (by kernel_rfl) (fun _ _ _ h => h) rfl (fun wq hq => Yl.ld (y_fieldAddr (fa27_0LpA _) rfl)) ⟨hb, hB_o0⟩ <| Wa.take (i := 3) #[true, true, true, true, false, false, false, false, false, false, false, false, false, false, false, false] rfl (by kernel_rfl) (fun _ _ _ h => h) rfl (fun wq hq => l_load one24LpA rfl (by obtain ⟨hq, hB_o0⟩ := hq; exact hB_o0.at (j := 0) rfl)) ⟨hb, hB_o0⟩ <| Wa.take (i := 4) #[true, true, true, true, true, false, false, false, false, false, false, false, false, false, false, false] rfl (by kernel_rfl) (fun _ _ _ h => h) rfl (fun wq hq => Yl.ld (y_lenl Tryz.underlying24 (by omega) rfl)) ⟨hb, hB_o0⟩ <| Wa.take (i := 5) #[true, true, true, true, true, true, false, false, false, false, false, false, false, false, false, false] rfl (by kernel_rfl) (fun _ _ _ h => h) rfl (fun wq hq => Yl.ld (y_min rfl rfl)) ⟨hb, hB_o0⟩ <| Wa.take (i := 6) #[true, true, true, true, true, true, true, false, false, false, false, false, false, false, false, false] rfl (by kernel_rfl) (fun _ _ _ h => h) rfl (fun wq hq => Yl.ld (y_slicelH Tryz.underlying24 sz43LpA rfl rfl (by omega) (by omega))) ⟨hb, hB_o0⟩ <| Wa.take (i := 7) #[true, true, true, true, true, true, true, true, false, false, false, false, false, false, false, false] rfl (by kernel_rfl) (fun _ _ _ h => h) rfl (fun wq hq => Yl.ld (y_fieldAddr (fa27_1LpA _) rfl)) ⟨hb, hB_o0⟩ <| Wa.take (i := 8) #[true, true, true, true, true, true, true, true, true, false, false, false, false, false, false, false] rfl (by kernel_rfl) (fun _ _ _ h => h) rfl (fun wq hq => l_load one25LpA rfl (by obtain ⟨hq, hB_o0⟩ := hq; exact hB_o0.at (j := 1) rfl)) ⟨hb, hB_o0⟩ <| Wa.take (i := 9) #[true, true, true, true, true, true, true, true, true, true, false, false, false, false, false, false] rfl (by kernel_rfl) (fun _ _ _ h => h) rfl (fun wq hq => Yl.ld (y_fieldAddr (fa27_1LpA _) rfl)) ⟨hb, hB_o0⟩ <| Wa.take (i := 10) #[true, true, true, true, true, true, true, true, true, true, true, false, false, false, false, false] rfl (by kernel_rfl) (fun _ _ _ h => h) rfl (fun wq hq => l_load one25LpA rfl (by obtain ⟨hq, hB_o0⟩ := hq; exact hB_o0.at (j := 1) rfl)) ⟨hb, hB_o0⟩ <| Wa.take (i := 11) #[true, true, true, true, true, true, true, true, true, true, true, true, false, false, false, false] rfl (by kernel_rfl) (fun _ _ _ h => h) rfl (fun wq hq => Yl.ld (y_lenl Tryz.underlying25 (by omega) rfl)) ⟨hb, hB_o0⟩ <| Wa.take (i := 12) #[true, true, true, true, true, true, true, true, true, true, true, true, true, false, false, false] rfl (by kernel_rfl) (fun _ _ _ h => h) rfl (fun wq hq => Yl.ld (y_min rfl rfl)) ⟨hb, hB_o0⟩ <| Wa.take (i := 13) #[true, true, true, true, true, true, true, true, true, true, true, true, true, true, false, false] rfl (by kernel_rfl) (fun _ _ _ h => h) rfl (fun wq hq => Yl.ld (y_slicelH Tryz.underlying25 sz46LpA rfl rfl (by omega) (by omega))) ⟨hb, hB_o0⟩ <| Wa.take (i := 14) #[true, true, true, true, true, true, true, true, true, true, true, true, true, true, true, false] rfl (by kernel_rfl) (fun _ _ _ h => h) rfl (fun wq hq => Yl.ld (y_buildS (z := [(.slice none 0 0), (.slice none 0 0)]) (pl := [(0, 1), (1, 1)]) (cs := [_, _]) Tryz.underlying27 (by kernel_rfl) (by kernel_rfl) rfl rfl rfl)) ⟨hb, hB_o0⟩ <| Wa.some (rs := [15]) (by kernel_rfl) rfl <| Ws.cons #[true, true, true, true, true, true, true, true, true, true, true, true, true, true, true, true] rfl rfl (fun _ hK_20 => ?_) ?_
  ·
   refine Wl.storeS (by kernel_rfl) rfl rfl hB_o1 rfl rfl ?_
   rintro w_s0 hn_s0 hg_s0
   have hz_s0 := hg_s0.size
   have hb := below_blk hb hg_s0 hb.size (by omega)
   have hB_o0 := hB_o0.over hg_s0 (by omega)
   have hB_o1 := hn_s0
   refine Wl.nil <| Wq.back hK_20 ⟨hb, hB_o0⟩ <| Wa.done (by kernel_rfl) <| Wq.next hK_4 <| Wc.ret <| retN (rs := [.cell 2 27]) (vs := [_]) rfl (.cell rfl (loadS Tryz.underlying27 (by kernel_rfl) (fun j u hu => hB_o1.at hu)) .nil) ?_
   exact ⟨_, rfl, by rw [min_take, min_take]; rfl, hb⟩
  exact Ws.nil
end Go.Proofs.YtjmlknjbhbfneaaGreatDoor
