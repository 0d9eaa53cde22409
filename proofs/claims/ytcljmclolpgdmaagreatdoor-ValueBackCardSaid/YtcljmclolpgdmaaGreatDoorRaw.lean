/- The raw value of a statement about values, and what it is. -/
import Derived.Test.YtcljmclolpgdmaaGreatDoorShown
namespace Go.Proofs.YtcljmclolpgdmaaGreatDoor
open Go.RowKit Go.Bw Go.Bw.Fl
set_option linter.unusedVariables false
set_option linter.unusedSimpArgs false
theorem exn32Raw : Extn Tryz.prog 32 Extern.MathFloatBits.float64frombits := fun args w => run_callFunc_extern Tryz.func32 (by kernel_rfl) (by kernel_rfl) (by kernel_rfl) (by kernel_rfl) args w
theorem fa24_0Raw (p : Addr) (w : World) : (Instr.fieldAt 24 (.pointer (some p)) 0).run Tryz.prog w = .ok (.pointer (some (p.add 0))) w := run_fieldAt (i := 0) (sz := 0) Tryz.underlying24 rfl (by kernel_rfl) p w
theorem fa24_1Raw (p : Addr) (w : World) : (Instr.fieldAt 24 (.pointer (some p)) 1).run Tryz.prog w = .ok (.pointer (some (p.add 1))) w := run_fieldAt (i := 1) (sz := 0) Tryz.underlying24 rfl (by kernel_rfl) p w
theorem fa24_2Raw (p : Addr) (w : World) : (Instr.fieldAt 24 (.pointer (some p)) 2).run Tryz.prog w = .ok (.pointer (some (p.add 2))) w := run_fieldAt (i := 2) (sz := 0) Tryz.underlying24 rfl (by kernel_rfl) p w
theorem fa24_3Raw (p : Addr) (w : World) : (Instr.fieldAt 24 (.pointer (some p)) 3).run Tryz.prog w = .ok (.pointer (some (p.add 3))) w := run_fieldAt (i := 3) (sz := 0) Tryz.underlying24 rfl (by kernel_rfl) p w
theorem one2Raw : One Tryz.prog 2 := ⟨_, Tryz.underlying2, rfl, by kernel_rfl⟩
theorem one22Raw : One Tryz.prog 22 := ⟨_, Tryz.underlying22, rfl, by kernel_rfl⟩
theorem one3Raw : One Tryz.prog 3 := ⟨_, Tryz.underlying3, rfl, by kernel_rfl⟩
theorem one9Raw : One Tryz.prog 9 := ⟨_, Tryz.underlying9, rfl, by kernel_rfl⟩
structure Raw where
  k : Int
  n : Int
  b : Int
  s : List UInt8
def Raw.cells (r : Raw) : List Value := [.int .i64 r.k, .int .i64 r.n, .int .u64 r.b, str r.s]
def Raw.enc (r : Raw) : Value := .agg r.cells.toArray
structure Raw.Ok (r : Raw) : Prop where
  n0 : -9223372036854775808 ≤ r.n
  n1 : r.n ≤ 9223372036854775807
  b0 : 0 ≤ r.b
  b1 : r.b ≤ 18446744073709551615
  sl : r.s.length ≤ 140737488351232
def Raw.val (r : Raw) : Val := ⟨r.k, r.n, r.b.toNat, r.s.take 60⟩
theorem Raw.Ok.val {r : Raw} (h : r.Ok) : r.val.Ok := ⟨h.n0, h.n1, by show r.b.toNat < _; have := h.b0; have := h.b1; omega⟩
theorem of_r (r : Raw) (o : r.Ok) (w : World) : Ret Tryz.prog 13 [r.enc] w fun v w' => v = r.val.enc ∧ Below w.heap.size w w' := by
  have hsl := o.sl
  have hb := Below.refl w.heap.size w
  refine enter Tryz.func13 rfl rfl rfl ?_
  refine Wc.seq fun _ hK_1 => ?_
  refine Wc.region ?_
  refine Wl.boxN rfl rfl ?_
  rintro g_o0 w_o0 hg_o0 hn_o0 hs_o0
  have hz_o0 := hs_o0.size
  have hb := hb.trans (hs_o0.mono hb.size)
  have hB_o0 := hn_o0
  have hl_o0 := hB_o0.lt
  refine Wl.allocN (z := (.agg #[(.int .i64 0), (.int .i64 0), (.float .f64 0), (str [])])) (by kernel_rfl) rfl ?_
  rintro g_o1 w_o1 hg_o1 hn_o1 hs_o1
  have hz_o1 := hs_o1.size
  have hb := hb.trans (hs_o1.mono hb.size)
  try have hB_o0 := Blk.below hB_o0 hs_o1
  have hB_o1 := hn_o1
  have hl_o1 := hB_o1.lt
  refine Wl.nil ?_
  refine Wq.next hK_1 ?_
  refine Wc.seq fun _ hK_4 => ?_
  refine Wc.any (n := 16) (fun w' => Below w.heap.size w w' ∧ Blk w' g_o0 24 r.cells) #[false, false, false, false, false, false, false, false, false, false, false, false, false, false, false, false] (by kernel_rfl) rfl (by kernel_rfl) ?_
  refine Wa.drew ?_
  rintro w_g1 hs_g1
  have hz_g1 := hs_g1.size
  have hb := hb.trans (hs_g1.mono hb.size)
  try have hB_o0 := Blk.below hB_o0 hs_g1
  try have hB_o1 := Blk.below hB_o1 hs_g1
  refine Wa.take (i := 0) #[true, false, false, false, false, false, false, false, false, false, false, false, false, false, false, false] rfl (by kernel_rfl) (fun _ _ _ h => h) rfl (fun wq hq => Yl.ld (y_fieldAddr (fa24_0Raw _) rfl)) ⟨hb, hB_o0⟩ ?_
  refine Wa.take (i := 1) #[true, true, false, false, false, false, false, false, false, false, false, false, false, false, false, false] rfl (by kernel_rfl) (fun _ _ _ h => h) rfl (fun wq hq => l_load one3Raw rfl (by obtain ⟨hq, hB_o0⟩ := hq; first | exact hB_o0.at rfl | exact hB_o0.cell 0 | exact hB_o1.cell 0 | assumption)) ⟨hb, hB_o0⟩ ?_
  refine Wa.take (i := 2) #[true, true, true, false, false, false, false, false, false, false, false, false, false, false, false, false] rfl (by kernel_rfl) (fun _ _ _ h => h) rfl (fun wq hq => Yl.ld (y_fieldAddr (fa24_1Raw _) rfl)) ⟨hb, hB_o0⟩ ?_
  refine Wa.take (i := 3) #[true, true, true, true, false, false, false, false, false, false, false, false, false, false, false, false] rfl (by kernel_rfl) (fun _ _ _ h => h) rfl (fun wq hq => l_load one2Raw rfl (by obtain ⟨hq, hB_o0⟩ := hq; first | exact hB_o0.at rfl | exact hB_o0.cell 0 | exact hB_o1.cell 0 | assumption)) ⟨hb, hB_o0⟩ ?_
  refine Wa.take (i := 4) #[true, true, true, true, true, false, false, false, false, false, false, false, false, false, false, false] rfl (by kernel_rfl) (fun _ _ _ h => h) rfl (fun wq hq => Yl.ld (y_fieldAddr (fa24_2Raw _) rfl)) ⟨hb, hB_o0⟩ ?_
  refine Wa.take (i := 5) #[true, true, true, true, true, true, false, false, false, false, false, false, false, false, false, false] rfl (by kernel_rfl) (fun _ _ _ h => h) rfl (fun wq hq => l_load one22Raw rfl (by obtain ⟨hq, hB_o0⟩ := hq; first | exact hB_o0.at rfl | exact hB_o0.cell 0 | exact hB_o1.cell 0 | assumption)) ⟨hb, hB_o0⟩ ?_
  refine Wa.take (i := 7) #[true, true, true, true, true, true, false, true, false, false, false, false, false, false, false, false] rfl (by kernel_rfl) (fun _ _ _ h => h) rfl (fun wq hq => Yl.ld (y_fieldAddr (fa24_3Raw _) rfl)) ⟨hb, hB_o0⟩ ?_
  refine Wa.take (i := 8) #[true, true, true, true, true, true, false, true, true, false, false, false, false, false, false, false] rfl (by kernel_rfl) (fun _ _ _ h => h) rfl (fun wq hq => l_load one9Raw rfl (by obtain ⟨hq, hB_o0⟩ := hq; first | exact hB_o0.at rfl | exact hB_o0.cell 0 | exact hB_o1.cell 0 | assumption)) ⟨hb, hB_o0⟩ ?_
  refine Wa.take (i := 9) #[true, true, true, true, true, true, false, true, true, true, false, false, false, false, false, false] rfl (by kernel_rfl) (fun _ _ _ h => h) rfl (fun wq hq => Yl.ld (y_fieldAddr (fa24_3Raw _) rfl)) ⟨hb, hB_o0⟩ ?_
  refine Wa.take (i := 10) #[true, true, true, true, true, true, false, true, true, true, true, false, false, false, false, false] rfl (by kernel_rfl) (fun _ _ _ h => h) rfl (fun wq hq => l_load one9Raw rfl (by obtain ⟨hq, hB_o0⟩ := hq; first | exact hB_o0.at rfl | exact hB_o0.cell 0 | exact hB_o1.cell 0 | assumption)) ⟨hb, hB_o0⟩ ?_
  refine Wa.take (i := 11) #[true, true, true, true, true, true, false, true, true, true, true, true, false, false, false, false] rfl (by kernel_rfl) (fun _ _ _ h => h) rfl (fun wq hq => Yl.ld (y_lens Tryz.underlying9 (by omega) rfl)) ⟨hb, hB_o0⟩ ?_
  refine Wa.take (i := 12) #[true, true, true, true, true, true, false, true, true, true, true, true, true, false, false, false] rfl (by kernel_rfl) (fun _ _ _ h => h) rfl (fun wq hq => Yl.ld (y_eq (y_min rfl rfl) (int_eq (show min (r.s.length : Int) 60 = ((min r.s.length 60 : Nat) : Int) by omega)))) ⟨hb, hB_o0⟩ ?_
  refine Wa.take (i := 13) #[true, true, true, true, true, true, false, true, true, true, true, true, true, true, false, false] rfl (by kernel_rfl) (fun _ _ _ h => h) rfl (fun wq hq => Yl.ld (y_slicesH Tryz.underlying9 rfl rfl (by omega) (by omega))) ⟨hb, hB_o0⟩ ?_
  refine Wa.some (rs := [6]) (by kernel_rfl) rfl ?_
  refine Ws.cons #[true, true, true, true, true, true, true, true, true, true, true, true, true, true, false, false] rfl rfl (fun _ hK_18 => ?_) ?_
  ·
   refine Wl.y (y_b2f exn32Raw rfl rfl) rfl ?_
   refine Wl.nil ?_
   refine Wq.back hK_18 ⟨hb, hB_o0⟩ ?_
   refine Wa.take (i := 14) #[true, true, true, true, true, true, true, true, true, true, true, true, true, true, true, false] rfl (by kernel_rfl) (fun _ _ _ h => h) rfl (fun wq hq => Yl.ld (y_buildS (z := [(.int .i64 0), (.int .i64 0), (.float .f64 0), (str [])]) (pl := [(0, 1), (1, 1), (2, 1), (3, 1)]) (cs := [_, _, _, _]) Tryz.underlying28 (by kernel_rfl) (by kernel_rfl) rfl rfl rfl)) ⟨hb, hB_o0⟩ ?_
   refine Wa.some (rs := [15]) (by kernel_rfl) rfl ?_
   refine Ws.cons #[true, true, true, true, true, true, true, true, true, true, true, true, true, true, true, true] rfl rfl (fun _ hK_21 => ?_) ?_
   ·
    refine Wl.storeS (by kernel_rfl) rfl rfl hB_o1 rfl rfl ?_
    rintro w_s0 hn_s0 hg_s0
    have hz_s0 := hg_s0.size
    have hb := below_blk hb hg_s0 hb.size (by omega)
    try have hB_o0 := hB_o0.over hg_s0 (by omega)
    have hB_o1 := hn_s0
    refine Wl.nil ?_
    refine Wq.back hK_21 ⟨hb, hB_o0⟩ ?_
    refine Wa.done (by kernel_rfl) ?_
    refine Wq.next hK_4 ?_
    refine Wc.ret ?_
    refine retN (rs := [.cell 2 28]) (vs := [_]) rfl (.cell rfl (loadS Tryz.underlying28 (by kernel_rfl) (fun j u hu => hB_o1.at hu)) .nil) ?_
    exact ⟨_, rfl, by unfold Raw.val Val.enc Val.cells; rw [show ((min r.s.length 60 : Nat) : Int).toNat = min r.s.length 60 from rfl, List.take_eq_take_iff.2 (show min (min r.s.length 60) r.s.length = min 60 r.s.length by omega)]; rfl, hb⟩
   exact Ws.nil
  exact Ws.nil
theorem sameV_refl (x : Val) : sameV x x = true := by unfold sameV; simp
end Go.Proofs.YtcljmclolpgdmaaGreatDoor
