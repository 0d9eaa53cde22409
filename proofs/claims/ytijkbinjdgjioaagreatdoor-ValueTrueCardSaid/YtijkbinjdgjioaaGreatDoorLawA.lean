/- The statements about values, by the calculus: what they share; ValueTells, ValueOrder. -/
import Derived.Test.YtijkbinjdgjioaaGreatDoorShown
namespace Go.Proofs.YtijkbinjdgjioaaGreatDoor
open Go.RowKit Go.Bw Go.Bw.Fl
set_option linter.unusedVariables false
set_option linter.unusedSimpArgs false
theorem exn34LawA : Extn Tryz.prog 34 Extern.MathFloatBits.float64frombits := fun args w => run_callFunc_extern Tryz.func34 (by kernel_rfl) (by kernel_rfl) (by kernel_rfl) (by kernel_rfl) args w
theorem fa24_0LawA (p : Addr) (w : World) : (Instr.fieldAt 24 (.pointer (some p)) 0).run Tryz.prog w = .ok (.pointer (some (p.add 0))) w := run_fieldAt (i := 0) (sz := 0) Tryz.underlying24 rfl (by kernel_rfl) p w
theorem fa24_1LawA (p : Addr) (w : World) : (Instr.fieldAt 24 (.pointer (some p)) 1).run Tryz.prog w = .ok (.pointer (some (p.add 1))) w := run_fieldAt (i := 1) (sz := 0) Tryz.underlying24 rfl (by kernel_rfl) p w
theorem fa24_2LawA (p : Addr) (w : World) : (Instr.fieldAt 24 (.pointer (some p)) 2).run Tryz.prog w = .ok (.pointer (some (p.add 2))) w := run_fieldAt (i := 2) (sz := 0) Tryz.underlying24 rfl (by kernel_rfl) p w
theorem fa24_3LawA (p : Addr) (w : World) : (Instr.fieldAt 24 (.pointer (some p)) 3).run Tryz.prog w = .ok (.pointer (some (p.add 3))) w := run_fieldAt (i := 3) (sz := 0) Tryz.underlying24 rfl (by kernel_rfl) p w
theorem one2LawA : One Tryz.prog 2 := ⟨_, Tryz.underlying2, rfl, by kernel_rfl⟩
theorem one22LawA : One Tryz.prog 22 := ⟨_, Tryz.underlying22, rfl, by kernel_rfl⟩
theorem one3LawA : One Tryz.prog 3 := ⟨_, Tryz.underlying3, rfl, by kernel_rfl⟩
theorem one9LawA : One Tryz.prog 9 := ⟨_, Tryz.underlying9, rfl, by kernel_rfl⟩
theorem txt14LawA : Txt Tryz.prog 14 := ⟨_, Tryz.func14, by kernel_rfl, rfl⟩   -- bridleway/bridlewaylaw02.shown
theorem txt15LawA : Txt Tryz.prog 15 := ⟨_, Tryz.func15, by kernel_rfl, rfl⟩   -- bridleway/bridlewaylaw02.of
theorem txt19LawA : Txt Tryz.prog 19 := ⟨_, Tryz.func19, by kernel_rfl, rfl⟩   -- bridleway/bridlewayref02.Same
theorem txt22LawA : Txt Tryz.prog 22 := ⟨_, Tryz.func22, by kernel_rfl, rfl⟩   -- bridleway/value.Right
theorem txt27LawA : Txt Tryz.prog 27 := ⟨_, Tryz.func27, by kernel_rfl, rfl⟩   -- bridleway/value.Same
theorem txt28LawA : Txt Tryz.prog 28 := ⟨_, Tryz.func28, by kernel_rfl, rfl⟩   -- bridleway/bridlewayref02.Right
theorem txt29LawA : Txt Tryz.prog 29 := ⟨_, Tryz.func29, by kernel_rfl, rfl⟩   -- bridleway/value.Less
theorem txt30LawA : Txt Tryz.prog 30 := ⟨_, Tryz.func30, by kernel_rfl, rfl⟩   -- bridleway/bridlewayref02.Less
structure Raw where
  k : Int
  n : Int
  b : Int
  s : List UInt8
def Raw.cells (r : Raw) : List Value := [.int .i64 r.k, .int .i64 r.n, .int .u64 r.b, str r.s]
def Raw.enc (r : Raw) : Value := .agg r.cells.toArray
structure Raw.Ok (r : Raw) : Prop where
  n0 : -9223372036854775808 ≤ r.n
  n1 : r.n ≤ 9223372036854775807
  b0 : 0 ≤ r.b
  b1 : r.b ≤ 18446744073709551615
  sl : r.s.length ≤ 140737488351232
def Raw.val (r : Raw) : Val := ⟨r.k, r.n, r.b.toNat, r.s.take 60⟩
theorem Raw.Ok.val {r : Raw} (h : r.Ok) : r.val.Ok := ⟨h.n0, h.n1, by show r.b.toNat < _; have := h.b0; have := h.b1; omega⟩
theorem of_r (r : Raw) (o : r.Ok) (w : World) : Ret Tryz.prog 15 [r.enc] w fun v w' => v = r.val.enc ∧ Below w.heap.size w w' := by
  have hsl := o.sl
  have hb := Below.refl w.heap.size w
  refine enter Tryz.func15 rfl rfl rfl ?_
  refine Wc.seq fun _ hK_1 => ?_
  refine Wc.region ?_
  refine Wl.boxN rfl rfl ?_
  rintro g_o0 w_o0 hg_o0 hn_o0 hs_o0
  have hz_o0 := hs_o0.size
  have hb := hb.trans (hs_o0.mono hb.size)
  have hB_o0 := hn_o0
  have hl_o0 := hB_o0.lt
  refine Wl.allocN (z := (.agg #[(.int .i64 0), (.int .i64 0), (.float .f64 0), (str [])])) (by kernel_rfl) rfl ?_
  rintro g_o1 w_o1 hg_o1 hn_o1 hs_o1
  have hz_o1 := hs_o1.size
  have hb := hb.trans (hs_o1.mono hb.size)
  try have hB_o0 := Blk.below hB_o0 hs_o1
  have hB_o1 := hn_o1
  have hl_o1 := hB_o1.lt
  refine Wl.nil ?_
  refine Wq.next hK_1 ?_
  refine Wc.seq fun _ hK_4 => ?_
  refine Wc.any (n := 16) (fun w' => Below w.heap.size w w' ∧ Blk w' g_o0 24 r.cells) #[false, false, false, false, false, false, false, false, false, false, false, false, false, false, false, false] (by kernel_rfl) rfl (by kernel_rfl) ?_
  refine Wa.drew ?_
  rintro w_g1 hs_g1
  have hz_g1 := hs_g1.size
  have hb := hb.trans (hs_g1.mono hb.size)
  try have hB_o0 := Blk.below hB_o0 hs_g1
  try have hB_o1 := Blk.below hB_o1 hs_g1
  refine Wa.take (i := 0) #[true, false, false, false, false, false, false, false, false, false, false, false, false, false, false, false] rfl (by kernel_rfl) (fun _ _ _ h => h) rfl (fun wq hq => Yl.ld (y_fieldAddr (fa24_0LawA _) rfl)) ⟨hb, hB_o0⟩ ?_
  refine Wa.take (i := 1) #[true, true, false, false, false, false, false, false, false, false, false, false, false, false, false, false] rfl (by kernel_rfl) (fun _ _ _ h => h) rfl (fun wq hq => l_load one3LawA rfl (by obtain ⟨hq, hB_o0⟩ := hq; first | exact hB_o0.at rfl | exact hB_o0.cell 0 | exact hB_o1.cell 0 | assumption)) ⟨hb, hB_o0⟩ ?_
  refine Wa.take (i := 2) #[true, true, true, false, false, false, false, false, false, false, false, false, false, false, false, false] rfl (by kernel_rfl) (fun _ _ _ h => h) rfl (fun wq hq => Yl.ld (y_fieldAddr (fa24_1LawA _) rfl)) ⟨hb, hB_o0⟩ ?_
  refine Wa.take (i := 3) #[true, true, true, true, false, false, false, false, false, false, false, false, false, false, false, false] rfl (by kernel_rfl) (fun _ _ _ h => h) rfl (fun wq hq => l_load one2LawA rfl (by obtain ⟨hq, hB_o0⟩ := hq; first | exact hB_o0.at rfl | exact hB_o0.cell 0 | exact hB_o1.cell 0 | assumption)) ⟨hb, hB_o0⟩ ?_
  refine Wa.take (i := 4) #[true, true, true, true, true, false, false, false, false, false, false, false, false, false, false, false] rfl (by kernel_rfl) (fun _ _ _ h => h) rfl (fun wq hq => Yl.ld (y_fieldAddr (fa24_2LawA _) rfl)) ⟨hb, hB_o0⟩ ?_
  refine Wa.take (i := 5) #[true, true, true, true, true, true, false, false, false, false, false, false, false, false, false, false] rfl (by kernel_rfl) (fun _ _ _ h => h) rfl (fun wq hq => l_load one22LawA rfl (by obtain ⟨hq, hB_o0⟩ := hq; first | exact hB_o0.at rfl | exact hB_o0.cell 0 | exact hB_o1.cell 0 | assumption)) ⟨hb, hB_o0⟩ ?_
  refine Wa.take (i := 7) #[true, true, true, true, true, true, false, true, false, false, false, false, false, false, false, false] rfl (by kernel_rfl) (fun _ _ _ h => h) rfl (fun wq hq => Yl.ld (y_fieldAddr (fa24_3LawA _) rfl)) ⟨hb, hB_o0⟩ ?_
  refine Wa.take (i := 8) #[true, true, true, true, true, true, false, true, true, false, false, false, false, false, false, false] rfl (by kernel_rfl) (fun _ _ _ h => h) rfl (fun wq hq => l_load one9LawA rfl (by obtain ⟨hq, hB_o0⟩ := hq; first | exact hB_o0.at rfl | exact hB_o0.cell 0 | exact hB_o1.cell 0 | assumption)) ⟨hb, hB_o0⟩ ?_
  refine Wa.take (i := 9) #[true, true, true, true, true, true, false, true, true, true, false, false, false, false, false, false] rfl (by kernel_rfl) (fun _ _ _ h => h) rfl (fun wq hq => Yl.ld (y_fieldAddr (fa24_3LawA _) rfl)) ⟨hb, hB_o0⟩ ?_
  refine Wa.take (i := 10) #[true, true, true, true, true, true, false, true, true, true, true, false, false, false, false, false] rfl (by kernel_rfl) (fun _ _ _ h => h) rfl (fun wq hq => l_load one9LawA rfl (by obtain ⟨hq, hB_o0⟩ := hq; first | exact hB_o0.at rfl | exact hB_o0.cell 0 | exact hB_o1.cell 0 | assumption)) ⟨hb, hB_o0⟩ ?_
  refine Wa.take (i := 11) #[true, true, true, true, true, true, false, true, true, true, true, true, false, false, false, false] rfl (by kernel_rfl) (fun _ _ _ h => h) rfl (fun wq hq => Yl.ld (y_lens Tryz.underlying9 (by omega) rfl)) ⟨hb, hB_o0⟩ ?_
  refine Wa.take (i := 12) #[true, true, true, true, true, true, false, true, true, true, true, true, true, false, false, false] rfl (by kernel_rfl) (fun _ _ _ h => h) rfl (fun wq hq => Yl.ld (y_eq (y_min rfl rfl) (int_eq (show min (r.s.length : Int) 60 = ((min r.s.length 60 : Nat) : Int) by omega)))) ⟨hb, hB_o0⟩ ?_
  refine Wa.take (i := 13) #[true, true, true, true, true, true, false, true, true, true, true, true, true, true, false, false] rfl (by kernel_rfl) (fun _ _ _ h => h) rfl (fun wq hq => Yl.ld (y_slicesH Tryz.underlying9 rfl rfl (by omega) (by omega))) ⟨hb, hB_o0⟩ ?_
  refine Wa.some (rs := [6]) (by kernel_rfl) rfl ?_
  refine Ws.cons #[true, true, true, true, true, true, true, true, true, true, true, true, true, true, false, false] rfl rfl (fun _ hK_18 => ?_) ?_
  ·
   refine Wl.y (y_b2f exn34LawA rfl rfl) rfl ?_
   refine Wl.nil ?_
   refine Wq.back hK_18 ⟨hb, hB_o0⟩ ?_
   refine Wa.take (i := 14) #[true, true, true, true, true, true, true, true, true, true, true, true, true, true, true, false] rfl (by kernel_rfl) (fun _ _ _ h => h) rfl (fun wq hq => Yl.ld (y_buildS (z := [(.int .i64 0), (.int .i64 0), (.float .f64 0), (str [])]) (pl := [(0, 1), (1, 1), (2, 1), (3, 1)]) (cs := [_, _, _, _]) Tryz.underlying28 (by kernel_rfl) (by kernel_rfl) rfl rfl rfl)) ⟨hb, hB_o0⟩ ?_
   refine Wa.some (rs := [15]) (by kernel_rfl) rfl ?_
   refine Ws.cons #[true, true, true, true, true, true, true, true, true, true, true, true, true, true, true, true] rfl rfl (fun _ hK_21 => ?_) ?_
   ·
    refine Wl.storeS (by kernel_rfl) rfl rfl hB_o1 rfl rfl ?_
    rintro w_s0 hn_s0 hg_s0
    have hz_s0 := hg_s0.size
    have hb := below_blk hb hg_s0 hb.size (by omega)
    try have hB_o0 := hB_o0.over hg_s0 (by omega)
    have hB_o1 := hn_s0
    refine Wl.nil ?_
    refine Wq.back hK_21 ⟨hb, hB_o0⟩ ?_
    refine Wa.done (by kernel_rfl) ?_
    refine Wq.next hK_4 ?_
    refine Wc.ret ?_
    refine retN (rs := [.cell 2 28]) (vs := [_]) rfl (.cell rfl (loadS Tryz.underlying28 (by kernel_rfl) (fun j u hu => hB_o1.at hu)) .nil) ?_
    exact ⟨_, rfl, by unfold Raw.val Val.enc Val.cells; rw [show ((min r.s.length 60 : Nat) : Int).toNat = min r.s.length 60 from rfl, List.take_eq_take_iff.2 (show min (min r.s.length 60) r.s.length = min 60 r.s.length by omega)]; rfl, hb⟩
   exact Ws.nil
  exact Ws.nil
theorem sameV_refl (x : Val) : sameV x x = true := by unfold sameV; simp
theorem Tells_r (r s : Raw) (o : r.Ok) (o' : s.Ok) (w : World) (hL : Lb w) : Ret Tryz.prog 11 [r.enc, s.enc] w fun v w' => v = .bool true ∧ Below w.heap.size w w' := by
  have hb := Below.refl w.heap.size w
  have hL_hb := hL
  refine enter Tryz.func11 rfl rfl rfl ?_
  refine Wc.seq fun _ hK_1 => ?_
  refine Wc.region ?_
  refine Wl.boxN rfl rfl ?_
  rintro g_o0 w_o0 hg_o0 hn_o0 hs_o0
  have hz_o0 := hs_o0.size
  have hb := hb.trans (hs_o0.mono hb.size)
  have hL := hL_hb.below hb
  have hB_o0 := hn_o0
  have hl_o0 := hB_o0.lt
  refine Wl.boxN rfl rfl ?_
  rintro g_o1 w_o1 hg_o1 hn_o1 hs_o1
  have hz_o1 := hs_o1.size
  have hb := hb.trans (hs_o1.mono hb.size)
  have hL := hL_hb.below hb
  try have hB_o0 := Blk.below hB_o0 hs_o1
  have hB_o1 := hn_o1
  have hl_o1 := hB_o1.lt
  refine Wl.y (y_assign rfl) rfl ?_
  refine Wl.nil ?_
  refine Wq.next hK_1 ?_
  refine Wc.seq fun _ hK_5 => ?_
  refine Wc.region ?_
  refine Wl.call txt14LawA rfl rfl (shown_r _ hL) rfl ?_
  rintro _ w_k0 ⟨rfl, hs_k0⟩
  have hz_k0 := hs_k0.size
  have hb := hb.trans (hs_k0.mono hb.size)
  have hL := hL_hb.below hb
  try have hB_o0 := Blk.below hB_o0 hs_k0
  try have hB_o1 := Blk.below hB_o1 hs_k0
  refine Wl.y (y_assign rfl) rfl ?_
  refine Wl.nil ?_
  refine Wq.next hK_5 ?_
  refine Wc.seq fun _ hK_8 => ?_
  refine Wc.region ?_
  refine Wl.l (l_loadS Tryz.underlying24 (by kernel_rfl) rfl (by first | exact fun j u hu => hB_o0.at hu | exact fun j u hu => hB_o1.at hu | assumption)) rfl ?_
  refine Wl.call txt15LawA rfl rfl (of_r r o _) rfl ?_
  rintro _ w_k1 ⟨rfl, hs_k1⟩
  have hz_k1 := hs_k1.size
  have hb := hb.trans (hs_k1.mono hb.size)
  have hL := hL_hb.below hb
  try have hB_o0 := Blk.below hB_o0 hs_k1
  try have hB_o1 := Blk.below hB_o1 hs_k1
  refine Wl.allocN (z := (.agg #[(.int .i64 0), (.int .i64 0), (.float .f64 0), (str [])])) (by kernel_rfl) rfl ?_
  rintro g_o4 w_o4 hg_o4 hn_o4 hs_o4
  have hz_o4 := hs_o4.size
  have hb := hb.trans (hs_o4.mono hb.size)
  have hL := hL_hb.below hb
  try have hB_o0 := Blk.below hB_o0 hs_o4
  try have hB_o1 := Blk.below hB_o1 hs_o4
  have hB_o4 := hn_o4
  have hl_o4 := hB_o4.lt
  refine Wl.storeS (by kernel_rfl) rfl rfl hB_o4 rfl rfl ?_
  rintro w_s0 hn_s0 hg_s0
  have hz_s0 := hg_s0.size
  have hb := below_blk hb hg_s0 hb.size (by omega)
  have hL := hL_hb.below hb
  try have hB_o0 := hB_o0.over hg_s0 (by omega)
  try have hB_o1 := hB_o1.over hg_s0 (by omega)
  have hB_o4 := hn_s0
  refine Wl.nil ?_
  refine Wq.next hK_8 ?_
  refine Wc.seq fun _ hK_12 => ?_
  refine Wc.region ?_
  refine Wl.l (l_loadS Tryz.underlying24 (by kernel_rfl) rfl (by first | exact fun j u hu => hB_o0.at hu | exact fun j u hu => hB_o1.at hu | exact fun j u hu => hB_o4.at hu | assumption)) rfl ?_
  refine Wl.call txt15LawA rfl rfl (of_r s o' _) rfl ?_
  rintro _ w_k2 ⟨rfl, hs_k2⟩
  have hz_k2 := hs_k2.size
  have hb := hb.trans (hs_k2.mono hb.size)
  have hL := hL_hb.below hb
  try have hB_o0 := Blk.below hB_o0 hs_k2
  try have hB_o1 := Blk.below hB_o1 hs_k2
  try have hB_o4 := Blk.below hB_o4 hs_k2
  refine Wl.allocN (z := (.agg #[(.int .i64 0), (.int .i64 0), (.float .f64 0), (str [])])) (by kernel_rfl) rfl ?_
  rintro g_o5 w_o5 hg_o5 hn_o5 hs_o5
  have hz_o5 := hs_o5.size
  have hb := hb.trans (hs_o5.mono hb.size)
  have hL := hL_hb.below hb
  try have hB_o0 := Blk.below hB_o0 hs_o5
  try have hB_o1 := Blk.below hB_o1 hs_o5
  try have hB_o4 := Blk.below hB_o4 hs_o5
  have hB_o5 := hn_o5
  have hl_o5 := hB_o5.lt
  refine Wl.storeS (by kernel_rfl) rfl rfl hB_o5 rfl rfl ?_
  rintro w_s1 hn_s1 hg_s1
  have hz_s1 := hg_s1.size
  have hb := below_blk hb hg_s1 hb.size (by omega)
  have hL := hL_hb.below hb
  try have hB_o0 := hB_o0.over hg_s1 (by omega)
  try have hB_o1 := hB_o1.over hg_s1 (by omega)
  try have hB_o4 := hB_o4.over hg_s1 (by omega)
  have hB_o5 := hn_s1
  refine Wl.nil ?_
  refine Wq.next hK_12 ?_
  refine Wc.seq fun _ hK_16 => ?_
  refine Wc.quiet (by kernel_rfl) (by kernel_rfl) ?_
  refine Wy.y (y_move rfl) rfl ?_
  refine Wy.y (y_move rfl) rfl ?_
  refine Wy.guardT rfl rfl rfl (fun g_19 => ?_) (fun g_19 => ?_)
  ·
   have g_19_ := g_19
   refine Wy.l (fun wq hq => l_loadS Tryz.underlying28 (by kernel_rfl) rfl (by have hL := hL.below hq; have hB_o0 := Blk.below hB_o0 hq; have hB_o1 := Blk.below hB_o1 hq; have hB_o4 := Blk.below hB_o4 hq; have hB_o5 := Blk.below hB_o5 hq; first | exact fun j u hu => hB_o0.at hu | exact fun j u hu => hB_o1.at hu | exact fun j u hu => hB_o4.at hu | exact fun j u hu => hB_o5.at hu | assumption)) rfl ?_
   refine Wy.on' rfl rfl g_19_ ?_
   refine Wy.call txt22LawA rfl rfl (fun wq hq => by have hL := hL.below hq; have hB_o0 := Blk.below hB_o0 hq; have hB_o1 := Blk.below hB_o1 hq; have hB_o4 := Blk.below hB_o4 hq; have hB_o5 := Blk.below hB_o5 hq; exact Right_r _ o.val _) rfl ?_
   refine Wy.on' rfl rfl g_19_ ?_
   refine Wy.l (fun wq hq => l_loadS Tryz.underlying28 (by kernel_rfl) rfl (by have hL := hL.below hq; have hB_o0 := Blk.below hB_o0 hq; have hB_o1 := Blk.below hB_o1 hq; have hB_o4 := Blk.below hB_o4 hq; have hB_o5 := Blk.below hB_o5 hq; first | exact fun j u hu => hB_o0.at hu | exact fun j u hu => hB_o1.at hu | exact fun j u hu => hB_o4.at hu | exact fun j u hu => hB_o5.at hu | assumption)) rfl ?_
   refine Wy.on' rfl rfl g_19_ ?_
   refine Wy.call txt28LawA rfl rfl (fun wq hq => by have hL := hL.below hq; have hB_o0 := Blk.below hB_o0 hq; have hB_o1 := Blk.below hB_o1 hq; have hB_o4 := Blk.below hB_o4 hq; have hB_o5 := Blk.below hB_o5 hq; exact RRight_r _ o.val _) rfl ?_
   refine Wy.on' rfl rfl g_19_ ?_
   refine Wy.y (y_eqlb Tryz.underlying4 rfl rfl) rfl ?_
   refine Wy.y (y_pickT rfl g_19_ rfl) rfl ?_
   refine Wy.y (y_move rfl) rfl ?_
   refine Wy.guardT rfl rfl rfl (fun g_27 => ?_) (fun g_27 => ?_)
   ·
    have g_27_ := g_27
    refine Wy.l (fun wq hq => l_loadS Tryz.underlying28 (by kernel_rfl) rfl (by have hL := hL.below hq; have hB_o0 := Blk.below hB_o0 hq; have hB_o1 := Blk.below hB_o1 hq; have hB_o4 := Blk.below hB_o4 hq; have hB_o5 := Blk.below hB_o5 hq; first | exact fun j u hu => hB_o0.at hu | exact fun j u hu => hB_o1.at hu | exact fun j u hu => hB_o4.at hu | exact fun j u hu => hB_o5.at hu | assumption)) rfl ?_
    refine Wy.on' rfl rfl g_27_ ?_
    refine Wy.l (fun wq hq => l_loadS Tryz.underlying28 (by kernel_rfl) rfl (by have hL := hL.below hq; have hB_o0 := Blk.below hB_o0 hq; have hB_o1 := Blk.below hB_o1 hq; have hB_o4 := Blk.below hB_o4 hq; have hB_o5 := Blk.below hB_o5 hq; first | exact fun j u hu => hB_o0.at hu | exact fun j u hu => hB_o1.at hu | exact fun j u hu => hB_o4.at hu | exact fun j u hu => hB_o5.at hu | assumption)) rfl ?_
    refine Wy.on' rfl rfl g_27_ ?_
    refine Wy.call txt27LawA rfl rfl (fun wq hq => by have hL := hL.below hq; have hB_o0 := Blk.below hB_o0 hq; have hB_o1 := Blk.below hB_o1 hq; have hB_o4 := Blk.below hB_o4 hq; have hB_o5 := Blk.below hB_o5 hq; exact Same_r _ _ o.val o'.val _) rfl ?_
    refine Wy.on' rfl rfl g_27_ ?_
    refine Wy.l (fun wq hq => l_loadS Tryz.underlying28 (by kernel_rfl) rfl (by have hL := hL.below hq; have hB_o0 := Blk.below hB_o0 hq; have hB_o1 := Blk.below hB_o1 hq; have hB_o4 := Blk.below hB_o4 hq; have hB_o5 := Blk.below hB_o5 hq; first | exact fun j u hu => hB_o0.at hu | exact fun j u hu => hB_o1.at hu | exact fun j u hu => hB_o4.at hu | exact fun j u hu => hB_o5.at hu | assumption)) rfl ?_
    refine Wy.on' rfl rfl g_27_ ?_
    refine Wy.l (fun wq hq => l_loadS Tryz.underlying28 (by kernel_rfl) rfl (by have hL := hL.below hq; have hB_o0 := Blk.below hB_o0 hq; have hB_o1 := Blk.below hB_o1 hq; have hB_o4 := Blk.below hB_o4 hq; have hB_o5 := Blk.below hB_o5 hq; first | exact fun j u hu => hB_o0.at hu | exact fun j u hu => hB_o1.at hu | exact fun j u hu => hB_o4.at hu | exact fun j u hu => hB_o5.at hu | assumption)) rfl ?_
    refine Wy.on' rfl rfl g_27_ ?_
    refine Wy.call txt19LawA rfl rfl (fun wq hq => by have hL := hL.below hq; have hB_o0 := Blk.below hB_o0 hq; have hB_o1 := Blk.below hB_o1 hq; have hB_o4 := Blk.below hB_o4 hq; have hB_o5 := Blk.below hB_o5 hq; exact RSame_r _ _ o.val o'.val _) rfl ?_
    refine Wy.on' rfl rfl g_27_ ?_
    refine Wy.y (y_eqlb Tryz.underlying4 rfl rfl) rfl ?_
    refine Wy.y (y_pickT rfl g_27_ rfl) rfl ?_
    refine Wy.y (y_move rfl) rfl ?_
    refine Wy.guardT rfl rfl rfl (fun g_37 => ?_) (fun g_37 => ?_)
    ·
     have g_37_ := g_37
     refine Wy.l (fun wq hq => l_loadS Tryz.underlying28 (by kernel_rfl) rfl (by have hL := hL.below hq; have hB_o0 := Blk.below hB_o0 hq; have hB_o1 := Blk.below hB_o1 hq; have hB_o4 := Blk.below hB_o4 hq; have hB_o5 := Blk.below hB_o5 hq; first | exact fun j u hu => hB_o0.at hu | exact fun j u hu => hB_o1.at hu | exact fun j u hu => hB_o4.at hu | exact fun j u hu => hB_o5.at hu | assumption)) rfl ?_
     refine Wy.on' rfl rfl g_37_ ?_
     refine Wy.l (fun wq hq => l_loadS Tryz.underlying28 (by kernel_rfl) rfl (by have hL := hL.below hq; have hB_o0 := Blk.below hB_o0 hq; have hB_o1 := Blk.below hB_o1 hq; have hB_o4 := Blk.below hB_o4 hq; have hB_o5 := Blk.below hB_o5 hq; first | exact fun j u hu => hB_o0.at hu | exact fun j u hu => hB_o1.at hu | exact fun j u hu => hB_o4.at hu | exact fun j u hu => hB_o5.at hu | assumption)) rfl ?_
     refine Wy.on' rfl rfl g_37_ ?_
     refine Wy.call txt29LawA rfl rfl (fun wq hq => by have hL := hL.below hq; have hB_o0 := Blk.below hB_o0 hq; have hB_o1 := Blk.below hB_o1 hq; have hB_o4 := Blk.below hB_o4 hq; have hB_o5 := Blk.below hB_o5 hq; exact Less_r _ _ o.val o'.val _) rfl ?_
     refine Wy.on' rfl rfl g_37_ ?_
     refine Wy.l (fun wq hq => l_loadS Tryz.underlying28 (by kernel_rfl) rfl (by have hL := hL.below hq; have hB_o0 := Blk.below hB_o0 hq; have hB_o1 := Blk.below hB_o1 hq; have hB_o4 := Blk.below hB_o4 hq; have hB_o5 := Blk.below hB_o5 hq; first | exact fun j u hu => hB_o0.at hu | exact fun j u hu => hB_o1.at hu | exact fun j u hu => hB_o4.at hu | exact fun j u hu => hB_o5.at hu | assumption)) rfl ?_
     refine Wy.on' rfl rfl g_37_ ?_
     refine Wy.l (fun wq hq => l_loadS Tryz.underlying28 (by kernel_rfl) rfl (by have hL := hL.below hq; have hB_o0 := Blk.below hB_o0 hq; have hB_o1 := Blk.below hB_o1 hq; have hB_o4 := Blk.below hB_o4 hq; have hB_o5 := Blk.below hB_o5 hq; first | exact fun j u hu => hB_o0.at hu | exact fun j u hu => hB_o1.at hu | exact fun j u hu => hB_o4.at hu | exact fun j u hu => hB_o5.at hu | assumption)) rfl ?_
     refine Wy.on' rfl rfl g_37_ ?_
     refine Wy.call txt30LawA rfl rfl (fun wq hq => by have hL := hL.below hq; have hB_o0 := Blk.below hB_o0 hq; have hB_o1 := Blk.below hB_o1 hq; have hB_o4 := Blk.below hB_o4 hq; have hB_o5 := Blk.below hB_o5 hq; exact RLess_r _ _ o.val o'.val _) rfl ?_
     refine Wy.on' rfl rfl g_37_ ?_
     refine Wy.y (y_eqlb Tryz.underlying4 rfl rfl) rfl ?_
     refine Wy.y (y_pickT rfl g_37_ rfl) rfl ?_
     refine Wy.y (y_move rfl) rfl ?_
     refine Wy.guardT rfl rfl rfl (fun g_47 => ?_) (fun g_47 => ?_)
     ·
      have g_47_ := g_47
      refine Wy.l (fun wq hq => l_loadS Tryz.underlying28 (by kernel_rfl) rfl (by have hL := hL.below hq; have hB_o0 := Blk.below hB_o0 hq; have hB_o1 := Blk.below hB_o1 hq; have hB_o4 := Blk.below hB_o4 hq; have hB_o5 := Blk.below hB_o5 hq; first | exact fun j u hu => hB_o0.at hu | exact fun j u hu => hB_o1.at hu | exact fun j u hu => hB_o4.at hu | exact fun j u hu => hB_o5.at hu | assumption)) rfl ?_
      refine Wy.on' rfl rfl g_47_ ?_
      refine Wy.l (fun wq hq => l_loadS Tryz.underlying28 (by kernel_rfl) rfl (by have hL := hL.below hq; have hB_o0 := Blk.below hB_o0 hq; have hB_o1 := Blk.below hB_o1 hq; have hB_o4 := Blk.below hB_o4 hq; have hB_o5 := Blk.below hB_o5 hq; first | exact fun j u hu => hB_o0.at hu | exact fun j u hu => hB_o1.at hu | exact fun j u hu => hB_o4.at hu | exact fun j u hu => hB_o5.at hu | assumption)) rfl ?_
      refine Wy.on' rfl rfl g_47_ ?_
      refine Wy.call txt27LawA rfl rfl (fun wq hq => by have hL := hL.below hq; have hB_o0 := Blk.below hB_o0 hq; have hB_o1 := Blk.below hB_o1 hq; have hB_o4 := Blk.below hB_o4 hq; have hB_o5 := Blk.below hB_o5 hq; exact Same_r _ _ o.val o.val _) rfl ?_
      refine Wy.y (y_pickT rfl g_47_ rfl) rfl ?_
      refine Wy.y (y_assign rfl) rfl ?_
      refine Wy.nil fun w_g4 hs_g4 => ?_
      have hz_g4 := hs_g4.size
      have hb := hb.trans (hs_g4.mono hb.size)
      have hL := hL_hb.below hb
      refine Wq.next hK_16 ?_
      refine Wc.ret ?_
      refine ret1 rfl rfl ?_
      exact ⟨_, rfl, bool_eq (sameV_refl _), hb⟩
     ·
      have g_47_ := g_47
      exact absurd g_47_ (by simp)
    ·
     have g_37_ := g_37
     exact absurd g_37_ (by simp)
   ·
    have g_27_ := g_27
    exact absurd g_27_ (by simp)
  ·
   have g_19_ := g_19
   exact absurd g_19_ (by decide)
end Go.Proofs.YtijkbinjdgjioaaGreatDoor
