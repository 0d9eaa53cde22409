/- strings.NewReplacer and Replace behind it; value.quoted. -/
import Derived.Test.YtcljmclolpgdmaaGreatDoorRepB
import Derived.Test.YtcljmclolpgdmaaGreatDoorOnce
namespace Go.Bw
open Go.RowKit
set_option linter.unusedVariables false
theorem Six.grown {w w' : World} {A : Addr} {g : Nat} (h : Six w A) (hg : w.grownBy w' (some g)) (hne : A.block ≠ g) : Six w' A := fun j u hu => by
  have h1 := h j u hu
  have hb : (A.add j).block = A.block := by unfold Addr.add; split <;> rfl
  rw [World.cell?_of_block (w := w) (hg.block _ (block_lt h1) (by rw [hb]; exact fun e => hne (Option.some.inj e)))]; exact h1
theorem ptr0 (g : Nat) : Value.pointer (some ((⟨g, 0, none⟩ : Addr).add 0)) = .pointer (some ⟨g, 0, none⟩) := by rw [add_zero_off]
theorem six_one : ∀ u ∈ sixL, u.oneCell' = true := fun u hu => by
  have h := List.all_eq_true.1 (show sixL.all (·.oneCell') = true from rfl) u hu
  exact h
end Go.Bw
namespace Go.Proofs.YtcljmclolpgdmaaGreatDoor
open Go.RowKit Go.Bw
set_option linter.unusedVariables false
set_option linter.unusedSimpArgs false
theorem fa152_1RepC (p : Addr) (w : World) : (Instr.fieldAt 152 (.pointer (some p)) 1).run Tryz.prog w = .ok (.pointer (some (p.add 0))) w := run_fieldAt (i := 1) (sz := 0) Tryz.underlying152 rfl (by kernel_rfl) p w
theorem fa156_0RepC (p : Addr) (w : World) : (Instr.fieldAt 156 (.pointer (some p)) 0).run Tryz.prog w = .ok (.pointer (some (p.add 0))) w := run_fieldAt (i := 0) (sz := 2) Tryz.underlying156 rfl (by kernel_rfl) p w
theorem fa156_1RepC (p : Addr) (w : World) : (Instr.fieldAt 156 (.pointer (some p)) 1).run Tryz.prog w = .ok (.pointer (some (p.add 3))) w := run_fieldAt (i := 1) (sz := 0) Tryz.underlying156 rfl (by kernel_rfl) p w
theorem fa156_2RepC (p : Addr) (w : World) : (Instr.fieldAt 156 (.pointer (some p)) 2).run Tryz.prog w = .ok (.pointer (some (p.add 4))) w := run_fieldAt (i := 2) (sz := 0) Tryz.underlying156 rfl (by kernel_rfl) p w
theorem one154RepC : One Tryz.prog 154 := ⟨_, Tryz.underlying154, rfl, by kernel_rfl⟩
theorem txt130RepC : Txt Tryz.prog 130 := ⟨_, Tryz.func130, by kernel_rfl, rfl⟩   -- (*sync.Once).Do
theorem txt163RepC : Txt Tryz.prog 163 := ⟨_, Tryz.func163, by kernel_rfl, rfl⟩   -- (*sync/atomic.Bool).Load
theorem txt164RepC : Txt Tryz.prog 164 := ⟨_, Tryz.func164, by kernel_rfl, rfl⟩   -- (*sync.Once).doSlow
theorem txt165RepC : Txt Tryz.prog 165 := ⟨_, Tryz.func165, by kernel_rfl, rfl⟩   -- (*strings.Replacer).build
theorem txt74RepC : Txt Tryz.prog 74 := ⟨_, Tryz.func74, by kernel_rfl, rfl⟩   -- strings.NewReplacer
theorem txt75RepC : Txt Tryz.prog 75 := ⟨_, Tryz.func75, by kernel_rfl, rfl⟩   -- (*strings.Replacer).Replace
theorem oneRp : One Tryz.prog 154 := ⟨_, Tryz.underlying154, rfl, by kernel_rfl⟩
theorem oneSs : One Tryz.prog 53 := ⟨_, Tryz.underlying53, rfl, by kernel_rfl⟩
theorem once_r (B g : Nat) (A : Addr) (c : Nat) (w : World) (hg : B ≤ g) (hB : Blk w g 156 [.int .u32 0, .int .i32 1, .int .u32 0, .nilIface, .slice (some A) 6 c]) (hS : Six w A) : Ret Tryz.prog 131 [.pointer (some ⟨g, 0, none⟩)] w fun v w' => v = .tuple #[] ∧ ∃ lo gg, Blk w' g 156 [.int .u32 0, .int .i32 1, .int .u32 0, .iface 210 (.pointer (some ⟨gg, 0, none⟩)), .slice none 0 0] ∧ Rpd 209 lo w' gg ∧ g < lo ∧ Below B w w' := by
  have hlt := hB.lt
  refine enter Tryz.func131 rfl rfl rfl ?_
  refine Wc.seq fun _ hK_1 => ?_
  refine Wc.region ?_
  refine Wl.y (y_move rfl) rfl ?_
  refine Wl.y (y_move rfl) rfl ?_
  refine Wl.call txt165RepC rfl rfl (build_r g A c _ hB hS) rfl ?_
  rintro _ w2 ⟨⟨gg, rfl, hP⟩, hs⟩
  have hB2 := hB.below hs
  have hb := hs.mono (B' := B) (by omega)
  have hz2 := hs.size
  refine Wl.y (y_nilCheck rfl) rfl ?_
  refine Wl.y (y_fieldAddr (fa156_1RepC _) rfl) rfl ?_
  refine Wl.storeB oneRp rfl rfl rfl hB2 (by show 3 < 5; decide) ?_
  rintro w3 hB3 hg3
  have hz3 := hg3.size
  have hP := hP.grown hg3 hlt
  have hb := below_blk hb hg3 (by omega) hg
  refine Wl.nil ?_
  refine Wq.next hK_1 ?_
  refine Wc.region ?_
  refine Wl.y (y_move rfl) rfl ?_
  refine Wl.y (y_nilCheck rfl) rfl ?_
  refine Wl.y (y_fieldAddr (fa156_2RepC _) rfl) rfl ?_
  refine Wl.storeB oneSs rfl rfl rfl hB3 (by show 4 < 5; decide) ?_
  rintro w4 hB4 hg4
  have hP := hP.grown hg4 hlt
  have hb := below_blk hb hg4 (by omega) hg
  refine Wl.nil ?_
  refine end0 rfl ?_
  exact ⟨_, rfl, rfl, _, gg, hB4, hP, hlt, hb⟩
theorem do_r (B g : Nat) (A : Addr) (c : Nat) (w : World) (hg : B ≤ g) (hB : Blk w g 156 [.int .u32 0, .int .i32 0, .int .u32 0, .nilIface, .slice (some A) 6 c]) (hS : Six w A) (hne : A.block ≠ g) : Ret Tryz.prog 130 [.pointer (some ⟨g, 0, none⟩), .func (.func 131) #[.pointer (some ⟨g, 0, none⟩)] #[]] w fun v w' => v = .tuple #[] ∧ ∃ lo gg, Blk w' g 156 [.int .u32 1, .int .i32 0, .int .u32 0, .iface 210 (.pointer (some ⟨gg, 0, none⟩)), .slice none 0 0] ∧ Rpd 209 lo w' gg ∧ Below B w w' := by
  have hlt := hB.lt
  have h0 : w.cell? ⟨g, 0, none⟩ = some (.int .u32 0) := hB.cell 0
  have h1 : w.cell? ⟨g, 1, none⟩ = some (.int .i32 0) := hB.cell 1
  have f1 : w.frozen? ⟨g, 1, none⟩ = false := hB.frozen 1
  obtain ⟨hb1, hg1⟩ := hB.setAt (j := 1) (v := .int .i32 1)
  have hB1 : Below B w (w.setCell ⟨g, 1, none⟩ (.int .i32 1)) := below_blk (Below.refl B w) hg1 (by omega) hg
  have hF : Calls Tryz.prog 131 #[.pointer (some ⟨g, 0, none⟩)] (w.setCell ⟨g, 1, none⟩ (.int .i32 1)) fun e w2 => e = .returned (.tuple #[]) ∧ (w2.cell? ⟨g, 0, none⟩ = some (.int .u32 0) ∧ w2.cell? ⟨g, 1, none⟩ = some (.int .i32 1) ∧ w2.frozen? ⟨g, 0, none⟩ = false ∧ w2.frozen? ⟨g, 1, none⟩ = false ∧ ∃ lo gg, Blk w2 g 156 [.int .u32 0, .int .i32 1, .int .u32 0, .iface 210 (.pointer (some ⟨gg, 0, none⟩)), .slice none 0 0] ∧ Rpd 209 lo w2 gg ∧ g < lo ∧ Below B w w2) :=
    Calls.mono (Ret.toCalls (once_r B g A c _ hg hb1 (hS.grown hg1 hne))) fun e w2 ⟨he, lo, gg, hb2, hP, hl, hbw⟩ => ⟨he, hb2.cell 0, hb2.cell 1, hb2.frozen 0, hb2.frozen 1, lo, gg, hb2, hP, hl, hB1.trans hbw⟩
  have hslow := slow_now g (.pointer (some ⟨g, 0, none⟩)) (fun w2 => ∃ lo gg, Blk w2 g 156 [.int .u32 0, .int .i32 1, .int .u32 0, .iface 210 (.pointer (some ⟨gg, 0, none⟩)), .slice none 0 0] ∧ Rpd 209 lo w2 gg ∧ g < lo ∧ Below B w w2) w h0 h1 f1 hF
  refine enter Tryz.func130 rfl rfl rfl ?_
  refine Wc.seq fun _ hK_1 => ?_
  refine Wc.region ?_
  refine Wl.y (y_move rfl) rfl ?_
  refine Wl.y (y_nilCheck rfl) rfl ?_
  refine Wl.y (y_eq (y_fieldAddr (fa152_1RepC _) rfl) (ptr0 g)) rfl ?_
  refine Wl.call txt163RepC rfl rfl (Ret.of_calls (load_now ⟨g, 0, none⟩ w h0)) rfl ?_
  rintro _ w_ ⟨rfl, hw_⟩
  have hw_ := hw_.symm; subst hw_
  refine Wl.y (y_not rfl) rfl ?_
  refine Wl.nil ?_
  refine Wq.next hK_1 ?_
  refine Wc.cond rfl (fun c0_7 => ?_) (fun c0_7 => ?_)
  ·
   have c0_7_ := c0_7
   try simp only [decide_eq_true_eq, decide_eq_false_iff_not, beq_iff_eq, beq_eq_false_iff_ne, bne_iff_ne, bne_eq_false_iff_eq, Bool.not_eq_true', Bool.not_eq_false', Bool.not_eq_eq_eq_not, Bool.not_true, Bool.not_false, ne_eq, Int.not_lt, Int.not_le] at c0_7
   refine Wc.region ?_
   refine Wl.y (y_move rfl) rfl ?_
   refine Wl.y (y_move rfl) rfl ?_
   refine Wl.call txt164RepC rfl rfl (Ret.of_calls hslow) rfl ?_
   rintro _ w3 ⟨rfl, w2, ⟨lo, gg, hb2, hP, hl, hbw⟩, rfl⟩
   refine Wl.nil ?_
   refine end0 rfl ?_
   have hd : Blk w2.drew g 156 _ := hb2
   have hPd : Rpd 209 lo w2.drew gg := hP.below (Below.refl _ _).drew
   obtain ⟨hb3, hg3⟩ := hd.setAt (j := 0) (v := .int .u32 1)
   obtain ⟨hb4, hg4⟩ := hb3.setAt (j := 1) (v := .int .i32 0)
   have hz3 := hg3.size
   have hz := hbw.size
   have hwd : w2.drew.heap.size = w2.heap.size := rfl
   exact ⟨_, rfl, rfl, lo, gg, hb4, (hPd.grown hg3 hl).grown hg4 hl, below_blk (below_blk hbw.drew hg3 (by omega) hg) hg4 (by omega) hg⟩
  ·
   have c0_7_ := c0_7
   try simp only [decide_eq_true_eq, decide_eq_false_iff_not, beq_iff_eq, beq_eq_false_iff_ne, bne_iff_ne, bne_eq_false_iff_eq, Bool.not_eq_true', Bool.not_eq_false', Bool.not_eq_eq_eq_not, Bool.not_true, Bool.not_false, ne_eq, Int.not_lt, Int.not_le] at c0_7
   cases c0_7
theorem replace_r (B g : Nat) (A : Addr) (c : Nat) (l : List UInt8) (w : World) (hg : B ≤ g) (hB : Blk w g 156 [.int .u32 0, .int .i32 0, .int .u32 0, .nilIface, .slice (some A) 6 c]) (hS : Six w A) (hne : A.block ≠ g) (hl : l.length ≤ 1099511627776) : Ret Tryz.prog 75 [.pointer (some ⟨g, 0, none⟩), str l] w fun v w' => v = str (l.flatMap qcR) ∧ Below B w w' := by
  have hlt := hB.lt
  refine enter Tryz.func75 rfl rfl rfl ?_
  refine Wc.seq fun _ hK_1 => ?_
  refine Wc.region ?_
  refine Wl.y (y_assign rfl) rfl ?_
  refine Wl.nil ?_
  refine Wq.next hK_1 ?_
  refine Wc.seq fun _ hK_3 => ?_
  refine Wc.region ?_
  refine Wl.y (y_move rfl) rfl ?_
  refine Wl.y (y_nilCheck rfl) rfl ?_
  refine Wl.y (y_eq (y_fieldAddr (fa156_0RepC _) rfl) (ptr0 g)) rfl ?_
  refine Wl.y (y_move rfl) rfl ?_
  refine Wl.y (y_makeFunc rfl rfl) rfl ?_
  refine Wl.call txt130RepC rfl rfl (do_r B g A c _ hg hB hS hne) rfl ?_
  rintro _ w2 ⟨rfl, lo, gg, hB2, hP, hb⟩
  refine Wl.nil ?_
  refine Wq.next hK_3 ?_
  refine Wc.seq fun _ hK_10 => ?_
  refine Wc.region ?_
  refine Wl.y (y_move rfl) rfl ?_
  refine Wl.y (y_nilCheck rfl) rfl ?_
  refine Wl.y (y_fieldAddr (fa156_1RepC _) rfl) rfl ?_
  refine Wl.l (l_load one154RepC rfl (hB2.at rfl)) rfl ?_
  obtain ⟨cs, A2, c2, hT⟩ := hP.openT
  refine Wl.y (y_move rfl) rfl ?_
  refine Wl.invoke (f := 245) ⟨_, Tryz.func245, by kernel_rfl, rfl⟩ (fun w => by kernel_rfl) rfl rfl (bsr_r gg cs A2 c2 l _ hT hl) rfl ?_
  rintro _ w3 ⟨rfl, hs3⟩
  have hz2 := hb.size
  have hb := hb.trans (hs3.mono (by omega))
  refine Wl.y (y_assign rfl) rfl ?_
  refine Wl.nil ?_
  refine Wq.next hK_10 ?_
  refine Wc.ret ?_
  refine ret1 rfl rfl ?_
  exact ⟨_, rfl, rfl, hb⟩
theorem new_r (A0 : Addr) (c0 : Nat) (w : World) (h : Six w A0) : Ret Tryz.prog 74 [.slice (some A0) 6 c0] w fun v w' => (∃ g A c, v = .pointer (some ⟨g, 0, none⟩) ∧ w.heap.size ≤ g ∧ Blk w' g 156 [.int .u32 0, .int .i32 0, .int .u32 0, .nilIface, .slice (some A) 6 c] ∧ Six w' A ∧ A.block ≠ g) ∧ Below w.heap.size w w' := by
  have hb := Below.refl w.heap.size w
  have h_hb := h
  refine enter Tryz.func74 rfl rfl rfl ?_
  refine Wc.seq fun _ hK_1 => ?_
  refine Wc.region ?_
  refine Wl.y (y_assign rfl) rfl ?_
  refine Wl.nil ?_
  refine Wq.next hK_1 ?_
  refine Wc.seq fun _ hK_3 => ?_
  refine Wc.seq fun _ hK_4 => ?_
  refine Wc.region ?_
  refine Wl.y (y_move rfl) rfl ?_
  refine Wl.y (y_lenl Tryz.underlying53 (by omega) rfl) rfl ?_
  refine Wl.y (y_rem rfl rfl (by first | decide | omega)) rfl ?_
  refine Wl.y (y_eqli rfl rfl) rfl ?_
  refine Wl.nil ?_
  refine Wq.next hK_4 ?_
  refine Wc.cond rfl (fun c0_9 => ?_) (fun c0_9 => ?_)
  ·
   have c0_9_ := c0_9
   try simp only [decide_eq_true_eq, decide_eq_false_iff_not, beq_iff_eq, beq_eq_false_iff_ne, bne_iff_ne, bne_eq_false_iff_eq, Bool.not_eq_true', Bool.not_eq_false', Bool.not_eq_eq_eq_not, Bool.not_true, Bool.not_false, ne_eq, Int.not_lt, Int.not_le] at c0_9
   exact absurd c0_9 (by decide)
  ·
   have c0_9_ := c0_9
   try simp only [decide_eq_true_eq, decide_eq_false_iff_not, beq_iff_eq, beq_eq_false_iff_ne, bne_iff_ne, bne_eq_false_iff_eq, Bool.not_eq_true', Bool.not_eq_false', Bool.not_eq_eq_eq_not, Bool.not_true, Bool.not_false, ne_eq, Int.not_lt, Int.not_le] at c0_9
   refine Wc.skip ?_
   refine Wq.next hK_3 ?_
   refine Wc.seq fun _ hK_10 => ?_
   refine Wc.region ?_
   refine Wl.y (y_move rfl) rfl ?_
   have hO := own_nil w w.heap.size 9 1
   refine Wl.append (z := (str [])) (sz := 1) (bytes := 16) Tryz.underlying53 (by kernel_rfl) rfl (by decide) _ rfl hO rfl ⟨rfl, fun _ => ⟨A0, rfl, h⟩⟩ six_one (by simp only [maxLen]; omega) (by omega) (by first | exact hb.size | omega) rfl ?_
   rintro v_b1 w_b1 hn_b1 hg_b1 ha_b1
   have hz_b1 := hg_b1.size
   have hb := hb.grown hg_b1 hb.size (fun k_ hk_ => by have := (own_ge hO k_ hk_).1; omega)
   have h := h_hb.below hb
   have hO := hn_b1
   have hO1 := hO
   obtain ⟨_, h0 | ⟨g1, cap, cur, rfl, hge, hgh, _⟩⟩ := hO1
   · exact absurd h0.2 (by decide)
   have hSx : Six w_b1 ⟨g1, 0, none⟩ := fun j u hu => own_cell hO hu
   have hgl := (own_ge hO _ rfl).2
   refine Wl.y (y_buildS (z := [(.int .u32 0), (.int .i32 0), (.int .u32 0), .nilIface, (.slice none 0 0)]) (pl := [(0, 3), (3, 1), (4, 1)]) (cs := [_, _, _, _, _]) Tryz.underlying156 (by kernel_rfl) (by kernel_rfl) rfl rfl rfl) rfl ?_
   refine Wl.boxN rfl rfl ?_
   rintro g_o8 w_o8 hg_o8 hn_o8 hs_o8
   have hz_o8 := hs_o8.size
   have hb := hb.trans (hs_o8.mono hb.size)
   have h := h_hb.below hb
   have hB_o8 := hn_o8
   have hl_o8 := hB_o8.lt
   refine Wl.y (y_assign rfl) rfl ?_
   refine Wl.nil ?_
   refine Wq.next hK_10 ?_
   refine Wc.ret ?_
   refine ret1 rfl rfl ?_
   exact ⟨_, rfl, ⟨g_o8, ⟨g1, 0, none⟩, cap, rfl, by omega, hB_o8, hSx.below hs_o8, fun e => by simp only at e hgl; omega⟩, hb⟩
theorem quoted_r (s : List UInt8) (w : World) (hl : s.length ≤ 1099511627776) : Ret Tryz.prog 36 [str s] w fun v w' => v = str (39 :: (s.flatMap qcR ++ [39])) ∧ Below w.heap.size w w' := by
  have hq := qcR_len s
  have hcp : s.countP spB ≤ s.length := List.countP_le_length
  have hb := Below.refl w.heap.size w
  refine enter Tryz.func36 rfl rfl rfl ?_
  refine Wc.seq fun _ hK_1 => ?_
  refine Wc.region ?_
  refine Wl.y (y_assign rfl) rfl ?_
  refine Wl.nil ?_
  refine Wq.next hK_1 ?_
  refine Wc.seq fun _ hK_3 => ?_
  refine Wc.region ?_
  refine Wl.litN (sz := 1) (vs := [_, _, _, _, _, _]) Tryz.underlying53 (by kernel_rfl) rfl rfl rfl rfl rfl rfl ?_
  rintro g_b0 w_b0 hg_b0 hn_b0 hs_b0
  have hz_b0 := hs_b0.size
  have hb := hb.trans (hs_b0.mono hb.size)
  have hB_b0 := hn_b0
  have hl_b0 := hB_b0.lt
  refine Wl.call txt74RepC rfl rfl (new_r ⟨g_b0, 0, none⟩ 6 _ (fun j u hu => hB_b0.at hu)) rfl ?_
  rintro _ w_k0 ⟨⟨g1, A1, c1, rfl, hg1, hB1, hS1, hne1⟩, hs_k0⟩
  have hz_k0 := hs_k0.size
  have hb := hb.trans (hs_k0.mono hb.size)
  refine Wl.y (y_move rfl) rfl ?_
  refine Wl.call txt75RepC rfl rfl (replace_r w.heap.size g1 A1 c1 s _ (by omega) hB1 hS1 hne1 hl) rfl ?_
  rintro _ w_k1 ⟨rfl, hs1⟩
  have hb := hb.trans hs1
  refine Wl.y (y_adds rfl rfl (by simp only [List.length_cons, List.length_nil, List.length_append]; omega)) rfl ?_
  refine Wl.y (y_adds rfl rfl (by simp only [List.length_cons, List.length_nil, List.length_append]; omega)) rfl ?_
  refine Wl.y (y_assign rfl) rfl ?_
  refine Wl.nil ?_
  refine Wq.next hK_3 ?_
  refine Wc.ret ?_
  refine ret1 rfl rfl ?_
  exact ⟨_, rfl, str_eq (by simp), hb⟩
