/- strings.Replacer: build, at the three bytes that a text is written with otherwise: the table. -/
import Derived.Test.YtcljmclolpgdmaaGreatDoorRepL
import Derived.Test.YtcljmclolpgdmaaGreatDoorProg
namespace Go.Proofs.YtcljmclolpgdmaaGreatDoor
open Go.RowKit Go.Bw
set_option linter.unusedVariables false
set_option linter.unusedSimpArgs false
theorem fa156_2RepA (p : Addr) (w : World) : (Instr.fieldAt 156 (.pointer (some p)) 2).run Tryz.prog w = .ok (.pointer (some (p.add 4))) w := run_fieldAt (i := 2) (sz := 0) Tryz.underlying156 rfl (by kernel_rfl) p w
theorem fa209_0RepA (p : Addr) (w : World) : (Instr.fieldAt 209 (.pointer (some p)) 0).run Tryz.prog w = .ok (.pointer (some (p.add 0))) w := run_fieldAt (i := 0) (sz := 255) Tryz.underlying209 rfl (by kernel_rfl) p w
theorem fa209_1RepA (p : Addr) (w : World) : (Instr.fieldAt 209 (.pointer (some p)) 1).run Tryz.prog w = .ok (.pointer (some (p.add 256))) w := run_fieldAt (i := 1) (sz := 0) Tryz.underlying209 rfl (by kernel_rfl) p w
theorem one106RepA : One Tryz.prog 106 := ⟨_, Tryz.underlying106, rfl, by kernel_rfl⟩
theorem one53RepA : One Tryz.prog 53 := ⟨_, Tryz.underlying53, rfl, by kernel_rfl⟩
theorem one9RepA : One Tryz.prog 9 := ⟨_, Tryz.underlying9, rfl, by kernel_rfl⟩
theorem sz106RepA : (Tryz.prog.info? 106).map (·.size) = some 1 := by kernel_rfl
theorem sz9RepA : (Tryz.prog.info? 9).map (·.size) = some 1 := by kernel_rfl
def nilS : Value := .slice none 0 0
theorem build_r (g : Nat) (A : Addr) (c : Nat) (w : World) (hB : Blk w g 156 [.int .u32 0, .int .i32 1, .int .u32 0, .nilIface, .slice (some A) 6 c]) (hS : Six w A) : Ret Tryz.prog 165 [.pointer (some ⟨g, 0, none⟩)] w fun v w' => (∃ gg, v = .iface 210 (.pointer (some ⟨gg, 0, none⟩)) ∧ Rpd 209 w.heap.size w' gg) ∧ Below w.heap.size w w' := by
  have hb := Below.refl w.heap.size w
  have hB_hb := hB
  have hS_hb := hS
  refine enter Tryz.func165 rfl rfl rfl ?_
  refine Wc.seq fun _ hK_1 => ?_
  refine Wc.region ?_
  refine Wl.y (y_assign rfl) rfl ?_
  refine Wl.nil ?_
  refine Wq.next hK_1 ?_
  refine Wc.seq fun _ hK_3 => ?_
  refine Wc.region ?_
  refine Wl.y (y_move rfl) rfl ?_
  refine Wl.y (y_nilCheck rfl) rfl ?_
  refine Wl.y (y_fieldAddr (fa156_2RepA _) rfl) rfl ?_
  refine Wl.l (l_load one53RepA rfl (by first | exact hB.at rfl | exact hB.cell 0 | assumption)) rfl ?_
  refine Wl.y (y_assign rfl) rfl ?_
  refine Wl.nil ?_
  refine Wq.next hK_3 ?_
  refine Wc.seq fun _ hK_9 => ?_
  refine Wc.seq fun _ hK_10 => ?_
  refine Wc.region ?_
  refine Wl.y (y_move rfl) rfl ?_
  refine Wl.y (y_lenl Tryz.underlying53 (by omega) rfl) rfl ?_
  refine Wl.y (y_eqli rfl rfl) rfl ?_
  refine Wl.y (y_move rfl) rfl ?_
  refine Wl.guardT rfl rfl rfl (fun g_15 => ?_) (fun g_15 => ?_)
  ·
   have g_15_ := g_15
   try simp only [decide_eq_true_eq, decide_eq_false_iff_not, beq_iff_eq, beq_eq_false_iff_ne, bne_iff_ne, bne_eq_false_iff_eq, Bool.not_eq_true', Bool.not_eq_false', Bool.not_eq_eq_eq_not, Bool.not_true, Bool.not_false, ne_eq, Int.not_lt, Int.not_le] at g_15
   exact absurd g_15 (by decide)
  ·
   have g_15_ := g_15
   try simp only [decide_eq_true_eq, decide_eq_false_iff_not, beq_iff_eq, beq_eq_false_iff_ne, bne_iff_ne, bne_eq_false_iff_eq, Bool.not_eq_true', Bool.not_eq_false', Bool.not_eq_eq_eq_not, Bool.not_true, Bool.not_false, ne_eq, Int.not_lt, Int.not_le] at g_15
   refine Wl.off' rfl rfl g_15_ rfl rfl ?_
   refine Wl.off' rfl rfl g_15_ rfl rfl ?_
   refine Wl.off' rfl rfl g_15_ rfl rfl ?_
   refine Wl.off' rfl rfl g_15_ rfl rfl ?_
   refine Wl.y (y_pickF rfl g_15_ rfl) rfl ?_
   refine Wl.nil ?_
   refine Wq.next hK_10 ?_
   refine Wc.condF rfl rfl ?_
   refine Wc.skip ?_
   refine Wq.next hK_9 ?_
   refine Wc.seq fun _ hK_17 => ?_
   refine Wc.region ?_
   refine Wl.y (y_assign rfl) rfl ?_
   refine Wl.nil ?_
   refine Wq.next hK_17 ?_
   refine Wc.seq fun _ hK_19 => ?_
   refine Wc.seq fun _ hK_20 => ?_
   refine Wc.region ?_
   refine Wl.y (y_assign rfl) rfl ?_
   refine Wl.nil ?_
   refine Wq.next hK_20 ?_
   refine Wc.block ?_
   refine Wc.loop (X := Nat) (fun x => [(3, .slice (some A) 6 c), (4, .bool (x == 0)), (5, .int .i64 (2 * (x : Int)))]) (fun x wr => x ≤ 3 ∧ Below w.heap.size w wr) (fun x => 3 - x) (0) ?_ ?_ ?_
   · exact Sub.cons' rfl (by first | rfl | exact int_eq (by omega) | exact int_eq (by simp) | (simp; done)) (Sub.cons' rfl (by first | rfl | exact int_eq (by omega) | exact int_eq (by simp) | (simp; done)) (Sub.cons' rfl (by first | rfl | exact int_eq (by omega) | exact int_eq (by simp) | (simp; done)) (Sub.nil)))
   · exact ⟨by omega, hb⟩
   ·
    rintro x wr hI_23 _ hL_22
    replace hI_23 : x ≤ 3 ∧ Below w.heap.size w wr := hI_23
    obtain ⟨hx, hb⟩ := hI_23
    show Wc _ _ _ _ _ [(3, .slice (some A) 6 c), (4, .bool (x == 0)), (5, .int .i64 (2 * (x : Int)))] _
    have hB := hB_hb.below hb
    have hS := hS_hb.below hb
    try have hzhb_L0 := hb.size
    refine Wc.seq fun _ hK_24 => ?_
    refine Wc.seq fun _ hK_25 => ?_
    refine Wc.region ?_
    refine Wl.y (y_move rfl) rfl ?_
    refine Wl.y (y_move rfl) rfl ?_
    refine Wl.y (y_lenl Tryz.underlying53 (by omega) rfl) rfl ?_
    refine Wl.y (y_lssi rfl rfl) rfl ?_
    refine Wl.nil ?_
    refine Wq.next hK_25 ?_
    refine Wc.cond rfl (fun c1_30 => ?_) (fun c1_30 => ?_)
    ·
     have c1_30_ := c1_30
     try simp only [decide_eq_true_eq, decide_eq_false_iff_not, beq_iff_eq, beq_eq_false_iff_ne, bne_iff_ne, bne_eq_false_iff_eq, Bool.not_eq_true', Bool.not_eq_false', Bool.not_eq_eq_eq_not, Bool.not_true, Bool.not_false, ne_eq, Int.not_lt, Int.not_le] at c1_30
     refine Wc.skip ?_
     refine Wq.next hK_24 ?_
     refine Wc.seq fun _ hK_31 => ?_
     refine Wc.block ?_
     refine Wc.seq fun _ hK_32 => ?_
     refine Wc.seq fun _ hK_33 => ?_
     refine Wc.region ?_
     refine Wl.y (y_move rfl) rfl ?_
     refine Wl.y (y_move rfl) rfl ?_
     refine Wl.y (y_indexAddr Tryz.underlying53 sz9RepA rfl rfl (by omega) (by omega)) rfl ?_
     refine Wl.l (l_load one9RepA rfl (by exact at2 (by omega) (hS (2 * x) _ (six_old (by omega))))) rfl ?_
     refine Wl.y (y_lens Tryz.underlying9 (by simp) rfl) rfl ?_
     refine Wl.y (y_neqi rfl rfl) rfl ?_
     refine Wl.nil ?_
     refine Wq.next hK_33 ?_
     refine Wc.cond rfl (fun c2_40 => ?_) (fun c2_40 => ?_)
     ·
      have c2_40_ := c2_40
      try simp only [decide_eq_true_eq, decide_eq_false_iff_not, beq_iff_eq, beq_eq_false_iff_ne, bne_iff_ne, bne_eq_false_iff_eq, Bool.not_eq_true', Bool.not_eq_false', Bool.not_eq_eq_eq_not, Bool.not_true, Bool.not_false, ne_eq, Int.not_lt, Int.not_le] at c2_40
      exact absurd c2_40 (by simp)
     ·
      have c2_40_ := c2_40
      try simp only [decide_eq_true_eq, decide_eq_false_iff_not, beq_iff_eq, beq_eq_false_iff_ne, bne_iff_ne, bne_eq_false_iff_eq, Bool.not_eq_true', Bool.not_eq_false', Bool.not_eq_eq_eq_not, Bool.not_true, Bool.not_false, ne_eq, Int.not_lt, Int.not_le] at c2_40
      refine Wc.skip ?_
      refine Wq.next hK_32 ?_
      refine Wc.seq fun _ hK_41 => ?_
      refine Wc.region ?_
      refine Wl.y (y_move rfl) rfl ?_
      refine Wl.y (y_move rfl) rfl ?_
      refine Wl.y (y_addI rfl rfl (by first | omega | (simp; done) | (simp; omega)) (by first | omega | (simp; done) | (simp; omega))) rfl ?_
      refine Wl.y (y_indexAddr Tryz.underlying53 sz9RepA rfl rfl (by omega) (by omega)) rfl ?_
      refine Wl.l (l_load one9RepA rfl (by exact at2 (by omega) (hS (2 * x + 1) _ (six_new (by omega))))) rfl ?_
      refine Wl.y (y_lens Tryz.underlying9 (by simp) rfl) rfl ?_
      refine Wl.y (y_neqi rfl rfl) rfl ?_
      refine Wl.nil ?_
      refine Wq.next hK_41 ?_
      refine Wc.cond rfl (fun c3_49 => ?_) (fun c3_49 => ?_)
      ·
       have c3_49_ := c3_49
       try simp only [decide_eq_true_eq, decide_eq_false_iff_not, beq_iff_eq, beq_eq_false_iff_ne, bne_iff_ne, bne_eq_false_iff_eq, Bool.not_eq_true', Bool.not_eq_false', Bool.not_eq_eq_eq_not, Bool.not_true, Bool.not_false, ne_eq, Int.not_lt, Int.not_le] at c3_49
       refine Wc.region ?_
       refine Wl.y (y_assign rfl) rfl ?_
       refine Wl.nil ?_
       refine Wq.block_normal ?_
       refine Wq.next hK_31 ?_
       refine Wc.region ?_
       refine Wl.y (y_move rfl) rfl ?_
       refine Wl.y (y_addI rfl rfl (by first | omega | (simp; done) | (simp; omega)) (by first | omega | (simp; done) | (simp; omega))) rfl ?_
       refine Wl.y (y_assign rfl) rfl ?_
       refine Wl.nil ?_
       refine fun a_ ha_ => hL_22 _ _ (x + 1) (by first | omega | (simp; omega)) (Sub.cons' rfl (by first | rfl | exact int_eq (by omega) | exact int_eq (by simp) | (simp; done)) (Sub.cons' rfl (by first | rfl | exact int_eq (by omega) | exact int_eq (by simp) | (simp; done)) (Sub.cons' rfl (by first | rfl | exact int_eq (by omega) | exact int_eq (by simp) | (simp; done)) (Sub.nil)))) ?_ a_ ha_
       exact ⟨by omega, hb⟩
      ·
       have c3_49_ := c3_49
       try simp only [decide_eq_true_eq, decide_eq_false_iff_not, beq_iff_eq, beq_eq_false_iff_ne, bne_iff_ne, bne_eq_false_iff_eq, Bool.not_eq_true', Bool.not_eq_false', Bool.not_eq_eq_eq_not, Bool.not_true, Bool.not_false, ne_eq, Int.not_lt, Int.not_le] at c3_49
       simp at c3_49
    ·
     have c1_30_ := c1_30
     try simp only [decide_eq_true_eq, decide_eq_false_iff_not, beq_iff_eq, beq_eq_false_iff_ne, bne_iff_ne, bne_eq_false_iff_eq, Bool.not_eq_true', Bool.not_eq_false', Bool.not_eq_eq_eq_not, Bool.not_true, Bool.not_false, ne_eq, Int.not_lt, Int.not_le] at c1_30
     refine Wc.exit ?_
     refine Wq.then_exit ?_
     refine Wq.then_exit ?_
     refine Wq.block_exit ?_
     refine Wq.next hK_19 ?_
     refine Wc.seq fun _ hK_54 => ?_
     refine Wc.seq fun _ hK_55 => ?_
     refine Wc.region ?_
     refine Wl.y (y_move rfl) rfl ?_
     refine Wl.nil ?_
     refine Wq.next hK_55 ?_
     refine Wc.cond rfl (fun c4_57 => ?_) (fun c4_57 => ?_)
     ·
      have c4_57_ := c4_57
      try simp only [decide_eq_true_eq, decide_eq_false_iff_not, beq_iff_eq, beq_eq_false_iff_ne, bne_iff_ne, bne_eq_false_iff_eq, Bool.not_eq_true', Bool.not_eq_false', Bool.not_eq_eq_eq_not, Bool.not_true, Bool.not_false, ne_eq, Int.not_lt, Int.not_le] at c4_57
      omega
     ·
      have c4_57_ := c4_57
      try simp only [decide_eq_true_eq, decide_eq_false_iff_not, beq_iff_eq, beq_eq_false_iff_ne, bne_iff_ne, bne_eq_false_iff_eq, Bool.not_eq_true', Bool.not_eq_false', Bool.not_eq_eq_eq_not, Bool.not_true, Bool.not_false, ne_eq, Int.not_lt, Int.not_le] at c4_57
      refine Wc.skip ?_
      refine Wq.next hK_54 ?_
      refine Wc.seq fun _ hK_58 => ?_
      have hx3 : x = 3 := by omega
      refine Wc.region ?_
      refine Wl.y (y_move rfl) rfl ?_
      refine Wl.y (y_lenl Tryz.underlying53 (by omega) rfl) rfl ?_
      refine Wl.y (y_eq (y_quo rfl rfl (by first | decide | omega)) ((show Value.int .i64 (IntKind.i64.wrap (Int.tdiv ((6 : Nat) : Int) 2)) = .int .i64 ((3 : Nat) : Int) from rfl))) rfl ?_
      refine Wl.make0 (z := str []) (sz := 1) (bytes := 16) Tryz.underlying53 (by kernel_rfl) w.heap.size (c := 3) rfl rfl (by decide) (by decide) hb.size rfl ?_
      rintro w1 hO hg1
      have hz1 := hg1.size
      have hOlt : wr.heap.size < w1.heap.size := (own_ge hO _ rfl).2
      have hb := hb.grown hg1 hb.size (fun k hk => by cases hk)
      refine Wl.y (y_buildS (z := List.replicate 257 (.slice none 0 0)) (pl := [(0, 256), (256, 1)]) (cs := List.replicate 256 (.slice none 0 0) ++ [.slice (some ⟨_, 0, none⟩) 0 3]) Tryz.underlying209 (by kernel_rfl) (by kernel_rfl) rfl (by kernel_rfl) (by show put1 (List.replicate (256 + 1) _) 256 [_] = _; exact put_last 256 _ _)) rfl ?_
      refine Wl.allocN (z := .agg (List.replicate 257 (.slice none 0 0)).toArray) (by kernel_rfl) rfl ?_
      rintro gg w2 hgg hBg hs2
      have hz2 := hs2.size
      have hb := hb.trans (hs2.mono hb.size)
      have hO := own_below hO hs2
      refine Wl.storeS (cs := List.replicate 256 (.slice none 0 0) ++ [.slice (some ⟨_, 0, none⟩) 0 3]) (by kernel_rfl) rfl rfl hBg (by show (List.replicate 257 _).length = (List.replicate 256 _ ++ [_]).length; rw [List.length_append, List.length_replicate, List.length_replicate]; rfl) (by rw [List.all_append, List.all_replicate]; rfl) ?_
      rintro w3 hB3 hg3
      have hz3 := hg3.size
      have hap : (Value.slice (some ⟨wr.heap.size, 0, none⟩) 0 3).ownBlock ≠ some gg := fun e => by injection e with e; simp only at e; omega
      have hO := World.ownsRow.kept hO hg3 (.inr hap)
      have hb := below_blk hb hg3 hb.size (by omega)
      refine Wl.nil ?_
      refine Wq.next hK_58 ?_
      refine Wc.seq fun _ hK_65 => ?_
      refine Wc.seq fun _ hK_66 => ?_
      refine Wc.region ?_
      refine Wl.y (y_move rfl) rfl ?_
      refine Wl.y (y_lenl Tryz.underlying53 (by omega) rfl) rfl ?_
      refine Wl.y (y_subI rfl rfl (by first | omega | (simp; done) | (simp; omega)) (by first | omega | (simp; done) | (simp; omega))) rfl ?_
      refine Wl.y (y_assign rfl) rfl ?_
      refine Wl.nil ?_
      refine Wq.next hK_66 ?_
      refine Wc.block ?_
      refine Wc.loop (X := Nat × List Value × Value) (fun (m, cs, tr) => [(3, .slice (some A) 6 c), (11, .pointer (some ⟨gg, 0, none⟩)), (12, .int .i64 (4 - 2 * (m : Int)))]) (fun (m, cs, tr) wr => m ≤ 3 ∧ Below w.heap.size w wr ∧ Blk wr gg 209 cs ∧ wr.ownsRow w.heap.size 9 1 tr m (doneL m) ∧ some gg ≠ tr.ownBlock ∧ cs[256]? = some tr ∧ Rpl w.heap.size wr gg tr.ownBlock cs m) (fun (m, cs, tr) => 3 - m) ((0, List.replicate 256 (.slice none 0 0) ++ [.slice (some ⟨wr.heap.size, 0, none⟩) 0 3], .slice (some ⟨wr.heap.size, 0, none⟩) 0 3)) ?_ ?_ ?_
      · exact Sub.cons' rfl (by first | rfl | exact int_eq (by omega) | exact int_eq (by simp) | (simp; done)) (Sub.cons' rfl (by first | rfl | exact int_eq (by omega) | exact int_eq (by simp) | (simp; done)) (Sub.cons' rfl (by first | rfl | exact int_eq (by omega) | exact int_eq (by simp) | (simp; done)) (Sub.nil)))
      · exact ⟨by omega, hb, hB3, hO, fun e => hap e.symm, emp_last _, ⟨emp_len _, fun k hk _ => emp_at _ hk, fun j hj => absurd hj (by omega)⟩⟩
      ·
       rintro ⟨m, cs, tr⟩ wr hI_72 _ hL_71
       replace hI_72 : m ≤ 3 ∧ Below w.heap.size w wr ∧ Blk wr gg 209 cs ∧ wr.ownsRow w.heap.size 9 1 tr m (doneL m) ∧ some gg ≠ tr.ownBlock ∧ cs[256]? = some tr ∧ Rpl w.heap.size wr gg tr.ownBlock cs m := hI_72
       obtain ⟨hm, hb, hBg, hO, hap, hT, hR⟩ := hI_72
       show Wc _ _ _ _ _ [(3, .slice (some A) 6 c), (11, .pointer (some ⟨gg, 0, none⟩)), (12, .int .i64 (4 - 2 * (m : Int)))] _
       have hB := hB_hb.below hb
       have hS := hS_hb.below hb
       try have hzhb_L3 := hb.size
       have hlhBg_L3 := hBg.lt
       refine Wc.seq fun _ hK_73 => ?_
       refine Wc.seq fun _ hK_74 => ?_
       refine Wc.region ?_
       refine Wl.y (y_move rfl) rfl ?_
       refine Wl.y (y_geqi rfl rfl) rfl ?_
       refine Wl.nil ?_
       refine Wq.next hK_74 ?_
       refine Wc.cond rfl (fun c7_77 => ?_) (fun c7_77 => ?_)
       ·
        have c7_77_ := c7_77
        try simp only [decide_eq_true_eq, decide_eq_false_iff_not, beq_iff_eq, beq_eq_false_iff_ne, bne_iff_ne, bne_eq_false_iff_eq, Bool.not_eq_true', Bool.not_eq_false', Bool.not_eq_eq_eq_not, Bool.not_true, Bool.not_false, ne_eq, Int.not_lt, Int.not_le] at c7_77
        refine Wc.skip ?_
        refine Wq.next hK_73 ?_
        refine Wc.seq fun _ hK_78 => ?_
        refine Wc.block ?_
        refine Wc.seq fun _ hK_79 => ?_
        refine Wc.region ?_
        refine Wl.y (y_move rfl) rfl ?_
        refine Wl.y (y_move rfl) rfl ?_
        refine Wl.y (y_indexAddr Tryz.underlying53 sz9RepA rfl rfl (by omega) (by omega)) rfl ?_
        refine Wl.l (l_load one9RepA rfl (by exact at2 (by omega) (hS (2 * (2 - m)) _ (six_old (by omega))))) rfl ?_
        refine Wl.y (y_eq (y_indexs Tryz.underlying9 rfl rfl (by omega) (by simp)) ((show Value.int .u8 ((([oldB (2 - m)] : List UInt8).getD (0 : Int).toNat 0).toNat : Int) = .int .u8 ((oldB (2 - m)).toNat : Int) from rfl))) rfl ?_
        refine Wl.y (y_assign rfl) rfl ?_
        refine Wl.nil ?_
        refine Wq.next hK_79 ?_
        refine Wc.seq fun _ hK_86 => ?_
        refine Wc.region ?_
        refine Wl.y (y_move rfl) rfl ?_
        refine Wl.y (y_move rfl) rfl ?_
        refine Wl.y (y_addI rfl rfl (by first | omega | (simp; done) | (simp; omega)) (by first | omega | (simp; done) | (simp; omega))) rfl ?_
        refine Wl.y (y_indexAddr Tryz.underlying53 sz9RepA rfl rfl (by omega) (by omega)) rfl ?_
        refine Wl.l (l_load one9RepA rfl (by exact at2 (by omega) (hS (2 * (2 - m) + 1) _ (six_new (by omega))))) rfl ?_
        refine Wl.y (y_assign rfl) rfl ?_
        refine Wl.nil ?_
        refine Wq.next hK_86 ?_
        refine Wc.seq fun _ hK_93 => ?_
        refine Wc.seq fun _ hK_94 => ?_
        refine Wc.region ?_
        refine Wl.y (y_move rfl) rfl ?_
        refine Wl.y (y_fieldAddr (fa209_0RepA _) rfl) rfl ?_
        have hk256 := old_lt (2 - m)
        refine Wl.y (y_eq (y_indexAddrA Tryz.underlying207 sz106RepA rfl rfl (by omega) (by omega)) (ptr_at _ _)) rfl ?_
        refine Wl.l (l_load one106RepA rfl (by exact hBg.at (hR.old _ hk256 fun j hj => old_ne (by omega) (by omega) (by omega)))) rfl ?_
        refine Wl.y (y_slnil Tryz.underlying106 rfl) rfl ?_
        refine Wl.nil ?_
        refine Wq.next hK_94 ?_
        refine Wc.cond rfl (fun c8_100 => ?_) (fun c8_100 => ?_)
        ·
         have c8_100_ := c8_100
         try simp only [decide_eq_true_eq, decide_eq_false_iff_not, beq_iff_eq, beq_eq_false_iff_ne, bne_iff_ne, bne_eq_false_iff_eq, Bool.not_eq_true', Bool.not_eq_false', Bool.not_eq_eq_eq_not, Bool.not_true, Bool.not_false, ne_eq, Int.not_lt, Int.not_le] at c8_100
         refine Wc.region ?_
         refine Wl.y (y_fieldAddr (fa209_1RepA _) rfl) rfl ?_
         refine Wl.l (l_load one53RepA rfl (by exact hBg.at hT)) rfl ?_
         refine Wl.y (y_move rfl) rfl ?_
         refine Wl.litN (sz := 1) (vs := [_]) Tryz.underlying106 (by kernel_rfl) rfl rfl rfl rfl rfl rfl ?_
         rintro g_b8 w_b8 hg_b8 hn_b8 hs_b8
         have hz_b8 := hs_b8.size
         have hb := hb.trans (hs_b8.mono hb.size)
         have hB := hB_hb.below hb
         have hS := hS_hb.below hb
         try have hBg := Blk.below hBg hs_b8
         try have hO := own_below hO hs_b8
         try have hR := Rpl.below hR hs_b8
         have hB_b8 := hn_b8
         have hl_b8 := hB_b8.lt
         refine Wl.l (l_str Tryz.underlying106 Tryz.underlying5 Tryz.underlying9 rfl (by exact (show Rd _ 1 (some ⟨_, 0, none⟩) 1 (u8s [oldB (2 - m)]) from hB_b8.rd 1 1 rfl))) rfl ?_
         refine Wl.litN (sz := 1) (vs := [_]) Tryz.underlying53 (by kernel_rfl) rfl rfl rfl rfl rfl rfl ?_
         rintro g_b9 w_b9 hg_b9 hn_b9 hs_b9
         have hz_b9 := hs_b9.size
         have hb := hb.trans (hs_b9.mono hb.size)
         have hB := hB_hb.below hb
         have hS := hS_hb.below hb
         try have hBg := Blk.below hBg hs_b9
         try have hO := own_below hO hs_b9
         try have hR := Rpl.below hR hs_b9
         have hB_b9 := hn_b9
         have hl_b9 := hB_b9.lt
         refine Wl.append (z := (str [])) (sz := 1) (bytes := 16) Tryz.underlying53 (by kernel_rfl) rfl (by decide) _ rfl hO rfl (hB_b9.rd 1 1 rfl) (fun u hu => by rw [List.mem_singleton.1 hu]; rfl) (by simp only [maxLen]; omega) (by omega) (by first | exact hb.size | omega) rfl ?_
         rintro v_b10 w_b10 hn_b10 hg_b10 ha_b10
         have hz_b10 := hg_b10.size
         have hb := hb.grown hg_b10 hb.size (fun k_ hk_ => by have := (own_ge hO k_ hk_).1; omega)
         have hB := hB_hb.below hb
         have hS := hS_hb.below hb
         try have hBg := Blk.grown hBg hg_b10 (by first | assumption | (simp [Value.ownBlock]; omega))
         try have hR := Rpl.below hR hg_b10 (by first | assumption | (simp [Value.ownBlock]; omega))
         have hO := hn_b10
         have hR := hR.grow hg_b10 ha_b10
         have hlen := hR.len
         have hap : some gg ≠ v_b10.ownBlock := by rcases ha_b10 with e | e <;> rw [e]; exact hap; intro e'; cases e'; omega
         obtain ⟨A1, c1, rfl, _, _⟩ := own_form hO
         have hap1 : (Value.slice A1 (m + 1) c1).ownBlock = none ∨ (Value.slice A1 (m + 1) c1).ownBlock ≠ some gg := .inr fun e => hap e.symm
         have hA1 : ∀ k, (Value.slice A1 (m + 1) c1).ownBlock = some k → k < w_b10.heap.size := fun k hk => (own_ge hO _ hk).2
         refine Wl.y (y_fieldAddr (fa209_1RepA _) rfl) rfl ?_
         refine Wl.storeB one53RepA rfl rfl rfl hBg (by rw [hlen]; decide) ?_
         rintro w_s4 hn_s4 hg_s4
         have hz_s4 := hg_s4.size
         have hb := below_blk hb hg_s4 hb.size (by omega)
         have hB := hB_hb.below hb
         have hS := hS_hb.below hb
         try have hO := World.ownsRow.kept hO hg_s4 (by first | assumption | (simp [Value.ownBlock]; omega))
         try have hR := Rpl.below hR hg_s4 (by first | assumption | (simp [Value.ownBlock]; omega))
         have hBg := hn_s4
         have hR := hR.put hg_s4 (.slice A1 (m + 1) c1)
         refine Wl.nil ?_
         refine Wq.next hK_93 ?_
         have hlo := hb.size
         refine Wc.region ?_
         refine Wl.y (y_move rfl) rfl ?_
         refine Wl.y (y_move rfl) rfl ?_
         refine Wl.bytesN Tryz.underlying9 Tryz.underlying106 Tryz.underlying5 rfl rfl ?_
         rintro g_o91 c_o91 w_o91 hg_o91 hl_o91 hn_o91 hs_o91
         have hz_o91 := hs_o91.size
         have hb := hb.trans (hs_o91.mono hb.size)
         have hB := hB_hb.below hb
         have hS := hS_hb.below hb
         try have hBg := Blk.below hBg hs_o91
         try have hO := own_below hO hs_o91
         try have hR := Rpl.below hR hs_o91
         have hR_o91 := hn_o91
         refine Wl.y (y_fieldAddr (fa209_0RepA _) rfl) rfl ?_
         refine Wl.y (y_eq (y_indexAddrA Tryz.underlying207 sz106RepA rfl rfl (by omega) (by omega)) (ptr_at _ _)) rfl ?_
         have hR91 := hR_o91
         refine Wl.storeB one106RepA rfl rfl rfl hBg (by rw [List.length_set, hlen]; omega) ?_
         rintro w_s5 hn_s5 hg_s5
         have hz_s5 := hg_s5.size
         have hb := below_blk hb hg_s5 hb.size (by omega)
         have hB := hB_hb.below hb
         have hS := hS_hb.below hb
         try have hO := World.ownsRow.kept hO hg_s5 (by first | assumption | (simp [Value.ownBlock]; omega))
         try have hR := Rpl.below hR hg_s5 (by first | assumption | (simp [Value.ownBlock]; omega))
         have hBg := hn_s5
         have hR := hR.add (c := c_o91) hg_s5 (by omega) hR91 (by omega) (by omega) (fun e => absurd (hA1 _ e) (by omega)) hl_o91
         refine Wl.nil ?_
         refine Wq.block_normal ?_
         refine Wq.next hK_78 ?_
         refine Wc.region ?_
         refine Wl.y (y_move rfl) rfl ?_
         refine Wl.y (y_subI rfl rfl (by first | omega | (simp; done) | (simp; omega)) (by first | omega | (simp; done) | (simp; omega))) rfl ?_
         refine Wl.y (y_assign rfl) rfl ?_
         refine Wl.nil ?_
         refine fun a_ ha_ => hL_71 _ _ ((m + 1, (cs.set 256 (.slice A1 (m + 1) c1)).set (oldB (2 - m)).toNat (.slice (some ⟨g_o91, 0, none⟩) 2 c_o91), .slice A1 (m + 1) c1)) (by first | omega | (simp; omega)) (Sub.cons' rfl (by first | rfl | exact int_eq (by omega) | exact int_eq (by simp) | (simp; done)) (Sub.cons' rfl (by first | rfl | exact int_eq (by omega) | exact int_eq (by simp) | (simp; done)) (Sub.cons' rfl (by first | rfl | exact int_eq (by omega) | exact int_eq (by simp) | (simp; done)) (Sub.nil)))) ?_ a_ ha_
         exact ⟨by omega, hb, hBg, by rw [doneL_succ]; exact hO, hap, by rw [List.getElem?_set_ne (by have := old_lt (2 - m); omega), List.getElem?_set_self (by rw [hlen]; decide)], hR⟩
        ·
         have c8_100_ := c8_100
         try simp only [decide_eq_true_eq, decide_eq_false_iff_not, beq_iff_eq, beq_eq_false_iff_ne, bne_iff_ne, bne_eq_false_iff_eq, Bool.not_eq_true', Bool.not_eq_false', Bool.not_eq_eq_eq_not, Bool.not_true, Bool.not_false, ne_eq, Int.not_lt, Int.not_le] at c8_100
         cases c8_100
       ·
        have c7_77_ := c7_77
        try simp only [decide_eq_true_eq, decide_eq_false_iff_not, beq_iff_eq, beq_eq_false_iff_ne, bne_iff_ne, bne_eq_false_iff_eq, Bool.not_eq_true', Bool.not_eq_false', Bool.not_eq_eq_eq_not, Bool.not_true, Bool.not_false, ne_eq, Int.not_lt, Int.not_le] at c7_77
        have hm3 : m = 3 := by omega
        subst hm3
        have hRd := hO
        obtain ⟨_, h0 | ⟨g1, cap, cur, rfl, hge, _⟩⟩ := hO
        · exact absurd h0.2 (by decide)
        have hdone := hR.done hBg (by omega) hge hT (Rd.of_own hRd)
        refine Wc.exit ?_
        refine Wq.then_exit ?_
        refine Wq.then_exit ?_
        refine Wq.block_exit ?_
        refine Wq.next hK_65 ?_
        refine Wc.seq fun _ hK_117 => ?_
        refine Wc.region ?_
        refine Wl.y (y_iface Tryz.underlying210 (by intro _ h; cases h) rfl) rfl ?_
        refine Wl.y (y_assign rfl) rfl ?_
        refine Wl.nil ?_
        refine Wq.next hK_117 ?_
        refine Wc.ret ?_
        refine ret1 rfl rfl ?_
        exact ⟨_, rfl, ⟨gg, rfl, hdone⟩, hb⟩
