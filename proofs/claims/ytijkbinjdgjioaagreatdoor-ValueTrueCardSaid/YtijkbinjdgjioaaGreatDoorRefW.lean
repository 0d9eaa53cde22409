/- The reference of package value: Test, Reckon, by the calculus. -/
import Derived.Test.YtijkbinjdgjioaaGreatDoorRefV
namespace Go.Proofs.YtijkbinjdgjioaaGreatDoor
open Go.RowKit Go.Bw Go.Bw.Fl
set_option linter.unusedVariables false
set_option linter.unusedSimpArgs false
theorem fa28_0RefW (p : Addr) (w : World) : (Instr.fieldAt 28 (.pointer (some p)) 0).run Tryz.prog w = .ok (.pointer (some (p.add 0))) w := run_fieldAt (i := 0) (sz := 0) Tryz.underlying28 rfl (by kernel_rfl) p w
theorem one3RefW : One Tryz.prog 3 := ⟨_, Tryz.underlying3, rfl, by kernel_rfl⟩
theorem txt28RefW : Txt Tryz.prog 28 := ⟨_, Tryz.func28, by kernel_rfl, rfl⟩   -- bridleway/bridlewayref02.Right
theorem txt39RefW : Txt Tryz.prog 39 := ⟨_, Tryz.func39, by kernel_rfl, rfl⟩   -- bridleway/bridlewayref02.null
theorem txt40RefW : Txt Tryz.prog 40 := ⟨_, Tryz.func40, by kernel_rfl, rfl⟩   -- bridleway/bridlewayref02.number
theorem txt41RefW : Txt Tryz.prog 41 := ⟨_, Tryz.func41, by kernel_rfl, rfl⟩   -- bridleway/bridlewayref02.less
theorem txt42RefW : Txt Tryz.prog 42 := ⟨_, Tryz.func42, by kernel_rfl, rfl⟩   -- bridleway/bridlewayref02.Truth
def isOp (op : List UInt8) : Bool := decide (op = [61] ∨ op = [60, 62] ∨ op = [60] ∨ op = [60, 61] ∨ op = [62] ∨ op = [62, 61])
theorem isOp_eq (op : List UInt8) : (holdsV op 0).isNone = !isOp op := by
  unfold holdsV isOp; repeat' split
  all_goals simp_all
theorem opN {op : List UInt8} (hi : isOp op = true) (c : Int) (h1 : ¬ op = [61]) (h2 : ¬ op = [60, 62]) (h3 : ¬ op = [60]) (h4 : ¬ op = [60, 61]) (h5 : ¬ op = [62]) : holdsV op c = some (decide (c ≥ 0)) := by
  have h6 : op = [62, 61] := by unfold isOp at hi; simp_all
  subst h6; rfl
theorem hd_le (c : Int) : (holdsV [60, 61] c).getD false = (decide (c < 0) || decide (c = 0)) := by show decide (c ≤ 0) = _; rw [Bool.eq_iff_iff]; simp; omega
theorem hd_gt (c : Int) : (holdsV [62] c).getD false = (!decide (c < 0) && !decide (c = 0)) := by show decide (c > 0) = _; rw [Bool.eq_iff_iff]; simp; omega
theorem not_tt {l : Bool} (h : (!l) = true) : l = false := by simpa using h
theorem not_ff {l : Bool} (h : (!l) = false) : l = true := by simpa using h
theorem tupT {x y : Bool} (h : x = y) : Value.tuple #[.agg (truthV x).cells.toArray, .int .i64 0] = .tuple #[(truthV y).enc, .int .i64 0] := by rw [h]; rfl
set_option maxHeartbeats 1000000 in
theorem RTest_r (op : List UInt8) (a b : Val) (oa : a.Ok) (ob : b.Ok) (w : World) : Ret Tryz.prog 18 [str op, a.enc, b.enc] w fun v w' => v = .tuple #[(testV op a b).1.enc, .int .i64 (testV op a b).2] ∧ Below w.heap.size w w' := by
  have hb := Below.refl w.heap.size w
  refine enter Tryz.func18 rfl rfl rfl ?_
  refine Wc.seq fun _ hK_1 => ?_
  refine Wc.region ?_
  refine Wl.boxN rfl rfl ?_
  rintro g_o0 w_o0 hg_o0 hn_o0 hs_o0
  have hz_o0 := hs_o0.size
  have hb := hb.trans (hs_o0.mono hb.size)
  have hB_o0 := hn_o0
  have hl_o0 := hB_o0.lt
  refine Wl.boxN rfl rfl ?_
  rintro g_o1 w_o1 hg_o1 hn_o1 hs_o1
  have hz_o1 := hs_o1.size
  have hb := hb.trans (hs_o1.mono hb.size)
  try have hB_o0 := Blk.below hB_o0 hs_o1
  have hB_o1 := hn_o1
  have hl_o1 := hB_o1.lt
  refine Wl.allocN (z := (.agg #[(.int .i64 0), (.int .i64 0), (.float .f64 0), (str [])])) (by kernel_rfl) rfl ?_
  rintro g_o2 w_o2 hg_o2 hn_o2 hs_o2
  have hz_o2 := hs_o2.size
  have hb := hb.trans (hs_o2.mono hb.size)
  try have hB_o0 := Blk.below hB_o0 hs_o2
  try have hB_o1 := Blk.below hB_o1 hs_o2
  have hB_o2 := hn_o2
  have hl_o2 := hB_o2.lt
  refine Wl.y (y_assign rfl) rfl ?_
  refine Wl.nil ?_
  refine Wq.next hK_1 ?_
  refine Wc.seq fun _ hK_6 => ?_
  refine Wc.region ?_
  refine Wl.l (l_loadS Tryz.underlying28 (by kernel_rfl) rfl (by first | exact fun j u hu => hB_o0.at hu | exact fun j u hu => hB_o1.at hu | exact fun j u hu => hB_o2.at hu | assumption)) rfl ?_
  refine Wl.call txt28RefW rfl rfl (RRight_r a oa _) rfl ?_
  rintro _ w_k0 ⟨rfl, hs_k0⟩
  have hz_k0 := hs_k0.size
  have hb := hb.trans (hs_k0.mono hb.size)
  try have hB_o0 := Blk.below hB_o0 hs_k0
  try have hB_o1 := Blk.below hB_o1 hs_k0
  try have hB_o2 := Blk.below hB_o2 hs_k0
  refine Wl.y (y_assign rfl) rfl ?_
  refine Wl.nil ?_
  refine Wq.next hK_6 ?_
  refine Wc.seq fun _ hK_10 => ?_
  refine Wc.region ?_
  refine Wl.l (l_loadS Tryz.underlying28 (by kernel_rfl) rfl (by first | exact fun j u hu => hB_o0.at hu | exact fun j u hu => hB_o1.at hu | exact fun j u hu => hB_o2.at hu | assumption)) rfl ?_
  refine Wl.call txt28RefW rfl rfl (RRight_r b ob _) rfl ?_
  rintro _ w_k1 ⟨rfl, hs_k1⟩
  have hz_k1 := hs_k1.size
  have hb := hb.trans (hs_k1.mono hb.size)
  try have hB_o0 := Blk.below hB_o0 hs_k1
  try have hB_o1 := Blk.below hB_o1 hs_k1
  try have hB_o2 := Blk.below hB_o2 hs_k1
  refine Wl.y (y_assign rfl) rfl ?_
  refine Wl.nil ?_
  refine Wq.next hK_10 ?_
  refine Wc.seq fun _ hK_14 => ?_
  refine Wc.meet (X := Unit) (fun u_ => [(0, str op), (4, .pointer (some ⟨g_o0, 0, none⟩)), (5, .pointer (some ⟨g_o1, 0, none⟩)), (6, .pointer (some ⟨g_o2, 0, none⟩)), (7, .int .i64 0), (8, .bool (rightV a)), (9, .bool (rightV b)), (10, .bool (isOp op))]) (fun u_ wr => Below w.heap.size w wr ∧ Blk wr g_o0 28 a.cells ∧ Blk wr g_o1 28 b.cells ∧ Blk wr g_o2 28 nullV.cells) (fun _ hM_15 => ?_) ?_
  ·
   refine Wc.region ?_
   refine Wl.y (y_move rfl) rfl ?_
   refine Wl.y (y_eqls rfl rfl) rfl ?_
   refine Wl.y (y_move rfl) rfl ?_
   refine Wl.guardF rfl rfl rfl (fun g_19 => ?_) (fun g_19 => ?_)
   ·
    have g_19_ := g_19
    refine Wl.off' rfl rfl g_19_ rfl rfl ?_
    refine Wl.y (y_pickT rfl g_19_ rfl) rfl ?_
    refine Wl.y (y_move rfl) rfl ?_
    refine Wl.off' rfl rfl rfl rfl rfl ?_
    refine Wl.off' rfl rfl rfl rfl rfl ?_
    refine Wl.y (y_pickT rfl rfl rfl) rfl ?_
    refine Wl.y (y_move rfl) rfl ?_
    refine Wl.off' rfl rfl rfl rfl rfl ?_
    refine Wl.off' rfl rfl rfl rfl rfl ?_
    refine Wl.y (y_pickT rfl rfl rfl) rfl ?_
    refine Wl.y (y_move rfl) rfl ?_
    refine Wl.off' rfl rfl rfl rfl rfl ?_
    refine Wl.off' rfl rfl rfl rfl rfl ?_
    refine Wl.y (y_pickT rfl rfl rfl) rfl ?_
    refine Wl.y (y_move rfl) rfl ?_
    refine Wl.off' rfl rfl rfl rfl rfl ?_
    refine Wl.off' rfl rfl rfl rfl rfl ?_
    refine Wl.y (y_pickT rfl rfl rfl) rfl ?_
    refine Wl.y (y_assign rfl) rfl ?_
    refine Wl.nil ?_
    refine Wq.meet hM_15 (()) (Sub.cons' rfl (by first | rfl | exact bool_eq (by unfold isOp; simp_all <;> exact beq_dec _ _)) (Sub.cons' rfl (by first | rfl | exact bool_eq (by unfold isOp; simp_all <;> exact beq_dec _ _)) (Sub.cons' rfl (by first | rfl | exact bool_eq (by unfold isOp; simp_all <;> exact beq_dec _ _)) (Sub.cons' rfl (by first | rfl | exact bool_eq (by unfold isOp; simp_all <;> exact beq_dec _ _)) (Sub.cons' rfl (by first | rfl | exact bool_eq (by unfold isOp; simp_all <;> exact beq_dec _ _)) (Sub.cons' rfl (by first | rfl | exact bool_eq (by unfold isOp; simp_all <;> exact beq_dec _ _)) (Sub.cons' rfl (by first | rfl | exact bool_eq (by unfold isOp; simp_all <;> exact beq_dec _ _)) (Sub.cons' rfl (by first | rfl | exact bool_eq (by unfold isOp; simp_all <;> exact beq_dec _ _)) (Sub.nil))))))))) ?_
    exact ⟨hb, hB_o0, hB_o1, hB_o2⟩
   ·
    have g_19_ := g_19
    refine Wl.y (y_move rfl) rfl ?_
    refine Wl.on' rfl rfl g_19_ ?_
    refine Wl.y (y_eqls rfl rfl) rfl ?_
    refine Wl.y (y_pickF rfl g_19_ rfl) rfl ?_
    refine Wl.y (y_move rfl) rfl ?_
    refine Wl.guardF rfl rfl rfl (fun g_34 => ?_) (fun g_34 => ?_)
    ·
     have g_34_ := g_34
     refine Wl.off' rfl rfl g_34_ rfl rfl ?_
     refine Wl.y (y_pickT rfl g_34_ rfl) rfl ?_
     refine Wl.y (y_move rfl) rfl ?_
     refine Wl.off' rfl rfl rfl rfl rfl ?_
     refine Wl.off' rfl rfl rfl rfl rfl ?_
     refine Wl.y (y_pickT rfl rfl rfl) rfl ?_
     refine Wl.y (y_move rfl) rfl ?_
     refine Wl.off' rfl rfl rfl rfl rfl ?_
     refine Wl.off' rfl rfl rfl rfl rfl ?_
     refine Wl.y (y_pickT rfl rfl rfl) rfl ?_
     refine Wl.y (y_move rfl) rfl ?_
     refine Wl.off' rfl rfl rfl rfl rfl ?_
     refine Wl.off' rfl rfl rfl rfl rfl ?_
     refine Wl.y (y_pickT rfl rfl rfl) rfl ?_
     refine Wl.y (y_assign rfl) rfl ?_
     refine Wl.nil ?_
     refine Wq.meet hM_15 (()) (Sub.cons' rfl (by first | rfl | exact bool_eq (by unfold isOp; simp_all <;> exact beq_dec _ _)) (Sub.cons' rfl (by first | rfl | exact bool_eq (by unfold isOp; simp_all <;> exact beq_dec _ _)) (Sub.cons' rfl (by first | rfl | exact bool_eq (by unfold isOp; simp_all <;> exact beq_dec _ _)) (Sub.cons' rfl (by first | rfl | exact bool_eq (by unfold isOp; simp_all <;> exact beq_dec _ _)) (Sub.cons' rfl (by first | rfl | exact bool_eq (by unfold isOp; simp_all <;> exact beq_dec _ _)) (Sub.cons' rfl (by first | rfl | exact bool_eq (by unfold isOp; simp_all <;> exact beq_dec _ _)) (Sub.cons' rfl (by first | rfl | exact bool_eq (by unfold isOp; simp_all <;> exact beq_dec _ _)) (Sub.cons' rfl (by first | rfl | exact bool_eq (by unfold isOp; simp_all <;> exact beq_dec _ _)) (Sub.nil))))))))) ?_
     exact ⟨hb, hB_o0, hB_o1, hB_o2⟩
    ·
     have g_34_ := g_34
     refine Wl.y (y_move rfl) rfl ?_
     refine Wl.on' rfl rfl g_34_ ?_
     refine Wl.y (y_eqls rfl rfl) rfl ?_
     refine Wl.y (y_pickF rfl g_34_ rfl) rfl ?_
     refine Wl.y (y_move rfl) rfl ?_
     refine Wl.guardF rfl rfl rfl (fun g_47 => ?_) (fun g_47 => ?_)
     ·
      have g_47_ := g_47
      refine Wl.off' rfl rfl g_47_ rfl rfl ?_
      refine Wl.y (y_pickT rfl g_47_ rfl) rfl ?_
      refine Wl.y (y_move rfl) rfl ?_
      refine Wl.off' rfl rfl rfl rfl rfl ?_
      refine Wl.off' rfl rfl rfl rfl rfl ?_
      refine Wl.y (y_pickT rfl rfl rfl) rfl ?_
      refine Wl.y (y_move rfl) rfl ?_
      refine Wl.off' rfl rfl rfl rfl rfl ?_
      refine Wl.off' rfl rfl rfl rfl rfl ?_
      refine Wl.y (y_pickT rfl rfl rfl) rfl ?_
      refine Wl.y (y_assign rfl) rfl ?_
      refine Wl.nil ?_
      refine Wq.meet hM_15 (()) (Sub.cons' rfl (by first | rfl | exact bool_eq (by unfold isOp; simp_all <;> exact beq_dec _ _)) (Sub.cons' rfl (by first | rfl | exact bool_eq (by unfold isOp; simp_all <;> exact beq_dec _ _)) (Sub.cons' rfl (by first | rfl | exact bool_eq (by unfold isOp; simp_all <;> exact beq_dec _ _)) (Sub.cons' rfl (by first | rfl | exact bool_eq (by unfold isOp; simp_all <;> exact beq_dec _ _)) (Sub.cons' rfl (by first | rfl | exact bool_eq (by unfold isOp; simp_all <;> exact beq_dec _ _)) (Sub.cons' rfl (by first | rfl | exact bool_eq (by unfold isOp; simp_all <;> exact beq_dec _ _)) (Sub.cons' rfl (by first | rfl | exact bool_eq (by unfold isOp; simp_all <;> exact beq_dec _ _)) (Sub.cons' rfl (by first | rfl | exact bool_eq (by unfold isOp; simp_all <;> exact beq_dec _ _)) (Sub.nil))))))))) ?_
      exact ⟨hb, hB_o0, hB_o1, hB_o2⟩
     ·
      have g_47_ := g_47
      refine Wl.y (y_move rfl) rfl ?_
      refine Wl.on' rfl rfl g_47_ ?_
      refine Wl.y (y_eqls rfl rfl) rfl ?_
      refine Wl.y (y_pickF rfl g_47_ rfl) rfl ?_
      refine Wl.y (y_move rfl) rfl ?_
      refine Wl.guardF rfl rfl rfl (fun g_58 => ?_) (fun g_58 => ?_)
      ·
       have g_58_ := g_58
       refine Wl.off' rfl rfl g_58_ rfl rfl ?_
       refine Wl.y (y_pickT rfl g_58_ rfl) rfl ?_
       refine Wl.y (y_move rfl) rfl ?_
       refine Wl.off' rfl rfl rfl rfl rfl ?_
       refine Wl.off' rfl rfl rfl rfl rfl ?_
       refine Wl.y (y_pickT rfl rfl rfl) rfl ?_
       refine Wl.y (y_assign rfl) rfl ?_
       refine Wl.nil ?_
       refine Wq.meet hM_15 (()) (Sub.cons' rfl (by first | rfl | exact bool_eq (by unfold isOp; simp_all <;> exact beq_dec _ _)) (Sub.cons' rfl (by first | rfl | exact bool_eq (by unfold isOp; simp_all <;> exact beq_dec _ _)) (Sub.cons' rfl (by first | rfl | exact bool_eq (by unfold isOp; simp_all <;> exact beq_dec _ _)) (Sub.cons' rfl (by first | rfl | exact bool_eq (by unfold isOp; simp_all <;> exact beq_dec _ _)) (Sub.cons' rfl (by first | rfl | exact bool_eq (by unfold isOp; simp_all <;> exact beq_dec _ _)) (Sub.cons' rfl (by first | rfl | exact bool_eq (by unfold isOp; simp_all <;> exact beq_dec _ _)) (Sub.cons' rfl (by first | rfl | exact bool_eq (by unfold isOp; simp_all <;> exact beq_dec _ _)) (Sub.cons' rfl (by first | rfl | exact bool_eq (by unfold isOp; simp_all <;> exact beq_dec _ _)) (Sub.nil))))))))) ?_
       exact ⟨hb, hB_o0, hB_o1, hB_o2⟩
      ·
       have g_58_ := g_58
       refine Wl.y (y_move rfl) rfl ?_
       refine Wl.on' rfl rfl g_58_ ?_
       refine Wl.y (y_eqls rfl rfl) rfl ?_
       refine Wl.y (y_pickF rfl g_58_ rfl) rfl ?_
       refine Wl.y (y_move rfl) rfl ?_
       refine Wl.guardF rfl rfl rfl (fun g_67 => ?_) (fun g_67 => ?_)
       ·
        have g_67_ := g_67
        refine Wl.off' rfl rfl g_67_ rfl rfl ?_
        refine Wl.y (y_pickT rfl g_67_ rfl) rfl ?_
        refine Wl.y (y_assign rfl) rfl ?_
        refine Wl.nil ?_
        refine Wq.meet hM_15 (()) (Sub.cons' rfl (by first | rfl | exact bool_eq (by unfold isOp; simp_all <;> exact beq_dec _ _)) (Sub.cons' rfl (by first | rfl | exact bool_eq (by unfold isOp; simp_all <;> exact beq_dec _ _)) (Sub.cons' rfl (by first | rfl | exact bool_eq (by unfold isOp; simp_all <;> exact beq_dec _ _)) (Sub.cons' rfl (by first | rfl | exact bool_eq (by unfold isOp; simp_all <;> exact beq_dec _ _)) (Sub.cons' rfl (by first | rfl | exact bool_eq (by unfold isOp; simp_all <;> exact beq_dec _ _)) (Sub.cons' rfl (by first | rfl | exact bool_eq (by unfold isOp; simp_all <;> exact beq_dec _ _)) (Sub.cons' rfl (by first | rfl | exact bool_eq (by unfold isOp; simp_all <;> exact beq_dec _ _)) (Sub.cons' rfl (by first | rfl | exact bool_eq (by unfold isOp; simp_all <;> exact beq_dec _ _)) (Sub.nil))))))))) ?_
        exact ⟨hb, hB_o0, hB_o1, hB_o2⟩
       ·
        have g_67_ := g_67
        refine Wl.y (y_move rfl) rfl ?_
        refine Wl.on' rfl rfl g_67_ ?_
        refine Wl.y (y_eqls rfl rfl) rfl ?_
        refine Wl.y (y_pickF rfl g_67_ rfl) rfl ?_
        refine Wl.y (y_assign rfl) rfl ?_
        refine Wl.nil ?_
        refine Wq.meet hM_15 (()) (Sub.cons' rfl (by first | rfl | exact bool_eq (by unfold isOp; simp_all <;> exact beq_dec _ _)) (Sub.cons' rfl (by first | rfl | exact bool_eq (by unfold isOp; simp_all <;> exact beq_dec _ _)) (Sub.cons' rfl (by first | rfl | exact bool_eq (by unfold isOp; simp_all <;> exact beq_dec _ _)) (Sub.cons' rfl (by first | rfl | exact bool_eq (by unfold isOp; simp_all <;> exact beq_dec _ _)) (Sub.cons' rfl (by first | rfl | exact bool_eq (by unfold isOp; simp_all <;> exact beq_dec _ _)) (Sub.cons' rfl (by first | rfl | exact bool_eq (by unfold isOp; simp_all <;> exact beq_dec _ _)) (Sub.cons' rfl (by first | rfl | exact bool_eq (by unfold isOp; simp_all <;> exact beq_dec _ _)) (Sub.cons' rfl (by first | rfl | exact bool_eq (by unfold isOp; simp_all <;> exact beq_dec _ _)) (Sub.nil))))))))) ?_
        exact ⟨hb, hB_o0, hB_o1, hB_o2⟩
  ·
   rintro u_ wr hI_74
   replace hI_74 : Below w.heap.size w wr ∧ Blk wr g_o0 28 a.cells ∧ Blk wr g_o1 28 b.cells ∧ Blk wr g_o2 28 nullV.cells := hI_74
   obtain ⟨hb, hB_o0, hB_o1, hB_o2⟩ := hI_74
   show Wq _ _ _ _ [(0, str op), (4, .pointer (some ⟨g_o0, 0, none⟩)), (5, .pointer (some ⟨g_o1, 0, none⟩)), (6, .pointer (some ⟨g_o2, 0, none⟩)), (7, .int .i64 0), (8, .bool (rightV a)), (9, .bool (rightV b)), (10, .bool (isOp op))] _
   try have hzhb_g3 := hb.size
   have hlhB_o0_g3 := hB_o0.lt
   have hlhB_o1_g3 := hB_o1.lt
   have hlhB_o2_g3 := hB_o2.lt
   refine Wq.next hK_14 ?_
   refine Wc.seq fun _ hK_75 => ?_
   refine Wc.seq fun _ hK_76 => ?_
   refine Wc.meet (X := Unit) (fun u_ => [(0, str op), (4, .pointer (some ⟨g_o0, 0, none⟩)), (5, .pointer (some ⟨g_o1, 0, none⟩)), (6, .pointer (some ⟨g_o2, 0, none⟩)), (7, .int .i64 0), (50, .bool (!isOp op || (!rightV a || !rightV b)))]) (fun u_ wr => Below w.heap.size w wr ∧ Blk wr g_o0 28 a.cells ∧ Blk wr g_o1 28 b.cells ∧ Blk wr g_o2 28 nullV.cells) (fun _ hM_77 => ?_) ?_
   ·
    refine Wc.region ?_
    refine Wl.y (y_move rfl) rfl ?_
    refine Wl.y (y_not rfl) rfl ?_
    refine Wl.y (y_move rfl) rfl ?_
    refine Wl.guardF rfl rfl rfl (fun g_81 => ?_) (fun g_81 => ?_)
    ·
     have g_81_ := g_81
     refine Wl.off' rfl rfl g_81_ rfl rfl ?_
     refine Wl.y (y_pickT rfl g_81_ rfl) rfl ?_
     refine Wl.y (y_move rfl) rfl ?_
     refine Wl.off' rfl rfl rfl rfl rfl ?_
     refine Wl.off' rfl rfl rfl rfl rfl ?_
     refine Wl.y (y_pickT rfl rfl rfl) rfl ?_
     refine Wl.nil ?_
     refine Wq.meet hM_77 (()) (Sub.cons' rfl (by first | rfl | exact bool_eq (by simp_all)) (Sub.cons' rfl (by first | rfl | exact bool_eq (by simp_all)) (Sub.cons' rfl (by first | rfl | exact bool_eq (by simp_all)) (Sub.cons' rfl (by first | rfl | exact bool_eq (by simp_all)) (Sub.cons' rfl (by first | rfl | exact bool_eq (by simp_all)) (Sub.cons' rfl (by first | rfl | exact bool_eq (by simp_all)) (Sub.nil))))))) ?_
     exact ⟨hb, hB_o0, hB_o1, hB_o2⟩
    ·
     have g_81_ := g_81
     refine Wl.y (y_move rfl) rfl ?_
     refine Wl.on' rfl rfl g_81_ ?_
     refine Wl.y (y_not rfl) rfl ?_
     refine Wl.y (y_pickF rfl g_81_ rfl) rfl ?_
     refine Wl.y (y_move rfl) rfl ?_
     refine Wl.guardF rfl rfl rfl (fun g_89 => ?_) (fun g_89 => ?_)
     ·
      have g_89_ := g_89
      refine Wl.off' rfl rfl g_89_ rfl rfl ?_
      refine Wl.y (y_pickT rfl g_89_ rfl) rfl ?_
      refine Wl.nil ?_
      refine Wq.meet hM_77 (()) (Sub.cons' rfl (by first | rfl | exact bool_eq (by simp_all)) (Sub.cons' rfl (by first | rfl | exact bool_eq (by simp_all)) (Sub.cons' rfl (by first | rfl | exact bool_eq (by simp_all)) (Sub.cons' rfl (by first | rfl | exact bool_eq (by simp_all)) (Sub.cons' rfl (by first | rfl | exact bool_eq (by simp_all)) (Sub.cons' rfl (by first | rfl | exact bool_eq (by simp_all)) (Sub.nil))))))) ?_
      exact ⟨hb, hB_o0, hB_o1, hB_o2⟩
     ·
      have g_89_ := g_89
      refine Wl.y (y_move rfl) rfl ?_
      refine Wl.on' rfl rfl g_89_ ?_
      refine Wl.y (y_not rfl) rfl ?_
      refine Wl.y (y_pickF rfl g_89_ rfl) rfl ?_
      refine Wl.nil ?_
      refine Wq.meet hM_77 (()) (Sub.cons' rfl (by first | rfl | exact bool_eq (by simp_all)) (Sub.cons' rfl (by first | rfl | exact bool_eq (by simp_all)) (Sub.cons' rfl (by first | rfl | exact bool_eq (by simp_all)) (Sub.cons' rfl (by first | rfl | exact bool_eq (by simp_all)) (Sub.cons' rfl (by first | rfl | exact bool_eq (by simp_all)) (Sub.cons' rfl (by first | rfl | exact bool_eq (by simp_all)) (Sub.nil))))))) ?_
      exact ⟨hb, hB_o0, hB_o1, hB_o2⟩
   ·
    rintro u_ wr hI_94
    replace hI_94 : Below w.heap.size w wr ∧ Blk wr g_o0 28 a.cells ∧ Blk wr g_o1 28 b.cells ∧ Blk wr g_o2 28 nullV.cells := hI_94
    obtain ⟨hb, hB_o0, hB_o1, hB_o2⟩ := hI_94
    show Wq _ _ _ _ [(0, str op), (4, .pointer (some ⟨g_o0, 0, none⟩)), (5, .pointer (some ⟨g_o1, 0, none⟩)), (6, .pointer (some ⟨g_o2, 0, none⟩)), (7, .int .i64 0), (50, .bool (!isOp op || (!rightV a || !rightV b)))] _
    try have hzhb_g4 := hb.size
    have hlhB_o0_g4 := hB_o0.lt
    have hlhB_o1_g4 := hB_o1.lt
    have hlhB_o2_g4 := hB_o2.lt
    refine Wq.next hK_76 ?_
    refine Wc.cond rfl (fun c0_95 => ?_) (fun c0_95 => ?_)
    ·
     have c0_95_ := c0_95
     have ht : testV op a b = (nullV, 1) := by unfold testV; rw [if_pos]; have h := c0_95_; rw [isOp_eq]; simpa using h
     refine Wc.seq fun _ hK_96 => ?_
     refine Wc.region ?_
     refine Wl.call txt39RefW rfl rfl (null_r _) rfl ?_
     rintro _ w_k2 ⟨rfl, hs_k2⟩
     have hz_k2 := hs_k2.size
     have hb := hb.trans (hs_k2.mono hb.size)
     try have hB_o2 := Blk.below hB_o2 hs_k2
     refine Wl.storeS (by kernel_rfl) rfl rfl hB_o2 rfl rfl ?_
     rintro w_s0 hn_s0 hg_s0
     have hz_s0 := hg_s0.size
     have hb := below_blk hb hg_s0 hb.size (by omega)
     have hB_o2 := hn_s0
     refine Wl.y (y_assign rfl) rfl ?_
     refine Wl.nil ?_
     refine Wq.next hK_96 ?_
     refine Wc.ret ?_
     refine Wq.then_ret ?_
     refine retN (rs := [.cell 6 28, .tmp 7]) (vs := [_, _]) rfl (.cell rfl (loadS Tryz.underlying28 (by kernel_rfl) (fun j u hu => hB_o2.at hu)) (.tmp rfl .nil)) ?_
     first | exact ⟨_, rfl, by rw [ht]; rfl, hb⟩ | exact ⟨_, rfl, by rw [ht, beq_dec]; rfl, hb⟩ | exact ⟨_, rfl, by rw [ht, MISSING_c4, hs, ← beqI]; rfl, hb⟩ | exact ⟨_, rfl, by rw [ht, MISSING_c5, hs, ← beqI]; rfl, hb⟩ | exact ⟨_, rfl, by rw [ht, MISSING_c6, hl]; rfl, hb⟩ | exact ⟨_, rfl, by rw [ht, MISSING_c7, hd_le, ← hl, ← hs, MISSING_o88_]; rfl, hb⟩ | exact ⟨_, rfl, by rw [ht, MISSING_c8, hd_gt, ← hl, ← hs, not_tt MISSING_o96_]; rfl, hb⟩ | exact ⟨_, rfl, by rw [ht, MISSING_c8, hd_gt, ← hl, ← hs, not_ff MISSING_o96_]; rfl, hb⟩ | exact ⟨_, rfl, by rw [ht, opN hio _ MISSING_c4 MISSING_c5 MISSING_c6 MISSING_c7 MISSING_c8, hl]; exact tupT (by show _ = decide _; rw [Bool.eq_iff_iff]; simp), hb⟩
    ·
     have c0_95_ := c0_95
     have ht0 : ¬ ((holdsV op 0).isNone = true ∨ rightV a = false ∨ rightV b = false) := by have h := c0_95_; rw [isOp_eq]; simpa using h
     have hio : isOp op = true := by have h := c0_95_; simp at h; exact h.1
     refine Wc.skip ?_
     refine Wq.next hK_75 ?_
     refine Wc.seq fun _ hK_99 => ?_
     refine Wc.seq fun _ hK_100 => ?_
     refine Wc.meet (X := Unit) (fun u_ => [(0, str op), (4, .pointer (some ⟨g_o0, 0, none⟩)), (5, .pointer (some ⟨g_o1, 0, none⟩)), (6, .pointer (some ⟨g_o2, 0, none⟩)), (7, .int .i64 0), (59, .bool (decide (a.k = 0 ∨ b.k = 0)))]) (fun u_ wr => Below w.heap.size w wr ∧ Blk wr g_o0 28 a.cells ∧ Blk wr g_o1 28 b.cells ∧ Blk wr g_o2 28 nullV.cells) (fun _ hM_101 => ?_) ?_
     ·
      refine Wc.region ?_
      refine Wl.y (y_fieldAddr (fa28_0RefW _) rfl) rfl ?_
      refine Wl.l (l_load one3RefW rfl (by first | exact hB_o0.at rfl | exact hB_o1.at rfl | exact hB_o2.at rfl | exact hB_o0.cell 0 | exact hB_o1.cell 0 | exact hB_o2.cell 0 | assumption)) rfl ?_
      refine Wl.y (y_eqli rfl rfl) rfl ?_
      refine Wl.y (y_move rfl) rfl ?_
      refine Wl.guardF rfl rfl rfl (fun g_106 => ?_) (fun g_106 => ?_)
      ·
       have g_106_ := g_106
       refine Wl.off' rfl rfl g_106_ rfl rfl ?_
       refine Wl.off' rfl rfl g_106_ rfl rfl ?_
       refine Wl.y (y_pickT rfl g_106_ rfl) rfl ?_
       refine Wl.nil ?_
       refine Wq.meet hM_101 (()) (Sub.cons' rfl (by first | rfl | exact bool_eq (by simp_all [beqI])) (Sub.cons' rfl (by first | rfl | exact bool_eq (by simp_all [beqI])) (Sub.cons' rfl (by first | rfl | exact bool_eq (by simp_all [beqI])) (Sub.cons' rfl (by first | rfl | exact bool_eq (by simp_all [beqI])) (Sub.cons' rfl (by first | rfl | exact bool_eq (by simp_all [beqI])) (Sub.cons' rfl (by first | rfl | exact bool_eq (by simp_all [beqI])) (Sub.nil))))))) ?_
       exact ⟨hb, hB_o0, hB_o1, hB_o2⟩
      ·
       have g_106_ := g_106
       refine Wl.y (y_fieldAddr (fa28_0RefW _) rfl) rfl ?_
       refine Wl.on' rfl rfl g_106_ ?_
       refine Wl.l (l_load one3RefW rfl (by first | exact hB_o0.at rfl | exact hB_o1.at rfl | exact hB_o2.at rfl | exact hB_o0.cell 0 | exact hB_o1.cell 0 | exact hB_o2.cell 0 | assumption)) rfl ?_
       refine Wl.on' rfl rfl g_106_ ?_
       refine Wl.y (y_eqli rfl rfl) rfl ?_
       refine Wl.y (y_pickF rfl g_106_ rfl) rfl ?_
       refine Wl.nil ?_
       refine Wq.meet hM_101 (()) (Sub.cons' rfl (by first | rfl | exact bool_eq (by simp_all [beqI])) (Sub.cons' rfl (by first | rfl | exact bool_eq (by simp_all [beqI])) (Sub.cons' rfl (by first | rfl | exact bool_eq (by simp_all [beqI])) (Sub.cons' rfl (by first | rfl | exact bool_eq (by simp_all [beqI])) (Sub.cons' rfl (by first | rfl | exact bool_eq (by simp_all [beqI])) (Sub.cons' rfl (by first | rfl | exact bool_eq (by simp_all [beqI])) (Sub.nil))))))) ?_
       exact ⟨hb, hB_o0, hB_o1, hB_o2⟩
     ·
      rintro u_ wr hI_112
      replace hI_112 : Below w.heap.size w wr ∧ Blk wr g_o0 28 a.cells ∧ Blk wr g_o1 28 b.cells ∧ Blk wr g_o2 28 nullV.cells := hI_112
      obtain ⟨hb, hB_o0, hB_o1, hB_o2⟩ := hI_112
      show Wq _ _ _ _ [(0, str op), (4, .pointer (some ⟨g_o0, 0, none⟩)), (5, .pointer (some ⟨g_o1, 0, none⟩)), (6, .pointer (some ⟨g_o2, 0, none⟩)), (7, .int .i64 0), (59, .bool (decide (a.k = 0 ∨ b.k = 0)))] _
      try have hzhb_g6 := hb.size
      have hlhB_o0_g6 := hB_o0.lt
      have hlhB_o1_g6 := hB_o1.lt
      have hlhB_o2_g6 := hB_o2.lt
      refine Wq.next hK_100 ?_
      refine Wc.cond rfl (fun c1_113 => ?_) (fun c1_113 => ?_)
      ·
       try simp only [decide_eq_true_eq, decide_eq_false_iff_not, beq_iff_eq, beq_eq_false_iff_ne, bne_iff_ne, bne_eq_false_iff_eq, Bool.not_eq_true', Bool.not_eq_false', Bool.not_eq_eq_eq_not, Bool.not_true, Bool.not_false, ne_eq, Int.not_lt, Int.not_le] at c1_113
       have ht : testV op a b = (nullV, 0) := by unfold testV; rw [if_neg ht0, if_pos c1_113]
       refine Wc.seq fun _ hK_114 => ?_
       refine Wc.region ?_
       refine Wl.call txt39RefW rfl rfl (null_r _) rfl ?_
       rintro _ w_k3 ⟨rfl, hs_k3⟩
       have hz_k3 := hs_k3.size
       have hb := hb.trans (hs_k3.mono hb.size)
       try have hB_o2 := Blk.below hB_o2 hs_k3
       refine Wl.storeS (by kernel_rfl) rfl rfl hB_o2 rfl rfl ?_
       rintro w_s1 hn_s1 hg_s1
       have hz_s1 := hg_s1.size
       have hb := below_blk hb hg_s1 hb.size (by omega)
       have hB_o2 := hn_s1
       refine Wl.y (y_assign rfl) rfl ?_
       refine Wl.nil ?_
       refine Wq.next hK_114 ?_
       refine Wc.ret ?_
       refine Wq.then_ret ?_
       refine retN (rs := [.cell 6 28, .tmp 7]) (vs := [_, _]) rfl (.cell rfl (loadS Tryz.underlying28 (by kernel_rfl) (fun j u hu => hB_o2.at hu)) (.tmp rfl .nil)) ?_
       first | exact ⟨_, rfl, by rw [ht]; rfl, hb⟩ | exact ⟨_, rfl, by rw [ht, beq_dec]; rfl, hb⟩ | exact ⟨_, rfl, by rw [ht, MISSING_c4, hs, ← beqI]; rfl, hb⟩ | exact ⟨_, rfl, by rw [ht, MISSING_c5, hs, ← beqI]; rfl, hb⟩ | exact ⟨_, rfl, by rw [ht, MISSING_c6, hl]; rfl, hb⟩ | exact ⟨_, rfl, by rw [ht, MISSING_c7, hd_le, ← hl, ← hs, MISSING_o88_]; rfl, hb⟩ | exact ⟨_, rfl, by rw [ht, MISSING_c8, hd_gt, ← hl, ← hs, not_tt MISSING_o96_]; rfl, hb⟩ | exact ⟨_, rfl, by rw [ht, MISSING_c8, hd_gt, ← hl, ← hs, not_ff MISSING_o96_]; rfl, hb⟩ | exact ⟨_, rfl, by rw [ht, opN hio _ MISSING_c4 MISSING_c5 MISSING_c6 MISSING_c7 MISSING_c8, hl]; exact tupT (by show _ = decide _; rw [Bool.eq_iff_iff]; simp), hb⟩
      ·
       try simp only [decide_eq_true_eq, decide_eq_false_iff_not, beq_iff_eq, beq_eq_false_iff_ne, bne_iff_ne, bne_eq_false_iff_eq, Bool.not_eq_true', Bool.not_eq_false', Bool.not_eq_eq_eq_not, Bool.not_true, Bool.not_false, ne_eq, Int.not_lt, Int.not_le] at c1_113
       refine Wc.skip ?_
       refine Wq.next hK_99 ?_
       refine Wc.seq fun _ hK_117 => ?_
       refine Wc.meet (X := Unit) (fun u_ => [(0, str op), (4, .pointer (some ⟨g_o0, 0, none⟩)), (5, .pointer (some ⟨g_o1, 0, none⟩)), (6, .pointer (some ⟨g_o2, 0, none⟩)), (7, .int .i64 0), (11, .bool (numV a && numV b))]) (fun u_ wr => Below w.heap.size w wr ∧ Blk wr g_o0 28 a.cells ∧ Blk wr g_o1 28 b.cells ∧ Blk wr g_o2 28 nullV.cells) (fun _ hM_118 => ?_) ?_
       ·
        refine Wc.region ?_
        refine Wl.l (l_loadS Tryz.underlying28 (by kernel_rfl) rfl (by first | exact fun j u hu => hB_o0.at hu | exact fun j u hu => hB_o1.at hu | exact fun j u hu => hB_o2.at hu | assumption)) rfl ?_
        refine Wl.call txt40RefW rfl rfl (rnumber_r a _) rfl ?_
        rintro _ w_k4 ⟨rfl, hs_k4⟩
        have hz_k4 := hs_k4.size
        have hb := hb.trans (hs_k4.mono hb.size)
        try have hB_o0 := Blk.below hB_o0 hs_k4
        try have hB_o1 := Blk.below hB_o1 hs_k4
        try have hB_o2 := Blk.below hB_o2 hs_k4
        refine Wl.y (y_move rfl) rfl ?_
        refine Wl.guardT rfl rfl rfl (fun g_122 => ?_) (fun g_122 => ?_)
        ·
         have g_122_ := g_122
         refine Wl.l (l_loadS Tryz.underlying28 (by kernel_rfl) rfl (by first | exact fun j u hu => hB_o0.at hu | exact fun j u hu => hB_o1.at hu | exact fun j u hu => hB_o2.at hu | assumption)) rfl ?_
         refine Wl.on' rfl rfl g_122_ ?_
         refine Wl.call txt40RefW rfl rfl (rnumber_r b _) rfl ?_
         rintro _ w_k5 ⟨rfl, hs_k5⟩
         have hz_k5 := hs_k5.size
         have hb := hb.trans (hs_k5.mono hb.size)
         try have hB_o0 := Blk.below hB_o0 hs_k5
         try have hB_o1 := Blk.below hB_o1 hs_k5
         try have hB_o2 := Blk.below hB_o2 hs_k5
         refine Wl.y (y_pickT rfl g_122_ rfl) rfl ?_
         refine Wl.y (y_assign rfl) rfl ?_
         refine Wl.nil ?_
         refine Wq.meet hM_118 (()) (Sub.cons' rfl (by first | rfl | exact bool_eq (by simp_all)) (Sub.cons' rfl (by first | rfl | exact bool_eq (by simp_all)) (Sub.cons' rfl (by first | rfl | exact bool_eq (by simp_all)) (Sub.cons' rfl (by first | rfl | exact bool_eq (by simp_all)) (Sub.cons' rfl (by first | rfl | exact bool_eq (by simp_all)) (Sub.cons' rfl (by first | rfl | exact bool_eq (by simp_all)) (Sub.nil))))))) ?_
         exact ⟨hb, hB_o0, hB_o1, hB_o2⟩
        ·
         have g_122_ := g_122
         refine Wl.off' rfl rfl g_122_ rfl rfl ?_
         refine Wl.y (y_pickF rfl g_122_ rfl) rfl ?_
         refine Wl.y (y_assign rfl) rfl ?_
         refine Wl.nil ?_
         refine Wq.meet hM_118 (()) (Sub.cons' rfl (by first | rfl | exact bool_eq (by simp_all)) (Sub.cons' rfl (by first | rfl | exact bool_eq (by simp_all)) (Sub.cons' rfl (by first | rfl | exact bool_eq (by simp_all)) (Sub.cons' rfl (by first | rfl | exact bool_eq (by simp_all)) (Sub.cons' rfl (by first | rfl | exact bool_eq (by simp_all)) (Sub.cons' rfl (by first | rfl | exact bool_eq (by simp_all)) (Sub.nil))))))) ?_
         exact ⟨hb, hB_o0, hB_o1, hB_o2⟩
       ·
        rintro u_ wr hI_129
        replace hI_129 : Below w.heap.size w wr ∧ Blk wr g_o0 28 a.cells ∧ Blk wr g_o1 28 b.cells ∧ Blk wr g_o2 28 nullV.cells := hI_129
        obtain ⟨hb, hB_o0, hB_o1, hB_o2⟩ := hI_129
        show Wq _ _ _ _ [(0, str op), (4, .pointer (some ⟨g_o0, 0, none⟩)), (5, .pointer (some ⟨g_o1, 0, none⟩)), (6, .pointer (some ⟨g_o2, 0, none⟩)), (7, .int .i64 0), (11, .bool (numV a && numV b))] _
        try have hzhb_g8 := hb.size
        have hlhB_o0_g8 := hB_o0.lt
        have hlhB_o1_g8 := hB_o1.lt
        have hlhB_o2_g8 := hB_o2.lt
        refine Wq.next hK_117 ?_
        refine Wc.seq fun _ hK_130 => ?_
        refine Wc.seq fun _ hK_131 => ?_
        refine Wc.meet (X := Unit) (fun u_ => [(0, str op), (4, .pointer (some ⟨g_o0, 0, none⟩)), (5, .pointer (some ⟨g_o1, 0, none⟩)), (6, .pointer (some ⟨g_o2, 0, none⟩)), (7, .int .i64 0), (75, .bool (!decide (a.k = b.k) && !(numV a && numV b)))]) (fun u_ wr => Below w.heap.size w wr ∧ Blk wr g_o0 28 a.cells ∧ Blk wr g_o1 28 b.cells ∧ Blk wr g_o2 28 nullV.cells) (fun _ hM_132 => ?_) ?_
        ·
         refine Wc.region ?_
         refine Wl.y (y_fieldAddr (fa28_0RefW _) rfl) rfl ?_
         refine Wl.l (l_load one3RefW rfl (by first | exact hB_o0.at rfl | exact hB_o1.at rfl | exact hB_o2.at rfl | exact hB_o0.cell 0 | exact hB_o1.cell 0 | exact hB_o2.cell 0 | assumption)) rfl ?_
         refine Wl.y (y_fieldAddr (fa28_0RefW _) rfl) rfl ?_
         refine Wl.l (l_load one3RefW rfl (by first | exact hB_o0.at rfl | exact hB_o1.at rfl | exact hB_o2.at rfl | exact hB_o0.cell 0 | exact hB_o1.cell 0 | exact hB_o2.cell 0 | assumption)) rfl ?_
         refine Wl.y (y_neqi rfl rfl) rfl ?_
         refine Wl.y (y_move rfl) rfl ?_
         refine Wl.guardT rfl rfl rfl (fun g_139 => ?_) (fun g_139 => ?_)
         ·
          have g_139_ := g_139
          refine Wl.y (y_move rfl) rfl ?_
          refine Wl.on' rfl rfl g_139_ ?_
          refine Wl.y (y_not rfl) rfl ?_
          refine Wl.y (y_pickT rfl g_139_ rfl) rfl ?_
          refine Wl.nil ?_
          refine Wq.meet hM_132 (()) (Sub.cons' rfl (by first | rfl | exact bool_eq (by simp_all)) (Sub.cons' rfl (by first | rfl | exact bool_eq (by simp_all)) (Sub.cons' rfl (by first | rfl | exact bool_eq (by simp_all)) (Sub.cons' rfl (by first | rfl | exact bool_eq (by simp_all)) (Sub.cons' rfl (by first | rfl | exact bool_eq (by simp_all)) (Sub.cons' rfl (by first | rfl | exact bool_eq (by simp_all)) (Sub.nil))))))) ?_
          exact ⟨hb, hB_o0, hB_o1, hB_o2⟩
         ·
          have g_139_ := g_139
          refine Wl.off' rfl rfl g_139_ rfl rfl ?_
          refine Wl.y (y_pickF rfl g_139_ rfl) rfl ?_
          refine Wl.nil ?_
          refine Wq.meet hM_132 (()) (Sub.cons' rfl (by first | rfl | exact bool_eq (by simp_all)) (Sub.cons' rfl (by first | rfl | exact bool_eq (by simp_all)) (Sub.cons' rfl (by first | rfl | exact bool_eq (by simp_all)) (Sub.cons' rfl (by first | rfl | exact bool_eq (by simp_all)) (Sub.cons' rfl (by first | rfl | exact bool_eq (by simp_all)) (Sub.cons' rfl (by first | rfl | exact bool_eq (by simp_all)) (Sub.nil))))))) ?_
          exact ⟨hb, hB_o0, hB_o1, hB_o2⟩
        ·
         rintro u_ wr hI_144
         replace hI_144 : Below w.heap.size w wr ∧ Blk wr g_o0 28 a.cells ∧ Blk wr g_o1 28 b.cells ∧ Blk wr g_o2 28 nullV.cells := hI_144
         obtain ⟨hb, hB_o0, hB_o1, hB_o2⟩ := hI_144
         show Wq _ _ _ _ [(0, str op), (4, .pointer (some ⟨g_o0, 0, none⟩)), (5, .pointer (some ⟨g_o1, 0, none⟩)), (6, .pointer (some ⟨g_o2, 0, none⟩)), (7, .int .i64 0), (75, .bool (!decide (a.k = b.k) && !(numV a && numV b)))] _
         try have hzhb_g9 := hb.size
         have hlhB_o0_g9 := hB_o0.lt
         have hlhB_o1_g9 := hB_o1.lt
         have hlhB_o2_g9 := hB_o2.lt
         refine Wq.next hK_131 ?_
         refine Wc.cond rfl (fun c2_145 => ?_) (fun c2_145 => ?_)
         ·
          have c2_145_ := c2_145
          have ht : testV op a b = (nullV, 4) := by unfold testV; rw [if_neg ht0, if_neg c1_113, if_pos]; have h := c2_145_; simp at h; refine ⟨h.1, ?_⟩; cases ha : numV a <;> simp_all
          refine Wc.seq fun _ hK_146 => ?_
          refine Wc.region ?_
          refine Wl.call txt39RefW rfl rfl (null_r _) rfl ?_
          rintro _ w_k6 ⟨rfl, hs_k6⟩
          have hz_k6 := hs_k6.size
          have hb := hb.trans (hs_k6.mono hb.size)
          try have hB_o2 := Blk.below hB_o2 hs_k6
          refine Wl.storeS (by kernel_rfl) rfl rfl hB_o2 rfl rfl ?_
          rintro w_s2 hn_s2 hg_s2
          have hz_s2 := hg_s2.size
          have hb := below_blk hb hg_s2 hb.size (by omega)
          have hB_o2 := hn_s2
          refine Wl.y (y_assign rfl) rfl ?_
          refine Wl.nil ?_
          refine Wq.next hK_146 ?_
          refine Wc.ret ?_
          refine Wq.then_ret ?_
          refine retN (rs := [.cell 6 28, .tmp 7]) (vs := [_, _]) rfl (.cell rfl (loadS Tryz.underlying28 (by kernel_rfl) (fun j u hu => hB_o2.at hu)) (.tmp rfl .nil)) ?_
          first | exact ⟨_, rfl, by rw [ht]; rfl, hb⟩ | exact ⟨_, rfl, by rw [ht, beq_dec]; rfl, hb⟩ | exact ⟨_, rfl, by rw [ht, MISSING_c4, hs, ← beqI]; rfl, hb⟩ | exact ⟨_, rfl, by rw [ht, MISSING_c5, hs, ← beqI]; rfl, hb⟩ | exact ⟨_, rfl, by rw [ht, MISSING_c6, hl]; rfl, hb⟩ | exact ⟨_, rfl, by rw [ht, MISSING_c7, hd_le, ← hl, ← hs, MISSING_o88_]; rfl, hb⟩ | exact ⟨_, rfl, by rw [ht, MISSING_c8, hd_gt, ← hl, ← hs, not_tt MISSING_o96_]; rfl, hb⟩ | exact ⟨_, rfl, by rw [ht, MISSING_c8, hd_gt, ← hl, ← hs, not_ff MISSING_o96_]; rfl, hb⟩ | exact ⟨_, rfl, by rw [ht, opN hio _ MISSING_c4 MISSING_c5 MISSING_c6 MISSING_c7 MISSING_c8, hl]; exact tupT (by show _ = decide _; rw [Bool.eq_iff_iff]; simp), hb⟩
         ·
          have c2_145_ := c2_145
          have ht2 : ¬ (a.k ≠ b.k ∧ (numV a = false ∨ numV b = false)) := by have h := c2_145_; simp at h; rintro ⟨h1, h2⟩; have := h h1; simp_all
          refine Wc.skip ?_
          refine Wq.next hK_130 ?_
          refine Wc.seq fun _ hK_149 => ?_
          refine Wc.region ?_
          refine Wl.l (l_loadS Tryz.underlying28 (by kernel_rfl) rfl (by first | exact fun j u hu => hB_o0.at hu | exact fun j u hu => hB_o1.at hu | exact fun j u hu => hB_o2.at hu | assumption)) rfl ?_
          refine Wl.l (l_loadS Tryz.underlying28 (by kernel_rfl) rfl (by first | exact fun j u hu => hB_o0.at hu | exact fun j u hu => hB_o1.at hu | exact fun j u hu => hB_o2.at hu | assumption)) rfl ?_
          refine Wl.call txt41RefW rfl rfl (less_r a b oa ob _) rfl ?_
          rintro _ w_k7 ⟨⟨l, s, rfl, hls⟩, hs_k7⟩
          have hz_k7 := hs_k7.size
          have hb := hb.trans (hs_k7.mono hb.size)
          try have hB_o2 := Blk.below hB_o2 hs_k7
          refine Wl.y (y_move rfl) rfl ?_
          refine Wl.y (y_extract rfl rfl) rfl ?_
          refine Wl.y (y_extract rfl rfl) rfl ?_
          refine Wl.y (y_extract rfl rfl) rfl ?_
          refine Wl.y (y_assign rfl) rfl ?_
          refine Wl.y (y_assign rfl) rfl ?_
          refine Wl.y (y_assign rfl) rfl ?_
          refine Wl.nil ?_
          refine Wq.next hK_149 ?_
          refine Wc.seq fun _ hK_160 => ?_
          refine Wc.seq fun _ hK_161 => ?_
          refine Wc.region ?_
          refine Wl.y (y_move rfl) rfl ?_
          refine Wl.y (y_not rfl) rfl ?_
          refine Wl.nil ?_
          refine Wq.next hK_161 ?_
          refine Wc.cond rfl (fun c3_164 => ?_) (fun c3_164 => ?_)
          ·
           have c3_164_ := c3_164
           have hkn : knownV a b = false := by have h := c3_164_; simpa using h
           have ht : testV op a b = (truthV (decide (op = [60, 62])), 0) := by unfold testV; rw [if_neg ht0, if_neg c1_113, if_neg ht2, if_pos hkn]
           refine Wc.seq fun _ hK_165 => ?_
           refine Wc.region ?_
           refine Wl.y (y_move rfl) rfl ?_
           refine Wl.y (y_eqls rfl rfl) rfl ?_
           refine Wl.call txt42RefW rfl rfl (Truth_r _ _) rfl ?_
           rintro _ w_k8 ⟨rfl, hs_k8⟩
           have hz_k8 := hs_k8.size
           have hb := hb.trans (hs_k8.mono hb.size)
           try have hB_o2 := Blk.below hB_o2 hs_k8
           refine Wl.storeS (by kernel_rfl) rfl rfl hB_o2 rfl rfl ?_
           rintro w_s3 hn_s3 hg_s3
           have hz_s3 := hg_s3.size
           have hb := below_blk hb hg_s3 hb.size (by omega)
           have hB_o2 := hn_s3
           refine Wl.y (y_assign rfl) rfl ?_
           refine Wl.nil ?_
           refine Wq.next hK_165 ?_
           refine Wc.ret ?_
           refine Wq.then_ret ?_
           refine retN (rs := [.cell 6 28, .tmp 7]) (vs := [_, _]) rfl (.cell rfl (loadS Tryz.underlying28 (by kernel_rfl) (fun j u hu => hB_o2.at hu)) (.tmp rfl .nil)) ?_
           first | exact ⟨_, rfl, by rw [ht]; rfl, hb⟩ | exact ⟨_, rfl, by rw [ht, beq_dec]; rfl, hb⟩ | exact ⟨_, rfl, by rw [ht, MISSING_c4, hs, ← beqI]; rfl, hb⟩ | exact ⟨_, rfl, by rw [ht, MISSING_c5, hs, ← beqI]; rfl, hb⟩ | exact ⟨_, rfl, by rw [ht, MISSING_c6, hl]; rfl, hb⟩ | exact ⟨_, rfl, by rw [ht, MISSING_c7, hd_le, ← hl, ← hs, MISSING_o88_]; rfl, hb⟩ | exact ⟨_, rfl, by rw [ht, MISSING_c8, hd_gt, ← hl, ← hs, not_tt MISSING_o96_]; rfl, hb⟩ | exact ⟨_, rfl, by rw [ht, MISSING_c8, hd_gt, ← hl, ← hs, not_ff MISSING_o96_]; rfl, hb⟩ | exact ⟨_, rfl, by rw [ht, opN hio _ MISSING_c4 MISSING_c5 MISSING_c6 MISSING_c7 MISSING_c8, hl]; exact tupT (by show _ = decide _; rw [Bool.eq_iff_iff]; simp), hb⟩
          ·
           have c3_164_ := c3_164
           have hkn : knownV a b = true := by have h := c3_164_; simpa using h
           have ht : testV op a b = (truthV ((holdsV op (againstV a b)).getD false), 0) := by unfold testV; rw [if_neg ht0, if_neg c1_113, if_neg ht2, if_neg (by rw [hkn]; simp)]
           obtain ⟨hl, hs⟩ := hls hkn
           refine Wc.skip ?_
           refine Wq.next hK_160 ?_
           refine Wc.seq fun _ hK_170 => ?_
           refine Wc.seq fun _ hK_171 => ?_
           refine Wc.region ?_
           refine Wl.y (y_move rfl) rfl ?_
           refine Wl.nil ?_
           refine Wq.next hK_171 ?_
           refine Wc.block ?_
           refine Wc.seq fun _ hK_173 => ?_
           refine Wc.region ?_
           refine Wl.y (y_eqls rfl rfl) rfl ?_
           refine Wl.y (y_assign rfl) rfl ?_
           refine Wl.nil ?_
           refine Wq.next hK_173 ?_
           refine Wc.cond rfl (fun c4_176 => ?_) (fun c4_176 => ?_)
           ·
            try simp only [decide_eq_true_eq, decide_eq_false_iff_not, beq_iff_eq, beq_eq_false_iff_ne, bne_iff_ne, bne_eq_false_iff_eq, Bool.not_eq_true', Bool.not_eq_false', Bool.not_eq_eq_eq_not, Bool.not_true, Bool.not_false, ne_eq, Int.not_lt, Int.not_le] at c4_176
            refine Wc.seq fun _ hK_177 => ?_
            refine Wc.region ?_
            refine Wl.y (y_move rfl) rfl ?_
            refine Wl.call txt42RefW rfl rfl (Truth_r _ _) rfl ?_
            rintro _ w_k9 ⟨rfl, hs_k9⟩
            have hz_k9 := hs_k9.size
            have hb := hb.trans (hs_k9.mono hb.size)
            try have hB_o2 := Blk.below hB_o2 hs_k9
            refine Wl.storeS (by kernel_rfl) rfl rfl hB_o2 rfl rfl ?_
            rintro w_s4 hn_s4 hg_s4
            have hz_s4 := hg_s4.size
            have hb := below_blk hb hg_s4 hb.size (by omega)
            have hB_o2 := hn_s4
            refine Wl.y (y_assign rfl) rfl ?_
            refine Wl.nil ?_
            refine Wq.next hK_177 ?_
            refine Wc.ret ?_
            refine Wq.block_ret (Wq.then_ret ?_)
            refine retN (rs := [.cell 6 28, .tmp 7]) (vs := [_, _]) rfl (.cell rfl (loadS Tryz.underlying28 (by kernel_rfl) (fun j u hu => hB_o2.at hu)) (.tmp rfl .nil)) ?_
            first | exact ⟨_, rfl, by rw [ht]; rfl, hb⟩ | exact ⟨_, rfl, by rw [ht, beq_dec]; rfl, hb⟩ | exact ⟨_, rfl, by rw [ht, c4_176, hs, ← beqI]; rfl, hb⟩ | exact ⟨_, rfl, by rw [ht, MISSING_c5, hs, ← beqI]; rfl, hb⟩ | exact ⟨_, rfl, by rw [ht, MISSING_c6, hl]; rfl, hb⟩ | exact ⟨_, rfl, by rw [ht, MISSING_c7, hd_le, ← hl, ← hs, MISSING_o88_]; rfl, hb⟩ | exact ⟨_, rfl, by rw [ht, MISSING_c8, hd_gt, ← hl, ← hs, not_tt MISSING_o96_]; rfl, hb⟩ | exact ⟨_, rfl, by rw [ht, MISSING_c8, hd_gt, ← hl, ← hs, not_ff MISSING_o96_]; rfl, hb⟩ | exact ⟨_, rfl, by rw [ht, opN hio _ c4_176 MISSING_c5 MISSING_c6 MISSING_c7 MISSING_c8, hl]; exact tupT (by show _ = decide _; rw [Bool.eq_iff_iff]; simp), hb⟩
           ·
            try simp only [decide_eq_true_eq, decide_eq_false_iff_not, beq_iff_eq, beq_eq_false_iff_ne, bne_iff_ne, bne_eq_false_iff_eq, Bool.not_eq_true', Bool.not_eq_false', Bool.not_eq_eq_eq_not, Bool.not_true, Bool.not_false, ne_eq, Int.not_lt, Int.not_le] at c4_176
            refine Wc.seq fun _ hK_181 => ?_
            refine Wc.region ?_
            refine Wl.y (y_eqls rfl rfl) rfl ?_
            refine Wl.y (y_assign rfl) rfl ?_
            refine Wl.nil ?_
            refine Wq.next hK_181 ?_
            refine Wc.cond rfl (fun c5_184 => ?_) (fun c5_184 => ?_)
            ·
             try simp only [decide_eq_true_eq, decide_eq_false_iff_not, beq_iff_eq, beq_eq_false_iff_ne, bne_iff_ne, bne_eq_false_iff_eq, Bool.not_eq_true', Bool.not_eq_false', Bool.not_eq_eq_eq_not, Bool.not_true, Bool.not_false, ne_eq, Int.not_lt, Int.not_le] at c5_184
             refine Wc.seq fun _ hK_185 => ?_
             refine Wc.region ?_
             refine Wl.y (y_move rfl) rfl ?_
             refine Wl.y (y_not rfl) rfl ?_
             refine Wl.call txt42RefW rfl rfl (Truth_r _ _) rfl ?_
             rintro _ w_k10 ⟨rfl, hs_k10⟩
             have hz_k10 := hs_k10.size
             have hb := hb.trans (hs_k10.mono hb.size)
             try have hB_o2 := Blk.below hB_o2 hs_k10
             refine Wl.storeS (by kernel_rfl) rfl rfl hB_o2 rfl rfl ?_
             rintro w_s5 hn_s5 hg_s5
             have hz_s5 := hg_s5.size
             have hb := below_blk hb hg_s5 hb.size (by omega)
             have hB_o2 := hn_s5
             refine Wl.y (y_assign rfl) rfl ?_
             refine Wl.nil ?_
             refine Wq.next hK_185 ?_
             refine Wc.ret ?_
             refine Wq.block_ret (Wq.then_ret ?_)
             refine retN (rs := [.cell 6 28, .tmp 7]) (vs := [_, _]) rfl (.cell rfl (loadS Tryz.underlying28 (by kernel_rfl) (fun j u hu => hB_o2.at hu)) (.tmp rfl .nil)) ?_
             first | exact ⟨_, rfl, by rw [ht]; rfl, hb⟩ | exact ⟨_, rfl, by rw [ht, beq_dec]; rfl, hb⟩ | exact ⟨_, rfl, by rw [ht, c4_176, hs, ← beqI]; rfl, hb⟩ | exact ⟨_, rfl, by rw [ht, c5_184, hs, ← beqI]; rfl, hb⟩ | exact ⟨_, rfl, by rw [ht, MISSING_c6, hl]; rfl, hb⟩ | exact ⟨_, rfl, by rw [ht, MISSING_c7, hd_le, ← hl, ← hs, MISSING_o88_]; rfl, hb⟩ | exact ⟨_, rfl, by rw [ht, MISSING_c8, hd_gt, ← hl, ← hs, not_tt MISSING_o96_]; rfl, hb⟩ | exact ⟨_, rfl, by rw [ht, MISSING_c8, hd_gt, ← hl, ← hs, not_ff MISSING_o96_]; rfl, hb⟩ | exact ⟨_, rfl, by rw [ht, opN hio _ c4_176 c5_184 MISSING_c6 MISSING_c7 MISSING_c8, hl]; exact tupT (by show _ = decide _; rw [Bool.eq_iff_iff]; simp), hb⟩
            ·
             try simp only [decide_eq_true_eq, decide_eq_false_iff_not, beq_iff_eq, beq_eq_false_iff_ne, bne_iff_ne, bne_eq_false_iff_eq, Bool.not_eq_true', Bool.not_eq_false', Bool.not_eq_eq_eq_not, Bool.not_true, Bool.not_false, ne_eq, Int.not_lt, Int.not_le] at c5_184
             refine Wc.seq fun _ hK_190 => ?_
             refine Wc.region ?_
             refine Wl.y (y_eqls rfl rfl) rfl ?_
             refine Wl.y (y_assign rfl) rfl ?_
             refine Wl.nil ?_
             refine Wq.next hK_190 ?_
             refine Wc.cond rfl (fun c6_193 => ?_) (fun c6_193 => ?_)
             ·
              try simp only [decide_eq_true_eq, decide_eq_false_iff_not, beq_iff_eq, beq_eq_false_iff_ne, bne_iff_ne, bne_eq_false_iff_eq, Bool.not_eq_true', Bool.not_eq_false', Bool.not_eq_eq_eq_not, Bool.not_true, Bool.not_false, ne_eq, Int.not_lt, Int.not_le] at c6_193
              refine Wc.seq fun _ hK_194 => ?_
              refine Wc.region ?_
              refine Wl.y (y_move rfl) rfl ?_
              refine Wl.call txt42RefW rfl rfl (Truth_r _ _) rfl ?_
              rintro _ w_k11 ⟨rfl, hs_k11⟩
              have hz_k11 := hs_k11.size
              have hb := hb.trans (hs_k11.mono hb.size)
              try have hB_o2 := Blk.below hB_o2 hs_k11
              refine Wl.storeS (by kernel_rfl) rfl rfl hB_o2 rfl rfl ?_
              rintro w_s6 hn_s6 hg_s6
              have hz_s6 := hg_s6.size
              have hb := below_blk hb hg_s6 hb.size (by omega)
              have hB_o2 := hn_s6
              refine Wl.y (y_assign rfl) rfl ?_
              refine Wl.nil ?_
              refine Wq.next hK_194 ?_
              refine Wc.ret ?_
              refine Wq.block_ret (Wq.then_ret ?_)
              refine retN (rs := [.cell 6 28, .tmp 7]) (vs := [_, _]) rfl (.cell rfl (loadS Tryz.underlying28 (by kernel_rfl) (fun j u hu => hB_o2.at hu)) (.tmp rfl .nil)) ?_
              first | exact ⟨_, rfl, by rw [ht]; rfl, hb⟩ | exact ⟨_, rfl, by rw [ht, beq_dec]; rfl, hb⟩ | exact ⟨_, rfl, by rw [ht, c4_176, hs, ← beqI]; rfl, hb⟩ | exact ⟨_, rfl, by rw [ht, c5_184, hs, ← beqI]; rfl, hb⟩ | exact ⟨_, rfl, by rw [ht, c6_193, hl]; rfl, hb⟩ | exact ⟨_, rfl, by rw [ht, MISSING_c7, hd_le, ← hl, ← hs, MISSING_o88_]; rfl, hb⟩ | exact ⟨_, rfl, by rw [ht, MISSING_c8, hd_gt, ← hl, ← hs, not_tt MISSING_o96_]; rfl, hb⟩ | exact ⟨_, rfl, by rw [ht, MISSING_c8, hd_gt, ← hl, ← hs, not_ff MISSING_o96_]; rfl, hb⟩ | exact ⟨_, rfl, by rw [ht, opN hio _ c4_176 c5_184 c6_193 MISSING_c7 MISSING_c8, hl]; exact tupT (by show _ = decide _; rw [Bool.eq_iff_iff]; simp), hb⟩
             ·
              try simp only [decide_eq_true_eq, decide_eq_false_iff_not, beq_iff_eq, beq_eq_false_iff_ne, bne_iff_ne, bne_eq_false_iff_eq, Bool.not_eq_true', Bool.not_eq_false', Bool.not_eq_eq_eq_not, Bool.not_true, Bool.not_false, ne_eq, Int.not_lt, Int.not_le] at c6_193
              refine Wc.seq fun _ hK_198 => ?_
              refine Wc.region ?_
              refine Wl.y (y_eqls rfl rfl) rfl ?_
              refine Wl.y (y_assign rfl) rfl ?_
              refine Wl.nil ?_
              refine Wq.next hK_198 ?_
              refine Wc.cond rfl (fun c7_201 => ?_) (fun c7_201 => ?_)
              ·
               try simp only [decide_eq_true_eq, decide_eq_false_iff_not, beq_iff_eq, beq_eq_false_iff_ne, bne_iff_ne, bne_eq_false_iff_eq, Bool.not_eq_true', Bool.not_eq_false', Bool.not_eq_eq_eq_not, Bool.not_true, Bool.not_false, ne_eq, Int.not_lt, Int.not_le] at c7_201
               refine Wc.seq fun _ hK_202 => ?_
               refine Wc.region ?_
               refine Wl.y (y_move rfl) rfl ?_
               refine Wl.y (y_move rfl) rfl ?_
               refine Wl.guardF rfl rfl rfl (fun g_205 => ?_) (fun g_205 => ?_)
               ·
                have g_205_ := g_205
                refine Wl.y (y_pickT rfl g_205_ rfl) rfl ?_
                refine Wl.call txt42RefW rfl rfl (Truth_r _ _) rfl ?_
                rintro _ w_k12 ⟨rfl, hs_k12⟩
                have hz_k12 := hs_k12.size
                have hb := hb.trans (hs_k12.mono hb.size)
                try have hB_o2 := Blk.below hB_o2 hs_k12
                refine Wl.storeS (by kernel_rfl) rfl rfl hB_o2 rfl rfl ?_
                rintro w_s7 hn_s7 hg_s7
                have hz_s7 := hg_s7.size
                have hb := below_blk hb hg_s7 hb.size (by omega)
                have hB_o2 := hn_s7
                refine Wl.y (y_assign rfl) rfl ?_
                refine Wl.nil ?_
                refine Wq.next hK_202 ?_
                refine Wc.ret ?_
                refine Wq.block_ret (Wq.then_ret ?_)
                refine retN (rs := [.cell 6 28, .tmp 7]) (vs := [_, _]) rfl (.cell rfl (loadS Tryz.underlying28 (by kernel_rfl) (fun j u hu => hB_o2.at hu)) (.tmp rfl .nil)) ?_
                first | exact ⟨_, rfl, by rw [ht]; rfl, hb⟩ | exact ⟨_, rfl, by rw [ht, beq_dec]; rfl, hb⟩ | exact ⟨_, rfl, by rw [ht, c4_176, hs, ← beqI]; rfl, hb⟩ | exact ⟨_, rfl, by rw [ht, c5_184, hs, ← beqI]; rfl, hb⟩ | exact ⟨_, rfl, by rw [ht, c6_193, hl]; rfl, hb⟩ | exact ⟨_, rfl, by rw [ht, c7_201, hd_le, ← hl, ← hs, g_205_]; rfl, hb⟩ | exact ⟨_, rfl, by rw [ht, MISSING_c8, hd_gt, ← hl, ← hs, not_tt MISSING_o96_]; rfl, hb⟩ | exact ⟨_, rfl, by rw [ht, MISSING_c8, hd_gt, ← hl, ← hs, not_ff MISSING_o96_]; rfl, hb⟩ | exact ⟨_, rfl, by rw [ht, opN hio _ c4_176 c5_184 c6_193 c7_201 MISSING_c8, hl]; exact tupT (by show _ = decide _; rw [Bool.eq_iff_iff]; simp), hb⟩
               ·
                have g_205_ := g_205
                refine Wl.y (y_move rfl) rfl ?_
                refine Wl.y (y_pickF rfl g_205_ rfl) rfl ?_
                refine Wl.call txt42RefW rfl rfl (Truth_r _ _) rfl ?_
                rintro _ w_k12 ⟨rfl, hs_k12⟩
                have hz_k12 := hs_k12.size
                have hb := hb.trans (hs_k12.mono hb.size)
                try have hB_o2 := Blk.below hB_o2 hs_k12
                refine Wl.storeS (by kernel_rfl) rfl rfl hB_o2 rfl rfl ?_
                rintro w_s7 hn_s7 hg_s7
                have hz_s7 := hg_s7.size
                have hb := below_blk hb hg_s7 hb.size (by omega)
                have hB_o2 := hn_s7
                refine Wl.y (y_assign rfl) rfl ?_
                refine Wl.nil ?_
                refine Wq.next hK_202 ?_
                refine Wc.ret ?_
                refine Wq.block_ret (Wq.then_ret ?_)
                refine retN (rs := [.cell 6 28, .tmp 7]) (vs := [_, _]) rfl (.cell rfl (loadS Tryz.underlying28 (by kernel_rfl) (fun j u hu => hB_o2.at hu)) (.tmp rfl .nil)) ?_
                first | exact ⟨_, rfl, by rw [ht]; rfl, hb⟩ | exact ⟨_, rfl, by rw [ht, beq_dec]; rfl, hb⟩ | exact ⟨_, rfl, by rw [ht, c4_176, hs, ← beqI]; rfl, hb⟩ | exact ⟨_, rfl, by rw [ht, c5_184, hs, ← beqI]; rfl, hb⟩ | exact ⟨_, rfl, by rw [ht, c6_193, hl]; rfl, hb⟩ | exact ⟨_, rfl, by rw [ht, c7_201, hd_le, ← hl, ← hs, g_205_]; rfl, hb⟩ | exact ⟨_, rfl, by rw [ht, MISSING_c8, hd_gt, ← hl, ← hs, not_tt MISSING_o96_]; rfl, hb⟩ | exact ⟨_, rfl, by rw [ht, MISSING_c8, hd_gt, ← hl, ← hs, not_ff MISSING_o96_]; rfl, hb⟩ | exact ⟨_, rfl, by rw [ht, opN hio _ c4_176 c5_184 c6_193 c7_201 MISSING_c8, hl]; exact tupT (by show _ = decide _; rw [Bool.eq_iff_iff]; simp), hb⟩
              ·
               try simp only [decide_eq_true_eq, decide_eq_false_iff_not, beq_iff_eq, beq_eq_false_iff_ne, bne_iff_ne, bne_eq_false_iff_eq, Bool.not_eq_true', Bool.not_eq_false', Bool.not_eq_eq_eq_not, Bool.not_true, Bool.not_false, ne_eq, Int.not_lt, Int.not_le] at c7_201
               refine Wc.seq fun _ hK_213 => ?_
               refine Wc.region ?_
               refine Wl.y (y_eqls rfl rfl) rfl ?_
               refine Wl.y (y_assign rfl) rfl ?_
               refine Wl.nil ?_
               refine Wq.next hK_213 ?_
               refine Wc.cond rfl (fun c8_216 => ?_) (fun c8_216 => ?_)
               ·
                try simp only [decide_eq_true_eq, decide_eq_false_iff_not, beq_iff_eq, beq_eq_false_iff_ne, bne_iff_ne, bne_eq_false_iff_eq, Bool.not_eq_true', Bool.not_eq_false', Bool.not_eq_eq_eq_not, Bool.not_true, Bool.not_false, ne_eq, Int.not_lt, Int.not_le] at c8_216
                refine Wc.seq fun _ hK_217 => ?_
                refine Wc.region ?_
                refine Wl.y (y_move rfl) rfl ?_
                refine Wl.y (y_not rfl) rfl ?_
                refine Wl.y (y_move rfl) rfl ?_
                refine Wl.guardT rfl rfl rfl (fun g_221 => ?_) (fun g_221 => ?_)
                ·
                 have g_221_ := g_221
                 refine Wl.y (y_move rfl) rfl ?_
                 refine Wl.on' rfl rfl g_221_ ?_
                 refine Wl.y (y_not rfl) rfl ?_
                 refine Wl.y (y_pickT rfl g_221_ rfl) rfl ?_
                 refine Wl.call txt42RefW rfl rfl (Truth_r _ _) rfl ?_
                 rintro _ w_k13 ⟨rfl, hs_k13⟩
                 have hz_k13 := hs_k13.size
                 have hb := hb.trans (hs_k13.mono hb.size)
                 try have hB_o2 := Blk.below hB_o2 hs_k13
                 refine Wl.storeS (by kernel_rfl) rfl rfl hB_o2 rfl rfl ?_
                 rintro w_s8 hn_s8 hg_s8
                 have hz_s8 := hg_s8.size
                 have hb := below_blk hb hg_s8 hb.size (by omega)
                 have hB_o2 := hn_s8
                 refine Wl.y (y_assign rfl) rfl ?_
                 refine Wl.nil ?_
                 refine Wq.next hK_217 ?_
                 refine Wc.ret ?_
                 refine Wq.block_ret (Wq.then_ret ?_)
                 refine retN (rs := [.cell 6 28, .tmp 7]) (vs := [_, _]) rfl (.cell rfl (loadS Tryz.underlying28 (by kernel_rfl) (fun j u hu => hB_o2.at hu)) (.tmp rfl .nil)) ?_
                 first | exact ⟨_, rfl, by rw [ht]; rfl, hb⟩ | exact ⟨_, rfl, by rw [ht, beq_dec]; rfl, hb⟩ | exact ⟨_, rfl, by rw [ht, c4_176, hs, ← beqI]; rfl, hb⟩ | exact ⟨_, rfl, by rw [ht, c5_184, hs, ← beqI]; rfl, hb⟩ | exact ⟨_, rfl, by rw [ht, c6_193, hl]; rfl, hb⟩ | exact ⟨_, rfl, by rw [ht, c7_201, hd_le, ← hl, ← hs, MISSING_o88_]; rfl, hb⟩ | exact ⟨_, rfl, by rw [ht, c8_216, hd_gt, ← hl, ← hs, not_tt g_221_]; rfl, hb⟩ | exact ⟨_, rfl, by rw [ht, c8_216, hd_gt, ← hl, ← hs, not_ff g_221_]; rfl, hb⟩ | exact ⟨_, rfl, by rw [ht, opN hio _ c4_176 c5_184 c6_193 c7_201 c8_216, hl]; exact tupT (by show _ = decide _; rw [Bool.eq_iff_iff]; simp), hb⟩
                ·
                 have g_221_ := g_221
                 refine Wl.off' rfl rfl g_221_ rfl rfl ?_
                 refine Wl.y (y_pickF rfl g_221_ rfl) rfl ?_
                 refine Wl.call txt42RefW rfl rfl (Truth_r _ _) rfl ?_
                 rintro _ w_k13 ⟨rfl, hs_k13⟩
                 have hz_k13 := hs_k13.size
                 have hb := hb.trans (hs_k13.mono hb.size)
                 try have hB_o2 := Blk.below hB_o2 hs_k13
                 refine Wl.storeS (by kernel_rfl) rfl rfl hB_o2 rfl rfl ?_
                 rintro w_s8 hn_s8 hg_s8
                 have hz_s8 := hg_s8.size
                 have hb := below_blk hb hg_s8 hb.size (by omega)
                 have hB_o2 := hn_s8
                 refine Wl.y (y_assign rfl) rfl ?_
                 refine Wl.nil ?_
                 refine Wq.next hK_217 ?_
                 refine Wc.ret ?_
                 refine Wq.block_ret (Wq.then_ret ?_)
                 refine retN (rs := [.cell 6 28, .tmp 7]) (vs := [_, _]) rfl (.cell rfl (loadS Tryz.underlying28 (by kernel_rfl) (fun j u hu => hB_o2.at hu)) (.tmp rfl .nil)) ?_
                 first | exact ⟨_, rfl, by rw [ht]; rfl, hb⟩ | exact ⟨_, rfl, by rw [ht, beq_dec]; rfl, hb⟩ | exact ⟨_, rfl, by rw [ht, c4_176, hs, ← beqI]; rfl, hb⟩ | exact ⟨_, rfl, by rw [ht, c5_184, hs, ← beqI]; rfl, hb⟩ | exact ⟨_, rfl, by rw [ht, c6_193, hl]; rfl, hb⟩ | exact ⟨_, rfl, by rw [ht, c7_201, hd_le, ← hl, ← hs, MISSING_o88_]; rfl, hb⟩ | exact ⟨_, rfl, by rw [ht, c8_216, hd_gt, ← hl, ← hs, not_tt g_221_]; rfl, hb⟩ | exact ⟨_, rfl, by rw [ht, c8_216, hd_gt, ← hl, ← hs, not_ff g_221_]; rfl, hb⟩ | exact ⟨_, rfl, by rw [ht, opN hio _ c4_176 c5_184 c6_193 c7_201 c8_216, hl]; exact tupT (by show _ = decide _; rw [Bool.eq_iff_iff]; simp), hb⟩
               ·
                try simp only [decide_eq_true_eq, decide_eq_false_iff_not, beq_iff_eq, beq_eq_false_iff_ne, bne_iff_ne, bne_eq_false_iff_eq, Bool.not_eq_true', Bool.not_eq_false', Bool.not_eq_eq_eq_not, Bool.not_true, Bool.not_false, ne_eq, Int.not_lt, Int.not_le] at c8_216
                refine Wc.skip ?_
                refine Wq.block_normal ?_
                refine Wq.next hK_170 ?_
                refine Wc.seq fun _ hK_230 => ?_
                refine Wc.region ?_
                refine Wl.y (y_move rfl) rfl ?_
                refine Wl.y (y_not rfl) rfl ?_
                refine Wl.call txt42RefW rfl rfl (Truth_r _ _) rfl ?_
                rintro _ w_k14 ⟨rfl, hs_k14⟩
                have hz_k14 := hs_k14.size
                have hb := hb.trans (hs_k14.mono hb.size)
                try have hB_o2 := Blk.below hB_o2 hs_k14
                refine Wl.storeS (by kernel_rfl) rfl rfl hB_o2 rfl rfl ?_
                rintro w_s9 hn_s9 hg_s9
                have hz_s9 := hg_s9.size
                have hb := below_blk hb hg_s9 hb.size (by omega)
                have hB_o2 := hn_s9
                refine Wl.y (y_assign rfl) rfl ?_
                refine Wl.nil ?_
                refine Wq.next hK_230 ?_
                refine Wc.ret ?_
                refine retN (rs := [.cell 6 28, .tmp 7]) (vs := [_, _]) rfl (.cell rfl (loadS Tryz.underlying28 (by kernel_rfl) (fun j u hu => hB_o2.at hu)) (.tmp rfl .nil)) ?_
                first | exact ⟨_, rfl, by rw [ht]; rfl, hb⟩ | exact ⟨_, rfl, by rw [ht, beq_dec]; rfl, hb⟩ | exact ⟨_, rfl, by rw [ht, c4_176, hs, ← beqI]; rfl, hb⟩ | exact ⟨_, rfl, by rw [ht, c5_184, hs, ← beqI]; rfl, hb⟩ | exact ⟨_, rfl, by rw [ht, c6_193, hl]; rfl, hb⟩ | exact ⟨_, rfl, by rw [ht, c7_201, hd_le, ← hl, ← hs, MISSING_o88_]; rfl, hb⟩ | exact ⟨_, rfl, by rw [ht, c8_216, hd_gt, ← hl, ← hs, not_tt MISSING_o96_]; rfl, hb⟩ | exact ⟨_, rfl, by rw [ht, c8_216, hd_gt, ← hl, ← hs, not_ff MISSING_o96_]; rfl, hb⟩ | exact ⟨_, rfl, by rw [ht, opN hio _ c4_176 c5_184 c6_193 c7_201 c8_216, hl]; exact tupT (by show _ = decide _; rw [Bool.eq_iff_iff]; simp), hb⟩
end Go.Proofs.YtijkbinjdgjioaaGreatDoor
