/- lex.letters, slices.Contains, slices.IndexFunc, label.Word at letters, by the calculus. -/
import Derived.Test.YtcljmclolpgdmaaGreatDoorLexM
import Derived.Test.YtcljmclolpgdmaaGreatDoorStrI
namespace Go.Proofs.YtcljmclolpgdmaaGreatDoor
open Go.RowKit Go.Bw Go.Bw.Fl
set_option linter.unusedVariables false
set_option linter.unusedSimpArgs false
theorem one9LexA : One Tryz.prog 9 := ⟨_, Tryz.underlying9, rfl, by kernel_rfl⟩
theorem sz9LexA : (Tryz.prog.info? 9).map (·.size) = some 1 := by kernel_rfl
theorem txt150LexA : Txt Tryz.prog 150 := ⟨_, Tryz.func150, by kernel_rfl, rfl⟩   -- slices.Index[[]string,string]
theorem txt41LexA : Txt Tryz.prog 41 := ⟨_, Tryz.func41, by kernel_rfl, rfl⟩   -- strings.HasPrefix
theorem letters_r (s : List UInt8) (hs : s.length ≤ 140737488355328) (w : World) : Ret Tryz.prog 97 [str s] w fun v w' => v = .int .i64 (letN s : Nat) ∧ Below w.heap.size w w' := by
  have hb := Below.refl w.heap.size w
  refine enter Tryz.func97 rfl rfl rfl ?_
  refine Wc.seq fun _ hK_1 => ?_
  refine Wc.region ?_
  refine Wl.y (y_assign rfl) rfl ?_
  refine Wl.nil ?_
  refine Wq.next hK_1 ?_
  refine Wc.seq fun _ hK_3 => ?_
  refine Wc.region ?_
  refine Wl.y (y_assign rfl) rfl ?_
  refine Wl.nil ?_
  refine Wq.next hK_3 ?_
  refine Wc.seq fun _ hK_5 => ?_
  refine Wc.block ?_
  refine Wc.loop (X := Nat) (fun i => [(0, str s), (3, .int .i64 (i : Int))]) (fun i wr => i ≤ s.length ∧ (∀ j, j < i → isLet (s.getD j 0) = true) ∧ Below w.heap.size w wr) (fun i => s.length - i) (0) ?_ ?_ ?_
  · exact Sub.cons' rfl (by first | rfl | exact int_eq (by omega)) (Sub.cons' rfl (by first | rfl | exact int_eq (by omega)) (Sub.nil))
  · exact ⟨by omega, fun j h => by omega, hb⟩
  ·
   rintro i wr hI_7 _ hL_6
   replace hI_7 : i ≤ s.length ∧ (∀ j, j < i → isLet (s.getD j 0) = true) ∧ Below w.heap.size w wr := hI_7
   obtain ⟨hi, hall, hb⟩ := hI_7
   show Wc _ _ _ _ _ [(0, str s), (3, .int .i64 (i : Int))] _
   try have hzhb_L0 := hb.size
   refine Wc.seq fun _ hK_8 => ?_
   refine Wc.seq fun _ hK_9 => ?_
   obtain ⟨c, hc⟩ : ∃ c, c = s.getD i 0 := ⟨_, rfl⟩
   refine Wc.meet (X := Bool × UInt8) (fun (q, c) => [(0, str s), (3, .int .i64 (i : Int)), (39, .bool q)]) (fun (q, c) wr => q = decide (i < s.length ∧ isLet c = true) ∧ c = s.getD i 0 ∧ Below w.heap.size w wr) (fun _ hM_10 => ?_) ?_
   ·
    refine Wc.region ?_
    refine Wl.y (y_move rfl) rfl ?_
    refine Wl.y (y_move rfl) rfl ?_
    refine Wl.y (y_lens Tryz.underlying9 (by omega) rfl) rfl ?_
    refine Wl.y (y_lssi rfl rfl) rfl ?_
    refine Wl.y (y_move rfl) rfl ?_
    refine Wl.guardT rfl rfl rfl (fun g_16 => ?_) (fun g_16 => ?_)
    ·
     have g_16_ := g_16
     try simp only [decide_eq_true_eq, decide_eq_false_iff_not, beq_iff_eq, beq_eq_false_iff_ne, bne_iff_ne, bne_eq_false_iff_eq, Bool.not_eq_true', Bool.not_eq_false', Bool.not_eq_eq_eq_not, Bool.not_true, Bool.not_false, ne_eq, Int.not_lt, Int.not_le] at g_16
     refine Wl.y (y_move rfl) rfl ?_
     refine Wl.on' rfl rfl g_16_ ?_
     refine Wl.y (y_move rfl) rfl ?_
     refine Wl.on' rfl rfl g_16_ ?_
     refine Wl.y (y_eq (y_indexs Tryz.underlying9 rfl rfl (by omega) (by omega)) (int_eq (show _ = (c.toNat : Int) by rw [hc, Int.toNat_natCast]))) rfl ?_
     refine Wl.on' rfl rfl g_16_ ?_
     refine Wl.y (y_eqli rfl rfl) rfl ?_
     refine Wl.on' rfl rfl g_16_ ?_
     refine Wl.y (y_move rfl) rfl ?_
     refine Wl.guardF rfl rfl rfl (fun g_22 => ?_) (fun g_22 => ?_)
     ·
      have g_22_ := g_22
      try simp only [decide_eq_true_eq, decide_eq_false_iff_not, beq_iff_eq, beq_eq_false_iff_ne, bne_iff_ne, bne_eq_false_iff_eq, Bool.not_eq_true', Bool.not_eq_false', Bool.not_eq_eq_eq_not, Bool.not_true, Bool.not_false, ne_eq, Int.not_lt, Int.not_le] at g_22
      refine Wl.off' rfl rfl g_22_ rfl rfl ?_
      refine Wl.off' rfl rfl g_22_ rfl rfl ?_
      refine Wl.off' rfl rfl g_22_ rfl rfl ?_
      refine Wl.off' rfl rfl g_22_ rfl rfl ?_
      refine Wl.offU rfl rfl rfl ?_
      refine Wl.offU rfl rfl rfl ?_
      refine Wl.offU rfl rfl rfl ?_
      refine Wl.offU rfl rfl rfl ?_
      refine Wl.off' rfl rfl g_22_ rfl rfl ?_
      refine Wl.on' rfl rfl g_16_ ?_
      refine Wl.y (y_pickT rfl g_22_ rfl) rfl ?_
      refine Wl.on' rfl rfl g_16_ ?_
      refine Wl.y (y_move rfl) rfl ?_
      refine Wl.off' rfl rfl rfl rfl rfl ?_
      refine Wl.off' rfl rfl rfl rfl rfl ?_
      refine Wl.off' rfl rfl rfl rfl rfl ?_
      refine Wl.off' rfl rfl rfl rfl rfl ?_
      refine Wl.off' rfl rfl rfl rfl rfl ?_
      refine Wl.off' rfl rfl rfl rfl rfl ?_
      refine Wl.offU rfl rfl rfl ?_
      refine Wl.offU rfl rfl rfl ?_
      refine Wl.offU rfl rfl rfl ?_
      refine Wl.offU rfl rfl rfl ?_
      refine Wl.offU rfl rfl rfl ?_
      refine Wl.off' rfl rfl rfl rfl rfl ?_
      refine Wl.on' rfl rfl g_16_ ?_
      refine Wl.y (y_pickT rfl rfl rfl) rfl ?_
      refine Wl.y (y_pickT rfl g_16_ rfl) rfl ?_
      refine Wl.nil ?_
      refine Wq.meet hM_10 (⟨decide (i < s.length ∧ isLet (s.getD i 0) = true), s.getD i 0⟩) (Sub.cons' rfl (by first | rfl | exact bool_eq (by rw [← hc, Bool.eq_iff_iff]; unfold isLet; simp; omega)) (Sub.cons' rfl (by first | rfl | exact bool_eq (by rw [← hc, Bool.eq_iff_iff]; unfold isLet; simp; omega)) (Sub.cons' rfl (by first | rfl | exact bool_eq (by rw [← hc, Bool.eq_iff_iff]; unfold isLet; simp; omega)) (Sub.nil)))) ?_
      exact ⟨rfl, rfl, hb⟩
     ·
      have g_22_ := g_22
      try simp only [decide_eq_true_eq, decide_eq_false_iff_not, beq_iff_eq, beq_eq_false_iff_ne, bne_iff_ne, bne_eq_false_iff_eq, Bool.not_eq_true', Bool.not_eq_false', Bool.not_eq_eq_eq_not, Bool.not_true, Bool.not_false, ne_eq, Int.not_lt, Int.not_le] at g_22
      refine Wl.y (y_move rfl) rfl ?_
      refine Wl.on' rfl rfl g_22_ ?_
      refine Wl.y (y_move rfl) rfl ?_
      refine Wl.on' rfl rfl g_22_ ?_
      refine Wl.y (y_eq (y_indexs Tryz.underlying9 rfl rfl (by omega) (by omega)) (int_eq (show _ = (c.toNat : Int) by rw [hc, Int.toNat_natCast]))) rfl ?_
      refine Wl.on' rfl rfl g_22_ ?_
      refine Wl.y (y_geqi rfl rfl) rfl ?_
      refine Wl.on' rfl rfl g_22_ ?_
      refine Wl.y (y_move rfl) rfl ?_
      refine Wl.guardT rfl rfl rfl (fun g_32 => ?_) (fun g_32 => ?_)
      ·
       have g_32_ := g_32
       try simp only [decide_eq_true_eq, decide_eq_false_iff_not, beq_iff_eq, beq_eq_false_iff_ne, bne_iff_ne, bne_eq_false_iff_eq, Bool.not_eq_true', Bool.not_eq_false', Bool.not_eq_eq_eq_not, Bool.not_true, Bool.not_false, ne_eq, Int.not_lt, Int.not_le] at g_32
       refine Wl.y (y_move rfl) rfl ?_
       refine Wl.on' rfl rfl g_32_ ?_
       refine Wl.y (y_move rfl) rfl ?_
       refine Wl.on' rfl rfl g_32_ ?_
       refine Wl.y (y_eq (y_indexs Tryz.underlying9 rfl rfl (by omega) (by omega)) (int_eq (show _ = (c.toNat : Int) by rw [hc, Int.toNat_natCast]))) rfl ?_
       refine Wl.on' rfl rfl g_32_ ?_
       refine Wl.y (y_leqi rfl rfl) rfl ?_
       refine Wl.on' rfl rfl g_22_ ?_
       refine Wl.y (y_pickT rfl g_32_ rfl) rfl ?_
       refine Wl.on' rfl rfl g_16_ ?_
       refine Wl.y (y_pickF rfl g_22_ rfl) rfl ?_
       refine Wl.on' rfl rfl g_16_ ?_
       refine Wl.y (y_move rfl) rfl ?_
       refine Wl.guardF rfl rfl rfl (fun g_40 => ?_) (fun g_40 => ?_)
       ·
        have g_40_ := g_40
        try simp only [decide_eq_true_eq, decide_eq_false_iff_not, beq_iff_eq, beq_eq_false_iff_ne, bne_iff_ne, bne_eq_false_iff_eq, Bool.not_eq_true', Bool.not_eq_false', Bool.not_eq_eq_eq_not, Bool.not_true, Bool.not_false, ne_eq, Int.not_lt, Int.not_le] at g_40
        refine Wl.off' rfl rfl g_40_ rfl rfl ?_
        refine Wl.off' rfl rfl g_40_ rfl rfl ?_
        refine Wl.off' rfl rfl g_40_ rfl rfl ?_
        refine Wl.off' rfl rfl g_40_ rfl rfl ?_
        refine Wl.off' rfl rfl g_40_ rfl rfl ?_
        refine Wl.offU rfl rfl rfl ?_
        refine Wl.offU rfl rfl rfl ?_
        refine Wl.offU rfl rfl rfl ?_
        refine Wl.offU rfl rfl rfl ?_
        refine Wl.offU rfl rfl rfl ?_
        refine Wl.off' rfl rfl g_40_ rfl rfl ?_
        refine Wl.on' rfl rfl g_16_ ?_
        refine Wl.y (y_pickT rfl g_40_ rfl) rfl ?_
        refine Wl.y (y_pickT rfl g_16_ rfl) rfl ?_
        refine Wl.nil ?_
        refine Wq.meet hM_10 (⟨decide (i < s.length ∧ isLet (s.getD i 0) = true), s.getD i 0⟩) (Sub.cons' rfl (by first | rfl | exact bool_eq (by rw [← hc, Bool.eq_iff_iff]; unfold isLet; simp; omega)) (Sub.cons' rfl (by first | rfl | exact bool_eq (by rw [← hc, Bool.eq_iff_iff]; unfold isLet; simp; omega)) (Sub.cons' rfl (by first | rfl | exact bool_eq (by rw [← hc, Bool.eq_iff_iff]; unfold isLet; simp; omega)) (Sub.nil)))) ?_
        exact ⟨rfl, rfl, hb⟩
       ·
        have g_40_ := g_40
        try simp only [decide_eq_true_eq, decide_eq_false_iff_not, beq_iff_eq, beq_eq_false_iff_ne, bne_iff_ne, bne_eq_false_iff_eq, Bool.not_eq_true', Bool.not_eq_false', Bool.not_eq_eq_eq_not, Bool.not_true, Bool.not_false, ne_eq, Int.not_lt, Int.not_le] at g_40
        refine Wl.y (y_move rfl) rfl ?_
        refine Wl.on' rfl rfl g_40_ ?_
        refine Wl.y (y_move rfl) rfl ?_
        refine Wl.on' rfl rfl g_40_ ?_
        refine Wl.y (y_eq (y_indexs Tryz.underlying9 rfl rfl (by omega) (by omega)) (int_eq (show _ = (c.toNat : Int) by rw [hc, Int.toNat_natCast]))) rfl ?_
        refine Wl.on' rfl rfl g_40_ ?_
        refine Wl.y (y_or rfl rfl) rfl ?_
        refine Wl.on' rfl rfl g_40_ ?_
        refine Wl.y (y_geqi rfl rfl) rfl ?_
        refine Wl.on' rfl rfl g_40_ ?_
        refine Wl.y (y_move rfl) rfl ?_
        refine Wl.guardT rfl rfl rfl (fun g_49 => ?_) (fun g_49 => ?_)
        ·
         have g_49_ := g_49
         try simp only [decide_eq_true_eq, decide_eq_false_iff_not, beq_iff_eq, beq_eq_false_iff_ne, bne_iff_ne, bne_eq_false_iff_eq, Bool.not_eq_true', Bool.not_eq_false', Bool.not_eq_eq_eq_not, Bool.not_true, Bool.not_false, ne_eq, Int.not_lt, Int.not_le] at g_49
         refine Wl.y (y_move rfl) rfl ?_
         refine Wl.on' rfl rfl g_49_ ?_
         refine Wl.y (y_move rfl) rfl ?_
         refine Wl.on' rfl rfl g_49_ ?_
         refine Wl.y (y_eq (y_indexs Tryz.underlying9 rfl rfl (by omega) (by omega)) (int_eq (show _ = (c.toNat : Int) by rw [hc, Int.toNat_natCast]))) rfl ?_
         refine Wl.on' rfl rfl g_49_ ?_
         refine Wl.y (y_or rfl rfl) rfl ?_
         refine Wl.on' rfl rfl g_49_ ?_
         refine Wl.y (y_leqi rfl rfl) rfl ?_
         refine Wl.on' rfl rfl g_40_ ?_
         refine Wl.y (y_pickT rfl g_49_ rfl) rfl ?_
         refine Wl.on' rfl rfl g_16_ ?_
         refine Wl.y (y_pickF rfl g_40_ rfl) rfl ?_
         refine Wl.y (y_pickT rfl g_16_ rfl) rfl ?_
         refine Wl.nil ?_
         refine Wq.meet hM_10 (⟨decide (i < s.length ∧ isLet (s.getD i 0) = true), s.getD i 0⟩) (Sub.cons' rfl (by first | rfl | exact bool_eq (by rw [← hc, Bool.eq_iff_iff]; unfold isLet; simp; omega)) (Sub.cons' rfl (by first | rfl | exact bool_eq (by rw [← hc, Bool.eq_iff_iff]; unfold isLet; simp; omega)) (Sub.cons' rfl (by first | rfl | exact bool_eq (by rw [← hc, Bool.eq_iff_iff]; unfold isLet; simp; omega)) (Sub.nil)))) ?_
         exact ⟨rfl, rfl, hb⟩
        ·
         have g_49_ := g_49
         try simp only [decide_eq_true_eq, decide_eq_false_iff_not, beq_iff_eq, beq_eq_false_iff_ne, bne_iff_ne, bne_eq_false_iff_eq, Bool.not_eq_true', Bool.not_eq_false', Bool.not_eq_eq_eq_not, Bool.not_true, Bool.not_false, ne_eq, Int.not_lt, Int.not_le] at g_49
         refine Wl.off' rfl rfl g_49_ rfl rfl ?_
         refine Wl.off' rfl rfl g_49_ rfl rfl ?_
         refine Wl.off' rfl rfl g_49_ rfl rfl ?_
         refine Wl.off' rfl rfl g_49_ rfl rfl ?_
         refine Wl.on' rfl rfl g_40_ ?_
         refine Wl.y (y_pickF rfl g_49_ rfl) rfl ?_
         refine Wl.on' rfl rfl g_16_ ?_
         refine Wl.y (y_pickF rfl g_40_ rfl) rfl ?_
         refine Wl.y (y_pickT rfl g_16_ rfl) rfl ?_
         refine Wl.nil ?_
         refine Wq.meet hM_10 (⟨decide (i < s.length ∧ isLet (s.getD i 0) = true), s.getD i 0⟩) (Sub.cons' rfl (by first | rfl | exact bool_eq (by rw [← hc, Bool.eq_iff_iff]; unfold isLet; simp; omega)) (Sub.cons' rfl (by first | rfl | exact bool_eq (by rw [← hc, Bool.eq_iff_iff]; unfold isLet; simp; omega)) (Sub.cons' rfl (by first | rfl | exact bool_eq (by rw [← hc, Bool.eq_iff_iff]; unfold isLet; simp; omega)) (Sub.nil)))) ?_
         exact ⟨rfl, rfl, hb⟩
      ·
       have g_32_ := g_32
       try simp only [decide_eq_true_eq, decide_eq_false_iff_not, beq_iff_eq, beq_eq_false_iff_ne, bne_iff_ne, bne_eq_false_iff_eq, Bool.not_eq_true', Bool.not_eq_false', Bool.not_eq_eq_eq_not, Bool.not_true, Bool.not_false, ne_eq, Int.not_lt, Int.not_le] at g_32
       refine Wl.off' rfl rfl g_32_ rfl rfl ?_
       refine Wl.off' rfl rfl g_32_ rfl rfl ?_
       refine Wl.off' rfl rfl g_32_ rfl rfl ?_
       refine Wl.on' rfl rfl g_22_ ?_
       refine Wl.y (y_pickF rfl g_32_ rfl) rfl ?_
       refine Wl.on' rfl rfl g_16_ ?_
       refine Wl.y (y_pickF rfl g_22_ rfl) rfl ?_
       refine Wl.on' rfl rfl g_16_ ?_
       refine Wl.y (y_move rfl) rfl ?_
       refine Wl.on' rfl rfl rfl ?_
       refine Wl.y (y_move rfl) rfl ?_
       refine Wl.on' rfl rfl rfl ?_
       refine Wl.y (y_move rfl) rfl ?_
       refine Wl.on' rfl rfl rfl ?_
       refine Wl.y (y_eq (y_indexs Tryz.underlying9 rfl rfl (by omega) (by omega)) (int_eq (show _ = (c.toNat : Int) by rw [hc, Int.toNat_natCast]))) rfl ?_
       refine Wl.on' rfl rfl rfl ?_
       refine Wl.y (y_or rfl rfl) rfl ?_
       refine Wl.on' rfl rfl rfl ?_
       refine Wl.y (y_geqi rfl rfl) rfl ?_
       refine Wl.on' rfl rfl rfl ?_
       refine Wl.y (y_move rfl) rfl ?_
       refine Wl.guardT rfl rfl rfl (fun g_70 => ?_) (fun g_70 => ?_)
       ·
        have g_70_ := g_70
        try simp only [decide_eq_true_eq, decide_eq_false_iff_not, beq_iff_eq, beq_eq_false_iff_ne, bne_iff_ne, bne_eq_false_iff_eq, Bool.not_eq_true', Bool.not_eq_false', Bool.not_eq_eq_eq_not, Bool.not_true, Bool.not_false, ne_eq, Int.not_lt, Int.not_le] at g_70
        refine Wl.y (y_move rfl) rfl ?_
        refine Wl.on' rfl rfl g_70_ ?_
        refine Wl.y (y_move rfl) rfl ?_
        refine Wl.on' rfl rfl g_70_ ?_
        refine Wl.y (y_eq (y_indexs Tryz.underlying9 rfl rfl (by omega) (by omega)) (int_eq (show _ = (c.toNat : Int) by rw [hc, Int.toNat_natCast]))) rfl ?_
        refine Wl.on' rfl rfl g_70_ ?_
        refine Wl.y (y_or rfl rfl) rfl ?_
        refine Wl.on' rfl rfl g_70_ ?_
        refine Wl.y (y_leqi rfl rfl) rfl ?_
        refine Wl.on' rfl rfl rfl ?_
        refine Wl.y (y_pickT rfl g_70_ rfl) rfl ?_
        refine Wl.on' rfl rfl g_16_ ?_
        refine Wl.y (y_pickF rfl rfl rfl) rfl ?_
        refine Wl.y (y_pickT rfl g_16_ rfl) rfl ?_
        refine Wl.nil ?_
        refine Wq.meet hM_10 (⟨decide (i < s.length ∧ isLet (s.getD i 0) = true), s.getD i 0⟩) (Sub.cons' rfl (by first | rfl | exact bool_eq (by rw [← hc, Bool.eq_iff_iff]; unfold isLet; simp; omega)) (Sub.cons' rfl (by first | rfl | exact bool_eq (by rw [← hc, Bool.eq_iff_iff]; unfold isLet; simp; omega)) (Sub.cons' rfl (by first | rfl | exact bool_eq (by rw [← hc, Bool.eq_iff_iff]; unfold isLet; simp; omega)) (Sub.nil)))) ?_
        exact ⟨rfl, rfl, hb⟩
       ·
        have g_70_ := g_70
        try simp only [decide_eq_true_eq, decide_eq_false_iff_not, beq_iff_eq, beq_eq_false_iff_ne, bne_iff_ne, bne_eq_false_iff_eq, Bool.not_eq_true', Bool.not_eq_false', Bool.not_eq_eq_eq_not, Bool.not_true, Bool.not_false, ne_eq, Int.not_lt, Int.not_le] at g_70
        refine Wl.off' rfl rfl g_70_ rfl rfl ?_
        refine Wl.off' rfl rfl g_70_ rfl rfl ?_
        refine Wl.off' rfl rfl g_70_ rfl rfl ?_
        refine Wl.off' rfl rfl g_70_ rfl rfl ?_
        refine Wl.on' rfl rfl rfl ?_
        refine Wl.y (y_pickF rfl g_70_ rfl) rfl ?_
        refine Wl.on' rfl rfl g_16_ ?_
        refine Wl.y (y_pickF rfl rfl rfl) rfl ?_
        refine Wl.y (y_pickT rfl g_16_ rfl) rfl ?_
        refine Wl.nil ?_
        refine Wq.meet hM_10 (⟨decide (i < s.length ∧ isLet (s.getD i 0) = true), s.getD i 0⟩) (Sub.cons' rfl (by first | rfl | exact bool_eq (by rw [← hc, Bool.eq_iff_iff]; unfold isLet; simp; omega)) (Sub.cons' rfl (by first | rfl | exact bool_eq (by rw [← hc, Bool.eq_iff_iff]; unfold isLet; simp; omega)) (Sub.cons' rfl (by first | rfl | exact bool_eq (by rw [← hc, Bool.eq_iff_iff]; unfold isLet; simp; omega)) (Sub.nil)))) ?_
        exact ⟨rfl, rfl, hb⟩
    ·
     have g_16_ := g_16
     try simp only [decide_eq_true_eq, decide_eq_false_iff_not, beq_iff_eq, beq_eq_false_iff_ne, bne_iff_ne, bne_eq_false_iff_eq, Bool.not_eq_true', Bool.not_eq_false', Bool.not_eq_eq_eq_not, Bool.not_true, Bool.not_false, ne_eq, Int.not_lt, Int.not_le] at g_16
     refine Wl.off' rfl rfl g_16_ rfl rfl ?_
     refine Wl.off' rfl rfl g_16_ rfl rfl ?_
     refine Wl.off' rfl rfl g_16_ rfl rfl ?_
     refine Wl.off' rfl rfl g_16_ rfl rfl ?_
     refine Wl.offU rfl rfl rfl ?_
     refine Wl.offU rfl rfl rfl ?_
     refine Wl.offU rfl rfl rfl ?_
     refine Wl.offU rfl rfl rfl ?_
     refine Wl.offU rfl rfl rfl ?_
     refine Wl.offU rfl rfl rfl ?_
     refine Wl.offU rfl rfl rfl ?_
     refine Wl.offU rfl rfl rfl ?_
     refine Wl.offU rfl rfl rfl ?_
     refine Wl.offU rfl rfl rfl ?_
     refine Wl.off' rfl rfl g_16_ rfl rfl ?_
     refine Wl.off' rfl rfl g_16_ rfl rfl ?_
     refine Wl.offU rfl rfl rfl ?_
     refine Wl.offU rfl rfl rfl ?_
     refine Wl.offU rfl rfl rfl ?_
     refine Wl.offU rfl rfl rfl ?_
     refine Wl.offU rfl rfl rfl ?_
     refine Wl.offU rfl rfl rfl ?_
     refine Wl.offU rfl rfl rfl ?_
     refine Wl.offU rfl rfl rfl ?_
     refine Wl.offU rfl rfl rfl ?_
     refine Wl.offU rfl rfl rfl ?_
     refine Wl.offU rfl rfl rfl ?_
     refine Wl.offU rfl rfl rfl ?_
     refine Wl.off' rfl rfl g_16_ rfl rfl ?_
     refine Wl.y (y_pickF rfl g_16_ rfl) rfl ?_
     refine Wl.nil ?_
     refine Wq.meet hM_10 (⟨decide (i < s.length ∧ isLet (s.getD i 0) = true), s.getD i 0⟩) (Sub.cons' rfl (by first | rfl | exact bool_eq (by rw [← hc, Bool.eq_iff_iff]; unfold isLet; simp; omega)) (Sub.cons' rfl (by first | rfl | exact bool_eq (by rw [← hc, Bool.eq_iff_iff]; unfold isLet; simp; omega)) (Sub.cons' rfl (by first | rfl | exact bool_eq (by rw [← hc, Bool.eq_iff_iff]; unfold isLet; simp; omega)) (Sub.nil)))) ?_
     exact ⟨rfl, rfl, hb⟩
   ·
    rintro ⟨q, c⟩ wr hI_83
    replace hI_83 : q = decide (i < s.length ∧ isLet c = true) ∧ c = s.getD i 0 ∧ Below w.heap.size w wr := hI_83
    obtain ⟨hq, hc, hb⟩ := hI_83
    show Wq _ _ _ _ [(0, str s), (3, .int .i64 (i : Int)), (39, .bool q)] _
    try have hzhb_g2 := hb.size
    refine Wq.next hK_9 ?_
    have hq2 := hq
    refine Wc.cond rfl (fun c0_84 => ?_) (fun c0_84 => ?_)
    ·
     have c0_84_ := c0_84
     try simp only [decide_eq_true_eq, decide_eq_false_iff_not, beq_iff_eq, beq_eq_false_iff_ne, bne_iff_ne, bne_eq_false_iff_eq, Bool.not_eq_true', Bool.not_eq_false', Bool.not_eq_eq_eq_not, Bool.not_true, Bool.not_false, ne_eq, Int.not_lt, Int.not_le] at c0_84
     have hq2 : i < s.length ∧ isLet c = true := by have h := c0_84_; rw [hq] at h; exact of_decide_eq_true h
     refine Wc.skip ?_
     refine Wq.next hK_8 ?_
     refine Wc.block ?_
     refine Wc.region ?_
     refine Wl.y (y_move rfl) rfl ?_
     refine Wl.y (y_addI rfl rfl (by first | omega | (simp; done) | (simp; omega)) (by first | omega | (simp; done) | (simp; omega))) rfl ?_
     refine Wl.y (y_assign rfl) rfl ?_
     refine Wl.nil ?_
     refine Wq.block_normal ?_
     refine fun a_ ha_ => hL_6 _ _ (i + 1) (by first | omega | (simp; omega)) (Sub.cons' rfl (by first | rfl | exact int_eq (by omega)) (Sub.cons' rfl (by first | rfl | exact int_eq (by omega)) (Sub.nil))) ?_ a_ ha_
     exact ⟨by omega, fun j hj => by (by_cases e : j = i); (· rw [e, ← hc]; exact hq2.2); (· exact hall j (by omega)), hb⟩
    ·
     have c0_84_ := c0_84
     try simp only [decide_eq_true_eq, decide_eq_false_iff_not, beq_iff_eq, beq_eq_false_iff_ne, bne_iff_ne, bne_eq_false_iff_eq, Bool.not_eq_true', Bool.not_eq_false', Bool.not_eq_eq_eq_not, Bool.not_true, Bool.not_false, ne_eq, Int.not_lt, Int.not_le] at c0_84
     have hq2 : ¬ (i < s.length ∧ isLet c = true) := by have h := c0_84_; rw [hq] at h; exact of_decide_eq_false h
     refine Wc.exit ?_
     refine Wq.then_exit ?_
     refine Wq.then_exit ?_
     refine Wq.block_exit ?_
     refine Wq.next hK_5 ?_
     refine Wc.seq fun _ hK_88 => ?_
     refine Wc.region ?_
     refine Wl.y (y_move rfl) rfl ?_
     refine Wl.y (y_assign rfl) rfl ?_
     refine Wl.nil ?_
     refine Wq.next hK_88 ?_
     refine Wc.ret ?_
     refine ret1 rfl rfl ?_
     exact ⟨_, rfl, int_eq (by rw [letN_of hi hall (fun h => by rw [← hc]; cases hl : isLet c with | false => rfl | true => exact absurd ⟨h, hl⟩ hq2)]), hb⟩
/-- the texts in a row -/
def strs (l : List (List UInt8)) : List Value := l.map str
theorem strs_length (l : List (List UInt8)) : (strs l).length = l.length := by simp [strs]
theorem strs_val {l : List (List UInt8)} {i : Nat} {v : Value} (hi : i < l.length) (h : (strs l)[i]? = some v) : v = str (l.getD i []) := by
  simp [strs, List.getElem?_eq_getElem hi] at h
  simp [List.getD, List.getElem?_eq_getElem hi, ← h]
theorem SIndex_r (A : Option Addr) (c : Nat) (l : List (List UInt8)) (x : List UInt8) (hl : l.length ≤ 281474976710656) (w : World) (hR : Rd w 1 A l.length (strs l)) : Ret Tryz.prog 150 [.slice A l.length c, str x] w fun v w' => (∃ z, v = .int .i64 z ∧ (0 ≤ z ↔ x ∈ l)) ∧ Below w.heap.size w w' := by
  have hb := Below.refl w.heap.size w
  have hR_hb := hR
  refine enter Tryz.func150 rfl rfl rfl ?_
  refine Wc.seq fun _ hK_1 => ?_
  refine Wc.region ?_
  refine Wl.y (y_assign rfl) rfl ?_
  refine Wl.nil ?_
  refine Wq.next hK_1 ?_
  refine Wc.seq fun _ hK_3 => ?_
  refine Wc.seq fun _ hK_4 => ?_
  refine Wc.region ?_
  refine Wl.y (y_move rfl) rfl ?_
  refine Wl.y (y_lenl Tryz.underlying53 (by omega) rfl) rfl ?_
  refine Wl.y (y_move rfl) rfl ?_
  refine Wl.nil ?_
  refine Wq.next hK_4 ?_
  refine Wc.block ?_
  refine Wc.loop (X := Nat) (fun i => [(0, .slice A l.length c), (1, str x), (7, .int .i64 (l.length : Int)), (8, .int .i64 (i : Int))]) (fun i wr => i ≤ l.length ∧ (∀ j, j < i → l.getD j [] ≠ x) ∧ Below w.heap.size w wr) (fun i => l.length - i) (0) ?_ ?_ ?_
  · exact Sub.cons' rfl (by first | rfl | exact int_eq (by omega)) (Sub.cons' rfl (by first | rfl | exact int_eq (by omega)) (Sub.cons' rfl (by first | rfl | exact int_eq (by omega)) (Sub.cons' rfl (by first | rfl | exact int_eq (by omega)) (Sub.nil))))
  · exact ⟨by omega, fun j h => by omega, hb⟩
  ·
   rintro i wr hI_9 _ hL_8
   replace hI_9 : i ≤ l.length ∧ (∀ j, j < i → l.getD j [] ≠ x) ∧ Below w.heap.size w wr := hI_9
   obtain ⟨hi, hall, hb⟩ := hI_9
   show Wc _ _ _ _ _ [(0, .slice A l.length c), (1, str x), (7, .int .i64 (l.length : Int)), (8, .int .i64 (i : Int))] _
   have hR := hR_hb.below hb
   try have hzhb_L0 := hb.size
   refine Wc.seq fun _ hK_10 => ?_
   refine Wc.region ?_
   refine Wl.y (y_lssi rfl rfl) rfl ?_
   refine Wl.nil ?_
   refine Wq.next hK_10 ?_
   refine Wc.seq fun _ hK_12 => ?_
   refine Wc.cond rfl (fun c0_13 => ?_) (fun c0_13 => ?_)
   ·
    have c0_13_ := c0_13
    try simp only [decide_eq_true_eq, decide_eq_false_iff_not, beq_iff_eq, beq_eq_false_iff_ne, bne_iff_ne, bne_eq_false_iff_eq, Bool.not_eq_true', Bool.not_eq_false', Bool.not_eq_eq_eq_not, Bool.not_true, Bool.not_false, ne_eq, Int.not_lt, Int.not_le] at c0_13
    have hil : i < l.length := by have := c0_13; omega
    obtain ⟨p_, v_, hpe, hve, hcell⟩ := hR.one (i := i) hil
    subst hpe
    obtain rfl := strs_val hil hve
    refine Wc.skip ?_
    refine Wq.next hK_12 ?_
    refine Wc.seq fun _ hK_14 => ?_
    refine Wc.block ?_
    refine Wc.seq fun _ hK_15 => ?_
    refine Wc.region ?_
    refine Wl.y (y_move rfl) rfl ?_
    refine Wl.y (y_assign rfl) rfl ?_
    refine Wl.nil ?_
    refine Wq.next hK_15 ?_
    refine Wc.seq fun _ hK_18 => ?_
    refine Wc.region ?_
    refine Wl.y (y_move rfl) rfl ?_
    refine Wl.y (y_move rfl) rfl ?_
    refine Wl.y (y_move rfl) rfl ?_
    refine Wl.y (y_indexAddr Tryz.underlying53 sz9LexA rfl rfl (by omega) (by omega)) rfl ?_
    refine Wl.l (l_load one9LexA rfl (by exact at1 hcell)) rfl ?_
    refine Wl.y (y_eqls rfl rfl) rfl ?_
    refine Wl.nil ?_
    refine Wq.next hK_18 ?_
    refine Wc.cond rfl (fun c1_25 => ?_) (fun c1_25 => ?_)
    ·
     have c1_25_ := c1_25
     try simp only [decide_eq_true_eq, decide_eq_false_iff_not, beq_iff_eq, beq_eq_false_iff_ne, bne_iff_ne, bne_eq_false_iff_eq, Bool.not_eq_true', Bool.not_eq_false', Bool.not_eq_eq_eq_not, Bool.not_true, Bool.not_false, ne_eq, Int.not_lt, Int.not_le] at c1_25
     have heq : x = l.getD i [] := by have h := c1_25_; simpa using h
     refine Wc.seq fun _ hK_26 => ?_
     refine Wc.region ?_
     refine Wl.y (y_move rfl) rfl ?_
     refine Wl.y (y_assign rfl) rfl ?_
     refine Wl.nil ?_
     refine Wq.next hK_26 ?_
     refine Wc.ret ?_
     refine Wq.block_ret (Wq.then_ret (Wq.then_ret (Wq.block_ret (Wq.then_ret ?_))))
     refine ret1 rfl rfl ?_
     exact ⟨_, rfl, ⟨_, rfl, ⟨fun _ => by rw [heq]; simp [List.getD, List.getElem?_eq_getElem hil], fun _ => by omega⟩⟩, hb⟩
    ·
     have c1_25_ := c1_25
     try simp only [decide_eq_true_eq, decide_eq_false_iff_not, beq_iff_eq, beq_eq_false_iff_ne, bne_iff_ne, bne_eq_false_iff_eq, Bool.not_eq_true', Bool.not_eq_false', Bool.not_eq_eq_eq_not, Bool.not_true, Bool.not_false, ne_eq, Int.not_lt, Int.not_le] at c1_25
     have hne : l.getD i [] ≠ x := fun e => by have h := c1_25_; rw [e] at h; simp at h
     refine Wc.skip ?_
     refine Wq.block_normal ?_
     refine Wq.next hK_14 ?_
     refine Wc.region ?_
     refine Wl.y (y_addI rfl rfl (by first | omega | (simp; done) | (simp; omega)) (by first | omega | (simp; done) | (simp; omega))) rfl ?_
     refine Wl.y (y_move rfl) rfl ?_
     refine Wl.nil ?_
     refine fun a_ ha_ => hL_8 _ _ (i + 1) (by first | omega | (simp; omega)) (Sub.cons' rfl (by first | rfl | exact int_eq (by omega)) (Sub.cons' rfl (by first | rfl | exact int_eq (by omega)) (Sub.cons' rfl (by first | rfl | exact int_eq (by omega)) (Sub.cons' rfl (by first | rfl | exact int_eq (by omega)) (Sub.nil))))) ?_ a_ ha_
     exact ⟨by omega, fun j hj => by (by_cases e : j = i); (· rw [e]; exact hne); (· exact hall j (by omega)), hb⟩
   ·
    have c0_13_ := c0_13
    try simp only [decide_eq_true_eq, decide_eq_false_iff_not, beq_iff_eq, beq_eq_false_iff_ne, bne_iff_ne, bne_eq_false_iff_eq, Bool.not_eq_true', Bool.not_eq_false', Bool.not_eq_eq_eq_not, Bool.not_true, Bool.not_false, ne_eq, Int.not_lt, Int.not_le] at c0_13
    refine Wc.exit ?_
    refine Wq.then_exit ?_
    refine Wq.then_exit ?_
    refine Wq.block_exit ?_
    refine Wq.next hK_3 ?_
    refine Wc.seq fun _ hK_31 => ?_
    refine Wc.region ?_
    refine Wl.y (y_assign rfl) rfl ?_
    refine Wl.nil ?_
    refine Wq.next hK_31 ?_
    refine Wc.ret ?_
    refine ret1 rfl rfl ?_
    exact ⟨_, rfl, ⟨_, rfl, ⟨fun h => by omega, fun h => by
  obtain ⟨j, hj, e⟩ := List.mem_iff_getElem.1 h
  exact absurd (by simp [List.getD, List.getElem?_eq_getElem hj, e]) (hall j (by have := c0_13; omega))⟩⟩, hb⟩
theorem SContains_r (A : Option Addr) (c : Nat) (l : List (List UInt8)) (x : List UInt8) (hl : l.length ≤ 281474976710656) (w : World) (hR : Rd w 1 A l.length (strs l)) : Ret Tryz.prog 98 [.slice A l.length c, str x] w fun v w' => v = .bool (decide (x ∈ l)) ∧ Below w.heap.size w w' := by
  have hb := Below.refl w.heap.size w
  refine enter Tryz.func98 rfl rfl rfl ?_
  refine Wc.seq fun _ hK_1 => ?_
  refine Wc.region ?_
  refine Wl.y (y_assign rfl) rfl ?_
  refine Wl.nil ?_
  refine Wq.next hK_1 ?_
  refine Wc.seq fun _ hK_3 => ?_
  refine Wc.region ?_
  refine Wl.y (y_move rfl) rfl ?_
  refine Wl.y (y_move rfl) rfl ?_
  refine Wl.call txt150LexA rfl rfl (SIndex_r A c l x hl _ hR) rfl ?_
  rintro _ w_k0 ⟨⟨z, rfl, hz⟩, hs_k0⟩
  have hz_k0 := hs_k0.size
  have hb := hb.trans (hs_k0.mono hb.size)
  refine Wl.y (y_geqi rfl rfl) rfl ?_
  refine Wl.y (y_assign rfl) rfl ?_
  refine Wl.nil ?_
  refine Wq.next hK_3 ?_
  refine Wc.ret ?_
  refine ret1 rfl rfl ?_
  exact ⟨_, rfl, bool_eq (by rw [Bool.eq_iff_iff, decide_eq_true_eq, decide_eq_true_eq]; exact hz), hb⟩
theorem tokenF_r (g : Nat) (s x : List UInt8) (w : World) (hB : Blk w g 9 [str s]) : Ret Tryz.prog 101 [str x, .pointer (some ⟨g, 0, none⟩)] w fun v w' => v = .bool (Lib.hasPrefix s x) ∧ Below w.heap.size w w' := by
  have hcell : w.cell? ⟨g, 0, none⟩ = some (str s) := hB.cell 0
  have hb := Below.refl w.heap.size w
  have hB_hb := hB
  refine enter Tryz.func101 rfl rfl rfl ?_
  refine Wc.seq fun _ hK_1 => ?_
  refine Wc.region ?_
  refine Wl.y (y_assign rfl) rfl ?_
  refine Wl.nil ?_
  refine Wq.next hK_1 ?_
  refine Wc.seq fun _ hK_3 => ?_
  refine Wc.region ?_
  refine Wl.l (l_load one9LexA rfl (by exact (hB.cell 0))) rfl ?_
  refine Wl.y (y_move rfl) rfl ?_
  refine Wl.call txt41LexA rfl rfl (HasPrefix_r s x _) rfl ?_
  rintro _ w_ ⟨rfl, hw_⟩
  have hw_ := hw_.symm; subst hw_
  refine Wl.y (y_assign rfl) rfl ?_
  refine Wl.nil ?_
  refine Wq.next hK_3 ?_
  refine Wc.ret ?_
  refine ret1 rfl rfl ?_
  exact ⟨_, rfl, rfl, hb⟩
/-- where the first is that s begins with -/
def FindIs (l : List (List UInt8)) (s : List UInt8) (z : Int) : Prop := (z = -1 ∧ l.find? (fun x => Lib.hasPrefix s x) = none) ∨ ∃ k : Nat, z = k ∧ k < l.length ∧ l.find? (fun x => Lib.hasPrefix s x) = some (l.getD k [])
theorem find_at {l : List (List UInt8)} {p : List UInt8 → Bool} : ∀ {i : Nat}, i < l.length → (∀ j, j < i → p (l.getD j []) = false) → p (l.getD i []) = true → l.find? p = some (l.getD i []) := by
  induction l with
  | nil => intro i h; simp at h
  | cons a r ih =>
    intro i hi h0 h1
    rw [List.find?_cons]
    cases i with
    | zero => rw [show (a :: r).getD 0 [] = a from rfl] at h1 ⊢; rw [h1]
    | succ i =>
      have := h0 0 (by omega)
      rw [show (a :: r).getD 0 [] = a from rfl] at this
      rw [this]
      exact ih (by simpa using hi) (fun j hj => h0 (j + 1) (by omega)) h1
theorem find_no {l : List (List UInt8)} {p : List UInt8 → Bool} (h : ∀ j, j < l.length → p (l.getD j []) = false) : l.find? p = none := by
  rw [List.find?_eq_none]
  intro x hx
  obtain ⟨j, hj, e⟩ := List.mem_iff_getElem.1 hx
  have := h j hj
  rw [show l.getD j [] = x by simp [List.getD, List.getElem?_eq_getElem hj, e]] at this
  rw [this]; simp
theorem txtF : Txt Tryz.prog 101 := ⟨_, Tryz.func101, by kernel_rfl, rfl⟩
theorem SIndexFunc_r (A : Option Addr) (c : Nat) (l : List (List UInt8)) (g : Nat) (s : List UInt8) (hl : l.length ≤ 281474976710656) (w : World) (hR : Rd w 1 A l.length (strs l)) (hB : Blk w g 9 [str s]) : Ret Tryz.prog 100 [.slice A l.length c, .func (.func 101) #[] #[.pointer (some ⟨g, 0, none⟩)]] w fun v w' => (∃ z, v = .int .i64 z ∧ FindIs l s z) ∧ Below w.heap.size w w' := by
  have hb := Below.refl w.heap.size w
  have hR_hb := hR
  have hB_hb := hB
  refine enter Tryz.func100 rfl rfl rfl ?_
  refine Wc.seq fun _ hK_1 => ?_
  refine Wc.region ?_
  refine Wl.y (y_assign rfl) rfl ?_
  refine Wl.nil ?_
  refine Wq.next hK_1 ?_
  refine Wc.seq fun _ hK_3 => ?_
  refine Wc.seq fun _ hK_4 => ?_
  refine Wc.region ?_
  refine Wl.y (y_move rfl) rfl ?_
  refine Wl.y (y_lenl Tryz.underlying53 (by omega) rfl) rfl ?_
  refine Wl.y (y_move rfl) rfl ?_
  refine Wl.nil ?_
  refine Wq.next hK_4 ?_
  refine Wc.block ?_
  refine Wc.loop (X := Nat) (fun i => [(0, .slice A l.length c), (1, .func (.func 101) #[] #[.pointer (some ⟨g, 0, none⟩)]), (7, .int .i64 (l.length : Int)), (8, .int .i64 (i : Int))]) (fun i wr => i ≤ l.length ∧ (∀ j, j < i → Lib.hasPrefix s (l.getD j []) = false) ∧ Below w.heap.size w wr) (fun i => l.length - i) (0) ?_ ?_ ?_
  · exact Sub.cons' rfl (by first | rfl | exact int_eq (by omega)) (Sub.cons' rfl (by first | rfl | exact int_eq (by omega)) (Sub.cons' rfl (by first | rfl | exact int_eq (by omega)) (Sub.cons' rfl (by first | rfl | exact int_eq (by omega)) (Sub.nil))))
  · exact ⟨by omega, fun j h => by omega, hb⟩
  ·
   rintro i wr hI_9 _ hL_8
   replace hI_9 : i ≤ l.length ∧ (∀ j, j < i → Lib.hasPrefix s (l.getD j []) = false) ∧ Below w.heap.size w wr := hI_9
   obtain ⟨hi, hall, hb⟩ := hI_9
   show Wc _ _ _ _ _ [(0, .slice A l.length c), (1, .func (.func 101) #[] #[.pointer (some ⟨g, 0, none⟩)]), (7, .int .i64 (l.length : Int)), (8, .int .i64 (i : Int))] _
   have hR := hR_hb.below hb
   have hB := hB_hb.below hb
   try have hzhb_L0 := hb.size
   refine Wc.seq fun _ hK_10 => ?_
   refine Wc.region ?_
   refine Wl.y (y_lssi rfl rfl) rfl ?_
   refine Wl.nil ?_
   refine Wq.next hK_10 ?_
   refine Wc.seq fun _ hK_12 => ?_
   refine Wc.cond rfl (fun c0_13 => ?_) (fun c0_13 => ?_)
   ·
    have c0_13_ := c0_13
    try simp only [decide_eq_true_eq, decide_eq_false_iff_not, beq_iff_eq, beq_eq_false_iff_ne, bne_iff_ne, bne_eq_false_iff_eq, Bool.not_eq_true', Bool.not_eq_false', Bool.not_eq_eq_eq_not, Bool.not_true, Bool.not_false, ne_eq, Int.not_lt, Int.not_le] at c0_13
    have hil : i < l.length := by have := c0_13; omega
    obtain ⟨p_, v_, hpe, hve, hcell⟩ := hR.one (i := i) hil
    subst hpe
    obtain rfl := strs_val hil hve
    refine Wc.skip ?_
    refine Wq.next hK_12 ?_
    refine Wc.seq fun _ hK_14 => ?_
    refine Wc.block ?_
    refine Wc.seq fun _ hK_15 => ?_
    refine Wc.region ?_
    refine Wl.y (y_move rfl) rfl ?_
    refine Wl.y (y_assign rfl) rfl ?_
    refine Wl.nil ?_
    refine Wq.next hK_15 ?_
    refine Wc.seq fun _ hK_18 => ?_
    refine Wc.region ?_
    refine Wl.y (y_move rfl) rfl ?_
    refine Wl.y (y_move rfl) rfl ?_
    refine Wl.y (y_move rfl) rfl ?_
    refine Wl.y (y_indexAddr Tryz.underlying53 sz9LexA rfl rfl (by omega) (by omega)) rfl ?_
    refine Wl.l (l_load one9LexA rfl (by exact at1 hcell)) rfl ?_
    refine Wl.call txtF rfl rfl (tokenF_r g s (l.getD i []) _ hB) rfl ?_
    rintro _ w_k0 ⟨rfl, hs_k0⟩
    have hb := hb.trans (hs_k0.mono hb.size)
    refine Wl.nil ?_
    refine Wq.next hK_18 ?_
    refine Wc.cond rfl (fun c1_25 => ?_) (fun c1_25 => ?_)
    ·
     have c1_25_ := c1_25
     try simp only [decide_eq_true_eq, decide_eq_false_iff_not, beq_iff_eq, beq_eq_false_iff_ne, bne_iff_ne, bne_eq_false_iff_eq, Bool.not_eq_true', Bool.not_eq_false', Bool.not_eq_eq_eq_not, Bool.not_true, Bool.not_false, ne_eq, Int.not_lt, Int.not_le] at c1_25
     refine Wc.seq fun _ hK_26 => ?_
     refine Wc.region ?_
     refine Wl.y (y_move rfl) rfl ?_
     refine Wl.y (y_assign rfl) rfl ?_
     refine Wl.nil ?_
     refine Wq.next hK_26 ?_
     refine Wc.ret ?_
     refine Wq.block_ret (Wq.then_ret (Wq.then_ret (Wq.block_ret (Wq.then_ret ?_))))
     refine ret1 rfl rfl ?_
     exact ⟨_, rfl, ⟨_, rfl, .inr ⟨i, rfl, hil, find_at hil hall c1_25_⟩⟩, hb⟩
    ·
     have c1_25_ := c1_25
     try simp only [decide_eq_true_eq, decide_eq_false_iff_not, beq_iff_eq, beq_eq_false_iff_ne, bne_iff_ne, bne_eq_false_iff_eq, Bool.not_eq_true', Bool.not_eq_false', Bool.not_eq_eq_eq_not, Bool.not_true, Bool.not_false, ne_eq, Int.not_lt, Int.not_le] at c1_25
     refine Wc.skip ?_
     refine Wq.block_normal ?_
     refine Wq.next hK_14 ?_
     refine Wc.region ?_
     refine Wl.y (y_addI rfl rfl (by first | omega | (simp; done) | (simp; omega)) (by first | omega | (simp; done) | (simp; omega))) rfl ?_
     refine Wl.y (y_move rfl) rfl ?_
     refine Wl.nil ?_
     refine fun a_ ha_ => hL_8 _ _ (i + 1) (by first | omega | (simp; omega)) (Sub.cons' rfl (by first | rfl | exact int_eq (by omega)) (Sub.cons' rfl (by first | rfl | exact int_eq (by omega)) (Sub.cons' rfl (by first | rfl | exact int_eq (by omega)) (Sub.cons' rfl (by first | rfl | exact int_eq (by omega)) (Sub.nil))))) ?_ a_ ha_
     exact ⟨by omega, fun j hj => by (by_cases e : j = i); (· rw [e]; exact c1_25_); (· exact hall j (by omega)), hb⟩
   ·
    have c0_13_ := c0_13
    try simp only [decide_eq_true_eq, decide_eq_false_iff_not, beq_iff_eq, beq_eq_false_iff_ne, bne_iff_ne, bne_eq_false_iff_eq, Bool.not_eq_true', Bool.not_eq_false', Bool.not_eq_eq_eq_not, Bool.not_true, Bool.not_false, ne_eq, Int.not_lt, Int.not_le] at c0_13
    refine Wc.exit ?_
    refine Wq.then_exit ?_
    refine Wq.then_exit ?_
    refine Wq.block_exit ?_
    refine Wq.next hK_3 ?_
    refine Wc.seq fun _ hK_31 => ?_
    refine Wc.region ?_
    refine Wl.y (y_assign rfl) rfl ?_
    refine Wl.nil ?_
    refine Wq.next hK_31 ?_
    refine Wc.ret ?_
    refine ret1 rfl rfl ?_
    exact ⟨_, rfl, ⟨_, rfl, .inl ⟨rfl, find_no fun j hj => hall j (by have := c0_13; omega)⟩⟩, hb⟩
theorem isLet_iff {c : UInt8} (h : isLet c = true) : c.toNat = 95 ∨ (48 ≤ c.toNat ∧ c.toNat ≤ 57) ∨ (65 ≤ c.toNat ∧ c.toNat ≤ 90) ∨ (97 ≤ c.toNat ∧ c.toNat ≤ 122) := by
  have key : ∀ n : Fin 256, isLet (UInt8.ofNat n.val) = true → n.val = 95 ∨ (48 ≤ n.val ∧ n.val ≤ 57) ∨ (65 ≤ n.val ∧ n.val ≤ 90) ∨ (97 ≤ n.val ∧ n.val ≤ 122) := by decide +kernel
  have h2 := key ⟨c.toNat, UInt8.toNat_lt c⟩
  rw [show UInt8.ofNat c.toNat = c from UInt8.ofNat_toNat] at h2
  exact h2 h
theorem Word_r (s : List UInt8) (hl : ∀ c, c ∈ s → isLet c = true) (hs : s.length ≤ 140737488355328) (w : World) : Ret Tryz.prog 99 [str s] w fun v w' => v = .bool (wordV s) ∧ Below w.heap.size w w' := by
  have hlow : ∀ c, c ∈ s → c.toNat < 128 := fun c hc => by have := isLet_low c (hl c hc); omega
  have hb := Below.refl w.heap.size w
  refine enter Tryz.func99 rfl rfl rfl ?_
  refine Wc.seq fun _ hK_1 => ?_
  refine Wc.region ?_
  refine Wl.y (y_assign rfl) rfl ?_
  refine Wl.nil ?_
  refine Wq.next hK_1 ?_
  refine Wc.seq fun _ hK_3 => ?_
  refine Wc.seq fun _ hK_4 => ?_
  refine Wc.region ?_
  refine Wl.y (y_move rfl) rfl ?_
  refine Wl.ranges Tryz.underlying9 rfl rfl ?_
  rintro g_o2 w_o2 hg_o2 hn_o2 hs_o2
  have hz_o2 := hs_o2.size
  have hb := hb.trans (hs_o2.mono hb.size)
  have hI_o2 := hn_o2
  have hl_o2 := hI_o2.lt
  refine Wl.nil ?_
  refine Wq.next hK_4 ?_
  refine Wc.block ?_
  refine Wc.loop (X := Nat) (fun i => [(0, str s), (7, .pointer (some ⟨g_o2, 0, none⟩))]) (fun i wr => i ≤ s.length ∧ (0 < i → ¬ (48 ≤ (s.getD 0 0).toNat ∧ (s.getD 0 0).toNat ≤ 57)) ∧ Below w.heap.size w wr ∧ Its wr g_o2 s i) (fun i => s.length - i) (0) ?_ ?_ ?_
  · exact Sub.cons' rfl (by first | rfl | exact int_eq (by omega) | exact int_eq (by simp) | (simp; done)) (Sub.cons' rfl (by first | rfl | exact int_eq (by omega) | exact int_eq (by simp) | (simp; done)) (Sub.nil))
  · exact ⟨by omega, fun h => by omega, hb, hI_o2⟩
  ·
   rintro i wr hI_8 _ hL_7
   replace hI_8 : i ≤ s.length ∧ (0 < i → ¬ (48 ≤ (s.getD 0 0).toNat ∧ (s.getD 0 0).toNat ≤ 57)) ∧ Below w.heap.size w wr ∧ Its wr g_o2 s i := hI_8
   obtain ⟨hi, hd, hb, hI_o2⟩ := hI_8
   show Wc _ _ _ _ _ [(0, str s), (7, .pointer (some ⟨g_o2, 0, none⟩))] _
   try have hzhb_L0 := hb.size
   refine Wc.seq fun _ hK_9 => ?_
   refine Wc.region ?_
   refine Wl.nexts rfl hI_o2 (hlow) rfl (fun hend_o3 => ?_) (fun hgo_o3 => ?_)
   ·
    refine Wl.y (y_extract rfl rfl) rfl ?_
    refine Wl.nil ?_
    refine Wq.next hK_9 ?_
    refine Wc.seq fun _ hK_12 => ?_
    refine Wc.condF rfl rfl ?_
    refine Wc.exit ?_
    refine Wq.then_exit ?_
    refine Wq.then_exit ?_
    refine Wq.block_exit ?_
    refine Wq.next hK_3 ?_
    refine Wc.seq fun _ hK_13 => ?_
    refine Wc.region ?_
    refine Wl.y (y_move rfl) rfl ?_
    refine Wl.y (y_neqs rfl rfl) rfl ?_
    refine Wl.y (y_move rfl) rfl ?_
    refine Wl.guardT rfl rfl rfl (fun g_17 => ?_) (fun g_17 => ?_)
    ·
     have g_17_ := g_17
     try simp only [decide_eq_true_eq, decide_eq_false_iff_not, beq_iff_eq, beq_eq_false_iff_ne, bne_iff_ne, bne_eq_false_iff_eq, Bool.not_eq_true', Bool.not_eq_false', Bool.not_eq_eq_eq_not, Bool.not_true, Bool.not_false, ne_eq, Int.not_lt, Int.not_le] at g_17
     refine Wl.y (y_move rfl) rfl ?_
     refine Wl.on' rfl rfl g_17_ ?_
     refine Wl.y (y_lens Tryz.underlying9 (by omega) rfl) rfl ?_
     refine Wl.on' rfl rfl g_17_ ?_
     refine Wl.y (y_leqi rfl rfl) rfl ?_
     refine Wl.y (y_pickT rfl g_17_ rfl) rfl ?_
     refine Wl.y (y_assign rfl) rfl ?_
     refine Wl.nil ?_
     refine Wq.next hK_13 ?_
     refine Wc.ret ?_
     refine ret1 rfl rfl ?_
     exact ⟨_, rfl, bool_eq (by
  have hne : s ≠ [] := by have h := g_17_; simpa using h
  have hpos := List.length_pos_iff.2 hne
  have := hd (by omega)
  unfold wordV
  rw [decide_eq_decide]
  exact ⟨fun h => ⟨hne, by omega, this⟩, fun h => by have := h.2.1; omega⟩), hb⟩
    ·
     have g_17_ := g_17
     try simp only [decide_eq_true_eq, decide_eq_false_iff_not, beq_iff_eq, beq_eq_false_iff_ne, bne_iff_ne, bne_eq_false_iff_eq, Bool.not_eq_true', Bool.not_eq_false', Bool.not_eq_eq_eq_not, Bool.not_true, Bool.not_false, ne_eq, Int.not_lt, Int.not_le] at g_17
     refine Wl.off' rfl rfl g_17_ rfl rfl ?_
     refine Wl.off' rfl rfl g_17_ rfl rfl ?_
     refine Wl.y (y_pickF rfl g_17_ rfl) rfl ?_
     refine Wl.y (y_assign rfl) rfl ?_
     refine Wl.nil ?_
     refine Wq.next hK_13 ?_
     refine Wc.ret ?_
     refine ret1 rfl rfl ?_
     exact ⟨_, rfl, bool_eq (by
  have he : s = [] := by have h := g_17_; simpa using h
  subst he; rfl), hb⟩
   ·
    rintro w_o3 hn_o3 hg_o3
    have hz_o3 := hg_o3.size
    have hb := below_blk hb hg_o3 hb.size (by omega)
    have hI_o2 := hn_o3
    refine Wl.y (y_extract rfl rfl) rfl ?_
    refine Wl.nil ?_
    refine Wq.next hK_9 ?_
    refine Wc.seq fun _ hK_26 => ?_
    refine Wc.condT rfl rfl ?_
    refine Wc.skip ?_
    refine Wq.next hK_26 ?_
    refine Wc.block ?_
    refine Wc.seq fun _ hK_27 => ?_
    obtain ⟨c, hc⟩ : ∃ c, c = (s.getD i 0).toNat := ⟨_, rfl⟩
    have hcl : c = 95 ∨ (48 ≤ c ∧ c ≤ 57) ∨ (65 ≤ c ∧ c ≤ 90) ∨ (97 ≤ c ∧ c ≤ 122) := by rw [hc]; exact isLet_iff (hl _ (by simp [List.getD, List.getElem?_eq_getElem hgo_o3]))
    refine Wc.region ?_
    refine Wl.y (y_extract rfl rfl) rfl ?_
    refine Wl.y (y_eq (y_extract rfl rfl) (int_eq (show _ = (c : Int) by rw [hc]))) rfl ?_
    refine Wl.y (y_assign rfl) rfl ?_
    refine Wl.y (y_assign rfl) rfl ?_
    refine Wl.nil ?_
    refine Wq.next hK_27 ?_
    refine Wc.seq fun _ hK_32 => ?_
    refine Wc.meet (X := Bool) (fun q => [(0, str s), (3, .int .i64 (i : Int)), (4, .int .i32 (c : Int)), (5, .bool q), (7, .pointer (some ⟨g_o2, 0, none⟩))]) (fun q wr => q = decide ((65 ≤ c ∧ c ≤ 90) ∨ (97 ≤ c ∧ c ≤ 122) ∨ c = 95) ∧ Below w.heap.size w wr ∧ Its wr g_o2 s (i + 1)) (fun _ hM_33 => ?_) ?_
    ·
     refine Wc.region ?_
     refine Wl.y (y_move rfl) rfl ?_
     refine Wl.y (y_geqi rfl rfl) rfl ?_
     refine Wl.y (y_move rfl) rfl ?_
     refine Wl.guardT rfl rfl rfl (fun g_37 => ?_) (fun g_37 => ?_)
     ·
      have g_37_ := g_37
      try simp only [decide_eq_true_eq, decide_eq_false_iff_not, beq_iff_eq, beq_eq_false_iff_ne, bne_iff_ne, bne_eq_false_iff_eq, Bool.not_eq_true', Bool.not_eq_false', Bool.not_eq_eq_eq_not, Bool.not_true, Bool.not_false, ne_eq, Int.not_lt, Int.not_le] at g_37
      refine Wl.y (y_move rfl) rfl ?_
      refine Wl.on' rfl rfl g_37_ ?_
      refine Wl.y (y_leqi rfl rfl) rfl ?_
      refine Wl.y (y_pickT rfl g_37_ rfl) rfl ?_
      refine Wl.y (y_move rfl) rfl ?_
      refine Wl.guardF rfl rfl rfl (fun g_42 => ?_) (fun g_42 => ?_)
      ·
       have g_42_ := g_42
       try simp only [decide_eq_true_eq, decide_eq_false_iff_not, beq_iff_eq, beq_eq_false_iff_ne, bne_iff_ne, bne_eq_false_iff_eq, Bool.not_eq_true', Bool.not_eq_false', Bool.not_eq_eq_eq_not, Bool.not_true, Bool.not_false, ne_eq, Int.not_lt, Int.not_le] at g_42
       refine Wl.off' rfl rfl g_42_ rfl rfl ?_
       refine Wl.off' rfl rfl g_42_ rfl rfl ?_
       refine Wl.offU rfl rfl rfl ?_
       refine Wl.offU rfl rfl rfl ?_
       refine Wl.off' rfl rfl g_42_ rfl rfl ?_
       refine Wl.y (y_pickT rfl g_42_ rfl) rfl ?_
       refine Wl.y (y_move rfl) rfl ?_
       refine Wl.off' rfl rfl rfl rfl rfl ?_
       refine Wl.off' rfl rfl rfl rfl rfl ?_
       refine Wl.y (y_pickT rfl rfl rfl) rfl ?_
       refine Wl.y (y_assign rfl) rfl ?_
       refine Wl.nil ?_
       refine Wq.meet hM_33 (decide ((65 ≤ c ∧ c ≤ 90) ∨ (97 ≤ c ∧ c ≤ 122) ∨ c = 95)) (Sub.cons' rfl (by first | rfl | exact bool_eq (by rw [Bool.eq_iff_iff]; simp; omega)) (Sub.cons' rfl (by first | rfl | exact bool_eq (by rw [Bool.eq_iff_iff]; simp; omega)) (Sub.cons' rfl (by first | rfl | exact bool_eq (by rw [Bool.eq_iff_iff]; simp; omega)) (Sub.cons' rfl (by first | rfl | exact bool_eq (by rw [Bool.eq_iff_iff]; simp; omega)) (Sub.cons' rfl (by first | rfl | exact bool_eq (by rw [Bool.eq_iff_iff]; simp; omega)) (Sub.nil)))))) ?_
       exact ⟨rfl, hb, hI_o2⟩
      ·
       have g_42_ := g_42
       try simp only [decide_eq_true_eq, decide_eq_false_iff_not, beq_iff_eq, beq_eq_false_iff_ne, bne_iff_ne, bne_eq_false_iff_eq, Bool.not_eq_true', Bool.not_eq_false', Bool.not_eq_eq_eq_not, Bool.not_true, Bool.not_false, ne_eq, Int.not_lt, Int.not_le] at g_42
       refine Wl.y (y_move rfl) rfl ?_
       refine Wl.on' rfl rfl g_42_ ?_
       refine Wl.y (y_geqi rfl rfl) rfl ?_
       refine Wl.on' rfl rfl g_42_ ?_
       refine Wl.y (y_move rfl) rfl ?_
       refine Wl.guardT rfl rfl rfl (fun g_50 => ?_) (fun g_50 => ?_)
       ·
        have g_50_ := g_50
        try simp only [decide_eq_true_eq, decide_eq_false_iff_not, beq_iff_eq, beq_eq_false_iff_ne, bne_iff_ne, bne_eq_false_iff_eq, Bool.not_eq_true', Bool.not_eq_false', Bool.not_eq_eq_eq_not, Bool.not_true, Bool.not_false, ne_eq, Int.not_lt, Int.not_le] at g_50
        refine Wl.y (y_move rfl) rfl ?_
        refine Wl.on' rfl rfl g_50_ ?_
        refine Wl.y (y_leqi rfl rfl) rfl ?_
        refine Wl.on' rfl rfl g_42_ ?_
        refine Wl.y (y_pickT rfl g_50_ rfl) rfl ?_
        refine Wl.y (y_pickF rfl g_42_ rfl) rfl ?_
        refine Wl.y (y_move rfl) rfl ?_
        refine Wl.guardF rfl rfl rfl (fun g_56 => ?_) (fun g_56 => ?_)
        ·
         have g_56_ := g_56
         try simp only [decide_eq_true_eq, decide_eq_false_iff_not, beq_iff_eq, beq_eq_false_iff_ne, bne_iff_ne, bne_eq_false_iff_eq, Bool.not_eq_true', Bool.not_eq_false', Bool.not_eq_eq_eq_not, Bool.not_true, Bool.not_false, ne_eq, Int.not_lt, Int.not_le] at g_56
         refine Wl.off' rfl rfl g_56_ rfl rfl ?_
         refine Wl.y (y_pickT rfl g_56_ rfl) rfl ?_
         refine Wl.y (y_assign rfl) rfl ?_
         refine Wl.nil ?_
         refine Wq.meet hM_33 (decide ((65 ≤ c ∧ c ≤ 90) ∨ (97 ≤ c ∧ c ≤ 122) ∨ c = 95)) (Sub.cons' rfl (by first | rfl | exact bool_eq (by rw [Bool.eq_iff_iff]; simp; omega)) (Sub.cons' rfl (by first | rfl | exact bool_eq (by rw [Bool.eq_iff_iff]; simp; omega)) (Sub.cons' rfl (by first | rfl | exact bool_eq (by rw [Bool.eq_iff_iff]; simp; omega)) (Sub.cons' rfl (by first | rfl | exact bool_eq (by rw [Bool.eq_iff_iff]; simp; omega)) (Sub.cons' rfl (by first | rfl | exact bool_eq (by rw [Bool.eq_iff_iff]; simp; omega)) (Sub.nil)))))) ?_
         exact ⟨rfl, hb, hI_o2⟩
        ·
         have g_56_ := g_56
         try simp only [decide_eq_true_eq, decide_eq_false_iff_not, beq_iff_eq, beq_eq_false_iff_ne, bne_iff_ne, bne_eq_false_iff_eq, Bool.not_eq_true', Bool.not_eq_false', Bool.not_eq_eq_eq_not, Bool.not_true, Bool.not_false, ne_eq, Int.not_lt, Int.not_le] at g_56
         refine Wl.y (y_move rfl) rfl ?_
         refine Wl.on' rfl rfl g_56_ ?_
         refine Wl.y (y_eqli rfl rfl) rfl ?_
         refine Wl.y (y_pickF rfl g_56_ rfl) rfl ?_
         refine Wl.y (y_assign rfl) rfl ?_
         refine Wl.nil ?_
         refine Wq.meet hM_33 (decide ((65 ≤ c ∧ c ≤ 90) ∨ (97 ≤ c ∧ c ≤ 122) ∨ c = 95)) (Sub.cons' rfl (by first | rfl | exact bool_eq (by rw [Bool.eq_iff_iff]; simp; omega)) (Sub.cons' rfl (by first | rfl | exact bool_eq (by rw [Bool.eq_iff_iff]; simp; omega)) (Sub.cons' rfl (by first | rfl | exact bool_eq (by rw [Bool.eq_iff_iff]; simp; omega)) (Sub.cons' rfl (by first | rfl | exact bool_eq (by rw [Bool.eq_iff_iff]; simp; omega)) (Sub.cons' rfl (by first | rfl | exact bool_eq (by rw [Bool.eq_iff_iff]; simp; omega)) (Sub.nil)))))) ?_
         exact ⟨rfl, hb, hI_o2⟩
       ·
        have g_50_ := g_50
        try simp only [decide_eq_true_eq, decide_eq_false_iff_not, beq_iff_eq, beq_eq_false_iff_ne, bne_iff_ne, bne_eq_false_iff_eq, Bool.not_eq_true', Bool.not_eq_false', Bool.not_eq_eq_eq_not, Bool.not_true, Bool.not_false, ne_eq, Int.not_lt, Int.not_le] at g_50
        refine Wl.off' rfl rfl g_50_ rfl rfl ?_
        refine Wl.on' rfl rfl g_42_ ?_
        refine Wl.y (y_pickF rfl g_50_ rfl) rfl ?_
        refine Wl.y (y_pickF rfl g_42_ rfl) rfl ?_
        refine Wl.y (y_move rfl) rfl ?_
        refine Wl.on' rfl rfl rfl ?_
        refine Wl.y (y_move rfl) rfl ?_
        refine Wl.on' rfl rfl rfl ?_
        refine Wl.y (y_eqli rfl rfl) rfl ?_
        refine Wl.y (y_pickF rfl rfl rfl) rfl ?_
        refine Wl.y (y_assign rfl) rfl ?_
        refine Wl.nil ?_
        refine Wq.meet hM_33 (decide ((65 ≤ c ∧ c ≤ 90) ∨ (97 ≤ c ∧ c ≤ 122) ∨ c = 95)) (Sub.cons' rfl (by first | rfl | exact bool_eq (by rw [Bool.eq_iff_iff]; simp; omega)) (Sub.cons' rfl (by first | rfl | exact bool_eq (by rw [Bool.eq_iff_iff]; simp; omega)) (Sub.cons' rfl (by first | rfl | exact bool_eq (by rw [Bool.eq_iff_iff]; simp; omega)) (Sub.cons' rfl (by first | rfl | exact bool_eq (by rw [Bool.eq_iff_iff]; simp; omega)) (Sub.cons' rfl (by first | rfl | exact bool_eq (by rw [Bool.eq_iff_iff]; simp; omega)) (Sub.nil)))))) ?_
        exact ⟨rfl, hb, hI_o2⟩
     ·
      have g_37_ := g_37
      try simp only [decide_eq_true_eq, decide_eq_false_iff_not, beq_iff_eq, beq_eq_false_iff_ne, bne_iff_ne, bne_eq_false_iff_eq, Bool.not_eq_true', Bool.not_eq_false', Bool.not_eq_eq_eq_not, Bool.not_true, Bool.not_false, ne_eq, Int.not_lt, Int.not_le] at g_37
      refine Wl.off' rfl rfl g_37_ rfl rfl ?_
      refine Wl.y (y_pickF rfl g_37_ rfl) rfl ?_
      refine Wl.y (y_move rfl) rfl ?_
      refine Wl.on' rfl rfl rfl ?_
      refine Wl.y (y_move rfl) rfl ?_
      refine Wl.on' rfl rfl rfl ?_
      refine Wl.y (y_geqi rfl rfl) rfl ?_
      refine Wl.on' rfl rfl rfl ?_
      refine Wl.y (y_move rfl) rfl ?_
      refine Wl.guardT rfl rfl rfl (fun g_75 => ?_) (fun g_75 => ?_)
      ·
       have g_75_ := g_75
       try simp only [decide_eq_true_eq, decide_eq_false_iff_not, beq_iff_eq, beq_eq_false_iff_ne, bne_iff_ne, bne_eq_false_iff_eq, Bool.not_eq_true', Bool.not_eq_false', Bool.not_eq_eq_eq_not, Bool.not_true, Bool.not_false, ne_eq, Int.not_lt, Int.not_le] at g_75
       refine Wl.y (y_move rfl) rfl ?_
       refine Wl.on' rfl rfl g_75_ ?_
       refine Wl.y (y_leqi rfl rfl) rfl ?_
       refine Wl.on' rfl rfl rfl ?_
       refine Wl.y (y_pickT rfl g_75_ rfl) rfl ?_
       refine Wl.y (y_pickF rfl rfl rfl) rfl ?_
       refine Wl.y (y_move rfl) rfl ?_
       refine Wl.guardF rfl rfl rfl (fun g_81 => ?_) (fun g_81 => ?_)
       ·
        have g_81_ := g_81
        try simp only [decide_eq_true_eq, decide_eq_false_iff_not, beq_iff_eq, beq_eq_false_iff_ne, bne_iff_ne, bne_eq_false_iff_eq, Bool.not_eq_true', Bool.not_eq_false', Bool.not_eq_eq_eq_not, Bool.not_true, Bool.not_false, ne_eq, Int.not_lt, Int.not_le] at g_81
        refine Wl.off' rfl rfl g_81_ rfl rfl ?_
        refine Wl.y (y_pickT rfl g_81_ rfl) rfl ?_
        refine Wl.y (y_assign rfl) rfl ?_
        refine Wl.nil ?_
        refine Wq.meet hM_33 (decide ((65 ≤ c ∧ c ≤ 90) ∨ (97 ≤ c ∧ c ≤ 122) ∨ c = 95)) (Sub.cons' rfl (by first | rfl | exact bool_eq (by rw [Bool.eq_iff_iff]; simp; omega)) (Sub.cons' rfl (by first | rfl | exact bool_eq (by rw [Bool.eq_iff_iff]; simp; omega)) (Sub.cons' rfl (by first | rfl | exact bool_eq (by rw [Bool.eq_iff_iff]; simp; omega)) (Sub.cons' rfl (by first | rfl | exact bool_eq (by rw [Bool.eq_iff_iff]; simp; omega)) (Sub.cons' rfl (by first | rfl | exact bool_eq (by rw [Bool.eq_iff_iff]; simp; omega)) (Sub.nil)))))) ?_
        exact ⟨rfl, hb, hI_o2⟩
       ·
        have g_81_ := g_81
        try simp only [decide_eq_true_eq, decide_eq_false_iff_not, beq_iff_eq, beq_eq_false_iff_ne, bne_iff_ne, bne_eq_false_iff_eq, Bool.not_eq_true', Bool.not_eq_false', Bool.not_eq_eq_eq_not, Bool.not_true, Bool.not_false, ne_eq, Int.not_lt, Int.not_le] at g_81
        refine Wl.y (y_move rfl) rfl ?_
        refine Wl.on' rfl rfl g_81_ ?_
        refine Wl.y (y_eqli rfl rfl) rfl ?_
        refine Wl.y (y_pickF rfl g_81_ rfl) rfl ?_
        refine Wl.y (y_assign rfl) rfl ?_
        refine Wl.nil ?_
        refine Wq.meet hM_33 (decide ((65 ≤ c ∧ c ≤ 90) ∨ (97 ≤ c ∧ c ≤ 122) ∨ c = 95)) (Sub.cons' rfl (by first | rfl | exact bool_eq (by rw [Bool.eq_iff_iff]; simp; omega)) (Sub.cons' rfl (by first | rfl | exact bool_eq (by rw [Bool.eq_iff_iff]; simp; omega)) (Sub.cons' rfl (by first | rfl | exact bool_eq (by rw [Bool.eq_iff_iff]; simp; omega)) (Sub.cons' rfl (by first | rfl | exact bool_eq (by rw [Bool.eq_iff_iff]; simp; omega)) (Sub.cons' rfl (by first | rfl | exact bool_eq (by rw [Bool.eq_iff_iff]; simp; omega)) (Sub.nil)))))) ?_
        exact ⟨rfl, hb, hI_o2⟩
      ·
       have g_75_ := g_75
       try simp only [decide_eq_true_eq, decide_eq_false_iff_not, beq_iff_eq, beq_eq_false_iff_ne, bne_iff_ne, bne_eq_false_iff_eq, Bool.not_eq_true', Bool.not_eq_false', Bool.not_eq_eq_eq_not, Bool.not_true, Bool.not_false, ne_eq, Int.not_lt, Int.not_le] at g_75
       refine Wl.off' rfl rfl g_75_ rfl rfl ?_
       refine Wl.on' rfl rfl rfl ?_
       refine Wl.y (y_pickF rfl g_75_ rfl) rfl ?_
       refine Wl.y (y_pickF rfl rfl rfl) rfl ?_
       refine Wl.y (y_move rfl) rfl ?_
       refine Wl.on' rfl rfl rfl ?_
       refine Wl.y (y_move rfl) rfl ?_
       refine Wl.on' rfl rfl rfl ?_
       refine Wl.y (y_eqli rfl rfl) rfl ?_
       refine Wl.y (y_pickF rfl rfl rfl) rfl ?_
       refine Wl.y (y_assign rfl) rfl ?_
       refine Wl.nil ?_
       refine Wq.meet hM_33 (decide ((65 ≤ c ∧ c ≤ 90) ∨ (97 ≤ c ∧ c ≤ 122) ∨ c = 95)) (Sub.cons' rfl (by first | rfl | exact bool_eq (by rw [Bool.eq_iff_iff]; simp; omega)) (Sub.cons' rfl (by first | rfl | exact bool_eq (by rw [Bool.eq_iff_iff]; simp; omega)) (Sub.cons' rfl (by first | rfl | exact bool_eq (by rw [Bool.eq_iff_iff]; simp; omega)) (Sub.cons' rfl (by first | rfl | exact bool_eq (by rw [Bool.eq_iff_iff]; simp; omega)) (Sub.cons' rfl (by first | rfl | exact bool_eq (by rw [Bool.eq_iff_iff]; simp; omega)) (Sub.nil)))))) ?_
       exact ⟨rfl, hb, hI_o2⟩
    ·
     rintro q wr hI_95
     replace hI_95 : q = decide ((65 ≤ c ∧ c ≤ 90) ∨ (97 ≤ c ∧ c ≤ 122) ∨ c = 95) ∧ Below w.heap.size w wr ∧ Its wr g_o2 s (i + 1) := hI_95
     obtain ⟨hq, hb, hI_o2⟩ := hI_95
     show Wq _ _ _ _ [(0, str s), (3, .int .i64 (i : Int)), (4, .int .i32 (c : Int)), (5, .bool q), (7, .pointer (some ⟨g_o2, 0, none⟩))] _
     try have hzhb_g4 := hb.size
     refine Wq.next hK_32 ?_
     refine Wc.seq fun _ hK_96 => ?_
     refine Wc.meet (X := Bool) (fun q2 => [(0, str s), (7, .pointer (some ⟨g_o2, 0, none⟩)), (43, .bool q2)]) (fun q2 wr => q2 = decide (¬ ((65 ≤ c ∧ c ≤ 90) ∨ (97 ≤ c ∧ c ≤ 122) ∨ c = 95) ∧ (i = 0 ∨ c < 48 ∨ 57 < c)) ∧ Below w.heap.size w wr ∧ Its wr g_o2 s (i + 1)) (fun _ hM_97 => ?_) ?_
     ·
      refine Wc.region ?_
      refine Wl.y (y_move rfl) rfl ?_
      refine Wl.y (y_not rfl) rfl ?_
      refine Wl.y (y_move rfl) rfl ?_
      refine Wl.guardT rfl rfl rfl (fun g_101 => ?_) (fun g_101 => ?_)
      ·
       have g_101_ := g_101
       try simp only [decide_eq_true_eq, decide_eq_false_iff_not, beq_iff_eq, beq_eq_false_iff_ne, bne_iff_ne, bne_eq_false_iff_eq, Bool.not_eq_true', Bool.not_eq_false', Bool.not_eq_eq_eq_not, Bool.not_true, Bool.not_false, ne_eq, Int.not_lt, Int.not_le] at g_101
       refine Wl.y (y_move rfl) rfl ?_
       refine Wl.on' rfl rfl g_101_ ?_
       refine Wl.y (y_eqli rfl rfl) rfl ?_
       refine Wl.on' rfl rfl g_101_ ?_
       refine Wl.y (y_move rfl) rfl ?_
       refine Wl.guardF rfl rfl rfl (fun g_105 => ?_) (fun g_105 => ?_)
       ·
        have g_105_ := g_105
        try simp only [decide_eq_true_eq, decide_eq_false_iff_not, beq_iff_eq, beq_eq_false_iff_ne, bne_iff_ne, bne_eq_false_iff_eq, Bool.not_eq_true', Bool.not_eq_false', Bool.not_eq_eq_eq_not, Bool.not_true, Bool.not_false, ne_eq, Int.not_lt, Int.not_le] at g_105
        refine Wl.off' rfl rfl g_105_ rfl rfl ?_
        refine Wl.on' rfl rfl g_101_ ?_
        refine Wl.y (y_pickT rfl g_105_ rfl) rfl ?_
        refine Wl.on' rfl rfl g_101_ ?_
        refine Wl.y (y_move rfl) rfl ?_
        refine Wl.off' rfl rfl rfl rfl rfl ?_
        refine Wl.off' rfl rfl rfl rfl rfl ?_
        refine Wl.on' rfl rfl g_101_ ?_
        refine Wl.y (y_pickT rfl rfl rfl) rfl ?_
        refine Wl.y (y_pickT rfl g_101_ rfl) rfl ?_
        refine Wl.nil ?_
        refine Wq.meet hM_97 (decide (¬ ((65 ≤ c ∧ c ≤ 90) ∨ (97 ≤ c ∧ c ≤ 122) ∨ c = 95) ∧ (i = 0 ∨ c < 48 ∨ 57 < c))) (Sub.cons' rfl (by first | rfl | exact bool_eq (by have h1 := hq; rw [g_101] at h1; have h2 := h1.symm; simp only [decide_eq_true_eq, decide_eq_false_iff_not] at h2; rw [Bool.eq_iff_iff]; simp; omega)) (Sub.cons' rfl (by first | rfl | exact bool_eq (by have h1 := hq; rw [g_101] at h1; have h2 := h1.symm; simp only [decide_eq_true_eq, decide_eq_false_iff_not] at h2; rw [Bool.eq_iff_iff]; simp; omega)) (Sub.cons' rfl (by first | rfl | exact bool_eq (by have h1 := hq; rw [g_101] at h1; have h2 := h1.symm; simp only [decide_eq_true_eq, decide_eq_false_iff_not] at h2; rw [Bool.eq_iff_iff]; simp; omega)) (Sub.nil)))) ?_
        exact ⟨rfl, hb, hI_o2⟩
       ·
        have g_105_ := g_105
        try simp only [decide_eq_true_eq, decide_eq_false_iff_not, beq_iff_eq, beq_eq_false_iff_ne, bne_iff_ne, bne_eq_false_iff_eq, Bool.not_eq_true', Bool.not_eq_false', Bool.not_eq_eq_eq_not, Bool.not_true, Bool.not_false, ne_eq, Int.not_lt, Int.not_le] at g_105
        refine Wl.y (y_move rfl) rfl ?_
        refine Wl.on' rfl rfl g_105_ ?_
        refine Wl.y (y_lssi rfl rfl) rfl ?_
        refine Wl.on' rfl rfl g_101_ ?_
        refine Wl.y (y_pickF rfl g_105_ rfl) rfl ?_
        refine Wl.on' rfl rfl g_101_ ?_
        refine Wl.y (y_move rfl) rfl ?_
        refine Wl.guardF rfl rfl rfl (fun g_114 => ?_) (fun g_114 => ?_)
        ·
         have g_114_ := g_114
         try simp only [decide_eq_true_eq, decide_eq_false_iff_not, beq_iff_eq, beq_eq_false_iff_ne, bne_iff_ne, bne_eq_false_iff_eq, Bool.not_eq_true', Bool.not_eq_false', Bool.not_eq_eq_eq_not, Bool.not_true, Bool.not_false, ne_eq, Int.not_lt, Int.not_le] at g_114
         refine Wl.off' rfl rfl g_114_ rfl rfl ?_
         refine Wl.on' rfl rfl g_101_ ?_
         refine Wl.y (y_pickT rfl g_114_ rfl) rfl ?_
         refine Wl.y (y_pickT rfl g_101_ rfl) rfl ?_
         refine Wl.nil ?_
         refine Wq.meet hM_97 (decide (¬ ((65 ≤ c ∧ c ≤ 90) ∨ (97 ≤ c ∧ c ≤ 122) ∨ c = 95) ∧ (i = 0 ∨ c < 48 ∨ 57 < c))) (Sub.cons' rfl (by first | rfl | exact bool_eq (by have h1 := hq; rw [g_101] at h1; have h2 := h1.symm; simp only [decide_eq_true_eq, decide_eq_false_iff_not] at h2; rw [Bool.eq_iff_iff]; simp; omega)) (Sub.cons' rfl (by first | rfl | exact bool_eq (by have h1 := hq; rw [g_101] at h1; have h2 := h1.symm; simp only [decide_eq_true_eq, decide_eq_false_iff_not] at h2; rw [Bool.eq_iff_iff]; simp; omega)) (Sub.cons' rfl (by first | rfl | exact bool_eq (by have h1 := hq; rw [g_101] at h1; have h2 := h1.symm; simp only [decide_eq_true_eq, decide_eq_false_iff_not] at h2; rw [Bool.eq_iff_iff]; simp; omega)) (Sub.nil)))) ?_
         exact ⟨rfl, hb, hI_o2⟩
        ·
         have g_114_ := g_114
         try simp only [decide_eq_true_eq, decide_eq_false_iff_not, beq_iff_eq, beq_eq_false_iff_ne, bne_iff_ne, bne_eq_false_iff_eq, Bool.not_eq_true', Bool.not_eq_false', Bool.not_eq_eq_eq_not, Bool.not_true, Bool.not_false, ne_eq, Int.not_lt, Int.not_le] at g_114
         refine Wl.y (y_move rfl) rfl ?_
         refine Wl.on' rfl rfl g_114_ ?_
         refine Wl.y (y_gtri rfl rfl) rfl ?_
         refine Wl.on' rfl rfl g_101_ ?_
         refine Wl.y (y_pickF rfl g_114_ rfl) rfl ?_
         refine Wl.y (y_pickT rfl g_101_ rfl) rfl ?_
         refine Wl.nil ?_
         refine Wq.meet hM_97 (decide (¬ ((65 ≤ c ∧ c ≤ 90) ∨ (97 ≤ c ∧ c ≤ 122) ∨ c = 95) ∧ (i = 0 ∨ c < 48 ∨ 57 < c))) (Sub.cons' rfl (by first | rfl | exact bool_eq (by have h1 := hq; rw [g_101] at h1; have h2 := h1.symm; simp only [decide_eq_true_eq, decide_eq_false_iff_not] at h2; rw [Bool.eq_iff_iff]; simp; omega)) (Sub.cons' rfl (by first | rfl | exact bool_eq (by have h1 := hq; rw [g_101] at h1; have h2 := h1.symm; simp only [decide_eq_true_eq, decide_eq_false_iff_not] at h2; rw [Bool.eq_iff_iff]; simp; omega)) (Sub.cons' rfl (by first | rfl | exact bool_eq (by have h1 := hq; rw [g_101] at h1; have h2 := h1.symm; simp only [decide_eq_true_eq, decide_eq_false_iff_not] at h2; rw [Bool.eq_iff_iff]; simp; omega)) (Sub.nil)))) ?_
         exact ⟨rfl, hb, hI_o2⟩
      ·
       have g_101_ := g_101
       try simp only [decide_eq_true_eq, decide_eq_false_iff_not, beq_iff_eq, beq_eq_false_iff_ne, bne_iff_ne, bne_eq_false_iff_eq, Bool.not_eq_true', Bool.not_eq_false', Bool.not_eq_eq_eq_not, Bool.not_true, Bool.not_false, ne_eq, Int.not_lt, Int.not_le] at g_101
       refine Wl.off' rfl rfl g_101_ rfl rfl ?_
       refine Wl.off' rfl rfl g_101_ rfl rfl ?_
       refine Wl.offU rfl rfl rfl ?_
       refine Wl.offU rfl rfl rfl ?_
       refine Wl.off' rfl rfl g_101_ rfl rfl ?_
       refine Wl.off' rfl rfl g_101_ rfl rfl ?_
       refine Wl.offU rfl rfl rfl ?_
       refine Wl.offU rfl rfl rfl ?_
       refine Wl.off' rfl rfl g_101_ rfl rfl ?_
       refine Wl.y (y_pickF rfl g_101_ rfl) rfl ?_
       refine Wl.nil ?_
       refine Wq.meet hM_97 (decide (¬ ((65 ≤ c ∧ c ≤ 90) ∨ (97 ≤ c ∧ c ≤ 122) ∨ c = 95) ∧ (i = 0 ∨ c < 48 ∨ 57 < c))) (Sub.cons' rfl (by first | rfl | exact bool_eq (by have h1 := hq; rw [g_101] at h1; have h2 := h1.symm; simp only [decide_eq_true_eq, decide_eq_false_iff_not] at h2; rw [Bool.eq_iff_iff]; simp; omega)) (Sub.cons' rfl (by first | rfl | exact bool_eq (by have h1 := hq; rw [g_101] at h1; have h2 := h1.symm; simp only [decide_eq_true_eq, decide_eq_false_iff_not] at h2; rw [Bool.eq_iff_iff]; simp; omega)) (Sub.cons' rfl (by first | rfl | exact bool_eq (by have h1 := hq; rw [g_101] at h1; have h2 := h1.symm; simp only [decide_eq_true_eq, decide_eq_false_iff_not] at h2; rw [Bool.eq_iff_iff]; simp; omega)) (Sub.nil)))) ?_
       exact ⟨rfl, hb, hI_o2⟩
     ·
      rintro q2 wr hI_122
      replace hI_122 : q2 = decide (¬ ((65 ≤ c ∧ c ≤ 90) ∨ (97 ≤ c ∧ c ≤ 122) ∨ c = 95) ∧ (i = 0 ∨ c < 48 ∨ 57 < c)) ∧ Below w.heap.size w wr ∧ Its wr g_o2 s (i + 1) := hI_122
      obtain ⟨hq2, hb, hI_o2⟩ := hI_122
      show Wq _ _ _ _ [(0, str s), (7, .pointer (some ⟨g_o2, 0, none⟩)), (43, .bool q2)] _
      try have hzhb_g5 := hb.size
      refine Wq.next hK_96 ?_
      refine Wc.cond rfl (fun c1_123 => ?_) (fun c1_123 => ?_)
      ·
       have c1_123_ := c1_123
       try simp only [decide_eq_true_eq, decide_eq_false_iff_not, beq_iff_eq, beq_eq_false_iff_ne, bne_iff_ne, bne_eq_false_iff_eq, Bool.not_eq_true', Bool.not_eq_false', Bool.not_eq_eq_eq_not, Bool.not_true, Bool.not_false, ne_eq, Int.not_lt, Int.not_le] at c1_123
       have hbad : ¬ ((65 ≤ c ∧ c ≤ 90) ∨ (97 ≤ c ∧ c ≤ 122) ∨ c = 95) ∧ (i = 0 ∨ c < 48 ∨ 57 < c) := by have h := c1_123_; rw [hq2] at h; exact of_decide_eq_true h
       refine Wc.seq fun _ hK_124 => ?_
       refine Wc.region ?_
       refine Wl.y (y_assign rfl) rfl ?_
       refine Wl.nil ?_
       refine Wq.next hK_124 ?_
       refine Wc.ret ?_
       refine Wq.block_ret (Wq.then_ret (Wq.block_ret (Wq.then_ret ?_)))
       refine ret1 rfl rfl ?_
       exact ⟨_, rfl, bool_eq (by unfold wordV; rw [eq_comm, decide_eq_false_iff_not]; rintro ⟨_, _, h⟩; have hi0 : i = 0 := (by omega); rw [hi0] at hc; omega), hb⟩
      ·
       have c1_123_ := c1_123
       try simp only [decide_eq_true_eq, decide_eq_false_iff_not, beq_iff_eq, beq_eq_false_iff_ne, bne_iff_ne, bne_eq_false_iff_eq, Bool.not_eq_true', Bool.not_eq_false', Bool.not_eq_eq_eq_not, Bool.not_true, Bool.not_false, ne_eq, Int.not_lt, Int.not_le] at c1_123
       have hgood : ¬ (¬ ((65 ≤ c ∧ c ≤ 90) ∨ (97 ≤ c ∧ c ≤ 122) ∨ c = 95) ∧ (i = 0 ∨ c < 48 ∨ 57 < c)) := by have h := c1_123_; rw [hq2] at h; exact of_decide_eq_false h
       refine Wc.skip ?_
       refine Wq.block_normal ?_
       refine fun a_ ha_ => hL_7 _ _ (i + 1) (by first | omega | (simp; omega)) (Sub.cons' rfl (by first | rfl | exact int_eq (by omega) | exact int_eq (by simp) | (simp; done)) (Sub.cons' rfl (by first | rfl | exact int_eq (by omega) | exact int_eq (by simp) | (simp; done)) (Sub.nil))) ?_ a_ ha_
       exact ⟨by omega, fun _ => (by by_cases e : i = 0; (· rw [e] at hc; omega); (· exact hd (by omega))), hb, hI_o2⟩
end Go.Proofs.YtcljmclolpgdmaaGreatDoor
