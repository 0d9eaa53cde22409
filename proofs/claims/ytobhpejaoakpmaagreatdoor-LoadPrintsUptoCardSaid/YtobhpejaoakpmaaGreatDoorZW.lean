/- ref06: In, Word, by the calculus. -/
import Derived.Test.YtobhpejaoakpmaaGreatDoorZL
import Derived.Test.YtobhpejaoakpmaaGreatDoorZQ
namespace Go.Proofs.YtobhpejaoakpmaaGreatDoor
open Go.RowKit Go.Bw Go.Bw.Fl
set_option linter.unusedVariables false
set_option linter.unusedSimpArgs false
theorem isLet_eq (c : UInt8) : isLet c = decide (c.toNat = 95 ∨ (48 ≤ c.toNat ∧ c.toNat ≤ 57) ∨ (65 ≤ c.toNat ∧ c.toNat ≤ 90) ∨ (97 ≤ c.toNat ∧ c.toNat ≤ 122)) := by
  have key : ∀ n : Fin 256, isLet (UInt8.ofNat n.val) = decide (n.val = 95 ∨ (48 ≤ n.val ∧ n.val ≤ 57) ∨ (65 ≤ n.val ∧ n.val ≤ 90) ∨ (97 ≤ n.val ∧ n.val ≤ 122)) := by decide +kernel
  have h2 := key ⟨c.toNat, UInt8.toNat_lt c⟩
  rw [show UInt8.ofNat c.toNat = c from UInt8.ofNat_toNat] at h2
  exact h2
theorem RWord_r (s : List UInt8) (hs : s.length ≤ 281474976710656) (w : World) : Ret Tryz.prog 64 [str s] w fun v w' => v = .bool (wordA s) ∧ Below w.heap.size w w' := by
  have hb := Below.refl w.heap.size w
  refine enter Tryz.func64 rfl rfl rfl ?_
  refine Wc.seq fun _ hK_1 => Wc.region <| Wl.sg rfl rfl <| Wl.nil <| Wq.next hK_1 <| Wc.seq fun _ hK_3 => Wc.seq fun _ hK_4 => ?_
  refine Wc.meet (X := Bool) (fun q => [(0, str s), (21, .bool q)]) (fun q wr => q = (!wordV s) ∧ Below w.heap.size w wr) (fun _ hM_5 => ?_) ?_
  ·
   refine Wc.region <| Wl.mv rfl rfl <| Wl.y (y_eqls rfl rfl) rfl <| Wl.mv rfl rfl ?_
   refine Wl.guardF rfl rfl rfl (fun g_9 => ?_) (fun g_9 => ?_)
   ·
    have g_9_ := g_9
    simp only [DZ] at g_9
    refine Wl.off' rfl rfl g_9_ rfl rfl <| Wl.off' rfl rfl g_9_ rfl rfl ?_
    refine Wl.y (y_pickT rfl g_9_ rfl) rfl ?_
    refine Wl.mv rfl rfl <| Wl.off' rfl rfl rfl rfl rfl <| Wl.off' rfl rfl rfl rfl rfl <| Wl.off' rfl rfl rfl rfl rfl <| Wl.off' rfl rfl rfl rfl rfl <| Wl.offU rfl rfl rfl <| Wl.offU rfl rfl rfl <| Wl.offU rfl rfl rfl <| Wl.off' rfl rfl rfl rfl rfl <| Wl.y (y_pickT rfl rfl rfl) rfl ?_
    refine Wl.nil ?_
    refine Wq.meet hM_5 (!wordV s) (by repeat first | exact Sub.nil | refine Sub.cons' rfl (by first | rfl | exact bool_eq (by unfold wordV; rw [Bool.eq_iff_iff]; simp_all <;> omega)) ?_) ?_
    exact ⟨rfl, hb⟩
   have g_9_ := g_9
   simp only [DZ] at g_9
   have hl0 : 0 < s.length := List.length_pos_iff.2 g_9
   refine Wl.mv rfl rfl <| Wl.on' rfl rfl g_9_ ?_
   refine Wl.y (y_lens Tryz.underlying9 (by omega) rfl) rfl ?_
   refine Wl.on' rfl rfl g_9_ <| Wl.y (y_gtri rfl rfl) rfl ?_
   refine Wl.y (y_pickF rfl g_9_ rfl) rfl ?_
   refine Wl.mv rfl rfl ?_
   refine Wl.guardF rfl rfl rfl (fun g_18 => ?_) (fun g_18 => ?_)
   ·
    have g_18_ := g_18
    simp only [DZ] at g_18
    refine Wl.off' rfl rfl g_18_ rfl rfl <| Wl.off' rfl rfl g_18_ rfl rfl <| Wl.off' rfl rfl g_18_ rfl rfl <| Wl.offU rfl rfl rfl <| Wl.offU rfl rfl rfl <| Wl.offU rfl rfl rfl <| Wl.off' rfl rfl g_18_ rfl rfl ?_
    refine Wl.y (y_pickT rfl g_18_ rfl) rfl ?_
    refine Wl.nil ?_
    refine Wq.meet hM_5 (!wordV s) (by repeat first | exact Sub.nil | refine Sub.cons' rfl (by first | rfl | exact bool_eq (by unfold wordV; rw [Bool.eq_iff_iff]; simp_all <;> omega)) ?_) ?_
    exact ⟨rfl, hb⟩
   have g_18_ := g_18
   simp only [DZ] at g_18
   refine Wl.mv rfl rfl <| Wl.on' rfl rfl g_18_ ?_
   refine Wl.y (y_eq (y_indexs Tryz.underlying9 rfl rfl (by omega) (by omega)) ((show Value.int .u8 ((s.getD (0 : Int).toNat 0).toNat : Int) = .int .u8 ((s.getD 0 0).toNat : Int) from rfl))) rfl ?_
   refine Wl.on' rfl rfl g_18_ <| Wl.y (y_geqi rfl rfl) rfl <| Wl.on' rfl rfl g_18_ <| Wl.mv rfl rfl ?_
   refine Wl.guardT rfl rfl rfl (fun g_24 => ?_) (fun g_24 => ?_)
   ·
    have g_24_ := g_24
    simp only [DZ] at g_24
    refine Wl.mv rfl rfl <| Wl.on' rfl rfl g_24_ ?_
    refine Wl.y (y_eq (y_indexs Tryz.underlying9 rfl rfl (by omega) (by omega)) ((show Value.int .u8 ((s.getD (0 : Int).toNat 0).toNat : Int) = .int .u8 ((s.getD 0 0).toNat : Int) from rfl))) rfl ?_
    refine Wl.on' rfl rfl g_24_ <| Wl.y (y_leqi rfl rfl) rfl <| Wl.on' rfl rfl g_18_ ?_
    refine Wl.y (y_pickT rfl g_24_ rfl) rfl ?_
    refine Wl.y (y_pickF rfl g_18_ rfl) rfl ?_
    refine Wl.nil ?_
    refine Wq.meet hM_5 (!wordV s) (by repeat first | exact Sub.nil | refine Sub.cons' rfl (by first | rfl | exact bool_eq (by unfold wordV; rw [Bool.eq_iff_iff]; simp_all <;> omega)) ?_) ?_
    exact ⟨rfl, hb⟩
   have g_24_ := g_24
   simp only [DZ] at g_24
   refine Wl.off' rfl rfl g_24_ rfl rfl <| Wl.off' rfl rfl g_24_ rfl rfl <| Wl.on' rfl rfl g_18_ ?_
   refine Wl.y (y_pickF rfl g_24_ rfl) rfl ?_
   refine Wl.y (y_pickF rfl g_18_ rfl) rfl ?_
   refine Wl.nil ?_
   refine Wq.meet hM_5 (!wordV s) (by repeat first | exact Sub.nil | refine Sub.cons' rfl (by first | rfl | exact bool_eq (by unfold wordV; rw [Bool.eq_iff_iff]; simp_all <;> omega)) ?_) ?_
   exact ⟨rfl, hb⟩
  rintro q wr hI_32
  replace hI_32 : q = (!wordV s) ∧ Below w.heap.size w wr := hI_32
  obtain ⟨hq, hb⟩ := hI_32
  show Wq _ _ _ _ [(0, str s), (21, .bool q)] _
  have hzhb_g1 := hb.size
  refine Wq.next hK_4 ?_
  refine Wc.cond rfl (fun c0_33 => ?_) (fun c0_33 => ?_)
  ·
   have c0_33_ := c0_33
   have hw : wordV s = false := by have h := hq.symm.trans c0_33_; simpa using h
   refine Wc.seq fun _ hK_34 => Wc.region <| Wl.sg rfl rfl <| Wl.nil <| Wq.next hK_34 <| Wc.ret <| Wq.then_ret ?_
   refine ret1 rfl rfl ?_
   exact ⟨_, rfl, bool_eq (by unfold wordA; rw [hw]; rfl), hb⟩
  have c0_33_ := c0_33
  have hw : wordV s = true := by have h := hq.symm.trans c0_33_; simpa using h
  refine Wc.skip <| Wq.next hK_3 <| Wc.seq fun _ hK_36 => Wc.seq fun _ hK_37 => Wc.region <| Wl.sg rfl rfl <| Wl.nil <| Wq.next hK_37 <| Wc.block ?_
  refine Wc.loop (X := Nat) (fun i => [(0, str s), (3, .int .i64 (i : Int))]) (fun i wr => i ≤ s.length ∧ (∀ j, j < i → isLet (s.getD j 0) = true) ∧ Below w.heap.size w wr) (fun i => s.length - i) (0) ?_ ?_ ?_
  · exact by repeat first | exact Sub.nil | refine Sub.cons' rfl (by first | rfl | exact int_eq (by omega) | exact int_eq (by simp) | (simp; done)) ?_
  · exact ⟨by omega, fun j h => by omega, hb⟩
  rintro i wr hI_40 _ hL_39
  replace hI_40 : i ≤ s.length ∧ (∀ j, j < i → isLet (s.getD j 0) = true) ∧ Below w.heap.size w wr := hI_40
  obtain ⟨hi, hall, hb⟩ := hI_40
  show Wc _ _ _ _ _ [(0, str s), (3, .int .i64 (i : Int))] _
  have hzhb_L0 := hb.size
  refine Wc.seq fun _ hK_41 => Wc.seq fun _ hK_42 => Wc.region <| Wl.mv rfl rfl <| Wl.mv rfl rfl ?_
  refine Wl.y (y_lens Tryz.underlying9 (by omega) rfl) rfl ?_
  refine Wl.y (y_lssi rfl rfl) rfl <| Wl.nil <| Wq.next hK_42 ?_
  refine Wc.cond rfl (fun c1_47 => ?_) (fun c1_47 => ?_)
  ·
   have c1_47_ := c1_47
   simp only [DZ] at c1_47
   have hil : i < s.length := by have := c1_47; omega
   obtain ⟨c, hc⟩ : ∃ c, c = (s.getD i 0).toNat := ⟨_, rfl⟩
   refine Wc.skip <| Wq.next hK_41 <| Wc.seq fun _ hK_48 => Wc.block <| Wc.seq fun _ hK_49 => Wc.region <| Wl.mv rfl rfl <| Wl.mv rfl rfl ?_
   refine Wl.y (y_eq (y_indexs Tryz.underlying9 rfl rfl (by omega) (by omega)) (int_eq (show _ = (c : Int) by rw [hc, Int.toNat_natCast]))) rfl ?_
   refine Wl.sg rfl rfl <| Wl.nil <| Wq.next hK_49 <| Wc.seq fun _ hK_54 => ?_
   refine Wc.meet (X := Bool) (fun q => [(0, str s), (3, .int .i64 (i : Int)), (56, .bool q)]) (fun q wr => q = (!isLet (s.getD i 0)) ∧ Below w.heap.size w wr) (fun _ hM_55 => ?_) ?_
   ·
    refine Wc.region <| Wl.mv rfl rfl <| Wl.y (y_neqi rfl rfl) rfl <| Wl.mv rfl rfl ?_
    refine Wl.guardT rfl rfl rfl (fun g_59 => ?_) (fun g_59 => ?_)
    ·
     have g_59_ := g_59
     simp only [DZ] at g_59
     refine Wl.mv rfl rfl <| Wl.on' rfl rfl g_59_ <| Wl.y (y_lssi rfl rfl) rfl <| Wl.on' rfl rfl g_59_ <| Wl.mv rfl rfl ?_
     refine Wl.guardF rfl rfl rfl (fun g_63 => ?_) (fun g_63 => ?_)
     ·
      have g_63_ := g_63
      simp only [DZ] at g_63
      refine Wl.off' rfl rfl g_63_ rfl rfl <| Wl.on' rfl rfl g_59_ ?_
      refine Wl.y (y_pickT rfl g_63_ rfl) rfl ?_
      refine Wl.y (y_pickT rfl g_59_ rfl) rfl ?_
      refine Wl.mv rfl rfl <| Wl.on' rfl rfl rfl <| Wl.mv rfl rfl <| Wl.on' rfl rfl rfl <| Wl.y (y_lssi rfl rfl) rfl <| Wl.on' rfl rfl rfl <| Wl.mv rfl rfl ?_
      refine Wl.guardF rfl rfl rfl (fun g_70 => ?_) (fun g_70 => ?_)
      ·
       have g_70_ := g_70
       simp only [DZ] at g_70
       refine Wl.off' rfl rfl g_70_ rfl rfl <| Wl.on' rfl rfl rfl ?_
       refine Wl.y (y_pickT rfl g_70_ rfl) rfl ?_
       refine Wl.y (y_pickT rfl rfl rfl) rfl <| Wl.mv rfl rfl <| Wl.on' rfl rfl rfl <| Wl.mv rfl rfl <| Wl.on' rfl rfl rfl <| Wl.y (y_lssi rfl rfl) rfl <| Wl.on' rfl rfl rfl <| Wl.mv rfl rfl ?_
       refine Wl.guardF rfl rfl rfl (fun g_77 => ?_) (fun g_77 => ?_)
       ·
        have g_77_ := g_77
        simp only [DZ] at g_77
        refine Wl.off' rfl rfl g_77_ rfl rfl <| Wl.on' rfl rfl rfl ?_
        refine Wl.y (y_pickT rfl g_77_ rfl) rfl ?_
        refine Wl.y (y_pickT rfl rfl rfl) rfl <| Wl.nil ?_
        refine Wq.meet hM_55 (!isLet (s.getD i 0)) (by repeat first | exact Sub.nil | refine Sub.cons' rfl (by first | rfl | exact bool_eq (by rw [isLet_eq, ← hc, Bool.eq_iff_iff]; simp <;> omega)) ?_) ?_
        exact ⟨rfl, hb⟩
       have g_77_ := g_77
       simp only [DZ] at g_77
       refine Wl.mv rfl rfl <| Wl.on' rfl rfl g_77_ <| Wl.y (y_gtri rfl rfl) rfl <| Wl.on' rfl rfl rfl ?_
       refine Wl.y (y_pickF rfl g_77_ rfl) rfl ?_
       refine Wl.y (y_pickT rfl rfl rfl) rfl <| Wl.nil ?_
       refine Wq.meet hM_55 (!isLet (s.getD i 0)) (by repeat first | exact Sub.nil | refine Sub.cons' rfl (by first | rfl | exact bool_eq (by rw [isLet_eq, ← hc, Bool.eq_iff_iff]; simp <;> omega)) ?_) ?_
       exact ⟨rfl, hb⟩
      have g_70_ := g_70
      simp only [DZ] at g_70
      refine Wl.mv rfl rfl <| Wl.on' rfl rfl g_70_ <| Wl.y (y_gtri rfl rfl) rfl <| Wl.on' rfl rfl rfl ?_
      refine Wl.y (y_pickF rfl g_70_ rfl) rfl ?_
      refine Wl.y (y_pickT rfl rfl rfl) rfl <| Wl.mv rfl rfl ?_
      refine Wl.guardT rfl rfl rfl (fun g_89 => ?_) (fun g_89 => ?_)
      ·
       have g_89_ := g_89
       simp only [DZ] at g_89
       refine Wl.mv rfl rfl <| Wl.on' rfl rfl g_89_ <| Wl.y (y_lssi rfl rfl) rfl <| Wl.on' rfl rfl g_89_ <| Wl.mv rfl rfl ?_
       refine Wl.guardF rfl rfl rfl (fun g_93 => ?_) (fun g_93 => ?_)
       ·
        have g_93_ := g_93
        simp only [DZ] at g_93
        refine Wl.off' rfl rfl g_93_ rfl rfl <| Wl.on' rfl rfl g_89_ ?_
        refine Wl.y (y_pickT rfl g_93_ rfl) rfl ?_
        refine Wl.y (y_pickT rfl g_89_ rfl) rfl ?_
        refine Wl.nil ?_
        refine Wq.meet hM_55 (!isLet (s.getD i 0)) (by repeat first | exact Sub.nil | refine Sub.cons' rfl (by first | rfl | exact bool_eq (by rw [isLet_eq, ← hc, Bool.eq_iff_iff]; simp <;> omega)) ?_) ?_
        exact ⟨rfl, hb⟩
       have g_93_ := g_93
       simp only [DZ] at g_93
       refine Wl.mv rfl rfl <| Wl.on' rfl rfl g_93_ <| Wl.y (y_gtri rfl rfl) rfl <| Wl.on' rfl rfl g_89_ ?_
       refine Wl.y (y_pickF rfl g_93_ rfl) rfl ?_
       refine Wl.y (y_pickT rfl g_89_ rfl) rfl ?_
       refine Wl.nil ?_
       refine Wq.meet hM_55 (!isLet (s.getD i 0)) (by repeat first | exact Sub.nil | refine Sub.cons' rfl (by first | rfl | exact bool_eq (by rw [isLet_eq, ← hc, Bool.eq_iff_iff]; simp <;> omega)) ?_) ?_
       exact ⟨rfl, hb⟩
      have g_89_ := g_89
      simp only [DZ] at g_89
      refine Wl.off' rfl rfl g_89_ rfl rfl <| Wl.off' rfl rfl g_89_ rfl rfl <| Wl.offU rfl rfl rfl <| Wl.offU rfl rfl rfl <| Wl.off' rfl rfl g_89_ rfl rfl ?_
      refine Wl.y (y_pickF rfl g_89_ rfl) rfl ?_
      refine Wl.nil ?_
      refine Wq.meet hM_55 (!isLet (s.getD i 0)) (by repeat first | exact Sub.nil | refine Sub.cons' rfl (by first | rfl | exact bool_eq (by rw [isLet_eq, ← hc, Bool.eq_iff_iff]; simp <;> omega)) ?_) ?_
      exact ⟨rfl, hb⟩
     have g_63_ := g_63
     simp only [DZ] at g_63
     refine Wl.mv rfl rfl <| Wl.on' rfl rfl g_63_ <| Wl.y (y_gtri rfl rfl) rfl <| Wl.on' rfl rfl g_59_ ?_
     refine Wl.y (y_pickF rfl g_63_ rfl) rfl ?_
     refine Wl.y (y_pickT rfl g_59_ rfl) rfl ?_
     refine Wl.mv rfl rfl ?_
     refine Wl.guardT rfl rfl rfl (fun g_106 => ?_) (fun g_106 => ?_)
     ·
      have g_106_ := g_106
      simp only [DZ] at g_106
      refine Wl.mv rfl rfl <| Wl.on' rfl rfl g_106_ <| Wl.y (y_lssi rfl rfl) rfl <| Wl.on' rfl rfl g_106_ <| Wl.mv rfl rfl ?_
      refine Wl.guardF rfl rfl rfl (fun g_110 => ?_) (fun g_110 => ?_)
      ·
       have g_110_ := g_110
       simp only [DZ] at g_110
       refine Wl.off' rfl rfl g_110_ rfl rfl <| Wl.on' rfl rfl g_106_ ?_
       refine Wl.y (y_pickT rfl g_110_ rfl) rfl ?_
       refine Wl.y (y_pickT rfl g_106_ rfl) rfl ?_
       refine Wl.mv rfl rfl <| Wl.on' rfl rfl rfl <| Wl.mv rfl rfl <| Wl.on' rfl rfl rfl <| Wl.y (y_lssi rfl rfl) rfl <| Wl.on' rfl rfl rfl <| Wl.mv rfl rfl ?_
       refine Wl.guardF rfl rfl rfl (fun g_117 => ?_) (fun g_117 => ?_)
       ·
        have g_117_ := g_117
        simp only [DZ] at g_117
        refine Wl.off' rfl rfl g_117_ rfl rfl <| Wl.on' rfl rfl rfl ?_
        refine Wl.y (y_pickT rfl g_117_ rfl) rfl ?_
        refine Wl.y (y_pickT rfl rfl rfl) rfl <| Wl.nil ?_
        refine Wq.meet hM_55 (!isLet (s.getD i 0)) (by repeat first | exact Sub.nil | refine Sub.cons' rfl (by first | rfl | exact bool_eq (by rw [isLet_eq, ← hc, Bool.eq_iff_iff]; simp <;> omega)) ?_) ?_
        exact ⟨rfl, hb⟩
       have g_117_ := g_117
       simp only [DZ] at g_117
       refine Wl.mv rfl rfl <| Wl.on' rfl rfl g_117_ <| Wl.y (y_gtri rfl rfl) rfl <| Wl.on' rfl rfl rfl ?_
       refine Wl.y (y_pickF rfl g_117_ rfl) rfl ?_
       refine Wl.y (y_pickT rfl rfl rfl) rfl <| Wl.nil ?_
       refine Wq.meet hM_55 (!isLet (s.getD i 0)) (by repeat first | exact Sub.nil | refine Sub.cons' rfl (by first | rfl | exact bool_eq (by rw [isLet_eq, ← hc, Bool.eq_iff_iff]; simp <;> omega)) ?_) ?_
       exact ⟨rfl, hb⟩
      have g_110_ := g_110
      simp only [DZ] at g_110
      refine Wl.mv rfl rfl <| Wl.on' rfl rfl g_110_ <| Wl.y (y_gtri rfl rfl) rfl <| Wl.on' rfl rfl g_106_ ?_
      refine Wl.y (y_pickF rfl g_110_ rfl) rfl ?_
      refine Wl.y (y_pickT rfl g_106_ rfl) rfl ?_
      refine Wl.mv rfl rfl ?_
      refine Wl.guardT rfl rfl rfl (fun g_129 => ?_) (fun g_129 => ?_)
      ·
       have g_129_ := g_129
       simp only [DZ] at g_129
       refine Wl.mv rfl rfl <| Wl.on' rfl rfl g_129_ <| Wl.y (y_lssi rfl rfl) rfl <| Wl.on' rfl rfl g_129_ <| Wl.mv rfl rfl ?_
       refine Wl.guardF rfl rfl rfl (fun g_133 => ?_) (fun g_133 => ?_)
       ·
        have g_133_ := g_133
        simp only [DZ] at g_133
        refine Wl.off' rfl rfl g_133_ rfl rfl <| Wl.on' rfl rfl g_129_ ?_
        refine Wl.y (y_pickT rfl g_133_ rfl) rfl ?_
        refine Wl.y (y_pickT rfl g_129_ rfl) rfl ?_
        refine Wl.nil ?_
        refine Wq.meet hM_55 (!isLet (s.getD i 0)) (by repeat first | exact Sub.nil | refine Sub.cons' rfl (by first | rfl | exact bool_eq (by rw [isLet_eq, ← hc, Bool.eq_iff_iff]; simp <;> omega)) ?_) ?_
        exact ⟨rfl, hb⟩
       have g_133_ := g_133
       simp only [DZ] at g_133
       refine Wl.mv rfl rfl <| Wl.on' rfl rfl g_133_ <| Wl.y (y_gtri rfl rfl) rfl <| Wl.on' rfl rfl g_129_ ?_
       refine Wl.y (y_pickF rfl g_133_ rfl) rfl ?_
       refine Wl.y (y_pickT rfl g_129_ rfl) rfl ?_
       refine Wl.nil ?_
       refine Wq.meet hM_55 (!isLet (s.getD i 0)) (by repeat first | exact Sub.nil | refine Sub.cons' rfl (by first | rfl | exact bool_eq (by rw [isLet_eq, ← hc, Bool.eq_iff_iff]; simp <;> omega)) ?_) ?_
       exact ⟨rfl, hb⟩
      have g_129_ := g_129
      simp only [DZ] at g_129
      refine Wl.off' rfl rfl g_129_ rfl rfl <| Wl.off' rfl rfl g_129_ rfl rfl <| Wl.offU rfl rfl rfl <| Wl.offU rfl rfl rfl <| Wl.off' rfl rfl g_129_ rfl rfl ?_
      refine Wl.y (y_pickF rfl g_129_ rfl) rfl ?_
      refine Wl.nil ?_
      refine Wq.meet hM_55 (!isLet (s.getD i 0)) (by repeat first | exact Sub.nil | refine Sub.cons' rfl (by first | rfl | exact bool_eq (by rw [isLet_eq, ← hc, Bool.eq_iff_iff]; simp <;> omega)) ?_) ?_
      exact ⟨rfl, hb⟩
     have g_106_ := g_106
     simp only [DZ] at g_106
     refine Wl.off' rfl rfl g_106_ rfl rfl <| Wl.off' rfl rfl g_106_ rfl rfl <| Wl.offU rfl rfl rfl <| Wl.offU rfl rfl rfl <| Wl.off' rfl rfl g_106_ rfl rfl ?_
     refine Wl.y (y_pickF rfl g_106_ rfl) rfl ?_
     refine Wl.mv rfl rfl <| Wl.off' rfl rfl rfl rfl rfl <| Wl.off' rfl rfl rfl rfl rfl <| Wl.off' rfl rfl rfl rfl rfl <| Wl.offU rfl rfl rfl <| Wl.offU rfl rfl rfl <| Wl.off' rfl rfl rfl rfl rfl <| Wl.y (y_pickF rfl rfl rfl) rfl <| Wl.nil ?_
     refine Wq.meet hM_55 (!isLet (s.getD i 0)) (by repeat first | exact Sub.nil | refine Sub.cons' rfl (by first | rfl | exact bool_eq (by rw [isLet_eq, ← hc, Bool.eq_iff_iff]; simp <;> omega)) ?_) ?_
     exact ⟨rfl, hb⟩
    have g_59_ := g_59
    simp only [DZ] at g_59
    refine Wl.off' rfl rfl g_59_ rfl rfl <| Wl.off' rfl rfl g_59_ rfl rfl <| Wl.offU rfl rfl rfl <| Wl.offU rfl rfl rfl <| Wl.off' rfl rfl g_59_ rfl rfl ?_
    refine Wl.y (y_pickF rfl g_59_ rfl) rfl ?_
    refine Wl.mv rfl rfl <| Wl.off' rfl rfl rfl rfl rfl <| Wl.off' rfl rfl rfl rfl rfl <| Wl.off' rfl rfl rfl rfl rfl <| Wl.offU rfl rfl rfl <| Wl.offU rfl rfl rfl <| Wl.off' rfl rfl rfl rfl rfl <| Wl.y (y_pickF rfl rfl rfl) rfl <| Wl.mv rfl rfl <| Wl.off' rfl rfl rfl rfl rfl ?_
    refine Wl.off' rfl rfl rfl rfl rfl <| Wl.off' rfl rfl rfl rfl rfl <| Wl.offU rfl rfl rfl <| Wl.offU rfl rfl rfl <| Wl.off' rfl rfl rfl rfl rfl <| Wl.y (y_pickF rfl rfl rfl) rfl <| Wl.nil ?_
    refine Wq.meet hM_55 (!isLet (s.getD i 0)) (by repeat first | exact Sub.nil | refine Sub.cons' rfl (by first | rfl | exact bool_eq (by rw [isLet_eq, ← hc, Bool.eq_iff_iff]; simp <;> omega)) ?_) ?_
    exact ⟨rfl, hb⟩
   rintro q wr hI_149
   replace hI_149 : q = (!isLet (s.getD i 0)) ∧ Below w.heap.size w wr := hI_149
   obtain ⟨hq, hb⟩ := hI_149
   show Wq _ _ _ _ [(0, str s), (3, .int .i64 (i : Int)), (56, .bool q)] _
   have hzhb_g6 := hb.size
   refine Wq.next hK_54 ?_
   refine Wc.cond rfl (fun c2_150 => ?_) (fun c2_150 => ?_)
   ·
    have c2_150_ := c2_150
    have hlet : isLet (s.getD i 0) = false := by have h := hq.symm.trans c2_150_; simpa using h
    refine Wc.seq fun _ hK_151 => Wc.region <| Wl.sg rfl rfl <| Wl.nil <| Wq.next hK_151 <| Wc.ret ?_
    refine Wq.block_ret (Wq.then_ret (Wq.then_ret (Wq.block_ret (Wq.then_ret ?_))))
    refine ret1 rfl rfl ?_
    exact ⟨_, rfl, bool_eq (by unfold wordA; rw [eq_comm, Bool.and_eq_false_iff]; right; rw [List.all_eq_false]; exact ⟨_, getD_mem hil, by rw [hlet]; simp⟩), hb⟩
   have c2_150_ := c2_150
   have hlet : isLet (s.getD i 0) = true := by have h := hq.symm.trans c2_150_; simpa using h
   refine Wc.skip <| Wq.block_normal <| Wq.next hK_48 <| Wc.region <| Wl.mv rfl rfl ?_
   refine Wl.y (y_addI rfl rfl (by omega) (by omega)) rfl ?_
   refine Wl.sg rfl rfl <| Wl.nil ?_
   refine fun a_ ha_ => hL_39 _ _ (i + 1) (by omega) (by repeat first | exact Sub.nil | refine Sub.cons' rfl (by first | rfl | exact int_eq (by omega)) ?_) ?_ a_ ha_
   exact ⟨by omega, fun j hj => by (by_cases e : j = i); (· rw [e]; exact hlet); (· exact hall j (by omega)), hb⟩
  have c1_47_ := c1_47
  simp only [DZ] at c1_47
  refine Wc.exit ?_
  refine Wq.then_exit <| Wq.then_exit <| Wq.block_exit <| Wq.next hK_36 <| Wc.seq fun _ hK_156 => Wc.region <| Wl.sg rfl rfl <| Wl.nil <| Wq.next hK_156 <| Wc.ret ?_
  refine ret1 rfl rfl ?_
  exact ⟨_, rfl, bool_eq (by
  unfold wordA; rw [hw, eq_comm, Bool.true_and, List.all_eq_true]
  intro c hc
  obtain ⟨j, hj, e⟩ := List.mem_iff_getElem.1 hc
  have := hall j (by have := c1_47; omega)
  simpa [List.getD, List.getElem?_eq_getElem hj, e] using this), hb⟩
end Go.Proofs.YtobhpejaoakpmaaGreatDoor
