/- strconv.ParseUint at 53 bits, strings.Cut, strconv.Atoi, math.Ldexp, by the calculus. -/
import Derived.Test.YtcljmclolpgdmaaGreatDoorPrsT
import Derived.Test.YtcljmclolpgdmaaGreatDoorByt
namespace Go.Proofs.YtcljmclolpgdmaaGreatDoor
open Go.RowKit Go.Bw Go.Bw.Fl
set_option linter.unusedVariables false
set_option linter.unusedSimpArgs false
theorem one5PrsA : One Tryz.prog 5 := ⟨_, Tryz.underlying5, rfl, by kernel_rfl⟩
theorem sz5PrsA : (Tryz.prog.info? 5).map (·.size) = some 1 := by kernel_rfl
theorem txt168PrsA : Txt Tryz.prog 168 := ⟨_, Tryz.func168, by kernel_rfl, rfl⟩   -- internal/strconv.lower
/-- digits that spell a number below 2 to the power of 53 -/
structure Gd (s : List UInt8) : Prop where
  ne : s ≠ []
  all : AllDig s
  lt : dval 0 s < 9007199254740992
theorem Gd.dec {M : Nat} (h : M < 9007199254740992) : Gd (Lib.decDigits M) := ⟨(decDigits_spec M).2.2, (decDigits_spec M).1, by rw [(decDigits_spec M).2.1]; exact h⟩
def UEnd (s : List UInt8) (n : Nat) (e : Value) : Prop := (e = .nilIface ∧ n < 9007199254740992 ∧ (Gd s → n = dval 0 s)) ∨ (¬ Gd s ∧ n < 18446744073709551616 ∧ ∃ c : Int, (c = 1 ∨ c = 2) ∧ e = .iface 167 (.int .i64 c))
theorem Gd.at {s : List UInt8} (h : Gd s) {i : Nat} (hi : i < s.length) : 48 ≤ (s.getD i 0).toNat ∧ (s.getD i 0).toNat ≤ 57 := by
  have e : s.getD i 0 = s[i] := by simp [List.getD, List.getElem?_eq_getElem hi]
  rw [e]; exact h.all _ (List.getElem_mem hi)
theorem u8s_val {s : List UInt8} {i : Nat} {v : Value} (hi : i < s.length) (h : (u8s s)[i]? = some v) : v = .int .u8 ((s.getD i 0).toNat : Int) := by
  have e : s.getD i 0 = s[i] := by simp [List.getD, List.getElem?_eq_getElem hi]
  simp [u8s, List.getElem?_eq_getElem hi] at h
  rw [e, ← h]
theorem lower_r (c : Int) (w : World) : Ret Tryz.prog 168 [.int .u8 c] w fun v w' => v = .int .u8 (bits .or .u8 c 32) ∧ w' = w := Ret.pure (Tryz.internal_strconv_lower c w)
theorem gd_next {s : List UInt8} {i n : Nat} (hi : i < s.length) (h : Gd s → n = dval 0 (s.take i)) (hg : Gd s) : n * 10 + ((s.getD i 0).toNat - 48) = dval 0 (s.take (i + 1)) ∧ n * 10 + ((s.getD i 0).toNat - 48) < 9007199254740992 := by
  have e := dval_take hi
  rw [← h hg] at e
  have := dval_take_le s (i + 1)
  have := hg.lt
  exact ⟨e.symm, by omega⟩
theorem iParseUint_r (s : List UInt8) (hs : s.length ≤ 281474976710656) (w : World) : Ret Tryz.prog 135 [str s, .int .i64 10, .int .i64 53] w fun v w' => (∃ n e, v = .tuple #[.int .u64 (n : Nat), e] ∧ UEnd s n e) ∧ Below w.heap.size w w' := by
  have hb := Below.refl w.heap.size w
  refine enter Tryz.func135 rfl rfl rfl ?_
  refine Wc.seq fun _ hK_1 => ?_
  refine Wc.region ?_
  refine Wl.y (y_assign rfl) rfl ?_
  refine Wl.y (y_assign rfl) rfl ?_
  refine Wl.nil ?_
  refine Wq.next hK_1 ?_
  refine Wc.seq fun _ hK_4 => ?_
  refine Wc.seq fun _ hK_5 => ?_
  refine Wc.region ?_
  refine Wl.y (y_move rfl) rfl ?_
  refine Wl.y (y_eqls rfl rfl) rfl ?_
  refine Wl.nil ?_
  refine Wq.next hK_5 ?_
  refine Wc.cond rfl (fun c0_8 => ?_) (fun c0_8 => ?_)
  ·
   have c0_8_ := c0_8
   try simp only [decide_eq_true_eq, decide_eq_false_iff_not, beq_iff_eq, beq_eq_false_iff_ne, bne_iff_ne, bne_eq_false_iff_eq, Bool.not_eq_true', Bool.not_eq_false', Bool.not_eq_eq_eq_not, Bool.not_true, Bool.not_false, ne_eq, Int.not_lt, Int.not_le] at c0_8
   refine Wc.seq fun _ hK_9 => ?_
   refine Wc.region ?_
   refine Wl.y (y_iface Tryz.underlying167 (by intro _ h; cases h) rfl) rfl ?_
   refine Wl.y (y_assign rfl) rfl ?_
   refine Wl.y (y_assign rfl) rfl ?_
   refine Wl.nil ?_
   refine Wq.next hK_9 ?_
   refine Wc.ret ?_
   refine Wq.then_ret ?_
   refine ret2 rfl rfl rfl ?_
   exact ⟨_, rfl, ⟨0, _, rfl, .inr ⟨fun h => h.ne (by simpa using c0_8_), by omega, 2, .inr rfl, rfl⟩⟩, hb⟩
  ·
   have c0_8_ := c0_8
   try simp only [decide_eq_true_eq, decide_eq_false_iff_not, beq_iff_eq, beq_eq_false_iff_ne, bne_iff_ne, bne_eq_false_iff_eq, Bool.not_eq_true', Bool.not_eq_false', Bool.not_eq_eq_eq_not, Bool.not_true, Bool.not_false, ne_eq, Int.not_lt, Int.not_le] at c0_8
   refine Wc.skip ?_
   refine Wq.next hK_4 ?_
   refine Wc.seq fun _ hK_13 => ?_
   refine Wc.region ?_
   refine Wl.y (y_move rfl) rfl ?_
   refine Wl.y (y_eqli rfl rfl) rfl ?_
   refine Wl.y (y_assign rfl) rfl ?_
   refine Wl.nil ?_
   refine Wq.next hK_13 ?_
   refine Wc.seq fun _ hK_17 => ?_
   refine Wc.region ?_
   refine Wl.y (y_move rfl) rfl ?_
   refine Wl.y (y_assign rfl) rfl ?_
   refine Wl.nil ?_
   refine Wq.next hK_17 ?_
   refine Wc.seq fun _ hK_20 => ?_
   refine Wc.block ?_
   refine Wc.seq fun _ hK_21 => ?_
   refine Wc.region ?_
   refine Wl.y (y_move rfl) rfl ?_
   refine Wl.y (y_leqi rfl rfl) rfl ?_
   refine Wl.y (y_move rfl) rfl ?_
   refine Wl.guardT rfl rfl rfl (fun g_25 => ?_) (fun g_25 => ?_)
   ·
    have g_25_ := g_25
    try simp only [decide_eq_true_eq, decide_eq_false_iff_not, beq_iff_eq, beq_eq_false_iff_ne, bne_iff_ne, bne_eq_false_iff_eq, Bool.not_eq_true', Bool.not_eq_false', Bool.not_eq_eq_eq_not, Bool.not_true, Bool.not_false, ne_eq, Int.not_lt, Int.not_le] at g_25
    refine Wl.y (y_move rfl) rfl ?_
    refine Wl.on' rfl rfl g_25_ ?_
    refine Wl.y (y_leqi rfl rfl) rfl ?_
    refine Wl.y (y_pickT rfl g_25_ rfl) rfl ?_
    refine Wl.y (y_assign rfl) rfl ?_
    refine Wl.nil ?_
    refine Wq.next hK_21 ?_
    refine Wc.cond rfl (fun c1_30 => ?_) (fun c1_30 => ?_)
    ·
     have c1_30_ := c1_30
     try simp only [decide_eq_true_eq, decide_eq_false_iff_not, beq_iff_eq, beq_eq_false_iff_ne, bne_iff_ne, bne_eq_false_iff_eq, Bool.not_eq_true', Bool.not_eq_false', Bool.not_eq_eq_eq_not, Bool.not_true, Bool.not_false, ne_eq, Int.not_lt, Int.not_le] at c1_30
     refine Wc.skip ?_
     refine Wq.block_normal ?_
     refine Wq.next hK_20 ?_
     refine Wc.seq fun _ hK_31 => ?_
     refine Wc.seq fun _ hK_32 => ?_
     refine Wc.region ?_
     refine Wl.y (y_move rfl) rfl ?_
     refine Wl.y (y_eqli rfl rfl) rfl ?_
     refine Wl.nil ?_
     refine Wq.next hK_32 ?_
     refine Wc.cond rfl (fun c7_35 => ?_) (fun c7_35 => ?_)
     ·
      have c7_35_ := c7_35
      try simp only [decide_eq_true_eq, decide_eq_false_iff_not, beq_iff_eq, beq_eq_false_iff_ne, bne_iff_ne, bne_eq_false_iff_eq, Bool.not_eq_true', Bool.not_eq_false', Bool.not_eq_eq_eq_not, Bool.not_true, Bool.not_false, ne_eq, Int.not_lt, Int.not_le] at c7_35
      cases c7_35_
     ·
      have c7_35_ := c7_35
      try simp only [decide_eq_true_eq, decide_eq_false_iff_not, beq_iff_eq, beq_eq_false_iff_ne, bne_iff_ne, bne_eq_false_iff_eq, Bool.not_eq_true', Bool.not_eq_false', Bool.not_eq_eq_eq_not, Bool.not_true, Bool.not_false, ne_eq, Int.not_lt, Int.not_le] at c7_35
      refine Wc.seq fun _ hK_36 => ?_
      refine Wc.region ?_
      refine Wl.y (y_move rfl) rfl ?_
      refine Wl.y (y_lssi rfl rfl) rfl ?_
      refine Wl.y (y_move rfl) rfl ?_
      refine Wl.guardF rfl rfl rfl (fun g_40 => ?_) (fun g_40 => ?_)
      ·
       have g_40_ := g_40
       try simp only [decide_eq_true_eq, decide_eq_false_iff_not, beq_iff_eq, beq_eq_false_iff_ne, bne_iff_ne, bne_eq_false_iff_eq, Bool.not_eq_true', Bool.not_eq_false', Bool.not_eq_eq_eq_not, Bool.not_true, Bool.not_false, ne_eq, Int.not_lt, Int.not_le] at g_40
       cases g_40_
      ·
       have g_40_ := g_40
       try simp only [decide_eq_true_eq, decide_eq_false_iff_not, beq_iff_eq, beq_eq_false_iff_ne, bne_iff_ne, bne_eq_false_iff_eq, Bool.not_eq_true', Bool.not_eq_false', Bool.not_eq_eq_eq_not, Bool.not_true, Bool.not_false, ne_eq, Int.not_lt, Int.not_le] at g_40
       refine Wl.y (y_move rfl) rfl ?_
       refine Wl.on' rfl rfl g_40_ ?_
       refine Wl.y (y_gtri rfl rfl) rfl ?_
       refine Wl.y (y_pickF rfl g_40_ rfl) rfl ?_
       refine Wl.nil ?_
       refine Wq.next hK_36 ?_
       refine Wc.cond rfl (fun c8_44 => ?_) (fun c8_44 => ?_)
       ·
        have c8_44_ := c8_44
        try simp only [decide_eq_true_eq, decide_eq_false_iff_not, beq_iff_eq, beq_eq_false_iff_ne, bne_iff_ne, bne_eq_false_iff_eq, Bool.not_eq_true', Bool.not_eq_false', Bool.not_eq_eq_eq_not, Bool.not_true, Bool.not_false, ne_eq, Int.not_lt, Int.not_le] at c8_44
        cases c8_44_
       ·
        have c8_44_ := c8_44
        try simp only [decide_eq_true_eq, decide_eq_false_iff_not, beq_iff_eq, beq_eq_false_iff_ne, bne_iff_ne, bne_eq_false_iff_eq, Bool.not_eq_true', Bool.not_eq_false', Bool.not_eq_eq_eq_not, Bool.not_true, Bool.not_false, ne_eq, Int.not_lt, Int.not_le] at c8_44
        refine Wc.skip ?_
        refine Wq.next hK_31 ?_
        refine Wc.seq fun _ hK_45 => ?_
        refine Wc.region ?_
        refine Wl.y (y_assign rfl) rfl ?_
        refine Wl.nil ?_
        refine Wq.next hK_45 ?_
        refine Wc.seq fun _ hK_47 => ?_
        refine Wc.seq fun _ hK_48 => ?_
        refine Wc.region ?_
        refine Wl.y (y_move rfl) rfl ?_
        refine Wl.nil ?_
        refine Wq.next hK_48 ?_
        refine Wc.block ?_
        refine Wc.seq fun _ hK_50 => ?_
        refine Wc.region ?_
        refine Wl.y (y_eqli rfl rfl) rfl ?_
        refine Wl.y (y_assign rfl) rfl ?_
        refine Wl.nil ?_
        refine Wq.next hK_50 ?_
        refine Wc.cond rfl (fun c9_53 => ?_) (fun c9_53 => ?_)
        ·
         have c9_53_ := c9_53
         try simp only [decide_eq_true_eq, decide_eq_false_iff_not, beq_iff_eq, beq_eq_false_iff_ne, bne_iff_ne, bne_eq_false_iff_eq, Bool.not_eq_true', Bool.not_eq_false', Bool.not_eq_eq_eq_not, Bool.not_true, Bool.not_false, ne_eq, Int.not_lt, Int.not_le] at c9_53
         refine Wc.region ?_
         refine Wl.y (y_assign rfl) rfl ?_
         refine Wl.nil ?_
         refine Wq.block_normal ?_
         refine Wq.next hK_47 ?_
         refine Wc.seq fun _ hK_55 => ?_
         refine Wc.region ?_
         refine Wl.y (y_move rfl) rfl ?_
         refine Wl.y (y_convi Tryz.underlying3 Tryz.underlying158 rfl) rfl ?_
         refine Wl.y (y_eq (y_shl rfl rfl (by first | decide | omega) (by first | decide | omega)) (int_eq (show _ = (9007199254740992 : Int) by rfl))) rfl ?_
         refine Wl.y (y_eq (y_sub rfl rfl) (int_eq (show _ = (9007199254740991 : Int) by rfl))) rfl ?_
         refine Wl.y (y_assign rfl) rfl ?_
         refine Wl.nil ?_
         refine Wq.next hK_55 ?_
         refine Wc.seq fun _ hK_61 => ?_
         refine Wc.region ?_
         refine Wl.y (y_assign rfl) rfl ?_
         refine Wl.nil ?_
         refine Wq.next hK_61 ?_
         refine Wc.seq fun _ hK_63 => ?_
         refine Wc.region ?_
         refine Wl.y (y_assign rfl) rfl ?_
         refine Wl.nil ?_
         refine Wq.next hK_63 ?_
         refine Wc.seq fun _ hK_65 => ?_
         refine Wc.seq fun _ hK_66 => ?_
         refine Wc.region ?_
         refine Wl.y (y_move rfl) rfl ?_
         refine Wl.bytesN Tryz.underlying9 Tryz.underlying106 Tryz.underlying5 rfl rfl ?_
         rintro g_o94 c_o94 w_o94 hg_o94 hl_o94 hn_o94 hs_o94
         have hz_o94 := hs_o94.size
         have hb := hb.trans (hs_o94.mono hb.size)
         have hR_o94 := hn_o94
         refine Wl.y (y_lenl Tryz.underlying106 (by omega) rfl) rfl ?_
         refine Wl.y (y_move rfl) rfl ?_
         refine Wl.nil ?_
         refine Wq.next hK_66 ?_
         refine Wc.block ?_
         refine Wc.loop (X := Nat × Nat) (fun (i, n) => [(0, str s), (1, .int .i64 10), (8, .bool false), (10, .int .u64 1844674407370955162), (11, .int .u64 9007199254740991), (12, .bool false), (13, .int .u64 (n : Int)), (99, .slice (some ⟨g_o94, 0, none⟩) s.length c_o94), (100, .int .i64 (s.length : Int)), (101, .int .i64 (i : Int))]) (fun (i, n) wr => i ≤ s.length ∧ n < 9007199254740992 ∧ Below w.heap.size w wr ∧ Rd wr 1 (some ⟨g_o94, 0, none⟩) s.length (u8s s) ∧ (Gd s → n = dval 0 (s.take i))) (fun (i, n) => s.length - i) (⟨0, 0⟩) ?_ ?_ ?_
         · exact Sub.cons' rfl (by first | rfl | exact int_eq (by omega)) (Sub.cons' rfl (by first | rfl | exact int_eq (by omega)) (Sub.cons' rfl (by first | rfl | exact int_eq (by omega)) (Sub.cons' rfl (by first | rfl | exact int_eq (by omega)) (Sub.cons' rfl (by first | rfl | exact int_eq (by omega)) (Sub.cons' rfl (by first | rfl | exact int_eq (by omega)) (Sub.cons' rfl (by first | rfl | exact int_eq (by omega)) (Sub.cons' rfl (by first | rfl | exact int_eq (by omega)) (Sub.cons' rfl (by first | rfl | exact int_eq (by omega)) (Sub.cons' rfl (by first | rfl | exact int_eq (by omega)) (Sub.nil))))))))))
         · exact ⟨by omega, by omega, hb, hR_o94, fun _ => rfl⟩
         ·
          rintro ⟨i, n⟩ wr hI_72 _ hL_71
          replace hI_72 : i ≤ s.length ∧ n < 9007199254740992 ∧ Below w.heap.size w wr ∧ Rd wr 1 (some ⟨g_o94, 0, none⟩) s.length (u8s s) ∧ (Gd s → n = dval 0 (s.take i)) := hI_72
          obtain ⟨hi, hn, hb, hR_o94, hv⟩ := hI_72
          show Wc _ _ _ _ _ [(0, str s), (1, .int .i64 10), (8, .bool false), (10, .int .u64 1844674407370955162), (11, .int .u64 9007199254740991), (12, .bool false), (13, .int .u64 (n : Int)), (99, .slice (some ⟨g_o94, 0, none⟩) s.length c_o94), (100, .int .i64 (s.length : Int)), (101, .int .i64 (i : Int))] _
          try have hzhb_L0 := hb.size
          refine Wc.seq fun _ hK_73 => ?_
          refine Wc.region ?_
          refine Wl.y (y_lssi rfl rfl) rfl ?_
          refine Wl.nil ?_
          refine Wq.next hK_73 ?_
          refine Wc.seq fun _ hK_75 => ?_
          refine Wc.cond rfl (fun c11_76 => ?_) (fun c11_76 => ?_)
          ·
           have c11_76_ := c11_76
           try simp only [decide_eq_true_eq, decide_eq_false_iff_not, beq_iff_eq, beq_eq_false_iff_ne, bne_iff_ne, bne_eq_false_iff_eq, Bool.not_eq_true', Bool.not_eq_false', Bool.not_eq_eq_eq_not, Bool.not_true, Bool.not_false, ne_eq, Int.not_lt, Int.not_le] at c11_76
           have hil : i < s.length := by have := c11_76; omega
           refine Wc.skip ?_
           refine Wq.next hK_75 ?_
           refine Wc.seq fun _ hK_77 => ?_
           refine Wc.block ?_
           refine Wc.seq fun _ hK_78 => ?_
           obtain ⟨p_, v_, hpe, hve, hcell⟩ := hR_o94.one (i := i) hil
           cases hpe
           obtain ⟨q, hq, hq8, rfl⟩ : ∃ q : Nat, q = (s.getD i 0).toNat ∧ q < 256 ∧ v_ = .int .u8 (q : Int) := ⟨_, rfl, UInt8.toNat_lt _, u8s_val hil hve⟩
           refine Wc.region ?_
           refine Wl.y (y_indexAddr Tryz.underlying106 sz5PrsA rfl rfl (by omega) (by omega)) rfl ?_
           refine Wl.l (l_load one5PrsA rfl (by exact at1 hcell)) rfl ?_
           refine Wl.y (y_assign rfl) rfl ?_
           refine Wl.nil ?_
           refine Wq.next hK_78 ?_
           refine Wc.seq fun _ hK_82 => ?_
           refine Wc.region ?_
           refine Wl.y (y_assign rfl) rfl ?_
           refine Wl.nil ?_
           refine Wq.next hK_82 ?_
           refine Wc.seq fun _ hK_84 => ?_
           refine Wc.block ?_
           refine Wc.seq fun _ hK_85 => ?_
           refine Wc.meet (X := Unit) (fun u_ => [(0, str s), (1, .int .i64 10), (8, .bool false), (10, .int .u64 1844674407370955162), (11, .int .u64 9007199254740991), (12, .bool false), (13, .int .u64 (n : Int)), (99, .slice (some ⟨g_o94, 0, none⟩) s.length c_o94), (100, .int .i64 (s.length : Int)), (101, .int .i64 (i : Int)), (15, .int .u8 (q : Int)), (16, .int .u8 0), (106, .bool false)]) (fun u_ wr => Below w.heap.size w wr ∧ Rd wr 1 (some ⟨g_o94, 0, none⟩) s.length (u8s s)) (fun _ hM_86 => ?_) ?_
           ·
            refine Wc.region ?_
            refine Wl.y (y_move rfl) rfl ?_
            refine Wl.y (y_eqli rfl rfl) rfl ?_
            refine Wl.y (y_move rfl) rfl ?_
            refine Wl.guardT rfl rfl rfl (fun g_90 => ?_) (fun g_90 => ?_)
            ·
             have g_90_ := g_90
             try simp only [decide_eq_true_eq, decide_eq_false_iff_not, beq_iff_eq, beq_eq_false_iff_ne, bne_iff_ne, bne_eq_false_iff_eq, Bool.not_eq_true', Bool.not_eq_false', Bool.not_eq_eq_eq_not, Bool.not_true, Bool.not_false, ne_eq, Int.not_lt, Int.not_le] at g_90
             refine Wl.y (y_move rfl) rfl ?_
             refine Wl.y (y_pickT rfl g_90_ rfl) rfl ?_
             refine Wl.y (y_assign rfl) rfl ?_
             refine Wl.nil ?_
             refine Wq.meet hM_86 (()) (Sub.cons' rfl (by rfl) (Sub.cons' rfl (by rfl) (Sub.cons' rfl (by rfl) (Sub.cons' rfl (by rfl) (Sub.cons' rfl (by rfl) (Sub.cons' rfl (by rfl) (Sub.cons' rfl (by rfl) (Sub.cons' rfl (by rfl) (Sub.cons' rfl (by rfl) (Sub.cons' rfl (by rfl) (Sub.cons' rfl (by rfl) (Sub.cons' rfl (by rfl) (Sub.cons' rfl (by rfl) (Sub.nil)))))))))))))) ?_
             exact ⟨hb, hR_o94⟩
            ·
             have g_90_ := g_90
             try simp only [decide_eq_true_eq, decide_eq_false_iff_not, beq_iff_eq, beq_eq_false_iff_ne, bne_iff_ne, bne_eq_false_iff_eq, Bool.not_eq_true', Bool.not_eq_false', Bool.not_eq_eq_eq_not, Bool.not_true, Bool.not_false, ne_eq, Int.not_lt, Int.not_le] at g_90
             refine Wl.y (y_pickF rfl g_90_ rfl) rfl ?_
             refine Wl.y (y_assign rfl) rfl ?_
             refine Wl.nil ?_
             refine Wq.meet hM_86 (()) (Sub.cons' rfl (by rfl) (Sub.cons' rfl (by rfl) (Sub.cons' rfl (by rfl) (Sub.cons' rfl (by rfl) (Sub.cons' rfl (by rfl) (Sub.cons' rfl (by rfl) (Sub.cons' rfl (by rfl) (Sub.cons' rfl (by rfl) (Sub.cons' rfl (by rfl) (Sub.cons' rfl (by rfl) (Sub.cons' rfl (by rfl) (Sub.cons' rfl (by rfl) (Sub.cons' rfl (by rfl) (Sub.nil)))))))))))))) ?_
             exact ⟨hb, hR_o94⟩
           ·
            rintro u_ wr hI_96
            replace hI_96 : Below w.heap.size w wr ∧ Rd wr 1 (some ⟨g_o94, 0, none⟩) s.length (u8s s) := hI_96
            obtain ⟨hb, hR_o94⟩ := hI_96
            show Wq _ _ _ _ [(0, str s), (1, .int .i64 10), (8, .bool false), (10, .int .u64 1844674407370955162), (11, .int .u64 9007199254740991), (12, .bool false), (13, .int .u64 (n : Int)), (99, .slice (some ⟨g_o94, 0, none⟩) s.length c_o94), (100, .int .i64 (s.length : Int)), (101, .int .i64 (i : Int)), (15, .int .u8 (q : Int)), (16, .int .u8 0), (106, .bool false)] _
            try have hzhb_g39 := hb.size
            refine Wq.next hK_85 ?_
            refine Wc.cond rfl (fun c12_97 => ?_) (fun c12_97 => ?_)
            ·
             have c12_97_ := c12_97
             try simp only [decide_eq_true_eq, decide_eq_false_iff_not, beq_iff_eq, beq_eq_false_iff_ne, bne_iff_ne, bne_eq_false_iff_eq, Bool.not_eq_true', Bool.not_eq_false', Bool.not_eq_eq_eq_not, Bool.not_true, Bool.not_false, ne_eq, Int.not_lt, Int.not_le] at c12_97
             cases c12_97_
            ·
             have c12_97_ := c12_97
             try simp only [decide_eq_true_eq, decide_eq_false_iff_not, beq_iff_eq, beq_eq_false_iff_ne, bne_iff_ne, bne_eq_false_iff_eq, Bool.not_eq_true', Bool.not_eq_false', Bool.not_eq_eq_eq_not, Bool.not_true, Bool.not_false, ne_eq, Int.not_lt, Int.not_le] at c12_97
             refine Wc.seq fun _ hK_98 => ?_
             refine Wc.meet (X := Bool) (fun g => [(0, str s), (1, .int .i64 10), (8, .bool false), (10, .int .u64 1844674407370955162), (11, .int .u64 9007199254740991), (12, .bool false), (13, .int .u64 (n : Int)), (99, .slice (some ⟨g_o94, 0, none⟩) s.length c_o94), (100, .int .i64 (s.length : Int)), (101, .int .i64 (i : Int)), (15, .int .u8 (q : Int)), (16, .int .u8 0), (112, .bool g)]) (fun g wr => Below w.heap.size w wr ∧ Rd wr 1 (some ⟨g_o94, 0, none⟩) s.length (u8s s) ∧ g = decide (48 ≤ q ∧ q ≤ 57)) (fun _ hM_99 => ?_) ?_
             ·
              refine Wc.region ?_
              refine Wl.y (y_move rfl) rfl ?_
              refine Wl.y (y_leqi rfl rfl) rfl ?_
              refine Wl.y (y_move rfl) rfl ?_
              refine Wl.guardT rfl rfl rfl (fun g_103 => ?_) (fun g_103 => ?_)
              ·
               have g_103_ := g_103
               try simp only [decide_eq_true_eq, decide_eq_false_iff_not, beq_iff_eq, beq_eq_false_iff_ne, bne_iff_ne, bne_eq_false_iff_eq, Bool.not_eq_true', Bool.not_eq_false', Bool.not_eq_eq_eq_not, Bool.not_true, Bool.not_false, ne_eq, Int.not_lt, Int.not_le] at g_103
               refine Wl.y (y_move rfl) rfl ?_
               refine Wl.on' rfl rfl g_103_ ?_
               refine Wl.y (y_leqi rfl rfl) rfl ?_
               refine Wl.y (y_pickT rfl g_103_ rfl) rfl ?_
               refine Wl.y (y_assign rfl) rfl ?_
               refine Wl.nil ?_
               refine Wq.meet hM_99 (decide (48 ≤ q ∧ q ≤ 57)) (Sub.cons' rfl (by first | rfl | exact bool_eq (decide_eq_decide.2 (by have := g_103; omega)) | exact bool_eq (decide_eq_false (by have := g_103; omega)).symm) (Sub.cons' rfl (by first | rfl | exact bool_eq (decide_eq_decide.2 (by have := g_103; omega)) | exact bool_eq (decide_eq_false (by have := g_103; omega)).symm) (Sub.cons' rfl (by first | rfl | exact bool_eq (decide_eq_decide.2 (by have := g_103; omega)) | exact bool_eq (decide_eq_false (by have := g_103; omega)).symm) (Sub.cons' rfl (by first | rfl | exact bool_eq (decide_eq_decide.2 (by have := g_103; omega)) | exact bool_eq (decide_eq_false (by have := g_103; omega)).symm) (Sub.cons' rfl (by first | rfl | exact bool_eq (decide_eq_decide.2 (by have := g_103; omega)) | exact bool_eq (decide_eq_false (by have := g_103; omega)).symm) (Sub.cons' rfl (by first | rfl | exact bool_eq (decide_eq_decide.2 (by have := g_103; omega)) | exact bool_eq (decide_eq_false (by have := g_103; omega)).symm) (Sub.cons' rfl (by first | rfl | exact bool_eq (decide_eq_decide.2 (by have := g_103; omega)) | exact bool_eq (decide_eq_false (by have := g_103; omega)).symm) (Sub.cons' rfl (by first | rfl | exact bool_eq (decide_eq_decide.2 (by have := g_103; omega)) | exact bool_eq (decide_eq_false (by have := g_103; omega)).symm) (Sub.cons' rfl (by first | rfl | exact bool_eq (decide_eq_decide.2 (by have := g_103; omega)) | exact bool_eq (decide_eq_false (by have := g_103; omega)).symm) (Sub.cons' rfl (by first | rfl | exact bool_eq (decide_eq_decide.2 (by have := g_103; omega)) | exact bool_eq (decide_eq_false (by have := g_103; omega)).symm) (Sub.cons' rfl (by first | rfl | exact bool_eq (decide_eq_decide.2 (by have := g_103; omega)) | exact bool_eq (decide_eq_false (by have := g_103; omega)).symm) (Sub.cons' rfl (by first | rfl | exact bool_eq (decide_eq_decide.2 (by have := g_103; omega)) | exact bool_eq (decide_eq_false (by have := g_103; omega)).symm) (Sub.cons' rfl (by first | rfl | exact bool_eq (decide_eq_decide.2 (by have := g_103; omega)) | exact bool_eq (decide_eq_false (by have := g_103; omega)).symm) (Sub.nil)))))))))))))) ?_
               exact ⟨hb, hR_o94, rfl⟩
              ·
               have g_103_ := g_103
               try simp only [decide_eq_true_eq, decide_eq_false_iff_not, beq_iff_eq, beq_eq_false_iff_ne, bne_iff_ne, bne_eq_false_iff_eq, Bool.not_eq_true', Bool.not_eq_false', Bool.not_eq_eq_eq_not, Bool.not_true, Bool.not_false, ne_eq, Int.not_lt, Int.not_le] at g_103
               refine Wl.off' rfl rfl g_103_ rfl rfl ?_
               refine Wl.y (y_pickF rfl g_103_ rfl) rfl ?_
               refine Wl.y (y_assign rfl) rfl ?_
               refine Wl.nil ?_
               refine Wq.meet hM_99 (decide (48 ≤ q ∧ q ≤ 57)) (Sub.cons' rfl (by first | rfl | exact bool_eq (decide_eq_decide.2 (by have := g_103; omega)) | exact bool_eq (decide_eq_false (by have := g_103; omega)).symm) (Sub.cons' rfl (by first | rfl | exact bool_eq (decide_eq_decide.2 (by have := g_103; omega)) | exact bool_eq (decide_eq_false (by have := g_103; omega)).symm) (Sub.cons' rfl (by first | rfl | exact bool_eq (decide_eq_decide.2 (by have := g_103; omega)) | exact bool_eq (decide_eq_false (by have := g_103; omega)).symm) (Sub.cons' rfl (by first | rfl | exact bool_eq (decide_eq_decide.2 (by have := g_103; omega)) | exact bool_eq (decide_eq_false (by have := g_103; omega)).symm) (Sub.cons' rfl (by first | rfl | exact bool_eq (decide_eq_decide.2 (by have := g_103; omega)) | exact bool_eq (decide_eq_false (by have := g_103; omega)).symm) (Sub.cons' rfl (by first | rfl | exact bool_eq (decide_eq_decide.2 (by have := g_103; omega)) | exact bool_eq (decide_eq_false (by have := g_103; omega)).symm) (Sub.cons' rfl (by first | rfl | exact bool_eq (decide_eq_decide.2 (by have := g_103; omega)) | exact bool_eq (decide_eq_false (by have := g_103; omega)).symm) (Sub.cons' rfl (by first | rfl | exact bool_eq (decide_eq_decide.2 (by have := g_103; omega)) | exact bool_eq (decide_eq_false (by have := g_103; omega)).symm) (Sub.cons' rfl (by first | rfl | exact bool_eq (decide_eq_decide.2 (by have := g_103; omega)) | exact bool_eq (decide_eq_false (by have := g_103; omega)).symm) (Sub.cons' rfl (by first | rfl | exact bool_eq (decide_eq_decide.2 (by have := g_103; omega)) | exact bool_eq (decide_eq_false (by have := g_103; omega)).symm) (Sub.cons' rfl (by first | rfl | exact bool_eq (decide_eq_decide.2 (by have := g_103; omega)) | exact bool_eq (decide_eq_false (by have := g_103; omega)).symm) (Sub.cons' rfl (by first | rfl | exact bool_eq (decide_eq_decide.2 (by have := g_103; omega)) | exact bool_eq (decide_eq_false (by have := g_103; omega)).symm) (Sub.cons' rfl (by first | rfl | exact bool_eq (decide_eq_decide.2 (by have := g_103; omega)) | exact bool_eq (decide_eq_false (by have := g_103; omega)).symm) (Sub.nil)))))))))))))) ?_
               exact ⟨hb, hR_o94, rfl⟩
             ·
              rintro g wr hI_110
              replace hI_110 : Below w.heap.size w wr ∧ Rd wr 1 (some ⟨g_o94, 0, none⟩) s.length (u8s s) ∧ g = decide (48 ≤ q ∧ q ≤ 57) := hI_110
              obtain ⟨hb, hR_o94, hg⟩ := hI_110
              show Wq _ _ _ _ [(0, str s), (1, .int .i64 10), (8, .bool false), (10, .int .u64 1844674407370955162), (11, .int .u64 9007199254740991), (12, .bool false), (13, .int .u64 (n : Int)), (99, .slice (some ⟨g_o94, 0, none⟩) s.length c_o94), (100, .int .i64 (s.length : Int)), (101, .int .i64 (i : Int)), (15, .int .u8 (q : Int)), (16, .int .u8 0), (112, .bool g)] _
              try have hzhb_g41 := hb.size
              refine Wq.next hK_98 ?_
              refine Wc.meet (X := Int) (fun d => [(0, str s), (1, .int .i64 10), (8, .bool false), (10, .int .u64 1844674407370955162), (11, .int .u64 9007199254740991), (12, .bool false), (13, .int .u64 (n : Int)), (99, .slice (some ⟨g_o94, 0, none⟩) s.length c_o94), (100, .int .i64 (s.length : Int)), (101, .int .i64 (i : Int)), (16, .int .u8 d)]) (fun d wr => Below w.heap.size w wr ∧ Rd wr 1 (some ⟨g_o94, 0, none⟩) s.length (u8s s) ∧ 0 ≤ d ∧ d < 256 ∧ ((d = (q : Int) - 48 ∧ 48 ≤ q ∧ q ≤ 57) ∨ (¬ Gd s ∧ 10 ≤ d))) (fun _ hM_111 => ?_) ?_
              ·
               refine Wc.cond rfl (fun c13_112 => ?_) (fun c13_112 => ?_)
               ·
                have c13_112_ := c13_112
                try simp only [decide_eq_true_eq, decide_eq_false_iff_not, beq_iff_eq, beq_eq_false_iff_ne, bne_iff_ne, bne_eq_false_iff_eq, Bool.not_eq_true', Bool.not_eq_false', Bool.not_eq_eq_eq_not, Bool.not_true, Bool.not_false, ne_eq, Int.not_lt, Int.not_le] at c13_112
                have hq9 : 48 ≤ q ∧ q ≤ 57 := by have h := c13_112_; rw [hg] at h; exact of_decide_eq_true h
                obtain ⟨d_, hd_⟩ : ∃ d_ : Int, d_ = IntKind.u8.wrap ((q : Int) - 48) := ⟨_, rfl⟩
                have hdd : 0 ≤ d_ ∧ d_ < 256 ∧ ((d_ = (q : Int) - 48 ∧ 48 ≤ q ∧ q ≤ 57) ∨ (¬ Gd s ∧ 10 ≤ d_)) := by rw [hd_, wrap_u8 _ (by omega) (by omega)]; omega
                refine Wc.region ?_
                refine Wl.y (y_move rfl) rfl ?_
                refine Wl.y (y_sub rfl rfl) rfl ?_
                refine Wl.y (y_assign rfl) rfl ?_
                refine Wl.nil ?_
                refine Wq.meet hM_111 (d_) (Sub.cons' rfl (by first | rfl | exact int_eq hd_.symm) (Sub.cons' rfl (by first | rfl | exact int_eq hd_.symm) (Sub.cons' rfl (by first | rfl | exact int_eq hd_.symm) (Sub.cons' rfl (by first | rfl | exact int_eq hd_.symm) (Sub.cons' rfl (by first | rfl | exact int_eq hd_.symm) (Sub.cons' rfl (by first | rfl | exact int_eq hd_.symm) (Sub.cons' rfl (by first | rfl | exact int_eq hd_.symm) (Sub.cons' rfl (by first | rfl | exact int_eq hd_.symm) (Sub.cons' rfl (by first | rfl | exact int_eq hd_.symm) (Sub.cons' rfl (by first | rfl | exact int_eq hd_.symm) (Sub.cons' rfl (by first | rfl | exact int_eq hd_.symm) (Sub.nil)))))))))))) ?_
                exact ⟨hb, hR_o94, hdd⟩
               ·
                have c13_112_ := c13_112
                try simp only [decide_eq_true_eq, decide_eq_false_iff_not, beq_iff_eq, beq_eq_false_iff_ne, bne_iff_ne, bne_eq_false_iff_eq, Bool.not_eq_true', Bool.not_eq_false', Bool.not_eq_eq_eq_not, Bool.not_true, Bool.not_false, ne_eq, Int.not_lt, Int.not_le] at c13_112
                have hq9 : ¬ (48 ≤ q ∧ q ≤ 57) := by have h := c13_112_; rw [hg] at h; exact of_decide_eq_false h
                have hng : ¬ Gd s := fun h => hq9 (by have h2 := h.at hil; rw [← hq] at h2; exact h2)
                refine Wc.seq fun _ hK_116 => ?_
                refine Wc.meet (X := Bool) (fun l => [(0, str s), (1, .int .i64 10), (8, .bool false), (10, .int .u64 1844674407370955162), (11, .int .u64 9007199254740991), (12, .bool false), (13, .int .u64 (n : Int)), (99, .slice (some ⟨g_o94, 0, none⟩) s.length c_o94), (100, .int .i64 (s.length : Int)), (101, .int .i64 (i : Int)), (15, .int .u8 (q : Int)), (16, .int .u8 0), (121, .bool l)]) (fun l wr => Below w.heap.size w wr ∧ Rd wr 1 (some ⟨g_o94, 0, none⟩) s.length (u8s s) ∧ l = decide (97 ≤ bits .or .u8 (q : Int) 32 ∧ bits .or .u8 (q : Int) 32 ≤ 122)) (fun _ hM_117 => ?_) ?_
                ·
                 refine Wc.region ?_
                 refine Wl.y (y_move rfl) rfl ?_
                 refine Wl.call txt168PrsA rfl rfl (lower_r _ _) rfl ?_
                 rintro _ w_ ⟨rfl, hw_⟩
                 have hw_ := hw_.symm; subst hw_
                 refine Wl.y (y_leqi rfl rfl) rfl ?_
                 refine Wl.y (y_move rfl) rfl ?_
                 refine Wl.guardT rfl rfl rfl (fun g_122 => ?_) (fun g_122 => ?_)
                 ·
                  have g_122_ := g_122
                  try simp only [decide_eq_true_eq, decide_eq_false_iff_not, beq_iff_eq, beq_eq_false_iff_ne, bne_iff_ne, bne_eq_false_iff_eq, Bool.not_eq_true', Bool.not_eq_false', Bool.not_eq_eq_eq_not, Bool.not_true, Bool.not_false, ne_eq, Int.not_lt, Int.not_le] at g_122
                  refine Wl.y (y_move rfl) rfl ?_
                  refine Wl.on' rfl rfl g_122_ ?_
                  refine Wl.call txt168PrsA rfl rfl (lower_r _ _) rfl ?_
                  rintro _ w_ ⟨rfl, hw_⟩
                  have hw_ := hw_.symm; subst hw_
                  refine Wl.on' rfl rfl g_122_ ?_
                  refine Wl.y (y_leqi rfl rfl) rfl ?_
                  refine Wl.y (y_pickT rfl g_122_ rfl) rfl ?_
                  refine Wl.y (y_assign rfl) rfl ?_
                  refine Wl.nil ?_
                  refine Wq.meet hM_117 (decide (97 ≤ bits .or .u8 (q : Int) 32 ∧ bits .or .u8 (q : Int) 32 ≤ 122)) (Sub.cons' rfl (by first | rfl | exact bool_eq (decide_eq_decide.2 (by have := g_122; omega)) | exact bool_eq (decide_eq_false (by have := g_122; omega)).symm) (Sub.cons' rfl (by first | rfl | exact bool_eq (decide_eq_decide.2 (by have := g_122; omega)) | exact bool_eq (decide_eq_false (by have := g_122; omega)).symm) (Sub.cons' rfl (by first | rfl | exact bool_eq (decide_eq_decide.2 (by have := g_122; omega)) | exact bool_eq (decide_eq_false (by have := g_122; omega)).symm) (Sub.cons' rfl (by first | rfl | exact bool_eq (decide_eq_decide.2 (by have := g_122; omega)) | exact bool_eq (decide_eq_false (by have := g_122; omega)).symm) (Sub.cons' rfl (by first | rfl | exact bool_eq (decide_eq_decide.2 (by have := g_122; omega)) | exact bool_eq (decide_eq_false (by have := g_122; omega)).symm) (Sub.cons' rfl (by first | rfl | exact bool_eq (decide_eq_decide.2 (by have := g_122; omega)) | exact bool_eq (decide_eq_false (by have := g_122; omega)).symm) (Sub.cons' rfl (by first | rfl | exact bool_eq (decide_eq_decide.2 (by have := g_122; omega)) | exact bool_eq (decide_eq_false (by have := g_122; omega)).symm) (Sub.cons' rfl (by first | rfl | exact bool_eq (decide_eq_decide.2 (by have := g_122; omega)) | exact bool_eq (decide_eq_false (by have := g_122; omega)).symm) (Sub.cons' rfl (by first | rfl | exact bool_eq (decide_eq_decide.2 (by have := g_122; omega)) | exact bool_eq (decide_eq_false (by have := g_122; omega)).symm) (Sub.cons' rfl (by first | rfl | exact bool_eq (decide_eq_decide.2 (by have := g_122; omega)) | exact bool_eq (decide_eq_false (by have := g_122; omega)).symm) (Sub.cons' rfl (by first | rfl | exact bool_eq (decide_eq_decide.2 (by have := g_122; omega)) | exact bool_eq (decide_eq_false (by have := g_122; omega)).symm) (Sub.cons' rfl (by first | rfl | exact bool_eq (decide_eq_decide.2 (by have := g_122; omega)) | exact bool_eq (decide_eq_false (by have := g_122; omega)).symm) (Sub.cons' rfl (by first | rfl | exact bool_eq (decide_eq_decide.2 (by have := g_122; omega)) | exact bool_eq (decide_eq_false (by have := g_122; omega)).symm) (Sub.nil)))))))))))))) ?_
                  exact ⟨hb, hR_o94, rfl⟩
                 ·
                  have g_122_ := g_122
                  try simp only [decide_eq_true_eq, decide_eq_false_iff_not, beq_iff_eq, beq_eq_false_iff_ne, bne_iff_ne, bne_eq_false_iff_eq, Bool.not_eq_true', Bool.not_eq_false', Bool.not_eq_eq_eq_not, Bool.not_true, Bool.not_false, ne_eq, Int.not_lt, Int.not_le] at g_122
                  refine Wl.off' rfl rfl g_122_ rfl rfl ?_
                  refine Wl.off' rfl rfl g_122_ rfl rfl ?_
                  refine Wl.y (y_pickF rfl g_122_ rfl) rfl ?_
                  refine Wl.y (y_assign rfl) rfl ?_
                  refine Wl.nil ?_
                  refine Wq.meet hM_117 (decide (97 ≤ bits .or .u8 (q : Int) 32 ∧ bits .or .u8 (q : Int) 32 ≤ 122)) (Sub.cons' rfl (by first | rfl | exact bool_eq (decide_eq_decide.2 (by have := g_122; omega)) | exact bool_eq (decide_eq_false (by have := g_122; omega)).symm) (Sub.cons' rfl (by first | rfl | exact bool_eq (decide_eq_decide.2 (by have := g_122; omega)) | exact bool_eq (decide_eq_false (by have := g_122; omega)).symm) (Sub.cons' rfl (by first | rfl | exact bool_eq (decide_eq_decide.2 (by have := g_122; omega)) | exact bool_eq (decide_eq_false (by have := g_122; omega)).symm) (Sub.cons' rfl (by first | rfl | exact bool_eq (decide_eq_decide.2 (by have := g_122; omega)) | exact bool_eq (decide_eq_false (by have := g_122; omega)).symm) (Sub.cons' rfl (by first | rfl | exact bool_eq (decide_eq_decide.2 (by have := g_122; omega)) | exact bool_eq (decide_eq_false (by have := g_122; omega)).symm) (Sub.cons' rfl (by first | rfl | exact bool_eq (decide_eq_decide.2 (by have := g_122; omega)) | exact bool_eq (decide_eq_false (by have := g_122; omega)).symm) (Sub.cons' rfl (by first | rfl | exact bool_eq (decide_eq_decide.2 (by have := g_122; omega)) | exact bool_eq (decide_eq_false (by have := g_122; omega)).symm) (Sub.cons' rfl (by first | rfl | exact bool_eq (decide_eq_decide.2 (by have := g_122; omega)) | exact bool_eq (decide_eq_false (by have := g_122; omega)).symm) (Sub.cons' rfl (by first | rfl | exact bool_eq (decide_eq_decide.2 (by have := g_122; omega)) | exact bool_eq (decide_eq_false (by have := g_122; omega)).symm) (Sub.cons' rfl (by first | rfl | exact bool_eq (decide_eq_decide.2 (by have := g_122; omega)) | exact bool_eq (decide_eq_false (by have := g_122; omega)).symm) (Sub.cons' rfl (by first | rfl | exact bool_eq (decide_eq_decide.2 (by have := g_122; omega)) | exact bool_eq (decide_eq_false (by have := g_122; omega)).symm) (Sub.cons' rfl (by first | rfl | exact bool_eq (decide_eq_decide.2 (by have := g_122; omega)) | exact bool_eq (decide_eq_false (by have := g_122; omega)).symm) (Sub.cons' rfl (by first | rfl | exact bool_eq (decide_eq_decide.2 (by have := g_122; omega)) | exact bool_eq (decide_eq_false (by have := g_122; omega)).symm) (Sub.nil)))))))))))))) ?_
                  exact ⟨hb, hR_o94, rfl⟩
                ·
                 rintro l wr hI_130
                 replace hI_130 : Below w.heap.size w wr ∧ Rd wr 1 (some ⟨g_o94, 0, none⟩) s.length (u8s s) ∧ l = decide (97 ≤ bits .or .u8 (q : Int) 32 ∧ bits .or .u8 (q : Int) 32 ≤ 122) := hI_130
                 obtain ⟨hb, hR_o94, hl⟩ := hI_130
                 show Wq _ _ _ _ [(0, str s), (1, .int .i64 10), (8, .bool false), (10, .int .u64 1844674407370955162), (11, .int .u64 9007199254740991), (12, .bool false), (13, .int .u64 (n : Int)), (99, .slice (some ⟨g_o94, 0, none⟩) s.length c_o94), (100, .int .i64 (s.length : Int)), (101, .int .i64 (i : Int)), (15, .int .u8 (q : Int)), (16, .int .u8 0), (121, .bool l)] _
                 try have hzhb_g43 := hb.size
                 refine Wq.next hK_116 ?_
                 refine Wc.cond rfl (fun c14_131 => ?_) (fun c14_131 => ?_)
                 ·
                  have c14_131_ := c14_131
                  try simp only [decide_eq_true_eq, decide_eq_false_iff_not, beq_iff_eq, beq_eq_false_iff_ne, bne_iff_ne, bne_eq_false_iff_eq, Bool.not_eq_true', Bool.not_eq_false', Bool.not_eq_eq_eq_not, Bool.not_true, Bool.not_false, ne_eq, Int.not_lt, Int.not_le] at c14_131
                  have hlo : 97 ≤ bits .or .u8 (q : Int) 32 ∧ bits .or .u8 (q : Int) 32 ≤ 122 := by have h := c14_131_; rw [hl] at h; exact of_decide_eq_true h
                  obtain ⟨d_, hd_⟩ : ∃ d_ : Int, d_ = IntKind.u8.wrap (IntKind.u8.wrap (bits .or .u8 (q : Int) 32 - 97) + 10) := ⟨_, rfl⟩
                  have hdd : 0 ≤ d_ ∧ d_ < 256 ∧ ((d_ = (q : Int) - 48 ∧ 48 ≤ q ∧ q ≤ 57) ∨ (¬ Gd s ∧ 10 ≤ d_)) := by rw [hd_, wrap_u8 (bits .or .u8 (q : Int) 32 - 97) (by omega) (by omega), wrap_u8 _ (by omega) (by omega)]; exact ⟨by omega, by omega, .inr ⟨hng, by omega⟩⟩
                  refine Wc.region ?_
                  refine Wl.y (y_move rfl) rfl ?_
                  refine Wl.call txt168PrsA rfl rfl (lower_r _ _) rfl ?_
                  rintro _ w_ ⟨rfl, hw_⟩
                  have hw_ := hw_.symm; subst hw_
                  refine Wl.y (y_sub rfl rfl) rfl ?_
                  refine Wl.y (y_add rfl rfl) rfl ?_
                  refine Wl.y (y_assign rfl) rfl ?_
                  refine Wl.nil ?_
                  refine Wq.meet hM_111 (d_) (Sub.cons' rfl (by first | rfl | exact int_eq hd_.symm) (Sub.cons' rfl (by first | rfl | exact int_eq hd_.symm) (Sub.cons' rfl (by first | rfl | exact int_eq hd_.symm) (Sub.cons' rfl (by first | rfl | exact int_eq hd_.symm) (Sub.cons' rfl (by first | rfl | exact int_eq hd_.symm) (Sub.cons' rfl (by first | rfl | exact int_eq hd_.symm) (Sub.cons' rfl (by first | rfl | exact int_eq hd_.symm) (Sub.cons' rfl (by first | rfl | exact int_eq hd_.symm) (Sub.cons' rfl (by first | rfl | exact int_eq hd_.symm) (Sub.cons' rfl (by first | rfl | exact int_eq hd_.symm) (Sub.cons' rfl (by first | rfl | exact int_eq hd_.symm) (Sub.nil)))))))))))) ?_
                  exact ⟨hb, hR_o94, hdd⟩
                 ·
                  have c14_131_ := c14_131
                  try simp only [decide_eq_true_eq, decide_eq_false_iff_not, beq_iff_eq, beq_eq_false_iff_ne, bne_iff_ne, bne_eq_false_iff_eq, Bool.not_eq_true', Bool.not_eq_false', Bool.not_eq_eq_eq_not, Bool.not_true, Bool.not_false, ne_eq, Int.not_lt, Int.not_le] at c14_131
                  refine Wc.seq fun _ hK_137 => ?_
                  refine Wc.region ?_
                  refine Wl.y (y_iface Tryz.underlying167 (by intro _ h; cases h) rfl) rfl ?_
                  refine Wl.y (y_assign rfl) rfl ?_
                  refine Wl.y (y_assign rfl) rfl ?_
                  refine Wl.nil ?_
                  refine Wq.next hK_137 ?_
                  refine Wc.ret ?_
                  refine Wq.then_ret (Wq.block_ret (Wq.then_ret (Wq.block_ret (Wq.then_ret (Wq.then_ret (Wq.block_ret (Wq.then_ret ?_)))))))
                  refine ret2 rfl rfl rfl ?_
                  exact ⟨_, rfl, ⟨0, _, rfl, .inr ⟨hng, by omega, 2, .inr rfl, rfl⟩⟩, hb⟩
              ·
               rintro d wr hI_141
               replace hI_141 : Below w.heap.size w wr ∧ Rd wr 1 (some ⟨g_o94, 0, none⟩) s.length (u8s s) ∧ 0 ≤ d ∧ d < 256 ∧ ((d = (q : Int) - 48 ∧ 48 ≤ q ∧ q ≤ 57) ∨ (¬ Gd s ∧ 10 ≤ d)) := hI_141
               obtain ⟨hb, hR_o94, hd0, hd1, hdd⟩ := hI_141
               show Wq _ _ _ _ [(0, str s), (1, .int .i64 10), (8, .bool false), (10, .int .u64 1844674407370955162), (11, .int .u64 9007199254740991), (12, .bool false), (13, .int .u64 (n : Int)), (99, .slice (some ⟨g_o94, 0, none⟩) s.length c_o94), (100, .int .i64 (s.length : Int)), (101, .int .i64 (i : Int)), (16, .int .u8 d)] _
               try have hzhb_c13 := hb.size
               refine Wq.block_normal ?_
               refine Wq.next hK_84 ?_
               refine Wc.seq fun _ hK_142 => ?_
               refine Wc.seq fun _ hK_143 => ?_
               refine Wc.region ?_
               refine Wl.y (y_move rfl) rfl ?_
               refine Wl.y (y_move rfl) rfl ?_
               refine Wl.y (y_eq (y_convi Tryz.underlying3 Tryz.underlying5 rfl) (int_eq (show _ = (10 : Int) by rfl))) rfl ?_
               refine Wl.y (y_geqi rfl rfl) rfl ?_
               refine Wl.nil ?_
               refine Wq.next hK_143 ?_
               refine Wc.cond rfl (fun c15_148 => ?_) (fun c15_148 => ?_)
               ·
                have c15_148_ := c15_148
                try simp only [decide_eq_true_eq, decide_eq_false_iff_not, beq_iff_eq, beq_eq_false_iff_ne, bne_iff_ne, bne_eq_false_iff_eq, Bool.not_eq_true', Bool.not_eq_false', Bool.not_eq_eq_eq_not, Bool.not_true, Bool.not_false, ne_eq, Int.not_lt, Int.not_le] at c15_148
                refine Wc.seq fun _ hK_149 => ?_
                refine Wc.region ?_
                refine Wl.y (y_iface Tryz.underlying167 (by intro _ h; cases h) rfl) rfl ?_
                refine Wl.y (y_assign rfl) rfl ?_
                refine Wl.y (y_assign rfl) rfl ?_
                refine Wl.nil ?_
                refine Wq.next hK_149 ?_
                refine Wc.ret ?_
                refine Wq.then_ret (Wq.block_ret (Wq.then_ret (Wq.then_ret (Wq.block_ret (Wq.then_ret ?_)))))
                refine ret2 rfl rfl rfl ?_
                exact ⟨_, rfl, ⟨0, _, rfl, .inr ⟨by rcases hdd with h | h; (have := c15_148; omega); exact h.1, by omega, 2, .inr rfl, rfl⟩⟩, hb⟩
               ·
                have c15_148_ := c15_148
                try simp only [decide_eq_true_eq, decide_eq_false_iff_not, beq_iff_eq, beq_eq_false_iff_ne, bne_iff_ne, bne_eq_false_iff_eq, Bool.not_eq_true', Bool.not_eq_false', Bool.not_eq_eq_eq_not, Bool.not_true, Bool.not_false, ne_eq, Int.not_lt, Int.not_le] at c15_148
                obtain ⟨e, rfl⟩ : ∃ e : Nat, d = e := ⟨d.toNat, by omega⟩
                have he : (e : Int) = (q : Int) - 48 ∧ e < 10 := by have := c15_148; omega
                refine Wc.skip ?_
                refine Wq.next hK_142 ?_
                refine Wc.seq fun _ hK_153 => ?_
                refine Wc.seq fun _ hK_154 => ?_
                refine Wc.region ?_
                refine Wl.y (y_move rfl) rfl ?_
                refine Wl.y (y_move rfl) rfl ?_
                refine Wl.y (y_geqi rfl rfl) rfl ?_
                refine Wl.nil ?_
                refine Wq.next hK_154 ?_
                refine Wc.cond rfl (fun c16_158 => ?_) (fun c16_158 => ?_)
                ·
                 have c16_158_ := c16_158
                 try simp only [decide_eq_true_eq, decide_eq_false_iff_not, beq_iff_eq, beq_eq_false_iff_ne, bne_iff_ne, bne_eq_false_iff_eq, Bool.not_eq_true', Bool.not_eq_false', Bool.not_eq_eq_eq_not, Bool.not_true, Bool.not_false, ne_eq, Int.not_lt, Int.not_le] at c16_158
                 omega
                ·
                 have c16_158_ := c16_158
                 try simp only [decide_eq_true_eq, decide_eq_false_iff_not, beq_iff_eq, beq_eq_false_iff_ne, bne_iff_ne, bne_eq_false_iff_eq, Bool.not_eq_true', Bool.not_eq_false', Bool.not_eq_eq_eq_not, Bool.not_true, Bool.not_false, ne_eq, Int.not_lt, Int.not_le] at c16_158
                 refine Wc.skip ?_
                 refine Wq.next hK_153 ?_
                 refine Wc.seq fun _ hK_159 => ?_
                 refine Wc.region ?_
                 refine Wl.y (y_move rfl) rfl ?_
                 refine Wl.y (y_move rfl) rfl ?_
                 refine Wl.y (y_eq (y_convi Tryz.underlying3 Tryz.underlying22 rfl) (int_eq (show _ = (10 : Int) by rfl))) rfl ?_
                 refine Wl.y (y_eq (y_mul rfl rfl) (int_eq (show _ = ((n * 10 : Nat) : Int) by rw [wrap_u64 _ (by omega) (by omega)]; omega))) rfl ?_
                 refine Wl.y (y_assign rfl) rfl ?_
                 refine Wl.nil ?_
                 refine Wq.next hK_159 ?_
                 refine Wc.seq fun _ hK_165 => ?_
                 refine Wc.region ?_
                 refine Wl.y (y_move rfl) rfl ?_
                 refine Wl.y (y_move rfl) rfl ?_
                 refine Wl.y (y_eq (y_convi Tryz.underlying5 Tryz.underlying22 rfl) (int_eq (show _ = (e : Int) by rw [wrap_u64 _ (by omega) (by omega)]))) rfl ?_
                 refine Wl.y (y_eq (y_add rfl rfl) (int_eq (show _ = ((n * 10 + e : Nat) : Int) by rw [wrap_u64 _ (by omega) (by omega)]; omega))) rfl ?_
                 refine Wl.y (y_assign rfl) rfl ?_
                 refine Wl.nil ?_
                 refine Wq.next hK_165 ?_
                 refine Wc.seq fun _ hK_171 => ?_
                 refine Wc.seq fun _ hK_172 => ?_
                 refine Wc.region ?_
                 refine Wl.y (y_move rfl) rfl ?_
                 refine Wl.y (y_move rfl) rfl ?_
                 refine Wl.y (y_lssi rfl rfl) rfl ?_
                 refine Wl.y (y_move rfl) rfl ?_
                 refine Wl.guardF rfl rfl rfl (fun g_177 => ?_) (fun g_177 => ?_)
                 ·
                  have g_177_ := g_177
                  try simp only [decide_eq_true_eq, decide_eq_false_iff_not, beq_iff_eq, beq_eq_false_iff_ne, bne_iff_ne, bne_eq_false_iff_eq, Bool.not_eq_true', Bool.not_eq_false', Bool.not_eq_eq_eq_not, Bool.not_true, Bool.not_false, ne_eq, Int.not_lt, Int.not_le] at g_177
                  omega
                 ·
                  have g_177_ := g_177
                  try simp only [decide_eq_true_eq, decide_eq_false_iff_not, beq_iff_eq, beq_eq_false_iff_ne, bne_iff_ne, bne_eq_false_iff_eq, Bool.not_eq_true', Bool.not_eq_false', Bool.not_eq_eq_eq_not, Bool.not_true, Bool.not_false, ne_eq, Int.not_lt, Int.not_le] at g_177
                  refine Wl.y (y_move rfl) rfl ?_
                  refine Wl.on' rfl rfl g_177_ ?_
                  refine Wl.y (y_move rfl) rfl ?_
                  refine Wl.on' rfl rfl g_177_ ?_
                  refine Wl.y (y_gtri rfl rfl) rfl ?_
                  refine Wl.y (y_pickF rfl g_177_ rfl) rfl ?_
                  refine Wl.nil ?_
                  refine Wq.next hK_172 ?_
                  refine Wc.cond rfl (fun c17_182 => ?_) (fun c17_182 => ?_)
                  ·
                   have c17_182_ := c17_182
                   try simp only [decide_eq_true_eq, decide_eq_false_iff_not, beq_iff_eq, beq_eq_false_iff_ne, bne_iff_ne, bne_eq_false_iff_eq, Bool.not_eq_true', Bool.not_eq_false', Bool.not_eq_eq_eq_not, Bool.not_true, Bool.not_false, ne_eq, Int.not_lt, Int.not_le] at c17_182
                   refine Wc.seq fun _ hK_183 => ?_
                   refine Wc.region ?_
                   refine Wl.y (y_move rfl) rfl ?_
                   refine Wl.y (y_iface Tryz.underlying167 (by intro _ h; cases h) rfl) rfl ?_
                   refine Wl.y (y_assign rfl) rfl ?_
                   refine Wl.y (y_assign rfl) rfl ?_
                   refine Wl.nil ?_
                   refine Wq.next hK_183 ?_
                   refine Wc.ret ?_
                   refine Wq.then_ret (Wq.block_ret (Wq.then_ret (Wq.then_ret (Wq.block_ret (Wq.then_ret ?_)))))
                   refine ret2 rfl rfl rfl ?_
                   exact ⟨_, rfl, ⟨9007199254740991, _, rfl, .inr ⟨fun hg => by have h := (gd_next hil hv hg).2; have := c17_182; rw [← hq] at h; omega, by omega, 1, .inl rfl, rfl⟩⟩, hb⟩
                  ·
                   have c17_182_ := c17_182
                   try simp only [decide_eq_true_eq, decide_eq_false_iff_not, beq_iff_eq, beq_eq_false_iff_ne, bne_iff_ne, bne_eq_false_iff_eq, Bool.not_eq_true', Bool.not_eq_false', Bool.not_eq_eq_eq_not, Bool.not_true, Bool.not_false, ne_eq, Int.not_lt, Int.not_le] at c17_182
                   refine Wc.skip ?_
                   refine Wq.next hK_171 ?_
                   refine Wc.region ?_
                   refine Wl.y (y_move rfl) rfl ?_
                   refine Wl.y (y_assign rfl) rfl ?_
                   refine Wl.nil ?_
                   refine Wq.block_normal ?_
                   refine Wq.next hK_77 ?_
                   refine Wc.region ?_
                   refine Wl.y (y_addI rfl rfl (by first | omega | (simp; done) | (simp; omega)) (by first | omega | (simp; done) | (simp; omega))) rfl ?_
                   refine Wl.y (y_move rfl) rfl ?_
                   refine Wl.nil ?_
                   refine fun a_ ha_ => hL_71 _ _ (⟨i + 1, n * 10 + e⟩) (by first | omega | (simp; omega)) (Sub.cons' rfl (by first | rfl | exact int_eq (by omega)) (Sub.cons' rfl (by first | rfl | exact int_eq (by omega)) (Sub.cons' rfl (by first | rfl | exact int_eq (by omega)) (Sub.cons' rfl (by first | rfl | exact int_eq (by omega)) (Sub.cons' rfl (by first | rfl | exact int_eq (by omega)) (Sub.cons' rfl (by first | rfl | exact int_eq (by omega)) (Sub.cons' rfl (by first | rfl | exact int_eq (by omega)) (Sub.cons' rfl (by first | rfl | exact int_eq (by omega)) (Sub.cons' rfl (by first | rfl | exact int_eq (by omega)) (Sub.cons' rfl (by first | rfl | exact int_eq (by omega)) (Sub.nil))))))))))) ?_ a_ ha_
                   exact ⟨by omega, by omega, hb, hR_o94, fun hg => by have h := (gd_next hil hv hg).1; rw [← hq] at h; rw [← h]; omega⟩
          ·
           have c11_76_ := c11_76
           try simp only [decide_eq_true_eq, decide_eq_false_iff_not, beq_iff_eq, beq_eq_false_iff_ne, bne_iff_ne, bne_eq_false_iff_eq, Bool.not_eq_true', Bool.not_eq_false', Bool.not_eq_eq_eq_not, Bool.not_true, Bool.not_false, ne_eq, Int.not_lt, Int.not_le] at c11_76
           refine Wc.exit ?_
           refine Wq.then_exit ?_
           refine Wq.then_exit ?_
           refine Wq.block_exit ?_
           refine Wq.next hK_65 ?_
           refine Wc.seq fun _ hK_192 => ?_
           refine Wc.seq fun _ hK_193 => ?_
           refine Wc.region ?_
           refine Wl.y (y_move rfl) rfl ?_
           refine Wl.y (y_move rfl) rfl ?_
           refine Wl.guardT rfl rfl rfl (fun g_196 => ?_) (fun g_196 => ?_)
           ·
            have g_196_ := g_196
            try simp only [decide_eq_true_eq, decide_eq_false_iff_not, beq_iff_eq, beq_eq_false_iff_ne, bne_iff_ne, bne_eq_false_iff_eq, Bool.not_eq_true', Bool.not_eq_false', Bool.not_eq_eq_eq_not, Bool.not_true, Bool.not_false, ne_eq, Int.not_lt, Int.not_le] at g_196
            cases g_196_
           ·
            have g_196_ := g_196
            try simp only [decide_eq_true_eq, decide_eq_false_iff_not, beq_iff_eq, beq_eq_false_iff_ne, bne_iff_ne, bne_eq_false_iff_eq, Bool.not_eq_true', Bool.not_eq_false', Bool.not_eq_eq_eq_not, Bool.not_true, Bool.not_false, ne_eq, Int.not_lt, Int.not_le] at g_196
            refine Wl.off' rfl rfl g_196_ rfl rfl ?_
            refine Wl.off' rfl rfl g_196_ rfl rfl ?_
            refine Wl.y (y_pickF rfl g_196_ rfl) rfl ?_
            refine Wl.nil ?_
            refine Wq.next hK_193 ?_
            refine Wc.condF rfl rfl ?_
            refine Wc.skip ?_
            refine Wq.next hK_192 ?_
            refine Wc.seq fun _ hK_198 => ?_
            refine Wc.region ?_
            refine Wl.y (y_move rfl) rfl ?_
            refine Wl.y (y_assign rfl) rfl ?_
            refine Wl.y (y_assign rfl) rfl ?_
            refine Wl.nil ?_
            refine Wq.next hK_198 ?_
            refine Wc.ret ?_
            refine ret2 rfl rfl rfl ?_
            exact ⟨_, rfl, ⟨_, _, rfl, .inl ⟨rfl, hn, fun hg => by rw [hv hg, List.take_of_length_le (by omega)]⟩⟩, hb⟩
        ·
         have c9_53_ := c9_53
         try simp only [decide_eq_true_eq, decide_eq_false_iff_not, beq_iff_eq, beq_eq_false_iff_ne, bne_iff_ne, bne_eq_false_iff_eq, Bool.not_eq_true', Bool.not_eq_false', Bool.not_eq_eq_eq_not, Bool.not_true, Bool.not_false, ne_eq, Int.not_lt, Int.not_le] at c9_53
         cases c9_53_
    ·
     have c1_30_ := c1_30
     try simp only [decide_eq_true_eq, decide_eq_false_iff_not, beq_iff_eq, beq_eq_false_iff_ne, bne_iff_ne, bne_eq_false_iff_eq, Bool.not_eq_true', Bool.not_eq_false', Bool.not_eq_eq_eq_not, Bool.not_true, Bool.not_false, ne_eq, Int.not_lt, Int.not_le] at c1_30
     cases c1_30_
   ·
    have g_25_ := g_25
    try simp only [decide_eq_true_eq, decide_eq_false_iff_not, beq_iff_eq, beq_eq_false_iff_ne, bne_iff_ne, bne_eq_false_iff_eq, Bool.not_eq_true', Bool.not_eq_false', Bool.not_eq_eq_eq_not, Bool.not_true, Bool.not_false, ne_eq, Int.not_lt, Int.not_le] at g_25
    cases g_25_
end Go.Proofs.YtcljmclolpgdmaaGreatDoor
