/- value.unquoted. -/
import Derived.Test.YtcljmclolpgdmaaGreatDoorBld
namespace Go.Proofs.YtcljmclolpgdmaaGreatDoor
open Go.RowKit Go.Bw Go.Bw.Fl
set_option linter.unusedVariables false
set_option linter.unusedSimpArgs false
theorem txt55Unq : Txt Tryz.prog 55 := ⟨_, Tryz.func55, by kernel_rfl, rfl⟩   -- strings.IndexByte
theorem txt80Unq : Txt Tryz.prog 80 := ⟨_, Tryz.func80, by kernel_rfl, rfl⟩   -- (*strings.Builder).String
theorem txt81Unq : Txt Tryz.prog 81 := ⟨_, Tryz.func81, by kernel_rfl, rfl⟩   -- (*strings.Builder).WriteByte
def escV (d : UInt8) : Option UInt8 := if d = 92 then some 92 else if d = 39 then some 39 else if d = 110 then some 10 else none
/-- the rest of a quoted text, from place i on; a: what was told of it -/
def uqGo : List UInt8 → Nat → List UInt8 → List UInt8 × Nat
  | [], _, _ => ([], 0)
  | [c], i, a => if c = 39 then (a, i + 1) else ([], 0)
  | c :: d :: r, i, a => if c = 39 then (a, i + 1) else if c = 10 then ([], 0) else if c = 92 then (match escV d with | none => ([], 0) | some e => uqGo r (i + 2) (a ++ [e])) else uqGo (d :: r) (i + 1) (a ++ [c])
def uqV (s : List UInt8) : List UInt8 × Nat := uqGo (s.drop 1) 1 []
theorem drop_at {s : List UInt8} {i : Nat} (h : i < s.length) : s.drop i = s.getD i 0 :: s.drop (i + 1) := by
  rw [List.drop_eq_getElem_cons h]; simp [List.getD, List.getElem?_eq_getElem h]
theorem uq_end {s : List UInt8} {i : Nat} (a : List UInt8) (h : ¬ i < s.length) : uqGo (s.drop i) i a = ([], 0) := by
  rw [List.drop_eq_nil_of_le (by omega), uqGo]
theorem uq_quote {s : List UInt8} {i : Nat} (a : List UInt8) (h : i < s.length) (hc : s.getD i 0 = 39) : uqGo (s.drop i) i a = (a, i + 1) := by
  rw [drop_at h]
  cases hd : s.drop (i + 1) with
  | nil => rw [uqGo, if_pos hc]
  | cons d r => rw [uqGo, if_pos hc]
theorem uq_feed {s : List UInt8} {i : Nat} (a : List UInt8) (h : i < s.length) (hc : s.getD i 0 = 10) : uqGo (s.drop i) i a = ([], 0) := by
  rw [drop_at h, hc]
  cases hd : s.drop (i + 1) with
  | nil => rw [uqGo, if_neg (by decide)]
  | cons d r => rw [uqGo, if_neg (by decide), if_pos rfl]
theorem uq_last {s : List UInt8} {i : Nat} (a : List UInt8) (h : i < s.length) (hc : s.getD i 0 = 92) (hl : i + 1 = s.length) : uqGo (s.drop i) i a = ([], 0) := by
  rw [drop_at h, List.drop_eq_nil_of_le (by omega), hc, uqGo, if_neg (by decide)]
theorem uq_esc {s : List UInt8} {i : Nat} (a : List UInt8) (h : i + 1 < s.length) (hc : s.getD i 0 = 92) : uqGo (s.drop i) i a = match escV (s.getD (i + 1) 0) with | none => ([], 0) | some e => uqGo (s.drop (i + 2)) (i + 2) (a ++ [e]) := by
  rw [drop_at (by omega : i < s.length), hc, drop_at h, uqGo, if_neg (by decide), if_neg (by decide), if_pos rfl]
theorem uq_plain {s : List UInt8} {i : Nat} (a : List UInt8) (h : i < s.length) (h1 : s.getD i 0 ≠ 39) (h2 : s.getD i 0 ≠ 10) (h3 : s.getD i 0 ≠ 92) : uqGo (s.drop i) i a = uqGo (s.drop (i + 1)) (i + 1) (a ++ [s.getD i 0]) := by
  rw [drop_at h]
  cases hd : s.drop (i + 1) with
  | nil => rw [show uqGo [s.getD i 0] i a = ([], 0) by rw [uqGo, if_neg h1], uqGo]
  | cons d r => rw [uqGo, if_neg h1, if_neg h2, if_neg h3]
theorem esc_idx (d : UInt8) : (Lib.indexByte [92, 39, 110] d = -1 ∧ escV d = none) ∨ ∃ k : Nat, k < 3 ∧ Lib.indexByte [92, 39, 110] d = (k : Int) ∧ escV d = some (([92, 39, 10] : List UInt8).getD k 0) := by
  by_cases h1 : d = 92
  · subst h1; exact .inr ⟨0, by decide, by decide, by decide⟩
  · by_cases h2 : d = 39
    · subst h2; exact .inr ⟨1, by decide, by decide, by decide⟩
    · by_cases h3 : d = 110
      · subst h3; exact .inr ⟨2, by decide, by decide, by decide⟩
      · refine .inl ⟨?_, by unfold escV; rw [if_neg h1, if_neg h2, if_neg h3]⟩
        have e1 : ((92 : UInt8) == d) = false := by simp; exact fun h => h1 h.symm
        have e2 : ((39 : UInt8) == d) = false := by simp; exact fun h => h2 h.symm
        have e3 : ((110 : UInt8) == d) = false := by simp; exact fun h => h3 h.symm
        simp [Lib.indexByte, e1, e2, e3]
theorem IndexByteU_r (s : List UInt8) (d : UInt8) (w : World) : Ret Tryz.prog 55 [str s, .int .u8 (d.toNat : Int)] w fun v w' => (∃ z, v = .int .i64 z ∧ z = Lib.indexByte s d) ∧ w' = w :=
  (IndexByte_r s (d.toNat : Int) w).mono fun v w' ⟨h1, h2⟩ => ⟨⟨_, h1, by simp⟩, h2⟩
theorem u8_of {c : UInt8} {n : Nat} (h : (c.toNat : Int) = (n : Int)) (hn : n < 256) : c = UInt8.ofNat n := by
  apply UInt8.toNat_inj.1; rw [UInt8.toNat_ofNat']; omega
theorem u8_not {c : UInt8} {n : Nat} (h : ¬ (c.toNat : Int) = (n : Int)) (hn : n < 256) : c ≠ UInt8.ofNat n := fun e => h (by rw [e, UInt8.toNat_ofNat']; omega)
theorem uq_val {s l : List UInt8} {n : Nat} {m : Int} (h : uqV s = (l, n)) (hm : m = (n : Int)) : Value.tuple #[str l, .int .i64 m] = .tuple #[str (uqV s).1, .int .i64 ((uqV s).2 : Nat)] := by rw [h, hm]
theorem BString_r (B b : Nat) (l : List UInt8) (w : World) (h : Lib.IsBuilder 111 5 B b (Lib.byteCells l) w) (hB : B ≤ w.heap.size) : Ret Tryz.prog 80 [.pointer (some ⟨b, 0, none⟩)] w fun v w' => v = str l ∧ Below B w w' :=
  Calls.mono (Tryz.Builder_String_any B b l w h hB) fun e w' ⟨h1, h2⟩ => ⟨_, h1, rfl, h2⟩
theorem unquoted_r (s : List UInt8) (hs : s.length ≤ 140737488355328) (w : World) : Ret Tryz.prog 42 [str s] w fun v w' => v = .tuple #[str (uqV s).1, .int .i64 ((uqV s).2 : Nat)] ∧ Below w.heap.size w w' := by
  have h3 : ([92, 39, 110] : List UInt8).length = 3 := rfl
  have h4 : ([92, 39, 10] : List UInt8).length = 3 := rfl
  have hb := Below.refl w.heap.size w
  refine enter Tryz.func42 rfl rfl rfl ?_
  refine Wc.seq fun _ hK_1 => ?_
  refine Wc.region ?_
  refine Wl.y (y_assign rfl) rfl ?_
  refine Wl.y (y_assign rfl) rfl ?_
  refine Wl.nil ?_
  refine Wq.next hK_1 ?_
  refine Wc.seq fun _ hK_4 => ?_
  refine Wc.region ?_
  refine Wl.allocN (z := (.agg #[(.pointer none), (.slice none 0 0)])) (by kernel_rfl) rfl ?_
  rintro g_o2 w_o2 hg_o2 hn_o2 hs_o2
  have hz_o2 := hs_o2.size
  have hb := hb.trans (hs_o2.mono hb.size)
  have hB_o2 := hn_o2
  have hl_o2 := hB_o2.lt
  refine Wl.nil ?_
  refine Wq.next hK_4 ?_
  refine Wc.seq fun _ hK_6 => ?_
  refine Wc.seq fun _ hK_7 => ?_
  refine Wc.region ?_
  refine Wl.y (y_assign rfl) rfl ?_
  refine Wl.nil ?_
  refine Wq.next hK_7 ?_
  refine Wc.block ?_
  refine Wc.loop (X := Nat × List UInt8) (fun (i, l) => [(0, str s), (4, .pointer (some ⟨g_o2, 0, none⟩)), (5, .int .i64 (i : Int))]) (fun (i, l) wr => 1 ≤ i ∧ i ≤ s.length + 1 ∧ l.length < i ∧ uqV s = uqGo (s.drop i) i l ∧ Below w.heap.size w wr ∧ Lib.IsBuilder 111 5 w.heap.size g_o2 (Lib.byteCells l) wr) (fun (i, l) => s.length + 1 - i) (⟨1, []⟩) ?_ ?_ ?_
  · exact Sub.cons' rfl (by first | rfl | exact int_eq (by omega)) (Sub.cons' rfl (by first | rfl | exact int_eq (by omega)) (Sub.cons' rfl (by first | rfl | exact int_eq (by omega)) (Sub.nil)))
  · exact ⟨by omega, by omega, Nat.lt_succ_self 0, rfl, hb, .inl ⟨hg_o2, _, hB_o2, World.ownsRow_nil _ _ _ _, by simp [Value.ownBlock]⟩⟩
  ·
   rintro ⟨i, l⟩ wr hI_10 _ hL_9
   replace hI_10 : 1 ≤ i ∧ i ≤ s.length + 1 ∧ l.length < i ∧ uqV s = uqGo (s.drop i) i l ∧ Below w.heap.size w wr ∧ Lib.IsBuilder 111 5 w.heap.size g_o2 (Lib.byteCells l) wr := hI_10
   obtain ⟨hi1, hi2, hl, hu, hb, hI⟩ := hI_10
   show Wc _ _ _ _ _ [(0, str s), (4, .pointer (some ⟨g_o2, 0, none⟩)), (5, .int .i64 (i : Int))] _
   try have hzhb_L0 := hb.size
   refine Wc.seq fun _ hK_11 => ?_
   refine Wc.seq fun _ hK_12 => ?_
   refine Wc.region ?_
   refine Wl.y (y_move rfl) rfl ?_
   refine Wl.y (y_move rfl) rfl ?_
   refine Wl.y (y_lens Tryz.underlying9 (by omega) rfl) rfl ?_
   refine Wl.y (y_lssi rfl rfl) rfl ?_
   refine Wl.nil ?_
   refine Wq.next hK_12 ?_
   refine Wc.cond rfl (fun c0_17 => ?_) (fun c0_17 => ?_)
   ·
    have c0_17_ := c0_17
    try simp only [decide_eq_true_eq, decide_eq_false_iff_not, beq_iff_eq, beq_eq_false_iff_ne, bne_iff_ne, bne_eq_false_iff_eq, Bool.not_eq_true', Bool.not_eq_false', Bool.not_eq_eq_eq_not, Bool.not_true, Bool.not_false, ne_eq, Int.not_lt, Int.not_le] at c0_17
    have hil : i < s.length := by have := c0_17; omega
    obtain ⟨c, hc⟩ : ∃ c, c = s.getD i 0 := ⟨_, rfl⟩
    refine Wc.skip ?_
    refine Wq.next hK_11 ?_
    refine Wc.seq fun _ hK_18 => ?_
    refine Wc.block ?_
    refine Wc.seq fun _ hK_19 => ?_
    refine Wc.region ?_
    refine Wl.y (y_move rfl) rfl ?_
    refine Wl.y (y_move rfl) rfl ?_
    refine Wl.y (y_eq (y_indexs Tryz.underlying9 rfl rfl (by omega) (by omega)) (int_eq (show _ = (c.toNat : Int) by rw [hc, Int.toNat_natCast]))) rfl ?_
    refine Wl.y (y_assign rfl) rfl ?_
    refine Wl.nil ?_
    refine Wq.next hK_19 ?_
    refine Wc.block ?_
    refine Wc.seq fun _ hK_24 => ?_
    refine Wc.region ?_
    refine Wl.y (y_move rfl) rfl ?_
    refine Wl.y (y_eqli rfl rfl) rfl ?_
    refine Wl.y (y_assign rfl) rfl ?_
    refine Wl.nil ?_
    refine Wq.next hK_24 ?_
    refine Wc.cond rfl (fun c1_28 => ?_) (fun c1_28 => ?_)
    ·
     have c1_28_ := c1_28
     try simp only [decide_eq_true_eq, decide_eq_false_iff_not, beq_iff_eq, beq_eq_false_iff_ne, bne_iff_ne, bne_eq_false_iff_eq, Bool.not_eq_true', Bool.not_eq_false', Bool.not_eq_eq_eq_not, Bool.not_true, Bool.not_false, ne_eq, Int.not_lt, Int.not_le] at c1_28
     have hcq : s.getD i 0 = 39 := by rw [← hc]; exact u8_of (n := 39) c1_28 (by decide)
     refine Wc.seq fun _ hK_29 => ?_
     refine Wc.region ?_
     refine Wl.call txt80Unq rfl rfl (BString_r w.heap.size g_o2 l _ hI hb.size) rfl ?_
     rintro _ w2 ⟨rfl, hs2⟩
     refine Wl.y (y_move rfl) rfl ?_
     refine Wl.y (y_addI rfl rfl (by first | omega | (simp; done) | (simp; omega)) (by first | omega | (simp; done) | (simp; omega))) rfl ?_
     refine Wl.y (y_assign rfl) rfl ?_
     refine Wl.y (y_assign rfl) rfl ?_
     refine Wl.nil ?_
     refine Wq.next hK_29 ?_
     refine Wc.ret ?_
     refine Wq.block_ret (Wq.block_ret (Wq.then_ret (Wq.then_ret (Wq.block_ret (Wq.then_ret ?_)))))
     refine ret2 rfl rfl rfl ?_
     exact ⟨_, rfl, uq_val (hu.trans (uq_quote l hil hcq)) (by omega), hb.trans hs2⟩
    ·
     have c1_28_ := c1_28
     try simp only [decide_eq_true_eq, decide_eq_false_iff_not, beq_iff_eq, beq_eq_false_iff_ne, bne_iff_ne, bne_eq_false_iff_eq, Bool.not_eq_true', Bool.not_eq_false', Bool.not_eq_eq_eq_not, Bool.not_true, Bool.not_false, ne_eq, Int.not_lt, Int.not_le] at c1_28
     have hcq : s.getD i 0 ≠ 39 := by rw [← hc]; exact u8_not (n := 39) c1_28 (by decide)
     refine Wc.seq fun _ hK_35 => ?_
     refine Wc.meet (X := Bool) (fun q => [(0, str s), (4, .pointer (some ⟨g_o2, 0, none⟩)), (5, .int .i64 (i : Int)), (6, .int .u8 (c.toNat : Int)), (25, .bool q)]) (fun q wr => q = decide ((c.toNat : Int) = 10 ∨ ((c.toNat : Int) = 92 ∧ (i : Int) + 1 = s.length)) ∧ Below w.heap.size w wr ∧ Lib.IsBuilder 111 5 w.heap.size g_o2 (Lib.byteCells l) wr) (fun _ hM_36 => ?_) ?_
     ·
      refine Wc.region ?_
      refine Wl.y (y_move rfl) rfl ?_
      refine Wl.y (y_eqli rfl rfl) rfl ?_
      refine Wl.y (y_move rfl) rfl ?_
      refine Wl.guardF rfl rfl rfl (fun g_40 => ?_) (fun g_40 => ?_)
      ·
       have g_40_ := g_40
       try simp only [decide_eq_true_eq, decide_eq_false_iff_not, beq_iff_eq, beq_eq_false_iff_ne, bne_iff_ne, bne_eq_false_iff_eq, Bool.not_eq_true', Bool.not_eq_false', Bool.not_eq_eq_eq_not, Bool.not_true, Bool.not_false, ne_eq, Int.not_lt, Int.not_le] at g_40
       refine Wl.off' rfl rfl g_40_ rfl rfl ?_
       refine Wl.off' rfl rfl g_40_ rfl rfl ?_
       refine Wl.offU rfl rfl rfl ?_
       refine Wl.offU rfl rfl rfl ?_
       refine Wl.offU rfl rfl rfl ?_
       refine Wl.offU rfl rfl rfl ?_
       refine Wl.offU rfl rfl rfl ?_
       refine Wl.off' rfl rfl g_40_ rfl rfl ?_
       refine Wl.y (y_pickT rfl g_40_ rfl) rfl ?_
       refine Wl.y (y_assign rfl) rfl ?_
       refine Wl.nil ?_
       refine Wq.meet hM_36 (decide ((c.toNat : Int) = 10 ∨ ((c.toNat : Int) = 92 ∧ (i : Int) + 1 = s.length))) (Sub.cons' rfl (by first | rfl | exact bool_eq (by rw [Bool.eq_iff_iff]; simp; omega)) (Sub.cons' rfl (by first | rfl | exact bool_eq (by rw [Bool.eq_iff_iff]; simp; omega)) (Sub.cons' rfl (by first | rfl | exact bool_eq (by rw [Bool.eq_iff_iff]; simp; omega)) (Sub.cons' rfl (by first | rfl | exact bool_eq (by rw [Bool.eq_iff_iff]; simp; omega)) (Sub.cons' rfl (by first | rfl | exact bool_eq (by rw [Bool.eq_iff_iff]; simp; omega)) (Sub.nil)))))) ?_
       exact ⟨rfl, hb, hI⟩
      ·
       have g_40_ := g_40
       try simp only [decide_eq_true_eq, decide_eq_false_iff_not, beq_iff_eq, beq_eq_false_iff_ne, bne_iff_ne, bne_eq_false_iff_eq, Bool.not_eq_true', Bool.not_eq_false', Bool.not_eq_eq_eq_not, Bool.not_true, Bool.not_false, ne_eq, Int.not_lt, Int.not_le] at g_40
       refine Wl.y (y_move rfl) rfl ?_
       refine Wl.on' rfl rfl g_40_ ?_
       refine Wl.y (y_eqli rfl rfl) rfl ?_
       refine Wl.on' rfl rfl g_40_ ?_
       refine Wl.y (y_move rfl) rfl ?_
       refine Wl.guardT rfl rfl rfl (fun g_46 => ?_) (fun g_46 => ?_)
       ·
        have g_46_ := g_46
        try simp only [decide_eq_true_eq, decide_eq_false_iff_not, beq_iff_eq, beq_eq_false_iff_ne, bne_iff_ne, bne_eq_false_iff_eq, Bool.not_eq_true', Bool.not_eq_false', Bool.not_eq_eq_eq_not, Bool.not_true, Bool.not_false, ne_eq, Int.not_lt, Int.not_le] at g_46
        refine Wl.y (y_move rfl) rfl ?_
        refine Wl.on' rfl rfl g_46_ ?_
        refine Wl.y (y_addI rfl rfl (by first | omega | (simp; done) | (simp; omega)) (by first | omega | (simp; done) | (simp; omega))) rfl ?_
        refine Wl.on' rfl rfl g_46_ ?_
        refine Wl.y (y_move rfl) rfl ?_
        refine Wl.on' rfl rfl g_46_ ?_
        refine Wl.y (y_lens Tryz.underlying9 (by omega) rfl) rfl ?_
        refine Wl.on' rfl rfl g_46_ ?_
        refine Wl.y (y_eqli rfl rfl) rfl ?_
        refine Wl.on' rfl rfl g_40_ ?_
        refine Wl.y (y_pickT rfl g_46_ rfl) rfl ?_
        refine Wl.y (y_pickF rfl g_40_ rfl) rfl ?_
        refine Wl.y (y_assign rfl) rfl ?_
        refine Wl.nil ?_
        refine Wq.meet hM_36 (decide ((c.toNat : Int) = 10 ∨ ((c.toNat : Int) = 92 ∧ (i : Int) + 1 = s.length))) (Sub.cons' rfl (by first | rfl | exact bool_eq (by rw [Bool.eq_iff_iff]; simp; omega)) (Sub.cons' rfl (by first | rfl | exact bool_eq (by rw [Bool.eq_iff_iff]; simp; omega)) (Sub.cons' rfl (by first | rfl | exact bool_eq (by rw [Bool.eq_iff_iff]; simp; omega)) (Sub.cons' rfl (by first | rfl | exact bool_eq (by rw [Bool.eq_iff_iff]; simp; omega)) (Sub.cons' rfl (by first | rfl | exact bool_eq (by rw [Bool.eq_iff_iff]; simp; omega)) (Sub.nil)))))) ?_
        exact ⟨rfl, hb, hI⟩
       ·
        have g_46_ := g_46
        try simp only [decide_eq_true_eq, decide_eq_false_iff_not, beq_iff_eq, beq_eq_false_iff_ne, bne_iff_ne, bne_eq_false_iff_eq, Bool.not_eq_true', Bool.not_eq_false', Bool.not_eq_eq_eq_not, Bool.not_true, Bool.not_false, ne_eq, Int.not_lt, Int.not_le] at g_46
        refine Wl.off' rfl rfl g_46_ rfl rfl ?_
        refine Wl.off' rfl rfl g_46_ rfl rfl ?_
        refine Wl.off' rfl rfl g_46_ rfl rfl ?_
        refine Wl.off' rfl rfl g_46_ rfl rfl ?_
        refine Wl.on' rfl rfl g_40_ ?_
        refine Wl.y (y_pickF rfl g_46_ rfl) rfl ?_
        refine Wl.y (y_pickF rfl g_40_ rfl) rfl ?_
        refine Wl.y (y_assign rfl) rfl ?_
        refine Wl.nil ?_
        refine Wq.meet hM_36 (decide ((c.toNat : Int) = 10 ∨ ((c.toNat : Int) = 92 ∧ (i : Int) + 1 = s.length))) (Sub.cons' rfl (by first | rfl | exact bool_eq (by rw [Bool.eq_iff_iff]; simp; omega)) (Sub.cons' rfl (by first | rfl | exact bool_eq (by rw [Bool.eq_iff_iff]; simp; omega)) (Sub.cons' rfl (by first | rfl | exact bool_eq (by rw [Bool.eq_iff_iff]; simp; omega)) (Sub.cons' rfl (by first | rfl | exact bool_eq (by rw [Bool.eq_iff_iff]; simp; omega)) (Sub.cons' rfl (by first | rfl | exact bool_eq (by rw [Bool.eq_iff_iff]; simp; omega)) (Sub.nil)))))) ?_
        exact ⟨rfl, hb, hI⟩
     ·
      rintro q wr hI_58
      replace hI_58 : q = decide ((c.toNat : Int) = 10 ∨ ((c.toNat : Int) = 92 ∧ (i : Int) + 1 = s.length)) ∧ Below w.heap.size w wr ∧ Lib.IsBuilder 111 5 w.heap.size g_o2 (Lib.byteCells l) wr := hI_58
      obtain ⟨hq, hb, hI⟩ := hI_58
      show Wq _ _ _ _ [(0, str s), (4, .pointer (some ⟨g_o2, 0, none⟩)), (5, .int .i64 (i : Int)), (6, .int .u8 (c.toNat : Int)), (25, .bool q)] _
      try have hzhb_g7 := hb.size
      refine Wq.next hK_35 ?_
      refine Wc.cond rfl (fun c2_59 => ?_) (fun c2_59 => ?_)
      ·
       have c2_59_ := c2_59
       try simp only [decide_eq_true_eq, decide_eq_false_iff_not, beq_iff_eq, beq_eq_false_iff_ne, bne_iff_ne, bne_eq_false_iff_eq, Bool.not_eq_true', Bool.not_eq_false', Bool.not_eq_eq_eq_not, Bool.not_true, Bool.not_false, ne_eq, Int.not_lt, Int.not_le] at c2_59
       have hq2 : (c.toNat : Int) = 10 ∨ ((c.toNat : Int) = 92 ∧ (i : Int) + 1 = s.length) := by have h := c2_59_; rw [hq] at h; exact of_decide_eq_true h
       have hun : uqV s = ([], 0) := by
         rcases hq2 with h | ⟨h, h'⟩
         · exact hu.trans (uq_feed l hil (by rw [← hc]; exact u8_of (n := 10) h (by decide)))
         · exact hu.trans (uq_last l hil (by rw [← hc]; exact u8_of (n := 92) h (by decide)) (by omega))
       refine Wc.seq fun _ hK_60 => ?_
       refine Wc.region ?_
       refine Wl.y (y_assign rfl) rfl ?_
       refine Wl.y (y_assign rfl) rfl ?_
       refine Wl.nil ?_
       refine Wq.next hK_60 ?_
       refine Wc.ret ?_
       refine Wq.block_ret (Wq.block_ret (Wq.then_ret (Wq.then_ret (Wq.block_ret (Wq.then_ret ?_)))))
       refine ret2 rfl rfl rfl ?_
       exact ⟨_, rfl, uq_val hun rfl, hb⟩
      ·
       have c2_59_ := c2_59
       try simp only [decide_eq_true_eq, decide_eq_false_iff_not, beq_iff_eq, beq_eq_false_iff_ne, bne_iff_ne, bne_eq_false_iff_eq, Bool.not_eq_true', Bool.not_eq_false', Bool.not_eq_eq_eq_not, Bool.not_true, Bool.not_false, ne_eq, Int.not_lt, Int.not_le] at c2_59
       have hq2 : ¬ ((c.toNat : Int) = 10 ∨ ((c.toNat : Int) = 92 ∧ (i : Int) + 1 = s.length)) := by have h := c2_59_; rw [hq] at h; exact of_decide_eq_false h
       refine Wc.seq fun _ hK_63 => ?_
       refine Wc.region ?_
       refine Wl.y (y_move rfl) rfl ?_
       refine Wl.y (y_eqli rfl rfl) rfl ?_
       refine Wl.y (y_assign rfl) rfl ?_
       refine Wl.nil ?_
       refine Wq.next hK_63 ?_
       refine Wc.cond rfl (fun c3_67 => ?_) (fun c3_67 => ?_)
       ·
        have c3_67_ := c3_67
        try simp only [decide_eq_true_eq, decide_eq_false_iff_not, beq_iff_eq, beq_eq_false_iff_ne, bne_iff_ne, bne_eq_false_iff_eq, Bool.not_eq_true', Bool.not_eq_false', Bool.not_eq_eq_eq_not, Bool.not_true, Bool.not_false, ne_eq, Int.not_lt, Int.not_le] at c3_67
        have hi3 : i + 1 < s.length := by have := c3_67; omega
        have hc9 : s.getD i 0 = 92 := by rw [← hc]; exact u8_of (n := 92) c3_67 (by decide)
        obtain ⟨d, hd⟩ : ∃ d, d = s.getD (i + 1) 0 := ⟨_, rfl⟩
        have hes := uq_esc l hi3 hc9
        rw [← hd] at hes
        refine Wc.seq fun _ hK_68 => ?_
        refine Wc.region ?_
        refine Wl.y (y_move rfl) rfl ?_
        refine Wl.y (y_addI rfl rfl (by first | omega | (simp; done) | (simp; omega)) (by first | omega | (simp; done) | (simp; omega))) rfl ?_
        refine Wl.y (y_assign rfl) rfl ?_
        refine Wl.nil ?_
        refine Wq.next hK_68 ?_
        refine Wc.seq fun _ hK_72 => ?_
        refine Wc.region ?_
        refine Wl.y (y_move rfl) rfl ?_
        refine Wl.y (y_move rfl) rfl ?_
        refine Wl.y (y_eq (y_indexs Tryz.underlying9 rfl rfl (by omega) (by omega)) (int_eq (show _ = (d.toNat : Int) by rw [hd, show ((i : Int) + 1).toNat = i + 1 by omega]))) rfl ?_
        refine Wl.call txt55Unq rfl rfl (IndexByteU_r _ d _) rfl ?_
        rintro _ w_ ⟨⟨z, rfl, hz⟩, hw_⟩
        have hw_ := hw_.symm; subst hw_
        refine Wl.y (y_assign rfl) rfl ?_
        refine Wl.nil ?_
        refine Wq.next hK_72 ?_
        refine Wc.seq fun _ hK_78 => ?_
        refine Wc.seq fun _ hK_79 => ?_
        refine Wc.region ?_
        refine Wl.y (y_move rfl) rfl ?_
        refine Wl.y (y_lssi rfl rfl) rfl ?_
        refine Wl.nil ?_
        refine Wq.next hK_79 ?_
        refine Wc.cond rfl (fun c4_82 => ?_) (fun c4_82 => ?_)
        ·
         have c4_82_ := c4_82
         try simp only [decide_eq_true_eq, decide_eq_false_iff_not, beq_iff_eq, beq_eq_false_iff_ne, bne_iff_ne, bne_eq_false_iff_eq, Bool.not_eq_true', Bool.not_eq_false', Bool.not_eq_eq_eq_not, Bool.not_true, Bool.not_false, ne_eq, Int.not_lt, Int.not_le] at c4_82
         have hun : uqV s = ([], 0) := by
           rcases esc_idx d with ⟨_, h⟩ | ⟨k, _, h, _⟩
           · rw [h] at hes; exact hu.trans hes
           · have := c4_82; omega
         refine Wc.seq fun _ hK_83 => ?_
         refine Wc.region ?_
         refine Wl.y (y_assign rfl) rfl ?_
         refine Wl.y (y_assign rfl) rfl ?_
         refine Wl.nil ?_
         refine Wq.next hK_83 ?_
         refine Wc.ret ?_
         refine Wq.then_ret (Wq.block_ret (Wq.block_ret (Wq.then_ret (Wq.then_ret (Wq.block_ret (Wq.then_ret ?_))))))
         refine ret2 rfl rfl rfl ?_
         exact ⟨_, rfl, uq_val hun rfl, hb⟩
        ·
         have c4_82_ := c4_82
         try simp only [decide_eq_true_eq, decide_eq_false_iff_not, beq_iff_eq, beq_eq_false_iff_ne, bne_iff_ne, bne_eq_false_iff_eq, Bool.not_eq_true', Bool.not_eq_false', Bool.not_eq_eq_eq_not, Bool.not_true, Bool.not_false, ne_eq, Int.not_lt, Int.not_le] at c4_82
         obtain ⟨k, e_, hk3, hzk, he_, hee⟩ : ∃ (k : Nat) (e : UInt8), k < 3 ∧ z = (k : Int) ∧ escV d = some e ∧ e = ([92, 39, 10] : List UInt8).getD k 0 := by
           rcases esc_idx d with ⟨h, _⟩ | ⟨k, h0, h1, h2⟩
           · have := c4_82; omega
           · exact ⟨k, _, h0, hz.trans h1, h2, rfl⟩
         have hu2 : uqV s = uqGo (s.drop (i + 1 + 1)) (i + 1 + 1) (l ++ [e_]) := by rw [he_] at hes; exact hu.trans hes
         obtain ⟨j_, hj_⟩ : ∃ j, j = i + 1 := ⟨_, rfl⟩
         rw [← hj_] at hu2
         refine Wc.skip ?_
         refine Wq.next hK_78 ?_
         refine Wc.region ?_
         refine Wl.y (y_move rfl) rfl ?_
         refine Wl.y (y_eq (y_indexs Tryz.underlying9 rfl rfl (by omega) (by omega)) (int_eq (show _ = (e_.toNat : Int) by rw [hee, hzk, Int.toNat_natCast]))) rfl ?_
         refine Wl.call txt81Unq rfl rfl (WriteByte_r w.heap.size g_o2 l e_ _ hI (by omega) hb.size) rfl ?_
         rintro _ w3 ⟨rfl, hI2, hs3⟩
         refine Wl.nil ?_
         refine Wq.block_normal ?_
         refine Wq.block_normal ?_
         refine Wq.next hK_18 ?_
         try rw [← he_] at hI2
         refine Wc.region ?_
         refine Wl.y (y_move rfl) rfl ?_
         refine Wl.y (y_addI rfl rfl (by first | omega | (simp; done) | (simp; omega)) (by first | omega | (simp; done) | (simp; omega))) rfl ?_
         refine Wl.y (y_assign rfl) rfl ?_
         refine Wl.nil ?_
         refine fun a_ ha_ => hL_9 _ _ (⟨j_ + 1, l ++ [e_]⟩) (by first | omega | (simp; omega)) (Sub.cons' rfl (by first | rfl | exact int_eq (by omega)) (Sub.cons' rfl (by first | rfl | exact int_eq (by omega)) (Sub.cons' rfl (by first | rfl | exact int_eq (by omega)) (Sub.nil)))) ?_ a_ ha_
         exact ⟨by omega, by omega, by simp; omega, hu2, hb.trans hs3, hI2⟩
       ·
        have c3_67_ := c3_67
        try simp only [decide_eq_true_eq, decide_eq_false_iff_not, beq_iff_eq, beq_eq_false_iff_ne, bne_iff_ne, bne_eq_false_iff_eq, Bool.not_eq_true', Bool.not_eq_false', Bool.not_eq_eq_eq_not, Bool.not_true, Bool.not_false, ne_eq, Int.not_lt, Int.not_le] at c3_67
        have hu2 := hu.trans (uq_plain l hil hcq (by rw [← hc]; exact u8_not (n := 10) (fun h => hq2 (.inl h)) (by decide)) (by rw [← hc]; exact u8_not (n := 92) c3_67 (by decide)))
        obtain ⟨j_, hj_⟩ : ∃ j, j = i := ⟨_, rfl⟩
        obtain ⟨e_, he_⟩ : ∃ e, e = c := ⟨_, rfl⟩
        rw [← hc, ← he_, ← hj_] at hu2
        refine Wc.region ?_
        refine Wl.y (y_move rfl) rfl ?_
        refine Wl.call txt81Unq rfl rfl (WriteByte_r w.heap.size g_o2 l c _ hI (by omega) hb.size) rfl ?_
        rintro _ w3 ⟨rfl, hI2, hs3⟩
        refine Wl.nil ?_
        refine Wq.block_normal ?_
        refine Wq.block_normal ?_
        refine Wq.next hK_18 ?_
        try rw [← he_] at hI2
        refine Wc.region ?_
        refine Wl.y (y_move rfl) rfl ?_
        refine Wl.y (y_addI rfl rfl (by first | omega | (simp; done) | (simp; omega)) (by first | omega | (simp; done) | (simp; omega))) rfl ?_
        refine Wl.y (y_assign rfl) rfl ?_
        refine Wl.nil ?_
        refine fun a_ ha_ => hL_9 _ _ (⟨j_ + 1, l ++ [e_]⟩) (by first | omega | (simp; omega)) (Sub.cons' rfl (by first | rfl | exact int_eq (by omega)) (Sub.cons' rfl (by first | rfl | exact int_eq (by omega)) (Sub.cons' rfl (by first | rfl | exact int_eq (by omega)) (Sub.nil)))) ?_ a_ ha_
        exact ⟨by omega, by omega, by simp; omega, hu2, hb.trans hs3, hI2⟩
   ·
    have c0_17_ := c0_17
    try simp only [decide_eq_true_eq, decide_eq_false_iff_not, beq_iff_eq, beq_eq_false_iff_ne, bne_iff_ne, bne_eq_false_iff_eq, Bool.not_eq_true', Bool.not_eq_false', Bool.not_eq_eq_eq_not, Bool.not_true, Bool.not_false, ne_eq, Int.not_lt, Int.not_le] at c0_17
    refine Wc.exit ?_
    refine Wq.then_exit ?_
    refine Wq.then_exit ?_
    refine Wq.block_exit ?_
    refine Wq.next hK_6 ?_
    refine Wc.seq fun _ hK_97 => ?_
    refine Wc.region ?_
    refine Wl.y (y_assign rfl) rfl ?_
    refine Wl.y (y_assign rfl) rfl ?_
    refine Wl.nil ?_
    refine Wq.next hK_97 ?_
    refine Wc.ret ?_
    refine ret2 rfl rfl rfl ?_
    exact ⟨_, rfl, uq_val (hu.trans (uq_end l (by have := c0_17; omega))) rfl, hb⟩
end Go.Proofs.YtcljmclolpgdmaaGreatDoor
