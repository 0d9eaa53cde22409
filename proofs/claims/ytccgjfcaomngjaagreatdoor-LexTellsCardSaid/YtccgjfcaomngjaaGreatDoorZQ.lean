/- bridlewayref01.number, by the calculus; canonical numerals. · Plain: the document's way to read a float's text. · bridlewayref01.Parse, by the calculus. · Plain: Read tells the longest beginning that is a value's text. · bridlewayref02.one, quoted, Read, by the calculus. -/
import Derived.Test.YtccgjfcaomngjaaGreatDoorZK
import Derived.Test.YtccgjfcaomngjaaGreatDoorZF
import Derived.Test.YtccgjfcaomngjaaGreatDoorZJ
import Derived.Test.YtccgjfcaomngjaaGreatDoorZA
namespace Go.Proofs.YtccgjfcaomngjaaGreatDoor
open Go.RowKit Go.Bw Go.Bw.Fl
set_option linter.unusedVariables false
set_option linter.unusedSimpArgs false

theorem dval_lt : ∀ (l : List UInt8), AllDig l → dval 0 l < 10 ^ l.length := by
  have key : ∀ (l : List UInt8) (n : Nat), AllDig l → dval n l < (n + 1) * 10 ^ l.length := by
    intro l
    induction l with
    | nil => intro n _; show n < (n + 1) * 1; omega
    | cons c r ih =>
      intro n h
      have h1 := h c (List.mem_cons_self ..)
      have h2 := ih (n * 10 + (c.toNat - 48)) (fun x hx => h x (List.mem_cons_of_mem _ hx))
      show dval (n * 10 + (c.toNat - 48)) r < _
      refine Nat.lt_of_lt_of_le h2 ?_
      rw [List.length_cons, Nat.pow_succ, show (n + 1) * (10 ^ r.length * 10) = ((n + 1) * 10) * 10 ^ r.length by rw [Nat.mul_comm (10 ^ _) 10, Nat.mul_assoc]]
      exact Nat.mul_le_mul_right _ (by omega)
  intro l h
  have := key l 0 h
  rwa [Nat.zero_add, Nat.one_mul] at this
theorem dval17 {l : List UInt8} (h : AllDig l) (hl : l.length ≤ 17) : dval 0 l < 100000000000000000 := by
  have h1 := dval_lt l h
  have h2 : 10 ^ l.length ≤ 10 ^ 17 := Nat.pow_le_pow_right (by decide) hl
  have h3 : (10 : Nat) ^ 17 = 100000000000000000 := by decide
  omega
theorem AllDig.take {l : List UInt8} (h : AllDig l) (i : Nat) : AllDig (l.take i) := fun c hc => h c (List.mem_of_mem_take hc)
theorem AllDig.snoc {l : List UInt8} {i : Nat} (h : AllDig (l.take i)) (hi : i < l.length) (h0 : 48 ≤ (l.getD i 0).toNat) (h1 : (l.getD i 0).toNat ≤ 57) : AllDig (l.take (i + 1)) := fun c hc => by
  rw [take_end hi] at hc
  rcases List.mem_append.1 hc with h2 | h2
  · exact h c h2
  · rw [List.mem_singleton.1 h2]; exact ⟨h0, h1⟩
theorem getD_mem {l : List UInt8} {i : Nat} (hi : i < l.length) : l.getD i 0 ∈ l := by simp [List.getD, List.getElem?_eq_getElem hi]
/-- a numeral without noughts ahead, of at most 17 bytes, at most 'most' -/
structure CanonN (s : List UInt8) (most : Nat) : Prop where
  ne : 0 < s.length
  lead : ¬ (1 < s.length ∧ (s.getD 0 0).toNat = 48)
  len : s.length ≤ 17
  dig : AllDig s
  le : dval 0 s ≤ most
def NumIs (s : List UInt8) (most : Nat) (z : Int) : Prop := (z = -1 ∧ ¬ CanonN s most) ∨ (CanonN s most ∧ z = (dval 0 s : Nat))
theorem rnum_r (s : List UInt8) (most : Nat) (hs : s.length ≤ 9223372036854775807) (w : World) : Ret Tryz.prog 195 [str s, .int .i64 (most : Int)] w fun v w' => (∃ z, v = .int .i64 z ∧ NumIs s most z) ∧ Below w.heap.size w w' := by
  have hb := Below.refl w.heap.size w
  refine enter Tryz.func195 rfl rfl rfl ?_
  refine Wc.seq fun _ hK_1 => Wc.region <| Wl.sg rfl rfl <| Wl.nil <| Wq.next hK_1 <| Wc.seq fun _ hK_3 => Wc.seq fun _ hK_4 => ?_
  refine Wc.meet (X := Bool) (fun q => [(0, str s), (1, .int .i64 (most : Int)), (23, .bool q)]) (fun q wr => q = decide (s.length = 0 ∨ (1 < s.length ∧ (s.getD 0 0).toNat = 48) ∨ 17 < s.length) ∧ Below w.heap.size w wr) (fun _ hM_5 => ?_) ?_
  ·
   refine Wc.region <| Wl.mv rfl rfl <| Wl.y (y_eqls rfl rfl) rfl <| Wl.mv rfl rfl ?_
   refine Wl.guardF rfl rfl rfl (fun g_9 => ?_) (fun g_9 => ?_)
   ·
    have g_9_ := g_9
    try simp only [DZ] at g_9
    have hl0 : s.length = 0 := by rw [g_9]; rfl
    refine Wl.off' rfl rfl g_9_ rfl rfl <| Wl.off' rfl rfl g_9_ rfl rfl <| Wl.off' rfl rfl g_9_ rfl rfl <| Wl.offU rfl rfl rfl <| Wl.offU rfl rfl rfl <| Wl.offU rfl rfl rfl <| Wl.off' rfl rfl g_9_ rfl rfl ?_
    refine Wl.y (y_pickT rfl g_9_ rfl) rfl ?_
    refine Wl.mv rfl rfl <| Wl.off' rfl rfl rfl rfl rfl <| Wl.off' rfl rfl rfl rfl rfl <| Wl.off' rfl rfl rfl rfl rfl <| Wl.y (y_pickT rfl rfl rfl) rfl <| Wl.nil ?_
    refine Wq.meet hM_5 (decide (s.length = 0 ∨ (1 < s.length ∧ (s.getD 0 0).toNat = 48) ∨ 17 < s.length)) (Sub.cons' rfl (by first | rfl | exact bool_eq (by rw [Bool.eq_iff_iff]; simp only [decide_eq_true_eq, beq_iff_eq, Bool.false_eq_true, eq_self, true_iff, false_iff, iff_true, iff_false]; omega)) (Sub.cons' rfl (by first | rfl | exact bool_eq (by rw [Bool.eq_iff_iff]; simp only [decide_eq_true_eq, beq_iff_eq, Bool.false_eq_true, eq_self, true_iff, false_iff, iff_true, iff_false]; omega)) (Sub.cons' rfl (by first | rfl | exact bool_eq (by rw [Bool.eq_iff_iff]; simp only [decide_eq_true_eq, beq_iff_eq, Bool.false_eq_true, eq_self, true_iff, false_iff, iff_true, iff_false]; omega)) (Sub.nil)))) ?_
    exact ⟨rfl, hb⟩
   have g_9_ := g_9
   try simp only [DZ] at g_9
   have hl0 : ¬ s.length = 0 := fun e => g_9 (List.length_eq_zero_iff.1 e)
   refine Wl.mv rfl rfl <| Wl.on' rfl rfl g_9_ ?_
   refine Wl.y (y_lens Tryz.underlying9 (by omega) rfl) rfl ?_
   refine Wl.on' rfl rfl g_9_ <| Wl.y (y_gtri rfl rfl) rfl <| Wl.on' rfl rfl g_9_ <| Wl.mv rfl rfl ?_
   refine Wl.guardT rfl rfl rfl (fun g_17 => ?_) (fun g_17 => ?_)
   ·
    have g_17_ := g_17
    try simp only [DZ] at g_17
    refine Wl.mv rfl rfl <| Wl.on' rfl rfl g_17_ ?_
    refine Wl.y (y_eq (y_indexs Tryz.underlying9 rfl rfl (by omega) (by omega)) ((show Value.int .u8 ((s.getD (0 : Int).toNat 0).toNat : Int) = .int .u8 ((s.getD 0 0).toNat : Int) from rfl))) rfl ?_
    refine Wl.on' rfl rfl g_17_ <| Wl.y (y_eqli rfl rfl) rfl <| Wl.on' rfl rfl g_9_ ?_
    refine Wl.y (y_pickT rfl g_17_ rfl) rfl ?_
    refine Wl.y (y_pickF rfl g_9_ rfl) rfl ?_
    refine Wl.mv rfl rfl ?_
    refine Wl.guardF rfl rfl rfl (fun g_24 => ?_) (fun g_24 => ?_)
    ·
     have g_24_ := g_24
     try simp only [DZ] at g_24
     refine Wl.off' rfl rfl g_24_ rfl rfl <| Wl.off' rfl rfl g_24_ rfl rfl ?_
     refine Wl.y (y_pickT rfl g_24_ rfl) rfl ?_
     refine Wl.nil ?_
     refine Wq.meet hM_5 (decide (s.length = 0 ∨ (1 < s.length ∧ (s.getD 0 0).toNat = 48) ∨ 17 < s.length)) (Sub.cons' rfl (by first | rfl | exact bool_eq (by rw [Bool.eq_iff_iff]; simp only [decide_eq_true_eq, beq_iff_eq, Bool.false_eq_true, eq_self, true_iff, false_iff, iff_true, iff_false]; omega)) (Sub.cons' rfl (by first | rfl | exact bool_eq (by rw [Bool.eq_iff_iff]; simp only [decide_eq_true_eq, beq_iff_eq, Bool.false_eq_true, eq_self, true_iff, false_iff, iff_true, iff_false]; omega)) (Sub.cons' rfl (by first | rfl | exact bool_eq (by rw [Bool.eq_iff_iff]; simp only [decide_eq_true_eq, beq_iff_eq, Bool.false_eq_true, eq_self, true_iff, false_iff, iff_true, iff_false]; omega)) (Sub.nil)))) ?_
     exact ⟨rfl, hb⟩
    have g_24_ := g_24
    try simp only [DZ] at g_24
    refine Wl.mv rfl rfl <| Wl.on' rfl rfl g_24_ ?_
    refine Wl.y (y_lens Tryz.underlying9 (by omega) rfl) rfl ?_
    refine Wl.on' rfl rfl g_24_ <| Wl.y (y_gtri rfl rfl) rfl ?_
    refine Wl.y (y_pickF rfl g_24_ rfl) rfl ?_
    refine Wl.nil ?_
    refine Wq.meet hM_5 (decide (s.length = 0 ∨ (1 < s.length ∧ (s.getD 0 0).toNat = 48) ∨ 17 < s.length)) (Sub.cons' rfl (by first | rfl | exact bool_eq (by rw [Bool.eq_iff_iff]; simp only [decide_eq_true_eq, beq_iff_eq, Bool.false_eq_true, eq_self, true_iff, false_iff, iff_true, iff_false]; omega)) (Sub.cons' rfl (by first | rfl | exact bool_eq (by rw [Bool.eq_iff_iff]; simp only [decide_eq_true_eq, beq_iff_eq, Bool.false_eq_true, eq_self, true_iff, false_iff, iff_true, iff_false]; omega)) (Sub.cons' rfl (by first | rfl | exact bool_eq (by rw [Bool.eq_iff_iff]; simp only [decide_eq_true_eq, beq_iff_eq, Bool.false_eq_true, eq_self, true_iff, false_iff, iff_true, iff_false]; omega)) (Sub.nil)))) ?_
    exact ⟨rfl, hb⟩
   have g_17_ := g_17
   try simp only [DZ] at g_17
   refine Wl.off' rfl rfl g_17_ rfl rfl <| Wl.off' rfl rfl g_17_ rfl rfl <| Wl.on' rfl rfl g_9_ ?_
   refine Wl.y (y_pickF rfl g_17_ rfl) rfl ?_
   refine Wl.y (y_pickF rfl g_9_ rfl) rfl ?_
   refine Wl.mv rfl rfl <| Wl.on' rfl rfl rfl <| Wl.mv rfl rfl <| Wl.on' rfl rfl rfl ?_
   refine Wl.y (y_lens Tryz.underlying9 (by omega) rfl) rfl ?_
   refine Wl.on' rfl rfl rfl <| Wl.y (y_gtri rfl rfl) rfl <| Wl.y (y_pickF rfl rfl rfl) rfl <| Wl.nil ?_
   refine Wq.meet hM_5 (decide (s.length = 0 ∨ (1 < s.length ∧ (s.getD 0 0).toNat = 48) ∨ 17 < s.length)) (Sub.cons' rfl (by first | rfl | exact bool_eq (by rw [Bool.eq_iff_iff]; simp only [decide_eq_true_eq, beq_iff_eq, Bool.false_eq_true, eq_self, true_iff, false_iff, iff_true, iff_false]; omega)) (Sub.cons' rfl (by first | rfl | exact bool_eq (by rw [Bool.eq_iff_iff]; simp only [decide_eq_true_eq, beq_iff_eq, Bool.false_eq_true, eq_self, true_iff, false_iff, iff_true, iff_false]; omega)) (Sub.cons' rfl (by first | rfl | exact bool_eq (by rw [Bool.eq_iff_iff]; simp only [decide_eq_true_eq, beq_iff_eq, Bool.false_eq_true, eq_self, true_iff, false_iff, iff_true, iff_false]; omega)) (Sub.nil)))) ?_
   exact ⟨rfl, hb⟩
  rintro q wr hI_37
  replace hI_37 : q = decide (s.length = 0 ∨ (1 < s.length ∧ (s.getD 0 0).toNat = 48) ∨ 17 < s.length) ∧ Below w.heap.size w wr := hI_37
  obtain ⟨hq, hb⟩ := hI_37
  show Wq _ _ _ _ [(0, str s), (1, .int .i64 (most : Int)), (23, .bool q)] _
  try have hzhb_g1 := hb.size
  refine Wq.next hK_4 ?_
  refine Wc.cond rfl (fun c0_38 => ?_) (fun c0_38 => ?_)
  ·
   have c0_38_ := c0_38
   try simp only [DZ] at c0_38
   have hbad : ¬ CanonN s most := fun h => by have h1 := h.ne; have h2 := h.lead; have h3 := h.len; have h4 := hq.symm.trans c0_38_; simp only [decide_eq_true_eq] at h4; omega
   refine Wc.seq fun _ hK_39 => Wc.region <| Wl.sg rfl rfl <| Wl.nil <| Wq.next hK_39 <| Wc.ret <| Wq.then_ret ?_
   refine ret1 rfl rfl ?_
   exact ⟨_, rfl, ⟨_, rfl, .inl ⟨rfl, hbad⟩⟩, hb⟩
  have c0_38_ := c0_38
  try simp only [DZ] at c0_38
  have hgood : ¬ (s.length = 0 ∨ (1 < s.length ∧ (s.getD 0 0).toNat = 48) ∨ 17 < s.length) := of_decide_eq_false (hq.symm.trans c0_38_)
  refine Wc.skip <| Wq.next hK_3 <| Wc.seq fun _ hK_41 => Wc.region <| Wl.sg rfl rfl <| Wl.nil <| Wq.next hK_41 <| Wc.seq fun _ hK_43 => Wc.seq fun _ hK_44 => Wc.region ?_
  refine Wl.sg rfl rfl <| Wl.nil <| Wq.next hK_44 <| Wc.block ?_
  refine Wc.loop (X := Nat) (fun i => [(0, str s), (1, .int .i64 (most : Int)), (5, .int .i64 ((dval 0 (s.take i) : Nat) : Int)), (6, .int .i64 (i : Int))]) (fun i wr => i ≤ s.length ∧ AllDig (s.take i) ∧ Below w.heap.size w wr) (fun i => s.length - i) (0) ?_ ?_ ?_
  · exact Sub.cons' rfl (by first | rfl | exact int_eq (by omega) | exact int_eq (by simp) | (simp; done)) (Sub.cons' rfl (by first | rfl | exact int_eq (by omega) | exact int_eq (by simp) | (simp; done)) (Sub.cons' rfl (by first | rfl | exact int_eq (by omega) | exact int_eq (by simp) | (simp; done)) (Sub.cons' rfl (by first | rfl | exact int_eq (by omega) | exact int_eq (by simp) | (simp; done)) (Sub.nil))))
  · exact ⟨by omega, (fun c hc => by cases hc), hb⟩
  rintro i wr hI_47 _ hL_46
  replace hI_47 : i ≤ s.length ∧ AllDig (s.take i) ∧ Below w.heap.size w wr := hI_47
  obtain ⟨hi, hd, hb⟩ := hI_47
  show Wc _ _ _ _ _ [(0, str s), (1, .int .i64 (most : Int)), (5, .int .i64 ((dval 0 (s.take i) : Nat) : Int)), (6, .int .i64 (i : Int))] _
  try have hzhb_L0 := hb.size
  refine Wc.seq fun _ hK_48 => Wc.seq fun _ hK_49 => Wc.region <| Wl.mv rfl rfl <| Wl.mv rfl rfl ?_
  refine Wl.y (y_lens Tryz.underlying9 (by omega) rfl) rfl ?_
  refine Wl.y (y_lssi rfl rfl) rfl <| Wl.nil <| Wq.next hK_49 ?_
  refine Wc.cond rfl (fun c1_54 => ?_) (fun c1_54 => ?_)
  ·
   have c1_54_ := c1_54
   try simp only [DZ] at c1_54
   have hil : i < s.length := by omega
   have hdv := dval17 hd (by rw [List.length_take]; omega)
   refine Wc.skip <| Wq.next hK_48 <| Wc.seq fun _ hK_55 => Wc.block <| Wc.seq fun _ hK_56 => Wc.seq fun _ hK_57 => ?_
   refine Wc.meet (X := Bool) (fun q => [(0, str s), (1, .int .i64 (most : Int)), (5, .int .i64 ((dval 0 (s.take i) : Nat) : Int)), (6, .int .i64 (i : Int)), (39, .bool q)]) (fun q wr => q = decide ((s.getD i 0).toNat < 48 ∨ 57 < (s.getD i 0).toNat) ∧ Below w.heap.size w wr) (fun _ hM_58 => ?_) ?_
   ·
    refine Wc.region <| Wl.mv rfl rfl <| Wl.mv rfl rfl ?_
    refine Wl.y (y_eq (y_indexs Tryz.underlying9 rfl rfl (by omega) (by omega)) ((show Value.int .u8 ((s.getD (i : Int).toNat 0).toNat : Int) = .int .u8 ((s.getD i 0).toNat : Int) from rfl))) rfl ?_
    refine Wl.y (y_lssi rfl rfl) rfl <| Wl.mv rfl rfl ?_
    refine Wl.guardF rfl rfl rfl (fun g_64 => ?_) (fun g_64 => ?_)
    ·
     have g_64_ := g_64
     try simp only [DZ] at g_64
     refine Wl.off' rfl rfl g_64_ rfl rfl <| Wl.off' rfl rfl g_64_ rfl rfl <| Wl.off' rfl rfl g_64_ rfl rfl ?_
     refine Wl.y (y_pickT rfl g_64_ rfl) rfl ?_
     refine Wl.nil ?_
     refine Wq.meet hM_58 (decide ((s.getD i 0).toNat < 48 ∨ 57 < (s.getD i 0).toNat)) (Sub.cons' rfl (by first | rfl | exact bool_eq (by rw [Bool.eq_iff_iff]; simp only [decide_eq_true_eq, beq_iff_eq, Bool.false_eq_true, eq_self, true_iff, false_iff, iff_true, iff_false]; omega)) (Sub.cons' rfl (by first | rfl | exact bool_eq (by rw [Bool.eq_iff_iff]; simp only [decide_eq_true_eq, beq_iff_eq, Bool.false_eq_true, eq_self, true_iff, false_iff, iff_true, iff_false]; omega)) (Sub.cons' rfl (by first | rfl | exact bool_eq (by rw [Bool.eq_iff_iff]; simp only [decide_eq_true_eq, beq_iff_eq, Bool.false_eq_true, eq_self, true_iff, false_iff, iff_true, iff_false]; omega)) (Sub.cons' rfl (by first | rfl | exact bool_eq (by rw [Bool.eq_iff_iff]; simp only [decide_eq_true_eq, beq_iff_eq, Bool.false_eq_true, eq_self, true_iff, false_iff, iff_true, iff_false]; omega)) (Sub.cons' rfl (by first | rfl | exact bool_eq (by rw [Bool.eq_iff_iff]; simp only [decide_eq_true_eq, beq_iff_eq, Bool.false_eq_true, eq_self, true_iff, false_iff, iff_true, iff_false]; omega)) (Sub.nil)))))) ?_
     exact ⟨rfl, hb⟩
    have g_64_ := g_64
    try simp only [DZ] at g_64
    refine Wl.mv rfl rfl <| Wl.on' rfl rfl g_64_ <| Wl.mv rfl rfl <| Wl.on' rfl rfl g_64_ ?_
    refine Wl.y (y_eq (y_indexs Tryz.underlying9 rfl rfl (by omega) (by omega)) ((show Value.int .u8 ((s.getD (i : Int).toNat 0).toNat : Int) = .int .u8 ((s.getD i 0).toNat : Int) from rfl))) rfl ?_
    refine Wl.on' rfl rfl g_64_ <| Wl.y (y_gtri rfl rfl) rfl ?_
    refine Wl.y (y_pickF rfl g_64_ rfl) rfl ?_
    refine Wl.nil ?_
    refine Wq.meet hM_58 (decide ((s.getD i 0).toNat < 48 ∨ 57 < (s.getD i 0).toNat)) (Sub.cons' rfl (by first | rfl | exact bool_eq (by rw [Bool.eq_iff_iff]; simp only [decide_eq_true_eq, beq_iff_eq, Bool.false_eq_true, eq_self, true_iff, false_iff, iff_true, iff_false]; omega)) (Sub.cons' rfl (by first | rfl | exact bool_eq (by rw [Bool.eq_iff_iff]; simp only [decide_eq_true_eq, beq_iff_eq, Bool.false_eq_true, eq_self, true_iff, false_iff, iff_true, iff_false]; omega)) (Sub.cons' rfl (by first | rfl | exact bool_eq (by rw [Bool.eq_iff_iff]; simp only [decide_eq_true_eq, beq_iff_eq, Bool.false_eq_true, eq_self, true_iff, false_iff, iff_true, iff_false]; omega)) (Sub.cons' rfl (by first | rfl | exact bool_eq (by rw [Bool.eq_iff_iff]; simp only [decide_eq_true_eq, beq_iff_eq, Bool.false_eq_true, eq_self, true_iff, false_iff, iff_true, iff_false]; omega)) (Sub.cons' rfl (by first | rfl | exact bool_eq (by rw [Bool.eq_iff_iff]; simp only [decide_eq_true_eq, beq_iff_eq, Bool.false_eq_true, eq_self, true_iff, false_iff, iff_true, iff_false]; omega)) (Sub.nil)))))) ?_
    exact ⟨rfl, hb⟩
   rintro q wr hI_71
   replace hI_71 : q = decide ((s.getD i 0).toNat < 48 ∨ 57 < (s.getD i 0).toNat) ∧ Below w.heap.size w wr := hI_71
   obtain ⟨hq2, hb⟩ := hI_71
   show Wq _ _ _ _ [(0, str s), (1, .int .i64 (most : Int)), (5, .int .i64 ((dval 0 (s.take i) : Nat) : Int)), (6, .int .i64 (i : Int)), (39, .bool q)] _
   try have hzhb_g6 := hb.size
   refine Wq.next hK_57 ?_
   refine Wc.cond rfl (fun c2_72 => ?_) (fun c2_72 => ?_)
   ·
    have c2_72_ := c2_72
    try simp only [DZ] at c2_72
    have hbad : ¬ CanonN s most := fun h => by have h1 := h.dig _ (getD_mem hil); have h4 := hq2.symm.trans c2_72_; simp only [decide_eq_true_eq] at h4; omega
    refine Wc.seq fun _ hK_73 => Wc.region <| Wl.sg rfl rfl <| Wl.nil <| Wq.next hK_73 <| Wc.ret ?_
    refine Wq.then_ret (Wq.block_ret (Wq.then_ret (Wq.then_ret (Wq.block_ret (Wq.then_ret ?_)))))
    refine ret1 rfl rfl ?_
    exact ⟨_, rfl, ⟨_, rfl, .inl ⟨rfl, hbad⟩⟩, hb⟩
   have c2_72_ := c2_72
   try simp only [DZ] at c2_72
   have hgd : ¬ ((s.getD i 0).toNat < 48 ∨ 57 < (s.getD i 0).toNat) := of_decide_eq_false (hq2.symm.trans c2_72_)
   have hc0 : 48 ≤ (s.getD i 0).toNat := by omega
   have hc1 : (s.getD i 0).toNat ≤ 57 := by omega
   refine Wc.skip <| Wq.next hK_56 <| Wc.region <| Wl.mv rfl rfl ?_
   refine Wl.y (y_mulI rfl rfl (by first | omega | (simp; done) | (simp; omega)) (by first | omega | (simp; done) | (simp; omega))) rfl ?_
   refine Wl.mv rfl rfl <| Wl.mv rfl rfl ?_
   refine Wl.y (y_eq (y_indexs Tryz.underlying9 rfl rfl (by omega) (by omega)) ((show Value.int .u8 ((s.getD (i : Int).toNat 0).toNat : Int) = .int .u8 ((s.getD i 0).toNat : Int) from rfl))) rfl ?_
   refine Wl.y (y_eq (y_sub rfl rfl) (int_eq (show _ = (((s.getD i 0).toNat - 48 : Nat) : Int) by rw [wrap_u8 _ (by omega) (by omega)]; omega))) rfl ?_
   refine Wl.y (y_eq (y_convi Tryz.underlying5 Tryz.underlying3 rfl) (int_eq (show _ = (((s.getD i 0).toNat - 48 : Nat) : Int) by rw [wrap_i64 _ (by omega) (by omega)]))) rfl ?_
   refine Wl.y (y_addI rfl rfl (by first | omega | (simp; done) | (simp; omega)) (by first | omega | (simp; done) | (simp; omega))) rfl ?_
   refine Wl.sg rfl rfl <| Wl.nil <| Wq.block_normal <| Wq.next hK_55 <| Wc.region <| Wl.mv rfl rfl ?_
   refine Wl.y (y_addI rfl rfl (by first | omega | (simp; done) | (simp; omega)) (by first | omega | (simp; done) | (simp; omega))) rfl ?_
   refine Wl.sg rfl rfl <| Wl.nil ?_
   refine fun a_ ha_ => hL_46 _ _ (i + 1) (by first | omega | (simp; omega)) (Sub.cons' rfl (by first | rfl | exact int_eq (by omega) | exact int_eq (by rw [dval_take hil]; omega)) (Sub.cons' rfl (by first | rfl | exact int_eq (by omega) | exact int_eq (by rw [dval_take hil]; omega)) (Sub.cons' rfl (by first | rfl | exact int_eq (by omega) | exact int_eq (by rw [dval_take hil]; omega)) (Sub.cons' rfl (by first | rfl | exact int_eq (by omega) | exact int_eq (by rw [dval_take hil]; omega)) (Sub.nil))))) ?_ a_ ha_
   exact ⟨by omega, AllDig.snoc hd hil hc0 hc1, hb⟩
  have c1_54_ := c1_54
  try simp only [DZ] at c1_54
  have hie : s.take i = s := List.take_of_length_le (by omega)
  refine Wc.exit ?_
  refine Wq.then_exit <| Wq.then_exit <| Wq.block_exit <| Wq.next hK_43 <| Wc.seq fun _ hK_87 => Wc.seq fun _ hK_88 => Wc.region <| Wl.mv rfl rfl <| Wl.mv rfl rfl <| Wl.y (y_gtri rfl rfl) rfl ?_
  refine Wl.nil <| Wq.next hK_88 ?_
  refine Wc.cond rfl (fun c3_92 => ?_) (fun c3_92 => ?_)
  ·
   have c3_92_ := c3_92
   try simp only [DZ] at c3_92
   have hbad : ¬ CanonN s most := fun h => by have h1 := h.le; have h4 := c3_92; rw [hie] at h4; omega
   refine Wc.seq fun _ hK_93 => Wc.region <| Wl.sg rfl rfl <| Wl.nil <| Wq.next hK_93 <| Wc.ret <| Wq.then_ret ?_
   refine ret1 rfl rfl ?_
   exact ⟨_, rfl, ⟨_, rfl, .inl ⟨rfl, hbad⟩⟩, hb⟩
  have c3_92_ := c3_92
  try simp only [DZ] at c3_92
  have hok : CanonN s most := ⟨by omega, fun h => hgood (.inr (.inl h)), by omega, by rw [hie] at hd; exact hd, by have h4 := c3_92; rw [hie] at h4; omega⟩
  refine Wc.skip <| Wq.next hK_87 <| Wc.seq fun _ hK_95 => Wc.region <| Wl.mv rfl rfl <| Wl.sg rfl rfl <| Wl.nil <| Wq.next hK_95 <| Wc.ret ?_
  refine ret1 rfl rfl ?_
  exact ⟨_, rfl, ⟨_, rfl, .inr ⟨hok, by rw [hie]⟩⟩, hb⟩
/-- a canonical numeral is its number's -/
theorem head_pos : ∀ (u : Nat), 1 ≤ u → ((Lib.decDigits u).getD 0 0).toNat ≠ 48 := by
  intro u
  induction u using Nat.strongRecOn with
  | ind u ih =>
    intro h
    by_cases h1 : u < 10
    · rw [Lib.decDigits_one h1]
      show (UInt8.ofNat (48 + u)).toNat ≠ 48
      rw [dig_toNat h1]; omega
    · have h2 := ih (u / 10) (by omega) (by omega)
      obtain ⟨_, _, h3⟩ := decDigits_spec (u / 10)
      rw [Lib.decDigits, dif_neg h1]
      cases hd : Lib.decDigits (u / 10) with
      | nil => exact absurd hd h3
      | cons c r => rw [hd] at h2; exact h2
theorem canon_dec {u most : Nat} (h : u ≤ most) (hl : (Lib.decDigits u).length ≤ 17) : CanonN (Lib.decDigits u) most ∧ dval 0 (Lib.decDigits u) = u := by
  obtain ⟨h1, h2, h3⟩ := decDigits_spec u
  refine ⟨⟨List.length_pos_iff.2 h3, fun ⟨ha, hb⟩ => ?_, hl, h1, by rw [h2]; exact h⟩, h2⟩
  rcases Nat.eq_zero_or_pos u with h0 | h0
  · subst h0; rw [Lib.decDigits_one (by decide)] at ha; simp at ha
  · exact head_pos u h0 hb
theorem dec_canon : ∀ (n : Nat) (s : List UInt8), s.length = n → AllDig s → 0 < s.length → ¬ (1 < s.length ∧ (s.getD 0 0).toNat = 48) → Lib.decDigits (dval 0 s) = s := by
  intro n
  induction n with
  | zero => intro s h _ h0; omega
  | succ n ih =>
    intro s hn hd h0 hz
    have hs : s = s.take n ++ [s.getD n 0] := by rw [← take_end (by omega), ← hn, List.take_length]
    have hlast := hd _ (getD_mem (l := s) (i := n) (by omega))
    have hv : dval 0 s = dval 0 (s.take n) * 10 + ((s.getD n 0).toNat - 48) := by rw [← dval_take (by omega), ← hn, List.take_length]
    have hb : UInt8.ofNat (48 + ((s.getD n 0).toNat - 48)) = s.getD n 0 := by rw [show 48 + ((s.getD n 0).toNat - 48) = (s.getD n 0).toNat by omega]; exact UInt8.ofNat_toNat
    rcases Nat.eq_zero_or_pos n with h1 | h1
    · subst h1
      have hv' : dval 0 s = (s.getD 0 0).toNat - 48 := by rw [hv]; show 0 * 10 + _ = _; omega
      have hs' : s = [s.getD 0 0] := hs
      rw [hv', Lib.decDigits_one (by omega), hb]; exact hs'.symm
    · have hlt : (s.take n).length = n := by rw [List.length_take]; omega
      have h00 : (s.take n).getD 0 0 = s.getD 0 0 := by
        simp [List.getD, List.getElem?_take, h1]
      have hz0 : (s.getD 0 0).toNat ≠ 48 := fun e => hz ⟨by omega, e⟩
      have hih := ih (s.take n) hlt (AllDig.take hd n) (by omega) (fun h => hz0 (by rw [← h00]; exact h.2))
      have hpos : 1 ≤ dval 0 (s.take n) := by
        cases ht : s.take n with
        | nil => rw [ht] at hlt; simp at hlt; omega
        | cons c r =>
          have hc : c = s.getD 0 0 := by rw [← h00, ht]; rfl
          have hcd := (AllDig.take hd n) c (by rw [ht]; exact List.mem_cons_self ..)
          have := dval_ge r (0 * 10 + (c.toNat - 48))
          show 1 ≤ dval (0 * 10 + (c.toNat - 48)) r
          rw [hc] at this hcd ⊢
          omega
      rw [hv, Lib.decDigits, dif_neg (by omega)]
      rw [show (dval 0 (s.take n) * 10 + ((s.getD n 0).toNat - 48)) / 10 = dval 0 (s.take n) by omega, show (dval 0 (s.take n) * 10 + ((s.getD n 0).toNat - 48)) % 10 = (s.getD n 0).toNat - 48 by omega, hih, hb]
      exact hs.symm
theorem CanonN.dec {s : List UInt8} {most : Nat} (h : CanonN s most) : Lib.decDigits (dval 0 s) = s := dec_canon _ s rfl h.dig h.ne h.lead
end Go.Proofs.YtccgjfcaomngjaaGreatDoor
namespace Go.Proofs.YtccgjfcaomngjaaGreatDoor
open Go.RowKit Go.Bw Go.Bw.Fl
set_option linter.unusedVariables false
set_option linter.unusedSimpArgs false
theorem sgn_split (s : List UInt8) : s = sgnB (Lib.hasPrefix s [45]) ++ Lib.trimPrefix s [45] := by
  unfold Lib.trimPrefix
  by_cases h : Lib.hasPrefix s [45] = true
  · rw [if_pos h]
    obtain ⟨r, rfl⟩ := (pre_one _ _).1 h
    rw [h]; rfl
  · rw [if_neg h]
    have h0 : Lib.hasPrefix s [45] = false := by simpa using h
    rw [h0]; rfl
theorem num_of2 {s : List UInt8} {f : Nat} (hf : Cn f) (ht : textF f = s) (h0 : s ≠ [110, 97, 110]) (h1 : Lib.trimPrefix s [45] ≠ [105, 110, 102]) (h2 : Lib.trimPrefix s [45] ≠ [48, 112, 48]) :
    ∃ M e, rung f < 9218868437227405312 ∧ rung f ≠ 0 ∧ Lib.trimPrefix s [45] = numT M e ∧ M = od (mant0 (rung f)) ∧ e = exp0 (rung f) + v2 (mant0 (rung f)) := by
  subst ht
  by_cases c1 : isNan f = true
  · exact absurd (text_nan2 c1) h0
  have c1' : isNan f = false := by simpa using c1
  by_cases c2 : rung f = 9218868437227405312
  · have ht : textF f = sgnB (isNeg f) ++ [105, 110, 102] := text_inf c1' c2
    obtain ⟨_, b⟩ := trim_sgn (n := isNeg f) (x := [105, 110, 102]) (by decide)
    rw [← ht] at b; exact absurd b h1
  have c6 : rung f ≤ 9218868437227405312 := by simpa [isNan, rung] using c1'
  have hr : rung f < 9218868437227405312 := by omega
  by_cases c3 : rung f = 0
  · have ht : textF f = sgnB (isNeg f) ++ [48, 112, 48] := text_zero c1' c2 c3
    obtain ⟨_, b⟩ := trim_sgn (n := isNeg f) (x := [48, 112, 48]) (by decide)
    rw [← ht] at b; exact absurd b h2
  have ht : textF f = sgnB (isNeg f) ++ numT (od (mant0 (rung f))) (exp0 (rung f) + v2 (mant0 (rung f))) := by
    rw [text_num c1' c2 c3]; unfold numT; rw [sgn_eq]; simp
  obtain ⟨_, b⟩ := trim_sgn (n := isNeg f) (x := numT (od (mant0 (rung f))) (exp0 (rung f) + v2 (mant0 (rung f)))) (head_ne (numT_head _ _) (.inl (by decide)))
  rw [← ht] at b
  exact ⟨_, _, hr, c3, b, rfl, rfl⟩
/-- where the first p is, or the end -/
structure PAt (t : List UInt8) (i : Nat) : Prop where
  le : i ≤ t.length
  no : (112 : UInt8) ∉ t.take i
  at_ : i < t.length → t.getD i 0 = 112
theorem PAt.snoc {t : List UInt8} {i : Nat} (hi : i < t.length) (h : (112 : UInt8) ∉ t.take i) (hn : t.getD i 0 ≠ 112) : (112 : UInt8) ∉ t.take (i + 1) := fun hm => by
  rw [take_end hi] at hm
  rcases List.mem_append.1 hm with h2 | h2
  · exact h h2
  · exact hn (List.mem_singleton.1 h2).symm
theorem PAt.num {M : Nat} {e : Int} {i : Nat} (h : PAt (numT M e) i) : i = (Lib.decDigits M).length := by
  have hl : (numT M e).length = (Lib.decDigits M).length + 1 + (Lib.itoa e).length := by unfold numT; simp; omega
  rcases Nat.lt_trichotomy i (Lib.decDigits M).length with h1 | h1 | h1
  · exfalso
    have h2 := h.at_ (by omega)
    have h3 : (numT M e).getD i 0 = (Lib.decDigits M).getD i 0 := by unfold numT; simp [List.getD, List.getElem?_append_left h1]
    rw [h3] at h2
    have h4 := getD_mem h1
    rw [h2] at h4
    exact noP h4
  · exact h1
  · exfalso
    refine h.no (List.mem_iff_getElem?.2 ⟨(Lib.decDigits M).length, ?_⟩)
    rw [List.getElem?_take, if_pos h1]
    unfold numT; simp
theorem itoa_cut (e : Int) : Lib.hasPrefix (Lib.itoa e) [45] = decide (e < 0) ∧ Lib.trimPrefix (Lib.itoa e) [45] = Lib.decDigits e.natAbs := by
  obtain ⟨a, _, b⟩ := decDigits_spec e.natAbs
  obtain ⟨c, r, hc, h1, h2⟩ := dig_head a b
  have h := trim_sgn (n := decide (e < 0)) (x := Lib.decDigits e.natAbs) (head_ne ⟨c, r, hc, h1, h2⟩ (.inl (by decide)))
  have e2 : sgnB (decide (e < 0)) ++ Lib.decDigits e.natAbs = Lib.itoa e := by
    rw [itoa_sgn]; unfold sgnB
    by_cases hn : e < 0
    · rw [if_pos (decide_eq_true hn), if_pos hn]
    · rw [if_neg (by simp [hn]), if_neg hn]
  rw [e2] at h; exact h
theorem NumIs.dec {u most : Nat} {z : Int} (h : NumIs (Lib.decDigits u) most z) (hu : u ≤ most) (hl : (Lib.decDigits u).length ≤ 17) : z = (u : Int) := by
  obtain ⟨h1, h2⟩ := canon_dec hu hl
  rcases h with ⟨_, h⟩ | ⟨_, h⟩
  · exact absurd h1 h
  · rw [h, h2]
theorem od_le (m : Nat) : od m ≤ m := Nat.div_le_self _ _
theorem rp_num {s : List UInt8} {i : Nat} {f : Nat} (hf : Cn f) (ht : textF f = s) (h0 : s ≠ [110, 97, 110]) (h1 : Lib.trimPrefix s [45] ≠ [105, 110, 102]) (h2 : Lib.trimPrefix s [45] ≠ [48, 112, 48]) (hi : PAt (Lib.trimPrefix s [45]) i) :
    ∃ M e, rung f < 9218868437227405312 ∧ rung f ≠ 0 ∧ Lib.trimPrefix s [45] = numT M e ∧ M = od (mant0 (rung f)) ∧ e = exp0 (rung f) + v2 (mant0 (rung f)) ∧ M % 2 = 1 ∧ M ≤ 9007199254740991 ∧ -1074 ≤ e ∧ e ≤ 1024 ∧
      (Lib.trimPrefix s [45]).take i = Lib.decDigits M ∧ (Lib.trimPrefix s [45]).drop (i + 1) = Lib.itoa e ∧ i + 1 < (Lib.trimPrefix s [45]).length := by
  obtain ⟨M, e, g1, g2, g3, g4, g5⟩ := num_of2 hf ht h0 h1 h2
  rw [g3] at hi
  have hil := hi.num
  have hm := mant0_lt g1
  have he := exp0_bd g1
  have hv := v2_le g1 g2
  obtain ⟨_, o2⟩ := od_spec _ (mant0_ne g2)
  have ol := od_le (mant0 (rung f))
  have hne : 0 < (Lib.itoa e).length := by
    rw [itoa_sgn]
    have := List.length_pos_iff.2 (decDigits_spec e.natAbs).2.2
    rw [List.length_append]; omega
  refine ⟨M, e, g1, g2, g3, g4, g5, by rw [g4]; exact o2, by omega, by omega, by omega, ?_, ?_, ?_⟩
  · rw [g3, hil]; unfold numT; rw [List.take_left]
  · rw [g3, hil]; unfold numT; rw [← List.drop_drop, List.drop_left]; rfl
  · rw [g3, hil]; unfold numT; simp; omega
theorem dec17 {u : Nat} (h : u ≤ 9007199254740991) : (Lib.decDigits u).length ≤ 17 := dd_len 16 u (by have h2 : (10 : Nat) ^ (16 + 1) = 100000000000000000 := (by decide); omega)
section
variable {s : List UInt8} {i : Nat} {z : Int} (h0 : s ≠ [110, 97, 110]) (h1 : Lib.trimPrefix s [45] ≠ [105, 110, 102]) (h2 : Lib.trimPrefix s [45] ≠ [48, 112, 48]) (hi : PAt (Lib.trimPrefix s [45]) i)
include h0 h1 h2 hi
theorem rp_bad1 (hz : NumIs ((Lib.trimPrefix s [45]).take i) 9007199254740991 z) (hb : z < 1 ∨ z % 2 = 0 ∨ ((Lib.trimPrefix s [45]).length : Int) - 1 ≤ i) : pf s = none := pf_none fun f hf ht => by
  obtain ⟨M, e, g1, g2, g3, g4, g5, g6, g7, g8, g9, g10, g11, g12⟩ := rp_num hf ht h0 h1 h2 hi
  rw [g10] at hz
  have := hz.dec g7 (dec17 g7)
  omega
theorem rp_bad2 (hz : NumIs (Lib.trimPrefix ((Lib.trimPrefix s [45]).drop (i + 1)) [45]) 2000 z) (hb : z < 0 ∨ (Lib.hasPrefix ((Lib.trimPrefix s [45]).drop (i + 1)) [45] = true ∧ z = 0)) : pf s = none := pf_none fun f hf ht => by
  obtain ⟨M, e, g1, g2, g3, g4, g5, g6, g7, g8, g9, g10, g11, g12⟩ := rp_num hf ht h0 h1 h2 hi
  obtain ⟨c1, c2⟩ := itoa_cut e
  rw [g11, c1] at hb
  rw [g11, c2] at hz
  have := hz.dec (by omega) (dec17 (by omega))
  rw [decide_eq_true_eq] at hb
  omega
omit h0 h1 h2 in
/-- the text is canonical: what its parts are -/
theorem rp_good {e : Nat} {m : Nat} (hz : NumIs ((Lib.trimPrefix s [45]).take i) 9007199254740991 (m : Int)) (hm : 1 ≤ m) (hlt : i + 1 < (Lib.trimPrefix s [45]).length) (he : NumIs (Lib.trimPrefix ((Lib.trimPrefix s [45]).drop (i + 1)) [45]) 2000 (e : Int)) (hb : ¬ (Lib.hasPrefix ((Lib.trimPrefix s [45]).drop (i + 1)) [45] = true ∧ (e : Int) = 0)) :
    Lib.trimPrefix s [45] = numT m (if Lib.hasPrefix ((Lib.trimPrefix s [45]).drop (i + 1)) [45] = true then -(e : Int) else (e : Int)) ∧ m ≤ 9007199254740991 ∧ e ≤ 2000 := by
  rcases hz with ⟨a, _⟩ | ⟨ca, a⟩
  · omega
  rcases he with ⟨b, _⟩ | ⟨cb, b⟩
  · omega
  have ea : dval 0 ((Lib.trimPrefix s [45]).take i) = m := by omega
  have eb : dval 0 (Lib.trimPrefix ((Lib.trimPrefix s [45]).drop (i + 1)) [45]) = e := by omega
  have da := ca.dec
  have db := cb.dec
  rw [ea] at da
  rw [eb] at db
  have la := ca.le
  have lb := cb.le
  refine ⟨?_, by omega, by omega⟩
  have hd : Lib.itoa (if Lib.hasPrefix ((Lib.trimPrefix s [45]).drop (i + 1)) [45] = true then -(e : Int) else (e : Int)) = (Lib.trimPrefix s [45]).drop (i + 1) := by
    have hsp := sgn_split ((Lib.trimPrefix s [45]).drop (i + 1))
    rw [← db] at hsp
    by_cases hp : Lib.hasPrefix ((Lib.trimPrefix s [45]).drop (i + 1)) [45] = true
    · have hz0 : ¬ (e : Int) = 0 := fun h => hb ⟨hp, h⟩
      rw [if_pos hp, itoa_neg (by omega), show (-(e : Int)).natAbs = e by omega]
      rw [hp] at hsp; exact hsp.symm
    · rw [if_neg hp, itoa_pos (by omega), show ((e : Int)).natAbs = e by omega]
      have hp0 : Lib.hasPrefix ((Lib.trimPrefix s [45]).drop (i + 1)) [45] = false := by simpa using hp
      rw [hp0] at hsp; exact hsp.symm
  unfold numT
  rw [hd, da]
  have e1 : (Lib.trimPrefix s [45]).drop i = (Lib.trimPrefix s [45]).getD i 0 :: (Lib.trimPrefix s [45]).drop (i + 1) := drop_at (by omega)
  rw [hi.at_ (by omega)] at e1
  rw [← e1, List.take_append_drop]
end
/-- the loop's end -/
structure LEnd (m : Nat) (E : Int) (j : Nat) : Prop where
  j0 : j = 0 ∨ (m * 2 ^ (j - 1) < 4503599627370496 ∧ -1074 < E - ((j - 1 : Nat) : Int))
  end_ : ¬ (m * 2 ^ j < 4503599627370496 ∧ -1074 < E - (j : Int))
theorem pow_step (m j : Nat) (h : 0 < j) : m * 2 ^ j = 2 * (m * 2 ^ (j - 1)) := by
  obtain ⟨k, rfl⟩ : ∃ k, j = k + 1 := ⟨j - 1, by omega⟩
  rw [Nat.pow_succ, show k + 1 - 1 = k by omega, ← Nat.mul_assoc]; omega
theorem LEnd.lt {m j : Nat} {E : Int} (h : LEnd m E j) (hm : m ≤ 9007199254740991) : m * 2 ^ j < 9007199254740992 := by
  rcases Nat.eq_zero_or_pos j with h0 | h0
  · subst h0; omega
  · have := pow_step m j h0
    rcases h.j0 with h1 | h1
    · omega
    · omega
theorem rp_bad3 {s : List UInt8} {m j : Nat} {E : Int} (h0 : s ≠ [110, 97, 110]) (h1 : Lib.trimPrefix s [45] ≠ [105, 110, 102]) (h2 : Lib.trimPrefix s [45] ≠ [48, 112, 48]) (ht : Lib.trimPrefix s [45] = numT m E) (hE : -2000 ≤ E ∧ E ≤ 2000) (h : LEnd m E j) (hb : E - (j : Int) < -1074 ∨ 971 < E - (j : Int)) : pf s = none := pf_none fun f hf hx => by
  obtain ⟨M, e, g1, g2, g3, g4, g5⟩ := num_of2 hf hx h0 h1 h2
  have hm := mant0_lt g1
  have he := exp0_bd g1
  have hv := v2_le g1 g2
  obtain ⟨o1, o2⟩ := od_spec _ (mant0_ne g2)
  obtain ⟨rfl, rfl⟩ := numT_inj (ht.symm.trans g3) (by omega) (by omega) (by omega) (by omega)
  have low : -1074 ≤ E - (j : Int) := by
    rcases h.j0 with h3 | h3 <;> omega
  rcases hb with hb | hb
  · omega
  have h4 : 4503599627370496 ≤ m * 2 ^ j := by
    rcases Nat.lt_or_ge (m * 2 ^ j) 4503599627370496 with h5 | h5
    · exact absurd ⟨h5, by omega⟩ h.end_
    · exact h5
  have h5 : v2 (mant0 (rung f)) ≤ j := by
    rcases Nat.lt_or_ge j (v2 (mant0 (rung f))) with h6 | h6
    · exfalso
      have h7 : 2 ^ (j + 1) ≤ 2 ^ v2 (mant0 (rung f)) := Nat.pow_le_pow_right (by decide) h6
      have h8 : m * 2 ^ (j + 1) ≤ m * 2 ^ v2 (mant0 (rung f)) := Nat.mul_le_mul_left _ h7
      rw [← g4] at o1
      rw [← o1, Nat.pow_succ, ← Nat.mul_assoc] at h8
      omega
    · exact h6
  omega
/-- the bits that are put together -/
def rpR (q : Nat) (E : Int) : Nat := if q < 4503599627370496 then q else (E + 1075).toNat * 4503599627370496 + (q - 4503599627370496)
theorem rp_ok {s : List UInt8} {m j : Nat} {E : Int} (ht : Lib.trimPrefix s [45] = numT m E) (hm : m % 2 = 1) (hm1 : m ≤ 9007199254740991) (h : LEnd m E j) (hb0 : -1074 ≤ E - (j : Int)) (hb1 : E - (j : Int) ≤ 971) :
    rpR (m * 2 ^ j) (E - j) < 9218868437227405312 ∧ pf s = some ((if Lib.hasPrefix s [45] = true then 9223372036854775808 else 0) + rpR (m * 2 ^ j) (E - j)) := by
  have hq := h.lt hm1
  have hend := h.end_
  have hun := od_unique (o := m) (t := j) hm
  have hne : m * 2 ^ j ≠ 0 := Nat.mul_ne_zero (by omega) (Nat.ne_of_gt (Nat.two_pow_pos j))
  generalize hq' : m * 2 ^ j = q at *
  have hR : rpR q (E - j) < 9218868437227405312 ∧ rpR q (E - j) ≠ 0 ∧ mant0 (rpR q (E - j)) = q ∧ exp0 (rpR q (E - j)) = E - j := by
    unfold rpR
    by_cases hlt : q < 4503599627370496
    · rw [if_pos hlt]
      have hE : E - (j : Int) = -1074 := by omega
      refine ⟨by omega, hne, by unfold mant0; rw [if_pos hlt], by unfold exp0; rw [if_pos hlt]; omega⟩
    · rw [if_neg hlt]
      obtain ⟨k, hk⟩ : ∃ k : Nat, k = (E - (j : Int) + 1075).toNat := ⟨_, rfl⟩
      rw [← hk]
      have hk1 : 1 ≤ k := by omega
      have hk2 : k ≤ 2046 := by omega
      have a1 : ¬ (k * 4503599627370496 + (q - 4503599627370496) < 4503599627370496) := by omega
      have a2 : (k * 4503599627370496 + (q - 4503599627370496)) / 4503599627370496 = k := by omega
      have a3 : (k * 4503599627370496 + (q - 4503599627370496)) % 4503599627370496 = q - 4503599627370496 := by omega
      refine ⟨by omega, by omega, by unfold mant0; rw [if_neg a1, a3]; omega, by unfold exp0; rw [if_neg a1, a2]; omega⟩
  obtain ⟨r1, r2, r3, r4⟩ := hR
  generalize rpR q (E - j) = R at *
  refine ⟨r1, ?_⟩
  have hw : (if Lib.hasPrefix s [45] = true then 9223372036854775808 else 0) + R = Ieee.double.word (Lib.hasPrefix s [45]) R := by
    rw [word_eq]; cases Lib.hasPrefix s [45] <;> simp
  have hn : isNeg ((if Lib.hasPrefix s [45] = true then 9223372036854775808 else 0) + R) = Lib.hasPrefix s [45] := by rw [hw]; exact isNeg_word (by omega)
  have hg : rung ((if Lib.hasPrefix s [45] = true then 9223372036854775808 else 0) + R) = R := by rw [hw]; exact rung_word (by omega)
  have hlt : (if Lib.hasPrefix s [45] = true then 9223372036854775808 else 0) + R < 18446744073709551616 := by split <;> omega
  generalize (if Lib.hasPrefix s [45] = true then 9223372036854775808 else 0) + R = f at *
  have hnn : isNan f = false := by
    unfold isNan; rw [decide_eq_false_iff_not]; show ¬ 9218868437227405312 < rung f; rw [hg]; omega
  refine pf_hit ⟨hlt, by unfold canon; rw [if_neg (by rw [hnn]; simp)]⟩ ?_
  rw [text_num hnn (by rw [hg]; omega) (by rw [hg]; exact r2), hg, r3, r4, hun.1, hun.2, sgn_eq, hn]
  conv => rhs; rw [sgn_split s, ht]
  unfold numT
  rw [show E - (j : Int) + ((j : Nat) : Int) = E by omega]
  simp
theorem rp_nan : pf [110, 97, 110] = some 9221120237041090561 := pf_hit ⟨by decide, by decide⟩ (text_nan2 (by decide))
theorem rp_inf {s : List UInt8} (h : Lib.trimPrefix s [45] = [105, 110, 102]) : pf s = some ((if Lib.hasPrefix s [45] = true then 9223372036854775808 else 0) + 9218868437227405312) := by
  have hs := sgn_split s
  rw [h] at hs
  cases hp : Lib.hasPrefix s [45]
  · rw [hp] at hs; exact pf_hit ⟨by decide, by decide⟩ ((text_inf (by decide) (by decide)).trans hs.symm)
  · rw [hp] at hs; exact pf_hit ⟨by decide, by decide⟩ ((text_inf (by decide) (by decide)).trans hs.symm)
theorem rp_zero {s : List UInt8} (h : Lib.trimPrefix s [45] = [48, 112, 48]) : pf s = some (if Lib.hasPrefix s [45] = true then 9223372036854775808 else 0) := by
  have hs := sgn_split s
  rw [h] at hs
  cases hp : Lib.hasPrefix s [45]
  · rw [hp] at hs; exact pf_hit ⟨by decide, by decide⟩ ((text_zero (by decide) (by decide) (by decide)).trans hs.symm)
  · rw [hp] at hs; exact pf_hit ⟨by decide, by decide⟩ ((text_zero (by decide) (by decide) (by decide)).trans hs.symm)
end Go.Proofs.YtccgjfcaomngjaaGreatDoor
namespace Go.Proofs.YtccgjfcaomngjaaGreatDoor
open Go.RowKit Go.Bw Go.Bw.Fl
set_option linter.unusedVariables false
set_option linter.unusedSimpArgs false
theorem exn44RPrs : Extn Tryz.prog 44 Extern.MathFloatBits.float64frombits := fun args w => run_callFunc_extern Tryz.func44 (by kernel_rfl) (by kernel_rfl) (by kernel_rfl) (by kernel_rfl) args w
theorem txt195RPrs : Txt Tryz.prog 195 := ⟨_, Tryz.func195, by kernel_rfl, rfl⟩   -- bridleway/bridlewayref01.number
theorem pre45 (s : List UInt8) : Lib.hasPrefix s [45] = decide (0 < s.length ∧ (s.getD 0 0).toNat = 45) := by
  rw [Bool.eq_iff_iff, pre_one, decide_eq_true_eq]
  constructor
  · rintro ⟨r, rfl⟩; exact ⟨by simp, rfl⟩
  · rintro ⟨h1, h2⟩
    cases s with
    | nil => simp at h1
    | cons c r =>
      have hc : c = 45 := UInt8.toNat_inj.1 h2
      exact ⟨r, by rw [hc]⟩
theorem trim45_t {s : List UInt8} (h : Lib.hasPrefix s [45] = true) : Lib.trimPrefix s [45] = s.drop 1 := by unfold Lib.trimPrefix; rw [if_pos h]; rfl
theorem trim45_f {s : List UInt8} (h : Lib.hasPrefix s [45] = false) : Lib.trimPrefix s [45] = s := by unfold Lib.trimPrefix; rw [if_neg (by rw [h]; simp)]
def sgN (b : Bool) : Nat := if b = true then 9223372036854775808 else 0
theorem sgN_le (b : Bool) : sgN b = 0 ∨ sgN b = 9223372036854775808 := by unfold sgN; split <;> simp
theorem NumIs.bd {s : List UInt8} {most : Nat} {z : Int} (h : NumIs s most z) : -1 ≤ z ∧ z ≤ most := by
  rcases h with ⟨h, _⟩ | ⟨h, h2⟩
  · omega
  · have := h.le; omega
theorem tmod2 {z : Int} : z.tmod 2 = 0 ↔ z % 2 = 0 := by rw [← Int.dvd_iff_tmod_eq_zero, ← Int.dvd_iff_emod_eq_zero]
theorem beqI2 (x y : Int) : (x == y) = decide (x = y) := by rw [Bool.eq_iff_iff]; simp
def eeV (dn : Bool) (e : Nat) : Int := if dn = true then -(e : Int) else (e : Int)
theorem rp_bits {q : Nat} {E : Int} {b : Bool} {fld : Nat} (hq : q < 9007199254740992) (hE0 : -1074 ≤ E) (hE1 : E ≤ 971) (hf : fld = if q < 4503599627370496 then 0 else (E + 1075).toNat) : sgN b + fld * 4503599627370496 + q % 4503599627370496 = sgN b + rpR q E ∧ fld ≤ 2046 := by
  unfold rpR
  by_cases h : q < 4503599627370496
  · rw [if_pos h] at hf ⊢; omega
  · rw [if_neg h] at hf ⊢; omega
theorem RParse_r (s : List UInt8) (hs : s.length ≤ 281474976710656) (w : World) : Ret Tryz.prog 121 [str s] w fun v w' => v = prsV s ∧ Below w.heap.size w w' := by
  obtain ⟨t, ht⟩ : ∃ t, t = Lib.trimPrefix s [45] := ⟨_, rfl⟩
  obtain ⟨b, hbn⟩ : ∃ b, b = Lib.hasPrefix s [45] := ⟨_, rfl⟩
  have htl : t.length ≤ s.length := by rw [ht]; exact trimP_le s [45]
  have hsg := sgN_le b
  have hb := Below.refl w.heap.size w
  refine enter Tryz.func121 rfl rfl rfl ?_
  refine Wc.seq fun _ hK_1 => Wc.region <| Wl.sg rfl rfl <| Wl.sg rfl rfl <| Wl.nil <| Wq.next hK_1 <| Wc.seq fun _ hK_4 => Wc.seq fun _ hK_5 => Wc.region <| Wl.mv rfl rfl ?_
  refine Wl.y (y_eqls rfl rfl) rfl <| Wl.nil <| Wq.next hK_5 ?_
  refine Wc.cond rfl (fun c0_8 => ?_) (fun c0_8 => ?_)
  ·
   have c0_8_ := c0_8
   try simp only [DZ] at c0_8
   refine Wc.seq fun _ hK_9 => Wc.region ?_
   refine Wl.y (y_b2f exn44RPrs rfl rfl) rfl ?_
   refine Wl.sg rfl rfl <| Wl.sg rfl rfl <| Wl.nil <| Wq.next hK_9 <| Wc.ret <| Wq.then_ret ?_
   refine ret2 rfl rfl rfl ?_
   exact ⟨_, rfl, by rw [c0_8]; exact (prs_some rp_nan).symm, hb⟩
  have c0_8_ := c0_8
  try simp only [DZ] at c0_8
  have hn0 : s ≠ [110, 97, 110] := c0_8
  refine Wc.skip <| Wq.next hK_4 <| Wc.seq fun _ hK_13 => Wc.region <| Wl.sg rfl rfl <| Wl.nil <| Wq.next hK_13 <| Wc.seq fun _ hK_15 => Wc.region <| Wl.mv rfl rfl ?_
  refine Wl.sg rfl rfl <| Wl.nil <| Wq.next hK_15 <| Wc.seq fun _ hK_18 => Wc.seq fun _ hK_19 => ?_
  refine Wc.meet (X := Bool) (fun q => [(0, str s), (4, .int .u64 0), (5, str s), (23, .bool q)]) (fun q wr => q = b ∧ Below w.heap.size w wr) (fun _ hM_20 => ?_) ?_
  ·
   refine Wc.region <| Wl.mv rfl rfl ?_
   refine Wl.y (y_lens Tryz.underlying9 (by omega) rfl) rfl ?_
   refine Wl.y (y_gtri rfl rfl) rfl <| Wl.mv rfl rfl ?_
   refine Wl.guardT rfl rfl rfl (fun g_25 => ?_) (fun g_25 => ?_)
   ·
    have g_25_ := g_25
    try simp only [DZ] at g_25
    refine Wl.mv rfl rfl <| Wl.on' rfl rfl g_25_ ?_
    refine Wl.y (y_indexs Tryz.underlying9 rfl rfl (by omega) (by omega)) rfl ?_
    refine Wl.on' rfl rfl g_25_ <| Wl.y (y_eqli rfl rfl) rfl ?_
    refine Wl.y (y_pickT rfl g_25_ rfl) rfl ?_
    refine Wl.nil ?_
    refine Wq.meet hM_20 (b) (Sub.cons' rfl (by first | rfl | exact bool_eq (by rw [hbn, pre45, Bool.eq_iff_iff]; simp; omega)) (Sub.cons' rfl (by first | rfl | exact bool_eq (by rw [hbn, pre45, Bool.eq_iff_iff]; simp; omega)) (Sub.cons' rfl (by first | rfl | exact bool_eq (by rw [hbn, pre45, Bool.eq_iff_iff]; simp; omega)) (Sub.cons' rfl (by first | rfl | exact bool_eq (by rw [hbn, pre45, Bool.eq_iff_iff]; simp; omega)) (Sub.nil))))) ?_
    exact ⟨rfl, hb⟩
   have g_25_ := g_25
   try simp only [DZ] at g_25
   refine Wl.off' rfl rfl g_25_ rfl rfl <| Wl.off' rfl rfl g_25_ rfl rfl ?_
   refine Wl.y (y_pickF rfl g_25_ rfl) rfl ?_
   refine Wl.nil ?_
   refine Wq.meet hM_20 (b) (Sub.cons' rfl (by first | rfl | exact bool_eq (by rw [hbn, pre45, Bool.eq_iff_iff]; simp; omega)) (Sub.cons' rfl (by first | rfl | exact bool_eq (by rw [hbn, pre45, Bool.eq_iff_iff]; simp; omega)) (Sub.cons' rfl (by first | rfl | exact bool_eq (by rw [hbn, pre45, Bool.eq_iff_iff]; simp; omega)) (Sub.cons' rfl (by first | rfl | exact bool_eq (by rw [hbn, pre45, Bool.eq_iff_iff]; simp; omega)) (Sub.nil))))) ?_
   exact ⟨rfl, hb⟩
  rintro q wr hI_31
  replace hI_31 : q = b ∧ Below w.heap.size w wr := hI_31
  obtain ⟨hq, hb⟩ := hI_31
  show Wq _ _ _ _ [(0, str s), (4, .int .u64 0), (5, str s), (23, .bool q)] _
  try have hzhb_g5 := hb.size
  refine Wq.next hK_19 ?_
  refine Wc.meet (X := Unit) (fun u_ => [(0, str s), (4, .int .u64 (sgN b : Nat)), (5, str t)]) (fun u_ wr => Below w.heap.size w wr) (fun _ hM_32 => ?_) ?_
  ·
   refine Wc.cond rfl (fun c1_33 => ?_) (fun c1_33 => ?_)
   ·
    have c1_33_ := c1_33
    try simp only [DZ] at c1_33
    have hbt : Lib.hasPrefix s [45] = true := hbn.symm.trans (hq.symm.trans c1_33_)
    have hs1 := (pre45 s).symm.trans hbt
    rw [decide_eq_true_eq] at hs1
    have htt := ht.trans (trim45_t hbt)
    have hbb := hbn.trans hbt
    refine Wc.seq fun _ hK_34 => Wc.region <| Wl.sg rfl rfl <| Wl.nil <| Wq.next hK_34 <| Wc.region <| Wl.mv rfl rfl ?_
    refine Wl.y (y_slicesL Tryz.underlying9 rfl rfl (by omega) (by omega)) rfl ?_
    refine Wl.sg rfl rfl <| Wl.nil ?_
    refine Wq.meet hM_32 (()) (Sub.cons' rfl (by first | rfl | exact str_eq htt.symm | exact int_eq (by rw [hbb]; rfl)) (Sub.cons' rfl (by first | rfl | exact str_eq htt.symm | exact int_eq (by rw [hbb]; rfl)) (Sub.cons' rfl (by first | rfl | exact str_eq htt.symm | exact int_eq (by rw [hbb]; rfl)) (Sub.nil)))) ?_
    exact hb
   have c1_33_ := c1_33
   try simp only [DZ] at c1_33
   have hbt : Lib.hasPrefix s [45] = false := hbn.symm.trans (hq.symm.trans c1_33_)
   have htt := ht.trans (trim45_f hbt)
   have hbb := hbn.trans hbt
   refine Wc.skip ?_
   refine Wq.meet hM_32 (()) (Sub.cons' rfl (by first | rfl | exact str_eq htt.symm | exact int_eq (by rw [hbb]; rfl)) (Sub.cons' rfl (by first | rfl | exact str_eq htt.symm | exact int_eq (by rw [hbb]; rfl)) (Sub.cons' rfl (by first | rfl | exact str_eq htt.symm | exact int_eq (by rw [hbb]; rfl)) (Sub.nil)))) ?_
   exact hb
  rintro u_ wr hI_39
  replace hI_39 : Below w.heap.size w wr := hI_39
  have hb := hI_39
  show Wq _ _ _ _ [(0, str s), (4, .int .u64 (sgN b : Nat)), (5, str t)] _
  try have hzhb_c1 := hb.size
  refine Wq.next hK_18 <| Wc.seq fun _ hK_40 => Wc.seq fun _ hK_41 => Wc.region <| Wl.mv rfl rfl <| Wl.y (y_eqls rfl rfl) rfl <| Wl.nil <| Wq.next hK_41 ?_
  refine Wc.cond rfl (fun c2_44 => ?_) (fun c2_44 => ?_)
  ·
   have c2_44_ := c2_44
   try simp only [DZ] at c2_44
   have hinf := rp_inf (ht.symm.trans c2_44)
   refine Wc.seq fun _ hK_45 => Wc.region <| Wl.mv rfl rfl ?_
   refine Wl.y (y_eq (y_add rfl rfl) (int_eq (show _ = ((sgN b + 9218868437227405312 : Nat) : Int) by rw [wrap_u64 _ (by omega) (by omega)]; omega))) rfl ?_
   refine Wl.y (y_b2f exn44RPrs rfl rfl) rfl ?_
   refine Wl.sg rfl rfl <| Wl.sg rfl rfl <| Wl.nil <| Wq.next hK_45 <| Wc.ret <| Wq.then_ret ?_
   refine ret2 rfl rfl rfl ?_
   exact ⟨_, rfl, by rw [prs_some hinf, ← hbn, Int.toNat_natCast]; rfl, hb⟩
  have c2_44_ := c2_44
  try simp only [DZ] at c2_44
  have hn1 : Lib.trimPrefix s [45] ≠ [105, 110, 102] := by rw [← ht]; exact c2_44
  refine Wc.skip <| Wq.next hK_40 <| Wc.seq fun _ hK_51 => Wc.seq fun _ hK_52 => Wc.region <| Wl.mv rfl rfl <| Wl.y (y_eqls rfl rfl) rfl <| Wl.nil <| Wq.next hK_52 ?_
  refine Wc.cond rfl (fun c3_55 => ?_) (fun c3_55 => ?_)
  ·
   have c3_55_ := c3_55
   try simp only [DZ] at c3_55
   have hzero := rp_zero (ht.symm.trans c3_55)
   refine Wc.seq fun _ hK_56 => Wc.region <| Wl.mv rfl rfl ?_
   refine Wl.y (y_b2f exn44RPrs rfl rfl) rfl ?_
   refine Wl.sg rfl rfl <| Wl.sg rfl rfl <| Wl.nil <| Wq.next hK_56 <| Wc.ret <| Wq.then_ret ?_
   refine ret2 rfl rfl rfl ?_
   exact ⟨_, rfl, by rw [prs_some hzero, ← hbn, Int.toNat_natCast]; rfl, hb⟩
  have c3_55_ := c3_55
  try simp only [DZ] at c3_55
  have hn2 : Lib.trimPrefix s [45] ≠ [48, 112, 48] := by rw [← ht]; exact c3_55
  refine Wc.skip <| Wq.next hK_51 <| Wc.seq fun _ hK_61 => Wc.region <| Wl.sg rfl rfl <| Wl.nil <| Wq.next hK_61 <| Wc.seq fun _ hK_63 => Wc.block ?_
  refine Wc.loop (X := Nat) (fun i => [(4, .int .u64 (sgN b : Nat)), (5, str t), (6, .int .i64 (i : Int))]) (fun i wr => i ≤ t.length ∧ (112 : UInt8) ∉ t.take i ∧ Below w.heap.size w wr) (fun i => t.length - i) (0) ?_ ?_ ?_
  · exact Sub.cons' rfl (by first | rfl | exact int_eq (by omega) | exact int_eq (by simp) | (simp; done)) (Sub.cons' rfl (by first | rfl | exact int_eq (by omega) | exact int_eq (by simp) | (simp; done)) (Sub.cons' rfl (by first | rfl | exact int_eq (by omega) | exact int_eq (by simp) | (simp; done)) (Sub.nil)))
  · exact ⟨by omega, by simp, hb⟩
  rintro i wr hI_65 _ hL_64
  replace hI_65 : i ≤ t.length ∧ (112 : UInt8) ∉ t.take i ∧ Below w.heap.size w wr := hI_65
  obtain ⟨hi, hno, hb⟩ := hI_65
  show Wc _ _ _ _ _ [(4, .int .u64 (sgN b : Nat)), (5, str t), (6, .int .i64 (i : Int))] _
  try have hzhb_L0 := hb.size
  refine Wc.seq fun _ hK_66 => Wc.seq fun _ hK_67 => ?_
  refine Wc.meet (X := Bool) (fun q => [(4, .int .u64 (sgN b : Nat)), (5, str t), (6, .int .i64 (i : Int)), (44, .bool q)]) (fun q wr => q = decide (i < t.length ∧ (t.getD i 0).toNat ≠ 112) ∧ Below w.heap.size w wr) (fun _ hM_68 => ?_) ?_
  ·
   refine Wc.region <| Wl.mv rfl rfl <| Wl.mv rfl rfl ?_
   refine Wl.y (y_lens Tryz.underlying9 (by omega) rfl) rfl ?_
   refine Wl.y (y_lssi rfl rfl) rfl <| Wl.mv rfl rfl ?_
   refine Wl.guardT rfl rfl rfl (fun g_74 => ?_) (fun g_74 => ?_)
   ·
    have g_74_ := g_74
    try simp only [DZ] at g_74
    refine Wl.mv rfl rfl <| Wl.on' rfl rfl g_74_ <| Wl.mv rfl rfl <| Wl.on' rfl rfl g_74_ ?_
    refine Wl.y (y_indexs Tryz.underlying9 rfl rfl (by omega) (by omega)) rfl ?_
    refine Wl.on' rfl rfl g_74_ <| Wl.y (y_neqi rfl rfl) rfl ?_
    refine Wl.y (y_pickT rfl g_74_ rfl) rfl ?_
    refine Wl.nil ?_
    refine Wq.meet hM_68 (decide (i < t.length ∧ (t.getD i 0).toNat ≠ 112)) (Sub.cons' rfl (by first | rfl | exact bool_eq (by rw [Bool.eq_iff_iff]; simp [Int.toNat_natCast]; omega)) (Sub.cons' rfl (by first | rfl | exact bool_eq (by rw [Bool.eq_iff_iff]; simp [Int.toNat_natCast]; omega)) (Sub.cons' rfl (by first | rfl | exact bool_eq (by rw [Bool.eq_iff_iff]; simp [Int.toNat_natCast]; omega)) (Sub.cons' rfl (by first | rfl | exact bool_eq (by rw [Bool.eq_iff_iff]; simp [Int.toNat_natCast]; omega)) (Sub.nil))))) ?_
    exact ⟨rfl, hb⟩
   have g_74_ := g_74
   try simp only [DZ] at g_74
   refine Wl.off' rfl rfl g_74_ rfl rfl <| Wl.off' rfl rfl g_74_ rfl rfl <| Wl.off' rfl rfl g_74_ rfl rfl ?_
   refine Wl.y (y_pickF rfl g_74_ rfl) rfl ?_
   refine Wl.nil ?_
   refine Wq.meet hM_68 (decide (i < t.length ∧ (t.getD i 0).toNat ≠ 112)) (Sub.cons' rfl (by first | rfl | exact bool_eq (by rw [Bool.eq_iff_iff]; simp [Int.toNat_natCast]; omega)) (Sub.cons' rfl (by first | rfl | exact bool_eq (by rw [Bool.eq_iff_iff]; simp [Int.toNat_natCast]; omega)) (Sub.cons' rfl (by first | rfl | exact bool_eq (by rw [Bool.eq_iff_iff]; simp [Int.toNat_natCast]; omega)) (Sub.cons' rfl (by first | rfl | exact bool_eq (by rw [Bool.eq_iff_iff]; simp [Int.toNat_natCast]; omega)) (Sub.nil))))) ?_
   exact ⟨rfl, hb⟩
  rintro q wr hI_81
  replace hI_81 : q = decide (i < t.length ∧ (t.getD i 0).toNat ≠ 112) ∧ Below w.heap.size w wr := hI_81
  obtain ⟨hq, hb⟩ := hI_81
  show Wq _ _ _ _ [(4, .int .u64 (sgN b : Nat)), (5, str t), (6, .int .i64 (i : Int)), (44, .bool q)] _
  try have hzhb_g13 := hb.size
  refine Wq.next hK_67 ?_
  refine Wc.cond rfl (fun c4_82 => ?_) (fun c4_82 => ?_)
  ·
   have c4_82_ := c4_82
   try simp only [DZ] at c4_82
   have hq4 := of_decide_eq_true (hq.symm.trans c4_82_)
   have hil := hq4.1
   have hnp : t.getD i 0 ≠ 112 := fun e => hq4.2 (by rw [e]; rfl)
   refine Wc.skip <| Wq.next hK_66 <| Wc.block <| Wc.region <| Wl.mv rfl rfl ?_
   refine Wl.y (y_addI rfl rfl (by first | omega | (simp; done) | (simp; omega)) (by first | omega | (simp; done) | (simp; omega))) rfl ?_
   refine Wl.sg rfl rfl <| Wl.nil <| Wq.block_normal ?_
   refine fun a_ ha_ => hL_64 _ _ (i + 1) (by first | omega | (simp; omega)) (Sub.cons' rfl (by first | rfl | exact int_eq (by omega)) (Sub.cons' rfl (by first | rfl | exact int_eq (by omega)) (Sub.cons' rfl (by first | rfl | exact int_eq (by omega)) (Sub.nil)))) ?_ a_ ha_
   exact ⟨by omega, PAt.snoc hil hno hnp, hb⟩
  have c4_82_ := c4_82
  try simp only [DZ] at c4_82
  have hq4 := of_decide_eq_false (hq.symm.trans c4_82_)
  have hPA : PAt (Lib.trimPrefix s [45]) i := by rw [← ht]; exact ⟨hi, hno, fun h => UInt8.toNat_inj.1 (Classical.byContradiction fun h2 => hq4 ⟨h, h2⟩)⟩
  refine Wc.exit ?_
  refine Wq.then_exit <| Wq.then_exit <| Wq.block_exit <| Wq.next hK_63 <| Wc.seq fun _ hK_86 => Wc.region <| Wl.mv rfl rfl <| Wl.mv rfl rfl ?_
  refine Wl.y (y_slicesH Tryz.underlying9 rfl rfl (by omega) (by omega)) rfl ?_
  refine Wl.call txt195RPrs rfl rfl (rnum_r (t.take i) 9007199254740991 (by have := List.length_take_le i t; omega) _) rfl ?_
  rintro _ w_k3 ⟨⟨z, rfl, hz⟩, hs_k3⟩
  have hz_k3 := hs_k3.size
  have hb := hb.trans (hs_k3.mono hb.size)
  refine Wl.sg rfl rfl <| Wl.nil <| Wq.next hK_86 <| Wc.seq fun _ hK_92 => Wc.seq fun _ hK_93 => ?_
  have hzb := hz.bd
  have hz' := hz
  rw [ht] at hz'
  have hz2 := @tmod2 z
  refine Wc.meet (X := Bool) (fun q => [(4, .int .u64 (sgN b : Nat)), (5, str t), (6, .int .i64 (i : Int)), (7, .int .i64 z), (64, .bool q)]) (fun q wr => q = decide (z < 1 ∨ z % 2 = 0 ∨ (t.length : Int) - 1 ≤ i) ∧ Below w.heap.size w wr) (fun _ hM_94 => ?_) ?_
  ·
   refine Wc.region <| Wl.mv rfl rfl <| Wl.y (y_lssi rfl rfl) rfl <| Wl.mv rfl rfl ?_
   refine Wl.guardF rfl rfl rfl (fun g_98 => ?_) (fun g_98 => ?_)
   ·
    have g_98_ := g_98
    try simp only [DZ] at g_98
    refine Wl.off' rfl rfl g_98_ rfl rfl <| Wl.off' rfl rfl g_98_ rfl rfl ?_
    refine Wl.y (y_pickT rfl g_98_ rfl) rfl ?_
    refine Wl.mv rfl rfl <| Wl.off' rfl rfl rfl rfl rfl <| Wl.off' rfl rfl rfl rfl rfl <| Wl.off' rfl rfl rfl rfl rfl <| Wl.off' rfl rfl rfl rfl rfl <| Wl.off' rfl rfl rfl rfl rfl <| Wl.y (y_pickT rfl rfl rfl) rfl <| Wl.nil ?_
    refine Wq.meet hM_94 (decide (z < 1 ∨ z % 2 = 0 ∨ (t.length : Int) - 1 ≤ i)) (Sub.cons' rfl (by first | rfl | exact bool_eq (by rw [Bool.eq_iff_iff]; simp <;> omega)) (Sub.cons' rfl (by first | rfl | exact bool_eq (by rw [Bool.eq_iff_iff]; simp <;> omega)) (Sub.cons' rfl (by first | rfl | exact bool_eq (by rw [Bool.eq_iff_iff]; simp <;> omega)) (Sub.cons' rfl (by first | rfl | exact bool_eq (by rw [Bool.eq_iff_iff]; simp <;> omega)) (Sub.cons' rfl (by first | rfl | exact bool_eq (by rw [Bool.eq_iff_iff]; simp <;> omega)) (Sub.nil)))))) ?_
    exact ⟨rfl, hb⟩
   have g_98_ := g_98
   try simp only [DZ] at g_98
   refine Wl.mv rfl rfl <| Wl.on' rfl rfl g_98_ ?_
   refine Wl.y (y_rem rfl rfl (by first | decide | omega)) rfl ?_
   refine Wl.on' rfl rfl g_98_ <| Wl.y (y_eqli rfl rfl) rfl ?_
   refine Wl.y (y_pickF rfl g_98_ rfl) rfl ?_
   refine Wl.mv rfl rfl ?_
   refine Wl.guardF rfl rfl rfl (fun g_107 => ?_) (fun g_107 => ?_)
   ·
    have g_107_ := g_107
    try simp only [DZ] at g_107
    refine Wl.off' rfl rfl g_107_ rfl rfl <| Wl.off' rfl rfl g_107_ rfl rfl <| Wl.off' rfl rfl g_107_ rfl rfl <| Wl.off' rfl rfl g_107_ rfl rfl ?_
    refine Wl.y (y_pickT rfl g_107_ rfl) rfl ?_
    refine Wl.nil ?_
    refine Wq.meet hM_94 (decide (z < 1 ∨ z % 2 = 0 ∨ (t.length : Int) - 1 ≤ i)) (Sub.cons' rfl (by first | rfl | exact bool_eq (by rw [Bool.eq_iff_iff]; simp <;> omega)) (Sub.cons' rfl (by first | rfl | exact bool_eq (by rw [Bool.eq_iff_iff]; simp <;> omega)) (Sub.cons' rfl (by first | rfl | exact bool_eq (by rw [Bool.eq_iff_iff]; simp <;> omega)) (Sub.cons' rfl (by first | rfl | exact bool_eq (by rw [Bool.eq_iff_iff]; simp <;> omega)) (Sub.cons' rfl (by first | rfl | exact bool_eq (by rw [Bool.eq_iff_iff]; simp <;> omega)) (Sub.nil)))))) ?_
    exact ⟨rfl, hb⟩
   have g_107_ := g_107
   try simp only [DZ] at g_107
   refine Wl.mv rfl rfl <| Wl.on' rfl rfl g_107_ <| Wl.mv rfl rfl <| Wl.on' rfl rfl g_107_ ?_
   refine Wl.y (y_lens Tryz.underlying9 (by omega) rfl) rfl ?_
   refine Wl.on' rfl rfl g_107_ ?_
   refine Wl.y (y_subI rfl rfl (by first | omega | (simp; done) | (simp; omega)) (by first | omega | (simp; done) | (simp; omega))) rfl ?_
   refine Wl.on' rfl rfl g_107_ <| Wl.y (y_geqi rfl rfl) rfl ?_
   refine Wl.y (y_pickF rfl g_107_ rfl) rfl ?_
   refine Wl.nil ?_
   refine Wq.meet hM_94 (decide (z < 1 ∨ z % 2 = 0 ∨ (t.length : Int) - 1 ≤ i)) (Sub.cons' rfl (by first | rfl | exact bool_eq (by rw [Bool.eq_iff_iff]; simp <;> omega)) (Sub.cons' rfl (by first | rfl | exact bool_eq (by rw [Bool.eq_iff_iff]; simp <;> omega)) (Sub.cons' rfl (by first | rfl | exact bool_eq (by rw [Bool.eq_iff_iff]; simp <;> omega)) (Sub.cons' rfl (by first | rfl | exact bool_eq (by rw [Bool.eq_iff_iff]; simp <;> omega)) (Sub.cons' rfl (by first | rfl | exact bool_eq (by rw [Bool.eq_iff_iff]; simp <;> omega)) (Sub.nil)))))) ?_
   exact ⟨rfl, hb⟩
  rintro q wr hI_115
  replace hI_115 : q = decide (z < 1 ∨ z % 2 = 0 ∨ (t.length : Int) - 1 ≤ i) ∧ Below w.heap.size w wr := hI_115
  obtain ⟨hq, hb⟩ := hI_115
  show Wq _ _ _ _ [(4, .int .u64 (sgN b : Nat)), (5, str t), (6, .int .i64 (i : Int)), (7, .int .i64 z), (64, .bool q)] _
  try have hzhb_g16 := hb.size
  refine Wq.next hK_93 ?_
  refine Wc.cond rfl (fun c5_116 => ?_) (fun c5_116 => ?_)
  ·
   have c5_116_ := c5_116
   try simp only [DZ] at c5_116
   have hq5 := of_decide_eq_true (hq.symm.trans c5_116_)
   have hbad := rp_bad1 hn0 hn1 hn2 hPA hz' (by rw [← ht]; exact hq5)
   refine Wc.seq fun _ hK_117 => Wc.region <| Wl.sg rfl rfl <| Wl.sg rfl rfl <| Wl.nil <| Wq.next hK_117 <| Wc.ret <| Wq.then_ret ?_
   refine ret2 rfl rfl rfl ?_
   exact ⟨_, rfl, (prs_none hbad).symm, hb⟩
  have c5_116_ := c5_116
  try simp only [DZ] at c5_116
  have hq5 := of_decide_eq_false (hq.symm.trans c5_116_)
  obtain ⟨m, hm⟩ : ∃ m : Nat, z = (m : Int) := ⟨z.toNat, by omega⟩
  subst hm
  have hil : i + 1 < t.length := by omega
  obtain ⟨dn, hdn⟩ : ∃ d, d = Lib.hasPrefix (t.drop (i + 1)) [45] := ⟨_, rfl⟩
  obtain ⟨r, hr⟩ : ∃ r, r = Lib.trimPrefix (t.drop (i + 1)) [45] := ⟨_, rfl⟩
  have hrl : r.length ≤ t.length := by rw [hr]; have := trimP_le (t.drop (i + 1)) [45]; rw [List.length_drop] at this; omega
  have hdl : (t.drop (i + 1)).length = t.length - (i + 1) := List.length_drop
  have hd0 : (t.drop (i + 1)).getD 0 0 = t.getD (i + 1) 0 := by simp [List.getD, List.getElem?_drop]
  refine Wc.skip <| Wq.next hK_92 <| Wc.seq fun _ hK_120 => Wc.region <| Wl.mv rfl rfl <| Wl.mv rfl rfl ?_
  refine Wl.y (y_addI rfl rfl (by first | omega | (simp; done) | (simp; omega)) (by first | omega | (simp; done) | (simp; omega))) rfl ?_
  refine Wl.y (y_indexs Tryz.underlying9 rfl rfl (by omega) (by omega)) rfl ?_
  refine Wl.y (y_eq (y_eqli rfl rfl) (bool_eq (show _ = dn by rw [hdn, pre45, hdl, hd0, show ((i : Int) + 1).toNat = i + 1 by omega, Bool.eq_iff_iff]; simp; omega))) rfl ?_
  refine Wl.sg rfl rfl <| Wl.nil <| Wq.next hK_120 <| Wc.seq fun _ hK_127 => Wc.region <| Wl.mv rfl rfl <| Wl.mv rfl rfl ?_
  refine Wl.y (y_addI rfl rfl (by first | omega | (simp; done) | (simp; omega)) (by first | omega | (simp; done) | (simp; omega))) rfl ?_
  refine Wl.y (y_eq (y_slicesL Tryz.underlying9 rfl rfl (by omega) (by omega)) (str_eq (show _ = t.drop (i + 1) by rw [show ((i : Int) + 1).toNat = i + 1 by omega]))) rfl ?_
  refine Wl.sg rfl rfl <| Wl.nil <| Wq.next hK_127 <| Wc.seq fun _ hK_133 => Wc.seq fun _ hK_134 => Wc.region <| Wl.mv rfl rfl <| Wl.nil <| Wq.next hK_134 ?_
  refine Wc.meet (X := Unit) (fun u_ => [(4, .int .u64 (sgN b : Nat)), (7, .int .i64 (m : Int)), (8, .bool dn), (9, str r)]) (fun u_ wr => Below w.heap.size w wr) (fun _ hM_136 => ?_) ?_
  ·
   refine Wc.cond rfl (fun c6_137 => ?_) (fun c6_137 => ?_)
   ·
    have c6_137_ := c6_137
    try simp only [DZ] at c6_137
    have htr := hr.trans (trim45_t (hdn.symm.trans c6_137_))
    have hpos := (pre45 _).symm.trans (hdn.symm.trans c6_137_)
    rw [decide_eq_true_eq] at hpos
    refine Wc.region <| Wl.mv rfl rfl ?_
    refine Wl.y (y_slicesL Tryz.underlying9 rfl rfl (by omega) (by omega)) rfl ?_
    refine Wl.sg rfl rfl <| Wl.nil ?_
    refine Wq.meet hM_136 (()) (Sub.cons' rfl (by first | rfl | exact str_eq htr.symm) (Sub.cons' rfl (by first | rfl | exact str_eq htr.symm) (Sub.cons' rfl (by first | rfl | exact str_eq htr.symm) (Sub.cons' rfl (by first | rfl | exact str_eq htr.symm) (Sub.nil))))) ?_
    exact hb
   have c6_137_ := c6_137
   try simp only [DZ] at c6_137
   have htr := hr.trans (trim45_f (hdn.symm.trans c6_137_))
   refine Wc.skip ?_
   refine Wq.meet hM_136 (()) (Sub.cons' rfl (by first | rfl | exact str_eq htr.symm) (Sub.cons' rfl (by first | rfl | exact str_eq htr.symm) (Sub.cons' rfl (by first | rfl | exact str_eq htr.symm) (Sub.cons' rfl (by first | rfl | exact str_eq htr.symm) (Sub.nil))))) ?_
   exact hb
  rintro u_ wr hI_141
  replace hI_141 : Below w.heap.size w wr := hI_141
  have hb := hI_141
  show Wq _ _ _ _ [(4, .int .u64 (sgN b : Nat)), (7, .int .i64 (m : Int)), (8, .bool dn), (9, str r)] _
  try have hzhb_c6 := hb.size
  refine Wq.next hK_133 <| Wc.seq fun _ hK_142 => Wc.region <| Wl.mv rfl rfl ?_
  refine Wl.call txt195RPrs rfl rfl (rnum_r r 2000 (by omega) _) rfl ?_
  rintro _ w_k4 ⟨⟨ze, rfl, hze⟩, hs_k4⟩
  have hz_k4 := hs_k4.size
  have hb := hb.trans (hs_k4.mono hb.size)
  refine Wl.sg rfl rfl <| Wl.nil <| Wq.next hK_142 <| Wc.seq fun _ hK_146 => Wc.seq fun _ hK_147 => ?_
  have hzeb := hze.bd
  have hze' := hze
  rw [hr, ht] at hze'
  refine Wc.meet (X := Bool) (fun q => [(4, .int .u64 (sgN b : Nat)), (7, .int .i64 (m : Int)), (8, .bool dn), (10, .int .i64 ze), (87, .bool q)]) (fun q wr => q = decide (ze < 0 ∨ (dn = true ∧ ze = 0)) ∧ Below w.heap.size w wr) (fun _ hM_148 => ?_) ?_
  ·
   refine Wc.region <| Wl.mv rfl rfl <| Wl.y (y_lssi rfl rfl) rfl <| Wl.mv rfl rfl ?_
   refine Wl.guardF rfl rfl rfl (fun g_152 => ?_) (fun g_152 => ?_)
   ·
    have g_152_ := g_152
    try simp only [DZ] at g_152
    refine Wl.off' rfl rfl g_152_ rfl rfl <| Wl.offU rfl rfl rfl <| Wl.offU rfl rfl rfl <| Wl.off' rfl rfl g_152_ rfl rfl ?_
    refine Wl.y (y_pickT rfl g_152_ rfl) rfl ?_
    refine Wl.nil ?_
    refine Wq.meet hM_148 (decide (ze < 0 ∨ (dn = true ∧ ze = 0))) (Sub.cons' rfl (by first | rfl | exact bool_eq (by rw [Bool.eq_iff_iff]; simp_all <;> omega)) (Sub.cons' rfl (by first | rfl | exact bool_eq (by rw [Bool.eq_iff_iff]; simp_all <;> omega)) (Sub.cons' rfl (by first | rfl | exact bool_eq (by rw [Bool.eq_iff_iff]; simp_all <;> omega)) (Sub.cons' rfl (by first | rfl | exact bool_eq (by rw [Bool.eq_iff_iff]; simp_all <;> omega)) (Sub.cons' rfl (by first | rfl | exact bool_eq (by rw [Bool.eq_iff_iff]; simp_all <;> omega)) (Sub.nil)))))) ?_
    exact ⟨rfl, hb⟩
   have g_152_ := g_152
   try simp only [DZ] at g_152
   refine Wl.mv rfl rfl <| Wl.on' rfl rfl g_152_ <| Wl.mv rfl rfl ?_
   refine Wl.guardT rfl rfl rfl (fun g_156 => ?_) (fun g_156 => ?_)
   ·
    have g_156_ := g_156
    try simp only [DZ] at g_156
    refine Wl.mv rfl rfl <| Wl.on' rfl rfl g_156_ <| Wl.y (y_eqli rfl rfl) rfl <| Wl.on' rfl rfl g_152_ ?_
    refine Wl.y (y_pickT rfl g_156_ rfl) rfl ?_
    refine Wl.y (y_pickF rfl g_152_ rfl) rfl ?_
    refine Wl.nil ?_
    refine Wq.meet hM_148 (decide (ze < 0 ∨ (dn = true ∧ ze = 0))) (Sub.cons' rfl (by first | rfl | exact bool_eq (by rw [Bool.eq_iff_iff]; simp_all <;> omega)) (Sub.cons' rfl (by first | rfl | exact bool_eq (by rw [Bool.eq_iff_iff]; simp_all <;> omega)) (Sub.cons' rfl (by first | rfl | exact bool_eq (by rw [Bool.eq_iff_iff]; simp_all <;> omega)) (Sub.cons' rfl (by first | rfl | exact bool_eq (by rw [Bool.eq_iff_iff]; simp_all <;> omega)) (Sub.cons' rfl (by first | rfl | exact bool_eq (by rw [Bool.eq_iff_iff]; simp_all <;> omega)) (Sub.nil)))))) ?_
    exact ⟨rfl, hb⟩
   have g_156_ := g_156
   try simp only [DZ] at g_156
   refine Wl.off' rfl rfl g_156_ rfl rfl <| Wl.on' rfl rfl g_152_ ?_
   refine Wl.y (y_pickF rfl g_156_ rfl) rfl ?_
   refine Wl.y (y_pickF rfl g_152_ rfl) rfl ?_
   refine Wl.nil ?_
   refine Wq.meet hM_148 (decide (ze < 0 ∨ (dn = true ∧ ze = 0))) (Sub.cons' rfl (by first | rfl | exact bool_eq (by rw [Bool.eq_iff_iff]; simp_all <;> omega)) (Sub.cons' rfl (by first | rfl | exact bool_eq (by rw [Bool.eq_iff_iff]; simp_all <;> omega)) (Sub.cons' rfl (by first | rfl | exact bool_eq (by rw [Bool.eq_iff_iff]; simp_all <;> omega)) (Sub.cons' rfl (by first | rfl | exact bool_eq (by rw [Bool.eq_iff_iff]; simp_all <;> omega)) (Sub.cons' rfl (by first | rfl | exact bool_eq (by rw [Bool.eq_iff_iff]; simp_all <;> omega)) (Sub.nil)))))) ?_
   exact ⟨rfl, hb⟩
  rintro q wr hI_163
  replace hI_163 : q = decide (ze < 0 ∨ (dn = true ∧ ze = 0)) ∧ Below w.heap.size w wr := hI_163
  obtain ⟨hq, hb⟩ := hI_163
  show Wq _ _ _ _ [(4, .int .u64 (sgN b : Nat)), (7, .int .i64 (m : Int)), (8, .bool dn), (10, .int .i64 ze), (87, .bool q)] _
  try have hzhb_g23 := hb.size
  refine Wq.next hK_147 ?_
  refine Wc.cond rfl (fun c7_164 => ?_) (fun c7_164 => ?_)
  ·
   have c7_164_ := c7_164
   try simp only [DZ] at c7_164
   have hq7 := of_decide_eq_true (hq.symm.trans c7_164_)
   have hbad := rp_bad2 hn0 hn1 hn2 hPA hze' (by rw [← ht, ← hdn]; exact hq7)
   refine Wc.seq fun _ hK_165 => Wc.region <| Wl.sg rfl rfl <| Wl.sg rfl rfl <| Wl.nil <| Wq.next hK_165 <| Wc.ret <| Wq.then_ret ?_
   refine ret2 rfl rfl rfl ?_
   exact ⟨_, rfl, (prs_none hbad).symm, hb⟩
  have c7_164_ := c7_164
  try simp only [DZ] at c7_164
  have hq7 := of_decide_eq_false (hq.symm.trans c7_164_)
  obtain ⟨e, he⟩ : ∃ e : Nat, ze = (e : Int) := ⟨ze.toNat, by omega⟩
  subst he
  have hgood := rp_good (s := s) hPA hz' (by omega) (by rw [← ht]; exact hil) hze' (by rw [← ht, ← hdn]; exact fun h => hq7 (.inr h))
  rw [← ht, ← hdn] at hgood
  obtain ⟨hnum, hml, hel⟩ := hgood
  obtain ⟨E, hE⟩ : ∃ E, E = eeV dn e := ⟨_, rfl⟩
  have hEb : -2000 ≤ E ∧ E ≤ 2000 := by rw [hE]; unfold eeV; split <;> omega
  have hnum' : Lib.trimPrefix s [45] = numT m E := by rw [← ht, hE]; exact hnum
  have hm2 : m % 2 = 1 := by omega
  refine Wc.skip <| Wq.next hK_146 <| Wc.seq fun _ hK_168 => Wc.seq fun _ hK_169 => Wc.region <| Wl.mv rfl rfl <| Wl.nil <| Wq.next hK_169 ?_
  refine Wc.meet (X := Unit) (fun u_ => [(4, .int .u64 (sgN b : Nat)), (7, .int .i64 (m : Int)), (10, .int .i64 E)]) (fun u_ wr => Below w.heap.size w wr) (fun _ hM_171 => ?_) ?_
  ·
   refine Wc.cond rfl (fun c8_172 => ?_) (fun c8_172 => ?_)
   ·
    have c8_172_ := c8_172
    try simp only [DZ] at c8_172
    have hE2 : E = -(e : Int) := by rw [hE, c8_172_]; rfl
    refine Wc.region <| Wl.mv rfl rfl <| Wl.y (y_negi rfl) rfl <| Wl.sg rfl rfl <| Wl.nil ?_
    refine Wq.meet hM_171 (()) (Sub.cons' rfl (by first | rfl | exact int_eq hE2.symm | exact int_eq (by rw [wrap_i64 _ (by omega) (by omega)]; omega)) (Sub.cons' rfl (by first | rfl | exact int_eq hE2.symm | exact int_eq (by rw [wrap_i64 _ (by omega) (by omega)]; omega)) (Sub.cons' rfl (by first | rfl | exact int_eq hE2.symm | exact int_eq (by rw [wrap_i64 _ (by omega) (by omega)]; omega)) (Sub.nil)))) ?_
    exact hb
   have c8_172_ := c8_172
   try simp only [DZ] at c8_172
   have hE2 : E = (e : Int) := by rw [hE, c8_172_]; rfl
   refine Wc.skip ?_
   refine Wq.meet hM_171 (()) (Sub.cons' rfl (by first | rfl | exact int_eq hE2.symm | exact int_eq (by rw [wrap_i64 _ (by omega) (by omega)]; omega)) (Sub.cons' rfl (by first | rfl | exact int_eq hE2.symm | exact int_eq (by rw [wrap_i64 _ (by omega) (by omega)]; omega)) (Sub.cons' rfl (by first | rfl | exact int_eq hE2.symm | exact int_eq (by rw [wrap_i64 _ (by omega) (by omega)]; omega)) (Sub.nil)))) ?_
   exact hb
  rintro u_ wr hI_176
  replace hI_176 : Below w.heap.size w wr := hI_176
  have hb := hI_176
  show Wq _ _ _ _ [(4, .int .u64 (sgN b : Nat)), (7, .int .i64 (m : Int)), (10, .int .i64 E)] _
  try have hzhb_c8 := hb.size
  refine Wq.next hK_168 <| Wc.seq fun _ hK_177 => Wc.block ?_
  refine Wc.loop (X := Nat) (fun j => [(4, .int .u64 (sgN b : Nat)), (7, .int .i64 ((m * 2 ^ j : Nat) : Int)), (10, .int .i64 (E - (j : Int)))]) (fun j wr => (j = 0 ∨ (m * 2 ^ (j - 1) < 4503599627370496 ∧ -1074 < E - ((j - 1 : Nat) : Int))) ∧ Below w.heap.size w wr) (fun j => (E + 1074 - j).toNat) (0) ?_ ?_ ?_
  · exact Sub.cons' rfl (by first | rfl | exact int_eq (by simp)) (Sub.cons' rfl (by first | rfl | exact int_eq (by simp)) (Sub.cons' rfl (by first | rfl | exact int_eq (by simp)) (Sub.nil)))
  · exact ⟨.inl rfl, hb⟩
  rintro j wr hI_179 _ hL_178
  replace hI_179 : (j = 0 ∨ (m * 2 ^ (j - 1) < 4503599627370496 ∧ -1074 < E - ((j - 1 : Nat) : Int))) ∧ Below w.heap.size w wr := hI_179
  obtain ⟨hj, hb⟩ := hI_179
  show Wc _ _ _ _ _ [(4, .int .u64 (sgN b : Nat)), (7, .int .i64 ((m * 2 ^ j : Nat) : Int)), (10, .int .i64 (E - (j : Int)))] _
  try have hzhb_L1 := hb.size
  have hps : m * 2 ^ (j + 1) = 2 * (m * 2 ^ j) := pow_step m (j + 1) (by omega)
  have hlow : -2000 ≤ E - (j : Int) := by omega
  have hqm : m * 2 ^ j < 9007199254740992 := by
    rcases Nat.eq_zero_or_pos j with h0 | h0
    · rw [h0]; omega
    · have h1 := pow_step m j h0
      rcases hj with h2 | h2
      · omega
      · omega
  refine Wc.seq fun _ hK_180 => Wc.seq fun _ hK_181 => ?_
  refine Wc.meet (X := Bool) (fun q => [(4, .int .u64 (sgN b : Nat)), (7, .int .i64 ((m * 2 ^ j : Nat) : Int)), (10, .int .i64 (E - (j : Int))), (96, .bool q)]) (fun q wr => q = decide (m * 2 ^ j < 4503599627370496 ∧ -1074 < E - (j : Int)) ∧ Below w.heap.size w wr) (fun _ hM_182 => ?_) ?_
  ·
   refine Wc.region <| Wl.mv rfl rfl <| Wl.y (y_lssi rfl rfl) rfl <| Wl.mv rfl rfl ?_
   refine Wl.guardT rfl rfl rfl (fun g_186 => ?_) (fun g_186 => ?_)
   ·
    have g_186_ := g_186
    try simp only [DZ] at g_186
    refine Wl.mv rfl rfl <| Wl.on' rfl rfl g_186_ <| Wl.y (y_gtri rfl rfl) rfl ?_
    refine Wl.y (y_pickT rfl g_186_ rfl) rfl ?_
    refine Wl.nil ?_
    refine Wq.meet hM_182 (decide (m * 2 ^ j < 4503599627370496 ∧ -1074 < E - (j : Int))) (Sub.cons' rfl (by first | rfl | exact bool_eq (by rw [Bool.eq_iff_iff]; simp only [decide_eq_true_eq, Bool.false_eq_true, false_iff]; omega)) (Sub.cons' rfl (by first | rfl | exact bool_eq (by rw [Bool.eq_iff_iff]; simp only [decide_eq_true_eq, Bool.false_eq_true, false_iff]; omega)) (Sub.cons' rfl (by first | rfl | exact bool_eq (by rw [Bool.eq_iff_iff]; simp only [decide_eq_true_eq, Bool.false_eq_true, false_iff]; omega)) (Sub.cons' rfl (by first | rfl | exact bool_eq (by rw [Bool.eq_iff_iff]; simp only [decide_eq_true_eq, Bool.false_eq_true, false_iff]; omega)) (Sub.nil))))) ?_
    exact ⟨rfl, hb⟩
   have g_186_ := g_186
   try simp only [DZ] at g_186
   refine Wl.off' rfl rfl g_186_ rfl rfl ?_
   refine Wl.y (y_pickF rfl g_186_ rfl) rfl ?_
   refine Wl.nil ?_
   refine Wq.meet hM_182 (decide (m * 2 ^ j < 4503599627370496 ∧ -1074 < E - (j : Int))) (Sub.cons' rfl (by first | rfl | exact bool_eq (by rw [Bool.eq_iff_iff]; simp only [decide_eq_true_eq, Bool.false_eq_true, false_iff]; omega)) (Sub.cons' rfl (by first | rfl | exact bool_eq (by rw [Bool.eq_iff_iff]; simp only [decide_eq_true_eq, Bool.false_eq_true, false_iff]; omega)) (Sub.cons' rfl (by first | rfl | exact bool_eq (by rw [Bool.eq_iff_iff]; simp only [decide_eq_true_eq, Bool.false_eq_true, false_iff]; omega)) (Sub.cons' rfl (by first | rfl | exact bool_eq (by rw [Bool.eq_iff_iff]; simp only [decide_eq_true_eq, Bool.false_eq_true, false_iff]; omega)) (Sub.nil))))) ?_
   exact ⟨rfl, hb⟩
  rintro q wr hI_191
  replace hI_191 : q = decide (m * 2 ^ j < 4503599627370496 ∧ -1074 < E - (j : Int)) ∧ Below w.heap.size w wr := hI_191
  obtain ⟨hq, hb⟩ := hI_191
  show Wq _ _ _ _ [(4, .int .u64 (sgN b : Nat)), (7, .int .i64 ((m * 2 ^ j : Nat) : Int)), (10, .int .i64 (E - (j : Int))), (96, .bool q)] _
  try have hzhb_g27 := hb.size
  refine Wq.next hK_181 ?_
  refine Wc.cond rfl (fun c9_192 => ?_) (fun c9_192 => ?_)
  ·
   have c9_192_ := c9_192
   try simp only [DZ] at c9_192
   have hq9 := of_decide_eq_true (hq.symm.trans c9_192_)
   refine Wc.skip <| Wq.next hK_180 <| Wc.block <| Wc.seq fun _ hK_193 => Wc.region <| Wl.mv rfl rfl ?_
   refine Wl.y (y_mulI rfl rfl (by first | omega | (simp; done) | (simp; omega)) (by first | omega | (simp; done) | (simp; omega))) rfl ?_
   refine Wl.sg rfl rfl <| Wl.nil <| Wq.next hK_193 <| Wc.region <| Wl.mv rfl rfl ?_
   refine Wl.y (y_subI rfl rfl (by first | omega | (simp; done) | (simp; omega)) (by first | omega | (simp; done) | (simp; omega))) rfl ?_
   refine Wl.sg rfl rfl <| Wl.nil <| Wq.block_normal ?_
   refine fun a_ ha_ => hL_178 _ _ (j + 1) (by first | omega | (simp; omega)) (Sub.cons' rfl (by first | rfl | exact int_eq (by rw [hps]; omega) | exact int_eq (by omega)) (Sub.cons' rfl (by first | rfl | exact int_eq (by rw [hps]; omega) | exact int_eq (by omega)) (Sub.cons' rfl (by first | rfl | exact int_eq (by rw [hps]; omega) | exact int_eq (by omega)) (Sub.nil)))) ?_ a_ ha_
   exact ⟨.inr hq9, hb⟩
  have c9_192_ := c9_192
  try simp only [DZ] at c9_192
  have hLE : LEnd m E j := ⟨hj, of_decide_eq_false (hq.symm.trans c9_192_)⟩
  refine Wc.exit ?_
  refine Wq.then_exit <| Wq.then_exit <| Wq.block_exit <| Wq.next hK_177 <| Wc.seq fun _ hK_200 => Wc.seq fun _ hK_201 => ?_
  refine Wc.meet (X := Bool) (fun q => [(4, .int .u64 (sgN b : Nat)), (7, .int .i64 ((m * 2 ^ j : Nat) : Int)), (10, .int .i64 (E - (j : Int))), (106, .bool q)]) (fun q wr => q = decide (E - (j : Int) < -1074 ∨ 971 < E - (j : Int)) ∧ Below w.heap.size w wr) (fun _ hM_202 => ?_) ?_
  ·
   refine Wc.region <| Wl.mv rfl rfl <| Wl.y (y_lssi rfl rfl) rfl <| Wl.mv rfl rfl ?_
   refine Wl.guardF rfl rfl rfl (fun g_206 => ?_) (fun g_206 => ?_)
   ·
    have g_206_ := g_206
    try simp only [DZ] at g_206
    refine Wl.off' rfl rfl g_206_ rfl rfl ?_
    refine Wl.y (y_pickT rfl g_206_ rfl) rfl ?_
    refine Wl.nil ?_
    refine Wq.meet hM_202 (decide (E - (j : Int) < -1074 ∨ 971 < E - (j : Int))) (Sub.cons' rfl (by first | rfl | exact bool_eq (by rw [Bool.eq_iff_iff]; simp only [decide_eq_true_eq, eq_self, true_iff]; omega)) (Sub.cons' rfl (by first | rfl | exact bool_eq (by rw [Bool.eq_iff_iff]; simp only [decide_eq_true_eq, eq_self, true_iff]; omega)) (Sub.cons' rfl (by first | rfl | exact bool_eq (by rw [Bool.eq_iff_iff]; simp only [decide_eq_true_eq, eq_self, true_iff]; omega)) (Sub.cons' rfl (by first | rfl | exact bool_eq (by rw [Bool.eq_iff_iff]; simp only [decide_eq_true_eq, eq_self, true_iff]; omega)) (Sub.nil))))) ?_
    exact ⟨rfl, hb⟩
   have g_206_ := g_206
   try simp only [DZ] at g_206
   refine Wl.mv rfl rfl <| Wl.on' rfl rfl g_206_ <| Wl.y (y_gtri rfl rfl) rfl ?_
   refine Wl.y (y_pickF rfl g_206_ rfl) rfl ?_
   refine Wl.nil ?_
   refine Wq.meet hM_202 (decide (E - (j : Int) < -1074 ∨ 971 < E - (j : Int))) (Sub.cons' rfl (by first | rfl | exact bool_eq (by rw [Bool.eq_iff_iff]; simp only [decide_eq_true_eq, eq_self, true_iff]; omega)) (Sub.cons' rfl (by first | rfl | exact bool_eq (by rw [Bool.eq_iff_iff]; simp only [decide_eq_true_eq, eq_self, true_iff]; omega)) (Sub.cons' rfl (by first | rfl | exact bool_eq (by rw [Bool.eq_iff_iff]; simp only [decide_eq_true_eq, eq_self, true_iff]; omega)) (Sub.cons' rfl (by first | rfl | exact bool_eq (by rw [Bool.eq_iff_iff]; simp only [decide_eq_true_eq, eq_self, true_iff]; omega)) (Sub.nil))))) ?_
   exact ⟨rfl, hb⟩
  rintro q wr hI_211
  replace hI_211 : q = decide (E - (j : Int) < -1074 ∨ 971 < E - (j : Int)) ∧ Below w.heap.size w wr := hI_211
  obtain ⟨hq, hb⟩ := hI_211
  show Wq _ _ _ _ [(4, .int .u64 (sgN b : Nat)), (7, .int .i64 ((m * 2 ^ j : Nat) : Int)), (10, .int .i64 (E - (j : Int))), (106, .bool q)] _
  try have hzhb_g30 := hb.size
  refine Wq.next hK_201 ?_
  refine Wc.cond rfl (fun c10_212 => ?_) (fun c10_212 => ?_)
  ·
   have c10_212_ := c10_212
   try simp only [DZ] at c10_212
   have hbad := rp_bad3 hn0 hn1 hn2 hnum' hEb hLE (of_decide_eq_true (hq.symm.trans c10_212_))
   refine Wc.seq fun _ hK_213 => Wc.region <| Wl.sg rfl rfl <| Wl.sg rfl rfl <| Wl.nil <| Wq.next hK_213 <| Wc.ret <| Wq.then_ret ?_
   refine ret2 rfl rfl rfl ?_
   exact ⟨_, rfl, (prs_none hbad).symm, hb⟩
  have c10_212_ := c10_212
  try simp only [DZ] at c10_212
  have hq10 := of_decide_eq_false (hq.symm.trans c10_212_)
  obtain ⟨hR, hok⟩ := rp_ok hnum' hm2 hml hLE (by omega) (by omega)
  rw [← hbn] at hok
  have hok2 : pf s = some (sgN b + rpR (m * 2 ^ j) (E - j)) := hok
  obtain ⟨fld, hfld⟩ : ∃ f : Nat, f = if m * 2 ^ j < 4503599627370496 then 0 else (E - (j : Int) + 1075).toNat := ⟨_, rfl⟩
  obtain ⟨hbits, hfl⟩ := rp_bits (b := b) hqm (by omega) (by omega) hfld
  refine Wc.skip <| Wq.next hK_200 <| Wc.seq fun _ hK_216 => Wc.region <| Wl.mv rfl rfl ?_
  refine Wl.y (y_addI rfl rfl (by first | omega | (simp; done) | (simp; omega)) (by first | omega | (simp; done) | (simp; omega))) rfl ?_
  refine Wl.y (y_eq (y_convi Tryz.underlying3 Tryz.underlying22 rfl) (int_eq (show _ = (((E - (j : Int) + 1075).toNat : Nat) : Int) by rw [wrap_u64 _ (by omega) (by omega)]; omega))) rfl ?_
  refine Wl.sg rfl rfl <| Wl.nil <| Wq.next hK_216 <| Wc.seq fun _ hK_221 => Wc.seq fun _ hK_222 => Wc.region <| Wl.mv rfl rfl <| Wl.y (y_lssi rfl rfl) rfl <| Wl.nil <| Wq.next hK_222 ?_
  refine Wc.meet (X := Unit) (fun u_ => [(4, .int .u64 (sgN b : Nat)), (7, .int .i64 ((m * 2 ^ j : Nat) : Int)), (11, .int .u64 (fld : Nat))]) (fun u_ wr => Below w.heap.size w wr) (fun _ hM_225 => ?_) ?_
  ·
   refine Wc.cond rfl (fun c11_226 => ?_) (fun c11_226 => ?_)
   ·
    have c11_226_ := c11_226
    try simp only [DZ] at c11_226
    have hf2 : fld = 0 := by rw [hfld, if_pos (by have := c11_226; omega)]
    refine Wc.region <| Wl.sg rfl rfl <| Wl.nil ?_
    refine Wq.meet hM_225 (()) (Sub.cons' rfl (by first | rfl | exact int_eq (by first | (rw [hf2]; done) | (rw [hf2]; rfl))) (Sub.cons' rfl (by first | rfl | exact int_eq (by first | (rw [hf2]; done) | (rw [hf2]; rfl))) (Sub.cons' rfl (by first | rfl | exact int_eq (by first | (rw [hf2]; done) | (rw [hf2]; rfl))) (Sub.nil)))) ?_
    exact hb
   have c11_226_ := c11_226
   try simp only [DZ] at c11_226
   have hf2 : fld = (E - (j : Int) + 1075).toNat := by rw [hfld, if_neg (by have := c11_226; omega)]
   refine Wc.skip ?_
   refine Wq.meet hM_225 (()) (Sub.cons' rfl (by first | rfl | exact int_eq (by first | (rw [hf2]; done) | (rw [hf2]; rfl))) (Sub.cons' rfl (by first | rfl | exact int_eq (by first | (rw [hf2]; done) | (rw [hf2]; rfl))) (Sub.cons' rfl (by first | rfl | exact int_eq (by first | (rw [hf2]; done) | (rw [hf2]; rfl))) (Sub.nil)))) ?_
   exact hb
  rintro u_ wr hI_228
  replace hI_228 : Below w.heap.size w wr := hI_228
  have hb := hI_228
  show Wq _ _ _ _ [(4, .int .u64 (sgN b : Nat)), (7, .int .i64 ((m * 2 ^ j : Nat) : Int)), (11, .int .u64 (fld : Nat))] _
  try have hzhb_c11 := hb.size
  refine Wq.next hK_221 <| Wc.seq fun _ hK_229 => Wc.region <| Wl.mv rfl rfl <| Wl.mv rfl rfl ?_
  refine Wl.y (y_eq (y_shl rfl rfl (by first | decide | omega) (by first | decide | omega)) (int_eq (shl52 fld hfl))) rfl ?_
  refine Wl.y (y_eq (y_add rfl rfl) (int_eq (show _ = ((sgN b + fld * 4503599627370496 : Nat) : Int) by rw [wrap_u64 _ (by omega) (by omega)]; omega))) rfl ?_
  refine Wl.mv rfl rfl ?_
  refine Wl.y (y_eq (y_convi Tryz.underlying3 Tryz.underlying22 rfl) (int_eq (show _ = ((m * 2 ^ j : Nat) : Int) from wrap_u64 _ (by omega) (by omega)))) rfl ?_
  refine Wl.y (y_eq (y_and rfl rfl) (int_eq (and52 _ (by omega)))) rfl ?_
  refine Wl.y (y_eq (y_add rfl rfl) (int_eq (show _ = ((sgN b + rpR (m * 2 ^ j) (E - j) : Nat) : Int) by rw [← hbits, wrap_u64 _ (by omega) (by omega)]; omega))) rfl ?_
  refine Wl.y (y_b2f exn44RPrs rfl rfl) rfl ?_
  refine Wl.sg rfl rfl <| Wl.sg rfl rfl <| Wl.nil <| Wq.next hK_229 <| Wc.ret ?_
  refine ret2 rfl rfl rfl ?_
  exact ⟨_, rfl, by rw [prs_some hok2, Int.toNat_natCast], hb⟩
end Go.Proofs.YtccgjfcaomngjaaGreatDoor
namespace Go.Proofs.YtccgjfcaomngjaaGreatDoor
open Go.RowKit Go.Bw Go.Bw.Fl
set_option linter.unusedVariables false
set_option linter.unusedSimpArgs false
/-- t is the text of v, that is no text in quotes -/
structure IsOne (v : Val) (t : List UInt8) : Prop where
  ok : v.Ok
  right : rightV v = true
  k4 : v.k ≠ 4
  text : textQ v = t
theorem IsOne.inj {u v : Val} {t : List UInt8} (a : IsOne u t) (b : IsOne v t) : u = v := by
  have h1 := read_text a.ok a.right
  have h2 := read_text b.ok b.right
  rw [a.text] at h1
  rw [b.text, h1] at h2
  injection h2 with h2
  injection h2
theorem textQ_eq {k n : Int} {f : Nat} {s : List UInt8} (hr : rightV ⟨k, n, f, s⟩ = true) : textQ ⟨k, n, f, s⟩ = if k = 1 then (if (n == 1) = true then [116, 114, 117, 101] else [102, 97, 108, 115, 101]) else if k = 2 then Lib.itoa n else if k = 3 then textF f else if k = 4 then quoteV s else [110, 117, 108, 108] := by
  unfold textQ textV
  rw [if_neg (by rw [hr]; simp)]
  simp only
  split
  · rfl
  split
  · rfl
  split
  · rfl
  split <;> rfl
inductive OneIs (v : Val) (t : List UInt8) : Prop
  | null (hv : v = nullV) (ht : t = wNull)
  | true (hv : v = truthV Bool.true) (ht : t = wTrue)
  | false (hv : v = truthV Bool.false) (ht : t = wFalse)
  | int (n : Int) (h0 : -9223372036854775808 ≤ n) (h1 : n ≤ 9223372036854775807) (hv : v = ⟨2, n, 0, []⟩) (ht : t = Lib.itoa n)
  | float (f : Nat) (hf : Cn f) (hv : v = ⟨3, 0, f, []⟩) (ht : t = textF f)
theorem IsOne.is {v : Val} {t : List UInt8} (a : IsOne v t) : OneIs v t := by
  obtain ⟨o, hr, h4, ht⟩ := a
  obtain ⟨k, n, f, s⟩ := v
  rw [textQ_eq hr] at ht
  have h := hr
  unfold rightV at h
  simp only at h h4
  by_cases k0 : k = 0
  · subst k0
    rw [if_pos rfl] at h
    obtain ⟨rfl, rfl, rfl⟩ := of_decide_eq_true h
    exact .null rfl ht.symm
  rw [if_neg k0] at h
  by_cases k1 : k = 1
  · subst k1
    rw [if_pos rfl] at h ht
    obtain ⟨hn, rfl, rfl⟩ := of_decide_eq_true h
    rcases hn with rfl | rfl
    · exact .false rfl ht.symm
    · exact .true rfl ht.symm
  rw [if_neg k1] at h ht
  by_cases k2 : k = 2
  · subst k2
    rw [if_pos rfl] at h ht
    obtain ⟨rfl, rfl⟩ := of_decide_eq_true h
    exact .int n o.n0 o.n1 rfl ht.symm
  rw [if_neg k2] at h ht
  by_cases k3 : k = 3
  · subst k3
    rw [if_pos rfl] at h ht
    obtain ⟨rfl, rfl, hc⟩ := of_decide_eq_true h
    exact .float f ⟨o.f1, hc⟩ rfl ht.symm
  rw [if_neg k3, if_neg h4] at h
  cases h
theorem one_null : IsOne nullV wNull := ⟨⟨by decide, by decide, by decide⟩, rfl, by decide, rfl⟩
theorem one_true : IsOne (truthV true) wTrue := ⟨⟨by decide, by decide, by decide⟩, rfl, by decide, rfl⟩
theorem one_false : IsOne (truthV false) wFalse := ⟨⟨by decide, by decide, by decide⟩, rfl, by decide, rfl⟩
theorem one_int {n : Int} (h0 : -9223372036854775808 ≤ n) (h1 : n ≤ 9223372036854775807) : IsOne ⟨2, n, 0, []⟩ (Lib.itoa n) := ⟨⟨h0, h1, by show (0 : Nat) < _; decide⟩, rfl, by show (2 : Int) ≠ 4; decide, rfl⟩
theorem one_float {f : Nat} (hf : Cn f) : IsOne ⟨3, 0, f, []⟩ (textF f) := by
  have hr : rightV ⟨3, 0, f, []⟩ = true := (right3 rfl).trans (decide_eq_true ⟨rfl, rfl, hf.one⟩)
  exact ⟨⟨by show (-9223372036854775808 : Int) ≤ 0; decide, by show (0 : Int) ≤ _; decide, hf.lt⟩, hr, by show (3 : Int) ≠ 4; decide, by rw [textQ_eq hr]; rfl⟩
/-- numbers' texts that more follows -/
theorem nDig_pre {D : List UInt8} (h : AllDig D) (y : List UInt8) : D.length ≤ nDig (D ++ y) := by
  induction D with
  | nil => simp
  | cons c r ih =>
    rw [List.cons_append, nDig_cons, if_pos (digs_of (h c (List.mem_cons_self ..)))]
    have := ih fun x hx => h x (List.mem_cons_of_mem _ hx)
    simp only [List.length_cons]; omega
theorem lead_sgn (n : Bool) {D : List UInt8} (h : AllDig D) (hne : D ≠ []) (y : List UInt8) : lead (sgnB n ++ (D ++ y)) = (sgnB n).length + nDig (D ++ y) := by
  cases n
  · show lead (D ++ y) = 0 + _
    obtain ⟨c, r, rfl, h2, h3⟩ := dig_head h hne
    have hp : Lib.hasPrefix (c :: r ++ y) [45] = false := pre_no rfl rfl (fun e => by subst e; exact absurd h2 (by decide))
    rw [lead_other hp, Nat.zero_add]
  · show lead (45 :: (D ++ y)) = 1 + _
    rw [lead_minus]; omega
theorem word_no (n : Bool) {D : List UInt8} (h : AllDig D) (hne : D ≠ []) (y : List UInt8) (uq : List UInt8 → List UInt8 × Nat) :
    readV pf uq (sgnB n ++ (D ++ y)) = match floatAt pf (sgnB n ++ (D ++ y)) with
      | some r => some r
      | none => downI (sgnB n ++ (D ++ y)) (min (lead (sgnB n ++ (D ++ y))) 20) := by
  obtain ⟨d, r, hD, h2, h3⟩ := dig_head h hne
  have hne : ∃ c r', sgnB n ++ (D ++ y) = c :: r' ∧ (c = 45 ∧ (∃ r'', r' = d :: r'') ∨ (48 ≤ c.toNat ∧ c.toNat ≤ 57)) := by
    rw [hD]
    cases n
    · exact ⟨d, r ++ y, rfl, .inr ⟨h2, h3⟩⟩
    · exact ⟨45, _, rfl, .inl ⟨rfl, r ++ y, rfl⟩⟩
  obtain ⟨s, hs⟩ : ∃ s, s = sgnB n ++ (D ++ y) := ⟨_, rfl⟩
  rw [← hs] at hne ⊢
  obtain ⟨c, r', hcr, hc⟩ := hne
  have hno : ∀ (w x : List UInt8) (d : UInt8), w = d :: x → d ≠ 45 → (d.toNat < 48 ∨ 57 < d.toNat) → Lib.hasPrefix s w = false := fun w x d hw h45 hd => by
    refine pre_no hcr hw (fun e => ?_)
    subst e
    rcases hc with ⟨h2, _⟩ | h2
    · exact h45 h2
    · omega
  have hw3 : words3.find? (fun x => Lib.hasPrefix s x) = none := by
    rw [List.find?_eq_none]
    intro x hx
    simp only [words3, List.mem_cons, List.not_mem_nil, or_false] at hx
    rcases hx with rfl | rfl | rfl
    · rw [hno _ _ 110 rfl (by decide) (by decide)]; simp
    · rw [hno _ _ 105 rfl (by decide) (by decide)]; simp
    · have : Lib.hasPrefix s [45, 105, 110, 102] = false := by
        rcases hc with ⟨rfl, ⟨r'', hd⟩⟩ | h2
        · cases hq : Lib.hasPrefix s [45, 105, 110, 102] with
          | false => rfl
          | true =>
            rw [pre_iff] at hq
            obtain ⟨t, ht⟩ := hq
            rw [hcr, hd] at ht
            injection ht with _ ht2
            injection ht2 with ht3 _
            subst ht3; exact absurd h3 (by decide)
        · exact pre_no hcr rfl (fun e => by subst e; exact absurd h2.1 (by decide))
      rw [this]; simp
  unfold readV
  rw [hno [39] [] 39 rfl (by decide) (by decide), hno wNull _ 110 rfl (by decide) (by decide), hno wFalse _ 102 rfl (by decide) (by decide), hno wTrue _ 116 rfl (by decide) (by decide), hw3]; rfl
theorem downG_ge {α : Type} {f : Nat → Option α} {j : Nat} (hj : (f j).isSome = true) : ∀ {M : Nat}, j < M → ∃ i b, j ≤ i ∧ i < M ∧ downG f M = some b ∧ f i = some b
  | 0, h => by omega
  | M + 1, h => by
    rw [downG]
    cases hf : f M with
    | some b => exact ⟨M, b, by omega, by omega, rfl, hf⟩
    | none =>
      by_cases e : j = M
      · subst e; rw [hf] at hj; cases hj
      · obtain ⟨i, b, h1, h2, h3, h4⟩ := downG_ge hj (M := M) (by omega)
        exact ⟨i, b, h1, by omega, h3, h4⟩
theorem floatAt_gt {s : List UInt8} {u : Val} {m : Nat} (h : floatAt pf s = some (u, m)) : lead s < m := by
  unfold floatAt at h
  split at h
  · rename_i hp
    have hk := floatK_bd s hp
    rw [downF_eq] at h
    obtain ⟨j, h1, h2, _⟩ := downG_some h
    unfold fltG at h2
    cases hp : pf (s.take (floatK s + j + 1)) with
    | none => rw [hp] at h2; cases h2
    | some f =>
      rw [hp] at h2
      injection h2 with h2
      injection h2 with h2 h3
      omega
  · cases h
theorem itoa_sgnB (n : Int) : Lib.itoa n = sgnB (decide (n < 0)) ++ Lib.decDigits n.natAbs := by
  unfold Lib.itoa sgnB
  by_cases h : n < 0
  · rw [if_pos h, if_pos (decide_eq_true h)]; rfl
  · rw [if_neg h, if_neg (by simp [h]), show n.toNat = n.natAbs by omega]; rfl
theorem read_ge_int {n : Int} (h0 : -9223372036854775808 ≤ n) (h1 : n ≤ 9223372036854775807) (x : List UInt8) : ∃ u m, readV pf uqV (Lib.itoa n ++ x) = some (u, m) ∧ (Lib.itoa n).length ≤ m := by
  obtain ⟨ha, _, hb⟩ := decDigits_spec n.natAbs
  have hp : parseI (Lib.itoa n) = some n := by unfold parseI; rw [Lib.parseIntB_64, atoi_itoa h0 h1]
  have hlen : (Lib.itoa n).length ≤ 20 := by
    rw [itoa_sgnB, List.length_append]
    have := digs_le19 n.natAbs (by omega)
    have h2 : (sgnB (decide (n < 0))).length ≤ 1 := by unfold sgnB; split <;> simp
    omega
  have hpos : 0 < (Lib.itoa n).length := by rw [itoa_sgnB, List.length_append]; have := List.length_pos_iff.2 hb; omega
  have hs : Lib.itoa n ++ x = sgnB (decide (n < 0)) ++ (Lib.decDigits n.natAbs ++ x) := by rw [itoa_sgnB, List.append_assoc]
  have hl : (Lib.itoa n).length ≤ lead (Lib.itoa n ++ x) := by
    rw [hs, lead_sgn _ ha hb]
    have := nDig_pre ha x
    rw [itoa_sgnB, List.length_append]; omega
  have hw := word_no (decide (n < 0)) ha hb x uqV
  rw [← hs] at hw
  rw [hw]
  cases hf : floatAt pf (Lib.itoa n ++ x) with
  | some r =>
    obtain ⟨u, m⟩ := r
    have := floatAt_gt hf
    exact ⟨u, m, rfl, by omega⟩
  | none =>
    simp only
    rw [downI_eq]
    have hit : intG (Lib.itoa n ++ x) ((Lib.itoa n).length - 1) = some (⟨2, n, 0, []⟩, (Lib.itoa n).length) := by
      unfold intG
      rw [show (Lib.itoa n).length - 1 + 1 = (Lib.itoa n).length by omega, List.take_left, hp]
      simp
    obtain ⟨i, b, h2, h3, h4, h5⟩ := downG_ge (f := intG (Lib.itoa n ++ x)) (j := (Lib.itoa n).length - 1) (by rw [hit]; rfl) (M := min (lead (Lib.itoa n ++ x)) 20) (by omega)
    obtain ⟨u, m⟩ := b
    refine ⟨u, m, h4, ?_⟩
    unfold intG at h5
    cases hq : parseI ((Lib.itoa n ++ x).take (i + 1)) with
    | none => rw [hq] at h5; cases h5
    | some v =>
      rw [hq] at h5
      simp only [Option.bind_some] at h5
      split at h5
      · injection h5 with h5
        injection h5 with h5 h6
        omega
      · cases h5
theorem read_ge_num {t : List UInt8} {f : Nat} {n : Bool} {M : Nat} {e : Int} (hp : pf t = some f) (ht : t = sgnB n ++ numT M e) (h0 : -9999 ≤ e) (h1 : e ≤ 9999) (x : List UInt8) : ∃ u m, readV pf uqV (t ++ x) = some (u, m) ∧ t.length ≤ m := by
  obtain ⟨dm, _, dn⟩ := decDigits_spec M
  obtain ⟨D, ha, hb, hl, hi⟩ := itoa_shape e h0 h1
  have hs : t ++ x = sgnB n ++ (Lib.decDigits M ++ (112 :: (Lib.itoa e ++ x))) := by rw [ht]; unfold numT; simp
  have hd : nDig (Lib.decDigits M ++ (112 :: (Lib.itoa e ++ x))) = (Lib.decDigits M).length := by rw [nDig_app 112 _ (by decide), nDig_all dm]
  have hlead : lead (t ++ x) = (sgnB n).length + (Lib.decDigits M).length := by rw [hs, lead_sgn _ dm dn, hd]
  have hsd : (t ++ x).drop (lead (t ++ x)) = 112 :: (Lib.itoa e ++ x) := by
    rw [hlead, hs, ← List.append_assoc, List.drop_left' (by rw [List.length_append])]
  have htl : t.length = lead (t ++ x) + 1 + (Lib.itoa e).length := by rw [hlead, ht]; unfold numT; simp; omega
  have hat : ∀ k, (t ++ x)[lead (t ++ x) + k]? = (112 :: (Lib.itoa e ++ x))[k]? := fun k => by rw [← hsd, List.getElem?_drop]
  have hP : (t ++ x)[lead (t ++ x)]? = some 112 := by have := hat 0; simpa using this
  have hK : floatK (t ++ x) + D.length = t.length ∧ (t ++ x).drop (floatK (t ++ x)) = D ++ x := by
    have h2 := hat 1
    simp only [List.getElem?_cons_succ] at h2
    unfold floatK
    rcases hi with hi | hi
    · rw [if_neg (by rw [h2, hi]; exact dig_not ha (r := x) hb (k := 45) (.inl (by decide)))]
      refine ⟨by rw [htl, hi], ?_⟩
      rw [← List.drop_drop, hsd, hi]; rfl
    · rw [if_pos (by rw [h2, hi]; rfl)]
      refine ⟨by rw [htl, hi, List.length_cons]; omega, ?_⟩
      rw [← List.drop_drop, hsd, hi]; rfl
  have hM : D.length ≤ floatM (t ++ x) := by
    unfold floatM; rw [hK.2]
    have := nDig_pre ha x
    omega
  have hpos : 0 < D.length := List.length_pos_iff.2 hb
  have hw := word_no n dm dn (112 :: (Lib.itoa e ++ x)) uqV
  rw [← hs] at hw
  have hit : fltG pf (t ++ x) (floatK (t ++ x)) (D.length - 1) = some (⟨3, 0, f, []⟩, t.length) := by
    unfold fltG
    rw [show floatK (t ++ x) + (D.length - 1) + 1 = t.length by omega, List.take_left, hp]; rfl
  obtain ⟨i, b, h2, h3, h4, h5⟩ := downG_ge (f := fltG pf (t ++ x) (floatK (t ++ x))) (j := D.length - 1) (by rw [hit]; rfl) (M := floatM (t ++ x)) (by omega)
  obtain ⟨u, m⟩ := b
  have hfl : floatAt pf (t ++ x) = some (u, m) := by unfold floatAt; rw [if_pos hP, downF_eq]; exact h4
  refine ⟨u, m, by rw [hw, hfl], ?_⟩
  unfold fltG at h5
  cases hq : pf ((t ++ x).take (floatK (t ++ x) + i + 1)) with
  | none => rw [hq] at h5; cases h5
  | some g =>
    rw [hq] at h5
    injection h5 with h5
    injection h5 with h5 h6
    omega
theorem read_ge_float {f : Nat} (hf : Cn f) (x : List UInt8) : ∃ u m, readV pf uqV (textF f ++ x) = some (u, m) ∧ (textF f).length ≤ m := by
  have hp := pf_hit hf rfl
  by_cases h1 : isNan f = true
  · rw [text_nan2 h1]; exact ⟨_, 3, rfl, Nat.le_refl _⟩
  have h1' : isNan f = false := by simpa using h1
  by_cases h2 : rung f = 9218868437227405312
  · have ht : textF f = sgnB (isNeg f) ++ [105, 110, 102] := text_inf h1' h2
    cases hn : isNeg f
    · rw [hn] at ht
      have ht : textF f = [105, 110, 102] := ht
      rw [ht]; exact ⟨_, 3, rfl, Nat.le_refl _⟩
    · rw [hn] at ht
      have ht : textF f = [45, 105, 110, 102] := ht
      rw [ht]; exact ⟨_, 4, rfl, Nat.le_refl _⟩
  have h6 : rung f ≤ 9218868437227405312 := by simpa [isNan, rung] using h1'
  have hr : rung f < 9218868437227405312 := by omega
  by_cases h3 : rung f = 0
  · refine read_ge_num (n := isNeg f) (M := 0) (e := 0) hp ?_ (by decide) (by decide) x
    rw [text_zero h1' h2 h3]
    have : numT 0 0 = [48, 112, 48] := by
      have e0 : Lib.decDigits 0 = [48] := Lib.decDigits_one (by decide)
      have e1 : Lib.itoa 0 = Lib.decDigits 0 := rfl
      unfold numT; rw [e1, e0]; rfl
    rw [this]; rfl
  · have e1 := exp0_bd hr
    have e2 := v2_le hr h3
    refine read_ge_num (n := isNeg f) (M := od (mant0 (rung f))) (e := exp0 (rung f) + v2 (mant0 (rung f))) hp ?_ (by omega) (by omega) x
    rw [text_num h1' h2 h3]; unfold numT; rw [sgn_eq]; simp
theorem read_ge {v : Val} {t : List UInt8} (h : IsOne v t) (x : List UInt8) : ∃ u m, readV pf uqV (t ++ x) = some (u, m) ∧ t.length ≤ m := by
  cases h.is with
  | null _ ht => rw [ht]; exact ⟨_, 4, rfl, Nat.le_refl _⟩
  | true _ ht => rw [ht]; exact ⟨_, 4, rfl, Nat.le_refl _⟩
  | false _ ht => rw [ht]; exact ⟨_, 5, rfl, Nat.le_refl _⟩
  | int n h0 h1 _ ht => rw [ht]; exact read_ge_int h0 h1 x
  | float f hf _ ht => rw [ht]; exact read_ge_float hf x
theorem one_len {v : Val} {t : List UInt8} (h : IsOne v t) : t.length ≤ 40 ∧ 0 < t.length := by
  have hr := (read_text h.ok h.right)
  rw [h.text] at hr
  have h2 := readV_len hr
  refine ⟨?_, h2.1⟩
  cases h.is with
  | null _ ht => rw [ht]; decide
  | true _ ht => rw [ht]; decide
  | false _ ht => rw [ht]; decide
  | int n h0 h1 _ ht =>
    rw [ht, itoa_sgnB, List.length_append]
    have := digs_le19 n.natAbs (by omega)
    have h2 : (sgnB (decide (n < 0))).length ≤ 1 := by unfold sgnB; split <;> simp
    omega
  | float f hf _ ht =>
    rw [ht]
    by_cases h1 : isNan f = true
    · rw [text_nan2 h1]; decide
    have h1' : isNan f = false := by simpa using h1
    have hsg : (sgn f).length ≤ 1 := by unfold sgn; split <;> simp
    by_cases h2 : rung f = 9218868437227405312
    · rw [text_inf h1' h2, List.length_append]; simp; omega
    have h6 : rung f ≤ 9218868437227405312 := by simpa [isNan, rung] using h1'
    have hr : rung f < 9218868437227405312 := by omega
    by_cases h3 : rung f = 0
    · rw [text_zero h1' h2 h3, List.length_append]; simp; omega
    rw [text_num h1' h2 h3]
    have hm := mant0_lt hr
    have h7 : (Lib.decDigits (od (mant0 (rung f)))).length ≤ 19 := digs_le19 _ (Nat.le_trans (Nat.div_le_self _ _) (by omega))
    have e1 := exp0_bd hr
    have e2 := v2_le hr h3
    obtain ⟨D, _, _, hl, hi⟩ := itoa_shape (exp0 (rung f) + v2 (mant0 (rung f))) (by omega) (by omega)
    have hil : (Lib.itoa (exp0 (rung f) + v2 (mant0 (rung f)))).length ≤ 5 := by
      rcases hi with hi | hi <;> rw [hi]
      · omega
      · rw [List.length_cons]; omega
    simp only [List.length_append, List.length_cons, List.length_nil]; omega
theorem read_one {s : List UInt8} {u : Val} {m : Nat} (hq : Lib.hasPrefix s [39] = false) (h : readV pf uqV s = some (u, m)) : IsOne u (s.take m) ∧ 0 < m ∧ m ≤ min s.length 40 := by
  obtain ⟨h1, h2⟩ := readV_right h
  have h3 := readV_len h
  have h4 : IsOne u (s.take m) := ⟨readV_ok h, h1, fun hk => (by
    have ht : textQ u = quoteV u.s := by
      unfold textQ textV
      rw [if_neg (by rw [h1]; simp), if_neg (by omega), if_neg (by omega), if_neg (by omega), if_pos hk]
    rw [ht] at h2
    have h5 : Lib.hasPrefix s [39] = true := (pre_iff _ _).2 ((List.prefix_append [39] (u.s.flatMap qc ++ [39])).trans (by
      rw [show ([39] : List UInt8) ++ (u.s.flatMap qc ++ [39]) = quoteV u.s from rfl, h2]; exact List.take_prefix _ _))
    rw [h5] at hq; cases hq), h2⟩
  have h5 := (one_len h4).1
  rw [List.length_take] at h5
  exact ⟨h4, h3.1, by omega⟩
theorem read_hit {s : List UInt8} {v : Val} {n : Nat} (hq : Lib.hasPrefix s [39] = false) (h : IsOne v (s.take n)) (hn : n ≤ min s.length 40) (hm : ∀ m, n < m → m ≤ min s.length 40 → ∀ u, ¬ IsOne u (s.take m)) : readV pf uqV s = some (v, n) := by
  obtain ⟨u, m, h1, h2⟩ := read_ge h (s.drop n)
  rw [List.take_append_drop] at h1
  rw [List.length_take] at h2
  obtain ⟨h3, h4, h5⟩ := read_one hq h1
  have e : m = n := by
    rcases Nat.lt_or_ge n m with h6 | h6
    · exact absurd h3 (hm m h6 h5 u)
    · omega
  subst e
  rw [h1, h3.inj h]
theorem read_miss {s : List UInt8} (hq : Lib.hasPrefix s [39] = false) (hm : ∀ m, 0 < m → m ≤ min s.length 40 → ∀ u, ¬ IsOne u (s.take m)) : readV pf uqV s = none := by
  cases h : readV pf uqV s with
  | none => rfl
  | some r =>
    obtain ⟨u, m⟩ := r
    obtain ⟨h3, h4, h5⟩ := read_one hq h
    exact absurd h3 (hm m h4 h5 u)
end Go.Proofs.YtccgjfcaomngjaaGreatDoor
namespace Go.Proofs.YtccgjfcaomngjaaGreatDoor
open Go.RowKit Go.Bw Go.Bw.Fl
set_option linter.unusedVariables false
set_option linter.unusedSimpArgs false
theorem fa28_1RRead (p : Addr) (w : World) : (Instr.fieldAt 28 (.pointer (some p)) 1).run Tryz.prog w = .ok (.pointer (some (p.add 1))) w := run_fieldAt (i := 1) (sz := 0) Tryz.underlying28 rfl (by kernel_rfl) p w
theorem one2RRead : One Tryz.prog 2 := ⟨_, Tryz.underlying2, rfl, by kernel_rfl⟩
theorem txt120RRead : Txt Tryz.prog 120 := ⟨_, Tryz.func120, by kernel_rfl, rfl⟩   -- bridleway/bridlewayref02.Truth
theorem txt121RRead : Txt Tryz.prog 121 := ⟨_, Tryz.func121, by kernel_rfl, rfl⟩   -- bridleway/bridlewayref01.Parse
theorem txt17RRead : Txt Tryz.prog 17 := ⟨_, Tryz.func17, by kernel_rfl, rfl⟩   -- bridleway/bridlewayref02.Text
theorem txt59RRead : Txt Tryz.prog 59 := ⟨_, Tryz.func59, by kernel_rfl, rfl⟩   -- bridleway/bridlewayref02.quoted
theorem txt60RRead : Txt Tryz.prog 60 := ⟨_, Tryz.func60, by kernel_rfl, rfl⟩   -- bridleway/bridlewayref02.null
theorem txt61RRead : Txt Tryz.prog 61 := ⟨_, Tryz.func61, by kernel_rfl, rfl⟩   -- bridleway/bridlewayref02.one
/-- what one tells -/
def OneV (s : List UInt8) (u : Val) (ok : Bool) : Prop := (ok = true ∧ IsOne u s) ∨ (ok = false ∧ u = nullV ∧ ∀ v, ¬ IsOne v s)
theorem OneV.ok {s : List UInt8} {u : Val} {ok : Bool} (h : OneV s u ok) : u.Ok := by
  rcases h with ⟨_, h⟩ | ⟨_, h, _⟩
  · exact h.ok
  · rw [h]; exact ⟨by decide, by decide, by decide⟩
theorem null_val : Value.agg #[.int .i64 0, .int .i64 0, .float .f64 0, str []] = nullV.enc := rfl
theorem pf_one {s : List UInt8} {f : Nat} (h : pf s = some f) : IsOne ⟨3, 0, f, []⟩ s := by
  obtain ⟨h1, h2⟩ := pf_some h
  have := one_float h1
  rwa [h2] at this
theorem pf_no {s : List UInt8} (h : pf s = none) {f : Nat} (hf : Cn f) (ht : s = textF f) : False := by
  rw [pf_hit hf ht.symm] at h; cases h
/-- no word and no float: a whole number or nothing -/
theorem one_only {s : List UInt8} (h0 : s ≠ wNull) (h1 : s ≠ wTrue) (h2 : s ≠ wFalse) (h3 : pf s = none) {v : Val} (h : IsOne v s) : ∃ n, -9223372036854775808 ≤ n ∧ n ≤ 9223372036854775807 ∧ v = ⟨2, n, 0, []⟩ ∧ s = Lib.itoa n := by
  cases h.is with
  | null _ ht => exact absurd ht h0
  | true _ ht => exact absurd ht h1
  | false _ ht => exact absurd ht h2
  | int n a b hv ht => exact ⟨n, a, b, hv, ht⟩
  | float f hf _ ht => exact absurd ht (fun e => pf_no h3 hf e)
/-- the digits of s from its sign on -/
def sgl (s : List UInt8) : Nat := if Lib.hasPrefix s [45] = true then 1 else 0
theorem itoa_sgl (n : Int) : sgl (Lib.itoa n) = (if n < 0 then 1 else 0) ∧ (Lib.itoa n).drop (sgl (Lib.itoa n)) = Lib.decDigits n.natAbs := by
  obtain ⟨h1, h2⟩ := itoa_cut n
  unfold sgl
  rw [h1]
  by_cases hn : n < 0
  · rw [if_pos (decide_eq_true hn), if_pos hn]
    refine ⟨rfl, ?_⟩
    rw [← h2, trim45_t (by rw [h1]; exact decide_eq_true hn)]
  · rw [if_neg (by simp [hn]), if_neg hn]
    refine ⟨rfl, ?_⟩
    rw [← h2, trim45_f (by rw [h1]; exact decide_eq_false hn)]; rfl
theorem itoa_len20 {n : Int} (h0 : -9223372036854775808 ≤ n) (h1 : n ≤ 9223372036854775807) : (Lib.itoa n).length ≤ 20 ∧ 0 < (Lib.itoa n).length := by
  have := one_len (one_int h0 h1)
  rw [itoa_sgnB, List.length_append] at this ⊢
  have h3 := digs_le19 n.natAbs (by omega)
  have h2 : (sgnB (decide (n < 0))).length ≤ 1 := by unfold sgnB; split <;> simp
  omega
/-- what the loop holds of a whole number's text: the negative of the digits so far -/
def Acc (s : List UInt8) (i : Nat) (z : Int) : Prop := ∀ n, -9223372036854775808 ≤ n → n ≤ 9223372036854775807 → s = Lib.itoa n → z = -((dval 0 ((s.take i).drop (sgl s)) : Nat) : Int) ∧ dval 0 ((s.take i).drop (sgl s)) ≤ n.natAbs
theorem Acc.start (s : List UInt8) : Acc s 0 0 := fun n _ _ _ => by rw [List.take_zero, List.drop_nil]; exact ⟨rfl, Nat.zero_le _⟩
theorem Acc.skip {s : List UInt8} (h : Lib.hasPrefix s [45] = true) : Acc s 1 0 := fun n _ _ _ => by
  have : sgl s = 1 := if_pos h
  rw [this, List.drop_eq_nil_of_le (List.length_take_le 1 s)]; exact ⟨rfl, Nat.zero_le _⟩
theorem take_drop_end {s : List UInt8} {i k : Nat} (hk : k ≤ i) (h : i < s.length) : (s.take (i + 1)).drop k = (s.take i).drop k ++ [s.getD i 0] := by
  rw [take_end h, List.drop_append_of_le_length (by rw [List.length_take]; omega)]
theorem Acc.step {s : List UInt8} {i : Nat} {z z' : Int} (h : Acc s i z) (hi : i < s.length) (hk : sgl s ≤ i) (hz : z ≤ 0 → -9223372036854775808 ≤ z * 10 - ((s.getD i 0).toNat - 48 : Nat) → z' = z * 10 - ((s.getD i 0).toNat - 48 : Nat)) : Acc s (i + 1) z' := fun n h0 h1 hs => by
  obtain ⟨e1, e2⟩ := h n h0 h1 hs
  have e3 : dval 0 ((s.take (i + 1)).drop (sgl s)) = dval 0 ((s.take i).drop (sgl s)) * 10 + ((s.getD i 0).toNat - 48) := by rw [take_drop_end hk hi, dval_append]; rfl
  have hall : dval 0 (s.drop (sgl s)) = n.natAbs := by
    rw [hs, (itoa_sgl n).2]; exact (decDigits_spec n.natAbs).2.1
  have hle : dval 0 ((s.take (i + 1)).drop (sgl s)) ≤ n.natAbs := by
    rw [← hall]
    have e4 := dval_append (s.drop (i + 1)) ((s.take (i + 1)).drop (sgl s)) 0
    have e5 : (s.take (i + 1)).drop (sgl s) ++ s.drop (i + 1) = s.drop (sgl s) := by
      rw [← List.drop_append_of_le_length (by rw [List.length_take]; omega), List.take_append_drop]
    rw [e5] at e4
    rw [e4]; exact dval_ge _ _
  refine ⟨?_, hle⟩
  rw [hz (by omega) (by omega), e3]; omega
theorem Acc.bad {s : List UInt8} {i : Nat} (hi : i < s.length) (hk : sgl s ≤ i) (hd : (s.getD i 0).toNat < 48 ∨ 57 < (s.getD i 0).toNat) (n : Int) : s ≠ Lib.itoa n := fun hs => by
  have h1 : (s.drop (sgl s)).getD (i - sgl s) 0 = s.getD i 0 := by
    simp only [List.getD, List.getElem?_drop]; rw [show sgl s + (i - sgl s) = i by omega]
  have h2 : AllDig (s.drop (sgl s)) := by
    rw [hs, (itoa_sgl n).2]
    exact (decDigits_spec n.natAbs).1
  have h3 := h2 _ (getD_mem (i := i - sgl s) (by rw [List.length_drop]; omega))
  rw [h1] at h3; omega
theorem Acc.done {s : List UInt8} {z : Int} (h : Acc s s.length z) {n : Int} (h0 : -9223372036854775808 ≤ n) (h1 : n ≤ 9223372036854775807) (hs : s = Lib.itoa n) : z = -(n.natAbs : Int) ∧ (sgl s = 1 ↔ n < 0) := by
  obtain ⟨e1, _⟩ := h n h0 h1 hs
  have hall : dval 0 (s.drop (sgl s)) = n.natAbs := by
    conv => lhs; rw [hs, (itoa_sgl n).2]
    exact (decDigits_spec n.natAbs).2.1
  rw [List.take_length, hall] at e1
  refine ⟨e1, ?_⟩
  rw [hs, (itoa_sgl n).1]
  by_cases hn : n < 0
  · rw [if_pos hn]; simp [hn]
  · rw [if_neg hn]; simp [hn]
theorem wrap_rng2 (n : Int) : -9223372036854775808 ≤ IntKind.i64.wrap n ∧ IntKind.i64.wrap n ≤ 9223372036854775807 := by rw [IntKind.wrap_i64]; omega
theorem wrap_dbl {z : Int} {d : Int} (hz : -9223372036854775808 ≤ z ∧ z ≤ 0) (hd : 0 ≤ d ∧ d ≤ 255) (h : -9223372036854775808 ≤ z * 10 - d) : IntKind.i64.wrap (IntKind.i64.wrap (z * 10) - d) = z * 10 - d := by
  rw [wrap_i64 (z * 10) (by omega) (by omega), wrap_i64 _ (by omega) (by omega)]
theorem text_two (n : Int) : textV (quoteV []) ⟨2, n, 0, []⟩ = (Lib.itoa n, 0) := rfl
theorem RParse_x (s : List UInt8) (hs : s.length ≤ 281474976710656) (w : World) : Ret Tryz.prog 121 [str s] w fun v w' => (∃ (f : Nat) (e : Int), v = .tuple #[.float .f64 f, .int .i64 e] ∧ ((e = 0 ∧ pf s = some f) ∨ (e = 2 ∧ pf s = none ∧ f = 0))) ∧ Below w.heap.size w w' :=
  (RParse_r s hs w).mono fun v w' ⟨h1, h2⟩ => ⟨by
    subst h1
    cases h : pf s with
    | none => exact ⟨0, 2, prs_none h, .inr ⟨rfl, rfl, rfl⟩⟩
    | some f => exact ⟨f, 0, prs_some h, .inl ⟨rfl, rfl⟩⟩, h2⟩
def zzV (dn : Bool) (z : Int) : Int := if dn = true then z else IntKind.i64.wrap (0 - z)
theorem Rone_r (s : List UInt8) (hs : s.length ≤ 281474976710656) (w : World) : Ret Tryz.prog 61 [str s] w fun v w' => (∃ u ok, v = .tuple #[Val.enc u, .bool ok] ∧ OneV s u ok) ∧ Below w.heap.size w w' := by
  have hb := Below.refl w.heap.size w
  refine enter Tryz.func61 rfl rfl rfl ?_
  refine Wc.seq fun _ hK_1 => Wc.region ?_
  refine Wl.allocN (z := (.agg #[(.int .i64 0), (.int .i64 0), (.float .f64 0), (str [])])) (by kernel_rfl) rfl ?_
  rintro g_o0 w_o0 hg_o0 hn_o0 hs_o0
  have hz_o0 := hs_o0.size
  have hb := hb.trans (hs_o0.mono hb.size)
  have hB_o0 := hn_o0
  have hl_o0 := hB_o0.lt
  refine Wl.sg rfl rfl <| Wl.nil <| Wq.next hK_1 <| Wc.seq fun _ hK_4 => Wc.seq fun _ hK_5 => Wc.region <| Wl.mv rfl rfl <| Wl.y (y_eqls rfl rfl) rfl <| Wl.nil <| Wq.next hK_5 ?_
  refine Wc.cond rfl (fun c0_8 => ?_) (fun c0_8 => ?_)
  ·
   have c0_8_ := c0_8
   try simp only [DZ] at c0_8
   refine Wc.seq fun _ hK_9 => Wc.region ?_
   refine Wl.call txt60RRead rfl rfl (null_r _) rfl ?_
   rintro _ w_k0 ⟨rfl, hs_k0⟩
   have hz_k0 := hs_k0.size
   have hb := hb.trans (hs_k0.mono hb.size)
   try have hB_o0 := Blk.below hB_o0 hs_k0
   refine Wl.storeS (by kernel_rfl) rfl rfl hB_o0 rfl rfl ?_
   rintro w_s0 hn_s0 hg_s0
   have hz_s0 := hg_s0.size
   have hb := below_blk hb hg_s0 hb.size (by omega)
   have hB_o0 := hn_s0
   refine Wl.sg rfl rfl <| Wl.nil <| Wq.next hK_9 <| Wc.ret <| Wq.then_ret ?_
   refine retN (rs := [.cell 2 28, .tmp 3]) (vs := [_, _]) rfl (.cell rfl (loadS Tryz.underlying28 (by kernel_rfl) (fun j u hu => hB_o0.at hu)) (.tmp rfl .nil)) ?_
   exact ⟨_, rfl, ⟨_, _, rfl, .inl ⟨rfl, by rw [c0_8]; exact one_null⟩⟩, hb⟩
  have c0_8_ := c0_8
  try simp only [DZ] at c0_8
  have hn0 : s ≠ wNull := c0_8
  refine Wc.skip <| Wq.next hK_4 <| Wc.seq fun _ hK_12 => Wc.seq fun _ hK_13 => ?_
  refine Wc.meet (X := Bool) (fun q => [(0, str s), (2, .pointer (some ⟨g_o0, 0, none⟩)), (3, .bool false), (19, .bool q)]) (fun q wr => q = decide (s = wTrue ∨ s = wFalse) ∧ Below w.heap.size w wr ∧ Blk wr g_o0 28 nullV.cells) (fun _ hM_14 => ?_) ?_
  ·
   refine Wc.region <| Wl.mv rfl rfl <| Wl.y (y_eqls rfl rfl) rfl <| Wl.mv rfl rfl ?_
   refine Wl.guardF rfl rfl rfl (fun g_18 => ?_) (fun g_18 => ?_)
   ·
    have g_18_ := g_18
    try simp only [DZ] at g_18
    refine Wl.off' rfl rfl g_18_ rfl rfl ?_
    refine Wl.y (y_pickT rfl g_18_ rfl) rfl ?_
    refine Wl.nil ?_
    refine Wq.meet hM_14 (decide (s = wTrue ∨ s = wFalse)) (Sub.cons' rfl (by first | rfl | exact bool_eq (by rw [Bool.eq_iff_iff]; simp_all [wTrue, wFalse])) (Sub.cons' rfl (by first | rfl | exact bool_eq (by rw [Bool.eq_iff_iff]; simp_all [wTrue, wFalse])) (Sub.cons' rfl (by first | rfl | exact bool_eq (by rw [Bool.eq_iff_iff]; simp_all [wTrue, wFalse])) (Sub.cons' rfl (by first | rfl | exact bool_eq (by rw [Bool.eq_iff_iff]; simp_all [wTrue, wFalse])) (Sub.nil))))) ?_
    exact ⟨rfl, hb, hB_o0⟩
   have g_18_ := g_18
   try simp only [DZ] at g_18
   refine Wl.mv rfl rfl <| Wl.on' rfl rfl g_18_ <| Wl.y (y_eqls rfl rfl) rfl ?_
   refine Wl.y (y_pickF rfl g_18_ rfl) rfl ?_
   refine Wl.nil ?_
   refine Wq.meet hM_14 (decide (s = wTrue ∨ s = wFalse)) (Sub.cons' rfl (by first | rfl | exact bool_eq (by rw [Bool.eq_iff_iff]; simp_all [wTrue, wFalse])) (Sub.cons' rfl (by first | rfl | exact bool_eq (by rw [Bool.eq_iff_iff]; simp_all [wTrue, wFalse])) (Sub.cons' rfl (by first | rfl | exact bool_eq (by rw [Bool.eq_iff_iff]; simp_all [wTrue, wFalse])) (Sub.cons' rfl (by first | rfl | exact bool_eq (by rw [Bool.eq_iff_iff]; simp_all [wTrue, wFalse])) (Sub.nil))))) ?_
   exact ⟨rfl, hb, hB_o0⟩
  rintro q wr hI_23
  replace hI_23 : q = decide (s = wTrue ∨ s = wFalse) ∧ Below w.heap.size w wr ∧ Blk wr g_o0 28 nullV.cells := hI_23
  obtain ⟨hq, hb, hB_o0⟩ := hI_23
  show Wq _ _ _ _ [(0, str s), (2, .pointer (some ⟨g_o0, 0, none⟩)), (3, .bool false), (19, .bool q)] _
  try have hzhb_g3 := hb.size
  have hlhB_o0_g3 := hB_o0.lt
  refine Wq.next hK_13 ?_
  refine Wc.cond rfl (fun c1_24 => ?_) (fun c1_24 => ?_)
  ·
   have c1_24_ := c1_24
   try simp only [DZ] at c1_24
   have hq1 := of_decide_eq_true (hq.symm.trans c1_24_)
   refine Wc.seq fun _ hK_25 => Wc.region <| Wl.mv rfl rfl <| Wl.y (y_eqls rfl rfl) rfl ?_
   refine Wl.call txt120RRead rfl rfl (Truth_r _ _) rfl ?_
   rintro _ w_k1 ⟨rfl, hs_k1⟩
   have hz_k1 := hs_k1.size
   have hb := hb.trans (hs_k1.mono hb.size)
   try have hB_o0 := Blk.below hB_o0 hs_k1
   refine Wl.storeS (by kernel_rfl) rfl rfl hB_o0 rfl rfl ?_
   rintro w_s1 hn_s1 hg_s1
   have hz_s1 := hg_s1.size
   have hb := below_blk hb hg_s1 hb.size (by omega)
   have hB_o0 := hn_s1
   refine Wl.sg rfl rfl <| Wl.nil <| Wq.next hK_25 <| Wc.ret <| Wq.then_ret ?_
   refine retN (rs := [.cell 2 28, .tmp 3]) (vs := [_, _]) rfl (.cell rfl (loadS Tryz.underlying28 (by kernel_rfl) (fun j u hu => hB_o0.at hu)) (.tmp rfl .nil)) ?_
   exact ⟨_, rfl, ⟨_, _, rfl, .inl ⟨rfl, by rcases hq1 with h | h <;> rw [h]; exact one_true; exact one_false⟩⟩, hb⟩
  have c1_24_ := c1_24
  try simp only [DZ] at c1_24
  have hq1 := of_decide_eq_false (hq.symm.trans c1_24_)
  refine Wc.skip <| Wq.next hK_12 <| Wc.seq fun _ hK_30 => Wc.region <| Wl.mv rfl rfl ?_
  refine Wl.call txt121RRead rfl rfl (RParse_x s hs _) rfl ?_
  rintro _ w_k2 ⟨⟨f, ee, rfl, hpf⟩, hs_k2⟩
  have hz_k2 := hs_k2.size
  have hb := hb.trans (hs_k2.mono hb.size)
  try have hB_o0 := Blk.below hB_o0 hs_k2
  refine Wl.mv rfl rfl <| Wl.y (y_extract rfl rfl) rfl <| Wl.y (y_extract rfl rfl) rfl <| Wl.sg rfl rfl <| Wl.sg rfl rfl <| Wl.nil <| Wq.next hK_30 <| Wc.seq fun _ hK_38 => Wc.seq fun _ hK_39 => Wc.region ?_
  refine Wl.mv rfl rfl <| Wl.y (y_eqli rfl rfl) rfl <| Wl.nil <| Wq.next hK_39 ?_
  refine Wc.cond rfl (fun c2_42 => ?_) (fun c2_42 => ?_)
  ·
   have c2_42_ := c2_42
   try simp only [DZ] at c2_42
   have hsome : pf s = some f := by rcases hpf with h | h; exact h.2; (have := c2_42; omega)
   refine Wc.seq fun _ hK_43 => Wc.region <| Wl.mv rfl rfl ?_
   refine Wl.y (y_buildS (z := [(.int .i64 0), (.int .i64 0), (.float .f64 0), (str [])]) (pl := [(0, 1), (1, 1), (2, 1), (3, 1)]) (cs := [_, _, _, _]) Tryz.underlying28 (by kernel_rfl) (by kernel_rfl) rfl rfl rfl) rfl ?_
   refine Wl.storeS (by kernel_rfl) rfl rfl hB_o0 rfl rfl ?_
   rintro w_s2 hn_s2 hg_s2
   have hz_s2 := hg_s2.size
   have hb := below_blk hb hg_s2 hb.size (by omega)
   have hB_o0 := hn_s2
   refine Wl.sg rfl rfl <| Wl.nil <| Wq.next hK_43 <| Wc.ret <| Wq.then_ret ?_
   refine retN (rs := [.cell 2 28, .tmp 3]) (vs := [_, _]) rfl (.cell rfl (loadS Tryz.underlying28 (by kernel_rfl) (fun j u hu => hB_o0.at hu)) (.tmp rfl .nil)) ?_
   exact ⟨_, rfl, ⟨_, _, rfl, .inl ⟨rfl, pf_one hsome⟩⟩, hb⟩
  have c2_42_ := c2_42
  try simp only [DZ] at c2_42
  have hnone : pf s = none := by rcases hpf with h | h; (exact absurd h.1 c2_42); exact h.2.1
  refine Wc.skip <| Wq.next hK_38 <| Wc.seq fun _ hK_47 => Wc.region ?_
  refine Wl.y (y_buildS (z := [(.int .i64 0), (.int .i64 0), (.float .f64 0), (str [])]) (pl := [(0, 1), (1, 1), (2, 1), (3, 1)]) (cs := [_, _, _, _]) Tryz.underlying28 (by kernel_rfl) (by kernel_rfl) rfl rfl rfl) rfl ?_
  refine Wl.allocN (z := (.agg #[(.int .i64 0), (.int .i64 0), (.float .f64 0), (str [])])) (by kernel_rfl) rfl ?_
  rintro g_o26 w_o26 hg_o26 hn_o26 hs_o26
  have hz_o26 := hs_o26.size
  have hb := hb.trans (hs_o26.mono hb.size)
  try have hB_o0 := Blk.below hB_o0 hs_o26
  have hB_o26 := hn_o26
  have hl_o26 := hB_o26.lt
  refine Wl.storeS (by kernel_rfl) rfl rfl hB_o26 rfl rfl ?_
  rintro w_s3 hn_s3 hg_s3
  have hz_s3 := hg_s3.size
  have hb := below_blk hb hg_s3 hb.size (by omega)
  try have hB_o0 := hB_o0.over hg_s3 (by omega)
  have hB_o26 := hn_s3
  refine Wl.nil <| Wq.next hK_47 <| Wc.seq fun _ hK_50 => ?_
  refine Wc.meet (X := Bool) (fun dn => [(0, str s), (2, .pointer (some ⟨g_o0, 0, none⟩)), (6, .pointer (some ⟨g_o26, 0, none⟩)), (7, .bool dn)]) (fun dn wr => dn = Lib.hasPrefix s [45] ∧ Below w.heap.size w wr ∧ Blk wr g_o0 28 nullV.cells ∧ Blk wr g_o26 28 (Val.cells ⟨2, 0, 0, []⟩)) (fun _ hM_51 => ?_) ?_
  ·
   refine Wc.region <| Wl.mv rfl rfl ?_
   refine Wl.y (y_lens Tryz.underlying9 (by omega) rfl) rfl ?_
   refine Wl.y (y_gtri rfl rfl) rfl <| Wl.mv rfl rfl ?_
   refine Wl.guardT rfl rfl rfl (fun g_56 => ?_) (fun g_56 => ?_)
   ·
    have g_56_ := g_56
    try simp only [DZ] at g_56
    refine Wl.mv rfl rfl <| Wl.on' rfl rfl g_56_ ?_
    refine Wl.y (y_indexs Tryz.underlying9 rfl rfl (by omega) (by omega)) rfl ?_
    refine Wl.on' rfl rfl g_56_ <| Wl.y (y_eqli rfl rfl) rfl ?_
    refine Wl.y (y_pickT rfl g_56_ rfl) rfl ?_
    refine Wl.sg rfl rfl <| Wl.nil ?_
    refine Wq.meet hM_51 (Lib.hasPrefix s [45]) (Sub.cons' rfl (by first | rfl | exact bool_eq (by rw [pre45, Bool.eq_iff_iff]; simp <;> omega)) (Sub.cons' rfl (by first | rfl | exact bool_eq (by rw [pre45, Bool.eq_iff_iff]; simp <;> omega)) (Sub.cons' rfl (by first | rfl | exact bool_eq (by rw [pre45, Bool.eq_iff_iff]; simp <;> omega)) (Sub.cons' rfl (by first | rfl | exact bool_eq (by rw [pre45, Bool.eq_iff_iff]; simp <;> omega)) (Sub.nil))))) ?_
    exact ⟨rfl, hb, hB_o0, hB_o26⟩
   have g_56_ := g_56
   try simp only [DZ] at g_56
   refine Wl.off' rfl rfl g_56_ rfl rfl <| Wl.off' rfl rfl g_56_ rfl rfl ?_
   refine Wl.y (y_pickF rfl g_56_ rfl) rfl ?_
   refine Wl.sg rfl rfl <| Wl.nil ?_
   refine Wq.meet hM_51 (Lib.hasPrefix s [45]) (Sub.cons' rfl (by first | rfl | exact bool_eq (by rw [pre45, Bool.eq_iff_iff]; simp <;> omega)) (Sub.cons' rfl (by first | rfl | exact bool_eq (by rw [pre45, Bool.eq_iff_iff]; simp <;> omega)) (Sub.cons' rfl (by first | rfl | exact bool_eq (by rw [pre45, Bool.eq_iff_iff]; simp <;> omega)) (Sub.cons' rfl (by first | rfl | exact bool_eq (by rw [pre45, Bool.eq_iff_iff]; simp <;> omega)) (Sub.nil))))) ?_
   exact ⟨rfl, hb, hB_o0, hB_o26⟩
  rintro dn wr hI_64
  replace hI_64 : dn = Lib.hasPrefix s [45] ∧ Below w.heap.size w wr ∧ Blk wr g_o0 28 nullV.cells ∧ Blk wr g_o26 28 (Val.cells ⟨2, 0, 0, []⟩) := hI_64
  obtain ⟨hdn, hb, hB_o0, hB_o26⟩ := hI_64
  show Wq _ _ _ _ [(0, str s), (2, .pointer (some ⟨g_o0, 0, none⟩)), (6, .pointer (some ⟨g_o26, 0, none⟩)), (7, .bool dn)] _
  try have hzhb_g9 := hb.size
  have hlhB_o0_g9 := hB_o0.lt
  have hlhB_o26_g9 := hB_o26.lt
  refine Wq.next hK_50 <| Wc.seq fun _ hK_65 => Wc.seq fun _ hK_66 => Wc.region <| Wl.sg rfl rfl <| Wl.nil <| Wq.next hK_66 <| Wc.block ?_
  refine Wc.loop (X := Nat × Int) (fun (i, z) => [(0, str s), (2, .pointer (some ⟨g_o0, 0, none⟩)), (6, .pointer (some ⟨g_o26, 0, none⟩)), (7, .bool dn), (8, .int .i64 (i : Int))]) (fun (i, z) wr => i ≤ s.length ∧ (i = 0 → z = 0) ∧ -9223372036854775808 ≤ z ∧ z ≤ 9223372036854775807 ∧ Acc s i z ∧ (s.length ≤ 20 → i ≤ 20) ∧ Below w.heap.size w wr ∧ Blk wr g_o0 28 nullV.cells ∧ Blk wr g_o26 28 (Val.cells ⟨2, z, 0, []⟩)) (fun (i, z) => s.length - i) (⟨0, 0⟩) ?_ ?_ ?_
  · exact Sub.cons' rfl (by first | rfl | exact int_eq (by omega) | exact int_eq (by simp) | (simp; done)) (Sub.cons' rfl (by first | rfl | exact int_eq (by omega) | exact int_eq (by simp) | (simp; done)) (Sub.cons' rfl (by first | rfl | exact int_eq (by omega) | exact int_eq (by simp) | (simp; done)) (Sub.cons' rfl (by first | rfl | exact int_eq (by omega) | exact int_eq (by simp) | (simp; done)) (Sub.cons' rfl (by first | rfl | exact int_eq (by omega) | exact int_eq (by simp) | (simp; done)) (Sub.nil)))))
  · exact ⟨by omega, fun _ => rfl, by decide, by decide, Acc.start s, fun _ => by omega, hb, hB_o0, hB_o26⟩
  rintro ⟨i, z⟩ wr hI_69 _ hL_68
  replace hI_69 : i ≤ s.length ∧ (i = 0 → z = 0) ∧ -9223372036854775808 ≤ z ∧ z ≤ 9223372036854775807 ∧ Acc s i z ∧ (s.length ≤ 20 → i ≤ 20) ∧ Below w.heap.size w wr ∧ Blk wr g_o0 28 nullV.cells ∧ Blk wr g_o26 28 (Val.cells ⟨2, z, 0, []⟩) := hI_69
  obtain ⟨hi, hi0, hz0, hz1, hA, h20, hb, hB_o0, hB_o26⟩ := hI_69
  show Wc _ _ _ _ _ [(0, str s), (2, .pointer (some ⟨g_o0, 0, none⟩)), (6, .pointer (some ⟨g_o26, 0, none⟩)), (7, .bool dn), (8, .int .i64 (i : Int))] _
  try have hzhb_L0 := hb.size
  have hlhB_o0_L0 := hB_o0.lt
  have hlhB_o26_L0 := hB_o26.lt
  refine Wc.seq fun _ hK_70 => Wc.seq fun _ hK_71 => ?_
  refine Wc.meet (X := Bool) (fun q => [(0, str s), (2, .pointer (some ⟨g_o0, 0, none⟩)), (6, .pointer (some ⟨g_o26, 0, none⟩)), (7, .bool dn), (8, .int .i64 (i : Int)), (49, .bool q)]) (fun q wr => q = decide (i < s.length ∧ s.length ≤ 20) ∧ Below w.heap.size w wr ∧ Blk wr g_o0 28 nullV.cells ∧ Blk wr g_o26 28 (Val.cells ⟨2, z, 0, []⟩)) (fun _ hM_72 => ?_) ?_
  ·
   refine Wc.region <| Wl.mv rfl rfl <| Wl.mv rfl rfl ?_
   refine Wl.y (y_lens Tryz.underlying9 (by omega) rfl) rfl ?_
   refine Wl.y (y_lssi rfl rfl) rfl <| Wl.mv rfl rfl ?_
   refine Wl.guardT rfl rfl rfl (fun g_78 => ?_) (fun g_78 => ?_)
   ·
    have g_78_ := g_78
    try simp only [DZ] at g_78
    refine Wl.mv rfl rfl <| Wl.on' rfl rfl g_78_ ?_
    refine Wl.y (y_lens Tryz.underlying9 (by omega) rfl) rfl ?_
    refine Wl.on' rfl rfl g_78_ <| Wl.y (y_leqi rfl rfl) rfl ?_
    refine Wl.y (y_pickT rfl g_78_ rfl) rfl ?_
    refine Wl.nil ?_
    refine Wq.meet hM_72 (decide (i < s.length ∧ s.length ≤ 20)) (Sub.cons' rfl (by first | rfl | exact bool_eq (by rw [Bool.eq_iff_iff]; simp <;> omega)) (Sub.cons' rfl (by first | rfl | exact bool_eq (by rw [Bool.eq_iff_iff]; simp <;> omega)) (Sub.cons' rfl (by first | rfl | exact bool_eq (by rw [Bool.eq_iff_iff]; simp <;> omega)) (Sub.cons' rfl (by first | rfl | exact bool_eq (by rw [Bool.eq_iff_iff]; simp <;> omega)) (Sub.cons' rfl (by first | rfl | exact bool_eq (by rw [Bool.eq_iff_iff]; simp <;> omega)) (Sub.cons' rfl (by first | rfl | exact bool_eq (by rw [Bool.eq_iff_iff]; simp <;> omega)) (Sub.nil))))))) ?_
    exact ⟨rfl, hb, hB_o0, hB_o26⟩
   have g_78_ := g_78
   try simp only [DZ] at g_78
   refine Wl.off' rfl rfl g_78_ rfl rfl <| Wl.off' rfl rfl g_78_ rfl rfl ?_
   refine Wl.y (y_pickF rfl g_78_ rfl) rfl ?_
   refine Wl.nil ?_
   refine Wq.meet hM_72 (decide (i < s.length ∧ s.length ≤ 20)) (Sub.cons' rfl (by first | rfl | exact bool_eq (by rw [Bool.eq_iff_iff]; simp <;> omega)) (Sub.cons' rfl (by first | rfl | exact bool_eq (by rw [Bool.eq_iff_iff]; simp <;> omega)) (Sub.cons' rfl (by first | rfl | exact bool_eq (by rw [Bool.eq_iff_iff]; simp <;> omega)) (Sub.cons' rfl (by first | rfl | exact bool_eq (by rw [Bool.eq_iff_iff]; simp <;> omega)) (Sub.cons' rfl (by first | rfl | exact bool_eq (by rw [Bool.eq_iff_iff]; simp <;> omega)) (Sub.cons' rfl (by first | rfl | exact bool_eq (by rw [Bool.eq_iff_iff]; simp <;> omega)) (Sub.nil))))))) ?_
   exact ⟨rfl, hb, hB_o0, hB_o26⟩
  rintro q wr hI_84
  replace hI_84 : q = decide (i < s.length ∧ s.length ≤ 20) ∧ Below w.heap.size w wr ∧ Blk wr g_o0 28 nullV.cells ∧ Blk wr g_o26 28 (Val.cells ⟨2, z, 0, []⟩) := hI_84
  obtain ⟨hq, hb, hB_o0, hB_o26⟩ := hI_84
  show Wq _ _ _ _ [(0, str s), (2, .pointer (some ⟨g_o0, 0, none⟩)), (6, .pointer (some ⟨g_o26, 0, none⟩)), (7, .bool dn), (8, .int .i64 (i : Int)), (49, .bool q)] _
  try have hzhb_g11 := hb.size
  have hlhB_o0_g11 := hB_o0.lt
  have hlhB_o26_g11 := hB_o26.lt
  refine Wq.next hK_71 ?_
  refine Wc.cond rfl (fun c3_85 => ?_) (fun c3_85 => ?_)
  ·
   have c3_85_ := c3_85
   try simp only [DZ] at c3_85
   have hq3 := of_decide_eq_true (hq.symm.trans c3_85_)
   have hil := hq3.1
   refine Wc.skip <| Wq.next hK_70 <| Wc.seq fun _ hK_86 => Wc.block <| Wc.seq fun _ hK_87 => Wc.seq fun _ hK_88 => ?_
   refine Wc.meet (X := Bool) (fun q => [(0, str s), (2, .pointer (some ⟨g_o0, 0, none⟩)), (6, .pointer (some ⟨g_o26, 0, none⟩)), (7, .bool dn), (8, .int .i64 (i : Int)), (56, .bool q)]) (fun q wr => q = decide (i = 0 ∧ dn = true) ∧ Below w.heap.size w wr ∧ Blk wr g_o0 28 nullV.cells ∧ Blk wr g_o26 28 (Val.cells ⟨2, z, 0, []⟩)) (fun _ hM_89 => ?_) ?_
   ·
    refine Wc.region <| Wl.mv rfl rfl <| Wl.y (y_eqli rfl rfl) rfl <| Wl.mv rfl rfl ?_
    refine Wl.guardT rfl rfl rfl (fun g_93 => ?_) (fun g_93 => ?_)
    ·
     have g_93_ := g_93
     try simp only [DZ] at g_93
     refine Wl.mv rfl rfl ?_
     refine Wl.y (y_pickT rfl g_93_ rfl) rfl ?_
     refine Wl.nil ?_
     refine Wq.meet hM_89 (decide (i = 0 ∧ dn = true)) (Sub.cons' rfl (by first | rfl | exact bool_eq (by rw [Bool.eq_iff_iff]; simp_all <;> omega)) (Sub.cons' rfl (by first | rfl | exact bool_eq (by rw [Bool.eq_iff_iff]; simp_all <;> omega)) (Sub.cons' rfl (by first | rfl | exact bool_eq (by rw [Bool.eq_iff_iff]; simp_all <;> omega)) (Sub.cons' rfl (by first | rfl | exact bool_eq (by rw [Bool.eq_iff_iff]; simp_all <;> omega)) (Sub.cons' rfl (by first | rfl | exact bool_eq (by rw [Bool.eq_iff_iff]; simp_all <;> omega)) (Sub.cons' rfl (by first | rfl | exact bool_eq (by rw [Bool.eq_iff_iff]; simp_all <;> omega)) (Sub.nil))))))) ?_
     exact ⟨rfl, hb, hB_o0, hB_o26⟩
    have g_93_ := g_93
    try simp only [DZ] at g_93
    refine Wl.y (y_pickF rfl g_93_ rfl) rfl ?_
    refine Wl.nil ?_
    refine Wq.meet hM_89 (decide (i = 0 ∧ dn = true)) (Sub.cons' rfl (by first | rfl | exact bool_eq (by rw [Bool.eq_iff_iff]; simp_all <;> omega)) (Sub.cons' rfl (by first | rfl | exact bool_eq (by rw [Bool.eq_iff_iff]; simp_all <;> omega)) (Sub.cons' rfl (by first | rfl | exact bool_eq (by rw [Bool.eq_iff_iff]; simp_all <;> omega)) (Sub.cons' rfl (by first | rfl | exact bool_eq (by rw [Bool.eq_iff_iff]; simp_all <;> omega)) (Sub.cons' rfl (by first | rfl | exact bool_eq (by rw [Bool.eq_iff_iff]; simp_all <;> omega)) (Sub.cons' rfl (by first | rfl | exact bool_eq (by rw [Bool.eq_iff_iff]; simp_all <;> omega)) (Sub.nil))))))) ?_
    exact ⟨rfl, hb, hB_o0, hB_o26⟩
   rintro q wr hI_97
   replace hI_97 : q = decide (i = 0 ∧ dn = true) ∧ Below w.heap.size w wr ∧ Blk wr g_o0 28 nullV.cells ∧ Blk wr g_o26 28 (Val.cells ⟨2, z, 0, []⟩) := hI_97
   obtain ⟨hq, hb, hB_o0, hB_o26⟩ := hI_97
   show Wq _ _ _ _ [(0, str s), (2, .pointer (some ⟨g_o0, 0, none⟩)), (6, .pointer (some ⟨g_o26, 0, none⟩)), (7, .bool dn), (8, .int .i64 (i : Int)), (56, .bool q)] _
   try have hzhb_g12 := hb.size
   have hlhB_o0_g12 := hB_o0.lt
   have hlhB_o26_g12 := hB_o26.lt
   refine Wq.next hK_88 ?_
   refine Wc.cond rfl (fun c4_98 => ?_) (fun c4_98 => ?_)
   ·
    have c4_98_ := c4_98
    try simp only [DZ] at c4_98
    have hq4 := of_decide_eq_true (hq.symm.trans c4_98_)
    obtain ⟨hq40, hq41⟩ := hq4
    have hzz := hi0 hq40
    obtain ⟨z_, hz_⟩ : ∃ z : Int, z = 0 := ⟨_, rfl⟩
    have hz0_ : -9223372036854775808 ≤ z_ := by omega
    have hz1_ : z_ ≤ 9223372036854775807 := by omega
    have hA_ : Acc s (i + 1) z_ := by rw [hq40, hz_]; exact Acc.skip (hdn.symm.trans hq41)
    rw [hzz, ← hz_] at hB_o26
    refine Wc.exit ?_
    refine Wq.then_exit <| Wq.block_exit <| Wq.next hK_86 <| Wc.region <| Wl.mv rfl rfl ?_
    refine Wl.y (y_addI rfl rfl (by first | omega | (simp; done) | (simp; omega)) (by first | omega | (simp; done) | (simp; omega))) rfl ?_
    refine Wl.sg rfl rfl <| Wl.nil ?_
    refine fun a_ ha_ => hL_68 _ _ (⟨i + 1, z_⟩) (by first | omega | (simp; omega)) (Sub.cons' rfl (by first | rfl | exact int_eq (by omega)) (Sub.cons' rfl (by first | rfl | exact int_eq (by omega)) (Sub.cons' rfl (by first | rfl | exact int_eq (by omega)) (Sub.cons' rfl (by first | rfl | exact int_eq (by omega)) (Sub.cons' rfl (by first | rfl | exact int_eq (by omega)) (Sub.nil)))))) ?_ a_ ha_
    exact ⟨by omega, by omega, hz0_, hz1_, hA_, fun _ => by omega, hb, hB_o0, hB_o26⟩
   have c4_98_ := c4_98
   try simp only [DZ] at c4_98
   have hq4 := of_decide_eq_false (hq.symm.trans c4_98_)
   have hk : sgl s ≤ i := by unfold sgl; split; (rename_i h; rw [← hdn] at h; have : i ≠ 0 := fun e => hq4 ⟨e, h⟩; omega); omega
   obtain ⟨c, hc⟩ : ∃ c, c = (s.getD i 0).toNat := ⟨_, rfl⟩
   have hcl : c < 256 := by rw [hc]; exact UInt8.toNat_lt _
   refine Wc.skip <| Wq.next hK_87 <| Wc.seq fun _ hK_102 => Wc.seq fun _ hK_103 => ?_
   refine Wc.meet (X := Bool) (fun q => [(0, str s), (2, .pointer (some ⟨g_o0, 0, none⟩)), (6, .pointer (some ⟨g_o26, 0, none⟩)), (7, .bool dn), (8, .int .i64 (i : Int)), (66, .bool q)]) (fun q wr => q = decide (c < 48 ∨ 57 < c) ∧ Below w.heap.size w wr ∧ Blk wr g_o0 28 nullV.cells ∧ Blk wr g_o26 28 (Val.cells ⟨2, z, 0, []⟩)) (fun _ hM_104 => ?_) ?_
   ·
    refine Wc.region <| Wl.mv rfl rfl <| Wl.mv rfl rfl ?_
    refine Wl.y (y_eq (y_indexs Tryz.underlying9 rfl rfl (by omega) (by omega)) (int_eq (show _ = (c : Int) by rw [hc, Int.toNat_natCast]))) rfl ?_
    refine Wl.y (y_lssi rfl rfl) rfl <| Wl.mv rfl rfl ?_
    refine Wl.guardF rfl rfl rfl (fun g_110 => ?_) (fun g_110 => ?_)
    ·
     have g_110_ := g_110
     try simp only [DZ] at g_110
     refine Wl.off' rfl rfl g_110_ rfl rfl <| Wl.off' rfl rfl g_110_ rfl rfl <| Wl.off' rfl rfl g_110_ rfl rfl ?_
     refine Wl.y (y_pickT rfl g_110_ rfl) rfl ?_
     refine Wl.nil ?_
     refine Wq.meet hM_104 (decide (c < 48 ∨ 57 < c)) (Sub.cons' rfl (by first | rfl | exact bool_eq (by rw [Bool.eq_iff_iff]; simp <;> omega)) (Sub.cons' rfl (by first | rfl | exact bool_eq (by rw [Bool.eq_iff_iff]; simp <;> omega)) (Sub.cons' rfl (by first | rfl | exact bool_eq (by rw [Bool.eq_iff_iff]; simp <;> omega)) (Sub.cons' rfl (by first | rfl | exact bool_eq (by rw [Bool.eq_iff_iff]; simp <;> omega)) (Sub.cons' rfl (by first | rfl | exact bool_eq (by rw [Bool.eq_iff_iff]; simp <;> omega)) (Sub.cons' rfl (by first | rfl | exact bool_eq (by rw [Bool.eq_iff_iff]; simp <;> omega)) (Sub.nil))))))) ?_
     exact ⟨rfl, hb, hB_o0, hB_o26⟩
    have g_110_ := g_110
    try simp only [DZ] at g_110
    refine Wl.mv rfl rfl <| Wl.on' rfl rfl g_110_ <| Wl.mv rfl rfl <| Wl.on' rfl rfl g_110_ ?_
    refine Wl.y (y_eq (y_indexs Tryz.underlying9 rfl rfl (by omega) (by omega)) (int_eq (show _ = (c : Int) by rw [hc, Int.toNat_natCast]))) rfl ?_
    refine Wl.on' rfl rfl g_110_ <| Wl.y (y_gtri rfl rfl) rfl ?_
    refine Wl.y (y_pickF rfl g_110_ rfl) rfl ?_
    refine Wl.nil ?_
    refine Wq.meet hM_104 (decide (c < 48 ∨ 57 < c)) (Sub.cons' rfl (by first | rfl | exact bool_eq (by rw [Bool.eq_iff_iff]; simp <;> omega)) (Sub.cons' rfl (by first | rfl | exact bool_eq (by rw [Bool.eq_iff_iff]; simp <;> omega)) (Sub.cons' rfl (by first | rfl | exact bool_eq (by rw [Bool.eq_iff_iff]; simp <;> omega)) (Sub.cons' rfl (by first | rfl | exact bool_eq (by rw [Bool.eq_iff_iff]; simp <;> omega)) (Sub.cons' rfl (by first | rfl | exact bool_eq (by rw [Bool.eq_iff_iff]; simp <;> omega)) (Sub.cons' rfl (by first | rfl | exact bool_eq (by rw [Bool.eq_iff_iff]; simp <;> omega)) (Sub.nil))))))) ?_
    exact ⟨rfl, hb, hB_o0, hB_o26⟩
   rintro q wr hI_117
   replace hI_117 : q = decide (c < 48 ∨ 57 < c) ∧ Below w.heap.size w wr ∧ Blk wr g_o0 28 nullV.cells ∧ Blk wr g_o26 28 (Val.cells ⟨2, z, 0, []⟩) := hI_117
   obtain ⟨hq, hb, hB_o0, hB_o26⟩ := hI_117
   show Wq _ _ _ _ [(0, str s), (2, .pointer (some ⟨g_o0, 0, none⟩)), (6, .pointer (some ⟨g_o26, 0, none⟩)), (7, .bool dn), (8, .int .i64 (i : Int)), (66, .bool q)] _
   try have hzhb_g13 := hb.size
   have hlhB_o0_g13 := hB_o0.lt
   have hlhB_o26_g13 := hB_o26.lt
   refine Wq.next hK_103 ?_
   refine Wc.cond rfl (fun c5_118 => ?_) (fun c5_118 => ?_)
   ·
    have c5_118_ := c5_118
    try simp only [DZ] at c5_118
    have hq5 := of_decide_eq_true (hq.symm.trans c5_118_)
    refine Wc.seq fun _ hK_119 => Wc.region ?_
    refine Wl.call txt60RRead rfl rfl (null_r _) rfl ?_
    rintro _ w_k3 ⟨rfl, hs_k3⟩
    have hz_k3 := hs_k3.size
    have hb := hb.trans (hs_k3.mono hb.size)
    try have hB_o0 := Blk.below hB_o0 hs_k3
    refine Wl.storeS (by kernel_rfl) rfl rfl hB_o0 rfl rfl ?_
    rintro w_s4 hn_s4 hg_s4
    have hz_s4 := hg_s4.size
    have hb := below_blk hb hg_s4 hb.size (by omega)
    have hB_o0 := hn_s4
    refine Wl.sg rfl rfl <| Wl.nil <| Wq.next hK_119 <| Wc.ret ?_
    refine Wq.then_ret (Wq.block_ret (Wq.then_ret (Wq.then_ret (Wq.block_ret (Wq.then_ret ?_)))))
    refine retN (rs := [.cell 2 28, .tmp 3]) (vs := [_, _]) rfl (.cell rfl (loadS Tryz.underlying28 (by kernel_rfl) (fun j u hu => hB_o0.at hu)) (.tmp rfl .nil)) ?_
    exact ⟨_, rfl, ⟨_, _, rfl, .inr ⟨rfl, rfl, fun v h => by obtain ⟨n, _, _, _, hsn⟩ := one_only hn0 (fun e => hq1 (.inl e)) (fun e => hq1 (.inr e)) hnone h; exact Acc.bad hil hk (by rw [← hc]; exact hq5) n hsn⟩⟩, hb⟩
   have c5_118_ := c5_118
   try simp only [DZ] at c5_118
   have hq5 := of_decide_eq_false (hq.symm.trans c5_118_)
   obtain ⟨z_, hz_⟩ : ∃ z' : Int, z' = IntKind.i64.wrap (IntKind.i64.wrap (z * 10) - ((c - 48 : Nat) : Int)) := ⟨_, rfl⟩
   have hz0_ : -9223372036854775808 ≤ z_ := by rw [hz_]; exact (wrap_rng2 _).1
   have hz1_ : z_ ≤ 9223372036854775807 := by rw [hz_]; exact (wrap_rng2 _).2
   have hA_ : Acc s (i + 1) z_ := Acc.step hA hil hk (fun h0 h1 => by rw [hz_, hc]; rw [← hc] at h1 ⊢; exact wrap_dbl ⟨hz0, h0⟩ (by omega) h1)
   refine Wc.skip <| Wq.next hK_102 ?_
   refine Wc.any (n := 11) (fun w' => Below w.heap.size w w' ∧ Blk w' g_o0 28 nullV.cells ∧ ∃ y, Blk w' g_o26 28 y) #[false, false, false, false, false, false, false, false, false, false, false] (by kernel_rfl) rfl (by kernel_rfl) ?_
   refine Wa.drew ?_
   rintro w_g15 hs_g15
   have hz_g15 := hs_g15.size
   have hb := hb.trans (hs_g15.mono hb.size)
   try have hB_o0 := Blk.below hB_o0 hs_g15
   try have hB_o26 := Blk.below hB_o26 hs_g15
   refine Wa.take (i := 0) #[true, false, false, false, false, false, false, false, false, false, false] rfl (by kernel_rfl) (fun _ _ _ h => h) rfl (fun wq hq => Yl.ld (y_fieldAddr (fa28_1RRead _) rfl)) ⟨hb, hB_o0, _, hB_o26⟩ ?_
   refine Wa.take (i := 3) #[true, false, false, true, false, false, false, false, false, false, false] rfl (by kernel_rfl) (fun _ _ _ h => h) rfl (fun wq hq => Yl.ld (y_move rfl)) ⟨hb, hB_o0, _, hB_o26⟩ ?_
   refine Wa.take (i := 4) #[true, false, false, true, true, false, false, false, false, false, false] rfl (by kernel_rfl) (fun _ _ _ h => h) rfl (fun wq hq => Yl.ld (y_move rfl)) ⟨hb, hB_o0, _, hB_o26⟩ ?_
   refine Wa.take (i := 5) #[true, false, false, true, true, true, false, false, false, false, false] rfl (by kernel_rfl) (fun _ _ _ h => h) rfl (fun wq hq => Yl.ld (y_eq (y_indexs Tryz.underlying9 rfl rfl (by omega) (by omega)) (int_eq (show _ = (c : Int) by rw [hc, Int.toNat_natCast])))) ⟨hb, hB_o0, _, hB_o26⟩ ?_
   refine Wa.take (i := 6) #[true, false, false, true, true, true, true, false, false, false, false] rfl (by kernel_rfl) (fun _ _ _ h => h) rfl (fun wq hq => Yl.ld (y_eq (y_sub rfl rfl) (int_eq (show _ = ((c - 48 : Nat) : Int) by rw [wrap_u8 _ (by omega) (by omega)]; omega)))) ⟨hb, hB_o0, _, hB_o26⟩ ?_
   refine Wa.take (i := 7) #[true, false, false, true, true, true, true, true, false, false, false] rfl (by kernel_rfl) (fun _ _ _ h => h) rfl (fun wq hq => Yl.ld (y_eq (y_convi Tryz.underlying5 Tryz.underlying2 rfl) (int_eq (show _ = ((c - 48 : Nat) : Int) by rw [wrap_i64 _ (by omega) (by omega)])))) ⟨hb, hB_o0, _, hB_o26⟩ ?_
   refine Wa.some (rs := [1]) (by kernel_rfl) rfl ?_
   refine Ws.cons #[true, true, false, true, true, true, true, true, false, false, false] rfl rfl (fun _ hK_128 => ?_) ?_
   ·
    refine Wl.l (l_load one2RRead rfl (by exact hB_o26.at (j := 1) rfl)) rfl ?_
    refine Wl.nil ?_
    refine Wq.back hK_128 ⟨hb, hB_o0, _, hB_o26⟩ ?_
    refine Wa.take (i := 2) #[true, true, true, true, true, true, true, true, false, false, false] rfl (by kernel_rfl) (fun _ _ _ h => h) rfl (fun wq hq => Yl.ld (y_mul rfl rfl)) ⟨hb, hB_o0, _, hB_o26⟩ ?_
    refine Wa.take (i := 8) #[true, true, true, true, true, true, true, true, true, false, false] rfl (by kernel_rfl) (fun _ _ _ h => h) rfl (fun wq hq => Yl.ld (y_eq (y_sub rfl rfl) (int_eq (show _ = z_ from hz_.symm)))) ⟨hb, hB_o0, _, hB_o26⟩ ?_
    refine Wa.take (i := 9) #[true, true, true, true, true, true, true, true, true, true, false] rfl (by kernel_rfl) (fun _ _ _ h => h) rfl (fun wq hq => Yl.ld (y_fieldAddr (fa28_1RRead _) rfl)) ⟨hb, hB_o0, _, hB_o26⟩ ?_
    refine Wa.some (rs := [10]) (by kernel_rfl) rfl ?_
    refine Ws.cons #[true, true, true, true, true, true, true, true, true, true, true] rfl rfl (fun _ hK_133 => ?_) ?_
    ·
     refine Wl.storeB one2RRead rfl rfl rfl hB_o26 (by show 1 < 4; decide) ?_
     rintro w_s5 hn_s5 hg_s5
     have hz_s5 := hg_s5.size
     have hb := below_blk hb hg_s5 hb.size (by omega)
     try have hB_o0 := hB_o0.over hg_s5 (by omega)
     have hB_o26 := hn_s5
     refine Wl.nil ?_
     refine Wq.back hK_133 ⟨hb, hB_o0, _, hB_o26⟩ ?_
     refine Wa.done (by kernel_rfl) ?_
     refine Wq.block_normal <| Wq.next hK_86 <| Wc.region <| Wl.mv rfl rfl ?_
     refine Wl.y (y_addI rfl rfl (by first | omega | (simp; done) | (simp; omega)) (by first | omega | (simp; done) | (simp; omega))) rfl ?_
     refine Wl.sg rfl rfl <| Wl.nil ?_
     refine fun a_ ha_ => hL_68 _ _ (⟨i + 1, z_⟩) (by first | omega | (simp; omega)) (Sub.cons' rfl (by first | rfl | exact int_eq (by omega)) (Sub.cons' rfl (by first | rfl | exact int_eq (by omega)) (Sub.cons' rfl (by first | rfl | exact int_eq (by omega)) (Sub.cons' rfl (by first | rfl | exact int_eq (by omega)) (Sub.cons' rfl (by first | rfl | exact int_eq (by omega)) (Sub.nil)))))) ?_ a_ ha_
     exact ⟨by omega, by omega, hz0_, hz1_, hA_, fun _ => by omega, hb, hB_o0, hB_o26⟩
    exact Ws.nil
   exact Ws.nil
  have c3_85_ := c3_85
  try simp only [DZ] at c3_85
  have hq3 := of_decide_eq_false (hq.symm.trans c3_85_)
  refine Wc.exit ?_
  refine Wq.then_exit <| Wq.then_exit <| Wq.block_exit <| Wq.next hK_65 <| Wc.seq fun _ hK_137 => Wc.seq fun _ hK_138 => Wc.region <| Wl.mv rfl rfl <| Wl.y (y_not rfl) rfl <| Wl.nil ?_
  refine Wq.next hK_138 ?_
  obtain ⟨zz, hzz⟩ : ∃ zz, zz = zzV dn z := ⟨_, rfl⟩
  have hzr : -9223372036854775808 ≤ zz ∧ zz ≤ 9223372036854775807 := by rw [hzz]; unfold zzV; split; exact ⟨hz0, hz1⟩; exact wrap_rng2 _
  refine Wc.meet (X := Unit) (fun u_ => [(0, str s), (2, .pointer (some ⟨g_o0, 0, none⟩)), (6, .pointer (some ⟨g_o26, 0, none⟩))]) (fun u_ wr => Below w.heap.size w wr ∧ Blk wr g_o0 28 nullV.cells ∧ Blk wr g_o26 28 (Val.cells ⟨2, zz, 0, []⟩)) (fun _ hM_141 => ?_) ?_
  ·
   refine Wc.cond rfl (fun c6_142 => ?_) (fun c6_142 => ?_)
   ·
    have c6_142_ := c6_142
    try simp only [DZ] at c6_142
    have hdd : dn = false := by simpa using c6_142_
    have hzd : zz = IntKind.i64.wrap (0 - z) := by rw [hzz, hdd]; rfl
    refine Wc.region ?_
    refine Wl.y (y_fieldAddr (fa28_1RRead _) rfl) rfl ?_
    refine Wl.l (l_load one2RRead rfl (by exact hB_o26.at (j := 1) rfl)) rfl ?_
    refine Wl.y (y_eq (y_negi rfl) (int_eq (show _ = zz from hzd.symm))) rfl ?_
    refine Wl.y (y_fieldAddr (fa28_1RRead _) rfl) rfl ?_
    refine Wl.storeB one2RRead rfl rfl rfl hB_o26 (by show 1 < 4; decide) ?_
    rintro w_s6 hn_s6 hg_s6
    have hz_s6 := hg_s6.size
    have hb := below_blk hb hg_s6 hb.size (by omega)
    try have hB_o0 := hB_o0.over hg_s6 (by omega)
    have hB_o26 := hn_s6
    refine Wl.nil ?_
    refine Wq.meet hM_141 (()) (Sub.cons' rfl (by first | rfl | exact int_eq (by omega) | exact int_eq (by simp) | (simp; done)) (Sub.cons' rfl (by first | rfl | exact int_eq (by omega) | exact int_eq (by simp) | (simp; done)) (Sub.cons' rfl (by first | rfl | exact int_eq (by omega) | exact int_eq (by simp) | (simp; done)) (Sub.nil)))) ?_
    exact ⟨hb, hB_o0, hB_o26⟩
   have c6_142_ := c6_142
   try simp only [DZ] at c6_142
   have hdd : dn = true := by simpa using c6_142_
   have hzd : zz = z := by rw [hzz, hdd]; rfl
   rw [← hzd] at hB_o26
   refine Wc.skip ?_
   refine Wq.meet hM_141 (()) (Sub.cons' rfl (by first | rfl | exact int_eq (by omega) | exact int_eq (by simp) | (simp; done)) (Sub.cons' rfl (by first | rfl | exact int_eq (by omega) | exact int_eq (by simp) | (simp; done)) (Sub.cons' rfl (by first | rfl | exact int_eq (by omega) | exact int_eq (by simp) | (simp; done)) (Sub.nil)))) ?_
   exact ⟨hb, hB_o0, hB_o26⟩
  rintro u_ wr hI_147
  replace hI_147 : Below w.heap.size w wr ∧ Blk wr g_o0 28 nullV.cells ∧ Blk wr g_o26 28 (Val.cells ⟨2, zz, 0, []⟩) := hI_147
  obtain ⟨hb, hB_o0, hB_o26⟩ := hI_147
  show Wq _ _ _ _ [(0, str s), (2, .pointer (some ⟨g_o0, 0, none⟩)), (6, .pointer (some ⟨g_o26, 0, none⟩))] _
  try have hzhb_c6 := hb.size
  have hlhB_o0_c6 := hB_o0.lt
  have hlhB_o26_c6 := hB_o26.lt
  have hfin : ∀ v, IsOne v s → v = ⟨2, zz, 0, []⟩ ∧ s = Lib.itoa zz := fun v h => by
    obtain ⟨n, n0, n1, hv, hsn⟩ := one_only hn0 (fun e => hq1 (.inl e)) (fun e => hq1 (.inr e)) hnone h
    have hl := itoa_len20 n0 n1
    rw [← hsn] at hl
    have hie : i = s.length := by have := mt (fun h => (⟨h, hl.1⟩ : i < s.length ∧ s.length ≤ 20)) hq3; omega
    rw [hie] at hA
    obtain ⟨e1, e2⟩ := hA.done n0 n1 hsn
    have e3 : zz = n := by
      rw [hzz]; unfold zzV
      unfold sgl at e2
      rw [← hdn] at e2
      cases dn
      · rw [if_neg (by decide)] at e2 ⊢
        rw [wrap_i64 _ (by omega) (by omega)]; omega
      · rw [if_pos rfl] at e2 ⊢
        omega
    rw [e3]; exact ⟨hv, hsn⟩
  have okz : (⟨2, zz, 0, []⟩ : Val).Ok := ⟨hzr.1, hzr.2, by show (0 : Nat) < _; decide⟩
  refine Wq.next hK_137 <| Wc.seq fun _ hK_148 => Wc.region ?_
  refine Wl.l (l_loadS Tryz.underlying28 (by kernel_rfl) rfl (by first | exact fun j u hu => hB_o0.at hu | exact fun j u hu => hB_o26.at hu | assumption)) rfl ?_
  refine Wl.call txt17RRead rfl rfl (RText2_r ⟨2, zz, 0, []⟩ okz (by simp) _) rfl ?_
  rintro _ w_k4 ⟨rfl, hs_k4⟩
  have hz_k4 := hs_k4.size
  have hb := hb.trans (hs_k4.mono hb.size)
  try have hB_o0 := Blk.below hB_o0 hs_k4
  try have hB_o26 := Blk.below hB_o26 hs_k4
  refine Wl.mv rfl rfl <| Wl.y (y_extract rfl rfl) rfl <| Wl.y (y_extract rfl rfl) rfl <| Wl.sg rfl rfl <| Wl.sg rfl rfl <| Wl.nil <| Wq.next hK_148 <| Wc.seq fun _ hK_156 => Wc.seq fun _ hK_157 => Wc.region ?_
  refine Wl.mv rfl rfl <| Wl.mv rfl rfl <| Wl.y (y_neqs rfl rfl) rfl <| Wl.nil <| Wq.next hK_157 ?_
  refine Wc.cond rfl (fun c7_161 => ?_) (fun c7_161 => ?_)
  ·
   have c7_161_ := c7_161
   try simp only [DZ] at c7_161
   refine Wc.seq fun _ hK_162 => Wc.region ?_
   refine Wl.call txt60RRead rfl rfl (null_r _) rfl ?_
   rintro _ w_k5 ⟨rfl, hs_k5⟩
   have hz_k5 := hs_k5.size
   have hb := hb.trans (hs_k5.mono hb.size)
   try have hB_o0 := Blk.below hB_o0 hs_k5
   refine Wl.storeS (by kernel_rfl) rfl rfl hB_o0 rfl rfl ?_
   rintro w_s7 hn_s7 hg_s7
   have hz_s7 := hg_s7.size
   have hb := below_blk hb hg_s7 hb.size (by omega)
   have hB_o0 := hn_s7
   refine Wl.sg rfl rfl <| Wl.nil <| Wq.next hK_162 <| Wc.ret <| Wq.then_ret ?_
   refine retN (rs := [.cell 2 28, .tmp 3]) (vs := [_, _]) rfl (.cell rfl (loadS Tryz.underlying28 (by kernel_rfl) (fun j u hu => hB_o0.at hu)) (.tmp rfl .nil)) ?_
   exact ⟨_, rfl, ⟨_, _, rfl, .inr ⟨rfl, rfl, fun v h => c7_161 (hfin v h).2.symm⟩⟩, hb⟩
  have c7_161_ := c7_161
  try simp only [DZ] at c7_161
  refine Wc.skip <| Wq.next hK_156 <| Wc.seq fun _ hK_165 => Wc.region ?_
  refine Wl.l (l_loadS Tryz.underlying28 (by kernel_rfl) rfl (by first | exact fun j u hu => hB_o0.at hu | exact fun j u hu => hB_o26.at hu | assumption)) rfl ?_
  refine Wl.storeS (by kernel_rfl) rfl rfl hB_o0 rfl rfl ?_
  rintro w_s8 hn_s8 hg_s8
  have hz_s8 := hg_s8.size
  have hb := below_blk hb hg_s8 hb.size (by omega)
  have hB_o0 := hn_s8
  refine Wl.sg rfl rfl <| Wl.nil <| Wq.next hK_165 <| Wc.ret ?_
  refine retN (rs := [.cell 2 28, .tmp 3]) (vs := [_, _]) rfl (.cell rfl (loadS Tryz.underlying28 (by kernel_rfl) (fun j u hu => hB_o0.at hu)) (.tmp rfl .nil)) ?_
  exact ⟨_, rfl, ⟨_, _, rfl, .inl ⟨rfl, by have h := c7_161; have h2 := one_int hzr.1 hzr.2; rw [show Lib.itoa zz = s from h] at h2; exact h2⟩⟩, hb⟩
theorem Rquoted_r (s : List UInt8) (hs : s.length ≤ 140737488355328) (w : World) : Ret Tryz.prog 59 [str s] w fun v w' => v = .tuple #[str (uqV s).1, .int .i64 ((uqV s).2 : Nat)] ∧ Below w.heap.size w w' := by
  have hb := Below.refl w.heap.size w
  refine enter Tryz.func59 rfl rfl rfl ?_
  refine Wc.seq fun _ hK_1 => Wc.region <| Wl.sg rfl rfl <| Wl.sg rfl rfl <| Wl.nil <| Wq.next hK_1 <| Wc.seq fun _ hK_4 => Wc.region <| Wl.sg rfl rfl <| Wl.nil ?_
  refine Wq.next hK_4 <| Wc.seq fun _ hK_6 => Wc.seq fun _ hK_7 => Wc.region <| Wl.sg rfl rfl <| Wl.nil <| Wq.next hK_7 <| Wc.block ?_
  refine Wc.loop (X := Nat × List UInt8) (fun (i, l) => [(0, str s), (4, str l), (5, .int .i64 (i : Int))]) (fun (i, l) wr => 1 ≤ i ∧ i ≤ s.length + 1 ∧ l.length < i ∧ uqV s = uqGo (s.drop i) i l ∧ Below w.heap.size w wr) (fun (i, l) => s.length + 1 - i) (⟨1, []⟩) ?_ ?_ ?_
  · exact Sub.cons' rfl (by first | rfl | exact int_eq (by omega) | exact int_eq (by simp) | (simp; done)) (Sub.cons' rfl (by first | rfl | exact int_eq (by omega) | exact int_eq (by simp) | (simp; done)) (Sub.cons' rfl (by first | rfl | exact int_eq (by omega) | exact int_eq (by simp) | (simp; done)) (Sub.nil)))
  · exact ⟨by omega, by omega, Nat.lt_succ_self 0, rfl, hb⟩
  rintro ⟨i, l⟩ wr hI_10 _ hL_9
  replace hI_10 : 1 ≤ i ∧ i ≤ s.length + 1 ∧ l.length < i ∧ uqV s = uqGo (s.drop i) i l ∧ Below w.heap.size w wr := hI_10
  obtain ⟨hi1, hi2, hl, hu, hb⟩ := hI_10
  show Wc _ _ _ _ _ [(0, str s), (4, str l), (5, .int .i64 (i : Int))] _
  try have hzhb_L0 := hb.size
  refine Wc.seq fun _ hK_11 => Wc.seq fun _ hK_12 => Wc.region <| Wl.mv rfl rfl <| Wl.mv rfl rfl ?_
  refine Wl.y (y_lens Tryz.underlying9 (by omega) rfl) rfl ?_
  refine Wl.y (y_lssi rfl rfl) rfl <| Wl.nil <| Wq.next hK_12 ?_
  refine Wc.cond rfl (fun c0_17 => ?_) (fun c0_17 => ?_)
  ·
   have c0_17_ := c0_17
   try simp only [DZ] at c0_17
   have hil : i < s.length := by have := c0_17; omega
   obtain ⟨c, hc⟩ : ∃ c, c = s.getD i 0 := ⟨_, rfl⟩
   refine Wc.skip <| Wq.next hK_11 <| Wc.seq fun _ hK_18 => Wc.block <| Wc.seq fun _ hK_19 => Wc.region <| Wl.mv rfl rfl <| Wl.mv rfl rfl ?_
   refine Wl.y (y_eq (y_indexs Tryz.underlying9 rfl rfl (by omega) (by omega)) (int_eq (show _ = (c.toNat : Int) by rw [hc, Int.toNat_natCast]))) rfl ?_
   refine Wl.sg rfl rfl <| Wl.nil <| Wq.next hK_19 <| Wc.seq fun _ hK_24 => Wc.seq fun _ hK_25 => Wc.region <| Wl.mv rfl rfl <| Wl.y (y_eqli rfl rfl) rfl <| Wl.nil <| Wq.next hK_25 ?_
   refine Wc.cond rfl (fun c1_28 => ?_) (fun c1_28 => ?_)
   ·
    have c1_28_ := c1_28
    try simp only [DZ] at c1_28
    have hcq : s.getD i 0 = 39 := by rw [← hc]; exact u8_of (n := 39) c1_28 (by decide)
    refine Wc.seq fun _ hK_29 => Wc.region <| Wl.mv rfl rfl <| Wl.mv rfl rfl ?_
    refine Wl.y (y_addI rfl rfl (by first | omega | (simp; done) | (simp; omega)) (by first | omega | (simp; done) | (simp; omega))) rfl ?_
    refine Wl.sg rfl rfl <| Wl.sg rfl rfl <| Wl.nil <| Wq.next hK_29 <| Wc.ret ?_
    refine Wq.then_ret (Wq.block_ret (Wq.then_ret (Wq.then_ret (Wq.block_ret (Wq.then_ret ?_)))))
    refine ret2 rfl rfl rfl ?_
    exact ⟨_, rfl, uq_val (hu.trans (uq_quote l hil hcq)) (by omega), hb⟩
   have c1_28_ := c1_28
   try simp only [DZ] at c1_28
   have hcq : s.getD i 0 ≠ 39 := by rw [← hc]; exact u8_not (n := 39) c1_28 (by decide)
   refine Wc.skip <| Wq.next hK_24 <| Wc.seq fun _ hK_35 => Wc.seq fun _ hK_36 => Wc.region <| Wl.mv rfl rfl <| Wl.y (y_eqli rfl rfl) rfl <| Wl.nil <| Wq.next hK_36 ?_
   refine Wc.cond rfl (fun c2_39 => ?_) (fun c2_39 => ?_)
   ·
    have c2_39_ := c2_39
    try simp only [DZ] at c2_39
    have hun := hu.trans (uq_feed l hil (by rw [← hc]; exact u8_of (n := 10) c2_39 (by decide)))
    refine Wc.seq fun _ hK_40 => Wc.region <| Wl.sg rfl rfl <| Wl.sg rfl rfl <| Wl.nil <| Wq.next hK_40 <| Wc.ret ?_
    refine Wq.then_ret (Wq.block_ret (Wq.then_ret (Wq.then_ret (Wq.block_ret (Wq.then_ret ?_)))))
    refine ret2 rfl rfl rfl ?_
    exact ⟨_, rfl, uq_val hun rfl, hb⟩
   have c2_39_ := c2_39
   try simp only [DZ] at c2_39
   have hcf : s.getD i 0 ≠ 10 := by rw [← hc]; exact u8_not (n := 10) c2_39 (by decide)
   refine Wc.skip <| Wq.next hK_35 <| Wc.seq fun _ hK_43 => Wc.seq fun _ hK_44 => Wc.region <| Wl.mv rfl rfl <| Wl.y (y_neqi rfl rfl) rfl <| Wl.nil <| Wq.next hK_44 ?_
   refine Wc.cond rfl (fun c3_47 => ?_) (fun c3_47 => ?_)
   ·
    have c3_47_ := c3_47
    try simp only [DZ] at c3_47
    have hu2 := hu.trans (uq_plain l hil hcq hcf (by rw [← hc]; exact u8_not (n := 92) c3_47 (by decide)))
    obtain ⟨j_, hj_⟩ : ∃ j, j = i := ⟨_, rfl⟩
    obtain ⟨e_, he_⟩ : ∃ e, e = c := ⟨_, rfl⟩
    rw [← hc, ← he_, ← hj_] at hu2
    refine Wc.seq fun _ hK_48 => Wc.region <| Wl.mv rfl rfl <| Wl.mv rfl rfl <| Wl.mv rfl rfl <| Wl.mv rfl rfl ?_
    refine Wl.y (y_addI rfl rfl (by first | omega | (simp; done) | (simp; omega)) (by first | omega | (simp; done) | (simp; omega))) rfl ?_
    refine Wl.y (y_eq (y_slices Tryz.underlying9 rfl rfl rfl (by omega) (by omega) (by omega)) (str_eq (show _ = [c] by rw [show ((i : Int) + 1).toNat = i + 1 by omega, Int.toNat_natCast, one_at hil, hc]))) rfl ?_
    refine Wl.y (y_adds rfl rfl (by simp only [List.length_cons, List.length_append, List.length_nil]; omega)) rfl ?_
    refine Wl.sg rfl rfl <| Wl.nil <| Wq.next hK_48 ?_
    refine Wc.exit ?_
    refine Wq.then_exit <| Wq.block_exit <| Wq.next hK_18 <| Wc.region <| Wl.mv rfl rfl ?_
    refine Wl.y (y_addI rfl rfl (by first | omega | (simp; done) | (simp; omega)) (by first | omega | (simp; done) | (simp; omega))) rfl ?_
    refine Wl.sg rfl rfl <| Wl.nil ?_
    refine fun a_ ha_ => hL_9 _ _ (⟨j_ + 1, l ++ [e_]⟩) (by first | omega | (simp; omega)) (Sub.cons' rfl (by first | rfl | exact int_eq (by omega) | exact str_eq (by rw [he_])) (Sub.cons' rfl (by first | rfl | exact int_eq (by omega) | exact str_eq (by rw [he_])) (Sub.cons' rfl (by first | rfl | exact int_eq (by omega) | exact str_eq (by rw [he_])) (Sub.nil)))) ?_ a_ ha_
    exact ⟨by omega, by omega, by rw [List.length_append]; simp; omega, hu2, hb⟩
   have c3_47_ := c3_47
   try simp only [DZ] at c3_47
   have hc9 : s.getD i 0 = 92 := by rw [← hc]; exact u8_of (n := 92) c3_47 (by decide)
   refine Wc.skip <| Wq.next hK_43 <| Wc.seq fun _ hK_60 => Wc.region <| Wl.mv rfl rfl ?_
   refine Wl.y (y_addI rfl rfl (by first | omega | (simp; done) | (simp; omega)) (by first | omega | (simp; done) | (simp; omega))) rfl ?_
   refine Wl.sg rfl rfl <| Wl.nil <| Wq.next hK_60 <| Wc.seq fun _ hK_64 => Wc.seq fun _ hK_65 => Wc.region <| Wl.mv rfl rfl <| Wl.mv rfl rfl ?_
   refine Wl.y (y_lens Tryz.underlying9 (by omega) rfl) rfl ?_
   refine Wl.y (y_eqli rfl rfl) rfl <| Wl.nil <| Wq.next hK_65 ?_
   refine Wc.cond rfl (fun c4_70 => ?_) (fun c4_70 => ?_)
   ·
    have c4_70_ := c4_70
    try simp only [DZ] at c4_70
    have hun := hu.trans (uq_last l hil hc9 (by have := c4_70; omega))
    refine Wc.seq fun _ hK_71 => Wc.region <| Wl.sg rfl rfl <| Wl.sg rfl rfl <| Wl.nil <| Wq.next hK_71 <| Wc.ret ?_
    refine Wq.then_ret (Wq.block_ret (Wq.then_ret (Wq.then_ret (Wq.block_ret (Wq.then_ret ?_)))))
    refine ret2 rfl rfl rfl ?_
    exact ⟨_, rfl, uq_val hun rfl, hb⟩
   have c4_70_ := c4_70
   try simp only [DZ] at c4_70
   have hi3 : i + 1 < s.length := by have := c4_70; omega
   obtain ⟨d, hd⟩ : ∃ d, d = s.getD (i + 1) 0 := ⟨_, rfl⟩
   have hes := uq_esc l hi3 hc9
   rw [← hd] at hes
   obtain ⟨j_, hj_⟩ : ∃ j, j = i + 1 := ⟨_, rfl⟩
   refine Wc.skip <| Wq.next hK_64 <| Wc.seq fun _ hK_74 => Wc.region <| Wl.mv rfl rfl <| Wl.mv rfl rfl ?_
   refine Wl.y (y_eq (y_indexs Tryz.underlying9 rfl rfl (by omega) (by omega)) (int_eq (show _ = (d.toNat : Int) by rw [hd, show ((i : Int) + 1).toNat = i + 1 by omega]))) rfl ?_
   refine Wl.nil <| Wq.next hK_74 <| Wc.block <| Wc.seq fun _ hK_78 => Wc.seq fun _ hK_79 => Wc.region <| Wl.y (y_eqli rfl rfl) rfl <| Wl.sg rfl rfl <| Wl.nil <| Wq.next hK_79 ?_
   refine Wc.cond rfl (fun c5_82 => ?_) (fun c5_82 => ?_)
   ·
    have c5_82_ := c5_82
    try simp only [DZ] at c5_82
    have hdd : d = 92 := u8_of (n := 92) c5_82 (by decide)
    obtain ⟨e_, he_⟩ : ∃ e, e = d := ⟨_, rfl⟩
    have hu2 : uqV s = uqGo (s.drop (j_ + 1)) (j_ + 1) (l ++ [e_]) := by rw [hdd] at hes; rw [he_, hdd, hj_]; exact hu.trans hes
    refine Wc.skip <| Wq.next hK_78 ?_
    refine Wc.condT rfl c5_82_ ?_
    refine Wc.region <| Wl.mv rfl rfl <| Wl.mv rfl rfl <| Wl.mv rfl rfl <| Wl.mv rfl rfl ?_
    refine Wl.y (y_addI rfl rfl (by first | omega | (simp; done) | (simp; omega)) (by first | omega | (simp; done) | (simp; omega))) rfl ?_
    refine Wl.y (y_eq (y_slices Tryz.underlying9 rfl rfl rfl (by omega) (by omega) (by omega)) (str_eq (show _ = [d] by rw [show ((i : Int) + 1).toNat = i + 1 by omega, show ((i : Int) + 1 + 1).toNat = i + 1 + 1 by omega, one_at hi3, hd]))) rfl ?_
    refine Wl.y (y_adds rfl rfl (by simp only [List.length_cons, List.length_append, List.length_nil]; omega)) rfl ?_
    refine Wl.sg rfl rfl <| Wl.nil <| Wq.block_normal <| Wq.block_normal <| Wq.next hK_18 <| Wc.region <| Wl.mv rfl rfl ?_
    refine Wl.y (y_addI rfl rfl (by first | omega | (simp; done) | (simp; omega)) (by first | omega | (simp; done) | (simp; omega))) rfl ?_
    refine Wl.sg rfl rfl <| Wl.nil ?_
    refine fun a_ ha_ => hL_9 _ _ (⟨j_ + 1, l ++ [e_]⟩) (by first | omega | (simp; omega)) (Sub.cons' rfl (by first | rfl | exact int_eq (by omega) | exact str_eq (by rw [he_])) (Sub.cons' rfl (by first | rfl | exact int_eq (by omega) | exact str_eq (by rw [he_])) (Sub.cons' rfl (by first | rfl | exact int_eq (by omega) | exact str_eq (by rw [he_])) (Sub.nil)))) ?_ a_ ha_
    exact ⟨by omega, by omega, by rw [List.length_append]; simp; omega, hu2, hb⟩
   have c5_82_ := c5_82
   try simp only [DZ] at c5_82
   have hd1 : d ≠ 92 := u8_not (n := 92) c5_82 (by decide)
   refine Wc.region <| Wl.y (y_eqli rfl rfl) rfl <| Wl.sg rfl rfl <| Wl.nil <| Wq.next hK_78 ?_
   refine Wc.cond rfl (fun c6_96 => ?_) (fun c6_96 => ?_)
   ·
    have c6_96_ := c6_96
    try simp only [DZ] at c6_96
    have hdd : d = 39 := u8_of (n := 39) c6_96 (by decide)
    obtain ⟨e_, he_⟩ : ∃ e, e = d := ⟨_, rfl⟩
    have hu2 : uqV s = uqGo (s.drop (j_ + 1)) (j_ + 1) (l ++ [e_]) := by rw [hdd] at hes; rw [he_, hdd, hj_]; exact hu.trans hes
    refine Wc.region <| Wl.mv rfl rfl <| Wl.mv rfl rfl <| Wl.mv rfl rfl <| Wl.mv rfl rfl ?_
    refine Wl.y (y_addI rfl rfl (by first | omega | (simp; done) | (simp; omega)) (by first | omega | (simp; done) | (simp; omega))) rfl ?_
    refine Wl.y (y_eq (y_slices Tryz.underlying9 rfl rfl rfl (by omega) (by omega) (by omega)) (str_eq (show _ = [d] by rw [show ((i : Int) + 1).toNat = i + 1 by omega, show ((i : Int) + 1 + 1).toNat = i + 1 + 1 by omega, one_at hi3, hd]))) rfl ?_
    refine Wl.y (y_adds rfl rfl (by simp only [List.length_cons, List.length_append, List.length_nil]; omega)) rfl ?_
    refine Wl.sg rfl rfl <| Wl.nil <| Wq.block_normal <| Wq.block_normal <| Wq.next hK_18 <| Wc.region <| Wl.mv rfl rfl ?_
    refine Wl.y (y_addI rfl rfl (by first | omega | (simp; done) | (simp; omega)) (by first | omega | (simp; done) | (simp; omega))) rfl ?_
    refine Wl.sg rfl rfl <| Wl.nil ?_
    refine fun a_ ha_ => hL_9 _ _ (⟨j_ + 1, l ++ [e_]⟩) (by first | omega | (simp; omega)) (Sub.cons' rfl (by first | rfl | exact int_eq (by omega) | exact str_eq (by rw [he_])) (Sub.cons' rfl (by first | rfl | exact int_eq (by omega) | exact str_eq (by rw [he_])) (Sub.cons' rfl (by first | rfl | exact int_eq (by omega) | exact str_eq (by rw [he_])) (Sub.nil)))) ?_ a_ ha_
    exact ⟨by omega, by omega, by rw [List.length_append]; simp; omega, hu2, hb⟩
   have c6_96_ := c6_96
   try simp only [DZ] at c6_96
   have hd2 : d ≠ 39 := u8_not (n := 39) c6_96 (by decide)
   refine Wc.seq fun _ hK_108 => Wc.region <| Wl.y (y_eqli rfl rfl) rfl <| Wl.sg rfl rfl <| Wl.nil <| Wq.next hK_108 ?_
   refine Wc.cond rfl (fun c7_111 => ?_) (fun c7_111 => ?_)
   ·
    have c7_111_ := c7_111
    try simp only [DZ] at c7_111
    have hdd : d = 110 := u8_of (n := 110) c7_111 (by decide)
    obtain ⟨e_, he_⟩ : ∃ e : UInt8, e = 10 := ⟨_, rfl⟩
    have hu2 : uqV s = uqGo (s.drop (j_ + 1)) (j_ + 1) (l ++ [e_]) := by rw [hdd] at hes; rw [he_, hj_]; exact hu.trans hes
    refine Wc.region <| Wl.mv rfl rfl ?_
    refine Wl.y (y_adds rfl rfl (by simp only [List.length_cons, List.length_append, List.length_nil]; omega)) rfl ?_
    refine Wl.sg rfl rfl <| Wl.nil <| Wq.block_normal <| Wq.block_normal <| Wq.next hK_18 <| Wc.region <| Wl.mv rfl rfl ?_
    refine Wl.y (y_addI rfl rfl (by first | omega | (simp; done) | (simp; omega)) (by first | omega | (simp; done) | (simp; omega))) rfl ?_
    refine Wl.sg rfl rfl <| Wl.nil ?_
    refine fun a_ ha_ => hL_9 _ _ (⟨j_ + 1, l ++ [e_]⟩) (by first | omega | (simp; omega)) (Sub.cons' rfl (by first | rfl | exact int_eq (by omega) | exact str_eq (by rw [he_])) (Sub.cons' rfl (by first | rfl | exact int_eq (by omega) | exact str_eq (by rw [he_])) (Sub.cons' rfl (by first | rfl | exact int_eq (by omega) | exact str_eq (by rw [he_])) (Sub.nil)))) ?_ a_ ha_
    exact ⟨by omega, by omega, by rw [List.length_append]; simp; omega, hu2, hb⟩
   have c7_111_ := c7_111
   try simp only [DZ] at c7_111
   have hd3 : d ≠ 110 := u8_not (n := 110) c7_111 (by decide)
   refine Wc.seq fun _ hK_118 => Wc.region <| Wl.sg rfl rfl <| Wl.sg rfl rfl <| Wl.nil <| Wq.next hK_118 <| Wc.ret ?_
   refine Wq.block_ret (Wq.block_ret (Wq.then_ret (Wq.then_ret (Wq.block_ret (Wq.then_ret ?_)))))
   refine ret2 rfl rfl rfl ?_
   exact ⟨_, rfl, uq_val (hu.trans (hes.trans (by unfold escV; rw [if_neg hd1, if_neg hd2, if_neg hd3]))) rfl, hb⟩
  have c0_17_ := c0_17
  try simp only [DZ] at c0_17
  refine Wc.exit ?_
  refine Wq.then_exit <| Wq.then_exit <| Wq.block_exit <| Wq.next hK_6 <| Wc.seq fun _ hK_121 => Wc.region <| Wl.sg rfl rfl <| Wl.sg rfl rfl <| Wl.nil <| Wq.next hK_121 ?_
  refine Wc.ret ?_
  refine ret2 rfl rfl rfl ?_
  exact ⟨_, rfl, uq_val (hu.trans (uq_end l (by have := c0_17; omega))) rfl, hb⟩
theorem qstart {s : List UInt8} : Lib.hasPrefix s [39] = decide (0 < s.length ∧ (s.getD 0 0).toNat = 39) := by
  rw [Bool.eq_iff_iff, pre_one, decide_eq_true_eq]
  constructor
  · rintro ⟨r, rfl⟩; exact ⟨by simp, rfl⟩
  · rintro ⟨h1, h2⟩
    cases s with
    | nil => simp at h1
    | cons c r =>
      have hc : c = 39 := UInt8.toNat_inj.1 h2
      exact ⟨r, by rw [hc]⟩
theorem readV_q {s : List UInt8} (h : Lib.hasPrefix s [39] = true) : readV pf uqV s = if (uqV s).2 = 0 then none else some (⟨4, 0, 0, (uqV s).1⟩, (uqV s).2) := by unfold readV; rw [if_pos h]
theorem RRead_r (s : List UInt8) (hs : s.length ≤ 140737488355328) (w : World) : Ret Tryz.prog 19 [str s] w fun v w' => v = rdV (readV pf uqV s) ∧ Below w.heap.size w w' := by
  have hb := Below.refl w.heap.size w
  refine enter Tryz.func19 rfl rfl rfl ?_
  refine Wc.seq fun _ hK_1 => Wc.region ?_
  refine Wl.allocN (z := (.agg #[(.int .i64 0), (.int .i64 0), (.float .f64 0), (str [])])) (by kernel_rfl) rfl ?_
  rintro g_o0 w_o0 hg_o0 hn_o0 hs_o0
  have hz_o0 := hs_o0.size
  have hb := hb.trans (hs_o0.mono hb.size)
  have hB_o0 := hn_o0
  have hl_o0 := hB_o0.lt
  refine Wl.sg rfl rfl <| Wl.sg rfl rfl <| Wl.nil <| Wq.next hK_1 <| Wc.seq fun _ hK_5 => Wc.seq fun _ hK_6 => ?_
  refine Wc.meet (X := Bool) (fun q => [(0, str s), (2, .pointer (some ⟨g_o0, 0, none⟩)), (3, .int .i64 0), (4, .bool false), (17, .bool q)]) (fun q wr => q = Lib.hasPrefix s [39] ∧ Below w.heap.size w wr ∧ Blk wr g_o0 28 nullV.cells) (fun _ hM_7 => ?_) ?_
  ·
   refine Wc.region <| Wl.mv rfl rfl ?_
   refine Wl.y (y_lens Tryz.underlying9 (by omega) rfl) rfl ?_
   refine Wl.y (y_gtri rfl rfl) rfl <| Wl.mv rfl rfl ?_
   refine Wl.guardT rfl rfl rfl (fun g_12 => ?_) (fun g_12 => ?_)
   ·
    have g_12_ := g_12
    try simp only [DZ] at g_12
    refine Wl.mv rfl rfl <| Wl.on' rfl rfl g_12_ ?_
    refine Wl.y (y_indexs Tryz.underlying9 rfl rfl (by omega) (by omega)) rfl ?_
    refine Wl.on' rfl rfl g_12_ <| Wl.y (y_eqli rfl rfl) rfl ?_
    refine Wl.y (y_pickT rfl g_12_ rfl) rfl ?_
    refine Wl.nil ?_
    refine Wq.meet hM_7 (Lib.hasPrefix s [39]) (Sub.cons' rfl (by first | rfl | exact bool_eq (by rw [qstart, Bool.eq_iff_iff]; simp <;> omega)) (Sub.cons' rfl (by first | rfl | exact bool_eq (by rw [qstart, Bool.eq_iff_iff]; simp <;> omega)) (Sub.cons' rfl (by first | rfl | exact bool_eq (by rw [qstart, Bool.eq_iff_iff]; simp <;> omega)) (Sub.cons' rfl (by first | rfl | exact bool_eq (by rw [qstart, Bool.eq_iff_iff]; simp <;> omega)) (Sub.cons' rfl (by first | rfl | exact bool_eq (by rw [qstart, Bool.eq_iff_iff]; simp <;> omega)) (Sub.nil)))))) ?_
    exact ⟨rfl, hb, hB_o0⟩
   have g_12_ := g_12
   try simp only [DZ] at g_12
   refine Wl.off' rfl rfl g_12_ rfl rfl <| Wl.off' rfl rfl g_12_ rfl rfl ?_
   refine Wl.y (y_pickF rfl g_12_ rfl) rfl ?_
   refine Wl.nil ?_
   refine Wq.meet hM_7 (Lib.hasPrefix s [39]) (Sub.cons' rfl (by first | rfl | exact bool_eq (by rw [qstart, Bool.eq_iff_iff]; simp <;> omega)) (Sub.cons' rfl (by first | rfl | exact bool_eq (by rw [qstart, Bool.eq_iff_iff]; simp <;> omega)) (Sub.cons' rfl (by first | rfl | exact bool_eq (by rw [qstart, Bool.eq_iff_iff]; simp <;> omega)) (Sub.cons' rfl (by first | rfl | exact bool_eq (by rw [qstart, Bool.eq_iff_iff]; simp <;> omega)) (Sub.cons' rfl (by first | rfl | exact bool_eq (by rw [qstart, Bool.eq_iff_iff]; simp <;> omega)) (Sub.nil)))))) ?_
   exact ⟨rfl, hb, hB_o0⟩
  rintro q wr hI_18
  replace hI_18 : q = Lib.hasPrefix s [39] ∧ Below w.heap.size w wr ∧ Blk wr g_o0 28 nullV.cells := hI_18
  obtain ⟨hq, hb, hB_o0⟩ := hI_18
  show Wq _ _ _ _ [(0, str s), (2, .pointer (some ⟨g_o0, 0, none⟩)), (3, .int .i64 0), (4, .bool false), (17, .bool q)] _
  try have hzhb_g1 := hb.size
  have hlhB_o0_g1 := hB_o0.lt
  refine Wq.next hK_6 ?_
  refine Wc.cond rfl (fun c0_19 => ?_) (fun c0_19 => ?_)
  ·
   have c0_19_ := c0_19
   try simp only [DZ] at c0_19
   have hp : Lib.hasPrefix s [39] = true := hq.symm.trans c0_19_
   refine Wc.seq fun _ hK_20 => Wc.region <| Wl.mv rfl rfl ?_
   refine Wl.call txt59RRead rfl rfl (Rquoted_r s hs _) rfl ?_
   rintro _ w_k0 ⟨rfl, hs_k0⟩
   have hz_k0 := hs_k0.size
   have hb := hb.trans (hs_k0.mono hb.size)
   try have hB_o0 := Blk.below hB_o0 hs_k0
   refine Wl.mv rfl rfl <| Wl.y (y_extract rfl rfl) rfl <| Wl.y (y_extract rfl rfl) rfl <| Wl.sg rfl rfl <| Wl.sg rfl rfl <| Wl.nil <| Wq.next hK_20 <| Wc.seq fun _ hK_28 => Wc.seq fun _ hK_29 => Wc.region ?_
   refine Wl.mv rfl rfl <| Wl.y (y_eqli rfl rfl) rfl <| Wl.nil <| Wq.next hK_29 ?_
   refine Wc.cond rfl (fun c1_32 => ?_) (fun c1_32 => ?_)
   ·
    have c1_32_ := c1_32
    try simp only [DZ] at c1_32
    refine Wc.seq fun _ hK_33 => Wc.region ?_
    refine Wl.call txt60RRead rfl rfl (null_r _) rfl ?_
    rintro _ w_k1 ⟨rfl, hs_k1⟩
    have hz_k1 := hs_k1.size
    have hb := hb.trans (hs_k1.mono hb.size)
    try have hB_o0 := Blk.below hB_o0 hs_k1
    refine Wl.storeS (by kernel_rfl) rfl rfl hB_o0 rfl rfl ?_
    rintro w_s0 hn_s0 hg_s0
    have hz_s0 := hg_s0.size
    have hb := below_blk hb hg_s0 hb.size (by omega)
    have hB_o0 := hn_s0
    refine Wl.sg rfl rfl <| Wl.sg rfl rfl <| Wl.nil <| Wq.next hK_33 <| Wc.ret ?_
    refine Wq.then_ret (Wq.then_ret ?_)
    refine retN (rs := [.cell 2 28, .tmp 3, .tmp 4]) (vs := [_, _, _]) rfl (.cell rfl (loadS Tryz.underlying28 (by kernel_rfl) (fun j u hu => hB_o0.at hu)) (.tmp rfl (.tmp rfl .nil))) ?_
    exact ⟨_, rfl, by rw [readV_q hp, if_pos (by have := c1_32; omega)]; rfl, hb⟩
   have c1_32_ := c1_32
   try simp only [DZ] at c1_32
   refine Wc.skip <| Wq.next hK_28 <| Wc.seq fun _ hK_37 => Wc.region <| Wl.mv rfl rfl ?_
   refine Wl.y (y_buildS (z := [(.int .i64 0), (.int .i64 0), (.float .f64 0), (str [])]) (pl := [(0, 1), (1, 1), (2, 1), (3, 1)]) (cs := [_, _, _, _]) Tryz.underlying28 (by kernel_rfl) (by kernel_rfl) rfl rfl rfl) rfl ?_
   refine Wl.mv rfl rfl ?_
   refine Wl.storeS (by kernel_rfl) rfl rfl hB_o0 rfl rfl ?_
   rintro w_s1 hn_s1 hg_s1
   have hz_s1 := hg_s1.size
   have hb := below_blk hb hg_s1 hb.size (by omega)
   have hB_o0 := hn_s1
   refine Wl.sg rfl rfl <| Wl.sg rfl rfl <| Wl.nil <| Wq.next hK_37 <| Wc.ret <| Wq.then_ret ?_
   refine retN (rs := [.cell 2 28, .tmp 3, .tmp 4]) (vs := [_, _, _]) rfl (.cell rfl (loadS Tryz.underlying28 (by kernel_rfl) (fun j u hu => hB_o0.at hu)) (.tmp rfl (.tmp rfl .nil))) ?_
   exact ⟨_, rfl, by rw [readV_q hp, if_neg (by have := c1_32; omega)]; rfl, hb⟩
  have c0_19_ := c0_19
  try simp only [DZ] at c0_19
  have hp : Lib.hasPrefix s [39] = false := hq.symm.trans c0_19_
  refine Wc.skip <| Wq.next hK_5 <| Wc.seq fun _ hK_43 => Wc.seq fun _ hK_44 => Wc.region <| Wl.mv rfl rfl ?_
  refine Wl.y (y_lens Tryz.underlying9 (by omega) rfl) rfl ?_
  refine Wl.y (y_eq (y_min rfl rfl) (int_eq (show _ = ((min s.length 40 : Nat) : Int) by omega))) rfl ?_
  refine Wl.sg rfl rfl <| Wl.nil <| Wq.next hK_44 <| Wc.block ?_
  refine Wc.loop (X := Nat) (fun n => [(0, str s), (2, .pointer (some ⟨g_o0, 0, none⟩)), (7, .int .i64 (n : Int))]) (fun n wr => n ≤ min s.length 40 ∧ (∀ m, n < m → m ≤ min s.length 40 → ∀ u, ¬ IsOne u (s.take m)) ∧ Below w.heap.size w wr ∧ Blk wr g_o0 28 nullV.cells) (fun n => n) (min s.length 40) ?_ ?_ ?_
  · exact Sub.cons' rfl (by first | rfl | exact int_eq (by omega) | exact int_eq (by simp) | (simp; done)) (Sub.cons' rfl (by first | rfl | exact int_eq (by omega) | exact int_eq (by simp) | (simp; done)) (Sub.cons' rfl (by first | rfl | exact int_eq (by omega) | exact int_eq (by simp) | (simp; done)) (Sub.nil)))
  · exact ⟨Nat.le_refl _, fun m h1 h2 => by omega, hb, hB_o0⟩
  rintro n wr hI_50 _ hL_49
  replace hI_50 : n ≤ min s.length 40 ∧ (∀ m, n < m → m ≤ min s.length 40 → ∀ u, ¬ IsOne u (s.take m)) ∧ Below w.heap.size w wr ∧ Blk wr g_o0 28 nullV.cells := hI_50
  obtain ⟨hn, hno, hb, hB_o0⟩ := hI_50
  show Wc _ _ _ _ _ [(0, str s), (2, .pointer (some ⟨g_o0, 0, none⟩)), (7, .int .i64 (n : Int))] _
  try have hzhb_L0 := hb.size
  have hlhB_o0_L0 := hB_o0.lt
  refine Wc.seq fun _ hK_51 => Wc.seq fun _ hK_52 => Wc.region <| Wl.mv rfl rfl <| Wl.y (y_gtri rfl rfl) rfl <| Wl.nil <| Wq.next hK_52 ?_
  refine Wc.cond rfl (fun c2_55 => ?_) (fun c2_55 => ?_)
  ·
   have c2_55_ := c2_55
   try simp only [DZ] at c2_55
   have hn0 : 0 < n := by have := c2_55; omega
   refine Wc.skip <| Wq.next hK_51 <| Wc.seq fun _ hK_56 => Wc.block <| Wc.seq fun _ hK_57 => Wc.region <| Wl.mv rfl rfl <| Wl.mv rfl rfl ?_
   refine Wl.y (y_eq (y_slicesH Tryz.underlying9 rfl rfl (by omega) (by omega)) (str_eq (show _ = s.take n by rw [Int.toNat_natCast]))) rfl ?_
   refine Wl.call txt61RRead rfl rfl (Rone_r (s.take n) (by have := List.length_take_le' n s; omega) _) rfl ?_
   rintro _ w_k2 ⟨⟨u, ok, rfl, hone⟩, hs_k2⟩
   have hz_k2 := hs_k2.size
   have hb := hb.trans (hs_k2.mono hb.size)
   try have hB_o0 := Blk.below hB_o0 hs_k2
   refine Wl.mv rfl rfl <| Wl.y (y_extract rfl rfl) rfl <| Wl.y (y_extract rfl rfl) rfl ?_
   refine Wl.allocN (z := (.agg #[(.int .i64 0), (.int .i64 0), (.float .f64 0), (str [])])) (by kernel_rfl) rfl ?_
   rintro g_o33 w_o33 hg_o33 hn_o33 hs_o33
   have hz_o33 := hs_o33.size
   have hb := hb.trans (hs_o33.mono hb.size)
   try have hB_o0 := Blk.below hB_o0 hs_o33
   have hB_o33 := hn_o33
   have hl_o33 := hB_o33.lt
   refine Wl.storeS (by kernel_rfl) rfl rfl hB_o33 rfl rfl ?_
   rintro w_s2 hn_s2 hg_s2
   have hz_s2 := hg_s2.size
   have hb := below_blk hb hg_s2 hb.size (by omega)
   try have hB_o0 := hB_o0.over hg_s2 (by omega)
   have hB_o33 := hn_s2
   refine Wl.sg rfl rfl <| Wl.nil <| Wq.next hK_57 <| Wc.seq fun _ hK_67 => Wc.region <| Wl.mv rfl rfl <| Wl.nil <| Wq.next hK_67 ?_
   refine Wc.cond rfl (fun c3_69 => ?_) (fun c3_69 => ?_)
   ·
    have c3_69_ := c3_69
    try simp only [DZ] at c3_69
    have hhit : readV pf uqV s = some (u, n) := by
      rcases hone with h | h
      · exact read_hit hp h.2 hn hno
      · have := c3_69_; rw [h.1] at this; cases this
    refine Wc.seq fun _ hK_70 => Wc.region ?_
    refine Wl.l (l_loadS Tryz.underlying28 (by kernel_rfl) rfl (by first | exact fun j u hu => hB_o0.at hu | exact fun j u hu => hB_o33.at hu | assumption)) rfl ?_
    refine Wl.mv rfl rfl ?_
    refine Wl.storeS (by kernel_rfl) rfl rfl hB_o0 rfl rfl ?_
    rintro w_s3 hn_s3 hg_s3
    have hz_s3 := hg_s3.size
    have hb := below_blk hb hg_s3 hb.size (by omega)
    have hB_o0 := hn_s3
    refine Wl.sg rfl rfl <| Wl.sg rfl rfl <| Wl.nil <| Wq.next hK_70 <| Wc.ret ?_
    refine Wq.block_ret (Wq.then_ret (Wq.then_ret (Wq.block_ret (Wq.then_ret ?_))))
    refine retN (rs := [.cell 2 28, .tmp 3, .tmp 4]) (vs := [_, _, _]) rfl (.cell rfl (loadS Tryz.underlying28 (by kernel_rfl) (fun j u hu => hB_o0.at hu)) (.tmp rfl (.tmp rfl .nil))) ?_
    exact ⟨_, rfl, by rw [hhit]; rfl, hb⟩
   have c3_69_ := c3_69
   try simp only [DZ] at c3_69
   have hno2 : ∀ m, n - 1 < m → m ≤ min s.length 40 → ∀ u, ¬ IsOne u (s.take m) := fun m h1 h2 u' => by
     by_cases e : m = n
     · rw [e]
       rcases hone with h | h
       · have := c3_69_; rw [h.1] at this; cases this
       · exact h.2.2 u'
     · exact hno m (by omega) h2 u'
   refine Wc.skip <| Wq.block_normal <| Wq.next hK_56 <| Wc.region <| Wl.mv rfl rfl ?_
   refine Wl.y (y_subI rfl rfl (by first | omega | (simp; done) | (simp; omega)) (by first | omega | (simp; done) | (simp; omega))) rfl ?_
   refine Wl.sg rfl rfl <| Wl.nil ?_
   refine fun a_ ha_ => hL_49 _ _ (n - 1) (by first | omega | (simp; omega)) (Sub.cons' rfl (by first | rfl | exact int_eq (by omega)) (Sub.cons' rfl (by first | rfl | exact int_eq (by omega)) (Sub.cons' rfl (by first | rfl | exact int_eq (by omega)) (Sub.nil)))) ?_ a_ ha_
   exact ⟨by omega, hno2, hb, hB_o0⟩
  have c2_55_ := c2_55
  try simp only [DZ] at c2_55
  have hmiss : readV pf uqV s = none := read_miss hp fun m h1 h2 u => hno m (by have := c2_55; omega) h2 u
  refine Wc.exit ?_
  refine Wq.then_exit <| Wq.then_exit <| Wq.block_exit <| Wq.next hK_43 <| Wc.seq fun _ hK_78 => Wc.region ?_
  refine Wl.call txt60RRead rfl rfl (null_r _) rfl ?_
  rintro _ w_k3 ⟨rfl, hs_k3⟩
  have hz_k3 := hs_k3.size
  have hb := hb.trans (hs_k3.mono hb.size)
  try have hB_o0 := Blk.below hB_o0 hs_k3
  refine Wl.storeS (by kernel_rfl) rfl rfl hB_o0 rfl rfl ?_
  rintro w_s4 hn_s4 hg_s4
  have hz_s4 := hg_s4.size
  have hb := below_blk hb hg_s4 hb.size (by omega)
  have hB_o0 := hn_s4
  refine Wl.sg rfl rfl <| Wl.sg rfl rfl <| Wl.nil <| Wq.next hK_78 <| Wc.ret ?_
  refine retN (rs := [.cell 2 28, .tmp 3, .tmp 4]) (vs := [_, _, _]) rfl (.cell rfl (loadS Tryz.underlying28 (by kernel_rfl) (fun j u hu => hB_o0.at hu)) (.tmp rfl (.tmp rfl .nil))) ?_
  exact ⟨_, rfl, by rw [hmiss]; rfl, hb⟩
end Go.Proofs.YtccgjfcaomngjaaGreatDoor
