/- strings.Replacer: byteStringReplacer.Replace, at the three bytes that a text is written with otherwise. -/
import Derived.Test.YtcljmclolpgdmaaGreatDoorRepA
import Derived.Test.YtcljmclolpgdmaaGreatDoorShelfC
namespace Go.Bw
open Go.RowKit
set_option linter.unusedVariables false
set_option linter.unusedSimpArgs false
/-- how a byte is written -/
def qcR (c : UInt8) : List UInt8 := if spB c then [92, if c = 10 then 110 else c] else [c]
theorem qcR_sp {c : UInt8} (h : spB c = true) : qcR c = [92, if c = 10 then 110 else c] := by unfold qcR; rw [if_pos h]
theorem qcR_ns {c : UInt8} (h : spB c = false) : qcR c = [c] := by unfold qcR; rw [if_neg (by rw [h]; decide)]
theorem qcR_len (l : List UInt8) : (l.flatMap qcR).length = l.length + l.countP spB := by
  induction l with
  | nil => rfl
  | cons c r ih =>
    rw [List.flatMap_cons, List.length_append, ih, List.length_cons, List.countP_cons]
    cases h : spB c
    · rw [qcR_ns h, if_neg (by decide)]; simp; omega
    · rw [qcR_sp h, if_pos rfl]; simp; omega
theorem qcR_none {l : List UInt8} (h : l.countP spB = 0) : l.flatMap qcR = l := by
  induction l with
  | nil => rfl
  | cons c r ih =>
    rw [List.countP_cons] at h
    cases hs : spB c
    · rw [List.flatMap_cons, qcR_ns hs, ih (by omega)]; rfl
    · rw [if_pos hs] at h; omega
def cntR (l : List UInt8) : Nat → Nat
  | 0 => 0
  | x + 1 => cntR l x + Lib.countByte l (oldB (2 - x))
theorem cntR_all (l : List UInt8) : cntR l 3 = l.countP spB := by
  show 0 + l.count 10 + l.count 39 + l.count 92 = _
  induction l with
  | nil => rfl
  | cons c r ih =>
    rw [List.countP_cons, List.count_cons, List.count_cons, List.count_cons, ← ih]
    have e : ∀ d : UInt8, (c == d) = decide (c = d) := fun d => rfl
    unfold spB
    simp only [e]
    by_cases h1 : c = 92
    · subst h1; simp; omega
    by_cases h2 : c = 39
    · subst h2; simp; omega
    by_cases h3 : c = 10
    · subst h3; simp; omega
    simp [h1, h2, h3]
theorem count_le' (l : List UInt8) (c : UInt8) : Lib.countByte l c ≤ l.length := List.count_le_length
theorem cntR_le (l : List UInt8) : ∀ x, cntR l x ≤ x * l.length
  | 0 => by simp [cntR]
  | x + 1 => by have := cntR_le l x; have := count_le' l (oldB (2 - x)); simp only [cntR, Nat.succ_mul]; omega
theorem take_one {l : List UInt8} {i : Nat} (h : i < l.length) : l.take (i + 1) = l.take i ++ [l.getD i 0] := by
  rw [List.take_succ_eq_append_getElem h]; simp [List.getD, List.getElem?_eq_getElem h]
theorem cp_succ {l : List UInt8} {i : Nat} (h : i < l.length) : (l.take (i + 1)).countP spB = (l.take i).countP spB + (if spB (l.getD i 0) = true then 1 else 0) := by
  rw [take_one h, List.countP_append, List.countP_singleton]
theorem fl_succ {l : List UInt8} {i : Nat} (h : i < l.length) : (l.take (i + 1)).flatMap qcR = (l.take i).flatMap qcR ++ qcR (l.getD i 0) := by
  rw [take_one h, List.flatMap_append]; simp
theorem fl_le (l : List UInt8) (i : Nat) : ((l.take i).flatMap qcR).length ≤ l.length + l.countP spB := by
  rw [← qcR_len]
  have e : l.flatMap qcR = (l.take i).flatMap qcR ++ (l.drop i).flatMap qcR := by rw [← List.flatMap_append, List.take_append_drop]
  rw [e, List.length_append]; omega
def bufR (p : List UInt8) (n : Nat) : List Value := u8s p ++ List.replicate (n - p.length) (.int .u8 0)
theorem buf_copy (p q : List UInt8) (n : Nat) (h : p.length + q.length ≤ n) : (bufR p n).take p.length ++ u8s q ++ (bufR p n).drop (p.length + q.length) = bufR (p ++ q) n := by
  unfold bufR
  have e1 : (u8s p).length = p.length := u8s_length p
  rw [List.take_append_of_le_length (by omega), List.take_of_length_le (by omega), ← e1, List.drop_append, List.drop_of_length_le (by omega)]
  rw [u8s_append, List.drop_replicate, e1, List.length_append]
  simp only [List.nil_append, List.append_assoc]
  congr 3; omega
theorem buf_set (p : List UInt8) (b : UInt8) (n : Nat) (h : p.length < n) : (bufR p n).set p.length (.int .u8 b.toNat) = bufR (p ++ [b]) n := by
  unfold bufR
  have e1 : (u8s p).length = p.length := u8s_length p
  obtain ⟨k, hk⟩ : ∃ k, n - p.length = k + 1 := ⟨n - p.length - 1, by omega⟩
  rw [List.set_append_right _ _ (by omega), e1, Nat.sub_self, hk, List.replicate_succ, List.set_cons_zero, u8s_append, List.append_assoc]
  have : n - (p ++ [b]).length = k := by rw [List.length_append]; simp; omega
  rw [this]; rfl
theorem sl_eq {g n j : Nat} (h : j < n) : Value.slice (if n = ((j : Int)).toNat then some (⟨g, 0, none⟩ : Addr) else (some (⟨g, 0, none⟩ : Addr)).map (·.add ((j : Int).toNat * 1))) (n - (j : Int).toNat) (n - (j : Int).toNat) = .slice (some ((⟨g, 0, none⟩ : Addr).add j)) (n - j) (n - j) := by
  rw [Int.toNat_natCast, if_neg (by omega), Nat.mul_one]; rfl
theorem ptr1 (p : Addr) (k : Nat) : Value.pointer (some (p.add ((k : Int).toNat * 1))) = .pointer (some (p.add k)) := by rw [Int.toNat_natCast, Nat.mul_one]
/-- the table with its parts named -/
structure Rt (t : TypeId) (w : World) (gg : Nat) (cs : List Value) (A : Addr) (c : Nat) : Prop where
  blk : Blk w gg t cs
  tr : cs[256]? = some (.slice (some A) 3 c)
  row : ∀ j, j < 3 → w.cell? (A.add j) = some (str [oldB (2 - j)])
  any : ∀ b : UInt8, ∃ B n k, cs[b.toNat]? = some (.slice B n k) ∧ B.isNone = !spB b ∧ (spB b = true → n = 2 ∧ ∃ a : Nat, B = some ⟨a, 0, none⟩ ∧ Rd w 1 (some ⟨a, 0, none⟩) 2 (u8s (qcR b)))
theorem Rpd.openT {t lo : Nat} {w : World} {gg : Nat} (h : Rpd t lo w gg) : ∃ cs A c, Rt t w gg cs A c := by
  obtain ⟨cs, A, c, h1, h2, h3, h4, h5, h6, h7⟩ := h.tab
  obtain ⟨p, e, hc⟩ := h5.2 (by simp)
  cases e
  refine ⟨cs, A, c, h1, h3, fun j hj => ?_, fun b => ?_⟩
  · have : j = 0 ∨ j = 1 ∨ j = 2 := by omega
    rcases this with rfl | rfl | rfl <;> exact hc _ _ rfl
  · cases hb : spB b
    · exact ⟨none, 0, 0, h6 b hb, rfl, fun e => by cases e⟩
    · obtain ⟨a, k, g1, g2, g3⟩ := h7 b hb
      exact ⟨_, _, _, g1, rfl, fun _ => ⟨rfl, a, rfl, by rw [qcR_sp hb]; exact g3⟩⟩
theorem Rt.below {t : TypeId} {w w' : World} {gg : Nat} {cs : List Value} {A : Addr} {c : Nat} (h : Rt t w gg cs A c) (hb : Below w.heap.size w w') : Rt t w' gg cs A c := ⟨h.blk.below hb, h.tr, fun j hj => cell_below hb (h.row j hj), fun b => by
  obtain ⟨B, n, k, h1, h2, h3⟩ := h.any b
  exact ⟨B, n, k, h1, h2, fun e => by obtain ⟨e1, a, e2, e3⟩ := h3 e; exact ⟨e1, a, e2, e3.below hb⟩⟩⟩
theorem sp_old {j : Nat} (h : j < 3) : spB (oldB j) = true := by
  have : j = 0 ∨ j = 1 ∨ j = 2 := by omega
  rcases this with rfl | rfl | rfl <;> rfl
end Go.Bw
namespace Go.Proofs.YtcljmclolpgdmaaGreatDoor
open Go.RowKit Go.Bw
set_option linter.unusedVariables false
set_option linter.unusedSimpArgs false
theorem fa209_0RepB (p : Addr) (w : World) : (Instr.fieldAt 209 (.pointer (some p)) 0).run Tryz.prog w = .ok (.pointer (some (p.add 0))) w := run_fieldAt (i := 0) (sz := 255) Tryz.underlying209 rfl (by kernel_rfl) p w
theorem fa209_1RepB (p : Addr) (w : World) : (Instr.fieldAt 209 (.pointer (some p)) 1).run Tryz.prog w = .ok (.pointer (some (p.add 256))) w := run_fieldAt (i := 1) (sz := 0) Tryz.underlying209 rfl (by kernel_rfl) p w
theorem one106RepB : One Tryz.prog 106 := ⟨_, Tryz.underlying106, rfl, by kernel_rfl⟩
theorem one53RepB : One Tryz.prog 53 := ⟨_, Tryz.underlying53, rfl, by kernel_rfl⟩
theorem one9RepB : One Tryz.prog 9 := ⟨_, Tryz.underlying9, rfl, by kernel_rfl⟩
theorem sz106RepB : (Tryz.prog.info? 106).map (·.size) = some 1 := by kernel_rfl
theorem sz5RepB : (Tryz.prog.info? 5).map (·.size) = some 1 := by kernel_rfl
theorem sz9RepB : (Tryz.prog.info? 9).map (·.size) = some 1 := by kernel_rfl
theorem txt247RepB : Txt Tryz.prog 247 := ⟨_, Tryz.func247, by kernel_rfl, rfl⟩   -- strings.Count
theorem count_r (l : List UInt8) (c : UInt8) (w : World) : Ret Tryz.prog 247 [str l, str [c]] w fun v w' => v = .int .i64 (Lib.countByte l c) ∧ w' = w := Ret.of_calls (Tryz.strings_Count_one ⟨l.toArray⟩ c w)
theorem oneU8 : One Tryz.prog 5 := ⟨_, Tryz.underlying5, rfl, by kernel_rfl⟩
theorem bsr_r (gg : Nat) (cs : List Value) (A : Addr) (c : Nat) (l : List UInt8) (w : World) (hT : Rt 209 w gg cs A c) (hl : l.length ≤ 1099511627776) : Ret Tryz.prog 245 [.pointer (some ⟨gg, 0, none⟩), str l] w fun v w' => v = str (l.flatMap qcR) ∧ Below w.heap.size w w' := by
  have hcp : l.countP spB ≤ l.length := List.countP_le_length
  have hql := qcR_len l
  have hb := Below.refl w.heap.size w
  have hT_hb := hT
  refine enter Tryz.func245 rfl rfl rfl ?_
  refine Wc.seq fun _ hK_1 => ?_
  refine Wc.region ?_
  refine Wl.y (y_assign rfl) rfl ?_
  refine Wl.nil ?_
  refine Wq.next hK_1 ?_
  refine Wc.seq fun _ hK_3 => ?_
  refine Wc.region ?_
  refine Wl.y (y_move rfl) rfl ?_
  refine Wl.y (y_lens Tryz.underlying9 (by omega) rfl) rfl ?_
  refine Wl.y (y_assign rfl) rfl ?_
  refine Wl.nil ?_
  refine Wq.next hK_3 ?_
  refine Wc.seq fun _ hK_7 => ?_
  refine Wc.region ?_
  refine Wl.y (y_assign rfl) rfl ?_
  refine Wl.nil ?_
  refine Wq.next hK_7 ?_
  refine Wc.seq fun _ hK_9 => ?_
  refine Wc.seq fun _ hK_10 => ?_
  refine Wc.region ?_
  refine Wl.y (y_move rfl) rfl ?_
  refine Wl.y (y_nilCheck rfl) rfl ?_
  refine Wl.y (y_fieldAddr (fa209_1RepB _) rfl) rfl ?_
  refine Wl.l (l_load one53RepB rfl (by exact hT.blk.at hT.tr)) rfl ?_
  refine Wl.y (y_lenl Tryz.underlying53 (by omega) rfl) rfl ?_
  refine Wl.y (y_mulI rfl rfl (by first | omega | (simp; done) | (simp; omega)) (by first | omega | (simp; done) | (simp; omega))) rfl ?_
  refine Wl.y (y_move rfl) rfl ?_
  refine Wl.y (y_lens Tryz.underlying9 (by omega) rfl) rfl ?_
  refine Wl.y (y_leqi rfl rfl) rfl ?_
  refine Wl.nil ?_
  refine Wq.next hK_10 ?_
  refine Wc.meet (X := Unit) (fun u_ => [(0, .pointer (some ⟨gg, 0, none⟩)), (1, str l), (5, .int .i64 ((l.length + l.countP spB : Nat) : Int)), (6, .bool (decide (0 < l.countP spB)))]) (fun u_ wr => Below w.heap.size w wr) (fun _ hM_20 => ?_) ?_
  ·
   refine Wc.cond rfl (fun c0_21 => ?_) (fun c0_21 => ?_)
   ·
    have c0_21_ := c0_21
    try simp only [decide_eq_true_eq, decide_eq_false_iff_not, beq_iff_eq, beq_eq_false_iff_ne, bne_iff_ne, bne_eq_false_iff_eq, Bool.not_eq_true', Bool.not_eq_false', Bool.not_eq_eq_eq_not, Bool.not_true, Bool.not_false, ne_eq, Int.not_lt, Int.not_le] at c0_21
    refine Wc.seq fun _ hK_22 => ?_
    refine Wc.region ?_
    refine Wl.y (y_move rfl) rfl ?_
    refine Wl.y (y_nilCheck rfl) rfl ?_
    refine Wl.y (y_fieldAddr (fa209_1RepB _) rfl) rfl ?_
    refine Wl.l (l_load one53RepB rfl (by exact hT.blk.at hT.tr)) rfl ?_
    refine Wl.y (y_lenl Tryz.underlying53 (by omega) rfl) rfl ?_
    refine Wl.y (y_move rfl) rfl ?_
    refine Wl.nil ?_
    refine Wq.next hK_22 ?_
    refine Wc.block ?_
    refine Wc.loop (X := Nat) (fun x => [(0, .pointer (some ⟨gg, 0, none⟩)), (1, str l), (5, .int .i64 ((l.length + cntR l x : Nat) : Int)), (6, .bool (decide (0 < cntR l x))), (30, .slice (some A) 3 c), (31, .int .i64 ((3 : Nat) : Int)), (32, .int .i64 (x : Int))]) (fun x wr => x ≤ 3 ∧ Below w.heap.size w wr) (fun x => 3 - x) (0) ?_ ?_ ?_
    · exact Sub.cons' rfl (by first | rfl | exact int_eq (by omega) | exact int_eq (by simp) | (simp; done)) (Sub.cons' rfl (by first | rfl | exact int_eq (by omega) | exact int_eq (by simp) | (simp; done)) (Sub.cons' rfl (by first | rfl | exact int_eq (by omega) | exact int_eq (by simp) | (simp; done)) (Sub.cons' rfl (by first | rfl | exact int_eq (by omega) | exact int_eq (by simp) | (simp; done)) (Sub.cons' rfl (by first | rfl | exact int_eq (by omega) | exact int_eq (by simp) | (simp; done)) (Sub.cons' rfl (by first | rfl | exact int_eq (by omega) | exact int_eq (by simp) | (simp; done)) (Sub.cons' rfl (by first | rfl | exact int_eq (by omega) | exact int_eq (by simp) | (simp; done)) (Sub.nil)))))))
    · exact ⟨by omega, hb⟩
    ·
     rintro x wr hI_30 _ hL_29
     replace hI_30 : x ≤ 3 ∧ Below w.heap.size w wr := hI_30
     obtain ⟨hx, hb⟩ := hI_30
     show Wc _ _ _ _ _ [(0, .pointer (some ⟨gg, 0, none⟩)), (1, str l), (5, .int .i64 ((l.length + cntR l x : Nat) : Int)), (6, .bool (decide (0 < cntR l x))), (30, .slice (some A) 3 c), (31, .int .i64 ((3 : Nat) : Int)), (32, .int .i64 (x : Int))] _
     have hT := hT_hb.below hb
     try have hzhb_L0 := hb.size
     refine Wc.seq fun _ hK_31 => ?_
     refine Wc.region ?_
     refine Wl.y (y_lssi rfl rfl) rfl ?_
     refine Wl.nil ?_
     refine Wq.next hK_31 ?_
     refine Wc.seq fun _ hK_33 => ?_
     refine Wc.cond rfl (fun c1_34 => ?_) (fun c1_34 => ?_)
     ·
      have c1_34_ := c1_34
      try simp only [decide_eq_true_eq, decide_eq_false_iff_not, beq_iff_eq, beq_eq_false_iff_ne, bne_iff_ne, bne_eq_false_iff_eq, Bool.not_eq_true', Bool.not_eq_false', Bool.not_eq_eq_eq_not, Bool.not_true, Bool.not_false, ne_eq, Int.not_lt, Int.not_le] at c1_34
      refine Wc.skip ?_
      refine Wq.next hK_33 ?_
      refine Wc.seq fun _ hK_35 => ?_
      refine Wc.block ?_
      refine Wc.seq fun _ hK_36 => ?_
      refine Wc.region ?_
      refine Wl.y (y_indexAddr Tryz.underlying53 sz9RepB rfl rfl (by omega) (by omega)) rfl ?_
      refine Wl.l (l_load one9RepB rfl (by exact at1 (hT.row x (by omega)))) rfl ?_
      refine Wl.y (y_assign rfl) rfl ?_
      refine Wl.nil ?_
      refine Wq.next hK_36 ?_
      refine Wc.seq fun _ hK_40 => ?_
      refine Wc.region ?_
      refine Wl.y (y_move rfl) rfl ?_
      refine Wl.y (y_move rfl) rfl ?_
      refine Wl.call txt247RepB rfl rfl (count_r l (oldB (2 - x)) _) rfl ?_
      rintro _ w_ ⟨rfl, hw_⟩
      have hw_ := hw_.symm; subst hw_
      refine Wl.y (y_assign rfl) rfl ?_
      refine Wl.nil ?_
      refine Wq.next hK_40 ?_
      refine Wc.seq fun _ hK_45 => ?_
      refine Wc.region ?_
      refine Wl.y (y_move rfl) rfl ?_
      refine Wl.y (y_neqi rfl rfl) rfl ?_
      refine Wl.nil ?_
      refine Wq.next hK_45 ?_
      refine Wc.cond rfl (fun c2_48 => ?_) (fun c2_48 => ?_)
      ·
       have c2_48_ := c2_48
       try simp only [decide_eq_true_eq, decide_eq_false_iff_not, beq_iff_eq, beq_eq_false_iff_ne, bne_iff_ne, bne_eq_false_iff_eq, Bool.not_eq_true', Bool.not_eq_false', Bool.not_eq_eq_eq_not, Bool.not_true, Bool.not_false, ne_eq, Int.not_lt, Int.not_le] at c2_48
       refine Wc.seq fun _ hK_49 => ?_
       obtain ⟨B9, n9, k9, hc9, hi9, hy9⟩ := hT.any (oldB (2 - x))
       obtain ⟨rfl, a9, rfl, _⟩ := hy9 (sp_old (by omega))
       have hcl := count_le' l (oldB (2 - x))
       have hxl := cntR_le l x
       have hx2 : x * l.length ≤ 3 * l.length := Nat.mul_le_mul_right _ (by omega)
       have hk9 := old_lt (2 - x)
       refine Wc.quiet (by kernel_rfl) (by kernel_rfl) ?_
       refine Wy.y (y_move rfl) rfl ?_
       refine Wy.y (y_move rfl) rfl ?_
       refine Wy.y (y_move rfl) rfl ?_
       refine Wy.y (y_move rfl) rfl ?_
       refine Wy.y (y_eq (y_indexs Tryz.underlying9 rfl rfl (by omega) (by simp)) ((show Value.int .u8 ((([oldB (2 - x)] : List UInt8).getD (0 : Int).toNat 0).toNat : Int) = .int .u8 ((oldB (2 - x)).toNat : Int) from rfl))) rfl ?_
       refine Wy.y (y_nilCheck rfl) rfl ?_
       refine Wy.y (y_fieldAddr (fa209_0RepB _) rfl) rfl ?_
       refine Wy.y (y_eq (y_indexAddrA Tryz.underlying207 sz106RepB rfl rfl (by omega) (by omega)) (ptr_at _ _)) rfl ?_
       refine Wy.l (fun wq hq => l_load one106RepB rfl (by have hT := hT.below hq; exact hT.blk.at hc9)) rfl ?_
       refine Wy.y (y_lenl Tryz.underlying106 (by omega) rfl) rfl ?_
       refine Wy.y (y_subI rfl rfl (by first | omega | (simp; done) | (simp; omega)) (by first | omega | (simp; done) | (simp; omega))) rfl ?_
       refine Wy.y (y_mulI rfl rfl (by first | omega | (simp; done) | (simp; omega)) (by first | omega | (simp; done) | (simp; omega))) rfl ?_
       refine Wy.y (y_addI rfl rfl (by first | omega | (simp; done) | (simp; omega)) (by first | omega | (simp; done) | (simp; omega))) rfl ?_
       refine Wy.y (y_assign rfl) rfl ?_
       refine Wy.nil fun w_g9 hs_g9 => ?_
       have hz_g9 := hs_g9.size
       have hb := hb.trans (hs_g9.mono hb.size)
       have hT := hT_hb.below hb
       refine Wq.next hK_49 ?_
       refine Wc.region ?_
       refine Wl.y (y_assign rfl) rfl ?_
       refine Wl.nil ?_
       refine Wq.block_normal ?_
       refine Wq.next hK_35 ?_
       refine Wc.region ?_
       refine Wl.y (y_addI rfl rfl (by first | omega | (simp; done) | (simp; omega)) (by first | omega | (simp; done) | (simp; omega))) rfl ?_
       refine Wl.y (y_move rfl) rfl ?_
       refine Wl.nil ?_
       refine fun a_ ha_ => hL_29 _ _ (x + 1) (by first | omega | (simp; omega)) (Sub.cons' rfl (by first | rfl | exact int_eq (by simp only [cntR]; omega) | exact bool_eq (decide_eq_true (by simp only [cntR]; omega)).symm | exact bool_eq (decide_eq_decide.2 (by simp only [cntR]; omega))) (Sub.cons' rfl (by first | rfl | exact int_eq (by simp only [cntR]; omega) | exact bool_eq (decide_eq_true (by simp only [cntR]; omega)).symm | exact bool_eq (decide_eq_decide.2 (by simp only [cntR]; omega))) (Sub.cons' rfl (by first | rfl | exact int_eq (by simp only [cntR]; omega) | exact bool_eq (decide_eq_true (by simp only [cntR]; omega)).symm | exact bool_eq (decide_eq_decide.2 (by simp only [cntR]; omega))) (Sub.cons' rfl (by first | rfl | exact int_eq (by simp only [cntR]; omega) | exact bool_eq (decide_eq_true (by simp only [cntR]; omega)).symm | exact bool_eq (decide_eq_decide.2 (by simp only [cntR]; omega))) (Sub.cons' rfl (by first | rfl | exact int_eq (by simp only [cntR]; omega) | exact bool_eq (decide_eq_true (by simp only [cntR]; omega)).symm | exact bool_eq (decide_eq_decide.2 (by simp only [cntR]; omega))) (Sub.cons' rfl (by first | rfl | exact int_eq (by simp only [cntR]; omega) | exact bool_eq (decide_eq_true (by simp only [cntR]; omega)).symm | exact bool_eq (decide_eq_decide.2 (by simp only [cntR]; omega))) (Sub.cons' rfl (by first | rfl | exact int_eq (by simp only [cntR]; omega) | exact bool_eq (decide_eq_true (by simp only [cntR]; omega)).symm | exact bool_eq (decide_eq_decide.2 (by simp only [cntR]; omega))) (Sub.nil)))))))) ?_ a_ ha_
       exact ⟨by omega, hb⟩
      ·
       have c2_48_ := c2_48
       try simp only [decide_eq_true_eq, decide_eq_false_iff_not, beq_iff_eq, beq_eq_false_iff_ne, bne_iff_ne, bne_eq_false_iff_eq, Bool.not_eq_true', Bool.not_eq_false', Bool.not_eq_eq_eq_not, Bool.not_true, Bool.not_false, ne_eq, Int.not_lt, Int.not_le] at c2_48
       refine Wc.skip ?_
       refine Wq.block_normal ?_
       refine Wq.next hK_35 ?_
       refine Wc.region ?_
       refine Wl.y (y_addI rfl rfl (by first | omega | (simp; done) | (simp; omega)) (by first | omega | (simp; done) | (simp; omega))) rfl ?_
       refine Wl.y (y_move rfl) rfl ?_
       refine Wl.nil ?_
       refine fun a_ ha_ => hL_29 _ _ (x + 1) (by first | omega | (simp; omega)) (Sub.cons' rfl (by first | rfl | exact int_eq (by simp only [cntR]; omega) | exact bool_eq (decide_eq_true (by simp only [cntR]; omega)).symm | exact bool_eq (decide_eq_decide.2 (by simp only [cntR]; omega))) (Sub.cons' rfl (by first | rfl | exact int_eq (by simp only [cntR]; omega) | exact bool_eq (decide_eq_true (by simp only [cntR]; omega)).symm | exact bool_eq (decide_eq_decide.2 (by simp only [cntR]; omega))) (Sub.cons' rfl (by first | rfl | exact int_eq (by simp only [cntR]; omega) | exact bool_eq (decide_eq_true (by simp only [cntR]; omega)).symm | exact bool_eq (decide_eq_decide.2 (by simp only [cntR]; omega))) (Sub.cons' rfl (by first | rfl | exact int_eq (by simp only [cntR]; omega) | exact bool_eq (decide_eq_true (by simp only [cntR]; omega)).symm | exact bool_eq (decide_eq_decide.2 (by simp only [cntR]; omega))) (Sub.cons' rfl (by first | rfl | exact int_eq (by simp only [cntR]; omega) | exact bool_eq (decide_eq_true (by simp only [cntR]; omega)).symm | exact bool_eq (decide_eq_decide.2 (by simp only [cntR]; omega))) (Sub.cons' rfl (by first | rfl | exact int_eq (by simp only [cntR]; omega) | exact bool_eq (decide_eq_true (by simp only [cntR]; omega)).symm | exact bool_eq (decide_eq_decide.2 (by simp only [cntR]; omega))) (Sub.cons' rfl (by first | rfl | exact int_eq (by simp only [cntR]; omega) | exact bool_eq (decide_eq_true (by simp only [cntR]; omega)).symm | exact bool_eq (decide_eq_decide.2 (by simp only [cntR]; omega))) (Sub.nil)))))))) ?_ a_ ha_
       exact ⟨by omega, hb⟩
     ·
      have c1_34_ := c1_34
      try simp only [decide_eq_true_eq, decide_eq_false_iff_not, beq_iff_eq, beq_eq_false_iff_ne, bne_iff_ne, bne_eq_false_iff_eq, Bool.not_eq_true', Bool.not_eq_false', Bool.not_eq_eq_eq_not, Bool.not_true, Bool.not_false, ne_eq, Int.not_lt, Int.not_le] at c1_34
      have hx3 : x = 3 := by omega
      subst hx3
      have hcx := cntR_all l
      refine Wc.exit ?_
      refine Wq.then_exit ?_
      refine Wq.then_exit ?_
      refine Wq.block_exit ?_
      skip
      refine Wq.meet hM_20 (()) (Sub.cons' rfl (by first | rfl | exact int_eq (by rw [hcx]) | exact bool_eq (by rw [hcx]) | exact int_eq (by rw [hc3]) | exact bool_eq (by rw [hc3])) (Sub.cons' rfl (by first | rfl | exact int_eq (by rw [hcx]) | exact bool_eq (by rw [hcx]) | exact int_eq (by rw [hc3]) | exact bool_eq (by rw [hc3])) (Sub.cons' rfl (by first | rfl | exact int_eq (by rw [hcx]) | exact bool_eq (by rw [hcx]) | exact int_eq (by rw [hc3]) | exact bool_eq (by rw [hc3])) (Sub.cons' rfl (by first | rfl | exact int_eq (by rw [hcx]) | exact bool_eq (by rw [hcx]) | exact int_eq (by rw [hc3]) | exact bool_eq (by rw [hc3])) (Sub.nil))))) ?_
      exact hb
   ·
    have c0_21_ := c0_21
    try simp only [decide_eq_true_eq, decide_eq_false_iff_not, beq_iff_eq, beq_eq_false_iff_ne, bne_iff_ne, bne_eq_false_iff_eq, Bool.not_eq_true', Bool.not_eq_false', Bool.not_eq_eq_eq_not, Bool.not_true, Bool.not_false, ne_eq, Int.not_lt, Int.not_le] at c0_21
    refine Wc.seq fun _ hK_69 => ?_
    refine Wc.region ?_
    refine Wl.y (y_assign rfl) rfl ?_
    refine Wl.nil ?_
    refine Wq.next hK_69 ?_
    refine Wc.block ?_
    refine Wc.loop (X := Nat) (fun i => [(0, .pointer (some ⟨gg, 0, none⟩)), (1, str l), (5, .int .i64 ((l.length + (l.take i).countP spB : Nat) : Int)), (6, .bool (decide (0 < (l.take i).countP spB))), (10, .int .i64 (i : Int))]) (fun i wr => i ≤ l.length ∧ Below w.heap.size w wr) (fun i => l.length - i) (0) ?_ ?_ ?_
    · exact Sub.cons' rfl (by first | rfl | exact int_eq (by omega) | exact int_eq (by simp) | (simp; done)) (Sub.cons' rfl (by first | rfl | exact int_eq (by omega) | exact int_eq (by simp) | (simp; done)) (Sub.cons' rfl (by first | rfl | exact int_eq (by omega) | exact int_eq (by simp) | (simp; done)) (Sub.cons' rfl (by first | rfl | exact int_eq (by omega) | exact int_eq (by simp) | (simp; done)) (Sub.cons' rfl (by first | rfl | exact int_eq (by omega) | exact int_eq (by simp) | (simp; done)) (Sub.nil)))))
    · exact ⟨by omega, hb⟩
    ·
     rintro i wr hI_72 _ hL_71
     replace hI_72 : i ≤ l.length ∧ Below w.heap.size w wr := hI_72
     obtain ⟨hi, hb⟩ := hI_72
     show Wc _ _ _ _ _ [(0, .pointer (some ⟨gg, 0, none⟩)), (1, str l), (5, .int .i64 ((l.length + (l.take i).countP spB : Nat) : Int)), (6, .bool (decide (0 < (l.take i).countP spB))), (10, .int .i64 (i : Int))] _
     have hT := hT_hb.below hb
     try have hzhb_L1 := hb.size
     refine Wc.seq fun _ hK_73 => ?_
     refine Wc.seq fun _ hK_74 => ?_
     refine Wc.region ?_
     refine Wl.y (y_move rfl) rfl ?_
     refine Wl.y (y_move rfl) rfl ?_
     refine Wl.y (y_lens Tryz.underlying9 (by omega) rfl) rfl ?_
     refine Wl.y (y_lssi rfl rfl) rfl ?_
     refine Wl.nil ?_
     refine Wq.next hK_74 ?_
     refine Wc.cond rfl (fun c3_79 => ?_) (fun c3_79 => ?_)
     ·
      have c3_79_ := c3_79
      try simp only [decide_eq_true_eq, decide_eq_false_iff_not, beq_iff_eq, beq_eq_false_iff_ne, bne_iff_ne, bne_eq_false_iff_eq, Bool.not_eq_true', Bool.not_eq_false', Bool.not_eq_eq_eq_not, Bool.not_true, Bool.not_false, ne_eq, Int.not_lt, Int.not_le] at c3_79
      have hil : i < l.length := by omega
      refine Wc.skip ?_
      refine Wq.next hK_73 ?_
      refine Wc.seq fun _ hK_80 => ?_
      refine Wc.block ?_
      refine Wc.seq fun _ hK_81 => ?_
      refine Wc.region ?_
      refine Wl.y (y_move rfl) rfl ?_
      refine Wl.y (y_move rfl) rfl ?_
      refine Wl.y (y_eq (y_indexs Tryz.underlying9 rfl rfl (by omega) (by omega)) ((show Value.int .u8 ((l.getD (i : Int).toNat 0).toNat : Int) = .int .u8 ((l.getD i 0).toNat : Int) from rfl))) rfl ?_
      refine Wl.y (y_assign rfl) rfl ?_
      refine Wl.nil ?_
      refine Wq.next hK_81 ?_
      refine Wc.seq fun _ hK_86 => ?_
      obtain ⟨B9, n9, k9, hc9, hi9, hy9⟩ := hT.any (l.getD i 0)
      have hk9 := (l.getD i 0).toNat_lt
      refine Wc.region ?_
      refine Wl.y (y_move rfl) rfl ?_
      refine Wl.y (y_move rfl) rfl ?_
      refine Wl.y (y_nilCheck rfl) rfl ?_
      refine Wl.y (y_fieldAddr (fa209_0RepB _) rfl) rfl ?_
      refine Wl.y (y_eq (y_indexAddrA Tryz.underlying207 sz106RepB rfl rfl (by omega) (by omega)) (ptr_at _ _)) rfl ?_
      refine Wl.l (l_load one106RepB rfl (by exact hT.blk.at hc9)) rfl ?_
      refine Wl.y (y_slnn Tryz.underlying106 rfl) rfl ?_
      refine Wl.nil ?_
      refine Wq.next hK_86 ?_
      refine Wc.cond rfl (fun c4_94 => ?_) (fun c4_94 => ?_)
      ·
       have c4_94_ := c4_94
       try simp only [decide_eq_true_eq, decide_eq_false_iff_not, beq_iff_eq, beq_eq_false_iff_ne, bne_iff_ne, bne_eq_false_iff_eq, Bool.not_eq_true', Bool.not_eq_false', Bool.not_eq_eq_eq_not, Bool.not_true, Bool.not_false, ne_eq, Int.not_lt, Int.not_le] at c4_94
       have hsp : spB (l.getD i 0) = true := by rw [hi9] at c4_94; simpa using c4_94
       obtain ⟨rfl, a9, rfl, _⟩ := hy9 hsp
       have hcl : (l.take i).countP spB ≤ i := Nat.le_trans List.countP_le_length (by rw [List.length_take]; omega)
       refine Wc.seq fun _ hK_95 => ?_
       refine Wc.region ?_
       refine Wl.y (y_move rfl) rfl ?_
       refine Wl.y (y_move rfl) rfl ?_
       refine Wl.y (y_move rfl) rfl ?_
       refine Wl.y (y_nilCheck rfl) rfl ?_
       refine Wl.y (y_fieldAddr (fa209_0RepB _) rfl) rfl ?_
       refine Wl.y (y_eq (y_indexAddrA Tryz.underlying207 sz106RepB rfl rfl (by omega) (by omega)) (ptr_at _ _)) rfl ?_
       refine Wl.l (l_load one106RepB rfl (by exact hT.blk.at hc9)) rfl ?_
       refine Wl.y (y_lenl Tryz.underlying106 (by omega) rfl) rfl ?_
       refine Wl.y (y_subI rfl rfl (by first | omega | (simp; done) | (simp; omega)) (by first | omega | (simp; done) | (simp; omega))) rfl ?_
       refine Wl.y (y_addI rfl rfl (by first | omega | (simp; done) | (simp; omega)) (by first | omega | (simp; done) | (simp; omega))) rfl ?_
       refine Wl.y (y_assign rfl) rfl ?_
       refine Wl.nil ?_
       refine Wq.next hK_95 ?_
       refine Wc.region ?_
       refine Wl.y (y_assign rfl) rfl ?_
       refine Wl.nil ?_
       refine Wq.block_normal ?_
       refine Wq.next hK_80 ?_
       refine Wc.region ?_
       refine Wl.y (y_move rfl) rfl ?_
       refine Wl.y (y_addI rfl rfl (by first | omega | (simp; done) | (simp; omega)) (by first | omega | (simp; done) | (simp; omega))) rfl ?_
       refine Wl.y (y_assign rfl) rfl ?_
       refine Wl.nil ?_
       refine fun a_ ha_ => hL_71 _ _ (i + 1) (by first | omega | (simp; omega)) (Sub.cons' rfl (by first | rfl | exact int_eq (by rw [cp_succ hil, hsp]; simp; omega) | exact bool_eq (decide_eq_true (by rw [cp_succ hil, hsp]; simp)).symm | exact bool_eq (decide_eq_decide.2 (by rw [cp_succ hil, hsp]; simp)) | exact int_eq (by rw [cp_succ hil, hsp]; simp)) (Sub.cons' rfl (by first | rfl | exact int_eq (by rw [cp_succ hil, hsp]; simp; omega) | exact bool_eq (decide_eq_true (by rw [cp_succ hil, hsp]; simp)).symm | exact bool_eq (decide_eq_decide.2 (by rw [cp_succ hil, hsp]; simp)) | exact int_eq (by rw [cp_succ hil, hsp]; simp)) (Sub.cons' rfl (by first | rfl | exact int_eq (by rw [cp_succ hil, hsp]; simp; omega) | exact bool_eq (decide_eq_true (by rw [cp_succ hil, hsp]; simp)).symm | exact bool_eq (decide_eq_decide.2 (by rw [cp_succ hil, hsp]; simp)) | exact int_eq (by rw [cp_succ hil, hsp]; simp)) (Sub.cons' rfl (by first | rfl | exact int_eq (by rw [cp_succ hil, hsp]; simp; omega) | exact bool_eq (decide_eq_true (by rw [cp_succ hil, hsp]; simp)).symm | exact bool_eq (decide_eq_decide.2 (by rw [cp_succ hil, hsp]; simp)) | exact int_eq (by rw [cp_succ hil, hsp]; simp)) (Sub.cons' rfl (by first | rfl | exact int_eq (by rw [cp_succ hil, hsp]; simp; omega) | exact bool_eq (decide_eq_true (by rw [cp_succ hil, hsp]; simp)).symm | exact bool_eq (decide_eq_decide.2 (by rw [cp_succ hil, hsp]; simp)) | exact int_eq (by rw [cp_succ hil, hsp]; simp)) (Sub.nil)))))) ?_ a_ ha_
       exact ⟨by omega, hb⟩
      ·
       have c4_94_ := c4_94
       try simp only [decide_eq_true_eq, decide_eq_false_iff_not, beq_iff_eq, beq_eq_false_iff_ne, bne_iff_ne, bne_eq_false_iff_eq, Bool.not_eq_true', Bool.not_eq_false', Bool.not_eq_eq_eq_not, Bool.not_true, Bool.not_false, ne_eq, Int.not_lt, Int.not_le] at c4_94
       have hsp : spB (l.getD i 0) = false := by rw [hi9] at c4_94; simpa using c4_94
       refine Wc.skip ?_
       refine Wq.block_normal ?_
       refine Wq.next hK_80 ?_
       refine Wc.region ?_
       refine Wl.y (y_move rfl) rfl ?_
       refine Wl.y (y_addI rfl rfl (by first | omega | (simp; done) | (simp; omega)) (by first | omega | (simp; done) | (simp; omega))) rfl ?_
       refine Wl.y (y_assign rfl) rfl ?_
       refine Wl.nil ?_
       refine fun a_ ha_ => hL_71 _ _ (i + 1) (by first | omega | (simp; omega)) (Sub.cons' rfl (by first | rfl | exact int_eq (by rw [cp_succ hil, hsp]; simp; omega) | exact bool_eq (decide_eq_true (by rw [cp_succ hil, hsp]; simp)).symm | exact bool_eq (decide_eq_decide.2 (by rw [cp_succ hil, hsp]; simp)) | exact int_eq (by rw [cp_succ hil, hsp]; simp)) (Sub.cons' rfl (by first | rfl | exact int_eq (by rw [cp_succ hil, hsp]; simp; omega) | exact bool_eq (decide_eq_true (by rw [cp_succ hil, hsp]; simp)).symm | exact bool_eq (decide_eq_decide.2 (by rw [cp_succ hil, hsp]; simp)) | exact int_eq (by rw [cp_succ hil, hsp]; simp)) (Sub.cons' rfl (by first | rfl | exact int_eq (by rw [cp_succ hil, hsp]; simp; omega) | exact bool_eq (decide_eq_true (by rw [cp_succ hil, hsp]; simp)).symm | exact bool_eq (decide_eq_decide.2 (by rw [cp_succ hil, hsp]; simp)) | exact int_eq (by rw [cp_succ hil, hsp]; simp)) (Sub.cons' rfl (by first | rfl | exact int_eq (by rw [cp_succ hil, hsp]; simp; omega) | exact bool_eq (decide_eq_true (by rw [cp_succ hil, hsp]; simp)).symm | exact bool_eq (decide_eq_decide.2 (by rw [cp_succ hil, hsp]; simp)) | exact int_eq (by rw [cp_succ hil, hsp]; simp)) (Sub.cons' rfl (by first | rfl | exact int_eq (by rw [cp_succ hil, hsp]; simp; omega) | exact bool_eq (decide_eq_true (by rw [cp_succ hil, hsp]; simp)).symm | exact bool_eq (decide_eq_decide.2 (by rw [cp_succ hil, hsp]; simp)) | exact int_eq (by rw [cp_succ hil, hsp]; simp)) (Sub.nil)))))) ?_ a_ ha_
       exact ⟨by omega, hb⟩
     ·
      have c3_79_ := c3_79
      try simp only [decide_eq_true_eq, decide_eq_false_iff_not, beq_iff_eq, beq_eq_false_iff_ne, bne_iff_ne, bne_eq_false_iff_eq, Bool.not_eq_true', Bool.not_eq_false', Bool.not_eq_eq_eq_not, Bool.not_true, Bool.not_false, ne_eq, Int.not_lt, Int.not_le] at c3_79
      have hcx : i = l.length := by omega
      have hc3 : l.take l.length = l := List.take_length
      subst hcx
      refine Wc.exit ?_
      refine Wq.then_exit ?_
      refine Wq.then_exit ?_
      refine Wq.block_exit ?_
      skip
      refine Wq.meet hM_20 (()) (Sub.cons' rfl (by first | rfl | exact int_eq (by rw [hcx]) | exact bool_eq (by rw [hcx]) | exact int_eq (by rw [hc3]) | exact bool_eq (by rw [hc3])) (Sub.cons' rfl (by first | rfl | exact int_eq (by rw [hcx]) | exact bool_eq (by rw [hcx]) | exact int_eq (by rw [hc3]) | exact bool_eq (by rw [hc3])) (Sub.cons' rfl (by first | rfl | exact int_eq (by rw [hcx]) | exact bool_eq (by rw [hcx]) | exact int_eq (by rw [hc3]) | exact bool_eq (by rw [hc3])) (Sub.cons' rfl (by first | rfl | exact int_eq (by rw [hcx]) | exact bool_eq (by rw [hcx]) | exact int_eq (by rw [hc3]) | exact bool_eq (by rw [hc3])) (Sub.nil))))) ?_
      exact hb
  ·
   rintro u_ wr hI_114
   replace hI_114 : Below w.heap.size w wr := hI_114
   have hb := hI_114
   show Wq _ _ _ _ [(0, .pointer (some ⟨gg, 0, none⟩)), (1, str l), (5, .int .i64 ((l.length + l.countP spB : Nat) : Int)), (6, .bool (decide (0 < l.countP spB)))] _
   have hT := hT_hb.below hb
   try have hzhb_c0 := hb.size
   refine Wq.next hK_9 ?_
   refine Wc.seq fun _ hK_115 => ?_
   refine Wc.seq fun _ hK_116 => ?_
   refine Wc.region ?_
   refine Wl.y (y_move rfl) rfl ?_
   refine Wl.y (y_not rfl) rfl ?_
   refine Wl.nil ?_
   refine Wq.next hK_116 ?_
   refine Wc.cond rfl (fun c5_119 => ?_) (fun c5_119 => ?_)
   ·
    have c5_119_ := c5_119
    try simp only [decide_eq_true_eq, decide_eq_false_iff_not, beq_iff_eq, beq_eq_false_iff_ne, bne_iff_ne, bne_eq_false_iff_eq, Bool.not_eq_true', Bool.not_eq_false', Bool.not_eq_eq_eq_not, Bool.not_true, Bool.not_false, ne_eq, Int.not_lt, Int.not_le] at c5_119
    have hz : l.countP spB = 0 := by simpa using c5_119
    refine Wc.seq fun _ hK_120 => ?_
    refine Wc.region ?_
    refine Wl.y (y_move rfl) rfl ?_
    refine Wl.y (y_assign rfl) rfl ?_
    refine Wl.nil ?_
    refine Wq.next hK_120 ?_
    refine Wc.ret ?_
    refine Wq.then_ret ?_
    refine ret1 rfl rfl ?_
    exact ⟨_, rfl, str_eq (qcR_none hz).symm, hb⟩
   ·
    have c5_119_ := c5_119
    try simp only [decide_eq_true_eq, decide_eq_false_iff_not, beq_iff_eq, beq_eq_false_iff_ne, bne_iff_ne, bne_eq_false_iff_eq, Bool.not_eq_true', Bool.not_eq_false', Bool.not_eq_eq_eq_not, Bool.not_true, Bool.not_false, ne_eq, Int.not_lt, Int.not_le] at c5_119
    refine Wc.skip ?_
    refine Wq.next hK_115 ?_
    refine Wc.seq fun _ hK_123 => ?_
    obtain ⟨gb, hgb⟩ : ∃ gb, gb = wr.heap.size := ⟨_, rfl⟩
    refine Wc.region ?_
    refine Wl.y (y_move rfl) rfl ?_
    refine Wl.make (z := .int .u8 0) (sz := 1) (bytes := 1) Tryz.underlying106 (by kernel_rfl) w.heap.size (n := l.length + l.countP spB) rfl rfl (by omega) (by simp only [maxLen]; omega) hb.size rfl ?_
    rintro w1 hO hg1
    have hz1 := hg1.size
    have hb := hb.grown hg1 hb.size (fun k hk => by cases hk)
    rw [show madeCells (Value.int .u8 0).cells ((l.length + l.countP spB) * 1) = madeCells #[.int .u8 0] (l.length + l.countP spB) from by rw [Nat.mul_one]; rfl, toList_madeCells_one, ← hgb] at hO
    rw [← hgb]
    refine Wl.y (y_assign rfl) rfl ?_
    refine Wl.nil ?_
    refine Wq.next hK_123 ?_
    refine Wc.seq fun _ hK_127 => ?_
    refine Wc.region ?_
    refine Wl.y (y_assign rfl) rfl ?_
    refine Wl.nil ?_
    refine Wq.next hK_127 ?_
    refine Wc.seq fun _ hK_129 => ?_
    refine Wc.seq fun _ hK_130 => ?_
    refine Wc.region ?_
    refine Wl.y (y_assign rfl) rfl ?_
    refine Wl.nil ?_
    refine Wq.next hK_130 ?_
    refine Wc.block ?_
    refine Wc.loop (X := Nat) (fun i => [(0, .pointer (some ⟨gg, 0, none⟩)), (1, str l), (12, .slice (some ⟨gb, 0, none⟩) (l.length + l.countP spB) (l.length + l.countP spB)), (13, .int .i64 ((((l.take i).flatMap qcR).length : Nat) : Int)), (14, .int .i64 (i : Int))]) (fun i wr => i ≤ l.length ∧ Below w.heap.size w wr ∧ wr.ownsRow w.heap.size 5 1 (.slice (some ⟨gb, 0, none⟩) (l.length + l.countP spB) (l.length + l.countP spB)) (l.length + l.countP spB) (bufR ((l.take i).flatMap qcR) (l.length + l.countP spB))) (fun i => l.length - i) (0) ?_ ?_ ?_
    · exact Sub.cons' rfl (by first | rfl | exact int_eq (by omega) | exact int_eq (by simp) | (simp; done)) (Sub.cons' rfl (by first | rfl | exact int_eq (by omega) | exact int_eq (by simp) | (simp; done)) (Sub.cons' rfl (by first | rfl | exact int_eq (by omega) | exact int_eq (by simp) | (simp; done)) (Sub.cons' rfl (by first | rfl | exact int_eq (by omega) | exact int_eq (by simp) | (simp; done)) (Sub.cons' rfl (by first | rfl | exact int_eq (by omega) | exact int_eq (by simp) | (simp; done)) (Sub.nil)))))
    · exact ⟨by omega, hb, hO⟩
    ·
     rintro i wr hI_133 _ hL_132
     replace hI_133 : i ≤ l.length ∧ Below w.heap.size w wr ∧ wr.ownsRow w.heap.size 5 1 (.slice (some ⟨gb, 0, none⟩) (l.length + l.countP spB) (l.length + l.countP spB)) (l.length + l.countP spB) (bufR ((l.take i).flatMap qcR) (l.length + l.countP spB)) := hI_133
     obtain ⟨hi, hb, hO⟩ := hI_133
     show Wc _ _ _ _ _ [(0, .pointer (some ⟨gg, 0, none⟩)), (1, str l), (12, .slice (some ⟨gb, 0, none⟩) (l.length + l.countP spB) (l.length + l.countP spB)), (13, .int .i64 ((((l.take i).flatMap qcR).length : Nat) : Int)), (14, .int .i64 (i : Int))] _
     have hT := hT_hb.below hb
     try have hzhb_L2 := hb.size
     refine Wc.seq fun _ hK_134 => ?_
     refine Wc.seq fun _ hK_135 => ?_
     refine Wc.region ?_
     refine Wl.y (y_move rfl) rfl ?_
     refine Wl.y (y_move rfl) rfl ?_
     refine Wl.y (y_lens Tryz.underlying9 (by omega) rfl) rfl ?_
     refine Wl.y (y_lssi rfl rfl) rfl ?_
     refine Wl.nil ?_
     refine Wq.next hK_135 ?_
     refine Wc.cond rfl (fun c6_140 => ?_) (fun c6_140 => ?_)
     ·
      have c6_140_ := c6_140
      try simp only [decide_eq_true_eq, decide_eq_false_iff_not, beq_iff_eq, beq_eq_false_iff_ne, bne_iff_ne, bne_eq_false_iff_eq, Bool.not_eq_true', Bool.not_eq_false', Bool.not_eq_eq_eq_not, Bool.not_true, Bool.not_false, ne_eq, Int.not_lt, Int.not_le] at c6_140
      have hil : i < l.length := by omega
      have hfs := congrArg List.length (fl_succ hil)
      rw [List.length_append] at hfs
      have hfl := fl_le l (i + 1)
      have hfe := fl_succ hil
      refine Wc.skip ?_
      refine Wq.next hK_134 ?_
      refine Wc.seq fun _ hK_141 => ?_
      refine Wc.block ?_
      refine Wc.seq fun _ hK_142 => ?_
      refine Wc.region ?_
      refine Wl.y (y_move rfl) rfl ?_
      refine Wl.y (y_move rfl) rfl ?_
      refine Wl.y (y_eq (y_indexs Tryz.underlying9 rfl rfl (by omega) (by omega)) ((show Value.int .u8 ((l.getD (i : Int).toNat 0).toNat : Int) = .int .u8 ((l.getD i 0).toNat : Int) from rfl))) rfl ?_
      refine Wl.y (y_assign rfl) rfl ?_
      refine Wl.nil ?_
      refine Wq.next hK_142 ?_
      refine Wc.seq fun _ hK_147 => ?_
      obtain ⟨B9, n9, k9, hc9, hi9, hy9⟩ := hT.any (l.getD i 0)
      have hk9 := (l.getD i 0).toNat_lt
      refine Wc.region ?_
      refine Wl.y (y_move rfl) rfl ?_
      refine Wl.y (y_move rfl) rfl ?_
      refine Wl.y (y_nilCheck rfl) rfl ?_
      refine Wl.y (y_fieldAddr (fa209_0RepB _) rfl) rfl ?_
      refine Wl.y (y_eq (y_indexAddrA Tryz.underlying207 sz106RepB rfl rfl (by omega) (by omega)) (ptr_at _ _)) rfl ?_
      refine Wl.l (l_load one106RepB rfl (by exact hT.blk.at hc9)) rfl ?_
      refine Wl.y (y_slnn Tryz.underlying106 rfl) rfl ?_
      refine Wl.nil ?_
      refine Wq.next hK_147 ?_
      refine Wc.cond rfl (fun c7_155 => ?_) (fun c7_155 => ?_)
      ·
       have c7_155_ := c7_155
       try simp only [decide_eq_true_eq, decide_eq_false_iff_not, beq_iff_eq, beq_eq_false_iff_ne, bne_iff_ne, bne_eq_false_iff_eq, Bool.not_eq_true', Bool.not_eq_false', Bool.not_eq_eq_eq_not, Bool.not_true, Bool.not_false, ne_eq, Int.not_lt, Int.not_le] at c7_155
       have hsp : spB (l.getD i 0) = true := by rw [hi9] at c7_155; simpa using c7_155
       obtain ⟨rfl, a9, rfl, hr9⟩ := hy9 hsp
       have hq2 : (qcR (l.getD i 0)).length = 2 := by rw [qcR_sp hsp]; rfl
       refine Wc.any (n := 13) (fun w' => Below w.heap.size w w') #[false, false, false, false, false, false, false, false, false, false, false, false, false] (by kernel_rfl) rfl (by kernel_rfl) ?_
       refine Wa.drew ?_
       rintro w_g27 hs_g27
       have hz_g27 := hs_g27.size
       have hb := hb.trans (hs_g27.mono hb.size)
       have hT := hT_hb.below hb
       try have hO := own_below hO hs_g27
       refine Wa.take (i := 0) #[true, false, false, false, false, false, false, false, false, false, false, false, false] rfl (by kernel_rfl) (fun _ _ _ h => h) rfl (fun wq hq => Yl.ld (y_move rfl)) hb ?_
       refine Wa.take (i := 1) #[true, true, false, false, false, false, false, false, false, false, false, false, false] rfl (by kernel_rfl) (fun _ _ _ h => h) rfl (fun wq hq => Yl.ld (y_move rfl)) hb ?_
       refine Wa.take (i := 2) #[true, true, true, false, false, false, false, false, false, false, false, false, false] rfl (by kernel_rfl) (fun _ _ _ h => h) rfl (fun wq hq => Yl.ld (y_move rfl)) hb ?_
       refine Wa.take (i := 3) #[true, true, true, true, false, false, false, false, false, false, false, false, false] rfl (by kernel_rfl) (fun _ _ _ h => h) rfl (fun wq hq => Yl.ld (y_eq (y_slicelL Tryz.underlying106 sz5RepB rfl rfl (by omega) (by omega)) ((sl_eq (g := gb) (n := l.length + l.countP spB) (j := ((l.take i).flatMap qcR).length) (by omega))))) hb ?_
       refine Wa.take (i := 4) #[true, true, true, true, true, false, false, false, false, false, false, false, false] rfl (by kernel_rfl) (fun _ _ _ h => h) rfl (fun wq hq => Yl.ld (y_move rfl)) hb ?_
       refine Wa.take (i := 5) #[true, true, true, true, true, true, false, false, false, false, false, false, false] rfl (by kernel_rfl) (fun _ _ _ h => h) rfl (fun wq hq => Yl.ld (y_move rfl)) hb ?_
       refine Wa.take (i := 6) #[true, true, true, true, true, true, true, false, false, false, false, false, false] rfl (by kernel_rfl) (fun _ _ _ h => h) rfl (fun wq hq => Yl.ld (y_nilCheck rfl)) hb ?_
       refine Wa.take (i := 7) #[true, true, true, true, true, true, true, true, false, false, false, false, false] rfl (by kernel_rfl) (fun _ _ _ h => h) rfl (fun wq hq => Yl.ld (y_fieldAddr (fa209_0RepB _) rfl)) hb ?_
       refine Wa.take (i := 8) #[true, true, true, true, true, true, true, true, true, false, false, false, false] rfl (by kernel_rfl) (fun _ _ _ h => h) rfl (fun wq hq => Yl.ld (y_eq (y_indexAddrA Tryz.underlying207 sz106RepB rfl rfl (by omega) (by omega)) ((ptr_at ⟨gg, 0, none⟩ (l.getD i 0).toNat)))) hb ?_
       refine Wa.take (i := 9) #[true, true, true, true, true, true, true, true, true, true, false, false, false] rfl (by kernel_rfl) (fun _ _ _ h => h) rfl (fun wq hq => l_load one106RepB rfl (by have hT := hT_hb.below hq; exact hT.blk.at hc9)) hb ?_
       refine Wa.some (rs := [10]) (by kernel_rfl) rfl ?_
       refine Ws.cons #[true, true, true, true, true, true, true, true, true, true, true, false, false] rfl rfl (fun _ hK_166 => ?_) ?_
       ·
        have hr9w := hr9.below hs_g27
        refine Wl.copyOwn (g := gb) (o := ((l.take i).flatMap qcR).length) Tryz.underlying106 (by kernel_rfl) rfl rfl hO hr9w (u8s_one _) (by omega) (by omega) rfl ?_
        rintro w2 hO2 hg2
        have hz2 := hg2.size
        have hb := below_blk hb hg2 hb.size (own_ge hO _ rfl).1
        have hO := hO2
        rw [← hq2, buf_copy _ _ _ (by omega), ← hfe] at hO
        refine Wl.nil ?_
        refine Wq.back hK_166 hb ?_
        refine Wa.take (i := 11) #[true, true, true, true, true, true, true, true, true, true, true, true, false] rfl (by kernel_rfl) (fun _ _ _ h => h) rfl (fun wq hq => Yl.ld (y_addI rfl rfl (by first | omega | (simp; done) | (simp; omega)) (by first | omega | (simp; done) | (simp; omega)))) hb ?_
        refine Wa.take (i := 12) #[true, true, true, true, true, true, true, true, true, true, true, true, true] rfl (by kernel_rfl) (fun _ _ _ h => h) rfl (fun wq hq => Yl.ld (y_assign rfl)) hb ?_
        refine Wa.done (by kernel_rfl) ?_
        refine Wq.block_normal ?_
        refine Wq.next hK_141 ?_
        refine Wc.region ?_
        refine Wl.y (y_move rfl) rfl ?_
        refine Wl.y (y_addI rfl rfl (by first | omega | (simp; done) | (simp; omega)) (by first | omega | (simp; done) | (simp; omega))) rfl ?_
        refine Wl.y (y_assign rfl) rfl ?_
        refine Wl.nil ?_
        refine fun a_ ha_ => hL_132 _ _ (i + 1) (by first | omega | (simp; omega)) (Sub.cons' rfl (by first | rfl | exact int_eq (by rw [hfs]; omega)) (Sub.cons' rfl (by first | rfl | exact int_eq (by rw [hfs]; omega)) (Sub.cons' rfl (by first | rfl | exact int_eq (by rw [hfs]; omega)) (Sub.cons' rfl (by first | rfl | exact int_eq (by rw [hfs]; omega)) (Sub.cons' rfl (by first | rfl | exact int_eq (by rw [hfs]; omega)) (Sub.nil)))))) ?_ a_ ha_
        exact ⟨by omega, hb, hO⟩
       exact Ws.nil
      ·
       have c7_155_ := c7_155
       try simp only [decide_eq_true_eq, decide_eq_false_iff_not, beq_iff_eq, beq_eq_false_iff_ne, bne_iff_ne, bne_eq_false_iff_eq, Bool.not_eq_true', Bool.not_eq_false', Bool.not_eq_eq_eq_not, Bool.not_true, Bool.not_false, ne_eq, Int.not_lt, Int.not_le] at c7_155
       have hsp : spB (l.getD i 0) = false := by rw [hi9] at c7_155; simpa using c7_155
       have hq2 : (qcR (l.getD i 0)).length = 1 := by rw [qcR_ns hsp]; rfl
       refine Wc.seq fun _ hK_173 => ?_
       refine Wc.region ?_
       refine Wl.y (y_move rfl) rfl ?_
       refine Wl.y (y_move rfl) rfl ?_
       refine Wl.y (y_move rfl) rfl ?_
       refine Wl.y (y_eq (y_indexAddr Tryz.underlying106 sz5RepB rfl rfl (by omega) (by omega)) (ptr1 _ _)) rfl ?_
       refine Wl.storeOwn oneU8 rfl rfl rfl hO (by unfold bufR; rw [List.length_append, u8s_length, List.length_replicate]; omega) ?_
       rintro w2 hO2 hg2
       have hb := below_blk hb hg2 hb.size (own_ge hO _ rfl).1
       have hO := hO2
       rw [buf_set _ _ _ (by omega), ← qcR_ns hsp, ← hfe] at hO
       refine Wl.nil ?_
       refine Wq.next hK_173 ?_
       refine Wc.region ?_
       refine Wl.y (y_move rfl) rfl ?_
       refine Wl.y (y_addI rfl rfl (by first | omega | (simp; done) | (simp; omega)) (by first | omega | (simp; done) | (simp; omega))) rfl ?_
       refine Wl.y (y_assign rfl) rfl ?_
       refine Wl.nil ?_
       refine Wq.block_normal ?_
       refine Wq.next hK_141 ?_
       refine Wc.region ?_
       refine Wl.y (y_move rfl) rfl ?_
       refine Wl.y (y_addI rfl rfl (by first | omega | (simp; done) | (simp; omega)) (by first | omega | (simp; done) | (simp; omega))) rfl ?_
       refine Wl.y (y_assign rfl) rfl ?_
       refine Wl.nil ?_
       refine fun a_ ha_ => hL_132 _ _ (i + 1) (by first | omega | (simp; omega)) (Sub.cons' rfl (by first | rfl | exact int_eq (by rw [hfs]; omega)) (Sub.cons' rfl (by first | rfl | exact int_eq (by rw [hfs]; omega)) (Sub.cons' rfl (by first | rfl | exact int_eq (by rw [hfs]; omega)) (Sub.cons' rfl (by first | rfl | exact int_eq (by rw [hfs]; omega)) (Sub.cons' rfl (by first | rfl | exact int_eq (by rw [hfs]; omega)) (Sub.nil)))))) ?_ a_ ha_
       exact ⟨by omega, hb, hO⟩
     ·
      have c6_140_ := c6_140
      try simp only [decide_eq_true_eq, decide_eq_false_iff_not, beq_iff_eq, beq_eq_false_iff_ne, bne_iff_ne, bne_eq_false_iff_eq, Bool.not_eq_true', Bool.not_eq_false', Bool.not_eq_eq_eq_not, Bool.not_true, Bool.not_false, ne_eq, Int.not_lt, Int.not_le] at c6_140
      have hie : i = l.length := by omega
      subst hie
      rw [List.take_length] at hO
      have hO' : wr.ownsRow w.heap.size 5 1 (.slice (some ⟨gb, 0, none⟩) (l.length + l.countP spB) (l.length + l.countP spB)) (l.length + l.countP spB) (u8s (l.flatMap qcR)) := by have h0 := hO; unfold bufR at h0; rw [show l.length + l.countP spB - (l.flatMap qcR).length = 0 from by omega, List.replicate_zero, List.append_nil] at h0; exact h0
      refine Wc.exit ?_
      refine Wq.then_exit ?_
      refine Wq.then_exit ?_
      refine Wq.block_exit ?_
      refine Wq.next hK_129 ?_
      refine Wc.seq fun _ hK_184 => ?_
      refine Wc.region ?_
      refine Wl.y (y_move rfl) rfl ?_
      refine Wl.l (l_str Tryz.underlying106 Tryz.underlying5 Tryz.underlying9 rfl (by exact Rd.of_own hO')) rfl ?_
      refine Wl.y (y_assign rfl) rfl ?_
      refine Wl.nil ?_
      refine Wq.next hK_184 ?_
      refine Wc.ret ?_
      refine ret1 rfl rfl ?_
      exact ⟨_, rfl, rfl, hb⟩
