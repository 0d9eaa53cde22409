/- The statements about values, by the calculus: ValueTurned. -/
import Derived.Test.YtijkbinjdgjioaaGreatDoorLawO
namespace Go.Proofs.YtijkbinjdgjioaaGreatDoor
open Go.RowKit Go.Bw Go.Bw.Fl
set_option linter.unusedVariables false
set_option linter.unusedSimpArgs false
theorem fa28_0LawF (p : Addr) (w : World) : (Instr.fieldAt 28 (.pointer (some p)) 0).run Tryz.prog w = .ok (.pointer (some (p.add 0))) w := run_fieldAt (i := 0) (sz := 0) Tryz.underlying28 rfl (by kernel_rfl) p w
theorem fa28_1LawF (p : Addr) (w : World) : (Instr.fieldAt 28 (.pointer (some p)) 1).run Tryz.prog w = .ok (.pointer (some (p.add 1))) w := run_fieldAt (i := 1) (sz := 0) Tryz.underlying28 rfl (by kernel_rfl) p w
theorem one2LawF : One Tryz.prog 2 := ⟨_, Tryz.underlying2, rfl, by kernel_rfl⟩
theorem one3LawF : One Tryz.prog 3 := ⟨_, Tryz.underlying3, rfl, by kernel_rfl⟩
theorem one9LawF : One Tryz.prog 9 := ⟨_, Tryz.underlying9, rfl, by kernel_rfl⟩
theorem sz9LawF : (Tryz.prog.info? 9).map (·.size) = some 1 := by kernel_rfl
theorem txt14LawF : Txt Tryz.prog 14 := ⟨_, Tryz.func14, by kernel_rfl, rfl⟩   -- bridleway/bridlewaylaw02.shown
theorem txt15LawF : Txt Tryz.prog 15 := ⟨_, Tryz.func15, by kernel_rfl, rfl⟩   -- bridleway/bridlewaylaw02.of
theorem txt20LawF : Txt Tryz.prog 20 := ⟨_, Tryz.func20, by kernel_rfl, rfl⟩   -- bridleway/value.Reckon
theorem txt27LawF : Txt Tryz.prog 27 := ⟨_, Tryz.func27, by kernel_rfl, rfl⟩   -- bridleway/value.Same
open Ieee in
theorem sum_comm (a b : Datum) : a.sum b = b.sum a := by
  cases a with
  | nan s t => cases b <;> rfl
  | infinity s =>
    cases b with
    | nan _ _ => rfl
    | infinity t =>
      show (if s = t then some (Datum.infinity s) else none) = (if t = s then some (Datum.infinity t) else none)
      by_cases h : s = t
      · subst h; rfl
      · rw [if_neg h, if_neg (fun e => h e.symm)]
    | number _ _ _ => rfl
  | number s m i =>
    cases b with
    | nan _ _ => rfl
    | infinity t => rfl
    | number t n j =>
      simp only [Datum.sum]
      rw [Int.min_comm j i, Int.add_comm (signed t n (j - min i j).toNat), Bool.and_comm t s]
open Ieee in
theorem product_comm (a b : Datum) : a.product b = b.product a := by
  cases a with
  | nan s t => cases b <;> rfl
  | infinity s =>
    cases b with
    | nan _ _ => rfl
    | infinity t => simp only [Datum.product]; rw [Bool.xor_comm]
    | number _ _ _ => rfl
  | number s m i =>
    cases b with
    | nan _ _ => rfl
    | infinity t => rfl
    | number t n j =>
      simp only [Datum.product]
      rw [Bool.xor_comm, Nat.mul_comm, Int.add_comm]
theorem fadd_comm (m n : Nat) : fop .add m n = fop .add n m := by
  unfold fop; congr 2
  show ((Ieee.double.read m).sum (Ieee.double.read n)).map _ = ((Ieee.double.read n).sum (Ieee.double.read m)).map _
  rw [sum_comm]
theorem fmul_comm (m n : Nat) : fop .mul m n = fop .mul n m := by
  unfold fop; congr 2
  show ((Ieee.double.read m).product (Ieee.double.read n)).map _ = ((Ieee.double.read n).product (Ieee.double.read m)).map _
  rw [product_comm]
def w2 : List (List UInt8) := [[43], [42]]
theorem turned_law {k : Nat} (hk : k < 2) (x y : Val) : reckonV (w2.getD k []) y x = reckonV (w2.getD k []) x y := by
  have he : exactV (w2.getD k []) y.n x.n = exactV (w2.getD k []) x.n y.n := by
    match k, hk with
    | 0, _ => show y.n + x.n = x.n + y.n; exact Int.add_comm _ _
    | 1, _ => show y.n * x.n = x.n * y.n; exact Int.mul_comm _ _
  have hf : floatV (w2.getD k []) (wideV y) (wideV x) = floatV (w2.getD k []) (wideV x) (wideV y) := by
    match k, hk with
    | 0, _ => exact fadd_comm _ _
    | 1, _ => exact fmul_comm _ _
  unfold reckonV
  rw [he, hf]
  generalize arithV (w2.getD k []) = a
  generalize rightV x = b
  generalize rightV y = c
  generalize numV x = d
  generalize numV y = e
  have e1 : (a = false ∨ c = false ∨ b = false) = (a = false ∨ b = false ∨ c = false) := by rw [or_comm (a := c = false)]
  have e2 : (y.k = 0 ∨ x.k = 0) = (x.k = 0 ∨ y.k = 0) := by rw [or_comm]
  have e3 : (e = false ∨ d = false) = (d = false ∨ e = false) := by rw [or_comm]
  have e4 : (y.k = 2 ∧ x.k = 2) = (x.k = 2 ∧ y.k = 2) := by rw [and_comm]
  simp only [e1, e2, e3, e4]
theorem reck_kind (op : List UInt8) (x y : Val) : (reckonV op x y).1.k ≠ 1 := by
  unfold reckonV; repeat' split
  all_goals (intro h; first | exact absurd (show (0 : Int) = 1 from h) (by decide) | exact absurd (show (2 : Int) = 1 from h) (by decide) | exact absurd (show (3 : Int) = 1 from h) (by decide))
theorem minus_law {x y : Val} (h1 : (reckonV [45] x y).2 = 0) (h2 : (reckonV [45] y x).2 = 0) (h3 : (reckonV [45] x y).1.k = 2) : (reckonV [45] x y).1.n + (reckonV [45] y x).1.n = 0 := by
  by_cases hk : x.k = 2 ∧ y.k = 2
  · have e1 : ∀ {a b : Val}, a.k = 2 → b.k = 2 → (reckonV [45] a b).2 = 0 → (reckonV [45] a b).1.n = a.n - b.n := by
      intro a b ha hb h
      unfold reckonV at h ⊢
      by_cases c1 : arithV [45] = false ∨ rightV a = false ∨ rightV b = false
      · rw [if_pos c1] at h; exact absurd (show (1 : Int) = 0 from h) (by decide)
      · rw [if_neg c1, if_neg (by omega)] at h ⊢
        have c2 : ¬ (numV a = false ∨ numV b = false) := by unfold numV; simp [ha, hb]
        rw [if_neg c2, if_pos ⟨ha, hb⟩] at h ⊢
        by_cases c3 : fitsI (exactV [45] a.n b.n) = true
        · rw [if_pos c3]; rfl
        · rw [if_neg c3] at h; exact absurd (show (7 : Int) = 0 from h) (by decide)
    rw [e1 hk.1 hk.2 h1, e1 hk.2 hk.1 h2]; omega
  · exfalso
    unfold reckonV at h3
    rw [if_neg hk] at h3
    repeat' split at h3
    all_goals (first | exact absurd (show (0 : Int) = 2 from h3) (by decide) | exact absurd (show (3 : Int) = 2 from h3) (by decide))
theorem Turned_r (r s : Raw) (o : r.Ok) (o' : s.Ok) (w : World) (hL : Lb w) : Ret Tryz.prog 9 [r.enc, s.enc] w fun v w' => v = .bool true ∧ Below w.heap.size w w' := by
  have hb := Below.refl w.heap.size w
  have hL_hb := hL
  refine enter Tryz.func9 rfl rfl rfl ?_
  refine Wc.seq fun _ hK_1 => ?_
  refine Wc.region ?_
  refine Wl.boxN rfl rfl ?_
  rintro g_o0 w_o0 hg_o0 hn_o0 hs_o0
  have hz_o0 := hs_o0.size
  have hb := hb.trans (hs_o0.mono hb.size)
  have hL := hL_hb.below hb
  have hB_o0 := hn_o0
  have hl_o0 := hB_o0.lt
  refine Wl.boxN rfl rfl ?_
  rintro g_o1 w_o1 hg_o1 hn_o1 hs_o1
  have hz_o1 := hs_o1.size
  have hb := hb.trans (hs_o1.mono hb.size)
  have hL := hL_hb.below hb
  try have hB_o0 := Blk.below hB_o0 hs_o1
  have hB_o1 := hn_o1
  have hl_o1 := hB_o1.lt
  refine Wl.y (y_assign rfl) rfl ?_
  refine Wl.nil ?_
  refine Wq.next hK_1 ?_
  refine Wc.seq fun _ hK_5 => ?_
  refine Wc.region ?_
  refine Wl.call txt14LawF rfl rfl (shown_r _ hL) rfl ?_
  rintro _ w_k0 ⟨rfl, hs_k0⟩
  have hz_k0 := hs_k0.size
  have hb := hb.trans (hs_k0.mono hb.size)
  have hL := hL_hb.below hb
  try have hB_o0 := Blk.below hB_o0 hs_k0
  try have hB_o1 := Blk.below hB_o1 hs_k0
  refine Wl.y (y_assign rfl) rfl ?_
  refine Wl.nil ?_
  refine Wq.next hK_5 ?_
  refine Wc.seq fun _ hK_8 => ?_
  refine Wc.region ?_
  refine Wl.l (l_loadS Tryz.underlying24 (by kernel_rfl) rfl (by first | exact fun j u hu => hB_o0.at hu | exact fun j u hu => hB_o1.at hu | assumption)) rfl ?_
  refine Wl.call txt15LawF rfl rfl (of_r r o _) rfl ?_
  rintro _ w_k1 ⟨rfl, hs_k1⟩
  have hz_k1 := hs_k1.size
  have hb := hb.trans (hs_k1.mono hb.size)
  have hL := hL_hb.below hb
  try have hB_o0 := Blk.below hB_o0 hs_k1
  try have hB_o1 := Blk.below hB_o1 hs_k1
  refine Wl.allocN (z := (.agg #[(.int .i64 0), (.int .i64 0), (.float .f64 0), (str [])])) (by kernel_rfl) rfl ?_
  rintro g_o4 w_o4 hg_o4 hn_o4 hs_o4
  have hz_o4 := hs_o4.size
  have hb := hb.trans (hs_o4.mono hb.size)
  have hL := hL_hb.below hb
  try have hB_o0 := Blk.below hB_o0 hs_o4
  try have hB_o1 := Blk.below hB_o1 hs_o4
  have hB_o4 := hn_o4
  have hl_o4 := hB_o4.lt
  refine Wl.storeS (by kernel_rfl) rfl rfl hB_o4 rfl rfl ?_
  rintro w_s0 hn_s0 hg_s0
  have hz_s0 := hg_s0.size
  have hb := below_blk hb hg_s0 hb.size (by omega)
  have hL := hL_hb.below hb
  try have hB_o0 := hB_o0.over hg_s0 (by omega)
  try have hB_o1 := hB_o1.over hg_s0 (by omega)
  have hB_o4 := hn_s0
  refine Wl.nil ?_
  refine Wq.next hK_8 ?_
  refine Wc.seq fun _ hK_12 => ?_
  refine Wc.region ?_
  refine Wl.l (l_loadS Tryz.underlying24 (by kernel_rfl) rfl (by first | exact fun j u hu => hB_o0.at hu | exact fun j u hu => hB_o1.at hu | exact fun j u hu => hB_o4.at hu | assumption)) rfl ?_
  refine Wl.call txt15LawF rfl rfl (of_r s o' _) rfl ?_
  rintro _ w_k2 ⟨rfl, hs_k2⟩
  have hz_k2 := hs_k2.size
  have hb := hb.trans (hs_k2.mono hb.size)
  have hL := hL_hb.below hb
  try have hB_o4 := Blk.below hB_o4 hs_k2
  refine Wl.allocN (z := (.agg #[(.int .i64 0), (.int .i64 0), (.float .f64 0), (str [])])) (by kernel_rfl) rfl ?_
  rintro g_o5 w_o5 hg_o5 hn_o5 hs_o5
  have hz_o5 := hs_o5.size
  have hb := hb.trans (hs_o5.mono hb.size)
  have hL := hL_hb.below hb
  try have hB_o4 := Blk.below hB_o4 hs_o5
  have hB_o5 := hn_o5
  have hl_o5 := hB_o5.lt
  refine Wl.storeS (by kernel_rfl) rfl rfl hB_o5 rfl rfl ?_
  rintro w_s1 hn_s1 hg_s1
  have hz_s1 := hg_s1.size
  have hb := below_blk hb hg_s1 hb.size (by omega)
  have hL := hL_hb.below hb
  try have hB_o4 := hB_o4.over hg_s1 (by omega)
  have hB_o5 := hn_s1
  refine Wl.nil ?_
  refine Wq.next hK_12 ?_
  refine Wc.seq fun _ hK_16 => ?_
  refine Wc.seq fun _ hK_17 => ?_
  refine Wc.region ?_
  refine Wl.litN (sz := 1) (vs := [_, _]) Tryz.underlying30 (by kernel_rfl) rfl rfl rfl rfl rfl rfl ?_
  rintro g_b0 w_b0 hg_b0 hn_b0 hs_b0
  have hz_b0 := hs_b0.size
  have hb := hb.trans (hs_b0.mono hb.size)
  have hL := hL_hb.below hb
  try have hB_o4 := Blk.below hB_o4 hs_b0
  try have hB_o5 := Blk.below hB_o5 hs_b0
  have hB_b0 := hn_b0
  have hl_b0 := hB_b0.lt
  refine Wl.y (y_lenl Tryz.underlying30 (by omega) rfl) rfl ?_
  refine Wl.y (y_move rfl) rfl ?_
  refine Wl.nil ?_
  refine Wq.next hK_17 ?_
  refine Wc.block ?_
  refine Wc.loop (X := Nat) (fun i => [(5, .bool true), (6, .pointer (some ⟨g_o4, 0, none⟩)), (7, .pointer (some ⟨g_o5, 0, none⟩)), (23, .slice (some ⟨g_b0, 0, none⟩) 2 2), (24, .int .i64 2), (25, .int .i64 (i : Int))]) (fun i wr => i ≤ 2 ∧ Below w.heap.size w wr ∧ Blk wr g_o4 28 r.val.cells ∧ Blk wr g_o5 28 s.val.cells ∧ Blk wr g_b0 9 (w2.map str)) (fun i => 2 - i) (0) ?_ ?_ ?_
  · exact Sub.cons' rfl (by first | rfl | exact int_eq (by omega) | exact int_eq (by simp) | (simp; done)) (Sub.cons' rfl (by first | rfl | exact int_eq (by omega) | exact int_eq (by simp) | (simp; done)) (Sub.cons' rfl (by first | rfl | exact int_eq (by omega) | exact int_eq (by simp) | (simp; done)) (Sub.cons' rfl (by first | rfl | exact int_eq (by omega) | exact int_eq (by simp) | (simp; done)) (Sub.cons' rfl (by first | rfl | exact int_eq (by omega) | exact int_eq (by simp) | (simp; done)) (Sub.cons' rfl (by first | rfl | exact int_eq (by omega) | exact int_eq (by simp) | (simp; done)) (Sub.nil))))))
  · exact ⟨by omega, hb, hB_o4, hB_o5, hB_b0⟩
  ·
   rintro i wr hI_22 _ hL_21
   replace hI_22 : i ≤ 2 ∧ Below w.heap.size w wr ∧ Blk wr g_o4 28 r.val.cells ∧ Blk wr g_o5 28 s.val.cells ∧ Blk wr g_b0 9 (w2.map str) := hI_22
   obtain ⟨hi, hb, hB_o4, hB_o5, hB_b0⟩ := hI_22
   show Wc _ _ _ _ _ [(5, .bool true), (6, .pointer (some ⟨g_o4, 0, none⟩)), (7, .pointer (some ⟨g_o5, 0, none⟩)), (23, .slice (some ⟨g_b0, 0, none⟩) 2 2), (24, .int .i64 2), (25, .int .i64 (i : Int))] _
   have hL := hL_hb.below hb
   try have hzhb_L0 := hb.size
   have hlhB_o4_L0 := hB_o4.lt
   have hlhB_o5_L0 := hB_o5.lt
   have hlhB_b0_L0 := hB_b0.lt
   refine Wc.seq fun _ hK_23 => ?_
   refine Wc.region ?_
   refine Wl.y (y_lssi rfl rfl) rfl ?_
   refine Wl.nil ?_
   refine Wq.next hK_23 ?_
   refine Wc.seq fun _ hK_25 => ?_
   refine Wc.cond rfl (fun c0_26 => ?_) (fun c0_26 => ?_)
   ·
    have c0_26_ := c0_26
    try simp only [decide_eq_true_eq, decide_eq_false_iff_not, beq_iff_eq, beq_eq_false_iff_ne, bne_iff_ne, bne_eq_false_iff_eq, Bool.not_eq_true', Bool.not_eq_false', Bool.not_eq_eq_eq_not, Bool.not_true, Bool.not_false, ne_eq, Int.not_lt, Int.not_le] at c0_26
    refine Wc.skip ?_
    refine Wq.next hK_25 ?_
    refine Wc.seq fun _ hK_27 => ?_
    refine Wc.block ?_
    refine Wc.seq fun _ hK_28 => ?_
    obtain ⟨p, v, hpe, hv, hcell⟩ := (hB_b0.rd 2 1 rfl).one (i := i) (by omega)
    cases hpe
    have hve := strs_at hv
    subst hve
    have hT := turned_law (k := i) (by omega) r.val s.val
    refine Wc.region ?_
    refine Wl.y (y_indexAddr Tryz.underlying30 sz9LawF rfl rfl (by omega) (by omega)) rfl ?_
    refine Wl.l (l_load one9LawF rfl (by exact at1 hcell)) rfl ?_
    refine Wl.y (y_assign rfl) rfl ?_
    refine Wl.nil ?_
    refine Wq.next hK_28 ?_
    refine Wc.seq fun _ hK_32 => ?_
    refine Wc.region ?_
    refine Wl.y (y_move rfl) rfl ?_
    refine Wl.l (l_loadS Tryz.underlying28 (by kernel_rfl) rfl (by first | exact fun j u hu => hB_o4.at hu | exact fun j u hu => hB_o5.at hu | exact fun j u hu => hB_b0.at hu | assumption)) rfl ?_
    refine Wl.l (l_loadS Tryz.underlying28 (by kernel_rfl) rfl (by first | exact fun j u hu => hB_o4.at hu | exact fun j u hu => hB_o5.at hu | exact fun j u hu => hB_b0.at hu | assumption)) rfl ?_
    refine Wl.call txt20LawF rfl rfl (Reckon_r _ _ _ o.val o'.val _) rfl ?_
    rintro _ w_k3 ⟨rfl, hs_k3⟩
    have hz_k3 := hs_k3.size
    have hb := hb.trans (hs_k3.mono hb.size)
    have hL := hL_hb.below hb
    try have hB_o4 := Blk.below hB_o4 hs_k3
    try have hB_o5 := Blk.below hB_o5 hs_k3
    try have hB_b0 := Blk.below hB_b0 hs_k3
    refine Wl.y (y_move rfl) rfl ?_
    refine Wl.y (y_extract rfl rfl) rfl ?_
    refine Wl.y (y_extract rfl rfl) rfl ?_
    refine Wl.allocN (z := (.agg #[(.int .i64 0), (.int .i64 0), (.float .f64 0), (str [])])) (by kernel_rfl) rfl ?_
    rintro g_o13 w_o13 hg_o13 hn_o13 hs_o13
    have hz_o13 := hs_o13.size
    have hb := hb.trans (hs_o13.mono hb.size)
    have hL := hL_hb.below hb
    try have hB_o4 := Blk.below hB_o4 hs_o13
    try have hB_o5 := Blk.below hB_o5 hs_o13
    try have hB_b0 := Blk.below hB_b0 hs_o13
    have hB_o13 := hn_o13
    have hl_o13 := hB_o13.lt
    refine Wl.storeS (by kernel_rfl) rfl rfl hB_o13 rfl rfl ?_
    rintro w_s2 hn_s2 hg_s2
    have hz_s2 := hg_s2.size
    have hb := below_blk hb hg_s2 hb.size (by omega)
    have hL := hL_hb.below hb
    try have hB_o4 := hB_o4.over hg_s2 (by omega)
    try have hB_o5 := hB_o5.over hg_s2 (by omega)
    try have hB_b0 := hB_b0.over hg_s2 (by omega)
    have hB_o13 := hn_s2
    refine Wl.y (y_assign rfl) rfl ?_
    refine Wl.nil ?_
    refine Wq.next hK_32 ?_
    refine Wc.seq fun _ hK_42 => ?_
    refine Wc.region ?_
    refine Wl.y (y_move rfl) rfl ?_
    refine Wl.l (l_loadS Tryz.underlying28 (by kernel_rfl) rfl (by first | exact fun j u hu => hB_o4.at hu | exact fun j u hu => hB_o5.at hu | exact fun j u hu => hB_b0.at hu | exact fun j u hu => hB_o13.at hu | assumption)) rfl ?_
    refine Wl.l (l_loadS Tryz.underlying28 (by kernel_rfl) rfl (by first | exact fun j u hu => hB_o4.at hu | exact fun j u hu => hB_o5.at hu | exact fun j u hu => hB_b0.at hu | exact fun j u hu => hB_o13.at hu | assumption)) rfl ?_
    refine Wl.call txt20LawF rfl rfl (Reckon_r _ _ _ o'.val o.val _) rfl ?_
    rintro _ w_k4 ⟨rfl, hs_k4⟩
    have hz_k4 := hs_k4.size
    have hb := hb.trans (hs_k4.mono hb.size)
    have hL := hL_hb.below hb
    try have hB_o4 := Blk.below hB_o4 hs_k4
    try have hB_o5 := Blk.below hB_o5 hs_k4
    try have hB_b0 := Blk.below hB_b0 hs_k4
    try have hB_o13 := Blk.below hB_o13 hs_k4
    refine Wl.y (y_move rfl) rfl ?_
    refine Wl.y (y_extract rfl rfl) rfl ?_
    refine Wl.y (y_extract rfl rfl) rfl ?_
    refine Wl.allocN (z := (.agg #[(.int .i64 0), (.int .i64 0), (.float .f64 0), (str [])])) (by kernel_rfl) rfl ?_
    rintro g_o19 w_o19 hg_o19 hn_o19 hs_o19
    have hz_o19 := hs_o19.size
    have hb := hb.trans (hs_o19.mono hb.size)
    have hL := hL_hb.below hb
    try have hB_o4 := Blk.below hB_o4 hs_o19
    try have hB_o5 := Blk.below hB_o5 hs_o19
    try have hB_b0 := Blk.below hB_b0 hs_o19
    try have hB_o13 := Blk.below hB_o13 hs_o19
    have hB_o19 := hn_o19
    have hl_o19 := hB_o19.lt
    refine Wl.storeS (by kernel_rfl) rfl rfl hB_o19 rfl rfl ?_
    rintro w_s3 hn_s3 hg_s3
    have hz_s3 := hg_s3.size
    have hb := below_blk hb hg_s3 hb.size (by omega)
    have hL := hL_hb.below hb
    try have hB_o4 := hB_o4.over hg_s3 (by omega)
    try have hB_o5 := hB_o5.over hg_s3 (by omega)
    try have hB_b0 := hB_b0.over hg_s3 (by omega)
    try have hB_o13 := hB_o13.over hg_s3 (by omega)
    have hB_o19 := hn_s3
    refine Wl.y (y_assign rfl) rfl ?_
    refine Wl.nil ?_
    refine Wq.next hK_42 ?_
    refine Wc.seq fun _ hK_52 => ?_
    refine Wc.region ?_
    refine Wl.y (y_move rfl) rfl ?_
    refine Wl.y (y_move rfl) rfl ?_
    refine Wl.y (y_neqi rfl rfl) rfl ?_
    refine Wl.y (y_move rfl) rfl ?_
    refine Wl.guardF rfl rfl rfl (fun g_57 => ?_) (fun g_57 => ?_)
    ·
     have g_57_ := g_57
     try simp only [decide_eq_true_eq, decide_eq_false_iff_not, beq_iff_eq, beq_eq_false_iff_ne, bne_iff_ne, bne_eq_false_iff_eq, Bool.not_eq_true', Bool.not_eq_false', Bool.not_eq_eq_eq_not, Bool.not_true, Bool.not_false, ne_eq, Int.not_lt, Int.not_le] at g_57
     exact absurd g_57_ (by rw [hT]; simp)
    ·
     have g_57_ := g_57
     try simp only [decide_eq_true_eq, decide_eq_false_iff_not, beq_iff_eq, beq_eq_false_iff_ne, bne_iff_ne, bne_eq_false_iff_eq, Bool.not_eq_true', Bool.not_eq_false', Bool.not_eq_eq_eq_not, Bool.not_true, Bool.not_false, ne_eq, Int.not_lt, Int.not_le] at g_57
     refine Wl.l (l_loadS Tryz.underlying28 (by kernel_rfl) rfl (by first | exact fun j u hu => hB_o4.at hu | exact fun j u hu => hB_o5.at hu | exact fun j u hu => hB_b0.at hu | exact fun j u hu => hB_o13.at hu | exact fun j u hu => hB_o19.at hu | assumption)) rfl ?_
     refine Wl.on' rfl rfl g_57_ ?_
     refine Wl.l (l_loadS Tryz.underlying28 (by kernel_rfl) rfl (by first | exact fun j u hu => hB_o4.at hu | exact fun j u hu => hB_o5.at hu | exact fun j u hu => hB_b0.at hu | exact fun j u hu => hB_o13.at hu | exact fun j u hu => hB_o19.at hu | assumption)) rfl ?_
     refine Wl.on' rfl rfl g_57_ ?_
     refine Wl.call txt27LawF rfl rfl (Same_r _ _ (ok_reck _ _ _) (ok_reck _ _ _) _) rfl ?_
     rintro _ w_k5 ⟨rfl, hs_k5⟩
     have hz_k5 := hs_k5.size
     have hb := hb.trans (hs_k5.mono hb.size)
     have hL := hL_hb.below hb
     try have hB_o4 := Blk.below hB_o4 hs_k5
     try have hB_o5 := Blk.below hB_o5 hs_k5
     try have hB_b0 := Blk.below hB_b0 hs_k5
     refine Wl.on' rfl rfl g_57_ ?_
     refine Wl.y (y_not rfl) rfl ?_
     refine Wl.y (y_pickF rfl g_57_ rfl) rfl ?_
     refine Wl.nil ?_
     refine Wq.next hK_52 ?_
     refine Wc.cond rfl (fun c1_63 => ?_) (fun c1_63 => ?_)
     ·
      have c1_63_ := c1_63
      try simp only [decide_eq_true_eq, decide_eq_false_iff_not, beq_iff_eq, beq_eq_false_iff_ne, bne_iff_ne, bne_eq_false_iff_eq, Bool.not_eq_true', Bool.not_eq_false', Bool.not_eq_eq_eq_not, Bool.not_true, Bool.not_false, ne_eq, Int.not_lt, Int.not_le] at c1_63
      exact absurd c1_63_ (by rw [hT, sameV_refl]; simp)
     ·
      have c1_63_ := c1_63
      try simp only [decide_eq_true_eq, decide_eq_false_iff_not, beq_iff_eq, beq_eq_false_iff_ne, bne_iff_ne, bne_eq_false_iff_eq, Bool.not_eq_true', Bool.not_eq_false', Bool.not_eq_eq_eq_not, Bool.not_true, Bool.not_false, ne_eq, Int.not_lt, Int.not_le] at c1_63
      refine Wc.skip ?_
      refine Wq.block_normal ?_
      refine Wq.next hK_27 ?_
      refine Wc.region ?_
      refine Wl.y (y_addI rfl rfl (by first | omega | (simp; done) | (simp; omega)) (by first | omega | (simp; done) | (simp; omega))) rfl ?_
      refine Wl.y (y_move rfl) rfl ?_
      refine Wl.nil ?_
      refine fun a_ ha_ => hL_21 _ _ (i + 1) (by first | omega | (simp; omega)) (Sub.cons' rfl (by first | rfl | exact int_eq (by omega) | exact int_eq (by simp) | (simp; done)) (Sub.cons' rfl (by first | rfl | exact int_eq (by omega) | exact int_eq (by simp) | (simp; done)) (Sub.cons' rfl (by first | rfl | exact int_eq (by omega) | exact int_eq (by simp) | (simp; done)) (Sub.cons' rfl (by first | rfl | exact int_eq (by omega) | exact int_eq (by simp) | (simp; done)) (Sub.cons' rfl (by first | rfl | exact int_eq (by omega) | exact int_eq (by simp) | (simp; done)) (Sub.cons' rfl (by first | rfl | exact int_eq (by omega) | exact int_eq (by simp) | (simp; done)) (Sub.nil))))))) ?_ a_ ha_
      exact ⟨by omega, hb, hB_o4, hB_o5, hB_b0⟩
   ·
    have c0_26_ := c0_26
    try simp only [decide_eq_true_eq, decide_eq_false_iff_not, beq_iff_eq, beq_eq_false_iff_ne, bne_iff_ne, bne_eq_false_iff_eq, Bool.not_eq_true', Bool.not_eq_false', Bool.not_eq_eq_eq_not, Bool.not_true, Bool.not_false, ne_eq, Int.not_lt, Int.not_le] at c0_26
    refine Wc.exit ?_
    refine Wq.then_exit ?_
    refine Wq.then_exit ?_
    refine Wq.block_exit ?_
    refine Wq.next hK_16 ?_
    refine Wc.seq fun _ hK_66 => ?_
    refine Wc.region ?_
    refine Wl.l (l_loadS Tryz.underlying28 (by kernel_rfl) rfl (by first | exact fun j u hu => hB_o4.at hu | exact fun j u hu => hB_o5.at hu | exact fun j u hu => hB_b0.at hu | assumption)) rfl ?_
    refine Wl.l (l_loadS Tryz.underlying28 (by kernel_rfl) rfl (by first | exact fun j u hu => hB_o4.at hu | exact fun j u hu => hB_o5.at hu | exact fun j u hu => hB_b0.at hu | assumption)) rfl ?_
    refine Wl.call txt20LawF rfl rfl (Reckon_r _ _ _ o.val o'.val _) rfl ?_
    rintro _ w_k6 ⟨rfl, hs_k6⟩
    have hz_k6 := hs_k6.size
    have hb := hb.trans (hs_k6.mono hb.size)
    have hL := hL_hb.below hb
    try have hB_o4 := Blk.below hB_o4 hs_k6
    try have hB_o5 := Blk.below hB_o5 hs_k6
    try have hB_b0 := Blk.below hB_b0 hs_k6
    refine Wl.y (y_move rfl) rfl ?_
    refine Wl.y (y_extract rfl rfl) rfl ?_
    refine Wl.y (y_extract rfl rfl) rfl ?_
    refine Wl.allocN (z := (.agg #[(.int .i64 0), (.int .i64 0), (.float .f64 0), (str [])])) (by kernel_rfl) rfl ?_
    rintro g_o33 w_o33 hg_o33 hn_o33 hs_o33
    have hz_o33 := hs_o33.size
    have hb := hb.trans (hs_o33.mono hb.size)
    have hL := hL_hb.below hb
    try have hB_o4 := Blk.below hB_o4 hs_o33
    try have hB_o5 := Blk.below hB_o5 hs_o33
    try have hB_b0 := Blk.below hB_b0 hs_o33
    have hB_o33 := hn_o33
    have hl_o33 := hB_o33.lt
    refine Wl.storeS (by kernel_rfl) rfl rfl hB_o33 rfl rfl ?_
    rintro w_s4 hn_s4 hg_s4
    have hz_s4 := hg_s4.size
    have hb := below_blk hb hg_s4 hb.size (by omega)
    have hL := hL_hb.below hb
    try have hB_o4 := hB_o4.over hg_s4 (by omega)
    try have hB_o5 := hB_o5.over hg_s4 (by omega)
    try have hB_b0 := hB_b0.over hg_s4 (by omega)
    have hB_o33 := hn_s4
    refine Wl.y (y_assign rfl) rfl ?_
    refine Wl.nil ?_
    refine Wq.next hK_66 ?_
    refine Wc.seq fun _ hK_75 => ?_
    refine Wc.region ?_
    refine Wl.l (l_loadS Tryz.underlying28 (by kernel_rfl) rfl (by first | exact fun j u hu => hB_o4.at hu | exact fun j u hu => hB_o5.at hu | exact fun j u hu => hB_b0.at hu | exact fun j u hu => hB_o33.at hu | assumption)) rfl ?_
    refine Wl.l (l_loadS Tryz.underlying28 (by kernel_rfl) rfl (by first | exact fun j u hu => hB_o4.at hu | exact fun j u hu => hB_o5.at hu | exact fun j u hu => hB_b0.at hu | exact fun j u hu => hB_o33.at hu | assumption)) rfl ?_
    refine Wl.call txt20LawF rfl rfl (Reckon_r _ _ _ o'.val o.val _) rfl ?_
    rintro _ w_k7 ⟨rfl, hs_k7⟩
    have hz_k7 := hs_k7.size
    have hb := hb.trans (hs_k7.mono hb.size)
    have hL := hL_hb.below hb
    try have hB_o4 := Blk.below hB_o4 hs_k7
    try have hB_o5 := Blk.below hB_o5 hs_k7
    try have hB_b0 := Blk.below hB_b0 hs_k7
    try have hB_o33 := Blk.below hB_o33 hs_k7
    refine Wl.y (y_move rfl) rfl ?_
    refine Wl.y (y_extract rfl rfl) rfl ?_
    refine Wl.y (y_extract rfl rfl) rfl ?_
    refine Wl.allocN (z := (.agg #[(.int .i64 0), (.int .i64 0), (.float .f64 0), (str [])])) (by kernel_rfl) rfl ?_
    rintro g_o38 w_o38 hg_o38 hn_o38 hs_o38
    have hz_o38 := hs_o38.size
    have hb := hb.trans (hs_o38.mono hb.size)
    have hL := hL_hb.below hb
    try have hB_o4 := Blk.below hB_o4 hs_o38
    try have hB_o5 := Blk.below hB_o5 hs_o38
    try have hB_b0 := Blk.below hB_b0 hs_o38
    try have hB_o33 := Blk.below hB_o33 hs_o38
    have hB_o38 := hn_o38
    have hl_o38 := hB_o38.lt
    refine Wl.storeS (by kernel_rfl) rfl rfl hB_o38 rfl rfl ?_
    rintro w_s5 hn_s5 hg_s5
    have hz_s5 := hg_s5.size
    have hb := below_blk hb hg_s5 hb.size (by omega)
    have hL := hL_hb.below hb
    try have hB_o4 := hB_o4.over hg_s5 (by omega)
    try have hB_o5 := hB_o5.over hg_s5 (by omega)
    try have hB_b0 := hB_b0.over hg_s5 (by omega)
    try have hB_o33 := hB_o33.over hg_s5 (by omega)
    have hB_o38 := hn_s5
    refine Wl.y (y_assign rfl) rfl ?_
    refine Wl.nil ?_
    refine Wq.next hK_75 ?_
    refine Wc.seq fun _ hK_84 => ?_
    refine Wc.seq fun _ hK_85 => ?_
    refine Wc.region ?_
    refine Wl.y (y_move rfl) rfl ?_
    refine Wl.y (y_neqi rfl rfl) rfl ?_
    refine Wl.y (y_move rfl) rfl ?_
    refine Wl.guardF rfl rfl rfl (fun g_89 => ?_) (fun g_89 => ?_)
    ·
     have g_89_ := g_89
     try simp only [decide_eq_true_eq, decide_eq_false_iff_not, beq_iff_eq, beq_eq_false_iff_ne, bne_iff_ne, bne_eq_false_iff_eq, Bool.not_eq_true', Bool.not_eq_false', Bool.not_eq_eq_eq_not, Bool.not_true, Bool.not_false, ne_eq, Int.not_lt, Int.not_le] at g_89
     refine Wl.off' rfl rfl g_89_ rfl rfl ?_
     refine Wl.y (y_pickT rfl g_89_ rfl) rfl ?_
     refine Wl.y (y_move rfl) rfl ?_
     refine Wl.off' rfl rfl rfl rfl rfl ?_
     refine Wl.off' rfl rfl rfl rfl rfl ?_
     refine Wl.off' rfl rfl rfl rfl rfl ?_
     refine Wl.y (y_pickT rfl rfl rfl) rfl ?_
     refine Wl.nil ?_
     refine Wq.next hK_85 ?_
     refine Wc.condT rfl rfl ?_
     refine Wc.seq fun _ hK_93 => ?_
     refine Wc.region ?_
     refine Wl.y (y_move rfl) rfl ?_
     refine Wl.y (y_move rfl) rfl ?_
     refine Wl.guardT rfl rfl rfl (fun g_96 => ?_) (fun g_96 => ?_)
     ·
      have g_96_ := g_96
      try simp only [decide_eq_true_eq, decide_eq_false_iff_not, beq_iff_eq, beq_eq_false_iff_ne, bne_iff_ne, bne_eq_false_iff_eq, Bool.not_eq_true', Bool.not_eq_false', Bool.not_eq_eq_eq_not, Bool.not_true, Bool.not_false, ne_eq, Int.not_lt, Int.not_le] at g_96
      refine Wl.y (y_fieldAddr (fa28_0LawF _) rfl) rfl ?_
      refine Wl.on' rfl rfl g_96_ ?_
      refine Wl.l (l_load one3LawF rfl (by first | exact hB_o4.at rfl | exact hB_o5.at rfl | exact hB_b0.at rfl | exact hB_o33.at rfl | exact hB_o38.at rfl | exact hB_o4.cell 0 | exact hB_o5.cell 0 | exact hB_b0.cell 0 | exact hB_o33.cell 0 | exact hB_o38.cell 0 | assumption)) rfl ?_
      refine Wl.on' rfl rfl g_96_ ?_
      refine Wl.y (y_neqi rfl rfl) rfl ?_
      refine Wl.y (y_pickT rfl g_96_ rfl) rfl ?_
      refine Wl.y (y_assign rfl) rfl ?_
      refine Wl.nil ?_
      refine Wq.next hK_93 ?_
      refine Wc.ret ?_
      refine Wq.then_ret ?_
      refine ret1 rfl rfl ?_
      first | exact ⟨_, rfl, rfl, hb⟩ | exact ⟨_, rfl, bool_eq (by have h := reck_kind [45] s.val r.val; simpa using h), hb⟩ | exact ⟨_, rfl, bool_eq (by rw [minus_law (by have := g_89; omega) (by have := MISSING_o47; omega) (by have := MISSING_c2; omega)]; rfl), hb⟩
     ·
      have g_96_ := g_96
      try simp only [decide_eq_true_eq, decide_eq_false_iff_not, beq_iff_eq, beq_eq_false_iff_ne, bne_iff_ne, bne_eq_false_iff_eq, Bool.not_eq_true', Bool.not_eq_false', Bool.not_eq_eq_eq_not, Bool.not_true, Bool.not_false, ne_eq, Int.not_lt, Int.not_le] at g_96
      exact absurd g_96_ (by decide)
    ·
     have g_89_ := g_89
     try simp only [decide_eq_true_eq, decide_eq_false_iff_not, beq_iff_eq, beq_eq_false_iff_ne, bne_iff_ne, bne_eq_false_iff_eq, Bool.not_eq_true', Bool.not_eq_false', Bool.not_eq_eq_eq_not, Bool.not_true, Bool.not_false, ne_eq, Int.not_lt, Int.not_le] at g_89
     refine Wl.y (y_move rfl) rfl ?_
     refine Wl.on' rfl rfl g_89_ ?_
     refine Wl.y (y_neqi rfl rfl) rfl ?_
     refine Wl.y (y_pickF rfl g_89_ rfl) rfl ?_
     refine Wl.y (y_move rfl) rfl ?_
     refine Wl.guardF rfl rfl rfl (fun g_106 => ?_) (fun g_106 => ?_)
     ·
      have g_106_ := g_106
      try simp only [decide_eq_true_eq, decide_eq_false_iff_not, beq_iff_eq, beq_eq_false_iff_ne, bne_iff_ne, bne_eq_false_iff_eq, Bool.not_eq_true', Bool.not_eq_false', Bool.not_eq_eq_eq_not, Bool.not_true, Bool.not_false, ne_eq, Int.not_lt, Int.not_le] at g_106
      refine Wl.off' rfl rfl g_106_ rfl rfl ?_
      refine Wl.off' rfl rfl g_106_ rfl rfl ?_
      refine Wl.y (y_pickT rfl g_106_ rfl) rfl ?_
      refine Wl.nil ?_
      refine Wq.next hK_85 ?_
      refine Wc.condT rfl rfl ?_
      refine Wc.seq fun _ hK_108 => ?_
      refine Wc.region ?_
      refine Wl.y (y_move rfl) rfl ?_
      refine Wl.y (y_move rfl) rfl ?_
      refine Wl.guardT rfl rfl rfl (fun g_111 => ?_) (fun g_111 => ?_)
      ·
       have g_111_ := g_111
       try simp only [decide_eq_true_eq, decide_eq_false_iff_not, beq_iff_eq, beq_eq_false_iff_ne, bne_iff_ne, bne_eq_false_iff_eq, Bool.not_eq_true', Bool.not_eq_false', Bool.not_eq_eq_eq_not, Bool.not_true, Bool.not_false, ne_eq, Int.not_lt, Int.not_le] at g_111
       refine Wl.y (y_fieldAddr (fa28_0LawF _) rfl) rfl ?_
       refine Wl.on' rfl rfl g_111_ ?_
       refine Wl.l (l_load one3LawF rfl (by first | exact hB_o4.at rfl | exact hB_o5.at rfl | exact hB_b0.at rfl | exact hB_o33.at rfl | exact hB_o38.at rfl | exact hB_o4.cell 0 | exact hB_o5.cell 0 | exact hB_b0.cell 0 | exact hB_o33.cell 0 | exact hB_o38.cell 0 | assumption)) rfl ?_
       refine Wl.on' rfl rfl g_111_ ?_
       refine Wl.y (y_neqi rfl rfl) rfl ?_
       refine Wl.y (y_pickT rfl g_111_ rfl) rfl ?_
       refine Wl.y (y_assign rfl) rfl ?_
       refine Wl.nil ?_
       refine Wq.next hK_108 ?_
       refine Wc.ret ?_
       refine Wq.then_ret ?_
       refine ret1 rfl rfl ?_
       first | exact ⟨_, rfl, rfl, hb⟩ | exact ⟨_, rfl, bool_eq (by have h := reck_kind [45] s.val r.val; simpa using h), hb⟩ | exact ⟨_, rfl, bool_eq (by rw [minus_law (by have := g_89; omega) (by have := g_106; omega) (by have := MISSING_c2; omega)]; rfl), hb⟩
      ·
       have g_111_ := g_111
       try simp only [decide_eq_true_eq, decide_eq_false_iff_not, beq_iff_eq, beq_eq_false_iff_ne, bne_iff_ne, bne_eq_false_iff_eq, Bool.not_eq_true', Bool.not_eq_false', Bool.not_eq_eq_eq_not, Bool.not_true, Bool.not_false, ne_eq, Int.not_lt, Int.not_le] at g_111
       exact absurd g_111_ (by decide)
     ·
      have g_106_ := g_106
      try simp only [decide_eq_true_eq, decide_eq_false_iff_not, beq_iff_eq, beq_eq_false_iff_ne, bne_iff_ne, bne_eq_false_iff_eq, Bool.not_eq_true', Bool.not_eq_false', Bool.not_eq_eq_eq_not, Bool.not_true, Bool.not_false, ne_eq, Int.not_lt, Int.not_le] at g_106
      refine Wl.y (y_fieldAddr (fa28_0LawF _) rfl) rfl ?_
      refine Wl.on' rfl rfl g_106_ ?_
      refine Wl.l (l_load one3LawF rfl (by first | exact hB_o4.at rfl | exact hB_o5.at rfl | exact hB_b0.at rfl | exact hB_o33.at rfl | exact hB_o38.at rfl | exact hB_o4.cell 0 | exact hB_o5.cell 0 | exact hB_b0.cell 0 | exact hB_o33.cell 0 | exact hB_o38.cell 0 | assumption)) rfl ?_
      refine Wl.on' rfl rfl g_106_ ?_
      refine Wl.y (y_neqi rfl rfl) rfl ?_
      refine Wl.y (y_pickF rfl g_106_ rfl) rfl ?_
      refine Wl.nil ?_
      refine Wq.next hK_85 ?_
      refine Wc.cond rfl (fun c2_121 => ?_) (fun c2_121 => ?_)
      ·
       have c2_121_ := c2_121
       try simp only [decide_eq_true_eq, decide_eq_false_iff_not, beq_iff_eq, beq_eq_false_iff_ne, bne_iff_ne, bne_eq_false_iff_eq, Bool.not_eq_true', Bool.not_eq_false', Bool.not_eq_eq_eq_not, Bool.not_true, Bool.not_false, ne_eq, Int.not_lt, Int.not_le] at c2_121
       refine Wc.seq fun _ hK_122 => ?_
       refine Wc.region ?_
       refine Wl.y (y_move rfl) rfl ?_
       refine Wl.y (y_move rfl) rfl ?_
       refine Wl.guardT rfl rfl rfl (fun g_125 => ?_) (fun g_125 => ?_)
       ·
        have g_125_ := g_125
        try simp only [decide_eq_true_eq, decide_eq_false_iff_not, beq_iff_eq, beq_eq_false_iff_ne, bne_iff_ne, bne_eq_false_iff_eq, Bool.not_eq_true', Bool.not_eq_false', Bool.not_eq_eq_eq_not, Bool.not_true, Bool.not_false, ne_eq, Int.not_lt, Int.not_le] at g_125
        refine Wl.y (y_fieldAddr (fa28_0LawF _) rfl) rfl ?_
        refine Wl.on' rfl rfl g_125_ ?_
        refine Wl.l (l_load one3LawF rfl (by first | exact hB_o4.at rfl | exact hB_o5.at rfl | exact hB_b0.at rfl | exact hB_o33.at rfl | exact hB_o38.at rfl | exact hB_o4.cell 0 | exact hB_o5.cell 0 | exact hB_b0.cell 0 | exact hB_o33.cell 0 | exact hB_o38.cell 0 | assumption)) rfl ?_
        refine Wl.on' rfl rfl g_125_ ?_
        refine Wl.y (y_neqi rfl rfl) rfl ?_
        refine Wl.y (y_pickT rfl g_125_ rfl) rfl ?_
        refine Wl.y (y_assign rfl) rfl ?_
        refine Wl.nil ?_
        refine Wq.next hK_122 ?_
        refine Wc.ret ?_
        refine Wq.then_ret ?_
        refine ret1 rfl rfl ?_
        first | exact ⟨_, rfl, rfl, hb⟩ | exact ⟨_, rfl, bool_eq (by have h := reck_kind [45] s.val r.val; simpa using h), hb⟩ | exact ⟨_, rfl, bool_eq (by rw [minus_law (by have := g_89; omega) (by have := g_106; omega) (by have := c2_121; omega)]; rfl), hb⟩
       ·
        have g_125_ := g_125
        try simp only [decide_eq_true_eq, decide_eq_false_iff_not, beq_iff_eq, beq_eq_false_iff_ne, bne_iff_ne, bne_eq_false_iff_eq, Bool.not_eq_true', Bool.not_eq_false', Bool.not_eq_eq_eq_not, Bool.not_true, Bool.not_false, ne_eq, Int.not_lt, Int.not_le] at g_125
        exact absurd g_125_ (by decide)
      ·
       have c2_121_ := c2_121
       try simp only [decide_eq_true_eq, decide_eq_false_iff_not, beq_iff_eq, beq_eq_false_iff_ne, bne_iff_ne, bne_eq_false_iff_eq, Bool.not_eq_true', Bool.not_eq_false', Bool.not_eq_eq_eq_not, Bool.not_true, Bool.not_false, ne_eq, Int.not_lt, Int.not_le] at c2_121
       refine Wc.skip ?_
       refine Wq.next hK_84 ?_
       refine Wc.seq fun _ hK_131 => ?_
       refine Wc.region ?_
       refine Wl.y (y_move rfl) rfl ?_
       refine Wl.y (y_move rfl) rfl ?_
       refine Wl.guardT rfl rfl rfl (fun g_134 => ?_) (fun g_134 => ?_)
       ·
        have g_134_ := g_134
        try simp only [decide_eq_true_eq, decide_eq_false_iff_not, beq_iff_eq, beq_eq_false_iff_ne, bne_iff_ne, bne_eq_false_iff_eq, Bool.not_eq_true', Bool.not_eq_false', Bool.not_eq_eq_eq_not, Bool.not_true, Bool.not_false, ne_eq, Int.not_lt, Int.not_le] at g_134
        refine Wl.y (y_fieldAddr (fa28_1LawF _) rfl) rfl ?_
        refine Wl.on' rfl rfl g_134_ ?_
        refine Wl.l (l_load one2LawF rfl (by first | exact hB_o4.at rfl | exact hB_o5.at rfl | exact hB_b0.at rfl | exact hB_o33.at rfl | exact hB_o38.at rfl | exact hB_o4.cell 0 | exact hB_o5.cell 0 | exact hB_b0.cell 0 | exact hB_o33.cell 0 | exact hB_o38.cell 0 | assumption)) rfl ?_
        refine Wl.on' rfl rfl g_134_ ?_
        refine Wl.y (y_fieldAddr (fa28_1LawF _) rfl) rfl ?_
        refine Wl.on' rfl rfl g_134_ ?_
        refine Wl.l (l_load one2LawF rfl (by first | exact hB_o4.at rfl | exact hB_o5.at rfl | exact hB_b0.at rfl | exact hB_o33.at rfl | exact hB_o38.at rfl | exact hB_o4.cell 0 | exact hB_o5.cell 0 | exact hB_b0.cell 0 | exact hB_o33.cell 0 | exact hB_o38.cell 0 | assumption)) rfl ?_
        refine Wl.on' rfl rfl g_134_ ?_
        refine Wl.y (y_add rfl rfl) rfl ?_
        refine Wl.on' rfl rfl g_134_ ?_
        refine Wl.y (y_eqli rfl rfl) rfl ?_
        refine Wl.y (y_pickT rfl g_134_ rfl) rfl ?_
        refine Wl.y (y_assign rfl) rfl ?_
        refine Wl.nil ?_
        refine Wq.next hK_131 ?_
        refine Wc.ret ?_
        refine ret1 rfl rfl ?_
        first | exact ⟨_, rfl, rfl, hb⟩ | exact ⟨_, rfl, bool_eq (by have h := reck_kind [45] s.val r.val; simpa using h), hb⟩ | exact ⟨_, rfl, bool_eq (by rw [minus_law (by have := g_89; omega) (by have := g_106; omega) (by have := c2_121; omega)]; rfl), hb⟩
       ·
        have g_134_ := g_134
        try simp only [decide_eq_true_eq, decide_eq_false_iff_not, beq_iff_eq, beq_eq_false_iff_ne, bne_iff_ne, bne_eq_false_iff_eq, Bool.not_eq_true', Bool.not_eq_false', Bool.not_eq_eq_eq_not, Bool.not_true, Bool.not_false, ne_eq, Int.not_lt, Int.not_le] at g_134
        exact absurd g_134_ (by decide)
end Go.Proofs.YtijkbinjdgjioaaGreatDoor
