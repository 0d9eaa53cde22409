/- The statements about values, by the calculus: ValueEqual. -/
import Derived.Test.YtijkbinjdgjioaaGreatDoorLawB
namespace Go.Proofs.YtijkbinjdgjioaaGreatDoor
open Go.RowKit Go.Bw Go.Bw.Fl
set_option linter.unusedVariables false
set_option linter.unusedSimpArgs false
theorem fa28_0LawC (p : Addr) (w : World) : (Instr.fieldAt 28 (.pointer (some p)) 0).run Tryz.prog w = .ok (.pointer (some (p.add 0))) w := run_fieldAt (i := 0) (sz := 0) Tryz.underlying28 rfl (by kernel_rfl) p w
theorem fa28_1LawC (p : Addr) (w : World) : (Instr.fieldAt 28 (.pointer (some p)) 1).run Tryz.prog w = .ok (.pointer (some (p.add 1))) w := run_fieldAt (i := 1) (sz := 0) Tryz.underlying28 rfl (by kernel_rfl) p w
theorem fa28_2LawC (p : Addr) (w : World) : (Instr.fieldAt 28 (.pointer (some p)) 2).run Tryz.prog w = .ok (.pointer (some (p.add 2))) w := run_fieldAt (i := 2) (sz := 0) Tryz.underlying28 rfl (by kernel_rfl) p w
theorem one2LawC : One Tryz.prog 2 := ⟨_, Tryz.underlying2, rfl, by kernel_rfl⟩
theorem one26LawC : One Tryz.prog 26 := ⟨_, Tryz.underlying26, rfl, by kernel_rfl⟩
theorem one3LawC : One Tryz.prog 3 := ⟨_, Tryz.underlying3, rfl, by kernel_rfl⟩
theorem txt14LawC : Txt Tryz.prog 14 := ⟨_, Tryz.func14, by kernel_rfl, rfl⟩   -- bridleway/bridlewaylaw02.shown
theorem txt15LawC : Txt Tryz.prog 15 := ⟨_, Tryz.func15, by kernel_rfl, rfl⟩   -- bridleway/bridlewaylaw02.of
theorem txt17LawC : Txt Tryz.prog 17 := ⟨_, Tryz.func17, by kernel_rfl, rfl⟩   -- bridleway/value.Test
theorem txt22LawC : Txt Tryz.prog 22 := ⟨_, Tryz.func22, by kernel_rfl, rfl⟩   -- bridleway/value.Right
theorem txt27LawC : Txt Tryz.prog 27 := ⟨_, Tryz.func27, by kernel_rfl, rfl⟩   -- bridleway/value.Same
theorem txt28LawC : Txt Tryz.prog 28 := ⟨_, Tryz.func28, by kernel_rfl, rfl⟩   -- bridleway/bridlewayref02.Right
theorem txt29LawC : Txt Tryz.prog 29 := ⟨_, Tryz.func29, by kernel_rfl, rfl⟩   -- bridleway/value.Less
theorem testP {op : List UInt8} {x y p : Val} {q : Int} (h : testV op x y = (p, q)) (ox : x.Ok) (oy : y.Ok) (w : World) : Ret Tryz.prog 17 [str op, x.enc, y.enc] w fun v w' => v = .tuple #[p.enc, .int .i64 q] ∧ Below w.heap.size w w' := by
  have := Test_r op x y ox oy w
  rw [h] at this; exact this
theorem reckP {op : List UInt8} {x y p : Val} {q : Int} (h : reckonV op x y = (p, q)) (ox : x.Ok) (oy : y.Ok) (w : World) : Ret Tryz.prog 20 [str op, x.enc, y.enc] w fun v w' => v = .tuple #[p.enc, .int .i64 q] ∧ Below w.heap.size w w' := by
  have := Reckon_r op x y ox oy w
  rw [h] at this; exact this
theorem kinds_of {x : Val} (h : rightV x = true) : x.k = 0 ∨ x.k = 1 ∨ x.k = 2 ∨ x.k = 3 ∨ x.k = 4 := by
  unfold rightV at h
  by_cases h0 : x.k = 0
  · exact .inl h0
  by_cases h1 : x.k = 1
  · exact .inr (.inl h1)
  by_cases h2 : x.k = 2
  · exact .inr (.inr (.inl h2))
  by_cases h3 : x.k = 3
  · exact .inr (.inr (.inr (.inl h3)))
  by_cases h4 : x.k = 4
  · exact .inr (.inr (.inr (.inr h4)))
  rw [if_neg h0, if_neg h1, if_neg h2, if_neg h3, if_neg h4] at h; cases h
theorem right_12 {x : Val} (h : rightV x = true) (hk : x.k = 1 ∨ x.k = 2) : x.f = 0 ∧ x.s = [] := by
  rcases hk with hk | hk
  · rw [right1 hk, decide_eq_true_eq] at h; exact h.2
  · rw [right2 hk, decide_eq_true_eq] at h; exact h
theorem right_3 {x : Val} (h : rightV x = true) (hk : x.k = 3) : x.n = 0 ∧ x.s = [] ∧ canon x.f = x.f := by rw [right3 hk, decide_eq_true_eq] at h; exact h
theorem right_4 {x : Val} (h : rightV x = true) (hk : x.k = 4) : x.n = 0 ∧ x.f = 0 := by rw [right4 hk, decide_eq_true_eq] at h; exact h
theorem right_0 {x : Val} (h : rightV x = true) (hk : x.k = 0) : x.n = 0 ∧ x.f = 0 ∧ x.s = [] := by rw [right0 hk, decide_eq_true_eq] at h; exact h
theorem test_known {op : List UInt8} {x y : Val} (ho : (holdsV op 0).isNone = false) (hx : rightV x = true) (hy : rightV y = true) (h0 : ¬ (x.k = 0 ∨ y.k = 0)) (hk : ¬ (x.k ≠ y.k ∧ (numV x = false ∨ numV y = false))) (hn : knownV x y = true) : testV op x y = (truthV ((holdsV op (againstV x y)).getD false), 0) := by
  unfold testV; rw [if_neg (by rw [ho, hx, hy]; simp), if_neg h0, if_neg hk, if_neg (by rw [hn]; simp)]
theorem know_same {x y : Val} (hk : x.k = y.k) (nx : isNan x.f = false) (ny : isNan y.f = false) : knownV x y = true := by
  unfold knownV; rw [if_neg (by omega), if_neg (by omega), nx, ny]; simp
theorem against_same {x y : Val} (ox : x.Ok) (oy : y.Ok) (hx : rightV x = true) (hy : rightV y = true) (hk : x.k = y.k) (h0 : ¬ x.k = 0) (nx : isNan x.f = false) (ny : isNan y.f = false) :
    (againstV x y = 0 ↔ (sameV x y = true ∨ (x.k = 3 ∧ rung x.f = 0 ∧ rung y.f = 0))) ∧ (againstV x y < 0 ↔ (lessV x y = true ∧ ¬ (x.k = 3 ∧ rung x.f = 0 ∧ rung y.f = 0))) := by
  rw [sameV_iff, lessV_iff]
  rcases kinds_of hx with h | h | h | h | h
  · exact absurd h h0
  · obtain ⟨a1, a2⟩ := right_12 hx (.inl h)
    obtain ⟨b1, b2⟩ := right_12 hy (.inl (by omega))
    rw [(lessV_ii (by omega) (by omega) (by omega)).2, cmpI_zero, cmpI_lt, a1, b1, a2, b2, bl_nil, h, ← hk, h]; simp
  · obtain ⟨a1, a2⟩ := right_12 hx (.inr h)
    obtain ⟨b1, b2⟩ := right_12 hy (.inr (by omega))
    rw [(lessV_ii (by omega) (by omega) (by omega)).2, cmpI_zero, cmpI_lt, a1, b1, a2, b2, bl_nil, h, ← hk, h]; simp
  · obtain ⟨a1, a2, _⟩ := right_3 hx h
    obtain ⟨b1, b2, _⟩ := right_3 hy (by omega)
    obtain ⟨f1, f2⟩ := float_less nx ny ox.f1 oy.f1
    rw [(lessV_ff (by omega) h).2, f1, f2, cmpI_lt, cmpK_zero, a1, b1, a2, b2, bl_nil, h, ← hk, h]
    have e : ((keyW x.f : Nat) : Int) < (keyW y.f : Nat) ↔ keyW x.f < keyW y.f := by omega
    rw [e]; simp
  · obtain ⟨a1, a2⟩ := right_4 hx h
    obtain ⟨b1, b2⟩ := right_4 hy (by omega)
    rw [(lessV_text h).2, cmpS_zero, cmpS_lt, a1, b1, a2, b2, h, ← hk, h]; simp
def zeroV (x y : Val) : Bool := decide (x.k = 3 ∧ rung x.f = 0 ∧ rung y.f = 0)
theorem equal_law {x y : Val} (ox : x.Ok) (oy : y.Ok) (hx : rightV x = true) (hy : rightV y = true) (hk : x.k = y.k) (h0 : ¬ x.k = 0) (nx : isNan x.f = false) (ny : isNan y.f = false) :
    testV [61] x y = (truthV (sameV x y || zeroV x y), 0) ∧ testV [60] x y = (truthV (lessV x y && !zeroV x y), 0) := by
  obtain ⟨h1, h2⟩ := against_same ox oy hx hy hk h0 nx ny
  have hn := know_same hk nx ny
  rw [test_known rfl hx hy (by omega) (by omega) hn, test_known rfl hx hy (by omega) (by omega) hn]
  constructor
  · rw [show (holdsV [61] (againstV x y)).getD false = (againstV x y == 0) from rfl, beqI]
    rw [show decide (againstV x y = 0) = (sameV x y || zeroV x y) by rw [Bool.eq_iff_iff, decide_eq_true_eq, h1]; unfold zeroV; simp]
  · rw [show (holdsV [60] (againstV x y)).getD false = decide (againstV x y < 0) from rfl]
    rw [show decide (againstV x y < 0) = (lessV x y && !zeroV x y) by
      rw [Bool.eq_iff_iff, decide_eq_true_eq, h2]; unfold zeroV
      rw [Bool.and_eq_true, Bool.not_eq_true', decide_eq_false_iff_not]]
theorem truth_n (t : Bool) : ((truthV t).n == 1) = t := by cases t <;> rfl
theorem truth_right (t : Bool) : rightV (truthV t) = true := by cases t <;> rfl
theorem okT (t : Bool) : (truthV t).Ok := by cases t <;> exact ⟨by decide, by decide, by decide⟩
def skipV (x y : Val) : Bool := !rightV x || (!rightV y || (!decide (x.k = y.k) || (decide (x.k = 0) || (isNan x.f || isNan y.f))))
set_option maxHeartbeats 1000000 in
theorem Equal_r (r s : Raw) (o : r.Ok) (o' : s.Ok) (w : World) (hL : Lb w) : Ret Tryz.prog 13 [r.enc, s.enc] w fun v w' => v = .bool true ∧ Below w.heap.size w w' := by
  have hb := Below.refl w.heap.size w
  have hL_hb := hL
  refine enter Tryz.func13 rfl rfl rfl ?_
  refine Wc.seq fun _ hK_1 => ?_
  refine Wc.region ?_
  refine Wl.boxN rfl rfl ?_
  rintro g_o0 w_o0 hg_o0 hn_o0 hs_o0
  have hz_o0 := hs_o0.size
  have hb := hb.trans (hs_o0.mono hb.size)
  have hL := hL_hb.below hb
  have hB_o0 := hn_o0
  have hl_o0 := hB_o0.lt
  refine Wl.boxN rfl rfl ?_
  rintro g_o1 w_o1 hg_o1 hn_o1 hs_o1
  have hz_o1 := hs_o1.size
  have hb := hb.trans (hs_o1.mono hb.size)
  have hL := hL_hb.below hb
  try have hB_o0 := Blk.below hB_o0 hs_o1
  have hB_o1 := hn_o1
  have hl_o1 := hB_o1.lt
  refine Wl.y (y_assign rfl) rfl ?_
  refine Wl.nil ?_
  refine Wq.next hK_1 ?_
  refine Wc.seq fun _ hK_5 => ?_
  refine Wc.region ?_
  refine Wl.call txt14LawC rfl rfl (shown_r _ hL) rfl ?_
  rintro _ w_k0 ⟨rfl, hs_k0⟩
  have hz_k0 := hs_k0.size
  have hb := hb.trans (hs_k0.mono hb.size)
  have hL := hL_hb.below hb
  try have hB_o0 := Blk.below hB_o0 hs_k0
  try have hB_o1 := Blk.below hB_o1 hs_k0
  refine Wl.y (y_assign rfl) rfl ?_
  refine Wl.nil ?_
  refine Wq.next hK_5 ?_
  refine Wc.seq fun _ hK_8 => ?_
  refine Wc.region ?_
  refine Wl.l (l_loadS Tryz.underlying24 (by kernel_rfl) rfl (by first | exact fun j u hu => hB_o0.at hu | exact fun j u hu => hB_o1.at hu | assumption)) rfl ?_
  refine Wl.call txt15LawC rfl rfl (of_r r o _) rfl ?_
  rintro _ w_k1 ⟨rfl, hs_k1⟩
  have hz_k1 := hs_k1.size
  have hb := hb.trans (hs_k1.mono hb.size)
  have hL := hL_hb.below hb
  try have hB_o0 := Blk.below hB_o0 hs_k1
  try have hB_o1 := Blk.below hB_o1 hs_k1
  refine Wl.allocN (z := (.agg #[(.int .i64 0), (.int .i64 0), (.float .f64 0), (str [])])) (by kernel_rfl) rfl ?_
  rintro g_o4 w_o4 hg_o4 hn_o4 hs_o4
  have hz_o4 := hs_o4.size
  have hb := hb.trans (hs_o4.mono hb.size)
  have hL := hL_hb.below hb
  try have hB_o0 := Blk.below hB_o0 hs_o4
  try have hB_o1 := Blk.below hB_o1 hs_o4
  have hB_o4 := hn_o4
  have hl_o4 := hB_o4.lt
  refine Wl.storeS (by kernel_rfl) rfl rfl hB_o4 rfl rfl ?_
  rintro w_s0 hn_s0 hg_s0
  have hz_s0 := hg_s0.size
  have hb := below_blk hb hg_s0 hb.size (by omega)
  have hL := hL_hb.below hb
  try have hB_o0 := hB_o0.over hg_s0 (by omega)
  try have hB_o1 := hB_o1.over hg_s0 (by omega)
  have hB_o4 := hn_s0
  refine Wl.nil ?_
  refine Wq.next hK_8 ?_
  refine Wc.seq fun _ hK_12 => ?_
  refine Wc.region ?_
  refine Wl.l (l_loadS Tryz.underlying24 (by kernel_rfl) rfl (by first | exact fun j u hu => hB_o0.at hu | exact fun j u hu => hB_o1.at hu | exact fun j u hu => hB_o4.at hu | assumption)) rfl ?_
  refine Wl.call txt15LawC rfl rfl (of_r s o' _) rfl ?_
  rintro _ w_k2 ⟨rfl, hs_k2⟩
  have hz_k2 := hs_k2.size
  have hb := hb.trans (hs_k2.mono hb.size)
  have hL := hL_hb.below hb
  try have hB_o0 := Blk.below hB_o0 hs_k2
  try have hB_o1 := Blk.below hB_o1 hs_k2
  try have hB_o4 := Blk.below hB_o4 hs_k2
  refine Wl.allocN (z := (.agg #[(.int .i64 0), (.int .i64 0), (.float .f64 0), (str [])])) (by kernel_rfl) rfl ?_
  rintro g_o5 w_o5 hg_o5 hn_o5 hs_o5
  have hz_o5 := hs_o5.size
  have hb := hb.trans (hs_o5.mono hb.size)
  have hL := hL_hb.below hb
  try have hB_o0 := Blk.below hB_o0 hs_o5
  try have hB_o1 := Blk.below hB_o1 hs_o5
  try have hB_o4 := Blk.below hB_o4 hs_o5
  have hB_o5 := hn_o5
  have hl_o5 := hB_o5.lt
  refine Wl.storeS (by kernel_rfl) rfl rfl hB_o5 rfl rfl ?_
  rintro w_s1 hn_s1 hg_s1
  have hz_s1 := hg_s1.size
  have hb := below_blk hb hg_s1 hb.size (by omega)
  have hL := hL_hb.below hb
  try have hB_o0 := hB_o0.over hg_s1 (by omega)
  try have hB_o1 := hB_o1.over hg_s1 (by omega)
  try have hB_o4 := hB_o4.over hg_s1 (by omega)
  have hB_o5 := hn_s1
  refine Wl.nil ?_
  refine Wq.next hK_12 ?_
  refine Wc.seq fun _ hK_16 => ?_
  refine Wc.seq fun _ hK_17 => ?_
  refine Wc.meet (X := Unit) (fun u_ => [(5, .bool true), (6, .pointer (some ⟨g_o4, 0, none⟩)), (7, .pointer (some ⟨g_o5, 0, none⟩)), (51, .bool (skipV r.val s.val))]) (fun u_ wr => Below w.heap.size w wr ∧ Blk wr g_o4 28 r.val.cells ∧ Blk wr g_o5 28 s.val.cells) (fun _ hM_18 => ?_) ?_
  ·
   refine Wc.region ?_
   refine Wl.l (l_loadS Tryz.underlying28 (by kernel_rfl) rfl (by first | exact fun j u hu => hB_o0.at hu | exact fun j u hu => hB_o1.at hu | exact fun j u hu => hB_o4.at hu | exact fun j u hu => hB_o5.at hu | assumption)) rfl ?_
   refine Wl.call txt22LawC rfl rfl (Right_r _ o.val _) rfl ?_
   rintro _ w_k3 ⟨rfl, hs_k3⟩
   have hz_k3 := hs_k3.size
   have hb := hb.trans (hs_k3.mono hb.size)
   have hL := hL_hb.below hb
   try have hB_o0 := Blk.below hB_o0 hs_k3
   try have hB_o1 := Blk.below hB_o1 hs_k3
   try have hB_o4 := Blk.below hB_o4 hs_k3
   try have hB_o5 := Blk.below hB_o5 hs_k3
   refine Wl.y (y_not rfl) rfl ?_
   refine Wl.y (y_move rfl) rfl ?_
   refine Wl.guardF rfl rfl rfl (fun g_23 => ?_) (fun g_23 => ?_)
   ·
    have g_23_ := g_23
    refine Wl.off' rfl rfl g_23_ rfl rfl ?_
    refine Wl.off' rfl rfl g_23_ rfl rfl ?_
    refine Wl.y (y_pickT rfl g_23_ rfl) rfl ?_
    refine Wl.y (y_move rfl) rfl ?_
    refine Wl.off' rfl rfl rfl rfl rfl ?_
    refine Wl.off' rfl rfl rfl rfl rfl ?_
    refine Wl.off' rfl rfl rfl rfl rfl ?_
    refine Wl.off' rfl rfl rfl rfl rfl ?_
    refine Wl.off' rfl rfl rfl rfl rfl ?_
    refine Wl.y (y_pickT rfl rfl rfl) rfl ?_
    refine Wl.y (y_move rfl) rfl ?_
    refine Wl.off' rfl rfl rfl rfl rfl ?_
    refine Wl.off' rfl rfl rfl rfl rfl ?_
    refine Wl.off' rfl rfl rfl rfl rfl ?_
    refine Wl.y (y_pickT rfl rfl rfl) rfl ?_
    refine Wl.y (y_move rfl) rfl ?_
    refine Wl.off' rfl rfl rfl rfl rfl ?_
    refine Wl.off' rfl rfl rfl rfl rfl ?_
    refine Wl.off' rfl rfl rfl rfl rfl ?_
    refine Wl.off' rfl rfl rfl rfl rfl ?_
    refine Wl.off' rfl rfl rfl rfl rfl ?_
    refine Wl.y (y_pickT rfl rfl rfl) rfl ?_
    refine Wl.y (y_move rfl) rfl ?_
    refine Wl.off' rfl rfl rfl rfl rfl ?_
    refine Wl.off' rfl rfl rfl rfl rfl ?_
    refine Wl.off' rfl rfl rfl rfl rfl ?_
    refine Wl.off' rfl rfl rfl rfl rfl ?_
    refine Wl.off' rfl rfl rfl rfl rfl ?_
    refine Wl.y (y_pickT rfl rfl rfl) rfl ?_
    refine Wl.nil ?_
    refine Wq.meet hM_18 (()) (Sub.cons' rfl (by first | rfl | exact bool_eq (by unfold skipV; simp_all)) (Sub.cons' rfl (by first | rfl | exact bool_eq (by unfold skipV; simp_all)) (Sub.cons' rfl (by first | rfl | exact bool_eq (by unfold skipV; simp_all)) (Sub.cons' rfl (by first | rfl | exact bool_eq (by unfold skipV; simp_all)) (Sub.nil))))) ?_
    exact ⟨hb, hB_o4, hB_o5⟩
   ·
    have g_23_ := g_23
    refine Wl.l (l_loadS Tryz.underlying28 (by kernel_rfl) rfl (by first | exact fun j u hu => hB_o0.at hu | exact fun j u hu => hB_o1.at hu | exact fun j u hu => hB_o4.at hu | exact fun j u hu => hB_o5.at hu | assumption)) rfl ?_
    refine Wl.on' rfl rfl g_23_ ?_
    refine Wl.call txt22LawC rfl rfl (Right_r _ o'.val _) rfl ?_
    rintro _ w_k4 ⟨rfl, hs_k4⟩
    have hz_k4 := hs_k4.size
    have hb := hb.trans (hs_k4.mono hb.size)
    have hL := hL_hb.below hb
    try have hB_o0 := Blk.below hB_o0 hs_k4
    try have hB_o1 := Blk.below hB_o1 hs_k4
    try have hB_o4 := Blk.below hB_o4 hs_k4
    try have hB_o5 := Blk.below hB_o5 hs_k4
    refine Wl.on' rfl rfl g_23_ ?_
    refine Wl.y (y_not rfl) rfl ?_
    refine Wl.y (y_pickF rfl g_23_ rfl) rfl ?_
    refine Wl.y (y_move rfl) rfl ?_
    refine Wl.guardF rfl rfl rfl (fun g_38 => ?_) (fun g_38 => ?_)
    ·
     have g_38_ := g_38
     refine Wl.off' rfl rfl g_38_ rfl rfl ?_
     refine Wl.off' rfl rfl g_38_ rfl rfl ?_
     refine Wl.off' rfl rfl g_38_ rfl rfl ?_
     refine Wl.off' rfl rfl g_38_ rfl rfl ?_
     refine Wl.y (y_pickT rfl g_38_ rfl) rfl ?_
     refine Wl.y (y_move rfl) rfl ?_
     refine Wl.off' rfl rfl rfl rfl rfl ?_
     refine Wl.off' rfl rfl rfl rfl rfl ?_
     refine Wl.off' rfl rfl rfl rfl rfl ?_
     refine Wl.y (y_pickT rfl rfl rfl) rfl ?_
     refine Wl.y (y_move rfl) rfl ?_
     refine Wl.off' rfl rfl rfl rfl rfl ?_
     refine Wl.off' rfl rfl rfl rfl rfl ?_
     refine Wl.off' rfl rfl rfl rfl rfl ?_
     refine Wl.off' rfl rfl rfl rfl rfl ?_
     refine Wl.off' rfl rfl rfl rfl rfl ?_
     refine Wl.y (y_pickT rfl rfl rfl) rfl ?_
     refine Wl.y (y_move rfl) rfl ?_
     refine Wl.off' rfl rfl rfl rfl rfl ?_
     refine Wl.off' rfl rfl rfl rfl rfl ?_
     refine Wl.off' rfl rfl rfl rfl rfl ?_
     refine Wl.off' rfl rfl rfl rfl rfl ?_
     refine Wl.off' rfl rfl rfl rfl rfl ?_
     refine Wl.y (y_pickT rfl rfl rfl) rfl ?_
     refine Wl.nil ?_
     refine Wq.meet hM_18 (()) (Sub.cons' rfl (by first | rfl | exact bool_eq (by unfold skipV; simp_all)) (Sub.cons' rfl (by first | rfl | exact bool_eq (by unfold skipV; simp_all)) (Sub.cons' rfl (by first | rfl | exact bool_eq (by unfold skipV; simp_all)) (Sub.cons' rfl (by first | rfl | exact bool_eq (by unfold skipV; simp_all)) (Sub.nil))))) ?_
     exact ⟨hb, hB_o4, hB_o5⟩
    ·
     have g_38_ := g_38
     refine Wl.y (y_fieldAddr (fa28_0LawC _) rfl) rfl ?_
     refine Wl.on' rfl rfl g_38_ ?_
     refine Wl.l (l_load one3LawC rfl (by first | exact hB_o0.at rfl | exact hB_o1.at rfl | exact hB_o4.at rfl | exact hB_o5.at rfl | exact hB_o0.cell 0 | exact hB_o1.cell 0 | exact hB_o4.cell 0 | exact hB_o5.cell 0 | assumption)) rfl ?_
     refine Wl.on' rfl rfl g_38_ ?_
     refine Wl.y (y_fieldAddr (fa28_0LawC _) rfl) rfl ?_
     refine Wl.on' rfl rfl g_38_ ?_
     refine Wl.l (l_load one3LawC rfl (by first | exact hB_o0.at rfl | exact hB_o1.at rfl | exact hB_o4.at rfl | exact hB_o5.at rfl | exact hB_o0.cell 0 | exact hB_o1.cell 0 | exact hB_o4.cell 0 | exact hB_o5.cell 0 | assumption)) rfl ?_
     refine Wl.on' rfl rfl g_38_ ?_
     refine Wl.y (y_neqi rfl rfl) rfl ?_
     refine Wl.y (y_pickF rfl g_38_ rfl) rfl ?_
     refine Wl.y (y_move rfl) rfl ?_
     refine Wl.guardF rfl rfl rfl (fun g_53 => ?_) (fun g_53 => ?_)
     ·
      have g_53_ := g_53
      refine Wl.off' rfl rfl g_53_ rfl rfl ?_
      refine Wl.off' rfl rfl g_53_ rfl rfl ?_
      refine Wl.y (y_pickT rfl g_53_ rfl) rfl ?_
      refine Wl.y (y_move rfl) rfl ?_
      refine Wl.off' rfl rfl rfl rfl rfl ?_
      refine Wl.off' rfl rfl rfl rfl rfl ?_
      refine Wl.off' rfl rfl rfl rfl rfl ?_
      refine Wl.off' rfl rfl rfl rfl rfl ?_
      refine Wl.off' rfl rfl rfl rfl rfl ?_
      refine Wl.y (y_pickT rfl rfl rfl) rfl ?_
      refine Wl.y (y_move rfl) rfl ?_
      refine Wl.off' rfl rfl rfl rfl rfl ?_
      refine Wl.off' rfl rfl rfl rfl rfl ?_
      refine Wl.off' rfl rfl rfl rfl rfl ?_
      refine Wl.off' rfl rfl rfl rfl rfl ?_
      refine Wl.off' rfl rfl rfl rfl rfl ?_
      refine Wl.y (y_pickT rfl rfl rfl) rfl ?_
      refine Wl.nil ?_
      refine Wq.meet hM_18 (()) (Sub.cons' rfl (by first | rfl | exact bool_eq (by unfold skipV; simp_all)) (Sub.cons' rfl (by first | rfl | exact bool_eq (by unfold skipV; simp_all)) (Sub.cons' rfl (by first | rfl | exact bool_eq (by unfold skipV; simp_all)) (Sub.cons' rfl (by first | rfl | exact bool_eq (by unfold skipV; simp_all)) (Sub.nil))))) ?_
      exact ⟨hb, hB_o4, hB_o5⟩
     ·
      have g_53_ := g_53
      refine Wl.y (y_fieldAddr (fa28_0LawC _) rfl) rfl ?_
      refine Wl.on' rfl rfl g_53_ ?_
      refine Wl.l (l_load one3LawC rfl (by first | exact hB_o0.at rfl | exact hB_o1.at rfl | exact hB_o4.at rfl | exact hB_o5.at rfl | exact hB_o0.cell 0 | exact hB_o1.cell 0 | exact hB_o4.cell 0 | exact hB_o5.cell 0 | assumption)) rfl ?_
      refine Wl.on' rfl rfl g_53_ ?_
      refine Wl.y (y_eqli rfl rfl) rfl ?_
      refine Wl.y (y_pickF rfl g_53_ rfl) rfl ?_
      refine Wl.y (y_move rfl) rfl ?_
      refine Wl.guardF rfl rfl rfl (fun g_64 => ?_) (fun g_64 => ?_)
      ·
       have g_64_ := g_64
       refine Wl.off' rfl rfl g_64_ rfl rfl ?_
       refine Wl.off' rfl rfl g_64_ rfl rfl ?_
       refine Wl.off' rfl rfl g_64_ rfl rfl ?_
       refine Wl.off' rfl rfl g_64_ rfl rfl ?_
       refine Wl.y (y_pickT rfl g_64_ rfl) rfl ?_
       refine Wl.y (y_move rfl) rfl ?_
       refine Wl.off' rfl rfl rfl rfl rfl ?_
       refine Wl.off' rfl rfl rfl rfl rfl ?_
       refine Wl.off' rfl rfl rfl rfl rfl ?_
       refine Wl.off' rfl rfl rfl rfl rfl ?_
       refine Wl.off' rfl rfl rfl rfl rfl ?_
       refine Wl.y (y_pickT rfl rfl rfl) rfl ?_
       refine Wl.nil ?_
       refine Wq.meet hM_18 (()) (Sub.cons' rfl (by first | rfl | exact bool_eq (by unfold skipV; simp_all)) (Sub.cons' rfl (by first | rfl | exact bool_eq (by unfold skipV; simp_all)) (Sub.cons' rfl (by first | rfl | exact bool_eq (by unfold skipV; simp_all)) (Sub.cons' rfl (by first | rfl | exact bool_eq (by unfold skipV; simp_all)) (Sub.nil))))) ?_
       exact ⟨hb, hB_o4, hB_o5⟩
      ·
       have g_64_ := g_64
       refine Wl.y (y_fieldAddr (fa28_2LawC _) rfl) rfl ?_
       refine Wl.on' rfl rfl g_64_ ?_
       refine Wl.l (l_load one26LawC rfl (by first | exact hB_o0.at rfl | exact hB_o1.at rfl | exact hB_o4.at rfl | exact hB_o5.at rfl | exact hB_o0.cell 0 | exact hB_o1.cell 0 | exact hB_o4.cell 0 | exact hB_o5.cell 0 | assumption)) rfl ?_
       refine Wl.on' rfl rfl g_64_ ?_
       refine Wl.y (y_fieldAddr (fa28_2LawC _) rfl) rfl ?_
       refine Wl.on' rfl rfl g_64_ ?_
       refine Wl.l (l_load one26LawC rfl (by first | exact hB_o0.at rfl | exact hB_o1.at rfl | exact hB_o4.at rfl | exact hB_o5.at rfl | exact hB_o0.cell 0 | exact hB_o1.cell 0 | exact hB_o4.cell 0 | exact hB_o5.cell 0 | assumption)) rfl ?_
       refine Wl.on' rfl rfl g_64_ ?_
       refine Wl.y (y_eq (y_neqf rfl rfl) (bool_eq (ne_self_f _))) rfl ?_
       refine Wl.y (y_pickF rfl g_64_ rfl) rfl ?_
       refine Wl.y (y_move rfl) rfl ?_
       refine Wl.guardF rfl rfl rfl (fun g_75 => ?_) (fun g_75 => ?_)
       ·
        have g_75_ := g_75
        refine Wl.off' rfl rfl g_75_ rfl rfl ?_
        refine Wl.off' rfl rfl g_75_ rfl rfl ?_
        refine Wl.off' rfl rfl g_75_ rfl rfl ?_
        refine Wl.off' rfl rfl g_75_ rfl rfl ?_
        refine Wl.y (y_pickT rfl g_75_ rfl) rfl ?_
        refine Wl.nil ?_
        refine Wq.meet hM_18 (()) (Sub.cons' rfl (by first | rfl | exact bool_eq (by unfold skipV; simp_all)) (Sub.cons' rfl (by first | rfl | exact bool_eq (by unfold skipV; simp_all)) (Sub.cons' rfl (by first | rfl | exact bool_eq (by unfold skipV; simp_all)) (Sub.cons' rfl (by first | rfl | exact bool_eq (by unfold skipV; simp_all)) (Sub.nil))))) ?_
        exact ⟨hb, hB_o4, hB_o5⟩
       ·
        have g_75_ := g_75
        refine Wl.y (y_fieldAddr (fa28_2LawC _) rfl) rfl ?_
        refine Wl.on' rfl rfl g_75_ ?_
        refine Wl.l (l_load one26LawC rfl (by first | exact hB_o0.at rfl | exact hB_o1.at rfl | exact hB_o4.at rfl | exact hB_o5.at rfl | exact hB_o0.cell 0 | exact hB_o1.cell 0 | exact hB_o4.cell 0 | exact hB_o5.cell 0 | assumption)) rfl ?_
        refine Wl.on' rfl rfl g_75_ ?_
        refine Wl.y (y_fieldAddr (fa28_2LawC _) rfl) rfl ?_
        refine Wl.on' rfl rfl g_75_ ?_
        refine Wl.l (l_load one26LawC rfl (by first | exact hB_o0.at rfl | exact hB_o1.at rfl | exact hB_o4.at rfl | exact hB_o5.at rfl | exact hB_o0.cell 0 | exact hB_o1.cell 0 | exact hB_o4.cell 0 | exact hB_o5.cell 0 | assumption)) rfl ?_
        refine Wl.on' rfl rfl g_75_ ?_
        refine Wl.y (y_eq (y_neqf rfl rfl) (bool_eq (ne_self_f _))) rfl ?_
        refine Wl.y (y_pickF rfl g_75_ rfl) rfl ?_
        refine Wl.nil ?_
        refine Wq.meet hM_18 (()) (Sub.cons' rfl (by first | rfl | exact bool_eq (by unfold skipV; simp_all)) (Sub.cons' rfl (by first | rfl | exact bool_eq (by unfold skipV; simp_all)) (Sub.cons' rfl (by first | rfl | exact bool_eq (by unfold skipV; simp_all)) (Sub.cons' rfl (by first | rfl | exact bool_eq (by unfold skipV; simp_all)) (Sub.nil))))) ?_
        exact ⟨hb, hB_o4, hB_o5⟩
  ·
   rintro u_ wr hI_83
   replace hI_83 : Below w.heap.size w wr ∧ Blk wr g_o4 28 r.val.cells ∧ Blk wr g_o5 28 s.val.cells := hI_83
   obtain ⟨hb, hB_o4, hB_o5⟩ := hI_83
   show Wq _ _ _ _ [(5, .bool true), (6, .pointer (some ⟨g_o4, 0, none⟩)), (7, .pointer (some ⟨g_o5, 0, none⟩)), (51, .bool (skipV r.val s.val))] _
   have hL := hL_hb.below hb
   try have hzhb_g4 := hb.size
   have hlhB_o4_g4 := hB_o4.lt
   have hlhB_o5_g4 := hB_o5.lt
   refine Wq.next hK_17 ?_
   refine Wc.cond rfl (fun c0_84 => ?_) (fun c0_84 => ?_)
   ·
    refine Wc.seq fun _ hK_85 => ?_
    refine Wc.region ?_
    refine Wl.y (y_move rfl) rfl ?_
    refine Wl.y (y_assign rfl) rfl ?_
    refine Wl.nil ?_
    refine Wq.next hK_85 ?_
    refine Wc.ret ?_
    refine Wq.then_ret ?_
    refine ret1 rfl rfl ?_
    first | exact ⟨_, rfl, rfl, hb⟩ | exact ⟨_, rfl, bool_eq (truth_right _), hb⟩
   ·
    have c0_84_ := c0_84
    have hs := c0_84_
    unfold skipV at hs
    simp only [Bool.or_eq_false_iff, Bool.not_eq_false', decide_eq_true_eq, decide_eq_false_iff_not] at hs
    obtain ⟨hE1, hE2⟩ := equal_law o.val o'.val hs.1 hs.2.1 hs.2.2.1 hs.2.2.2.1 hs.2.2.2.2.1 hs.2.2.2.2.2
    refine Wc.skip ?_
    refine Wq.next hK_16 ?_
    refine Wc.seq fun _ hK_88 => ?_
    refine Wc.region ?_
    refine Wl.l (l_loadS Tryz.underlying28 (by kernel_rfl) rfl (by first | exact fun j u hu => hB_o4.at hu | exact fun j u hu => hB_o5.at hu | assumption)) rfl ?_
    refine Wl.l (l_loadS Tryz.underlying28 (by kernel_rfl) rfl (by first | exact fun j u hu => hB_o4.at hu | exact fun j u hu => hB_o5.at hu | assumption)) rfl ?_
    refine Wl.call txt17LawC rfl rfl (testP hE1 o.val o'.val _) rfl ?_
    rintro _ w_k5 ⟨rfl, hs_k5⟩
    have hz_k5 := hs_k5.size
    have hb := hb.trans (hs_k5.mono hb.size)
    have hL := hL_hb.below hb
    try have hB_o4 := Blk.below hB_o4 hs_k5
    try have hB_o5 := Blk.below hB_o5 hs_k5
    refine Wl.y (y_move rfl) rfl ?_
    refine Wl.y (y_extract rfl rfl) rfl ?_
    refine Wl.y (y_extract rfl rfl) rfl ?_
    refine Wl.allocN (z := (.agg #[(.int .i64 0), (.int .i64 0), (.float .f64 0), (str [])])) (by kernel_rfl) rfl ?_
    rintro g_o34 w_o34 hg_o34 hn_o34 hs_o34
    have hz_o34 := hs_o34.size
    have hb := hb.trans (hs_o34.mono hb.size)
    have hL := hL_hb.below hb
    try have hB_o4 := Blk.below hB_o4 hs_o34
    try have hB_o5 := Blk.below hB_o5 hs_o34
    have hB_o34 := hn_o34
    have hl_o34 := hB_o34.lt
    refine Wl.storeS (by kernel_rfl) rfl rfl hB_o34 rfl rfl ?_
    rintro w_s2 hn_s2 hg_s2
    have hz_s2 := hg_s2.size
    have hb := below_blk hb hg_s2 hb.size (by omega)
    have hL := hL_hb.below hb
    try have hB_o4 := hB_o4.over hg_s2 (by omega)
    try have hB_o5 := hB_o5.over hg_s2 (by omega)
    have hB_o34 := hn_s2
    refine Wl.y (y_assign rfl) rfl ?_
    refine Wl.nil ?_
    refine Wq.next hK_88 ?_
    refine Wc.seq fun _ hK_97 => ?_
    refine Wc.region ?_
    refine Wl.l (l_loadS Tryz.underlying28 (by kernel_rfl) rfl (by first | exact fun j u hu => hB_o4.at hu | exact fun j u hu => hB_o5.at hu | exact fun j u hu => hB_o34.at hu | assumption)) rfl ?_
    refine Wl.l (l_loadS Tryz.underlying28 (by kernel_rfl) rfl (by first | exact fun j u hu => hB_o4.at hu | exact fun j u hu => hB_o5.at hu | exact fun j u hu => hB_o34.at hu | assumption)) rfl ?_
    refine Wl.call txt17LawC rfl rfl (testP hE2 o.val o'.val _) rfl ?_
    rintro _ w_k6 ⟨rfl, hs_k6⟩
    have hz_k6 := hs_k6.size
    have hb := hb.trans (hs_k6.mono hb.size)
    have hL := hL_hb.below hb
    try have hB_o4 := Blk.below hB_o4 hs_k6
    try have hB_o5 := Blk.below hB_o5 hs_k6
    try have hB_o34 := Blk.below hB_o34 hs_k6
    refine Wl.y (y_move rfl) rfl ?_
    refine Wl.y (y_extract rfl rfl) rfl ?_
    refine Wl.y (y_extract rfl rfl) rfl ?_
    refine Wl.allocN (z := (.agg #[(.int .i64 0), (.int .i64 0), (.float .f64 0), (str [])])) (by kernel_rfl) rfl ?_
    rintro g_o39 w_o39 hg_o39 hn_o39 hs_o39
    have hz_o39 := hs_o39.size
    have hb := hb.trans (hs_o39.mono hb.size)
    have hL := hL_hb.below hb
    try have hB_o4 := Blk.below hB_o4 hs_o39
    try have hB_o5 := Blk.below hB_o5 hs_o39
    try have hB_o34 := Blk.below hB_o34 hs_o39
    have hB_o39 := hn_o39
    have hl_o39 := hB_o39.lt
    refine Wl.storeS (by kernel_rfl) rfl rfl hB_o39 rfl rfl ?_
    rintro w_s3 hn_s3 hg_s3
    have hz_s3 := hg_s3.size
    have hb := below_blk hb hg_s3 hb.size (by omega)
    have hL := hL_hb.below hb
    try have hB_o4 := hB_o4.over hg_s3 (by omega)
    try have hB_o5 := hB_o5.over hg_s3 (by omega)
    try have hB_o34 := hB_o34.over hg_s3 (by omega)
    have hB_o39 := hn_s3
    refine Wl.y (y_assign rfl) rfl ?_
    refine Wl.nil ?_
    refine Wq.next hK_97 ?_
    refine Wc.seq fun _ hK_106 => ?_
    refine Wc.meet (X := Unit) (fun u_ => [(5, .bool true), (9, .int .i64 0), (11, .int .i64 0), (6, .pointer (some ⟨g_o4, 0, none⟩)), (7, .pointer (some ⟨g_o5, 0, none⟩)), (8, .pointer (some ⟨g_o34, 0, none⟩)), (10, .pointer (some ⟨g_o39, 0, none⟩)), (12, .bool (zeroV r.val s.val))]) (fun u_ wr => Below w.heap.size w wr ∧ Blk wr g_o4 28 r.val.cells ∧ Blk wr g_o5 28 s.val.cells ∧ Blk wr g_o34 28 (truthV (sameV r.val s.val || zeroV r.val s.val)).cells ∧ Blk wr g_o39 28 (truthV (lessV r.val s.val && !zeroV r.val s.val)).cells) (fun _ hM_107 => ?_) ?_
    ·
     refine Wc.region ?_
     refine Wl.y (y_fieldAddr (fa28_0LawC _) rfl) rfl ?_
     refine Wl.l (l_load one3LawC rfl (by first | exact hB_o4.at rfl | exact hB_o5.at rfl | exact hB_o34.at rfl | exact hB_o39.at rfl | exact hB_o4.cell 0 | exact hB_o5.cell 0 | exact hB_o34.cell 0 | exact hB_o39.cell 0 | assumption)) rfl ?_
     refine Wl.y (y_eqli rfl rfl) rfl ?_
     refine Wl.y (y_move rfl) rfl ?_
     refine Wl.guardT rfl rfl rfl (fun g_112 => ?_) (fun g_112 => ?_)
     ·
      have g_112_ := g_112
      refine Wl.y (y_fieldAddr (fa28_2LawC _) rfl) rfl ?_
      refine Wl.on' rfl rfl g_112_ ?_
      refine Wl.l (l_load one26LawC rfl (by first | exact hB_o4.at rfl | exact hB_o5.at rfl | exact hB_o34.at rfl | exact hB_o39.at rfl | exact hB_o4.cell 0 | exact hB_o5.cell 0 | exact hB_o34.cell 0 | exact hB_o39.cell 0 | assumption)) rfl ?_
      refine Wl.on' rfl rfl g_112_ ?_
      refine Wl.y (y_eq (y_eqlf rfl rfl) (bool_eq ((eq_zero_f _).trans (by rw [hs.2.2.2.2.1])))) rfl ?_
      refine Wl.y (y_pickT rfl g_112_ rfl) rfl ?_
      refine Wl.y (y_move rfl) rfl ?_
      refine Wl.guardT rfl rfl rfl (fun g_118 => ?_) (fun g_118 => ?_)
      ·
       have g_118_ := g_118
       refine Wl.y (y_fieldAddr (fa28_2LawC _) rfl) rfl ?_
       refine Wl.on' rfl rfl g_118_ ?_
       refine Wl.l (l_load one26LawC rfl (by first | exact hB_o4.at rfl | exact hB_o5.at rfl | exact hB_o34.at rfl | exact hB_o39.at rfl | exact hB_o4.cell 0 | exact hB_o5.cell 0 | exact hB_o34.cell 0 | exact hB_o39.cell 0 | assumption)) rfl ?_
       refine Wl.on' rfl rfl g_118_ ?_
       refine Wl.y (y_eq (y_eqlf rfl rfl) (bool_eq ((eq_zero_f _).trans (by rw [hs.2.2.2.2.2])))) rfl ?_
       refine Wl.y (y_pickT rfl g_118_ rfl) rfl ?_
       refine Wl.y (y_assign rfl) rfl ?_
       refine Wl.nil ?_
       refine Wq.meet hM_107 (()) (Sub.cons' rfl (by first | rfl | exact bool_eq (by unfold zeroV; simp_all)) (Sub.cons' rfl (by first | rfl | exact bool_eq (by unfold zeroV; simp_all)) (Sub.cons' rfl (by first | rfl | exact bool_eq (by unfold zeroV; simp_all)) (Sub.cons' rfl (by first | rfl | exact bool_eq (by unfold zeroV; simp_all)) (Sub.cons' rfl (by first | rfl | exact bool_eq (by unfold zeroV; simp_all)) (Sub.cons' rfl (by first | rfl | exact bool_eq (by unfold zeroV; simp_all)) (Sub.cons' rfl (by first | rfl | exact bool_eq (by unfold zeroV; simp_all)) (Sub.cons' rfl (by first | rfl | exact bool_eq (by unfold zeroV; simp_all)) (Sub.nil))))))))) ?_
       exact ⟨hb, hB_o4, hB_o5, hB_o34, hB_o39⟩
      ·
       have g_118_ := g_118
       refine Wl.off' rfl rfl g_118_ rfl rfl ?_
       refine Wl.off' rfl rfl g_118_ rfl rfl ?_
       refine Wl.y (y_pickF rfl g_118_ rfl) rfl ?_
       refine Wl.y (y_assign rfl) rfl ?_
       refine Wl.nil ?_
       refine Wq.meet hM_107 (()) (Sub.cons' rfl (by first | rfl | exact bool_eq (by unfold zeroV; simp_all)) (Sub.cons' rfl (by first | rfl | exact bool_eq (by unfold zeroV; simp_all)) (Sub.cons' rfl (by first | rfl | exact bool_eq (by unfold zeroV; simp_all)) (Sub.cons' rfl (by first | rfl | exact bool_eq (by unfold zeroV; simp_all)) (Sub.cons' rfl (by first | rfl | exact bool_eq (by unfold zeroV; simp_all)) (Sub.cons' rfl (by first | rfl | exact bool_eq (by unfold zeroV; simp_all)) (Sub.cons' rfl (by first | rfl | exact bool_eq (by unfold zeroV; simp_all)) (Sub.cons' rfl (by first | rfl | exact bool_eq (by unfold zeroV; simp_all)) (Sub.nil))))))))) ?_
       exact ⟨hb, hB_o4, hB_o5, hB_o34, hB_o39⟩
     ·
      have g_112_ := g_112
      refine Wl.off' rfl rfl g_112_ rfl rfl ?_
      refine Wl.off' rfl rfl g_112_ rfl rfl ?_
      refine Wl.y (y_pickF rfl g_112_ rfl) rfl ?_
      refine Wl.y (y_move rfl) rfl ?_
      refine Wl.off' rfl rfl rfl rfl rfl ?_
      refine Wl.off' rfl rfl rfl rfl rfl ?_
      refine Wl.off' rfl rfl rfl rfl rfl ?_
      refine Wl.y (y_pickF rfl rfl rfl) rfl ?_
      refine Wl.y (y_assign rfl) rfl ?_
      refine Wl.nil ?_
      refine Wq.meet hM_107 (()) (Sub.cons' rfl (by first | rfl | exact bool_eq (by unfold zeroV; simp_all)) (Sub.cons' rfl (by first | rfl | exact bool_eq (by unfold zeroV; simp_all)) (Sub.cons' rfl (by first | rfl | exact bool_eq (by unfold zeroV; simp_all)) (Sub.cons' rfl (by first | rfl | exact bool_eq (by unfold zeroV; simp_all)) (Sub.cons' rfl (by first | rfl | exact bool_eq (by unfold zeroV; simp_all)) (Sub.cons' rfl (by first | rfl | exact bool_eq (by unfold zeroV; simp_all)) (Sub.cons' rfl (by first | rfl | exact bool_eq (by unfold zeroV; simp_all)) (Sub.cons' rfl (by first | rfl | exact bool_eq (by unfold zeroV; simp_all)) (Sub.nil))))))))) ?_
      exact ⟨hb, hB_o4, hB_o5, hB_o34, hB_o39⟩
    ·
     rintro u_ wr hI_130
     replace hI_130 : Below w.heap.size w wr ∧ Blk wr g_o4 28 r.val.cells ∧ Blk wr g_o5 28 s.val.cells ∧ Blk wr g_o34 28 (truthV (sameV r.val s.val || zeroV r.val s.val)).cells ∧ Blk wr g_o39 28 (truthV (lessV r.val s.val && !zeroV r.val s.val)).cells := hI_130
     obtain ⟨hb, hB_o4, hB_o5, hB_o34, hB_o39⟩ := hI_130
     show Wq _ _ _ _ [(5, .bool true), (9, .int .i64 0), (11, .int .i64 0), (6, .pointer (some ⟨g_o4, 0, none⟩)), (7, .pointer (some ⟨g_o5, 0, none⟩)), (8, .pointer (some ⟨g_o34, 0, none⟩)), (10, .pointer (some ⟨g_o39, 0, none⟩)), (12, .bool (zeroV r.val s.val))] _
     have hL := hL_hb.below hb
     try have hzhb_g8 := hb.size
     have hlhB_o4_g8 := hB_o4.lt
     have hlhB_o5_g8 := hB_o5.lt
     have hlhB_o34_g8 := hB_o34.lt
     have hlhB_o39_g8 := hB_o39.lt
     refine Wq.next hK_106 ?_
     refine Wc.seq fun _ hK_131 => ?_
     refine Wc.quiet (by kernel_rfl) (by kernel_rfl) ?_
     refine Wy.y (y_move rfl) rfl ?_
     refine Wy.y (y_move rfl) rfl ?_
     refine Wy.guardT rfl rfl rfl (fun g_134 => ?_) (fun g_134 => ?_)
     ·
      have g_134_ := g_134
      refine Wy.y (y_move rfl) rfl ?_
      refine Wy.on' rfl rfl g_134_ ?_
      refine Wy.y (y_eqli rfl rfl) rfl ?_
      refine Wy.y (y_pickT rfl g_134_ rfl) rfl ?_
      refine Wy.y (y_move rfl) rfl ?_
      refine Wy.guardT rfl rfl rfl (fun g_139 => ?_) (fun g_139 => ?_)
      ·
       have g_139_ := g_139
       refine Wy.y (y_move rfl) rfl ?_
       refine Wy.on' rfl rfl g_139_ ?_
       refine Wy.y (y_eqli rfl rfl) rfl ?_
       refine Wy.y (y_pickT rfl g_139_ rfl) rfl ?_
       refine Wy.y (y_move rfl) rfl ?_
       refine Wy.guardT rfl rfl rfl (fun g_144 => ?_) (fun g_144 => ?_)
       ·
        have g_144_ := g_144
        refine Wy.y (y_fieldAddr (fa28_1LawC _) rfl) rfl ?_
        refine Wy.on' rfl rfl g_144_ ?_
        refine Wy.l (fun wq hq => l_load one2LawC rfl (by have hL := hL.below hq; have hB_o4 := Blk.below hB_o4 hq; have hB_o5 := Blk.below hB_o5 hq; have hB_o34 := Blk.below hB_o34 hq; have hB_o39 := Blk.below hB_o39 hq; first | exact hB_o4.at rfl | exact hB_o5.at rfl | exact hB_o34.at rfl | exact hB_o39.at rfl | exact hB_o4.cell 0 | exact hB_o5.cell 0 | exact hB_o34.cell 0 | exact hB_o39.cell 0 | assumption)) rfl ?_
        refine Wy.on' rfl rfl g_144_ ?_
        refine Wy.y (y_eq (y_eqli rfl rfl) (bool_eq (truth_n _))) rfl ?_
        refine Wy.on' rfl rfl g_144_ ?_
        refine Wy.l (fun wq hq => l_loadS Tryz.underlying28 (by kernel_rfl) rfl (by have hL := hL.below hq; have hB_o4 := Blk.below hB_o4 hq; have hB_o5 := Blk.below hB_o5 hq; have hB_o34 := Blk.below hB_o34 hq; have hB_o39 := Blk.below hB_o39 hq; first | exact fun j u hu => hB_o4.at hu | exact fun j u hu => hB_o5.at hu | exact fun j u hu => hB_o34.at hu | exact fun j u hu => hB_o39.at hu | assumption)) rfl ?_
        refine Wy.on' rfl rfl g_144_ ?_
        refine Wy.l (fun wq hq => l_loadS Tryz.underlying28 (by kernel_rfl) rfl (by have hL := hL.below hq; have hB_o4 := Blk.below hB_o4 hq; have hB_o5 := Blk.below hB_o5 hq; have hB_o34 := Blk.below hB_o34 hq; have hB_o39 := Blk.below hB_o39 hq; first | exact fun j u hu => hB_o4.at hu | exact fun j u hu => hB_o5.at hu | exact fun j u hu => hB_o34.at hu | exact fun j u hu => hB_o39.at hu | assumption)) rfl ?_
        refine Wy.on' rfl rfl g_144_ ?_
        refine Wy.call txt27LawC rfl rfl (fun wq hq => by have hL := hL.below hq; have hB_o4 := Blk.below hB_o4 hq; have hB_o5 := Blk.below hB_o5 hq; have hB_o34 := Blk.below hB_o34 hq; have hB_o39 := Blk.below hB_o39 hq; exact Same_r _ _ o.val o'.val _) rfl ?_
        refine Wy.on' rfl rfl g_144_ ?_
        refine Wy.y (y_move rfl) rfl ?_
        refine Wy.guardF rfl rfl rfl (fun g_152 => ?_) (fun g_152 => ?_)
        ·
         have g_152_ := g_152
         refine Wy.on' rfl rfl g_144_ ?_
         refine Wy.y (y_pickT rfl g_152_ rfl) rfl ?_
         refine Wy.on' rfl rfl g_144_ ?_
         refine Wy.y (y_eqlb Tryz.underlying4 rfl rfl) rfl ?_
         refine Wy.y (y_pickT rfl g_144_ rfl) rfl ?_
         refine Wy.y (y_move rfl) rfl ?_
         refine Wy.guardT rfl rfl rfl (fun g_157 => ?_) (fun g_157 => ?_)
         ·
          have g_157_ := g_157
          refine Wy.y (y_fieldAddr (fa28_1LawC _) rfl) rfl ?_
          refine Wy.on' rfl rfl g_157_ ?_
          refine Wy.l (fun wq hq => l_load one2LawC rfl (by have hL := hL.below hq; have hB_o4 := Blk.below hB_o4 hq; have hB_o5 := Blk.below hB_o5 hq; have hB_o34 := Blk.below hB_o34 hq; have hB_o39 := Blk.below hB_o39 hq; first | exact hB_o4.at rfl | exact hB_o5.at rfl | exact hB_o34.at rfl | exact hB_o39.at rfl | exact hB_o4.cell 0 | exact hB_o5.cell 0 | exact hB_o34.cell 0 | exact hB_o39.cell 0 | assumption)) rfl ?_
          refine Wy.on' rfl rfl g_157_ ?_
          refine Wy.y (y_eq (y_eqli rfl rfl) (bool_eq (truth_n _))) rfl ?_
          refine Wy.on' rfl rfl g_157_ ?_
          refine Wy.l (fun wq hq => l_loadS Tryz.underlying28 (by kernel_rfl) rfl (by have hL := hL.below hq; have hB_o4 := Blk.below hB_o4 hq; have hB_o5 := Blk.below hB_o5 hq; have hB_o34 := Blk.below hB_o34 hq; have hB_o39 := Blk.below hB_o39 hq; first | exact fun j u hu => hB_o4.at hu | exact fun j u hu => hB_o5.at hu | exact fun j u hu => hB_o34.at hu | exact fun j u hu => hB_o39.at hu | assumption)) rfl ?_
          refine Wy.on' rfl rfl g_157_ ?_
          refine Wy.l (fun wq hq => l_loadS Tryz.underlying28 (by kernel_rfl) rfl (by have hL := hL.below hq; have hB_o4 := Blk.below hB_o4 hq; have hB_o5 := Blk.below hB_o5 hq; have hB_o34 := Blk.below hB_o34 hq; have hB_o39 := Blk.below hB_o39 hq; first | exact fun j u hu => hB_o4.at hu | exact fun j u hu => hB_o5.at hu | exact fun j u hu => hB_o34.at hu | exact fun j u hu => hB_o39.at hu | assumption)) rfl ?_
          refine Wy.on' rfl rfl g_157_ ?_
          refine Wy.call txt29LawC rfl rfl (fun wq hq => by have hL := hL.below hq; have hB_o4 := Blk.below hB_o4 hq; have hB_o5 := Blk.below hB_o5 hq; have hB_o34 := Blk.below hB_o34 hq; have hB_o39 := Blk.below hB_o39 hq; exact Less_r _ _ o.val o'.val _) rfl ?_
          refine Wy.on' rfl rfl g_157_ ?_
          refine Wy.y (y_move rfl) rfl ?_
          refine Wy.guardT rfl rfl rfl (fun g_165 => ?_) (fun g_165 => ?_)
          ·
           have g_165_ := g_165
           refine Wy.y (y_move rfl) rfl ?_
           refine Wy.on' rfl rfl g_165_ ?_
           refine Wy.y (y_not rfl) rfl ?_
           refine Wy.on' rfl rfl g_157_ ?_
           refine Wy.y (y_pickT rfl g_165_ rfl) rfl ?_
           refine Wy.on' rfl rfl g_157_ ?_
           refine Wy.y (y_eqlb Tryz.underlying4 rfl rfl) rfl ?_
           refine Wy.y (y_pickT rfl g_157_ rfl) rfl ?_
           refine Wy.y (y_move rfl) rfl ?_
           refine Wy.guardT rfl rfl rfl (fun g_172 => ?_) (fun g_172 => ?_)
           ·
            have g_172_ := g_172
            refine Wy.l (fun wq hq => l_loadS Tryz.underlying28 (by kernel_rfl) rfl (by have hL := hL.below hq; have hB_o4 := Blk.below hB_o4 hq; have hB_o5 := Blk.below hB_o5 hq; have hB_o34 := Blk.below hB_o34 hq; have hB_o39 := Blk.below hB_o39 hq; first | exact fun j u hu => hB_o4.at hu | exact fun j u hu => hB_o5.at hu | exact fun j u hu => hB_o34.at hu | exact fun j u hu => hB_o39.at hu | assumption)) rfl ?_
            refine Wy.on' rfl rfl g_172_ ?_
            refine Wy.call txt28LawC rfl rfl (fun wq hq => by have hL := hL.below hq; have hB_o4 := Blk.below hB_o4 hq; have hB_o5 := Blk.below hB_o5 hq; have hB_o34 := Blk.below hB_o34 hq; have hB_o39 := Blk.below hB_o39 hq; exact RRight_r _ (okT _) _) rfl ?_
            refine Wy.y (y_pickT rfl g_172_ rfl) rfl ?_
            refine Wy.y (y_assign rfl) rfl ?_
            refine Wy.nil fun w_g9 hs_g9 => ?_
            have hz_g9 := hs_g9.size
            have hb := hb.trans (hs_g9.mono hb.size)
            have hL := hL_hb.below hb
            refine Wq.next hK_131 ?_
            refine Wc.ret ?_
            refine ret1 rfl rfl ?_
            first | exact ⟨_, rfl, rfl, hb⟩ | exact ⟨_, rfl, bool_eq (truth_right _), hb⟩
           ·
            have g_172_ := g_172
            exact absurd g_172_ (by simp_all)
          ·
           have g_165_ := g_165
           refine Wy.off' rfl rfl g_165_ rfl rfl ?_
           refine Wy.on' rfl rfl g_157_ ?_
           refine Wy.y (y_pickF rfl g_165_ rfl) rfl ?_
           refine Wy.on' rfl rfl g_157_ ?_
           refine Wy.y (y_eqlb Tryz.underlying4 rfl rfl) rfl ?_
           refine Wy.y (y_pickT rfl g_157_ rfl) rfl ?_
           refine Wy.y (y_move rfl) rfl ?_
           refine Wy.guardT rfl rfl rfl (fun g_181 => ?_) (fun g_181 => ?_)
           ·
            have g_181_ := g_181
            refine Wy.l (fun wq hq => l_loadS Tryz.underlying28 (by kernel_rfl) rfl (by have hL := hL.below hq; have hB_o4 := Blk.below hB_o4 hq; have hB_o5 := Blk.below hB_o5 hq; have hB_o34 := Blk.below hB_o34 hq; have hB_o39 := Blk.below hB_o39 hq; first | exact fun j u hu => hB_o4.at hu | exact fun j u hu => hB_o5.at hu | exact fun j u hu => hB_o34.at hu | exact fun j u hu => hB_o39.at hu | assumption)) rfl ?_
            refine Wy.on' rfl rfl g_181_ ?_
            refine Wy.call txt28LawC rfl rfl (fun wq hq => by have hL := hL.below hq; have hB_o4 := Blk.below hB_o4 hq; have hB_o5 := Blk.below hB_o5 hq; have hB_o34 := Blk.below hB_o34 hq; have hB_o39 := Blk.below hB_o39 hq; exact RRight_r _ (okT _) _) rfl ?_
            refine Wy.y (y_pickT rfl g_181_ rfl) rfl ?_
            refine Wy.y (y_assign rfl) rfl ?_
            refine Wy.nil fun w_g9 hs_g9 => ?_
            have hz_g9 := hs_g9.size
            have hb := hb.trans (hs_g9.mono hb.size)
            have hL := hL_hb.below hb
            refine Wq.next hK_131 ?_
            refine Wc.ret ?_
            refine ret1 rfl rfl ?_
            first | exact ⟨_, rfl, rfl, hb⟩ | exact ⟨_, rfl, bool_eq (truth_right _), hb⟩
           ·
            have g_181_ := g_181
            exact absurd g_181_ (by simp_all)
         ·
          have g_157_ := g_157
          exact absurd g_157_ (by simp_all)
        ·
         have g_152_ := g_152
         refine Wy.y (y_move rfl) rfl ?_
         refine Wy.on' rfl rfl g_144_ ?_
         refine Wy.y (y_pickF rfl g_152_ rfl) rfl ?_
         refine Wy.on' rfl rfl g_144_ ?_
         refine Wy.y (y_eqlb Tryz.underlying4 rfl rfl) rfl ?_
         refine Wy.y (y_pickT rfl g_144_ rfl) rfl ?_
         refine Wy.y (y_move rfl) rfl ?_
         refine Wy.guardT rfl rfl rfl (fun g_191 => ?_) (fun g_191 => ?_)
         ·
          have g_191_ := g_191
          refine Wy.y (y_fieldAddr (fa28_1LawC _) rfl) rfl ?_
          refine Wy.on' rfl rfl g_191_ ?_
          refine Wy.l (fun wq hq => l_load one2LawC rfl (by have hL := hL.below hq; have hB_o4 := Blk.below hB_o4 hq; have hB_o5 := Blk.below hB_o5 hq; have hB_o34 := Blk.below hB_o34 hq; have hB_o39 := Blk.below hB_o39 hq; first | exact hB_o4.at rfl | exact hB_o5.at rfl | exact hB_o34.at rfl | exact hB_o39.at rfl | exact hB_o4.cell 0 | exact hB_o5.cell 0 | exact hB_o34.cell 0 | exact hB_o39.cell 0 | assumption)) rfl ?_
          refine Wy.on' rfl rfl g_191_ ?_
          refine Wy.y (y_eq (y_eqli rfl rfl) (bool_eq (truth_n _))) rfl ?_
          refine Wy.on' rfl rfl g_191_ ?_
          refine Wy.l (fun wq hq => l_loadS Tryz.underlying28 (by kernel_rfl) rfl (by have hL := hL.below hq; have hB_o4 := Blk.below hB_o4 hq; have hB_o5 := Blk.below hB_o5 hq; have hB_o34 := Blk.below hB_o34 hq; have hB_o39 := Blk.below hB_o39 hq; first | exact fun j u hu => hB_o4.at hu | exact fun j u hu => hB_o5.at hu | exact fun j u hu => hB_o34.at hu | exact fun j u hu => hB_o39.at hu | assumption)) rfl ?_
          refine Wy.on' rfl rfl g_191_ ?_
          refine Wy.l (fun wq hq => l_loadS Tryz.underlying28 (by kernel_rfl) rfl (by have hL := hL.below hq; have hB_o4 := Blk.below hB_o4 hq; have hB_o5 := Blk.below hB_o5 hq; have hB_o34 := Blk.below hB_o34 hq; have hB_o39 := Blk.below hB_o39 hq; first | exact fun j u hu => hB_o4.at hu | exact fun j u hu => hB_o5.at hu | exact fun j u hu => hB_o34.at hu | exact fun j u hu => hB_o39.at hu | assumption)) rfl ?_
          refine Wy.on' rfl rfl g_191_ ?_
          refine Wy.call txt29LawC rfl rfl (fun wq hq => by have hL := hL.below hq; have hB_o4 := Blk.below hB_o4 hq; have hB_o5 := Blk.below hB_o5 hq; have hB_o34 := Blk.below hB_o34 hq; have hB_o39 := Blk.below hB_o39 hq; exact Less_r _ _ o.val o'.val _) rfl ?_
          refine Wy.on' rfl rfl g_191_ ?_
          refine Wy.y (y_move rfl) rfl ?_
          refine Wy.guardT rfl rfl rfl (fun g_199 => ?_) (fun g_199 => ?_)
          ·
           have g_199_ := g_199
           refine Wy.y (y_move rfl) rfl ?_
           refine Wy.on' rfl rfl g_199_ ?_
           refine Wy.y (y_not rfl) rfl ?_
           refine Wy.on' rfl rfl g_191_ ?_
           refine Wy.y (y_pickT rfl g_199_ rfl) rfl ?_
           refine Wy.on' rfl rfl g_191_ ?_
           refine Wy.y (y_eqlb Tryz.underlying4 rfl rfl) rfl ?_
           refine Wy.y (y_pickT rfl g_191_ rfl) rfl ?_
           refine Wy.y (y_move rfl) rfl ?_
           refine Wy.guardT rfl rfl rfl (fun g_206 => ?_) (fun g_206 => ?_)
           ·
            have g_206_ := g_206
            refine Wy.l (fun wq hq => l_loadS Tryz.underlying28 (by kernel_rfl) rfl (by have hL := hL.below hq; have hB_o4 := Blk.below hB_o4 hq; have hB_o5 := Blk.below hB_o5 hq; have hB_o34 := Blk.below hB_o34 hq; have hB_o39 := Blk.below hB_o39 hq; first | exact fun j u hu => hB_o4.at hu | exact fun j u hu => hB_o5.at hu | exact fun j u hu => hB_o34.at hu | exact fun j u hu => hB_o39.at hu | assumption)) rfl ?_
            refine Wy.on' rfl rfl g_206_ ?_
            refine Wy.call txt28LawC rfl rfl (fun wq hq => by have hL := hL.below hq; have hB_o4 := Blk.below hB_o4 hq; have hB_o5 := Blk.below hB_o5 hq; have hB_o34 := Blk.below hB_o34 hq; have hB_o39 := Blk.below hB_o39 hq; exact RRight_r _ (okT _) _) rfl ?_
            refine Wy.y (y_pickT rfl g_206_ rfl) rfl ?_
            refine Wy.y (y_assign rfl) rfl ?_
            refine Wy.nil fun w_g9 hs_g9 => ?_
            have hz_g9 := hs_g9.size
            have hb := hb.trans (hs_g9.mono hb.size)
            have hL := hL_hb.below hb
            refine Wq.next hK_131 ?_
            refine Wc.ret ?_
            refine ret1 rfl rfl ?_
            first | exact ⟨_, rfl, rfl, hb⟩ | exact ⟨_, rfl, bool_eq (truth_right _), hb⟩
           ·
            have g_206_ := g_206
            exact absurd g_206_ (by simp_all)
          ·
           have g_199_ := g_199
           refine Wy.off' rfl rfl g_199_ rfl rfl ?_
           refine Wy.on' rfl rfl g_191_ ?_
           refine Wy.y (y_pickF rfl g_199_ rfl) rfl ?_
           refine Wy.on' rfl rfl g_191_ ?_
           refine Wy.y (y_eqlb Tryz.underlying4 rfl rfl) rfl ?_
           refine Wy.y (y_pickT rfl g_191_ rfl) rfl ?_
           refine Wy.y (y_move rfl) rfl ?_
           refine Wy.guardT rfl rfl rfl (fun g_215 => ?_) (fun g_215 => ?_)
           ·
            have g_215_ := g_215
            refine Wy.l (fun wq hq => l_loadS Tryz.underlying28 (by kernel_rfl) rfl (by have hL := hL.below hq; have hB_o4 := Blk.below hB_o4 hq; have hB_o5 := Blk.below hB_o5 hq; have hB_o34 := Blk.below hB_o34 hq; have hB_o39 := Blk.below hB_o39 hq; first | exact fun j u hu => hB_o4.at hu | exact fun j u hu => hB_o5.at hu | exact fun j u hu => hB_o34.at hu | exact fun j u hu => hB_o39.at hu | assumption)) rfl ?_
            refine Wy.on' rfl rfl g_215_ ?_
            refine Wy.call txt28LawC rfl rfl (fun wq hq => by have hL := hL.below hq; have hB_o4 := Blk.below hB_o4 hq; have hB_o5 := Blk.below hB_o5 hq; have hB_o34 := Blk.below hB_o34 hq; have hB_o39 := Blk.below hB_o39 hq; exact RRight_r _ (okT _) _) rfl ?_
            refine Wy.y (y_pickT rfl g_215_ rfl) rfl ?_
            refine Wy.y (y_assign rfl) rfl ?_
            refine Wy.nil fun w_g9 hs_g9 => ?_
            have hz_g9 := hs_g9.size
            have hb := hb.trans (hs_g9.mono hb.size)
            have hL := hL_hb.below hb
            refine Wq.next hK_131 ?_
            refine Wc.ret ?_
            refine ret1 rfl rfl ?_
            first | exact ⟨_, rfl, rfl, hb⟩ | exact ⟨_, rfl, bool_eq (truth_right _), hb⟩
           ·
            have g_215_ := g_215
            exact absurd g_215_ (by simp_all)
         ·
          have g_191_ := g_191
          exact absurd g_191_ (by simp_all)
       ·
        have g_144_ := g_144
        exact absurd g_144_ (by decide)
      ·
       have g_139_ := g_139
       exact absurd g_139_ (by decide)
     ·
      have g_134_ := g_134
      exact absurd g_134_ (by decide)
end Go.Proofs.YtijkbinjdgjioaaGreatDoor
