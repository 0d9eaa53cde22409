/- The statements about values, by the calculus: ValueOrder. -/
import Derived.Test.YtijkbinjdgjioaaGreatDoorLawA
namespace Go.Proofs.YtijkbinjdgjioaaGreatDoor
open Go.RowKit Go.Bw Go.Bw.Fl
set_option linter.unusedVariables false
set_option linter.unusedSimpArgs false
theorem txt14LawB : Txt Tryz.prog 14 := ⟨_, Tryz.func14, by kernel_rfl, rfl⟩   -- bridleway/bridlewaylaw02.shown
theorem txt15LawB : Txt Tryz.prog 15 := ⟨_, Tryz.func15, by kernel_rfl, rfl⟩   -- bridleway/bridlewaylaw02.of
theorem txt27LawB : Txt Tryz.prog 27 := ⟨_, Tryz.func27, by kernel_rfl, rfl⟩   -- bridleway/value.Same
theorem txt29LawB : Txt Tryz.prog 29 := ⟨_, Tryz.func29, by kernel_rfl, rfl⟩   -- bridleway/value.Less
theorem bl_nil (x : List UInt8) : Op.bytesLess x [] = false := by cases x <;> rfl
theorem bl_cons (a b : UInt8) (x y : List UInt8) : Op.bytesLess (a :: x) (b :: y) = true ↔ a.toNat < b.toNat ∨ (a.toNat = b.toNat ∧ Op.bytesLess x y = true) := by
  show (decide (a < b) || (a == b && Op.bytesLess x y)) = true ↔ _
  simp only [Bool.or_eq_true, Bool.and_eq_true, decide_eq_true_eq, beq_iff_eq, UInt8.lt_iff_toNat_lt]
  constructor
  · rintro (h | ⟨h, h'⟩)
    · exact .inl h
    · exact .inr ⟨by rw [h], h'⟩
  · rintro (h | ⟨h, h'⟩)
    · exact .inl h
    · exact .inr ⟨UInt8.toNat_inj.1 h, h'⟩
theorem bl_trans : ∀ (x y z : List UInt8), Op.bytesLess x y = true → Op.bytesLess y z = true → Op.bytesLess x z = true
  | x, [], z, h, _ => by rw [bl_nil] at h; cases h
  | x, b :: y, [], _, h => by rw [bl_nil] at h; cases h
  | [], b :: y, c :: z, _, _ => rfl
  | a :: x, b :: y, c :: z, h, h' => by
    rw [bl_cons] at h h' ⊢
    rcases h with h | ⟨h, h1⟩ <;> rcases h' with h' | ⟨h', h2⟩
    · exact .inl (by omega)
    · exact .inl (by omega)
    · exact .inl (by omega)
    · exact .inr ⟨by omega, bl_trans x y z h1 h2⟩
theorem bl_total : ∀ (x y : List UInt8), Op.bytesLess x y = true ∨ x = y ∨ Op.bytesLess y x = true
  | [], [] => .inr (.inl rfl)
  | [], b :: y => .inl rfl
  | a :: x, [] => .inr (.inr rfl)
  | a :: x, b :: y => by
    rw [bl_cons, bl_cons]
    rcases Nat.lt_trichotomy a.toNat b.toNat with h | h | h
    · exact .inl (.inl h)
    · rcases bl_total x y with h1 | h1 | h1
      · exact .inl (.inr ⟨h, h1⟩)
      · exact .inr (.inl (by rw [UInt8.toNat_inj.1 h, h1]))
      · exact .inr (.inr (.inr ⟨h.symm, h1⟩))
    · exact .inr (.inr (.inl h))
theorem bl_asymm {x y : List UInt8} (h : Op.bytesLess x y = true) : ¬ Op.bytesLess y x = true := fun h' => by
  have := bl_trans x y x h h'; rw [bytesLess_irrefl] at this; cases this
theorem lessV_iff (x y : Val) : lessV x y = true ↔ x.k < y.k ∨ (x.k = y.k ∧ (x.n < y.n ∨ (x.n = y.n ∧ (keyW x.f < keyW y.f ∨ (keyW x.f = keyW y.f ∧ Op.bytesLess x.s y.s = true))))) := by
  unfold lessV
  rw [decide_eq_true_eq]
  by_cases h1 : x.k = y.k
  · rw [less_eq (cmpI_zero.2 h1)]
    by_cases h2 : x.n = y.n
    · rw [less_eq (cmpI_zero.2 h2)]
      by_cases h3 : keyW x.f = keyW y.f
      · rw [less_eq (cmpK_zero.2 h3), show orI [cmpS x.s y.s] = cmpS x.s y.s by unfold orI; split; rename_i h; rw [h]; rfl; rfl, cmpS_lt]
        simp [h1, h2, h3]
      · rw [less_lt (fun e => h3 (cmpK_zero.1 e)), cmpI_lt]
        simp [h1, h2, h3]
    · rw [less_lt (cmpI_ne h2), cmpI_lt]; simp [h1, h2]
  · rw [less_lt (cmpI_ne h1), cmpI_lt]; simp [h1]
theorem sameV_iff (x y : Val) : sameV x y = true ↔ x.k = y.k ∧ x.n = y.n ∧ keyW x.f = keyW y.f ∧ x.s = y.s := by unfold sameV; rw [decide_eq_true_eq]
theorem less_irr (x : Val) : lessV x x = false := by
  cases h : lessV x x with
  | false => rfl
  | true => rw [lessV_iff, bytesLess_irrefl] at h; simp at h
theorem less_trans {x y z : Val} (h : lessV x y = true) (h' : lessV y z = true) : lessV x z = true := by
  rw [lessV_iff] at h h' ⊢
  have hb := bl_trans x.s y.s z.s
  generalize Op.bytesLess x.s y.s = p at *
  generalize Op.bytesLess y.s z.s = q at *
  generalize Op.bytesLess x.s z.s = r at *
  grind
theorem less_one {x y : Val} : ¬ (lessV x y = true ∧ lessV y x = true) := fun ⟨h, h'⟩ => by
  have := less_trans h h'; rw [less_irr] at this; cases this
theorem less_tri (x y : Val) : (lessV x y || lessV y x) = !sameV x y := by
  have ht := bl_total x.s y.s
  have ha := @bl_asymm x.s y.s
  have hi := bytesLess_irrefl x.s
  rw [Bool.eq_iff_iff, Bool.or_eq_true, lessV_iff, lessV_iff, Bool.not_eq_true', ← Bool.not_eq_true, sameV_iff]
  constructor
  · intro h e
    rw [e.2.2.2] at hi
    rw [e.1, e.2.1, e.2.2.1, e.2.2.2, hi] at h; simp at h
  · intro h
    generalize Op.bytesLess x.s y.s = p at *
    generalize Op.bytesLess y.s x.s = q at *
    generalize x.s = s1 at *
    generalize y.s = s2 at *
    grind
theorem Order_law_r (r s t : Raw) (o : r.Ok) (o' : s.Ok) (o2 : t.Ok) (w : World) (hL : Lb w) : Ret Tryz.prog 12 [r.enc, s.enc, t.enc] w fun v w' => v = .bool true ∧ Below w.heap.size w w' := by
  have h1 := @less_one r.val s.val
  have h3 := less_tri r.val s.val
  have h2 := less_irr r.val
  have h4 := @less_trans r.val s.val t.val
  have hb := Below.refl w.heap.size w
  have hL_hb := hL
  refine enter Tryz.func12 rfl rfl rfl ?_
  refine Wc.seq fun _ hK_1 => ?_
  refine Wc.region ?_
  refine Wl.boxN rfl rfl ?_
  rintro g_o0 w_o0 hg_o0 hn_o0 hs_o0
  have hz_o0 := hs_o0.size
  have hb := hb.trans (hs_o0.mono hb.size)
  have hL := hL_hb.below hb
  have hB_o0 := hn_o0
  have hl_o0 := hB_o0.lt
  refine Wl.boxN rfl rfl ?_
  rintro g_o1 w_o1 hg_o1 hn_o1 hs_o1
  have hz_o1 := hs_o1.size
  have hb := hb.trans (hs_o1.mono hb.size)
  have hL := hL_hb.below hb
  try have hB_o0 := Blk.below hB_o0 hs_o1
  have hB_o1 := hn_o1
  have hl_o1 := hB_o1.lt
  refine Wl.boxN rfl rfl ?_
  rintro g_o2 w_o2 hg_o2 hn_o2 hs_o2
  have hz_o2 := hs_o2.size
  have hb := hb.trans (hs_o2.mono hb.size)
  have hL := hL_hb.below hb
  try have hB_o0 := Blk.below hB_o0 hs_o2
  try have hB_o1 := Blk.below hB_o1 hs_o2
  have hB_o2 := hn_o2
  have hl_o2 := hB_o2.lt
  refine Wl.y (y_assign rfl) rfl ?_
  refine Wl.nil ?_
  refine Wq.next hK_1 ?_
  refine Wc.seq fun _ hK_6 => ?_
  refine Wc.region ?_
  refine Wl.call txt14LawB rfl rfl (shown_r _ hL) rfl ?_
  rintro _ w_k0 ⟨rfl, hs_k0⟩
  have hz_k0 := hs_k0.size
  have hb := hb.trans (hs_k0.mono hb.size)
  have hL := hL_hb.below hb
  try have hB_o0 := Blk.below hB_o0 hs_k0
  try have hB_o1 := Blk.below hB_o1 hs_k0
  try have hB_o2 := Blk.below hB_o2 hs_k0
  refine Wl.y (y_assign rfl) rfl ?_
  refine Wl.nil ?_
  refine Wq.next hK_6 ?_
  refine Wc.seq fun _ hK_9 => ?_
  refine Wc.region ?_
  refine Wl.l (l_loadS Tryz.underlying24 (by kernel_rfl) rfl (by first | exact fun j u hu => hB_o0.at hu | exact fun j u hu => hB_o1.at hu | exact fun j u hu => hB_o2.at hu | assumption)) rfl ?_
  refine Wl.call txt15LawB rfl rfl (of_r r o _) rfl ?_
  rintro _ w_k1 ⟨rfl, hs_k1⟩
  have hz_k1 := hs_k1.size
  have hb := hb.trans (hs_k1.mono hb.size)
  have hL := hL_hb.below hb
  try have hB_o0 := Blk.below hB_o0 hs_k1
  try have hB_o1 := Blk.below hB_o1 hs_k1
  try have hB_o2 := Blk.below hB_o2 hs_k1
  refine Wl.allocN (z := (.agg #[(.int .i64 0), (.int .i64 0), (.float .f64 0), (str [])])) (by kernel_rfl) rfl ?_
  rintro g_o5 w_o5 hg_o5 hn_o5 hs_o5
  have hz_o5 := hs_o5.size
  have hb := hb.trans (hs_o5.mono hb.size)
  have hL := hL_hb.below hb
  try have hB_o0 := Blk.below hB_o0 hs_o5
  try have hB_o1 := Blk.below hB_o1 hs_o5
  try have hB_o2 := Blk.below hB_o2 hs_o5
  have hB_o5 := hn_o5
  have hl_o5 := hB_o5.lt
  refine Wl.storeS (by kernel_rfl) rfl rfl hB_o5 rfl rfl ?_
  rintro w_s0 hn_s0 hg_s0
  have hz_s0 := hg_s0.size
  have hb := below_blk hb hg_s0 hb.size (by omega)
  have hL := hL_hb.below hb
  try have hB_o0 := hB_o0.over hg_s0 (by omega)
  try have hB_o1 := hB_o1.over hg_s0 (by omega)
  try have hB_o2 := hB_o2.over hg_s0 (by omega)
  have hB_o5 := hn_s0
  refine Wl.nil ?_
  refine Wq.next hK_9 ?_
  refine Wc.seq fun _ hK_13 => ?_
  refine Wc.region ?_
  refine Wl.l (l_loadS Tryz.underlying24 (by kernel_rfl) rfl (by first | exact fun j u hu => hB_o0.at hu | exact fun j u hu => hB_o1.at hu | exact fun j u hu => hB_o2.at hu | exact fun j u hu => hB_o5.at hu | assumption)) rfl ?_
  refine Wl.call txt15LawB rfl rfl (of_r s o' _) rfl ?_
  rintro _ w_k2 ⟨rfl, hs_k2⟩
  have hz_k2 := hs_k2.size
  have hb := hb.trans (hs_k2.mono hb.size)
  have hL := hL_hb.below hb
  try have hB_o0 := Blk.below hB_o0 hs_k2
  try have hB_o1 := Blk.below hB_o1 hs_k2
  try have hB_o2 := Blk.below hB_o2 hs_k2
  try have hB_o5 := Blk.below hB_o5 hs_k2
  refine Wl.allocN (z := (.agg #[(.int .i64 0), (.int .i64 0), (.float .f64 0), (str [])])) (by kernel_rfl) rfl ?_
  rintro g_o6 w_o6 hg_o6 hn_o6 hs_o6
  have hz_o6 := hs_o6.size
  have hb := hb.trans (hs_o6.mono hb.size)
  have hL := hL_hb.below hb
  try have hB_o0 := Blk.below hB_o0 hs_o6
  try have hB_o1 := Blk.below hB_o1 hs_o6
  try have hB_o2 := Blk.below hB_o2 hs_o6
  try have hB_o5 := Blk.below hB_o5 hs_o6
  have hB_o6 := hn_o6
  have hl_o6 := hB_o6.lt
  refine Wl.storeS (by kernel_rfl) rfl rfl hB_o6 rfl rfl ?_
  rintro w_s1 hn_s1 hg_s1
  have hz_s1 := hg_s1.size
  have hb := below_blk hb hg_s1 hb.size (by omega)
  have hL := hL_hb.below hb
  try have hB_o0 := hB_o0.over hg_s1 (by omega)
  try have hB_o1 := hB_o1.over hg_s1 (by omega)
  try have hB_o2 := hB_o2.over hg_s1 (by omega)
  try have hB_o5 := hB_o5.over hg_s1 (by omega)
  have hB_o6 := hn_s1
  refine Wl.nil ?_
  refine Wq.next hK_13 ?_
  refine Wc.seq fun _ hK_17 => ?_
  refine Wc.region ?_
  refine Wl.l (l_loadS Tryz.underlying24 (by kernel_rfl) rfl (by first | exact fun j u hu => hB_o0.at hu | exact fun j u hu => hB_o1.at hu | exact fun j u hu => hB_o2.at hu | exact fun j u hu => hB_o5.at hu | exact fun j u hu => hB_o6.at hu | assumption)) rfl ?_
  refine Wl.call txt15LawB rfl rfl (of_r t o2 _) rfl ?_
  rintro _ w_k3 ⟨rfl, hs_k3⟩
  have hz_k3 := hs_k3.size
  have hb := hb.trans (hs_k3.mono hb.size)
  have hL := hL_hb.below hb
  try have hB_o0 := Blk.below hB_o0 hs_k3
  try have hB_o1 := Blk.below hB_o1 hs_k3
  try have hB_o2 := Blk.below hB_o2 hs_k3
  try have hB_o5 := Blk.below hB_o5 hs_k3
  try have hB_o6 := Blk.below hB_o6 hs_k3
  refine Wl.allocN (z := (.agg #[(.int .i64 0), (.int .i64 0), (.float .f64 0), (str [])])) (by kernel_rfl) rfl ?_
  rintro g_o7 w_o7 hg_o7 hn_o7 hs_o7
  have hz_o7 := hs_o7.size
  have hb := hb.trans (hs_o7.mono hb.size)
  have hL := hL_hb.below hb
  try have hB_o0 := Blk.below hB_o0 hs_o7
  try have hB_o1 := Blk.below hB_o1 hs_o7
  try have hB_o2 := Blk.below hB_o2 hs_o7
  try have hB_o5 := Blk.below hB_o5 hs_o7
  try have hB_o6 := Blk.below hB_o6 hs_o7
  have hB_o7 := hn_o7
  have hl_o7 := hB_o7.lt
  refine Wl.storeS (by kernel_rfl) rfl rfl hB_o7 rfl rfl ?_
  rintro w_s2 hn_s2 hg_s2
  have hz_s2 := hg_s2.size
  have hb := below_blk hb hg_s2 hb.size (by omega)
  have hL := hL_hb.below hb
  try have hB_o0 := hB_o0.over hg_s2 (by omega)
  try have hB_o1 := hB_o1.over hg_s2 (by omega)
  try have hB_o2 := hB_o2.over hg_s2 (by omega)
  try have hB_o5 := hB_o5.over hg_s2 (by omega)
  try have hB_o6 := hB_o6.over hg_s2 (by omega)
  have hB_o7 := hn_s2
  refine Wl.nil ?_
  refine Wq.next hK_17 ?_
  refine Wc.seq fun _ hK_21 => ?_
  refine Wc.region ?_
  refine Wl.l (l_loadS Tryz.underlying28 (by kernel_rfl) rfl (by first | exact fun j u hu => hB_o0.at hu | exact fun j u hu => hB_o1.at hu | exact fun j u hu => hB_o2.at hu | exact fun j u hu => hB_o5.at hu | exact fun j u hu => hB_o6.at hu | exact fun j u hu => hB_o7.at hu | assumption)) rfl ?_
  refine Wl.l (l_loadS Tryz.underlying28 (by kernel_rfl) rfl (by first | exact fun j u hu => hB_o0.at hu | exact fun j u hu => hB_o1.at hu | exact fun j u hu => hB_o2.at hu | exact fun j u hu => hB_o5.at hu | exact fun j u hu => hB_o6.at hu | exact fun j u hu => hB_o7.at hu | assumption)) rfl ?_
  refine Wl.call txt29LawB rfl rfl (Less_r _ _ o.val o'.val _) rfl ?_
  rintro _ w_k4 ⟨rfl, hs_k4⟩
  have hz_k4 := hs_k4.size
  have hb := hb.trans (hs_k4.mono hb.size)
  have hL := hL_hb.below hb
  try have hB_o0 := Blk.below hB_o0 hs_k4
  try have hB_o1 := Blk.below hB_o1 hs_k4
  try have hB_o2 := Blk.below hB_o2 hs_k4
  try have hB_o5 := Blk.below hB_o5 hs_k4
  try have hB_o6 := Blk.below hB_o6 hs_k4
  try have hB_o7 := Blk.below hB_o7 hs_k4
  refine Wl.y (y_assign rfl) rfl ?_
  refine Wl.nil ?_
  refine Wq.next hK_21 ?_
  refine Wc.seq fun _ hK_26 => ?_
  refine Wc.region ?_
  refine Wl.l (l_loadS Tryz.underlying28 (by kernel_rfl) rfl (by first | exact fun j u hu => hB_o0.at hu | exact fun j u hu => hB_o1.at hu | exact fun j u hu => hB_o2.at hu | exact fun j u hu => hB_o5.at hu | exact fun j u hu => hB_o6.at hu | exact fun j u hu => hB_o7.at hu | assumption)) rfl ?_
  refine Wl.l (l_loadS Tryz.underlying28 (by kernel_rfl) rfl (by first | exact fun j u hu => hB_o0.at hu | exact fun j u hu => hB_o1.at hu | exact fun j u hu => hB_o2.at hu | exact fun j u hu => hB_o5.at hu | exact fun j u hu => hB_o6.at hu | exact fun j u hu => hB_o7.at hu | assumption)) rfl ?_
  refine Wl.call txt29LawB rfl rfl (Less_r _ _ o'.val o.val _) rfl ?_
  rintro _ w_k5 ⟨rfl, hs_k5⟩
  have hz_k5 := hs_k5.size
  have hb := hb.trans (hs_k5.mono hb.size)
  have hL := hL_hb.below hb
  try have hB_o0 := Blk.below hB_o0 hs_k5
  try have hB_o1 := Blk.below hB_o1 hs_k5
  try have hB_o2 := Blk.below hB_o2 hs_k5
  try have hB_o5 := Blk.below hB_o5 hs_k5
  try have hB_o6 := Blk.below hB_o6 hs_k5
  try have hB_o7 := Blk.below hB_o7 hs_k5
  refine Wl.y (y_assign rfl) rfl ?_
  refine Wl.nil ?_
  refine Wq.next hK_26 ?_
  refine Wc.seq fun _ hK_31 => ?_
  refine Wc.region ?_
  refine Wl.l (l_loadS Tryz.underlying28 (by kernel_rfl) rfl (by first | exact fun j u hu => hB_o0.at hu | exact fun j u hu => hB_o1.at hu | exact fun j u hu => hB_o2.at hu | exact fun j u hu => hB_o5.at hu | exact fun j u hu => hB_o6.at hu | exact fun j u hu => hB_o7.at hu | assumption)) rfl ?_
  refine Wl.l (l_loadS Tryz.underlying28 (by kernel_rfl) rfl (by first | exact fun j u hu => hB_o0.at hu | exact fun j u hu => hB_o1.at hu | exact fun j u hu => hB_o2.at hu | exact fun j u hu => hB_o5.at hu | exact fun j u hu => hB_o6.at hu | exact fun j u hu => hB_o7.at hu | assumption)) rfl ?_
  refine Wl.call txt27LawB rfl rfl (Same_r _ _ o.val o'.val _) rfl ?_
  rintro _ w_k6 ⟨rfl, hs_k6⟩
  have hz_k6 := hs_k6.size
  have hb := hb.trans (hs_k6.mono hb.size)
  have hL := hL_hb.below hb
  try have hB_o0 := Blk.below hB_o0 hs_k6
  try have hB_o1 := Blk.below hB_o1 hs_k6
  try have hB_o2 := Blk.below hB_o2 hs_k6
  try have hB_o5 := Blk.below hB_o5 hs_k6
  try have hB_o6 := Blk.below hB_o6 hs_k6
  try have hB_o7 := Blk.below hB_o7 hs_k6
  refine Wl.y (y_assign rfl) rfl ?_
  refine Wl.nil ?_
  refine Wq.next hK_31 ?_
  refine Wc.seq fun _ hK_36 => ?_
  refine Wc.seq fun _ hK_37 => ?_
  refine Wc.region ?_
  refine Wl.y (y_move rfl) rfl ?_
  refine Wl.y (y_move rfl) rfl ?_
  refine Wl.guardT rfl rfl rfl (fun g_40 => ?_) (fun g_40 => ?_)
  ·
   have g_40_ := g_40
   refine Wl.y (y_move rfl) rfl ?_
   refine Wl.y (y_pickT rfl g_40_ rfl) rfl ?_
   refine Wl.y (y_move rfl) rfl ?_
   refine Wl.guardF rfl rfl rfl (fun g_44 => ?_) (fun g_44 => ?_)
   ·
    have g_44_ := g_44
    refine Wl.off' rfl rfl g_44_ rfl rfl ?_
    refine Wl.offU rfl rfl rfl ?_
    refine Wl.off' rfl rfl g_44_ rfl rfl ?_
    refine Wl.off' rfl rfl g_44_ rfl rfl ?_
    refine Wl.off' rfl rfl g_44_ rfl rfl ?_
    refine Wl.y (y_pickT rfl g_44_ rfl) rfl ?_
    refine Wl.nil ?_
    refine Wq.next hK_37 ?_
    refine Wc.condT rfl rfl ?_
    refine Wc.seq fun _ hK_46 => ?_
    refine Wc.region ?_
    refine Wl.y (y_assign rfl) rfl ?_
    refine Wl.nil ?_
    refine Wq.next hK_46 ?_
    refine Wc.ret ?_
    refine Wq.then_ret ?_
    refine ret1 rfl rfl ?_
    first | exact ⟨_, rfl, rfl, hb⟩ | exact ⟨_, rfl, bool_eq (by simp_all), hb⟩
   ·
    have g_44_ := g_44
    refine Wl.y (y_move rfl) rfl ?_
    refine Wl.on' rfl rfl g_44_ ?_
    refine Wl.y (y_move rfl) rfl ?_
    refine Wl.off' rfl rfl g_40_ rfl rfl ?_
    refine Wl.on' rfl rfl g_44_ ?_
    refine Wl.y (y_pickT rfl g_40_ rfl) rfl ?_
    refine Wl.on' rfl rfl g_44_ ?_
    refine Wl.y (y_move rfl) rfl ?_
    refine Wl.on' rfl rfl g_44_ ?_
    refine Wl.y (y_eqlb Tryz.underlying4 rfl rfl) rfl ?_
    refine Wl.y (y_pickF rfl g_44_ rfl) rfl ?_
    refine Wl.nil ?_
    refine Wq.next hK_37 ?_
    refine Wc.cond rfl (fun c0_54 => ?_) (fun c0_54 => ?_)
    ·
     refine Wc.seq fun _ hK_55 => ?_
     refine Wc.region ?_
     refine Wl.y (y_assign rfl) rfl ?_
     refine Wl.nil ?_
     refine Wq.next hK_55 ?_
     refine Wc.ret ?_
     refine Wq.then_ret ?_
     refine ret1 rfl rfl ?_
     first | exact ⟨_, rfl, rfl, hb⟩ | exact ⟨_, rfl, bool_eq (by simp_all), hb⟩
    ·
     refine Wc.skip ?_
     refine Wq.next hK_36 ?_
     refine Wc.seq fun _ hK_57 => ?_
     refine Wc.region ?_
     refine Wl.y (y_move rfl) rfl ?_
     refine Wl.y (y_move rfl) rfl ?_
     refine Wl.guardT rfl rfl rfl (fun g_60 => ?_) (fun g_60 => ?_)
     ·
      have g_60_ := g_60
      refine Wl.l (l_loadS Tryz.underlying28 (by kernel_rfl) rfl (by first | exact fun j u hu => hB_o0.at hu | exact fun j u hu => hB_o1.at hu | exact fun j u hu => hB_o2.at hu | exact fun j u hu => hB_o5.at hu | exact fun j u hu => hB_o6.at hu | exact fun j u hu => hB_o7.at hu | assumption)) rfl ?_
      refine Wl.on' rfl rfl g_60_ ?_
      refine Wl.l (l_loadS Tryz.underlying28 (by kernel_rfl) rfl (by first | exact fun j u hu => hB_o0.at hu | exact fun j u hu => hB_o1.at hu | exact fun j u hu => hB_o2.at hu | exact fun j u hu => hB_o5.at hu | exact fun j u hu => hB_o6.at hu | exact fun j u hu => hB_o7.at hu | assumption)) rfl ?_
      refine Wl.on' rfl rfl g_60_ ?_
      refine Wl.call txt29LawB rfl rfl (Less_r _ _ o.val o.val _) rfl ?_
      rintro _ w_k7 ⟨rfl, hs_k7⟩
      have hz_k7 := hs_k7.size
      have hb := hb.trans (hs_k7.mono hb.size)
      have hL := hL_hb.below hb
      try have hB_o0 := Blk.below hB_o0 hs_k7
      try have hB_o1 := Blk.below hB_o1 hs_k7
      try have hB_o2 := Blk.below hB_o2 hs_k7
      try have hB_o5 := Blk.below hB_o5 hs_k7
      try have hB_o6 := Blk.below hB_o6 hs_k7
      try have hB_o7 := Blk.below hB_o7 hs_k7
      refine Wl.on' rfl rfl g_60_ ?_
      refine Wl.y (y_not rfl) rfl ?_
      refine Wl.y (y_pickT rfl g_60_ rfl) rfl ?_
      refine Wl.y (y_move rfl) rfl ?_
      refine Wl.guardT rfl rfl rfl (fun g_67 => ?_) (fun g_67 => ?_)
      ·
       have g_67_ := g_67
       refine Wl.y (y_move rfl) rfl ?_
       refine Wl.on' rfl rfl g_67_ ?_
       refine Wl.y (y_not rfl) rfl ?_
       refine Wl.on' rfl rfl g_67_ ?_
       refine Wl.y (y_move rfl) rfl ?_
       refine Wl.guardF rfl rfl rfl (fun g_71 => ?_) (fun g_71 => ?_)
       ·
        have g_71_ := g_71
        refine Wl.off' rfl rfl g_71_ rfl rfl ?_
        refine Wl.off' rfl rfl g_71_ rfl rfl ?_
        refine Wl.off' rfl rfl g_71_ rfl rfl ?_
        refine Wl.on' rfl rfl g_67_ ?_
        refine Wl.y (y_pickT rfl g_71_ rfl) rfl ?_
        refine Wl.on' rfl rfl g_67_ ?_
        refine Wl.y (y_move rfl) rfl ?_
        refine Wl.off' rfl rfl rfl rfl rfl ?_
        refine Wl.off' rfl rfl rfl rfl rfl ?_
        refine Wl.off' rfl rfl rfl rfl rfl ?_
        refine Wl.on' rfl rfl g_67_ ?_
        refine Wl.y (y_pickT rfl rfl rfl) rfl ?_
        refine Wl.y (y_pickT rfl g_67_ rfl) rfl ?_
        refine Wl.y (y_assign rfl) rfl ?_
        refine Wl.nil ?_
        refine Wq.next hK_57 ?_
        refine Wc.ret ?_
        refine ret1 rfl rfl ?_
        first | exact ⟨_, rfl, rfl, hb⟩ | exact ⟨_, rfl, bool_eq (by simp_all), hb⟩
       ·
        have g_71_ := g_71
        refine Wl.l (l_loadS Tryz.underlying28 (by kernel_rfl) rfl (by first | exact fun j u hu => hB_o0.at hu | exact fun j u hu => hB_o1.at hu | exact fun j u hu => hB_o2.at hu | exact fun j u hu => hB_o5.at hu | exact fun j u hu => hB_o6.at hu | exact fun j u hu => hB_o7.at hu | assumption)) rfl ?_
        refine Wl.on' rfl rfl g_71_ ?_
        refine Wl.l (l_loadS Tryz.underlying28 (by kernel_rfl) rfl (by first | exact fun j u hu => hB_o0.at hu | exact fun j u hu => hB_o1.at hu | exact fun j u hu => hB_o2.at hu | exact fun j u hu => hB_o5.at hu | exact fun j u hu => hB_o6.at hu | exact fun j u hu => hB_o7.at hu | assumption)) rfl ?_
        refine Wl.on' rfl rfl g_71_ ?_
        refine Wl.call txt29LawB rfl rfl (Less_r _ _ o'.val o2.val _) rfl ?_
        rintro _ w_k8 ⟨rfl, hs_k8⟩
        have hz_k8 := hs_k8.size
        have hb := hb.trans (hs_k8.mono hb.size)
        have hL := hL_hb.below hb
        try have hB_o0 := Blk.below hB_o0 hs_k8
        try have hB_o1 := Blk.below hB_o1 hs_k8
        try have hB_o2 := Blk.below hB_o2 hs_k8
        try have hB_o5 := Blk.below hB_o5 hs_k8
        try have hB_o6 := Blk.below hB_o6 hs_k8
        try have hB_o7 := Blk.below hB_o7 hs_k8
        refine Wl.on' rfl rfl g_71_ ?_
        refine Wl.y (y_not rfl) rfl ?_
        refine Wl.on' rfl rfl g_67_ ?_
        refine Wl.y (y_pickF rfl g_71_ rfl) rfl ?_
        refine Wl.on' rfl rfl g_67_ ?_
        refine Wl.y (y_move rfl) rfl ?_
        refine Wl.guardF rfl rfl rfl (fun g_83 => ?_) (fun g_83 => ?_)
        ·
         have g_83_ := g_83
         refine Wl.off' rfl rfl g_83_ rfl rfl ?_
         refine Wl.off' rfl rfl g_83_ rfl rfl ?_
         refine Wl.on' rfl rfl g_67_ ?_
         refine Wl.y (y_pickT rfl g_83_ rfl) rfl ?_
         refine Wl.y (y_pickT rfl g_67_ rfl) rfl ?_
         refine Wl.y (y_assign rfl) rfl ?_
         refine Wl.nil ?_
         refine Wq.next hK_57 ?_
         refine Wc.ret ?_
         refine ret1 rfl rfl ?_
         first | exact ⟨_, rfl, rfl, hb⟩ | exact ⟨_, rfl, bool_eq (by simp_all), hb⟩
        ·
         have g_83_ := g_83
         refine Wl.l (l_loadS Tryz.underlying28 (by kernel_rfl) rfl (by first | exact fun j u hu => hB_o0.at hu | exact fun j u hu => hB_o1.at hu | exact fun j u hu => hB_o2.at hu | exact fun j u hu => hB_o5.at hu | exact fun j u hu => hB_o6.at hu | exact fun j u hu => hB_o7.at hu | assumption)) rfl ?_
         refine Wl.on' rfl rfl g_83_ ?_
         refine Wl.l (l_loadS Tryz.underlying28 (by kernel_rfl) rfl (by first | exact fun j u hu => hB_o0.at hu | exact fun j u hu => hB_o1.at hu | exact fun j u hu => hB_o2.at hu | exact fun j u hu => hB_o5.at hu | exact fun j u hu => hB_o6.at hu | exact fun j u hu => hB_o7.at hu | assumption)) rfl ?_
         refine Wl.on' rfl rfl g_83_ ?_
         refine Wl.call txt29LawB rfl rfl (Less_r _ _ o.val o2.val _) rfl ?_
         rintro _ w_k9 ⟨rfl, hs_k9⟩
         have hz_k9 := hs_k9.size
         have hb := hb.trans (hs_k9.mono hb.size)
         have hL := hL_hb.below hb
         refine Wl.on' rfl rfl g_67_ ?_
         refine Wl.y (y_pickF rfl g_83_ rfl) rfl ?_
         refine Wl.y (y_pickT rfl g_67_ rfl) rfl ?_
         refine Wl.y (y_assign rfl) rfl ?_
         refine Wl.nil ?_
         refine Wq.next hK_57 ?_
         refine Wc.ret ?_
         refine ret1 rfl rfl ?_
         first | exact ⟨_, rfl, rfl, hb⟩ | exact ⟨_, rfl, bool_eq (by simp_all), hb⟩
      ·
       have g_67_ := g_67
       refine Wl.off' rfl rfl g_67_ rfl rfl ?_
       refine Wl.off' rfl rfl g_67_ rfl rfl ?_
       refine Wl.offU rfl rfl rfl ?_
       refine Wl.offU rfl rfl rfl ?_
       refine Wl.offU rfl rfl rfl ?_
       refine Wl.offU rfl rfl rfl ?_
       refine Wl.off' rfl rfl g_67_ rfl rfl ?_
       refine Wl.off' rfl rfl g_67_ rfl rfl ?_
       refine Wl.offU rfl rfl rfl ?_
       refine Wl.offU rfl rfl rfl ?_
       refine Wl.offU rfl rfl rfl ?_
       refine Wl.off' rfl rfl g_67_ rfl rfl ?_
       refine Wl.y (y_pickF rfl g_67_ rfl) rfl ?_
       refine Wl.y (y_assign rfl) rfl ?_
       refine Wl.nil ?_
       refine Wq.next hK_57 ?_
       refine Wc.ret ?_
       refine ret1 rfl rfl ?_
       first | exact ⟨_, rfl, rfl, hb⟩ | exact ⟨_, rfl, bool_eq (by simp_all), hb⟩
     ·
      have g_60_ := g_60
      refine Wl.off' rfl rfl g_60_ rfl rfl ?_
      refine Wl.off' rfl rfl g_60_ rfl rfl ?_
      refine Wl.off' rfl rfl g_60_ rfl rfl ?_
      refine Wl.y (y_pickF rfl g_60_ rfl) rfl ?_
      refine Wl.y (y_move rfl) rfl ?_
      refine Wl.off' rfl rfl rfl rfl rfl ?_
      refine Wl.off' rfl rfl rfl rfl rfl ?_
      refine Wl.off' rfl rfl rfl rfl rfl ?_
      refine Wl.offU rfl rfl rfl ?_
      refine Wl.offU rfl rfl rfl ?_
      refine Wl.offU rfl rfl rfl ?_
      refine Wl.offU rfl rfl rfl ?_
      refine Wl.off' rfl rfl rfl rfl rfl ?_
      refine Wl.off' rfl rfl rfl rfl rfl ?_
      refine Wl.offU rfl rfl rfl ?_
      refine Wl.offU rfl rfl rfl ?_
      refine Wl.offU rfl rfl rfl ?_
      refine Wl.off' rfl rfl rfl rfl rfl ?_
      refine Wl.y (y_pickF rfl rfl rfl) rfl ?_
      refine Wl.y (y_assign rfl) rfl ?_
      refine Wl.nil ?_
      refine Wq.next hK_57 ?_
      refine Wc.ret ?_
      refine ret1 rfl rfl ?_
      first | exact ⟨_, rfl, rfl, hb⟩ | exact ⟨_, rfl, bool_eq (by simp_all), hb⟩
  ·
   have g_40_ := g_40
   refine Wl.y (y_pickF rfl g_40_ rfl) rfl ?_
   refine Wl.y (y_move rfl) rfl ?_
   refine Wl.on' rfl rfl rfl ?_
   refine Wl.y (y_move rfl) rfl ?_
   refine Wl.on' rfl rfl rfl ?_
   refine Wl.y (y_move rfl) rfl ?_
   refine Wl.on' rfl rfl g_40_ ?_
   refine Wl.y (y_move rfl) rfl ?_
   refine Wl.on' rfl rfl rfl ?_
   refine Wl.y (y_pickF rfl g_40_ rfl) rfl ?_
   refine Wl.on' rfl rfl rfl ?_
   refine Wl.y (y_move rfl) rfl ?_
   refine Wl.on' rfl rfl rfl ?_
   refine Wl.y (y_eqlb Tryz.underlying4 rfl rfl) rfl ?_
   refine Wl.y (y_pickF rfl rfl rfl) rfl ?_
   refine Wl.nil ?_
   refine Wq.next hK_37 ?_
   refine Wc.cond rfl (fun c0_108 => ?_) (fun c0_108 => ?_)
   ·
    refine Wc.seq fun _ hK_109 => ?_
    refine Wc.region ?_
    refine Wl.y (y_assign rfl) rfl ?_
    refine Wl.nil ?_
    refine Wq.next hK_109 ?_
    refine Wc.ret ?_
    refine Wq.then_ret ?_
    refine ret1 rfl rfl ?_
    first | exact ⟨_, rfl, rfl, hb⟩ | exact ⟨_, rfl, bool_eq (by simp_all), hb⟩
   ·
    refine Wc.skip ?_
    refine Wq.next hK_36 ?_
    refine Wc.seq fun _ hK_111 => ?_
    refine Wc.region ?_
    refine Wl.y (y_move rfl) rfl ?_
    refine Wl.y (y_move rfl) rfl ?_
    refine Wl.guardT rfl rfl rfl (fun g_114 => ?_) (fun g_114 => ?_)
    ·
     have g_114_ := g_114
     refine Wl.l (l_loadS Tryz.underlying28 (by kernel_rfl) rfl (by first | exact fun j u hu => hB_o0.at hu | exact fun j u hu => hB_o1.at hu | exact fun j u hu => hB_o2.at hu | exact fun j u hu => hB_o5.at hu | exact fun j u hu => hB_o6.at hu | exact fun j u hu => hB_o7.at hu | assumption)) rfl ?_
     refine Wl.on' rfl rfl g_114_ ?_
     refine Wl.l (l_loadS Tryz.underlying28 (by kernel_rfl) rfl (by first | exact fun j u hu => hB_o0.at hu | exact fun j u hu => hB_o1.at hu | exact fun j u hu => hB_o2.at hu | exact fun j u hu => hB_o5.at hu | exact fun j u hu => hB_o6.at hu | exact fun j u hu => hB_o7.at hu | assumption)) rfl ?_
     refine Wl.on' rfl rfl g_114_ ?_
     refine Wl.call txt29LawB rfl rfl (Less_r _ _ o.val o.val _) rfl ?_
     rintro _ w_k7 ⟨rfl, hs_k7⟩
     have hz_k7 := hs_k7.size
     have hb := hb.trans (hs_k7.mono hb.size)
     have hL := hL_hb.below hb
     try have hB_o0 := Blk.below hB_o0 hs_k7
     try have hB_o1 := Blk.below hB_o1 hs_k7
     try have hB_o2 := Blk.below hB_o2 hs_k7
     try have hB_o5 := Blk.below hB_o5 hs_k7
     try have hB_o6 := Blk.below hB_o6 hs_k7
     try have hB_o7 := Blk.below hB_o7 hs_k7
     refine Wl.on' rfl rfl g_114_ ?_
     refine Wl.y (y_not rfl) rfl ?_
     refine Wl.y (y_pickT rfl g_114_ rfl) rfl ?_
     refine Wl.y (y_move rfl) rfl ?_
     refine Wl.guardT rfl rfl rfl (fun g_121 => ?_) (fun g_121 => ?_)
     ·
      have g_121_ := g_121
      refine Wl.y (y_move rfl) rfl ?_
      refine Wl.on' rfl rfl g_121_ ?_
      refine Wl.y (y_not rfl) rfl ?_
      refine Wl.on' rfl rfl g_121_ ?_
      refine Wl.y (y_move rfl) rfl ?_
      refine Wl.guardF rfl rfl rfl (fun g_125 => ?_) (fun g_125 => ?_)
      ·
       have g_125_ := g_125
       refine Wl.off' rfl rfl g_125_ rfl rfl ?_
       refine Wl.off' rfl rfl g_125_ rfl rfl ?_
       refine Wl.off' rfl rfl g_125_ rfl rfl ?_
       refine Wl.on' rfl rfl g_121_ ?_
       refine Wl.y (y_pickT rfl g_125_ rfl) rfl ?_
       refine Wl.on' rfl rfl g_121_ ?_
       refine Wl.y (y_move rfl) rfl ?_
       refine Wl.off' rfl rfl rfl rfl rfl ?_
       refine Wl.off' rfl rfl rfl rfl rfl ?_
       refine Wl.off' rfl rfl rfl rfl rfl ?_
       refine Wl.on' rfl rfl g_121_ ?_
       refine Wl.y (y_pickT rfl rfl rfl) rfl ?_
       refine Wl.y (y_pickT rfl g_121_ rfl) rfl ?_
       refine Wl.y (y_assign rfl) rfl ?_
       refine Wl.nil ?_
       refine Wq.next hK_111 ?_
       refine Wc.ret ?_
       refine ret1 rfl rfl ?_
       first | exact ⟨_, rfl, rfl, hb⟩ | exact ⟨_, rfl, bool_eq (by simp_all), hb⟩
      ·
       have g_125_ := g_125
       refine Wl.l (l_loadS Tryz.underlying28 (by kernel_rfl) rfl (by first | exact fun j u hu => hB_o0.at hu | exact fun j u hu => hB_o1.at hu | exact fun j u hu => hB_o2.at hu | exact fun j u hu => hB_o5.at hu | exact fun j u hu => hB_o6.at hu | exact fun j u hu => hB_o7.at hu | assumption)) rfl ?_
       refine Wl.on' rfl rfl g_125_ ?_
       refine Wl.l (l_loadS Tryz.underlying28 (by kernel_rfl) rfl (by first | exact fun j u hu => hB_o0.at hu | exact fun j u hu => hB_o1.at hu | exact fun j u hu => hB_o2.at hu | exact fun j u hu => hB_o5.at hu | exact fun j u hu => hB_o6.at hu | exact fun j u hu => hB_o7.at hu | assumption)) rfl ?_
       refine Wl.on' rfl rfl g_125_ ?_
       refine Wl.call txt29LawB rfl rfl (Less_r _ _ o'.val o2.val _) rfl ?_
       rintro _ w_k8 ⟨rfl, hs_k8⟩
       have hz_k8 := hs_k8.size
       have hb := hb.trans (hs_k8.mono hb.size)
       have hL := hL_hb.below hb
       try have hB_o0 := Blk.below hB_o0 hs_k8
       try have hB_o1 := Blk.below hB_o1 hs_k8
       try have hB_o2 := Blk.below hB_o2 hs_k8
       try have hB_o5 := Blk.below hB_o5 hs_k8
       try have hB_o6 := Blk.below hB_o6 hs_k8
       try have hB_o7 := Blk.below hB_o7 hs_k8
       refine Wl.on' rfl rfl g_125_ ?_
       refine Wl.y (y_not rfl) rfl ?_
       refine Wl.on' rfl rfl g_121_ ?_
       refine Wl.y (y_pickF rfl g_125_ rfl) rfl ?_
       refine Wl.on' rfl rfl g_121_ ?_
       refine Wl.y (y_move rfl) rfl ?_
       refine Wl.guardF rfl rfl rfl (fun g_137 => ?_) (fun g_137 => ?_)
       ·
        have g_137_ := g_137
        refine Wl.off' rfl rfl g_137_ rfl rfl ?_
        refine Wl.off' rfl rfl g_137_ rfl rfl ?_
        refine Wl.on' rfl rfl g_121_ ?_
        refine Wl.y (y_pickT rfl g_137_ rfl) rfl ?_
        refine Wl.y (y_pickT rfl g_121_ rfl) rfl ?_
        refine Wl.y (y_assign rfl) rfl ?_
        refine Wl.nil ?_
        refine Wq.next hK_111 ?_
        refine Wc.ret ?_
        refine ret1 rfl rfl ?_
        first | exact ⟨_, rfl, rfl, hb⟩ | exact ⟨_, rfl, bool_eq (by simp_all), hb⟩
       ·
        have g_137_ := g_137
        refine Wl.l (l_loadS Tryz.underlying28 (by kernel_rfl) rfl (by first | exact fun j u hu => hB_o0.at hu | exact fun j u hu => hB_o1.at hu | exact fun j u hu => hB_o2.at hu | exact fun j u hu => hB_o5.at hu | exact fun j u hu => hB_o6.at hu | exact fun j u hu => hB_o7.at hu | assumption)) rfl ?_
        refine Wl.on' rfl rfl g_137_ ?_
        refine Wl.l (l_loadS Tryz.underlying28 (by kernel_rfl) rfl (by first | exact fun j u hu => hB_o0.at hu | exact fun j u hu => hB_o1.at hu | exact fun j u hu => hB_o2.at hu | exact fun j u hu => hB_o5.at hu | exact fun j u hu => hB_o6.at hu | exact fun j u hu => hB_o7.at hu | assumption)) rfl ?_
        refine Wl.on' rfl rfl g_137_ ?_
        refine Wl.call txt29LawB rfl rfl (Less_r _ _ o.val o2.val _) rfl ?_
        rintro _ w_k9 ⟨rfl, hs_k9⟩
        have hz_k9 := hs_k9.size
        have hb := hb.trans (hs_k9.mono hb.size)
        have hL := hL_hb.below hb
        refine Wl.on' rfl rfl g_121_ ?_
        refine Wl.y (y_pickF rfl g_137_ rfl) rfl ?_
        refine Wl.y (y_pickT rfl g_121_ rfl) rfl ?_
        refine Wl.y (y_assign rfl) rfl ?_
        refine Wl.nil ?_
        refine Wq.next hK_111 ?_
        refine Wc.ret ?_
        refine ret1 rfl rfl ?_
        first | exact ⟨_, rfl, rfl, hb⟩ | exact ⟨_, rfl, bool_eq (by simp_all), hb⟩
     ·
      have g_121_ := g_121
      refine Wl.off' rfl rfl g_121_ rfl rfl ?_
      refine Wl.off' rfl rfl g_121_ rfl rfl ?_
      refine Wl.offU rfl rfl rfl ?_
      refine Wl.offU rfl rfl rfl ?_
      refine Wl.offU rfl rfl rfl ?_
      refine Wl.offU rfl rfl rfl ?_
      refine Wl.off' rfl rfl g_121_ rfl rfl ?_
      refine Wl.off' rfl rfl g_121_ rfl rfl ?_
      refine Wl.offU rfl rfl rfl ?_
      refine Wl.offU rfl rfl rfl ?_
      refine Wl.offU rfl rfl rfl ?_
      refine Wl.off' rfl rfl g_121_ rfl rfl ?_
      refine Wl.y (y_pickF rfl g_121_ rfl) rfl ?_
      refine Wl.y (y_assign rfl) rfl ?_
      refine Wl.nil ?_
      refine Wq.next hK_111 ?_
      refine Wc.ret ?_
      refine ret1 rfl rfl ?_
      first | exact ⟨_, rfl, rfl, hb⟩ | exact ⟨_, rfl, bool_eq (by simp_all), hb⟩
    ·
     have g_114_ := g_114
     refine Wl.off' rfl rfl g_114_ rfl rfl ?_
     refine Wl.off' rfl rfl g_114_ rfl rfl ?_
     refine Wl.off' rfl rfl g_114_ rfl rfl ?_
     refine Wl.y (y_pickF rfl g_114_ rfl) rfl ?_
     refine Wl.y (y_move rfl) rfl ?_
     refine Wl.off' rfl rfl rfl rfl rfl ?_
     refine Wl.off' rfl rfl rfl rfl rfl ?_
     refine Wl.off' rfl rfl rfl rfl rfl ?_
     refine Wl.offU rfl rfl rfl ?_
     refine Wl.offU rfl rfl rfl ?_
     refine Wl.offU rfl rfl rfl ?_
     refine Wl.offU rfl rfl rfl ?_
     refine Wl.off' rfl rfl rfl rfl rfl ?_
     refine Wl.off' rfl rfl rfl rfl rfl ?_
     refine Wl.offU rfl rfl rfl ?_
     refine Wl.offU rfl rfl rfl ?_
     refine Wl.offU rfl rfl rfl ?_
     refine Wl.off' rfl rfl rfl rfl rfl ?_
     refine Wl.y (y_pickF rfl rfl rfl) rfl ?_
     refine Wl.y (y_assign rfl) rfl ?_
     refine Wl.nil ?_
     refine Wq.next hK_111 ?_
     refine Wc.ret ?_
     refine ret1 rfl rfl ?_
     first | exact ⟨_, rfl, rfl, hb⟩ | exact ⟨_, rfl, bool_eq (by simp_all), hb⟩
end Go.Proofs.YtijkbinjdgjioaaGreatDoor
