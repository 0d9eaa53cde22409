/- Comparing: package cmp, the order of floats. · Plain: values, how they are in order, what holds of them, how they are reckoned with. · value.truth, by the calculus. · cmp.Or, a whole number against a float. -/
import Derived.Test.YtccgjfcaomngjaaGreatDoorZD
import Derived.Test.YtccgjfcaomngjaaGreatDoorZB
import Derived.Test.YtccgjfcaomngjaaGreatDoorZA
namespace Go.Proofs.YtccgjfcaomngjaaGreatDoor
open Go.RowKit Go.Bw Go.Bw.Fl
set_option linter.unusedVariables false
set_option linter.unusedSimpArgs false
theorem txt214OrdA : Txt Tryz.prog 214 := ⟨_, Tryz.func214, by kernel_rfl, rfl⟩   -- cmp.isNaN[float64]
theorem txt215OrdA : Txt Tryz.prog 215 := ⟨_, Tryz.func215, by kernel_rfl, rfl⟩   -- cmp.isNaN[string]
theorem txt216OrdA : Txt Tryz.prog 216 := ⟨_, Tryz.func216, by kernel_rfl, rfl⟩   -- cmp.isNaN[int64]
def cmpS (x y : List UInt8) : Int := if Op.bytesLess x y = true then -1 else if x = y then 0 else 1
def cmpF (a b : Nat) : Int := if isNan a = true then (if isNan b = true then 0 else -1) else if isNan b = true then 1 else cmpI (val a) (val b)

theorem isNaNl_r (x : Int) (w : World) : Ret Tryz.prog 216 [.int .i64 x] w fun v w' => v = .bool false ∧ w' = w := by
  refine enter Tryz.func216 rfl rfl rfl ?_
  refine Wc.seq fun _ hK_1 => Wc.region <| Wl.sg rfl rfl <| Wl.nil <| Wq.next hK_1 <| Wc.seq fun _ hK_3 => Wc.region <| Wl.mv rfl rfl <| Wl.mv rfl rfl <| Wl.y (y_neqi rfl rfl) rfl ?_
  refine Wl.sg rfl rfl <| Wl.nil <| Wq.next hK_3 <| Wc.ret ?_
  refine ret1 rfl rfl ?_
  exact ⟨_, rfl, bool_eq (by simp), rfl⟩
theorem isNaNs_r (x : List UInt8) (w : World) : Ret Tryz.prog 215 [str x] w fun v w' => v = .bool false ∧ w' = w := by
  refine enter Tryz.func215 rfl rfl rfl ?_
  refine Wc.seq fun _ hK_1 => Wc.region <| Wl.sg rfl rfl <| Wl.nil <| Wq.next hK_1 <| Wc.seq fun _ hK_3 => Wc.region <| Wl.mv rfl rfl <| Wl.mv rfl rfl <| Wl.y (y_neqs rfl rfl) rfl ?_
  refine Wl.sg rfl rfl <| Wl.nil <| Wq.next hK_3 <| Wc.ret ?_
  refine ret1 rfl rfl ?_
  exact ⟨_, rfl, bool_eq (by simp), rfl⟩
theorem isNaNf_r (b : Nat) (w : World) : Ret Tryz.prog 214 [.float .f64 b] w fun v w' => v = .bool (isNan b) ∧ w' = w := by
  refine enter Tryz.func214 rfl rfl rfl ?_
  refine Wc.seq fun _ hK_1 => Wc.region <| Wl.sg rfl rfl <| Wl.nil <| Wq.next hK_1 <| Wc.seq fun _ hK_3 => Wc.region <| Wl.mv rfl rfl <| Wl.mv rfl rfl <| Wl.y (y_neqf rfl rfl) rfl ?_
  refine Wl.sg rfl rfl <| Wl.nil <| Wq.next hK_3 <| Wc.ret ?_
  refine ret1 rfl rfl ?_
  exact ⟨_, rfl, bool_eq (ne_self_f b), rfl⟩

theorem Cmpl_r (x y : Int) (w : World) : Ret Tryz.prog 166 [.int .i64 x, .int .i64 y] w fun v w' => v = .int .i64 (cmpI x y) ∧ w' = w := by
  refine enter Tryz.func166 rfl rfl rfl ?_
  refine Wc.seq fun _ hK_1 => Wc.region <| Wl.sg rfl rfl <| Wl.nil <| Wq.next hK_1 <| Wc.seq fun _ hK_3 => Wc.region <| Wl.mv rfl rfl ?_
  refine Wl.call txt216OrdA rfl rfl (isNaNl_r _ _) rfl ?_
  rintro _ w_ ⟨rfl, hw_⟩
  have hw_ := hw_.symm; subst hw_
  refine Wl.sg rfl rfl <| Wl.nil <| Wq.next hK_3 <| Wc.seq fun _ hK_7 => Wc.region <| Wl.mv rfl rfl ?_
  refine Wl.call txt216OrdA rfl rfl (isNaNl_r _ _) rfl ?_
  rintro _ w_ ⟨rfl, hw_⟩
  have hw_ := hw_.symm; subst hw_
  refine Wl.sg rfl rfl <| Wl.nil <| Wq.next hK_7 <| Wc.seq fun _ hK_11 => Wc.seq fun _ hK_12 => Wc.region <| Wl.mv rfl rfl <| Wl.nil <| Wq.next hK_12 ?_
  refine Wc.cond rfl (fun c0_14 => ?_) (fun c0_14 => ?_)
  ·
   have c0_14_ := c0_14
   try simp only [DZ] at c0_14
   cases c0_14_
  have c0_14_ := c0_14
  try simp only [DZ] at c0_14
  refine Wc.skip <| Wq.next hK_11 <| Wc.seq fun _ hK_15 => Wc.seq fun _ hK_16 => Wc.region <| Wl.mv rfl rfl <| Wl.nil <| Wq.next hK_16 ?_
  refine Wc.cond rfl (fun c2_18 => ?_) (fun c2_18 => ?_)
  ·
   have c2_18_ := c2_18
   try simp only [DZ] at c2_18
   cases c2_18_
  have c2_18_ := c2_18
  try simp only [DZ] at c2_18
  refine Wc.skip <| Wq.next hK_15 <| Wc.seq fun _ hK_19 => Wc.seq fun _ hK_20 => Wc.region <| Wl.mv rfl rfl <| Wl.mv rfl rfl <| Wl.y (y_lssi rfl rfl) rfl <| Wl.nil <| Wq.next hK_20 ?_
  refine Wc.cond rfl (fun c3_24 => ?_) (fun c3_24 => ?_)
  ·
   have c3_24_ := c3_24
   try simp only [DZ] at c3_24
   refine Wc.seq fun _ hK_25 => Wc.region <| Wl.sg rfl rfl <| Wl.nil <| Wq.next hK_25 <| Wc.ret <| Wq.then_ret ?_
   refine ret1 rfl rfl ?_
   exact ⟨_, rfl, int_eq (by unfold cmpI; simp_all; try omega), rfl⟩
  have c3_24_ := c3_24
  try simp only [DZ] at c3_24
  refine Wc.skip <| Wq.next hK_19 <| Wc.seq fun _ hK_27 => Wc.seq fun _ hK_28 => Wc.region <| Wl.mv rfl rfl <| Wl.mv rfl rfl <| Wl.y (y_gtri rfl rfl) rfl <| Wl.nil <| Wq.next hK_28 ?_
  refine Wc.cond rfl (fun c4_32 => ?_) (fun c4_32 => ?_)
  ·
   have c4_32_ := c4_32
   try simp only [DZ] at c4_32
   refine Wc.seq fun _ hK_33 => Wc.region <| Wl.sg rfl rfl <| Wl.nil <| Wq.next hK_33 <| Wc.ret <| Wq.then_ret ?_
   refine ret1 rfl rfl ?_
   exact ⟨_, rfl, int_eq (by unfold cmpI; simp_all; try omega), rfl⟩
  have c4_32_ := c4_32
  try simp only [DZ] at c4_32
  refine Wc.skip <| Wq.next hK_27 <| Wc.seq fun _ hK_35 => Wc.region <| Wl.sg rfl rfl <| Wl.nil <| Wq.next hK_35 <| Wc.ret ?_
  refine ret1 rfl rfl ?_
  exact ⟨_, rfl, int_eq (by unfold cmpI; simp_all; try omega), rfl⟩
theorem Cmps_r (x y : List UInt8) (w : World) : Ret Tryz.prog 165 [str x, str y] w fun v w' => v = .int .i64 (cmpS x y) ∧ w' = w := by
  refine enter Tryz.func165 rfl rfl rfl ?_
  refine Wc.seq fun _ hK_1 => Wc.region <| Wl.sg rfl rfl <| Wl.nil <| Wq.next hK_1 <| Wc.seq fun _ hK_3 => Wc.region <| Wl.mv rfl rfl ?_
  refine Wl.call txt215OrdA rfl rfl (isNaNs_r _ _) rfl ?_
  rintro _ w_ ⟨rfl, hw_⟩
  have hw_ := hw_.symm; subst hw_
  refine Wl.sg rfl rfl <| Wl.nil <| Wq.next hK_3 <| Wc.seq fun _ hK_7 => Wc.region <| Wl.mv rfl rfl ?_
  refine Wl.call txt215OrdA rfl rfl (isNaNs_r _ _) rfl ?_
  rintro _ w_ ⟨rfl, hw_⟩
  have hw_ := hw_.symm; subst hw_
  refine Wl.sg rfl rfl <| Wl.nil <| Wq.next hK_7 <| Wc.seq fun _ hK_11 => Wc.seq fun _ hK_12 => Wc.region <| Wl.mv rfl rfl <| Wl.nil <| Wq.next hK_12 ?_
  refine Wc.cond rfl (fun c0_14 => ?_) (fun c0_14 => ?_)
  ·
   have c0_14_ := c0_14
   try simp only [DZ] at c0_14
   cases c0_14_
  have c0_14_ := c0_14
  try simp only [DZ] at c0_14
  refine Wc.skip <| Wq.next hK_11 <| Wc.seq fun _ hK_15 => Wc.seq fun _ hK_16 => Wc.region <| Wl.mv rfl rfl <| Wl.nil <| Wq.next hK_16 ?_
  refine Wc.cond rfl (fun c2_18 => ?_) (fun c2_18 => ?_)
  ·
   have c2_18_ := c2_18
   try simp only [DZ] at c2_18
   cases c2_18_
  have c2_18_ := c2_18
  try simp only [DZ] at c2_18
  refine Wc.skip <| Wq.next hK_15 <| Wc.seq fun _ hK_19 => Wc.seq fun _ hK_20 => Wc.region <| Wl.mv rfl rfl <| Wl.mv rfl rfl <| Wl.y (y_lsss rfl rfl) rfl <| Wl.nil <| Wq.next hK_20 ?_
  refine Wc.cond rfl (fun c3_24 => ?_) (fun c3_24 => ?_)
  ·
   have c3_24_ := c3_24
   try simp only [DZ] at c3_24
   refine Wc.seq fun _ hK_25 => Wc.region <| Wl.sg rfl rfl <| Wl.nil <| Wq.next hK_25 <| Wc.ret <| Wq.then_ret ?_
   refine ret1 rfl rfl ?_
   exact ⟨_, rfl, int_eq (by unfold cmpS; rw [if_pos c3_24_]), rfl⟩
  have c3_24_ := c3_24
  try simp only [DZ] at c3_24
  refine Wc.skip <| Wq.next hK_19 <| Wc.seq fun _ hK_27 => Wc.seq fun _ hK_28 => Wc.region <| Wl.mv rfl rfl <| Wl.mv rfl rfl <| Wl.y (y_gtrs rfl rfl) rfl <| Wl.nil <| Wq.next hK_28 ?_
  refine Wc.cond rfl (fun c4_32 => ?_) (fun c4_32 => ?_)
  ·
   have c4_32_ := c4_32
   try simp only [DZ] at c4_32
   refine Wc.seq fun _ hK_33 => Wc.region <| Wl.sg rfl rfl <| Wl.nil <| Wq.next hK_33 <| Wc.ret <| Wq.then_ret ?_
   refine ret1 rfl rfl ?_
   exact ⟨_, rfl, int_eq (by unfold cmpS; rw [if_neg (ne_tt c3_24_)]; have h := c4_32_; rw [c3_24_] at h; simp at h; rw [if_neg h]), rfl⟩
  have c4_32_ := c4_32
  try simp only [DZ] at c4_32
  refine Wc.skip <| Wq.next hK_27 <| Wc.seq fun _ hK_35 => Wc.region <| Wl.sg rfl rfl <| Wl.nil <| Wq.next hK_35 <| Wc.ret ?_
  refine ret1 rfl rfl ?_
  exact ⟨_, rfl, int_eq (by unfold cmpS; rw [if_neg (ne_tt c3_24_)]; have h := c4_32_; rw [c3_24_] at h; simp at h; rw [if_pos h]), rfl⟩
theorem Cmpf_r (a b : Nat) (w : World) : Ret Tryz.prog 164 [.float .f64 a, .float .f64 b] w fun v w' => v = .int .i64 (cmpF a b) ∧ w' = w := by
  have hl : (FloatKind.f64.format.order a b == some .lt) = (!isNan a && !isNan b && decide (val a < val b)) := lt_val
  have hg : (FloatKind.f64.format.order a b == some .gt) = (!isNan a && !isNan b && decide (val b < val a)) := gt_val
  refine enter Tryz.func164 rfl rfl rfl ?_
  refine Wc.seq fun _ hK_1 => Wc.region <| Wl.sg rfl rfl <| Wl.nil <| Wq.next hK_1 <| Wc.seq fun _ hK_3 => Wc.region <| Wl.mv rfl rfl ?_
  refine Wl.call txt214OrdA rfl rfl (isNaNf_r _ _) rfl ?_
  rintro _ w_ ⟨rfl, hw_⟩
  have hw_ := hw_.symm; subst hw_
  refine Wl.sg rfl rfl <| Wl.nil <| Wq.next hK_3 <| Wc.seq fun _ hK_7 => Wc.region <| Wl.mv rfl rfl ?_
  refine Wl.call txt214OrdA rfl rfl (isNaNf_r _ _) rfl ?_
  rintro _ w_ ⟨rfl, hw_⟩
  have hw_ := hw_.symm; subst hw_
  refine Wl.sg rfl rfl <| Wl.nil <| Wq.next hK_7 <| Wc.seq fun _ hK_11 => Wc.seq fun _ hK_12 => Wc.region <| Wl.mv rfl rfl <| Wl.nil <| Wq.next hK_12 ?_
  refine Wc.cond rfl (fun c0_14 => ?_) (fun c0_14 => ?_)
  ·
   have c0_14_ := c0_14
   try simp only [DZ] at c0_14
   refine Wc.seq fun _ hK_15 => Wc.seq fun _ hK_16 => Wc.region <| Wl.mv rfl rfl <| Wl.nil <| Wq.next hK_16 ?_
   refine Wc.cond rfl (fun c1_18 => ?_) (fun c1_18 => ?_)
   ·
    have c1_18_ := c1_18
    try simp only [DZ] at c1_18
    refine Wc.seq fun _ hK_19 => Wc.region <| Wl.sg rfl rfl <| Wl.nil <| Wq.next hK_19 <| Wc.ret ?_
    refine Wq.then_ret (Wq.then_ret ?_)
    refine ret1 rfl rfl ?_
    exact ⟨_, rfl, int_eq (by unfold cmpF cmpI; simp_all; try omega), rfl⟩
   have c1_18_ := c1_18
   try simp only [DZ] at c1_18
   refine Wc.skip <| Wq.next hK_15 <| Wc.seq fun _ hK_21 => Wc.region <| Wl.sg rfl rfl <| Wl.nil <| Wq.next hK_21 <| Wc.ret <| Wq.then_ret ?_
   refine ret1 rfl rfl ?_
   exact ⟨_, rfl, int_eq (by unfold cmpF cmpI; simp_all; try omega), rfl⟩
  have c0_14_ := c0_14
  try simp only [DZ] at c0_14
  refine Wc.skip <| Wq.next hK_11 <| Wc.seq fun _ hK_23 => Wc.seq fun _ hK_24 => Wc.region <| Wl.mv rfl rfl <| Wl.nil <| Wq.next hK_24 ?_
  refine Wc.cond rfl (fun c2_26 => ?_) (fun c2_26 => ?_)
  ·
   have c2_26_ := c2_26
   try simp only [DZ] at c2_26
   refine Wc.seq fun _ hK_27 => Wc.region <| Wl.sg rfl rfl <| Wl.nil <| Wq.next hK_27 <| Wc.ret <| Wq.then_ret ?_
   refine ret1 rfl rfl ?_
   exact ⟨_, rfl, int_eq (by unfold cmpF cmpI; simp_all; try omega), rfl⟩
  have c2_26_ := c2_26
  try simp only [DZ] at c2_26
  refine Wc.skip <| Wq.next hK_23 <| Wc.seq fun _ hK_29 => Wc.seq fun _ hK_30 => Wc.region <| Wl.mv rfl rfl <| Wl.mv rfl rfl <| Wl.y (y_lssf rfl rfl) rfl <| Wl.nil <| Wq.next hK_30 ?_
  rw [hl]
  refine Wc.cond rfl (fun c3_34 => ?_) (fun c3_34 => ?_)
  ·
   have c3_34_ := c3_34
   try simp only [DZ] at c3_34
   refine Wc.seq fun _ hK_35 => Wc.region <| Wl.sg rfl rfl <| Wl.nil <| Wq.next hK_35 <| Wc.ret <| Wq.then_ret ?_
   refine ret1 rfl rfl ?_
   exact ⟨_, rfl, int_eq (by unfold cmpF cmpI; simp_all; try omega), rfl⟩
  have c3_34_ := c3_34
  try simp only [DZ] at c3_34
  refine Wc.skip <| Wq.next hK_29 <| Wc.seq fun _ hK_37 => Wc.seq fun _ hK_38 => Wc.region <| Wl.mv rfl rfl <| Wl.mv rfl rfl <| Wl.y (y_gtrf rfl rfl) rfl <| Wl.nil <| Wq.next hK_38 ?_
  rw [hg]
  refine Wc.cond rfl (fun c4_42 => ?_) (fun c4_42 => ?_)
  ·
   have c4_42_ := c4_42
   try simp only [DZ] at c4_42
   refine Wc.seq fun _ hK_43 => Wc.region <| Wl.sg rfl rfl <| Wl.nil <| Wq.next hK_43 <| Wc.ret <| Wq.then_ret ?_
   refine ret1 rfl rfl ?_
   exact ⟨_, rfl, int_eq (by unfold cmpF cmpI; simp_all; try omega), rfl⟩
  have c4_42_ := c4_42
  try simp only [DZ] at c4_42
  refine Wc.skip <| Wq.next hK_37 <| Wc.seq fun _ hK_45 => Wc.region <| Wl.sg rfl rfl <| Wl.nil <| Wq.next hK_45 <| Wc.ret ?_
  refine ret1 rfl rfl ?_
  exact ⟨_, rfl, int_eq (by unfold cmpF cmpI; simp_all; try omega), rfl⟩

/-- a number in the order of floats -/
def keyW (b : Nat) : Nat := if isNan b = true then 18446744073709551615 else if 9223372036854775808 ≤ b then 18446744073709551615 - b else b + 9223372036854775808
theorem not64 (b : Nat) (h : b < 18446744073709551616) : bits .xor .u64 18446744073709551615 (b : Int) = ((18446744073709551615 - b : Nat) : Int) := by
  have h1 := u64_xor_nat 18446744073709551615 b (by decide) h
  rw [show ((18446744073709551615 : Nat) : Int) = 18446744073709551615 from rfl] at h1
  rw [h1]; congr 1
  have h2 : (18446744073709551615 : Nat) = 2 ^ 64 - 1 := by decide
  have h3 : (BitVec.ofNat 64 b ^^^ BitVec.allOnes 64).toNat = (~~~ (BitVec.ofNat 64 b)).toNat := by rw [BitVec.xor_allOnes]
  rw [BitVec.toNat_xor, BitVec.toNat_allOnes, BitVec.toNat_not, BitVec.toNat_ofNat, Nat.mod_eq_of_lt (show b < 2 ^ 64 by simpa using h)] at h3
  rw [h2, Nat.xor_comm, h3]
theorem orTop (b : Nat) (h : b < 9223372036854775808) : bits .or .u64 (b : Int) 9223372036854775808 = ((b + 9223372036854775808 : Nat) : Int) := by
  have h1 := u64_or_nat b 9223372036854775808 (by omega) (by decide)
  rw [show ((9223372036854775808 : Nat) : Int) = 9223372036854775808 from rfl] at h1
  rw [h1, Nat.or_comm, show (9223372036854775808 : Nat) = 1 * 2 ^ 63 by decide, or_low _ _ _ (by simpa using h)]; congr 1; omega
theorem canon_lt {b : Nat} (h : b < 18446744073709551616) : canon b < 18446744073709551616 := by unfold canon; split <;> omega
theorem canon_of {b : Nat} (h : isNan b = false) : canon b = b := by unfold canon; rw [if_neg (ne_tt h)]
theorem key_nan {b : Nat} (h : isNan b = true) : keyW b = 18446744073709551615 := by unfold keyW; rw [if_pos h]
theorem key_num {b : Nat} (h : isNan b = false) (hb : b < 18446744073709551616) : (keyW b < 18446744073709551615) ∧ ((9223372036854775808 ≤ b ∧ keyW b = 18446744073709551615 - b) ∨ (b < 9223372036854775808 ∧ keyW b = b + 9223372036854775808)) := by
  have h' : b % 9223372036854775808 ≤ 9218868437227405312 := by simpa [isNan] using h
  unfold keyW; rw [if_neg (ne_tt h)]; split <;> omega
theorem key_le (b : Nat) (hb : b < 18446744073709551616) : keyW b ≤ 18446744073709551615 := by
  unfold keyW; split
  · omega
  · split <;> omega
theorem key_canon (b : Nat) : keyW (canon b) = keyW b := by
  unfold canon
  split
  · rename_i h; rw [key_nan h]; decide
  · rfl
theorem canon_inj {a b : Nat} (ha : a < 18446744073709551616) (hb : b < 18446744073709551616) (h : keyW a = keyW b) : canon a = canon b := by
  cases na : isNan a <;> cases nb : isNan b
  · rw [canon_of na, canon_of nb]; have := key_num na ha; have := key_num nb hb; omega
  · have := key_num na ha; have := key_nan nb; omega
  · have := key_nan na; have := key_num nb hb; omega
  · unfold canon; rw [if_pos na, if_pos nb]
theorem rorder_law {a b : Nat} (na : isNan a = false) (nb : isNan b = false) (ha : a < 18446744073709551616) (hb : b < 18446744073709551616) (hk : keyW a ≠ keyW b) {s t : Bool} (hs : (((a / 9223372036854775808 : Nat) : Int) == 1) = s) (ht : (((b / 9223372036854775808 : Nat) : Int) == 1) = t) :
    (s = true → t = false → cmpI (keyW a : Nat) (keyW b : Nat) = -1) ∧ (s = false → t = true → cmpI (keyW a : Nat) (keyW b : Nat) = 1) ∧
    (s = t → decide ((a : Int) < (b : Int)) = s → cmpI (keyW a : Nat) (keyW b : Nat) = 1) ∧ (s = t → decide ((a : Int) < (b : Int)) ≠ s → cmpI (keyW a : Nat) (keyW b : Nat) = -1) := by
  have ka := key_num na ha
  have kb := key_num nb hb
  have e1 : cmpI (keyW a : Nat) (keyW b : Nat) = -1 ↔ keyW a < keyW b := by unfold cmpI; split <;> (try split) <;> omega
  have e2 : cmpI (keyW a : Nat) (keyW b : Nat) = 1 ↔ keyW b < keyW a := by unfold cmpI; split <;> (try split) <;> omega
  rw [e1, e2]
  have fs : s = true ↔ 9223372036854775808 ≤ a := by rw [← hs, beq_iff_eq]; omega
  have ft : t = true ↔ 9223372036854775808 ≤ b := by rw [← ht, beq_iff_eq]; omega
  have fd : ∀ c : Bool, decide ((a : Int) < (b : Int)) = c ↔ ((a < b) ↔ c = true) := fun c => by cases c <;> simp
  rw [ne_eq, fd]
  cases s <;> cases t <;> simp only [Bool.false_eq_true, false_iff, true_iff, Nat.not_le] at fs ft <;> simp <;> omega
end Go.Proofs.YtccgjfcaomngjaaGreatDoor
namespace Go.Proofs.YtccgjfcaomngjaaGreatDoor
open Go.RowKit Go.Bw Go.Bw.Fl
set_option linter.unusedVariables false
set_option linter.unusedSimpArgs false

structure Val where
  k : Int
  n : Int
  f : Nat
  s : List UInt8
def Val.cells (v : Val) : List Value := [.int .i64 v.k, .int .i64 v.n, .float .f64 v.f, str v.s]
def Val.enc (v : Val) : Value := .agg v.cells.toArray
/-- what fits its type -/
structure Val.Ok (v : Val) : Prop where
  n0 : -9223372036854775808 ≤ v.n
  n1 : v.n ≤ 9223372036854775807
  f1 : v.f < 18446744073709551616
def nullV : Val := ⟨0, 0, 0, []⟩
def truthV (t : Bool) : Val := ⟨1, if t = true then 1 else 0, 0, []⟩
def rightV (v : Val) : Bool :=
  if v.k = 0 then decide (v.n = 0 ∧ v.f = 0 ∧ v.s = [])
  else if v.k = 1 then decide ((v.n = 0 ∨ v.n = 1) ∧ v.f = 0 ∧ v.s = [])
  else if v.k = 2 then decide (v.f = 0 ∧ v.s = [])
  else if v.k = 3 then decide (v.n = 0 ∧ v.s = [] ∧ canon v.f = v.f)
  else if v.k = 4 then decide (v.n = 0 ∧ v.f = 0) else false
def sameV (a b : Val) : Bool := decide (a.k = b.k ∧ a.n = b.n ∧ keyW a.f = keyW b.f ∧ a.s = b.s)
def orI : List Int → Int
  | [] => 0
  | x :: r => if x = 0 then orI r else x
def lessV (a b : Val) : Bool := decide (orI [cmpI a.k b.k, cmpI a.n b.n, cmpI (keyW a.f) (keyW b.f), cmpS a.s b.s] < 0)
def numV (v : Val) : Bool := decide (v.k = 2 ∨ v.k = 3)
def agV (n : Int) (f : Nat) : Int := if isNan f = true then 0 else agI n f
def againstV (a b : Val) : Int :=
  if a.k = 2 ∧ b.k = 3 then agV a.n b.f
  else if a.k = 3 ∧ b.k = 2 then -agV b.n a.f
  else if a.k = 3 then cmpF a.f b.f
  else if a.k = 4 then cmpS a.s b.s
  else cmpI a.n b.n
def knownV (a b : Val) : Bool :=
  if a.k = 2 ∧ b.k = 3 then !isNan b.f
  else if a.k = 3 ∧ b.k = 2 then !isNan a.f
  else if a.k = 3 then !isNan a.f && !isNan b.f
  else true
def holdsV (op : List UInt8) (c : Int) : Option Bool :=
  if op = [61] then some (c == 0) else if op = [60, 62] then some (c != 0) else if op = [60] then some (decide (c < 0))
  else if op = [60, 61] then some (decide (c ≤ 0)) else if op = [62] then some (decide (c > 0)) else if op = [62, 61] then some (decide (c ≥ 0)) else none
def testV (op : List UInt8) (a b : Val) : Val × Int :=
  if (holdsV op 0).isNone = true ∨ rightV a = false ∨ rightV b = false then (nullV, 1)
  else if a.k = 0 ∨ b.k = 0 then (nullV, 0)
  else if a.k ≠ b.k ∧ (numV a = false ∨ numV b = false) then (nullV, 4)
  else if knownV a b = false then (truthV (decide (op = [60, 62])), 0)
  else (truthV ((holdsV op (againstV a b)).getD false), 0)
def exactV (op : List UInt8) (a b : Int) : Int := if op = [43] then a + b else if op = [45] then a - b else a * b
def fitsI (x : Int) : Bool := decide (-9223372036854775808 ≤ x ∧ x ≤ 9223372036854775807)
def fop (b : BinOp) (m n : Nat) : Nat := canon ((floatBits b .f64 m n).getD 9221120237041090561)
def floatV (op : List UInt8) (x y : Nat) : Nat := if op = [43] then fop .add x y else if op = [45] then fop .sub x y else fop .mul x y
def wideV (v : Val) : Nat := if v.k = 2 then FloatKind.f64.nearest v.n else v.f
def arithV (op : List UInt8) : Bool := decide (op = [43] ∨ op = [45] ∨ op = [42])
def reckonV (op : List UInt8) (a b : Val) : Val × Int :=
  if arithV op = false ∨ rightV a = false ∨ rightV b = false then (nullV, 1)
  else if a.k = 0 ∨ b.k = 0 then (nullV, 0)
  else if numV a = false ∨ numV b = false then (nullV, 4)
  else if a.k = 2 ∧ b.k = 2 then (if fitsI (exactV op a.n b.n) = true then (⟨2, exactV op a.n b.n, 0, []⟩, 0) else (nullV, 7))
  else (⟨3, 0, floatV op (wideV a) (wideV b), []⟩, 0)
theorem fop_of {b : BinOp} {m n r : Nat} (h : floatBits b .f64 m n = some r ∨ (floatBits b .f64 m n = none ∧ isNan r = true)) : canon r = fop b m n := by
  unfold fop
  rcases h with h | ⟨h, hn⟩
  · rw [h]; rfl
  · rw [h]; show canon r = canon 9221120237041090561
    unfold canon; rw [if_pos hn, if_pos (by decide)]
theorem fop_lt (b : BinOp) (m n : Nat) : fop b m n < 18446744073709551616 := by
  unfold fop
  refine canon_lt ?_
  cases h : floatBits b .f64 m n with
  | none => decide
  | some r =>
    have := floatBits_wf h
    simpa [Lit.wf] using this
theorem canon_idem (b : Nat) : canon (canon b) = canon b := by
  unfold canon; split
  · rw [if_pos (by decide)]
  · rfl
end Go.Proofs.YtccgjfcaomngjaaGreatDoor
namespace Go.Proofs.YtccgjfcaomngjaaGreatDoor
open Go.RowKit Go.Bw Go.Bw.Fl
set_option linter.unusedVariables false
set_option linter.unusedSimpArgs false

theorem truth_r (t : Bool) (w : World) : Ret Tryz.prog 54 [.bool t] w fun v w' => v = (truthV t).enc ∧ Below w.heap.size w w' := by
  have hb := Below.refl w.heap.size w
  refine enter Tryz.func54 rfl rfl rfl ?_
  refine Wc.seq fun _ hK_1 => Wc.region ?_
  refine Wl.allocN (z := (.agg #[(.int .i64 0), (.int .i64 0), (.float .f64 0), (str [])])) (by kernel_rfl) rfl ?_
  rintro g_o0 w_o0 hg_o0 hn_o0 hs_o0
  have hz_o0 := hs_o0.size
  have hb := hb.trans (hs_o0.mono hb.size)
  have hB_o0 := hn_o0
  have hl_o0 := hB_o0.lt
  refine Wl.nil <| Wq.next hK_1 <| Wc.seq fun _ hK_3 => Wc.seq fun _ hK_4 => Wc.region <| Wl.mv rfl rfl <| Wl.nil <| Wq.next hK_4 ?_
  refine Wc.cond rfl (fun c0_6 => ?_) (fun c0_6 => ?_)
  ·
   have c0_6_ := c0_6
   try simp only [DZ] at c0_6
   refine Wc.seq fun _ hK_7 => Wc.region ?_
   refine Wl.y (y_buildS (z := [(.int .i64 0), (.int .i64 0), (.float .f64 0), (str [])]) (pl := [(0, 1), (1, 1), (2, 1), (3, 1)]) (cs := [_, _, _, _]) Tryz.underlying28 (by kernel_rfl) (by kernel_rfl) rfl rfl rfl) rfl ?_
   refine Wl.storeS (by kernel_rfl) rfl rfl hB_o0 rfl rfl ?_
   rintro w_s0 hn_s0 hg_s0
   have hz_s0 := hg_s0.size
   have hb := below_blk hb hg_s0 hb.size (by omega)
   have hB_o0 := hn_s0
   refine Wl.nil <| Wq.next hK_7 <| Wc.ret <| Wq.then_ret ?_
   refine retN (rs := [.cell 2 28]) (vs := [_]) rfl (.cell rfl (loadS Tryz.underlying28 (by kernel_rfl) (fun j u hu => hB_o0.at hu)) .nil) ?_
   exact ⟨_, rfl, by rw [c0_6_]; rfl, hb⟩
  have c0_6_ := c0_6
  try simp only [DZ] at c0_6
  refine Wc.skip <| Wq.next hK_3 <| Wc.seq fun _ hK_9 => Wc.region ?_
  refine Wl.y (y_buildS (z := [(.int .i64 0), (.int .i64 0), (.float .f64 0), (str [])]) (pl := [(0, 1), (1, 1), (2, 1), (3, 1)]) (cs := [_, _, _, _]) Tryz.underlying28 (by kernel_rfl) (by kernel_rfl) rfl rfl rfl) rfl ?_
  refine Wl.storeS (by kernel_rfl) rfl rfl hB_o0 rfl rfl ?_
  rintro w_s1 hn_s1 hg_s1
  have hz_s1 := hg_s1.size
  have hb := below_blk hb hg_s1 hb.size (by omega)
  have hB_o0 := hn_s1
  refine Wl.nil <| Wq.next hK_9 <| Wc.ret ?_
  refine retN (rs := [.cell 2 28]) (vs := [_]) rfl (.cell rfl (loadS Tryz.underlying28 (by kernel_rfl) (fun j u hu => hB_o0.at hu)) .nil) ?_
  exact ⟨_, rfl, by rw [c0_6_]; rfl, hb⟩
end Go.Proofs.YtccgjfcaomngjaaGreatDoor
namespace Go.Proofs.YtccgjfcaomngjaaGreatDoor
open Go.RowKit Go.Bw Go.Bw.Fl
set_option linter.unusedVariables false
set_option linter.unusedSimpArgs false
theorem txt166OrdB : Txt Tryz.prog 166 := ⟨_, Tryz.func166, by kernel_rfl, rfl⟩   -- cmp.Compare[int64]
theorem txt99OrdB : Txt Tryz.prog 99 := ⟨_, Tryz.func99, by kernel_rfl, rfl⟩   -- math.Floor
def i64s (l : List Int) : List Value := l.map (Value.int .i64)
theorem i64s_length (l : List Int) : (i64s l).length = l.length := by simp [i64s]
theorem i64s_get (l : List Int) (k : Nat) (h : k < l.length) : (i64s l)[k]? = some (.int .i64 (l.getD k 0)) := by simp [i64s, List.getD, h]
theorem orI_zero : ∀ (l : List Int), (∀ x ∈ l, x = 0) → orI l = 0
  | [], _ => rfl
  | x :: r, h => by unfold orI; rw [if_pos (h x (by simp))]; exact orI_zero r fun y hy => h y (by simp [hy])
theorem orI_at : ∀ (l : List Int) (k : Nat), k < l.length → (∀ j, j < k → l.getD j 0 = 0) → l.getD k 0 ≠ 0 → orI l = l.getD k 0
  | x :: r, 0, _, _, h => by simp at h; unfold orI; rw [if_neg h]; rfl
  | x :: r, k + 1, hk, h0, h => by
    have hx : x = 0 := by simpa using h0 0 (by omega)
    unfold orI; rw [if_pos hx]
    have := orI_at r k (by simpa using hk) (fun j hj => by simpa using h0 (j + 1) (by omega)) (by simpa using h)
    simpa using this
theorem val_big : val 4890909195324358656 = 9223372036854775808 * (D : Int) := by decide +kernel
theorem val_low : val 14114281232179134464 = -9223372036854775808 * (D : Int) := by decide +kernel
theorem geq_big (b : Nat) : (FloatKind.f64.format.order b 4890909195324358656 == some .gt || FloatKind.f64.format.order b 4890909195324358656 == some .eq) = (!isNan b && decide (9223372036854775808 * (D : Int) ≤ val b)) := by
  show (Ieee.double.order b 4890909195324358656 == some .gt || Ieee.double.order b 4890909195324358656 == some .eq) = _
  rw [gt_val, eq_val, show isNan 4890909195324358656 = false by decide, val_big]
  cases isNan b
  · rw [Bool.eq_iff_iff]; simp only [Bool.not_false, Bool.true_and, Bool.and_true, Bool.or_eq_true, decide_eq_true_eq]; omega
  · rfl
theorem lt_low (b : Nat) : (FloatKind.f64.format.order b 14114281232179134464 == some .lt) = (!isNan b && decide (val b < -9223372036854775808 * (D : Int))) := by
  show (Ieee.double.order b 14114281232179134464 == some .lt) = _
  rw [lt_val, show isNan 14114281232179134464 = false by decide, val_low]
  cases isNan b <;> simp
theorem V_inf : V 9218868437227405312 = 2 ^ 1024 * D := by decide +kernel
theorem fin_of {b : Nat} (hn : isNan b = false) (h0 : ¬ 9223372036854775808 * (D : Int) ≤ val b) (h1 : ¬ val b < -9223372036854775808 * (D : Int)) : rung b < 9218868437227405312 := by
  have h : rung b ≤ 9218868437227405312 := by unfold isNan at hn; unfold rung; simpa using hn
  rcases Nat.lt_or_ge (rung b) 9218868437227405312 with h2 | h2
  · exact h2
  · have e : rung b = 9218868437227405312 := by omega
    have hb : (9223372036854775808 : Int) * (D : Int) < ((2 ^ 1024 * D : Nat) : Int) := by decide +kernel
    exfalso
    cases hg : isNeg b
    · have : val b = ((2 ^ 1024 * D : Nat) : Int) := by unfold val; rw [e, V_inf, hg]; rfl
      omega
    · have : val b = -((2 ^ 1024 * D : Nat) : Int) := by unfold val; rw [e, V_inf, hg]; rfl
      omega
theorem fl_range {b : Nat} (h0 : ¬ 9223372036854775808 * (D : Int) ≤ val b) (h1 : ¬ val b < -9223372036854775808 * (D : Int)) : -9223372036854775808 ≤ flI b ∧ flI b ≤ 9223372036854775807 := by
  obtain ⟨f0, f1⟩ := fl_spec b
  have hD : (0 : Int) < (D : Int) := by have := D_pos; omega
  constructor
  · have : -9223372036854775808 * (D : Int) < (flI b + 1) * (D : Int) := by omega
    have := Int.lt_of_mul_lt_mul_right this (Int.le_of_lt hD); omega
  · have : flI b * (D : Int) < 9223372036854775808 * (D : Int) := by omega
    have := Int.lt_of_mul_lt_mul_right this (Int.le_of_lt hD); omega
theorem ag_big {n : Int} {b : Nat} (hn : n ≤ 9223372036854775807) (h : 9223372036854775808 * (D : Int) ≤ val b) : agI n b = -1 := by
  have hD : (0 : Int) < (D : Int) := by have := D_pos; omega
  have := Int.mul_lt_mul_of_pos_right (show n < 9223372036854775808 by omega) hD
  unfold agI cmpI; rw [if_pos (by omega)]
theorem ag_low {n : Int} {b : Nat} (hn : -9223372036854775808 ≤ n) (h : val b < -9223372036854775808 * (D : Int)) : agI n b = 1 := by
  have hD : (0 : Int) < (D : Int) := by have := D_pos; omega
  have := Int.mul_le_mul_of_nonneg_right hn (Int.le_of_lt hD)
  unfold agI cmpI; rw [if_neg (by omega), if_pos (by omega)]
theorem floor_eq {b : Nat} (hn : isNan b = false) (h : rung b < 9218868437227405312) : (FloatKind.f64.format.order (floorW b) b == some .eq) = decide (val b = flI b * (D : Int)) := by
  obtain ⟨h1, h2, h3, h4⟩ := val_floor h
  show (Ieee.double.order (floorW b) b == some .eq) = _
  rw [eq_val, h1, hn, h2]; simp [eq_comm]
theorem cmp_ag (n : Int) (b : Nat) : (cmpI n (flI b) ≠ 0 → cmpI n (flI b) = agI n b) ∧ (cmpI n (flI b) = 0 → val b = flI b * (D : Int) → cmpI n (flI b) = agI n b) ∧ (cmpI n (flI b) = 0 → val b ≠ flI b * (D : Int) → -1 = agI n b) := by
  obtain ⟨a1, a2, a3, a4⟩ := ag_fl n b
  have h3 : cmpI n (flI b) = 0 ↔ n = flI b := by unfold cmpI; split <;> (try split) <;> omega
  refine ⟨fun h => ?_, fun h e => ?_, fun h e => ?_⟩
  · rcases Int.lt_trichotomy n (flI b) with g | g | g
    · rw [a1 g]; unfold cmpI; rw [if_pos g]
    · exact absurd (h3.2 g) h
    · rw [a2 g]; unfold cmpI; rw [if_neg (by omega), if_pos g]
  · rw [h, a3 (h3.1 h) e]
  · rw [a4 (h3.1 h) e]
theorem tup2 {x y : Int} {t : Bool} (h : x = y) : Value.tuple #[.int .i64 x, .bool t] = Value.tuple #[.int .i64 y, .bool t] := by rw [h]
theorem Against_r (n : Int) (b : Nat) (h0 : -9223372036854775808 ≤ n) (h1 : n ≤ 9223372036854775807) (w : World) : Ret Tryz.prog 163 [.int .i64 n, .float .f64 b] w fun v w' => v = .tuple #[.int .i64 (agV n b), .bool (!isNan b)] ∧ w' = w := by
  refine enter Tryz.func163 rfl rfl rfl ?_
  refine Wc.seq fun _ hK_1 => Wc.region <| Wl.sg rfl rfl <| Wl.sg rfl rfl <| Wl.nil <| Wq.next hK_1 <| Wc.seq fun _ hK_4 => Wc.block <| Wc.seq fun _ hK_5 => Wc.region ?_
  refine Wl.mv rfl rfl <| Wl.mv rfl rfl <| Wl.y (y_neqf rfl rfl) rfl <| Wl.sg rfl rfl <| Wl.nil <| Wq.next hK_5 ?_
  rw [ne_self_f]
  refine Wc.cond rfl (fun c0_10 => ?_) (fun c0_10 => ?_)
  ·
   have c0_10_ := c0_10
   try simp only [DZ] at c0_10
   refine Wc.seq fun _ hK_11 => Wc.region <| Wl.sg rfl rfl <| Wl.sg rfl rfl <| Wl.nil <| Wq.next hK_11 <| Wc.ret ?_
   refine Wq.block_ret (Wq.then_ret ?_)
   refine ret2 rfl rfl rfl ?_
   exact ⟨_, rfl, by rw [c0_10_]; unfold agV; rw [if_pos c0_10_]; rfl, rfl⟩
  have c0_10_ := c0_10
  try simp only [DZ] at c0_10
  have hn : isNan b = false := c0_10_
  refine Wc.seq fun _ hK_14 => Wc.region <| Wl.mv rfl rfl <| Wl.y (y_geqf rfl rfl) rfl <| Wl.sg rfl rfl <| Wl.nil <| Wq.next hK_14 ?_
  rw [geq_big]
  refine Wc.cond rfl (fun c1_18 => ?_) (fun c1_18 => ?_)
  ·
   have c1_18_ := c1_18
   try simp only [DZ] at c1_18
   have hv : 9223372036854775808 * (D : Int) ≤ val b := by have h := c1_18_; rw [hn] at h; simpa using h
   refine Wc.seq fun _ hK_19 => Wc.region <| Wl.sg rfl rfl <| Wl.sg rfl rfl <| Wl.nil <| Wq.next hK_19 <| Wc.ret ?_
   refine Wq.block_ret (Wq.then_ret ?_)
   refine ret2 rfl rfl rfl ?_
   exact ⟨_, rfl, by rw [hn]; unfold agV; rw [if_neg (ne_tt hn), ag_big h1 hv]; rfl, rfl⟩
  have c1_18_ := c1_18
  try simp only [DZ] at c1_18
  have hv : ¬ 9223372036854775808 * (D : Int) ≤ val b := by have h := c1_18_; rw [hn] at h; simpa using h
  refine Wc.seq fun _ hK_22 => Wc.region <| Wl.mv rfl rfl <| Wl.y (y_lssf rfl rfl) rfl <| Wl.sg rfl rfl <| Wl.nil <| Wq.next hK_22 ?_
  rw [lt_low]
  refine Wc.cond rfl (fun c2_26 => ?_) (fun c2_26 => ?_)
  ·
   have c2_26_ := c2_26
   try simp only [DZ] at c2_26
   have hv2 : val b < -9223372036854775808 * (D : Int) := by have h := c2_26_; rw [hn] at h; simpa using h
   refine Wc.seq fun _ hK_27 => Wc.region <| Wl.sg rfl rfl <| Wl.sg rfl rfl <| Wl.nil <| Wq.next hK_27 <| Wc.ret ?_
   refine Wq.block_ret (Wq.then_ret ?_)
   refine ret2 rfl rfl rfl ?_
   exact ⟨_, rfl, by rw [hn]; unfold agV; rw [if_neg (ne_tt hn), ag_low h0 hv2]; rfl, rfl⟩
  have c2_26_ := c2_26
  try simp only [DZ] at c2_26
  have hv2 : ¬ val b < -9223372036854775808 * (D : Int) := by have h := c2_26_; rw [hn] at h; simpa using h
  have hr := fin_of hn hv hv2
  obtain ⟨r0, r1⟩ := fl_range hv hv2
  refine Wc.skip <| Wq.block_normal <| Wq.next hK_4 <| Wc.seq fun _ hK_30 => Wc.region <| Wl.mv rfl rfl ?_
  refine Wl.call txt99OrdB rfl rfl (Floor_r b hn _) rfl ?_
  rintro _ w_ ⟨rfl, hw_⟩
  have hw_ := hw_.symm; subst hw_
  refine Wl.sg rfl rfl <| Wl.nil <| Wq.next hK_30 <| Wc.seq fun _ hK_34 => Wc.seq fun _ hK_35 => Wc.region <| Wl.mv rfl rfl <| Wl.mv rfl rfl ?_
  refine Wl.y (y_f2i (by kernel_rfl) Tryz.underlying2 rfl (f2i64 hr r0 r1)) rfl ?_
  refine Wl.call txt166OrdB rfl rfl (Cmpl_r _ _ _) rfl ?_
  rintro _ w_ ⟨rfl, hw_⟩
  have hw_ := hw_.symm; subst hw_
  refine Wl.sg rfl rfl <| Wl.nil <| Wq.next hK_35 <| Wc.seq fun _ hK_41 => Wc.region <| Wl.mv rfl rfl <| Wl.y (y_neqi rfl rfl) rfl <| Wl.mv rfl rfl ?_
  refine Wl.guardF rfl rfl rfl (fun g_45 => ?_) (fun g_45 => ?_)
  ·
   have g_45_ := g_45
   try simp only [DZ] at g_45
   refine Wl.off' rfl rfl g_45_ rfl rfl <| Wl.off' rfl rfl g_45_ rfl rfl ?_
   refine Wl.y (y_pickT rfl g_45_ rfl) rfl ?_
   refine Wl.nil <| Wq.next hK_41 ?_
   refine Wc.condT rfl rfl ?_
   refine Wc.seq fun _ hK_47 => Wc.region <| Wl.mv rfl rfl <| Wl.sg rfl rfl <| Wl.sg rfl rfl <| Wl.nil <| Wq.next hK_47 <| Wc.ret <| Wq.then_ret ?_
   refine ret2 rfl rfl rfl ?_
   exact ⟨_, rfl, by rw [hn]; unfold agV; rw [if_neg (ne_tt hn)]; exact tup2 ((cmp_ag n b).1 g_45), rfl⟩
  have g_45_ := g_45
  try simp only [DZ] at g_45
  refine Wl.mv rfl rfl <| Wl.on' rfl rfl g_45_ <| Wl.mv rfl rfl <| Wl.on' rfl rfl g_45_ <| Wl.y (y_eqlf rfl rfl) rfl ?_
  refine Wl.y (y_pickF rfl g_45_ rfl) rfl ?_
  refine Wl.nil <| Wq.next hK_41 ?_
  rw [floor_eq hn hr]
  refine Wc.cond rfl (fun c3_55 => ?_) (fun c3_55 => ?_)
  ·
   have c3_55_ := c3_55
   try simp only [DZ] at c3_55
   refine Wc.seq fun _ hK_56 => Wc.region <| Wl.mv rfl rfl <| Wl.sg rfl rfl <| Wl.sg rfl rfl <| Wl.nil <| Wq.next hK_56 <| Wc.ret <| Wq.then_ret ?_
   refine ret2 rfl rfl rfl ?_
   exact ⟨_, rfl, by rw [hn]; unfold agV; rw [if_neg (ne_tt hn)]; exact tup2 ((cmp_ag n b).2.1 g_45 c3_55), rfl⟩
  have c3_55_ := c3_55
  try simp only [DZ] at c3_55
  refine Wc.skip <| Wq.next hK_34 <| Wc.seq fun _ hK_60 => Wc.region <| Wl.sg rfl rfl <| Wl.sg rfl rfl <| Wl.nil <| Wq.next hK_60 <| Wc.ret ?_
  refine ret2 rfl rfl rfl ?_
  exact ⟨_, rfl, by rw [hn]; unfold agV; rw [if_neg (ne_tt hn)]; exact tup2 ((cmp_ag n b).2.2 g_45 c3_55), rfl⟩
end Go.Proofs.YtccgjfcaomngjaaGreatDoor
