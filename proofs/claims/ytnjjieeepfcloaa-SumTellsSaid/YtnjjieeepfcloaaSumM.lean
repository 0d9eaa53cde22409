/- Layer 9's sums: what they are, in plain numbers. -/
import Derived.Laws.Bits64
import Derived.Laws.BitsLemmas
namespace Go.Proofs.Ytnjjieeepfcloaa

def moreI (s c : Int) : Int := IntKind.u64.wrap (bits .xor .u64 s (IntKind.u64.wrap c) * 1099511628211)
def rmoreI (s c : Int) : Int :=
  IntKind.u64.wrap (IntKind.u64.wrap (IntKind.u64.wrap (IntKind.u64.wrap (s - bits .and .u64 s 255) + bits .xor .u64 (bits .and .u64 s 255) (IntKind.u64.wrap c)) * 1099511627776) +
    IntKind.u64.wrap (IntKind.u64.wrap (IntKind.u64.wrap (s - bits .and .u64 s 255) + bits .xor .u64 (bits .and .u64 s 255) (IntKind.u64.wrap c)) * 435))
def sumI (s : Int) (l : List Int) : Int := l.foldl moreI s
def rsumI (s : Int) (l : List Int) : Int := l.foldl rmoreI s
theorem sumI_snoc (s : Int) (pre : List Int) (x : Int) : sumI s (pre ++ [x]) = moreI (sumI s pre) x := by simp [sumI]
theorem rsumI_snoc (s : Int) (pre : List Int) (x : Int) : rsumI s (pre ++ [x]) = rmoreI (rsumI s pre) x := by simp [rsumI]
theorem sumI_append (s : Int) (a b : List Int) : sumI s (a ++ b) = sumI (sumI s a) b := by simp [sumI]

theorem xor_low (s c : Nat) (hc : c < 256) : s ^^^ c = s - s % 256 + ((s % 256) ^^^ c) := by
  have h1 : (s ^^^ c) % 2 ^ 8 = (s % 2 ^ 8) ^^^ (c % 2 ^ 8) := Nat.xor_mod_two_pow
  have h2 : (s ^^^ c) / 2 ^ 8 = (s / 2 ^ 8) ^^^ (c / 2 ^ 8) := Nat.xor_div_two_pow
  have h3 : c / 2 ^ 8 = 0 := by omega
  have h4 : c % 2 ^ 8 = c := by omega
  rw [h3, Nat.xor_zero] at h2
  rw [h4] at h1
  simp only [Nat.reducePow] at h1 h2
  omega

theorem and255 (s : Nat) (hs : s < 18446744073709551616) : bits .and .u64 (s : Int) 255 = ((s % 256 : Nat) : Int) := by
  have := bits_mask .u64 64 (by decide) (fun n h0 h1 => by rw [IntKind.wrap_u64]; omega) 8 (by decide) (s : Int) (by omega) (by omega)
  simpa using this

theorem rmore_eq (s c : Nat) (hs : s < 18446744073709551616) (hc : c < 256) : rmoreI s c = moreI s c := by
  have hx : (s % 256) ^^^ c < 256 := Nat.xor_lt_two_pow (n := 8) (by omega) (by omega)
  have hw : IntKind.u64.wrap (c : Int) = c := by rw [IntKind.wrap_u64]; omega
  unfold rmoreI moreI
  rw [hw, and255 s hs, bits_xor_u64_nat (s % 256) c (by omega) (by omega), bits_xor_u64_nat s c hs (by omega), xor_low s c hc]
  simp only [IntKind.wrap_u64]
  omega

theorem moreI_bd (s c : Int) : 0 ≤ moreI s c ∧ moreI s c < 18446744073709551616 := by
  unfold moreI; rw [IntKind.wrap_u64]; omega

theorem rsum_eq : ∀ (l : List Int), (∀ c ∈ l, 0 ≤ c ∧ c < 256) → ∀ s : Int, 0 ≤ s → s < 18446744073709551616 → rsumI s l = sumI s l
  | [], _, _, _, _ => rfl
  | c :: l, h, s, h0, h1 => by
    obtain ⟨c', rfl⟩ := Int.eq_ofNat_of_zero_le (h c (by simp)).1
    obtain ⟨s', rfl⟩ := Int.eq_ofNat_of_zero_le h0
    have hc := (h c' (by simp)).2
    have e := rmore_eq s' c' (by omega) (by omega)
    have hb := moreI_bd s' c'
    show rsumI (rmoreI s' c') l = sumI (moreI s' c') l
    rw [e]
    exact rsum_eq l (fun c hc => h c (List.mem_cons_of_mem _ hc)) _ hb.1 hb.2

/-! one byte more is one to one, either way round -/
theorem mul_inj (a b : Nat) (ha : a < 18446744073709551616) (hb : b < 18446744073709551616) (h : a * 1099511628211 % 18446744073709551616 = b * 1099511628211 % 18446744073709551616) : a = b := by
  -- 14886173955864302971 is the inverse of the prime
  have hm : ∀ x : Nat, x < 18446744073709551616 → (x * 1099511628211 % 18446744073709551616) * 14886173955864302971 % 18446744073709551616 = x := by
    intro x hx
    rw [Nat.mod_mul_mod, Nat.mul_assoc]
    have : (1099511628211 * 14886173955864302971 : Nat) = 18446744073709551616 * 887285111055 + 1 := by decide
    rw [this, Nat.mul_add, Nat.mul_one, ← Nat.mul_assoc, Nat.mul_comm x, Nat.mul_assoc, Nat.mul_add_mod]
    exact Nat.mod_eq_of_lt hx
  rw [← hm a ha, ← hm b hb, h]

theorem more_nat (s c : Nat) (hs : s < 18446744073709551616) (hc : c < 256) : moreI s c = ((s ^^^ c) * 1099511628211 % 18446744073709551616 : Nat) := by
  have hw : IntKind.u64.wrap (c : Int) = c := by rw [IntKind.wrap_u64]; omega
  unfold moreI
  rw [hw, bits_xor_u64_nat s c hs (by omega), IntKind.wrap_u64]
  simp
theorem more_inj_s (s t c : Nat) (hs : s < 18446744073709551616) (ht : t < 18446744073709551616) (hc : c < 256) (h : moreI s c = moreI t c) : s = t := by
  rw [more_nat s c hs hc, more_nat t c ht hc] at h
  have h1 : s ^^^ c < 2 ^ 64 := Nat.xor_lt_two_pow (by omega) (by omega)
  have h2 : t ^^^ c < 2 ^ 64 := Nat.xor_lt_two_pow (by omega) (by omega)
  have := mul_inj _ _ h1 h2 (by exact_mod_cast h)
  rw [← Nat.xor_zero s, ← Nat.xor_zero t, ← Nat.xor_self c, ← Nat.xor_assoc, ← Nat.xor_assoc, this]
theorem more_inj_c (s x y : Nat) (hs : s < 18446744073709551616) (hx : x < 256) (hy : y < 256) (h : moreI s x = moreI s y) : x = y := by
  rw [more_nat s x hs hx, more_nat s y hs hy] at h
  have h1 : s ^^^ x < 2 ^ 64 := Nat.xor_lt_two_pow (by omega) (by omega)
  have h2 : s ^^^ y < 2 ^ 64 := Nat.xor_lt_two_pow (by omega) (by omega)
  have := mul_inj _ _ h1 h2 (by exact_mod_cast h)
  rw [← Nat.zero_xor x, ← Nat.zero_xor y, ← Nat.xor_self s, Nat.xor_assoc, Nat.xor_assoc, this]
theorem sum_inj : ∀ (l : List Int), (∀ c ∈ l, 0 ≤ c ∧ c < 256) → ∀ s t : Int, 0 ≤ s → s < 18446744073709551616 → 0 ≤ t → t < 18446744073709551616 → sumI s l = sumI t l → s = t
  | [], _, _, _, _, _, _, _, h => h
  | c :: l, h, s, t, h0, h1, h2, h3, he => by
    obtain ⟨c', rfl⟩ := Int.eq_ofNat_of_zero_le (h c (by simp)).1
    obtain ⟨s', rfl⟩ := Int.eq_ofNat_of_zero_le h0
    obtain ⟨t', rfl⟩ := Int.eq_ofNat_of_zero_le h2
    have hc := (h c' (by simp)).2
    have hb := moreI_bd s' c'
    have hb' := moreI_bd t' c'
    have := sum_inj l (fun c hc => h c (List.mem_cons_of_mem _ hc)) (moreI s' c') (moreI t' c') hb.1 hb.2 hb'.1 hb'.2 he
    rw [more_inj_s s' t' c' (by omega) (by omega) (by omega) this]
end Go.Proofs.Ytnjjieeepfcloaa
