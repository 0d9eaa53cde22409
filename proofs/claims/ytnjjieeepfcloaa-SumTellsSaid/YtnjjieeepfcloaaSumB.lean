/- The functions of layer 9 and its reference, by the calculus. -/
import Derived.Test.YtnjjieeepfcloaaSumW
import Derived.Test.YtnjjieeepfcloaaMem
import Derived.Lib.SlBytesConst
namespace Go.Proofs.Ytnjjieeepfcloaa
open Go.RowKit Go.Bw
set_option linter.unusedVariables false
set_option linter.unusedSimpArgs false
theorem txt15SumB : Txt Try.prog 15 := ⟨_, Try.func15, by kernel_rfl, rfl⟩   -- bridleway/sum.More
theorem txt16SumB : Txt Try.prog 16 := ⟨_, Try.func16, by kernel_rfl, rfl⟩   -- bridleway/bridlewayref09.More

def nums (l : List UInt8) : List Int := l.map fun c => (c.toNat : Int)
theorem nums_append (l m : List UInt8) : nums (l ++ m) = nums l ++ nums m := by simp [nums]
theorem nums_take (l : List UInt8) (k : Nat) (h : k < l.length) : (nums l).take (k + 1) = (nums l).take k ++ [((l.getD k 0).toNat : Int)] := by
  unfold nums
  rw [List.take_succ_eq_append_getElem (by simpa using h)]
  simp [List.getD, h]
theorem nums_bd (l : List UInt8) : ∀ c ∈ nums l, 0 ≤ c ∧ c < 256 := by
  intro c hc; simp only [nums, List.mem_map] at hc; obtain ⟨b, _, rfl⟩ := hc
  have := b.toNat_lt; omega

theorem ints_of_rd {w : World} {A : Option Addr} {n c : Nat} {l : List UInt8} (h : Rd w 1 A n (u8s l)) : Ints w.heap.size w (.slice A n c) (nums l) := by
  have hn : n = (nums l).length := by have := h.1; rw [u8s_length] at this; simp [nums]; omega
  refine ⟨A, c, by rw [hn], ?_⟩
  rcases Nat.eq_zero_or_pos l.length with h0 | h0
  · exact .inl (by have : l = [] := List.eq_nil_of_length_eq_zero h0; subst this; rfl)
  · obtain ⟨p, e, hc⟩ := h.2 (by rw [u8s_length]; exact h0)
    have hp0 : w.cell? (p.add 0) = some (.int .u8 ((l.getD 0 0).toNat : Int)) := hc 0 _ (by simp [u8s, List.getD, h0])
    obtain ⟨b, off, spot⟩ := p
    have h00 : (⟨b, off, spot⟩ : Addr).add 0 = ⟨b, off, spot⟩ := by simp [Addr.add]
    rw [h00] at hp0
    have hs : spot = none := by
      cases spot with
      | none => rfl
      | some s => simp [World.cell?] at hp0; split at hp0 <;> cases hp0
    subst hs
    refine .inr ⟨b, off, e, block_lt hp0, fun j hj => ?_⟩
    have hadd : (⟨b, off, none⟩ : Addr).add j = ⟨b, off + j, none⟩ := by unfold Addr.add; split <;> simp_all
    have := hc j (.int .u8 ((nums l)[j]?.getD 0)) (by simp [nums] at hj; simp [u8s, nums, hj])
    rwa [hadd] at this

theorem More_r (s : Int) (A : Option Addr) (n c : Nat) (l : List UInt8) (w : World) (hl : l.length ≤ 140737488351232) (h : Rd w 1 A n (u8s l)) :
    Ret Try.prog 15 [.int .u64 s, .slice A n c] w fun v w' => v = .int .u64 (sumI s (nums l)) ∧ Below w.heap.size w w' :=
  Calls.mono (callsIn_wide.1 (More_in Fence.wide 3 trivial trivial trivial rfl (Nat.le_refl _) s _ (nums l) (by simpa [nums] using hl) w (ints_of_rd h))) fun _ _ ⟨e, hb⟩ => ⟨_, e, rfl, hb⟩

def sum0 (l : List UInt8) : Int := sumI 14695981039346656037 (nums l)
theorem Sum_r (A : Option Addr) (n c : Nat) (l : List UInt8) (w : World) (hl : l.length ≤ 140737488351232) (h : Rd w 1 A n (u8s l)) :
    Ret Try.prog 13 [.slice A n c] w fun v w' => v = .int .u64 (sum0 l) ∧ Below w.heap.size w w' := by
  refine enter Try.func13 rfl rfl rfl ?_
  refine Wc.seq fun _ hK_1 => ?_
  refine Wc.region ?_
  refine Wl.y (y_assign rfl) rfl ?_
  refine Wl.nil ?_
  refine Wq.next hK_1 ?_
  refine Wc.seq fun _ hK_3 => ?_
  refine Wc.region ?_
  refine Wl.y (y_move rfl) rfl ?_
  refine Wl.call txt15SumB rfl rfl (More_r _ _ _ _ l _ hl h) rfl ?_
  rintro _ w1 ⟨rfl, hb⟩
  refine Wl.y (y_assign rfl) rfl ?_
  refine Wl.nil ?_
  refine Wq.next hK_3 ?_
  refine Wc.ret ?_
  refine ret1 rfl rfl ?_
  exact ⟨_, rfl, rfl, hb⟩

theorem rMore_r (s : Int) (l : List UInt8) (w : World) (hl : l.length ≤ 140737488351232) :
    Ret Try.prog 16 [.int .u64 s, str l] w fun v w' => v = .int .u64 (rsumI s (nums l)) ∧ w' = w := by
  refine enter Try.func16 rfl rfl rfl ?_
  refine Wc.seq fun _ hK_1 => ?_
  refine Wc.region ?_
  refine Wl.y (y_assign rfl) rfl ?_
  refine Wl.nil ?_
  refine Wq.next hK_1 ?_
  refine Wc.seq fun _ hK_3 => ?_
  refine Wc.seq fun _ hK_4 => ?_
  refine Wc.region ?_
  refine Wl.y (y_assign rfl) rfl ?_
  refine Wl.nil ?_
  refine Wq.next hK_4 ?_
  refine Wc.block ?_
  refine Wc.loop (X := Nat) (fun k => [(0, .int .u64 (rsumI s ((nums l).take k))), (1, str l), (5, .int .i64 (k : Int))]) (fun k wr => k ≤ l.length ∧ wr = w) (fun k => l.length - k) (0) ?_ ?_ ?_
  · exact Sub.cons' rfl (by first | rfl | exact int_eq (by omega) | (rw [nums_take l k (by omega), rsumI_snoc]; rfl)) (Sub.cons' rfl (by first | rfl | exact int_eq (by omega) | (rw [nums_take l k (by omega), rsumI_snoc]; rfl)) (Sub.cons' rfl (by first | rfl | exact int_eq (by omega) | (rw [nums_take l k (by omega), rsumI_snoc]; rfl)) (Sub.nil)))
  · exact ⟨Nat.zero_le _, rfl⟩
  · rintro k wr hI_7 _ hL_6
    replace hI_7 : k ≤ l.length ∧ wr = w := hI_7
    obtain ⟨hk, rfl⟩ := hI_7
    show Wc _ _ _ _ _ [(0, .int .u64 (rsumI s ((nums l).take k))), (1, str l), (5, .int .i64 (k : Int))] _
    refine Wc.seq fun _ hK_8 => ?_
    refine Wc.seq fun _ hK_9 => ?_
    refine Wc.region ?_
    refine Wl.y (y_move rfl) rfl ?_
    refine Wl.y (y_move rfl) rfl ?_
    refine Wl.y (y_lens Try.underlying9 (by omega) rfl) rfl ?_
    refine Wl.y (y_lssi rfl rfl) rfl ?_
    refine Wl.nil ?_
    refine Wq.next hK_9 ?_
    refine Wc.cond rfl (fun c0_14 => ?_) (fun c0_14 => ?_)
    · skip
      have c0_14_ := c0_14
      try simp only [decide_eq_true_eq, decide_eq_false_iff_not, beq_iff_eq, beq_eq_false_iff_ne, bne_iff_ne, bne_eq_false_iff_eq, Bool.not_eq_true', Bool.not_eq_false', Bool.not_eq_eq_eq_not, Bool.not_true, Bool.not_false, ne_eq, Int.not_lt, Int.not_le] at c0_14
      refine Wc.skip ?_
      refine Wq.next hK_8 ?_
      refine Wc.seq fun _ hK_15 => ?_
      refine Wc.block ?_
      refine Wc.seq fun _ hK_16 => ?_
      refine Wc.region ?_
      refine Wl.y (y_move rfl) rfl ?_
      refine Wl.y (y_and rfl rfl) rfl ?_
      refine Wl.y (y_move rfl) rfl ?_
      refine Wl.y (y_move rfl) rfl ?_
      refine Wl.y (y_indexs Try.underlying9 rfl rfl (by omega) (by omega)) rfl ?_
      refine Wl.y (y_convi Try.underlying5 Try.underlying23 rfl) rfl ?_
      refine Wl.y (y_xor rfl rfl) rfl ?_
      refine Wl.y (y_assign rfl) rfl ?_
      refine Wl.nil ?_
      refine Wq.next hK_16 ?_
      refine Wc.seq fun _ hK_25 => ?_
      refine Wc.region ?_
      refine Wl.y (y_move rfl) rfl ?_
      refine Wl.y (y_move rfl) rfl ?_
      refine Wl.y (y_and rfl rfl) rfl ?_
      refine Wl.y (y_sub rfl rfl) rfl ?_
      refine Wl.y (y_move rfl) rfl ?_
      refine Wl.y (y_add rfl rfl) rfl ?_
      refine Wl.y (y_assign rfl) rfl ?_
      refine Wl.nil ?_
      refine Wq.next hK_25 ?_
      refine Wc.region ?_
      refine Wl.y (y_move rfl) rfl ?_
      refine Wl.y (y_shl rfl rfl (by first | decide | omega) (by first | decide | omega)) rfl ?_
      refine Wl.y (y_move rfl) rfl ?_
      refine Wl.y (y_mul rfl rfl) rfl ?_
      refine Wl.y (y_add rfl rfl) rfl ?_
      refine Wl.y (y_assign rfl) rfl ?_
      refine Wl.nil ?_
      refine Wq.block_normal ?_
      refine Wq.next hK_15 ?_
      refine Wc.region ?_
      refine Wl.y (y_move rfl) rfl ?_
      refine Wl.y (y_addI rfl rfl (by first | omega | simp; omega) (by first | omega | simp; omega)) rfl ?_
      refine Wl.y (y_assign rfl) rfl ?_
      refine Wl.nil ?_
      refine fun a_ ha_ => hL_6 _ _ (k + 1) (by first | omega | (simp; omega)) (Sub.cons' rfl (by first | rfl | exact int_eq (by omega) | (rw [nums_take l k (by omega), rsumI_snoc]; rfl)) (Sub.cons' rfl (by first | rfl | exact int_eq (by omega) | (rw [nums_take l k (by omega), rsumI_snoc]; rfl)) (Sub.cons' rfl (by first | rfl | exact int_eq (by omega) | (rw [nums_take l k (by omega), rsumI_snoc]; rfl)) (Sub.nil)))) ?_ a_ ha_
      exact ⟨by omega, rfl⟩
    · skip
      have c0_14_ := c0_14
      try simp only [decide_eq_true_eq, decide_eq_false_iff_not, beq_iff_eq, beq_eq_false_iff_ne, bne_iff_ne, bne_eq_false_iff_eq, Bool.not_eq_true', Bool.not_eq_false', Bool.not_eq_eq_eq_not, Bool.not_true, Bool.not_false, ne_eq, Int.not_lt, Int.not_le] at c0_14
      refine Wc.exit ?_
      refine Wq.then_exit ?_
      refine Wq.then_exit ?_
      refine Wq.block_exit ?_
      refine Wq.next hK_3 ?_
      refine Wc.seq fun _ hK_42 => ?_
      refine Wc.region ?_
      refine Wl.y (y_move rfl) rfl ?_
      refine Wl.y (y_assign rfl) rfl ?_
      refine Wl.nil ?_
      refine Wq.next hK_42 ?_
      refine Wc.ret ?_
      refine ret1 rfl rfl ?_
      exact ⟨_, rfl, by rw [List.take_of_length_le (by simp [nums]; omega)], rfl⟩

theorem rSum_r (l : List UInt8) (w : World) (hl : l.length ≤ 140737488351232) :
    Ret Try.prog 14 [str l] w fun v w' => v = .int .u64 (rsumI 14695981039346656037 (nums l)) ∧ w' = w := by
  refine enter Try.func14 rfl rfl rfl ?_
  refine Wc.seq fun _ hK_1 => ?_
  refine Wc.region ?_
  refine Wl.y (y_assign rfl) rfl ?_
  refine Wl.nil ?_
  refine Wq.next hK_1 ?_
  refine Wc.seq fun _ hK_3 => ?_
  refine Wc.region ?_
  refine Wl.y (y_move rfl) rfl ?_
  refine Wl.call txt16SumB rfl rfl (rMore_r _ l _ hl) rfl ?_
  rintro _ w1 ⟨rfl, rfl⟩
  refine Wl.y (y_assign rfl) rfl ?_
  refine Wl.nil ?_
  refine Wq.next hK_3 ?_
  refine Wc.ret ?_
  refine ret1 rfl rfl ?_
  exact ⟨_, rfl, rfl, rfl⟩
end Go.Proofs.Ytnjjieeepfcloaa
