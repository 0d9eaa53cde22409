/- Layer 9's sums: what they are, in plain numbers. · Layer 9's sums: slices.Values and sum.More, by the kit's own walk. · The functions of layer 9 and its reference, by the calculus. · The statements of layer 9 that speak of bytes: their walks. -/
import Derived.Laws.Bits64
import Derived.Laws.BitsLemmas
import Derived.RangeFuncBox
import Derived.RangeFuncBound
import Derived.RangeFuncCalls
import Derived.RangeFuncNested
import Derived.RangeFuncLeaves
import Derived.Shelf.Abstract
import Derived.WalkKit
import Derived.OwnWalkIn
import Derived.TacticsInMore
import Derived.LoopNIn
import Derived.LoopIn
import Derived.Test.YtobhpejaoakpmaaGreatDoorProg
import Derived.Test.YtobhpejaoakpmaaGreatDoorZA
import Derived.Lib.SlBytesConst
namespace Go.Proofs.YtobhpejaoakpmaaGreatDoor

def moreI (s c : Int) : Int := IntKind.u64.wrap (bits .xor .u64 s (IntKind.u64.wrap c) * 1099511628211)
def sumI (s : Int) (l : List Int) : Int := l.foldl moreI s
theorem sumI_snoc (s : Int) (pre : List Int) (x : Int) : sumI s (pre ++ [x]) = moreI (sumI s pre) x := by simp [sumI]
/-! one byte more is one to one, either way round -/
end Go.Proofs.YtobhpejaoakpmaaGreatDoor
namespace Go.Proofs.YtobhpejaoakpmaaGreatDoor
open Go.RowKit Go.Shelf

attribute [local go_sem] Oper.semAt_some

/-- what has come when k rounds are over -/
def upto {α : Type} (f : Nat → α) (k : Nat) : List α := (List.range k).map f
theorem upto_succ {α : Type} (f : Nat → α) (k : Nat) : upto f (k + 1) = upto f k ++ [f k] := by simp [upto, List.range_succ]
theorem upto_length {α : Type} (f : Nat → α) (k : Nat) : (upto f k).length = k := by simp [upto]
theorem upto_all (zs : List Int) : upto (fun j => zs[j]?.getD 0) zs.length = zs := by
  apply List.ext_getElem
  · simp [upto]
  · intro i h1 h2
    simp [upto, h2]
theorem upto_take (zs : List Int) {k : Nat} (hk : k ≤ zs.length) : upto (fun j => zs[j]?.getD 0) k = zs.take k := by
  apply List.ext_getElem
  · simp [upto, hk]
  · intro i h1 h2
    have : i < zs.length := by simp [upto] at h1; omega
    simp [upto, this]

set_option maxRecDepth 100000 in
set_option maxHeartbeats 2000000 in
/-- slices.Values's closure over bytes -/
theorem values1_in (F : Fence) (n : Nat) (h7 : F.fn 117) (hro : F.round = none) (hn : 1 ≤ n) (l Bs n₀ b off len cap : Nat) (zs : List Int) (hreach : len ≤ 140737488351232) (hb : b < n₀) (J Jx : List Int → World → Prop)
    (hY : ∀ pre x W, J pre W → pre.length < len → YieldAt F (n - 1) Tryz.prog l #[.int .u8 x] W fun e W' =>
      (e = .returned (.bool true) ∧ J (pre ++ [x]) W' ∧ Below n₀ W W') ∨ (e = .returned (.bool false) ∧ Jx (pre ++ [x]) W'))
    (W : World) (hBs : W.cell? ⟨Bs, 0, none⟩ = some (.slice (some ⟨b, off, none⟩) len cap)) (hc : ∀ j, j < len → W.cell? ⟨b, off + j, none⟩ = some (.int .u8 (zs[j]?.getD 0))) (h0 : J [] W) :
    CallsIn F n Tryz.prog 117 #[.func (.yield l) #[] #[], .pointer (some ⟨Bs, 0, none⟩)] W fun e W' => (∃ v, e = .returned v) ∧
      ((∃ ys, ys = upto (fun j => zs[j]?.getD 0) len ∧ J ys W') ∨ (∃ pre, (∃ k, k ≤ len ∧ pre = upto (fun j => zs[j]?.getD 0) k) ∧ Jx pre W')) := by
  refine callsIn_of_wp Tryz.func117 rfl h7 ?_ hro
  simp only [Tryz.ntmps117, List.size_toArray, List.length_cons, List.length_nil, Nat.reduceAdd, Nat.reduceSub, Array.replicate_succ, Array.replicate_zero, List.push_toArray, List.append_toArray, List.nil_append, List.cons_append]
  gi_wp2
  gi_loopw [7] (fun i wr => ∃ k : Nat, k ≤ len ∧ i = .int .i64 k ∧ J (upto (fun j => zs[j]?.getD 0) k) wr ∧ Below n₀ W wr)
    (fun i _ => len - (intOf i).toNat)
  case atStart => exact ⟨0, Nat.zero_le _, rfl, h0, Below.refl _ _⟩
  case round =>
    obtain ⟨k, hk, rfl, hJs, hnx⟩ := hrel
    have hcx : k < len → wr.cell? ⟨b, off + k, none⟩ = some (.int .u8 (zs[k]?.getD 0)) := fun h => (hnx.cell (p := ⟨b, off + k, none⟩) hb).trans (hc k h)
    by_cases hlt : k < len
    · obtain ⟨fn, tmps, assign, body, hy, hR⟩ := hY _ (zs[k]?.getD 0) wr hJs (by rw [upto_length]; exact hlt)
      have hcx' := hcx hlt
      gi_wp2
      refine hR.mono ?_
      rintro e W3 (⟨rfl, hJ3, hk3⟩ | ⟨rfl, hJx3⟩)
      · gi_wp2
        go_roundw
        case rel => exact ⟨k + 1, by omega, by simp, by rw [upto_succ]; exact hJ3, hnx.trans hk3⟩
        case measure => simp [intOf]; omega
      · gi_wp2
        refine bodyPost_ret (results_none rfl _ _ _) rfl ?_
        exact ⟨⟨_, rfl⟩, .inr ⟨_, ⟨k + 1, by omega, (upto_succ _ _).symm⟩, hJx3⟩⟩
    · obtain rfl : k = len := by omega
      gi_wp2
      go_end0
      exact ⟨⟨_, rfl⟩, .inl ⟨_, rfl, hJs⟩⟩

/-- the slice value sv holds the bytes zs, in a block below n₀; or it is empty -/
def Ints (n₀ : Nat) (W : World) (sv : Value) (zs : List Int) : Prop :=
  ∃ a cap, sv = .slice a zs.length cap ∧ (zs = [] ∨ ∃ b off, a = some ⟨b, off, none⟩ ∧ b < n₀ ∧ ∀ j, j < zs.length → W.cell? ⟨b, off + j, none⟩ = some (.int .u8 (zs[j]?.getD 0)))
theorem Ints.below {n₀ : Nat} {A B : World} (h : Below n₀ A B) {sv : Value} {zs : List Int} : Ints n₀ A sv zs → Ints n₀ B sv zs
  | ⟨a, cap, e, .inl h0⟩ => ⟨a, cap, e, .inl h0⟩
  | ⟨a, cap, e, .inr ⟨b, off, ea, hb, hc⟩⟩ => ⟨a, cap, e, .inr ⟨b, off, ea, hb, fun j hj => (h.cell (p := ⟨b, off + j, none⟩) hb).trans (hc j hj)⟩⟩

set_option maxRecDepth 100000 in
set_option maxHeartbeats 1000000 in
/-- .. at an empty slice: no round. -/
theorem values1_nil_in (F : Fence) (n : Nat) (h7 : F.fn 117) (hro : F.round = none) (l Bs : Nat) (a : Option Addr) (cap : Nat) (J : List Int → World → Prop) (W : World) (hBs : W.cell? ⟨Bs, 0, none⟩ = some (.slice a 0 cap)) (h0 : J [] W) :
    CallsIn F n Tryz.prog 117 #[.func (.yield l) #[] #[], .pointer (some ⟨Bs, 0, none⟩)] W fun e W' => (∃ v, e = .returned v) ∧ J [] W' := by
  refine callsIn_of_wp Tryz.func117 rfl h7 ?_ hro
  simp only [Tryz.ntmps117, List.size_toArray, List.length_cons, List.length_nil, Nat.reduceAdd, Nat.reduceSub, Array.replicate_succ, Array.replicate_zero, List.push_toArray, List.append_toArray, List.nil_append, List.cons_append]
  gi_wp2
  gi_loopw [7] (fun i wr => i = .int .i64 0 ∧ J [] wr) (fun _ _ => 0)
  case atStart => exact ⟨rfl, h0⟩
  case round =>
    obtain ⟨rfl, hJs⟩ := hrel
    gi_wp2
    go_end0
    exact ⟨⟨_, rfl⟩, hJs⟩

set_option maxHeartbeats 1000000 in
/-- slices.Values(s) -/
theorem values_in (F : Fence) (n : Nat) (h5 : F.fn 76) (hro : F.round = none) (a : Option Addr) (len cap : Nat) (w : World) :
    CallsIn F n Tryz.prog 76 #[.slice a len cap] w fun e w' => e = .returned (.func (.func 117) #[] #[.pointer (some ⟨w.heap.size, 0, none⟩)]) ∧ w' = w.alloc (.cells #[.slice a len cap] 33) := by
  refine callsIn_of_wp Tryz.func76 rfl h5 ?_ hro
  simp only [Tryz.ntmps76, List.size_toArray, List.length_cons, List.length_nil, Nat.reduceAdd, Nat.reduceSub, Array.replicate_succ, Array.replicate_zero, List.push_toArray, List.append_toArray, List.nil_append, List.cons_append]
  gi_wp2
  go_ret
  exact ⟨rfl, rfl⟩

theorem values_stops (F : Fence) (n : Nat) (h7 : F.fn 117) (hro : F.round = none) (hn : 1 ≤ n) (Bs n₀ : Nat) (sv : Value) (zs : List Int) (hreach : zs.length ≤ 140737488351232) (w : World) (hBs : Bs < w.heap.size) (hn₀ : n₀ ≤ w.heap.size)
    (hc : w.cell? ⟨Bs, 0, none⟩ = some sv) (hI : Ints n₀ w sv zs) :
    SeqStopsK F n Tryz.prog 117 #[.pointer (some ⟨Bs, 0, none⟩)] (fun x : Int => #[Value.int .u8 x]) (Below n₀) (fun ys => ys = zs) (fun pre => pre <+: zs) zs.length w := fun l J Jx W hW _ _ hY h0 => by
  have hc' := (hW.cell (p := ⟨Bs, 0, none⟩) hBs).trans hc
  rcases hI.below (hW.mono hn₀) with ⟨a, cap, rfl, rfl | ⟨b, off, rfl, hb, hcs⟩⟩
  · exact (values1_nil_in F n h7 hro l Bs a cap J W hc' h0).mono fun e W' ⟨he, hj⟩ => ⟨he, .inl ⟨_, rfl, hj⟩⟩
  · refine (values1_in F n h7 hro hn l Bs n₀ b off zs.length cap zs hreach hb J Jx hY W hc' hcs h0).mono ?_
    rintro e W' ⟨he, ⟨ys, rfl, hj⟩ | ⟨pre, ⟨k, hk, rfl⟩, hj⟩⟩
    · exact ⟨he, .inl ⟨_, upto_all zs, hj⟩⟩
    · exact ⟨he, .inr ⟨_, by rw [upto_take zs hk]; exact List.take_prefix _ _, hj⟩⟩

set_option maxRecDepth 100000 in
set_option maxHeartbeats 2000000 in
/-- sum.More -/
theorem More_in (F : Fence) (n : Nat) (h3 : F.fn 47) (h5 : F.fn 76) (h7 : F.fn 117) (hro : F.round = none) (hn : 3 ≤ n) (s : Int) (sv : Value) (zs : List Int) (hreach : zs.length ≤ 140737488351232) (w : World) (hI : Ints w.heap.size w sv zs) :
    CallsIn F n Tryz.prog 47 #[.int .u64 s, sv] w fun e W' => e = .returned (.int .u64 (sumI s zs)) ∧ Below w.heap.size w W' := by
  have h1 : 1 ≤ n := by omega
  obtain ⟨a, cap, rfl, hI'⟩ := hI
  have hI : Ints w.heap.size w (.slice a zs.length cap) zs := ⟨a, cap, rfl, hI'⟩
  clear hI'
  refine callsIn_of_wp_marks Tryz.func47 rfl h3 ?_ hro
  simp only [Tryz.ntmps47, List.size_toArray, List.length_cons, List.length_nil, Nat.reduceAdd, Nat.reduceSub, Array.replicate_succ, Array.replicate_zero, List.push_toArray, List.append_toArray, List.nil_append, List.cons_append]
  gi_wp2_with (gi_at_call 76; refine (values_in F (n - 1) h5 hro _ _ _ _).mono ?_; rintro e w' ⟨rfl, rfl⟩)
  have bS := Boxed.new w 28 (.int .u64 s)
  have bN := Boxed.new (w.alloc (.cells #[.int .u64 s] 28)) 33 (.slice a zs.length cap)
  rw [World.size_alloc] at bN
  have hB0 : Below w.heap.size w ((w.alloc (.cells #[.int .u64 s] 28)).alloc (.cells #[.slice a zs.length cap] 33)) := ((Below.refl _ w).alloc (Nat.le_refl _) _).alloc (by simp) _
  refine wpIn_rangeFunc_ownG hro h1 (gf := 117) (lb := #[.pointer (some ⟨w.heap.size + 1, 0, none⟩)]) rfl h7 (enters_of Tryz.func117 (by kernel_rfl) rfl)
    (values_stops F (n - 1) h7 hro (by omega) (w.heap.size + 1) w.heap.size _ zs hreach _ (by simp) (by simp; omega) bN.cell (hI.below hB0)) belowK_t (belowK_b (by simp; omega)) (Below.refl _ _) (fun _ => rfl)
    (fun pre W => (W.cell? ⟨w.heap.size, 0, none⟩ = some (.int .u64 (sumI s pre)) ∧ W.frozen? ⟨w.heap.size, 0, none⟩ = false) ∧ Below w.heap.size w W)
    (fun _ _ _ => False)
    (OwnFrom.and (Own.from (fun s A B row hs hg hr => ⟨cell_kept hs.1 hg hr, (frozen_kept hs.1 hg hr).trans hs.2⟩) _) (ownFrom_below (Nat.le_refl _) (by simp; omega)))
    (fun _ _ _ _ _ hs _ _ => hs)
    ⟨⟨(bS.alloc _).cell, (bS.alloc _).frozen⟩, hB0⟩
    (fun x => { tmps := #[.int .u64 s, .slice a zs.length cap, .pointer (some ⟨w.heap.size, 0, none⟩), undef, .int .u64 0, .int .u8 x, .slice a zs.length cap, .func (.func 117) #[] #[.pointer (some ⟨w.heap.size + 1, 0, none⟩)], .int .u8 x, undef, undef, undef, undef, undef, undef], defers := [] }) ?assign ?body ?done ?stop
  case assign =>
    intro l x W K hK
    gi_wp2
    exact hK
  case body =>
    rintro l pre x W ⟨⟨hc, hf⟩, hB⟩ _
    gi_wp2
    exact ⟨(KeepsOthers.setCell _ _ _).from _, (Below.refl w.heap.size W).setCell (p := ⟨w.heap.size, 0, none⟩) (Nat.le_refl _) _, ⟨by rw [sumI_snoc]; exact World.cell?_setCell_same' _ _ _ (by rw [hc]; rfl), by rw [World.frozen?_setCell]; exact hf⟩, hB.setCell (p := ⟨w.heap.size, 0, none⟩) (Nat.le_refl _) _⟩
  case done =>
    rintro D ys W hD rfl ⟨⟨hc, _⟩, hB⟩ hK
    gi_wp2
    refine ⟨by simp, .inl ⟨_, _, rfl, run_takeDeferred hK, ?_⟩⟩
    exact ⟨_, results_tmp rfl _ _ _, rfl, hB.trans (belowK_b (w := w) (Nat.le_refl _) W D _ _ (by simp at hD; omega) hK rfl rfl)⟩
  case stop =>
    rintro D c pre W _ _ h _
    exact h.elim

end Go.Proofs.YtobhpejaoakpmaaGreatDoor
namespace Go.Proofs.YtobhpejaoakpmaaGreatDoor
open Go.RowKit Go.Bw
set_option linter.unusedVariables false
set_option linter.unusedSimpArgs false
theorem txt47SumB : Txt Tryz.prog 47 := ⟨_, Tryz.func47, by kernel_rfl, rfl⟩   -- bridleway/sum.More
def nums (l : List UInt8) : List Int := l.map fun c => (c.toNat : Int)
theorem ints_of_rd {w : World} {A : Option Addr} {n c : Nat} {l : List UInt8} (h : Rd w 1 A n (u8s l)) : Ints w.heap.size w (.slice A n c) (nums l) := by
  have hn : n = (nums l).length := by have := h.1; rw [u8s_length] at this; simp [nums]; omega
  refine ⟨A, c, by rw [hn], ?_⟩
  rcases Nat.eq_zero_or_pos l.length with h0 | h0
  · exact .inl (by have : l = [] := List.eq_nil_of_length_eq_zero h0; subst this; rfl)
  · obtain ⟨p, e, hc⟩ := h.2 (by rw [u8s_length]; exact h0)
    have hp0 : w.cell? (p.add 0) = some (.int .u8 ((l.getD 0 0).toNat : Int)) := hc 0 _ (by simp [u8s, List.getD, h0])
    obtain ⟨b, off, spot⟩ := p
    have h00 : (⟨b, off, spot⟩ : Addr).add 0 = ⟨b, off, spot⟩ := by simp [Addr.add]
    rw [h00] at hp0
    have hs : spot = none := by
      cases spot with
      | none => rfl
      | some s => simp [World.cell?] at hp0; split at hp0 <;> cases hp0
    subst hs
    refine .inr ⟨b, off, e, block_lt hp0, fun j hj => ?_⟩
    have hadd : (⟨b, off, none⟩ : Addr).add j = ⟨b, off + j, none⟩ := by unfold Addr.add; split <;> simp_all
    have := hc j (.int .u8 ((nums l)[j]?.getD 0)) (by simp [nums] at hj; simp [u8s, nums, hj])
    rwa [hadd] at this

theorem More_r (s : Int) (A : Option Addr) (n c : Nat) (l : List UInt8) (w : World) (hl : l.length ≤ 140737488351232) (h : Rd w 1 A n (u8s l)) :
    Ret Tryz.prog 47 [.int .u64 s, .slice A n c] w fun v w' => v = .int .u64 (sumI s (nums l)) ∧ Below w.heap.size w w' :=
  Calls.mono (callsIn_wide.1 (More_in Fence.wide 3 trivial trivial trivial rfl (Nat.le_refl _) s _ (nums l) (by simpa [nums] using hl) w (ints_of_rd h))) fun _ _ ⟨e, hb⟩ => ⟨_, e, rfl, hb⟩

def sum0 (l : List UInt8) : Int := sumI 14695981039346656037 (nums l)
theorem Sum_r (A : Option Addr) (n c : Nat) (l : List UInt8) (w : World) (hl : l.length ≤ 140737488351232) (h : Rd w 1 A n (u8s l)) :
    Ret Tryz.prog 26 [.slice A n c] w fun v w' => v = .int .u64 (sum0 l) ∧ Below w.heap.size w w' := by
  refine enter Tryz.func26 rfl rfl rfl ?_
  refine Wc.seq fun _ hK_1 => Wc.region <| Wl.sg rfl rfl <| Wl.nil <| Wq.next hK_1 <| Wc.seq fun _ hK_3 => Wc.region <| Wl.mv rfl rfl ?_
  refine Wl.call txt47SumB rfl rfl (More_r _ _ _ _ l _ hl h) rfl ?_
  rintro _ w1 ⟨rfl, hb⟩
  refine Wl.sg rfl rfl <| Wl.nil <| Wq.next hK_3 <| Wc.ret ?_
  refine ret1 rfl rfl ?_
  exact ⟨_, rfl, rfl, hb⟩

end Go.Proofs.YtobhpejaoakpmaaGreatDoor
namespace Go.Proofs.YtobhpejaoakpmaaGreatDoor
open Go.RowKit Go.Bw
set_option linter.unusedVariables false
set_option linter.unusedSimpArgs false
theorem txt26SumC : Txt Tryz.prog 26 := ⟨_, Tryz.func26, by kernel_rfl, rfl⟩   -- bridleway/sum.Sum
theorem sum_nil : sum0 [] = 14695981039346656037 := by decide +kernel
theorem sum_a : sum0 [97] = 12638187200555641996 := by decide +kernel
theorem sum_foobar : sum0 [102, 111, 111, 98, 97, 114] = 9625390261332436968 := by decide +kernel

theorem rd_frozen (w : World) (l : List UInt8) (e : TypeId) (fr : Nat × Nat) : Rd (w.alloc (.cells (u8s l).toArray e fr)) 1 (some ⟨w.heap.size, 0, none⟩) l.length (u8s l) :=
  ⟨by rw [u8s_length]; omega, fun _ => ⟨_, rfl, fun j u hu => by
    have hadd : (⟨w.heap.size, 0, none⟩ : Addr).add j = ⟨w.heap.size, j, none⟩ := by unfold Addr.add; split <;> simp_all
    rw [hadd, World.cell?_alloc_mark]
    simpa using hu⟩⟩

theorem shown9 (w : World) : Ret Tryz.prog 13 [] w fun v w' => v = .bool true ∧ Below w.heap.size w w' := by
  refine enter Tryz.func13 rfl rfl rfl ?_
  refine Wc.seq fun _ hK_1 => Wc.region <| Wl.sg rfl rfl <| Wl.nil <| Wq.next hK_1 <| Wc.seq fun _ hK_3 => Wc.region ?_
  refine Wl.call txt26SumC rfl rfl (Sum_r _ _ _ [] _ (by simp) (Rd.nil _ _ _)) rfl ?_
  rintro _ w1 ⟨rfl, hb1⟩
  refine Wl.y (y_eqli rfl rfl) rfl <| Wl.mv rfl rfl ?_
  refine Wl.guardT rfl rfl rfl (fun g_7 => ?_) (fun g_7 => ?_)
  ·
   have g_7_ := g_7
   simp only [DZ] at g_7
   refine Wl.m (m_lit (sz := 1) (vs := [_]) Tryz.underlying33 (by kernel_rfl) rfl rfl rfl rfl rfl) rfl ?_
   refine Wl.on' rfl rfl g_7_ ?_
   refine Wl.m (m_constBytes Tryz.underlying33 Tryz.underlying5 rfl) rfl ?_
   refine Wl.on' rfl rfl g_7_ ?_
   refine Wl.call txt26SumC rfl rfl (Sum_r _ _ _ [97] _ (by simp) (rd_frozen _ [97] _ _)) rfl ?_
   rintro _ w2 ⟨rfl, hb2⟩
   refine Wl.on' rfl rfl g_7_ <| Wl.y (y_eqli rfl rfl) rfl ?_
   refine Wl.y (y_pickT rfl g_7_ rfl) rfl ?_
   refine Wl.mv rfl rfl ?_
   refine Wl.guardT rfl rfl rfl (fun g_14 => ?_) (fun g_14 => ?_)
   ·
    have g_14_ := g_14
    simp only [DZ] at g_14
    refine Wl.m (m_lit (sz := 1) (vs := [_, _, _, _, _, _]) Tryz.underlying33 (by kernel_rfl) rfl rfl rfl rfl rfl) rfl ?_
    refine Wl.on' rfl rfl g_14_ ?_
    refine Wl.m (m_constBytes Tryz.underlying33 Tryz.underlying5 rfl) rfl ?_
    refine Wl.on' rfl rfl g_14_ ?_
    refine Wl.call txt26SumC rfl rfl (Sum_r _ _ _ [102, 111, 111, 98, 97, 114] _ (by simp) (rd_frozen _ [102, 111, 111, 98, 97, 114] _ _)) rfl ?_
    rintro _ w3 ⟨rfl, hb3⟩
    refine Wl.on' rfl rfl g_14_ <| Wl.y (y_eqli rfl rfl) rfl ?_
    refine Wl.y (y_pickT rfl g_14_ rfl) rfl ?_
    refine Wl.sg rfl rfl <| Wl.nil <| Wq.next hK_3 <| Wc.ret ?_
    refine ret1 rfl rfl ?_
    exact ⟨_, rfl, by rw [sum_foobar]; rfl, by
  have h2 := (hb1.alloc hb1.size _).trans (hb2.mono (by have := hb1.size; simp; omega))
  exact (h2.alloc h2.size _).trans (hb3.mono (by have := h2.size; simp; omega))⟩
   have g_14_ := g_14
   simp only [DZ] at g_14
   exact absurd sum_a g_14
  have g_7_ := g_7
  simp only [DZ] at g_7
  exact absurd sum_nil g_7

end Go.Proofs.YtobhpejaoakpmaaGreatDoor
