/- Comparing: package cmp, the order of floats. · Plain: values, how they are in order, what holds of them, how they are reckoned with. · value.truth, by the calculus. · cmp.Or, a whole number against a float. -/
import Derived.Test.YtjmlknjbhbfneaaGreatDoorZD
import Derived.Test.YtjmlknjbhbfneaaGreatDoorZB
import Derived.Test.YtjmlknjbhbfneaaGreatDoorZA
namespace Go.Proofs.YtjmlknjbhbfneaaGreatDoor
open Go.RowKit Go.Bw Go.Bw.Fl
set_option linter.unusedVariables false
set_option linter.unusedSimpArgs false

/-- a number in the order of floats -/
def keyW (b : Nat) : Nat := if isNan b = true then 18446744073709551615 else if 9223372036854775808 ≤ b then 18446744073709551615 - b else b + 9223372036854775808
theorem canon_of {b : Nat} (h : isNan b = false) : canon b = b := by unfold canon; rw [if_neg (ne_tt h)]
theorem key_nan {b : Nat} (h : isNan b = true) : keyW b = 18446744073709551615 := by unfold keyW; rw [if_pos h]
theorem key_num {b : Nat} (h : isNan b = false) (hb : b < 18446744073709551616) : (keyW b < 18446744073709551615) ∧ ((9223372036854775808 ≤ b ∧ keyW b = 18446744073709551615 - b) ∨ (b < 9223372036854775808 ∧ keyW b = b + 9223372036854775808)) := by
  have h' : b % 9223372036854775808 ≤ 9218868437227405312 := by simpa [isNan] using h
  unfold keyW; rw [if_neg (ne_tt h)]; split <;> omega
theorem key_canon (b : Nat) : keyW (canon b) = keyW b := by
  unfold canon
  split
  · rename_i h; rw [key_nan h]; decide
  · rfl
theorem canon_inj {a b : Nat} (ha : a < 18446744073709551616) (hb : b < 18446744073709551616) (h : keyW a = keyW b) : canon a = canon b := by
  cases na : isNan a <;> cases nb : isNan b
  · rw [canon_of na, canon_of nb]; have := key_num na ha; have := key_num nb hb; omega
  · have := key_num na ha; have := key_nan nb; omega
  · have := key_nan na; have := key_num nb hb; omega
  · unfold canon; rw [if_pos na, if_pos nb]
end Go.Proofs.YtjmlknjbhbfneaaGreatDoor
namespace Go.Proofs.YtjmlknjbhbfneaaGreatDoor
open Go.RowKit Go.Bw Go.Bw.Fl
set_option linter.unusedVariables false
set_option linter.unusedSimpArgs false

structure Val where
  k : Int
  n : Int
  f : Nat
  s : List UInt8
def Val.cells (v : Val) : List Value := [.int .i64 v.k, .int .i64 v.n, .float .f64 v.f, str v.s]
def Val.enc (v : Val) : Value := .agg v.cells.toArray
/-- what fits its type -/
structure Val.Ok (v : Val) : Prop where
  n0 : -9223372036854775808 ≤ v.n
  n1 : v.n ≤ 9223372036854775807
  f1 : v.f < 18446744073709551616
def nullV : Val := ⟨0, 0, 0, []⟩
def truthV (t : Bool) : Val := ⟨1, if t = true then 1 else 0, 0, []⟩
def rightV (v : Val) : Bool :=
  if v.k = 0 then decide (v.n = 0 ∧ v.f = 0 ∧ v.s = [])
  else if v.k = 1 then decide ((v.n = 0 ∨ v.n = 1) ∧ v.f = 0 ∧ v.s = [])
  else if v.k = 2 then decide (v.f = 0 ∧ v.s = [])
  else if v.k = 3 then decide (v.n = 0 ∧ v.s = [] ∧ canon v.f = v.f)
  else if v.k = 4 then decide (v.n = 0 ∧ v.f = 0) else false
def sameV (a b : Val) : Bool := decide (a.k = b.k ∧ a.n = b.n ∧ keyW a.f = keyW b.f ∧ a.s = b.s)
end Go.Proofs.YtjmlknjbhbfneaaGreatDoor
namespace Go.Proofs.YtjmlknjbhbfneaaGreatDoor
open Go.RowKit Go.Bw Go.Bw.Fl
set_option linter.unusedVariables false
set_option linter.unusedSimpArgs false

theorem truth_r (t : Bool) (w : World) : Ret Tryz.prog 89 [.bool t] w fun v w' => v = (truthV t).enc ∧ Below w.heap.size w w' := by
  have hb := Below.refl w.heap.size w
  refine enter Tryz.func89 rfl rfl rfl <| Wc.seq fun _ hK_1 => Wc.region <| Wl.allocN (z := (.agg #[(.int .i64 0), (.int .i64 0), (.float .f64 0), (str [])])) (by kernel_rfl) rfl ?_
  rintro g_o0 w_o0 hg_o0 hn_o0 hs_o0
  have hz_o0 := hs_o0.size
  have hb := hb.trans (hs_o0.mono hb.size)
  have hB_o0 := hn_o0
  have hl_o0 := hB_o0.lt
  refine Wl.nil <| Wq.next hK_1 <| Wc.seq fun _ hK_3 => Wc.seq fun _ hK_4 => Wc.region <| Wl.mv rfl rfl <| Wl.nil <| Wq.next hK_4 <| Wc.cond rfl (fun c0_6 => ?_) (fun c0_6 => ?_)
  ·
   have c0_6_ := c0_6
   refine Wc.seq fun _ hK_7 => Wc.region <| Wl.y (y_buildS (z := [(.int .i64 0), (.int .i64 0), (.float .f64 0), (str [])]) (pl := [(0, 1), (1, 1), (2, 1), (3, 1)]) (cs := [_, _, _, _]) Tryz.underlying96 (by kernel_rfl) (by kernel_rfl) rfl rfl rfl) rfl <| Wl.storeS (by kernel_rfl) rfl rfl hB_o0 rfl rfl ?_
   rintro w_s0 hn_s0 hg_s0
   have hz_s0 := hg_s0.size
   have hb := below_blk hb hg_s0 hb.size (by omega)
   have hB_o0 := hn_s0
   refine Wl.nil <| Wq.next hK_7 <| Wc.ret <| Wq.then_ret <| retN (rs := [.cell 2 96]) (vs := [_]) rfl (.cell rfl (loadS Tryz.underlying96 (by kernel_rfl) (fun j u hu => hB_o0.at hu)) .nil) ?_
   exact ⟨_, rfl, by rw [c0_6_]; rfl, hb⟩
  have c0_6_ := c0_6
  refine Wc.skip <| Wq.next hK_3 <| Wc.seq fun _ hK_9 => Wc.region <| Wl.y (y_buildS (z := [(.int .i64 0), (.int .i64 0), (.float .f64 0), (str [])]) (pl := [(0, 1), (1, 1), (2, 1), (3, 1)]) (cs := [_, _, _, _]) Tryz.underlying96 (by kernel_rfl) (by kernel_rfl) rfl rfl rfl) rfl <| Wl.storeS (by kernel_rfl) rfl rfl hB_o0 rfl rfl ?_
  rintro w_s1 hn_s1 hg_s1
  have hz_s1 := hg_s1.size
  have hb := below_blk hb hg_s1 hb.size (by omega)
  have hB_o0 := hn_s1
  refine Wl.nil <| Wq.next hK_9 <| Wc.ret <| retN (rs := [.cell 2 96]) (vs := [_]) rfl (.cell rfl (loadS Tryz.underlying96 (by kernel_rfl) (fun j u hu => hB_o0.at hu)) .nil) ?_
  exact ⟨_, rfl, by rw [c0_6_]; rfl, hb⟩
end Go.Proofs.YtjmlknjbhbfneaaGreatDoor
namespace Go.Proofs.YtjmlknjbhbfneaaGreatDoor
open Go.RowKit Go.Bw Go.Bw.Fl
set_option linter.unusedVariables false
set_option linter.unusedSimpArgs false

end Go.Proofs.YtjmlknjbhbfneaaGreatDoor
