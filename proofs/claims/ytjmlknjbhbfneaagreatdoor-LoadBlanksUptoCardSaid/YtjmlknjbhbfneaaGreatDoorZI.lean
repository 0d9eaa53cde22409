/- The library's contracts at this dump, in plain words (written by the kit's tools, the ones in use kept). · sync.Once.Do at a Once that is not done, one goroutine (after the kit's worked proofs of Lazy). · Laws for strings.Replacer: slices against nil, copy, a row made with room, a call through an interface; what the table of replacements holds. · strings.Replacer: build, at the three bytes that a text is written with otherwise: the table. · strings.Replacer: byteStringReplacer.Replace, at the three bytes that a text is written with otherwise. · strings.NewReplacer and Replace behind it; value.quoted. · value.Text whole, by the calculus. -/
import Derived.Shelf.Strings.Builder1
import Derived.Shelf.Strings.Builder2
import Derived.Shelf.Strings.OnBuilder
import Derived.Shelf.Strings.Trim
import Derived.Shelf.Small.Utf8
import Derived.Shelf.Small.Strs
import Derived.Shelf.Small.Wraps
import Derived.Shelf.Strings.BuilderF
import Derived.Shelf.Strings.BuilderK
import Derived.Shelf.Strconv.Atoi
import Derived.Shelf.Strconv.Itoa0
import Derived.Shelf.Strconv.Itoa1
import Derived.Shelf.LaysM
import Derived.Shelf.Strconv.Itoa2
import Derived.Shelf.Strconv.Itoa3
import Derived.Shelf.Strconv.Itoa4
import Derived.Shelf.Strconv.AtoiErrFast
import Derived.Shelf.Strconv.ParseIntEmpty
import Derived.Shelf.Strconv.AtoiFail
import Derived.Shelf.Strconv.Clone
import Derived.Shelf.Strconv.SyntaxError
import Derived.Shelf.LaysC
import Derived.Shelf.Strconv.ToError
import Derived.Shelf.Strconv.Lower
import Derived.Shelf.Strconv.ParseUint10
import Derived.Shelf.Strconv.ParseUint10Empty
import Derived.Shelf.Strconv.ParseUint10Any
import Derived.Shelf.Strconv.ParseInt10
import Derived.Shelf.Strconv.AtoiLong
import Derived.Shelf.Strconv.AtoiInnerAll
import Derived.Shelf.Strconv.RangeError
import Derived.Shelf.Strconv.ToErrorRange
import Derived.Shelf.Strconv.AtoiAll
import Derived.Shelf.Strconv.ErrVarAll
import Derived.Shelf.Strconv.ParseUintEmpty
import Derived.Shelf.Strconv.ParseUint10b64
import Derived.Shelf.Strconv.ParseUint10b32
import Derived.Shelf.Strconv.ParseUint10b16
import Derived.Shelf.Strconv.ParseUint10b8
import Derived.Shelf.Strconv.ParseUint10At
import Derived.Shelf.Strconv.ParseInt10At64
import Derived.Shelf.Strconv.ParseInt10At32
import Derived.Shelf.Strconv.ParseInt10At16
import Derived.Shelf.Strconv.ParseInt10At8
import Derived.Shelf.Strconv.ParseInt10All
import Derived.Shelf.Strconv.ParseIntPublic10
import Derived.Shelf.Strconv.ErrVarParseInt
import Derived.Ground.MpProg
import Derived.Shelf.Pu.ParseUintPublic10
import Derived.Shelf.Pu.ErrVarParseUint
import Derived.Shelf.Strings.Search1
import Derived.Shelf.Strings.Search2
import Derived.Shelf.Strings.Search3
import Derived.Shelf.Strings.Cut
import Derived.Shelf.Strings.Count
import Derived.Shelf.Strings.Shaped
import Derived.Shelf.Sort.Plain
import Derived.Shelf.Strings.Prefix
import Derived.Shelf.Strings.Split
import Derived.Shelf.Strings.Runes
import Derived.Shelf.Strings.AsciiSet
import Derived.Shelf.Unicode.DecodeSlow
import Derived.Shelf.Slices.In.SortNone
import Derived.Test.YtjmlknjbhbfneaaGreatDoorProg
import Derived.Test.YtjmlknjbhbfneaaGreatDoorZA
import Derived.Tactics
import Derived.Tactics2
import Derived.Defers
import Derived.Laws.Pointers
import Derived.Laws.LoneSync
import Derived.RegionTactic
import Derived.RegionCalls
import Derived.ChangeAlike
import Derived.Test.YtjmlknjbhbfneaaGreatDoorZF
import Derived.Lib.SliceRun
import Derived.Laws.CopyRow
import Derived.Laws.MakeOwn
import Derived.Test.YtjmlknjbhbfneaaGreatDoorZJ
namespace Go.Proofs
open Go.Shelf
def Tryz.lays138_ren : Go.Shelf.Ren := ⟨fun | 138 => 69 | 195 => 103 | 218 => 105 | 143 => 70 | 219 => 106 | 217 => 75 | 225 => 147 | 224 => 148 | 267 => 149 | 266 => 107 | 314 => 185 | n => n, fun | 9 => 9 | 3 => 3 | 4 => 4 | 5 => 5 | 0 => 0 | 46 => 148 | 146 => 226 | 51 => 176 | n => n, fun | 1 => 1 | n => n⟩
theorem Tryz.lays138 : Go.Proofs.Lays.n138 Tryz.prog Tryz.lays138_ren := {
  mixed := by kernel_rfl
  f138 := Tryz.func69.trans (congrArg some (by kernel_rfl))
  f143 := Tryz.func70.trans (congrArg some (by kernel_rfl))
  f195 := Tryz.func103.trans (congrArg some (by kernel_rfl))
  f217 := Tryz.func75.trans (congrArg some (by kernel_rfl))
  f218 := Tryz.func105.trans (congrArg some (by kernel_rfl))
  f219 := Tryz.func106.trans (congrArg some (by kernel_rfl))
  f224 := Tryz.func148.trans (congrArg some (by kernel_rfl))
  f225 := Tryz.func147.trans (congrArg some (by kernel_rfl))
  f266 := Tryz.func107.trans (congrArg some (by kernel_rfl))
  f267 := Tryz.func149.trans (congrArg some (by kernel_rfl))
  f314 := Tryz.func185.trans (congrArg some (by kernel_rfl))
  t0 := Tryz.underlying0
  a0 := Tryz.isAgg0
  z0 := Tryz.sizeOf0
  v0 := Tryz.zeroValue0
  t3 := Tryz.underlying3
  a3 := Tryz.isAgg3
  z3 := Tryz.sizeOf3
  v3 := Tryz.zeroValue3
  t4 := Tryz.underlying4
  a4 := Tryz.isAgg4
  z4 := Tryz.sizeOf4
  v4 := Tryz.zeroValue4
  t5 := Tryz.underlying5
  a5 := Tryz.isAgg5
  z5 := Tryz.sizeOf5
  v5 := Tryz.zeroValue5
  t9 := Tryz.underlying9
  a9 := Tryz.isAgg9
  z9 := Tryz.sizeOf9
  v9 := Tryz.zeroValue9
  t46 := Tryz.underlying148
  a46 := Tryz.isAgg148
  z46 := Tryz.sizeOf148
  v46 := Tryz.zeroValue148
  t51 := Tryz.underlying176
  a51 := Tryz.isAgg176
  z51 := Tryz.sizeOf176
  v51 := Tryz.zeroValue176
  t146 := Tryz.underlying226
  a146 := Tryz.isAgg226
  z146 := Tryz.sizeOf226
  v146 := Tryz.zeroValue226
  g1 := by kernel_rfl }
open Go.RowKit Go.Lib in
theorem Tryz.strings_Count_one (s : ByteArray) (c : UInt8) (w : World) :
    Calls Tryz.prog 69 #[.string s, .string ⟨#[c]⟩] w fun e w' => e = .returned (.int .i64 (Lib.countByte s.data.toList c)) ∧ w' = w := Any.strings_Count_one Tryz.lays138 s c w
end Go.Proofs
namespace Go.Proofs.YtjmlknjbhbfneaaGreatDoor
open Go.RowKit Go.Bw
set_option linter.unusedVariables false
set_option linter.unusedSimpArgs false
theorem race_off (w : World) : (callFunc 229 #[]).run Tryz.prog w = .ok (.value (.tuple #[])) w := run_call_mark0 Tryz.func229 (by kernel_rfl) (by kernel_rfl) (by kernel_rfl) .disable (by kernel_rfl) w
theorem race_on (w : World) : (callFunc 231 #[]).run Tryz.prog w = .ok (.value (.tuple #[])) w := run_call_mark0 Tryz.func231 (by kernel_rfl) (by kernel_rfl) (by kernel_rfl) .enable (by kernel_rfl) w
theorem race_acq (a : Addr) (w : World) : (callFunc 232 #[.pointer (some a)]).run Tryz.prog w = .ok (.value (.tuple #[])) w := run_call_marked Tryz.func232 (by kernel_rfl) (by kernel_rfl) (by kernel_rfl) .acquire (by kernel_rfl) a w
theorem race_rel (a : Addr) (w : World) : (callFunc 234 #[.pointer (some a)]).run Tryz.prog w = .ok (.value (.tuple #[])) w := run_call_marked Tryz.func234 (by kernel_rfl) (by kernel_rfl) (by kernel_rfl) .releaseMerge (by kernel_rfl) a w
/-- Store(true), entered as a deferred call -/
theorem store_later (a : Addr) (x : Value) (u : FrameMode) (w : World) (hc : w.cell? a = some x) (hz : w.frozen? a = false) :
    CallsD Tryz.prog 214 #[.pointer (some a), .bool true] u w fun e u' w' => u' = u ∧ (e = .returned (.tuple #[]) ∧ w' = w.drew.setCell a (.int .u32 1)) := by
  have hc' : w.drew.cell? a = some x := by go_simp
  have hz' : w.drew.frozen? a = false := by go_simp
  have hst := run_call_store (P := Tryz.prog) Tryz.func225 (by kernel_rfl) (by kernel_rfl) (by kernel_rfl) (by kernel_rfl) (k := .u32) (y := 1) hc' hz'
  go_enter_d Tryz.func214, Tryz.ntmps214
  go_wp2
  go_region_calls
  all_goals (go_end0; exact ⟨rfl, rfl⟩)
set_option maxRecDepth 100000 in
set_option maxHeartbeats 1600000 in
/-- Unlock, entered as a deferred call, the lock held and nobody waiting -/
theorem unlock_later (a : Addr) (u : FrameMode) (w : World) (hc : w.cell? a = some (.int .i32 1)) (hz : w.frozen? a = false) :
    CallsD Tryz.prog 213 #[.pointer (some a)] u w fun e u' w' => u' = u ∧ (e = .returned (.tuple #[]) ∧ w' = w.setCell a (.int .i32 0)) := by
  have hd := race_off
  have he := race_on
  have hr := race_rel
  have hadd := run_call_add (P := Tryz.prog) Tryz.func235 (by kernel_rfl) (by kernel_rfl) (by kernel_rfl) .i32 (by kernel_rfl) (y := -1) (s := 0) hc hz (by simp [go_sem]; rfl)
  have hcv := run_convert_to_unsafe (P := Tryz.prog) (src := 280) (dst := 137) Tryz.underlying280 Tryz.underlying137 (by kernel_rfl) hc
  go_enter_d Tryz.func213, Tryz.ntmps213
  go_wp2
  go_end0
  go_wp2
  go_end0
  exact ⟨rfl, rfl⟩
set_option maxRecDepth 100000 in
set_option maxHeartbeats 1600000 in
/-- Lock, the lock free -/
theorem lock_now (a : Addr) (w : World) (hc : w.cell? a = some (.int .i32 0)) (hz : w.frozen? a = false) :
    Calls Tryz.prog 212 #[.pointer (some a)] w fun e w' => e = .returned (.tuple #[]) ∧ w' = w.setCell a (.int .i32 1) := by
  have hd := race_off
  have he := race_on
  have ha := race_acq
  have hcas := run_call_cas_hit (P := Tryz.prog) Tryz.func230 (by kernel_rfl) (by kernel_rfl) (by kernel_rfl) .i32 (by kernel_rfl) (y := 1) hc hz
  have hc' : (w.setCell a (.int .i32 1)).cell? a = some (.int .i32 1) := World.cell?_setCell_same w a _ hc
  have hcv := run_convert_to_unsafe (P := Tryz.prog) (src := 280) (dst := 137) Tryz.underlying280 Tryz.underlying137 (by kernel_rfl) hc'
  go_enter Tryz.func212, Tryz.ntmps212
  go_wp2
  first | go_end0 | (simp only [Exit.inBlock, Exit.then]; refine bodyPost_ret (results_none rfl _ _ _) rfl ?_) | refine bodyPost_ret (results_none rfl _ _ _) rfl ?_
  go_wp2
  go_end0
  exact ⟨rfl, rfl⟩
/-- Load, not yet done -/
theorem load_now (a : Addr) (w : World) (hc : w.cell? a = some (.int .u32 0)) :
    Calls Tryz.prog 195 #[.pointer (some a)] w fun e w' => e = .returned (.bool false) ∧ w' = w := by
  have hl := run_call_load (P := Tryz.prog) Tryz.func211 (by kernel_rfl) (by kernel_rfl) (by kernel_rfl) .u32 (by kernel_rfl) (w := w) (a := a) (x := 0) hc
  have hnot : ∀ (x : Bool) (w : World), (Op.unary .not (.bool x)).run Tryz.prog w = .ok (.bool (!x)) w := fun _ _ => rfl
  go_enter Tryz.func195, Tryz.ntmps195
  go_wp2
  (go_ret; exact ⟨rfl, rfl⟩)
set_option maxRecDepth 100000 in
set_option maxHeartbeats 1600000 in
/-- doSlow, not yet done, the lock free: the function is called between -/
theorem slow_now (g : Nat) (r : Value) (Q : World → Prop) (w : World) (h0 : w.cell? ⟨g, 0, none⟩ = some (.int .u32 0)) (h1 : w.cell? ⟨g, 1, none⟩ = some (.int .i32 0)) (f1 : w.frozen? ⟨g, 1, none⟩ = false)
    (hF : Calls Tryz.prog 168 #[r] (w.setCell ⟨g, 1, none⟩ (.int .i32 1)) fun e w2 => e = .returned (.tuple #[]) ∧ (w2.cell? ⟨g, 0, none⟩ = some (.int .u32 0) ∧ w2.cell? ⟨g, 1, none⟩ = some (.int .i32 1) ∧ w2.frozen? ⟨g, 0, none⟩ = false ∧ w2.frozen? ⟨g, 1, none⟩ = false ∧ Q w2)) :
    Calls Tryz.prog 196 #[.pointer (some ⟨g, 0, none⟩), .func (.func 168) #[r] #[]] w fun e w' => e = .returned (.tuple #[]) ∧ ∃ w2, Q w2 ∧ w' = (w2.drew.setCell ⟨g, 0, none⟩ (.int .u32 1)).setCell ⟨g, 1, none⟩ (.int .i32 0) := by
  have hnot : ∀ (x : Bool) (w : World), (Op.unary .not (.bool x)).run Tryz.prog w = .ok (.bool (!x)) w := fun _ _ => rfl
  go_enter_defers Tryz.func196, Tryz.ntmps196
  go_wp2_with (first
    | (go_at_call 212; refine (lock_now ⟨g, 1, none⟩ _ (by go_simp) (by go_simp)).mono ?_; rintro e w' ⟨rfl, rfl⟩)
    | (go_at_call 195; refine (load_now ⟨g, 0, none⟩ _ ((World.cell?_setCell_other _ ⟨g, 1, none⟩ ⟨g, 0, none⟩ _ (by simp)).trans h0)).mono ?_; rintro e w' ⟨rfl, rfl⟩)
    | (go_at_call 168; refine hF.mono ?_; rintro e w2 ⟨rfl, c0, c1, z0, z1, hQ⟩))
  refine leaves_cons (f := 214) (args := #[.pointer (some ⟨g, 0, none⟩), .bool true]) (by simp) (by simp [go_sem]) <| (store_later ⟨g, 0, none⟩ (.int .u32 0) .returning _ c0 z0).mono ?_
  rintro e u' w'' ⟨rfl, rfl, rfl⟩
  refine leaves_cons (f := 213) (args := #[.pointer (some ⟨g, 1, none⟩)]) (by simp [settle]) (by simp [go_sem]) <| (unlock_later ⟨g, 1, none⟩ _ _ ?_ (by simp [z1])).mono ?_
  · rw [World.cell?_setCell_other _ ⟨g, 0, none⟩ ⟨g, 1, none⟩ _ (by simp), World.cell?_drew]; exact c1
  rintro e u' w'' ⟨rfl, rfl, rfl⟩
  simp [Leaves, settle, results, Tryz.results196]
  exact ⟨w2, hQ, rfl⟩
end Go.Proofs.YtjmlknjbhbfneaaGreatDoor
namespace Go.Bw
open Go.RowKit
set_option linter.unusedVariables false
set_option linter.unusedSimpArgs false
section
variable {P : Program} {N : Nat} {D : List Deferred} {env env' : Env} {a : Act} {w w' : World} {Q : Exit → Act → World → Prop}
variable {ops : Array Oper} {rest : List Oper} {d : Nat} {op : Op} {ty : TypeId} {pos : String} {af : Array Edge}
theorem y_slnil {x : Operand} {t e u : TypeId} {A : Option Addr} {n c : Nat} (ht : P.underlying t = some (.slice e)) (hx : ev env x = some (.slice A n c)) : Yl P N D env (.binOp .eql t x (.const (.slice none 0 0)) u) ty (.bool A.isNone) := fun a ha w dst pos af g => by
  have he : a.eval (.const (.slice none 0 0)) = .slice none 0 0 := rfl
  simp [execOp, ha.eval hx, eqGuard_at_slice, he, Lib.run_eql_slice_nil w t e A n c 0 0 ht]
theorem y_slnn {x : Operand} {t e u : TypeId} {A : Option Addr} {n c : Nat} (ht : P.underlying t = some (.slice e)) (hx : ev env x = some (.slice A n c)) : Yl P N D env (.binOp .neq t x (.const (.slice none 0 0)) u) ty (.bool (!A.isNone)) := fun a ha w dst pos af g => by
  have he : a.eval (.const (.slice none 0 0)) = .slice none 0 0 := rfl
  have hd : ∀ d : Nat, (Op.equalIn (d + 1) t (.slice A n c) (.slice none 0 0)).run P w = .ok A.isNone w := fun d => by cases A <;> simp [Op.equalIn, run_underlying ht]
  have h1 : (binOp .neq t (.slice A n c) (.slice none 0 0)).run P w = .ok (.bool (!A.isNone)) w := by
    simp only [binOp]; simp [Op.equal, Op.maxDepth, hd 9999]
  simp [execOp, ha.eval hx, eqGuard_at_slice, he, h1]
theorem y_indexAddrA {x i : Operand} {t e : TypeId} {len sz : Nat} {p : Addr} {k : IntKind} {m : Int} (ht : P.underlying t = some (.array len e)) (hs : (P.info? e).map (·.size) = some sz) (hx : ev env x = some (.pointer (some p))) (hi : ev env i = some (.int k m)) (h0 : 0 ≤ m) (h1 : m < len) :
    Yl P N D env (.indexAddr t x i) ty (.pointer (some (p.add (m.toNat * sz)))) := fun a ha w dst pos af g => by
  have h5 : ∀ w, (sizeOf e).run P w = .ok sz w := fun w => Go.Bw.run_sizeOf hs w
  simp [execOp, Instr.indexAt, ha.eval hx, ha.eval hi, asIntOf, run_underlying ht, h0, h1, h5, Instr.sureAddr]
theorem Wl.make0 {x y : Operand} {t e : TypeId} {z : Value} {sz bytes : Nat} (ht : P.underlying t = some (.slice e)) (hi : (P.info? e).map (fun i => (i.zero, i.size, i.bytes)) = some (some z, sz, bytes))
    (base : Nat) {c : Nat} {kl kc : IntKind} (hx : ev env x = some (.int kl 0)) (hy : ev env y = some (.int kc c)) (hb : bytes * c ≤ 281474976710656) (h63 : c ≤ maxLen) (hbase : base ≤ w.heap.size) (hd : Nat.blt d N = true)
    (h : ∀ w', w'.ownsRow base e sz (.slice (some ⟨w.heap.size, 0, none⟩) 0 c) 0 [] → w.grownBy w' none → Wl P ops Q rest N D ((d, .slice (some ⟨w.heap.size, 0, none⟩) 0 c) :: env) w') :
    Wl P ops Q (⟨some d, .makeSlice t x y, ty, pos, af, none⟩ :: rest) N D env w := by
  obtain ⟨i, hi0, hi1⟩ := Option.map_eq_some_iff.1 hi
  simp only [Prod.mk.injEq] at hi1
  obtain ⟨hz0, hs0, hb0⟩ := hi1
  obtain ⟨w', hrun, hown, hg⟩ := run_make_own (P := P) w base t e i z sz ht hi0 hz0 hs0 kl kc c (by rw [hb0]; exact hb) h63 hbase
  refine Wl.m (w' := w') (fun a ha dst pos af g => ?_) hd (h w' hown hg)
  simp [execOp, ha.eval hx, ha.eval hy, hrun]
/-- copy into a row of one's own, from a row that holds no more than there is room for -/
theorem Wl.copyOwn {x y : Operand} {t s e f : TypeId} {base n c g o m sc dn dc : Nat} {A : Addr} {xs cs : List Value} (ht : P.underlying t = some (.slice e)) (hs : (P.info? e).map (·.size) = some 1) (hx : ev env x = some (.slice (some ((⟨g, 0, none⟩ : Addr).add o)) dn dc)) (hy : ev env y = some (.slice (some A) m sc))
    (hown : w.ownsRow base f 1 (.slice (some ⟨g, 0, none⟩) n c) n xs) (hr : Rd w 1 (some A) m cs) (h1 : ∀ v ∈ cs, v.oneCell' = true) (hfit : o + m ≤ n) (hdn : m ≤ dn) (hd : Nat.blt d N = true)
    (h : ∀ w', w'.ownsRow base f 1 (.slice (some ⟨g, 0, none⟩) n c) n (xs.take o ++ cs ++ xs.drop (o + m)) → w.grownBy w' (some g) → Wl P ops Q rest N D ((d, .int .i64 m) :: env) w') :
    Wl P ops Q (⟨some d, .call ⟨.builtin .copy, #[x, y], #[t, s]⟩, ty, pos, af, none⟩ :: rest) N D env w := by
  have hcl : cs.length = m := by rw [hr.1, Nat.mul_one]
  rcases hown.2 with ⟨hv, _⟩ | ⟨g', cap, cur, hv, hg, hh, hnc, hcm, hcs, hxs⟩
  · cases hv
  injection hv with hA h2 h3
  injection hA with hA
  injection hA with hA
  subst hA h3
  rw [Nat.mul_one] at hcs hxs
  have hsrc : ∀ j v, cs[j]? = some v → w.cell? (A.add j) = some v := fun j v hj => by
    obtain ⟨p, e1, hc⟩ := hr.2 (by
      rcases Nat.eq_zero_or_pos cs.length with h0 | h0
      · rw [List.eq_nil_of_length_eq_zero h0] at hj; simp at hj
      · exact h0)
    cases e1; exact hc j v hj
  have hrun := run_copy_row (P := P) w t s ty e g o dn dc A m sc cur f cs ht hs hh (by rw [hcl]; exact (Nat.min_eq_left hdn).symm) hsrc (by omega) h1
  refine Wl.m (v := .int .i64 m) (w' := w.setRow g (cur.toList.take o ++ cs ++ cur.toList.drop (o + cs.length)).toArray) (fun a ha dst pos af g' => ?_) hd (h _ ⟨?_, .inr ⟨g, c, _, rfl, hg, setRow_heap w g _ _ f _ hh, hnc, hcm, ?_, ?_⟩⟩ ⟨rfl, rfl, rfl, by simp, fun k _ hne => setRow_other w g k _ (fun e => hne (by rw [e]))⟩)
  · rw [hcl] at hrun
    rw [add_zero_off] at hx
    simp [execOp, resolve, invoke, builtin, ha.eval hx, ha.eval hy, hrun, goInt, hcl]
  · have : xs.length = n := by rw [hown.1, Nat.mul_one]
    simp [hcl]; omega
  · have : cur.toList.length = c := by simpa using hcs
    simp [hcl]; omega
  · have h4 : cur.toList.length = c := by simpa using hcs
    rw [Nat.mul_one, ← hxs]
    have hlen : (cur.toList.take o).length = o := by simp; omega
    rw [List.take_append, List.take_append]
    simp only [List.length_append, hlen, hcl, List.take_take, List.drop_take, List.take_append, List.drop_append]
    have e1 : min n o = o := by omega
    have e2 : min o n = o := by omega
    have e3 : cs.take (n - o) = cs := List.take_of_length_le (by omega)
    simp [e1, e2, e3]
theorem Wl.invoke {x : Operand} {nm : String} {f : FuncId} {t : TypeId} {xs : Array Operand} {ts : Array TypeId} {r : Value} {vs : List Value} {R : Value → World → Prop} (hf : Txt P f) (hm : ∀ w, (Go.method (P.types.size + Made.depth) t r nm).run P w = .ok (f, r) w) (hx : ev env x = some (.iface t r)) (hxs : evs env xs.toList = some vs)
    (hc : Ret P f (r :: vs) w R) (hd : Nat.blt d N = true) (h : ∀ v w', R v w' → Wl P ops Q rest N D ((d, v) :: env) w') :
    Wl P ops Q (⟨some d, .call ⟨.invoke x nm, xs, ts⟩, ty, pos, af, none⟩ :: rest) N D env w := fun a ha => by
  unfold wpList
  simp only [Region.wanted, if_true]
  refine .inl ?_
  have hargs : xs.map a.eval = vs.toArray := evs_arr ha hxs
  unfold Oper.wp
  have h2 : (Go.invoke (.fn (.method nm) #[]) (#[Value.iface t r] ++ vs.toArray)).run P w = .ok (.enter f (r :: vs).toArray) w := by
    have e1 : (#[Value.iface t r] ++ vs.toArray) = (Value.iface t r :: vs).toArray := by simp
    have e2 : ((Value.iface t r :: vs).toArray).extract 1 ((Value.iface t r :: vs).toArray).size = vs.toArray := by simp
    have e3 : (#[r] ++ vs.toArray) = (r :: vs).toArray := by simp
    rw [e1]
    simp only [Go.invoke]
    have e4 : ((Value.iface t r :: vs).toArray)[0]? = some (Value.iface t r) := by simp
    simp only [e4, callMethod, e2]
    simp [run_program, hm, e3, run_callFunc hf]
  simp only [execOp, resolve, ha.eval hx, hargs, Sem.run_bind, Sem.run_pure, Result.andThen_ok, h2, Oper.upon_enter]
  refine Calls.mono hc fun e w' hR => ?_
  obtain ⟨v, rfl, hv⟩ := hR
  exact h v w' hv _ (ha.put hd v)
theorem Ret.of_calls {f : FuncId} {args : List Value} {v : Value} {R : World → Prop} (h : Calls P f args.toArray w fun e w' => e = .returned v ∧ R w') : Ret P f args w fun u w' => u = v ∧ R w' := Calls.mono h fun _ _ ⟨e, hr⟩ => ⟨v, e, rfl, hr⟩
theorem Ret.toCalls {f : FuncId} {args : List Value} {v : Value} {R : World → Prop} (h : Ret P f args w fun u w' => u = v ∧ R w') : Calls P f args.toArray w fun e w' => e = .returned v ∧ R w' := Calls.mono h fun _ _ ⟨u, e, h1, hr⟩ => ⟨by rw [e, h1], hr⟩
theorem Blk.setAt {g j : Nat} {t : TypeId} {cs : List Value} {v : Value} (h : Blk w g t cs) : Blk (w.setCell ⟨g, j, none⟩ v) g t (cs.set j v) ∧ w.grownBy (w.setCell ⟨g, j, none⟩ v) (some g) := by
  have e1 : w.setCell ⟨g, j, none⟩ v = w.setRow g (cs.set j v).toArray := by
    rw [setCell_eq_setRow w g j cs.toArray t (0, 0) v h]; simp
  exact ⟨e1 ▸ h.setRow, ⟨rfl, rfl, rfl, by simp [World.setCell], fun k _ hne => Below.heap_setCell w _ _ k (fun e => hne (by rw [e]))⟩⟩
theorem Rd.grown {sz : Nat} {A : Addr} {n : Nat} {xs : List Value} {row : Option Nat} (h : Rd w sz (some A) n xs) (hg : w.grownBy w' row) (hne : row ≠ some A.block) : Rd w' sz (some A) n xs := ⟨h.1, fun h0 => by
  obtain ⟨p, e, hc⟩ := h.2 h0
  cases e
  exact ⟨A, rfl, fun j u hu => by
    have h1 := hc j u hu
    have hb : (A.add j).block = A.block := by unfold Addr.add; split <;> rfl
    have hlt := block_lt h1
    rw [World.cell?_of_block (w := w) (hg.block _ hlt (by rw [hb]; exact fun e => hne e.symm))]; exact h1⟩⟩
theorem at2 {p : Addr} {k : Nat} {m : Int} {v : Value} (hm : m = (k : Int)) (h : w.cell? (p.add k) = some v) : w.cell? (p.add (m.toNat * 1)) = some v := by subst hm; exact at1 h
theorem ptr_at (p : Addr) (k : Nat) : Value.pointer (some ((p.add 0).add ((k : Int).toNat * 1))) = .pointer (some (p.add k)) := by rw [addr_add_add]; simp
end
theorem put_last (n : Nat) (x v : Value) : put1 (List.replicate (n + 1) x) n [v] = List.replicate n x ++ [v] := by simp [put1]
/-! ### what the table holds -/
def sixL : List Value := [str [92], str [92, 92], str [39], str [92, 39], str [10], str [92, 110]]
def oldB (j : Nat) : UInt8 := if j = 0 then 92 else if j = 1 then 39 else 10
def newB (j : Nat) : UInt8 := if j = 0 then 92 else if j = 1 then 39 else 110
theorem six_old {j : Nat} (h : j < 3) : sixL[2 * j]? = some (str [oldB j]) := by
  have : j = 0 ∨ j = 1 ∨ j = 2 := by omega
  rcases this with rfl | rfl | rfl <;> rfl
theorem six_new {j : Nat} (h : j < 3) : sixL[2 * j + 1]? = some (str [92, newB j]) := by
  have : j = 0 ∨ j = 1 ∨ j = 2 := by omega
  rcases this with rfl | rfl | rfl <;> rfl
theorem old_ne {i j : Nat} (hi : i < 3) (hj : j < 3) (h : i ≠ j) : (oldB i).toNat ≠ (oldB j).toNat := by
  have h1 : i = 0 ∨ i = 1 ∨ i = 2 := by omega
  have h2 : j = 0 ∨ j = 1 ∨ j = 2 := by omega
  rcases h1 with rfl | rfl | rfl <;> rcases h2 with rfl | rfl | rfl <;> first | exact absurd rfl h | decide
def Six (w : World) (A : Addr) : Prop := ∀ j u, sixL[j]? = some u → w.cell? (A.add j) = some u
theorem Six.below {w w' : World} {A : Addr} (h : Six w A) (hb : Below w.heap.size w w') : Six w' A := fun j u hu => cell_below hb (h j u hu)
/-- the table as it is filled: m of the three stand in it -/
structure Rpl (lo : Nat) (w : World) (gg : Nat) (tr : Option Nat) (cs : List Value) (m : Nat) : Prop where
  len : cs.length = 257
  old : ∀ k, k < 256 → (∀ j, j < m → k ≠ (oldB (2 - j)).toNat) → cs[k]? = some (.slice none 0 0)
  new : ∀ j, j < m → ∃ a c, cs[(oldB (2 - j)).toNat]? = some (.slice (some ⟨a, 0, none⟩) 2 c) ∧ Rd w 1 (some ⟨a, 0, none⟩) 2 (u8s [92, newB (2 - j)]) ∧ lo ≤ a ∧ a ≠ gg ∧ tr ≠ some a ∧ a < w.heap.size
theorem Rpl.below {lo : Nat} {w w' : World} {gg : Nat} {tr : Option Nat} {cs : List Value} {m : Nat} (h : Rpl lo w gg tr cs m) (hb : Below w.heap.size w w') : Rpl lo w' gg tr cs m := ⟨h.len, h.old, fun j hj => by
  obtain ⟨a, c, h1, h2, h3, h4, h5, h6⟩ := h.new j hj
  exact ⟨a, c, h1, h2.below hb, h3, h4, h5, Nat.lt_of_lt_of_le h6 hb.size⟩⟩
theorem Rpl.grow {lo : Nat} {w w' : World} {gg : Nat} {tr tr' : Option Nat} {cs : List Value} {m : Nat} (h : Rpl lo w gg tr cs m) (hg : w.grownBy w' tr) (ha : tr' = tr ∨ tr' = some w.heap.size) : Rpl lo w' gg tr' cs m := ⟨h.len, h.old, fun j hj => by
  obtain ⟨a, c, h1, h2, h3, h4, h5, h6⟩ := h.new j hj
  refine ⟨a, c, h1, h2.grown hg h5, h3, h4, ?_, Nat.lt_of_lt_of_le h6 hg.size⟩
  rcases ha with e | e
  · rw [e]; exact h5
  · rw [e]; intro e'; cases e'; exact absurd h6 (Nat.lt_irrefl _)⟩
theorem old_lt (j : Nat) : (oldB j).toNat < 256 := (oldB j).toNat_lt
theorem Rpl.put {lo : Nat} {w w' : World} {gg : Nat} {tr : Option Nat} {cs : List Value} {m : Nat} (h : Rpl lo w gg tr cs m) (hg : w.grownBy w' (some gg)) (x : Value) : Rpl lo w' gg tr (cs.set 256 x) m := ⟨by rw [List.length_set]; exact h.len, fun k hk hn => by
  rw [List.getElem?_set_ne (by omega)]; exact h.old k hk hn, fun j hj => by
  obtain ⟨a, c, h1, h2, h3, h4, h5, h6⟩ := h.new j hj
  refine ⟨a, c, ?_, h2.grown hg (fun e => h4 (by cases e; rfl)), h3, h4, h5, Nat.lt_of_lt_of_le h6 hg.size⟩
  rw [List.getElem?_set_ne (by have := old_lt (2 - j); omega)]; exact h1⟩
theorem Rpl.add {lo : Nat} {w w' : World} {gg : Nat} {tr : Option Nat} {cs : List Value} {m a c : Nat} (h : Rpl lo w gg tr cs m) (hg : w.grownBy w' (some gg)) (hm : m < 3) (hr : Rd w 1 (some ⟨a, 0, none⟩) 2 (u8s [92, newB (2 - m)])) (h3 : lo ≤ a) (h4 : a ≠ gg) (h5 : tr ≠ some a) (h6 : a < w.heap.size) :
    Rpl lo w' gg tr (cs.set (oldB (2 - m)).toNat (.slice (some ⟨a, 0, none⟩) 2 c)) (m + 1) := ⟨by rw [List.length_set]; exact h.len, fun k hk hn => by
  rw [List.getElem?_set_ne (fun e => hn m (by omega) e.symm)]; exact h.old k hk (fun j hj => hn j (by omega)), fun j hj => by
  rcases Nat.lt_or_ge j m with hlt | hge
  · obtain ⟨a', c', g1, g2, g3, g4, g5, g6⟩ := h.new j hlt
    refine ⟨a', c', ?_, g2.grown hg (fun e => g4 (by cases e; rfl)), g3, g4, g5, Nat.lt_of_lt_of_le g6 hg.size⟩
    rw [List.getElem?_set_ne (old_ne (by omega) (by omega) (by omega))]; exact g1
  · have : j = m := by omega
    subst this
    refine ⟨a, c, ?_, hr.grown hg (fun e => h4 (by cases e; rfl)), h3, h4, h5, Nat.lt_of_lt_of_le h6 hg.size⟩
    rw [List.getElem?_set_self (by rw [h.len]; have := old_lt (2 - j); omega)]⟩
theorem emp_len (x : Value) : (List.replicate 256 (Value.slice none 0 0) ++ [x]).length = 257 := by rw [List.length_append, List.length_replicate]; rfl
theorem emp_last (x : Value) : (List.replicate 256 (Value.slice none 0 0) ++ [x])[256]? = some x := by
  rw [List.getElem?_append_right (by rw [List.length_replicate]; exact Nat.le_refl _), List.length_replicate]; rfl
theorem emp_at (x : Value) {k : Nat} (hk : k < 256) : (List.replicate 256 (Value.slice none 0 0) ++ [x])[k]? = some (.slice none 0 0) := by
  rw [List.getElem?_append_left (by rw [List.length_replicate]; exact hk), List.getElem?_replicate, if_pos hk]
def doneL (m : Nat) : List Value := (List.range m).map fun j => str [oldB (2 - j)]
theorem doneL_succ (m : Nat) : doneL (m + 1) = doneL m ++ [str [oldB (2 - m)]] := by simp [doneL, List.range_succ]
/-- the bytes that are written otherwise -/
def spB (c : UInt8) : Bool := c == 92 || c == 39 || c == 10
/-- the whole table -/
structure Rpd (t lo : Nat) (w : World) (gg : Nat) : Prop where
  ge : lo ≤ gg
  tab : ∃ cs A c, Blk w gg t cs ∧ cs.length = 257 ∧ cs[256]? = some (.slice (some A) 3 c) ∧ lo ≤ A.block ∧ Rd w 1 (some A) 3 [str [10], str [39], str [92]] ∧
    (∀ b : UInt8, spB b = false → cs[b.toNat]? = some (.slice none 0 0)) ∧
    ∀ b : UInt8, spB b = true → ∃ a k, cs[b.toNat]? = some (.slice (some ⟨a, 0, none⟩) 2 k) ∧ lo ≤ a ∧ Rd w 1 (some ⟨a, 0, none⟩) 2 (u8s [92, if b = 10 then 110 else b])
theorem Rpd.below {t lo : Nat} {w w' : World} {gg : Nat} (h : Rpd t lo w gg) (hb : Below w.heap.size w w') : Rpd t lo w' gg := ⟨h.ge, by
  obtain ⟨cs, A, c, h1, h2, h3, h4, h5, h6, h7⟩ := h.tab
  exact ⟨cs, A, c, h1.below hb, h2, h3, h4, h5.below hb, h6, fun b hb' => by
    obtain ⟨a, k, g1, g2, g3⟩ := h7 b hb'
    exact ⟨a, k, g1, g2, g3.below hb⟩⟩⟩
theorem Rpd.grown {t lo : Nat} {w w' : World} {gg g : Nat} (h : Rpd t lo w gg) (hg : w.grownBy w' (some g)) (hlt : g < lo) : Rpd t lo w' gg := ⟨h.ge, by
  obtain ⟨cs, A, c, h1, h2, h3, h4, h5, h6, h7⟩ := h.tab
  have hge := h.ge
  exact ⟨cs, A, c, h1.over hg (by omega), h2, h3, h4, h5.grown hg (fun e => by cases e; omega), h6, fun b hb' => by
    obtain ⟨a, k, g1, g2, g3⟩ := h7 b hb'
    exact ⟨a, k, g1, g2, g3.grown hg (fun e => by injection e with e; simp only at e; omega)⟩⟩⟩
theorem Rpl.done {lo t : Nat} {w : World} {gg : Nat} {A : Addr} {c : Nat} {cs : List Value} (h : Rpl lo w gg (some A.block) cs 3) (hB : Blk w gg t cs) (hge : lo ≤ gg) (hA : lo ≤ A.block) (ht : cs[256]? = some (.slice (some A) 3 c)) (hr : Rd w 1 (some A) 3 (doneL 3)) : Rpd t lo w gg := ⟨hge, cs, A, c, hB, h.len, ht, hA, hr, fun b hb => by
  refine h.old b.toNat b.toNat_lt fun j hj e => ?_
  have e' : b = oldB (2 - j) := UInt8.toNat_inj.1 e
  have : j = 0 ∨ j = 1 ∨ j = 2 := by omega
  rcases this with rfl | rfl | rfl <;> (rw [e'] at hb; exact absurd hb (by decide)), fun b hb => by
  have hb' : b = 92 ∨ b = 39 ∨ b = 10 := by simpa [spB, or_assoc] using hb
  rcases hb' with rfl | rfl | rfl
  · obtain ⟨a, k, g1, g2, g3, _⟩ := h.new 2 (by omega); exact ⟨a, k, g1, g3, g2⟩
  · obtain ⟨a, k, g1, g2, g3, _⟩ := h.new 1 (by omega); exact ⟨a, k, g1, g3, g2⟩
  · obtain ⟨a, k, g1, g2, g3, _⟩ := h.new 0 (by omega); exact ⟨a, k, g1, g3, g2⟩⟩
end Go.Bw
namespace Go.Proofs.YtjmlknjbhbfneaaGreatDoor
open Go.RowKit Go.Bw
set_option linter.unusedVariables false
set_option linter.unusedSimpArgs false
theorem fa206_2RepA (p : Addr) (w : World) : (Instr.fieldAt 206 (.pointer (some p)) 2).run Tryz.prog w = .ok (.pointer (some (p.add 4))) w := run_fieldAt (i := 2) (sz := 0) Tryz.underlying206 rfl (by kernel_rfl) p w
theorem fa255_0RepA (p : Addr) (w : World) : (Instr.fieldAt 255 (.pointer (some p)) 0).run Tryz.prog w = .ok (.pointer (some (p.add 0))) w := run_fieldAt (i := 0) (sz := 255) Tryz.underlying255 rfl (by kernel_rfl) p w
theorem fa255_1RepA (p : Addr) (w : World) : (Instr.fieldAt 255 (.pointer (some p)) 1).run Tryz.prog w = .ok (.pointer (some (p.add 256))) w := run_fieldAt (i := 1) (sz := 0) Tryz.underlying255 rfl (by kernel_rfl) p w
theorem one22RepA : One Tryz.prog 22 := ⟨_, Tryz.underlying22, rfl, by kernel_rfl⟩
theorem one40RepA : One Tryz.prog 40 := ⟨_, Tryz.underlying40, rfl, by kernel_rfl⟩
theorem one9RepA : One Tryz.prog 9 := ⟨_, Tryz.underlying9, rfl, by kernel_rfl⟩
theorem sz22RepA : (Tryz.prog.info? 22).map (·.size) = some 1 := by kernel_rfl
theorem sz9RepA : (Tryz.prog.info? 9).map (·.size) = some 1 := by kernel_rfl
theorem build_r (g : Nat) (A : Addr) (c : Nat) (w : World) (hB : Blk w g 206 [.int .u32 0, .int .i32 1, .int .u32 0, .nilIface, .slice (some A) 6 c]) (hS : Six w A) : Ret Tryz.prog 197 [.pointer (some ⟨g, 0, none⟩)] w fun v w' => (∃ gg, v = .iface 256 (.pointer (some ⟨gg, 0, none⟩)) ∧ Rpd 255 w.heap.size w' gg) ∧ Below w.heap.size w w' := by
  have hb := Below.refl w.heap.size w
  have hB_hb := hB
  have hS_hb := hS
  refine enter Tryz.func197 rfl rfl rfl <| Wc.seq fun _ hK_1 => Wc.region <| Wl.sg rfl rfl <| Wl.nil <| Wq.next hK_1 <| Wc.seq fun _ hK_3 => Wc.region <| Wl.mv rfl rfl <| Wl.y (y_nilCheck rfl) rfl <| Wl.y (y_fieldAddr (fa206_2RepA _) rfl) rfl <| Wl.l (l_load one40RepA rfl (by exact hB.at rfl)) rfl <| Wl.sg rfl rfl <| Wl.nil <| Wq.next hK_3 <| Wc.seq fun _ hK_9 => Wc.seq fun _ hK_10 => Wc.region <| Wl.mv rfl rfl <| Wl.y (y_lenl Tryz.underlying40 (by omega) rfl) rfl <| Wl.y (y_eqli rfl rfl) rfl <| Wl.mv rfl rfl <| Wl.guardT rfl rfl rfl (fun g_15 => ?_) (fun g_15 => ?_)
  ·
   have g_15_ := g_15
   simp only [DZ] at g_15
   exact absurd g_15 (by decide)
  have g_15_ := g_15
  simp only [DZ] at g_15
  refine Wl.off' rfl rfl g_15_ rfl rfl <| Wl.off' rfl rfl g_15_ rfl rfl <| Wl.off' rfl rfl g_15_ rfl rfl <| Wl.off' rfl rfl g_15_ rfl rfl <| Wl.y (y_pickF rfl g_15_ rfl) rfl <| Wl.nil <| Wq.next hK_10 <| Wc.condF rfl rfl <| Wc.skip <| Wq.next hK_9 <| Wc.seq fun _ hK_17 => Wc.region <| Wl.sg rfl rfl <| Wl.nil <| Wq.next hK_17 <| Wc.seq fun _ hK_19 => Wc.seq fun _ hK_20 => Wc.region <| Wl.sg rfl rfl <| Wl.nil <| Wq.next hK_20 <| Wc.block <| Wc.loop (X := Nat) (fun x => [(3, .slice (some A) 6 c), (4, .bool (x == 0)), (5, .int .i64 (2 * (x : Int)))]) (fun x wr => x ≤ 3 ∧ Below w.heap.size w wr) (fun x => 3 - x) (0) ?_ ?_ ?_
  · exact by repeat first | exact Sub.nil | refine Sub.cons' rfl (by first | rfl | exact int_eq (by omega) | exact int_eq (by simp) | (simp; done)) ?_
  · exact ⟨by omega, hb⟩
  rintro x wr hI_23 _ hL_22
  replace hI_23 : x ≤ 3 ∧ Below w.heap.size w wr := hI_23
  obtain ⟨hx, hb⟩ := hI_23
  show Wc _ _ _ _ _ [(3, .slice (some A) 6 c), (4, .bool (x == 0)), (5, .int .i64 (2 * (x : Int)))] _
  have hB := hB_hb.below hb
  have hS := hS_hb.below hb
  have hzhb_L0 := hb.size
  refine Wc.seq fun _ hK_24 => Wc.seq fun _ hK_25 => Wc.region <| Wl.mv rfl rfl <| Wl.mv rfl rfl <| Wl.y (y_lenl Tryz.underlying40 (by omega) rfl) rfl <| Wl.y (y_lssi rfl rfl) rfl <| Wl.nil <| Wq.next hK_25 <| Wc.cond rfl (fun c1_30 => ?_) (fun c1_30 => ?_)
  ·
   have c1_30_ := c1_30
   simp only [DZ] at c1_30
   refine Wc.skip <| Wq.next hK_24 <| Wc.seq fun _ hK_31 => Wc.block <| Wc.seq fun _ hK_32 => Wc.seq fun _ hK_33 => Wc.region <| Wl.mv rfl rfl <| Wl.mv rfl rfl <| Wl.y (y_indexAddr Tryz.underlying40 sz9RepA rfl rfl (by omega) (by omega)) rfl <| Wl.l (l_load one9RepA rfl (by exact at2 (by omega) (hS (2 * x) _ (six_old (by omega))))) rfl <| Wl.y (y_lens Tryz.underlying9 (by simp) rfl) rfl <| Wl.y (y_neqi rfl rfl) rfl <| Wl.nil <| Wq.next hK_33 <| Wc.cond rfl (fun c2_40 => ?_) (fun c2_40 => ?_)
   ·
    have c2_40_ := c2_40
    simp only [DZ] at c2_40
    exact absurd c2_40 (by simp)
   have c2_40_ := c2_40
   simp only [DZ] at c2_40
   refine Wc.skip <| Wq.next hK_32 <| Wc.seq fun _ hK_41 => Wc.region <| Wl.mv rfl rfl <| Wl.mv rfl rfl <| Wl.y (y_addI rfl rfl (by omega) (by omega)) rfl <| Wl.y (y_indexAddr Tryz.underlying40 sz9RepA rfl rfl (by omega) (by omega)) rfl <| Wl.l (l_load one9RepA rfl (by exact at2 (by omega) (hS (2 * x + 1) _ (six_new (by omega))))) rfl <| Wl.y (y_lens Tryz.underlying9 (by simp) rfl) rfl <| Wl.y (y_neqi rfl rfl) rfl <| Wl.nil <| Wq.next hK_41 <| Wc.cond rfl (fun c3_49 => ?_) (fun c3_49 => ?_)
   ·
    have c3_49_ := c3_49
    simp only [DZ] at c3_49
    refine Wc.region <| Wl.sg rfl rfl <| Wl.nil <| Wq.block_normal <| Wq.next hK_31 <| Wc.region <| Wl.mv rfl rfl <| Wl.y (y_addI rfl rfl (by omega) (by omega)) rfl <| Wl.sg rfl rfl <| Wl.nil <| fun a_ ha_ => hL_22 _ _ (x + 1) (by omega) (by repeat first | exact Sub.nil | refine Sub.cons' rfl (by first | rfl | exact int_eq (by omega) | exact int_eq (by simp) | (simp; done)) ?_) ?_ a_ ha_
    exact ⟨by omega, hb⟩
   have c3_49_ := c3_49
   simp only [DZ] at c3_49
   simp at c3_49
  have c1_30_ := c1_30
  simp only [DZ] at c1_30
  refine Wc.exit <| Wq.then_exit <| Wq.then_exit <| Wq.block_exit <| Wq.next hK_19 <| Wc.seq fun _ hK_54 => Wc.seq fun _ hK_55 => Wc.region <| Wl.mv rfl rfl <| Wl.nil <| Wq.next hK_55 <| Wc.cond rfl (fun c4_57 => ?_) (fun c4_57 => ?_)
  ·
   have c4_57_ := c4_57
   simp only [DZ] at c4_57
   omega
  have c4_57_ := c4_57
  simp only [DZ] at c4_57
  refine Wc.skip <| Wq.next hK_54 <| Wc.seq fun _ hK_58 => ?_
  have hx3 : x = 3 := by omega
  refine Wc.region <| Wl.mv rfl rfl <| Wl.y (y_lenl Tryz.underlying40 (by omega) rfl) rfl <| Wl.y (y_eq (y_quo rfl rfl (by decide)) ((show Value.int .i64 (IntKind.i64.wrap (Int.tdiv ((6 : Nat) : Int) 2)) = .int .i64 ((3 : Nat) : Int) from rfl))) rfl <| Wl.make0 (z := str []) (sz := 1) (bytes := 16) Tryz.underlying40 (by kernel_rfl) w.heap.size (c := 3) rfl rfl (by decide) (by decide) hb.size rfl ?_
  rintro w1 hO hg1
  have hz1 := hg1.size
  have hOlt : wr.heap.size < w1.heap.size := (own_ge hO _ rfl).2
  have hb := hb.grown hg1 hb.size (fun k hk => by cases hk)
  refine Wl.y (y_buildS (z := List.replicate 257 (.slice none 0 0)) (pl := [(0, 256), (256, 1)]) (cs := List.replicate 256 (.slice none 0 0) ++ [.slice (some ⟨_, 0, none⟩) 0 3]) Tryz.underlying255 (by kernel_rfl) (by kernel_rfl) rfl (by kernel_rfl) (by show put1 (List.replicate (256 + 1) _) 256 [_] = _; exact put_last 256 _ _)) rfl <| Wl.allocN (z := .agg (List.replicate 257 (.slice none 0 0)).toArray) (by kernel_rfl) rfl ?_
  rintro gg w2 hgg hBg hs2
  have hz2 := hs2.size
  have hb := hb.trans (hs2.mono hb.size)
  have hO := own_below hO hs2
  refine Wl.storeS (cs := List.replicate 256 (.slice none 0 0) ++ [.slice (some ⟨_, 0, none⟩) 0 3]) (by kernel_rfl) rfl rfl hBg (by show (List.replicate 257 _).length = (List.replicate 256 _ ++ [_]).length; rw [List.length_append, List.length_replicate, List.length_replicate]; rfl) (by rw [List.all_append, List.all_replicate]; rfl) ?_
  rintro w3 hB3 hg3
  have hz3 := hg3.size
  have hap : (Value.slice (some ⟨wr.heap.size, 0, none⟩) 0 3).ownBlock ≠ some gg := fun e => by injection e with e; simp only at e; omega
  have hO := World.ownsRow.kept hO hg3 (.inr hap)
  have hb := below_blk hb hg3 hb.size (by omega)
  refine Wl.nil <| Wq.next hK_58 <| Wc.seq fun _ hK_65 => Wc.seq fun _ hK_66 => Wc.region <| Wl.mv rfl rfl <| Wl.y (y_lenl Tryz.underlying40 (by omega) rfl) rfl <| Wl.y (y_subI rfl rfl (by omega) (by omega)) rfl <| Wl.sg rfl rfl <| Wl.nil <| Wq.next hK_66 <| Wc.block <| Wc.loop (X := Nat × List Value × Value) (fun (m, cs, tr) => [(3, .slice (some A) 6 c), (11, .pointer (some ⟨gg, 0, none⟩)), (12, .int .i64 (4 - 2 * (m : Int)))]) (fun (m, cs, tr) wr => m ≤ 3 ∧ Below w.heap.size w wr ∧ Blk wr gg 255 cs ∧ wr.ownsRow w.heap.size 9 1 tr m (doneL m) ∧ some gg ≠ tr.ownBlock ∧ cs[256]? = some tr ∧ Rpl w.heap.size wr gg tr.ownBlock cs m) (fun (m, cs, tr) => 3 - m) ((0, List.replicate 256 (.slice none 0 0) ++ [.slice (some ⟨wr.heap.size, 0, none⟩) 0 3], .slice (some ⟨wr.heap.size, 0, none⟩) 0 3)) ?_ ?_ ?_
  · exact by repeat first | exact Sub.nil | refine Sub.cons' rfl (by first | rfl | exact int_eq (by omega) | exact int_eq (by simp) | (simp; done)) ?_
  · exact ⟨by omega, hb, hB3, hO, fun e => hap e.symm, emp_last _, ⟨emp_len _, fun k hk _ => emp_at _ hk, fun j hj => absurd hj (by omega)⟩⟩
  rintro ⟨m, cs, tr⟩ wr hI_72 _ hL_71
  replace hI_72 : m ≤ 3 ∧ Below w.heap.size w wr ∧ Blk wr gg 255 cs ∧ wr.ownsRow w.heap.size 9 1 tr m (doneL m) ∧ some gg ≠ tr.ownBlock ∧ cs[256]? = some tr ∧ Rpl w.heap.size wr gg tr.ownBlock cs m := hI_72
  obtain ⟨hm, hb, hBg, hO, hap, hT, hR⟩ := hI_72
  show Wc _ _ _ _ _ [(3, .slice (some A) 6 c), (11, .pointer (some ⟨gg, 0, none⟩)), (12, .int .i64 (4 - 2 * (m : Int)))] _
  have hB := hB_hb.below hb
  have hS := hS_hb.below hb
  have hzhb_L3 := hb.size
  have hlhBg_L3 := hBg.lt
  refine Wc.seq fun _ hK_73 => Wc.seq fun _ hK_74 => Wc.region <| Wl.mv rfl rfl <| Wl.y (y_geqi rfl rfl) rfl <| Wl.nil <| Wq.next hK_74 <| Wc.cond rfl (fun c7_77 => ?_) (fun c7_77 => ?_)
  ·
   have c7_77_ := c7_77
   simp only [DZ] at c7_77
   refine Wc.skip <| Wq.next hK_73 <| Wc.seq fun _ hK_78 => Wc.block <| Wc.seq fun _ hK_79 => Wc.region <| Wl.mv rfl rfl <| Wl.mv rfl rfl <| Wl.y (y_indexAddr Tryz.underlying40 sz9RepA rfl rfl (by omega) (by omega)) rfl <| Wl.l (l_load one9RepA rfl (by exact at2 (by omega) (hS (2 * (2 - m)) _ (six_old (by omega))))) rfl <| Wl.y (y_eq (y_indexs Tryz.underlying9 rfl rfl (by omega) (by simp)) ((show Value.int .u8 ((([oldB (2 - m)] : List UInt8).getD (0 : Int).toNat 0).toNat : Int) = .int .u8 ((oldB (2 - m)).toNat : Int) from rfl))) rfl <| Wl.sg rfl rfl <| Wl.nil <| Wq.next hK_79 <| Wc.seq fun _ hK_86 => Wc.region <| Wl.mv rfl rfl <| Wl.mv rfl rfl <| Wl.y (y_addI rfl rfl (by omega) (by omega)) rfl <| Wl.y (y_indexAddr Tryz.underlying40 sz9RepA rfl rfl (by omega) (by omega)) rfl <| Wl.l (l_load one9RepA rfl (by exact at2 (by omega) (hS (2 * (2 - m) + 1) _ (six_new (by omega))))) rfl <| Wl.sg rfl rfl <| Wl.nil <| Wq.next hK_86 <| Wc.seq fun _ hK_93 => Wc.seq fun _ hK_94 => Wc.region <| Wl.mv rfl rfl <| Wl.y (y_fieldAddr (fa255_0RepA _) rfl) rfl ?_
   have hk256 := old_lt (2 - m)
   refine Wl.y (y_eq (y_indexAddrA Tryz.underlying253 sz22RepA rfl rfl (by omega) (by omega)) (ptr_at _ _)) rfl <| Wl.l (l_load one22RepA rfl (by exact hBg.at (hR.old _ hk256 fun j hj => old_ne (by omega) (by omega) (by omega)))) rfl <| Wl.y (y_slnil Tryz.underlying22 rfl) rfl <| Wl.nil <| Wq.next hK_94 <| Wc.cond rfl (fun c8_100 => ?_) (fun c8_100 => ?_)
   ·
    have c8_100_ := c8_100
    refine Wc.region <| Wl.y (y_fieldAddr (fa255_1RepA _) rfl) rfl <| Wl.l (l_load one40RepA rfl (by exact hBg.at hT)) rfl <| Wl.mv rfl rfl <| Wl.litN (sz := 1) (vs := [_]) Tryz.underlying22 (by kernel_rfl) rfl rfl rfl rfl rfl rfl ?_
    rintro g_b8 w_b8 hg_b8 hn_b8 hs_b8
    have hz_b8 := hs_b8.size
    have hb := hb.trans (hs_b8.mono hb.size)
    have hB := hB_hb.below hb
    have hS := hS_hb.below hb
    have hBg := Blk.below hBg hs_b8
    have hO := own_below hO hs_b8
    have hR := Rpl.below hR hs_b8
    have hB_b8 := hn_b8
    have hl_b8 := hB_b8.lt
    refine Wl.l (l_str Tryz.underlying22 Tryz.underlying5 Tryz.underlying9 rfl (by exact (show Rd _ 1 (some ⟨_, 0, none⟩) 1 (u8s [oldB (2 - m)]) from hB_b8.rd 1 1 rfl))) rfl <| Wl.litN (sz := 1) (vs := [_]) Tryz.underlying40 (by kernel_rfl) rfl rfl rfl rfl rfl rfl ?_
    rintro g_b9 w_b9 hg_b9 hn_b9 hs_b9
    have hz_b9 := hs_b9.size
    have hb := hb.trans (hs_b9.mono hb.size)
    have hB := hB_hb.below hb
    have hS := hS_hb.below hb
    have hBg := Blk.below hBg hs_b9
    have hO := own_below hO hs_b9
    have hR := Rpl.below hR hs_b9
    have hB_b9 := hn_b9
    have hl_b9 := hB_b9.lt
    refine Wl.append (z := (str [])) (sz := 1) (bytes := 16) Tryz.underlying40 (by kernel_rfl) rfl (by decide) _ rfl hO rfl (hB_b9.rd 1 1 rfl) (fun u hu => by rw [List.mem_singleton.1 hu]; rfl) (by simp only [maxLen]; omega) (by omega) (by exact hb.size) rfl ?_
    rintro v_b10 w_b10 hn_b10 hg_b10 ha_b10
    have hz_b10 := hg_b10.size
    have hb := hb.grown hg_b10 hb.size (fun k_ hk_ => by have := (own_ge hO k_ hk_).1; omega)
    have hB := hB_hb.below hb
    have hS := hS_hb.below hb
    have hBg := Blk.grown hBg hg_b10 (by first | assumption | (simp [Value.ownBlock]; omega))
    have hO := hn_b10
    have hR := hR.grow hg_b10 ha_b10
    have hlen := hR.len
    have hap : some gg ≠ v_b10.ownBlock := by rcases ha_b10 with e | e <;> rw [e]; exact hap; intro e'; cases e'; omega
    obtain ⟨A1, c1, rfl, _, _⟩ := own_form hO
    have hap1 : (Value.slice A1 (m + 1) c1).ownBlock = none ∨ (Value.slice A1 (m + 1) c1).ownBlock ≠ some gg := .inr fun e => hap e.symm
    have hA1 : ∀ k, (Value.slice A1 (m + 1) c1).ownBlock = some k → k < w_b10.heap.size := fun k hk => (own_ge hO _ hk).2
    refine Wl.y (y_fieldAddr (fa255_1RepA _) rfl) rfl <| Wl.storeB one40RepA rfl rfl rfl hBg (by rw [hlen]; decide) ?_
    rintro w_s4 hn_s4 hg_s4
    have hz_s4 := hg_s4.size
    have hb := below_blk hb hg_s4 hb.size (by omega)
    have hB := hB_hb.below hb
    have hS := hS_hb.below hb
    have hO := World.ownsRow.kept hO hg_s4 (by first | assumption | (simp [Value.ownBlock]; omega))
    have hBg := hn_s4
    have hR := hR.put hg_s4 (.slice A1 (m + 1) c1)
    refine Wl.nil <| Wq.next hK_93 ?_
    have hlo := hb.size
    refine Wc.region <| Wl.mv rfl rfl <| Wl.mv rfl rfl <| Wl.bytesN Tryz.underlying9 Tryz.underlying22 Tryz.underlying5 rfl rfl ?_
    rintro g_o91 c_o91 w_o91 hg_o91 hl_o91 hn_o91 hs_o91
    have hz_o91 := hs_o91.size
    have hb := hb.trans (hs_o91.mono hb.size)
    have hB := hB_hb.below hb
    have hS := hS_hb.below hb
    have hBg := Blk.below hBg hs_o91
    have hO := own_below hO hs_o91
    have hR := Rpl.below hR hs_o91
    have hR_o91 := hn_o91
    refine Wl.y (y_fieldAddr (fa255_0RepA _) rfl) rfl <| Wl.y (y_eq (y_indexAddrA Tryz.underlying253 sz22RepA rfl rfl (by omega) (by omega)) (ptr_at _ _)) rfl ?_
    have hR91 := hR_o91
    refine Wl.storeB one22RepA rfl rfl rfl hBg (by rw [List.length_set, hlen]; omega) ?_
    rintro w_s5 hn_s5 hg_s5
    have hz_s5 := hg_s5.size
    have hb := below_blk hb hg_s5 hb.size (by omega)
    have hB := hB_hb.below hb
    have hS := hS_hb.below hb
    have hO := World.ownsRow.kept hO hg_s5 (by first | assumption | (simp [Value.ownBlock]; omega))
    have hBg := hn_s5
    have hR := hR.add (c := c_o91) hg_s5 (by omega) hR91 (by omega) (by omega) (fun e => absurd (hA1 _ e) (by omega)) hl_o91
    refine Wl.nil <| Wq.block_normal <| Wq.next hK_78 <| Wc.region <| Wl.mv rfl rfl <| Wl.y (y_subI rfl rfl (by omega) (by omega)) rfl <| Wl.sg rfl rfl <| Wl.nil <| fun a_ ha_ => hL_71 _ _ ((m + 1, (cs.set 256 (.slice A1 (m + 1) c1)).set (oldB (2 - m)).toNat (.slice (some ⟨g_o91, 0, none⟩) 2 c_o91), .slice A1 (m + 1) c1)) (by simp; omega) (by repeat first | exact Sub.nil | refine Sub.cons' rfl (by first | rfl | exact int_eq (by omega) | exact int_eq (by simp) | (simp; done)) ?_) ?_ a_ ha_
    exact ⟨by omega, hb, hBg, by rw [doneL_succ]; exact hO, hap, by rw [List.getElem?_set_ne (by have := old_lt (2 - m); omega), List.getElem?_set_self (by rw [hlen]; decide)], hR⟩
   have c8_100_ := c8_100
   cases c8_100
  have c7_77_ := c7_77
  simp only [DZ] at c7_77
  have hm3 : m = 3 := by omega
  subst hm3
  have hRd := hO
  obtain ⟨_, h0 | ⟨g1, cap, cur, rfl, hge, _⟩⟩ := hO
  · exact absurd h0.2 (by decide)
  have hdone := hR.done hBg (by omega) hge hT (Rd.of_own hRd)
  refine Wc.exit <| Wq.then_exit <| Wq.then_exit <| Wq.block_exit <| Wq.next hK_65 <| Wc.seq fun _ hK_117 => Wc.region <| Wl.y (y_iface Tryz.underlying256 (by intro _ h; cases h) rfl) rfl <| Wl.sg rfl rfl <| Wl.nil <| Wq.next hK_117 <| Wc.ret <| ret1 rfl rfl ?_
  exact ⟨_, rfl, ⟨gg, rfl, hdone⟩, hb⟩

end Go.Proofs.YtjmlknjbhbfneaaGreatDoor
namespace Go.Bw
open Go.RowKit
set_option linter.unusedVariables false
set_option linter.unusedSimpArgs false
/-- how a byte is written -/
def qcR (c : UInt8) : List UInt8 := if spB c then [92, if c = 10 then 110 else c] else [c]
theorem qcR_sp {c : UInt8} (h : spB c = true) : qcR c = [92, if c = 10 then 110 else c] := by unfold qcR; rw [if_pos h]
theorem qcR_ns {c : UInt8} (h : spB c = false) : qcR c = [c] := by unfold qcR; rw [if_neg (by rw [h]; decide)]
theorem qcR_len (l : List UInt8) : (l.flatMap qcR).length = l.length + l.countP spB := by
  induction l with
  | nil => rfl
  | cons c r ih =>
    rw [List.flatMap_cons, List.length_append, ih, List.length_cons, List.countP_cons]
    cases h : spB c
    · rw [qcR_ns h, if_neg (by decide)]; simp; omega
    · rw [qcR_sp h, if_pos rfl]; simp; omega
theorem qcR_none {l : List UInt8} (h : l.countP spB = 0) : l.flatMap qcR = l := by
  induction l with
  | nil => rfl
  | cons c r ih =>
    rw [List.countP_cons] at h
    cases hs : spB c
    · rw [List.flatMap_cons, qcR_ns hs, ih (by omega)]; rfl
    · rw [if_pos hs] at h; omega
def cntR (l : List UInt8) : Nat → Nat
  | 0 => 0
  | x + 1 => cntR l x + Lib.countByte l (oldB (2 - x))
theorem cntR_all (l : List UInt8) : cntR l 3 = l.countP spB := by
  show 0 + l.count 10 + l.count 39 + l.count 92 = _
  induction l with
  | nil => rfl
  | cons c r ih =>
    rw [List.countP_cons, List.count_cons, List.count_cons, List.count_cons, ← ih]
    have e : ∀ d : UInt8, (c == d) = decide (c = d) := fun d => rfl
    unfold spB
    simp only [e]
    by_cases h1 : c = 92
    · subst h1; simp; omega
    by_cases h2 : c = 39
    · subst h2; simp; omega
    by_cases h3 : c = 10
    · subst h3; simp; omega
    simp [h1, h2, h3]
theorem count_le' (l : List UInt8) (c : UInt8) : Lib.countByte l c ≤ l.length := List.count_le_length
theorem cntR_le (l : List UInt8) : ∀ x, cntR l x ≤ x * l.length
  | 0 => by simp [cntR]
  | x + 1 => by have := cntR_le l x; have := count_le' l (oldB (2 - x)); simp only [cntR, Nat.succ_mul]; omega
theorem take_one {l : List UInt8} {i : Nat} (h : i < l.length) : l.take (i + 1) = l.take i ++ [l.getD i 0] := by
  rw [List.take_succ_eq_append_getElem h]; simp [List.getD, List.getElem?_eq_getElem h]
theorem cp_succ {l : List UInt8} {i : Nat} (h : i < l.length) : (l.take (i + 1)).countP spB = (l.take i).countP spB + (if spB (l.getD i 0) = true then 1 else 0) := by
  rw [take_one h, List.countP_append, List.countP_singleton]
theorem fl_succ {l : List UInt8} {i : Nat} (h : i < l.length) : (l.take (i + 1)).flatMap qcR = (l.take i).flatMap qcR ++ qcR (l.getD i 0) := by
  rw [take_one h, List.flatMap_append]; simp
theorem fl_le (l : List UInt8) (i : Nat) : ((l.take i).flatMap qcR).length ≤ l.length + l.countP spB := by
  rw [← qcR_len]
  have e : l.flatMap qcR = (l.take i).flatMap qcR ++ (l.drop i).flatMap qcR := by rw [← List.flatMap_append, List.take_append_drop]
  rw [e, List.length_append]; omega
def bufR (p : List UInt8) (n : Nat) : List Value := u8s p ++ List.replicate (n - p.length) (.int .u8 0)
theorem buf_copy (p q : List UInt8) (n : Nat) (h : p.length + q.length ≤ n) : (bufR p n).take p.length ++ u8s q ++ (bufR p n).drop (p.length + q.length) = bufR (p ++ q) n := by
  unfold bufR
  have e1 : (u8s p).length = p.length := u8s_length p
  rw [List.take_append_of_le_length (by omega), List.take_of_length_le (by omega), ← e1, List.drop_append, List.drop_of_length_le (by omega)]
  rw [u8s_append, List.drop_replicate, e1, List.length_append]
  simp only [List.nil_append, List.append_assoc]
  congr 3; omega
theorem buf_set (p : List UInt8) (b : UInt8) (n : Nat) (h : p.length < n) : (bufR p n).set p.length (.int .u8 b.toNat) = bufR (p ++ [b]) n := by
  unfold bufR
  have e1 : (u8s p).length = p.length := u8s_length p
  obtain ⟨k, hk⟩ : ∃ k, n - p.length = k + 1 := ⟨n - p.length - 1, by omega⟩
  rw [List.set_append_right _ _ (by omega), e1, Nat.sub_self, hk, List.replicate_succ, List.set_cons_zero, u8s_append, List.append_assoc]
  have : n - (p ++ [b]).length = k := by rw [List.length_append]; simp; omega
  rw [this]; rfl
theorem sl_eq {g n j : Nat} (h : j < n) : Value.slice (if n = ((j : Int)).toNat then some (⟨g, 0, none⟩ : Addr) else (some (⟨g, 0, none⟩ : Addr)).map (·.add ((j : Int).toNat * 1))) (n - (j : Int).toNat) (n - (j : Int).toNat) = .slice (some ((⟨g, 0, none⟩ : Addr).add j)) (n - j) (n - j) := by
  rw [Int.toNat_natCast, if_neg (by omega), Nat.mul_one]; rfl
theorem ptr1 (p : Addr) (k : Nat) : Value.pointer (some (p.add ((k : Int).toNat * 1))) = .pointer (some (p.add k)) := by rw [Int.toNat_natCast, Nat.mul_one]
/-- the table with its parts named -/
structure Rt (t : TypeId) (w : World) (gg : Nat) (cs : List Value) (A : Addr) (c : Nat) : Prop where
  blk : Blk w gg t cs
  tr : cs[256]? = some (.slice (some A) 3 c)
  row : ∀ j, j < 3 → w.cell? (A.add j) = some (str [oldB (2 - j)])
  any : ∀ b : UInt8, ∃ B n k, cs[b.toNat]? = some (.slice B n k) ∧ B.isNone = !spB b ∧ (spB b = true → n = 2 ∧ ∃ a : Nat, B = some ⟨a, 0, none⟩ ∧ Rd w 1 (some ⟨a, 0, none⟩) 2 (u8s (qcR b)))
theorem Rpd.openT {t lo : Nat} {w : World} {gg : Nat} (h : Rpd t lo w gg) : ∃ cs A c, Rt t w gg cs A c := by
  obtain ⟨cs, A, c, h1, h2, h3, h4, h5, h6, h7⟩ := h.tab
  obtain ⟨p, e, hc⟩ := h5.2 (by simp)
  cases e
  refine ⟨cs, A, c, h1, h3, fun j hj => ?_, fun b => ?_⟩
  · have : j = 0 ∨ j = 1 ∨ j = 2 := by omega
    rcases this with rfl | rfl | rfl <;> exact hc _ _ rfl
  · cases hb : spB b
    · exact ⟨none, 0, 0, h6 b hb, rfl, fun e => by cases e⟩
    · obtain ⟨a, k, g1, g2, g3⟩ := h7 b hb
      exact ⟨_, _, _, g1, rfl, fun _ => ⟨rfl, a, rfl, by rw [qcR_sp hb]; exact g3⟩⟩
theorem Rt.below {t : TypeId} {w w' : World} {gg : Nat} {cs : List Value} {A : Addr} {c : Nat} (h : Rt t w gg cs A c) (hb : Below w.heap.size w w') : Rt t w' gg cs A c := ⟨h.blk.below hb, h.tr, fun j hj => cell_below hb (h.row j hj), fun b => by
  obtain ⟨B, n, k, h1, h2, h3⟩ := h.any b
  exact ⟨B, n, k, h1, h2, fun e => by obtain ⟨e1, a, e2, e3⟩ := h3 e; exact ⟨e1, a, e2, e3.below hb⟩⟩⟩
theorem sp_old {j : Nat} (h : j < 3) : spB (oldB j) = true := by
  have : j = 0 ∨ j = 1 ∨ j = 2 := by omega
  rcases this with rfl | rfl | rfl <;> rfl
end Go.Bw
namespace Go.Proofs.YtjmlknjbhbfneaaGreatDoor
open Go.RowKit Go.Bw
set_option linter.unusedVariables false
set_option linter.unusedSimpArgs false
theorem fa255_0RepB (p : Addr) (w : World) : (Instr.fieldAt 255 (.pointer (some p)) 0).run Tryz.prog w = .ok (.pointer (some (p.add 0))) w := run_fieldAt (i := 0) (sz := 255) Tryz.underlying255 rfl (by kernel_rfl) p w
theorem fa255_1RepB (p : Addr) (w : World) : (Instr.fieldAt 255 (.pointer (some p)) 1).run Tryz.prog w = .ok (.pointer (some (p.add 256))) w := run_fieldAt (i := 1) (sz := 0) Tryz.underlying255 rfl (by kernel_rfl) p w
theorem one22RepB : One Tryz.prog 22 := ⟨_, Tryz.underlying22, rfl, by kernel_rfl⟩
theorem one40RepB : One Tryz.prog 40 := ⟨_, Tryz.underlying40, rfl, by kernel_rfl⟩
theorem one9RepB : One Tryz.prog 9 := ⟨_, Tryz.underlying9, rfl, by kernel_rfl⟩
theorem sz22RepB : (Tryz.prog.info? 22).map (·.size) = some 1 := by kernel_rfl
theorem sz5RepB : (Tryz.prog.info? 5).map (·.size) = some 1 := by kernel_rfl
theorem sz9RepB : (Tryz.prog.info? 9).map (·.size) = some 1 := by kernel_rfl
theorem txt69RepB : Txt Tryz.prog 69 := ⟨_, Tryz.func69, by kernel_rfl, rfl⟩   -- strings.Count
theorem count_r (l : List UInt8) (c : UInt8) (w : World) : Ret Tryz.prog 69 [str l, str [c]] w fun v w' => v = .int .i64 (Lib.countByte l c) ∧ w' = w := Ret.of_calls (Tryz.strings_Count_one ⟨l.toArray⟩ c w)
theorem oneU8 : One Tryz.prog 5 := ⟨_, Tryz.underlying5, rfl, by kernel_rfl⟩
theorem bsr_r (gg : Nat) (cs : List Value) (A : Addr) (c : Nat) (l : List UInt8) (w : World) (hT : Rt 255 w gg cs A c) (hl : l.length ≤ 1099511627776) : Ret Tryz.prog 273 [.pointer (some ⟨gg, 0, none⟩), str l] w fun v w' => v = str (l.flatMap qcR) ∧ Below w.heap.size w w' := by
  have hcp : l.countP spB ≤ l.length := List.countP_le_length
  have hql := qcR_len l
  have hb := Below.refl w.heap.size w
  have hT_hb := hT
  refine enter Tryz.func273 rfl rfl rfl <| Wc.seq fun _ hK_1 => Wc.region <| Wl.sg rfl rfl <| Wl.nil <| Wq.next hK_1 <| Wc.seq fun _ hK_3 => Wc.region <| Wl.mv rfl rfl <| Wl.y (y_lens Tryz.underlying9 (by omega) rfl) rfl <| Wl.sg rfl rfl <| Wl.nil <| Wq.next hK_3 <| Wc.seq fun _ hK_7 => Wc.region <| Wl.sg rfl rfl <| Wl.nil <| Wq.next hK_7 <| Wc.seq fun _ hK_9 => Wc.seq fun _ hK_10 => Wc.region <| Wl.mv rfl rfl <| Wl.y (y_nilCheck rfl) rfl <| Wl.y (y_fieldAddr (fa255_1RepB _) rfl) rfl <| Wl.l (l_load one40RepB rfl (by exact hT.blk.at hT.tr)) rfl <| Wl.y (y_lenl Tryz.underlying40 (by omega) rfl) rfl <| Wl.y (y_mulI rfl rfl (by omega) (by omega)) rfl <| Wl.mv rfl rfl <| Wl.y (y_lens Tryz.underlying9 (by omega) rfl) rfl <| Wl.y (y_leqi rfl rfl) rfl <| Wl.nil <| Wq.next hK_10 <| Wc.meet (X := Unit) (fun u_ => [(0, .pointer (some ⟨gg, 0, none⟩)), (1, str l), (5, .int .i64 ((l.length + l.countP spB : Nat) : Int)), (6, .bool (decide (0 < l.countP spB)))]) (fun u_ wr => Below w.heap.size w wr) (fun _ hM_20 => ?_) ?_
  ·
   refine Wc.cond rfl (fun c0_21 => ?_) (fun c0_21 => ?_)
   ·
    have c0_21_ := c0_21
    simp only [DZ] at c0_21
    refine Wc.seq fun _ hK_22 => Wc.region <| Wl.mv rfl rfl <| Wl.y (y_nilCheck rfl) rfl <| Wl.y (y_fieldAddr (fa255_1RepB _) rfl) rfl <| Wl.l (l_load one40RepB rfl (by exact hT.blk.at hT.tr)) rfl <| Wl.y (y_lenl Tryz.underlying40 (by omega) rfl) rfl <| Wl.mv rfl rfl <| Wl.nil <| Wq.next hK_22 <| Wc.block <| Wc.loop (X := Nat) (fun x => [(0, .pointer (some ⟨gg, 0, none⟩)), (1, str l), (5, .int .i64 ((l.length + cntR l x : Nat) : Int)), (6, .bool (decide (0 < cntR l x))), (30, .slice (some A) 3 c), (31, .int .i64 ((3 : Nat) : Int)), (32, .int .i64 (x : Int))]) (fun x wr => x ≤ 3 ∧ Below w.heap.size w wr) (fun x => 3 - x) (0) ?_ ?_ ?_
    · exact by repeat first | exact Sub.nil | refine Sub.cons' rfl (by first | rfl | exact int_eq (by omega) | exact int_eq (by simp) | (simp; done)) ?_
    · exact ⟨by omega, hb⟩
    rintro x wr hI_30 _ hL_29
    replace hI_30 : x ≤ 3 ∧ Below w.heap.size w wr := hI_30
    obtain ⟨hx, hb⟩ := hI_30
    show Wc _ _ _ _ _ [(0, .pointer (some ⟨gg, 0, none⟩)), (1, str l), (5, .int .i64 ((l.length + cntR l x : Nat) : Int)), (6, .bool (decide (0 < cntR l x))), (30, .slice (some A) 3 c), (31, .int .i64 ((3 : Nat) : Int)), (32, .int .i64 (x : Int))] _
    have hT := hT_hb.below hb
    have hzhb_L0 := hb.size
    refine Wc.seq fun _ hK_31 => Wc.region <| Wl.y (y_lssi rfl rfl) rfl <| Wl.nil <| Wq.next hK_31 <| Wc.seq fun _ hK_33 => Wc.cond rfl (fun c1_34 => ?_) (fun c1_34 => ?_)
    ·
     have c1_34_ := c1_34
     simp only [DZ] at c1_34
     refine Wc.skip <| Wq.next hK_33 <| Wc.seq fun _ hK_35 => Wc.block <| Wc.seq fun _ hK_36 => Wc.region <| Wl.y (y_indexAddr Tryz.underlying40 sz9RepB rfl rfl (by omega) (by omega)) rfl <| Wl.l (l_load one9RepB rfl (by exact at1 (hT.row x (by omega)))) rfl <| Wl.sg rfl rfl <| Wl.nil <| Wq.next hK_36 <| Wc.seq fun _ hK_40 => Wc.region <| Wl.mv rfl rfl <| Wl.mv rfl rfl <| Wl.call txt69RepB rfl rfl (count_r l (oldB (2 - x)) _) rfl ?_
     rintro _ w_ ⟨rfl, hw_⟩
     have hw_ := hw_.symm; subst hw_
     refine Wl.sg rfl rfl <| Wl.nil <| Wq.next hK_40 <| Wc.seq fun _ hK_45 => Wc.region <| Wl.mv rfl rfl <| Wl.y (y_neqi rfl rfl) rfl <| Wl.nil <| Wq.next hK_45 <| Wc.cond rfl (fun c2_48 => ?_) (fun c2_48 => ?_)
     ·
      have c2_48_ := c2_48
      simp only [DZ] at c2_48
      refine Wc.seq fun _ hK_49 => ?_
      obtain ⟨B9, n9, k9, hc9, hi9, hy9⟩ := hT.any (oldB (2 - x))
      obtain ⟨rfl, a9, rfl, _⟩ := hy9 (sp_old (by omega))
      have hcl := count_le' l (oldB (2 - x))
      have hxl := cntR_le l x
      have hx2 : x * l.length ≤ 3 * l.length := Nat.mul_le_mul_right _ (by omega)
      have hk9 := old_lt (2 - x)
      refine Wc.quiet (by kernel_rfl) (by kernel_rfl) <| Wy.y (y_move rfl) rfl <| Wy.y (y_move rfl) rfl <| Wy.y (y_move rfl) rfl <| Wy.y (y_move rfl) rfl <| Wy.y (y_eq (y_indexs Tryz.underlying9 rfl rfl (by omega) (by simp)) ((show Value.int .u8 ((([oldB (2 - x)] : List UInt8).getD (0 : Int).toNat 0).toNat : Int) = .int .u8 ((oldB (2 - x)).toNat : Int) from rfl))) rfl <| Wy.y (y_nilCheck rfl) rfl <| Wy.y (y_fieldAddr (fa255_0RepB _) rfl) rfl <| Wy.y (y_eq (y_indexAddrA Tryz.underlying253 sz22RepB rfl rfl (by omega) (by omega)) (ptr_at _ _)) rfl <| Wy.l (fun wq hq => l_load one22RepB rfl (by have hT := hT.below hq; exact hT.blk.at hc9)) rfl <| Wy.y (y_lenl Tryz.underlying22 (by omega) rfl) rfl <| Wy.y (y_subI rfl rfl (by omega) (by omega)) rfl <| Wy.y (y_mulI rfl rfl (by omega) (by omega)) rfl <| Wy.y (y_addI rfl rfl (by omega) (by omega)) rfl <| Wy.y (y_assign rfl) rfl <| Wy.nil fun w_g9 hs_g9 => ?_
      have hz_g9 := hs_g9.size
      have hb := hb.trans (hs_g9.mono hb.size)
      have hT := hT_hb.below hb
      refine Wq.next hK_49 <| Wc.region <| Wl.sg rfl rfl <| Wl.nil <| Wq.block_normal <| Wq.next hK_35 <| Wc.region <| Wl.y (y_addI rfl rfl (by omega) (by omega)) rfl <| Wl.mv rfl rfl <| Wl.nil <| fun a_ ha_ => hL_29 _ _ (x + 1) (by omega) (by repeat first | exact Sub.nil | refine Sub.cons' rfl (by first | rfl | exact int_eq (by simp only [cntR]; omega) | exact bool_eq (decide_eq_true (by simp only [cntR]; omega)).symm | exact bool_eq (decide_eq_decide.2 (by simp only [cntR]; omega))) ?_) ?_ a_ ha_
      exact ⟨by omega, hb⟩
     have c2_48_ := c2_48
     simp only [DZ] at c2_48
     refine Wc.skip <| Wq.block_normal <| Wq.next hK_35 <| Wc.region <| Wl.y (y_addI rfl rfl (by omega) (by omega)) rfl <| Wl.mv rfl rfl <| Wl.nil <| fun a_ ha_ => hL_29 _ _ (x + 1) (by omega) (by repeat first | exact Sub.nil | refine Sub.cons' rfl (by first | rfl | exact int_eq (by simp only [cntR]; omega) | exact bool_eq (decide_eq_true (by simp only [cntR]; omega)).symm | exact bool_eq (decide_eq_decide.2 (by simp only [cntR]; omega))) ?_) ?_ a_ ha_
     exact ⟨by omega, hb⟩
    have c1_34_ := c1_34
    simp only [DZ] at c1_34
    have hx3 : x = 3 := by omega
    subst hx3
    have hcx := cntR_all l
    refine Wc.exit <| Wq.then_exit <| Wq.then_exit <| Wq.block_exit ?_
    skip
    refine Wq.meet hM_20 (()) (by repeat first | exact Sub.nil | refine Sub.cons' rfl (by first | rfl | exact int_eq (by rw [hcx]) | exact bool_eq (by rw [hcx]) | exact int_eq (by rw [hc3]) | exact bool_eq (by rw [hc3])) ?_) ?_
    exact hb
   have c0_21_ := c0_21
   simp only [DZ] at c0_21
   refine Wc.seq fun _ hK_69 => Wc.region <| Wl.sg rfl rfl <| Wl.nil <| Wq.next hK_69 <| Wc.block <| Wc.loop (X := Nat) (fun i => [(0, .pointer (some ⟨gg, 0, none⟩)), (1, str l), (5, .int .i64 ((l.length + (l.take i).countP spB : Nat) : Int)), (6, .bool (decide (0 < (l.take i).countP spB))), (10, .int .i64 (i : Int))]) (fun i wr => i ≤ l.length ∧ Below w.heap.size w wr) (fun i => l.length - i) (0) ?_ ?_ ?_
   · exact by repeat first | exact Sub.nil | refine Sub.cons' rfl (by first | rfl | exact int_eq (by omega) | exact int_eq (by simp) | (simp; done)) ?_
   · exact ⟨by omega, hb⟩
   rintro i wr hI_72 _ hL_71
   replace hI_72 : i ≤ l.length ∧ Below w.heap.size w wr := hI_72
   obtain ⟨hi, hb⟩ := hI_72
   show Wc _ _ _ _ _ [(0, .pointer (some ⟨gg, 0, none⟩)), (1, str l), (5, .int .i64 ((l.length + (l.take i).countP spB : Nat) : Int)), (6, .bool (decide (0 < (l.take i).countP spB))), (10, .int .i64 (i : Int))] _
   have hT := hT_hb.below hb
   have hzhb_L1 := hb.size
   refine Wc.seq fun _ hK_73 => Wc.seq fun _ hK_74 => Wc.region <| Wl.mv rfl rfl <| Wl.mv rfl rfl <| Wl.y (y_lens Tryz.underlying9 (by omega) rfl) rfl <| Wl.y (y_lssi rfl rfl) rfl <| Wl.nil <| Wq.next hK_74 <| Wc.cond rfl (fun c3_79 => ?_) (fun c3_79 => ?_)
   ·
    have c3_79_ := c3_79
    simp only [DZ] at c3_79
    have hil : i < l.length := by omega
    refine Wc.skip <| Wq.next hK_73 <| Wc.seq fun _ hK_80 => Wc.block <| Wc.seq fun _ hK_81 => Wc.region <| Wl.mv rfl rfl <| Wl.mv rfl rfl <| Wl.y (y_eq (y_indexs Tryz.underlying9 rfl rfl (by omega) (by omega)) ((show Value.int .u8 ((l.getD (i : Int).toNat 0).toNat : Int) = .int .u8 ((l.getD i 0).toNat : Int) from rfl))) rfl <| Wl.sg rfl rfl <| Wl.nil <| Wq.next hK_81 <| Wc.seq fun _ hK_86 => ?_
    obtain ⟨B9, n9, k9, hc9, hi9, hy9⟩ := hT.any (l.getD i 0)
    have hk9 := (l.getD i 0).toNat_lt
    refine Wc.region <| Wl.mv rfl rfl <| Wl.mv rfl rfl <| Wl.y (y_nilCheck rfl) rfl <| Wl.y (y_fieldAddr (fa255_0RepB _) rfl) rfl <| Wl.y (y_eq (y_indexAddrA Tryz.underlying253 sz22RepB rfl rfl (by omega) (by omega)) (ptr_at _ _)) rfl <| Wl.l (l_load one22RepB rfl (by exact hT.blk.at hc9)) rfl <| Wl.y (y_slnn Tryz.underlying22 rfl) rfl <| Wl.nil <| Wq.next hK_86 <| Wc.cond rfl (fun c4_94 => ?_) (fun c4_94 => ?_)
    ·
     have c4_94_ := c4_94
     simp only [DZ] at c4_94
     have hsp : spB (l.getD i 0) = true := by rw [hi9] at c4_94; simpa using c4_94
     obtain ⟨rfl, a9, rfl, _⟩ := hy9 hsp
     have hcl : (l.take i).countP spB ≤ i := Nat.le_trans List.countP_le_length (by rw [List.length_take]; omega)
     refine Wc.seq fun _ hK_95 => Wc.region <| Wl.mv rfl rfl <| Wl.mv rfl rfl <| Wl.mv rfl rfl <| Wl.y (y_nilCheck rfl) rfl <| Wl.y (y_fieldAddr (fa255_0RepB _) rfl) rfl <| Wl.y (y_eq (y_indexAddrA Tryz.underlying253 sz22RepB rfl rfl (by omega) (by omega)) (ptr_at _ _)) rfl <| Wl.l (l_load one22RepB rfl (by exact hT.blk.at hc9)) rfl <| Wl.y (y_lenl Tryz.underlying22 (by omega) rfl) rfl <| Wl.y (y_subI rfl rfl (by omega) (by omega)) rfl <| Wl.y (y_addI rfl rfl (by omega) (by omega)) rfl <| Wl.sg rfl rfl <| Wl.nil <| Wq.next hK_95 <| Wc.region <| Wl.sg rfl rfl <| Wl.nil <| Wq.block_normal <| Wq.next hK_80 <| Wc.region <| Wl.mv rfl rfl <| Wl.y (y_addI rfl rfl (by omega) (by omega)) rfl <| Wl.sg rfl rfl <| Wl.nil <| fun a_ ha_ => hL_71 _ _ (i + 1) (by omega) (by repeat first | exact Sub.nil | refine Sub.cons' rfl (by first | rfl | exact int_eq (by rw [cp_succ hil, hsp]; simp; omega) | exact bool_eq (decide_eq_true (by rw [cp_succ hil, hsp]; simp)).symm | exact bool_eq (decide_eq_decide.2 (by rw [cp_succ hil, hsp]; simp)) | exact int_eq (by rw [cp_succ hil, hsp]; simp)) ?_) ?_ a_ ha_
     exact ⟨by omega, hb⟩
    have c4_94_ := c4_94
    simp only [DZ] at c4_94
    have hsp : spB (l.getD i 0) = false := by rw [hi9] at c4_94; simpa using c4_94
    refine Wc.skip <| Wq.block_normal <| Wq.next hK_80 <| Wc.region <| Wl.mv rfl rfl <| Wl.y (y_addI rfl rfl (by omega) (by omega)) rfl <| Wl.sg rfl rfl <| Wl.nil <| fun a_ ha_ => hL_71 _ _ (i + 1) (by omega) (by repeat first | exact Sub.nil | refine Sub.cons' rfl (by first | rfl | exact int_eq (by rw [cp_succ hil, hsp]; simp; omega) | exact bool_eq (decide_eq_true (by rw [cp_succ hil, hsp]; simp)).symm | exact bool_eq (decide_eq_decide.2 (by rw [cp_succ hil, hsp]; simp)) | exact int_eq (by rw [cp_succ hil, hsp]; simp)) ?_) ?_ a_ ha_
    exact ⟨by omega, hb⟩
   have c3_79_ := c3_79
   simp only [DZ] at c3_79
   have hcx : i = l.length := by omega
   have hc3 : l.take l.length = l := List.take_length
   subst hcx
   refine Wc.exit <| Wq.then_exit <| Wq.then_exit <| Wq.block_exit ?_
   skip
   refine Wq.meet hM_20 (()) (by repeat first | exact Sub.nil | refine Sub.cons' rfl (by first | rfl | exact int_eq (by rw [hcx]) | exact bool_eq (by rw [hcx]) | exact int_eq (by rw [hc3]) | exact bool_eq (by rw [hc3])) ?_) ?_
   exact hb
  rintro u_ wr hI_114
  replace hI_114 : Below w.heap.size w wr := hI_114
  have hb := hI_114
  show Wq _ _ _ _ [(0, .pointer (some ⟨gg, 0, none⟩)), (1, str l), (5, .int .i64 ((l.length + l.countP spB : Nat) : Int)), (6, .bool (decide (0 < l.countP spB)))] _
  have hT := hT_hb.below hb
  have hzhb_c0 := hb.size
  refine Wq.next hK_9 <| Wc.seq fun _ hK_115 => Wc.seq fun _ hK_116 => Wc.region <| Wl.mv rfl rfl <| Wl.y (y_not rfl) rfl <| Wl.nil <| Wq.next hK_116 <| Wc.cond rfl (fun c5_119 => ?_) (fun c5_119 => ?_)
  ·
   have c5_119_ := c5_119
   simp only [DZ] at c5_119
   have hz : l.countP spB = 0 := by simpa using c5_119
   refine Wc.seq fun _ hK_120 => Wc.region <| Wl.mv rfl rfl <| Wl.sg rfl rfl <| Wl.nil <| Wq.next hK_120 <| Wc.ret <| Wq.then_ret <| ret1 rfl rfl ?_
   exact ⟨_, rfl, str_eq (qcR_none hz).symm, hb⟩
  have c5_119_ := c5_119
  simp only [DZ] at c5_119
  refine Wc.skip <| Wq.next hK_115 <| Wc.seq fun _ hK_123 => ?_
  obtain ⟨gb, hgb⟩ : ∃ gb, gb = wr.heap.size := ⟨_, rfl⟩
  refine Wc.region <| Wl.mv rfl rfl <| Wl.make (z := .int .u8 0) (sz := 1) (bytes := 1) Tryz.underlying22 (by kernel_rfl) w.heap.size (n := l.length + l.countP spB) rfl rfl (by omega) (by simp only [maxLen]; omega) hb.size rfl ?_
  rintro w1 hO hg1
  have hz1 := hg1.size
  have hb := hb.grown hg1 hb.size (fun k hk => by cases hk)
  rw [show madeCells (Value.int .u8 0).cells ((l.length + l.countP spB) * 1) = madeCells #[.int .u8 0] (l.length + l.countP spB) from by rw [Nat.mul_one]; rfl, toList_madeCells_one, ← hgb] at hO
  rw [← hgb]
  refine Wl.sg rfl rfl <| Wl.nil <| Wq.next hK_123 <| Wc.seq fun _ hK_127 => Wc.region <| Wl.sg rfl rfl <| Wl.nil <| Wq.next hK_127 <| Wc.seq fun _ hK_129 => Wc.seq fun _ hK_130 => Wc.region <| Wl.sg rfl rfl <| Wl.nil <| Wq.next hK_130 <| Wc.block <| Wc.loop (X := Nat) (fun i => [(0, .pointer (some ⟨gg, 0, none⟩)), (1, str l), (12, .slice (some ⟨gb, 0, none⟩) (l.length + l.countP spB) (l.length + l.countP spB)), (13, .int .i64 ((((l.take i).flatMap qcR).length : Nat) : Int)), (14, .int .i64 (i : Int))]) (fun i wr => i ≤ l.length ∧ Below w.heap.size w wr ∧ wr.ownsRow w.heap.size 5 1 (.slice (some ⟨gb, 0, none⟩) (l.length + l.countP spB) (l.length + l.countP spB)) (l.length + l.countP spB) (bufR ((l.take i).flatMap qcR) (l.length + l.countP spB))) (fun i => l.length - i) (0) ?_ ?_ ?_
  · exact by repeat first | exact Sub.nil | refine Sub.cons' rfl (by first | rfl | exact int_eq (by omega) | exact int_eq (by simp) | (simp; done)) ?_
  · exact ⟨by omega, hb, hO⟩
  rintro i wr hI_133 _ hL_132
  replace hI_133 : i ≤ l.length ∧ Below w.heap.size w wr ∧ wr.ownsRow w.heap.size 5 1 (.slice (some ⟨gb, 0, none⟩) (l.length + l.countP spB) (l.length + l.countP spB)) (l.length + l.countP spB) (bufR ((l.take i).flatMap qcR) (l.length + l.countP spB)) := hI_133
  obtain ⟨hi, hb, hO⟩ := hI_133
  show Wc _ _ _ _ _ [(0, .pointer (some ⟨gg, 0, none⟩)), (1, str l), (12, .slice (some ⟨gb, 0, none⟩) (l.length + l.countP spB) (l.length + l.countP spB)), (13, .int .i64 ((((l.take i).flatMap qcR).length : Nat) : Int)), (14, .int .i64 (i : Int))] _
  have hT := hT_hb.below hb
  have hzhb_L2 := hb.size
  refine Wc.seq fun _ hK_134 => Wc.seq fun _ hK_135 => Wc.region <| Wl.mv rfl rfl <| Wl.mv rfl rfl <| Wl.y (y_lens Tryz.underlying9 (by omega) rfl) rfl <| Wl.y (y_lssi rfl rfl) rfl <| Wl.nil <| Wq.next hK_135 <| Wc.cond rfl (fun c6_140 => ?_) (fun c6_140 => ?_)
  ·
   have c6_140_ := c6_140
   simp only [DZ] at c6_140
   have hil : i < l.length := by omega
   have hfs := congrArg List.length (fl_succ hil)
   rw [List.length_append] at hfs
   have hfl := fl_le l (i + 1)
   have hfe := fl_succ hil
   refine Wc.skip <| Wq.next hK_134 <| Wc.seq fun _ hK_141 => Wc.block <| Wc.seq fun _ hK_142 => Wc.region <| Wl.mv rfl rfl <| Wl.mv rfl rfl <| Wl.y (y_eq (y_indexs Tryz.underlying9 rfl rfl (by omega) (by omega)) ((show Value.int .u8 ((l.getD (i : Int).toNat 0).toNat : Int) = .int .u8 ((l.getD i 0).toNat : Int) from rfl))) rfl <| Wl.sg rfl rfl <| Wl.nil <| Wq.next hK_142 <| Wc.seq fun _ hK_147 => ?_
   obtain ⟨B9, n9, k9, hc9, hi9, hy9⟩ := hT.any (l.getD i 0)
   have hk9 := (l.getD i 0).toNat_lt
   refine Wc.region <| Wl.mv rfl rfl <| Wl.mv rfl rfl <| Wl.y (y_nilCheck rfl) rfl <| Wl.y (y_fieldAddr (fa255_0RepB _) rfl) rfl <| Wl.y (y_eq (y_indexAddrA Tryz.underlying253 sz22RepB rfl rfl (by omega) (by omega)) (ptr_at _ _)) rfl <| Wl.l (l_load one22RepB rfl (by exact hT.blk.at hc9)) rfl <| Wl.y (y_slnn Tryz.underlying22 rfl) rfl <| Wl.nil <| Wq.next hK_147 <| Wc.cond rfl (fun c7_155 => ?_) (fun c7_155 => ?_)
   ·
    have c7_155_ := c7_155
    simp only [DZ] at c7_155
    have hsp : spB (l.getD i 0) = true := by rw [hi9] at c7_155; simpa using c7_155
    obtain ⟨rfl, a9, rfl, hr9⟩ := hy9 hsp
    have hq2 : (qcR (l.getD i 0)).length = 2 := by rw [qcR_sp hsp]; rfl
    refine Wc.any (n := 13) (fun w' => Below w.heap.size w w') #[false, false, false, false, false, false, false, false, false, false, false, false, false] (by kernel_rfl) rfl (by kernel_rfl) <| Wa.drew ?_
    rintro w_g27 hs_g27
    have hz_g27 := hs_g27.size
    have hb := hb.trans (hs_g27.mono hb.size)
    have hT := hT_hb.below hb
    have hO := own_below hO hs_g27
    refine Wa.take (i := 0) #[true, false, false, false, false, false, false, false, false, false, false, false, false] rfl (by kernel_rfl) (fun _ _ _ h => h) rfl (fun wq hq => Yl.ld (y_move rfl)) hb <| Wa.take (i := 1) #[true, true, false, false, false, false, false, false, false, false, false, false, false] rfl (by kernel_rfl) (fun _ _ _ h => h) rfl (fun wq hq => Yl.ld (y_move rfl)) hb <| Wa.take (i := 2) #[true, true, true, false, false, false, false, false, false, false, false, false, false] rfl (by kernel_rfl) (fun _ _ _ h => h) rfl (fun wq hq => Yl.ld (y_move rfl)) hb <| Wa.take (i := 3) #[true, true, true, true, false, false, false, false, false, false, false, false, false] rfl (by kernel_rfl) (fun _ _ _ h => h) rfl (fun wq hq => Yl.ld (y_eq (y_slicelL Tryz.underlying22 sz5RepB rfl rfl (by omega) (by omega)) ((sl_eq (g := gb) (n := l.length + l.countP spB) (j := ((l.take i).flatMap qcR).length) (by omega))))) hb <| Wa.take (i := 4) #[true, true, true, true, true, false, false, false, false, false, false, false, false] rfl (by kernel_rfl) (fun _ _ _ h => h) rfl (fun wq hq => Yl.ld (y_move rfl)) hb <| Wa.take (i := 5) #[true, true, true, true, true, true, false, false, false, false, false, false, false] rfl (by kernel_rfl) (fun _ _ _ h => h) rfl (fun wq hq => Yl.ld (y_move rfl)) hb <| Wa.take (i := 6) #[true, true, true, true, true, true, true, false, false, false, false, false, false] rfl (by kernel_rfl) (fun _ _ _ h => h) rfl (fun wq hq => Yl.ld (y_nilCheck rfl)) hb <| Wa.take (i := 7) #[true, true, true, true, true, true, true, true, false, false, false, false, false] rfl (by kernel_rfl) (fun _ _ _ h => h) rfl (fun wq hq => Yl.ld (y_fieldAddr (fa255_0RepB _) rfl)) hb <| Wa.take (i := 8) #[true, true, true, true, true, true, true, true, true, false, false, false, false] rfl (by kernel_rfl) (fun _ _ _ h => h) rfl (fun wq hq => Yl.ld (y_eq (y_indexAddrA Tryz.underlying253 sz22RepB rfl rfl (by omega) (by omega)) ((ptr_at ⟨gg, 0, none⟩ (l.getD i 0).toNat)))) hb <| Wa.take (i := 9) #[true, true, true, true, true, true, true, true, true, true, false, false, false] rfl (by kernel_rfl) (fun _ _ _ h => h) rfl (fun wq hq => l_load one22RepB rfl (by have hT := hT_hb.below hq; exact hT.blk.at hc9)) hb <| Wa.some (rs := [10]) (by kernel_rfl) rfl <| Ws.cons #[true, true, true, true, true, true, true, true, true, true, true, false, false] rfl rfl (fun _ hK_166 => ?_) ?_
    ·
     have hr9w := hr9.below hs_g27
     refine Wl.copyOwn (g := gb) (o := ((l.take i).flatMap qcR).length) Tryz.underlying22 (by kernel_rfl) rfl rfl hO hr9w (u8s_one _) (by omega) (by omega) rfl ?_
     rintro w2 hO2 hg2
     have hz2 := hg2.size
     have hb := below_blk hb hg2 hb.size (own_ge hO _ rfl).1
     have hO := hO2
     rw [← hq2, buf_copy _ _ _ (by omega), ← hfe] at hO
     refine Wl.nil <| Wq.back hK_166 hb <| Wa.take (i := 11) #[true, true, true, true, true, true, true, true, true, true, true, true, false] rfl (by kernel_rfl) (fun _ _ _ h => h) rfl (fun wq hq => Yl.ld (y_addI rfl rfl (by omega) (by omega))) hb <| Wa.take (i := 12) #[true, true, true, true, true, true, true, true, true, true, true, true, true] rfl (by kernel_rfl) (fun _ _ _ h => h) rfl (fun wq hq => Yl.ld (y_assign rfl)) hb <| Wa.done (by kernel_rfl) <| Wq.block_normal <| Wq.next hK_141 <| Wc.region <| Wl.mv rfl rfl <| Wl.y (y_addI rfl rfl (by omega) (by omega)) rfl <| Wl.sg rfl rfl <| Wl.nil <| fun a_ ha_ => hL_132 _ _ (i + 1) (by omega) (by repeat first | exact Sub.nil | refine Sub.cons' rfl (by first | rfl | exact int_eq (by rw [hfs]; omega)) ?_) ?_ a_ ha_
     exact ⟨by omega, hb, hO⟩
    exact Ws.nil
   have c7_155_ := c7_155
   simp only [DZ] at c7_155
   have hsp : spB (l.getD i 0) = false := by rw [hi9] at c7_155; simpa using c7_155
   have hq2 : (qcR (l.getD i 0)).length = 1 := by rw [qcR_ns hsp]; rfl
   refine Wc.seq fun _ hK_173 => Wc.region <| Wl.mv rfl rfl <| Wl.mv rfl rfl <| Wl.mv rfl rfl <| Wl.y (y_eq (y_indexAddr Tryz.underlying22 sz5RepB rfl rfl (by omega) (by omega)) (ptr1 _ _)) rfl <| Wl.storeOwn oneU8 rfl rfl rfl hO (by unfold bufR; rw [List.length_append, u8s_length, List.length_replicate]; omega) ?_
   rintro w2 hO2 hg2
   have hb := below_blk hb hg2 hb.size (own_ge hO _ rfl).1
   have hO := hO2
   rw [buf_set _ _ _ (by omega), ← qcR_ns hsp, ← hfe] at hO
   refine Wl.nil <| Wq.next hK_173 <| Wc.region <| Wl.mv rfl rfl <| Wl.y (y_addI rfl rfl (by omega) (by omega)) rfl <| Wl.sg rfl rfl <| Wl.nil <| Wq.block_normal <| Wq.next hK_141 <| Wc.region <| Wl.mv rfl rfl <| Wl.y (y_addI rfl rfl (by omega) (by omega)) rfl <| Wl.sg rfl rfl <| Wl.nil <| fun a_ ha_ => hL_132 _ _ (i + 1) (by omega) (by repeat first | exact Sub.nil | refine Sub.cons' rfl (by first | rfl | exact int_eq (by rw [hfs]; omega)) ?_) ?_ a_ ha_
   exact ⟨by omega, hb, hO⟩
  have c6_140_ := c6_140
  simp only [DZ] at c6_140
  have hie : i = l.length := by omega
  subst hie
  rw [List.take_length] at hO
  have hO' : wr.ownsRow w.heap.size 5 1 (.slice (some ⟨gb, 0, none⟩) (l.length + l.countP spB) (l.length + l.countP spB)) (l.length + l.countP spB) (u8s (l.flatMap qcR)) := by have h0 := hO; unfold bufR at h0; rw [show l.length + l.countP spB - (l.flatMap qcR).length = 0 from by omega, List.replicate_zero, List.append_nil] at h0; exact h0
  refine Wc.exit <| Wq.then_exit <| Wq.then_exit <| Wq.block_exit <| Wq.next hK_129 <| Wc.seq fun _ hK_184 => Wc.region <| Wl.mv rfl rfl <| Wl.l (l_str Tryz.underlying22 Tryz.underlying5 Tryz.underlying9 rfl (by exact Rd.of_own hO')) rfl <| Wl.sg rfl rfl <| Wl.nil <| Wq.next hK_184 <| Wc.ret <| ret1 rfl rfl ?_
  exact ⟨_, rfl, rfl, hb⟩

end Go.Proofs.YtjmlknjbhbfneaaGreatDoor
namespace Go.Bw
open Go.RowKit
set_option linter.unusedVariables false
theorem Six.grown {w w' : World} {A : Addr} {g : Nat} (h : Six w A) (hg : w.grownBy w' (some g)) (hne : A.block ≠ g) : Six w' A := fun j u hu => by
  have h1 := h j u hu
  have hb : (A.add j).block = A.block := by unfold Addr.add; split <;> rfl
  rw [World.cell?_of_block (w := w) (hg.block _ (block_lt h1) (by rw [hb]; exact fun e => hne (Option.some.inj e)))]; exact h1
theorem ptr0 (g : Nat) : Value.pointer (some ((⟨g, 0, none⟩ : Addr).add 0)) = .pointer (some ⟨g, 0, none⟩) := by rw [add_zero_off]
theorem six_one : ∀ u ∈ sixL, u.oneCell' = true := fun u hu => by
  have h := List.all_eq_true.1 (show sixL.all (·.oneCell') = true from rfl) u hu
  exact h
end Go.Bw
namespace Go.Proofs.YtjmlknjbhbfneaaGreatDoor
open Go.RowKit Go.Bw
set_option linter.unusedVariables false
set_option linter.unusedSimpArgs false
theorem fa202_1RepC (p : Addr) (w : World) : (Instr.fieldAt 202 (.pointer (some p)) 1).run Tryz.prog w = .ok (.pointer (some (p.add 0))) w := run_fieldAt (i := 1) (sz := 0) Tryz.underlying202 rfl (by kernel_rfl) p w
theorem fa206_0RepC (p : Addr) (w : World) : (Instr.fieldAt 206 (.pointer (some p)) 0).run Tryz.prog w = .ok (.pointer (some (p.add 0))) w := run_fieldAt (i := 0) (sz := 2) Tryz.underlying206 rfl (by kernel_rfl) p w
theorem fa206_1RepC (p : Addr) (w : World) : (Instr.fieldAt 206 (.pointer (some p)) 1).run Tryz.prog w = .ok (.pointer (some (p.add 3))) w := run_fieldAt (i := 1) (sz := 0) Tryz.underlying206 rfl (by kernel_rfl) p w
theorem fa206_2RepC (p : Addr) (w : World) : (Instr.fieldAt 206 (.pointer (some p)) 2).run Tryz.prog w = .ok (.pointer (some (p.add 4))) w := run_fieldAt (i := 2) (sz := 0) Tryz.underlying206 rfl (by kernel_rfl) p w
theorem one204RepC : One Tryz.prog 204 := ⟨_, Tryz.underlying204, rfl, by kernel_rfl⟩
theorem txt122RepC : Txt Tryz.prog 122 := ⟨_, Tryz.func122, by kernel_rfl, rfl⟩   -- strings.NewReplacer
theorem txt123RepC : Txt Tryz.prog 123 := ⟨_, Tryz.func123, by kernel_rfl, rfl⟩   -- (*strings.Replacer).Replace
theorem txt167RepC : Txt Tryz.prog 167 := ⟨_, Tryz.func167, by kernel_rfl, rfl⟩   -- (*sync.Once).Do
theorem txt195RepC : Txt Tryz.prog 195 := ⟨_, Tryz.func195, by kernel_rfl, rfl⟩   -- (*sync/atomic.Bool).Load
theorem txt196RepC : Txt Tryz.prog 196 := ⟨_, Tryz.func196, by kernel_rfl, rfl⟩   -- (*sync.Once).doSlow
theorem txt197RepC : Txt Tryz.prog 197 := ⟨_, Tryz.func197, by kernel_rfl, rfl⟩   -- (*strings.Replacer).build
theorem oneRp : One Tryz.prog 204 := ⟨_, Tryz.underlying204, rfl, by kernel_rfl⟩
theorem oneSs : One Tryz.prog 40 := ⟨_, Tryz.underlying40, rfl, by kernel_rfl⟩
theorem once_r (B g : Nat) (A : Addr) (c : Nat) (w : World) (hg : B ≤ g) (hB : Blk w g 206 [.int .u32 0, .int .i32 1, .int .u32 0, .nilIface, .slice (some A) 6 c]) (hS : Six w A) : Ret Tryz.prog 168 [.pointer (some ⟨g, 0, none⟩)] w fun v w' => v = .tuple #[] ∧ ∃ lo gg, Blk w' g 206 [.int .u32 0, .int .i32 1, .int .u32 0, .iface 256 (.pointer (some ⟨gg, 0, none⟩)), .slice none 0 0] ∧ Rpd 255 lo w' gg ∧ g < lo ∧ Below B w w' := by
  have hlt := hB.lt
  refine enter Tryz.func168 rfl rfl rfl <| Wc.seq fun _ hK_1 => Wc.region <| Wl.mv rfl rfl <| Wl.mv rfl rfl <| Wl.call txt197RepC rfl rfl (build_r g A c _ hB hS) rfl ?_
  rintro _ w2 ⟨⟨gg, rfl, hP⟩, hs⟩
  have hB2 := hB.below hs
  have hb := hs.mono (B' := B) (by omega)
  have hz2 := hs.size
  refine Wl.y (y_nilCheck rfl) rfl <| Wl.y (y_fieldAddr (fa206_1RepC _) rfl) rfl <| Wl.storeB oneRp rfl rfl rfl hB2 (by show 3 < 5; decide) ?_
  rintro w3 hB3 hg3
  have hz3 := hg3.size
  have hP := hP.grown hg3 hlt
  have hb := below_blk hb hg3 (by omega) hg
  refine Wl.nil <| Wq.next hK_1 <| Wc.region <| Wl.mv rfl rfl <| Wl.y (y_nilCheck rfl) rfl <| Wl.y (y_fieldAddr (fa206_2RepC _) rfl) rfl <| Wl.storeB oneSs rfl rfl rfl hB3 (by show 4 < 5; decide) ?_
  rintro w4 hB4 hg4
  have hP := hP.grown hg4 hlt
  have hb := below_blk hb hg4 (by omega) hg
  refine Wl.nil <| end0 rfl ?_
  exact ⟨_, rfl, rfl, _, gg, hB4, hP, hlt, hb⟩
theorem do_r (B g : Nat) (A : Addr) (c : Nat) (w : World) (hg : B ≤ g) (hB : Blk w g 206 [.int .u32 0, .int .i32 0, .int .u32 0, .nilIface, .slice (some A) 6 c]) (hS : Six w A) (hne : A.block ≠ g) : Ret Tryz.prog 167 [.pointer (some ⟨g, 0, none⟩), .func (.func 168) #[.pointer (some ⟨g, 0, none⟩)] #[]] w fun v w' => v = .tuple #[] ∧ ∃ lo gg, Blk w' g 206 [.int .u32 1, .int .i32 0, .int .u32 0, .iface 256 (.pointer (some ⟨gg, 0, none⟩)), .slice none 0 0] ∧ Rpd 255 lo w' gg ∧ Below B w w' := by
  have hlt := hB.lt
  have h0 : w.cell? ⟨g, 0, none⟩ = some (.int .u32 0) := hB.cell 0
  have h1 : w.cell? ⟨g, 1, none⟩ = some (.int .i32 0) := hB.cell 1
  have f1 : w.frozen? ⟨g, 1, none⟩ = false := hB.frozen 1
  obtain ⟨hb1, hg1⟩ := hB.setAt (j := 1) (v := .int .i32 1)
  have hB1 : Below B w (w.setCell ⟨g, 1, none⟩ (.int .i32 1)) := below_blk (Below.refl B w) hg1 (by omega) hg
  have hF : Calls Tryz.prog 168 #[.pointer (some ⟨g, 0, none⟩)] (w.setCell ⟨g, 1, none⟩ (.int .i32 1)) fun e w2 => e = .returned (.tuple #[]) ∧ (w2.cell? ⟨g, 0, none⟩ = some (.int .u32 0) ∧ w2.cell? ⟨g, 1, none⟩ = some (.int .i32 1) ∧ w2.frozen? ⟨g, 0, none⟩ = false ∧ w2.frozen? ⟨g, 1, none⟩ = false ∧ ∃ lo gg, Blk w2 g 206 [.int .u32 0, .int .i32 1, .int .u32 0, .iface 256 (.pointer (some ⟨gg, 0, none⟩)), .slice none 0 0] ∧ Rpd 255 lo w2 gg ∧ g < lo ∧ Below B w w2) :=
    Calls.mono (Ret.toCalls (once_r B g A c _ hg hb1 (hS.grown hg1 hne))) fun e w2 ⟨he, lo, gg, hb2, hP, hl, hbw⟩ => ⟨he, hb2.cell 0, hb2.cell 1, hb2.frozen 0, hb2.frozen 1, lo, gg, hb2, hP, hl, hB1.trans hbw⟩
  have hslow := slow_now g (.pointer (some ⟨g, 0, none⟩)) (fun w2 => ∃ lo gg, Blk w2 g 206 [.int .u32 0, .int .i32 1, .int .u32 0, .iface 256 (.pointer (some ⟨gg, 0, none⟩)), .slice none 0 0] ∧ Rpd 255 lo w2 gg ∧ g < lo ∧ Below B w w2) w h0 h1 f1 hF
  refine enter Tryz.func167 rfl rfl rfl <| Wc.seq fun _ hK_1 => Wc.region <| Wl.mv rfl rfl <| Wl.y (y_nilCheck rfl) rfl <| Wl.y (y_eq (y_fieldAddr (fa202_1RepC _) rfl) (ptr0 g)) rfl <| Wl.call txt195RepC rfl rfl (Ret.of_calls (load_now ⟨g, 0, none⟩ w h0)) rfl ?_
  rintro _ w_ ⟨rfl, hw_⟩
  have hw_ := hw_.symm; subst hw_
  refine Wl.y (y_not rfl) rfl <| Wl.nil <| Wq.next hK_1 <| Wc.cond rfl (fun c0_7 => ?_) (fun c0_7 => ?_)
  ·
   have c0_7_ := c0_7
   simp only [DZ] at c0_7
   refine Wc.region <| Wl.mv rfl rfl <| Wl.mv rfl rfl <| Wl.call txt196RepC rfl rfl (Ret.of_calls hslow) rfl ?_
   rintro _ w3 ⟨rfl, w2, ⟨lo, gg, hb2, hP, hl, hbw⟩, rfl⟩
   refine Wl.nil <| end0 rfl ?_
   have hd : Blk w2.drew g 206 _ := hb2
   have hPd : Rpd 255 lo w2.drew gg := hP.below (Below.refl _ _).drew
   obtain ⟨hb3, hg3⟩ := hd.setAt (j := 0) (v := .int .u32 1)
   obtain ⟨hb4, hg4⟩ := hb3.setAt (j := 1) (v := .int .i32 0)
   have hz3 := hg3.size
   have hz := hbw.size
   have hwd : w2.drew.heap.size = w2.heap.size := rfl
   exact ⟨_, rfl, rfl, lo, gg, hb4, (hPd.grown hg3 hl).grown hg4 hl, below_blk (below_blk hbw.drew hg3 (by omega) hg) hg4 (by omega) hg⟩
  have c0_7_ := c0_7
  simp only [DZ] at c0_7
  cases c0_7
theorem replace_r (B g : Nat) (A : Addr) (c : Nat) (l : List UInt8) (w : World) (hg : B ≤ g) (hB : Blk w g 206 [.int .u32 0, .int .i32 0, .int .u32 0, .nilIface, .slice (some A) 6 c]) (hS : Six w A) (hne : A.block ≠ g) (hl : l.length ≤ 1099511627776) : Ret Tryz.prog 123 [.pointer (some ⟨g, 0, none⟩), str l] w fun v w' => v = str (l.flatMap qcR) ∧ Below B w w' := by
  have hlt := hB.lt
  refine enter Tryz.func123 rfl rfl rfl <| Wc.seq fun _ hK_1 => Wc.region <| Wl.sg rfl rfl <| Wl.nil <| Wq.next hK_1 <| Wc.seq fun _ hK_3 => Wc.region <| Wl.mv rfl rfl <| Wl.y (y_nilCheck rfl) rfl <| Wl.y (y_eq (y_fieldAddr (fa206_0RepC _) rfl) (ptr0 g)) rfl <| Wl.mv rfl rfl <| Wl.y (y_makeFunc rfl rfl) rfl <| Wl.call txt167RepC rfl rfl (do_r B g A c _ hg hB hS hne) rfl ?_
  rintro _ w2 ⟨rfl, lo, gg, hB2, hP, hb⟩
  refine Wl.nil <| Wq.next hK_3 <| Wc.seq fun _ hK_10 => Wc.region <| Wl.mv rfl rfl <| Wl.y (y_nilCheck rfl) rfl <| Wl.y (y_fieldAddr (fa206_1RepC _) rfl) rfl <| Wl.l (l_load one204RepC rfl (hB2.at rfl)) rfl ?_
  obtain ⟨cs, A2, c2, hT⟩ := hP.openT
  refine Wl.mv rfl rfl <| Wl.invoke (f := 273) ⟨_, Tryz.func273, by kernel_rfl, rfl⟩ (fun w => by kernel_rfl) rfl rfl (bsr_r gg cs A2 c2 l _ hT hl) rfl ?_
  rintro _ w3 ⟨rfl, hs3⟩
  have hz2 := hb.size
  have hb := hb.trans (hs3.mono (by omega))
  refine Wl.sg rfl rfl <| Wl.nil <| Wq.next hK_10 <| Wc.ret <| ret1 rfl rfl ?_
  exact ⟨_, rfl, rfl, hb⟩
theorem new_r (A0 : Addr) (c0 : Nat) (w : World) (h : Six w A0) : Ret Tryz.prog 122 [.slice (some A0) 6 c0] w fun v w' => (∃ g A c, v = .pointer (some ⟨g, 0, none⟩) ∧ w.heap.size ≤ g ∧ Blk w' g 206 [.int .u32 0, .int .i32 0, .int .u32 0, .nilIface, .slice (some A) 6 c] ∧ Six w' A ∧ A.block ≠ g) ∧ Below w.heap.size w w' := by
  have hb := Below.refl w.heap.size w
  have h_hb := h
  refine enter Tryz.func122 rfl rfl rfl <| Wc.seq fun _ hK_1 => Wc.region <| Wl.sg rfl rfl <| Wl.nil <| Wq.next hK_1 <| Wc.seq fun _ hK_3 => Wc.seq fun _ hK_4 => Wc.region <| Wl.mv rfl rfl <| Wl.y (y_lenl Tryz.underlying40 (by omega) rfl) rfl <| Wl.y (y_rem rfl rfl (by decide)) rfl <| Wl.y (y_eqli rfl rfl) rfl <| Wl.nil <| Wq.next hK_4 <| Wc.cond rfl (fun c0_9 => ?_) (fun c0_9 => ?_)
  ·
   have c0_9_ := c0_9
   simp only [DZ] at c0_9
   exact absurd c0_9 (by decide)
  have c0_9_ := c0_9
  simp only [DZ] at c0_9
  refine Wc.skip <| Wq.next hK_3 <| Wc.seq fun _ hK_10 => Wc.region <| Wl.mv rfl rfl ?_
  have hO := own_nil w w.heap.size 9 1
  refine Wl.append (z := (str [])) (sz := 1) (bytes := 16) Tryz.underlying40 (by kernel_rfl) rfl (by decide) _ rfl hO rfl ⟨rfl, fun _ => ⟨A0, rfl, h⟩⟩ six_one (by simp only [maxLen]; omega) (by omega) (by exact hb.size) rfl ?_
  rintro v_b1 w_b1 hn_b1 hg_b1 ha_b1
  have hz_b1 := hg_b1.size
  have hb := hb.grown hg_b1 hb.size (fun k_ hk_ => by have := (own_ge hO k_ hk_).1; omega)
  have h := h_hb.below hb
  have hO := hn_b1
  have hO1 := hO
  obtain ⟨_, h0 | ⟨g1, cap, cur, rfl, hge, hgh, _⟩⟩ := hO1
  · exact absurd h0.2 (by decide)
  have hSx : Six w_b1 ⟨g1, 0, none⟩ := fun j u hu => own_cell hO hu
  have hgl := (own_ge hO _ rfl).2
  refine Wl.y (y_buildS (z := [(.int .u32 0), (.int .i32 0), (.int .u32 0), .nilIface, (.slice none 0 0)]) (pl := [(0, 3), (3, 1), (4, 1)]) (cs := [_, _, _, _, _]) Tryz.underlying206 (by kernel_rfl) (by kernel_rfl) rfl rfl rfl) rfl <| Wl.boxN rfl rfl ?_
  rintro g_o8 w_o8 hg_o8 hn_o8 hs_o8
  have hz_o8 := hs_o8.size
  have hb := hb.trans (hs_o8.mono hb.size)
  have h := h_hb.below hb
  have hB_o8 := hn_o8
  have hl_o8 := hB_o8.lt
  refine Wl.sg rfl rfl <| Wl.nil <| Wq.next hK_10 <| Wc.ret <| ret1 rfl rfl ?_
  exact ⟨_, rfl, ⟨g_o8, ⟨g1, 0, none⟩, cap, rfl, by omega, hB_o8, hSx.below hs_o8, fun e => by simp only at e hgl; omega⟩, hb⟩
theorem quoted_r (s : List UInt8) (w : World) (hl : s.length ≤ 1099511627776) : Ret Tryz.prog 88 [str s] w fun v w' => v = str (39 :: (s.flatMap qcR ++ [39])) ∧ Below w.heap.size w w' := by
  have hq := qcR_len s
  have hcp : s.countP spB ≤ s.length := List.countP_le_length
  have hb := Below.refl w.heap.size w
  refine enter Tryz.func88 rfl rfl rfl <| Wc.seq fun _ hK_1 => Wc.region <| Wl.sg rfl rfl <| Wl.nil <| Wq.next hK_1 <| Wc.seq fun _ hK_3 => Wc.region <| Wl.litN (sz := 1) (vs := [_, _, _, _, _, _]) Tryz.underlying40 (by kernel_rfl) rfl rfl rfl rfl rfl rfl ?_
  rintro g_b0 w_b0 hg_b0 hn_b0 hs_b0
  have hz_b0 := hs_b0.size
  have hb := hb.trans (hs_b0.mono hb.size)
  have hB_b0 := hn_b0
  have hl_b0 := hB_b0.lt
  refine Wl.call txt122RepC rfl rfl (new_r ⟨g_b0, 0, none⟩ 6 _ (fun j u hu => hB_b0.at hu)) rfl ?_
  rintro _ w_k0 ⟨⟨g1, A1, c1, rfl, hg1, hB1, hS1, hne1⟩, hs_k0⟩
  have hz_k0 := hs_k0.size
  have hb := hb.trans (hs_k0.mono hb.size)
  refine Wl.mv rfl rfl <| Wl.call txt123RepC rfl rfl (replace_r w.heap.size g1 A1 c1 s _ (by omega) hB1 hS1 hne1 hl) rfl ?_
  rintro _ w_k1 ⟨rfl, hs1⟩
  have hb := hb.trans hs1
  refine Wl.y (y_adds rfl rfl (by simp only [List.length_cons, List.length_nil, List.length_append]; omega)) rfl <| Wl.y (y_adds rfl rfl (by simp only [List.length_cons, List.length_nil, List.length_append]; omega)) rfl <| Wl.sg rfl rfl <| Wl.nil <| Wq.next hK_3 <| Wc.ret <| ret1 rfl rfl ?_
  exact ⟨_, rfl, str_eq (by simp), hb⟩

end Go.Proofs.YtjmlknjbhbfneaaGreatDoor
namespace Go.Proofs.YtjmlknjbhbfneaaGreatDoor
open Go.RowKit Go.Bw Go.Bw.Fl
set_option linter.unusedVariables false
set_option linter.unusedSimpArgs false

theorem qcR_eq : qcR = qc := by
  funext c
  by_cases h1 : c = 92
  · subst h1; rfl
  by_cases h2 : c = 39
  · subst h2; rfl
  by_cases h3 : c = 10
  · subst h3; rfl
  rw [qc_plain h2 h3 h1]
  exact qcR_ns (by simp [spB, h1, h2, h3])
theorem quotedV_r (s : List UInt8) (w : World) (hl : s.length ≤ 1099511627776) : Ret Tryz.prog 88 [str s] w fun v w' => v = str (quoteV s) ∧ Below w.heap.size w w' := by
  have h := quoted_r s w hl
  rw [qcR_eq] at h
  exact h
theorem TextQ_r (a : Val) (oa : a.Ok) (hs : a.s.length ≤ 1099511627776) (w : World) (hL : Lt w) : Ret Tryz.prog 53 [a.enc] w fun v w' => v = .tuple #[str (textQ a), .int .i64 (textV (quoteV a.s) a).2] ∧ Below w.heap.size w w' :=
  VText_r (quoteV a.s) a oa w hL fun _ _ w _ => quotedV_r a.s w hs
end Go.Proofs.YtjmlknjbhbfneaaGreatDoor
