/- The library's contracts at this dump, in plain words (written by the kit's tools, the ones in use kept). · strings.Builder: Grow at a fresh one, WriteString; strings.Join; lex.Text. -/
import Derived.Shelf.Strings.Builder1
import Derived.Shelf.Strings.Builder2
import Derived.Shelf.Strings.OnBuilder
import Derived.Shelf.Strings.Trim
import Derived.Shelf.Small.Utf8
import Derived.Shelf.Small.Strs
import Derived.Shelf.Small.Wraps
import Derived.Shelf.Strings.BuilderF
import Derived.Shelf.Strings.BuilderK
import Derived.Shelf.Strconv.Atoi
import Derived.Shelf.Strconv.Itoa0
import Derived.Shelf.Strconv.Itoa1
import Derived.Shelf.LaysM
import Derived.Shelf.Strconv.Itoa2
import Derived.Shelf.Strconv.Itoa3
import Derived.Shelf.Strconv.Itoa4
import Derived.Shelf.Strconv.AtoiErrFast
import Derived.Shelf.Strconv.ParseIntEmpty
import Derived.Shelf.Strconv.AtoiFail
import Derived.Shelf.Strconv.Clone
import Derived.Shelf.Strconv.SyntaxError
import Derived.Shelf.LaysC
import Derived.Shelf.Strconv.ToError
import Derived.Shelf.Strconv.Lower
import Derived.Shelf.Strconv.ParseUint10
import Derived.Shelf.Strconv.ParseUint10Empty
import Derived.Shelf.Strconv.ParseUint10Any
import Derived.Shelf.Strconv.ParseInt10
import Derived.Shelf.Strconv.AtoiLong
import Derived.Shelf.Strconv.AtoiInnerAll
import Derived.Shelf.Strconv.RangeError
import Derived.Shelf.Strconv.ToErrorRange
import Derived.Shelf.Strconv.AtoiAll
import Derived.Shelf.Strconv.ErrVarAll
import Derived.Shelf.Strconv.ParseUintEmpty
import Derived.Shelf.Strconv.ParseUint10b64
import Derived.Shelf.Strconv.ParseUint10b32
import Derived.Shelf.Strconv.ParseUint10b16
import Derived.Shelf.Strconv.ParseUint10b8
import Derived.Shelf.Strconv.ParseUint10At
import Derived.Shelf.Strconv.ParseInt10At64
import Derived.Shelf.Strconv.ParseInt10At32
import Derived.Shelf.Strconv.ParseInt10At16
import Derived.Shelf.Strconv.ParseInt10At8
import Derived.Shelf.Strconv.ParseInt10All
import Derived.Shelf.Strconv.ParseIntPublic10
import Derived.Shelf.Strconv.ErrVarParseInt
import Derived.Ground.MpProg
import Derived.Shelf.Pu.ParseUintPublic10
import Derived.Shelf.Pu.ErrVarParseUint
import Derived.Shelf.Strings.Search1
import Derived.Shelf.Strings.Search2
import Derived.Shelf.Strings.Search3
import Derived.Shelf.Strings.Cut
import Derived.Shelf.Strings.Count
import Derived.Shelf.Strings.Shaped
import Derived.Shelf.Sort.Plain
import Derived.Shelf.Strings.Prefix
import Derived.Shelf.Strings.Split
import Derived.Shelf.Strings.Runes
import Derived.Shelf.Strings.AsciiSet
import Derived.Shelf.Unicode.DecodeSlow
import Derived.Shelf.Slices.In.SortNone
import Derived.Test.YtjmlknjbhbfneaaGreatDoorProg
import Derived.Test.YtjmlknjbhbfneaaGreatDoorZL
import Derived.Lib.AppendStr
namespace Go.Proofs
open Go.Shelf
def Tryz.lays241_ren : Go.Shelf.Ren := ⟨fun | 241 => 84 | 277 => 112 | n => n, fun | 70 => 65 | 3 => 3 | 0 => 0 | 72 => 67 | 37 => 22 | 5 => 5 | n => n, fun | n => n⟩
theorem Tryz.lays241 : Go.Proofs.Lays.n241 Tryz.prog Tryz.lays241_ren := {
  mixed := by kernel_rfl
  f241 := Tryz.func84.trans (congrArg some (by kernel_rfl))
  f277 := Tryz.func112.trans (congrArg some (by kernel_rfl))
  t0 := Tryz.underlying0
  a0 := Tryz.isAgg0
  z0 := Tryz.sizeOf0
  v0 := Tryz.zeroValue0
  t3 := Tryz.underlying3
  a3 := Tryz.isAgg3
  z3 := Tryz.sizeOf3
  v3 := Tryz.zeroValue3
  t37 := Tryz.underlying22
  a37 := Tryz.isAgg22
  z37 := Tryz.sizeOf22
  v37 := Tryz.zeroValue22
  t70 := Tryz.underlying65
  a70 := Tryz.isAgg65
  z70 := Tryz.sizeOf65
  v70 := Tryz.zeroValue65
  t72 := Tryz.underlying67
  a72 := Tryz.isAgg67
  z72 := Tryz.sizeOf67
  v72 := Tryz.zeroValue67 }
theorem Tryz.Builder_Extra_241 : Builder.Extra Tryz.prog Tryz.lays241_ren := {
  sizeBuilder := by kernel_rfl
  liesBuilder := by kernel_rfl
  t5 := Tryz.underlying5
  a5 := Tryz.isAgg5
  z5 := Tryz.sizeOf5
  v5 := Tryz.zeroValue5
  infoByte := by kernel_rfl
  cellsByte := by kernel_rfl
  sizeByte := by kernel_rfl
  neB5 := by decide }
open Go.RowKit in
theorem Tryz.Builder_grow_fresh (B b n : Nat) (w : World) (hB : B ≤ b) (hbk : w.heap[b]? = some (.cells #[.pointer (some ⟨b, 0, none⟩), .slice none 0 0] 67 (0, 0))) (hBw : B ≤ w.heap.size) (hn : n ≤ 281474976710656) :
    Calls Tryz.prog 84 #[.pointer (some ⟨b, 0, none⟩), .int .i64 n] w fun e w' => e = .returned (.tuple #[]) ∧ (Lib.BuilderAt 67 5 B b (.pointer (some ⟨b, 0, none⟩)) [] w' ∧ Below B w w') := Any.Builder_grow_fresh Tryz.lays241 Tryz.Builder_Extra_241 B b n w hB hbk hBw hn
end Go.Proofs
namespace Go.Bw
open Go.RowKit
set_option linter.unusedVariables false
set_option linter.unusedSimpArgs false
section
variable {P : Program} {N : Nat} {D : List Deferred} {env env' : Env} {a : Act} {w w' : World} {Q : Exit → Act → World → Prop}
variable {ops : Array Oper} {rest : List Oper} {d : Nat} {op : Op} {ty : TypeId} {pos : String} {af : Array Edge}
theorem y_capl {x : Operand} {A : Option Addr} {n c : Nat} {t e : TypeId} (ht : P.underlying t = some (.slice e)) (hl : c ≤ 9223372036854775807) (hx : ev env x = some (.slice A n c)) : Yl P N D env (.call ⟨.builtin .cap, #[x], #[t]⟩) ty (.int .i64 c) := fun a ha w dst pos af g => by
  simp [execOp, resolve, invoke, builtin, Builtin.cap_, ha.eval hx, run_underlying ht, goInt]
theorem Wl.appendS {x y : Operand} {t u e : TypeId} (ht : P.underlying t = some (.slice e)) (hu : P.underlying u = some .string) (hi : (P.info? e).map (fun i => (i.zero, i.size, i.bytes)) = some (some (.int .u8 0), 1, 1))
    (base : Nat) {v : Value} {n : Nat} {xs : List Value} (hx : ev env x = some v) (hown : w.ownsRow base e 1 v n xs) {l : List UInt8} (hy : ev env y = some (str l))
    (h63 : n + l.length ≤ 140737488355328) (hbase : base ≤ w.heap.size) (hd : Nat.blt d N = true)
    (h : ∀ v' w', w'.ownsRow base e 1 v' (n + l.length) (xs ++ Lib.byteCells l) → w.grownBy w' v.ownBlock → Wl P ops Q rest N D ((d, v') :: env) w') :
    Wl P ops Q (⟨some d, .call ⟨.builtin .append, #[x, y], #[t, u]⟩, ty, pos, af, none⟩ :: rest) N D env w := by
  obtain ⟨i, hi0, hi1⟩ := Option.map_eq_some_iff.1 hi
  simp only [Prod.mk.injEq] at hi1
  obtain ⟨hz0, hs0, hb0⟩ := hi1
  have hsz : (⟨l.toArray⟩ : ByteArray).size = l.length := size_str l
  obtain ⟨v', w', hr, h2, h3, _⟩ := Lib.run_append_own_string (P := P) w base t u ty e i ht hu hi0 hz0 hs0 hb0 v n xs hown ⟨l.toArray⟩ (by rw [hsz]; unfold maxLen; omega) (by rw [hsz]; omega) hbase
  rw [hsz] at h2
  refine Wl.m (w' := w') (v := v') (fun a ha dst pos af g => ?_) hd (h v' w' h2 h3)
  have hr2 : (Builtin.append_ #[t, u] ty #[v, str l]).run P w = .ok v' w' := hr
  simp [execOp, resolve, invoke, builtin, ha.eval hx, ha.eval hy, hr2]
end
end Go.Bw
namespace Go.Proofs.YtjmlknjbhbfneaaGreatDoor
open Go.RowKit Go.Bw Go.Bw.Fl
set_option linter.unusedVariables false
set_option linter.unusedSimpArgs false
theorem fa67_1Join (p : Addr) (w : World) : (Instr.fieldAt 67 (.pointer (some p)) 1).run Tryz.prog w = .ok (.pointer (some (p.add 1))) w := run_fieldAt (i := 1) (sz := 0) Tryz.underlying67 rfl (by kernel_rfl) p w
theorem one22Join : One Tryz.prog 22 := ⟨_, Tryz.underlying22, rfl, by kernel_rfl⟩
theorem one9Join : One Tryz.prog 9 := ⟨_, Tryz.underlying9, rfl, by kernel_rfl⟩
theorem sz9Join : (Tryz.prog.info? 9).map (·.size) = some 1 := by kernel_rfl
theorem txt25Join : Txt Tryz.prog 25 := ⟨_, Tryz.func25, by kernel_rfl, rfl⟩   -- (*strings.Builder).WriteString
theorem txt28Join : Txt Tryz.prog 28 := ⟨_, Tryz.func28, by kernel_rfl, rfl⟩   -- (*strings.Builder).String
theorem txt51Join : Txt Tryz.prog 51 := ⟨_, Tryz.func51, by kernel_rfl, rfl⟩   -- (*strings.Builder).copyCheck
theorem txt52Join : Txt Tryz.prog 52 := ⟨_, Tryz.func52, by kernel_rfl, rfl⟩   -- (*strings.Builder).Grow
theorem txt84Join : Txt Tryz.prog 84 := ⟨_, Tryz.func84, by kernel_rfl, rfl⟩   -- (*strings.Builder).grow
theorem byteCells_app (l m : List UInt8) : Lib.byteCells (l ++ m) = Lib.byteCells l ++ Lib.byteCells m := by simp [Lib.byteCells]
theorem WriteString_r (B b : Nat) (l m : List UInt8) (w : World) (h : Lib.IsBuilder 67 5 B b (Lib.byteCells l) w) (hl : l.length + m.length ≤ 140737488355328) (hBw : B ≤ w.heap.size) : Ret Tryz.prog 25 [.pointer (some ⟨b, 0, none⟩), str m] w fun v w' => v = .tuple #[.int .i64 (m.length : Nat), .nilIface] ∧ Lib.IsBuilder 67 5 B b (Lib.byteCells (l ++ m)) w' ∧ Below B w w' := by
  have hbl : (Lib.byteCells l).length = l.length := Lib.byteCells_length l
  have hbm : (Lib.byteCells m).length = m.length := Lib.byteCells_length m
  refine enter Tryz.func25 rfl rfl rfl <| Wc.seq fun _ hK_1 => Wc.region <| Wl.sg rfl rfl <| Wl.sg rfl rfl <| Wl.nil <| Wq.next hK_1 <| Wc.seq fun _ hK_4 => Wc.region <| Wl.mv rfl rfl <| Wl.call txt51Join rfl rfl (copyCheck_r B b _ _ h) rfl ?_
  rintro _ w1 ⟨rfl, hA, hb1⟩
  refine Wl.nil <| Wq.next hK_4 <| Wc.seq fun _ hK_7 => ?_
  obtain ⟨hB, v, hbk, hown, hne⟩ := hA
  have c1 : w1.cell? ⟨b, 1, none⟩ = some v := by rw [Lib.cell_of_heap hbk]; rfl
  have hsz1 := hb1.size
  refine Wc.region <| Wl.mv rfl rfl <| Wl.mv rfl rfl <| Wl.y (y_nilCheck rfl) rfl <| Wl.y (y_fieldAddr (fa67_1Join _) rfl) rfl <| Wl.l (l_load one22Join rfl (c1)) rfl <| Wl.mv rfl rfl <| Wl.appendS (l := m) Tryz.underlying22 Tryz.underlying9 (by kernel_rfl) B rfl hown rfl (by omega) (by omega) rfl ?_
  rintro v3 w3 hown3 hgr
  have hlt : b < w1.heap.size := by
    rcases Nat.lt_or_ge b w1.heap.size with h' | h'
    · exact h'
    · simp [Array.getElem?_eq_none h'] at hbk
  have hb3 : w3.heap[b]? = some (.cells #[.pointer (some ⟨b, 0, none⟩), v] 67 (0, 0)) := by rw [hgr.block b (by omega) (fun e => hne e.symm)]; exact hbk
  obtain ⟨A3, cc3, hv3, _, _⟩ := own_form hown3
  have hone : v3.oneCell' = true := by rw [hv3]; rfl
  have hb13 : Below B w w3 := hb1.grown hgr (by omega) (fun k hk => (own_ge hown k hk).1)
  refine Wl.y (y_nilCheck rfl) rfl <| Wl.y (y_fieldAddr (fa67_1Join _) rfl) rfl <| Wl.s (s_store (p := ⟨b, 1, none⟩) oneBuf rfl rfl hone (by rw [Lib.cell_of_heap hb3]; rfl) (Lib.frozen_of_heap hb3 1)) <| Wl.nil <| Wq.next hK_7 <| Wc.seq fun _ hK_17 => Wc.region <| Wl.mv rfl rfl <| Wl.y (y_lens Tryz.underlying9 (by omega) rfl) rfl <| Wl.sg rfl rfl <| Wl.sg rfl rfl <| Wl.nil <| Wq.next hK_17 <| Wc.ret <| ret2 rfl rfl rfl ?_
  exact ⟨_, rfl, rfl, .inr (by rw [byteCells_app]; exact Lib.BuilderAt.put hB hb3 (by rw [List.length_append, hbm]; exact hown3) (by decide)), hb13.setCell (p := ⟨b, 1, none⟩) hB _⟩
theorem grow_f (B b n : Nat) (w : World) (hB : B ≤ b) (hbk : w.heap[b]? = some (.cells #[.pointer (some ⟨b, 0, none⟩), .slice none 0 0] 67 (0, 0))) (hBw : B ≤ w.heap.size) (hn : n ≤ 281474976710656) : Ret Tryz.prog 84 [.pointer (some ⟨b, 0, none⟩), .int .i64 (n : Int)] w fun v w' => v = .tuple #[] ∧ Lib.BuilderAt 67 5 B b (.pointer (some ⟨b, 0, none⟩)) [] w' ∧ Below B w w' :=
  Calls.mono (Tryz.Builder_grow_fresh B b n w hB hbk hBw hn) fun e w' ⟨h1, h2, h3⟩ => ⟨_, h1, rfl, h2, h3⟩
theorem Grow_r (B b n : Nat) (w : World) (hB : B ≤ b) (hbk : w.heap[b]? = some (.cells #[.pointer none, .slice none 0 0] 67 (0, 0))) (hBw : B ≤ w.heap.size) (hn : n ≤ 140737488355328) : Ret Tryz.prog 52 [.pointer (some ⟨b, 0, none⟩), .int .i64 (n : Int)] w fun v w' => v = .tuple #[] ∧ Lib.IsBuilder 67 5 B b [] w' ∧ Below B w w' := by
  have hf : Lib.BuilderAt 67 5 B b (.pointer none) [] w := ⟨hB, _, hbk, World.ownsRow_nil _ _ _ _, by simp [Value.ownBlock]⟩
  refine enter Tryz.func52 rfl rfl rfl <| Wc.seq fun _ hK_1 => Wc.region <| Wl.mv rfl rfl <| Wl.call txt51Join rfl rfl (copy_fresh b w hf.cell0 hf.shape hf.frozen0) rfl ?_
  rintro _ w1 ⟨rfl, hw1⟩
  refine Wl.nil <| Wq.next hK_1 <| Wc.seq fun _ hK_4 => Wc.seq fun _ hK_5 => ?_
  have hb1 : Below B w w1 := by rw [hw1]; exact (Below.refl B w).setCell (p := ⟨b, 0, none⟩) hB _
  have hbk1 : w1.heap[b]? = some (.cells #[.pointer (some ⟨b, 0, none⟩), .slice none 0 0] 67 (0, 0)) := by rw [hw1]; simp [World.setCell, Array.getElem?_modify, hbk]
  have c1 : w1.cell? ⟨b, 1, none⟩ = some (.slice none 0 0) := by rw [Lib.cell_of_heap hbk1]; rfl
  have hsz1 := hb1.size
  have hltb : b < w1.heap.size := block_lt c1
  refine Wc.region <| Wl.mv rfl rfl <| Wl.y (y_lssi rfl rfl) rfl <| Wl.nil <| Wq.next hK_5 <| Wc.cond rfl (fun c0_8 => ?_) (fun c0_8 => ?_)
  ·
   have c0_8_ := c0_8
   simp only [DZ] at c0_8
   omega
  have c0_8_ := c0_8
  simp only [DZ] at c0_8
  refine Wc.skip <| Wq.next hK_4 <| Wc.seq fun _ hK_9 => Wc.quiet (by kernel_rfl) (by kernel_rfl) <| Wy.y (y_move rfl) rfl <| Wy.y (y_nilCheck rfl) rfl <| Wy.y (y_fieldAddr (fa67_1Join _) rfl) rfl <| Wy.l (fun wq hq => l_load one22Join rfl (cell_below hq c1)) rfl <| Wy.y (y_capl Tryz.underlying22 (by omega) rfl) rfl <| Wy.y (y_move rfl) rfl <| Wy.y (y_nilCheck rfl) rfl <| Wy.y (y_fieldAddr (fa67_1Join _) rfl) rfl <| Wy.l (fun wq hq => l_load one22Join rfl (cell_below hq c1)) rfl <| Wy.y (y_lenl Tryz.underlying22 (by omega) rfl) rfl <| Wy.y (y_subI rfl rfl (by omega) (by omega)) rfl <| Wy.y (y_move rfl) rfl <| Wy.y (y_lssi rfl rfl) rfl <| Wy.nil fun w2 hs2 => ?_
  have hbk2 : w2.heap[b]? = some (.cells #[.pointer (some ⟨b, 0, none⟩), .slice none 0 0] 67 (0, 0)) := by rw [hs2.block b hltb]; exact hbk1
  have hb2 : Below B w w2 := hb1.trans (hs2.mono (by omega))
  refine Wq.next hK_9 <| Wc.cond rfl (fun c1_23 => ?_) (fun c1_23 => ?_)
  ·
   have c1_23_ := c1_23
   simp only [DZ] at c1_23
   refine Wc.region <| Wl.mv rfl rfl <| Wl.mv rfl rfl <| Wl.call txt84Join rfl rfl (grow_f B b n w2 hB hbk2 (Nat.le_trans hBw hb2.size) (by omega)) rfl ?_
   rintro _ w3 ⟨rfl, hg3, hb3⟩
   refine Wl.nil <| end0 rfl ?_
   exact ⟨_, rfl, rfl, .inr hg3, hb2.trans hb3⟩
  have c1_23_ := c1_23
  simp only [DZ] at c1_23
  refine Wc.skip <| end0 rfl ?_
  exact ⟨_, rfl, rfl, .inr ⟨hB, _, hbk2, World.ownsRow_nil _ _ _ _, by simp [Value.ownBlock]⟩, hb2⟩
/-- texts with a blank between -/
def joinV : List (List UInt8) → List UInt8
  | [] => []
  | x :: r => x ++ r.flatMap (fun y => 32 :: y)
def tot (l : List (List UInt8)) : Nat := (l.map List.length).sum
theorem take_snoc {α : Type} {l : List α} {i : Nat} (d : α) (h : i < l.length) : l.take (i + 1) = l.take i ++ [l.getD i d] := by
  rw [List.take_add_one, List.getElem?_eq_getElem h]; simp [List.getD, List.getElem?_eq_getElem h]
theorem tot_take {l : List (List UInt8)} {i : Nat} (h : i < l.length) : tot (l.take (i + 1)) = tot (l.take i) + (l.getD i []).length := by
  unfold tot
  rw [take_snoc [] h, List.map_append, List.sum_append]
  simp only [List.map_cons, List.map_nil, List.sum_cons, List.sum_nil, Nat.add_zero]
theorem tot_le (l : List (List UInt8)) (i : Nat) : tot (l.take i) ≤ tot l := by
  have h := congrArg tot (List.take_append_drop i l)
  unfold tot at h ⊢
  rw [List.map_append, List.sum_append] at h; omega
theorem flat_take {l : List (List UInt8)} {i : Nat} (h : i < l.length) : (l.take (i + 1)).flatMap (fun y => (32 : UInt8) :: y) = (l.take i).flatMap (fun y => (32 : UInt8) :: y) ++ [32] ++ l.getD i [] := by
  rw [take_snoc [] h, List.flatMap_append]
  simp only [List.flatMap_cons, List.flatMap_nil, List.append_nil, List.append_assoc]; rfl
theorem flat_len (l : List (List UInt8)) : (l.flatMap (fun y => (32 : UInt8) :: y)).length = l.length + tot l := by
  induction l with
  | nil => rfl
  | cons a r ih => unfold tot at ih ⊢; rw [List.flatMap_cons, List.length_append, ih]; simp; omega
theorem sl_drop {c n : Nat} {p : Addr} (h : c ≠ 1) : Value.slice (if c = (1 : Int).toNat then some p else (some p).map (·.add ((1 : Int).toNat * 1))) (n - (1 : Int).toNat) (c - (1 : Int).toNat) = .slice (some (p.add 1)) (n - 1) (c - 1) := by
  rw [if_neg (show ¬ c = (1 : Int).toNat from h)]; rfl
theorem Join_r (A : Option Addr) (c : Nat) (l : List (List UInt8)) (hlen : l.length ≤ 16777216) (hc : l.length ≤ c) (htot : tot l ≤ 1099511627776) (w : World) (hR : Rd w 1 A l.length (strs l)) : Ret Tryz.prog 26 [.slice A l.length c, str [32]] w fun v w' => v = str (joinV l) ∧ Below w.heap.size w w' := by
  have h11 : ([32] : List UInt8).length = 1 := rfl
  have htt := tot_le l
  have hb := Below.refl w.heap.size w
  have hR_hb := hR
  refine enter Tryz.func26 rfl rfl rfl <| Wc.seq fun _ hK_1 => Wc.region <| Wl.sg rfl rfl <| Wl.nil <| Wq.next hK_1 <| Wc.seq fun _ hK_3 => Wc.seq fun _ hK_4 => Wc.region <| Wl.mv rfl rfl <| Wl.y (y_lenl Tryz.underlying40 (by omega) rfl) rfl <| Wl.nil <| Wq.next hK_4 <| Wc.block <| Wc.seq fun _ hK_7 => Wc.region <| Wl.y (y_eqli rfl rfl) rfl <| Wl.sg rfl rfl <| Wl.nil <| Wq.next hK_7 <| Wc.cond rfl (fun c0_10 => ?_) (fun c0_10 => ?_)
  ·
   have c0_10_ := c0_10
   simp only [DZ] at c0_10
   refine Wc.seq fun _ hK_11 => Wc.region <| Wl.sg rfl rfl <| Wl.nil <| Wq.next hK_11 <| Wc.ret <| Wq.block_ret (Wq.then_ret ?_)
   refine ret1 rfl rfl ?_
   exact ⟨_, rfl, str_eq (by have := c0_10; have h : l = [] := List.length_eq_zero_iff.1 (by omega); rw [h]; rfl), hb⟩
  have c0_10_ := c0_10
  simp only [DZ] at c0_10
  refine Wc.seq fun _ hK_13 => Wc.region <| Wl.y (y_eqli rfl rfl) rfl <| Wl.sg rfl rfl <| Wl.nil <| Wq.next hK_13 <| Wc.cond rfl (fun c1_16 => ?_) (fun c1_16 => ?_)
  ·
   have c1_16_ := c1_16
   simp only [DZ] at c1_16
   have hl1 : l.length = 1 := by have := c1_16; omega
   obtain ⟨p_, v_, hpe, hve, hcell⟩ := hR.one (i := 0) (by omega)
   subst hpe
   obtain rfl := strs_val (by omega) hve
   refine Wc.seq fun _ hK_17 => Wc.region <| Wl.mv rfl rfl <| Wl.y (y_indexAddr Tryz.underlying40 sz9Join rfl rfl (by omega) (by omega)) rfl <| Wl.l (l_load one9Join rfl (by exact at1 (k := 0) hcell)) rfl <| Wl.sg rfl rfl <| Wl.nil <| Wq.next hK_17 <| Wc.ret <| Wq.block_ret (Wq.then_ret ?_)
   refine ret1 rfl rfl ?_
   exact ⟨_, rfl, str_eq (by obtain ⟨x, rfl⟩ := List.length_eq_one_iff.1 hl1; simp [joinV]), hb⟩
  have c1_16_ := c1_16
  simp only [DZ] at c1_16
  have hl2 : 2 ≤ l.length := by have := c0_10; have := c1_16; omega
  refine Wc.skip <| Wq.block_normal <| Wq.next hK_3 <| Wc.seq fun _ hK_22 => Wc.region <| Wl.sg rfl rfl <| Wl.nil <| Wq.next hK_22 <| Wc.seq fun _ hK_24 => Wc.seq fun _ hK_25 => Wc.region <| Wl.mv rfl rfl <| Wl.y (y_eq (y_lens Tryz.underlying9 (by omega) rfl) (int_eq (show _ = (1 : Int) by rfl))) rfl <| Wl.y (y_gtri rfl rfl) rfl <| Wl.nil <| Wq.next hK_25 <| Wc.cond rfl (fun c2_29 => ?_) (fun c2_29 => ?_)
  ·
   have c2_29_ := c2_29
   simp only [DZ] at c2_29
   refine Wc.seq fun _ hK_30 => Wc.seq fun _ hK_31 => Wc.region <| Wl.mv rfl rfl <| Wl.y (y_eq (y_lens Tryz.underlying9 (by omega) rfl) (int_eq (show _ = (1 : Int) by rfl))) rfl <| Wl.mv rfl rfl <| Wl.y (y_lenl Tryz.underlying40 (by omega) rfl) rfl <| Wl.y (y_subI rfl rfl (by omega) (by omega)) rfl <| Wl.y (y_quo rfl rfl (by omega)) rfl <| Wl.y (y_geqi rfl rfl) rfl <| Wl.nil <| Wq.next hK_31 <| Wc.cond rfl (fun c3_39 => ?_) (fun c3_39 => ?_)
   ·
    have c3_39_ := c3_39
    simp only [DZ] at c3_39
    have h0 := c3_39
    rw [IntKind.wrap_i64, Int.tdiv_eq_ediv_of_nonneg (by omega)] at h0
    have h1 : (2 : Int) ≤ 9223372036854775807 / ((l.length : Int) - 1) := (Int.le_ediv_iff_mul_le (by omega)).2 (by omega)
    have h2 : 9223372036854775807 / ((l.length : Int) - 1) ≤ 9223372036854775807 := Int.ediv_le_self _ (by omega)
    omega
   have c3_39_ := c3_39
   simp only [DZ] at c3_39
   refine Wc.skip <| Wq.next hK_30 <| Wc.region <| Wl.mv rfl rfl <| Wl.mv rfl rfl <| Wl.y (y_eq (y_lens Tryz.underlying9 (by omega) rfl) (int_eq (show _ = (1 : Int) by rfl))) rfl <| Wl.mv rfl rfl <| Wl.y (y_lenl Tryz.underlying40 (by omega) rfl) rfl <| Wl.y (y_subI rfl rfl (by omega) (by omega)) rfl <| Wl.y (y_mulI rfl rfl (by omega) (by omega)) rfl <| Wl.y (y_addI rfl rfl (by omega) (by omega)) rfl <| Wl.sg rfl rfl <| Wl.nil <| Wq.next hK_24 <| Wc.seq fun _ hK_49 => Wc.seq fun _ hK_50 => Wc.region <| Wl.mv rfl rfl <| Wl.y (y_lenl Tryz.underlying40 (by omega) rfl) rfl <| Wl.mv rfl rfl <| Wl.nil <| Wq.next hK_50 <| Wc.block <| Wc.loop (X := Nat) (fun i => [(0, .slice A l.length c), (1, str [32]), (5, .int .i64 (l.length - 1 + tot (l.take i) : Nat)), (39, .slice A l.length c), (40, .int .i64 (l.length : Int)), (41, .int .i64 (i : Int))]) (fun i wr => i ≤ l.length ∧ Below w.heap.size w wr) (fun i => l.length - i) (0) ?_ ?_ ?_
   · exact by repeat first | exact Sub.nil | refine Sub.cons' rfl (by first | rfl | exact int_eq (by simp [tot]; omega) | exact int_eq (by rw [tot_take hil]; omega) | exact int_eq (by omega)) ?_
   · exact ⟨by omega, hb⟩
   rintro i wr hI_55 _ hL_54
   replace hI_55 : i ≤ l.length ∧ Below w.heap.size w wr := hI_55
   obtain ⟨hi, hb⟩ := hI_55
   show Wc _ _ _ _ _ [(0, .slice A l.length c), (1, str [32]), (5, .int .i64 (l.length - 1 + tot (l.take i) : Nat)), (39, .slice A l.length c), (40, .int .i64 (l.length : Int)), (41, .int .i64 (i : Int))] _
   have hR := hR_hb.below hb
   have hzhb_L0 := hb.size
   refine Wc.seq fun _ hK_56 => Wc.region <| Wl.y (y_lssi rfl rfl) rfl <| Wl.nil <| Wq.next hK_56 <| Wc.seq fun _ hK_58 => Wc.cond rfl (fun c4_59 => ?_) (fun c4_59 => ?_)
   ·
    have c4_59_ := c4_59
    simp only [DZ] at c4_59
    have hil : i < l.length := by have := c4_59; omega
    obtain ⟨p_, v_, hpe, hve, hcell⟩ := hR.one (i := i) hil
    subst hpe
    obtain rfl := strs_val hil hve
    have h6 := tot_take hil
    have h7 := htt (i + 1)
    refine Wc.skip <| Wq.next hK_58 <| Wc.seq fun _ hK_60 => Wc.block <| Wc.seq fun _ hK_61 => Wc.region <| Wl.y (y_indexAddr Tryz.underlying40 sz9Join rfl rfl (by omega) (by omega)) rfl <| Wl.l (l_load one9Join rfl (by exact at1 hcell)) rfl <| Wl.sg rfl rfl <| Wl.nil <| Wq.next hK_61 <| Wc.seq fun _ hK_65 => Wc.seq fun _ hK_66 => Wc.region <| Wl.mv rfl rfl <| Wl.y (y_lens Tryz.underlying9 (by omega) rfl) rfl <| Wl.mv rfl rfl <| Wl.y (y_subI rfl rfl (by omega) (by omega)) rfl <| Wl.y (y_gtri rfl rfl) rfl <| Wl.nil <| Wq.next hK_66 <| Wc.cond rfl (fun c5_72 => ?_) (fun c5_72 => ?_)
    ·
     have c5_72_ := c5_72
     simp only [DZ] at c5_72
     omega
    have c5_72_ := c5_72
    simp only [DZ] at c5_72
    refine Wc.skip <| Wq.next hK_65 <| Wc.region <| Wl.mv rfl rfl <| Wl.mv rfl rfl <| Wl.y (y_lens Tryz.underlying9 (by omega) rfl) rfl <| Wl.y (y_addI rfl rfl (by omega) (by omega)) rfl <| Wl.sg rfl rfl <| Wl.nil <| Wq.block_normal <| Wq.next hK_60 <| Wc.region <| Wl.y (y_addI rfl rfl (by omega) (by omega)) rfl <| Wl.mv rfl rfl <| Wl.nil <| fun a_ ha_ => hL_54 _ _ (i + 1) (by omega) (by repeat first | exact Sub.nil | refine Sub.cons' rfl (by first | rfl | exact int_eq (by simp [tot]; omega) | exact int_eq (by rw [tot_take hil]; omega) | exact int_eq (by omega)) ?_) ?_ a_ ha_
    exact ⟨by omega, hb⟩
   have c4_59_ := c4_59
   simp only [DZ] at c4_59
   have hil : i = l.length := by have := c4_59; omega
   have h8 : tot (l.take i) = tot l := by rw [hil, List.take_length]
   rw [h8]
   refine Wc.exit <| Wq.then_exit <| Wq.then_exit <| Wq.block_exit <| Wq.next hK_49 <| Wc.seq fun _ hK_80 => Wc.region <| Wl.allocN (z := (.agg #[(.pointer none), (.slice none 0 0)])) (by kernel_rfl) rfl ?_
   rintro g_o42 w_o42 hg_o42 hn_o42 hs_o42
   have hz_o42 := hs_o42.size
   have hb := hb.trans (hs_o42.mono hb.size)
   have hR := hR_hb.below hb
   have hB_o42 := hn_o42
   have hl_o42 := hB_o42.lt
   refine Wl.nil <| Wq.next hK_80 <| Wc.seq fun _ hK_82 => Wc.region <| Wl.mv rfl rfl <| Wl.call txt52Join rfl rfl (Grow_r w.heap.size g_o42 (l.length - 1 + tot l) _ (by omega) hB_o42 hb.size (by omega)) rfl ?_
   rintro _ w1 ⟨rfl, hI, hs1⟩
   refine Wl.nil <| Wq.next hK_82 <| Wc.seq fun _ hK_85 => ?_
   have hb := hb.trans hs1
   have hR := hR_hb.below hb
   obtain ⟨p_, v_, hpe, hve, hcell⟩ := hR.one (i := 0) (by omega)
   subst hpe
   obtain rfl := strs_val (by omega) hve
   obtain ⟨x, r, hxr⟩ : ∃ x r, l = x :: r := by cases l with | nil => simp at hl2 | cons x r => exact ⟨x, r, rfl⟩
   have hx0 : l.getD 0 [] = x := by rw [hxr]; rfl
   rw [hx0] at hcell
   have hrl : l.length = r.length + 1 := by rw [hxr]; rfl
   have htr : tot l = x.length + tot r := by rw [hxr]; simp [tot]
   refine Wc.region <| Wl.mv rfl rfl <| Wl.y (y_indexAddr Tryz.underlying40 sz9Join rfl rfl (by omega) (by omega)) rfl <| Wl.l (l_load one9Join rfl (by exact at1 (k := 0) hcell)) rfl <| Wl.call txt25Join rfl rfl (WriteString_r w.heap.size g_o42 [] x _ hI (by simp; omega) hb.size) rfl ?_
   rintro _ w2 ⟨rfl, hI2, hs2⟩
   refine Wl.nil <| Wq.next hK_85 <| Wc.seq fun _ hK_90 => Wc.seq fun _ hK_91 => ?_
   have hb := hb.trans hs2
   have hR := hR_hb.below hb
   refine Wc.region <| Wl.mv rfl rfl <| Wl.y (y_slicelL Tryz.underlying40 sz9Join rfl rfl (by omega) (by omega)) rfl <| Wl.y (y_lenl Tryz.underlying40 (by omega) rfl) rfl <| Wl.mv rfl rfl <| Wl.nil <| Wq.next hK_91 <| Wc.block <| Wc.loop (X := Nat) (fun i => [(1, str [32]), (8, .pointer (some ⟨g_o42, 0, none⟩)), (63, .slice (some (p_.add 1)) (l.length - 1) (c - 1)), (64, .int .i64 (r.length : Int)), (65, .int .i64 (i : Int))]) (fun i wr => i ≤ r.length ∧ Below w.heap.size w wr ∧ Lib.IsBuilder 67 5 w.heap.size g_o42 (Lib.byteCells (x ++ (r.take i).flatMap (fun y => (32 : UInt8) :: y))) wr) (fun i => r.length - i) (0) ?_ ?_ ?_
   · exact by repeat first | exact Sub.nil | refine Sub.cons' rfl (by first | rfl | exact int_eq (by omega) | exact sl_drop (by omega)) ?_
   · exact ⟨by omega, hb, by simpa using hI2⟩
   rintro i wr hI_97 _ hL_96
   replace hI_97 : i ≤ r.length ∧ Below w.heap.size w wr ∧ Lib.IsBuilder 67 5 w.heap.size g_o42 (Lib.byteCells (x ++ (r.take i).flatMap (fun y => (32 : UInt8) :: y))) wr := hI_97
   obtain ⟨hi, hb, hI⟩ := hI_97
   show Wc _ _ _ _ _ [(1, str [32]), (8, .pointer (some ⟨g_o42, 0, none⟩)), (63, .slice (some (p_.add 1)) (l.length - 1) (c - 1)), (64, .int .i64 (r.length : Int)), (65, .int .i64 (i : Int))] _
   have hR := hR_hb.below hb
   have hzhb_L1 := hb.size
   refine Wc.seq fun _ hK_98 => Wc.region <| Wl.y (y_lssi rfl rfl) rfl <| Wl.nil <| Wq.next hK_98 <| Wc.seq fun _ hK_100 => Wc.cond rfl (fun c6_101 => ?_) (fun c6_101 => ?_)
   ·
    have c6_101_ := c6_101
    simp only [DZ] at c6_101
    have hil2 : i < r.length := by have := c6_101; omega
    have hR := hR_hb.below hb
    have h9 := flat_len (r.take i)
    have h10 := tot_le r i
    have h11' := tot_take hil2
    have h12 := tot_le r (i + 1)
    have h13 : (r.take i).length = i := by rw [List.length_take]; omega
    have hR3 : Rd wr 1 (some (p_.add 1)) (l.length - 1) ((strs l).drop (1 * 1)) := by have h := hR.drop (m := 1) (c := c) (by omega) hc; rw [if_neg (by omega)] at h; exact h
    obtain ⟨p2_, v2_, hpe2, hve2, hcell2⟩ := hR3.one (i := i) (by omega)
    rw [show (strs l).drop (1 * 1) = strs r by rw [hxr]; rfl] at hve2
    obtain rfl := strs_val hil2 hve2
    cases hpe2
    refine Wc.skip <| Wq.next hK_100 <| Wc.seq fun _ hK_102 => Wc.block <| Wc.seq fun _ hK_103 => Wc.region <| Wl.y (y_indexAddr Tryz.underlying40 sz9Join rfl rfl (by omega) (by omega)) rfl <| Wl.l (l_load one9Join rfl (by exact at1 hcell2)) rfl <| Wl.sg rfl rfl <| Wl.nil <| Wq.next hK_103 <| Wc.seq fun _ hK_107 => Wc.region <| Wl.mv rfl rfl <| Wl.call txt25Join rfl rfl (WriteString_r w.heap.size g_o42 _ [32] _ hI (by rw [List.length_append, h9, h11]; omega) hb.size) rfl ?_
    rintro _ w3 ⟨rfl, hI3, hs3⟩
    refine Wl.nil <| Wq.next hK_107 ?_
    have hb3 := hb.trans hs3
    refine Wc.region <| Wl.mv rfl rfl <| Wl.call txt25Join rfl rfl (WriteString_r w.heap.size g_o42 _ (r.getD i []) _ hI3 (by rw [List.length_append, List.length_append, h9, h11]; omega) hb3.size) rfl ?_
    rintro _ w4 ⟨rfl, hI4, hs4⟩
    refine Wl.nil <| Wq.block_normal <| Wq.next hK_102 ?_
    have hb4 := hb3.trans hs4
    refine Wc.region <| Wl.y (y_addI rfl rfl (by omega) (by omega)) rfl <| Wl.mv rfl rfl <| Wl.nil <| fun a_ ha_ => hL_96 _ _ (i + 1) (by omega) (by repeat first | exact Sub.nil | refine Sub.cons' rfl (by first | rfl | exact int_eq (by omega) | exact sl_drop (by omega)) ?_) ?_ a_ ha_
    exact ⟨by omega, hb4, by rw [flat_take hil2, ← List.append_assoc, ← List.append_assoc]; exact hI4⟩
   have c6_101_ := c6_101
   simp only [DZ] at c6_101
   refine Wc.exit <| Wq.then_exit <| Wq.then_exit <| Wq.block_exit <| Wq.next hK_90 <| Wc.seq fun _ hK_114 => Wc.region <| Wl.call txt28Join rfl rfl (BString_r w.heap.size g_o42 _ _ hI hb.size) rfl ?_
   rintro _ w5 ⟨rfl, hs5⟩
   refine Wl.sg rfl rfl <| Wl.nil <| Wq.next hK_114 <| Wc.ret <| ret1 rfl rfl ?_
   exact ⟨_, rfl, str_eq (by rw [hxr, joinV, List.take_of_length_le (by have := c6_101; omega)]), hb.trans hs5⟩
  have c2_29_ := c2_29
  simp only [DZ] at c2_29
  exact absurd c2_29 (by decide)
theorem Join_n (A : Option Addr) (c n : Nat) (l : List (List UInt8)) (hn : l.length = n) (hlen : n ≤ 16777216) (hc : n ≤ c) (htot : tot l ≤ 1099511627776) (w : World) (hR : Rd w 1 A n (strs l)) : Ret Tryz.prog 26 [.slice A n c, str [32]] w fun v w' => v = str (joinV l) ∧ Below w.heap.size w w' := by
  subst hn; exact Join_r A c l hlen hc htot w hR
end Go.Proofs.YtjmlknjbhbfneaaGreatDoor
