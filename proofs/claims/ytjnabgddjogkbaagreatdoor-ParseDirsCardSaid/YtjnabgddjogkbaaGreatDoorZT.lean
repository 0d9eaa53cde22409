/- The library's contracts at this dump, in plain words (written by the kit's tools, the ones in use kept). · strings.Builder: Grow at a fresh one, WriteString; strings.Join; lex.Text. · lex.Text; what each statement about lex begins with. -/
import Derived.Shelf.Strings.Builder1
import Derived.Shelf.Strings.Builder2
import Derived.Shelf.Strings.Trim
import Derived.Shelf.Small.Utf8
import Derived.Shelf.Small.Strs
import Derived.Shelf.Small.Wraps
import Derived.Shelf.Strings.BuilderF
import Derived.Shelf.Strings.BuilderK
import Derived.Shelf.Strconv.Atoi
import Derived.Shelf.Strconv.Itoa0
import Derived.Shelf.Strconv.Itoa1
import Derived.Shelf.LaysM
import Derived.Shelf.Strconv.Itoa2
import Derived.Shelf.Strconv.Itoa3
import Derived.Shelf.Strconv.Itoa4
import Derived.Shelf.Strconv.AtoiErrFast
import Derived.Shelf.Strconv.ParseIntEmpty
import Derived.Shelf.Strconv.AtoiFail
import Derived.Shelf.Strconv.Clone
import Derived.Shelf.Strconv.SyntaxError
import Derived.Shelf.LaysC
import Derived.Shelf.Strconv.ToError
import Derived.Shelf.Strconv.Lower
import Derived.Shelf.Strconv.ParseUint10
import Derived.Shelf.Strconv.ParseUint10Empty
import Derived.Shelf.Strconv.ParseUint10Any
import Derived.Shelf.Strconv.ParseInt10
import Derived.Shelf.Strconv.AtoiLong
import Derived.Shelf.Strconv.AtoiInnerAll
import Derived.Shelf.Strconv.RangeError
import Derived.Shelf.Strconv.ToErrorRange
import Derived.Shelf.Strconv.AtoiAll
import Derived.Shelf.Strconv.ErrVarAll
import Derived.Shelf.Strconv.ParseUintEmpty
import Derived.Shelf.Strconv.ParseUint10b64
import Derived.Shelf.Strconv.ParseUint10b32
import Derived.Shelf.Strconv.ParseUint10b16
import Derived.Shelf.Strconv.ParseUint10b8
import Derived.Shelf.Strconv.ParseUint10At
import Derived.Shelf.Strconv.ParseInt10At64
import Derived.Shelf.Strconv.ParseInt10At32
import Derived.Shelf.Strconv.ParseInt10At16
import Derived.Shelf.Strconv.ParseInt10At8
import Derived.Shelf.Strconv.ParseInt10All
import Derived.Shelf.Strconv.ParseIntPublic10
import Derived.Shelf.Strconv.ErrVarParseInt
import Derived.Ground.MpProg
import Derived.Shelf.Pu.ParseUintPublic10
import Derived.Shelf.Pu.ErrVarParseUint
import Derived.Shelf.Strings.Search1
import Derived.Shelf.Strings.Search2
import Derived.Shelf.Strings.Cut
import Derived.Shelf.Strings.Shaped
import Derived.Shelf.Strings.Prefix
import Derived.Shelf.Unicode.Latin
import Derived.Shelf.Strings.Runes
import Derived.Shelf.Strings.AsciiSet
import Derived.Shelf.Unicode.DecodeSlow
import Derived.Shelf.Unicode.CaseLookup
import Derived.Shelf.Unicode.CaseConvert
import Derived.Shelf.Unicode.CaseTo
import Derived.Shelf.Unicode.CaseLaid
import Derived.Test.YtjnabgddjogkbaaGreatDoorProg
import Derived.Test.YtjnabgddjogkbaaGreatDoorZL
import Derived.Lib.AppendStr
namespace Go.Proofs
open Go.Shelf
def Tryz.lays241_ren : Go.Shelf.Ren := ⟨fun | 241 => 87 | 277 => 112 | n => n, fun | 70 => 96 | 3 => 3 | 0 => 0 | 72 => 98 | 37 => 50 | 5 => 5 | n => n, fun | n => n⟩
theorem Tryz.lays241 : Go.Proofs.Lays.n241 Tryz.prog Tryz.lays241_ren := {
  mixed := by kernel_rfl
  f241 := Tryz.func87.trans (congrArg some (by kernel_rfl))
  f277 := Tryz.func112.trans (congrArg some (by kernel_rfl))
  t0 := Tryz.underlying0
  a0 := Tryz.isAgg0
  z0 := Tryz.sizeOf0
  v0 := Tryz.zeroValue0
  t3 := Tryz.underlying3
  a3 := Tryz.isAgg3
  z3 := Tryz.sizeOf3
  v3 := Tryz.zeroValue3
  t37 := Tryz.underlying50
  a37 := Tryz.isAgg50
  z37 := Tryz.sizeOf50
  v37 := Tryz.zeroValue50
  t70 := Tryz.underlying96
  a70 := Tryz.isAgg96
  z70 := Tryz.sizeOf96
  v70 := Tryz.zeroValue96
  t72 := Tryz.underlying98
  a72 := Tryz.isAgg98
  z72 := Tryz.sizeOf98
  v72 := Tryz.zeroValue98 }
theorem Tryz.Builder_Extra_241 : Builder.Extra Tryz.prog Tryz.lays241_ren := {
  sizeBuilder := by kernel_rfl
  liesBuilder := by kernel_rfl
  t5 := Tryz.underlying5
  a5 := Tryz.isAgg5
  z5 := Tryz.sizeOf5
  v5 := Tryz.zeroValue5
  infoByte := by kernel_rfl
  cellsByte := by kernel_rfl
  sizeByte := by kernel_rfl
  neB5 := by decide }
open Go.RowKit in
theorem Tryz.Builder_grow_fresh (B b n : Nat) (w : World) (hB : B ≤ b) (hbk : w.heap[b]? = some (.cells #[.pointer (some ⟨b, 0, none⟩), .slice none 0 0] 98 (0, 0))) (hBw : B ≤ w.heap.size) (hn : n ≤ 281474976710656) :
    Calls Tryz.prog 87 #[.pointer (some ⟨b, 0, none⟩), .int .i64 n] w fun e w' => e = .returned (.tuple #[]) ∧ (Lib.BuilderAt 98 5 B b (.pointer (some ⟨b, 0, none⟩)) [] w' ∧ Below B w w') := Any.Builder_grow_fresh Tryz.lays241 Tryz.Builder_Extra_241 B b n w hB hbk hBw hn
end Go.Proofs
namespace Go.Bw
open Go.RowKit
set_option linter.unusedVariables false
set_option linter.unusedSimpArgs false
section
variable {P : Program} {N : Nat} {D : List Deferred} {env env' : Env} {a : Act} {w w' : World} {Q : Exit → Act → World → Prop}
variable {ops : Array Oper} {rest : List Oper} {d : Nat} {op : Op} {ty : TypeId} {pos : String} {af : Array Edge}
theorem y_capl {x : Operand} {A : Option Addr} {n c : Nat} {t e : TypeId} (ht : P.underlying t = some (.slice e)) (hl : c ≤ 9223372036854775807) (hx : ev env x = some (.slice A n c)) : Yl P N D env (.call ⟨.builtin .cap, #[x], #[t]⟩) ty (.int .i64 c) := fun a ha w dst pos af g => by
  simp [execOp, resolve, invoke, builtin, Builtin.cap_, ha.eval hx, run_underlying ht, goInt]
theorem Wl.appendS {x y : Operand} {t u e : TypeId} (ht : P.underlying t = some (.slice e)) (hu : P.underlying u = some .string) (hi : (P.info? e).map (fun i => (i.zero, i.size, i.bytes)) = some (some (.int .u8 0), 1, 1))
    (base : Nat) {v : Value} {n : Nat} {xs : List Value} (hx : ev env x = some v) (hown : w.ownsRow base e 1 v n xs) {l : List UInt8} (hy : ev env y = some (str l))
    (h63 : n + l.length ≤ 140737488355328) (hbase : base ≤ w.heap.size) (hd : Nat.blt d N = true)
    (h : ∀ v' w', w'.ownsRow base e 1 v' (n + l.length) (xs ++ Lib.byteCells l) → w.grownBy w' v.ownBlock → Wl P ops Q rest N D ((d, v') :: env) w') :
    Wl P ops Q (⟨some d, .call ⟨.builtin .append, #[x, y], #[t, u]⟩, ty, pos, af, none⟩ :: rest) N D env w := by
  obtain ⟨i, hi0, hi1⟩ := Option.map_eq_some_iff.1 hi
  simp only [Prod.mk.injEq] at hi1
  obtain ⟨hz0, hs0, hb0⟩ := hi1
  have hsz : (⟨l.toArray⟩ : ByteArray).size = l.length := size_str l
  obtain ⟨v', w', hr, h2, h3, _⟩ := Lib.run_append_own_string (P := P) w base t u ty e i ht hu hi0 hz0 hs0 hb0 v n xs hown ⟨l.toArray⟩ (by rw [hsz]; unfold maxLen; omega) (by rw [hsz]; omega) hbase
  rw [hsz] at h2
  refine Wl.m (w' := w') (v := v') (fun a ha dst pos af g => ?_) hd (h v' w' h2 h3)
  have hr2 : (Builtin.append_ #[t, u] ty #[v, str l]).run P w = .ok v' w' := hr
  simp [execOp, resolve, invoke, builtin, ha.eval hx, ha.eval hy, hr2]
end
end Go.Bw
namespace Go.Proofs.YtjnabgddjogkbaaGreatDoor
open Go.RowKit Go.Bw Go.Bw.Fl
set_option linter.unusedVariables false
set_option linter.unusedSimpArgs false
theorem fa98_1Join (p : Addr) (w : World) : (Instr.fieldAt 98 (.pointer (some p)) 1).run Tryz.prog w = .ok (.pointer (some (p.add 1))) w := run_fieldAt (i := 1) (sz := 0) Tryz.underlying98 rfl (by kernel_rfl) p w
theorem one50Join : One Tryz.prog 50 := ⟨_, Tryz.underlying50, rfl, by kernel_rfl⟩
theorem txt86Join : Txt Tryz.prog 86 := ⟨_, Tryz.func86, by kernel_rfl, rfl⟩   -- (*strings.Builder).copyCheck
theorem txt87Join : Txt Tryz.prog 87 := ⟨_, Tryz.func87, by kernel_rfl, rfl⟩   -- (*strings.Builder).grow
theorem byteCells_app (l m : List UInt8) : Lib.byteCells (l ++ m) = Lib.byteCells l ++ Lib.byteCells m := by simp [Lib.byteCells]
theorem WriteString_r (B b : Nat) (l m : List UInt8) (w : World) (h : Lib.IsBuilder 98 5 B b (Lib.byteCells l) w) (hl : l.length + m.length ≤ 140737488355328) (hBw : B ≤ w.heap.size) : Ret Tryz.prog 63 [.pointer (some ⟨b, 0, none⟩), str m] w fun v w' => v = .tuple #[.int .i64 (m.length : Nat), .nilIface] ∧ Lib.IsBuilder 98 5 B b (Lib.byteCells (l ++ m)) w' ∧ Below B w w' := by
  have hbl : (Lib.byteCells l).length = l.length := Lib.byteCells_length l
  have hbm : (Lib.byteCells m).length = m.length := Lib.byteCells_length m
  refine enter Tryz.func63 rfl rfl rfl ?_
  refine Wc.seq fun _ hK_1 => Wc.region <| Wl.sg rfl rfl <| Wl.sg rfl rfl <| Wl.nil <| Wq.next hK_1 <| Wc.seq fun _ hK_4 => Wc.region <| Wl.mv rfl rfl ?_
  refine Wl.call txt86Join rfl rfl (copyCheck_r B b _ _ h) rfl ?_
  rintro _ w1 ⟨rfl, hA, hb1⟩
  refine Wl.nil <| Wq.next hK_4 <| Wc.seq fun _ hK_7 => ?_
  obtain ⟨hB, v, hbk, hown, hne⟩ := hA
  have c1 : w1.cell? ⟨b, 1, none⟩ = some v := by rw [Lib.cell_of_heap hbk]; rfl
  have hsz1 := hb1.size
  refine Wc.region <| Wl.mv rfl rfl <| Wl.mv rfl rfl <| Wl.y (y_nilCheck rfl) rfl ?_
  refine Wl.y (y_fieldAddr (fa98_1Join _) rfl) rfl ?_
  refine Wl.l (l_load one50Join rfl (c1)) rfl ?_
  refine Wl.mv rfl rfl ?_
  refine Wl.appendS (l := m) Tryz.underlying50 Tryz.underlying9 (by kernel_rfl) B rfl hown rfl (by omega) (by omega) rfl ?_
  rintro v3 w3 hown3 hgr
  have hlt : b < w1.heap.size := by
    rcases Nat.lt_or_ge b w1.heap.size with h' | h'
    · exact h'
    · simp [Array.getElem?_eq_none h'] at hbk
  have hb3 : w3.heap[b]? = some (.cells #[.pointer (some ⟨b, 0, none⟩), v] 98 (0, 0)) := by rw [hgr.block b (by omega) (fun e => hne e.symm)]; exact hbk
  obtain ⟨A3, cc3, hv3, _, _⟩ := own_form hown3
  have hone : v3.oneCell' = true := by rw [hv3]; rfl
  have hb13 : Below B w w3 := hb1.grown hgr (by omega) (fun k hk => (own_ge hown k hk).1)
  refine Wl.y (y_nilCheck rfl) rfl ?_
  refine Wl.y (y_fieldAddr (fa98_1Join _) rfl) rfl ?_
  refine Wl.s (s_store (p := ⟨b, 1, none⟩) oneBuf rfl rfl hone (by rw [Lib.cell_of_heap hb3]; rfl) (Lib.frozen_of_heap hb3 1)) ?_
  refine Wl.nil <| Wq.next hK_7 <| Wc.seq fun _ hK_17 => Wc.region <| Wl.mv rfl rfl ?_
  refine Wl.y (y_lens Tryz.underlying9 (by omega) rfl) rfl ?_
  refine Wl.sg rfl rfl <| Wl.sg rfl rfl <| Wl.nil <| Wq.next hK_17 <| Wc.ret ?_
  refine ret2 rfl rfl rfl ?_
  exact ⟨_, rfl, rfl, .inr (by rw [byteCells_app]; exact Lib.BuilderAt.put hB hb3 (by rw [List.length_append, hbm]; exact hown3) (by decide)), hb13.setCell (p := ⟨b, 1, none⟩) hB _⟩
theorem grow_f (B b n : Nat) (w : World) (hB : B ≤ b) (hbk : w.heap[b]? = some (.cells #[.pointer (some ⟨b, 0, none⟩), .slice none 0 0] 98 (0, 0))) (hBw : B ≤ w.heap.size) (hn : n ≤ 281474976710656) : Ret Tryz.prog 87 [.pointer (some ⟨b, 0, none⟩), .int .i64 (n : Int)] w fun v w' => v = .tuple #[] ∧ Lib.BuilderAt 98 5 B b (.pointer (some ⟨b, 0, none⟩)) [] w' ∧ Below B w w' :=
  Calls.mono (Tryz.Builder_grow_fresh B b n w hB hbk hBw hn) fun e w' ⟨h1, h2, h3⟩ => ⟨_, h1, rfl, h2, h3⟩
theorem Grow_r (B b n : Nat) (w : World) (hB : B ≤ b) (hbk : w.heap[b]? = some (.cells #[.pointer none, .slice none 0 0] 98 (0, 0))) (hBw : B ≤ w.heap.size) (hn : n ≤ 140737488355328) : Ret Tryz.prog 62 [.pointer (some ⟨b, 0, none⟩), .int .i64 (n : Int)] w fun v w' => v = .tuple #[] ∧ Lib.IsBuilder 98 5 B b [] w' ∧ Below B w w' := by
  have hf : Lib.BuilderAt 98 5 B b (.pointer none) [] w := ⟨hB, _, hbk, World.ownsRow_nil _ _ _ _, by simp [Value.ownBlock]⟩
  refine enter Tryz.func62 rfl rfl rfl ?_
  refine Wc.seq fun _ hK_1 => Wc.region <| Wl.mv rfl rfl ?_
  refine Wl.call txt86Join rfl rfl (copy_fresh b w hf.cell0 hf.shape hf.frozen0) rfl ?_
  rintro _ w1 ⟨rfl, hw1⟩
  refine Wl.nil <| Wq.next hK_1 <| Wc.seq fun _ hK_4 => Wc.seq fun _ hK_5 => ?_
  have hb1 : Below B w w1 := by rw [hw1]; exact (Below.refl B w).setCell (p := ⟨b, 0, none⟩) hB _
  have hbk1 : w1.heap[b]? = some (.cells #[.pointer (some ⟨b, 0, none⟩), .slice none 0 0] 98 (0, 0)) := by rw [hw1]; simp [World.setCell, Array.getElem?_modify, hbk]
  have c1 : w1.cell? ⟨b, 1, none⟩ = some (.slice none 0 0) := by rw [Lib.cell_of_heap hbk1]; rfl
  have hsz1 := hb1.size
  have hltb : b < w1.heap.size := block_lt c1
  refine Wc.region <| Wl.mv rfl rfl <| Wl.y (y_lssi rfl rfl) rfl <| Wl.nil <| Wq.next hK_5 ?_
  refine Wc.cond rfl (fun c0_8 => ?_) (fun c0_8 => ?_)
  ·
   have c0_8_ := c0_8
   try simp only [DZ] at c0_8
   omega
  have c0_8_ := c0_8
  try simp only [DZ] at c0_8
  refine Wc.skip <| Wq.next hK_4 <| Wc.seq fun _ hK_9 => ?_
  refine Wc.quiet (by kernel_rfl) (by kernel_rfl) ?_
  refine Wy.y (y_move rfl) rfl <| Wy.y (y_nilCheck rfl) rfl ?_
  refine Wy.y (y_fieldAddr (fa98_1Join _) rfl) rfl ?_
  refine Wy.l (fun wq hq => l_load one50Join rfl (cell_below hq c1)) rfl ?_
  refine Wy.y (y_capl Tryz.underlying50 (by omega) rfl) rfl ?_
  refine Wy.y (y_move rfl) rfl <| Wy.y (y_nilCheck rfl) rfl ?_
  refine Wy.y (y_fieldAddr (fa98_1Join _) rfl) rfl ?_
  refine Wy.l (fun wq hq => l_load one50Join rfl (cell_below hq c1)) rfl ?_
  refine Wy.y (y_lenl Tryz.underlying50 (by omega) rfl) rfl ?_
  refine Wy.y (y_subI rfl rfl (by first | omega | (simp; done) | (simp; omega)) (by first | omega | (simp; done) | (simp; omega))) rfl ?_
  refine Wy.y (y_move rfl) rfl <| Wy.y (y_lssi rfl rfl) rfl ?_
  refine Wy.nil fun w2 hs2 => ?_
  have hbk2 : w2.heap[b]? = some (.cells #[.pointer (some ⟨b, 0, none⟩), .slice none 0 0] 98 (0, 0)) := by rw [hs2.block b hltb]; exact hbk1
  have hb2 : Below B w w2 := hb1.trans (hs2.mono (by omega))
  refine Wq.next hK_9 ?_
  refine Wc.cond rfl (fun c1_23 => ?_) (fun c1_23 => ?_)
  ·
   have c1_23_ := c1_23
   try simp only [DZ] at c1_23
   refine Wc.region <| Wl.mv rfl rfl <| Wl.mv rfl rfl ?_
   refine Wl.call txt87Join rfl rfl (grow_f B b n w2 hB hbk2 (Nat.le_trans hBw hb2.size) (by omega)) rfl ?_
   rintro _ w3 ⟨rfl, hg3, hb3⟩
   refine Wl.nil ?_
   refine end0 rfl ?_
   exact ⟨_, rfl, rfl, .inr hg3, hb2.trans hb3⟩
  have c1_23_ := c1_23
  try simp only [DZ] at c1_23
  refine Wc.skip ?_
  refine end0 rfl ?_
  exact ⟨_, rfl, rfl, .inr ⟨hB, _, hbk2, World.ownsRow_nil _ _ _ _, by simp [Value.ownBlock]⟩, hb2⟩
theorem take_snoc {α : Type} {l : List α} {i : Nat} (d : α) (h : i < l.length) : l.take (i + 1) = l.take i ++ [l.getD i d] := by
  rw [List.take_add_one, List.getElem?_eq_getElem h]; simp [List.getD, List.getElem?_eq_getElem h]
end Go.Proofs.YtjnabgddjogkbaaGreatDoor
namespace Go.Proofs.YtjnabgddjogkbaaGreatDoor
open Go.RowKit Go.Bw Go.Bw.Fl Go.Shelf
set_option linter.unusedVariables false
set_option linter.unusedSimpArgs false
/-! ### rows of tokens -/
theorem flat_at : ∀ (l : List Tok) (i j : Nat) (hi : i < l.length), j < 3 → (l.flatMap Tok.cells)[i * 3 + j]? = (l[i]).cells[j]?
  | [], i, j, h, _ => by simp at h
  | t :: r, 0, j, _, hj => by
    rw [List.flatMap_cons, Nat.zero_mul, Nat.zero_add, List.getElem?_append_left (by show j < 3; exact hj)]; rfl
  | t :: r, i + 1, j, h, hj => by
    have h' : i < r.length := by simpa using h
    rw [List.flatMap_cons, List.getElem?_append_right (by show 3 ≤ _; omega), show (i + 1) * 3 + j - (Tok.cells t).length = i * 3 + j by show (i + 1) * 3 + j - 3 = _; omega, flat_at r i j h' hj]; rfl
theorem flat_length (l : List Tok) : (l.flatMap Tok.cells).length = l.length * 3 := by
  induction l with
  | nil => rfl
  | cons t r ih => rw [List.flatMap_cons, List.length_append, ih, List.length_cons]; show 3 + _ = _; omega
theorem Rd.tok {w : World} {A : Option Addr} {l : List Tok} (h : Rd w 3 A l.length (l.flatMap Tok.cells)) {i : Nat} (hi : i < l.length) : ∃ p, A = some p ∧ ∀ (j : Nat) (u : Value), (l[i]).cells[j]? = some u → w.cell? ((p.add (i * 3)).add j) = some u := by
  obtain ⟨p, e, hc⟩ := h.2 (by rw [flat_length]; omega)
  refine ⟨p, e, fun j u hu => ?_⟩
  have hj : j < 3 := (List.getElem?_eq_some_iff.1 hu).1
  rw [addr_add_add]
  exact hc _ u (by rw [flat_at l i j hi hj]; exact hu)
/-! ### two texts -/
/-! ### Lex at a text whose tokens are known -/
end Go.Proofs.YtjnabgddjogkbaaGreatDoor
