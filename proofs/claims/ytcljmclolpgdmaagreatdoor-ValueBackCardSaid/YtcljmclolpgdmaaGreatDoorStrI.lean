/- A range over a text whose bytes are all below 128. -/
import Derived.Test.YtcljmclolpgdmaaGreatDoorMaps
import Derived.Lib.OthersKept
namespace Go.Bw
open Go.RowKit
set_option linter.unusedVariables false
set_option linter.unusedSimpArgs false
section
variable {P : Program} {N : Nat} {D : List Deferred} {env env' : Env} {a : Act} {w w' : World} {Q : Exit → Act → World → Prop}
variable {ops : Array Oper} {rest : List Oper} {d : Nat} {op : Op} {ty : TypeId} {pos : String} {af : Array Edge}
/-- block b: how far a range over l has come -/
def Its (w : World) (b : Nat) (l : List UInt8) (i : Nat) : Prop := w.heap[b]? = some (.stringIter ⟨l.toArray⟩ i)
theorem Its.lt {b i : Nat} {l : List UInt8} (h : Its w b l i) : b < w.heap.size := by
  rcases Nat.lt_or_ge b w.heap.size with h1 | h1
  · exact h1
  · unfold Its at h; simp [Array.getElem?_eq_none h1] at h
theorem Its.below {b i : Nat} {l : List UInt8} (h : Its w b l i) (hb : Below w.heap.size w w') : Its w' b l i := by
  unfold Its; rw [hb.block b h.lt]; exact h
theorem Its.grown {b i : Nat} {l : List UInt8} {r : Option Nat} (h : Its w b l i) (hg : w.grownBy w' r) (hn : some b ≠ r) : Its w' b l i := (hg.block b h.lt hn).trans h
theorem Its.over {b i g' : Nat} {l : List UInt8} (h : Its w b l i) (hg : w.grownBy w' (some g')) (hn : b ≠ g') : Its w' b l i := h.grown hg (fun e => hn (Option.some.inj e))
theorem Wl.ranges {x : Operand} {t : TypeId} {l : List UInt8} (ht : P.underlying t = some .string) (hx : ev env x = some (str l)) (hd : Nat.blt d N = true)
    (h : ∀ b w', w.heap.size ≤ b → Its w' b l 0 → Below w.heap.size w w' → Wl P ops Q rest N D ((d, .pointer (some ⟨b, 0, none⟩)) :: env) w') :
    Wl P ops Q (⟨some d, .range t x, ty, pos, af, none⟩ :: rest) N D env w :=
  Wl.m (v := .pointer (some ⟨w.heap.size, 0, none⟩)) (w' := w.iter ⟨l.toArray⟩ 0) (fun a ha dst pos af g => by
    have h1 := run_range_string (P := P) w t ⟨l.toArray⟩ ht
    have h2 : (Instr.range t (str l)).run P w = _ := h1
    simp [execOp, ha.eval hx, h2]) hd (h _ _ (Nat.le_refl _) (World.iter_heap w _ 0) ((Below.refl _ _).alloc (Nat.le_refl _) _))
theorem Wl.nexts {x : Operand} {l : List UInt8} {b i : Nat} (hx : ev env x = some (.pointer (some ⟨b, 0, none⟩))) (hi : Its w b l i) (ha : ∀ c, c ∈ l → c.toNat < 128) (hd : Nat.blt d N = true)
    (h0 : ¬ i < l.length → Wl P ops Q rest N D ((d, .tuple #[.bool false]) :: env) w)
    (h1 : i < l.length → ∀ w', Its w' b l (i + 1) → w.grownBy w' (some b) → Wl P ops Q rest N D ((d, .tuple #[.bool true, .int .i64 (i : Int), .int .i32 ((l.getD i 0).toNat : Int)]) :: env) w') :
    Wl P ops Q (⟨some d, .next x true, ty, pos, af, none⟩ :: rest) N D env w := by
  have hsz : (⟨l.toArray⟩ : ByteArray).size = l.length := size_str l
  by_cases hlt : i < l.length
  · have hs : i < (⟨l.toArray⟩ : ByteArray).size := by rw [hsz]; exact hlt
    have he : (⟨l.toArray⟩ : ByteArray)[i]'hs = l.getD i 0 := by
      have : (⟨l.toArray⟩ : ByteArray)[i]'hs = l[i] := by show l.toArray[i] = _; simp
      rw [this]; simp [List.getD, List.getElem?_eq_getElem hlt]
    have hc : l.getD i 0 ∈ l := by simp [List.getD, List.getElem?_eq_getElem hlt]
    have hr := Go.Lib.run_next_ascii_at (P := P) w b ⟨l.toArray⟩ i ty hi hs (by rw [he]; exact ha _ hc)
    rw [he] at hr
    exact Wl.m (fun a ha dst pos af g' => by simp [execOp, ha.eval hx, hr]) hd (h1 hlt _ (Go.Lib.iterAt_heap w b _ i (i + 1) hi) ⟨rfl, rfl, rfl, by rw [Go.Lib.iterAt_size]; exact Nat.le_refl _, fun k _ hk => Go.Lib.iterAt_other w b k _ _ (fun e => hk (by rw [e]))⟩)
  · have hr := Go.Lib.run_next_end_at (P := P) w b ⟨l.toArray⟩ i ty hi (by rw [hsz]; exact hlt)
    exact Wl.m (fun a ha dst pos af g' => by simp [execOp, ha.eval hx, hr]) hd (h0 hlt)
end
theorem Wl.storeB {P : Program} {N : Nat} {D : List Deferred} {env : Env} {w : World} {Q : Exit → Act → World → Prop} {ops : Array Oper} {rest : List Oper} {ty : TypeId} {pos : String} {af : Array Edge} {x y : Operand} {t e : TypeId} {g j : Nat} {cs : List Value} {v : Value} (ht : One P t) (hx : ev env x = some (.pointer (some ((⟨g, 0, none⟩ : Addr).add j)))) (hy : ev env y = some v) (h1 : v.oneCell' = true) (hb : Blk w g e cs) (hj : j < cs.length)
    (h : ∀ w', Blk w' g e (cs.set j v) → w.grownBy w' (some g) → Wl P ops Q rest N D env w') : Wl P ops Q (⟨none, .store t x y, ty, pos, af, none⟩ :: rest) N D env w := by
  have hc : w.cell? ((⟨g, 0, none⟩ : Addr).add j) = some cs[j] := hb.at (List.getElem?_eq_getElem hj)
  have hf : w.frozen? ((⟨g, 0, none⟩ : Addr).add j) = false := by rw [add_zero_off]; exact hb.frozen j
  have e1 : w.setCell ((⟨g, 0, none⟩ : Addr).add j) v = w.setRow g (cs.set j v).toArray := by
    rw [add_zero_off, setCell_eq_setRow w g j cs.toArray e (0, 0) v hb]; simp
  refine Wl.s (s_store ht hx hy h1 hc hf) (h _ (e1 ▸ hb.setRow) ?_)
  exact ⟨rfl, rfl, rfl, by simp [World.setCell], fun k _ hne => Below.heap_setCell w _ _ k (fun e => hne (by rw [e, add_zero_off]))⟩
end Go.Bw
