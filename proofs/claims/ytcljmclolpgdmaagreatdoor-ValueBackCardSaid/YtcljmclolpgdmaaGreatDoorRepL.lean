/- Laws for strings.Replacer: slices against nil, copy, a row made with room, a call through an interface; what the table of replacements holds. -/
import Derived.Test.YtcljmclolpgdmaaGreatDoorStrI
import Derived.Test.YtcljmclolpgdmaaGreatDoorByt
import Derived.Lib.SliceRun
import Derived.Laws.CopyRow
import Derived.Laws.MakeOwn
namespace Go.Bw
open Go.RowKit
set_option linter.unusedVariables false
set_option linter.unusedSimpArgs false
section
variable {P : Program} {N : Nat} {D : List Deferred} {env env' : Env} {a : Act} {w w' : World} {Q : Exit → Act → World → Prop}
variable {ops : Array Oper} {rest : List Oper} {d : Nat} {op : Op} {ty : TypeId} {pos : String} {af : Array Edge}
theorem y_slnil {x : Operand} {t e u : TypeId} {A : Option Addr} {n c : Nat} (ht : P.underlying t = some (.slice e)) (hx : ev env x = some (.slice A n c)) : Yl P N D env (.binOp .eql t x (.const (.slice none 0 0)) u) ty (.bool A.isNone) := fun a ha w dst pos af g => by
  have he : a.eval (.const (.slice none 0 0)) = .slice none 0 0 := rfl
  simp [execOp, ha.eval hx, eqGuard_at_slice, he, Lib.run_eql_slice_nil w t e A n c 0 0 ht]
theorem y_slnn {x : Operand} {t e u : TypeId} {A : Option Addr} {n c : Nat} (ht : P.underlying t = some (.slice e)) (hx : ev env x = some (.slice A n c)) : Yl P N D env (.binOp .neq t x (.const (.slice none 0 0)) u) ty (.bool (!A.isNone)) := fun a ha w dst pos af g => by
  have he : a.eval (.const (.slice none 0 0)) = .slice none 0 0 := rfl
  have hd : ∀ d : Nat, (Op.equalIn (d + 1) t (.slice A n c) (.slice none 0 0)).run P w = .ok A.isNone w := fun d => by cases A <;> simp [Op.equalIn, run_underlying ht]
  have h1 : (binOp .neq t (.slice A n c) (.slice none 0 0)).run P w = .ok (.bool (!A.isNone)) w := by
    simp only [binOp]; simp [Op.equal, Op.maxDepth, hd 9999]
  simp [execOp, ha.eval hx, eqGuard_at_slice, he, h1]
theorem y_indexAddrA {x i : Operand} {t e : TypeId} {len sz : Nat} {p : Addr} {k : IntKind} {m : Int} (ht : P.underlying t = some (.array len e)) (hs : (P.info? e).map (·.size) = some sz) (hx : ev env x = some (.pointer (some p))) (hi : ev env i = some (.int k m)) (h0 : 0 ≤ m) (h1 : m < len) :
    Yl P N D env (.indexAddr t x i) ty (.pointer (some (p.add (m.toNat * sz)))) := fun a ha w dst pos af g => by
  have h5 : ∀ w, (sizeOf e).run P w = .ok sz w := fun w => Go.Bw.run_sizeOf hs w
  simp [execOp, Instr.indexAt, ha.eval hx, ha.eval hi, asIntOf, run_underlying ht, h0, h1, h5, Instr.sureAddr]
theorem Wl.make0 {x y : Operand} {t e : TypeId} {z : Value} {sz bytes : Nat} (ht : P.underlying t = some (.slice e)) (hi : (P.info? e).map (fun i => (i.zero, i.size, i.bytes)) = some (some z, sz, bytes))
    (base : Nat) {c : Nat} {kl kc : IntKind} (hx : ev env x = some (.int kl 0)) (hy : ev env y = some (.int kc c)) (hb : bytes * c ≤ 281474976710656) (h63 : c ≤ maxLen) (hbase : base ≤ w.heap.size) (hd : Nat.blt d N = true)
    (h : ∀ w', w'.ownsRow base e sz (.slice (some ⟨w.heap.size, 0, none⟩) 0 c) 0 [] → w.grownBy w' none → Wl P ops Q rest N D ((d, .slice (some ⟨w.heap.size, 0, none⟩) 0 c) :: env) w') :
    Wl P ops Q (⟨some d, .makeSlice t x y, ty, pos, af, none⟩ :: rest) N D env w := by
  obtain ⟨i, hi0, hi1⟩ := Option.map_eq_some_iff.1 hi
  simp only [Prod.mk.injEq] at hi1
  obtain ⟨hz0, hs0, hb0⟩ := hi1
  obtain ⟨w', hrun, hown, hg⟩ := run_make_own (P := P) w base t e i z sz ht hi0 hz0 hs0 kl kc c (by rw [hb0]; exact hb) h63 hbase
  refine Wl.m (w' := w') (fun a ha dst pos af g => ?_) hd (h w' hown hg)
  simp [execOp, ha.eval hx, ha.eval hy, hrun]
/-- copy into a row of one's own, from a row that holds no more than there is room for -/
theorem Wl.copyOwn {x y : Operand} {t s e f : TypeId} {base n c g o m sc dn dc : Nat} {A : Addr} {xs cs : List Value} (ht : P.underlying t = some (.slice e)) (hs : (P.info? e).map (·.size) = some 1) (hx : ev env x = some (.slice (some ((⟨g, 0, none⟩ : Addr).add o)) dn dc)) (hy : ev env y = some (.slice (some A) m sc))
    (hown : w.ownsRow base f 1 (.slice (some ⟨g, 0, none⟩) n c) n xs) (hr : Rd w 1 (some A) m cs) (h1 : ∀ v ∈ cs, v.oneCell' = true) (hfit : o + m ≤ n) (hdn : m ≤ dn) (hd : Nat.blt d N = true)
    (h : ∀ w', w'.ownsRow base f 1 (.slice (some ⟨g, 0, none⟩) n c) n (xs.take o ++ cs ++ xs.drop (o + m)) → w.grownBy w' (some g) → Wl P ops Q rest N D ((d, .int .i64 m) :: env) w') :
    Wl P ops Q (⟨some d, .call ⟨.builtin .copy, #[x, y], #[t, s]⟩, ty, pos, af, none⟩ :: rest) N D env w := by
  have hcl : cs.length = m := by rw [hr.1, Nat.mul_one]
  rcases hown.2 with ⟨hv, _⟩ | ⟨g', cap, cur, hv, hg, hh, hnc, hcm, hcs, hxs⟩
  · cases hv
  injection hv with hA h2 h3
  injection hA with hA
  injection hA with hA
  subst hA h3
  rw [Nat.mul_one] at hcs hxs
  have hsrc : ∀ j v, cs[j]? = some v → w.cell? (A.add j) = some v := fun j v hj => by
    obtain ⟨p, e1, hc⟩ := hr.2 (by
      rcases Nat.eq_zero_or_pos cs.length with h0 | h0
      · rw [List.eq_nil_of_length_eq_zero h0] at hj; simp at hj
      · exact h0)
    cases e1; exact hc j v hj
  have hrun := run_copy_row (P := P) w t s ty e g o dn dc A m sc cur f cs ht hs hh (by rw [hcl]; exact (Nat.min_eq_left hdn).symm) hsrc (by omega) h1
  refine Wl.m (v := .int .i64 m) (w' := w.setRow g (cur.toList.take o ++ cs ++ cur.toList.drop (o + cs.length)).toArray) (fun a ha dst pos af g' => ?_) hd (h _ ⟨?_, .inr ⟨g, c, _, rfl, hg, setRow_heap w g _ _ f _ hh, hnc, hcm, ?_, ?_⟩⟩ ⟨rfl, rfl, rfl, by simp, fun k _ hne => setRow_other w g k _ (fun e => hne (by rw [e]))⟩)
  · rw [hcl] at hrun
    rw [add_zero_off] at hx
    simp [execOp, resolve, invoke, builtin, ha.eval hx, ha.eval hy, hrun, goInt, hcl]
  · have : xs.length = n := by rw [hown.1, Nat.mul_one]
    simp [hcl]; omega
  · have : cur.toList.length = c := by simpa using hcs
    simp [hcl]; omega
  · have h4 : cur.toList.length = c := by simpa using hcs
    rw [Nat.mul_one, ← hxs]
    have hlen : (cur.toList.take o).length = o := by simp; omega
    rw [List.take_append, List.take_append]
    simp only [List.length_append, hlen, hcl, List.take_take, List.drop_take, List.take_append, List.drop_append]
    have e1 : min n o = o := by omega
    have e2 : min o n = o := by omega
    have e3 : cs.take (n - o) = cs := List.take_of_length_le (by omega)
    simp [e1, e2, e3]
    try (congr 1; omega)
theorem Wl.invoke {x : Operand} {nm : String} {f : FuncId} {t : TypeId} {xs : Array Operand} {ts : Array TypeId} {r : Value} {vs : List Value} {R : Value → World → Prop} (hf : Txt P f) (hm : ∀ w, (Go.method (P.types.size + Made.depth) t r nm).run P w = .ok (f, r) w) (hx : ev env x = some (.iface t r)) (hxs : evs env xs.toList = some vs)
    (hc : Ret P f (r :: vs) w R) (hd : Nat.blt d N = true) (h : ∀ v w', R v w' → Wl P ops Q rest N D ((d, v) :: env) w') :
    Wl P ops Q (⟨some d, .call ⟨.invoke x nm, xs, ts⟩, ty, pos, af, none⟩ :: rest) N D env w := fun a ha => by
  unfold wpList
  simp only [Region.wanted, if_true]
  refine .inl ?_
  have hargs : xs.map a.eval = vs.toArray := evs_arr ha hxs
  unfold Oper.wp
  have h2 : (Go.invoke (.fn (.method nm) #[]) (#[Value.iface t r] ++ vs.toArray)).run P w = .ok (.enter f (r :: vs).toArray) w := by
    have e1 : (#[Value.iface t r] ++ vs.toArray) = (Value.iface t r :: vs).toArray := by simp
    have e2 : ((Value.iface t r :: vs).toArray).extract 1 ((Value.iface t r :: vs).toArray).size = vs.toArray := by simp
    have e3 : (#[r] ++ vs.toArray) = (r :: vs).toArray := by simp
    rw [e1]
    simp only [Go.invoke]
    have e4 : ((Value.iface t r :: vs).toArray)[0]? = some (Value.iface t r) := by simp
    simp only [e4, callMethod, e2]
    simp [run_program, hm, e3, run_callFunc hf]
  simp only [execOp, resolve, ha.eval hx, hargs, Sem.run_bind, Sem.run_pure, Result.andThen_ok, h2, Oper.upon_enter]
  refine Calls.mono hc fun e w' hR => ?_
  obtain ⟨v, rfl, hv⟩ := hR
  exact h v w' hv _ (ha.put hd v)
theorem Ret.of_calls {f : FuncId} {args : List Value} {v : Value} {R : World → Prop} (h : Calls P f args.toArray w fun e w' => e = .returned v ∧ R w') : Ret P f args w fun u w' => u = v ∧ R w' := Calls.mono h fun _ _ ⟨e, hr⟩ => ⟨v, e, rfl, hr⟩
theorem Ret.toCalls {f : FuncId} {args : List Value} {v : Value} {R : World → Prop} (h : Ret P f args w fun u w' => u = v ∧ R w') : Calls P f args.toArray w fun e w' => e = .returned v ∧ R w' := Calls.mono h fun _ _ ⟨u, e, h1, hr⟩ => ⟨by rw [e, h1], hr⟩
theorem Blk.setAt {g j : Nat} {t : TypeId} {cs : List Value} {v : Value} (h : Blk w g t cs) : Blk (w.setCell ⟨g, j, none⟩ v) g t (cs.set j v) ∧ w.grownBy (w.setCell ⟨g, j, none⟩ v) (some g) := by
  have e1 : w.setCell ⟨g, j, none⟩ v = w.setRow g (cs.set j v).toArray := by
    rw [setCell_eq_setRow w g j cs.toArray t (0, 0) v h]; simp
  exact ⟨e1 ▸ h.setRow, ⟨rfl, rfl, rfl, by simp [World.setCell], fun k _ hne => Below.heap_setCell w _ _ k (fun e => hne (by rw [e]))⟩⟩
theorem Rd.grown {sz : Nat} {A : Addr} {n : Nat} {xs : List Value} {row : Option Nat} (h : Rd w sz (some A) n xs) (hg : w.grownBy w' row) (hne : row ≠ some A.block) : Rd w' sz (some A) n xs := ⟨h.1, fun h0 => by
  obtain ⟨p, e, hc⟩ := h.2 h0
  cases e
  exact ⟨A, rfl, fun j u hu => by
    have h1 := hc j u hu
    have hb : (A.add j).block = A.block := by unfold Addr.add; split <;> rfl
    have hlt := block_lt h1
    rw [World.cell?_of_block (w := w) (hg.block _ hlt (by rw [hb]; exact fun e => hne e.symm))]; exact h1⟩⟩
theorem at2 {p : Addr} {k : Nat} {m : Int} {v : Value} (hm : m = (k : Int)) (h : w.cell? (p.add k) = some v) : w.cell? (p.add (m.toNat * 1)) = some v := by subst hm; exact at1 h
theorem ptr_at (p : Addr) (k : Nat) : Value.pointer (some ((p.add 0).add ((k : Int).toNat * 1))) = .pointer (some (p.add k)) := by rw [addr_add_add]; simp
end
theorem put_last (n : Nat) (x v : Value) : put1 (List.replicate (n + 1) x) n [v] = List.replicate n x ++ [v] := by simp [put1]
/-! ### what the table holds -/
def sixL : List Value := [str [92], str [92, 92], str [39], str [92, 39], str [10], str [92, 110]]
def oldB (j : Nat) : UInt8 := if j = 0 then 92 else if j = 1 then 39 else 10
def newB (j : Nat) : UInt8 := if j = 0 then 92 else if j = 1 then 39 else 110
theorem six_old {j : Nat} (h : j < 3) : sixL[2 * j]? = some (str [oldB j]) := by
  have : j = 0 ∨ j = 1 ∨ j = 2 := by omega
  rcases this with rfl | rfl | rfl <;> rfl
theorem six_new {j : Nat} (h : j < 3) : sixL[2 * j + 1]? = some (str [92, newB j]) := by
  have : j = 0 ∨ j = 1 ∨ j = 2 := by omega
  rcases this with rfl | rfl | rfl <;> rfl
theorem old_ne {i j : Nat} (hi : i < 3) (hj : j < 3) (h : i ≠ j) : (oldB i).toNat ≠ (oldB j).toNat := by
  have h1 : i = 0 ∨ i = 1 ∨ i = 2 := by omega
  have h2 : j = 0 ∨ j = 1 ∨ j = 2 := by omega
  rcases h1 with rfl | rfl | rfl <;> rcases h2 with rfl | rfl | rfl <;> first | exact absurd rfl h | decide
def Six (w : World) (A : Addr) : Prop := ∀ j u, sixL[j]? = some u → w.cell? (A.add j) = some u
theorem Six.below {w w' : World} {A : Addr} (h : Six w A) (hb : Below w.heap.size w w') : Six w' A := fun j u hu => cell_below hb (h j u hu)
/-- the table as it is filled: m of the three stand in it -/
structure Rpl (lo : Nat) (w : World) (gg : Nat) (tr : Option Nat) (cs : List Value) (m : Nat) : Prop where
  len : cs.length = 257
  old : ∀ k, k < 256 → (∀ j, j < m → k ≠ (oldB (2 - j)).toNat) → cs[k]? = some (.slice none 0 0)
  new : ∀ j, j < m → ∃ a c, cs[(oldB (2 - j)).toNat]? = some (.slice (some ⟨a, 0, none⟩) 2 c) ∧ Rd w 1 (some ⟨a, 0, none⟩) 2 (u8s [92, newB (2 - j)]) ∧ lo ≤ a ∧ a ≠ gg ∧ tr ≠ some a ∧ a < w.heap.size
theorem Rpl.below {lo : Nat} {w w' : World} {gg : Nat} {tr : Option Nat} {cs : List Value} {m : Nat} (h : Rpl lo w gg tr cs m) (hb : Below w.heap.size w w') : Rpl lo w' gg tr cs m := ⟨h.len, h.old, fun j hj => by
  obtain ⟨a, c, h1, h2, h3, h4, h5, h6⟩ := h.new j hj
  exact ⟨a, c, h1, h2.below hb, h3, h4, h5, Nat.lt_of_lt_of_le h6 hb.size⟩⟩
theorem Rpl.grow {lo : Nat} {w w' : World} {gg : Nat} {tr tr' : Option Nat} {cs : List Value} {m : Nat} (h : Rpl lo w gg tr cs m) (hg : w.grownBy w' tr) (ha : tr' = tr ∨ tr' = some w.heap.size) : Rpl lo w' gg tr' cs m := ⟨h.len, h.old, fun j hj => by
  obtain ⟨a, c, h1, h2, h3, h4, h5, h6⟩ := h.new j hj
  refine ⟨a, c, h1, h2.grown hg h5, h3, h4, ?_, Nat.lt_of_lt_of_le h6 hg.size⟩
  rcases ha with e | e
  · rw [e]; exact h5
  · rw [e]; intro e'; cases e'; exact absurd h6 (Nat.lt_irrefl _)⟩
theorem old_lt (j : Nat) : (oldB j).toNat < 256 := (oldB j).toNat_lt
theorem Rpl.put {lo : Nat} {w w' : World} {gg : Nat} {tr : Option Nat} {cs : List Value} {m : Nat} (h : Rpl lo w gg tr cs m) (hg : w.grownBy w' (some gg)) (x : Value) : Rpl lo w' gg tr (cs.set 256 x) m := ⟨by rw [List.length_set]; exact h.len, fun k hk hn => by
  rw [List.getElem?_set_ne (by omega)]; exact h.old k hk hn, fun j hj => by
  obtain ⟨a, c, h1, h2, h3, h4, h5, h6⟩ := h.new j hj
  refine ⟨a, c, ?_, h2.grown hg (fun e => h4 (by cases e; rfl)), h3, h4, h5, Nat.lt_of_lt_of_le h6 hg.size⟩
  rw [List.getElem?_set_ne (by have := old_lt (2 - j); omega)]; exact h1⟩
theorem Rpl.add {lo : Nat} {w w' : World} {gg : Nat} {tr : Option Nat} {cs : List Value} {m a c : Nat} (h : Rpl lo w gg tr cs m) (hg : w.grownBy w' (some gg)) (hm : m < 3) (hr : Rd w 1 (some ⟨a, 0, none⟩) 2 (u8s [92, newB (2 - m)])) (h3 : lo ≤ a) (h4 : a ≠ gg) (h5 : tr ≠ some a) (h6 : a < w.heap.size) :
    Rpl lo w' gg tr (cs.set (oldB (2 - m)).toNat (.slice (some ⟨a, 0, none⟩) 2 c)) (m + 1) := ⟨by rw [List.length_set]; exact h.len, fun k hk hn => by
  rw [List.getElem?_set_ne (fun e => hn m (by omega) e.symm)]; exact h.old k hk (fun j hj => hn j (by omega)), fun j hj => by
  rcases Nat.lt_or_ge j m with hlt | hge
  · obtain ⟨a', c', g1, g2, g3, g4, g5, g6⟩ := h.new j hlt
    refine ⟨a', c', ?_, g2.grown hg (fun e => g4 (by cases e; rfl)), g3, g4, g5, Nat.lt_of_lt_of_le g6 hg.size⟩
    rw [List.getElem?_set_ne (old_ne (by omega) (by omega) (by omega))]; exact g1
  · have : j = m := by omega
    subst this
    refine ⟨a, c, ?_, hr.grown hg (fun e => h4 (by cases e; rfl)), h3, h4, h5, Nat.lt_of_lt_of_le h6 hg.size⟩
    rw [List.getElem?_set_self (by rw [h.len]; have := old_lt (2 - j); omega)]⟩
theorem emp_len (x : Value) : (List.replicate 256 (Value.slice none 0 0) ++ [x]).length = 257 := by rw [List.length_append, List.length_replicate]; rfl
theorem emp_last (x : Value) : (List.replicate 256 (Value.slice none 0 0) ++ [x])[256]? = some x := by
  rw [List.getElem?_append_right (by rw [List.length_replicate]; exact Nat.le_refl _), List.length_replicate]; rfl
theorem emp_at (x : Value) {k : Nat} (hk : k < 256) : (List.replicate 256 (Value.slice none 0 0) ++ [x])[k]? = some (.slice none 0 0) := by
  rw [List.getElem?_append_left (by rw [List.length_replicate]; exact hk), List.getElem?_replicate, if_pos hk]
def doneL (m : Nat) : List Value := (List.range m).map fun j => str [oldB (2 - j)]
theorem doneL_succ (m : Nat) : doneL (m + 1) = doneL m ++ [str [oldB (2 - m)]] := by simp [doneL, List.range_succ]
/-- the bytes that are written otherwise -/
def spB (c : UInt8) : Bool := c == 92 || c == 39 || c == 10
/-- the whole table -/
structure Rpd (t lo : Nat) (w : World) (gg : Nat) : Prop where
  ge : lo ≤ gg
  tab : ∃ cs A c, Blk w gg t cs ∧ cs.length = 257 ∧ cs[256]? = some (.slice (some A) 3 c) ∧ lo ≤ A.block ∧ Rd w 1 (some A) 3 [str [10], str [39], str [92]] ∧
    (∀ b : UInt8, spB b = false → cs[b.toNat]? = some (.slice none 0 0)) ∧
    ∀ b : UInt8, spB b = true → ∃ a k, cs[b.toNat]? = some (.slice (some ⟨a, 0, none⟩) 2 k) ∧ lo ≤ a ∧ Rd w 1 (some ⟨a, 0, none⟩) 2 (u8s [92, if b = 10 then 110 else b])
theorem Rpd.below {t lo : Nat} {w w' : World} {gg : Nat} (h : Rpd t lo w gg) (hb : Below w.heap.size w w') : Rpd t lo w' gg := ⟨h.ge, by
  obtain ⟨cs, A, c, h1, h2, h3, h4, h5, h6, h7⟩ := h.tab
  exact ⟨cs, A, c, h1.below hb, h2, h3, h4, h5.below hb, h6, fun b hb' => by
    obtain ⟨a, k, g1, g2, g3⟩ := h7 b hb'
    exact ⟨a, k, g1, g2, g3.below hb⟩⟩⟩
theorem Rpd.grown {t lo : Nat} {w w' : World} {gg g : Nat} (h : Rpd t lo w gg) (hg : w.grownBy w' (some g)) (hlt : g < lo) : Rpd t lo w' gg := ⟨h.ge, by
  obtain ⟨cs, A, c, h1, h2, h3, h4, h5, h6, h7⟩ := h.tab
  have hge := h.ge
  exact ⟨cs, A, c, h1.over hg (by omega), h2, h3, h4, h5.grown hg (fun e => by cases e; omega), h6, fun b hb' => by
    obtain ⟨a, k, g1, g2, g3⟩ := h7 b hb'
    exact ⟨a, k, g1, g2, g3.grown hg (fun e => by injection e with e; simp only at e; omega)⟩⟩⟩
theorem Rpl.done {lo t : Nat} {w : World} {gg : Nat} {A : Addr} {c : Nat} {cs : List Value} (h : Rpl lo w gg (some A.block) cs 3) (hB : Blk w gg t cs) (hge : lo ≤ gg) (hA : lo ≤ A.block) (ht : cs[256]? = some (.slice (some A) 3 c)) (hr : Rd w 1 (some A) 3 (doneL 3)) : Rpd t lo w gg := ⟨hge, cs, A, c, hB, h.len, ht, hA, hr, fun b hb => by
  refine h.old b.toNat b.toNat_lt fun j hj e => ?_
  have e' : b = oldB (2 - j) := UInt8.toNat_inj.1 e
  have : j = 0 ∨ j = 1 ∨ j = 2 := by omega
  rcases this with rfl | rfl | rfl <;> (rw [e'] at hb; exact absurd hb (by decide)), fun b hb => by
  have hb' : b = 92 ∨ b = 39 ∨ b = 10 := by simpa [spB, or_assoc] using hb
  rcases hb' with rfl | rfl | rfl
  · obtain ⟨a, k, g1, g2, g3, _⟩ := h.new 2 (by omega); exact ⟨a, k, g1, g3, g2⟩
  · obtain ⟨a, k, g1, g2, g3, _⟩ := h.new 1 (by omega); exact ⟨a, k, g1, g3, g2⟩
  · obtain ⟨a, k, g1, g2, g3, _⟩ := h.new 0 (by omega); exact ⟨a, k, g1, g3, g2⟩⟩
end Go.Bw
