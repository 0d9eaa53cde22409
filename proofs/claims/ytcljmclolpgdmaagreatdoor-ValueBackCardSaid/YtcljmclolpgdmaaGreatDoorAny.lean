/- Worlds by name behind what makes memory; regions that draw, order by order. -/
import Derived.Test.YtcljmclolpgdmaaGreatDoorStruct
import Derived.OrdersHeld
namespace Go.Bw
open Go.RowKit
set_option linter.unusedVariables false
set_option linter.unusedSimpArgs false

section
variable {P : Program} {N : Nat} {D : List Deferred} {env env' : Env} {a : Act} {w w' : World} {Q : Exit → Act → World → Prop}
variable {ops : Array Oper} {rest : List Oper} {d : Nat} {op : Op} {ty : TypeId} {pos : String} {af : Array Edge}

theorem step_alloc (w : World) (o : Obj) : Below w.heap.size w (w.alloc o) := (Below.refl _ _).alloc (Nat.le_refl _) _
theorem step_setRow {B g : Nat} {w0 : World} (h : Below B w0 w) (hg : B ≤ g) (cs : Array Value) : Below B w0 (w.setRow g cs) := below_setRow h hg cs

/-- a step's worlds by name -/
theorem Wl.boxN {x : Operand} {t : TypeId} {v : Value} (hx : ev env x = some v) (hd : Nat.blt d N = true)
    (h : ∀ g w', w.heap.size ≤ g → Blk w' g t v.cells.toList → Below w.heap.size w w' → Wl P ops Q rest N D ((d, .pointer (some ⟨g, 0, none⟩)) :: env) w') : Wl P ops Q (⟨some d, .box t x, ty, pos, af, none⟩ :: rest) N D env w :=
  Wl.m (m_box hx) hd (h _ _ (Nat.le_refl _) (Blk.new w t v.cells.toList) (step_alloc _ _))
theorem Wl.allocN {e : TypeId} {z : Value} (hz : (P.info? e).bind (·.zero) = some z) (hd : Nat.blt d N = true)
    (h : ∀ g w', w.heap.size ≤ g → Blk w' g e z.cells.toList → Below w.heap.size w w' → Wl P ops Q rest N D ((d, .pointer (some ⟨g, 0, none⟩)) :: env) w') : Wl P ops Q (⟨some d, .alloc e, ty, pos, af, none⟩ :: rest) N D env w :=
  Wl.m (m_alloc hz) hd (h _ _ (Nat.le_refl _) (Blk.new w e z.cells.toList) (step_alloc _ _))
theorem Wl.litN {t e : TypeId} {ln sz : Nat} {parts : Array (Nat × Operand)} {ps : List (Nat × Value)} {vs : List Value} (ht : P.underlying t = some (.slice e)) (hi : (P.info? e).map (fun i => (i.zero.isSome, i.size)) = some (true, sz))
    (hp : evp env parts.toList = some ps) (hl : ps = litP 0 vs) (hv : (vs.all fun v => Nat.beq v.cells.size sz) = true) (hn : Nat.beq vs.length ln = true) (hb : Nat.ble (ln * sz) 16777216 = true) (hd : Nat.blt d N = true)
    (h : ∀ g w', w.heap.size ≤ g → Blk w' g e (vs.flatMap fun v => v.cells.toList) → Below w.heap.size w w' → Wl P ops Q rest N D ((d, .slice (some ⟨g, 0, none⟩) ln ln) :: env) w') :
    Wl P ops Q (⟨some d, .buildSlice t ln parts, ty, pos, af, none⟩ :: rest) N D env w :=
  Wl.m (m_lit ht hi hp hl hv hn hb) hd (h _ _ (Nat.le_refl _) (Blk.new w e _) (step_alloc _ _))
theorem Wl.lit0N {t e : TypeId} (ht : P.underlying t = some (.slice e)) (hs : ((P.info? e).map (·.size)).isSome = true) (hd : Nat.blt d N = true)
    (h : ∀ g w', w.heap.size ≤ g → Blk w' g e [] → Below w.heap.size w w' → Wl P ops Q rest N D ((d, .slice (some ⟨g, 0, none⟩) 0 0) :: env) w') :
    Wl P ops Q (⟨some d, .buildSlice t 0 #[], ty, pos, af, none⟩ :: rest) N D env w :=
  Wl.m (m_lit0 ht hs) hd (h _ _ (Nat.le_refl _) (Blk.new w e []) (step_alloc _ _))
theorem Blk.own {g : Nat} {e : TypeId} {cs : List Value} (h : Blk w g e cs) {base n sz : Nat} (hb : base ≤ g) (hl : cs.length = n * sz) (hm : n ≤ maxLen) : w.ownsRow base e sz (.slice (some ⟨g, 0, none⟩) n n) n cs :=
  ⟨hl, .inr ⟨g, n, cs.toArray, rfl, hb, h, Nat.le_refl _, hm, by simpa using hl, by simp [← hl]⟩⟩
theorem Blk.over {w w' : World} {g g' : Nat} {t : TypeId} {cs : List Value} (h : Blk w g t cs) (hg : w.grownBy w' (some g')) (hne : g ≠ g') : Blk w' g t cs := h.grown hg (fun e => hne (Option.some.inj e))
/-- a store into a block of one's own -/
theorem Wl.storeS {x y : Operand} {t e : TypeId} {g : Nat} {old cs : List Value} (hs : (P.info? t).map (·.size) = some cs.length) (hx : ev env x = some (.pointer (some ⟨g, 0, none⟩))) (hy : ev env y = some (.agg cs.toArray)) (hb : Blk w g e old) (ho : old.length = cs.length) (h1 : cs.all (·.oneCell') = true)
    (h : ∀ w', Blk w' g e cs → w.grownBy w' (some g) → Wl P ops Q rest N D env w') : Wl P ops Q (⟨none, .store t x y, ty, pos, af, none⟩ :: rest) N D env w :=
  Wl.s (s_storeS hs hx hy hb ho h1) (h _ hb.setRow ⟨rfl, rfl, rfl, by simp, fun k _ hne => setRow_other w g k _ (fun e => hne (by rw [e]))⟩)
theorem Wl.store1 {x y : Operand} {t e : TypeId} {g : Nat} {old v : Value} (ht : One P t) (hx : ev env x = some (.pointer (some ⟨g, 0, none⟩))) (hy : ev env y = some v) (h1 : v.oneCell' = true) (hb : Blk w g e [old])
    (h : ∀ w', Blk w' g e [v] → w.grownBy w' (some g) → Wl P ops Q rest N D env w') : Wl P ops Q (⟨none, .store t x y, ty, pos, af, none⟩ :: rest) N D env w := by
  have hc : w.cell? ⟨g, 0, none⟩ = some old := hb.cell 0
  have hf := hb.frozen 0
  have e1 : w.setCell ⟨g, 0, none⟩ v = w.setRow g [v].toArray := by
    rw [setCell_eq_setRow w g 0 [old].toArray e (0, 0) v hb]; simp
  refine Wl.s (s_store ht hx hy h1 hc hf) (h _ (e1 ▸ hb.setRow) ?_)
  · exact ⟨rfl, rfl, rfl, by simp [World.setCell], fun k _ hne => Below.heap_setCell w _ _ k (fun e => hne (by rw [e]))⟩
theorem below_blk {B g : Nat} {w0 : World} (hb : Below B w0 w) (hg : w.grownBy w' (some g)) (hs : B ≤ w.heap.size) (hB : B ≤ g) : Below B w0 w' := hb.grown hg hs fun k hk => by cases hk; exact hB

/-- two rows of one's own -/
def Apart (v u : Value) : Prop := ∀ k, v.ownBlock = some k → u.ownBlock ≠ some k
theorem Apart.symm {v u : Value} (h : Apart v u) : Apart u v := fun k hk e => h k e hk
theorem Apart.ne {v u : Value} (h : Apart v u) : v.ownBlock = none ∨ v.ownBlock ≠ u.ownBlock := by
  cases e : v.ownBlock with
  | none => exact .inl rfl
  | some k => exact .inr fun h2 => h k e h2.symm
theorem Apart.grow {v v' u : Value} {base sz n : Nat} {e : TypeId} {xs : List Value} (h : Apart v u) (ha : v'.ownBlock = v.ownBlock ∨ v'.ownBlock = some w.heap.size) (hu : w.ownsRow base e sz u n xs) : Apart v' u := fun k hk e => by
  rcases ha with ha | ha
  · exact h k (ha ▸ hk) e
  · rw [ha] at hk; cases hk
    exact absurd (own_ge hu _ e).2 (Nat.lt_irrefl _)
theorem Apart.nil (u : Value) : Apart (.slice none 0 0) u := fun k hk => by cases hk

/-! ### regions that draw -/
/-- the rest of a region, in whatever order -/
def Wa (P : Program) (ops : Array Oper) (Q : Exit → Act → World → Prop) (S : World → Prop) (fuel : Nat) (listed : Array Bool) (N : Nat) (D : List Deferred) (env : Env) (w : World) : Prop := ∀ a, Ok N D env a → wpAnyH P .any ops Q S fuel listed a w
theorem Wc.any {id : Nat} {l : List Oper} {n : Nat} (S : World → Prop) (listed : Array Bool) (hm : P.follows .mixedOrders = true) (hn : Nat.beq l.length n = true) (hl : Array.replicate n false = listed)
    (h : Wa P l.toArray Q S n listed N D env w.drew) : Wc P Q (.region id l.toArray true) N D env w := fun a ha => by
  have hn' := beq_eq hn
  subst hl
  refine wp_region_held (S := S) hm ?_
  have := h a ha
  rw [show l.toArray.size = n by simpa using hn']
  exact this
/-- the tests of a take, as one -/
def takeOk (ops : Array Oper) (l l' : Array Bool) (i : Nat) : Bool := Region.noSelect ops && Region.free .any ops l i && (Region.ready .any ops l).contains i && (l.setIfInBounds i true == l')
section
variable {S : World → Prop} {fuel : Nat} {l : Array Bool} {i : Nat}
theorem Wa.drew (h : ∀ w', Below w.heap.size w w' → Wa P ops Q S fuel l N D env w') : Wa P ops Q S fuel l N D env w.drew := h _ (Below.refl _ _).drew
theorem Yl.ld {v : Value} (h : Yl P N D env op ty v) : Ld P N D env w op ty v := fun a ha dst pos af g => h a ha w dst pos af g
theorem Wa.take {v : Value} (l' : Array Bool) (ho : ops[i]? = some ⟨some d, op, ty, pos, af, none⟩) (hc : takeOk ops l l' i = true) (hQ : ∀ c a w, Q (.panic c) (a.put (some d) v) w → Q (.panic c) a w) (hd : Nat.blt d N = true)
    (hy : ∀ w', S w' → Ld P N D env w' op ty v) (hS : S w) (h : Wa P ops Q S fuel l' N D ((d, v) :: env) w) : Wa P ops Q S (fuel + 1) l N D env w := fun a ha => by
  simp only [takeOk, Bool.and_eq_true, beq_iff_eq] at hc
  obtain ⟨⟨⟨h1, h2⟩, h3⟩, h4⟩ := hc
  subst h4
  exact wpAnyH_take ho h1 h2 h3 hQ (.inl ⟨by simp [Region.wanted], fun w' hw' => hy w' hw' a ha _ _ _ _⟩) hS (h _ (ha.put hd v))
theorem Wa.split {s : Nat} {t : Bool} (hb : lk env s = some (.bool t)) (h1 : t = true → Wa P ops Q S fuel l N D env w) (h2 : t = false → Wa P ops Q S fuel l N D env w) : Wa P ops Q S fuel l N D env w := by
  cases t
  · exact h2 rfl
  · exact h1 rfl
theorem Wa.takeOn {g : Nat} {b t : Bool} {s : Nat} {v : Value} (l' : Array Bool) (ho : ops[i]? = some ⟨some d, op, ty, pos, af, some (g, b)⟩) (hs : (ops[g]?).bind (·.dst) = some s) (hb : lk env s = some (.bool t)) (e : t = b) (hc : takeOk ops l l' i = true)
    (hQ : ∀ c a w, Q (.panic c) (a.put (some d) v) w → Q (.panic c) a w) (hd : Nat.blt d N = true) (hy : ∀ w', S w' → Ld P N D env w' op ty v) (hS : S w) (h : Wa P ops Q S fuel l' N D ((d, v) :: env) w) : Wa P ops Q S (fuel + 1) l N D env w := fun a ha => by
  simp only [takeOk, Bool.and_eq_true, beq_iff_eq] at hc
  obtain ⟨⟨⟨h1, h2⟩, h3⟩, h4⟩ := hc
  subst h4
  subst e
  refine wpAnyH_take ho h1 h2 h3 hQ (.inl ⟨?_, fun w' hw' => hy w' hw' a ha _ _ _ _⟩) hS (h _ (ha.put hd v))
  have hy : yielded ops a.tmps g = some t := by
    unfold yielded
    rw [hs]
    show (match a.tmps[s]? with | some (.bool b) => some b | _ => none) = some t
    rw [ha.get s _ hb]
  simp [Region.wanted, hy]
theorem Wa.takeOff {g : Nat} {b t : Bool} {s : Nat} (l' : Array Bool) (ho : ops[i]? = some ⟨some d, op, ty, pos, af, some (g, b)⟩) (hs : (ops[g]?).bind (·.dst) = some s) (hb : lk env s = some (.bool t)) (e : t = !b) (hc : takeOk ops l l' i = true)
    (hQ : ∀ c a w, Q (.panic c) (a.put (some d) undef) w → Q (.panic c) a w) (hd : Nat.blt d N = true) (hS : S w) (h : Wa P ops Q S fuel l' N D ((d, undef) :: env) w) : Wa P ops Q S (fuel + 1) l N D env w := fun a ha => by
  simp only [takeOk, Bool.and_eq_true, beq_iff_eq] at hc
  obtain ⟨⟨⟨h1, h2⟩, h3⟩, h4⟩ := hc
  subst h4
  subst e
  refine wpAnyH_take ho h1 h2 h3 hQ (.inr ⟨?_, rfl⟩) hS (h _ (ha.put hd undef))
  have hy : yielded ops a.tmps g = some (!b) := by
    unfold yielded
    rw [hs]
    show (match a.tmps[s]? with | some (.bool b) => some b | _ => none) = some (!b)
    rw [ha.get s _ hb]
  simp [Region.wanted, hy]
theorem Wa.takeUn {g : Nat} {b : Bool} {s : Nat} (l' : Array Bool) (ho : ops[i]? = some ⟨some d, op, ty, pos, af, some (g, b)⟩) (hs : (ops[g]?).bind (·.dst) = some s) (hb : lk env s = some undef) (hc : takeOk ops l l' i = true)
    (hQ : ∀ c a w, Q (.panic c) (a.put (some d) undef) w → Q (.panic c) a w) (hd : Nat.blt d N = true) (hS : S w) (h : Wa P ops Q S fuel l' N D ((d, undef) :: env) w) : Wa P ops Q S (fuel + 1) l N D env w := fun a ha => by
  simp only [takeOk, Bool.and_eq_true, beq_iff_eq] at hc
  obtain ⟨⟨⟨h1, h2⟩, h3⟩, h4⟩ := hc
  subst h4
  refine wpAnyH_take ho h1 h2 h3 hQ (.inr ⟨?_, rfl⟩) hS (h _ (ha.put hd undef))
  have hy : yielded ops a.tmps g = none := by
    unfold yielded
    rw [hs]
    show (match a.tmps[s]? with | some (.bool b) => some b | _ => none) = none
    rw [ha.get s _ hb]
    rfl
  simp [Region.wanted, hy]

/-- whichever comes up -/
def Ws (P : Program) (ops : Array Oper) (Q : Exit → Act → World → Prop) (S : World → Prop) (fuel : Nat) (listed : Array Bool) (rs : List Nat) (N : Nat) (D : List Deferred) (env : Env) (w : World) : Prop :=
  ∀ i ∈ rs, ∀ a, Ok N D env a → wpOp P ops Q i (fun a' w' => S w' ∧ wpAnyH P .any ops Q S fuel (listed.setIfInBounds i true) a' w') a w
theorem Wa.some {rs : List Nat} (hr : Region.ready .any ops l = rs) (hne : rs.isEmpty = false) (h : Ws P ops Q S fuel l rs N D env w) : Wa P ops Q S (fuel + 1) l N D env w := fun a ha =>
  wpAnyH_all hr (by rintro rfl; cases hne) (fun i hi => h i hi a ha)
theorem Ws.nil : Ws P ops Q S fuel l [] N D env w := fun _ h => by cases h
theorem wpOp_of {o : Oper} {K : Act → World → Prop} (ho : ops[i]? = some o) (h : wpList P ops (Exit.then K Q) [o] a w) : wpOp P ops Q i K a w := by
  unfold wpOp
  rw [ho]
  unfold wpList at h
  show if _ then _ else _
  split
  · rename_i hw
    rw [if_pos hw] at h
    rcases h with h | h
    · refine .inl ?_
      unfold Oper.wp at h ⊢
      generalize (execOp a.eval o).run P w = r at *
      cases r with
      | ok v w' =>
        cases v with
        | enter f args => exact Calls.mono h fun e w'' he => by cases e <;> exact he
        | _ => exact h
      | halt s w' => cases s <;> exact h
    · exact .inr h
  · rename_i hw
    rw [if_neg hw] at h
    exact h
theorem Ws.cons {o : Oper} {rs : List Nat} (l' : Array Bool) (ho : ops[i]? = some o) (hl : (l.setIfInBounds i true == l') = true)
    (h : ∀ K : Act → World → Prop, (∀ env' w', S w' → Wa P ops Q S fuel l' N D env' w' → ∀ a, Ok N D env' a → K a w') → Wl P ops (Exit.then K Q) [o] N D env w)
    (hs : Ws P ops Q S fuel l rs N D env w) : Ws P ops Q S fuel l (i :: rs) N D env w := fun j hj a ha => by
  rcases List.mem_cons.1 hj with rfl | hj
  · have : l.setIfInBounds j true = l' := beq_iff_eq.1 hl
    subst this
    exact wpOp_of ho (h _ (fun env' w' hS hA a' ha' => ⟨hS, hA a' ha'⟩) a ha)
  · exact hs j hj a ha
theorem Wq.back {K : Act → World → Prop} {l' : Array Bool} (hK : ∀ env' w', S w' → Wa P ops Q S fuel l' N D env' w' → ∀ a, Ok N D env' a → K a w') (hS : S w) (h : Wa P ops Q S fuel l' N D env w) : Wq (Exit.then K Q) .normal N D env w := fun a ha => hK env w hS h a ha
theorem Wa.done (hr : Region.ready .any ops l = []) (h : Wq Q .normal N D env w) : Wa P ops Q S fuel l N D env w := fun a ha => wpAnyH_done hr (h a ha) fuel
end
/-- the ways meet: what is known behind them all -/
theorem Wc.meet {c : Code} {X : Type} (E : X → Env) (I : X → World → Prop) (h : ∀ K : Act → World → Prop, (∀ env' w' x, Sub (E x) env' → I x w' → ∀ a, Ok N D env' a → K a w') → Wc P (Exit.then K Q) c N D env w) (h2 : ∀ x w', I x w' → Wq Q .normal N D (E x) w') : Wc P Q c N D env w := fun a ha => by
  have := h (fun a' w' => ∃ x, Ok N D (E x) a' ∧ I x w') (fun env' w' x hs hI a' ha' => ⟨x, ha'.sub hs, hI⟩) a ha
  refine Code.wp_mono (fun e a' w' he => ?_) this
  cases e with
  | normal => obtain ⟨x, hx, hI⟩ := he; exact h2 x w' hI a' hx
  | _ => exact he
theorem Wq.meet {X : Type} {E : X → Env} {I : X → World → Prop} {K : Act → World → Prop} (hK : ∀ env' w' x, Sub (E x) env' → I x w' → ∀ a, Ok N D env' a → K a w') (x : X) (hs : Sub (E x) env) (hI : I x w) : Wq (Exit.then K Q) .normal N D env w := fun a ha => hK env w x hs hI a ha
end
end Go.Bw
