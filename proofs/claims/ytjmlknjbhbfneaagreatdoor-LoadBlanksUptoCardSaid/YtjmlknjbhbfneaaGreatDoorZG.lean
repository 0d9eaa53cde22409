/- strings.Builder: WriteByte; value.unquoted. · value.unquoted. · Plain: what Read tells leans on no byte behind the value, but for its first one. -/
import Derived.Test.YtjmlknjbhbfneaaGreatDoorZF
import Derived.Lib.Builder
namespace Go.Bw
open Go.RowKit
set_option linter.unusedVariables false
set_option linter.unusedSimpArgs false
section
variable {P : Program} {N : Nat} {D : List Deferred} {env : Env} {w : World} {ty : TypeId}
theorem y_ptr0 {x : Operand} {t te u : TypeId} {j : TypeInfo} (hp : P.underlying t = some (.pointer te)) (hj : P.info? te = some j) (hx : ev env x = some (.pointer none)) : Yl P N D env (.binOp .eql t x (.const (.pointer none)) u) ty (.bool true) := fun a ha w dst pos af g => by
  have he : a.eval (.const (.pointer none)) = .pointer none := rfl
  have h : ∀ d : Nat, (Op.equalIn (d + 1) t (.pointer none) (.pointer none)).run P w = .ok true w := fun d => by simp [Op.equalIn, run_underlying hp, sizeOf, typeInfo, hj]
  have h1 : (binOp .eql t (.pointer none) (.pointer none)).run P w = .ok (.bool true) w := by
    simp only [binOp]; simp [Op.equal, Op.maxDepth, h 9999]
  simp [execOp, ha.eval hx, eqGuard_at_pointer, he, h1]
theorem y_ptr1 {x : Operand} {t te u : TypeId} {j : TypeInfo} {p : Addr} (hp : P.underlying t = some (.pointer te)) (hj : P.info? te = some j) (hx : ev env x = some (.pointer (some p))) : Yl P N D env (.binOp .eql t x (.const (.pointer none)) u) ty (.bool false) := fun a ha w dst pos af g => by
  have he : a.eval (.const (.pointer none)) = .pointer none := rfl
  have h : ∀ d : Nat, (Op.equalIn (d + 1) t (.pointer (some p)) (.pointer none)).run P w = .ok false w := fun d => by simp [Op.equalIn, run_underlying hp, sizeOf, typeInfo, hj]
  have h1 : (binOp .eql t (.pointer (some p)) (.pointer none)).run P w = .ok (.bool false) w := by
    simp only [binOp]; simp [Op.equal, Op.maxDepth, h 9999]
  simp [execOp, ha.eval hx, eqGuard_at_pointer, he, h1]
theorem y_noEscape {x : Operand} {f : FuncId} {y : Operand} {ts : Array TypeId} {p : Option Addr} (he : Extn P f Extern.AbiNoEscape.same) (hx : ev env x = some (.func (.func f) #[] #[])) (hy : evs env [y] = some [.pointer p]) : Yl P N D env (.call ⟨.value x, #[y], ts⟩) ty (.pointer p) :=
  y_extV he hx hy (fun w => rfl)
theorem y_ptrSame {x y : Operand} {t te u : TypeId} {j : TypeInfo} {p : Addr} (hp : P.underlying t = some (.pointer te)) (hj : P.info? te = some j) (hx : ev env x = some (.pointer (some p))) (hy : ev env y = some (.pointer (some p))) : Yl P N D env (.binOp .neq t x y u) ty (.bool false) := fun a ha w dst pos af g => by
  simp [execOp, ha.eval hx, ha.eval hy, eqGuard_at_pointer, Lib.run_neq_ptr_same w p hp hj]
theorem l_toUnsafe {x : Operand} {src dst t e : TypeId} {j : TypeInfo} {cells : Nat} {p : Addr} (hs : P.underlying src = some (.pointer t)) (hd : P.underlying dst = some .unsafePointer) (ht : P.info? t = some j) (hj : j.size ≠ 0) (hsh : w.shape? p.block = some (e, cells)) (hoff : p.off < cells) (hx : ev env x = some (.pointer (some p))) :
    Ld P N D env w (.convert src dst x) ty (.pointer (some p)) := fun a ha dst' pos af g => by
  simp [execOp, ha.eval hx, Lib.run_to_unsafe w p hs hd ht hj hsh hoff]
theorem l_fromUnsafe {x : Operand} {src dst u e : TypeId} {j : TypeInfo} {cells : Nat} {p : Addr} (hs : P.underlying src = some .unsafePointer) (hd : P.underlying dst = some (.pointer u)) (hu : P.info? u = some j) (hsh : w.shape? p.block = some (e, cells)) (hl : liesAt P P.depth e (cells / P.cellsOf e) p.off u 1 = true) (hx : ev env x = some (.pointer (some p))) :
    Ld P N D env w (.convert src dst x) ty (.pointer (some p)) := fun a ha dst' pos af g => by
  simp [execOp, ha.eval hx, Lib.run_from_unsafe w p hs hd hu hsh hl]
end
end Go.Bw
namespace Go.Proofs.YtjmlknjbhbfneaaGreatDoor
open Go.RowKit Go.Bw Go.Bw.Fl
set_option linter.unusedVariables false
set_option linter.unusedSimpArgs false
theorem exn83Bld : Extn Tryz.prog 83 Extern.AbiNoEscape.same := fun args w => run_callFunc_extern Tryz.func83 (by kernel_rfl) (by kernel_rfl) (by kernel_rfl) (by kernel_rfl) args w
theorem fa67_0Bld (p : Addr) (w : World) : (Instr.fieldAt 67 (.pointer (some p)) 0).run Tryz.prog w = .ok (.pointer (some (p.add 0))) w := run_fieldAt (i := 0) (sz := 0) Tryz.underlying67 rfl (by kernel_rfl) p w
theorem fa67_1Bld (p : Addr) (w : World) : (Instr.fieldAt 67 (.pointer (some p)) 1).run Tryz.prog w = .ok (.pointer (some (p.add 1))) w := run_fieldAt (i := 1) (sz := 0) Tryz.underlying67 rfl (by kernel_rfl) p w
theorem one22Bld : One Tryz.prog 22 := ⟨_, Tryz.underlying22, rfl, by kernel_rfl⟩
theorem one65Bld : One Tryz.prog 65 := ⟨_, Tryz.underlying65, rfl, by kernel_rfl⟩
theorem txt51Bld : Txt Tryz.prog 51 := ⟨_, Tryz.func51, by kernel_rfl, rfl⟩   -- (*strings.Builder).copyCheck
theorem infoB : ∃ j, Tryz.prog.info? 67 = some j ∧ j.size ≠ 0 := by
  have h : (Tryz.prog.info? 67).map (·.size) = some 2 := by kernel_rfl
  obtain ⟨j, hj, hs⟩ := Option.map_eq_some_iff.1 h
  exact ⟨j, hj, by rw [hs]; decide⟩
theorem liesB : liesAt Tryz.prog Tryz.prog.depth 67 (2 / Tryz.prog.cellsOf 67) 0 67 1 = true := by kernel_rfl
theorem onePB : One Tryz.prog 65 := ⟨_, Tryz.underlying65, rfl, by kernel_rfl⟩
theorem copy_used (b : Nat) (w : World) (h0 : w.cell? ⟨b, 0, none⟩ = some (.pointer (some ⟨b, 0, none⟩))) : Ret Tryz.prog 51 [.pointer (some ⟨b, 0, none⟩)] w fun v w' => v = .tuple #[] ∧ w' = w := by
  obtain ⟨j, hj, hjs⟩ := infoB
  refine enter Tryz.func51 rfl rfl rfl <| Wc.seq fun _ hK_1 => Wc.region <| Wl.mv rfl rfl <| Wl.y (y_nilCheck rfl) rfl <| Wl.y (y_fieldAddr (fa67_0Bld _) rfl) rfl <| Wl.l (l_load one65Bld rfl (h0)) rfl <| Wl.y (y_ptr1 Tryz.underlying65 hj rfl) rfl <| Wl.nil <| Wq.next hK_1 <| Wc.cond rfl (fun c0_7 => ?_) (fun c0_7 => ?_)
  ·
   have c0_7_ := c0_7
   cases c0_7
  have c0_7_ := c0_7
  simp only [DZ] at c0_7
  refine Wc.seq fun _ hK_8 => Wc.region <| Wl.mv rfl rfl <| Wl.y (y_nilCheck rfl) rfl <| Wl.y (y_fieldAddr (fa67_0Bld _) rfl) rfl <| Wl.l (l_load one65Bld rfl (h0)) rfl <| Wl.mv rfl rfl <| Wl.y (y_ptrSame Tryz.underlying65 hj rfl rfl) rfl <| Wl.nil <| Wq.next hK_8 <| Wc.cond rfl (fun c1_15 => ?_) (fun c1_15 => ?_)
  ·
   have c1_15_ := c1_15
   cases c1_15
  have c1_15_ := c1_15
  simp only [DZ] at c1_15
  refine Wc.skip <| end0 rfl ?_
  exact ⟨_, rfl, rfl, rfl⟩
theorem copy_fresh (b : Nat) (w : World) (h0 : w.cell? ⟨b, 0, none⟩ = some (.pointer none)) (hsh : w.shape? b = some (67, 2)) (hfz : w.frozen? ⟨b, 0, none⟩ = false) : Ret Tryz.prog 51 [.pointer (some ⟨b, 0, none⟩)] w fun v w' => v = .tuple #[] ∧ w' = w.setCell ⟨b, 0, none⟩ (.pointer (some ⟨b, 0, none⟩)) := by
  obtain ⟨j, hj, hjs⟩ := infoB
  refine enter Tryz.func51 rfl rfl rfl <| Wc.seq fun _ hK_1 => Wc.region <| Wl.mv rfl rfl <| Wl.y (y_nilCheck rfl) rfl <| Wl.y (y_fieldAddr (fa67_0Bld _) rfl) rfl <| Wl.l (l_load one65Bld rfl (h0)) rfl <| Wl.y (y_ptr0 Tryz.underlying65 hj rfl) rfl <| Wl.nil <| Wq.next hK_1 <| Wc.cond rfl (fun c0_7 => ?_) (fun c0_7 => ?_)
  ·
   have c0_7_ := c0_7
   simp only [DZ] at c0_7
   refine Wc.region <| Wl.mv rfl rfl <| Wl.mv rfl rfl <| Wl.l (l_toUnsafe (p := ⟨b, 0, none⟩) Tryz.underlying65 Tryz.underlying137 hj hjs hsh (Nat.zero_lt_succ 1) rfl) rfl <| Wl.y (y_noEscape exn83Bld rfl rfl) rfl <| Wl.l (l_fromUnsafe (p := ⟨b, 0, none⟩) Tryz.underlying137 Tryz.underlying65 hj hsh liesB rfl) rfl <| Wl.y (y_nilCheck rfl) rfl <| Wl.y (y_fieldAddr (fa67_0Bld _) rfl) rfl <| Wl.s (s_store (p := ⟨b, 0, none⟩) onePB rfl rfl rfl h0 hfz) <| Wl.nil <| end0 rfl ?_
   exact ⟨_, rfl, rfl, rfl⟩
  have c0_7_ := c0_7
  cases c0_7
theorem copyCheck_r (B b : Nat) (bs : List Value) (w : World) (h : Lib.IsBuilder 67 5 B b bs w) : Ret Tryz.prog 51 [.pointer (some ⟨b, 0, none⟩)] w fun v w' => v = .tuple #[] ∧ Lib.BuilderAt 67 5 B b (.pointer (some ⟨b, 0, none⟩)) bs w' ∧ Below B w w' := by
  rcases h with h | h
  · exact (copy_fresh b w h.cell0 h.shape h.frozen0).mono fun v w' ⟨h1, h2⟩ => ⟨h1, by subst h2; exact ⟨h.used _, (Below.refl B w).setCell (p := ⟨b, 0, none⟩) h.1 _⟩⟩
  · exact (copy_used b w h.cell0).mono fun v w' ⟨h1, h2⟩ => ⟨h1, by subst h2; exact ⟨h, Below.refl B _⟩⟩
theorem oneBuf : One Tryz.prog 22 := ⟨_, Tryz.underlying22, rfl, by kernel_rfl⟩
theorem byteCells_snoc (l : List UInt8) (c : UInt8) : Lib.byteCells (l ++ [c]) = Lib.byteCells l ++ [.int .u8 c.toNat] := by simp [Lib.byteCells]
theorem WriteByte_r (B b : Nat) (l : List UInt8) (c : UInt8) (w : World) (h : Lib.IsBuilder 67 5 B b (Lib.byteCells l) w) (hl : l.length + 1 ≤ 140737488355328) (hBw : B ≤ w.heap.size) : Ret Tryz.prog 175 [.pointer (some ⟨b, 0, none⟩), .int .u8 (c.toNat : Int)] w fun v w' => v = .nilIface ∧ Lib.IsBuilder 67 5 B b (Lib.byteCells (l ++ [c])) w' ∧ Below B w w' := by
  have hbl : (Lib.byteCells l).length = l.length := Lib.byteCells_length l
  refine enter Tryz.func175 rfl rfl rfl <| Wc.seq fun _ hK_1 => Wc.region <| Wl.sg rfl rfl <| Wl.nil <| Wq.next hK_1 <| Wc.seq fun _ hK_3 => Wc.region <| Wl.mv rfl rfl <| Wl.call txt51Bld rfl rfl (copyCheck_r B b _ _ h) rfl ?_
  rintro _ w1 ⟨rfl, hA, hb1⟩
  refine Wl.nil <| Wq.next hK_3 <| Wc.seq fun _ hK_6 => ?_
  obtain ⟨hB, v, hbk, hown, hne⟩ := hA
  have c1 : w1.cell? ⟨b, 1, none⟩ = some v := by rw [Lib.cell_of_heap hbk]; rfl
  have hsz1 := hb1.size
  refine Wc.region <| Wl.mv rfl rfl <| Wl.mv rfl rfl <| Wl.y (y_nilCheck rfl) rfl <| Wl.y (y_fieldAddr (fa67_1Bld _) rfl) rfl <| Wl.l (l_load one22Bld rfl (c1)) rfl <| Wl.mv rfl rfl <| Wl.litN (sz := 1) (vs := [_]) Tryz.underlying22 (by kernel_rfl) rfl rfl rfl rfl rfl rfl ?_
  rintro g1 w2 hg1 hB1 hs1
  have hown2 := own_below hown hs1
  have hsz2 := hs1.size
  refine Wl.append (z := .int .u8 0) (sz := 1) (bytes := 1) (news := [.int .u8 (c.toNat : Int)]) Tryz.underlying22 (by kernel_rfl) rfl (by decide) B rfl hown2 rfl (Rd.of_own (hB1.own (base := B) (n := 1) (sz := 1) (by omega) rfl (by decide))) (fun u hu => by rw [List.mem_singleton.1 hu]; rfl) (by unfold maxLen; omega) (by omega) (by omega) rfl ?_
  rintro v3 w3 hown3 hgr _
  have hlt : b < w1.heap.size := by
    rcases Nat.lt_or_ge b w1.heap.size with h' | h'
    · exact h'
    · simp [Array.getElem?_eq_none h'] at hbk
  have hb3 : w3.heap[b]? = some (.cells #[.pointer (some ⟨b, 0, none⟩), v] 67 (0, 0)) := by rw [hgr.block b (by omega) (fun e => hne e.symm), hs1.block b hlt]; exact hbk
  obtain ⟨A3, cc3, hv3, _, _⟩ := own_form hown3
  have hone : v3.oneCell' = true := by rw [hv3]; rfl
  have hb13 : Below B w w3 := (hb1.trans (hs1.mono (by omega))).grown hgr (by omega) (fun k hk => (own_ge hown2 k hk).1)
  refine Wl.y (y_nilCheck rfl) rfl <| Wl.y (y_fieldAddr (fa67_1Bld _) rfl) rfl <| Wl.s (s_store (p := ⟨b, 1, none⟩) oneBuf rfl rfl hone (by rw [Lib.cell_of_heap hb3]; rfl) (Lib.frozen_of_heap hb3 1)) <| Wl.nil <| Wq.next hK_6 <| Wc.seq fun _ hK_17 => Wc.region <| Wl.sg rfl rfl <| Wl.nil <| Wq.next hK_17 <| Wc.ret <| ret1 rfl rfl ?_
  exact ⟨_, rfl, rfl, .inr (by rw [byteCells_snoc]; exact Lib.BuilderAt.put hB hb3 (by simpa using hown3) (by decide)), hb13.setCell (p := ⟨b, 1, none⟩) hB _⟩

end Go.Proofs.YtjmlknjbhbfneaaGreatDoor
namespace Go.Proofs.YtjmlknjbhbfneaaGreatDoor
open Go.RowKit Go.Bw Go.Bw.Fl
set_option linter.unusedVariables false
set_option linter.unusedSimpArgs false
theorem txt175Unq : Txt Tryz.prog 175 := ⟨_, Tryz.func175, by kernel_rfl, rfl⟩   -- (*strings.Builder).WriteByte
theorem txt28Unq : Txt Tryz.prog 28 := ⟨_, Tryz.func28, by kernel_rfl, rfl⟩   -- (*strings.Builder).String
theorem txt42Unq : Txt Tryz.prog 42 := ⟨_, Tryz.func42, by kernel_rfl, rfl⟩   -- strings.IndexByte
def escV (d : UInt8) : Option UInt8 := if d = 92 then some 92 else if d = 39 then some 39 else if d = 110 then some 10 else none
/-- the rest of a quoted text, from place i on; a: what was told of it -/
def uqGo : List UInt8 → Nat → List UInt8 → List UInt8 × Nat
  | [], _, _ => ([], 0)
  | [c], i, a => if c = 39 then (a, i + 1) else ([], 0)
  | c :: d :: r, i, a => if c = 39 then (a, i + 1) else if c = 10 then ([], 0) else if c = 92 then (match escV d with | none => ([], 0) | some e => uqGo r (i + 2) (a ++ [e])) else uqGo (d :: r) (i + 1) (a ++ [c])
def uqV (s : List UInt8) : List UInt8 × Nat := uqGo (s.drop 1) 1 []
theorem drop_at {s : List UInt8} {i : Nat} (h : i < s.length) : s.drop i = s.getD i 0 :: s.drop (i + 1) := by
  rw [List.drop_eq_getElem_cons h]; simp [List.getD, List.getElem?_eq_getElem h]
theorem uq_end {s : List UInt8} {i : Nat} (a : List UInt8) (h : ¬ i < s.length) : uqGo (s.drop i) i a = ([], 0) := by
  rw [List.drop_eq_nil_of_le (by omega), uqGo]
theorem uq_quote {s : List UInt8} {i : Nat} (a : List UInt8) (h : i < s.length) (hc : s.getD i 0 = 39) : uqGo (s.drop i) i a = (a, i + 1) := by
  rw [drop_at h]
  cases hd : s.drop (i + 1) with
  | nil => rw [uqGo, if_pos hc]
  | cons d r => rw [uqGo, if_pos hc]
theorem uq_feed {s : List UInt8} {i : Nat} (a : List UInt8) (h : i < s.length) (hc : s.getD i 0 = 10) : uqGo (s.drop i) i a = ([], 0) := by
  rw [drop_at h, hc]
  cases hd : s.drop (i + 1) with
  | nil => rw [uqGo, if_neg (by decide)]
  | cons d r => rw [uqGo, if_neg (by decide), if_pos rfl]
theorem uq_last {s : List UInt8} {i : Nat} (a : List UInt8) (h : i < s.length) (hc : s.getD i 0 = 92) (hl : i + 1 = s.length) : uqGo (s.drop i) i a = ([], 0) := by
  rw [drop_at h, List.drop_eq_nil_of_le (by omega), hc, uqGo, if_neg (by decide)]
theorem uq_esc {s : List UInt8} {i : Nat} (a : List UInt8) (h : i + 1 < s.length) (hc : s.getD i 0 = 92) : uqGo (s.drop i) i a = match escV (s.getD (i + 1) 0) with | none => ([], 0) | some e => uqGo (s.drop (i + 2)) (i + 2) (a ++ [e]) := by
  rw [drop_at (by omega : i < s.length), hc, drop_at h, uqGo, if_neg (by decide), if_neg (by decide), if_pos rfl]
theorem uq_plain {s : List UInt8} {i : Nat} (a : List UInt8) (h : i < s.length) (h1 : s.getD i 0 ≠ 39) (h2 : s.getD i 0 ≠ 10) (h3 : s.getD i 0 ≠ 92) : uqGo (s.drop i) i a = uqGo (s.drop (i + 1)) (i + 1) (a ++ [s.getD i 0]) := by
  rw [drop_at h]
  cases hd : s.drop (i + 1) with
  | nil => rw [show uqGo [s.getD i 0] i a = ([], 0) by rw [uqGo, if_neg h1], uqGo]
  | cons d r => rw [uqGo, if_neg h1, if_neg h2, if_neg h3]
theorem esc_idx (d : UInt8) : (Lib.indexByte [92, 39, 110] d = -1 ∧ escV d = none) ∨ ∃ k : Nat, k < 3 ∧ Lib.indexByte [92, 39, 110] d = (k : Int) ∧ escV d = some (([92, 39, 10] : List UInt8).getD k 0) := by
  by_cases h1 : d = 92
  · subst h1; exact .inr ⟨0, by decide, by decide, by decide⟩
  · by_cases h2 : d = 39
    · subst h2; exact .inr ⟨1, by decide, by decide, by decide⟩
    · by_cases h3 : d = 110
      · subst h3; exact .inr ⟨2, by decide, by decide, by decide⟩
      · refine .inl ⟨?_, by unfold escV; rw [if_neg h1, if_neg h2, if_neg h3]⟩
        have e1 : ((92 : UInt8) == d) = false := by simp; exact fun h => h1 h.symm
        have e2 : ((39 : UInt8) == d) = false := by simp; exact fun h => h2 h.symm
        have e3 : ((110 : UInt8) == d) = false := by simp; exact fun h => h3 h.symm
        simp [Lib.indexByte, e1, e2, e3]
theorem IndexByteU_r (s : List UInt8) (d : UInt8) (w : World) : Ret Tryz.prog 42 [str s, .int .u8 (d.toNat : Int)] w fun v w' => (∃ z, v = .int .i64 z ∧ z = Lib.indexByte s d) ∧ w' = w :=
  (IndexByte_r s (d.toNat : Int) w).mono fun v w' ⟨h1, h2⟩ => ⟨⟨_, h1, by simp⟩, h2⟩
theorem u8_of {c : UInt8} {n : Nat} (h : (c.toNat : Int) = (n : Int)) (hn : n < 256) : c = UInt8.ofNat n := by
  apply UInt8.toNat_inj.1; rw [UInt8.toNat_ofNat']; omega
theorem u8_not {c : UInt8} {n : Nat} (h : ¬ (c.toNat : Int) = (n : Int)) (hn : n < 256) : c ≠ UInt8.ofNat n := fun e => h (by rw [e, UInt8.toNat_ofNat']; omega)
theorem uq_val {s l : List UInt8} {n : Nat} {m : Int} (h : uqV s = (l, n)) (hm : m = (n : Int)) : Value.tuple #[str l, .int .i64 m] = .tuple #[str (uqV s).1, .int .i64 ((uqV s).2 : Nat)] := by rw [h, hm]
theorem BString_r (B b : Nat) (l : List UInt8) (w : World) (h : Lib.IsBuilder 67 5 B b (Lib.byteCells l) w) (hB : B ≤ w.heap.size) : Ret Tryz.prog 28 [.pointer (some ⟨b, 0, none⟩)] w fun v w' => v = str l ∧ Below B w w' :=
  Calls.mono (Tryz.Builder_String_any B b l w h hB) fun e w' ⟨h1, h2⟩ => ⟨_, h1, rfl, h2⟩
theorem unquoted_r (s : List UInt8) (hs : s.length ≤ 140737488355328) (w : World) : Ret Tryz.prog 137 [str s] w fun v w' => v = .tuple #[str (uqV s).1, .int .i64 ((uqV s).2 : Nat)] ∧ Below w.heap.size w w' := by
  have h3 : ([92, 39, 110] : List UInt8).length = 3 := rfl
  have h4 : ([92, 39, 10] : List UInt8).length = 3 := rfl
  have hb := Below.refl w.heap.size w
  refine enter Tryz.func137 rfl rfl rfl <| Wc.seq fun _ hK_1 => Wc.region <| Wl.sg rfl rfl <| Wl.sg rfl rfl <| Wl.nil <| Wq.next hK_1 <| Wc.seq fun _ hK_4 => Wc.region <| Wl.allocN (z := (.agg #[(.pointer none), (.slice none 0 0)])) (by kernel_rfl) rfl ?_
  rintro g_o2 w_o2 hg_o2 hn_o2 hs_o2
  have hz_o2 := hs_o2.size
  have hb := hb.trans (hs_o2.mono hb.size)
  have hB_o2 := hn_o2
  have hl_o2 := hB_o2.lt
  refine Wl.nil <| Wq.next hK_4 <| Wc.seq fun _ hK_6 => Wc.seq fun _ hK_7 => Wc.region <| Wl.sg rfl rfl <| Wl.nil <| Wq.next hK_7 <| Wc.block <| Wc.loop (X := Nat × List UInt8) (fun (i, l) => [(0, str s), (4, .pointer (some ⟨g_o2, 0, none⟩)), (5, .int .i64 (i : Int))]) (fun (i, l) wr => 1 ≤ i ∧ i ≤ s.length + 1 ∧ l.length < i ∧ uqV s = uqGo (s.drop i) i l ∧ Below w.heap.size w wr ∧ Lib.IsBuilder 67 5 w.heap.size g_o2 (Lib.byteCells l) wr) (fun (i, l) => s.length + 1 - i) (⟨1, []⟩) ?_ ?_ ?_
  · exact by repeat first | exact Sub.nil | refine Sub.cons' rfl (by first | rfl | exact int_eq (by omega)) ?_
  · exact ⟨by omega, by omega, Nat.lt_succ_self 0, rfl, hb, .inl ⟨hg_o2, _, hB_o2, World.ownsRow_nil _ _ _ _, by simp [Value.ownBlock]⟩⟩
  rintro ⟨i, l⟩ wr hI_10 _ hL_9
  replace hI_10 : 1 ≤ i ∧ i ≤ s.length + 1 ∧ l.length < i ∧ uqV s = uqGo (s.drop i) i l ∧ Below w.heap.size w wr ∧ Lib.IsBuilder 67 5 w.heap.size g_o2 (Lib.byteCells l) wr := hI_10
  obtain ⟨hi1, hi2, hl, hu, hb, hI⟩ := hI_10
  show Wc _ _ _ _ _ [(0, str s), (4, .pointer (some ⟨g_o2, 0, none⟩)), (5, .int .i64 (i : Int))] _
  have hzhb_L0 := hb.size
  refine Wc.seq fun _ hK_11 => Wc.seq fun _ hK_12 => Wc.region <| Wl.mv rfl rfl <| Wl.mv rfl rfl <| Wl.y (y_lens Tryz.underlying9 (by omega) rfl) rfl <| Wl.y (y_lssi rfl rfl) rfl <| Wl.nil <| Wq.next hK_12 <| Wc.cond rfl (fun c0_17 => ?_) (fun c0_17 => ?_)
  ·
   have c0_17_ := c0_17
   simp only [DZ] at c0_17
   have hil : i < s.length := by have := c0_17; omega
   obtain ⟨c, hc⟩ : ∃ c, c = s.getD i 0 := ⟨_, rfl⟩
   refine Wc.skip <| Wq.next hK_11 <| Wc.seq fun _ hK_18 => Wc.block <| Wc.seq fun _ hK_19 => Wc.region <| Wl.mv rfl rfl <| Wl.mv rfl rfl <| Wl.y (y_eq (y_indexs Tryz.underlying9 rfl rfl (by omega) (by omega)) (int_eq (show _ = (c.toNat : Int) by rw [hc, Int.toNat_natCast]))) rfl <| Wl.sg rfl rfl <| Wl.nil <| Wq.next hK_19 <| Wc.block <| Wc.seq fun _ hK_24 => Wc.region <| Wl.mv rfl rfl <| Wl.y (y_eqli rfl rfl) rfl <| Wl.sg rfl rfl <| Wl.nil <| Wq.next hK_24 <| Wc.cond rfl (fun c1_28 => ?_) (fun c1_28 => ?_)
   ·
    have c1_28_ := c1_28
    simp only [DZ] at c1_28
    have hcq : s.getD i 0 = 39 := by rw [← hc]; exact u8_of (n := 39) c1_28 (by decide)
    refine Wc.seq fun _ hK_29 => Wc.region <| Wl.call txt28Unq rfl rfl (BString_r w.heap.size g_o2 l _ hI hb.size) rfl ?_
    rintro _ w2 ⟨rfl, hs2⟩
    refine Wl.mv rfl rfl <| Wl.y (y_addI rfl rfl (by omega) (by omega)) rfl <| Wl.sg rfl rfl <| Wl.sg rfl rfl <| Wl.nil <| Wq.next hK_29 <| Wc.ret <| Wq.block_ret (Wq.block_ret (Wq.then_ret (Wq.then_ret (Wq.block_ret (Wq.then_ret ?_)))))
    refine ret2 rfl rfl rfl ?_
    exact ⟨_, rfl, uq_val (hu.trans (uq_quote l hil hcq)) (by omega), hb.trans hs2⟩
   have c1_28_ := c1_28
   simp only [DZ] at c1_28
   have hcq : s.getD i 0 ≠ 39 := by rw [← hc]; exact u8_not (n := 39) c1_28 (by decide)
   refine Wc.seq fun _ hK_35 => Wc.meet (X := Bool) (fun q => [(0, str s), (4, .pointer (some ⟨g_o2, 0, none⟩)), (5, .int .i64 (i : Int)), (6, .int .u8 (c.toNat : Int)), (25, .bool q)]) (fun q wr => q = decide ((c.toNat : Int) = 10 ∨ ((c.toNat : Int) = 92 ∧ (i : Int) + 1 = s.length)) ∧ Below w.heap.size w wr ∧ Lib.IsBuilder 67 5 w.heap.size g_o2 (Lib.byteCells l) wr) (fun _ hM_36 => ?_) ?_
   ·
    refine Wc.region <| Wl.mv rfl rfl <| Wl.y (y_eqli rfl rfl) rfl <| Wl.mv rfl rfl <| Wl.guardF rfl rfl rfl (fun g_40 => ?_) (fun g_40 => ?_)
    ·
     have g_40_ := g_40
     simp only [DZ] at g_40
     refine Wl.off' rfl rfl g_40_ rfl rfl <| Wl.off' rfl rfl g_40_ rfl rfl <| Wl.offU rfl rfl rfl <| Wl.offU rfl rfl rfl <| Wl.offU rfl rfl rfl <| Wl.offU rfl rfl rfl <| Wl.offU rfl rfl rfl <| Wl.off' rfl rfl g_40_ rfl rfl <| Wl.y (y_pickT rfl g_40_ rfl) rfl <| Wl.sg rfl rfl <| Wl.nil <| Wq.meet hM_36 (decide ((c.toNat : Int) = 10 ∨ ((c.toNat : Int) = 92 ∧ (i : Int) + 1 = s.length))) (by repeat first | exact Sub.nil | refine Sub.cons' rfl (by first | rfl | exact bool_eq (by rw [Bool.eq_iff_iff]; simp; omega)) ?_) ?_
     exact ⟨rfl, hb, hI⟩
    have g_40_ := g_40
    simp only [DZ] at g_40
    refine Wl.mv rfl rfl <| Wl.on' rfl rfl g_40_ <| Wl.y (y_eqli rfl rfl) rfl <| Wl.on' rfl rfl g_40_ <| Wl.mv rfl rfl <| Wl.guardT rfl rfl rfl (fun g_46 => ?_) (fun g_46 => ?_)
    ·
     have g_46_ := g_46
     simp only [DZ] at g_46
     refine Wl.mv rfl rfl <| Wl.on' rfl rfl g_46_ <| Wl.y (y_addI rfl rfl (by omega) (by omega)) rfl <| Wl.on' rfl rfl g_46_ <| Wl.mv rfl rfl <| Wl.on' rfl rfl g_46_ <| Wl.y (y_lens Tryz.underlying9 (by omega) rfl) rfl <| Wl.on' rfl rfl g_46_ <| Wl.y (y_eqli rfl rfl) rfl <| Wl.on' rfl rfl g_40_ <| Wl.y (y_pickT rfl g_46_ rfl) rfl <| Wl.y (y_pickF rfl g_40_ rfl) rfl <| Wl.sg rfl rfl <| Wl.nil <| Wq.meet hM_36 (decide ((c.toNat : Int) = 10 ∨ ((c.toNat : Int) = 92 ∧ (i : Int) + 1 = s.length))) (by repeat first | exact Sub.nil | refine Sub.cons' rfl (by first | rfl | exact bool_eq (by rw [Bool.eq_iff_iff]; simp; omega)) ?_) ?_
     exact ⟨rfl, hb, hI⟩
    have g_46_ := g_46
    simp only [DZ] at g_46
    refine Wl.off' rfl rfl g_46_ rfl rfl <| Wl.off' rfl rfl g_46_ rfl rfl <| Wl.off' rfl rfl g_46_ rfl rfl <| Wl.off' rfl rfl g_46_ rfl rfl <| Wl.on' rfl rfl g_40_ <| Wl.y (y_pickF rfl g_46_ rfl) rfl <| Wl.y (y_pickF rfl g_40_ rfl) rfl <| Wl.sg rfl rfl <| Wl.nil <| Wq.meet hM_36 (decide ((c.toNat : Int) = 10 ∨ ((c.toNat : Int) = 92 ∧ (i : Int) + 1 = s.length))) (by repeat first | exact Sub.nil | refine Sub.cons' rfl (by first | rfl | exact bool_eq (by rw [Bool.eq_iff_iff]; simp; omega)) ?_) ?_
    exact ⟨rfl, hb, hI⟩
   rintro q wr hI_58
   replace hI_58 : q = decide ((c.toNat : Int) = 10 ∨ ((c.toNat : Int) = 92 ∧ (i : Int) + 1 = s.length)) ∧ Below w.heap.size w wr ∧ Lib.IsBuilder 67 5 w.heap.size g_o2 (Lib.byteCells l) wr := hI_58
   obtain ⟨hq, hb, hI⟩ := hI_58
   show Wq _ _ _ _ [(0, str s), (4, .pointer (some ⟨g_o2, 0, none⟩)), (5, .int .i64 (i : Int)), (6, .int .u8 (c.toNat : Int)), (25, .bool q)] _
   have hzhb_g7 := hb.size
   refine Wq.next hK_35 <| Wc.cond rfl (fun c2_59 => ?_) (fun c2_59 => ?_)
   ·
    have c2_59_ := c2_59
    have hq2 : (c.toNat : Int) = 10 ∨ ((c.toNat : Int) = 92 ∧ (i : Int) + 1 = s.length) := by have h := c2_59_; rw [hq] at h; exact of_decide_eq_true h
    have hun : uqV s = ([], 0) := by
      rcases hq2 with h | ⟨h, h'⟩
      · exact hu.trans (uq_feed l hil (by rw [← hc]; exact u8_of (n := 10) h (by decide)))
      · exact hu.trans (uq_last l hil (by rw [← hc]; exact u8_of (n := 92) h (by decide)) (by omega))
    refine Wc.seq fun _ hK_60 => Wc.region <| Wl.sg rfl rfl <| Wl.sg rfl rfl <| Wl.nil <| Wq.next hK_60 <| Wc.ret <| Wq.block_ret (Wq.block_ret (Wq.then_ret (Wq.then_ret (Wq.block_ret (Wq.then_ret ?_)))))
    refine ret2 rfl rfl rfl ?_
    exact ⟨_, rfl, uq_val hun rfl, hb⟩
   have c2_59_ := c2_59
   have hq2 : ¬ ((c.toNat : Int) = 10 ∨ ((c.toNat : Int) = 92 ∧ (i : Int) + 1 = s.length)) := by have h := c2_59_; rw [hq] at h; exact of_decide_eq_false h
   refine Wc.seq fun _ hK_63 => Wc.region <| Wl.mv rfl rfl <| Wl.y (y_eqli rfl rfl) rfl <| Wl.sg rfl rfl <| Wl.nil <| Wq.next hK_63 <| Wc.cond rfl (fun c3_67 => ?_) (fun c3_67 => ?_)
   ·
    have c3_67_ := c3_67
    simp only [DZ] at c3_67
    have hi3 : i + 1 < s.length := by have := c3_67; omega
    have hc9 : s.getD i 0 = 92 := by rw [← hc]; exact u8_of (n := 92) c3_67 (by decide)
    obtain ⟨d, hd⟩ : ∃ d, d = s.getD (i + 1) 0 := ⟨_, rfl⟩
    have hes := uq_esc l hi3 hc9
    rw [← hd] at hes
    refine Wc.seq fun _ hK_68 => Wc.region <| Wl.mv rfl rfl <| Wl.y (y_addI rfl rfl (by omega) (by omega)) rfl <| Wl.sg rfl rfl <| Wl.nil <| Wq.next hK_68 <| Wc.seq fun _ hK_72 => Wc.region <| Wl.mv rfl rfl <| Wl.mv rfl rfl <| Wl.y (y_eq (y_indexs Tryz.underlying9 rfl rfl (by omega) (by omega)) (int_eq (show _ = (d.toNat : Int) by rw [hd, show ((i : Int) + 1).toNat = i + 1 by omega]))) rfl <| Wl.call txt42Unq rfl rfl (IndexByteU_r _ d _) rfl ?_
    rintro _ w_ ⟨⟨z, rfl, hz⟩, hw_⟩
    have hw_ := hw_.symm; subst hw_
    refine Wl.sg rfl rfl <| Wl.nil <| Wq.next hK_72 <| Wc.seq fun _ hK_78 => Wc.seq fun _ hK_79 => Wc.region <| Wl.mv rfl rfl <| Wl.y (y_lssi rfl rfl) rfl <| Wl.nil <| Wq.next hK_79 <| Wc.cond rfl (fun c4_82 => ?_) (fun c4_82 => ?_)
    ·
     have c4_82_ := c4_82
     simp only [DZ] at c4_82
     have hun : uqV s = ([], 0) := by
       rcases esc_idx d with ⟨_, h⟩ | ⟨k, _, h, _⟩
       · rw [h] at hes; exact hu.trans hes
       · have := c4_82; omega
     refine Wc.seq fun _ hK_83 => Wc.region <| Wl.sg rfl rfl <| Wl.sg rfl rfl <| Wl.nil <| Wq.next hK_83 <| Wc.ret <| Wq.then_ret (Wq.block_ret (Wq.block_ret (Wq.then_ret (Wq.then_ret (Wq.block_ret (Wq.then_ret ?_))))))
     refine ret2 rfl rfl rfl ?_
     exact ⟨_, rfl, uq_val hun rfl, hb⟩
    have c4_82_ := c4_82
    simp only [DZ] at c4_82
    obtain ⟨k, e_, hk3, hzk, he_, hee⟩ : ∃ (k : Nat) (e : UInt8), k < 3 ∧ z = (k : Int) ∧ escV d = some e ∧ e = ([92, 39, 10] : List UInt8).getD k 0 := by
      rcases esc_idx d with ⟨h, _⟩ | ⟨k, h0, h1, h2⟩
      · have := c4_82; omega
      · exact ⟨k, _, h0, hz.trans h1, h2, rfl⟩
    have hu2 : uqV s = uqGo (s.drop (i + 1 + 1)) (i + 1 + 1) (l ++ [e_]) := by rw [he_] at hes; exact hu.trans hes
    obtain ⟨j_, hj_⟩ : ∃ j, j = i + 1 := ⟨_, rfl⟩
    rw [← hj_] at hu2
    refine Wc.skip <| Wq.next hK_78 <| Wc.region <| Wl.mv rfl rfl <| Wl.y (y_eq (y_indexs Tryz.underlying9 rfl rfl (by omega) (by omega)) (int_eq (show _ = (e_.toNat : Int) by rw [hee, hzk, Int.toNat_natCast]))) rfl <| Wl.call txt175Unq rfl rfl (WriteByte_r w.heap.size g_o2 l e_ _ hI (by omega) hb.size) rfl ?_
    rintro _ w3 ⟨rfl, hI2, hs3⟩
    refine Wl.nil <| Wq.block_normal <| Wq.block_normal <| Wq.next hK_18 <| Wc.region <| Wl.mv rfl rfl <| Wl.y (y_addI rfl rfl (by omega) (by omega)) rfl <| Wl.sg rfl rfl <| Wl.nil <| fun a_ ha_ => hL_9 _ _ (⟨j_ + 1, l ++ [e_]⟩) (by simp; omega) (by repeat first | exact Sub.nil | refine Sub.cons' rfl (by first | rfl | exact int_eq (by omega)) ?_) ?_ a_ ha_
    exact ⟨by omega, by omega, by simp; omega, hu2, hb.trans hs3, hI2⟩
   have c3_67_ := c3_67
   simp only [DZ] at c3_67
   have hu2 := hu.trans (uq_plain l hil hcq (by rw [← hc]; exact u8_not (n := 10) (fun h => hq2 (.inl h)) (by decide)) (by rw [← hc]; exact u8_not (n := 92) c3_67 (by decide)))
   obtain ⟨j_, hj_⟩ : ∃ j, j = i := ⟨_, rfl⟩
   obtain ⟨e_, he_⟩ : ∃ e, e = c := ⟨_, rfl⟩
   rw [← hc, ← he_, ← hj_] at hu2
   refine Wc.region <| Wl.mv rfl rfl <| Wl.call txt175Unq rfl rfl (WriteByte_r w.heap.size g_o2 l c _ hI (by omega) hb.size) rfl ?_
   rintro _ w3 ⟨rfl, hI2, hs3⟩
   refine Wl.nil <| Wq.block_normal <| Wq.block_normal <| Wq.next hK_18 ?_
   rw [← he_] at hI2
   refine Wc.region <| Wl.mv rfl rfl <| Wl.y (y_addI rfl rfl (by omega) (by omega)) rfl <| Wl.sg rfl rfl <| Wl.nil <| fun a_ ha_ => hL_9 _ _ (⟨j_ + 1, l ++ [e_]⟩) (by simp; omega) (by repeat first | exact Sub.nil | refine Sub.cons' rfl (by first | rfl | exact int_eq (by omega)) ?_) ?_ a_ ha_
   exact ⟨by omega, by omega, by simp; omega, hu2, hb.trans hs3, hI2⟩
  have c0_17_ := c0_17
  simp only [DZ] at c0_17
  refine Wc.exit <| Wq.then_exit <| Wq.then_exit <| Wq.block_exit <| Wq.next hK_6 <| Wc.seq fun _ hK_97 => Wc.region <| Wl.sg rfl rfl <| Wl.sg rfl rfl <| Wl.nil <| Wq.next hK_97 <| Wc.ret <| ret2 rfl rfl rfl ?_
  exact ⟨_, rfl, uq_val (hu.trans (uq_end l (by have := c0_17; omega))) rfl, hb⟩
end Go.Proofs.YtjmlknjbhbfneaaGreatDoor
namespace Go.Proofs.YtjmlknjbhbfneaaGreatDoor
open Go.RowKit Go.Bw Go.Bw.Fl
set_option linter.unusedVariables false
set_option linter.unusedSimpArgs false
/-! ### the longest one first -/
def downG {α : Type} (f : Nat → Option α) : Nat → Option α
  | 0 => none
  | j + 1 => match f j with
    | some a => some a
    | none => downG f j
theorem downG_some {α : Type} {f : Nat → Option α} {a : α} : ∀ {M : Nat}, downG f M = some a → ∃ j, j < M ∧ f j = some a ∧ ∀ i, j < i → i < M → f i = none
  | 0, h => by cases h
  | M + 1, h => by
    rw [downG] at h
    cases hf : f M with
    | some b => rw [hf] at h; exact ⟨M, by omega, by rw [hf]; exact h, fun i h1 h2 => by omega⟩
    | none =>
      rw [hf] at h
      obtain ⟨j, h1, h2, h3⟩ := downG_some h
      exact ⟨j, by omega, h2, fun i h4 h5 => by
        by_cases e : i = M
        · rw [e]; exact hf
        · exact h3 i h4 (by omega)⟩
theorem downG_of {α : Type} {f : Nat → Option α} {a : α} {j : Nat} (hj : f j = some a) : ∀ {M : Nat}, j < M → (∀ i, j < i → i < M → f i = none) → downG f M = some a
  | 0, h, _ => by omega
  | M + 1, h, hn => by
    rw [downG]
    by_cases e : j = M
    · rw [← e, hj]
    · rw [hn M (by omega) (by omega)]; exact downG_of hj (by omega) fun i h1 h2 => hn i h1 (by omega)
theorem downG_none {α : Type} {f : Nat → Option α} : ∀ {M : Nat}, downG f M = none ↔ ∀ i, i < M → f i = none
  | 0 => ⟨fun _ i h => by omega, fun _ => rfl⟩
  | M + 1 => by
    rw [downG]
    cases hf : f M with
    | some b => simp only [reduceCtorEq, false_iff]; exact fun h => by have := h M (by omega); rw [hf] at this; cases this
    | none =>
      simp only
      rw [downG_none]
      exact ⟨fun h i hi => by
        by_cases e : i = M
        · rw [e]; exact hf
        · exact h i (by omega), fun h i hi => h i (by omega)⟩
def fltG (pf : List UInt8 → Option Nat) (s : List UInt8) (k j : Nat) : Option (Val × Nat) := (pf (s.take (k + j + 1))).map fun f => (⟨3, 0, f, []⟩, k + j + 1)
def intG (s : List UInt8) (j : Nat) : Option (Val × Nat) := (parseI (s.take (j + 1))).bind fun v => if Lib.itoa v = s.take (j + 1) then some (⟨2, v, 0, []⟩, j + 1) else none
theorem downF_eq (pf : List UInt8 → Option Nat) (s : List UInt8) (k : Nat) : ∀ M, downF pf s k M = downG (fltG pf s k) M
  | 0 => rfl
  | M + 1 => by
    rw [downF, downG, fltG, downF_eq pf s k M]
    cases pf (s.take (k + M + 1)) <;> rfl
theorem downI_eq (s : List UInt8) : ∀ M, downI s M = downG (intG s) M
  | 0 => rfl
  | M + 1 => by
    rw [downI, downG, intG, downI_eq s M]
    cases parseI (s.take (M + 1)) with
    | none => rfl
    | some v =>
      simp only [Option.bind_some]
      split <;> rfl

/-! ### a text's beginning -/
theorem pre_iff (s p : List UInt8) : Lib.hasPrefix s p = true ↔ p <+: s := List.isPrefixOf_iff_prefix
theorem pre_take (s w : List UInt8) (q : Nat) : Lib.hasPrefix (s.take q) w = (Lib.hasPrefix s w && decide (w.length ≤ q)) := by
  rw [Bool.eq_iff_iff, Bool.and_eq_true, pre_iff, pre_iff, decide_eq_true_eq, List.prefix_take_iff]
theorem pre_take_f {s w : List UInt8} (q : Nat) (h : Lib.hasPrefix s w = false) : Lib.hasPrefix (s.take q) w = false := by rw [pre_take, h]; rfl
theorem pre_take_t {s w : List UInt8} {q : Nat} (h : Lib.hasPrefix s w = true) (hq : w.length ≤ q) : Lib.hasPrefix (s.take q) w = true := by rw [pre_take, h, decide_eq_true hq]; rfl
theorem pre_app (s w m : List UInt8) (c : UInt8) (hc : c ∉ w) : Lib.hasPrefix (s ++ c :: m) w = Lib.hasPrefix s w := by
  rw [Bool.eq_iff_iff, pre_iff, pre_iff]
  constructor
  · intro h
    by_cases hl : w.length ≤ s.length
    · exact List.prefix_of_prefix_length_le h (List.prefix_append _ _) hl
    · exfalso
      obtain ⟨r, hr⟩ := h
      have h1 : (w ++ r)[s.length]? = (s ++ c :: m)[s.length]? := by rw [hr]
      rw [List.getElem?_append_left (by omega)] at h1
      simp at h1
      exact hc (List.mem_of_getElem? h1)
  · exact fun h => h.trans (List.prefix_append _ _)
theorem nDig_eq (s : List UInt8) : nDig s = (s.takeWhile (digs.contains ·)).length := by
  unfold nDig Lib.trimLeftS
  have h := congrArg List.length (List.takeWhile_append_dropWhile (p := (digs.contains ·)) (l := s))
  rw [List.length_append] at h
  omega
theorem nDig_nil : nDig [] = 0 := rfl
theorem nDig_cons (c : UInt8) (s : List UInt8) : nDig (c :: s) = if digs.contains c = true then nDig s + 1 else 0 := by
  rw [nDig_eq, nDig_eq, List.takeWhile_cons]; split <;> simp
theorem nDig_app (c : UInt8) (m : List UInt8) (hc : digs.contains c = false) : ∀ s, nDig (s ++ c :: m) = nDig s
  | [] => by rw [List.nil_append, nDig_cons, hc]; rfl
  | x :: r => by rw [List.cons_append, nDig_cons, nDig_cons, nDig_app c m hc r]
theorem nDig_take : ∀ (s : List UInt8) (q : Nat), nDig (s.take q) = min (nDig s) q
  | [], q => by rw [List.take_nil, nDig_nil]; omega
  | x :: r, 0 => by rw [List.take_zero, nDig_nil]; omega
  | x :: r, q + 1 => by
    rw [List.take_succ_cons, nDig_cons, nDig_cons, nDig_take r q]
    split <;> omega
theorem lead_minus (r : List UInt8) : lead (45 :: r) = nDig r + 1 := by
  have h : Lib.hasPrefix (45 :: r) [45] = true := by rw [pre_iff]; exact ⟨r, rfl⟩
  unfold lead Lib.trimPrefix; rw [if_pos h]; simp
theorem lead_other {s : List UInt8} (h : Lib.hasPrefix s [45] = false) : lead s = nDig s := by
  unfold lead Lib.trimPrefix; rw [if_neg (by rw [h]; simp)]; omega
theorem pre_one (s : List UInt8) (c : UInt8) : Lib.hasPrefix s [c] = true ↔ ∃ r, s = c :: r := by
  rw [pre_iff]
  constructor
  · rintro ⟨r, h⟩; exact ⟨r, h.symm⟩
  · rintro ⟨r, h⟩; exact ⟨r, h.symm⟩
theorem lead_app (c : UInt8) (m s : List UInt8) (hc : digs.contains c = false) (h45 : c ≠ 45) : lead (s ++ c :: m) = lead s := by
  by_cases h : Lib.hasPrefix s [45] = true
  · obtain ⟨r, rfl⟩ := (pre_one _ _).1 h
    rw [List.cons_append, lead_minus, lead_minus, nDig_app c m hc]
  · have h0 : Lib.hasPrefix s [45] = false := by simpa using h
    rw [lead_other h0, lead_other (by rw [pre_app _ _ _ _ (by simpa using h45)]; exact h0), nDig_app c m hc]
theorem lead_take (s : List UInt8) (q : Nat) : lead (s.take q) = min (lead s) q := by
  by_cases h : Lib.hasPrefix s [45] = true
  · obtain ⟨r, rfl⟩ := (pre_one _ _).1 h
    cases q with
    | zero => rw [List.take_zero]; rw [show lead [] = 0 from rfl]; omega
    | succ q => rw [List.take_succ_cons, lead_minus, lead_minus, nDig_take]; omega
  · have h0 : Lib.hasPrefix s [45] = false := by simpa using h
    rw [lead_other h0, lead_other (pre_take_f q h0), nDig_take]

/-! ### more behind it -/
/-- what ends each value that is not in quotes -/
structure Stop (c : UInt8) : Prop where
  dig : digs.contains c = false
  min : c ≠ 45
  p : c ≠ 112
  w1 : c ∉ wNull
  w2 : c ∉ wFalse
  w3 : c ∉ wTrue
  w4 : ∀ x, x ∈ words3 → c ∉ x
  q : c ≠ 39
theorem stop32 : Stop 32 := ⟨by decide, by decide, by decide, by decide, by decide, by decide, by decide, by decide⟩
theorem find_eq {p p' : List UInt8 → Bool} : ∀ {l : List (List UInt8)}, (∀ x, x ∈ l → p x = p' x) → l.find? p = l.find? p'
  | [], _ => rfl
  | x :: r, h => by
    rw [List.find?_cons, List.find?_cons, h x (List.mem_cons_self ..), find_eq fun y hy => h y (List.mem_cons_of_mem _ hy)]
theorem at_app {s m : List UInt8} {c x : UInt8} (hx : c ≠ x) {i : Nat} (hi : i ≤ s.length) : (s ++ c :: m)[i]? = some x ↔ s[i]? = some x := by
  rcases Nat.lt_or_ge i s.length with h | h
  · rw [List.getElem?_append_left h]
  · have : i = s.length := by omega
    subst this; simp [hx]
theorem floatAt_app (pf : List UInt8 → Option Nat) (s m : List UInt8) {c : UInt8} (hc : Stop c) : floatAt pf (s ++ c :: m) = floatAt pf s := by
  have hl := lead_le s
  have e1 : lead (s ++ c :: m) = lead s := lead_app c m s hc.dig hc.min
  unfold floatAt
  by_cases h : s[lead s]? = some 112
  · have hlt : lead s < s.length := (List.getElem?_eq_some_iff.1 h).1
    have hk : floatK (s ++ c :: m) = floatK s := by
      unfold floatK; rw [e1]
      by_cases h2 : s[lead s + 1]? = some 45
      · rw [if_pos ((at_app hc.min (by omega)).2 h2), if_pos h2]
      · rw [if_neg (fun h3 => h2 ((at_app hc.min (by omega)).1 h3)), if_neg h2]
    obtain ⟨b1, b2, b3⟩ := floatK_bd s h
    obtain ⟨b4, b5⟩ := floatM_bd s h
    have hm : floatM (s ++ c :: m) = floatM s := by
      unfold floatM; rw [hk, List.drop_append_of_le_length b2, nDig_app c m hc.dig]
    rw [e1, if_pos h, if_pos ((at_app hc.p (by omega)).2 h), hk, hm, downF_eq, downF_eq]
    have hcg : ∀ M, M ≤ floatM s → downG (fltG pf (s ++ c :: m) (floatK s)) M = downG (fltG pf s (floatK s)) M := by
      intro M
      induction M with
      | zero => intro _; rfl
      | succ M ih =>
        intro hM
        rw [downG, downG, ih (by omega), fltG, fltG, List.take_append_of_le_length (by omega)]
    exact hcg _ (Nat.le_refl _)
  · rw [e1, if_neg h, if_neg (fun h2 => h ((at_app hc.p hl).1 h2))]
theorem downI_app (s m : List UInt8) (c : UInt8) : ∀ M, M ≤ s.length → downI (s ++ c :: m) M = downI s M
  | 0, _ => rfl
  | M + 1, h => by rw [downI, downI, List.take_append_of_le_length (by omega), downI_app s m c M (by omega)]
theorem readV_app (pf : List UInt8 → Option Nat) (uq : List UInt8 → List UInt8 × Nat) (s m : List UInt8) {c : UInt8} (hc : Stop c) (hq : Lib.hasPrefix s [39] = false) : readV pf uq (s ++ c :: m) = readV pf uq s := by
  have hq' : Lib.hasPrefix (s ++ c :: m) [39] = false := by rw [pre_app _ _ _ _ (by simpa using hc.q)]; exact hq
  unfold readV
  rw [hq', hq, if_neg (show ¬ (false = true) by decide), if_neg (show ¬ (false = true) by decide), pre_app _ _ _ _ hc.w1, pre_app _ _ _ _ hc.w2, pre_app _ _ _ _ hc.w3, find_eq (p' := fun x => Lib.hasPrefix s x) (fun x hx => pre_app _ _ _ _ (hc.w4 x hx)), floatAt_app pf s m hc, lead_app c m s hc.dig hc.min, downI_app s m c _ (by have := lead_le s; omega)]
theorem uqGo_len : ∀ (r : List UInt8) (i : Nat) (a : List UInt8), (uqGo r i a).2 ≠ 0 → i < (uqGo r i a).2 ∧ (uqGo r i a).2 ≤ i + r.length
  | [], i, a, h => by simp [uqGo] at h
  | [c], i, a, h => by
    rw [uqGo] at h ⊢
    split at h
    · rename_i hc; rw [if_pos hc]; simp
    · simp at h
  | c :: d :: r, i, a, h => by
    rw [uqGo] at h ⊢
    split at h
    · rename_i hc; rw [if_pos hc]; simp
    · rename_i hc
      rw [if_neg hc]
      split at h
      · simp at h
      · rename_i hc2
        rw [if_neg hc2]
        split at h
        · rename_i hc3
          rw [if_pos hc3]
          cases he : escV d with
          | none => rw [he] at h; simp at h
          | some e =>
            rw [he] at h
            have := uqGo_len r (i + 2) (a ++ [e]) h
            simp only [List.length_cons]; omega
        · rename_i hc3
          rw [if_neg hc3]
          have := uqGo_len (d :: r) (i + 1) (a ++ [c]) h
          simp only [List.length_cons] at this ⊢; omega
/-- more behind a text in quotes, or less -/
theorem uqGo_same : ∀ (r x : List UInt8) (i : Nat) (a : List UInt8), (uqGo r i a).2 ≠ 0 → r.take ((uqGo r i a).2 - i) = x.take ((uqGo r i a).2 - i) → uqGo x i a = uqGo r i a
  | [], x, i, a, h, _ => by simp [uqGo] at h
  | [c], x, i, a, h, ht => by
    rw [uqGo] at h ht ⊢
    split at h
    · rename_i hc
      rw [if_pos hc] at ht ⊢
      rw [show i + 1 - i = 1 by omega] at ht
      cases x with
      | nil => simp at ht
      | cons y z =>
        simp at ht
        obtain ⟨rfl⟩ := ht
        cases z with
        | nil => rw [uqGo, if_pos hc]
        | cons z1 z2 => rw [uqGo, if_pos hc]
    · simp at h
  | c :: d :: r, x, i, a, h, ht => by
    have hlen := uqGo_len (c :: d :: r) i a h
    rw [uqGo] at h ht hlen ⊢
    split at h
    · rename_i hc
      rw [if_pos hc] at ht ⊢
      rw [show i + 1 - i = 1 by omega] at ht
      cases x with
      | nil => simp at ht
      | cons y z =>
        simp at ht
        obtain ⟨rfl⟩ := ht
        cases z with
        | nil => rw [uqGo, if_pos hc]
        | cons z1 z2 => rw [uqGo, if_pos hc]
    · rename_i hc
      rw [if_neg hc] at ht hlen ⊢
      split at h
      · simp at h
      · rename_i hc2
        rw [if_neg hc2] at ht hlen ⊢
        split at h
        · rename_i hc3
          rw [if_pos hc3] at ht hlen ⊢
          cases he : escV d with
          | none => rw [he] at h; simp at h
          | some e =>
            rw [he] at h ht hlen
            have hl2 := uqGo_len r (i + 2) (a ++ [e]) h
            simp only at ht hlen ⊢
            obtain ⟨k, hk⟩ : ∃ k, (uqGo r (i + 2) (a ++ [e])).2 - i = k + 2 := ⟨(uqGo r (i + 2) (a ++ [e])).2 - i - 2, by omega⟩
            rw [hk] at ht
            cases x with
            | nil => simp at ht
            | cons y z =>
              cases z with
              | nil => simp at ht
              | cons z1 z2 =>
                simp only [List.take_succ_cons, List.cons.injEq] at ht
                obtain ⟨rfl, rfl, ht⟩ := ht
                rw [uqGo, if_neg hc, if_neg hc2, if_pos hc3, he]
                exact uqGo_same r z2 (i + 2) (a ++ [e]) h (by rw [show (uqGo r (i + 2) (a ++ [e])).2 - (i + 2) = k by omega]; exact ht)
        · rename_i hc3
          rw [if_neg hc3] at ht hlen ⊢
          have hl2 := uqGo_len (d :: r) (i + 1) (a ++ [c]) h
          obtain ⟨k, hk⟩ : ∃ k, (uqGo (d :: r) (i + 1) (a ++ [c])).2 - i = k + 2 := ⟨(uqGo (d :: r) (i + 1) (a ++ [c])).2 - i - 2, by
            omega⟩
          rw [hk] at ht
          cases x with
          | nil => simp at ht
          | cons y z =>
            cases z with
            | nil => simp at ht
            | cons z1 z2 =>
              simp only [List.take_succ_cons, List.cons.injEq] at ht
              obtain ⟨rfl, rfl, ht⟩ := ht
              rw [uqGo, if_neg hc, if_neg hc2, if_neg hc3]
              exact uqGo_same (d :: r) (d :: z2) (i + 1) (a ++ [c]) h (by rw [show (uqGo (d :: r) (i + 1) (a ++ [c])).2 - (i + 1) = k + 1 by omega]; simp only [List.take_succ_cons, List.cons.injEq, true_and]; exact ht)
theorem uqV_app {s : List UInt8} (x : List UInt8) (h : (uqV s).2 ≠ 0) : uqV (s ++ x) = uqV s := by
  have hl := uqGo_len _ _ _ h
  have e : (uqGo (s.drop 1) 1 []).2 = (uqV s).2 := rfl
  rw [e] at hl
  have hs : 1 ≤ s.length := by
    rcases Nat.eq_zero_or_pos s.length with h0 | h0
    · rw [List.length_eq_zero_iff.1 h0] at h; exact absurd rfl h
    · exact h0
  refine uqGo_same (s.drop 1) ((s ++ x).drop 1) 1 [] h ?_
  rw [e, List.drop_append_of_le_length hs, List.take_append_of_le_length (by omega)]
theorem uqV_take {s : List UInt8} {q : Nat} (h : (uqV s).2 ≠ 0) (hq : (uqV s).2 ≤ q) : uqV (s.take q) = uqV s := by
  have hl := uqGo_len _ _ _ h
  have e : (uqGo (s.drop 1) 1 []).2 = (uqV s).2 := rfl
  rw [e] at hl
  refine uqGo_same (s.drop 1) ((s.take q).drop 1) 1 [] h ?_
  rw [e, List.drop_take, List.take_take, Nat.min_eq_left (by omega)]
theorem uqV_len {s : List UInt8} (h : (uqV s).2 ≠ 0) : 2 ≤ (uqV s).2 ∧ (uqV s).2 ≤ s.length := by
  have hl := uqGo_len _ _ _ h
  have e : (uqGo (s.drop 1) 1 []).2 = (uqV s).2 := rfl
  rw [e] at hl
  have hs : 1 ≤ s.length := by
    rcases Nat.eq_zero_or_pos s.length with h0 | h0
    · rw [List.length_eq_zero_iff.1 h0] at h; exact absurd rfl h
    · exact h0
  rw [List.length_drop] at hl
  omega

/-! ### less behind it -/
theorem find_take {p p' : List UInt8 → Bool} {x : List UInt8} : ∀ {l : List (List UInt8)}, (∀ y, p' y = true → p y = true) → p' x = true → l.find? p = some x → l.find? p' = some x
  | [], _, _, h => by cases h
  | y :: r, hp, hx, h => by
    rw [List.find?_cons] at h ⊢
    cases hy : p y with
    | true => rw [hy] at h; cases h; rw [hx]
    | false =>
      rw [hy] at h
      have : p' y = false := by
        cases h2 : p' y with
        | false => rfl
        | true => rw [hp y h2] at hy; cases hy
      rw [this]; exact find_take hp hx h
theorem find_none {p p' : List UInt8 → Bool} {l : List (List UInt8)} (hp : ∀ y, p' y = true → p y = true) (h : l.find? p = none) : l.find? p' = none := by
  rw [List.find?_eq_none] at h ⊢
  exact fun x hx h2 => h x hx (hp x h2)
theorem floatK_take {s : List UInt8} {q : Nat} (h : s[lead s]? = some 112) (hq : lead s < q) (hk : floatK s ≤ q) : lead (s.take q) = lead s ∧ (s.take q)[lead (s.take q)]? = some 112 ∧ floatK (s.take q) = floatK s ∧ floatM (s.take q) = min (floatM s) (q - floatK s) := by
  have e1 : lead (s.take q) = lead s := by rw [lead_take]; omega
  have e2 : (s.take q)[lead (s.take q)]? = some 112 := by rw [e1, List.getElem?_take, if_pos hq]; exact h
  have e3 : floatK (s.take q) = floatK s := by
    unfold floatK at hk ⊢
    rw [e1]
    by_cases h2 : s[lead s + 1]? = some 45
    · rw [if_pos h2] at hk ⊢; rw [if_pos (by rw [List.getElem?_take, if_pos (by omega)]; exact h2)]
    · rw [if_neg h2, if_neg (fun h3 => h2 (by
        rw [List.getElem?_take] at h3
        split at h3
        · exact h3
        · cases h3))]
  refine ⟨e1, e2, e3, ?_⟩
  unfold floatM
  rw [e3, List.drop_take, nDig_take]
  omega
theorem floatAt_some {pf : List UInt8 → Option Nat} {s : List UInt8} {r : Val × Nat} (h : floatAt pf s = some r) : s[lead s]? = some 112 ∧ ∃ j f, j < floatM s ∧ pf (s.take (floatK s + j + 1)) = some f ∧ r = (⟨3, 0, f, []⟩, floatK s + j + 1) ∧ ∀ i, j < i → i < floatM s → pf (s.take (floatK s + i + 1)) = none := by
  unfold floatAt at h
  split at h
  · rename_i hp
    rw [downF_eq] at h
    obtain ⟨j, h1, h2, h3⟩ := downG_some h
    unfold fltG at h2
    obtain ⟨f, hf, hr⟩ := Option.map_eq_some_iff.1 h2
    exact ⟨hp, j, f, h1, hf, hr.symm, fun i h4 h5 => by
      have := h3 i h4 h5
      unfold fltG at this
      exact Option.map_eq_none_iff.1 this⟩
  · cases h
theorem floatAt_take_some {pf : List UInt8 → Option Nat} {s : List UInt8} {v : Val} {n q : Nat} (h : floatAt pf s = some (v, n)) (hq : n ≤ q) : floatAt pf (s.take q) = some (v, n) := by
  obtain ⟨hp, j, f, h1, h2, h3, h4⟩ := floatAt_some h
  obtain ⟨b1, b2, b3⟩ := floatK_bd s hp
  have hn : n = floatK s + j + 1 := congrArg Prod.snd h3
  obtain ⟨e1, e2, e3, e4⟩ := floatK_take (q := q) hp (by omega) (by omega)
  unfold floatAt
  rw [if_pos e2, downF_eq, e3, e4]
  have ht : ∀ i, floatK s + i + 1 ≤ q → (s.take q).take (floatK s + i + 1) = s.take (floatK s + i + 1) := fun i hi => by rw [List.take_take, Nat.min_eq_left hi]
  refine downG_of (j := j) ?_ (by omega) fun i h5 h6 => ?_
  · rw [fltG, ht j (by omega), h2, h3]; rfl
  · rw [fltG, ht i (by omega), h4 i h5 (by omega)]; rfl
theorem floatAt_take_none {pf : List UInt8 → Option Nat} {s : List UInt8} (q : Nat) (h : floatAt pf s = none) : floatAt pf (s.take q) = none := by
  unfold floatAt
  split
  · rename_i hp
    have hlt : lead (s.take q) < (s.take q).length := (List.getElem?_eq_some_iff.1 hp).1
    rw [List.length_take, lead_take] at hlt
    have e1 : lead (s.take q) = lead s := by rw [lead_take]; omega
    have hp2 : s[lead s]? = some 112 := by
      rw [e1, List.getElem?_take] at hp
      split at hp
      · exact hp
      · cases hp
    unfold floatAt at h
    rw [if_pos hp2, downF_eq, downG_none] at h
    obtain ⟨c1, c2⟩ := floatM_bd _ hp
    obtain ⟨c3, c4, c5⟩ := floatK_bd _ hp
    have hlen := List.length_take_le q s
    rw [downF_eq, downG_none]
    intro i hi
    have hK : floatK (s.take q) + i + 1 ≤ q := by have := c2; rw [List.length_take] at this; omega
    have hk2 : floatK s ≤ q := by
      by_cases hk : floatK s ≤ q
      · exact hk
      · exfalso
        have h7 : floatK s ≤ lead s + 2 := by unfold floatK; split <;> omega
        have h8 : lead s + 1 ≤ floatK (s.take q) := by rw [← e1]; exact c3
        omega
    obtain ⟨_, _, e3, e4⟩ := floatK_take (q := q) hp2 (by omega) hk2
    have := h i (by rw [e4] at hi; omega)
    rw [fltG] at this ⊢
    rw [e3] at hK ⊢
    rw [List.take_take, Nat.min_eq_left hK]; exact this
  · rfl
theorem downI_some {s : List UInt8} {M : Nat} {r : Val × Nat} (h : downI s M = some r) : ∃ j v, j < M ∧ parseI (s.take (j + 1)) = some v ∧ Lib.itoa v = s.take (j + 1) ∧ r = (⟨2, v, 0, []⟩, j + 1) ∧ ∀ i, j < i → i < M → intG s i = none := by
  rw [downI_eq] at h
  obtain ⟨j, h1, h2, h3⟩ := downG_some h
  unfold intG at h2
  obtain ⟨v, hv, hr⟩ := Option.bind_eq_some_iff.1 h2
  split at hr
  · rename_i hi; cases hr; exact ⟨j, v, h1, hv, hi, rfl, h3⟩
  · cases hr
theorem downI_take {s : List UInt8} {v : Val} {n q : Nat} (h : downI s (min (lead s) 20) = some (v, n)) (hq : n ≤ q) : downI (s.take q) (min (lead (s.take q)) 20) = some (v, n) := by
  obtain ⟨j, u, h1, h2, h3, h4, h5⟩ := downI_some h
  have hn : n = j + 1 := congrArg Prod.snd h4
  have ht : ∀ i, i + 1 ≤ q → (s.take q).take (i + 1) = s.take (i + 1) := fun i hi => by rw [List.take_take, Nat.min_eq_left hi]
  rw [downI_eq, lead_take]
  refine downG_of (j := j) ?_ (by omega) fun i h6 h7 => ?_
  · rw [intG, ht j (by omega), h2, Option.bind_some, if_pos h3, h4]
  · have := h5 i h6 (by omega)
    unfold intG at this ⊢
    rw [ht i (by omega)]; exact this
theorem readV_take {pf : List UInt8 → Option Nat} {s : List UInt8} {v : Val} {n q : Nat} (h : readV pf uqV s = some (v, n)) (hq : n ≤ q) : readV pf uqV (s.take q) = some (v, n) := by
  unfold readV at h ⊢
  have hmono : ∀ y, Lib.hasPrefix (s.take q) y = true → Lib.hasPrefix s y = true := fun y hy => by rw [pre_take, Bool.and_eq_true] at hy; exact hy.1
  by_cases h0 : Lib.hasPrefix s [39] = true
  · rw [if_pos h0] at h
    by_cases hz : (uqV s).2 = 0
    · rw [if_pos hz] at h; cases h
    · rw [if_neg hz] at h; cases h
      have := uqV_len hz
      rw [if_pos (pre_take_t h0 (by simp; omega)), uqV_take hz hq, if_neg hz]
  · have h0' : Lib.hasPrefix s [39] = false := by simpa using h0
    rw [if_neg h0] at h
    rw [pre_take_f q h0', if_neg (show ¬ (false = true) by decide)]
    by_cases h1 : Lib.hasPrefix s wNull = true
    · rw [if_pos h1] at h; cases h; rw [if_pos (pre_take_t h1 hq)]
    · have h1' : Lib.hasPrefix s wNull = false := by simpa using h1
      rw [if_neg h1] at h
      rw [pre_take_f q h1', if_neg (show ¬ (false = true) by decide)]
      by_cases h2 : Lib.hasPrefix s wFalse = true
      · rw [if_pos h2] at h; cases h; rw [if_pos (pre_take_t h2 hq)]
      · have h2' : Lib.hasPrefix s wFalse = false := by simpa using h2
        rw [if_neg h2] at h
        rw [pre_take_f q h2', if_neg (show ¬ (false = true) by decide)]
        by_cases h3 : Lib.hasPrefix s wTrue = true
        · rw [if_pos h3] at h; cases h; rw [if_pos (pre_take_t h3 hq)]
        · have h3' : Lib.hasPrefix s wTrue = false := by simpa using h3
          rw [if_neg h3] at h
          rw [pre_take_f q h3', if_neg (show ¬ (false = true) by decide)]
          cases hf : words3.find? (fun x => Lib.hasPrefix s x) with
          | some x =>
            rw [hf] at h; cases h
            have hx := List.find?_some hf
            rw [find_take hmono (pre_take_t hx hq) hf]
          | none =>
            rw [hf] at h
            rw [find_none hmono hf]
            cases hg : floatAt pf s with
            | some r => rw [hg] at h; cases h; rw [floatAt_take_some hg hq]
            | none =>
              rw [hg] at h
              rw [floatAt_take_none q hg]
              exact downI_take h hq
theorem pre_len {s w : List UInt8} (h : Lib.hasPrefix s w = true) : w.length ≤ s.length := ((pre_iff _ _).1 h).length_le
theorem readV_len {pf : List UInt8 → Option Nat} {s : List UInt8} {v : Val} {n : Nat} (h : readV pf uqV s = some (v, n)) : 0 < n ∧ n ≤ s.length := by
  unfold readV at h
  split at h
  · split at h
    · cases h
    · rename_i hz; cases h; have := uqV_len hz; omega
  · split at h
    · rename_i h1; cases h; exact ⟨by decide, pre_len h1⟩
    · split at h
      · rename_i h1; cases h; exact ⟨by decide, pre_len h1⟩
      · split at h
        · rename_i h1; cases h; exact ⟨by decide, pre_len h1⟩
        · split at h
          · rename_i x hx; cases h
            refine ⟨?_, pre_len (List.find?_some hx)⟩
            have := List.mem_of_find?_eq_some hx
            simp only [words3, List.mem_cons, List.not_mem_nil, or_false] at this
            rcases this with rfl | rfl | rfl <;> decide
          · split at h
            · rename_i r hr; cases h
              obtain ⟨hp, j, f, h1, h2, h3, h4⟩ := floatAt_some hr
              have := floatM_bd s hp
              have hn : n = floatK s + j + 1 := congrArg Prod.snd h3
              omega
            · obtain ⟨j, u, h1, h2, h3, h4, h5⟩ := downI_some h
              have hn : n = j + 1 := congrArg Prod.snd h4
              have := lead_le s
              omega
theorem okV {k n : Int} {f : Nat} {s : List UInt8} (h0 : -9223372036854775808 ≤ n) (h1 : n ≤ 9223372036854775807) (h2 : f < 18446744073709551616) : (⟨k, n, f, s⟩ : Val).Ok := ⟨h0, h1, h2⟩
theorem readV_ok {s : List UInt8} {v : Val} {n : Nat} (h : readV pf uqV s = some (v, n)) : v.Ok := by
  have o0 : nullV.Ok := okV (by decide) (by decide) (by decide)
  have o1 : ∀ b, (truthV b).Ok := fun b => by cases b <;> exact okV (by decide) (by decide) (by decide)
  have of : ∀ x f, pf x = some f → (⟨3, 0, f, []⟩ : Val).Ok := fun x f hf => okV (by decide) (by decide) (pf_some hf).1.lt
  unfold readV at h
  split at h
  · split at h
    · cases h
    · cases h; exact okV (by decide) (by decide) (by decide)
  · split at h
    · cases h; exact o0
    · split at h
      · cases h; exact o1 _
      · split at h
        · cases h; exact o1 _
        · split at h
          · rename_i x hx; cases h
            cases hp : pf x with
            | none => exact okV (by decide) (by decide) (by decide)
            | some f => exact of x f hp
          · split at h
            · rename_i r hr; cases h
              obtain ⟨hp, j, f, h1, h2, h3, h4⟩ := floatAt_some hr
              have hv : v = ⟨3, 0, f, []⟩ := congrArg Prod.fst h3
              subst hv; exact of _ f h2
            · obtain ⟨j, u, h1, h2, h3, h4, h5⟩ := downI_some h
              have hv : v = ⟨2, u, 0, []⟩ := congrArg Prod.fst h4
              subst hv
              have := parseI_bd h2
              exact okV this.1 this.2 (by decide)
/-- Read, whole -/
theorem callees {s : List UInt8} (hs : s.length ≤ 140737488355328) : Callees pf uqV s where
  unq := fun _ w _ => unquoted_r s hs w
  word := fun x hx _ w hL => Parse_r x (by
    simp only [words3, List.mem_cons, List.not_mem_nil, or_false] at hx
    rcases hx with rfl | rfl | rfl <;> decide) w hL
  prs := fun e _ w hL => Parse_r _ (by have := List.length_take_le e s; have := List.length_take_le' e s; omega) w hL
theorem Read_w (s : List UInt8) (hs : s.length ≤ 140737488355328) (w : World) (hL : Lb w) : Ret Tryz.prog 96 [str s] w fun v w' => v = rdV (readV pf uqV s) ∧ Below w.heap.size w w' :=
  Read_r pf uqV s (by omega) (callees hs) w hL
def RdIs (r : Option (Val × Nat)) (u : Val) (n : Nat) (ok : Bool) : Prop := (ok = true ∧ r = some (u, n)) ∨ (ok = false ∧ r = none ∧ u = nullV ∧ n = 0)
theorem Read_x (s : List UInt8) (hs : s.length ≤ 140737488355328) (w : World) (hL : Lb w) : Ret Tryz.prog 96 [str s] w fun v w' => (∃ u n ok, v = .tuple #[Val.enc u, .int .i64 (n : Nat), .bool ok] ∧ RdIs (readV pf uqV s) u n ok) ∧ Below w.heap.size w w' :=
  (Read_w s hs w hL).mono fun v w' ⟨h1, h2⟩ => ⟨by
    subst h1
    cases h : readV pf uqV s with
    | none => exact ⟨nullV, 0, false, rfl, .inr ⟨rfl, rfl, rfl, rfl⟩⟩
    | some r => exact ⟨r.1, r.2, true, rfl, .inl ⟨rfl, rfl⟩⟩, h2⟩
theorem readV_more {s : List UInt8} {v : Val} {n : Nat} (y : List UInt8) {c : UInt8} (hc : Stop c) (h : readV pf uqV s = some (v, n)) : readV pf uqV (s ++ c :: y) = some (v, n) := by
  by_cases h0 : Lib.hasPrefix s [39] = true
  · have hz : (uqV s).2 ≠ 0 := fun hz => by unfold readV at h; rw [if_pos h0, if_pos hz] at h; cases h
    have h1 : Lib.hasPrefix (s ++ c :: y) [39] = true := by rw [pre_iff] at h0 ⊢; exact h0.trans (List.prefix_append _ _)
    unfold readV at h ⊢
    rw [if_pos h0] at h
    rw [if_pos h1, uqV_app (c :: y) hz]; exact h
  · rw [readV_app pf uqV s y hc (by simpa using h0)]; exact h
theorem sameV_self (x : Val) : sameV x x = true := by unfold sameV; simp
end Go.Proofs.YtjmlknjbhbfneaaGreatDoor
