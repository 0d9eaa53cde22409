/- strings.Builder: WriteByte; value.unquoted. -/
import Derived.Test.YtcljmclolpgdmaaGreatDoorPrsC
import Derived.Lib.Builder
namespace Go.Bw
open Go.RowKit
set_option linter.unusedVariables false
set_option linter.unusedSimpArgs false
section
variable {P : Program} {N : Nat} {D : List Deferred} {env : Env} {w : World} {ty : TypeId}
theorem y_ptr0 {x : Operand} {t te u : TypeId} {j : TypeInfo} (hp : P.underlying t = some (.pointer te)) (hj : P.info? te = some j) (hx : ev env x = some (.pointer none)) : Yl P N D env (.binOp .eql t x (.const (.pointer none)) u) ty (.bool true) := fun a ha w dst pos af g => by
  have he : a.eval (.const (.pointer none)) = .pointer none := rfl
  have h : ∀ d : Nat, (Op.equalIn (d + 1) t (.pointer none) (.pointer none)).run P w = .ok true w := fun d => by simp [Op.equalIn, run_underlying hp, sizeOf, typeInfo, hj]
  have h1 : (binOp .eql t (.pointer none) (.pointer none)).run P w = .ok (.bool true) w := by
    simp only [binOp]; simp [Op.equal, Op.maxDepth, h 9999]
  simp [execOp, ha.eval hx, eqGuard_at_pointer, he, h1]
theorem y_ptr1 {x : Operand} {t te u : TypeId} {j : TypeInfo} {p : Addr} (hp : P.underlying t = some (.pointer te)) (hj : P.info? te = some j) (hx : ev env x = some (.pointer (some p))) : Yl P N D env (.binOp .eql t x (.const (.pointer none)) u) ty (.bool false) := fun a ha w dst pos af g => by
  have he : a.eval (.const (.pointer none)) = .pointer none := rfl
  have h : ∀ d : Nat, (Op.equalIn (d + 1) t (.pointer (some p)) (.pointer none)).run P w = .ok false w := fun d => by simp [Op.equalIn, run_underlying hp, sizeOf, typeInfo, hj]
  have h1 : (binOp .eql t (.pointer (some p)) (.pointer none)).run P w = .ok (.bool false) w := by
    simp only [binOp]; simp [Op.equal, Op.maxDepth, h 9999]
  simp [execOp, ha.eval hx, eqGuard_at_pointer, he, h1]
theorem y_noEscape {x : Operand} {f : FuncId} {y : Operand} {ts : Array TypeId} {p : Option Addr} (he : Extn P f Extern.AbiNoEscape.same) (hx : ev env x = some (.func (.func f) #[] #[])) (hy : evs env [y] = some [.pointer p]) : Yl P N D env (.call ⟨.value x, #[y], ts⟩) ty (.pointer p) :=
  y_extV he hx hy (fun w => rfl)
theorem y_ptrSame {x y : Operand} {t te u : TypeId} {j : TypeInfo} {p : Addr} (hp : P.underlying t = some (.pointer te)) (hj : P.info? te = some j) (hx : ev env x = some (.pointer (some p))) (hy : ev env y = some (.pointer (some p))) : Yl P N D env (.binOp .neq t x y u) ty (.bool false) := fun a ha w dst pos af g => by
  simp [execOp, ha.eval hx, ha.eval hy, eqGuard_at_pointer, Lib.run_neq_ptr_same w p hp hj]
theorem l_toUnsafe {x : Operand} {src dst t e : TypeId} {j : TypeInfo} {cells : Nat} {p : Addr} (hs : P.underlying src = some (.pointer t)) (hd : P.underlying dst = some .unsafePointer) (ht : P.info? t = some j) (hj : j.size ≠ 0) (hsh : w.shape? p.block = some (e, cells)) (hoff : p.off < cells) (hx : ev env x = some (.pointer (some p))) :
    Ld P N D env w (.convert src dst x) ty (.pointer (some p)) := fun a ha dst' pos af g => by
  simp [execOp, ha.eval hx, Lib.run_to_unsafe w p hs hd ht hj hsh hoff]
theorem l_fromUnsafe {x : Operand} {src dst u e : TypeId} {j : TypeInfo} {cells : Nat} {p : Addr} (hs : P.underlying src = some .unsafePointer) (hd : P.underlying dst = some (.pointer u)) (hu : P.info? u = some j) (hsh : w.shape? p.block = some (e, cells)) (hl : liesAt P P.depth e (cells / P.cellsOf e) p.off u 1 = true) (hx : ev env x = some (.pointer (some p))) :
    Ld P N D env w (.convert src dst x) ty (.pointer (some p)) := fun a ha dst' pos af g => by
  simp [execOp, ha.eval hx, Lib.run_from_unsafe w p hs hd hu hsh hl]
end
end Go.Bw
namespace Go.Proofs.YtcljmclolpgdmaaGreatDoor
open Go.RowKit Go.Bw Go.Bw.Fl
set_option linter.unusedVariables false
set_option linter.unusedSimpArgs false
theorem exn166Bld : Extn Tryz.prog 166 Extern.AbiNoEscape.same := fun args w => run_callFunc_extern Tryz.func166 (by kernel_rfl) (by kernel_rfl) (by kernel_rfl) (by kernel_rfl) args w
theorem fa111_0Bld (p : Addr) (w : World) : (Instr.fieldAt 111 (.pointer (some p)) 0).run Tryz.prog w = .ok (.pointer (some (p.add 0))) w := run_fieldAt (i := 0) (sz := 0) Tryz.underlying111 rfl (by kernel_rfl) p w
theorem fa111_1Bld (p : Addr) (w : World) : (Instr.fieldAt 111 (.pointer (some p)) 1).run Tryz.prog w = .ok (.pointer (some (p.add 1))) w := run_fieldAt (i := 1) (sz := 0) Tryz.underlying111 rfl (by kernel_rfl) p w
theorem one106Bld : One Tryz.prog 106 := ⟨_, Tryz.underlying106, rfl, by kernel_rfl⟩
theorem one109Bld : One Tryz.prog 109 := ⟨_, Tryz.underlying109, rfl, by kernel_rfl⟩
theorem txt132Bld : Txt Tryz.prog 132 := ⟨_, Tryz.func132, by kernel_rfl, rfl⟩   -- (*strings.Builder).copyCheck
theorem infoB : ∃ j, Tryz.prog.info? 111 = some j ∧ j.size ≠ 0 := by
  have h : (Tryz.prog.info? 111).map (·.size) = some 2 := by kernel_rfl
  obtain ⟨j, hj, hs⟩ := Option.map_eq_some_iff.1 h
  exact ⟨j, hj, by rw [hs]; decide⟩
theorem liesB : liesAt Tryz.prog Tryz.prog.depth 111 (2 / Tryz.prog.cellsOf 111) 0 111 1 = true := by kernel_rfl
theorem onePB : One Tryz.prog 109 := ⟨_, Tryz.underlying109, rfl, by kernel_rfl⟩
theorem copy_used (b : Nat) (w : World) (h0 : w.cell? ⟨b, 0, none⟩ = some (.pointer (some ⟨b, 0, none⟩))) : Ret Tryz.prog 132 [.pointer (some ⟨b, 0, none⟩)] w fun v w' => v = .tuple #[] ∧ w' = w := by
  obtain ⟨j, hj, hjs⟩ := infoB
  refine enter Tryz.func132 rfl rfl rfl ?_
  refine Wc.seq fun _ hK_1 => ?_
  refine Wc.region ?_
  refine Wl.y (y_move rfl) rfl ?_
  refine Wl.y (y_nilCheck rfl) rfl ?_
  refine Wl.y (y_fieldAddr (fa111_0Bld _) rfl) rfl ?_
  refine Wl.l (l_load one109Bld rfl (h0)) rfl ?_
  refine Wl.y (y_ptr1 Tryz.underlying109 hj rfl) rfl ?_
  refine Wl.nil ?_
  refine Wq.next hK_1 ?_
  refine Wc.cond rfl (fun c0_7 => ?_) (fun c0_7 => ?_)
  ·
   have c0_7_ := c0_7
   try simp only [decide_eq_true_eq, decide_eq_false_iff_not, beq_iff_eq, beq_eq_false_iff_ne, bne_iff_ne, bne_eq_false_iff_eq, Bool.not_eq_true', Bool.not_eq_false', Bool.not_eq_eq_eq_not, Bool.not_true, Bool.not_false, ne_eq, Int.not_lt, Int.not_le] at c0_7
   cases c0_7
  ·
   have c0_7_ := c0_7
   try simp only [decide_eq_true_eq, decide_eq_false_iff_not, beq_iff_eq, beq_eq_false_iff_ne, bne_iff_ne, bne_eq_false_iff_eq, Bool.not_eq_true', Bool.not_eq_false', Bool.not_eq_eq_eq_not, Bool.not_true, Bool.not_false, ne_eq, Int.not_lt, Int.not_le] at c0_7
   refine Wc.seq fun _ hK_8 => ?_
   refine Wc.region ?_
   refine Wl.y (y_move rfl) rfl ?_
   refine Wl.y (y_nilCheck rfl) rfl ?_
   refine Wl.y (y_fieldAddr (fa111_0Bld _) rfl) rfl ?_
   refine Wl.l (l_load one109Bld rfl (h0)) rfl ?_
   refine Wl.y (y_move rfl) rfl ?_
   refine Wl.y (y_ptrSame Tryz.underlying109 hj rfl rfl) rfl ?_
   refine Wl.nil ?_
   refine Wq.next hK_8 ?_
   refine Wc.cond rfl (fun c1_15 => ?_) (fun c1_15 => ?_)
   ·
    have c1_15_ := c1_15
    try simp only [decide_eq_true_eq, decide_eq_false_iff_not, beq_iff_eq, beq_eq_false_iff_ne, bne_iff_ne, bne_eq_false_iff_eq, Bool.not_eq_true', Bool.not_eq_false', Bool.not_eq_eq_eq_not, Bool.not_true, Bool.not_false, ne_eq, Int.not_lt, Int.not_le] at c1_15
    cases c1_15
   ·
    have c1_15_ := c1_15
    try simp only [decide_eq_true_eq, decide_eq_false_iff_not, beq_iff_eq, beq_eq_false_iff_ne, bne_iff_ne, bne_eq_false_iff_eq, Bool.not_eq_true', Bool.not_eq_false', Bool.not_eq_eq_eq_not, Bool.not_true, Bool.not_false, ne_eq, Int.not_lt, Int.not_le] at c1_15
    refine Wc.skip ?_
    refine end0 rfl ?_
    exact ⟨_, rfl, rfl, rfl⟩
theorem copy_fresh (b : Nat) (w : World) (h0 : w.cell? ⟨b, 0, none⟩ = some (.pointer none)) (hsh : w.shape? b = some (111, 2)) (hfz : w.frozen? ⟨b, 0, none⟩ = false) : Ret Tryz.prog 132 [.pointer (some ⟨b, 0, none⟩)] w fun v w' => v = .tuple #[] ∧ w' = w.setCell ⟨b, 0, none⟩ (.pointer (some ⟨b, 0, none⟩)) := by
  obtain ⟨j, hj, hjs⟩ := infoB
  refine enter Tryz.func132 rfl rfl rfl ?_
  refine Wc.seq fun _ hK_1 => ?_
  refine Wc.region ?_
  refine Wl.y (y_move rfl) rfl ?_
  refine Wl.y (y_nilCheck rfl) rfl ?_
  refine Wl.y (y_fieldAddr (fa111_0Bld _) rfl) rfl ?_
  refine Wl.l (l_load one109Bld rfl (h0)) rfl ?_
  refine Wl.y (y_ptr0 Tryz.underlying109 hj rfl) rfl ?_
  refine Wl.nil ?_
  refine Wq.next hK_1 ?_
  refine Wc.cond rfl (fun c0_7 => ?_) (fun c0_7 => ?_)
  ·
   have c0_7_ := c0_7
   try simp only [decide_eq_true_eq, decide_eq_false_iff_not, beq_iff_eq, beq_eq_false_iff_ne, bne_iff_ne, bne_eq_false_iff_eq, Bool.not_eq_true', Bool.not_eq_false', Bool.not_eq_eq_eq_not, Bool.not_true, Bool.not_false, ne_eq, Int.not_lt, Int.not_le] at c0_7
   refine Wc.region ?_
   refine Wl.y (y_move rfl) rfl ?_
   refine Wl.y (y_move rfl) rfl ?_
   refine Wl.l (l_toUnsafe (p := ⟨b, 0, none⟩) Tryz.underlying109 Tryz.underlying184 hj hjs hsh (Nat.zero_lt_succ 1) rfl) rfl ?_
   refine Wl.y (y_noEscape exn166Bld rfl rfl) rfl ?_
   refine Wl.l (l_fromUnsafe (p := ⟨b, 0, none⟩) Tryz.underlying184 Tryz.underlying109 hj hsh liesB rfl) rfl ?_
   refine Wl.y (y_nilCheck rfl) rfl ?_
   refine Wl.y (y_fieldAddr (fa111_0Bld _) rfl) rfl ?_
   refine Wl.s (s_store (p := ⟨b, 0, none⟩) onePB rfl rfl rfl h0 hfz) ?_
   refine Wl.nil ?_
   refine end0 rfl ?_
   exact ⟨_, rfl, rfl, rfl⟩
  ·
   have c0_7_ := c0_7
   try simp only [decide_eq_true_eq, decide_eq_false_iff_not, beq_iff_eq, beq_eq_false_iff_ne, bne_iff_ne, bne_eq_false_iff_eq, Bool.not_eq_true', Bool.not_eq_false', Bool.not_eq_eq_eq_not, Bool.not_true, Bool.not_false, ne_eq, Int.not_lt, Int.not_le] at c0_7
   cases c0_7
theorem copyCheck_r (B b : Nat) (bs : List Value) (w : World) (h : Lib.IsBuilder 111 5 B b bs w) : Ret Tryz.prog 132 [.pointer (some ⟨b, 0, none⟩)] w fun v w' => v = .tuple #[] ∧ Lib.BuilderAt 111 5 B b (.pointer (some ⟨b, 0, none⟩)) bs w' ∧ Below B w w' := by
  rcases h with h | h
  · exact (copy_fresh b w h.cell0 h.shape h.frozen0).mono fun v w' ⟨h1, h2⟩ => ⟨h1, by subst h2; exact ⟨h.used _, (Below.refl B w).setCell (p := ⟨b, 0, none⟩) h.1 _⟩⟩
  · exact (copy_used b w h.cell0).mono fun v w' ⟨h1, h2⟩ => ⟨h1, by subst h2; exact ⟨h, Below.refl B _⟩⟩
theorem oneBuf : One Tryz.prog 106 := ⟨_, Tryz.underlying106, rfl, by kernel_rfl⟩
theorem byteCells_snoc (l : List UInt8) (c : UInt8) : Lib.byteCells (l ++ [c]) = Lib.byteCells l ++ [.int .u8 c.toNat] := by simp [Lib.byteCells]
theorem WriteByte_r (B b : Nat) (l : List UInt8) (c : UInt8) (w : World) (h : Lib.IsBuilder 111 5 B b (Lib.byteCells l) w) (hl : l.length + 1 ≤ 140737488355328) (hBw : B ≤ w.heap.size) : Ret Tryz.prog 81 [.pointer (some ⟨b, 0, none⟩), .int .u8 (c.toNat : Int)] w fun v w' => v = .nilIface ∧ Lib.IsBuilder 111 5 B b (Lib.byteCells (l ++ [c])) w' ∧ Below B w w' := by
  have hbl : (Lib.byteCells l).length = l.length := Lib.byteCells_length l
  refine enter Tryz.func81 rfl rfl rfl ?_
  refine Wc.seq fun _ hK_1 => ?_
  refine Wc.region ?_
  refine Wl.y (y_assign rfl) rfl ?_
  refine Wl.nil ?_
  refine Wq.next hK_1 ?_
  refine Wc.seq fun _ hK_3 => ?_
  refine Wc.region ?_
  refine Wl.y (y_move rfl) rfl ?_
  refine Wl.call txt132Bld rfl rfl (copyCheck_r B b _ _ h) rfl ?_
  rintro _ w1 ⟨rfl, hA, hb1⟩
  refine Wl.nil ?_
  refine Wq.next hK_3 ?_
  refine Wc.seq fun _ hK_6 => ?_
  obtain ⟨hB, v, hbk, hown, hne⟩ := hA
  have c1 : w1.cell? ⟨b, 1, none⟩ = some v := by rw [Lib.cell_of_heap hbk]; rfl
  have hsz1 := hb1.size
  refine Wc.region ?_
  refine Wl.y (y_move rfl) rfl ?_
  refine Wl.y (y_move rfl) rfl ?_
  refine Wl.y (y_nilCheck rfl) rfl ?_
  refine Wl.y (y_fieldAddr (fa111_1Bld _) rfl) rfl ?_
  refine Wl.l (l_load one106Bld rfl (c1)) rfl ?_
  refine Wl.y (y_move rfl) rfl ?_
  refine Wl.litN (sz := 1) (vs := [_]) Tryz.underlying106 (by kernel_rfl) rfl rfl rfl rfl rfl rfl ?_
  rintro g1 w2 hg1 hB1 hs1
  have hown2 := own_below hown hs1
  have hsz2 := hs1.size
  refine Wl.append (z := .int .u8 0) (sz := 1) (bytes := 1) (news := [.int .u8 (c.toNat : Int)]) Tryz.underlying106 (by kernel_rfl) rfl (by decide) B rfl hown2 rfl (Rd.of_own (hB1.own (base := B) (n := 1) (sz := 1) (by omega) rfl (by decide))) (fun u hu => by rw [List.mem_singleton.1 hu]; rfl) (by unfold maxLen; omega) (by omega) (by omega) rfl ?_
  rintro v3 w3 hown3 hgr _
  have hlt : b < w1.heap.size := by
    rcases Nat.lt_or_ge b w1.heap.size with h' | h'
    · exact h'
    · simp [Array.getElem?_eq_none h'] at hbk
  have hb3 : w3.heap[b]? = some (.cells #[.pointer (some ⟨b, 0, none⟩), v] 111 (0, 0)) := by rw [hgr.block b (by omega) (fun e => hne e.symm), hs1.block b hlt]; exact hbk
  obtain ⟨A3, cc3, hv3, _, _⟩ := own_form hown3
  have hone : v3.oneCell' = true := by rw [hv3]; rfl
  have hb13 : Below B w w3 := (hb1.trans (hs1.mono (by omega))).grown hgr (by omega) (fun k hk => (own_ge hown2 k hk).1)
  refine Wl.y (y_nilCheck rfl) rfl ?_
  refine Wl.y (y_fieldAddr (fa111_1Bld _) rfl) rfl ?_
  refine Wl.s (s_store (p := ⟨b, 1, none⟩) oneBuf rfl rfl hone (by rw [Lib.cell_of_heap hb3]; rfl) (Lib.frozen_of_heap hb3 1)) ?_
  refine Wl.nil ?_
  refine Wq.next hK_6 ?_
  refine Wc.seq fun _ hK_17 => ?_
  refine Wc.region ?_
  refine Wl.y (y_assign rfl) rfl ?_
  refine Wl.nil ?_
  refine Wq.next hK_17 ?_
  refine Wc.ret ?_
  refine ret1 rfl rfl ?_
  exact ⟨_, rfl, rfl, .inr (by rw [byteCells_snoc]; exact Lib.BuilderAt.put hB hb3 (by simpa using hown3) (by decide)), hb13.setCell (p := ⟨b, 1, none⟩) hB _⟩
