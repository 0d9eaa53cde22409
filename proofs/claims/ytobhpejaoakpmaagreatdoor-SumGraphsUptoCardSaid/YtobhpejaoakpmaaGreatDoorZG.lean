/- strings.Builder: WriteByte; value.unquoted. · value.unquoted. · Plain: what Read tells leans on no byte behind the value, but for its first one. -/
import Derived.Test.YtobhpejaoakpmaaGreatDoorZF
import Derived.Lib.Builder
namespace Go.Bw
open Go.RowKit
set_option linter.unusedVariables false
set_option linter.unusedSimpArgs false
section
variable {P : Program} {N : Nat} {D : List Deferred} {env : Env} {w : World} {ty : TypeId}
theorem y_ptr0 {x : Operand} {t te u : TypeId} {j : TypeInfo} (hp : P.underlying t = some (.pointer te)) (hj : P.info? te = some j) (hx : ev env x = some (.pointer none)) : Yl P N D env (.binOp .eql t x (.const (.pointer none)) u) ty (.bool true) := fun a ha w dst pos af g => by
  have he : a.eval (.const (.pointer none)) = .pointer none := rfl
  have h : ∀ d : Nat, (Op.equalIn (d + 1) t (.pointer none) (.pointer none)).run P w = .ok true w := fun d => by simp [Op.equalIn, run_underlying hp, sizeOf, typeInfo, hj]
  have h1 : (binOp .eql t (.pointer none) (.pointer none)).run P w = .ok (.bool true) w := by
    simp only [binOp]; simp [Op.equal, Op.maxDepth, h 9999]
  simp [execOp, ha.eval hx, eqGuard_at_pointer, he, h1]
theorem y_ptr1 {x : Operand} {t te u : TypeId} {j : TypeInfo} {p : Addr} (hp : P.underlying t = some (.pointer te)) (hj : P.info? te = some j) (hx : ev env x = some (.pointer (some p))) : Yl P N D env (.binOp .eql t x (.const (.pointer none)) u) ty (.bool false) := fun a ha w dst pos af g => by
  have he : a.eval (.const (.pointer none)) = .pointer none := rfl
  have h : ∀ d : Nat, (Op.equalIn (d + 1) t (.pointer (some p)) (.pointer none)).run P w = .ok false w := fun d => by simp [Op.equalIn, run_underlying hp, sizeOf, typeInfo, hj]
  have h1 : (binOp .eql t (.pointer (some p)) (.pointer none)).run P w = .ok (.bool false) w := by
    simp only [binOp]; simp [Op.equal, Op.maxDepth, h 9999]
  simp [execOp, ha.eval hx, eqGuard_at_pointer, he, h1]
theorem y_noEscape {x : Operand} {f : FuncId} {y : Operand} {ts : Array TypeId} {p : Option Addr} (he : Extn P f Extern.AbiNoEscape.same) (hx : ev env x = some (.func (.func f) #[] #[])) (hy : evs env [y] = some [.pointer p]) : Yl P N D env (.call ⟨.value x, #[y], ts⟩) ty (.pointer p) :=
  y_extV he hx hy (fun w => rfl)
theorem y_ptrSame {x y : Operand} {t te u : TypeId} {j : TypeInfo} {p : Addr} (hp : P.underlying t = some (.pointer te)) (hj : P.info? te = some j) (hx : ev env x = some (.pointer (some p))) (hy : ev env y = some (.pointer (some p))) : Yl P N D env (.binOp .neq t x y u) ty (.bool false) := fun a ha w dst pos af g => by
  simp [execOp, ha.eval hx, ha.eval hy, eqGuard_at_pointer, Lib.run_neq_ptr_same w p hp hj]
theorem l_toUnsafe {x : Operand} {src dst t e : TypeId} {j : TypeInfo} {cells : Nat} {p : Addr} (hs : P.underlying src = some (.pointer t)) (hd : P.underlying dst = some .unsafePointer) (ht : P.info? t = some j) (hj : j.size ≠ 0) (hsh : w.shape? p.block = some (e, cells)) (hoff : p.off < cells) (hx : ev env x = some (.pointer (some p))) :
    Ld P N D env w (.convert src dst x) ty (.pointer (some p)) := fun a ha dst' pos af g => by
  simp [execOp, ha.eval hx, Lib.run_to_unsafe w p hs hd ht hj hsh hoff]
theorem l_fromUnsafe {x : Operand} {src dst u e : TypeId} {j : TypeInfo} {cells : Nat} {p : Addr} (hs : P.underlying src = some .unsafePointer) (hd : P.underlying dst = some (.pointer u)) (hu : P.info? u = some j) (hsh : w.shape? p.block = some (e, cells)) (hl : liesAt P P.depth e (cells / P.cellsOf e) p.off u 1 = true) (hx : ev env x = some (.pointer (some p))) :
    Ld P N D env w (.convert src dst x) ty (.pointer (some p)) := fun a ha dst' pos af g => by
  simp [execOp, ha.eval hx, Lib.run_from_unsafe w p hs hd hu hsh hl]
end
end Go.Bw
namespace Go.Proofs.YtobhpejaoakpmaaGreatDoor
open Go.RowKit Go.Bw Go.Bw.Fl
set_option linter.unusedVariables false
set_option linter.unusedSimpArgs false
theorem exn104Bld : Extn Tryz.prog 104 Extern.AbiNoEscape.same := fun args w => run_callFunc_extern Tryz.func104 (by kernel_rfl) (by kernel_rfl) (by kernel_rfl) (by kernel_rfl) args w
theorem fa73_0Bld (p : Addr) (w : World) : (Instr.fieldAt 73 (.pointer (some p)) 0).run Tryz.prog w = .ok (.pointer (some (p.add 0))) w := run_fieldAt (i := 0) (sz := 0) Tryz.underlying73 rfl (by kernel_rfl) p w
theorem one71Bld : One Tryz.prog 71 := ⟨_, Tryz.underlying71, rfl, by kernel_rfl⟩
theorem infoB : ∃ j, Tryz.prog.info? 73 = some j ∧ j.size ≠ 0 := by
  have h : (Tryz.prog.info? 73).map (·.size) = some 2 := by kernel_rfl
  obtain ⟨j, hj, hs⟩ := Option.map_eq_some_iff.1 h
  exact ⟨j, hj, by rw [hs]; decide⟩
theorem liesB : liesAt Tryz.prog Tryz.prog.depth 73 (2 / Tryz.prog.cellsOf 73) 0 73 1 = true := by kernel_rfl
theorem onePB : One Tryz.prog 71 := ⟨_, Tryz.underlying71, rfl, by kernel_rfl⟩
theorem copy_used (b : Nat) (w : World) (h0 : w.cell? ⟨b, 0, none⟩ = some (.pointer (some ⟨b, 0, none⟩))) : Ret Tryz.prog 68 [.pointer (some ⟨b, 0, none⟩)] w fun v w' => v = .tuple #[] ∧ w' = w := by
  obtain ⟨j, hj, hjs⟩ := infoB
  refine enter Tryz.func68 rfl rfl rfl ?_
  refine Wc.seq fun _ hK_1 => Wc.region <| Wl.mv rfl rfl <| Wl.y (y_nilCheck rfl) rfl ?_
  refine Wl.y (y_fieldAddr (fa73_0Bld _) rfl) rfl ?_
  refine Wl.l (l_load one71Bld rfl (h0)) rfl ?_
  refine Wl.y (y_ptr1 Tryz.underlying71 hj rfl) rfl ?_
  refine Wl.nil <| Wq.next hK_1 ?_
  refine Wc.cond rfl (fun c0_7 => ?_) (fun c0_7 => ?_)
  ·
   have c0_7_ := c0_7
   try simp only [DZ] at c0_7
   cases c0_7
  have c0_7_ := c0_7
  try simp only [DZ] at c0_7
  refine Wc.seq fun _ hK_8 => Wc.region <| Wl.mv rfl rfl <| Wl.y (y_nilCheck rfl) rfl ?_
  refine Wl.y (y_fieldAddr (fa73_0Bld _) rfl) rfl ?_
  refine Wl.l (l_load one71Bld rfl (h0)) rfl ?_
  refine Wl.mv rfl rfl ?_
  refine Wl.y (y_ptrSame Tryz.underlying71 hj rfl rfl) rfl ?_
  refine Wl.nil <| Wq.next hK_8 ?_
  refine Wc.cond rfl (fun c1_15 => ?_) (fun c1_15 => ?_)
  ·
   have c1_15_ := c1_15
   try simp only [DZ] at c1_15
   cases c1_15
  have c1_15_ := c1_15
  try simp only [DZ] at c1_15
  refine Wc.skip ?_
  refine end0 rfl ?_
  exact ⟨_, rfl, rfl, rfl⟩
theorem copy_fresh (b : Nat) (w : World) (h0 : w.cell? ⟨b, 0, none⟩ = some (.pointer none)) (hsh : w.shape? b = some (73, 2)) (hfz : w.frozen? ⟨b, 0, none⟩ = false) : Ret Tryz.prog 68 [.pointer (some ⟨b, 0, none⟩)] w fun v w' => v = .tuple #[] ∧ w' = w.setCell ⟨b, 0, none⟩ (.pointer (some ⟨b, 0, none⟩)) := by
  obtain ⟨j, hj, hjs⟩ := infoB
  refine enter Tryz.func68 rfl rfl rfl ?_
  refine Wc.seq fun _ hK_1 => Wc.region <| Wl.mv rfl rfl <| Wl.y (y_nilCheck rfl) rfl ?_
  refine Wl.y (y_fieldAddr (fa73_0Bld _) rfl) rfl ?_
  refine Wl.l (l_load one71Bld rfl (h0)) rfl ?_
  refine Wl.y (y_ptr0 Tryz.underlying71 hj rfl) rfl ?_
  refine Wl.nil <| Wq.next hK_1 ?_
  refine Wc.cond rfl (fun c0_7 => ?_) (fun c0_7 => ?_)
  ·
   have c0_7_ := c0_7
   try simp only [DZ] at c0_7
   refine Wc.region <| Wl.mv rfl rfl <| Wl.mv rfl rfl ?_
   refine Wl.l (l_toUnsafe (p := ⟨b, 0, none⟩) Tryz.underlying71 Tryz.underlying150 hj hjs hsh (Nat.zero_lt_succ 1) rfl) rfl ?_
   refine Wl.y (y_noEscape exn104Bld rfl rfl) rfl ?_
   refine Wl.l (l_fromUnsafe (p := ⟨b, 0, none⟩) Tryz.underlying150 Tryz.underlying71 hj hsh liesB rfl) rfl ?_
   refine Wl.y (y_nilCheck rfl) rfl ?_
   refine Wl.y (y_fieldAddr (fa73_0Bld _) rfl) rfl ?_
   refine Wl.s (s_store (p := ⟨b, 0, none⟩) onePB rfl rfl rfl h0 hfz) ?_
   refine Wl.nil ?_
   refine end0 rfl ?_
   exact ⟨_, rfl, rfl, rfl⟩
  have c0_7_ := c0_7
  try simp only [DZ] at c0_7
  cases c0_7
theorem copyCheck_r (B b : Nat) (bs : List Value) (w : World) (h : Lib.IsBuilder 73 5 B b bs w) : Ret Tryz.prog 68 [.pointer (some ⟨b, 0, none⟩)] w fun v w' => v = .tuple #[] ∧ Lib.BuilderAt 73 5 B b (.pointer (some ⟨b, 0, none⟩)) bs w' ∧ Below B w w' := by
  rcases h with h | h
  · exact (copy_fresh b w h.cell0 h.shape h.frozen0).mono fun v w' ⟨h1, h2⟩ => ⟨h1, by subst h2; exact ⟨h.used _, (Below.refl B w).setCell (p := ⟨b, 0, none⟩) h.1 _⟩⟩
  · exact (copy_used b w h.cell0).mono fun v w' ⟨h1, h2⟩ => ⟨h1, by subst h2; exact ⟨h, Below.refl B _⟩⟩
theorem oneBuf : One Tryz.prog 33 := ⟨_, Tryz.underlying33, rfl, by kernel_rfl⟩
end Go.Proofs.YtobhpejaoakpmaaGreatDoor
namespace Go.Proofs.YtobhpejaoakpmaaGreatDoor
open Go.RowKit Go.Bw Go.Bw.Fl
set_option linter.unusedVariables false
set_option linter.unusedSimpArgs false
def escV (d : UInt8) : Option UInt8 := if d = 92 then some 92 else if d = 39 then some 39 else if d = 110 then some 10 else none
/-- the rest of a quoted text, from place i on; a: what was told of it -/
def uqGo : List UInt8 → Nat → List UInt8 → List UInt8 × Nat
  | [], _, _ => ([], 0)
  | [c], i, a => if c = 39 then (a, i + 1) else ([], 0)
  | c :: d :: r, i, a => if c = 39 then (a, i + 1) else if c = 10 then ([], 0) else if c = 92 then (match escV d with | none => ([], 0) | some e => uqGo r (i + 2) (a ++ [e])) else uqGo (d :: r) (i + 1) (a ++ [c])
def uqV (s : List UInt8) : List UInt8 × Nat := uqGo (s.drop 1) 1 []
theorem u8_of {c : UInt8} {n : Nat} (h : (c.toNat : Int) = (n : Int)) (hn : n < 256) : c = UInt8.ofNat n := by
  apply UInt8.toNat_inj.1; rw [UInt8.toNat_ofNat']; omega
theorem u8_not {c : UInt8} {n : Nat} (h : ¬ (c.toNat : Int) = (n : Int)) (hn : n < 256) : c ≠ UInt8.ofNat n := fun e => h (by rw [e, UInt8.toNat_ofNat']; omega)
theorem BString_r (B b : Nat) (l : List UInt8) (w : World) (h : Lib.IsBuilder 73 5 B b (Lib.byteCells l) w) (hB : B ≤ w.heap.size) : Ret Tryz.prog 41 [.pointer (some ⟨b, 0, none⟩)] w fun v w' => v = str l ∧ Below B w w' :=
  Calls.mono (Tryz.Builder_String_any B b l w h hB) fun e w' ⟨h1, h2⟩ => ⟨_, h1, rfl, h2⟩
end Go.Proofs.YtobhpejaoakpmaaGreatDoor
namespace Go.Proofs.YtobhpejaoakpmaaGreatDoor
open Go.RowKit Go.Bw Go.Bw.Fl
set_option linter.unusedVariables false
set_option linter.unusedSimpArgs false
/-! ### the longest one first -/
/-! ### a text's beginning -/
theorem pre_iff (s p : List UInt8) : Lib.hasPrefix s p = true ↔ p <+: s := List.isPrefixOf_iff_prefix
theorem nDig_eq (s : List UInt8) : nDig s = (s.takeWhile (digs.contains ·)).length := by
  unfold nDig Lib.trimLeftS
  have h := congrArg List.length (List.takeWhile_append_dropWhile (p := (digs.contains ·)) (l := s))
  rw [List.length_append] at h
  omega
theorem nDig_cons (c : UInt8) (s : List UInt8) : nDig (c :: s) = if digs.contains c = true then nDig s + 1 else 0 := by
  rw [nDig_eq, nDig_eq, List.takeWhile_cons]; split <;> simp
theorem nDig_app (c : UInt8) (m : List UInt8) (hc : digs.contains c = false) : ∀ s, nDig (s ++ c :: m) = nDig s
  | [] => by rw [List.nil_append, nDig_cons, hc]; rfl
  | x :: r => by rw [List.cons_append, nDig_cons, nDig_cons, nDig_app c m hc r]
theorem lead_minus (r : List UInt8) : lead (45 :: r) = nDig r + 1 := by
  have h : Lib.hasPrefix (45 :: r) [45] = true := by rw [pre_iff]; exact ⟨r, rfl⟩
  unfold lead Lib.trimPrefix; rw [if_pos h]; simp
theorem lead_other {s : List UInt8} (h : Lib.hasPrefix s [45] = false) : lead s = nDig s := by
  unfold lead Lib.trimPrefix; rw [if_neg (by rw [h]; simp)]; omega
theorem pre_one (s : List UInt8) (c : UInt8) : Lib.hasPrefix s [c] = true ↔ ∃ r, s = c :: r := by
  rw [pre_iff]
  constructor
  · rintro ⟨r, h⟩; exact ⟨r, h.symm⟩
  · rintro ⟨r, h⟩; exact ⟨r, h.symm⟩
/-! ### more behind it -/
/-- what ends each value that is not in quotes -/
structure Stop (c : UInt8) : Prop where
  dig : digs.contains c = false
  min : c ≠ 45
  p : c ≠ 112
  w1 : c ∉ wNull
  w2 : c ∉ wFalse
  w3 : c ∉ wTrue
  w4 : ∀ x, x ∈ words3 → c ∉ x
  q : c ≠ 39
/-! ### less behind it -/
def RdIs (r : Option (Val × Nat)) (u : Val) (n : Nat) (ok : Bool) : Prop := (ok = true ∧ r = some (u, n)) ∨ (ok = false ∧ r = none ∧ u = nullV ∧ n = 0)
theorem RdIs.hit {r : Option (Val × Nat)} {u u' : Val} {n n' : Nat} {ok : Bool} (h : RdIs r u n ok) (hr : r = some (u', n')) : ok = true ∧ u = u' ∧ n = n' := by
  rcases h with ⟨h1, h2⟩ | ⟨_, h2, _⟩
  · rw [h2] at hr; cases hr; exact ⟨h1, rfl, rfl⟩
  · rw [h2] at hr; cases hr
end Go.Proofs.YtobhpejaoakpmaaGreatDoor
