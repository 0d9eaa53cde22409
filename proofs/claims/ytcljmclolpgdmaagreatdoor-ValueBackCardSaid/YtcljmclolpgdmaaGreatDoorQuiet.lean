/- A region that draws its order and whose operations read, reckon, and call what leaves old memory alone. -/
import Derived.Test.YtcljmclolpgdmaaGreatDoorMem
import Derived.Deep.Quiet
namespace Go.Bw
open Go.RowKit
set_option linter.unusedVariables false
set_option linter.unusedSimpArgs false

/-- the worlds that a region may be in: w, and more -/
def Cw (w : World) : World → Prop := fun w' => Below w.heap.size w w'
def Wy (P : Program) (ops : Array Oper) (w : World) (Q : Exit → Act → World → Prop) (l : List Oper) (N : Nat) (D : List Deferred) (env : Env) : Prop :=
  ∀ a, Ok N D env a → wpQuiet P ops (Cw w) (fun a' => ∀ w', Cw w w' → Q .normal a' w') l a

section
variable {P : Program} {N : Nat} {D : List Deferred} {env env' : Env} {a : Act} {w w' : World} {Q : Exit → Act → World → Prop}
variable {ops : Array Oper} {rest : List Oper} {d : Nat} {op : Op} {ty : TypeId} {pos : String} {af : Array Edge}

theorem Wc.quiet {id : Nat} {l : List Oper} (hm : P.follows .mixedOrders = true) (hB : Region.lexB .any l.toArray = true) (h : Wy P l.toArray w Q l N D env) : Wc P Q (.region id l.toArray true) N D env w := fun a ha =>
  wp_region_quiet (C := Cw w) hm hB (Below.drew (Below.refl _ _)) (by simpa using h a ha)

theorem Wy.nil (h : ∀ w', Below w.heap.size w w' → Wq Q .normal N D env w') : Wy P ops w Q [] N D env := fun a ha => wpQuiet_nil fun w' hw => h w' hw a ha
theorem Wy.val {v : Value} (hd : Nat.blt d N = true) (hr : ∀ w', Below w.heap.size w w' → ∀ a, Ok N D env a → Oper.quietUpon P (Cw w) w' v ((execOp a.eval ⟨some d, op, ty, pos, af, none⟩).run P w')) (h : Wy P ops w Q rest N D ((d, v) :: env)) : Wy P ops w Q (⟨some d, op, ty, pos, af, none⟩ :: rest) N D env := fun a ha =>
  wpQuiet_step fun K hK => by
    simp only [Region.wanted, if_true]
    exact ⟨v, fun w' hw => hr w' hw a ha, hK _ (h _ (ha.put hd v))⟩
theorem Wy.y {v : Value} (hy : Yl P N D env op ty v) (hd : Nat.blt d N = true) (h : Wy P ops w Q rest N D ((d, v) :: env)) : Wy P ops w Q (⟨some d, op, ty, pos, af, none⟩ :: rest) N D env :=
  Wy.val hd (fun w' _ a ha => by rw [hy a ha w']; exact ⟨rfl, rfl⟩) h
theorem Wy.l {v : Value} (hy : ∀ w', Below w.heap.size w w' → Ld P N D env w' op ty v) (hd : Nat.blt d N = true) (h : Wy P ops w Q rest N D ((d, v) :: env)) : Wy P ops w Q (⟨some d, op, ty, pos, af, none⟩ :: rest) N D env :=
  Wy.val hd (fun w' hw a ha => by rw [hy w' hw a ha]; exact ⟨rfl, rfl⟩) h
theorem Wy.call {x : Operand} {f : FuncId} {xs : Array Operand} {ts : Array TypeId} {l c : Array Value} {vs : List Value} {v : Value} (hf : Txt P f) (hx : ev env x = some (.func (.func f) l c)) (hxs : evs env xs.toList = some vs)
    (hc : ∀ w', Below w.heap.size w w' → Ret P f (l.toList ++ vs ++ c.toList) w' fun u w'' => u = v ∧ Below w'.heap.size w' w'') (hd : Nat.blt d N = true) (h : Wy P ops w Q rest N D ((d, v) :: env)) :
    Wy P ops w Q (⟨some d, .call ⟨.value x, xs, ts⟩, ty, pos, af, none⟩ :: rest) N D env :=
  Wy.val hd (fun w' hw a ha => by
    have hargs : xs.map a.eval = vs.toArray := evs_arr ha hxs
    have h1 : (l.toList ++ vs ++ c.toList).toArray = l ++ vs.toArray ++ c := by simp
    have hc' := hc w' hw
    unfold Ret at hc'
    rw [h1] at hc'
    simp only [execOp, resolve, ha.eval hx, hargs, Deferred.ofValue, Sem.run_bind, Sem.run_pure, Result.andThen_ok, invoke, run_callFunc hf]
    exact ⟨rfl, hc'.mono fun e w'' ⟨u, he, hu, hb⟩ => ⟨by rw [he, hu], Below.trans hw (hb.mono hw.size)⟩⟩) h
theorem Wy.on' {g : Nat} {b t : Bool} {s : Nat} {dst : Option Tmp} (hs : (ops[g]?).bind (·.dst) = some s) (hb : lk env s = some (.bool t)) (e : t = b)
    (h : Wy P ops w Q (⟨dst, op, ty, pos, af, none⟩ :: rest) N D env) : Wy P ops w Q (⟨dst, op, ty, pos, af, some (g, b)⟩ :: rest) N D env := fun a ha => by
  subst e
  have h1 := h a ha
  unfold wpQuiet at h1 ⊢
  have hy : yielded ops a.tmps g = some t := by
    unfold yielded
    rw [hs]
    show (match a.tmps[s]? with | some (.bool b) => some b | _ => none) = some t
    rw [ha.get s _ hb]
  simp only [Region.wanted, if_true] at h1
  simp only [Region.wanted, hy, beq_self_eq_true, if_true]
  exact h1
theorem Wy.off' {g : Nat} {b c c' : Bool} {s : Nat} (hs : (ops[g]?).bind (·.dst) = some s) (hb : lk env s = some (.bool c)) (e : c = c') (hne : (c' == b) = false) (hd : Nat.blt d N = true)
    (h : Wy P ops w Q rest N D ((d, undef) :: env)) : Wy P ops w Q (⟨some d, op, ty, pos, af, some (g, b)⟩ :: rest) N D env := fun a ha => by
  subst e
  unfold wpQuiet
  have hy : yielded ops a.tmps g = some c := by
    unfold yielded
    rw [hs]
    show (match a.tmps[s]? with | some (.bool b) => some b | _ => none) = some c
    rw [ha.get s _ hb]
  have : (some c == some b) = false := by simpa using hne
  simp only [Region.wanted, hy, this]
  exact h _ (ha.put hd undef)
theorem Wy.offU {g : Nat} {b : Bool} {s : Nat} (hs : (ops[g]?).bind (·.dst) = some s) (hb : lk env s = some undef) (hd : Nat.blt d N = true)
    (h : Wy P ops w Q rest N D ((d, undef) :: env)) : Wy P ops w Q (⟨some d, op, ty, pos, af, some (g, b)⟩ :: rest) N D env := fun a ha => by
  unfold wpQuiet
  have hy : yielded ops a.tmps g = none := by
    unfold yielded
    rw [hs]
    show (match a.tmps[s]? with | some (.bool b) => some b | _ => none) = none
    rw [ha.get s _ hb]
    rfl
  have : ((none : Option Bool) == some b) = false := rfl
  simp only [Region.wanted, hy, this]
  exact h _ (ha.put hd undef)
theorem Wy.guardT {g : Nat} {t : Bool} {s : Nat} (hs : (ops[g]?).bind (·.dst) = some s) (hb : lk env s = some (.bool t)) (hd : Nat.blt d N = true)
    (h1 : t = true → Wy P ops w Q (⟨some d, op, ty, pos, af, none⟩ :: rest) N D env) (h2 : t = false → Wy P ops w Q rest N D ((d, undef) :: env)) : Wy P ops w Q (⟨some d, op, ty, pos, af, some (g, true)⟩ :: rest) N D env := by
  cases t
  · exact Wy.off' hs hb rfl rfl hd (h2 rfl)
  · exact Wy.on' hs hb rfl (h1 rfl)
theorem Wy.guardF {g : Nat} {t : Bool} {s : Nat} (hs : (ops[g]?).bind (·.dst) = some s) (hb : lk env s = some (.bool t)) (hd : Nat.blt d N = true)
    (h1 : t = true → Wy P ops w Q rest N D ((d, undef) :: env)) (h2 : t = false → Wy P ops w Q (⟨some d, op, ty, pos, af, none⟩ :: rest) N D env) : Wy P ops w Q (⟨some d, op, ty, pos, af, some (g, false)⟩ :: rest) N D env := by
  cases t
  · exact Wy.on' hs hb rfl (h2 rfl)
  · exact Wy.off' hs hb rfl rfl hd (h1 rfl)
theorem Ret.quiet {f : FuncId} {args : List Value} {v : Value} (h : Ret P f args w fun u w' => u = v ∧ w' = w) : Ret P f args w fun u w' => u = v ∧ Below w.heap.size w w' :=
  h.mono fun _ _ ⟨e, hw⟩ => ⟨e, by rw [hw]; exact Below.refl _ _⟩
end
end Go.Bw
