/- A text's bytes, as a row of one's own reading. -/
import Derived.Test.YtcljmclolpgdmaaGreatDoorValD
import Derived.Lib.ConvBytes
namespace Go.Bw
open Go.RowKit
set_option linter.unusedVariables false
set_option linter.unusedSimpArgs false
section
variable {P : Program} {N : Nat} {D : List Deferred} {env env' : Env} {a : Act} {w w' : World} {Q : Exit → Act → World → Prop}
variable {ops : Array Oper} {rest : List Oper} {d : Nat} {op : Op} {ty : TypeId} {pos : String} {af : Array Edge}
theorem below_bytes' (w : World) (e : TypeId) (t : ByteArray) : Below w.heap.size w (Lib.bytesWorld w e t) := by
  refine ((Below.refl _ _).drew.alloc (Nat.le_refl _) (.cells (Lib.bytesCells w e t) e)).trans ?_
  unfold Lib.bytesWorld World.freeze
  split
  · exact Below.refl _ _
  · refine ⟨rfl, rfl, rfl, by simp, fun k hk => ?_⟩
    show ((w.drew.alloc _).heap.modify _ _)[k]? = _
    rw [Array.getElem?_modify, if_neg (by have hk' : k < w.heap.size := hk; show w.heap.size ≠ k; omega)]
theorem rd_bytes (w : World) (e : TypeId) (l : List UInt8) : Rd (Lib.bytesWorld w e ⟨l.toArray⟩) 1 (some ⟨w.heap.size, 0, none⟩) l.length (u8s l) :=
  ⟨by rw [u8s_length, Nat.mul_one], fun _ => ⟨_, rfl, fun j u hu => by
    obtain ⟨hj, e'⟩ := List.getElem?_eq_some_iff.1 hu
    rw [u8s_length] at hj
    have := Lib.bytesWorld_cell w e ⟨l.toArray⟩ j (by rw [size_str]; exact hj)
    rw [add_zero_off, this, ← e']
    simp [u8s, List.getD, List.getElem?_eq_getElem hj]⟩⟩
theorem Wl.bytesN {x : Operand} {s t e : TypeId} {ud : TypeDesc} {l : List UInt8} (hs : P.underlying s = some ud) (ht : P.underlying t = some (.slice e)) (he : P.underlying e = some (.int .u8)) (hx : ev env x = some (str l)) (hd : Nat.blt d N = true)
    (h : ∀ g c w', w.heap.size ≤ g → g < w'.heap.size → Rd w' 1 (some ⟨g, 0, none⟩) l.length (u8s l) → Below w.heap.size w w' → Wl P ops Q rest N D ((d, .slice (some ⟨g, 0, none⟩) l.length c) :: env) w') :
    Wl P ops Q (⟨some d, .convert s t x, ty, pos, af, none⟩ :: rest) N D env w := by
  refine Wl.m (v := .slice (some ⟨w.heap.size, 0, none⟩) l.length (grownCap w l.length 0 e)) (w' := Lib.bytesWorld w e ⟨l.toArray⟩) (fun a ha dst pos af g => ?_) hd (h _ _ _ (Nat.le_refl _) (by rw [Lib.bytesWorld_size]; omega) (rd_bytes w e l) (below_bytes' w e _))
  have h0 := Lib.run_convert_string_bytes w s t e ⟨l.toArray⟩ hs ht he
  rw [size_str] at h0
  have h1 : (convert s t (str l)).run P w = _ := h0
  simp [execOp, ha.eval hx, h1]
theorem y_iface {x : Operand} {t : TypeId} {u : TypeDesc} {v : Value} (hu : P.underlying t = some u) (hn : ∀ ms, u ≠ .interface ms) (hx : ev env x = some v) : Yl P N D env (.makeInterface t x) ty (.iface t v) := fun a ha w dst pos af g => by
  have h1 : (Instr.makeInterface t v).run P w = .ok (.iface t v) w := by
    cases u <;> first | exact absurd rfl (hn _) | simp [Instr.makeInterface, run_underlying hu]
  simp [execOp, ha.eval hx, h1]
end
end Go.Bw
