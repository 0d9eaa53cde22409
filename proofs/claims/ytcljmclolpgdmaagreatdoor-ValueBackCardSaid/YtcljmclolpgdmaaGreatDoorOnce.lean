/- sync.Once.Do at a Once that is not done, one goroutine (after the kit's worked proofs of Lazy). -/
import Derived.Test.YtcljmclolpgdmaaGreatDoorAny
import Derived.Test.YtcljmclolpgdmaaGreatDoorProg
import Derived.Tactics
import Derived.Tactics2
import Derived.Defers
import Derived.Laws.Pointers
import Derived.Laws.LoneSync
import Derived.RegionTactic
import Derived.RegionCalls
import Derived.ChangeAlike
namespace Go.Proofs.YtcljmclolpgdmaaGreatDoor
open Go.RowKit Go.Bw
set_option linter.unusedVariables false
set_option linter.unusedSimpArgs false
theorem race_off (w : World) : (callFunc 201 #[]).run Tryz.prog w = .ok (.value (.tuple #[])) w := run_call_mark0 Tryz.func201 (by kernel_rfl) (by kernel_rfl) (by kernel_rfl) .disable (by kernel_rfl) w
theorem race_on (w : World) : (callFunc 203 #[]).run Tryz.prog w = .ok (.value (.tuple #[])) w := run_call_mark0 Tryz.func203 (by kernel_rfl) (by kernel_rfl) (by kernel_rfl) .enable (by kernel_rfl) w
theorem race_acq (a : Addr) (w : World) : (callFunc 204 #[.pointer (some a)]).run Tryz.prog w = .ok (.value (.tuple #[])) w := run_call_marked Tryz.func204 (by kernel_rfl) (by kernel_rfl) (by kernel_rfl) .acquire (by kernel_rfl) a w
theorem race_rel (a : Addr) (w : World) : (callFunc 206 #[.pointer (some a)]).run Tryz.prog w = .ok (.value (.tuple #[])) w := run_call_marked Tryz.func206 (by kernel_rfl) (by kernel_rfl) (by kernel_rfl) .releaseMerge (by kernel_rfl) a w
/-- Store(true), entered as a deferred call -/
theorem store_later (a : Addr) (x : Value) (u : FrameMode) (w : World) (hc : w.cell? a = some x) (hz : w.frozen? a = false) :
    CallsD Tryz.prog 183 #[.pointer (some a), .bool true] u w fun e u' w' => u' = u ∧ (e = .returned (.tuple #[]) ∧ w' = w.drew.setCell a (.int .u32 1)) := by
  have hc' : w.drew.cell? a = some x := by go_simp
  have hz' : w.drew.frozen? a = false := by go_simp
  have hst := run_call_store (P := Tryz.prog) Tryz.func195 (by kernel_rfl) (by kernel_rfl) (by kernel_rfl) (by kernel_rfl) (k := .u32) (y := 1) hc' hz'
  go_enter_d Tryz.func183, Tryz.ntmps183
  go_wp2
  go_region_calls
  all_goals (go_end0; exact ⟨rfl, rfl⟩)
set_option maxRecDepth 100000 in
set_option maxHeartbeats 1600000 in
/-- Unlock, entered as a deferred call, the lock held and nobody waiting -/
theorem unlock_later (a : Addr) (u : FrameMode) (w : World) (hc : w.cell? a = some (.int .i32 1)) (hz : w.frozen? a = false) :
    CallsD Tryz.prog 182 #[.pointer (some a)] u w fun e u' w' => u' = u ∧ (e = .returned (.tuple #[]) ∧ w' = w.setCell a (.int .i32 0)) := by
  have hd := race_off
  have he := race_on
  have hr := race_rel
  have hadd := run_call_add (P := Tryz.prog) Tryz.func207 (by kernel_rfl) (by kernel_rfl) (by kernel_rfl) .i32 (by kernel_rfl) (y := -1) (s := 0) hc hz (by simp [go_sem]; rfl)
  have hcv := run_convert_to_unsafe (P := Tryz.prog) (src := 237) (dst := 184) Tryz.underlying237 Tryz.underlying184 (by kernel_rfl) hc
  go_enter_d Tryz.func182, Tryz.ntmps182
  go_wp2
  go_end0
  go_wp2
  go_end0
  exact ⟨rfl, rfl⟩
set_option maxRecDepth 100000 in
set_option maxHeartbeats 1600000 in
/-- Lock, the lock free -/
theorem lock_now (a : Addr) (w : World) (hc : w.cell? a = some (.int .i32 0)) (hz : w.frozen? a = false) :
    Calls Tryz.prog 181 #[.pointer (some a)] w fun e w' => e = .returned (.tuple #[]) ∧ w' = w.setCell a (.int .i32 1) := by
  have hd := race_off
  have he := race_on
  have ha := race_acq
  have hcas := run_call_cas_hit (P := Tryz.prog) Tryz.func202 (by kernel_rfl) (by kernel_rfl) (by kernel_rfl) .i32 (by kernel_rfl) (y := 1) hc hz
  have hc' : (w.setCell a (.int .i32 1)).cell? a = some (.int .i32 1) := World.cell?_setCell_same w a _ hc
  have hcv := run_convert_to_unsafe (P := Tryz.prog) (src := 237) (dst := 184) Tryz.underlying237 Tryz.underlying184 (by kernel_rfl) hc'
  go_enter Tryz.func181, Tryz.ntmps181
  go_wp2
  first | go_end0 | (simp only [Exit.inBlock, Exit.then]; refine bodyPost_ret (results_none rfl _ _ _) rfl ?_) | refine bodyPost_ret (results_none rfl _ _ _) rfl ?_
  go_wp2
  go_end0
  exact ⟨rfl, rfl⟩
/-- Load, not yet done -/
theorem load_now (a : Addr) (w : World) (hc : w.cell? a = some (.int .u32 0)) :
    Calls Tryz.prog 163 #[.pointer (some a)] w fun e w' => e = .returned (.bool false) ∧ w' = w := by
  have hl := run_call_load (P := Tryz.prog) Tryz.func180 (by kernel_rfl) (by kernel_rfl) (by kernel_rfl) .u32 (by kernel_rfl) (w := w) (a := a) (x := 0) hc
  have hnot : ∀ (x : Bool) (w : World), (Op.unary .not (.bool x)).run Tryz.prog w = .ok (.bool (!x)) w := fun _ _ => rfl
  go_enter Tryz.func163, Tryz.ntmps163
  go_wp2
  first | (go_ret; exact ⟨rfl, rfl⟩) | (go_end0; exact ⟨rfl, rfl⟩) | (all_goals trace_state; fail)
set_option maxRecDepth 100000 in
set_option maxHeartbeats 1600000 in
/-- doSlow, not yet done, the lock free: the function is called between -/
theorem slow_now (g : Nat) (r : Value) (Q : World → Prop) (w : World) (h0 : w.cell? ⟨g, 0, none⟩ = some (.int .u32 0)) (h1 : w.cell? ⟨g, 1, none⟩ = some (.int .i32 0)) (f1 : w.frozen? ⟨g, 1, none⟩ = false)
    (hF : Calls Tryz.prog 131 #[r] (w.setCell ⟨g, 1, none⟩ (.int .i32 1)) fun e w2 => e = .returned (.tuple #[]) ∧ (w2.cell? ⟨g, 0, none⟩ = some (.int .u32 0) ∧ w2.cell? ⟨g, 1, none⟩ = some (.int .i32 1) ∧ w2.frozen? ⟨g, 0, none⟩ = false ∧ w2.frozen? ⟨g, 1, none⟩ = false ∧ Q w2)) :
    Calls Tryz.prog 164 #[.pointer (some ⟨g, 0, none⟩), .func (.func 131) #[r] #[]] w fun e w' => e = .returned (.tuple #[]) ∧ ∃ w2, Q w2 ∧ w' = (w2.drew.setCell ⟨g, 0, none⟩ (.int .u32 1)).setCell ⟨g, 1, none⟩ (.int .i32 0) := by
  have hnot : ∀ (x : Bool) (w : World), (Op.unary .not (.bool x)).run Tryz.prog w = .ok (.bool (!x)) w := fun _ _ => rfl
  go_enter_defers Tryz.func164, Tryz.ntmps164
  go_wp2_with (first
    | (go_at_call 181; refine (lock_now ⟨g, 1, none⟩ _ (by go_simp) (by go_simp)).mono ?_; rintro e w' ⟨rfl, rfl⟩)
    | (go_at_call 163; refine (load_now ⟨g, 0, none⟩ _ ((World.cell?_setCell_other _ ⟨g, 1, none⟩ ⟨g, 0, none⟩ _ (by simp)).trans h0)).mono ?_; rintro e w' ⟨rfl, rfl⟩)
    | (go_at_call 131; refine hF.mono ?_; rintro e w2 ⟨rfl, c0, c1, z0, z1, hQ⟩))
  trace_state
  refine leaves_cons (f := 183) (args := #[.pointer (some ⟨g, 0, none⟩), .bool true]) (by simp) (by simp [go_sem]) ?_
  refine (store_later ⟨g, 0, none⟩ (.int .u32 0) .returning _ c0 z0).mono ?_
  rintro e u' w'' ⟨rfl, rfl, rfl⟩
  refine leaves_cons (f := 182) (args := #[.pointer (some ⟨g, 1, none⟩)]) (by simp [settle]) (by simp [go_sem]) ?_
  refine (unlock_later ⟨g, 1, none⟩ _ _ ?_ (by simp [z1])).mono ?_
  · rw [World.cell?_setCell_other _ ⟨g, 0, none⟩ ⟨g, 1, none⟩ _ (by simp), World.cell?_drew]; exact c1
  rintro e u' w'' ⟨rfl, rfl, rfl⟩
  simp [Leaves, settle, results, Tryz.results164]
  exact ⟨w2, hQ, rfl⟩
end Go.Proofs.YtcljmclolpgdmaaGreatDoor
