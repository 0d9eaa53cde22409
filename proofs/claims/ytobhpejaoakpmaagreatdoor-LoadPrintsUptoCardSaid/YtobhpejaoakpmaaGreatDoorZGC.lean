/- The references for graphs (06, 07): rising, props, Find, FindEdge, Right, by the calculus. · The reference for graphs (07): Find, FindEdge, Right, by the calculus. · The reference's Right (07), by the calculus. · The reference's print (08): fields, Print, by the calculus. -/
import Derived.Test.YtobhpejaoakpmaaGreatDoorZW
import Derived.Test.YtobhpejaoakpmaaGreatDoorZK
import Derived.Test.YtobhpejaoakpmaaGreatDoorZGB
namespace Go.Proofs.YtobhpejaoakpmaaGreatDoor
open Go.RowKit Go.Bw Go.Bw.Fl
set_option linter.unusedVariables false
set_option linter.unusedSimpArgs false
theorem fa94_0GrS (p : Addr) (w : World) : (Instr.fieldAt 94 (.pointer (some p)) 0).run Tryz.prog w = .ok (.pointer (some (p.add 0))) w := run_fieldAt (i := 0) (sz := 0) Tryz.underlying94 rfl (by kernel_rfl) p w
theorem fa96_0GrS (p : Addr) (w : World) : (Instr.fieldAt 96 (.pointer (some p)) 0).run Tryz.prog w = .ok (.pointer (some (p.add 0))) w := run_fieldAt (i := 0) (sz := 0) Tryz.underlying96 rfl (by kernel_rfl) p w
theorem fa96_1GrS (p : Addr) (w : World) : (Instr.fieldAt 96 (.pointer (some p)) 1).run Tryz.prog w = .ok (.pointer (some (p.add 1))) w := run_fieldAt (i := 1) (sz := 3) Tryz.underlying96 rfl (by kernel_rfl) p w
theorem one3GrS : One Tryz.prog 3 := ⟨_, Tryz.underlying3, rfl, by kernel_rfl⟩
theorem one9GrS : One Tryz.prog 9 := ⟨_, Tryz.underlying9, rfl, by kernel_rfl⟩
theorem sz9GrS : (Tryz.prog.info? 9).map (·.size) = some 1 := by kernel_rfl
theorem sz96GrS : (Tryz.prog.info? 96).map (·.size) = some 5 := by kernel_rfl
theorem txt110GrS : Txt Tryz.prog 110 := ⟨_, Tryz.func110, by kernel_rfl, rfl⟩   -- bridleway/bridlewayref02.Right
theorem txt64GrS : Txt Tryz.prog 64 := ⟨_, Tryz.func64, by kernel_rfl, rfl⟩   -- bridleway/bridlewayref06.Word
theorem txt71GrS : Txt Tryz.prog 71 := ⟨_, Tryz.func71, by kernel_rfl, rfl⟩   -- bridleway/bridlewayref07.rising
theorem Rrising_r (A : Option Addr) (c : Nat) (ls : List (List UInt8)) (w : World) (hR : Rd w 1 A ls.length (strs ls)) (hsz : szL ls ≤ 1099511627776) : Ret Tryz.prog 71 [.slice A ls.length c] w fun v w' => v = .bool (risingV ls) ∧ Below w.heap.size w w' := by
  have hln := szL_len ls
  have hb := Below.refl w.heap.size w
  have hR_hb := hR
  refine enter Tryz.func71 rfl rfl rfl ?_
  refine Wc.seq fun _ hK_1 => Wc.region <| Wl.sg rfl rfl <| Wl.nil <| Wq.next hK_1 <| Wc.seq fun _ hK_3 => Wc.seq fun _ hK_4 => Wc.region <| Wl.sg rfl rfl <| Wl.nil ?_
  refine Wq.next hK_4 <| Wc.block ?_
  refine Wc.loop (X := Nat) (fun i => [(0, .slice A ls.length c), (3, .int .i64 (i : Int))]) (fun i wr => i ≤ ls.length ∧ (∀ j, j < i → riseAt ls j = true) ∧ Below w.heap.size w wr) (fun i => ls.length - i) (0) ?_ ?_ ?_
  · exact by repeat first | exact Sub.nil | refine Sub.cons' rfl (by first | rfl | exact int_eq (by omega) | exact int_eq (by simp) | (simp; done)) ?_
  · exact ⟨by omega, fun _ h => by omega, hb⟩
  rintro i wr hI_7 _ hL_6
  replace hI_7 : i ≤ ls.length ∧ (∀ j, j < i → riseAt ls j = true) ∧ Below w.heap.size w wr := hI_7
  obtain ⟨hi, hall, hb⟩ := hI_7
  show Wc _ _ _ _ _ [(0, .slice A ls.length c), (3, .int .i64 (i : Int))] _
  have hR := hR_hb.below hb
  have hzhb_L0 := hb.size
  refine Wc.seq fun _ hK_8 => Wc.seq fun _ hK_9 => Wc.region <| Wl.mv rfl rfl <| Wl.mv rfl rfl ?_
  refine Wl.y (y_lenl Tryz.underlying44 (by omega) rfl) rfl ?_
  refine Wl.y (y_lssi rfl rfl) rfl <| Wl.nil <| Wq.next hK_9 ?_
  refine Wc.cond rfl (fun c0_14 => ?_) (fun c0_14 => ?_)
  ·
   have c0_14_ := c0_14
   simp only [DZ] at c0_14
   have hil : i < ls.length := by have := c0_14; omega
   have hli := szL_at hil
   obtain ⟨p_, v_, hpe, hve, hcell⟩ := hR.one (i := i) hil
   obtain rfl := strs_val hil hve
   subst hpe
   refine Wc.skip <| Wq.next hK_8 <| Wc.seq fun _ hK_15 => Wc.block <| Wc.seq fun _ hK_16 => Wc.region <| Wl.mv rfl rfl <| Wl.mv rfl rfl ?_
   refine Wl.y (y_indexAddr Tryz.underlying44 sz9GrS rfl rfl (by omega) (by omega)) rfl ?_
   refine Wl.l (l_load one9GrS rfl (by exact at1 hcell)) rfl ?_
   refine Wl.call txt64GrS rfl rfl (RWord_r (ls.getD i []) (by omega) _) rfl ?_
   rintro _ w_k0 ⟨rfl, hs_k0⟩
   have hz_k0 := hs_k0.size
   have hb := hb.trans (hs_k0.mono hb.size)
   have hR := hR_hb.below hb
   refine Wl.sg rfl rfl <| Wl.nil <| Wq.next hK_16 <| Wc.seq fun _ hK_23 => ?_
   refine Wc.meet (X := Bool) (fun q => [(0, .slice (some p_) ls.length c), (3, .int .i64 (i : Int)), (33, .bool q)]) (fun q wr => q = (!riseAt ls i) ∧ Below w.heap.size w wr) (fun _ hM_24 => ?_) ?_
   ·
    refine Wc.quiet (by kernel_rfl) (by kernel_rfl) ?_
    refine Wy.y (y_move rfl) rfl <| Wy.y (y_not rfl) rfl <| Wy.y (y_move rfl) rfl ?_
    refine Wy.guardF rfl rfl rfl (fun g_28 => ?_) (fun g_28 => ?_)
    ·
     have g_28_ := g_28
     simp only [DZ] at g_28
     refine Wy.off' rfl rfl g_28_ rfl rfl <| Wy.off' rfl rfl g_28_ rfl rfl <| Wy.offU rfl rfl rfl <| Wy.offU rfl rfl rfl <| Wy.offU rfl rfl rfl <| Wy.offU rfl rfl rfl <| Wy.offU rfl rfl rfl <| Wy.offU rfl rfl rfl <| Wy.offU rfl rfl rfl <| Wy.offU rfl rfl rfl ?_
     refine Wy.offU rfl rfl rfl <| Wy.offU rfl rfl rfl <| Wy.off' rfl rfl g_28_ rfl rfl ?_
     refine Wy.y (y_pickT rfl g_28_ rfl) rfl ?_
     refine Wy.nil fun w_g4 hs_g4 => ?_
     have hz_g4 := hs_g4.size
     have hb := hb.trans (hs_g4.mono hb.size)
     have hR := hR_hb.below hb
     refine Wq.meet hM_24 (!riseAt ls i) (by repeat first | exact Sub.nil | refine Sub.cons' rfl (by first | rfl | exact bool_eq (by unfold riseAt; simp_all; done) | exact bool_eq (by unfold riseAt; simp_all; omega)) ?_) ?_
     exact ⟨rfl, hb⟩
    have g_28_ := g_28
    simp only [DZ] at g_28
    refine Wy.y (y_move rfl) rfl <| Wy.on' rfl rfl g_28_ <| Wy.y (y_gtri rfl rfl) rfl <| Wy.on' rfl rfl g_28_ <| Wy.y (y_move rfl) rfl ?_
    refine Wy.guardT rfl rfl rfl (fun g_33 => ?_) (fun g_33 => ?_)
    ·
     have g_33_ := g_33
     simp only [DZ] at g_33
     refine Wy.y (y_move rfl) rfl <| Wy.on' rfl rfl g_33_ <| Wy.y (y_move rfl) rfl <| Wy.on' rfl rfl g_33_ ?_
     refine Wy.y (y_subI rfl rfl (by omega) (by omega)) rfl ?_
     refine Wy.on' rfl rfl g_33_ ?_
     have hi0 : i ≠ 0 := by omega
     obtain ⟨p2_, v2_, hpe2, hve2, hcell2⟩ := hR.one (i := i - 1) (by omega)
     cases hpe2
     obtain rfl := strs_val (by omega) hve2
     rw [show ((i - 1 : Nat)) = ((i : Int) - 1).toNat by omega] at hcell2
     obtain ⟨p3_, v3_, hpe3, hve3, hcell3⟩ := hR.one (i := i) hil
     cases hpe3
     obtain rfl := strs_val hil hve3
     refine Wy.y (y_indexAddr Tryz.underlying44 sz9GrS rfl rfl (by omega) (by omega)) rfl ?_
     refine Wy.on' rfl rfl g_33_ ?_
     refine Wy.l (fun wq hq => l_load one9GrS rfl (by have hR := hR.below hq; exact by rw [Nat.mul_one]; exact cell_below hq hcell2)) rfl ?_
     refine Wy.on' rfl rfl g_33_ <| Wy.y (y_move rfl) rfl <| Wy.on' rfl rfl g_33_ <| Wy.y (y_move rfl) rfl <| Wy.on' rfl rfl g_33_ ?_
     refine Wy.y (y_indexAddr Tryz.underlying44 sz9GrS rfl rfl (by omega) (by omega)) rfl ?_
     refine Wy.on' rfl rfl g_33_ ?_
     refine Wy.l (fun wq hq => l_load one9GrS rfl (by have hR := hR.below hq; exact cell_below hq (at1 hcell3))) rfl ?_
     refine Wy.on' rfl rfl g_33_ <| Wy.y (y_geqs rfl rfl) rfl <| Wy.on' rfl rfl g_28_ ?_
     refine Wy.y (y_pickT rfl g_33_ rfl) rfl ?_
     refine Wy.y (y_pickF rfl g_28_ rfl) rfl ?_
     refine Wy.nil fun w_g4 hs_g4 => ?_
     have hz_g4 := hs_g4.size
     have hb := hb.trans (hs_g4.mono hb.size)
     have hR := hR_hb.below hb
     refine Wq.meet hM_24 (!riseAt ls i) (by repeat first | exact Sub.nil | refine Sub.cons' rfl (by first | rfl | exact bool_eq (by unfold riseAt; simp_all; done) | exact bool_eq (by unfold riseAt; simp_all; omega)) ?_) ?_
     exact ⟨rfl, hb⟩
    have g_33_ := g_33
    simp only [DZ] at g_33
    refine Wy.off' rfl rfl g_33_ rfl rfl <| Wy.off' rfl rfl g_33_ rfl rfl <| Wy.off' rfl rfl g_33_ rfl rfl <| Wy.off' rfl rfl g_33_ rfl rfl <| Wy.off' rfl rfl g_33_ rfl rfl <| Wy.off' rfl rfl g_33_ rfl rfl <| Wy.off' rfl rfl g_33_ rfl rfl <| Wy.off' rfl rfl g_33_ rfl rfl <| Wy.off' rfl rfl g_33_ rfl rfl <| Wy.on' rfl rfl g_28_ ?_
    refine Wy.y (y_pickF rfl g_33_ rfl) rfl ?_
    refine Wy.y (y_pickF rfl g_28_ rfl) rfl ?_
    refine Wy.nil fun w_g4 hs_g4 => ?_
    have hz_g4 := hs_g4.size
    have hb := hb.trans (hs_g4.mono hb.size)
    have hR := hR_hb.below hb
    refine Wq.meet hM_24 (!riseAt ls i) (by repeat first | exact Sub.nil | refine Sub.cons' rfl (by first | rfl | exact bool_eq (by unfold riseAt; simp_all; done) | exact bool_eq (by unfold riseAt; simp_all; omega)) ?_) ?_
    exact ⟨rfl, hb⟩
   rintro q wr hI_48
   replace hI_48 : q = (!riseAt ls i) ∧ Below w.heap.size w wr := hI_48
   obtain ⟨hq, hb⟩ := hI_48
   show Wq _ _ _ _ [(0, .slice (some p_) ls.length c), (3, .int .i64 (i : Int)), (33, .bool q)] _
   have hR := hR_hb.below hb
   have hzhb_g4 := hb.size
   refine Wq.next hK_23 ?_
   refine Wc.cond rfl (fun c1_49 => ?_) (fun c1_49 => ?_)
   ·
    have c1_49_ := c1_49
    refine Wc.seq fun _ hK_50 => Wc.region <| Wl.sg rfl rfl <| Wl.nil <| Wq.next hK_50 <| Wc.ret ?_
    refine Wq.block_ret (Wq.then_ret (Wq.then_ret (Wq.block_ret (Wq.then_ret ?_))))
    refine ret1 rfl rfl ?_
    exact ⟨_, rfl, bool_eq (by have h := c1_49_; rw [hq] at h; exact (allN_f hil (by simpa using h)).symm), hb⟩
   have c1_49_ := c1_49
   refine Wc.skip <| Wq.block_normal <| Wq.next hK_15 <| Wc.region <| Wl.mv rfl rfl ?_
   refine Wl.y (y_addI rfl rfl (by omega) (by omega)) rfl ?_
   refine Wl.sg rfl rfl <| Wl.nil ?_
   refine fun a_ ha_ => hL_6 _ _ (i + 1) (by omega) (by repeat first | exact Sub.nil | refine Sub.cons' rfl (by first | rfl | exact int_eq (by omega) | exact int_eq (by simp) | (simp; done)) ?_) ?_ a_ ha_
   exact ⟨by omega, fun j hj => (by by_cases e : j = i; (· rw [e]; have h := c1_49_; rw [hq] at h; simpa using h); (· exact hall j (by omega))), hb⟩
  have c0_14_ := c0_14
  simp only [DZ] at c0_14
  refine Wc.exit ?_
  refine Wq.then_exit <| Wq.then_exit <| Wq.block_exit <| Wq.next hK_3 <| Wc.seq fun _ hK_55 => Wc.region <| Wl.sg rfl rfl <| Wl.nil <| Wq.next hK_55 <| Wc.ret ?_
  refine ret1 rfl rfl ?_
  exact ⟨_, rfl, bool_eq (allN_t (fun j hj => hall j (by have := c0_14; omega))).symm, hb⟩
theorem Rrising_n (A : Option Addr) (c n : Nat) (ls : List (List UInt8)) (hn : ls.length = n) (w : World) (hR : Rd w 1 A n (strs ls)) (hsz : szL ls ≤ 1099511627776) : Ret Tryz.prog 71 [.slice A n c] w fun v w' => v = .bool (risingV ls) ∧ Below w.heap.size w w' := by
  subst hn; exact Rrising_r A c ls w hR hsz
theorem beqZ (k : Int) : (k == 0) = decide (k = 0) := by rw [Bool.eq_iff_iff]; simp
def propsV (ps : List Pr) : Bool := allN ps.length (valueAt ps) && risingV (ps.map (·.1))
theorem Rprops_r (B : Option Addr) (e : Nat) (ps : List Pr) (w : World) (hP : Rd w 5 B ps.length (propsC ps)) (hok : ∀ p ∈ ps, p.2.Ok) (hsz : szP ps ≤ 1099511627776) :
    Ret Tryz.prog 72 [.slice B ps.length e] w fun v w' => v = .bool (propsV ps) ∧ Below w.heap.size w w' := by
  have hpl := szP_len ps
  have hb := Below.refl w.heap.size w
  have hP_hb := hP
  refine enter Tryz.func72 rfl rfl rfl ?_
  refine Wc.seq fun _ hK_1 => Wc.region <| Wl.sg rfl rfl <| Wl.nil <| Wq.next hK_1 <| Wc.seq fun _ hK_3 => Wc.region ?_
  refine Wl.lit0N Tryz.underlying44 (by kernel_rfl) rfl ?_
  rintro g_b0 w_b0 hg_b0 hn_b0 hs_b0
  have hz_b0 := hs_b0.size
  have hb := hb.trans (hs_b0.mono hb.size)
  have hP := hP_hb.below hb
  have hB_b0 := hn_b0
  have hl_b0 := hB_b0.lt
  have hO := hB_b0.own (base := w.heap.size) (n := 0) (sz := 1) (by omega) rfl (by decide)
  refine Wl.sg rfl rfl <| Wl.nil <| Wq.next hK_3 <| Wc.seq fun _ hK_6 => Wc.seq fun _ hK_7 => Wc.region <| Wl.sg rfl rfl <| Wl.nil <| Wq.next hK_7 <| Wc.block ?_
  refine Wc.loop (X := Nat × Value) (fun (i, v) => [(0, .slice B ps.length e), (3, v), (4, .int .i64 (i : Int))]) (fun (i, v) wr => i ≤ ps.length ∧ (∀ j, j < i → valueAt ps j = true) ∧ Below w.heap.size w wr ∧ wr.ownsRow w.heap.size 9 1 v i (strs ((ps.map (·.1)).take i))) (fun (i, v) => ps.length - i) (⟨0, .slice (some ⟨g_b0, 0, none⟩) 0 0⟩) ?_ ?_ ?_
  · exact by repeat first | exact Sub.nil | refine Sub.cons' rfl (by first | rfl | exact int_eq (by omega) | exact int_eq (by simp) | (simp; done)) ?_
  · exact ⟨by omega, fun _ h => by omega, hb, hO⟩
  rintro ⟨i, v⟩ wr hI_10 _ hL_9
  replace hI_10 : i ≤ ps.length ∧ (∀ j, j < i → valueAt ps j = true) ∧ Below w.heap.size w wr ∧ wr.ownsRow w.heap.size 9 1 v i (strs ((ps.map (·.1)).take i)) := hI_10
  obtain ⟨hi, hall, hb, hO⟩ := hI_10
  show Wc _ _ _ _ _ [(0, .slice B ps.length e), (3, v), (4, .int .i64 (i : Int))] _
  have hP := hP_hb.below hb
  have hzhb_L0 := hb.size
  refine Wc.seq fun _ hK_11 => Wc.seq fun _ hK_12 => Wc.region <| Wl.mv rfl rfl <| Wl.mv rfl rfl ?_
  refine Wl.y (y_lenl Tryz.underlying45 (by omega) rfl) rfl ?_
  refine Wl.y (y_lssi rfl rfl) rfl <| Wl.nil <| Wq.next hK_12 ?_
  refine Wc.cond rfl (fun c0_17 => ?_) (fun c0_17 => ?_)
  ·
   have c0_17_ := c0_17
   simp only [DZ] at c0_17
   have hil : i < ps.length := by have := c0_17; omega
   have hpi := szP_at hil
   have hoi := ok_at hok hil
   obtain ⟨p_, hpe, hcell⟩ := rd_elem propC (l := ps) (by omega) propC_len hP hil pr0
   have hpe : B = some p_ := hpe
   subst hpe
   refine Wc.skip <| Wq.next hK_11 <| Wc.seq fun _ hK_18 => Wc.block <| Wc.seq fun _ hK_19 => Wc.region <| Wl.mv rfl rfl <| Wl.mv rfl rfl ?_
   refine Wl.y (y_indexAddr Tryz.underlying45 sz96GrS rfl rfl (by omega) (by omega)) rfl ?_
   refine Wl.y (y_fieldAddr (fa96_1GrS _) rfl) rfl ?_
   refine Wl.l (l_loadS Tryz.underlying94 (by kernel_rfl) rfl (by exact show ∀ (j : Nat) (u : Value), (ps.getD i pr0).2.cells[j]? = some u → _ from fun j u hu => by rw [addr_add_add, Int.toNat_natCast]; have h2 := hcell (1 + j) u (by rw [Nat.add_comm]; exact hu); rw [addr_add_add] at h2 ⊢; exact h2)) rfl ?_
   refine Wl.call txt110GrS rfl rfl (RRight_r (ps.getD i pr0).2 hoi _) rfl ?_
   rintro _ w_k0 ⟨rfl, hs_k0⟩
   have hz_k0 := hs_k0.size
   have hb := hb.trans (hs_k0.mono hb.size)
   have hP := hP_hb.below hb
   have hO := own_below hO hs_k0
   refine Wl.sg rfl rfl <| Wl.nil <| Wq.next hK_19 <| Wc.seq fun _ hK_27 => Wc.seq fun _ hK_28 => ?_
   obtain ⟨p2_, hpe2, hcell2⟩ := rd_elem propC (l := ps) (by omega) propC_len hP hil pr0
   cases hpe2
   refine Wc.meet (X := Bool) (fun q => [(0, .slice (some p_) ps.length e), (3, v), (4, .int .i64 (i : Int)), (29, .bool q)]) (fun q wr => q = (!valueAt ps i) ∧ Below w.heap.size w wr ∧ wr.ownsRow w.heap.size 9 1 v i (strs ((ps.map (·.1)).take i))) (fun _ hM_29 => ?_) ?_
   ·
    refine Wc.region <| Wl.mv rfl rfl <| Wl.y (y_not rfl) rfl <| Wl.mv rfl rfl ?_
    refine Wl.guardF rfl rfl rfl (fun g_33 => ?_) (fun g_33 => ?_)
    ·
     have g_33_ := g_33
     simp only [DZ] at g_33
     refine Wl.off' rfl rfl g_33_ rfl rfl <| Wl.off' rfl rfl g_33_ rfl rfl <| Wl.off' rfl rfl g_33_ rfl rfl <| Wl.off' rfl rfl g_33_ rfl rfl <| Wl.off' rfl rfl g_33_ rfl rfl <| Wl.off' rfl rfl g_33_ rfl rfl ?_
     refine Wl.y (y_pickT rfl g_33_ rfl) rfl ?_
     refine Wl.nil ?_
     refine Wq.meet hM_29 (!valueAt ps i) (by repeat first | exact Sub.nil | refine Sub.cons' rfl (by first | rfl | exact bool_eq (by unfold valueAt; simp_all [beqZ])) ?_) ?_
     exact ⟨rfl, hb, hO⟩
    have g_33_ := g_33
    simp only [DZ] at g_33
    refine Wl.mv rfl rfl <| Wl.on' rfl rfl g_33_ <| Wl.mv rfl rfl <| Wl.on' rfl rfl g_33_ ?_
    refine Wl.y (y_indexAddr Tryz.underlying45 sz96GrS rfl rfl (by omega) (by omega)) rfl ?_
    refine Wl.on' rfl rfl g_33_ ?_
    refine Wl.y (y_fieldAddr (fa96_1GrS _) rfl) rfl ?_
    refine Wl.on' rfl rfl g_33_ ?_
    refine Wl.y (y_fieldAddr (fa94_0GrS _) rfl) rfl ?_
    refine Wl.on' rfl rfl g_33_ ?_
    refine Wl.l (l_load one3GrS rfl (by exact by rw [Int.toNat_natCast]; exact hcell2 1 _ rfl)) rfl ?_
    refine Wl.on' rfl rfl g_33_ <| Wl.y (y_eqli rfl rfl) rfl ?_
    refine Wl.y (y_pickF rfl g_33_ rfl) rfl ?_
    refine Wl.nil ?_
    refine Wq.meet hM_29 (!valueAt ps i) (by repeat first | exact Sub.nil | refine Sub.cons' rfl (by first | rfl | exact bool_eq (by unfold valueAt; simp_all [beqZ])) ?_) ?_
    exact ⟨rfl, hb, hO⟩
   rintro q wr hI_43
   replace hI_43 : q = (!valueAt ps i) ∧ Below w.heap.size w wr ∧ wr.ownsRow w.heap.size 9 1 v i (strs ((ps.map (·.1)).take i)) := hI_43
   obtain ⟨hq, hb, hO⟩ := hI_43
   show Wq _ _ _ _ [(0, .slice (some p_) ps.length e), (3, v), (4, .int .i64 (i : Int)), (29, .bool q)] _
   have hP := hP_hb.below hb
   have hzhb_g5 := hb.size
   refine Wq.next hK_28 ?_
   refine Wc.cond rfl (fun c1_44 => ?_) (fun c1_44 => ?_)
   ·
    have c1_44_ := c1_44
    refine Wc.seq fun _ hK_45 => Wc.region <| Wl.sg rfl rfl <| Wl.nil <| Wq.next hK_45 <| Wc.ret ?_
    refine Wq.then_ret (Wq.block_ret (Wq.then_ret (Wq.then_ret (Wq.block_ret (Wq.then_ret ?_)))))
    refine ret1 rfl rfl ?_
    exact ⟨_, rfl, bool_eq (by unfold propsV; have h := c1_44_; rw [hq] at h; rw [allN_f hil (by simpa using h)]; rfl), hb⟩
   have c1_44_ := c1_44
   refine Wc.skip <| Wq.next hK_27 ?_
   obtain ⟨p2_, hpe2, hcell2⟩ := rd_elem propC (l := ps) (by omega) propC_len hP hil pr0
   cases hpe2
   refine Wc.region <| Wl.mv rfl rfl <| Wl.mv rfl rfl <| Wl.mv rfl rfl ?_
   refine Wl.y (y_indexAddr Tryz.underlying45 sz96GrS rfl rfl (by omega) (by omega)) rfl ?_
   refine Wl.y (y_fieldAddr (fa96_0GrS _) rfl) rfl ?_
   refine Wl.l (l_load one9GrS rfl (by exact by rw [Int.toNat_natCast]; exact hcell2 0 _ rfl)) rfl ?_
   refine Wl.litN (sz := 1) (vs := [_]) Tryz.underlying44 (by kernel_rfl) rfl rfl rfl rfl rfl rfl ?_
   rintro g_b2 w_b2 hg_b2 hn_b2 hs_b2
   have hz_b2 := hs_b2.size
   have hb := hb.trans (hs_b2.mono hb.size)
   have hP := hP_hb.below hb
   have hO := own_below hO hs_b2
   have hB_b2 := hn_b2
   have hl_b2 := hB_b2.lt
   refine Wl.append (z := (str [])) (sz := 1) (bytes := 16) Tryz.underlying44 (by kernel_rfl) rfl (by decide) _ rfl hO rfl (hB_b2.rd 1 1 rfl) (one_str _) (by simp only [maxLen]; omega) (by omega) (by exact hb.size) rfl ?_
   rintro v_b3 w_b3 hn_b3 hg_b3 ha_b3
   have hz_b3 := hg_b3.size
   have hb := hb.grown hg_b3 hb.size (fun k_ hk_ => by have := (own_ge hO k_ hk_).1; omega)
   have hP := hP_hb.below hb
   have hO := hn_b3
   refine Wl.sg rfl rfl <| Wl.nil <| Wq.block_normal <| Wq.next hK_18 <| Wc.region <| Wl.mv rfl rfl ?_
   refine Wl.y (y_addI rfl rfl (by omega) (by omega)) rfl ?_
   refine Wl.sg rfl rfl <| Wl.nil ?_
   refine fun a_ ha_ => hL_9 _ _ (⟨i + 1, v_b3⟩) (by simp; omega) (by repeat first | exact Sub.nil | refine Sub.cons' rfl (by first | rfl | exact int_eq (by omega) | exact int_eq (by simp) | (simp; done)) ?_) ?_ a_ ha_
   exact ⟨by omega, fun j hj => (by by_cases e : j = i; (· rw [e]; have h := c1_44_; rw [hq] at h; simpa using h); (· exact hall j (by omega))), hb, by rw [nm_take hil, strs_snoc]; exact hO⟩
  have c0_17_ := c0_17
  simp only [DZ] at c0_17
  have hie : i = ps.length := by have := c0_17; omega
  have hv1 : allN ps.length (valueAt ps) = true := allN_t (fun j hj => hall j (by omega))
  have hml : (ps.map (·.1)).take i = ps.map (·.1) := by rw [hie]; exact List.take_of_length_le (by simp)
  obtain ⟨Ao, co, hve, _, _⟩ := own_form hO
  subst hve
  refine Wc.exit ?_
  refine Wq.then_exit <| Wq.then_exit <| Wq.block_exit <| Wq.next hK_6 <| Wc.seq fun _ hK_59 => Wc.region <| Wl.mv rfl rfl ?_
  have hRo := Rd.of_own hO
  rw [hml] at hRo
  refine Wl.call txt71GrS rfl rfl (Rrising_n Ao co i (ps.map (·.1)) (by simp; omega) _ hRo (by have := szP_names ps; omega)) rfl ?_
  rintro _ w_k1 ⟨rfl, hs_k1⟩
  have hz_k1 := hs_k1.size
  have hb := hb.trans (hs_k1.mono hb.size)
  have hP := hP_hb.below hb
  refine Wl.sg rfl rfl <| Wl.nil <| Wq.next hK_59 <| Wc.ret ?_
  refine ret1 rfl rfl ?_
  exact ⟨_, rfl, bool_eq (by unfold propsV; rw [hv1, Bool.true_and]), hb⟩
end Go.Proofs.YtobhpejaoakpmaaGreatDoor
namespace Go.Proofs.YtobhpejaoakpmaaGreatDoor
open Go.RowKit Go.Bw Go.Bw.Fl
set_option linter.unusedVariables false
set_option linter.unusedSimpArgs false
theorem fa25_0GrT (p : Addr) (w : World) : (Instr.fieldAt 25 (.pointer (some p)) 0).run Tryz.prog w = .ok (.pointer (some (p.add 0))) w := run_fieldAt (i := 0) (sz := 0) Tryz.underlying25 rfl (by kernel_rfl) p w
theorem fa25_1GrT (p : Addr) (w : World) : (Instr.fieldAt 25 (.pointer (some p)) 1).run Tryz.prog w = .ok (.pointer (some (p.add 1))) w := run_fieldAt (i := 1) (sz := 0) Tryz.underlying25 rfl (by kernel_rfl) p w
theorem fa47_0GrT (p : Addr) (w : World) : (Instr.fieldAt 47 (.pointer (some p)) 0).run Tryz.prog w = .ok (.pointer (some (p.add 0))) w := run_fieldAt (i := 0) (sz := 0) Tryz.underlying47 rfl (by kernel_rfl) p w
theorem fa54_0GrT (p : Addr) (w : World) : (Instr.fieldAt 54 (.pointer (some p)) 0).run Tryz.prog w = .ok (.pointer (some (p.add 0))) w := run_fieldAt (i := 0) (sz := 0) Tryz.underlying54 rfl (by kernel_rfl) p w
theorem one22GrT : One Tryz.prog 22 := ⟨_, Tryz.underlying22, rfl, by kernel_rfl⟩
theorem one23GrT : One Tryz.prog 23 := ⟨_, Tryz.underlying23, rfl, by kernel_rfl⟩
theorem one9GrT : One Tryz.prog 9 := ⟨_, Tryz.underlying9, rfl, by kernel_rfl⟩
theorem sz47GrT : (Tryz.prog.info? 47).map (·.size) = some 3 := by kernel_rfl
theorem sz54GrT : (Tryz.prog.info? 54).map (·.size) = some 6 := by kernel_rfl
/-- the first place of a name -/
def FirstIs (l : List (List UInt8)) (x : List UInt8) (k : Int) : Prop := (∃ i : Nat, k = (i : Int) ∧ i < l.length ∧ l.getD i [] = x ∧ ∀ j, j < i → l.getD j [] ≠ x) ∨ (k = -1 ∧ ∀ j, j < l.length → l.getD j [] ≠ x)
def firstAt (l : List (List UInt8)) (i : Nat) : Bool := allN i (fun j => decide (l.getD j [] ≠ l.getD i []))
theorem firstAt_iff {l : List (List UInt8)} {i : Nat} : firstAt l i = true ↔ ∀ j, j < i → l.getD j [] ≠ l.getD i [] := by unfold firstAt; rw [allN_iff]; exact ⟨fun h j hj => of_decide_eq_true (h j hj), fun h j hj => decide_eq_true (h j hj)⟩
theorem find_first {l : List (List UInt8)} {i : Nat} {k : Int} (hi : i < l.length) (h : FirstIs l (l.getD i []) k) : (k != (i : Int)) = !firstAt l i := by
  rcases h with ⟨m, rfl, hm, he, hlt⟩ | ⟨rfl, hno⟩
  · by_cases e : m = i
    · subst e; rw [firstAt_iff.2 hlt]; simp
    · have h1 : ((m : Int) != (i : Int)) = true := by simp; omega
      rw [h1]
      cases hf : firstAt l i with
      | false => rfl
      | true =>
        have := firstAt_iff.1 hf
        rcases Nat.lt_or_gt_of_ne e with h | h
        · exact absurd he (this m h)
        · exact absurd rfl (hlt i h)
  · exact absurd rfl (hno i hi)
theorem keys_mapN (l : List (List UInt8)) : ∀ (i : Nat) (x : List UInt8), x ∈ keys (mapN l i) ↔ ∃ j, j < i ∧ l.getD j [] = x
  | 0, x => by simp [mapN, keys]
  | i + 1, x => by
    have ih := keys_mapN l i
    unfold mapN
    rw [keys_mput]
    split
    · rename_i h
      rw [ih x]
      refine ⟨fun ⟨j, h1, h2⟩ => ⟨j, by omega, h2⟩, fun ⟨j, h1, h2⟩ => ?_⟩
      by_cases e : j = i
      · subst e; rw [← h2]; exact (ih _).1 h
      · exact ⟨j, by omega, h2⟩
    · rw [List.mem_append, ih x, List.mem_singleton]
      refine ⟨fun h => ?_, fun ⟨j, h1, h2⟩ => ?_⟩
      · rcases h with ⟨j, h1, h2⟩ | h
        · exact ⟨j, by omega, h2⟩
        · exact ⟨i, by omega, h.symm⟩
      · by_cases e : j = i
        · subst e; exact .inr h2.symm
        · exact .inl ⟨j, by omega, h2⟩
theorem keys_len (kv : List (List UInt8 × Value)) : (keys kv).length = kv.length := by simp [keys]
theorem mapN_len (l : List (List UInt8)) : ∀ i, (mapN l i).length ≤ i ∧ ((mapN l i).length = i ↔ ∀ j, j < i → firstAt l j = true)
  | 0 => by simp [mapN]
  | i + 1 => by
    obtain ⟨h1, h2⟩ := mapN_len l i
    have hk := congrArg List.length (keys_mput (mapN l i) (l.getD i []) (.int .i64 i))
    rw [keys_len] at hk
    have hm := keys_mapN l i (l.getD i [])
    have e : mapN l (i + 1) = mput (mapN l i) (l.getD i []) (.int .i64 i) := rfl
    rw [e, hk]
    split
    · rename_i h
      rw [keys_len]
      refine ⟨by omega, fun h3 => by omega, fun h3 => ?_⟩
      obtain ⟨j, h4, h5⟩ := hm.1 h
      exact absurd h5 (firstAt_iff.1 (h3 i (by omega)) j h4)
    · rename_i h
      rw [List.length_append, keys_len]
      refine ⟨by simp; omega, fun h3 j hj => ?_, fun h3 => ?_⟩
      · have h4 : (mapN l i).length = i := by simp at h3; omega
        by_cases e : j = i
        · subst e; exact firstAt_iff.2 fun k hk h5 => h (hm.2 ⟨k, hk, h5⟩)
        · exact h2.1 h4 j (by omega)
      · have := h2.2 (fun j hj => h3 j (by omega)); simp; omega
theorem distinct_iff (l : List (List UInt8)) : distinct l = allN l.length (firstAt l) := by
  unfold distinct
  rw [Bool.eq_iff_iff, decide_eq_true_eq, allN_iff]; exact (mapN_len l l.length).2
def nodeR (g : GV) (i : Nat) : Bool := nodeV (g.ns.getD i nd0) && firstAt (nnames g) i
def edgeR (g : GV) (i : Nat) : Bool := edgeV g.ns.length (g.es.getD i ed0) && firstAt (enames g) i
theorem allN_and (n : Nat) (p q : Nat → Bool) : allN n (fun i => p i && q i) = (allN n p && allN n q) := by
  rw [Bool.eq_iff_iff, Bool.and_eq_true, allN_iff, allN_iff, allN_iff]
  exact ⟨fun h => ⟨fun j hj => (Bool.and_eq_true _ _ ▸ h j hj).1, fun j hj => (Bool.and_eq_true _ _ ▸ h j hj).2⟩, fun h j hj => by rw [h.1 j hj, h.2 j hj]; rfl⟩
theorem okG_ref (g : GV) : okG g = (allN g.ns.length (nodeR g) && allN g.es.length (edgeR g)) := by
  have e1 : nodeR g = fun i => nodeV (g.ns.getD i nd0) && firstAt (nnames g) i := rfl
  have e2 : edgeR g = fun i => edgeV g.ns.length (g.es.getD i ed0) && firstAt (enames g) i := rfl
  have h1 : distinct (g.ns.map (·.n)) = allN g.ns.length (firstAt (nnames g)) := by rw [distinct_iff, List.length_map]; rfl
  have h2 : distinct (g.es.map (·.n)) = allN g.es.length (firstAt (enames g)) := by rw [distinct_iff, List.length_map]; rfl
  unfold okG
  rw [e1, e2, allN_and, allN_and, h1, h2]
  generalize allN g.ns.length (firstAt (nnames g)) = a
  generalize allN g.es.length (firstAt (enames g)) = b
  generalize (allN g.ns.length fun i => nodeV (g.ns.getD i nd0)) = p
  generalize (allN g.es.length fun i => edgeV g.ns.length (g.es.getD i ed0)) = q
  cases a <;> cases b <;> cases p <;> cases q <;> rfl
theorem nodeV_alt (d : ND) : nodeV d = (wordA d.n && risingV d.ls && propsV d.ps) := by
  unfold nodeV elementV propsV
  generalize allN d.ps.length (valueAt d.ps) = a
  cases a <;> cases wordA d.n <;> cases risingV d.ls <;> rfl
theorem edgeV_alt (n : Nat) (d : ED) : edgeV n d = (wordA d.n && risingV d.ls && propsV d.ps && (isV n d.fr && isV n d.tw)) := by
  have := nodeV_alt ⟨d.n, d.ls, d.ps⟩
  unfold edgeV
  rw [show elementV d.n d.ls d.ps = _ from this, Bool.and_assoc]
theorem RFind_r (S : Nat → Prop) (A : Option Addr) (c : Nat) (B : Option Addr) (e : Nat) (g : GV) (x : List UInt8) (w : World) (hG : GAt S w A c B e g) (hsz : szG g ≤ 1099511627776) :
    Ret Tryz.prog 65 [.agg #[.slice A g.ns.length c, .slice B g.es.length e], str x] w fun v w' => (∃ k, v = .int .i64 k ∧ FirstIs (nnames g) x k) ∧ Below w.heap.size w w' := by
  have hnl := szG_nlen g
  have hll : (nnames g).length = g.ns.length := by simp [nnames]
  have hb := Below.refl w.heap.size w
  have hG_hb := hG
  refine enter Tryz.func65 rfl rfl rfl ?_
  refine Wc.seq fun _ hK_1 => Wc.region ?_
  refine Wl.boxN rfl rfl ?_
  rintro g_o0 w_o0 hg_o0 hn_o0 hs_o0
  have hz_o0 := hs_o0.size
  have hb := hb.trans (hs_o0.mono hb.size)
  have hG := hG_hb.below hb
  have hB_o0 := hn_o0
  have hl_o0 := hB_o0.lt
  refine Wl.sg rfl rfl <| Wl.nil <| Wq.next hK_1 <| Wc.seq fun _ hK_4 => Wc.seq fun _ hK_5 => Wc.region <| Wl.sg rfl rfl <| Wl.nil <| Wq.next hK_5 <| Wc.block ?_
  refine Wc.loop (X := Nat) (fun i => [(1, str x), (2, .pointer (some ⟨g_o0, 0, none⟩)), (5, .int .i64 (i : Int))]) (fun i wr => i ≤ g.ns.length ∧ (∀ j, j < i → (nnames g).getD j [] ≠ x) ∧ Below w.heap.size w wr ∧ Blk wr g_o0 25 [.slice A g.ns.length c, .slice B g.es.length e]) (fun i => g.ns.length - i) (0) ?_ ?_ ?_
  · exact by repeat first | exact Sub.nil | refine Sub.cons' rfl (by first | rfl | exact int_eq (by omega) | exact int_eq (by simp) | (simp; done)) ?_
  · exact ⟨by omega, fun _ h => by omega, hb, hB_o0⟩
  rintro i wr hI_8 _ hL_7
  replace hI_8 : i ≤ g.ns.length ∧ (∀ j, j < i → (nnames g).getD j [] ≠ x) ∧ Below w.heap.size w wr ∧ Blk wr g_o0 25 [.slice A g.ns.length c, .slice B g.es.length e] := hI_8
  obtain ⟨hi, hall, hb, hB_o0⟩ := hI_8
  show Wc _ _ _ _ _ [(1, str x), (2, .pointer (some ⟨g_o0, 0, none⟩)), (5, .int .i64 (i : Int))] _
  have hG := hG_hb.below hb
  have hzhb_L0 := hb.size
  have hlhB_o0_L0 := hB_o0.lt
  refine Wc.seq fun _ hK_9 => Wc.seq fun _ hK_10 => Wc.region <| Wl.mv rfl rfl ?_
  refine Wl.y (y_fieldAddr (fa25_0GrT _) rfl) rfl ?_
  refine Wl.l (l_load one22GrT rfl (by exact hB_o0.at (j := 0) rfl)) rfl ?_
  refine Wl.y (y_lenl Tryz.underlying22 (by omega) rfl) rfl ?_
  refine Wl.y (y_lssi rfl rfl) rfl <| Wl.nil <| Wq.next hK_10 ?_
  refine Wc.cond rfl (fun c0_16 => ?_) (fun c0_16 => ?_)
  ·
   have c0_16_ := c0_16
   simp only [DZ] at c0_16
   have hil : i < g.ns.length := by have := c0_16; omega
   obtain ⟨p_, cs_, hpe, hcl, hcell, hQ⟩ := hG.rn i hil
   obtain ⟨A1, c1, B1, e1, rfl, hN⟩ := hQ
   subst hpe
   refine Wc.skip <| Wq.next hK_9 <| Wc.seq fun _ hK_17 => Wc.block <| Wc.seq fun _ hK_18 => Wc.region ?_
   refine Wl.y (y_fieldAddr (fa25_0GrT _) rfl) rfl ?_
   refine Wl.l (l_load one22GrT rfl (by exact hB_o0.at (j := 0) rfl)) rfl ?_
   refine Wl.mv rfl rfl ?_
   refine Wl.y (y_indexAddr Tryz.underlying22 sz47GrT rfl rfl (by omega) (by omega)) rfl ?_
   refine Wl.y (y_fieldAddr (fa47_0GrT _) rfl) rfl ?_
   refine Wl.l (l_load one9GrT rfl (by exact by rw [Int.toNat_natCast]; exact hcell 0 _ rfl)) rfl ?_
   refine Wl.mv rfl rfl <| Wl.y (y_eqls rfl rfl) rfl <| Wl.nil <| Wq.next hK_18 ?_
   refine Wc.cond rfl (fun c1_27 => ?_) (fun c1_27 => ?_)
   ·
    have c1_27_ := c1_27
    simp only [DZ] at c1_27
    refine Wc.seq fun _ hK_28 => Wc.region <| Wl.mv rfl rfl <| Wl.sg rfl rfl <| Wl.nil <| Wq.next hK_28 <| Wc.ret ?_
    refine Wq.block_ret (Wq.then_ret (Wq.then_ret (Wq.block_ret (Wq.then_ret ?_))))
    refine ret1 rfl rfl ?_
    exact ⟨_, rfl, ⟨_, rfl, .inl ⟨i, rfl, by omega, by rw [nn_at hil]; exact c1_27, hall⟩⟩, hb⟩
   have c1_27_ := c1_27
   simp only [DZ] at c1_27
   refine Wc.skip <| Wq.block_normal <| Wq.next hK_17 <| Wc.region <| Wl.mv rfl rfl ?_
   refine Wl.y (y_addI rfl rfl (by omega) (by omega)) rfl ?_
   refine Wl.sg rfl rfl <| Wl.nil ?_
   refine fun a_ ha_ => hL_7 _ _ (i + 1) (by omega) (by repeat first | exact Sub.nil | refine Sub.cons' rfl (by first | rfl | exact int_eq (by omega) | exact int_eq (by simp) | (simp; done)) ?_) ?_ a_ ha_
   exact ⟨by omega, fun j hj => (by by_cases e : j = i; (· rw [e, nn_at hil]; exact c1_27); (· exact hall j (by omega))), hb, hB_o0⟩
  have c0_16_ := c0_16
  simp only [DZ] at c0_16
  refine Wc.exit ?_
  refine Wq.then_exit <| Wq.then_exit <| Wq.block_exit <| Wq.next hK_4 <| Wc.seq fun _ hK_34 => Wc.region <| Wl.sg rfl rfl <| Wl.nil <| Wq.next hK_34 <| Wc.ret ?_
  refine ret1 rfl rfl ?_
  exact ⟨_, rfl, ⟨_, rfl, .inr ⟨rfl, fun j hj => hall j (by have := c0_16; omega)⟩⟩, hb⟩
theorem RFindE_r (S : Nat → Prop) (A : Option Addr) (c : Nat) (B : Option Addr) (e : Nat) (g : GV) (x : List UInt8) (w : World) (hG : GAt S w A c B e g) (hsz : szG g ≤ 1099511627776) :
    Ret Tryz.prog 67 [.agg #[.slice A g.ns.length c, .slice B g.es.length e], str x] w fun v w' => (∃ k, v = .int .i64 k ∧ FirstIs (enames g) x k) ∧ Below w.heap.size w w' := by
  have hnl := szG_elen g
  have hll : (enames g).length = g.es.length := by simp [enames]
  have hb := Below.refl w.heap.size w
  have hG_hb := hG
  refine enter Tryz.func67 rfl rfl rfl ?_
  refine Wc.seq fun _ hK_1 => Wc.region ?_
  refine Wl.boxN rfl rfl ?_
  rintro g_o0 w_o0 hg_o0 hn_o0 hs_o0
  have hz_o0 := hs_o0.size
  have hb := hb.trans (hs_o0.mono hb.size)
  have hG := hG_hb.below hb
  have hB_o0 := hn_o0
  have hl_o0 := hB_o0.lt
  refine Wl.sg rfl rfl <| Wl.nil <| Wq.next hK_1 <| Wc.seq fun _ hK_4 => Wc.seq fun _ hK_5 => Wc.region <| Wl.sg rfl rfl <| Wl.nil <| Wq.next hK_5 <| Wc.block ?_
  refine Wc.loop (X := Nat) (fun i => [(1, str x), (2, .pointer (some ⟨g_o0, 0, none⟩)), (5, .int .i64 (i : Int))]) (fun i wr => i ≤ g.es.length ∧ (∀ j, j < i → (enames g).getD j [] ≠ x) ∧ Below w.heap.size w wr ∧ Blk wr g_o0 25 [.slice A g.ns.length c, .slice B g.es.length e]) (fun i => g.es.length - i) (0) ?_ ?_ ?_
  · exact by repeat first | exact Sub.nil | refine Sub.cons' rfl (by first | rfl | exact int_eq (by omega) | exact int_eq (by simp) | (simp; done)) ?_
  · exact ⟨by omega, fun _ h => by omega, hb, hB_o0⟩
  rintro i wr hI_8 _ hL_7
  replace hI_8 : i ≤ g.es.length ∧ (∀ j, j < i → (enames g).getD j [] ≠ x) ∧ Below w.heap.size w wr ∧ Blk wr g_o0 25 [.slice A g.ns.length c, .slice B g.es.length e] := hI_8
  obtain ⟨hi, hall, hb, hB_o0⟩ := hI_8
  show Wc _ _ _ _ _ [(1, str x), (2, .pointer (some ⟨g_o0, 0, none⟩)), (5, .int .i64 (i : Int))] _
  have hG := hG_hb.below hb
  have hzhb_L0 := hb.size
  have hlhB_o0_L0 := hB_o0.lt
  refine Wc.seq fun _ hK_9 => Wc.seq fun _ hK_10 => Wc.region <| Wl.mv rfl rfl ?_
  refine Wl.y (y_fieldAddr (fa25_1GrT _) rfl) rfl ?_
  refine Wl.l (l_load one23GrT rfl (by exact hB_o0.at (j := 1) rfl)) rfl ?_
  refine Wl.y (y_lenl Tryz.underlying23 (by omega) rfl) rfl ?_
  refine Wl.y (y_lssi rfl rfl) rfl <| Wl.nil <| Wq.next hK_10 ?_
  refine Wc.cond rfl (fun c0_16 => ?_) (fun c0_16 => ?_)
  ·
   have c0_16_ := c0_16
   simp only [DZ] at c0_16
   have hil : i < g.es.length := by have := c0_16; omega
   obtain ⟨p_, cs_, hpe, hcl, hcell, hQ⟩ := hG.re i hil
   obtain ⟨A1, c1, B1, e1, rfl, hN⟩ := hQ
   subst hpe
   refine Wc.skip <| Wq.next hK_9 <| Wc.seq fun _ hK_17 => Wc.block <| Wc.seq fun _ hK_18 => Wc.region ?_
   refine Wl.y (y_fieldAddr (fa25_1GrT _) rfl) rfl ?_
   refine Wl.l (l_load one23GrT rfl (by exact hB_o0.at (j := 1) rfl)) rfl ?_
   refine Wl.mv rfl rfl ?_
   refine Wl.y (y_indexAddr Tryz.underlying23 sz54GrT rfl rfl (by omega) (by omega)) rfl ?_
   refine Wl.y (y_fieldAddr (fa54_0GrT _) rfl) rfl ?_
   refine Wl.l (l_load one9GrT rfl (by exact by rw [Int.toNat_natCast]; exact hcell 0 _ rfl)) rfl ?_
   refine Wl.mv rfl rfl <| Wl.y (y_eqls rfl rfl) rfl <| Wl.nil <| Wq.next hK_18 ?_
   refine Wc.cond rfl (fun c1_27 => ?_) (fun c1_27 => ?_)
   ·
    have c1_27_ := c1_27
    simp only [DZ] at c1_27
    refine Wc.seq fun _ hK_28 => Wc.region <| Wl.mv rfl rfl <| Wl.sg rfl rfl <| Wl.nil <| Wq.next hK_28 <| Wc.ret ?_
    refine Wq.block_ret (Wq.then_ret (Wq.then_ret (Wq.block_ret (Wq.then_ret ?_))))
    refine ret1 rfl rfl ?_
    exact ⟨_, rfl, ⟨_, rfl, .inl ⟨i, rfl, by omega, by rw [en_at hil]; exact c1_27, hall⟩⟩, hb⟩
   have c1_27_ := c1_27
   simp only [DZ] at c1_27
   refine Wc.skip <| Wq.block_normal <| Wq.next hK_17 <| Wc.region <| Wl.mv rfl rfl ?_
   refine Wl.y (y_addI rfl rfl (by omega) (by omega)) rfl ?_
   refine Wl.sg rfl rfl <| Wl.nil ?_
   refine fun a_ ha_ => hL_7 _ _ (i + 1) (by omega) (by repeat first | exact Sub.nil | refine Sub.cons' rfl (by first | rfl | exact int_eq (by omega) | exact int_eq (by simp) | (simp; done)) ?_) ?_ a_ ha_
   exact ⟨by omega, fun j hj => (by by_cases e : j = i; (· rw [e, en_at hil]; exact c1_27); (· exact hall j (by omega))), hb, hB_o0⟩
  have c0_16_ := c0_16
  simp only [DZ] at c0_16
  refine Wc.exit ?_
  refine Wq.then_exit <| Wq.then_exit <| Wq.block_exit <| Wq.next hK_4 <| Wc.seq fun _ hK_34 => Wc.region <| Wl.sg rfl rfl <| Wl.nil <| Wq.next hK_34 <| Wc.ret ?_
  refine ret1 rfl rfl ?_
  exact ⟨_, rfl, ⟨_, rfl, .inr ⟨rfl, fun j hj => hall j (by have := c0_16; omega)⟩⟩, hb⟩
end Go.Proofs.YtobhpejaoakpmaaGreatDoor
namespace Go.Proofs.YtobhpejaoakpmaaGreatDoor
open Go.RowKit Go.Bw Go.Bw.Fl
set_option linter.unusedVariables false
set_option linter.unusedSimpArgs false
theorem fa25_0GrU (p : Addr) (w : World) : (Instr.fieldAt 25 (.pointer (some p)) 0).run Tryz.prog w = .ok (.pointer (some (p.add 0))) w := run_fieldAt (i := 0) (sz := 0) Tryz.underlying25 rfl (by kernel_rfl) p w
theorem fa25_1GrU (p : Addr) (w : World) : (Instr.fieldAt 25 (.pointer (some p)) 1).run Tryz.prog w = .ok (.pointer (some (p.add 1))) w := run_fieldAt (i := 1) (sz := 0) Tryz.underlying25 rfl (by kernel_rfl) p w
theorem fa47_0GrU (p : Addr) (w : World) : (Instr.fieldAt 47 (.pointer (some p)) 0).run Tryz.prog w = .ok (.pointer (some (p.add 0))) w := run_fieldAt (i := 0) (sz := 0) Tryz.underlying47 rfl (by kernel_rfl) p w
theorem fa47_1GrU (p : Addr) (w : World) : (Instr.fieldAt 47 (.pointer (some p)) 1).run Tryz.prog w = .ok (.pointer (some (p.add 1))) w := run_fieldAt (i := 1) (sz := 0) Tryz.underlying47 rfl (by kernel_rfl) p w
theorem fa47_2GrU (p : Addr) (w : World) : (Instr.fieldAt 47 (.pointer (some p)) 2).run Tryz.prog w = .ok (.pointer (some (p.add 2))) w := run_fieldAt (i := 2) (sz := 0) Tryz.underlying47 rfl (by kernel_rfl) p w
theorem fa54_0GrU (p : Addr) (w : World) : (Instr.fieldAt 54 (.pointer (some p)) 0).run Tryz.prog w = .ok (.pointer (some (p.add 0))) w := run_fieldAt (i := 0) (sz := 0) Tryz.underlying54 rfl (by kernel_rfl) p w
theorem fa54_1GrU (p : Addr) (w : World) : (Instr.fieldAt 54 (.pointer (some p)) 1).run Tryz.prog w = .ok (.pointer (some (p.add 1))) w := run_fieldAt (i := 1) (sz := 0) Tryz.underlying54 rfl (by kernel_rfl) p w
theorem fa54_2GrU (p : Addr) (w : World) : (Instr.fieldAt 54 (.pointer (some p)) 2).run Tryz.prog w = .ok (.pointer (some (p.add 2))) w := run_fieldAt (i := 2) (sz := 0) Tryz.underlying54 rfl (by kernel_rfl) p w
theorem fa54_4GrU (p : Addr) (w : World) : (Instr.fieldAt 54 (.pointer (some p)) 4).run Tryz.prog w = .ok (.pointer (some (p.add 4))) w := run_fieldAt (i := 4) (sz := 0) Tryz.underlying54 rfl (by kernel_rfl) p w
theorem fa54_5GrU (p : Addr) (w : World) : (Instr.fieldAt 54 (.pointer (some p)) 5).run Tryz.prog w = .ok (.pointer (some (p.add 5))) w := run_fieldAt (i := 5) (sz := 0) Tryz.underlying54 rfl (by kernel_rfl) p w
theorem one22GrU : One Tryz.prog 22 := ⟨_, Tryz.underlying22, rfl, by kernel_rfl⟩
theorem one23GrU : One Tryz.prog 23 := ⟨_, Tryz.underlying23, rfl, by kernel_rfl⟩
theorem one3GrU : One Tryz.prog 3 := ⟨_, Tryz.underlying3, rfl, by kernel_rfl⟩
theorem one44GrU : One Tryz.prog 44 := ⟨_, Tryz.underlying44, rfl, by kernel_rfl⟩
theorem one45GrU : One Tryz.prog 45 := ⟨_, Tryz.underlying45, rfl, by kernel_rfl⟩
theorem one9GrU : One Tryz.prog 9 := ⟨_, Tryz.underlying9, rfl, by kernel_rfl⟩
theorem sz47GrU : (Tryz.prog.info? 47).map (·.size) = some 3 := by kernel_rfl
theorem sz54GrU : (Tryz.prog.info? 54).map (·.size) = some 6 := by kernel_rfl
theorem txt64GrU : Txt Tryz.prog 64 := ⟨_, Tryz.func64, by kernel_rfl, rfl⟩   -- bridleway/bridlewayref06.Word
theorem txt65GrU : Txt Tryz.prog 65 := ⟨_, Tryz.func65, by kernel_rfl, rfl⟩   -- bridleway/bridlewayref07.Find
theorem txt67GrU : Txt Tryz.prog 67 := ⟨_, Tryz.func67, by kernel_rfl, rfl⟩   -- bridleway/bridlewayref07.FindEdge
theorem txt71GrU : Txt Tryz.prog 71 := ⟨_, Tryz.func71, by kernel_rfl, rfl⟩   -- bridleway/bridlewayref07.rising
theorem txt72GrU : Txt Tryz.prog 72 := ⟨_, Tryz.func72, by kernel_rfl, rfl⟩   -- bridleway/bridlewayref07.props
theorem minmax (n : Nat) (a b : Int) : (decide (0 ≤ min a b) && decide (max a b < (n : Int))) = (isV n a && isV n b) := by
  unfold isV; rw [Bool.eq_iff_iff]; simp; omega
theorem RGRight_r (S : Nat → Prop) (A : Option Addr) (c : Nat) (B : Option Addr) (e : Nat) (g : GV) (w : World) (hG : GAt S w A c B e g) (hsz : szG g ≤ 1099511627776) :
    Ret Tryz.prog 42 [.agg #[.slice A g.ns.length c, .slice B g.es.length e]] w fun v w' => v = .int .i64 (rightG g) ∧ Below w.heap.size w w' := by
  have hnl := szG_nlen g
  have hel := szG_elen g
  have hll : (nnames g).length = g.ns.length := by simp [nnames]
  have hle : (enames g).length = g.es.length := by simp [enames]
  have hb := Below.refl w.heap.size w
  have hG_hb := hG
  refine enter Tryz.func42 rfl rfl rfl ?_
  refine Wc.seq fun _ hK_1 => Wc.region ?_
  refine Wl.boxN rfl rfl ?_
  rintro g_o0 w_o0 hg_o0 hn_o0 hs_o0
  have hz_o0 := hs_o0.size
  have hb := hb.trans (hs_o0.mono hb.size)
  have hG := hG_hb.below hb
  have hB_o0 := hn_o0
  have hl_o0 := hB_o0.lt
  refine Wl.sg rfl rfl <| Wl.nil <| Wq.next hK_1 <| Wc.seq fun _ hK_4 => Wc.seq fun _ hK_5 => ?_
  refine Wc.meet (X := Bool) (fun q => [(1, .pointer (some ⟨g_o0, 0, none⟩)), (23, .bool q)]) (fun q wr => q = decide (1000 < g.ns.length ∨ 1000 < g.es.length) ∧ Below w.heap.size w wr ∧ Blk wr g_o0 25 [.slice A g.ns.length c, .slice B g.es.length e]) (fun _ hM_6 => ?_) ?_
  ·
   refine Wc.region ?_
   refine Wl.y (y_fieldAddr (fa25_0GrU _) rfl) rfl ?_
   refine Wl.l (l_load one22GrU rfl (by exact hB_o0.at (j := 0) rfl)) rfl ?_
   refine Wl.y (y_lenl Tryz.underlying22 (by omega) rfl) rfl ?_
   refine Wl.y (y_gtri rfl rfl) rfl <| Wl.mv rfl rfl ?_
   refine Wl.guardF rfl rfl rfl (fun g_12 => ?_) (fun g_12 => ?_)
   ·
    have g_12_ := g_12
    simp only [DZ] at g_12
    refine Wl.off' rfl rfl g_12_ rfl rfl <| Wl.off' rfl rfl g_12_ rfl rfl <| Wl.off' rfl rfl g_12_ rfl rfl ?_
    refine Wl.y (y_pickT rfl g_12_ rfl) rfl ?_
    refine Wl.nil ?_
    refine Wq.meet hM_6 (decide (1000 < g.ns.length ∨ 1000 < g.es.length)) (by repeat first | exact Sub.nil | refine Sub.cons' rfl (by first | rfl | exact bool_eq (by rw [Bool.eq_iff_iff]; simp; omega)) ?_) ?_
    exact ⟨rfl, hb, hB_o0⟩
   have g_12_ := g_12
   simp only [DZ] at g_12
   refine Wl.y (y_fieldAddr (fa25_1GrU _) rfl) rfl ?_
   refine Wl.on' rfl rfl g_12_ ?_
   refine Wl.l (l_load one23GrU rfl (by exact hB_o0.at (j := 1) rfl)) rfl ?_
   refine Wl.on' rfl rfl g_12_ ?_
   refine Wl.y (y_lenl Tryz.underlying23 (by omega) rfl) rfl ?_
   refine Wl.on' rfl rfl g_12_ <| Wl.y (y_gtri rfl rfl) rfl ?_
   refine Wl.y (y_pickF rfl g_12_ rfl) rfl ?_
   refine Wl.nil ?_
   refine Wq.meet hM_6 (decide (1000 < g.ns.length ∨ 1000 < g.es.length)) (by repeat first | exact Sub.nil | refine Sub.cons' rfl (by first | rfl | exact bool_eq (by rw [Bool.eq_iff_iff]; simp; omega)) ?_) ?_
   exact ⟨rfl, hb, hB_o0⟩
  rintro q wr hI_19
  replace hI_19 : q = decide (1000 < g.ns.length ∨ 1000 < g.es.length) ∧ Below w.heap.size w wr ∧ Blk wr g_o0 25 [.slice A g.ns.length c, .slice B g.es.length e] := hI_19
  obtain ⟨hq1, hb, hB_o0⟩ := hI_19
  show Wq _ _ _ _ [(1, .pointer (some ⟨g_o0, 0, none⟩)), (23, .bool q)] _
  have hG := hG_hb.below hb
  have hzhb_g1 := hb.size
  have hlhB_o0_g1 := hB_o0.lt
  refine Wq.next hK_5 ?_
  refine Wc.cond rfl (fun c0_20 => ?_) (fun c0_20 => ?_)
  ·
   have c0_20_ := c0_20
   have hbig : 1000 < g.ns.length ∨ 1000 < g.es.length := by have h := c0_20_; rw [hq1] at h; exact of_decide_eq_true h
   refine Wc.seq fun _ hK_21 => Wc.region <| Wl.sg rfl rfl <| Wl.nil <| Wq.next hK_21 <| Wc.ret <| Wq.then_ret ?_
   refine ret1 rfl rfl ?_
   exact ⟨_, rfl, int_eq (by unfold rightG; rw [if_pos hbig]), hb⟩
  have c0_20_ := c0_20
  have hsmall : ¬ (1000 < g.ns.length ∨ 1000 < g.es.length) := by have h := c0_20_; rw [hq1] at h; exact of_decide_eq_false h
  refine Wc.skip <| Wq.next hK_4 <| Wc.seq fun _ hK_23 => Wc.seq fun _ hK_24 => Wc.region <| Wl.sg rfl rfl <| Wl.nil <| Wq.next hK_24 <| Wc.block ?_
  refine Wc.loop (X := Nat) (fun i => [(1, .pointer (some ⟨g_o0, 0, none⟩)), (3, .int .i64 (i : Int))]) (fun i wr => i ≤ g.ns.length ∧ (∀ j, j < i → nodeR g j = true) ∧ Below w.heap.size w wr ∧ Blk wr g_o0 25 [.slice A g.ns.length c, .slice B g.es.length e]) (fun i => g.ns.length - i) (0) ?_ ?_ ?_
  · exact by repeat first | exact Sub.nil | refine Sub.cons' rfl (by first | rfl | exact int_eq (by omega) | exact int_eq (by simp) | (simp; done)) ?_
  · exact ⟨by omega, fun _ h => by omega, hb, hB_o0⟩
  rintro i wr hI_27 _ hL_26
  replace hI_27 : i ≤ g.ns.length ∧ (∀ j, j < i → nodeR g j = true) ∧ Below w.heap.size w wr ∧ Blk wr g_o0 25 [.slice A g.ns.length c, .slice B g.es.length e] := hI_27
  obtain ⟨hi, hall, hb, hB_o0⟩ := hI_27
  show Wc _ _ _ _ _ [(1, .pointer (some ⟨g_o0, 0, none⟩)), (3, .int .i64 (i : Int))] _
  have hG := hG_hb.below hb
  have hzhb_L0 := hb.size
  have hlhB_o0_L0 := hB_o0.lt
  refine Wc.seq fun _ hK_28 => Wc.seq fun _ hK_29 => Wc.region <| Wl.mv rfl rfl ?_
  refine Wl.y (y_fieldAddr (fa25_0GrU _) rfl) rfl ?_
  refine Wl.l (l_load one22GrU rfl (by exact hB_o0.at (j := 0) rfl)) rfl ?_
  refine Wl.y (y_lenl Tryz.underlying22 (by omega) rfl) rfl ?_
  refine Wl.y (y_lssi rfl rfl) rfl <| Wl.nil <| Wq.next hK_29 ?_
  refine Wc.cond rfl (fun c1_35 => ?_) (fun c1_35 => ?_)
  ·
   have c1_35_ := c1_35
   simp only [DZ] at c1_35
   have hil : i < g.ns.length := by have := c1_35; omega
   obtain ⟨p_, cs_, hpe, hcl, hcell, hQ⟩ := hG.rn i hil
   obtain ⟨A1, c1, B1, e1, rfl, hN⟩ := hQ
   have hszn := szG_n hil
   have hs1 : (g.ns.getD i nd0).n.length + szL (g.ns.getD i nd0).ls + szP (g.ns.getD i nd0).ps + 1 ≤ szG g := hszn
   have hokn := oks_at (f := fun d : ND => d.ps) hG.oks nd0 hil
   subst hpe
   refine Wc.skip <| Wq.next hK_28 <| Wc.seq fun _ hK_36 => Wc.block <| Wc.seq fun _ hK_37 => ?_
   have hbN := Below.refl wr.heap.size wr
   have hN_hbN := hN
   refine Wc.region ?_
   refine Wl.y (y_fieldAddr (fa25_0GrU _) rfl) rfl ?_
   refine Wl.l (l_load one22GrU rfl (by exact hB_o0.at (j := 0) rfl)) rfl ?_
   refine Wl.mv rfl rfl ?_
   refine Wl.y (y_indexAddr Tryz.underlying22 sz47GrU rfl rfl (by omega) (by omega)) rfl ?_
   refine Wl.l (l_loadS Tryz.underlying47 (by kernel_rfl) rfl (by exact at5 hcell)) rfl ?_
   refine Wl.allocN (z := (.agg #[(str []), (.slice none 0 0), (.slice none 0 0)])) (by kernel_rfl) rfl ?_
   rintro g_o15 w_o15 hg_o15 hn_o15 hs_o15
   have hz_o15 := hs_o15.size
   have hb := hb.trans (hs_o15.mono hb.size)
   have hG := hG_hb.below hb
   have hbN := hbN.trans (hs_o15.mono hbN.size)
   have hN := hN_hbN.below hbN
   have hB_o0 := Blk.below hB_o0 hs_o15
   have hB_o15 := hn_o15
   have hl_o15 := hB_o15.lt
   refine Wl.storeS (by kernel_rfl) rfl rfl hB_o15 rfl rfl ?_
   rintro w_s0 hn_s0 hg_s0
   have hz_s0 := hg_s0.size
   have hb := below_blk hb hg_s0 hb.size (by omega)
   have hG := hG_hb.below hb
   have hbN := below_blk hbN hg_s0 hbN.size (by omega)
   have hN := hN_hbN.below hbN
   have hB_o0 := hB_o0.over hg_s0 (by omega)
   have hB_o15 := hn_s0
   refine Wl.nil <| Wq.next hK_37 <| Wc.seq fun _ hK_44 => Wc.region ?_
   refine Wl.y (y_fieldAddr (fa47_0GrU _) rfl) rfl ?_
   refine Wl.l (l_load one9GrU rfl (by exact hB_o15.at (j := 0) rfl)) rfl ?_
   refine Wl.call txt64GrU rfl rfl (RWord_r (g.ns.getD i nd0).n (by omega) _) rfl ?_
   rintro _ w_k0 ⟨rfl, hs_k0⟩
   have hz_k0 := hs_k0.size
   have hb := hb.trans (hs_k0.mono hb.size)
   have hG := hG_hb.below hb
   have hbN := hbN.trans (hs_k0.mono hbN.size)
   have hN := hN_hbN.below hbN
   have hB_o0 := Blk.below hB_o0 hs_k0
   have hB_o15 := Blk.below hB_o15 hs_k0
   refine Wl.sg rfl rfl <| Wl.nil <| Wq.next hK_44 <| Wc.seq fun _ hK_49 => Wc.region ?_
   refine Wl.y (y_fieldAddr (fa47_1GrU _) rfl) rfl ?_
   refine Wl.l (l_load one44GrU rfl (by exact hB_o15.at (j := 1) rfl)) rfl ?_
   refine Wl.call txt71GrU rfl rfl (Rrising_r A1 c1 (g.ns.getD i nd0).ls _ hN.rl (by omega)) rfl ?_
   rintro _ w_k1 ⟨rfl, hs_k1⟩
   have hz_k1 := hs_k1.size
   have hb := hb.trans (hs_k1.mono hb.size)
   have hG := hG_hb.below hb
   have hbN := hbN.trans (hs_k1.mono hbN.size)
   have hN := hN_hbN.below hbN
   have hB_o0 := Blk.below hB_o0 hs_k1
   have hB_o15 := Blk.below hB_o15 hs_k1
   refine Wl.sg rfl rfl <| Wl.nil <| Wq.next hK_49 <| Wc.seq fun _ hK_54 => Wc.region ?_
   refine Wl.y (y_fieldAddr (fa47_2GrU _) rfl) rfl ?_
   refine Wl.l (l_load one45GrU rfl (by exact hB_o15.at (j := 2) rfl)) rfl ?_
   refine Wl.call txt72GrU rfl rfl (Rprops_r B1 e1 (g.ns.getD i nd0).ps _ hN.rp hokn (by omega)) rfl ?_
   rintro _ w_k2 ⟨rfl, hs_k2⟩
   have hz_k2 := hs_k2.size
   have hb := hb.trans (hs_k2.mono hb.size)
   have hG := hG_hb.below hb
   have hbN := hbN.trans (hs_k2.mono hbN.size)
   have hN := hN_hbN.below hbN
   have hB_o0 := Blk.below hB_o0 hs_k2
   have hB_o15 := Blk.below hB_o15 hs_k2
   refine Wl.sg rfl rfl <| Wl.nil <| Wq.next hK_54 <| Wc.seq fun _ hK_59 => ?_
   refine Wc.meet (X := Bool) (fun q => [(1, .pointer (some ⟨g_o0, 0, none⟩)), (3, .int .i64 (i : Int)), (62, .bool q)]) (fun q wr => q = (!nodeR g i) ∧ Below w.heap.size w wr ∧ Blk wr g_o0 25 [.slice (some p_) g.ns.length c, .slice B g.es.length e]) (fun _ hM_60 => ?_) ?_
   ·
    refine Wc.region <| Wl.mv rfl rfl <| Wl.y (y_not rfl) rfl <| Wl.mv rfl rfl ?_
    refine Wl.guardF rfl rfl rfl (fun g_64 => ?_) (fun g_64 => ?_)
    ·
     have g_64_ := g_64
     simp only [DZ] at g_64
     refine Wl.off' rfl rfl g_64_ rfl rfl ?_
     refine Wl.y (y_pickT rfl g_64_ rfl) rfl ?_
     refine Wl.mv rfl rfl <| Wl.off' rfl rfl rfl rfl rfl <| Wl.off' rfl rfl rfl rfl rfl <| Wl.y (y_pickT rfl rfl rfl) rfl <| Wl.mv rfl rfl <| Wl.off' rfl rfl rfl rfl rfl <| Wl.off' rfl rfl rfl rfl rfl <| Wl.off' rfl rfl rfl rfl rfl <| Wl.off' rfl rfl rfl rfl rfl <| Wl.off' rfl rfl rfl rfl rfl ?_
     refine Wl.off' rfl rfl rfl rfl rfl <| Wl.y (y_pickT rfl rfl rfl) rfl <| Wl.nil ?_
     refine Wq.meet hM_60 (!nodeR g i) (by repeat first | exact Sub.nil | refine Sub.cons' rfl (by first | rfl | exact bool_eq (by unfold nodeR; rw [nodeV_alt]; simp_all)) ?_) ?_
     exact ⟨rfl, hb, hB_o0⟩
    have g_64_ := g_64
    simp only [DZ] at g_64
    refine Wl.mv rfl rfl <| Wl.on' rfl rfl g_64_ <| Wl.y (y_not rfl) rfl ?_
    refine Wl.y (y_pickF rfl g_64_ rfl) rfl ?_
    refine Wl.mv rfl rfl ?_
    refine Wl.guardF rfl rfl rfl (fun g_74 => ?_) (fun g_74 => ?_)
    ·
     have g_74_ := g_74
     simp only [DZ] at g_74
     refine Wl.off' rfl rfl g_74_ rfl rfl ?_
     refine Wl.y (y_pickT rfl g_74_ rfl) rfl ?_
     refine Wl.mv rfl rfl <| Wl.off' rfl rfl rfl rfl rfl <| Wl.off' rfl rfl rfl rfl rfl <| Wl.off' rfl rfl rfl rfl rfl <| Wl.off' rfl rfl rfl rfl rfl <| Wl.off' rfl rfl rfl rfl rfl <| Wl.off' rfl rfl rfl rfl rfl <| Wl.y (y_pickT rfl rfl rfl) rfl <| Wl.nil ?_
     refine Wq.meet hM_60 (!nodeR g i) (by repeat first | exact Sub.nil | refine Sub.cons' rfl (by first | rfl | exact bool_eq (by unfold nodeR; rw [nodeV_alt]; simp_all)) ?_) ?_
     exact ⟨rfl, hb, hB_o0⟩
    have g_74_ := g_74
    simp only [DZ] at g_74
    refine Wl.mv rfl rfl <| Wl.on' rfl rfl g_74_ <| Wl.y (y_not rfl) rfl ?_
    refine Wl.y (y_pickF rfl g_74_ rfl) rfl ?_
    refine Wl.mv rfl rfl ?_
    refine Wl.guardF rfl rfl rfl (fun g_82 => ?_) (fun g_82 => ?_)
    ·
     have g_82_ := g_82
     simp only [DZ] at g_82
     refine Wl.off' rfl rfl g_82_ rfl rfl <| Wl.off' rfl rfl g_82_ rfl rfl <| Wl.off' rfl rfl g_82_ rfl rfl <| Wl.off' rfl rfl g_82_ rfl rfl <| Wl.off' rfl rfl g_82_ rfl rfl ?_
     refine Wl.y (y_pickT rfl g_82_ rfl) rfl ?_
     refine Wl.nil ?_
     refine Wq.meet hM_60 (!nodeR g i) (by repeat first | exact Sub.nil | refine Sub.cons' rfl (by first | rfl | exact bool_eq (by unfold nodeR; rw [nodeV_alt]; simp_all)) ?_) ?_
     exact ⟨rfl, hb, hB_o0⟩
    have g_82_ := g_82
    simp only [DZ] at g_82
    refine Wl.l (l_loadS Tryz.underlying25 (by kernel_rfl) rfl (by exact fun j u hu => hB_o0.at hu)) rfl ?_
    refine Wl.on' rfl rfl g_82_ ?_
    refine Wl.y (y_fieldAddr (fa47_0GrU _) rfl) rfl ?_
    refine Wl.on' rfl rfl g_82_ ?_
    refine Wl.l (l_load one9GrU rfl (by exact hB_o15.at (j := 0) rfl)) rfl ?_
    refine Wl.on' rfl rfl g_82_ ?_
    refine Wl.call txt65GrU rfl rfl (RFind_r S (some p_) c B e g (g.ns.getD i nd0).n _ hG hsz) rfl ?_
    rintro _ w_k3 ⟨⟨kf, rfl, hf⟩, hs_k3⟩
    have hz_k3 := hs_k3.size
    have hb := hb.trans (hs_k3.mono hb.size)
    have hG := hG_hb.below hb
    have hbN := hbN.trans (hs_k3.mono hbN.size)
    have hN := hN_hbN.below hbN
    have hB_o0 := Blk.below hB_o0 hs_k3
    refine Wl.on' rfl rfl g_82_ ?_
    have hff : (kf != (i : Int)) = !firstAt (nnames g) i := find_first (by omega) (by rw [nn_at hil]; exact hf)
    refine Wl.mv rfl rfl <| Wl.on' rfl rfl g_82_ <| Wl.y (y_neqi rfl rfl) rfl ?_
    refine Wl.y (y_pickF rfl g_82_ rfl) rfl ?_
    refine Wl.nil ?_
    refine Wq.meet hM_60 (!nodeR g i) (by repeat first | exact Sub.nil | refine Sub.cons' rfl (by first | rfl | exact bool_eq (by unfold nodeR; rw [nodeV_alt]; simp_all)) ?_) ?_
    exact ⟨rfl, hb, hB_o0⟩
   rintro q wr hI_91
   replace hI_91 : q = (!nodeR g i) ∧ Below w.heap.size w wr ∧ Blk wr g_o0 25 [.slice (some p_) g.ns.length c, .slice B g.es.length e] := hI_91
   obtain ⟨hq, hb, hB_o0⟩ := hI_91
   show Wq _ _ _ _ [(1, .pointer (some ⟨g_o0, 0, none⟩)), (3, .int .i64 (i : Int)), (62, .bool q)] _
   have hG := hG_hb.below hb
   have hzhb_g9 := hb.size
   have hlhB_o0_g9 := hB_o0.lt
   refine Wq.next hK_59 ?_
   refine Wc.cond rfl (fun c2_92 => ?_) (fun c2_92 => ?_)
   ·
    have c2_92_ := c2_92
    refine Wc.seq fun _ hK_93 => Wc.region <| Wl.sg rfl rfl <| Wl.nil <| Wq.next hK_93 <| Wc.ret ?_
    refine Wq.block_ret (Wq.then_ret (Wq.then_ret (Wq.block_ret (Wq.then_ret ?_))))
    refine ret1 rfl rfl ?_
    exact ⟨_, rfl, int_eq (by unfold rightG; rw [if_neg hsmall, if_neg (by rw [okG_ref, allN_f hil (by have h := c2_92_; rw [hq] at h; simpa using h)]; simp)]), hb⟩
   have c2_92_ := c2_92
   refine Wc.skip <| Wq.block_normal <| Wq.next hK_36 <| Wc.region <| Wl.mv rfl rfl ?_
   refine Wl.y (y_addI rfl rfl (by omega) (by omega)) rfl ?_
   refine Wl.sg rfl rfl <| Wl.nil ?_
   refine fun a_ ha_ => hL_26 _ _ (i + 1) (by omega) (by repeat first | exact Sub.nil | refine Sub.cons' rfl (by first | rfl | exact int_eq (by omega) | exact int_eq (by simp) | (simp; done)) ?_) ?_ a_ ha_
   exact ⟨by omega, fun j hj => (by by_cases e : j = i; (· rw [e]; have h := c2_92_; rw [hq] at h; simpa using h); (· exact hall j (by omega))), hb, hB_o0⟩
  have c1_35_ := c1_35
  simp only [DZ] at c1_35
  have hie : i = g.ns.length := by have := c1_35; omega
  have hnall : allN g.ns.length (nodeR g) = true := allN_t (fun j hj => hall j (by omega))
  refine Wc.exit ?_
  refine Wq.then_exit <| Wq.then_exit <| Wq.block_exit <| Wq.next hK_23 <| Wc.seq fun _ hK_98 => Wc.seq fun _ hK_99 => Wc.region <| Wl.sg rfl rfl <| Wl.nil <| Wq.next hK_99 ?_
  refine Wc.block ?_
  refine Wc.loop (X := Nat) (fun i => [(1, .pointer (some ⟨g_o0, 0, none⟩)), (8, .int .i64 (i : Int))]) (fun i wr => i ≤ g.es.length ∧ (∀ j, j < i → edgeR g j = true) ∧ Below w.heap.size w wr ∧ Blk wr g_o0 25 [.slice A g.ns.length c, .slice B g.es.length e]) (fun i => g.es.length - i) (0) ?_ ?_ ?_
  · exact by repeat first | exact Sub.nil | refine Sub.cons' rfl (by first | rfl | exact int_eq (by omega) | exact int_eq (by simp) | (simp; done)) ?_
  · exact ⟨by omega, fun _ h => by omega, hb, hB_o0⟩
  rintro i wr hI_102 _ hL_101
  replace hI_102 : i ≤ g.es.length ∧ (∀ j, j < i → edgeR g j = true) ∧ Below w.heap.size w wr ∧ Blk wr g_o0 25 [.slice A g.ns.length c, .slice B g.es.length e] := hI_102
  obtain ⟨hi, hall, hb, hB_o0⟩ := hI_102
  show Wc _ _ _ _ _ [(1, .pointer (some ⟨g_o0, 0, none⟩)), (8, .int .i64 (i : Int))] _
  have hG := hG_hb.below hb
  have hzhb_L1 := hb.size
  have hlhB_o0_L1 := hB_o0.lt
  refine Wc.seq fun _ hK_103 => Wc.seq fun _ hK_104 => Wc.region <| Wl.mv rfl rfl ?_
  refine Wl.y (y_fieldAddr (fa25_1GrU _) rfl) rfl ?_
  refine Wl.l (l_load one23GrU rfl (by exact hB_o0.at (j := 1) rfl)) rfl ?_
  refine Wl.y (y_lenl Tryz.underlying23 (by omega) rfl) rfl ?_
  refine Wl.y (y_lssi rfl rfl) rfl <| Wl.nil <| Wq.next hK_104 ?_
  refine Wc.cond rfl (fun c3_110 => ?_) (fun c3_110 => ?_)
  ·
   have c3_110_ := c3_110
   simp only [DZ] at c3_110
   have hil : i < g.es.length := by have := c3_110; omega
   obtain ⟨p_, cs_, hpe, hcl, hcell, hQ⟩ := hG.re i hil
   obtain ⟨A1, c1, B1, e1, rfl, hN⟩ := hQ
   have hszn := szG_e hil
   have hs1 : (g.es.getD i ed0).n.length + szL (g.es.getD i ed0).ls + szP (g.es.getD i ed0).ps + 1 ≤ szG g := hszn
   have hokn := oks_at (f := fun d : ED => d.ps) hG.oke ed0 hil
   subst hpe
   refine Wc.skip <| Wq.next hK_103 <| Wc.seq fun _ hK_111 => Wc.block <| Wc.seq fun _ hK_112 => ?_
   have hbN := Below.refl wr.heap.size wr
   have hN_hbN := hN
   refine Wc.region ?_
   refine Wl.y (y_fieldAddr (fa25_1GrU _) rfl) rfl ?_
   refine Wl.l (l_load one23GrU rfl (by exact hB_o0.at (j := 1) rfl)) rfl ?_
   refine Wl.mv rfl rfl ?_
   refine Wl.y (y_indexAddr Tryz.underlying23 sz54GrU rfl rfl (by omega) (by omega)) rfl ?_
   refine Wl.l (l_loadS Tryz.underlying54 (by kernel_rfl) rfl (by exact at5 hcell)) rfl ?_
   refine Wl.allocN (z := (.agg #[(str []), (.int .i64 0), (.int .i64 0), (.bool false), (.slice none 0 0), (.slice none 0 0)])) (by kernel_rfl) rfl ?_
   rintro g_o47 w_o47 hg_o47 hn_o47 hs_o47
   have hz_o47 := hs_o47.size
   have hb := hb.trans (hs_o47.mono hb.size)
   have hG := hG_hb.below hb
   have hbN := hbN.trans (hs_o47.mono hbN.size)
   have hN := hN_hbN.below hbN
   have hB_o0 := Blk.below hB_o0 hs_o47
   have hB_o47 := hn_o47
   have hl_o47 := hB_o47.lt
   refine Wl.storeS (by kernel_rfl) rfl rfl hB_o47 rfl rfl ?_
   rintro w_s1 hn_s1 hg_s1
   have hz_s1 := hg_s1.size
   have hb := below_blk hb hg_s1 hb.size (by omega)
   have hG := hG_hb.below hb
   have hbN := below_blk hbN hg_s1 hbN.size (by omega)
   have hN := hN_hbN.below hbN
   have hB_o0 := hB_o0.over hg_s1 (by omega)
   have hB_o47 := hn_s1
   refine Wl.nil <| Wq.next hK_112 <| Wc.seq fun _ hK_119 => Wc.region ?_
   refine Wl.y (y_fieldAddr (fa54_0GrU _) rfl) rfl ?_
   refine Wl.l (l_load one9GrU rfl (by exact hB_o47.at (j := 0) rfl)) rfl ?_
   refine Wl.call txt64GrU rfl rfl (RWord_r (g.es.getD i ed0).n (by omega) _) rfl ?_
   rintro _ w_k4 ⟨rfl, hs_k4⟩
   have hz_k4 := hs_k4.size
   have hb := hb.trans (hs_k4.mono hb.size)
   have hG := hG_hb.below hb
   have hbN := hbN.trans (hs_k4.mono hbN.size)
   have hN := hN_hbN.below hbN
   have hB_o0 := Blk.below hB_o0 hs_k4
   have hB_o47 := Blk.below hB_o47 hs_k4
   refine Wl.sg rfl rfl <| Wl.nil <| Wq.next hK_119 <| Wc.seq fun _ hK_124 => Wc.region ?_
   refine Wl.y (y_fieldAddr (fa54_4GrU _) rfl) rfl ?_
   refine Wl.l (l_load one44GrU rfl (by exact hB_o47.at (j := 4) rfl)) rfl ?_
   refine Wl.call txt71GrU rfl rfl (Rrising_r A1 c1 (g.es.getD i ed0).ls _ hN.rl (by omega)) rfl ?_
   rintro _ w_k5 ⟨rfl, hs_k5⟩
   have hz_k5 := hs_k5.size
   have hb := hb.trans (hs_k5.mono hb.size)
   have hG := hG_hb.below hb
   have hbN := hbN.trans (hs_k5.mono hbN.size)
   have hN := hN_hbN.below hbN
   have hB_o0 := Blk.below hB_o0 hs_k5
   have hB_o47 := Blk.below hB_o47 hs_k5
   refine Wl.sg rfl rfl <| Wl.nil <| Wq.next hK_124 <| Wc.seq fun _ hK_129 => Wc.region ?_
   refine Wl.y (y_fieldAddr (fa54_5GrU _) rfl) rfl ?_
   refine Wl.l (l_load one45GrU rfl (by exact hB_o47.at (j := 5) rfl)) rfl ?_
   refine Wl.call txt72GrU rfl rfl (Rprops_r B1 e1 (g.es.getD i ed0).ps _ hN.rp hokn (by omega)) rfl ?_
   rintro _ w_k6 ⟨rfl, hs_k6⟩
   have hz_k6 := hs_k6.size
   have hb := hb.trans (hs_k6.mono hb.size)
   have hG := hG_hb.below hb
   have hbN := hbN.trans (hs_k6.mono hbN.size)
   have hN := hN_hbN.below hbN
   have hB_o0 := Blk.below hB_o0 hs_k6
   have hB_o47 := Blk.below hB_o47 hs_k6
   refine Wl.sg rfl rfl <| Wl.nil <| Wq.next hK_129 <| Wc.seq fun _ hK_134 => ?_
   refine Wc.meet (X := Bool) (fun q => [(1, .pointer (some ⟨g_o0, 0, none⟩)), (8, .int .i64 (i : Int)), (9, .pointer (some ⟨g_o47, 0, none⟩)), (10, .bool (wordA (g.es.getD i ed0).n)), (11, .bool (risingV (g.es.getD i ed0).ls)), (12, .bool (propsV (g.es.getD i ed0).ps)), (13, .bool q)]) (fun q wm => q = (isV g.ns.length (g.es.getD i ed0).fr && isV g.ns.length (g.es.getD i ed0).tw) ∧ Below w.heap.size w wm ∧ Blk wm g_o0 25 [.slice A g.ns.length c, .slice (some p_) g.es.length e] ∧ Blk wm g_o47 54 [str (g.es.getD i ed0).n, .int .i64 (g.es.getD i ed0).fr, .int .i64 (g.es.getD i ed0).tw, .bool (g.es.getD i ed0).dir, .slice A1 (g.es.getD i ed0).ls.length c1, .slice B1 (g.es.getD i ed0).ps.length e1]) (fun _ hM_135 => ?_) ?_
   ·
    refine Wc.region ?_
    refine Wl.y (y_fieldAddr (fa54_1GrU _) rfl) rfl ?_
    refine Wl.l (l_load one3GrU rfl (by exact hB_o47.at (j := 1) rfl)) rfl ?_
    refine Wl.y (y_fieldAddr (fa54_2GrU _) rfl) rfl ?_
    refine Wl.l (l_load one3GrU rfl (by exact hB_o47.at (j := 2) rfl)) rfl ?_
    refine Wl.y (y_min rfl rfl) rfl <| Wl.y (y_geqi rfl rfl) rfl <| Wl.mv rfl rfl ?_
    refine Wl.guardT rfl rfl rfl (fun g_143 => ?_) (fun g_143 => ?_)
    ·
     have g_143_ := g_143
     simp only [DZ] at g_143
     refine Wl.y (y_fieldAddr (fa54_1GrU _) rfl) rfl ?_
     refine Wl.on' rfl rfl g_143_ ?_
     refine Wl.l (l_load one3GrU rfl (by exact hB_o47.at (j := 1) rfl)) rfl ?_
     refine Wl.on' rfl rfl g_143_ ?_
     refine Wl.y (y_fieldAddr (fa54_2GrU _) rfl) rfl ?_
     refine Wl.on' rfl rfl g_143_ ?_
     refine Wl.l (l_load one3GrU rfl (by exact hB_o47.at (j := 2) rfl)) rfl ?_
     refine Wl.on' rfl rfl g_143_ <| Wl.y (y_max rfl rfl) rfl <| Wl.on' rfl rfl g_143_ ?_
     refine Wl.y (y_fieldAddr (fa25_0GrU _) rfl) rfl ?_
     refine Wl.on' rfl rfl g_143_ ?_
     refine Wl.l (l_load one22GrU rfl (by exact hB_o0.at (j := 0) rfl)) rfl ?_
     refine Wl.on' rfl rfl g_143_ ?_
     refine Wl.y (y_lenl Tryz.underlying22 (by omega) rfl) rfl ?_
     refine Wl.on' rfl rfl g_143_ <| Wl.y (y_lssi rfl rfl) rfl ?_
     refine Wl.y (y_pickT rfl g_143_ rfl) rfl ?_
     refine Wl.sg rfl rfl <| Wl.nil ?_
     refine Wq.meet hM_135 (isV g.ns.length (g.es.getD i ed0).fr && isV g.ns.length (g.es.getD i ed0).tw) (by repeat first | exact Sub.nil | refine Sub.cons' rfl (by first | rfl | exact bool_eq (by rw [← minmax, g_143_]; simp)) ?_) ?_
     exact ⟨rfl, hb, hB_o0, hB_o47⟩
    have g_143_ := g_143
    simp only [DZ] at g_143
    refine Wl.off' rfl rfl g_143_ rfl rfl <| Wl.off' rfl rfl g_143_ rfl rfl <| Wl.off' rfl rfl g_143_ rfl rfl <| Wl.off' rfl rfl g_143_ rfl rfl <| Wl.off' rfl rfl g_143_ rfl rfl <| Wl.off' rfl rfl g_143_ rfl rfl <| Wl.off' rfl rfl g_143_ rfl rfl <| Wl.off' rfl rfl g_143_ rfl rfl ?_
    refine Wl.y (y_pickF rfl g_143_ rfl) rfl ?_
    refine Wl.sg rfl rfl <| Wl.nil ?_
    refine Wq.meet hM_135 (isV g.ns.length (g.es.getD i ed0).fr && isV g.ns.length (g.es.getD i ed0).tw) (by repeat first | exact Sub.nil | refine Sub.cons' rfl (by first | rfl | exact bool_eq (by rw [← minmax, g_143_]; simp)) ?_) ?_
    exact ⟨rfl, hb, hB_o0, hB_o47⟩
   rintro q wm hI_157
   replace hI_157 : q = (isV g.ns.length (g.es.getD i ed0).fr && isV g.ns.length (g.es.getD i ed0).tw) ∧ Below w.heap.size w wm ∧ Blk wm g_o0 25 [.slice A g.ns.length c, .slice (some p_) g.es.length e] ∧ Blk wm g_o47 54 [str (g.es.getD i ed0).n, .int .i64 (g.es.getD i ed0).fr, .int .i64 (g.es.getD i ed0).tw, .bool (g.es.getD i ed0).dir, .slice A1 (g.es.getD i ed0).ls.length c1, .slice B1 (g.es.getD i ed0).ps.length e1] := hI_157
   obtain ⟨hq5, hb, hB_o0, hB_o47⟩ := hI_157
   show Wq _ _ _ _ [(1, .pointer (some ⟨g_o0, 0, none⟩)), (8, .int .i64 (i : Int)), (9, .pointer (some ⟨g_o47, 0, none⟩)), (10, .bool (wordA (g.es.getD i ed0).n)), (11, .bool (risingV (g.es.getD i ed0).ls)), (12, .bool (propsV (g.es.getD i ed0).ps)), (13, .bool q)] _
   have hG := hG_hb.below hb
   have hzhb_g18 := hb.size
   have hlhB_o0_g18 := hB_o0.lt
   have hlhB_o47_g18 := hB_o47.lt
   refine Wq.next hK_134 <| Wc.seq fun _ hK_158 => ?_
   refine Wc.meet (X := Bool) (fun q => [(1, .pointer (some ⟨g_o0, 0, none⟩)), (8, .int .i64 (i : Int)), (122, .bool q)]) (fun q wr => q = (!edgeR g i) ∧ Below w.heap.size w wr ∧ Blk wr g_o0 25 [.slice A g.ns.length c, .slice (some p_) g.es.length e]) (fun _ hM_159 => ?_) ?_
   ·
    refine Wc.region <| Wl.mv rfl rfl <| Wl.y (y_not rfl) rfl <| Wl.mv rfl rfl ?_
    refine Wl.guardF rfl rfl rfl (fun g_163 => ?_) (fun g_163 => ?_)
    ·
     have g_163_ := g_163
     simp only [DZ] at g_163
     refine Wl.off' rfl rfl g_163_ rfl rfl ?_
     refine Wl.y (y_pickT rfl g_163_ rfl) rfl ?_
     refine Wl.mv rfl rfl <| Wl.off' rfl rfl rfl rfl rfl <| Wl.off' rfl rfl rfl rfl rfl <| Wl.y (y_pickT rfl rfl rfl) rfl <| Wl.mv rfl rfl <| Wl.off' rfl rfl rfl rfl rfl <| Wl.off' rfl rfl rfl rfl rfl <| Wl.y (y_pickT rfl rfl rfl) rfl <| Wl.mv rfl rfl <| Wl.off' rfl rfl rfl rfl rfl ?_
     refine Wl.off' rfl rfl rfl rfl rfl <| Wl.off' rfl rfl rfl rfl rfl <| Wl.off' rfl rfl rfl rfl rfl <| Wl.off' rfl rfl rfl rfl rfl <| Wl.off' rfl rfl rfl rfl rfl <| Wl.y (y_pickT rfl rfl rfl) rfl <| Wl.nil ?_
     refine Wq.meet hM_159 (!edgeR g i) (by repeat first | exact Sub.nil | refine Sub.cons' rfl (by first | rfl | exact bool_eq (by unfold edgeR; rw [edgeV_alt, ← hq5]; simp_all)) ?_) ?_
     exact ⟨rfl, hb, hB_o0⟩
    have g_163_ := g_163
    simp only [DZ] at g_163
    refine Wl.mv rfl rfl <| Wl.on' rfl rfl g_163_ <| Wl.y (y_not rfl) rfl ?_
    refine Wl.y (y_pickF rfl g_163_ rfl) rfl ?_
    refine Wl.mv rfl rfl ?_
    refine Wl.guardF rfl rfl rfl (fun g_175 => ?_) (fun g_175 => ?_)
    ·
     have g_175_ := g_175
     simp only [DZ] at g_175
     refine Wl.off' rfl rfl g_175_ rfl rfl ?_
     refine Wl.y (y_pickT rfl g_175_ rfl) rfl ?_
     refine Wl.mv rfl rfl <| Wl.off' rfl rfl rfl rfl rfl <| Wl.off' rfl rfl rfl rfl rfl <| Wl.y (y_pickT rfl rfl rfl) rfl <| Wl.mv rfl rfl <| Wl.off' rfl rfl rfl rfl rfl <| Wl.off' rfl rfl rfl rfl rfl <| Wl.off' rfl rfl rfl rfl rfl <| Wl.off' rfl rfl rfl rfl rfl <| Wl.off' rfl rfl rfl rfl rfl ?_
     refine Wl.off' rfl rfl rfl rfl rfl <| Wl.y (y_pickT rfl rfl rfl) rfl <| Wl.nil ?_
     refine Wq.meet hM_159 (!edgeR g i) (by repeat first | exact Sub.nil | refine Sub.cons' rfl (by first | rfl | exact bool_eq (by unfold edgeR; rw [edgeV_alt, ← hq5]; simp_all)) ?_) ?_
     exact ⟨rfl, hb, hB_o0⟩
    have g_175_ := g_175
    simp only [DZ] at g_175
    refine Wl.mv rfl rfl <| Wl.on' rfl rfl g_175_ <| Wl.y (y_not rfl) rfl ?_
    refine Wl.y (y_pickF rfl g_175_ rfl) rfl ?_
    refine Wl.mv rfl rfl ?_
    refine Wl.guardF rfl rfl rfl (fun g_185 => ?_) (fun g_185 => ?_)
    ·
     have g_185_ := g_185
     simp only [DZ] at g_185
     refine Wl.off' rfl rfl g_185_ rfl rfl ?_
     refine Wl.y (y_pickT rfl g_185_ rfl) rfl ?_
     refine Wl.mv rfl rfl <| Wl.off' rfl rfl rfl rfl rfl <| Wl.off' rfl rfl rfl rfl rfl <| Wl.off' rfl rfl rfl rfl rfl <| Wl.off' rfl rfl rfl rfl rfl <| Wl.off' rfl rfl rfl rfl rfl <| Wl.off' rfl rfl rfl rfl rfl <| Wl.y (y_pickT rfl rfl rfl) rfl <| Wl.nil ?_
     refine Wq.meet hM_159 (!edgeR g i) (by repeat first | exact Sub.nil | refine Sub.cons' rfl (by first | rfl | exact bool_eq (by unfold edgeR; rw [edgeV_alt, ← hq5]; simp_all)) ?_) ?_
     exact ⟨rfl, hb, hB_o0⟩
    have g_185_ := g_185
    simp only [DZ] at g_185
    refine Wl.mv rfl rfl <| Wl.on' rfl rfl g_185_ <| Wl.y (y_not rfl) rfl ?_
    refine Wl.y (y_pickF rfl g_185_ rfl) rfl ?_
    refine Wl.mv rfl rfl ?_
    refine Wl.guardF rfl rfl rfl (fun g_193 => ?_) (fun g_193 => ?_)
    ·
     have g_193_ := g_193
     simp only [DZ] at g_193
     refine Wl.off' rfl rfl g_193_ rfl rfl <| Wl.off' rfl rfl g_193_ rfl rfl <| Wl.off' rfl rfl g_193_ rfl rfl <| Wl.off' rfl rfl g_193_ rfl rfl <| Wl.off' rfl rfl g_193_ rfl rfl ?_
     refine Wl.y (y_pickT rfl g_193_ rfl) rfl ?_
     refine Wl.nil ?_
     refine Wq.meet hM_159 (!edgeR g i) (by repeat first | exact Sub.nil | refine Sub.cons' rfl (by first | rfl | exact bool_eq (by unfold edgeR; rw [edgeV_alt, ← hq5]; simp_all)) ?_) ?_
     exact ⟨rfl, hb, hB_o0⟩
    have g_193_ := g_193
    simp only [DZ] at g_193
    refine Wl.l (l_loadS Tryz.underlying25 (by kernel_rfl) rfl (by exact fun j u hu => hB_o0.at hu)) rfl ?_
    refine Wl.on' rfl rfl g_193_ ?_
    refine Wl.y (y_fieldAddr (fa54_0GrU _) rfl) rfl ?_
    refine Wl.on' rfl rfl g_193_ ?_
    refine Wl.l (l_load one9GrU rfl (by exact hB_o47.at (j := 0) rfl)) rfl ?_
    refine Wl.on' rfl rfl g_193_ ?_
    refine Wl.call txt67GrU rfl rfl (RFindE_r S A c (some p_) e g (g.es.getD i ed0).n _ hG hsz) rfl ?_
    rintro _ w_k7 ⟨⟨kf, rfl, hf⟩, hs_k7⟩
    have hz_k7 := hs_k7.size
    have hb := hb.trans (hs_k7.mono hb.size)
    have hG := hG_hb.below hb
    have hB_o0 := Blk.below hB_o0 hs_k7
    refine Wl.on' rfl rfl g_193_ ?_
    have hff : (kf != (i : Int)) = !firstAt (enames g) i := find_first (by omega) (by rw [en_at hil]; exact hf)
    refine Wl.mv rfl rfl <| Wl.on' rfl rfl g_193_ <| Wl.y (y_neqi rfl rfl) rfl ?_
    refine Wl.y (y_pickF rfl g_193_ rfl) rfl ?_
    refine Wl.nil ?_
    refine Wq.meet hM_159 (!edgeR g i) (by repeat first | exact Sub.nil | refine Sub.cons' rfl (by first | rfl | exact bool_eq (by unfold edgeR; rw [edgeV_alt, ← hq5]; simp_all)) ?_) ?_
    exact ⟨rfl, hb, hB_o0⟩
   rintro q wr hI_202
   replace hI_202 : q = (!edgeR g i) ∧ Below w.heap.size w wr ∧ Blk wr g_o0 25 [.slice A g.ns.length c, .slice (some p_) g.es.length e] := hI_202
   obtain ⟨hq, hb, hB_o0⟩ := hI_202
   show Wq _ _ _ _ [(1, .pointer (some ⟨g_o0, 0, none⟩)), (8, .int .i64 (i : Int)), (122, .bool q)] _
   have hG := hG_hb.below hb
   have hzhb_g19 := hb.size
   have hlhB_o0_g19 := hB_o0.lt
   refine Wq.next hK_158 ?_
   refine Wc.cond rfl (fun c4_203 => ?_) (fun c4_203 => ?_)
   ·
    have c4_203_ := c4_203
    refine Wc.seq fun _ hK_204 => Wc.region <| Wl.sg rfl rfl <| Wl.nil <| Wq.next hK_204 <| Wc.ret ?_
    refine Wq.block_ret (Wq.then_ret (Wq.then_ret (Wq.block_ret (Wq.then_ret ?_))))
    refine ret1 rfl rfl ?_
    exact ⟨_, rfl, int_eq (by unfold rightG; rw [if_neg hsmall, if_neg (by rw [okG_ref, allN_f hil (by have h := c4_203_; rw [hq] at h; simpa using h)]; simp)]), hb⟩
   have c4_203_ := c4_203
   refine Wc.skip <| Wq.block_normal <| Wq.next hK_111 <| Wc.region <| Wl.mv rfl rfl ?_
   refine Wl.y (y_addI rfl rfl (by omega) (by omega)) rfl ?_
   refine Wl.sg rfl rfl <| Wl.nil ?_
   refine fun a_ ha_ => hL_101 _ _ (i + 1) (by omega) (by repeat first | exact Sub.nil | refine Sub.cons' rfl (by first | rfl | exact int_eq (by omega) | exact int_eq (by simp) | (simp; done)) ?_) ?_ a_ ha_
   exact ⟨by omega, fun j hj => (by by_cases e : j = i; (· rw [e]; have h := c4_203_; rw [hq] at h; simpa using h); (· exact hall j (by omega))), hb, hB_o0⟩
  have c3_110_ := c3_110
  simp only [DZ] at c3_110
  refine Wc.exit ?_
  refine Wq.then_exit <| Wq.then_exit <| Wq.block_exit <| Wq.next hK_98 <| Wc.seq fun _ hK_209 => Wc.region <| Wl.sg rfl rfl <| Wl.nil <| Wq.next hK_209 <| Wc.ret ?_
  refine ret1 rfl rfl ?_
  exact ⟨_, rfl, int_eq (by unfold rightG; rw [if_neg hsmall, if_pos (by rw [okG_ref, hnall, allN_t (fun j hj => hall j (by have := c3_110; omega))]; rfl)]), hb⟩
end Go.Proofs.YtobhpejaoakpmaaGreatDoor
namespace Go.Proofs.YtobhpejaoakpmaaGreatDoor
open Go.RowKit Go.Bw Go.Bw.Fl
set_option linter.unusedVariables false
set_option linter.unusedSimpArgs false
theorem fa25_0GrV (p : Addr) (w : World) : (Instr.fieldAt 25 (.pointer (some p)) 0).run Tryz.prog w = .ok (.pointer (some (p.add 0))) w := run_fieldAt (i := 0) (sz := 0) Tryz.underlying25 rfl (by kernel_rfl) p w
theorem fa25_1GrV (p : Addr) (w : World) : (Instr.fieldAt 25 (.pointer (some p)) 1).run Tryz.prog w = .ok (.pointer (some (p.add 1))) w := run_fieldAt (i := 1) (sz := 0) Tryz.underlying25 rfl (by kernel_rfl) p w
theorem fa47_0GrV (p : Addr) (w : World) : (Instr.fieldAt 47 (.pointer (some p)) 0).run Tryz.prog w = .ok (.pointer (some (p.add 0))) w := run_fieldAt (i := 0) (sz := 0) Tryz.underlying47 rfl (by kernel_rfl) p w
theorem fa47_1GrV (p : Addr) (w : World) : (Instr.fieldAt 47 (.pointer (some p)) 1).run Tryz.prog w = .ok (.pointer (some (p.add 1))) w := run_fieldAt (i := 1) (sz := 0) Tryz.underlying47 rfl (by kernel_rfl) p w
theorem fa47_2GrV (p : Addr) (w : World) : (Instr.fieldAt 47 (.pointer (some p)) 2).run Tryz.prog w = .ok (.pointer (some (p.add 2))) w := run_fieldAt (i := 2) (sz := 0) Tryz.underlying47 rfl (by kernel_rfl) p w
theorem fa54_0GrV (p : Addr) (w : World) : (Instr.fieldAt 54 (.pointer (some p)) 0).run Tryz.prog w = .ok (.pointer (some (p.add 0))) w := run_fieldAt (i := 0) (sz := 0) Tryz.underlying54 rfl (by kernel_rfl) p w
theorem fa54_1GrV (p : Addr) (w : World) : (Instr.fieldAt 54 (.pointer (some p)) 1).run Tryz.prog w = .ok (.pointer (some (p.add 1))) w := run_fieldAt (i := 1) (sz := 0) Tryz.underlying54 rfl (by kernel_rfl) p w
theorem fa54_2GrV (p : Addr) (w : World) : (Instr.fieldAt 54 (.pointer (some p)) 2).run Tryz.prog w = .ok (.pointer (some (p.add 2))) w := run_fieldAt (i := 2) (sz := 0) Tryz.underlying54 rfl (by kernel_rfl) p w
theorem fa54_3GrV (p : Addr) (w : World) : (Instr.fieldAt 54 (.pointer (some p)) 3).run Tryz.prog w = .ok (.pointer (some (p.add 3))) w := run_fieldAt (i := 3) (sz := 0) Tryz.underlying54 rfl (by kernel_rfl) p w
theorem fa54_4GrV (p : Addr) (w : World) : (Instr.fieldAt 54 (.pointer (some p)) 4).run Tryz.prog w = .ok (.pointer (some (p.add 4))) w := run_fieldAt (i := 4) (sz := 0) Tryz.underlying54 rfl (by kernel_rfl) p w
theorem fa54_5GrV (p : Addr) (w : World) : (Instr.fieldAt 54 (.pointer (some p)) 5).run Tryz.prog w = .ok (.pointer (some (p.add 5))) w := run_fieldAt (i := 5) (sz := 0) Tryz.underlying54 rfl (by kernel_rfl) p w
theorem fa96_0GrV (p : Addr) (w : World) : (Instr.fieldAt 96 (.pointer (some p)) 0).run Tryz.prog w = .ok (.pointer (some (p.add 0))) w := run_fieldAt (i := 0) (sz := 0) Tryz.underlying96 rfl (by kernel_rfl) p w
theorem fa96_1GrV (p : Addr) (w : World) : (Instr.fieldAt 96 (.pointer (some p)) 1).run Tryz.prog w = .ok (.pointer (some (p.add 1))) w := run_fieldAt (i := 1) (sz := 3) Tryz.underlying96 rfl (by kernel_rfl) p w
theorem one22GrV : One Tryz.prog 22 := ⟨_, Tryz.underlying22, rfl, by kernel_rfl⟩
theorem one23GrV : One Tryz.prog 23 := ⟨_, Tryz.underlying23, rfl, by kernel_rfl⟩
theorem one3GrV : One Tryz.prog 3 := ⟨_, Tryz.underlying3, rfl, by kernel_rfl⟩
theorem one4GrV : One Tryz.prog 4 := ⟨_, Tryz.underlying4, rfl, by kernel_rfl⟩
theorem one44GrV : One Tryz.prog 44 := ⟨_, Tryz.underlying44, rfl, by kernel_rfl⟩
theorem one45GrV : One Tryz.prog 45 := ⟨_, Tryz.underlying45, rfl, by kernel_rfl⟩
theorem one9GrV : One Tryz.prog 9 := ⟨_, Tryz.underlying9, rfl, by kernel_rfl⟩
theorem sz47GrV : (Tryz.prog.info? 47).map (·.size) = some 3 := by kernel_rfl
theorem sz54GrV : (Tryz.prog.info? 54).map (·.size) = some 6 := by kernel_rfl
theorem sz9GrV : (Tryz.prog.info? 9).map (·.size) = some 1 := by kernel_rfl
theorem sz96GrV : (Tryz.prog.info? 96).map (·.size) = some 5 := by kernel_rfl
theorem txt42GrV : Txt Tryz.prog 42 := ⟨_, Tryz.func42, by kernel_rfl, rfl⟩   -- bridleway/bridlewayref07.Right
theorem txt43GrV : Txt Tryz.prog 43 := ⟨_, Tryz.func43, by kernel_rfl, rfl⟩   -- bridleway/bridlewayref08.fields
theorem txt73GrV : Txt Tryz.prog 73 := ⟨_, Tryz.func73, by kernel_rfl, rfl⟩   -- bridleway/bridlewayref02.Text
def labF (l : List UInt8) : List UInt8 := 32 :: 58 :: l
def prF (p : Pr) : List UInt8 := 32 :: propF p
def restV (ls : List (List UInt8)) (ps : List Pr) : List UInt8 := ls.flatMap labF ++ ps.flatMap prF
theorem restV_eq (ls : List (List UInt8)) (ps : List Pr) : (fieldsV ls ps).flatMap (fun y => (32 : UInt8) :: y) = restV ls ps := by
  unfold fieldsV restV
  rw [List.flatMap_append, List.flatMap_map, List.flatMap_map]; rfl
theorem nodeL_ref (d : ND) : nodeL d = [110, 111, 100, 101, 32] ++ d.n ++ (restV d.ls d.ps ++ [10]) := by
  unfold nodeL nodeF
  show (wNode ++ (d.n :: fieldsV d.ls d.ps).flatMap (fun y => (32 : UInt8) :: y)) ++ [10] = _
  rw [List.flatMap_cons, restV_eq]; simp [wNode]
theorem edgeL_ref (g : GV) (d : ED) : edgeL g d = [101, 100, 103, 101, 32] ++ d.n ++ [32] ++ (g.ns.getD d.fr.toNat nd0).n ++ (32 :: arrowV d.dir ++ [32]) ++ (g.ns.getD d.tw.toNat nd0).n ++ (restV d.ls d.ps ++ [10]) := by
  unfold edgeL edgeF
  show (wEdge ++ (d.n :: (g.ns.getD d.fr.toNat nd0).n :: arrowV d.dir :: (g.ns.getD d.tw.toNat nd0).n :: fieldsV d.ls d.ps).flatMap (fun y => (32 : UInt8) :: y)) ++ [10] = _
  rw [List.flatMap_cons, List.flatMap_cons, List.flatMap_cons, List.flatMap_cons, restV_eq]; simp [wEdge]
theorem lab_len (ls : List (List UInt8)) : (ls.flatMap labF).length ≤ 2 * szL ls := by
  have := flat_bound labF (fun l : List UInt8 => l.length + 1) 1 1 ls (fun l _ => by simp [labF])
  have h2 := szL_len ls
  have h3 : (ls.map fun l => l.length + 1).sum = szL ls := rfl
  omega
theorem prs_len {ps : List Pr} (hok : ∀ p ∈ ps, p.2.Ok) (hr : ∀ p ∈ ps, rightV p.2 = true) : (ps.flatMap prF).length ≤ 64 * szP ps := by
  have := flat_bound prF (fun p : Pr => p.1.length + p.2.s.length + 1) 62 1 ps (fun p hp => by
    have h1 := textQ_len (hok p hp) (hr p hp)
    simp [prF, propF]; omega)
  have h2 := szP_len ps
  have h3 : (ps.map fun p : Pr => p.1.length + p.2.s.length + 1).sum = szP ps := rfl
  omega
theorem Rfields_r (S : Nat → Prop) (A : Option Addr) (c : Nat) (B : Option Addr) (e : Nat) (n : List UInt8) (ls : List (List UInt8)) (ps : List Pr) (w : World) (hN : NodeAt S w A c B e ⟨n, ls, ps⟩) (hok : ∀ p ∈ ps, p.2.Ok) (hri : ∀ p ∈ ps, rightV p.2 = true) (hsz : szN ⟨n, ls, ps⟩ ≤ 268435456) :
    Ret Tryz.prog 43 [.slice A ls.length c, .slice B ps.length e] w fun v w' => v = str (restV ls ps ++ [10]) ∧ Below w.heap.size w w' := by
  have hs1 : n.length + szL ls + szP ps + 1 ≤ 268435456 := hsz
  have hpl := szP_len ps
  have hll := szL_len ls
  have hb1 := lab_len ls
  have hb2 := prs_len hok hri
  have h1 : ([32, 58] : List UInt8).length = 2 := rfl
  have h2 : ([32] : List UInt8).length = 1 := rfl
  have h3 : ([61] : List UInt8).length = 1 := rfl
  have h4 : ([10] : List UInt8).length = 1 := rfl
  have hb := Below.refl w.heap.size w
  have hN_hb := hN
  refine enter Tryz.func43 rfl rfl rfl ?_
  refine Wc.seq fun _ hK_1 => Wc.region <| Wl.sg rfl rfl <| Wl.nil <| Wq.next hK_1 <| Wc.seq fun _ hK_3 => Wc.region <| Wl.sg rfl rfl <| Wl.nil <| Wq.next hK_3 ?_
  refine Wc.seq fun _ hK_5 => Wc.seq fun _ hK_6 => Wc.region <| Wl.sg rfl rfl <| Wl.nil <| Wq.next hK_6 <| Wc.block ?_
  refine Wc.loop (X := Nat) (fun i => [(0, .slice A ls.length c), (1, .slice B ps.length e), (5, str ((ls.take i).flatMap labF)), (6, .int .i64 (i : Int))]) (fun i wr => i ≤ ls.length ∧ Below w.heap.size w wr) (fun i => ls.length - i) (0) ?_ ?_ ?_
  · exact by repeat first | exact Sub.nil | refine Sub.cons' rfl (by first | rfl | exact int_eq (by omega) | exact str_eq (by rw [flat_snoc _ [] hil]; simp [labF])) ?_
  · exact ⟨by omega, hb⟩
  rintro i wr hI_9 _ hL_8
  replace hI_9 : i ≤ ls.length ∧ Below w.heap.size w wr := hI_9
  obtain ⟨hi, hb⟩ := hI_9
  show Wc _ _ _ _ _ [(0, .slice A ls.length c), (1, .slice B ps.length e), (5, str ((ls.take i).flatMap labF)), (6, .int .i64 (i : Int))] _
  have hN := hN_hb.below hb
  have hzhb_L0 := hb.size
  refine Wc.seq fun _ hK_10 => Wc.seq fun _ hK_11 => Wc.region <| Wl.mv rfl rfl <| Wl.mv rfl rfl ?_
  refine Wl.y (y_lenl Tryz.underlying44 (by omega) rfl) rfl ?_
  refine Wl.y (y_lssi rfl rfl) rfl <| Wl.nil <| Wq.next hK_11 ?_
  refine Wc.cond rfl (fun c0_16 => ?_) (fun c0_16 => ?_)
  ·
   have c0_16_ := c0_16
   simp only [DZ] at c0_16
   have hil : i < ls.length := by have := c0_16; omega
   have hli := szL_at hil
   have hpre := flat_pre labF ls i
   obtain ⟨p_, v_, hpe, hve, hcell⟩ := hN.rl.one (i := i) hil
   have hpe : A = some p_ := hpe
   obtain rfl := strs_val hil hve
   subst hpe
   refine Wc.skip <| Wq.next hK_10 <| Wc.seq fun _ hK_17 => Wc.block <| Wc.region <| Wl.mv rfl rfl ?_
   refine Wl.y (y_adds rfl rfl (by rw [h1]; omega)) rfl ?_
   refine Wl.mv rfl rfl <| Wl.mv rfl rfl ?_
   refine Wl.y (y_indexAddr Tryz.underlying44 sz9GrV rfl rfl (by omega) (by omega)) rfl ?_
   refine Wl.l (l_load one9GrV rfl (by exact at1 hcell)) rfl ?_
   refine Wl.y (y_adds rfl rfl (by rw [List.length_append, h1]; omega)) rfl ?_
   refine Wl.sg rfl rfl <| Wl.nil <| Wq.block_normal <| Wq.next hK_17 <| Wc.region <| Wl.mv rfl rfl ?_
   refine Wl.y (y_addI rfl rfl (by omega) (by omega)) rfl ?_
   refine Wl.sg rfl rfl <| Wl.nil ?_
   refine fun a_ ha_ => hL_8 _ _ (i + 1) (by omega) (by repeat first | exact Sub.nil | refine Sub.cons' rfl (by first | rfl | exact int_eq (by omega) | exact str_eq (by rw [flat_snoc _ [] hil]; simp [labF])) ?_) ?_ a_ ha_
   exact ⟨by omega, hb⟩
  have c0_16_ := c0_16
  simp only [DZ] at c0_16
  have hie : i = ls.length := by have := c0_16; omega
  refine Wc.exit ?_
  refine Wq.then_exit <| Wq.then_exit <| Wq.block_exit <| Wq.next hK_5 <| Wc.seq fun _ hK_29 => Wc.seq fun _ hK_30 => Wc.region <| Wl.sg rfl rfl <| Wl.nil <| Wq.next hK_30 ?_
  refine Wc.block ?_
  refine Wc.loop (X := Nat) (fun i => [(1, .slice B ps.length e), (5, str (ls.flatMap labF ++ (ps.take i).flatMap prF)), (7, .int .i64 (i : Int))]) (fun i wr => i ≤ ps.length ∧ Below w.heap.size w wr) (fun i => ps.length - i) (0) ?_ ?_ ?_
  · exact by repeat first | exact Sub.nil | refine Sub.cons' rfl (by first | rfl | exact str_eq (by rw [hie]; simp)) ?_
  · exact ⟨by omega, hb⟩
  rintro i wr hI_33 _ hL_32
  replace hI_33 : i ≤ ps.length ∧ Below w.heap.size w wr := hI_33
  obtain ⟨hi, hb⟩ := hI_33
  show Wc _ _ _ _ _ [(1, .slice B ps.length e), (5, str (ls.flatMap labF ++ (ps.take i).flatMap prF)), (7, .int .i64 (i : Int))] _
  have hN := hN_hb.below hb
  have hzhb_L1 := hb.size
  refine Wc.seq fun _ hK_34 => Wc.seq fun _ hK_35 => Wc.region <| Wl.mv rfl rfl <| Wl.mv rfl rfl ?_
  refine Wl.y (y_lenl Tryz.underlying45 (by omega) rfl) rfl ?_
  refine Wl.y (y_lssi rfl rfl) rfl <| Wl.nil <| Wq.next hK_35 ?_
  refine Wc.cond rfl (fun c1_40 => ?_) (fun c1_40 => ?_)
  ·
   have c1_40_ := c1_40
   simp only [DZ] at c1_40
   have hil : i < ps.length := by have := c1_40; omega
   have hpi := szP_at hil
   have hoi := ok_at hok hil
   have hrii : rightV (ps.getD i pr0).2 = true := by rw [getD_at pr0 hil]; exact hri _ (List.getElem_mem hil)
   have htl := textQ_len hoi hrii
   have htl2 : (textV (quoteV (ps.getD i pr0).2.s) (ps.getD i pr0).2).1.length ≤ 2 * (ps.getD i pr0).2.s.length + 60 := htl
   have hpre := flat_pre prF ps i
   obtain ⟨p_, hpe, hcell⟩ := rd_elem propC (l := ps) (by omega) propC_len hN.rp hil pr0
   have hpe : B = some p_ := hpe
   subst hpe
   refine Wc.skip <| Wq.next hK_34 <| Wc.seq fun _ hK_41 => Wc.block <| Wc.seq fun _ hK_42 => Wc.region <| Wl.mv rfl rfl <| Wl.mv rfl rfl ?_
   refine Wl.y (y_indexAddr Tryz.underlying45 sz96GrV rfl rfl (by omega) (by omega)) rfl ?_
   refine Wl.y (y_fieldAddr (fa96_1GrV _) rfl) rfl ?_
   refine Wl.l (l_loadS Tryz.underlying94 (by kernel_rfl) rfl (by exact show ∀ (j : Nat) (u : Value), (ps.getD i pr0).2.cells[j]? = some u → _ from fun j u hu => by rw [addr_add_add, Int.toNat_natCast]; have h2 := hcell (1 + j) u (by rw [Nat.add_comm]; exact hu); rw [addr_add_add] at h2 ⊢; exact h2)) rfl ?_
   refine Wl.call txt73GrV rfl rfl (RText2_r (ps.getD i pr0).2 hoi (by omega) _) rfl ?_
   rintro _ w_k0 ⟨rfl, hs_k0⟩
   have hz_k0 := hs_k0.size
   have hb := hb.trans (hs_k0.mono hb.size)
   have hN := hN_hb.below hb
   refine Wl.mv rfl rfl <| Wl.y (y_extract rfl rfl) rfl <| Wl.y (y_extract rfl rfl) rfl <| Wl.sg rfl rfl <| Wl.sg rfl rfl <| Wl.nil <| Wq.next hK_42 ?_
   obtain ⟨p2_, hpe2, hcell2⟩ := rd_elem propC (l := ps) (by omega) propC_len hN.rp hil pr0
   cases hpe2
   refine Wc.region <| Wl.mv rfl rfl ?_
   refine Wl.y (y_adds rfl rfl (by rw [List.length_append, h2]; omega)) rfl ?_
   refine Wl.mv rfl rfl <| Wl.mv rfl rfl ?_
   refine Wl.y (y_indexAddr Tryz.underlying45 sz96GrV rfl rfl (by omega) (by omega)) rfl ?_
   refine Wl.y (y_fieldAddr (fa96_0GrV _) rfl) rfl ?_
   refine Wl.l (l_load one9GrV rfl (by exact by rw [Int.toNat_natCast]; exact hcell2 0 _ rfl)) rfl ?_
   refine Wl.y (y_adds rfl rfl (by rw [List.length_append, List.length_append, h2]; omega)) rfl ?_
   refine Wl.y (y_adds rfl rfl (by simp only [List.length_append, h2, h3]; omega)) rfl ?_
   refine Wl.mv rfl rfl ?_
   refine Wl.y (y_adds rfl rfl (by simp only [List.length_append, h2, h3]; omega)) rfl ?_
   refine Wl.sg rfl rfl <| Wl.nil <| Wq.block_normal <| Wq.next hK_41 <| Wc.region <| Wl.mv rfl rfl ?_
   refine Wl.y (y_addI rfl rfl (by omega) (by omega)) rfl ?_
   refine Wl.sg rfl rfl <| Wl.nil ?_
   refine fun a_ ha_ => hL_32 _ _ (i + 1) (by omega) (by repeat first | exact Sub.nil | refine Sub.cons' rfl (by first | rfl | exact int_eq (by omega) | exact str_eq (by rw [flat_snoc _ pr0 hil]; simp [prF, propF, textQ])) ?_) ?_ a_ ha_
   exact ⟨by omega, hb⟩
  have c1_40_ := c1_40
  simp only [DZ] at c1_40
  have hie : i = ps.length := by have := c1_40; omega
  rw [hie, List.take_length]
  refine Wc.exit ?_
  refine Wq.then_exit <| Wq.then_exit <| Wq.block_exit <| Wq.next hK_29 <| Wc.seq fun _ hK_69 => Wc.region <| Wl.mv rfl rfl ?_
  refine Wl.y (y_adds rfl rfl (by rw [List.length_append, h4]; omega)) rfl ?_
  refine Wl.sg rfl rfl <| Wl.nil <| Wq.next hK_69 <| Wc.ret ?_
  refine ret1 rfl rfl ?_
  exact ⟨_, rfl, rfl, hb⟩
theorem RGPrint_r (S : Nat → Prop) (A : Option Addr) (c : Nat) (B : Option Addr) (e : Nat) (g : GV) (w : World) (hG : GAt S w A c B e g) (hsz : szG g ≤ 8388608) :
    Ret Tryz.prog 23 [.agg #[.slice A g.ns.length c, .slice B g.es.length e]] w fun v w' => v = .tuple #[str (if rightG g = 0 then printG g else []), .int .i64 (rightG g)] ∧ Below w.heap.size w w' := by
  have hnl := szG_nlen g
  have hel := szG_elen g
  have h5 : ([110, 111, 100, 101, 32] : List UInt8).length = 5 := rfl
  have h6 : ([101, 100, 103, 101, 32] : List UInt8).length = 5 := rfl
  have h1 : ([32] : List UInt8).length = 1 := rfl
  have h2 : ([10] : List UInt8).length = 1 := rfl
  have hb := Below.refl w.heap.size w
  have hG_hb := hG
  refine enter Tryz.func23 rfl rfl rfl ?_
  refine Wc.seq fun _ hK_1 => Wc.region ?_
  refine Wl.boxN rfl rfl ?_
  rintro g_o0 w_o0 hg_o0 hn_o0 hs_o0
  have hz_o0 := hs_o0.size
  have hb := hb.trans (hs_o0.mono hb.size)
  have hG := hG_hb.below hb
  have hB_o0 := hn_o0
  have hl_o0 := hB_o0.lt
  refine Wl.sg rfl rfl <| Wl.sg rfl rfl <| Wl.nil <| Wq.next hK_1 <| Wc.seq fun _ hK_5 => Wc.region ?_
  refine Wl.l (l_loadS Tryz.underlying25 (by kernel_rfl) rfl (by exact fun j u hu => hB_o0.at hu)) rfl ?_
  refine Wl.call txt42GrV rfl rfl (RGRight_r S A c B e g _ hG (by omega)) rfl ?_
  rintro _ w_k0 ⟨rfl, hs_k0⟩
  have hz_k0 := hs_k0.size
  have hb := hb.trans (hs_k0.mono hb.size)
  have hG := hG_hb.below hb
  have hB_o0 := Blk.below hB_o0 hs_k0
  refine Wl.sg rfl rfl <| Wl.nil <| Wq.next hK_5 <| Wc.seq fun _ hK_9 => Wc.seq fun _ hK_10 => Wc.region <| Wl.mv rfl rfl <| Wl.y (y_neqi rfl rfl) rfl <| Wl.nil <| Wq.next hK_10 ?_
  refine Wc.cond rfl (fun c0_13 => ?_) (fun c0_13 => ?_)
  ·
   have c0_13_ := c0_13
   simp only [DZ] at c0_13
   refine Wc.seq fun _ hK_14 => Wc.region <| Wl.mv rfl rfl <| Wl.sg rfl rfl <| Wl.sg rfl rfl <| Wl.nil <| Wq.next hK_14 <| Wc.ret <| Wq.then_ret ?_
   refine ret2 rfl rfl rfl ?_
   exact ⟨_, rfl, by rw [if_neg (by simpa using c0_13)]; rfl, hb⟩
  have c0_13_ := c0_13
  simp only [DZ] at c0_13
  obtain ⟨hn1, he1, hok⟩ := rightG_zero (g := g) (by simpa using c0_13)
  have hpl := print_len hG.oks hG.oke hok hn1 he1
  refine Wc.skip <| Wq.next hK_9 <| Wc.seq fun _ hK_18 => Wc.region <| Wl.sg rfl rfl <| Wl.nil <| Wq.next hK_18 <| Wc.seq fun _ hK_20 => Wc.seq fun _ hK_21 => Wc.region ?_
  refine Wl.sg rfl rfl <| Wl.nil <| Wq.next hK_21 <| Wc.block ?_
  refine Wc.loop (X := Nat) (fun i => [(1, .pointer (some ⟨g_o0, 0, none⟩)), (5, str ((g.ns.take i).flatMap nodeL)), (6, .int .i64 (i : Int))]) (fun i wr => i ≤ g.ns.length ∧ Below w.heap.size w wr ∧ Blk wr g_o0 25 [.slice A g.ns.length c, .slice B g.es.length e]) (fun i => g.ns.length - i) (0) ?_ ?_ ?_
  · exact by repeat first | exact Sub.nil | refine Sub.cons' rfl (by first | rfl | exact int_eq (by omega) | exact str_eq (by rw [flat_snoc _ nd0 hil, nodeL_ref]; simp)) ?_
  · exact ⟨by omega, hb, hB_o0⟩
  rintro i wr hI_24 _ hL_23
  replace hI_24 : i ≤ g.ns.length ∧ Below w.heap.size w wr ∧ Blk wr g_o0 25 [.slice A g.ns.length c, .slice B g.es.length e] := hI_24
  obtain ⟨hi, hb, hB_o0⟩ := hI_24
  show Wc _ _ _ _ _ [(1, .pointer (some ⟨g_o0, 0, none⟩)), (5, str ((g.ns.take i).flatMap nodeL)), (6, .int .i64 (i : Int))] _
  have hG := hG_hb.below hb
  have hzhb_L0 := hb.size
  have hlhB_o0_L0 := hB_o0.lt
  refine Wc.seq fun _ hK_25 => Wc.seq fun _ hK_26 => Wc.region <| Wl.mv rfl rfl ?_
  refine Wl.y (y_fieldAddr (fa25_0GrV _) rfl) rfl ?_
  refine Wl.l (l_load one22GrV rfl (by exact hB_o0.at (j := 0) rfl)) rfl ?_
  refine Wl.y (y_lenl Tryz.underlying22 (by omega) rfl) rfl ?_
  refine Wl.y (y_lssi rfl rfl) rfl <| Wl.nil <| Wq.next hK_26 ?_
  refine Wc.cond rfl (fun c1_32 => ?_) (fun c1_32 => ?_)
  ·
   have c1_32_ := c1_32
   simp only [DZ] at c1_32
   have hil : i < g.ns.length := by have := c1_32; omega
   obtain ⟨p_, cs_, hpe, hcl, hcell, hQ⟩ := hG.rn i hil
   obtain ⟨A1, c1, B1, e1, rfl, hN⟩ := hQ
   have hszn := szG_n hil
   have hnd := okG_n hok hil
   have hokn := oks_at (f := fun d : ND => d.ps) hG.oks nd0 hil
   have hpre := flat_pre nodeL g.ns i
   have hpre2 := flat_pre nodeL g.ns (i + 1)
   rw [flat_snoc _ nd0 hil, nodeL_ref] at hpre2
   simp only [List.length_append, h5, h2] at hpre2
   subst hpe
   refine Wc.skip <| Wq.next hK_25 <| Wc.seq fun _ hK_33 => Wc.block ?_
   refine Wc.quiet (by kernel_rfl) (by kernel_rfl) ?_
   refine Wy.y (y_move rfl) rfl ?_
   refine Wy.y (y_adds rfl rfl (by rw [h5]; omega)) rfl ?_
   refine Wy.y (y_fieldAddr (fa25_0GrV _) rfl) rfl ?_
   refine Wy.l (fun wq hq => l_load one22GrV rfl (by have hG := hG.below hq; have hB_o0 := Blk.below hB_o0 hq; exact hB_o0.at (j := 0) rfl)) rfl ?_
   refine Wy.y (y_move rfl) rfl ?_
   refine Wy.y (y_indexAddr Tryz.underlying22 sz47GrV rfl rfl (by omega) (by omega)) rfl ?_
   refine Wy.y (y_fieldAddr (fa47_0GrV _) rfl) rfl ?_
   refine Wy.l (fun wq hq => l_load one9GrV rfl (by have hG := hG.below hq; have hB_o0 := Blk.below hB_o0 hq; exact cell_below hq (by rw [Int.toNat_natCast]; exact hcell 0 _ rfl))) rfl ?_
   refine Wy.y (y_adds rfl rfl (by simp only [List.length_append, h5]; omega)) rfl ?_
   refine Wy.y (y_fieldAddr (fa25_0GrV _) rfl) rfl ?_
   refine Wy.l (fun wq hq => l_load one22GrV rfl (by have hG := hG.below hq; have hB_o0 := Blk.below hB_o0 hq; exact hB_o0.at (j := 0) rfl)) rfl ?_
   refine Wy.y (y_move rfl) rfl ?_
   refine Wy.y (y_indexAddr Tryz.underlying22 sz47GrV rfl rfl (by omega) (by omega)) rfl ?_
   refine Wy.y (y_fieldAddr (fa47_1GrV _) rfl) rfl ?_
   refine Wy.l (fun wq hq => l_load one44GrV rfl (by have hG := hG.below hq; have hB_o0 := Blk.below hB_o0 hq; exact cell_below hq (by rw [Int.toNat_natCast]; exact hcell 1 _ rfl))) rfl ?_
   refine Wy.y (y_fieldAddr (fa25_0GrV _) rfl) rfl ?_
   refine Wy.l (fun wq hq => l_load one22GrV rfl (by have hG := hG.below hq; have hB_o0 := Blk.below hB_o0 hq; exact hB_o0.at (j := 0) rfl)) rfl ?_
   refine Wy.y (y_move rfl) rfl ?_
   refine Wy.y (y_indexAddr Tryz.underlying22 sz47GrV rfl rfl (by omega) (by omega)) rfl ?_
   refine Wy.y (y_fieldAddr (fa47_2GrV _) rfl) rfl ?_
   refine Wy.l (fun wq hq => l_load one45GrV rfl (by have hG := hG.below hq; have hB_o0 := Blk.below hB_o0 hq; exact cell_below hq (by rw [Int.toNat_natCast]; exact hcell 2 _ rfl))) rfl ?_
   refine Wy.call txt43GrV rfl rfl (fun wq hq => by have hG := hG.below hq; have hB_o0 := Blk.below hB_o0 hq; exact Rfields_r S A1 c1 B1 e1 (g.ns.getD i nd0).n (g.ns.getD i nd0).ls (g.ns.getD i nd0).ps _ (hN.below hq) hokn (elem_right hnd) (Nat.le_trans hszn (Nat.le_trans hsz (by decide)))) rfl ?_
   refine Wy.y (y_adds rfl rfl (by simp only [List.length_append, h5, h2]; omega)) rfl ?_
   refine Wy.y (y_assign rfl) rfl ?_
   refine Wy.nil fun w_g7 hs_g7 => ?_
   have hz_g7 := hs_g7.size
   have hb := hb.trans (hs_g7.mono hb.size)
   have hG := hG_hb.below hb
   have hB_o0 := Blk.below hB_o0 hs_g7
   refine Wq.block_normal <| Wq.next hK_33 <| Wc.region <| Wl.mv rfl rfl ?_
   refine Wl.y (y_addI rfl rfl (by omega) (by omega)) rfl ?_
   refine Wl.sg rfl rfl <| Wl.nil ?_
   refine fun a_ ha_ => hL_23 _ _ (i + 1) (by omega) (by repeat first | exact Sub.nil | refine Sub.cons' rfl (by first | rfl | exact int_eq (by omega) | exact str_eq (by rw [flat_snoc _ nd0 hil, nodeL_ref]; simp)) ?_) ?_ a_ ha_
   exact ⟨by omega, hb, hB_o0⟩
  have c1_32_ := c1_32
  simp only [DZ] at c1_32
  have hie : i = g.ns.length := by have := c1_32; omega
  refine Wc.exit ?_
  refine Wq.then_exit <| Wq.then_exit <| Wq.block_exit <| Wq.next hK_20 <| Wc.seq fun _ hK_61 => Wc.seq fun _ hK_62 => Wc.region <| Wl.sg rfl rfl <| Wl.nil <| Wq.next hK_62 ?_
  refine Wc.block ?_
  refine Wc.loop (X := Nat) (fun i => [(1, .pointer (some ⟨g_o0, 0, none⟩)), (5, str (g.ns.flatMap nodeL ++ (g.es.take i).flatMap (edgeL g))), (7, .int .i64 (i : Int))]) (fun i wr => i ≤ g.es.length ∧ Below w.heap.size w wr ∧ Blk wr g_o0 25 [.slice A g.ns.length c, .slice B g.es.length e]) (fun i => g.es.length - i) (0) ?_ ?_ ?_
  · exact by repeat first | exact Sub.nil | refine Sub.cons' rfl (by first | rfl | exact str_eq (by rw [hie]; simp)) ?_
  · exact ⟨by omega, hb, hB_o0⟩
  rintro i wr hI_65 _ hL_64
  replace hI_65 : i ≤ g.es.length ∧ Below w.heap.size w wr ∧ Blk wr g_o0 25 [.slice A g.ns.length c, .slice B g.es.length e] := hI_65
  obtain ⟨hi, hb, hB_o0⟩ := hI_65
  show Wc _ _ _ _ _ [(1, .pointer (some ⟨g_o0, 0, none⟩)), (5, str (g.ns.flatMap nodeL ++ (g.es.take i).flatMap (edgeL g))), (7, .int .i64 (i : Int))] _
  have hG := hG_hb.below hb
  have hzhb_L1 := hb.size
  have hlhB_o0_L1 := hB_o0.lt
  refine Wc.seq fun _ hK_66 => Wc.seq fun _ hK_67 => Wc.region <| Wl.mv rfl rfl ?_
  refine Wl.y (y_fieldAddr (fa25_1GrV _) rfl) rfl ?_
  refine Wl.l (l_load one23GrV rfl (by exact hB_o0.at (j := 1) rfl)) rfl ?_
  refine Wl.y (y_lenl Tryz.underlying23 (by omega) rfl) rfl ?_
  refine Wl.y (y_lssi rfl rfl) rfl <| Wl.nil <| Wq.next hK_67 ?_
  refine Wc.cond rfl (fun c2_73 => ?_) (fun c2_73 => ?_)
  ·
   have c2_73_ := c2_73
   simp only [DZ] at c2_73
   have hil : i < g.es.length := by have := c2_73; omega
   obtain ⟨p_, cs_, hpe, hcl, hcell, hQ⟩ := hG.re i hil
   obtain ⟨A1, c1, B1, e1, rfl, hN⟩ := hQ
   have hszn := szG_e hil
   have hnd := okG_e hok hil
   obtain ⟨hel0, hfr, htw⟩ := edge_ends hnd
   have hokn := oks_at (f := fun d : ED => d.ps) hG.oke ed0 hil
   have hpre := flat_pre (edgeL g) g.es i
   have hpre2 := flat_pre (edgeL g) g.es (i + 1)
   rw [flat_snoc _ ed0 hil, edgeL_ref] at hpre2
   simp only [List.length_append, List.length_cons, h6, h1, h2] at hpre2
   have hal : (arrowV (g.es.getD i ed0).dir).length = 2 := by unfold arrowV; split <;> rfl
   obtain ⟨pf_, csf_, hpf, _, hcf, hQf⟩ := hG.rn (g.es.getD i ed0).fr.toNat (by omega)
   obtain ⟨Af1, cf1, Bf1, ef1, rfl, hNf⟩ := hQf
   obtain ⟨pt_, cst_, hpt, _, hct, hQt⟩ := hG.rn (g.es.getD i ed0).tw.toNat (by omega)
   obtain ⟨At1, ct1, Bt1, et1, rfl, hNt⟩ := hQt
   obtain rfl : pf_ = pt_ := Option.some.inj (hpf.symm.trans hpt)
   subst hpe
   subst hpf
   refine Wc.skip <| Wq.next hK_66 <| Wc.seq fun _ hK_74 => Wc.block <| Wc.seq fun _ hK_75 => ?_
   have hbR := Below.refl wr.heap.size wr
   have hN_hbR := hN
   refine Wc.region ?_
   refine Wl.y (y_fieldAddr (fa25_1GrV _) rfl) rfl ?_
   refine Wl.l (l_load one23GrV rfl (by exact hB_o0.at (j := 1) rfl)) rfl ?_
   refine Wl.mv rfl rfl ?_
   refine Wl.y (y_indexAddr Tryz.underlying23 sz54GrV rfl rfl (by omega) (by omega)) rfl ?_
   refine Wl.l (l_loadS Tryz.underlying54 (by kernel_rfl) rfl (by exact at5 hcell)) rfl ?_
   refine Wl.allocN (z := (.agg #[(str []), (.int .i64 0), (.int .i64 0), (.bool false), (.slice none 0 0), (.slice none 0 0)])) (by kernel_rfl) rfl ?_
   rintro g_o37 w_o37 hg_o37 hn_o37 hs_o37
   have hz_o37 := hs_o37.size
   have hb := hb.trans (hs_o37.mono hb.size)
   have hG := hG_hb.below hb
   have hbR := hbR.trans (hs_o37.mono hbR.size)
   have hN := hN_hbR.below hbR
   have hB_o0 := Blk.below hB_o0 hs_o37
   have hB_o37 := hn_o37
   have hl_o37 := hB_o37.lt
   refine Wl.storeS (by kernel_rfl) rfl rfl hB_o37 rfl rfl ?_
   rintro w_s0 hn_s0 hg_s0
   have hz_s0 := hg_s0.size
   have hb := below_blk hb hg_s0 hb.size (by omega)
   have hG := hG_hb.below hb
   have hbR := below_blk hbR hg_s0 hbR.size (by omega)
   have hN := hN_hbR.below hbR
   have hB_o0 := hB_o0.over hg_s0 (by omega)
   have hB_o37 := hn_s0
   refine Wl.nil <| Wq.next hK_75 <| Wc.seq fun _ hK_82 => Wc.region <| Wl.sg rfl rfl <| Wl.nil <| Wq.next hK_82 <| Wc.seq fun _ hK_84 => Wc.seq fun _ hK_85 => Wc.region ?_
   refine Wl.y (y_fieldAddr (fa54_3GrV _) rfl) rfl ?_
   refine Wl.l (l_load one4GrV rfl (by exact hB_o37.at (j := 3) rfl)) rfl ?_
   refine Wl.nil <| Wq.next hK_85 ?_
   refine Wc.meet (X := Unit) (fun u_ => [(1, .pointer (some ⟨g_o0, 0, none⟩)), (5, str (g.ns.flatMap nodeL ++ (g.es.take i).flatMap (edgeL g))), (7, .int .i64 (i : Int)), (8, .pointer (some ⟨g_o37, 0, none⟩)), (9, str (32 :: arrowV (g.es.getD i ed0).dir ++ [32]))]) (fun u_ wm => Below w.heap.size w wm ∧ Below wr.heap.size wr wm ∧ Blk wm g_o0 25 [.slice (some pf_) g.ns.length c, .slice (some p_) g.es.length e] ∧ Blk wm g_o37 54 [str (g.es.getD i ed0).n, .int .i64 (g.es.getD i ed0).fr, .int .i64 (g.es.getD i ed0).tw, .bool (g.es.getD i ed0).dir, .slice A1 (g.es.getD i ed0).ls.length c1, .slice B1 (g.es.getD i ed0).ps.length e1]) (fun _ hM_88 => ?_) ?_
   ·
    refine Wc.cond rfl (fun c3_89 => ?_) (fun c3_89 => ?_)
    ·
     have c3_89_ := c3_89
     refine Wc.region <| Wl.sg rfl rfl <| Wl.nil ?_
     refine Wq.meet hM_88 (()) (by repeat first | exact Sub.nil | refine Sub.cons' rfl (by first | rfl | exact str_eq (by unfold arrowV; rw [c3_89_]; rfl)) ?_) ?_
     exact ⟨hb, hbR, hB_o0, hB_o37⟩
    have c3_89_ := c3_89
    refine Wc.skip ?_
    refine Wq.meet hM_88 (()) (by repeat first | exact Sub.nil | refine Sub.cons' rfl (by first | rfl | exact str_eq (by unfold arrowV; rw [c3_89_]; rfl)) ?_) ?_
    exact ⟨hb, hbR, hB_o0, hB_o37⟩
   rintro u_ wm hI_91
   replace hI_91 : Below w.heap.size w wm ∧ Below wr.heap.size wr wm ∧ Blk wm g_o0 25 [.slice (some pf_) g.ns.length c, .slice (some p_) g.es.length e] ∧ Blk wm g_o37 54 [str (g.es.getD i ed0).n, .int .i64 (g.es.getD i ed0).fr, .int .i64 (g.es.getD i ed0).tw, .bool (g.es.getD i ed0).dir, .slice A1 (g.es.getD i ed0).ls.length c1, .slice B1 (g.es.getD i ed0).ps.length e1] := hI_91
   obtain ⟨hb, hbR, hB_o0, hB_o37⟩ := hI_91
   show Wq _ _ _ _ [(1, .pointer (some ⟨g_o0, 0, none⟩)), (5, str (g.ns.flatMap nodeL ++ (g.es.take i).flatMap (edgeL g))), (7, .int .i64 (i : Int)), (8, .pointer (some ⟨g_o37, 0, none⟩)), (9, str (32 :: arrowV (g.es.getD i ed0).dir ++ [32]))] _
   have hG := hG_hb.below hb
   have hN := hN_hbR.below hbR
   have hzhb_c3 := hb.size
   have hzhbR_c3 := hbR.size
   have hlhB_o0_c3 := hB_o0.lt
   have hlhB_o37_c3 := hB_o37.lt
   refine Wq.next hK_84 ?_
   refine Wc.quiet (by kernel_rfl) (by kernel_rfl) ?_
   refine Wy.y (y_move rfl) rfl ?_
   refine Wy.y (y_adds rfl rfl (by rw [h6, List.length_append]; omega)) rfl ?_
   refine Wy.y (y_fieldAddr (fa54_0GrV _) rfl) rfl ?_
   refine Wy.l (fun wq hq => l_load one9GrV rfl (by have hG := hG.below hq; have hN := hN.below hq; have hB_o0 := Blk.below hB_o0 hq; have hB_o37 := Blk.below hB_o37 hq; exact hB_o37.at (j := 0) rfl)) rfl ?_
   refine Wy.y (y_adds rfl rfl (by simp only [List.length_append, h6]; omega)) rfl ?_
   refine Wy.y (y_adds rfl rfl (by simp only [List.length_append, h6, h1]; omega)) rfl ?_
   refine Wy.y (y_fieldAddr (fa25_0GrV _) rfl) rfl ?_
   refine Wy.l (fun wq hq => l_load one22GrV rfl (by have hG := hG.below hq; have hN := hN.below hq; have hB_o0 := Blk.below hB_o0 hq; have hB_o37 := Blk.below hB_o37 hq; exact hB_o0.at (j := 0) rfl)) rfl ?_
   refine Wy.y (y_fieldAddr (fa54_1GrV _) rfl) rfl ?_
   refine Wy.l (fun wq hq => l_load one3GrV rfl (by have hG := hG.below hq; have hN := hN.below hq; have hB_o0 := Blk.below hB_o0 hq; have hB_o37 := Blk.below hB_o37 hq; exact hB_o37.at (j := 1) rfl)) rfl ?_
   refine Wy.y (y_indexAddr Tryz.underlying22 sz47GrV rfl rfl (by omega) (by omega)) rfl ?_
   refine Wy.y (y_fieldAddr (fa47_0GrV _) rfl) rfl ?_
   refine Wy.l (fun wq hq => l_load one9GrV rfl (by have hG := hG.below hq; have hN := hN.below hq; have hB_o0 := Blk.below hB_o0 hq; have hB_o37 := Blk.below hB_o37 hq; exact cell_below (hbR.trans (hq.mono hbR.size)) (hcf 0 _ rfl))) rfl ?_
   refine Wy.y (y_adds rfl rfl (by simp only [List.length_append, h6, h1]; omega)) rfl ?_
   refine Wy.y (y_move rfl) rfl ?_
   refine Wy.y (y_adds rfl rfl (by simp only [List.length_append, List.length_cons, h6, h1]; omega)) rfl ?_
   refine Wy.y (y_fieldAddr (fa25_0GrV _) rfl) rfl ?_
   refine Wy.l (fun wq hq => l_load one22GrV rfl (by have hG := hG.below hq; have hN := hN.below hq; have hB_o0 := Blk.below hB_o0 hq; have hB_o37 := Blk.below hB_o37 hq; exact hB_o0.at (j := 0) rfl)) rfl ?_
   refine Wy.y (y_fieldAddr (fa54_2GrV _) rfl) rfl ?_
   refine Wy.l (fun wq hq => l_load one3GrV rfl (by have hG := hG.below hq; have hN := hN.below hq; have hB_o0 := Blk.below hB_o0 hq; have hB_o37 := Blk.below hB_o37 hq; exact hB_o37.at (j := 2) rfl)) rfl ?_
   refine Wy.y (y_indexAddr Tryz.underlying22 sz47GrV rfl rfl (by omega) (by omega)) rfl ?_
   refine Wy.y (y_fieldAddr (fa47_0GrV _) rfl) rfl ?_
   refine Wy.l (fun wq hq => l_load one9GrV rfl (by have hG := hG.below hq; have hN := hN.below hq; have hB_o0 := Blk.below hB_o0 hq; have hB_o37 := Blk.below hB_o37 hq; exact cell_below (hbR.trans (hq.mono hbR.size)) (hct 0 _ rfl))) rfl ?_
   refine Wy.y (y_adds rfl rfl (by simp only [List.length_append, List.length_cons, h6, h1]; omega)) rfl ?_
   refine Wy.y (y_fieldAddr (fa54_4GrV _) rfl) rfl ?_
   refine Wy.l (fun wq hq => l_load one44GrV rfl (by have hG := hG.below hq; have hN := hN.below hq; have hB_o0 := Blk.below hB_o0 hq; have hB_o37 := Blk.below hB_o37 hq; exact hB_o37.at (j := 4) rfl)) rfl ?_
   refine Wy.y (y_fieldAddr (fa54_5GrV _) rfl) rfl ?_
   refine Wy.l (fun wq hq => l_load one45GrV rfl (by have hG := hG.below hq; have hN := hN.below hq; have hB_o0 := Blk.below hB_o0 hq; have hB_o37 := Blk.below hB_o37 hq; exact hB_o37.at (j := 5) rfl)) rfl ?_
   refine Wy.call txt43GrV rfl rfl (fun wq hq => by have hG := hG.below hq; have hN := hN.below hq; have hB_o0 := Blk.below hB_o0 hq; have hB_o37 := Blk.below hB_o37 hq; exact Rfields_r S A1 c1 B1 e1 (g.es.getD i ed0).n (g.es.getD i ed0).ls (g.es.getD i ed0).ps _ hN hokn (elem_right hel0) (Nat.le_trans hszn (Nat.le_trans hsz (by decide)))) rfl ?_
   refine Wy.y (y_adds rfl rfl (by simp only [List.length_append, List.length_cons, h6, h1, h2]; omega)) rfl ?_
   refine Wy.y (y_assign rfl) rfl ?_
   refine Wy.nil fun w_g15 hs_g15 => ?_
   have hz_g15 := hs_g15.size
   have hb := hb.trans (hs_g15.mono hb.size)
   have hG := hG_hb.below hb
   have hbR := hbR.trans (hs_g15.mono hbR.size)
   have hN := hN_hbR.below hbR
   have hB_o0 := Blk.below hB_o0 hs_g15
   refine Wq.block_normal <| Wq.next hK_74 <| Wc.region <| Wl.mv rfl rfl ?_
   refine Wl.y (y_addI rfl rfl (by omega) (by omega)) rfl ?_
   refine Wl.sg rfl rfl <| Wl.nil ?_
   refine fun a_ ha_ => hL_64 _ _ (i + 1) (by omega) (by repeat first | exact Sub.nil | refine Sub.cons' rfl (by first | rfl | exact int_eq (by omega) | exact str_eq (by rw [flat_snoc _ ed0 hil, edgeL_ref]; simp)) ?_) ?_ a_ ha_
   exact ⟨by omega, hb, hB_o0⟩
  have c2_73_ := c2_73
  simp only [DZ] at c2_73
  have hie : i = g.es.length := by have := c2_73; omega
  rw [hie, List.take_length]
  refine Wc.exit ?_
  refine Wq.then_exit <| Wq.then_exit <| Wq.block_exit <| Wq.next hK_61 <| Wc.seq fun _ hK_126 => Wc.region <| Wl.mv rfl rfl <| Wl.sg rfl rfl <| Wl.sg rfl rfl <| Wl.nil ?_
  refine Wq.next hK_126 <| Wc.ret ?_
  refine ret2 rfl rfl rfl ?_
  exact ⟨_, rfl, by have h0 : rightG g = 0 := (by simpa using c0_13); rw [if_pos h0, h0]; rfl, hb⟩
end Go.Proofs.YtobhpejaoakpmaaGreatDoor
