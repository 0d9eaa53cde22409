/- When graphs are the same (06, 07), by the calculus; the same right graphs are printed alike. · When graphs are the same (07), by the calculus. · The statement of layer 9 that speaks of graphs: its walk. -/
import Derived.Test.YtjmlknjbhbfneaaGreatDoorZGB
import Derived.Test.YtjmlknjbhbfneaaGreatDoorZK
import Derived.Test.YtjmlknjbhbfneaaGreatDoorZGC
import Derived.Test.YtjmlknjbhbfneaaGreatDoorZSU
namespace Go.Proofs.YtjmlknjbhbfneaaGreatDoor
open Go.RowKit Go.Bw Go.Bw.Fl
set_option linter.unusedVariables false
set_option linter.unusedSimpArgs false
theorem fa105_0GrX (p : Addr) (w : World) : (Instr.fieldAt 105 (.pointer (some p)) 0).run Tryz.prog w = .ok (.pointer (some (p.add 0))) w := run_fieldAt (i := 0) (sz := 0) Tryz.underlying105 rfl (by kernel_rfl) p w
theorem fa105_1GrX (p : Addr) (w : World) : (Instr.fieldAt 105 (.pointer (some p)) 1).run Tryz.prog w = .ok (.pointer (some (p.add 1))) w := run_fieldAt (i := 1) (sz := 3) Tryz.underlying105 rfl (by kernel_rfl) p w
theorem one9GrX : One Tryz.prog 9 := ⟨_, Tryz.underlying9, rfl, by kernel_rfl⟩
theorem sz105GrX : (Tryz.prog.info? 105).map (·.size) = some 5 := by kernel_rfl
theorem sz9GrX : (Tryz.prog.info? 9).map (·.size) = some 1 := by kernel_rfl
theorem txt50GrX : Txt Tryz.prog 50 := ⟨_, Tryz.func50, by kernel_rfl, rfl⟩   -- bridleway/bridlewayref02.Same
def samePA (ps qs : List Pr) (i : Nat) : Bool := sameV (ps.getD i pr0).2 (qs.getD i pr0).2 && decide ((ps.getD i pr0).1 = (qs.getD i pr0).1)
def samePs (ps qs : List Pr) : Bool := decide (ps.length = qs.length) && allN ps.length (samePA ps qs)
def sameN (a b : ND) : Bool := decide (a.ls = b.ls) && samePs a.ps b.ps && decide (a.n = b.n)
def sameE (a b : ED) : Bool := sameN ⟨a.n, a.ls, a.ps⟩ ⟨b.n, b.ls, b.ps⟩ && decide (a.fr = b.fr) && decide (a.tw = b.tw) && (a.dir == b.dir)
def sameNA (g h : GV) (i : Nat) : Bool := sameN (g.ns.getD i nd0) (h.ns.getD i nd0)
def sameEA (g h : GV) (i : Nat) : Bool := sameE (g.es.getD i ed0) (h.es.getD i ed0)
def sameG (g h : GV) : Bool := decide (g.ns.length = h.ns.length) && decide (g.es.length = h.es.length) && allN g.ns.length (sameNA g h) && allN g.es.length (sameEA g h)
theorem ext_getD {α : Type} (z : α) : ∀ {l m : List α}, l.length = m.length → (∀ i, i < l.length → l.getD i z = m.getD i z) → l = m
  | [], [], _, _ => rfl
  | a :: l, b :: m, hl, h => by
    have h0 := h 0 (by simp)
    have h1 := ext_getD z (l := l) (m := m) (by simpa using hl) (fun i hi => by have := h (i + 1) (by simpa using hi); simpa using this)
    rw [h1]; simpa using h0
theorem bneD (a b : List UInt8) : (a != b) = !decide (a = b) := by rw [Bool.eq_iff_iff]; simp
theorem SameTexts_r (A : Option Addr) (c : Nat) (l : List (List UInt8)) (B : Option Addr) (e : Nat) (m : List (List UInt8)) (w : World) (hl : Rd w 1 A l.length (strs l)) (hm : Rd w 1 B m.length (strs m)) (h1 : l.length ≤ 1099511627776) (h2 : m.length ≤ 1099511627776) :
    Ret Tryz.prog 22 [.slice A l.length c, .slice B m.length e] w fun v w' => v = .bool (decide (l = m)) ∧ Below w.heap.size w w' := by
  have hb := Below.refl w.heap.size w
  have hl_hb := hl
  have hm_hb := hm
  refine enter Tryz.func22 rfl rfl rfl <| Wc.seq fun _ hK_1 => Wc.region <| Wl.sg rfl rfl <| Wl.nil <| Wq.next hK_1 <| Wc.seq fun _ hK_3 => Wc.seq fun _ hK_4 => Wc.region <| Wl.mv rfl rfl <| Wl.y (y_lenl Tryz.underlying40 (by omega) rfl) rfl <| Wl.mv rfl rfl <| Wl.y (y_lenl Tryz.underlying40 (by omega) rfl) rfl <| Wl.y (y_neqi rfl rfl) rfl <| Wl.nil <| Wq.next hK_4 <| Wc.cond rfl (fun c0_10 => ?_) (fun c0_10 => ?_)
  ·
   have c0_10_ := c0_10
   simp only [DZ] at c0_10
   refine Wc.seq fun _ hK_11 => Wc.region <| Wl.sg rfl rfl <| Wl.nil <| Wq.next hK_11 <| Wc.ret <| Wq.then_ret <| ret1 rfl rfl ?_
   exact ⟨_, rfl, bool_eq (by rw [eq_comm, decide_eq_false_iff_not]; intro h; rw [h] at c0_10; exact c0_10 rfl), hb⟩
  have c0_10_ := c0_10
  simp only [DZ] at c0_10
  have hlen : l.length = m.length := by have := c0_10; omega
  refine Wc.skip <| Wq.next hK_3 <| Wc.seq fun _ hK_13 => Wc.seq fun _ hK_14 => Wc.region <| Wl.sg rfl rfl <| Wl.nil <| Wq.next hK_14 <| Wc.block <| Wc.loop (X := Nat) (fun i => [(0, .slice A l.length c), (1, .slice B m.length e), (5, .int .i64 (i : Int))]) (fun i wr => i ≤ l.length ∧ (∀ j, j < i → l.getD j [] = m.getD j []) ∧ Below w.heap.size w wr) (fun i => l.length - i) (0) ?_ ?_ ?_
  · exact by repeat first | exact Sub.nil | refine Sub.cons' rfl (by first | rfl | exact int_eq (by omega) | exact int_eq (by simp) | (simp; done)) ?_
  · exact ⟨by omega, fun _ h => by omega, hb⟩
  rintro i wr hI_17 _ hL_16
  replace hI_17 : i ≤ l.length ∧ (∀ j, j < i → l.getD j [] = m.getD j []) ∧ Below w.heap.size w wr := hI_17
  obtain ⟨hi, hall, hb⟩ := hI_17
  show Wc _ _ _ _ _ [(0, .slice A l.length c), (1, .slice B m.length e), (5, .int .i64 (i : Int))] _
  have hl := hl_hb.below hb
  have hm := hm_hb.below hb
  have hzhb_L0 := hb.size
  refine Wc.seq fun _ hK_18 => Wc.seq fun _ hK_19 => Wc.region <| Wl.mv rfl rfl <| Wl.mv rfl rfl <| Wl.y (y_lenl Tryz.underlying40 (by omega) rfl) rfl <| Wl.y (y_lssi rfl rfl) rfl <| Wl.nil <| Wq.next hK_19 <| Wc.cond rfl (fun c1_24 => ?_) (fun c1_24 => ?_)
  ·
   have c1_24_ := c1_24
   simp only [DZ] at c1_24
   have hil : i < l.length := by have := c1_24; omega
   obtain ⟨p_, v_, hpe, hve, hcell⟩ := hl.one (i := i) hil
   obtain rfl := strs_val hil hve
   obtain ⟨p2_, v2_, hpe2, hve2, hcell2⟩ := hm.one (i := i) (by omega)
   obtain rfl := strs_val (by omega) hve2
   subst hpe
   subst hpe2
   refine Wc.skip <| Wq.next hK_18 <| Wc.seq fun _ hK_25 => Wc.block <| Wc.seq fun _ hK_26 => Wc.quiet (by kernel_rfl) (by kernel_rfl) <| Wy.y (y_move rfl) rfl <| Wy.y (y_move rfl) rfl <| Wy.y (y_indexAddr Tryz.underlying40 sz9GrX rfl rfl (by omega) (by omega)) rfl <| Wy.l (fun wq hq => l_load one9GrX rfl (by have hl := hl.below hq; have hm := hm.below hq; exact cell_below hq (at1 hcell))) rfl <| Wy.y (y_move rfl) rfl <| Wy.y (y_move rfl) rfl <| Wy.y (y_indexAddr Tryz.underlying40 sz9GrX rfl rfl (by omega) (by omega)) rfl <| Wy.l (fun wq hq => l_load one9GrX rfl (by have hl := hl.below hq; have hm := hm.below hq; exact cell_below hq (at1 hcell2))) rfl <| Wy.y (y_neqs rfl rfl) rfl <| Wy.nil fun w_g5 hs_g5 => ?_
   have hz_g5 := hs_g5.size
   have hb := hb.trans (hs_g5.mono hb.size)
   have hl := hl_hb.below hb
   have hm := hm_hb.below hb
   refine Wq.next hK_26 <| Wc.cond rfl (fun c2_36 => ?_) (fun c2_36 => ?_)
   ·
    have c2_36_ := c2_36
    simp only [DZ] at c2_36
    refine Wc.seq fun _ hK_37 => Wc.region <| Wl.sg rfl rfl <| Wl.nil <| Wq.next hK_37 <| Wc.ret <| Wq.block_ret (Wq.then_ret (Wq.then_ret (Wq.block_ret (Wq.then_ret ?_))))
    refine ret1 rfl rfl ?_
    exact ⟨_, rfl, bool_eq (by rw [eq_comm, decide_eq_false_iff_not]; intro h; exact c2_36 (by rw [h])), hb⟩
   have c2_36_ := c2_36
   simp only [DZ] at c2_36
   refine Wc.skip <| Wq.block_normal <| Wq.next hK_25 <| Wc.region <| Wl.mv rfl rfl <| Wl.y (y_addI rfl rfl (by omega) (by omega)) rfl <| Wl.sg rfl rfl <| Wl.nil <| fun a_ ha_ => hL_16 _ _ (i + 1) (by omega) (by repeat first | exact Sub.nil | refine Sub.cons' rfl (by first | rfl | exact int_eq (by omega) | exact int_eq (by simp) | (simp; done)) ?_) ?_ a_ ha_
   exact ⟨by omega, fun j hj => (by by_cases e : j = i; (· rw [e]; exact c2_36); (· exact hall j (by omega))), hb⟩
  have c1_24_ := c1_24
  simp only [DZ] at c1_24
  refine Wc.exit <| Wq.then_exit <| Wq.then_exit <| Wq.block_exit <| Wq.next hK_13 <| Wc.seq fun _ hK_42 => Wc.region <| Wl.sg rfl rfl <| Wl.nil <| Wq.next hK_42 <| Wc.ret <| ret1 rfl rfl ?_
  exact ⟨_, rfl, bool_eq (by rw [eq_comm, decide_eq_true_eq]; exact ext_getD [] hlen fun j hj => hall j (by have := c1_24; omega)), hb⟩
theorem sameProps_r (A : Option Addr) (c : Nat) (ps : List Pr) (B : Option Addr) (e : Nat) (qs : List Pr) (w : World) (hp : Rd w 5 A ps.length (propsC ps)) (hq0 : Rd w 5 B qs.length (propsC qs)) (h1 : ps.length ≤ 1099511627776) (h2 : qs.length ≤ 1099511627776) (hpo : ∀ p ∈ ps, p.2.Ok) (hqo : ∀ p ∈ qs, p.2.Ok) :
    Ret Tryz.prog 23 [.slice A ps.length c, .slice B qs.length e] w fun v w' => v = .bool (samePs ps qs) ∧ Below w.heap.size w w' := by
  have hb := Below.refl w.heap.size w
  have hp_hb := hp
  have hq0_hb := hq0
  refine enter Tryz.func23 rfl rfl rfl <| Wc.seq fun _ hK_1 => Wc.region <| Wl.sg rfl rfl <| Wl.nil <| Wq.next hK_1 <| Wc.seq fun _ hK_3 => Wc.seq fun _ hK_4 => Wc.region <| Wl.mv rfl rfl <| Wl.y (y_lenl Tryz.underlying41 (by omega) rfl) rfl <| Wl.mv rfl rfl <| Wl.y (y_lenl Tryz.underlying41 (by omega) rfl) rfl <| Wl.y (y_neqi rfl rfl) rfl <| Wl.nil <| Wq.next hK_4 <| Wc.cond rfl (fun c0_10 => ?_) (fun c0_10 => ?_)
  ·
   have c0_10_ := c0_10
   simp only [DZ] at c0_10
   refine Wc.seq fun _ hK_11 => Wc.region <| Wl.sg rfl rfl <| Wl.nil <| Wq.next hK_11 <| Wc.ret <| Wq.then_ret <| ret1 rfl rfl ?_
   exact ⟨_, rfl, bool_eq (by unfold samePs; rw [decide_eq_false (by have := c0_10; omega)]; rfl), hb⟩
  have c0_10_ := c0_10
  simp only [DZ] at c0_10
  have hlen : ps.length = qs.length := by have := c0_10; omega
  refine Wc.skip <| Wq.next hK_3 <| Wc.seq fun _ hK_13 => Wc.seq fun _ hK_14 => Wc.region <| Wl.sg rfl rfl <| Wl.nil <| Wq.next hK_14 <| Wc.block <| Wc.loop (X := Nat) (fun i => [(0, .slice A ps.length c), (1, .slice B qs.length e), (5, .int .i64 (i : Int))]) (fun i wr => i ≤ ps.length ∧ (∀ j, j < i → samePA ps qs j = true) ∧ Below w.heap.size w wr) (fun i => ps.length - i) (0) ?_ ?_ ?_
  · exact by repeat first | exact Sub.nil | refine Sub.cons' rfl (by first | rfl | exact int_eq (by omega) | exact int_eq (by simp) | (simp; done)) ?_
  · exact ⟨by omega, fun _ h => by omega, hb⟩
  rintro i wr hI_17 _ hL_16
  replace hI_17 : i ≤ ps.length ∧ (∀ j, j < i → samePA ps qs j = true) ∧ Below w.heap.size w wr := hI_17
  obtain ⟨hi, hall, hb⟩ := hI_17
  show Wc _ _ _ _ _ [(0, .slice A ps.length c), (1, .slice B qs.length e), (5, .int .i64 (i : Int))] _
  have hp := hp_hb.below hb
  have hq0 := hq0_hb.below hb
  have hzhb_L0 := hb.size
  refine Wc.seq fun _ hK_18 => Wc.seq fun _ hK_19 => Wc.region <| Wl.mv rfl rfl <| Wl.mv rfl rfl <| Wl.y (y_lenl Tryz.underlying41 (by omega) rfl) rfl <| Wl.y (y_lssi rfl rfl) rfl <| Wl.nil <| Wq.next hK_19 <| Wc.cond rfl (fun c1_24 => ?_) (fun c1_24 => ?_)
  ·
   have c1_24_ := c1_24
   simp only [DZ] at c1_24
   have hil : i < ps.length := by have := c1_24; omega
   have hoi := ok_at hpo hil
   have hoj := ok_at hqo (i := i) (by omega)
   obtain ⟨p_, hpe, hcell⟩ := rd_elem propC (l := ps) (by omega) propC_len hp hil pr0
   obtain ⟨p2_, hpe2, hcell2⟩ := rd_elem propC (l := qs) (by omega) propC_len hq0 (i := i) (by omega) pr0
   subst hpe
   subst hpe2
   refine Wc.skip <| Wq.next hK_18 <| Wc.seq fun _ hK_25 => Wc.block <| Wc.seq fun _ hK_26 => Wc.quiet (by kernel_rfl) (by kernel_rfl) <| Wy.y (y_move rfl) rfl <| Wy.y (y_move rfl) rfl <| Wy.y (y_indexAddr Tryz.underlying41 sz105GrX rfl rfl (by omega) (by omega)) rfl <| Wy.y (y_fieldAddr (fa105_1GrX _) rfl) rfl <| Wy.l (fun wq hq => l_loadS Tryz.underlying96 (by kernel_rfl) rfl (by have hp := hp.below hq; have hq0 := hq0.below hq; exact show ∀ (j : Nat) (u : Value), (ps.getD i pr0).2.cells[j]? = some u → _ from fun j u hu => cell_below hq (by rw [addr_add_add, Int.toNat_natCast]; have h2 := hcell (1 + j) u (by rw [Nat.add_comm]; exact hu); rw [addr_add_add] at h2 ⊢; exact h2))) rfl <| Wy.y (y_move rfl) rfl <| Wy.y (y_move rfl) rfl <| Wy.y (y_indexAddr Tryz.underlying41 sz105GrX rfl rfl (by omega) (by omega)) rfl <| Wy.y (y_fieldAddr (fa105_1GrX _) rfl) rfl <| Wy.l (fun wq hq => l_loadS Tryz.underlying96 (by kernel_rfl) rfl (by have hp := hp.below hq; have hq0 := hq0.below hq; exact show ∀ (j : Nat) (u : Value), (qs.getD i pr0).2.cells[j]? = some u → _ from fun j u hu => cell_below hq (by rw [addr_add_add, Int.toNat_natCast]; have h2 := hcell2 (1 + j) u (by rw [Nat.add_comm]; exact hu); rw [addr_add_add] at h2 ⊢; exact h2))) rfl <| Wy.call txt50GrX rfl rfl (fun wq hq => by have hp := hp.below hq; have hq0 := hq0.below hq; exact RSame_r (ps.getD i pr0).2 (qs.getD i pr0).2 hoi hoj _) rfl <| Wy.y (y_assign rfl) rfl <| Wy.nil fun w_g5 hs_g5 => ?_
   have hz_g5 := hs_g5.size
   have hb := hb.trans (hs_g5.mono hb.size)
   have hp := hp_hb.below hb
   have hq0 := hq0_hb.below hb
   refine Wq.next hK_26 <| Wc.seq fun _ hK_39 => ?_
   obtain ⟨p3_, hpe3, hcell3⟩ := rd_elem propC (l := ps) (by omega) propC_len hp hil pr0
   cases hpe3
   obtain ⟨p4_, hpe4, hcell4⟩ := rd_elem propC (l := qs) (by omega) propC_len hq0 (i := i) (by omega) pr0
   cases hpe4
   refine Wc.meet (X := Bool) (fun q => [(0, .slice (some p_) ps.length c), (1, .slice (some p2_) qs.length e), (5, .int .i64 (i : Int)), (43, .bool q)]) (fun q wr => q = (!samePA ps qs i) ∧ Below w.heap.size w wr) (fun _ hM_40 => ?_) ?_
   ·
    refine Wc.quiet (by kernel_rfl) (by kernel_rfl) <| Wy.y (y_move rfl) rfl <| Wy.y (y_not rfl) rfl <| Wy.y (y_move rfl) rfl <| Wy.guardF rfl rfl rfl (fun g_44 => ?_) (fun g_44 => ?_)
    ·
     have g_44_ := g_44
     simp only [DZ] at g_44
     refine Wy.off' rfl rfl g_44_ rfl rfl <| Wy.off' rfl rfl g_44_ rfl rfl <| Wy.off' rfl rfl g_44_ rfl rfl <| Wy.off' rfl rfl g_44_ rfl rfl <| Wy.off' rfl rfl g_44_ rfl rfl <| Wy.off' rfl rfl g_44_ rfl rfl <| Wy.off' rfl rfl g_44_ rfl rfl <| Wy.off' rfl rfl g_44_ rfl rfl <| Wy.off' rfl rfl g_44_ rfl rfl <| Wy.off' rfl rfl g_44_ rfl rfl <| Wy.y (y_pickT rfl g_44_ rfl) rfl <| Wy.nil fun w_g6 hs_g6 => ?_
     have hz_g6 := hs_g6.size
     have hb := hb.trans (hs_g6.mono hb.size)
     have hp := hp_hb.below hb
     have hq0 := hq0_hb.below hb
     refine Wq.meet hM_40 (!samePA ps qs i) (by repeat first | exact Sub.nil | refine Sub.cons' rfl (by first | rfl | exact bool_eq (by unfold samePA; simp_all [bneD])) ?_) ?_
     exact ⟨rfl, hb⟩
    have g_44_ := g_44
    simp only [DZ] at g_44
    refine Wy.y (y_move rfl) rfl <| Wy.on' rfl rfl g_44_ <| Wy.y (y_move rfl) rfl <| Wy.on' rfl rfl g_44_ <| Wy.y (y_indexAddr Tryz.underlying41 sz105GrX rfl rfl (by omega) (by omega)) rfl <| Wy.on' rfl rfl g_44_ <| Wy.y (y_fieldAddr (fa105_0GrX _) rfl) rfl <| Wy.on' rfl rfl g_44_ <| Wy.l (fun wq hq => l_load one9GrX rfl (by have hp := hp.below hq; have hq0 := hq0.below hq; exact cell_below hq (by rw [Int.toNat_natCast]; exact hcell3 0 _ rfl))) rfl <| Wy.on' rfl rfl g_44_ <| Wy.y (y_move rfl) rfl <| Wy.on' rfl rfl g_44_ <| Wy.y (y_move rfl) rfl <| Wy.on' rfl rfl g_44_ <| Wy.y (y_indexAddr Tryz.underlying41 sz105GrX rfl rfl (by omega) (by omega)) rfl <| Wy.on' rfl rfl g_44_ <| Wy.y (y_fieldAddr (fa105_0GrX _) rfl) rfl <| Wy.on' rfl rfl g_44_ <| Wy.l (fun wq hq => l_load one9GrX rfl (by have hp := hp.below hq; have hq0 := hq0.below hq; exact cell_below hq (by rw [Int.toNat_natCast]; exact hcell4 0 _ rfl))) rfl <| Wy.on' rfl rfl g_44_ <| Wy.y (y_neqs rfl rfl) rfl <| Wy.y (y_pickF rfl g_44_ rfl) rfl <| Wy.nil fun w_g6 hs_g6 => ?_
    have hz_g6 := hs_g6.size
    have hb := hb.trans (hs_g6.mono hb.size)
    have hp := hp_hb.below hb
    have hq0 := hq0_hb.below hb
    refine Wq.meet hM_40 (!samePA ps qs i) (by repeat first | exact Sub.nil | refine Sub.cons' rfl (by first | rfl | exact bool_eq (by unfold samePA; simp_all [bneD])) ?_) ?_
    exact ⟨rfl, hb⟩
   rintro q wr hI_58
   replace hI_58 : q = (!samePA ps qs i) ∧ Below w.heap.size w wr := hI_58
   obtain ⟨hq3, hb⟩ := hI_58
   show Wq _ _ _ _ [(0, .slice (some p_) ps.length c), (1, .slice (some p2_) qs.length e), (5, .int .i64 (i : Int)), (43, .bool q)] _
   have hp := hp_hb.below hb
   have hq0 := hq0_hb.below hb
   have hzhb_g6 := hb.size
   refine Wq.next hK_39 <| Wc.cond rfl (fun c2_59 => ?_) (fun c2_59 => ?_)
   ·
    have c2_59_ := c2_59
    refine Wc.seq fun _ hK_60 => Wc.region <| Wl.sg rfl rfl <| Wl.nil <| Wq.next hK_60 <| Wc.ret <| Wq.block_ret (Wq.then_ret (Wq.then_ret (Wq.block_ret (Wq.then_ret ?_))))
    refine ret1 rfl rfl ?_
    exact ⟨_, rfl, bool_eq (by unfold samePs; rw [allN_f hil (by have h := c2_59_; rw [hq3] at h; simpa using h)]; simp), hb⟩
   have c2_59_ := c2_59
   refine Wc.skip <| Wq.block_normal <| Wq.next hK_25 <| Wc.region <| Wl.mv rfl rfl <| Wl.y (y_addI rfl rfl (by omega) (by omega)) rfl <| Wl.sg rfl rfl <| Wl.nil <| fun a_ ha_ => hL_16 _ _ (i + 1) (by omega) (by repeat first | exact Sub.nil | refine Sub.cons' rfl (by first | rfl | exact int_eq (by omega) | exact int_eq (by simp) | (simp; done)) ?_) ?_ a_ ha_
   exact ⟨by omega, fun j hj => (by by_cases e : j = i; (· rw [e]; have h := c2_59_; rw [hq3] at h; simpa using h); (· exact hall j (by omega))), hb⟩
  have c1_24_ := c1_24
  simp only [DZ] at c1_24
  refine Wc.exit <| Wq.then_exit <| Wq.then_exit <| Wq.block_exit <| Wq.next hK_13 <| Wc.seq fun _ hK_65 => Wc.region <| Wl.sg rfl rfl <| Wl.nil <| Wq.next hK_65 <| Wc.ret <| ret1 rfl rfl ?_
  exact ⟨_, rfl, bool_eq (by unfold samePs; rw [decide_eq_true hlen, allN_t (fun j hj => hall j (by have := c1_24; omega))]; rfl), hb⟩
end Go.Proofs.YtjmlknjbhbfneaaGreatDoor
namespace Go.Proofs.YtjmlknjbhbfneaaGreatDoor
open Go.RowKit Go.Bw Go.Bw.Fl
set_option linter.unusedVariables false
set_option linter.unusedSimpArgs false
theorem fa27_0GrY (p : Addr) (w : World) : (Instr.fieldAt 27 (.pointer (some p)) 0).run Tryz.prog w = .ok (.pointer (some (p.add 0))) w := run_fieldAt (i := 0) (sz := 0) Tryz.underlying27 rfl (by kernel_rfl) p w
theorem fa27_1GrY (p : Addr) (w : World) : (Instr.fieldAt 27 (.pointer (some p)) 1).run Tryz.prog w = .ok (.pointer (some (p.add 1))) w := run_fieldAt (i := 1) (sz := 0) Tryz.underlying27 rfl (by kernel_rfl) p w
theorem fa43_0GrY (p : Addr) (w : World) : (Instr.fieldAt 43 (.pointer (some p)) 0).run Tryz.prog w = .ok (.pointer (some (p.add 0))) w := run_fieldAt (i := 0) (sz := 0) Tryz.underlying43 rfl (by kernel_rfl) p w
theorem fa43_1GrY (p : Addr) (w : World) : (Instr.fieldAt 43 (.pointer (some p)) 1).run Tryz.prog w = .ok (.pointer (some (p.add 1))) w := run_fieldAt (i := 1) (sz := 0) Tryz.underlying43 rfl (by kernel_rfl) p w
theorem fa43_2GrY (p : Addr) (w : World) : (Instr.fieldAt 43 (.pointer (some p)) 2).run Tryz.prog w = .ok (.pointer (some (p.add 2))) w := run_fieldAt (i := 2) (sz := 0) Tryz.underlying43 rfl (by kernel_rfl) p w
theorem fa46_0GrY (p : Addr) (w : World) : (Instr.fieldAt 46 (.pointer (some p)) 0).run Tryz.prog w = .ok (.pointer (some (p.add 0))) w := run_fieldAt (i := 0) (sz := 0) Tryz.underlying46 rfl (by kernel_rfl) p w
theorem fa46_1GrY (p : Addr) (w : World) : (Instr.fieldAt 46 (.pointer (some p)) 1).run Tryz.prog w = .ok (.pointer (some (p.add 1))) w := run_fieldAt (i := 1) (sz := 0) Tryz.underlying46 rfl (by kernel_rfl) p w
theorem fa46_2GrY (p : Addr) (w : World) : (Instr.fieldAt 46 (.pointer (some p)) 2).run Tryz.prog w = .ok (.pointer (some (p.add 2))) w := run_fieldAt (i := 2) (sz := 0) Tryz.underlying46 rfl (by kernel_rfl) p w
theorem fa46_3GrY (p : Addr) (w : World) : (Instr.fieldAt 46 (.pointer (some p)) 3).run Tryz.prog w = .ok (.pointer (some (p.add 3))) w := run_fieldAt (i := 3) (sz := 0) Tryz.underlying46 rfl (by kernel_rfl) p w
theorem fa46_4GrY (p : Addr) (w : World) : (Instr.fieldAt 46 (.pointer (some p)) 4).run Tryz.prog w = .ok (.pointer (some (p.add 4))) w := run_fieldAt (i := 4) (sz := 0) Tryz.underlying46 rfl (by kernel_rfl) p w
theorem fa46_5GrY (p : Addr) (w : World) : (Instr.fieldAt 46 (.pointer (some p)) 5).run Tryz.prog w = .ok (.pointer (some (p.add 5))) w := run_fieldAt (i := 5) (sz := 0) Tryz.underlying46 rfl (by kernel_rfl) p w
theorem one24GrY : One Tryz.prog 24 := ⟨_, Tryz.underlying24, rfl, by kernel_rfl⟩
theorem one25GrY : One Tryz.prog 25 := ⟨_, Tryz.underlying25, rfl, by kernel_rfl⟩
theorem one3GrY : One Tryz.prog 3 := ⟨_, Tryz.underlying3, rfl, by kernel_rfl⟩
theorem one4GrY : One Tryz.prog 4 := ⟨_, Tryz.underlying4, rfl, by kernel_rfl⟩
theorem one40GrY : One Tryz.prog 40 := ⟨_, Tryz.underlying40, rfl, by kernel_rfl⟩
theorem one41GrY : One Tryz.prog 41 := ⟨_, Tryz.underlying41, rfl, by kernel_rfl⟩
theorem one9GrY : One Tryz.prog 9 := ⟨_, Tryz.underlying9, rfl, by kernel_rfl⟩
theorem sz43GrY : (Tryz.prog.info? 43).map (·.size) = some 3 := by kernel_rfl
theorem sz46GrY : (Tryz.prog.info? 46).map (·.size) = some 6 := by kernel_rfl
theorem txt22GrY : Txt Tryz.prog 22 := ⟨_, Tryz.func22, by kernel_rfl, rfl⟩   -- bridleway/bridlewayref06.SameTexts
theorem txt23GrY : Txt Tryz.prog 23 := ⟨_, Tryz.func23, by kernel_rfl, rfl⟩   -- bridleway/bridlewayref07.sameProps
theorem szN_lens {d : ND} {n : Nat} (h : szN d ≤ n) : d.ls.length ≤ n ∧ d.ps.length ≤ n := by
  have h1 := szL_len d.ls; have h2 := szP_len d.ps; unfold szN at h; omega
theorem szE_lens {d : ED} {n : Nat} (h : szE d ≤ n) : d.ls.length ≤ n ∧ d.ps.length ≤ n := by
  have h1 := szL_len d.ls; have h2 := szP_len d.ps; unfold szE at h; omega
theorem bneB (a b : Bool) : (a != b) = !(a == b) := rfl
theorem bneI (a b : Int) : (a != b) = !decide (a = b) := by rw [Bool.eq_iff_iff]; simp
set_option maxHeartbeats 4000000 in
theorem GSame_r (S : Nat → Prop) (A : Option Addr) (c : Nat) (B : Option Addr) (e : Nat) (g : GV) (S' : Nat → Prop) (A' : Option Addr) (c' : Nat) (B' : Option Addr) (e' : Nat) (h : GV) (w : World) (hG : GAt S w A c B e g) (hH : GAt S' w A' c' B' e' h) (hsz : szG g ≤ 1099511627776) (hsz' : szG h ≤ 1099511627776) :
    Ret Tryz.prog 10 [.agg #[.slice A g.ns.length c, .slice B g.es.length e], .agg #[.slice A' h.ns.length c', .slice B' h.es.length e']] w fun v w' => v = .bool (sameG g h) ∧ Below w.heap.size w w' := by
  have hnl := szG_nlen g
  have hel := szG_elen g
  have hnl' := szG_nlen h
  have hel' := szG_elen h
  have hb := Below.refl w.heap.size w
  have hG_hb := hG
  have hH_hb := hH
  refine enter Tryz.func10 rfl rfl rfl <| Wc.seq fun _ hK_1 => Wc.region <| Wl.boxN rfl rfl ?_
  rintro g_o0 w_o0 hg_o0 hn_o0 hs_o0
  have hz_o0 := hs_o0.size
  have hb := hb.trans (hs_o0.mono hb.size)
  have hG := hG_hb.below hb
  have hH := hH_hb.below hb
  have hB_o0 := hn_o0
  have hl_o0 := hB_o0.lt
  refine Wl.boxN rfl rfl ?_
  rintro g_o1 w_o1 hg_o1 hn_o1 hs_o1
  have hz_o1 := hs_o1.size
  have hb := hb.trans (hs_o1.mono hb.size)
  have hG := hG_hb.below hb
  have hH := hH_hb.below hb
  have hB_o0 := Blk.below hB_o0 hs_o1
  have hB_o1 := hn_o1
  have hl_o1 := hB_o1.lt
  refine Wl.sg rfl rfl <| Wl.nil <| Wq.next hK_1 <| Wc.seq fun _ hK_5 => Wc.seq fun _ hK_6 => Wc.meet (X := Bool) (fun q => [(2, .pointer (some ⟨g_o0, 0, none⟩)), (3, .pointer (some ⟨g_o1, 0, none⟩)), (28, .bool q)]) (fun q wr => q = (!(decide (g.ns.length = h.ns.length) && decide (g.es.length = h.es.length))) ∧ Below w.heap.size w wr ∧ Blk wr g_o0 27 [.slice A g.ns.length c, .slice B g.es.length e] ∧ Blk wr g_o1 27 [.slice A' h.ns.length c', .slice B' h.es.length e']) (fun _ hM_7 => ?_) ?_
  ·
   refine Wc.region <| Wl.y (y_fieldAddr (fa27_0GrY _) rfl) rfl <| Wl.l (l_load one24GrY rfl (by exact hB_o0.at (j := 0) rfl)) rfl <| Wl.y (y_lenl Tryz.underlying24 (by omega) rfl) rfl <| Wl.y (y_fieldAddr (fa27_0GrY _) rfl) rfl <| Wl.l (l_load one24GrY rfl (by exact hB_o1.at (j := 0) rfl)) rfl <| Wl.y (y_lenl Tryz.underlying24 (by omega) rfl) rfl <| Wl.y (y_neqi rfl rfl) rfl <| Wl.mv rfl rfl <| Wl.guardF rfl rfl rfl (fun g_16 => ?_) (fun g_16 => ?_)
   ·
    have g_16_ := g_16
    simp only [DZ] at g_16
    refine Wl.off' rfl rfl g_16_ rfl rfl <| Wl.off' rfl rfl g_16_ rfl rfl <| Wl.off' rfl rfl g_16_ rfl rfl <| Wl.off' rfl rfl g_16_ rfl rfl <| Wl.off' rfl rfl g_16_ rfl rfl <| Wl.off' rfl rfl g_16_ rfl rfl <| Wl.y (y_pickT rfl g_16_ rfl) rfl <| Wl.nil <| Wq.meet hM_7 (!(decide (g.ns.length = h.ns.length) && decide (g.es.length = h.es.length))) (by repeat first | exact Sub.nil | refine Sub.cons' rfl (by first | rfl | exact bool_eq (by rw [Bool.eq_iff_iff]; simp; omega)) ?_) ?_
    exact ⟨rfl, hb, hB_o0, hB_o1⟩
   have g_16_ := g_16
   simp only [DZ] at g_16
   refine Wl.y (y_fieldAddr (fa27_1GrY _) rfl) rfl <| Wl.on' rfl rfl g_16_ <| Wl.l (l_load one25GrY rfl (by exact hB_o0.at (j := 1) rfl)) rfl <| Wl.on' rfl rfl g_16_ <| Wl.y (y_lenl Tryz.underlying25 (by omega) rfl) rfl <| Wl.on' rfl rfl g_16_ <| Wl.y (y_fieldAddr (fa27_1GrY _) rfl) rfl <| Wl.on' rfl rfl g_16_ <| Wl.l (l_load one25GrY rfl (by exact hB_o1.at (j := 1) rfl)) rfl <| Wl.on' rfl rfl g_16_ <| Wl.y (y_lenl Tryz.underlying25 (by omega) rfl) rfl <| Wl.on' rfl rfl g_16_ <| Wl.y (y_neqi rfl rfl) rfl <| Wl.y (y_pickF rfl g_16_ rfl) rfl <| Wl.nil <| Wq.meet hM_7 (!(decide (g.ns.length = h.ns.length) && decide (g.es.length = h.es.length))) (by repeat first | exact Sub.nil | refine Sub.cons' rfl (by first | rfl | exact bool_eq (by rw [Bool.eq_iff_iff]; simp; omega)) ?_) ?_
   exact ⟨rfl, hb, hB_o0, hB_o1⟩
  rintro q wr hI_26
  replace hI_26 : q = (!(decide (g.ns.length = h.ns.length) && decide (g.es.length = h.es.length))) ∧ Below w.heap.size w wr ∧ Blk wr g_o0 27 [.slice A g.ns.length c, .slice B g.es.length e] ∧ Blk wr g_o1 27 [.slice A' h.ns.length c', .slice B' h.es.length e'] := hI_26
  obtain ⟨hq1, hb, hB_o0, hB_o1⟩ := hI_26
  show Wq _ _ _ _ [(2, .pointer (some ⟨g_o0, 0, none⟩)), (3, .pointer (some ⟨g_o1, 0, none⟩)), (28, .bool q)] _
  have hG := hG_hb.below hb
  have hH := hH_hb.below hb
  have hzhb_g1 := hb.size
  have hlhB_o0_g1 := hB_o0.lt
  have hlhB_o1_g1 := hB_o1.lt
  refine Wq.next hK_6 <| Wc.cond rfl (fun c0_27 => ?_) (fun c0_27 => ?_)
  ·
   have c0_27_ := c0_27
   have hno : (decide (g.ns.length = h.ns.length) && decide (g.es.length = h.es.length)) = false := by have h3 := c0_27_; rw [hq1, Bool.not_eq_true'] at h3; exact h3
   refine Wc.seq fun _ hK_28 => Wc.region <| Wl.sg rfl rfl <| Wl.nil <| Wq.next hK_28 <| Wc.ret <| Wq.then_ret <| ret1 rfl rfl ?_
   exact ⟨_, rfl, bool_eq (by unfold sameG; rw [hno]; rfl), hb⟩
  have c0_27_ := c0_27
  have hyes : (decide (g.ns.length = h.ns.length) && decide (g.es.length = h.es.length)) = true := by have h3 := c0_27_; rw [hq1, Bool.not_eq_false'] at h3; exact h3
  have hln : g.ns.length = h.ns.length := by have := hyes; simp only [Bool.and_eq_true, decide_eq_true_eq] at this; exact this.1
  have hle : g.es.length = h.es.length := by have := hyes; simp only [Bool.and_eq_true, decide_eq_true_eq] at this; exact this.2
  refine Wc.skip <| Wq.next hK_5 <| Wc.seq fun _ hK_30 => Wc.seq fun _ hK_31 => Wc.region <| Wl.sg rfl rfl <| Wl.nil <| Wq.next hK_31 <| Wc.block <| Wc.loop (X := Nat) (fun i => [(2, .pointer (some ⟨g_o0, 0, none⟩)), (3, .pointer (some ⟨g_o1, 0, none⟩)), (5, .int .i64 (i : Int))]) (fun i wr => i ≤ g.ns.length ∧ (∀ j, j < i → sameNA g h j = true) ∧ Below w.heap.size w wr ∧ Blk wr g_o0 27 [.slice A g.ns.length c, .slice B g.es.length e] ∧ Blk wr g_o1 27 [.slice A' h.ns.length c', .slice B' h.es.length e']) (fun i => g.ns.length - i) (0) ?_ ?_ ?_
  · exact by repeat first | exact Sub.nil | refine Sub.cons' rfl (by first | rfl | exact int_eq (by omega) | exact int_eq (by simp) | (simp; done)) ?_
  · exact ⟨by omega, fun _ h => by omega, hb, hB_o0, hB_o1⟩
  rintro i wr hI_34 _ hL_33
  replace hI_34 : i ≤ g.ns.length ∧ (∀ j, j < i → sameNA g h j = true) ∧ Below w.heap.size w wr ∧ Blk wr g_o0 27 [.slice A g.ns.length c, .slice B g.es.length e] ∧ Blk wr g_o1 27 [.slice A' h.ns.length c', .slice B' h.es.length e'] := hI_34
  obtain ⟨hi, hall, hb, hB_o0, hB_o1⟩ := hI_34
  show Wc _ _ _ _ _ [(2, .pointer (some ⟨g_o0, 0, none⟩)), (3, .pointer (some ⟨g_o1, 0, none⟩)), (5, .int .i64 (i : Int))] _
  have hG := hG_hb.below hb
  have hH := hH_hb.below hb
  have hzhb_L0 := hb.size
  have hlhB_o0_L0 := hB_o0.lt
  have hlhB_o1_L0 := hB_o1.lt
  refine Wc.seq fun _ hK_35 => Wc.seq fun _ hK_36 => Wc.region <| Wl.mv rfl rfl <| Wl.y (y_fieldAddr (fa27_0GrY _) rfl) rfl <| Wl.l (l_load one24GrY rfl (by exact hB_o0.at (j := 0) rfl)) rfl <| Wl.y (y_lenl Tryz.underlying24 (by omega) rfl) rfl <| Wl.y (y_lssi rfl rfl) rfl <| Wl.nil <| Wq.next hK_36 <| Wc.cond rfl (fun c1_42 => ?_) (fun c1_42 => ?_)
  ·
   have c1_42_ := c1_42
   simp only [DZ] at c1_42
   have hil : i < g.ns.length := by have := c1_42; omega
   have hil' : i < h.ns.length := by omega
   obtain ⟨p_, cs_, hpe, hcl, hcell, hQ⟩ := hG.rn i hil
   obtain ⟨A1, c1, B1, e1, rfl, hN⟩ := hQ
   obtain ⟨p2_, cs2_, hpe2, hcl2, hcell2, hQ2⟩ := hH.rn i hil'
   obtain ⟨A2, c2, B2, e2, rfl, hN2⟩ := hQ2
   have hz1 := szN_lens (Nat.le_trans (szG_n hil) hsz)
   have hz2 := szN_lens (Nat.le_trans (szG_n hil') hsz')
   have hokn := oks_at (f := fun d : ND => d.ps) hG.oks nd0 hil
   have hokm := oks_at (f := fun d : ND => d.ps) hH.oks nd0 hil'
   subst hpe
   subst hpe2
   refine Wc.skip <| Wq.next hK_35 <| Wc.seq fun _ hK_43 => Wc.block <| Wc.seq fun _ hK_44 => ?_
   have hbR := Below.refl wr.heap.size wr
   have hN_hbR := hN
   have hN2_hbR := hN2
   refine Wc.quiet (by kernel_rfl) (by kernel_rfl) <| Wy.y (y_fieldAddr (fa27_0GrY _) rfl) rfl <| Wy.l (fun wq hq => l_load one24GrY rfl (by have hG := hG.below hq; have hH := hH.below hq; have hN := hN.below hq; have hN2 := hN2.below hq; have hB_o0 := Blk.below hB_o0 hq; have hB_o1 := Blk.below hB_o1 hq; exact hB_o0.at (j := 0) rfl)) rfl <| Wy.y (y_move rfl) rfl <| Wy.y (y_indexAddr Tryz.underlying24 sz43GrY rfl rfl (by omega) (by omega)) rfl <| Wy.y (y_fieldAddr (fa43_1GrY _) rfl) rfl <| Wy.l (fun wq hq => l_load one40GrY rfl (by have hG := hG.below hq; have hH := hH.below hq; have hN := hN.below hq; have hN2 := hN2.below hq; have hB_o0 := Blk.below hB_o0 hq; have hB_o1 := Blk.below hB_o1 hq; exact cell_below (hbR.trans (hq.mono hbR.size)) (by rw [Int.toNat_natCast]; exact hcell 1 _ rfl))) rfl <| Wy.y (y_fieldAddr (fa27_0GrY _) rfl) rfl <| Wy.l (fun wq hq => l_load one24GrY rfl (by have hG := hG.below hq; have hH := hH.below hq; have hN := hN.below hq; have hN2 := hN2.below hq; have hB_o0 := Blk.below hB_o0 hq; have hB_o1 := Blk.below hB_o1 hq; exact hB_o1.at (j := 0) rfl)) rfl <| Wy.y (y_move rfl) rfl <| Wy.y (y_indexAddr Tryz.underlying24 sz43GrY rfl rfl (by omega) (by omega)) rfl <| Wy.y (y_fieldAddr (fa43_1GrY _) rfl) rfl <| Wy.l (fun wq hq => l_load one40GrY rfl (by have hG := hG.below hq; have hH := hH.below hq; have hN := hN.below hq; have hN2 := hN2.below hq; have hB_o0 := Blk.below hB_o0 hq; have hB_o1 := Blk.below hB_o1 hq; exact cell_below (hbR.trans (hq.mono hbR.size)) (by rw [Int.toNat_natCast]; exact hcell2 1 _ rfl))) rfl <| Wy.call txt22GrY rfl rfl (fun wq hq => by have hG := hG.below hq; have hH := hH.below hq; have hN := hN.below hq; have hN2 := hN2.below hq; have hB_o0 := Blk.below hB_o0 hq; have hB_o1 := Blk.below hB_o1 hq; exact SameTexts_r A1 c1 (g.ns.getD i nd0).ls A2 c2 (h.ns.getD i nd0).ls _ hN.rl hN2.rl hz1.1 hz2.1) rfl <| Wy.y (y_assign rfl) rfl <| Wy.nil fun w_g5 hs_g5 => ?_
   have hz_g5 := hs_g5.size
   have hb := hb.trans (hs_g5.mono hb.size)
   have hG := hG_hb.below hb
   have hH := hH_hb.below hb
   have hbR := hbR.trans (hs_g5.mono hbR.size)
   have hN := hN_hbR.below hbR
   have hN2 := hN2_hbR.below hbR
   have hB_o0 := Blk.below hB_o0 hs_g5
   have hB_o1 := Blk.below hB_o1 hs_g5
   refine Wq.next hK_44 <| Wc.seq fun _ hK_59 => Wc.quiet (by kernel_rfl) (by kernel_rfl) <| Wy.y (y_fieldAddr (fa27_0GrY _) rfl) rfl <| Wy.l (fun wq hq => l_load one24GrY rfl (by have hG := hG.below hq; have hH := hH.below hq; have hN := hN.below hq; have hN2 := hN2.below hq; have hB_o0 := Blk.below hB_o0 hq; have hB_o1 := Blk.below hB_o1 hq; exact hB_o0.at (j := 0) rfl)) rfl <| Wy.y (y_move rfl) rfl <| Wy.y (y_indexAddr Tryz.underlying24 sz43GrY rfl rfl (by omega) (by omega)) rfl <| Wy.y (y_fieldAddr (fa43_2GrY _) rfl) rfl <| Wy.l (fun wq hq => l_load one41GrY rfl (by have hG := hG.below hq; have hH := hH.below hq; have hN := hN.below hq; have hN2 := hN2.below hq; have hB_o0 := Blk.below hB_o0 hq; have hB_o1 := Blk.below hB_o1 hq; exact cell_below (hbR.trans (hq.mono hbR.size)) (by rw [Int.toNat_natCast]; exact hcell 2 _ rfl))) rfl <| Wy.y (y_fieldAddr (fa27_0GrY _) rfl) rfl <| Wy.l (fun wq hq => l_load one24GrY rfl (by have hG := hG.below hq; have hH := hH.below hq; have hN := hN.below hq; have hN2 := hN2.below hq; have hB_o0 := Blk.below hB_o0 hq; have hB_o1 := Blk.below hB_o1 hq; exact hB_o1.at (j := 0) rfl)) rfl <| Wy.y (y_move rfl) rfl <| Wy.y (y_indexAddr Tryz.underlying24 sz43GrY rfl rfl (by omega) (by omega)) rfl <| Wy.y (y_fieldAddr (fa43_2GrY _) rfl) rfl <| Wy.l (fun wq hq => l_load one41GrY rfl (by have hG := hG.below hq; have hH := hH.below hq; have hN := hN.below hq; have hN2 := hN2.below hq; have hB_o0 := Blk.below hB_o0 hq; have hB_o1 := Blk.below hB_o1 hq; exact cell_below (hbR.trans (hq.mono hbR.size)) (by rw [Int.toNat_natCast]; exact hcell2 2 _ rfl))) rfl <| Wy.call txt23GrY rfl rfl (fun wq hq => by have hG := hG.below hq; have hH := hH.below hq; have hN := hN.below hq; have hN2 := hN2.below hq; have hB_o0 := Blk.below hB_o0 hq; have hB_o1 := Blk.below hB_o1 hq; exact sameProps_r B1 e1 (g.ns.getD i nd0).ps B2 e2 (h.ns.getD i nd0).ps _ hN.rp hN2.rp hz1.2 hz2.2 hokn hokm) rfl <| Wy.y (y_assign rfl) rfl <| Wy.nil fun w_g6 hs_g6 => ?_
   have hz_g6 := hs_g6.size
   have hb := hb.trans (hs_g6.mono hb.size)
   have hG := hG_hb.below hb
   have hH := hH_hb.below hb
   have hbR := hbR.trans (hs_g6.mono hbR.size)
   have hN := hN_hbR.below hbR
   have hN2 := hN2_hbR.below hbR
   have hB_o0 := Blk.below hB_o0 hs_g6
   have hB_o1 := Blk.below hB_o1 hs_g6
   refine Wq.next hK_59 <| Wc.seq fun _ hK_74 => Wc.meet (X := Bool) (fun q => [(2, .pointer (some ⟨g_o0, 0, none⟩)), (3, .pointer (some ⟨g_o1, 0, none⟩)), (5, .int .i64 (i : Int)), (82, .bool q)]) (fun q wm => q = (!sameNA g h i) ∧ Below w.heap.size w wm ∧ Blk wm g_o0 27 [.slice (some p_) g.ns.length c, .slice B g.es.length e] ∧ Blk wm g_o1 27 [.slice (some p2_) h.ns.length c', .slice B' h.es.length e']) (fun _ hM_75 => ?_) ?_
   ·
    refine Wc.quiet (by kernel_rfl) (by kernel_rfl) <| Wy.y (y_move rfl) rfl <| Wy.y (y_not rfl) rfl <| Wy.y (y_move rfl) rfl <| Wy.guardF rfl rfl rfl (fun g_79 => ?_) (fun g_79 => ?_)
    ·
     have g_79_ := g_79
     simp only [DZ] at g_79
     refine Wy.off' rfl rfl g_79_ rfl rfl <| Wy.y (y_pickT rfl g_79_ rfl) rfl <| Wy.y (y_move rfl) rfl <| Wy.off' rfl rfl rfl rfl rfl <| Wy.off' rfl rfl rfl rfl rfl <| Wy.off' rfl rfl rfl rfl rfl <| Wy.off' rfl rfl rfl rfl rfl <| Wy.off' rfl rfl rfl rfl rfl <| Wy.off' rfl rfl rfl rfl rfl <| Wy.off' rfl rfl rfl rfl rfl <| Wy.off' rfl rfl rfl rfl rfl <| Wy.off' rfl rfl rfl rfl rfl <| Wy.off' rfl rfl rfl rfl rfl <| Wy.off' rfl rfl rfl rfl rfl <| Wy.off' rfl rfl rfl rfl rfl <| Wy.off' rfl rfl rfl rfl rfl <| Wy.y (y_pickT rfl rfl rfl) rfl <| Wy.nil fun w_g7 hs_g7 => ?_
     have hz_g7 := hs_g7.size
     have hb := hb.trans (hs_g7.mono hb.size)
     have hG := hG_hb.below hb
     have hH := hH_hb.below hb
     have hbR := hbR.trans (hs_g7.mono hbR.size)
     have hN := hN_hbR.below hbR
     have hN2 := hN2_hbR.below hbR
     have hB_o0 := Blk.below hB_o0 hs_g7
     have hB_o1 := Blk.below hB_o1 hs_g7
     refine Wq.meet hM_75 (!sameNA g h i) (by repeat first | exact Sub.nil | refine Sub.cons' rfl (by first | rfl | exact bool_eq (by unfold sameNA sameN; clear hcell hcell2 hG hH hall hb hB_o0 hB_o1; simp_all [bneD])) ?_) ?_
     exact ⟨rfl, hb, hB_o0, hB_o1⟩
    have g_79_ := g_79
    simp only [DZ] at g_79
    refine Wy.y (y_move rfl) rfl <| Wy.on' rfl rfl g_79_ <| Wy.y (y_not rfl) rfl <| Wy.y (y_pickF rfl g_79_ rfl) rfl <| Wy.y (y_move rfl) rfl <| Wy.guardF rfl rfl rfl (fun g_87 => ?_) (fun g_87 => ?_)
    ·
     have g_87_ := g_87
     simp only [DZ] at g_87
     refine Wy.off' rfl rfl g_87_ rfl rfl <| Wy.off' rfl rfl g_87_ rfl rfl <| Wy.off' rfl rfl g_87_ rfl rfl <| Wy.off' rfl rfl g_87_ rfl rfl <| Wy.off' rfl rfl g_87_ rfl rfl <| Wy.off' rfl rfl g_87_ rfl rfl <| Wy.off' rfl rfl g_87_ rfl rfl <| Wy.off' rfl rfl g_87_ rfl rfl <| Wy.off' rfl rfl g_87_ rfl rfl <| Wy.off' rfl rfl g_87_ rfl rfl <| Wy.off' rfl rfl g_87_ rfl rfl <| Wy.off' rfl rfl g_87_ rfl rfl <| Wy.y (y_pickT rfl g_87_ rfl) rfl <| Wy.nil fun w_g7 hs_g7 => ?_
     have hz_g7 := hs_g7.size
     have hb := hb.trans (hs_g7.mono hb.size)
     have hG := hG_hb.below hb
     have hH := hH_hb.below hb
     have hbR := hbR.trans (hs_g7.mono hbR.size)
     have hN := hN_hbR.below hbR
     have hN2 := hN2_hbR.below hbR
     have hB_o0 := Blk.below hB_o0 hs_g7
     have hB_o1 := Blk.below hB_o1 hs_g7
     refine Wq.meet hM_75 (!sameNA g h i) (by repeat first | exact Sub.nil | refine Sub.cons' rfl (by first | rfl | exact bool_eq (by unfold sameNA sameN; clear hcell hcell2 hG hH hall hb hB_o0 hB_o1; simp_all [bneD])) ?_) ?_
     exact ⟨rfl, hb, hB_o0, hB_o1⟩
    have g_87_ := g_87
    simp only [DZ] at g_87
    refine Wy.y (y_fieldAddr (fa27_0GrY _) rfl) rfl <| Wy.on' rfl rfl g_87_ <| Wy.l (fun wq hq => l_load one24GrY rfl (by have hG := hG.below hq; have hH := hH.below hq; have hN := hN.below hq; have hN2 := hN2.below hq; have hB_o0 := Blk.below hB_o0 hq; have hB_o1 := Blk.below hB_o1 hq; exact hB_o0.at (j := 0) rfl)) rfl <| Wy.on' rfl rfl g_87_ <| Wy.y (y_move rfl) rfl <| Wy.on' rfl rfl g_87_ <| Wy.y (y_indexAddr Tryz.underlying24 sz43GrY rfl rfl (by omega) (by omega)) rfl <| Wy.on' rfl rfl g_87_ <| Wy.y (y_fieldAddr (fa43_0GrY _) rfl) rfl <| Wy.on' rfl rfl g_87_ <| Wy.l (fun wq hq => l_load one9GrY rfl (by have hG := hG.below hq; have hH := hH.below hq; have hN := hN.below hq; have hN2 := hN2.below hq; have hB_o0 := Blk.below hB_o0 hq; have hB_o1 := Blk.below hB_o1 hq; exact cell_below (hbR.trans (hq.mono hbR.size)) (by rw [Int.toNat_natCast]; exact hcell 0 _ rfl))) rfl <| Wy.on' rfl rfl g_87_ <| Wy.y (y_fieldAddr (fa27_0GrY _) rfl) rfl <| Wy.on' rfl rfl g_87_ <| Wy.l (fun wq hq => l_load one24GrY rfl (by have hG := hG.below hq; have hH := hH.below hq; have hN := hN.below hq; have hN2 := hN2.below hq; have hB_o0 := Blk.below hB_o0 hq; have hB_o1 := Blk.below hB_o1 hq; exact hB_o1.at (j := 0) rfl)) rfl <| Wy.on' rfl rfl g_87_ <| Wy.y (y_move rfl) rfl <| Wy.on' rfl rfl g_87_ <| Wy.y (y_indexAddr Tryz.underlying24 sz43GrY rfl rfl (by omega) (by omega)) rfl <| Wy.on' rfl rfl g_87_ <| Wy.y (y_fieldAddr (fa43_0GrY _) rfl) rfl <| Wy.on' rfl rfl g_87_ <| Wy.l (fun wq hq => l_load one9GrY rfl (by have hG := hG.below hq; have hH := hH.below hq; have hN := hN.below hq; have hN2 := hN2.below hq; have hB_o0 := Blk.below hB_o0 hq; have hB_o1 := Blk.below hB_o1 hq; exact cell_below (hbR.trans (hq.mono hbR.size)) (by rw [Int.toNat_natCast]; exact hcell2 0 _ rfl))) rfl <| Wy.on' rfl rfl g_87_ <| Wy.y (y_neqs rfl rfl) rfl <| Wy.y (y_pickF rfl g_87_ rfl) rfl <| Wy.nil fun w_g7 hs_g7 => ?_
    have hz_g7 := hs_g7.size
    have hb := hb.trans (hs_g7.mono hb.size)
    have hG := hG_hb.below hb
    have hH := hH_hb.below hb
    have hbR := hbR.trans (hs_g7.mono hbR.size)
    have hN := hN_hbR.below hbR
    have hN2 := hN2_hbR.below hbR
    have hB_o0 := Blk.below hB_o0 hs_g7
    have hB_o1 := Blk.below hB_o1 hs_g7
    refine Wq.meet hM_75 (!sameNA g h i) (by repeat first | exact Sub.nil | refine Sub.cons' rfl (by first | rfl | exact bool_eq (by unfold sameNA sameN; clear hcell hcell2 hG hH hall hb hB_o0 hB_o1; simp_all [bneD])) ?_) ?_
    exact ⟨rfl, hb, hB_o0, hB_o1⟩
   rintro q wm hI_103
   replace hI_103 : q = (!sameNA g h i) ∧ Below w.heap.size w wm ∧ Blk wm g_o0 27 [.slice (some p_) g.ns.length c, .slice B g.es.length e] ∧ Blk wm g_o1 27 [.slice (some p2_) h.ns.length c', .slice B' h.es.length e'] := hI_103
   obtain ⟨hq, hb, hB_o0, hB_o1⟩ := hI_103
   show Wq _ _ _ _ [(2, .pointer (some ⟨g_o0, 0, none⟩)), (3, .pointer (some ⟨g_o1, 0, none⟩)), (5, .int .i64 (i : Int)), (82, .bool q)] _
   have hG := hG_hb.below hb
   have hH := hH_hb.below hb
   have hzhb_g7 := hb.size
   have hlhB_o0_g7 := hB_o0.lt
   have hlhB_o1_g7 := hB_o1.lt
   refine Wq.next hK_74 <| Wc.cond rfl (fun c2_104 => ?_) (fun c2_104 => ?_)
   ·
    have c2_104_ := c2_104
    refine Wc.seq fun _ hK_105 => Wc.region <| Wl.sg rfl rfl <| Wl.nil <| Wq.next hK_105 <| Wc.ret <| Wq.block_ret (Wq.then_ret (Wq.then_ret (Wq.block_ret (Wq.then_ret ?_))))
    refine ret1 rfl rfl ?_
    exact ⟨_, rfl, bool_eq (by unfold sameG; rw [allN_f hil (by have h := c2_104_; rw [hq] at h; simpa using h)]; simp), hb⟩
   have c2_104_ := c2_104
   refine Wc.skip <| Wq.block_normal <| Wq.next hK_43 <| Wc.region <| Wl.mv rfl rfl <| Wl.y (y_addI rfl rfl (by omega) (by omega)) rfl <| Wl.sg rfl rfl <| Wl.nil <| fun a_ ha_ => hL_33 _ _ (i + 1) (by omega) (by repeat first | exact Sub.nil | refine Sub.cons' rfl (by first | rfl | exact int_eq (by omega) | exact int_eq (by simp) | (simp; done)) ?_) ?_ a_ ha_
   exact ⟨by omega, fun j hj => (by by_cases e : j = i; (· rw [e]; have h := c2_104_; rw [hq] at h; simpa using h); (· exact hall j (by omega))), hb, hB_o0, hB_o1⟩
  have c1_42_ := c1_42
  simp only [DZ] at c1_42
  have hie : i = g.ns.length := by have := c1_42; omega
  have hna : allN g.ns.length (sameNA g h) = true := allN_t (fun j hj => hall j (by omega))
  refine Wc.exit <| Wq.then_exit <| Wq.then_exit <| Wq.block_exit <| Wq.next hK_30 <| Wc.seq fun _ hK_110 => Wc.seq fun _ hK_111 => Wc.region <| Wl.sg rfl rfl <| Wl.nil <| Wq.next hK_111 <| Wc.block <| Wc.loop (X := Nat) (fun i => [(2, .pointer (some ⟨g_o0, 0, none⟩)), (3, .pointer (some ⟨g_o1, 0, none⟩)), (8, .int .i64 (i : Int))]) (fun i wr => i ≤ g.es.length ∧ (∀ j, j < i → sameEA g h j = true) ∧ Below w.heap.size w wr ∧ Blk wr g_o0 27 [.slice A g.ns.length c, .slice B g.es.length e] ∧ Blk wr g_o1 27 [.slice A' h.ns.length c', .slice B' h.es.length e']) (fun i => g.es.length - i) (0) ?_ ?_ ?_
  · exact by repeat first | exact Sub.nil | refine Sub.cons' rfl (by first | rfl | exact int_eq (by omega) | exact int_eq (by simp) | (simp; done)) ?_
  · exact ⟨by omega, fun _ h => by omega, hb, hB_o0, hB_o1⟩
  rintro i wr hI_114 _ hL_113
  replace hI_114 : i ≤ g.es.length ∧ (∀ j, j < i → sameEA g h j = true) ∧ Below w.heap.size w wr ∧ Blk wr g_o0 27 [.slice A g.ns.length c, .slice B g.es.length e] ∧ Blk wr g_o1 27 [.slice A' h.ns.length c', .slice B' h.es.length e'] := hI_114
  obtain ⟨hi, hall, hb, hB_o0, hB_o1⟩ := hI_114
  show Wc _ _ _ _ _ [(2, .pointer (some ⟨g_o0, 0, none⟩)), (3, .pointer (some ⟨g_o1, 0, none⟩)), (8, .int .i64 (i : Int))] _
  have hG := hG_hb.below hb
  have hH := hH_hb.below hb
  have hzhb_L1 := hb.size
  have hlhB_o0_L1 := hB_o0.lt
  have hlhB_o1_L1 := hB_o1.lt
  refine Wc.seq fun _ hK_115 => Wc.seq fun _ hK_116 => Wc.region <| Wl.mv rfl rfl <| Wl.y (y_fieldAddr (fa27_1GrY _) rfl) rfl <| Wl.l (l_load one25GrY rfl (by exact hB_o0.at (j := 1) rfl)) rfl <| Wl.y (y_lenl Tryz.underlying25 (by omega) rfl) rfl <| Wl.y (y_lssi rfl rfl) rfl <| Wl.nil <| Wq.next hK_116 <| Wc.cond rfl (fun c3_122 => ?_) (fun c3_122 => ?_)
  ·
   have c3_122_ := c3_122
   simp only [DZ] at c3_122
   have hil : i < g.es.length := by have := c3_122; omega
   have hil' : i < h.es.length := by omega
   obtain ⟨p_, cs_, hpe, hcl, hcell, hQ⟩ := hG.re i hil
   obtain ⟨A1, c1, B1, e1, rfl, hN⟩ := hQ
   obtain ⟨p2_, cs2_, hpe2, hcl2, hcell2, hQ2⟩ := hH.re i hil'
   obtain ⟨A2, c2, B2, e2, rfl, hN2⟩ := hQ2
   have hz1 := szE_lens (Nat.le_trans (szG_e hil) hsz)
   have hz2 := szE_lens (Nat.le_trans (szG_e hil') hsz')
   have hokn := oks_at (f := fun d : ED => d.ps) hG.oke ed0 hil
   have hokm := oks_at (f := fun d : ED => d.ps) hH.oke ed0 hil'
   subst hpe
   subst hpe2
   refine Wc.skip <| Wq.next hK_115 <| Wc.seq fun _ hK_123 => Wc.block <| Wc.seq fun _ hK_124 => ?_
   have hbR := Below.refl wr.heap.size wr
   have hN_hbR := hN
   have hN2_hbR := hN2
   refine Wc.region <| Wl.y (y_fieldAddr (fa27_1GrY _) rfl) rfl <| Wl.l (l_load one25GrY rfl (by exact hB_o0.at (j := 1) rfl)) rfl <| Wl.mv rfl rfl <| Wl.y (y_indexAddr Tryz.underlying25 sz46GrY rfl rfl (by omega) (by omega)) rfl <| Wl.l (l_loadS Tryz.underlying46 (by kernel_rfl) rfl (by exact at5 hcell)) rfl <| Wl.allocN (z := (.agg #[(str []), (.int .i64 0), (.int .i64 0), (.bool false), (.slice none 0 0), (.slice none 0 0)])) (by kernel_rfl) rfl ?_
   rintro g_o55 w_o55 hg_o55 hn_o55 hs_o55
   have hz_o55 := hs_o55.size
   have hb := hb.trans (hs_o55.mono hb.size)
   have hG := hG_hb.below hb
   have hH := hH_hb.below hb
   have hbR := hbR.trans (hs_o55.mono hbR.size)
   have hN := hN_hbR.below hbR
   have hN2 := hN2_hbR.below hbR
   have hB_o0 := Blk.below hB_o0 hs_o55
   have hB_o1 := Blk.below hB_o1 hs_o55
   have hB_o55 := hn_o55
   have hl_o55 := hB_o55.lt
   refine Wl.storeS (by kernel_rfl) rfl rfl hB_o55 rfl rfl ?_
   rintro w_s0 hn_s0 hg_s0
   have hz_s0 := hg_s0.size
   have hb := below_blk hb hg_s0 hb.size (by omega)
   have hG := hG_hb.below hb
   have hH := hH_hb.below hb
   have hbR := below_blk hbR hg_s0 hbR.size (by omega)
   have hN := hN_hbR.below hbR
   have hN2 := hN2_hbR.below hbR
   have hB_o0 := hB_o0.over hg_s0 (by omega)
   have hB_o1 := hB_o1.over hg_s0 (by omega)
   have hB_o55 := hn_s0
   refine Wl.nil <| Wq.next hK_124 <| Wc.seq fun _ hK_131 => Wc.region <| Wl.y (y_fieldAddr (fa27_1GrY _) rfl) rfl <| Wl.l (l_load one25GrY rfl (by exact hB_o1.at (j := 1) rfl)) rfl <| Wl.mv rfl rfl <| Wl.y (y_indexAddr Tryz.underlying25 sz46GrY rfl rfl (by omega) (by omega)) rfl <| Wl.l (l_loadS Tryz.underlying46 (by kernel_rfl) rfl (by exact fun j u hu => cell_below hbR (at5 hcell2 j u hu))) rfl <| Wl.allocN (z := (.agg #[(str []), (.int .i64 0), (.int .i64 0), (.bool false), (.slice none 0 0), (.slice none 0 0)])) (by kernel_rfl) rfl ?_
   rintro g_o58 w_o58 hg_o58 hn_o58 hs_o58
   have hz_o58 := hs_o58.size
   have hb := hb.trans (hs_o58.mono hb.size)
   have hG := hG_hb.below hb
   have hH := hH_hb.below hb
   have hbR := hbR.trans (hs_o58.mono hbR.size)
   have hN := hN_hbR.below hbR
   have hN2 := hN2_hbR.below hbR
   have hB_o0 := Blk.below hB_o0 hs_o58
   have hB_o1 := Blk.below hB_o1 hs_o58
   have hB_o55 := Blk.below hB_o55 hs_o58
   have hB_o58 := hn_o58
   have hl_o58 := hB_o58.lt
   refine Wl.storeS (by kernel_rfl) rfl rfl hB_o58 rfl rfl ?_
   rintro w_s1 hn_s1 hg_s1
   have hz_s1 := hg_s1.size
   have hb := below_blk hb hg_s1 hb.size (by omega)
   have hG := hG_hb.below hb
   have hH := hH_hb.below hb
   have hbR := below_blk hbR hg_s1 hbR.size (by omega)
   have hN := hN_hbR.below hbR
   have hN2 := hN2_hbR.below hbR
   have hB_o0 := hB_o0.over hg_s1 (by omega)
   have hB_o1 := hB_o1.over hg_s1 (by omega)
   have hB_o55 := hB_o55.over hg_s1 (by omega)
   have hB_o58 := hn_s1
   refine Wl.nil <| Wq.next hK_131 <| Wc.seq fun _ hK_138 => Wc.region <| Wl.y (y_fieldAddr (fa46_4GrY _) rfl) rfl <| Wl.l (l_load one40GrY rfl (by exact hB_o55.at (j := 4) rfl)) rfl <| Wl.y (y_fieldAddr (fa46_4GrY _) rfl) rfl <| Wl.l (l_load one40GrY rfl (by exact hB_o58.at (j := 4) rfl)) rfl <| Wl.call txt22GrY rfl rfl (SameTexts_r A1 c1 (g.es.getD i ed0).ls A2 c2 (h.es.getD i ed0).ls _ hN.rl hN2.rl hz1.1 hz2.1) rfl ?_
   rintro _ w_k2 ⟨rfl, hs_k2⟩
   have hz_k2 := hs_k2.size
   have hb := hb.trans (hs_k2.mono hb.size)
   have hG := hG_hb.below hb
   have hH := hH_hb.below hb
   have hbR := hbR.trans (hs_k2.mono hbR.size)
   have hN := hN_hbR.below hbR
   have hN2 := hN2_hbR.below hbR
   have hB_o0 := Blk.below hB_o0 hs_k2
   have hB_o1 := Blk.below hB_o1 hs_k2
   have hB_o55 := Blk.below hB_o55 hs_k2
   have hB_o58 := Blk.below hB_o58 hs_k2
   refine Wl.sg rfl rfl <| Wl.nil <| Wq.next hK_138 <| Wc.seq fun _ hK_145 => Wc.region <| Wl.y (y_fieldAddr (fa46_5GrY _) rfl) rfl <| Wl.l (l_load one41GrY rfl (by exact hB_o55.at (j := 5) rfl)) rfl <| Wl.y (y_fieldAddr (fa46_5GrY _) rfl) rfl <| Wl.l (l_load one41GrY rfl (by exact hB_o58.at (j := 5) rfl)) rfl <| Wl.call txt23GrY rfl rfl (sameProps_r B1 e1 (g.es.getD i ed0).ps B2 e2 (h.es.getD i ed0).ps _ hN.rp hN2.rp hz1.2 hz2.2 hokn hokm) rfl ?_
   rintro _ w_k3 ⟨rfl, hs_k3⟩
   have hz_k3 := hs_k3.size
   have hb := hb.trans (hs_k3.mono hb.size)
   have hG := hG_hb.below hb
   have hH := hH_hb.below hb
   have hbR := hbR.trans (hs_k3.mono hbR.size)
   have hN := hN_hbR.below hbR
   have hN2 := hN2_hbR.below hbR
   have hB_o0 := Blk.below hB_o0 hs_k3
   have hB_o1 := Blk.below hB_o1 hs_k3
   have hB_o55 := Blk.below hB_o55 hs_k3
   have hB_o58 := Blk.below hB_o58 hs_k3
   refine Wl.sg rfl rfl <| Wl.nil <| Wq.next hK_145 <| Wc.seq fun _ hK_152 => Wc.meet (X := Bool) (fun q => [(2, .pointer (some ⟨g_o0, 0, none⟩)), (3, .pointer (some ⟨g_o1, 0, none⟩)), (8, .int .i64 (i : Int)), (143, .bool q)]) (fun q wm => q = (!sameEA g h i) ∧ Below w.heap.size w wm ∧ Blk wm g_o0 27 [.slice A g.ns.length c, .slice (some p_) g.es.length e] ∧ Blk wm g_o1 27 [.slice A' h.ns.length c', .slice (some p2_) h.es.length e']) (fun _ hM_153 => ?_) ?_
   ·
    refine Wc.region <| Wl.mv rfl rfl <| Wl.y (y_not rfl) rfl <| Wl.mv rfl rfl <| Wl.guardF rfl rfl rfl (fun g_157 => ?_) (fun g_157 => ?_)
    ·
     have g_157_ := g_157
     simp only [DZ] at g_157
     refine Wl.off' rfl rfl g_157_ rfl rfl <| Wl.y (y_pickT rfl g_157_ rfl) rfl <| Wl.mv rfl rfl <| Wl.off' rfl rfl rfl rfl rfl <| Wl.off' rfl rfl rfl rfl rfl <| Wl.off' rfl rfl rfl rfl rfl <| Wl.off' rfl rfl rfl rfl rfl <| Wl.off' rfl rfl rfl rfl rfl <| Wl.y (y_pickT rfl rfl rfl) rfl <| Wl.mv rfl rfl <| Wl.off' rfl rfl rfl rfl rfl <| Wl.off' rfl rfl rfl rfl rfl <| Wl.off' rfl rfl rfl rfl rfl <| Wl.off' rfl rfl rfl rfl rfl <| Wl.off' rfl rfl rfl rfl rfl <| Wl.y (y_pickT rfl rfl rfl) rfl <| Wl.mv rfl rfl <| Wl.off' rfl rfl rfl rfl rfl <| Wl.off' rfl rfl rfl rfl rfl <| Wl.off' rfl rfl rfl rfl rfl <| Wl.off' rfl rfl rfl rfl rfl <| Wl.off' rfl rfl rfl rfl rfl <| Wl.y (y_pickT rfl rfl rfl) rfl <| Wl.mv rfl rfl <| Wl.off' rfl rfl rfl rfl rfl <| Wl.off' rfl rfl rfl rfl rfl <| Wl.off' rfl rfl rfl rfl rfl <| Wl.off' rfl rfl rfl rfl rfl <| Wl.off' rfl rfl rfl rfl rfl <| Wl.y (y_pickT rfl rfl rfl) rfl <| Wl.nil <| Wq.meet hM_153 (!sameEA g h i) (by repeat first | exact Sub.nil | refine Sub.cons' rfl (by first | rfl | exact bool_eq (by unfold sameEA sameE sameN; clear hcell hcell2 hG hH hN hN2 hall hbR hb hB_o0 hB_o1 hB_o55 hB_o58; simp_all [bneD, bneI, bneB])) ?_) ?_
     exact ⟨rfl, hb, hB_o0, hB_o1⟩
    have g_157_ := g_157
    simp only [DZ] at g_157
    refine Wl.mv rfl rfl <| Wl.on' rfl rfl g_157_ <| Wl.y (y_not rfl) rfl <| Wl.y (y_pickF rfl g_157_ rfl) rfl <| Wl.mv rfl rfl <| Wl.guardF rfl rfl rfl (fun g_171 => ?_) (fun g_171 => ?_)
    ·
     have g_171_ := g_171
     simp only [DZ] at g_171
     refine Wl.off' rfl rfl g_171_ rfl rfl <| Wl.off' rfl rfl g_171_ rfl rfl <| Wl.off' rfl rfl g_171_ rfl rfl <| Wl.off' rfl rfl g_171_ rfl rfl <| Wl.y (y_pickT rfl g_171_ rfl) rfl <| Wl.mv rfl rfl <| Wl.off' rfl rfl rfl rfl rfl <| Wl.off' rfl rfl rfl rfl rfl <| Wl.off' rfl rfl rfl rfl rfl <| Wl.off' rfl rfl rfl rfl rfl <| Wl.off' rfl rfl rfl rfl rfl <| Wl.y (y_pickT rfl rfl rfl) rfl <| Wl.mv rfl rfl <| Wl.off' rfl rfl rfl rfl rfl <| Wl.off' rfl rfl rfl rfl rfl <| Wl.off' rfl rfl rfl rfl rfl <| Wl.off' rfl rfl rfl rfl rfl <| Wl.off' rfl rfl rfl rfl rfl <| Wl.y (y_pickT rfl rfl rfl) rfl <| Wl.mv rfl rfl <| Wl.off' rfl rfl rfl rfl rfl <| Wl.off' rfl rfl rfl rfl rfl <| Wl.off' rfl rfl rfl rfl rfl <| Wl.off' rfl rfl rfl rfl rfl <| Wl.off' rfl rfl rfl rfl rfl <| Wl.y (y_pickT rfl rfl rfl) rfl <| Wl.nil <| Wq.meet hM_153 (!sameEA g h i) (by repeat first | exact Sub.nil | refine Sub.cons' rfl (by first | rfl | exact bool_eq (by unfold sameEA sameE sameN; clear hcell hcell2 hG hH hN hN2 hall hbR hb hB_o0 hB_o1 hB_o55 hB_o58; simp_all [bneD, bneI, bneB])) ?_) ?_
     exact ⟨rfl, hb, hB_o0, hB_o1⟩
    have g_171_ := g_171
    simp only [DZ] at g_171
    refine Wl.y (y_fieldAddr (fa46_0GrY _) rfl) rfl <| Wl.on' rfl rfl g_171_ <| Wl.l (l_load one9GrY rfl (by exact hB_o55.at (j := 0) rfl)) rfl <| Wl.on' rfl rfl g_171_ <| Wl.y (y_fieldAddr (fa46_0GrY _) rfl) rfl <| Wl.on' rfl rfl g_171_ <| Wl.l (l_load one9GrY rfl (by exact hB_o58.at (j := 0) rfl)) rfl <| Wl.on' rfl rfl g_171_ <| Wl.y (y_neqs rfl rfl) rfl <| Wl.y (y_pickF rfl g_171_ rfl) rfl <| Wl.mv rfl rfl <| Wl.guardF rfl rfl rfl (fun g_186 => ?_) (fun g_186 => ?_)
    ·
     have g_186_ := g_186
     simp only [DZ] at g_186
     refine Wl.off' rfl rfl g_186_ rfl rfl <| Wl.off' rfl rfl g_186_ rfl rfl <| Wl.off' rfl rfl g_186_ rfl rfl <| Wl.off' rfl rfl g_186_ rfl rfl <| Wl.y (y_pickT rfl g_186_ rfl) rfl <| Wl.mv rfl rfl <| Wl.off' rfl rfl rfl rfl rfl <| Wl.off' rfl rfl rfl rfl rfl <| Wl.off' rfl rfl rfl rfl rfl <| Wl.off' rfl rfl rfl rfl rfl <| Wl.off' rfl rfl rfl rfl rfl <| Wl.y (y_pickT rfl rfl rfl) rfl <| Wl.mv rfl rfl <| Wl.off' rfl rfl rfl rfl rfl <| Wl.off' rfl rfl rfl rfl rfl <| Wl.off' rfl rfl rfl rfl rfl <| Wl.off' rfl rfl rfl rfl rfl <| Wl.off' rfl rfl rfl rfl rfl <| Wl.y (y_pickT rfl rfl rfl) rfl <| Wl.nil <| Wq.meet hM_153 (!sameEA g h i) (by repeat first | exact Sub.nil | refine Sub.cons' rfl (by first | rfl | exact bool_eq (by unfold sameEA sameE sameN; clear hcell hcell2 hG hH hN hN2 hall hbR hb hB_o0 hB_o1 hB_o55 hB_o58; simp_all [bneD, bneI, bneB])) ?_) ?_
     exact ⟨rfl, hb, hB_o0, hB_o1⟩
    have g_186_ := g_186
    simp only [DZ] at g_186
    refine Wl.y (y_fieldAddr (fa46_1GrY _) rfl) rfl <| Wl.on' rfl rfl g_186_ <| Wl.l (l_load one3GrY rfl (by exact hB_o55.at (j := 1) rfl)) rfl <| Wl.on' rfl rfl g_186_ <| Wl.y (y_fieldAddr (fa46_1GrY _) rfl) rfl <| Wl.on' rfl rfl g_186_ <| Wl.l (l_load one3GrY rfl (by exact hB_o58.at (j := 1) rfl)) rfl <| Wl.on' rfl rfl g_186_ <| Wl.y (y_neqi rfl rfl) rfl <| Wl.y (y_pickF rfl g_186_ rfl) rfl <| Wl.mv rfl rfl <| Wl.guardF rfl rfl rfl (fun g_199 => ?_) (fun g_199 => ?_)
    ·
     have g_199_ := g_199
     simp only [DZ] at g_199
     refine Wl.off' rfl rfl g_199_ rfl rfl <| Wl.off' rfl rfl g_199_ rfl rfl <| Wl.off' rfl rfl g_199_ rfl rfl <| Wl.off' rfl rfl g_199_ rfl rfl <| Wl.y (y_pickT rfl g_199_ rfl) rfl <| Wl.mv rfl rfl <| Wl.off' rfl rfl rfl rfl rfl <| Wl.off' rfl rfl rfl rfl rfl <| Wl.off' rfl rfl rfl rfl rfl <| Wl.off' rfl rfl rfl rfl rfl <| Wl.off' rfl rfl rfl rfl rfl <| Wl.y (y_pickT rfl rfl rfl) rfl <| Wl.nil <| Wq.meet hM_153 (!sameEA g h i) (by repeat first | exact Sub.nil | refine Sub.cons' rfl (by first | rfl | exact bool_eq (by unfold sameEA sameE sameN; clear hcell hcell2 hG hH hN hN2 hall hbR hb hB_o0 hB_o1 hB_o55 hB_o58; simp_all [bneD, bneI, bneB])) ?_) ?_
     exact ⟨rfl, hb, hB_o0, hB_o1⟩
    have g_199_ := g_199
    simp only [DZ] at g_199
    refine Wl.y (y_fieldAddr (fa46_2GrY _) rfl) rfl <| Wl.on' rfl rfl g_199_ <| Wl.l (l_load one3GrY rfl (by exact hB_o55.at (j := 2) rfl)) rfl <| Wl.on' rfl rfl g_199_ <| Wl.y (y_fieldAddr (fa46_2GrY _) rfl) rfl <| Wl.on' rfl rfl g_199_ <| Wl.l (l_load one3GrY rfl (by exact hB_o58.at (j := 2) rfl)) rfl <| Wl.on' rfl rfl g_199_ <| Wl.y (y_neqi rfl rfl) rfl <| Wl.y (y_pickF rfl g_199_ rfl) rfl <| Wl.mv rfl rfl <| Wl.guardF rfl rfl rfl (fun g_210 => ?_) (fun g_210 => ?_)
    ·
     have g_210_ := g_210
     simp only [DZ] at g_210
     refine Wl.off' rfl rfl g_210_ rfl rfl <| Wl.off' rfl rfl g_210_ rfl rfl <| Wl.off' rfl rfl g_210_ rfl rfl <| Wl.off' rfl rfl g_210_ rfl rfl <| Wl.y (y_pickT rfl g_210_ rfl) rfl <| Wl.nil <| Wq.meet hM_153 (!sameEA g h i) (by repeat first | exact Sub.nil | refine Sub.cons' rfl (by first | rfl | exact bool_eq (by unfold sameEA sameE sameN; clear hcell hcell2 hG hH hN hN2 hall hbR hb hB_o0 hB_o1 hB_o55 hB_o58; simp_all [bneD, bneI, bneB])) ?_) ?_
     exact ⟨rfl, hb, hB_o0, hB_o1⟩
    have g_210_ := g_210
    simp only [DZ] at g_210
    refine Wl.y (y_fieldAddr (fa46_3GrY _) rfl) rfl <| Wl.on' rfl rfl g_210_ <| Wl.l (l_load one4GrY rfl (by exact hB_o55.at (j := 3) rfl)) rfl <| Wl.on' rfl rfl g_210_ <| Wl.y (y_fieldAddr (fa46_3GrY _) rfl) rfl <| Wl.on' rfl rfl g_210_ <| Wl.l (l_load one4GrY rfl (by exact hB_o58.at (j := 3) rfl)) rfl <| Wl.on' rfl rfl g_210_ <| Wl.y (y_neqb Tryz.underlying4 rfl rfl) rfl <| Wl.y (y_pickF rfl g_210_ rfl) rfl <| Wl.nil <| Wq.meet hM_153 (!sameEA g h i) (by repeat first | exact Sub.nil | refine Sub.cons' rfl (by first | rfl | exact bool_eq (by unfold sameEA sameE sameN; clear hcell hcell2 hG hH hN hN2 hall hbR hb hB_o0 hB_o1 hB_o55 hB_o58; simp_all [bneD, bneI, bneB])) ?_) ?_
    exact ⟨rfl, hb, hB_o0, hB_o1⟩
   rintro q wm hI_218
   replace hI_218 : q = (!sameEA g h i) ∧ Below w.heap.size w wm ∧ Blk wm g_o0 27 [.slice A g.ns.length c, .slice (some p_) g.es.length e] ∧ Blk wm g_o1 27 [.slice A' h.ns.length c', .slice (some p2_) h.es.length e'] := hI_218
   obtain ⟨hq, hb, hB_o0, hB_o1⟩ := hI_218
   show Wq _ _ _ _ [(2, .pointer (some ⟨g_o0, 0, none⟩)), (3, .pointer (some ⟨g_o1, 0, none⟩)), (8, .int .i64 (i : Int)), (143, .bool q)] _
   have hG := hG_hb.below hb
   have hH := hH_hb.below hb
   have hzhb_g16 := hb.size
   have hlhB_o0_g16 := hB_o0.lt
   have hlhB_o1_g16 := hB_o1.lt
   refine Wq.next hK_152 <| Wc.cond rfl (fun c4_219 => ?_) (fun c4_219 => ?_)
   ·
    have c4_219_ := c4_219
    refine Wc.seq fun _ hK_220 => Wc.region <| Wl.sg rfl rfl <| Wl.nil <| Wq.next hK_220 <| Wc.ret <| Wq.block_ret (Wq.then_ret (Wq.then_ret (Wq.block_ret (Wq.then_ret ?_))))
    refine ret1 rfl rfl ?_
    exact ⟨_, rfl, bool_eq (by unfold sameG; rw [allN_f hil (by have h := c4_219_; rw [hq] at h; simpa using h)]; simp), hb⟩
   have c4_219_ := c4_219
   refine Wc.skip <| Wq.block_normal <| Wq.next hK_123 <| Wc.region <| Wl.mv rfl rfl <| Wl.y (y_addI rfl rfl (by omega) (by omega)) rfl <| Wl.sg rfl rfl <| Wl.nil <| fun a_ ha_ => hL_113 _ _ (i + 1) (by omega) (by repeat first | exact Sub.nil | refine Sub.cons' rfl (by first | rfl | exact int_eq (by omega) | exact int_eq (by simp) | (simp; done)) ?_) ?_ a_ ha_
   exact ⟨by omega, fun j hj => (by by_cases e : j = i; (· rw [e]; have h := c4_219_; rw [hq] at h; simpa using h); (· exact hall j (by omega))), hb, hB_o0, hB_o1⟩
  have c3_122_ := c3_122
  simp only [DZ] at c3_122
  refine Wc.exit <| Wq.then_exit <| Wq.then_exit <| Wq.block_exit <| Wq.next hK_110 <| Wc.seq fun _ hK_225 => Wc.region <| Wl.sg rfl rfl <| Wl.nil <| Wq.next hK_225 <| Wc.ret <| ret1 rfl rfl ?_
  exact ⟨_, rfl, bool_eq (by unfold sameG; rw [hyes, hna, allN_t (fun j hj => hall j (by have := c3_122; omega))]; rfl), hb⟩
end Go.Proofs.YtjmlknjbhbfneaaGreatDoor
namespace Go.Proofs.YtjmlknjbhbfneaaGreatDoor
open Go.RowKit Go.Bw Go.Bw.Fl
set_option linter.unusedVariables false
set_option linter.unusedSimpArgs false

/-! at most thirty -/
def fewG (g : GV) : GV := ⟨g.ns.take 30, g.es.take 30⟩
theorem getD_take {α : Type} (z : α) {l : List α} {i k : Nat} (hi : i < (l.take k).length) : (l.take k).getD i z = l.getD i z := by
  have h2 : i < l.length := by have : (l.take k).length ≤ l.length := List.length_take_le' _ _; omega
  rw [getD_at z hi, getD_at z h2, List.getElem_take]
theorem GAt.few {S : Nat → Prop} {w : World} {A B : Option Addr} {c e : Nat} {g : GV} (h : GAt S w A c B e g) : GAt S w A c B e (fewG g) := by
  have hn : (g.ns.take 30).length ≤ g.ns.length := List.length_take_le' _ _
  have he : (g.es.take 30).length ≤ g.es.length := List.length_take_le' _ _
  refine ⟨Nat.le_trans hn h.nc, Nat.le_trans he h.ec, fun i hi => ?_, fun i hi => ?_, fun d hd => h.oks d (List.mem_of_mem_take hd), fun d hd => h.oke d (List.mem_of_mem_take hd)⟩
  · obtain ⟨p, cs, h1, h2, h3, h4⟩ := h.rn i (Nat.lt_of_lt_of_le hi hn)
    exact ⟨p, cs, h1, h2, h3, by show NodeC S w cs ((g.ns.take 30).getD i nd0); rw [getD_take nd0 hi]; exact h4⟩
  · obtain ⟨p, cs, h1, h2, h3, h4⟩ := h.re i (Nat.lt_of_lt_of_le hi he)
    exact ⟨p, cs, h1, h2, h3, by show EdgeC S w cs ((g.es.take 30).getD i ed0); rw [getD_take ed0 hi]; exact h4⟩
theorem take_sum_le (f : ND → Nat) (l : List ND) (k : Nat) : ((l.take k).map f).sum ≤ (l.map f).sum := by
  have := congrArg (fun l => (List.map f l).sum) (List.take_append_drop k l)
  simp only [List.map_append, List.sum_append] at this; omega
theorem take_sum_le2 (f : ED → Nat) (l : List ED) (k : Nat) : ((l.take k).map f).sum ≤ (l.map f).sum := by
  have := congrArg (fun l => (List.map f l).sum) (List.take_append_drop k l)
  simp only [List.map_append, List.sum_append] at this; omega
theorem fewG_sz (g : GV) : szG (fewG g) ≤ szG g := by
  have h1 := take_sum_le szN g.ns 30
  have h2 := take_sum_le2 szE g.es 30
  unfold szG fewG; show ((g.ns.take 30).map szN).sum + ((g.es.take 30).map szE).sum ≤ _; omega
theorem min_take {α : Type} (l : List α) : (min (l.length : Int) 30).toNat = (l.take 30).length := by rw [List.length_take]; omega
end Go.Proofs.YtjmlknjbhbfneaaGreatDoor
