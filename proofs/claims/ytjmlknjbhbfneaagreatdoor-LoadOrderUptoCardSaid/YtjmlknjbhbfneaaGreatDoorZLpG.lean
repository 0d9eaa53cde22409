/- LoadOrder, by the calculus. -/
import Derived.Test.YtjmlknjbhbfneaaGreatDoorZLpB
import Derived.Test.YtjmlknjbhbfneaaGreatDoorZLsI
import Derived.Test.YtjmlknjbhbfneaaGreatDoorZLU
namespace Go.Proofs.YtjmlknjbhbfneaaGreatDoor
open Go.RowKit Go.Bw Go.Bw.Fl
set_option linter.unusedVariables false
set_option linter.unusedSimpArgs false
theorem fa27_0LpG (p : Addr) (w : World) : (Instr.fieldAt 27 (.pointer (some p)) 0).run Tryz.prog w = .ok (.pointer (some (p.add 0))) w := run_fieldAt (i := 0) (sz := 0) Tryz.underlying27 rfl (by kernel_rfl) p w
theorem fa27_1LpG (p : Addr) (w : World) : (Instr.fieldAt 27 (.pointer (some p)) 1).run Tryz.prog w = .ok (.pointer (some (p.add 1))) w := run_fieldAt (i := 1) (sz := 0) Tryz.underlying27 rfl (by kernel_rfl) p w
theorem fa43_0LpG (p : Addr) (w : World) : (Instr.fieldAt 43 (.pointer (some p)) 0).run Tryz.prog w = .ok (.pointer (some (p.add 0))) w := run_fieldAt (i := 0) (sz := 0) Tryz.underlying43 rfl (by kernel_rfl) p w
theorem fa43_1LpG (p : Addr) (w : World) : (Instr.fieldAt 43 (.pointer (some p)) 1).run Tryz.prog w = .ok (.pointer (some (p.add 1))) w := run_fieldAt (i := 1) (sz := 0) Tryz.underlying43 rfl (by kernel_rfl) p w
theorem fa43_2LpG (p : Addr) (w : World) : (Instr.fieldAt 43 (.pointer (some p)) 2).run Tryz.prog w = .ok (.pointer (some (p.add 2))) w := run_fieldAt (i := 2) (sz := 0) Tryz.underlying43 rfl (by kernel_rfl) p w
theorem one24LpG : One Tryz.prog 24 := ⟨_, Tryz.underlying24, rfl, by kernel_rfl⟩
theorem one25LpG : One Tryz.prog 25 := ⟨_, Tryz.underlying25, rfl, by kernel_rfl⟩
theorem one40LpG : One Tryz.prog 40 := ⟨_, Tryz.underlying40, rfl, by kernel_rfl⟩
theorem one41LpG : One Tryz.prog 41 := ⟨_, Tryz.underlying41, rfl, by kernel_rfl⟩
theorem one9LpG : One Tryz.prog 9 := ⟨_, Tryz.underlying9, rfl, by kernel_rfl⟩
theorem sz105LpG : (Tryz.prog.info? 105).map (·.size) = some 5 := by kernel_rfl
theorem sz43LpG : (Tryz.prog.info? 43).map (·.size) = some 3 := by kernel_rfl
theorem sz9LpG : (Tryz.prog.info? 9).map (·.size) = some 1 := by kernel_rfl
theorem txt10LpG : Txt Tryz.prog 10 := ⟨_, Tryz.func10, by kernel_rfl, rfl⟩   -- bridleway/bridlewayref07.Same
theorem txt11LpG : Txt Tryz.prog 11 := ⟨_, Tryz.func11, by kernel_rfl, rfl⟩   -- bridleway/load.Print
theorem txt13LpG : Txt Tryz.prog 13 := ⟨_, Tryz.func13, by kernel_rfl, rfl⟩   -- bridleway/bridlewaylaw08.few
theorem txt7LpG : Txt Tryz.prog 7 := ⟨_, Tryz.func7, by kernel_rfl, rfl⟩   -- bridleway/bridlewaylaw08.shown
theorem txt8LpG : Txt Tryz.prog 8 := ⟨_, Tryz.func8, by kernel_rfl, rfl⟩   -- bridleway/load.Parse
theorem at3 {w : World} {p : Addr} {k j : Nat} {v : Value} (h : w.cell? ((p.add (k * 3)).add j) = some v) : w.cell? ((p.add ((k : Int).toNat * 3)).add j) = some v := h
/-- a graph of one node in a block -/
theorem gat_one {w : World} {G : Nat} {n : List UInt8} {ps : List Pr} {B : Option Addr} {e : Nat} (hB : Blk w G 43 [str n, .slice none 0 0, .slice B ps.length e]) (hR : Rd w 5 B ps.length (propsC ps)) (he : ps.length ≤ e) (ho : ∀ p ∈ ps, p.2.Ok) : GAt (fun _ => True) w (some ⟨G, 0, none⟩) 1 none 0 (onlyN n ps) := by
  refine ⟨Nat.le_refl _, Nat.le_refl _, fun i hi => ?_, fun i hi => absurd hi (by simp [onlyN]), fun d hd => ?_, fun d hd => by simp [onlyN] at hd⟩
  · have hi0 : i = 0 := by have : i < 1 := hi; omega
    subst hi0
    exact ⟨_, _, rfl, rfl, fun j u hu => by rw [addr_add_add, Nat.zero_mul, Nat.zero_add]; exact hB.at hu, ⟨none, 0, B, e, rfl, Nat.le_refl _, he, Rd.nil _ _ _, hR, fun _ _ => trivial, fun _ _ => trivial⟩⟩
  · simp [onlyN] at hd; rw [hd]; exact ho
theorem rd_piece {w : World} {A : Option Addr} {n c k : Nat} {ps : List Pr} (h : Rd w 5 A n (propsC ps)) (hn : ps.length = n) (hc : n ≤ c) (hk : k < n) : Rd w 5 (if c = k then A else A.map (·.add (k * 5))) 1 (propsC [ps.getD k pr0]) := by
  subst hn
  have h1 := (h.take (m := k + 1) (by omega)).drop (m := k) (c := c) (by omega) (by omega)
  have e : ((propsC ps).take ((k + 1) * 5)).drop (k * 5) = propsC [ps.getD k pr0] := by
    rw [propsC_take, propsC_drop, List.take_succ_eq_append_getElem hk, getD_at pr0 hk]
    congr 1
    rw [List.drop_append_of_le_length (by rw [List.length_take]; omega), List.drop_of_length_le (by rw [List.length_take]; omega)]; rfl
  rw [e, show k + 1 - k = 1 by omega] at h1; exact h1
theorem rev_len {d : ND} (hok : ∀ p ∈ d.ps, p.2.Ok) (hr : ∀ p ∈ d.ps, rightV p.2 = true) : (nodeK 0 (revN d) ++ [10]).length ≤ 66 * szN d + 20 := by
  have h1 := labs_len d.ls d.ls.length
  have h2 := prsr_len hok hr d.ps.length
  rw [List.take_of_length_le (by rw [List.length_reverse]; exact Nat.le_refl _)] at h1 h2
  rw [node_rev]
  simp only [List.length_append, List.length_cons, List.length_nil]
  have hb : (nodeK 0 ⟨d.n, [], []⟩).length = d.n.length + 5 := by unfold nodeK restK; simp [wNode]
  unfold szN
  omega
theorem out_len {ns : List ND} (hok : ∀ d ∈ ns, ∀ p ∈ d.ps, p.2.Ok) (hr : ∀ d ∈ ns, ∀ p ∈ d.ps, rightV p.2 = true) : (feeds (ns.map fun d => nodeK 0 (revN d))).length ≤ 66 * (ns.map szN).sum + 20 * ns.length := by
  have h := flat_bound (fun d => nodeK 0 (revN d) ++ [10]) szN 66 20 ns (fun d hd => rev_len (hok d hd) (hr d hd))
  unfold feeds
  rw [List.flatMap_map]; exact h
theorem cut_one (bs : List UInt8) : List.take ((max (0 : Int) ((((bs ++ [10]).length : Nat) : Int) - 1)).toNat) (bs ++ [10]) = bs := by
  have h : (max (0 : Int) ((((bs ++ [10]).length : Nat) : Int) - 1)).toNat = bs.length := by rw [List.length_append]; simp only [List.length_cons, List.length_nil]; omega
  rw [h, List.take_left]
theorem cut_mid (bs x : List UInt8) : List.drop (((((bs ++ [10]).length : Nat) : Int) - 1).toNat) (List.take (((((bs ++ (x ++ [10])).length : Nat) : Int) - 1).toNat) (bs ++ (x ++ [10]))) = x := by
  have h1 : ((((bs ++ [10]).length : Nat) : Int) - 1).toNat = bs.length := by rw [List.length_append]; simp only [List.length_cons, List.length_nil]; omega
  have h2 : ((((bs ++ (x ++ [10])).length : Nat) : Int) - 1).toNat = (bs ++ x).length := by simp only [List.length_append, List.length_cons, List.length_nil]; omega
  rw [h1, h2, ← List.append_assoc, List.take_left, List.drop_left]
def noE (g : GV) : GV := ⟨g.ns, []⟩
theorem GAt.noE {S : Nat → Prop} {w : World} {A B : Option Addr} {c e : Nat} {g : GV} (h : GAt S w A c B e g) : GAt S w A c none 0 (noE g) :=
  ⟨h.nc, Nat.le_refl _, h.rn, fun i hi => absurd hi (by simp [Go.Proofs.YtjmlknjbhbfneaaGreatDoor.noE]), h.oks, fun d hd => by simp [Go.Proofs.YtjmlknjbhbfneaaGreatDoor.noE] at hd⟩
theorem noE_sz (g : GV) : szG (noE g) ≤ szG g := by unfold szG noE; simp
set_option maxHeartbeats 1000000 in
theorem LoadOrder_r (S : Nat → Prop) (A : Option Addr) (c : Nat) (B : Option Addr) (e : Nat) (g : GV) (w : World) (hG0 : GAt S w A c B e g) (hsz0 : szG g ≤ 1048576) (hL : Lb w) :
    Ret Tryz.prog 6 [.agg #[.slice A g.ns.length c, .slice B g.es.length e]] w fun v w' => v = .bool true ∧ Below w.heap.size w w' := by
  have hnl := szG_nlen g
  have hel := szG_elen g
  have hGf := hG0.few
  have hG := hGf.noE
  obtain ⟨X, hX⟩ : ∃ X, X = noE (fewG g) := ⟨_, rfl⟩
  rw [← hX] at hG
  have hsz : szG X ≤ 1048576 := by rw [hX]; exact Nat.le_trans (noE_sz _) (Nat.le_trans (fewG_sz g) hsz0)
  have hXe : X.es = [] := by rw [hX]; rfl
  have hXn : X.ns = (fewG g).ns := by rw [hX]; rfl
  have hX30 : X.ns.length ≤ 30 := by rw [hXn]; unfold fewG; rw [List.length_take]; omega
  have hb := Below.refl w.heap.size w
  have hG_hb := hG
  have hL_hb := hL
  refine enter Tryz.func6 rfl rfl rfl <| Wc.seq fun _ hK_1 => Wc.region <| Wl.boxN rfl rfl ?_
  rintro g_o0 w_o0 hg_o0 hn_o0 hs_o0
  have hz_o0 := hs_o0.size
  have hb := hb.trans (hs_o0.mono hb.size)
  have hG := hG_hb.below hb
  have hL := hL_hb.below hb
  have hB_o0 := hn_o0
  have hl_o0 := hB_o0.lt
  refine Wl.sg rfl rfl <| Wl.nil <| Wq.next hK_1 <| Wc.seq fun _ hK_4 => Wc.region <| Wl.call txt7LpG rfl rfl (shown8_r _ hL) rfl ?_
  rintro _ w_k0 ⟨rfl, hs_k0⟩
  have hz_k0 := hs_k0.size
  have hb := hb.trans (hs_k0.mono hb.size)
  have hG := hG_hb.below hb
  have hL := hL_hb.below hb
  have hB_o0 := Blk.below hB_o0 hs_k0
  refine Wl.sg rfl rfl <| Wl.nil <| Wq.next hK_4 <| Wc.seq fun _ hK_7 => Wc.region <| Wl.l (l_loadS Tryz.underlying27 (by kernel_rfl) rfl (by exact fun j u hu => hB_o0.at hu)) rfl <| Wl.call txt13LpG rfl rfl (few8_r A c B e g _ hG0.nc hG0.ec (by omega) (by omega)) rfl ?_
  rintro _ w_k1 ⟨rfl, hs_k1⟩
  have hz_k1 := hs_k1.size
  have hb := hb.trans (hs_k1.mono hb.size)
  have hG := hG_hb.below hb
  have hL := hL_hb.below hb
  have hB_o0 := Blk.below hB_o0 hs_k1
  refine Wl.storeS (by kernel_rfl) rfl rfl hB_o0 rfl rfl ?_
  rintro w_s0 hn_s0 hg_s0
  have hz_s0 := hg_s0.size
  have hb := below_blk hb hg_s0 hb.size (by omega)
  have hG := hG_hb.below hb
  have hL := hL_hb.below hb
  have hB_o0 := hn_s0
  refine Wl.nil <| Wq.next hK_7 <| Wc.seq fun _ hK_10 => Wc.region <| Wl.y (y_fieldAddr (fa27_1LpG _) rfl) rfl <| Wl.storeB one25LpG rfl rfl rfl hB_o0 (by simp) ?_
  rintro w_s1 hn_s1 hg_s1
  have hz_s1 := hg_s1.size
  have hb := below_blk hb hg_s1 hb.size (by omega)
  have hG := hG_hb.below hb
  have hL := hL_hb.below hb
  have hB_o0 := hn_s1
  refine Wl.nil <| Wq.next hK_10 <| Wc.seq fun _ hK_12 => Wc.region ?_
  have hB_o0 : Blk w_s1 g_o0 27 [.slice A X.ns.length c, .slice none X.es.length 0] := by rw [hXn, hXe]; exact hB_o0
  refine Wl.l (l_loadS Tryz.underlying27 (by kernel_rfl) rfl (by exact fun j u hu => hB_o0.at hu)) rfl <| Wl.call txt11LpG rfl rfl (GPrint_r S A c none 0 X _ hG (by omega) hL) rfl ?_
  rintro _ w_k2 ⟨rfl, hs_k2⟩
  have hz_k2 := hs_k2.size
  have hb := hb.trans (hs_k2.mono hb.size)
  have hG := hG_hb.below hb
  have hL := hL_hb.below hb
  have hB_o0 := Blk.below hB_o0 hs_k2
  refine Wl.mv rfl rfl <| Wl.y (y_extract rfl rfl) rfl <| Wl.y (y_extract rfl rfl) rfl <| Wl.sg rfl rfl <| Wl.sg rfl rfl <| Wl.nil <| Wq.next hK_12 <| Wc.seq fun _ hK_20 => Wc.seq fun _ hK_21 => Wc.region <| Wl.mv rfl rfl <| Wl.y (y_neqi rfl rfl) rfl <| Wl.nil <| Wq.next hK_21 <| Wc.cond rfl (fun c0_24 => ?_) (fun c0_24 => ?_)
  ·
   have c0_24_ := c0_24
   simp only [DZ] at c0_24
   refine Wc.seq fun _ hK_25 => Wc.region <| Wl.mv rfl rfl <| Wl.sg rfl rfl <| Wl.nil <| Wq.next hK_25 <| Wc.ret <| Wq.then_ret <| ret1 rfl rfl ?_
   exact ⟨_, rfl, rfl, hb⟩
  have c0_24_ := c0_24
  simp only [DZ] at c0_24
  have h0 : rightG X = 0 := by simpa using c0_24
  have hrg := rg_of h0 hG.oks hG.oke
  rw [if_pos h0]
  refine Wc.skip <| Wq.next hK_20 <| Wc.seq fun _ hK_28 => Wc.region <| Wl.sg rfl rfl <| Wl.nil <| Wq.next hK_28 <| Wc.seq fun _ hK_30 => Wc.seq fun _ hK_31 => Wc.region <| Wl.sg rfl rfl <| Wl.nil <| Wq.next hK_31 <| Wc.block <| Wc.loop (X := Nat) (fun i => [(1, .pointer (some ⟨g_o0, 0, none⟩)), (3, .bool true), (4, str (printG X)), (6, str (feeds ((X.ns.take i).map fun d => nodeK 0 (revN d)))), (7, .int .i64 (i : Int))]) (fun i wr => i ≤ X.ns.length ∧ Below w.heap.size w wr ∧ Blk wr g_o0 27 [.slice A X.ns.length c, .slice none X.es.length 0]) (fun i => X.ns.length - i) (0) ?_ ?_ ?_
  · exact by repeat first | exact Sub.nil | refine Sub.cons' rfl (by first | rfl | exact int_eq (by omega) | exact str_eq (by rw [List.take_succ_eq_append_getElem hil, List.map_append, feeds_app, hd, getD_at nd0 hil]; simp [feeds])) ?_
  · exact ⟨Nat.zero_le _, hb, hB_o0⟩
  rintro i wr hI_34 _ hL_33
  replace hI_34 : i ≤ X.ns.length ∧ Below w.heap.size w wr ∧ Blk wr g_o0 27 [.slice A X.ns.length c, .slice none X.es.length 0] := hI_34
  obtain ⟨hi, hb, hB_o0⟩ := hI_34
  show Wc _ _ _ _ _ [(1, .pointer (some ⟨g_o0, 0, none⟩)), (3, .bool true), (4, str (printG X)), (6, str (feeds ((X.ns.take i).map fun d => nodeK 0 (revN d)))), (7, .int .i64 (i : Int))] _
  have hG := hG_hb.below hb
  have hL := hL_hb.below hb
  have hzhb_L0 := hb.size
  have hlhB_o0_L0 := hB_o0.lt
  refine Wc.seq fun _ hK_35 => Wc.seq fun _ hK_36 => Wc.region <| Wl.mv rfl rfl <| Wl.y (y_fieldAddr (fa27_0LpG _) rfl) rfl <| Wl.l (l_load one24LpG rfl (by exact hB_o0.at (j := 0) rfl)) rfl <| Wl.y (y_lenl Tryz.underlying24 (by omega) rfl) rfl <| Wl.y (y_lssi rfl rfl) rfl <| Wl.nil <| Wq.next hK_36 <| Wc.cond rfl (fun c1_42 => ?_) (fun c1_42 => ?_)
  ·
   have c1_42_ := c1_42
   simp only [DZ] at c1_42
   have hil : i < X.ns.length := by have := c1_42; omega
   obtain ⟨p_, cs_, hpe, hcl_, hcell, Al, cl, Ap, cp, hcs, hN⟩ := hG_hb.rn i hil
   obtain ⟨d, hd⟩ : ∃ d, d = X.ns.getD i nd0 := ⟨_, rfl⟩
   rw [← hd] at hcs hN
   subst hpe
   subst hcs
   have hel_ : ElOk d.n d.ls d.ps := by rw [hd, getD_at nd0 hil]; exact hrg.ns _ (List.getElem_mem hil)
   have hok : ∀ p ∈ d.ps, p.2.Ok := fun p hp => (hel_.po p hp).2.1
   have hri : ∀ p ∈ d.ps, rightV p.2 = true := fun p hp => (hel_.po p hp).2.2
   have hsd : szN d ≤ 1048576 := by have := szG_n hil; rw [← hd] at this; omega
   have hsd2 : d.n.length + szL d.ls + szP d.ps + 1 ≤ 1048576 := hsd
   have hlsl := szL_len d.ls
   have hpsl := szP_len d.ps
   have hrg1 := only_rg (ps := []) ⟨hel_.nw, (fun l hl => by cases hl), .nil, (fun p hp => by cases hp), .nil, (fun p hp => by cases hp)⟩
   have h01 := hrg1.right
   have hp1 := print_only d.n []
   obtain ⟨bs, hbs⟩ : ∃ bs, bs = nodeK 0 ⟨d.n, [], []⟩ := ⟨_, rfl⟩
   have hbl : bs.length ≤ d.n.length + 6 := by rw [hbs]; unfold nodeK restK; simp [wNode]
   rw [← hbs] at hp1
   refine Wc.skip <| Wq.next hK_35 <| Wc.seq fun _ hK_43 => Wc.block <| Wc.seq fun _ hK_44 => Wc.region <| Wl.y (y_fieldAddr (fa27_0LpG _) rfl) rfl <| Wl.l (l_load one24LpG rfl (by exact hB_o0.at (j := 0) rfl)) rfl <| Wl.mv rfl rfl <| Wl.y (y_indexAddr Tryz.underlying24 sz43LpG rfl rfl (by omega) (by omega)) rfl <| Wl.l (l_loadS Tryz.underlying43 (by kernel_rfl) rfl (by exact fun j u hu => at3 (cell_below hb (hcell j u hu)))) rfl <| Wl.allocN (z := (.agg #[(str []), (.slice none 0 0), (.slice none 0 0)])) (by kernel_rfl) rfl ?_
   rintro g_o20 w_o20 hg_o20 hn_o20 hs_o20
   have hz_o20 := hs_o20.size
   have hb := hb.trans (hs_o20.mono hb.size)
   have hG := hG_hb.below hb
   have hL := hL_hb.below hb
   have hB_o0 := Blk.below hB_o0 hs_o20
   have hB_o20 := hn_o20
   have hl_o20 := hB_o20.lt
   refine Wl.storeS (by kernel_rfl) rfl rfl hB_o20 rfl rfl ?_
   rintro w_s2 hn_s2 hg_s2
   have hz_s2 := hg_s2.size
   have hb := below_blk hb hg_s2 hb.size (by omega)
   have hG := hG_hb.below hb
   have hL := hL_hb.below hb
   have hB_o0 := hB_o0.over hg_s2 (by omega)
   have hB_o20 := hn_s2
   refine Wl.nil <| Wq.next hK_44 <| Wc.seq fun _ hK_51 => Wc.region <| Wl.y (y_fieldAddr (fa43_0LpG _) rfl) rfl <| Wl.l (l_load one9LpG rfl (by exact hB_o20.at (j := 0) rfl)) rfl <| Wl.y (y_buildS (z := [(str []), (.slice none 0 0), (.slice none 0 0)]) (pl := [(0, 1), (1, 1), (2, 1)]) (cs := [_, _, _]) Tryz.underlying43 (by kernel_rfl) (by kernel_rfl) rfl rfl rfl) rfl <| Wl.litN (sz := 3) (vs := [_]) Tryz.underlying24 (by kernel_rfl) rfl rfl rfl rfl rfl rfl ?_
   rintro g_b1 w_b1 hg_b1 hn_b1 hs_b1
   have hz_b1 := hs_b1.size
   have hb := hb.trans (hs_b1.mono hb.size)
   have hG := hG_hb.below hb
   have hL := hL_hb.below hb
   have hB_o0 := Blk.below hB_o0 hs_b1
   have hB_o20 := Blk.below hB_o20 hs_b1
   have hB_b1 := hn_b1
   have hl_b1 := hB_b1.lt
   refine Wl.y (y_buildS (z := [(.slice none 0 0), (.slice none 0 0)]) (pl := [(0, 1), (1, 1)]) (cs := [_, _]) Tryz.underlying27 (by kernel_rfl) (by kernel_rfl) rfl rfl rfl) rfl <| Wl.call txt11LpG rfl rfl (GPrint_r _ _ 1 _ 0 (onlyN d.n []) _ (gat_one hB_b1 (Rd.nil _ _ _) (Nat.le_refl _) (fun p hp => by cases hp)) (by unfold onlyN szG szN szL szP; simp; omega) hL) rfl ?_
   rintro _ w_k3 ⟨rfl, hs_k3⟩
   have hz_k3 := hs_k3.size
   have hb := hb.trans (hs_k3.mono hb.size)
   have hG := hG_hb.below hb
   have hL := hL_hb.below hb
   have hB_o0 := Blk.below hB_o0 hs_k3
   have hB_o20 := Blk.below hB_o20 hs_k3
   rw [if_pos h01, hp1]
   refine Wl.mv rfl rfl <| Wl.y (y_extract rfl rfl) rfl <| Wl.y (y_extract rfl rfl) rfl <| Wl.sg rfl rfl <| Wl.sg rfl rfl <| Wl.nil <| Wq.next hK_51 <| Wc.seq fun _ hK_63 => ?_
   have hone : (bs ++ [10]).length = bs.length + 1 := by simp
   refine Wc.region <| Wl.mv rfl rfl <| Wl.mv rfl rfl <| Wl.y (y_lens Tryz.underlying9 (by omega) rfl) rfl <| Wl.y (y_subI rfl rfl (by omega) (by omega)) rfl <| Wl.y (y_max rfl rfl) rfl <| Wl.y (y_eq (y_slicesH Tryz.underlying9 rfl rfl (by omega) (by omega)) (str_eq (cut_one bs))) rfl <| Wl.sg rfl rfl <| Wl.nil <| Wq.next hK_63 <| Wc.seq fun _ hK_71 => Wc.seq fun _ hK_72 => Wc.region <| Wl.y (y_fieldAddr (fa43_1LpG _) rfl) rfl <| Wl.l (l_load one40LpG rfl (by exact hB_o20.at (j := 1) rfl)) rfl <| Wl.y (y_lenl Tryz.underlying40 (by omega) rfl) rfl <| Wl.y (y_subI rfl rfl (by omega) (by omega)) rfl <| Wl.sg rfl rfl <| Wl.nil <| Wq.next hK_72 <| Wc.block <| Wc.loop (X := Nat) (fun j => [(1, .pointer (some ⟨g_o0, 0, none⟩)), (3, .bool true), (4, str (printG X)), (6, str (feeds ((X.ns.take i).map fun d => nodeK 0 (revN d)))), (7, .int .i64 (i : Int)), (8, .pointer (some ⟨g_o20, 0, none⟩)), (9, str (bs ++ [10])), (11, str (bs ++ (d.ls.reverse.take j).flatMap (labK 0))), (12, .int .i64 ((d.ls.length : Int) - 1 - j))]) (fun j wl => j ≤ d.ls.length ∧ Below w.heap.size w wl ∧ Blk wl g_o0 27 [.slice (some p_) X.ns.length c, .slice none X.es.length 0] ∧ Blk wl g_o20 43 [str d.n, .slice Al d.ls.length cl, .slice Ap d.ps.length cp]) (fun j => d.ls.length - j) (0) ?_ ?_ ?_
   · exact by repeat first | exact Sub.nil | refine Sub.cons' rfl (by first | rfl | exact int_eq (by omega) | exact str_eq (by simp)) ?_
   · exact ⟨Nat.zero_le _, hb, hB_o0, hB_o20⟩
   rintro j wl hI_79 _ hL_78
   replace hI_79 : j ≤ d.ls.length ∧ Below w.heap.size w wl ∧ Blk wl g_o0 27 [.slice (some p_) X.ns.length c, .slice none X.es.length 0] ∧ Blk wl g_o20 43 [str d.n, .slice Al d.ls.length cl, .slice Ap d.ps.length cp] := hI_79
   obtain ⟨hj, hb, hB_o0, hB_o20⟩ := hI_79
   show Wc _ _ _ _ _ [(1, .pointer (some ⟨g_o0, 0, none⟩)), (3, .bool true), (4, str (printG X)), (6, str (feeds ((X.ns.take i).map fun d => nodeK 0 (revN d)))), (7, .int .i64 (i : Int)), (8, .pointer (some ⟨g_o20, 0, none⟩)), (9, str (bs ++ [10])), (11, str (bs ++ (d.ls.reverse.take j).flatMap (labK 0))), (12, .int .i64 ((d.ls.length : Int) - 1 - j))] _
   have hG := hG_hb.below hb
   have hL := hL_hb.below hb
   have hzhb_L1 := hb.size
   have hlhB_o0_L1 := hB_o0.lt
   have hlhB_o20_L1 := hB_o20.lt
   refine Wc.seq fun _ hK_80 => Wc.seq fun _ hK_81 => Wc.region <| Wl.mv rfl rfl <| Wl.y (y_geqi rfl rfl) rfl <| Wl.nil <| Wq.next hK_81 <| Wc.cond rfl (fun c2_84 => ?_) (fun c2_84 => ?_)
   ·
    have c2_84_ := c2_84
    simp only [DZ] at c2_84
    have hjl : j < d.ls.length := by have := c2_84; omega
    have hbd := labs_len d.ls j
    have hlb1 := szL_at (ls := d.ls) (i := d.ls.length - 1 - j) (by omega)
    have h2len : ([32, 58] : List UInt8).length = 2 := rfl
    refine Wc.skip <| Wq.next hK_80 <| Wc.seq fun _ hK_85 => Wc.block <| Wc.region <| Wl.mv rfl rfl <| Wl.y (y_adds rfl rfl (by rw [List.length_append, h2len]; omega)) rfl <| Wl.y (y_fieldAddr (fa43_1LpG _) rfl) rfl <| Wl.l (l_load one40LpG rfl (by exact hB_o20.at (j := 1) rfl)) rfl <| Wl.mv rfl rfl ?_
    obtain ⟨q_, v_, hqe_, hve_, hcell2⟩ := (hN.rl.below hb).one (i := d.ls.length - 1 - j) (by omega)
    obtain rfl := strs_val (by omega) hve_
    subst hqe_
    refine Wl.y (y_indexAddr Tryz.underlying40 sz9LpG rfl rfl (by omega) (by omega)) rfl <| Wl.l (l_load one9LpG rfl (by exact (by rw [show ((d.ls.length : Int) - 1 - (j : Int)).toNat * 1 = d.ls.length - 1 - j by omega]; exact hcell2))) rfl <| Wl.y (y_adds rfl rfl (by simp only [List.length_append, h2len]; omega)) rfl <| Wl.sg rfl rfl <| Wl.nil <| Wq.block_normal <| Wq.next hK_85 <| Wc.region <| Wl.mv rfl rfl <| Wl.y (y_subI rfl rfl (by omega) (by omega)) rfl <| Wl.sg rfl rfl <| Wl.nil <| fun a_ ha_ => hL_78 _ _ (j + 1) (by have hjl2 : j < d.ls.length := hjl; omega) (by repeat first | exact Sub.nil | refine Sub.cons' rfl (by first | rfl | exact int_eq (by omega) | exact str_eq (by rw [take_flat (labK 0) [] hjl]; simp [labK])) ?_) ?_ a_ ha_
    exact ⟨(show j + 1 ≤ d.ls.length by omega), hb, hB_o0, hB_o20⟩
   have c2_84_ := c2_84
   simp only [DZ] at c2_84
   have hje : j = d.ls.length := by have := c2_84; omega
   have hlt : d.ls.reverse.take j = d.ls.reverse := List.take_of_length_le (by rw [List.length_reverse]; omega)
   rw [hlt]
   refine Wc.exit <| Wq.then_exit <| Wq.then_exit <| Wq.block_exit <| Wq.next hK_71 <| Wc.seq fun _ hK_98 => Wc.seq fun _ hK_99 => Wc.region <| Wl.y (y_fieldAddr (fa43_2LpG _) rfl) rfl <| Wl.l (l_load one41LpG rfl (by exact hB_o20.at (j := 2) rfl)) rfl <| Wl.y (y_lenl Tryz.underlying41 (by omega) rfl) rfl <| Wl.y (y_subI rfl rfl (by omega) (by omega)) rfl <| Wl.sg rfl rfl <| Wl.nil <| Wq.next hK_99 <| Wc.block <| Wc.loop (X := Nat) (fun q => [(1, .pointer (some ⟨g_o0, 0, none⟩)), (3, .bool true), (4, str (printG X)), (6, str (feeds ((X.ns.take i).map fun d => nodeK 0 (revN d)))), (7, .int .i64 (i : Int)), (8, .pointer (some ⟨g_o20, 0, none⟩)), (9, str (bs ++ [10])), (11, str (bs ++ (d.ls.reverse.flatMap (labK 0) ++ (d.ps.reverse.take q).flatMap (prK 0)))), (13, .int .i64 ((d.ps.length : Int) - 1 - q))]) (fun q wp => q ≤ d.ps.length ∧ Below w.heap.size w wp ∧ Blk wp g_o0 27 [.slice (some p_) X.ns.length c, .slice none X.es.length 0] ∧ Blk wp g_o20 43 [str d.n, .slice Al d.ls.length cl, .slice Ap d.ps.length cp]) (fun q => d.ps.length - q) (0) ?_ ?_ ?_
   · exact by repeat first | exact Sub.nil | refine Sub.cons' rfl (by first | rfl | exact int_eq (by omega) | exact str_eq (by simp)) ?_
   · exact ⟨Nat.zero_le _, hb, hB_o0, hB_o20⟩
   rintro q wp hI_106 _ hL_105
   replace hI_106 : q ≤ d.ps.length ∧ Below w.heap.size w wp ∧ Blk wp g_o0 27 [.slice (some p_) X.ns.length c, .slice none X.es.length 0] ∧ Blk wp g_o20 43 [str d.n, .slice Al d.ls.length cl, .slice Ap d.ps.length cp] := hI_106
   obtain ⟨hq, hb, hB_o0, hB_o20⟩ := hI_106
   show Wc _ _ _ _ _ [(1, .pointer (some ⟨g_o0, 0, none⟩)), (3, .bool true), (4, str (printG X)), (6, str (feeds ((X.ns.take i).map fun d => nodeK 0 (revN d)))), (7, .int .i64 (i : Int)), (8, .pointer (some ⟨g_o20, 0, none⟩)), (9, str (bs ++ [10])), (11, str (bs ++ (d.ls.reverse.flatMap (labK 0) ++ (d.ps.reverse.take q).flatMap (prK 0)))), (13, .int .i64 ((d.ps.length : Int) - 1 - q))] _
   have hG := hG_hb.below hb
   have hL := hL_hb.below hb
   have hzhb_L2 := hb.size
   have hlhB_o0_L2 := hB_o0.lt
   have hlhB_o20_L2 := hB_o20.lt
   refine Wc.seq fun _ hK_107 => Wc.seq fun _ hK_108 => Wc.region <| Wl.mv rfl rfl <| Wl.y (y_geqi rfl rfl) rfl <| Wl.nil <| Wq.next hK_108 <| Wc.cond rfl (fun c3_111 => ?_) (fun c3_111 => ?_)
   ·
    have c3_111_ := c3_111
    simp only [DZ] at c3_111
    have hql : q < d.ps.length := by have := c3_111; omega
    obtain ⟨kk, hkk⟩ : ∃ kk, kk = d.ps.length - 1 - q := ⟨_, rfl⟩
    have hkl : kk < d.ps.length := by omega
    have hpc := hN.pc
    have hpc' : d.ps.length ≤ cp := hpc
    obtain ⟨pk, hpk⟩ : ∃ pk, pk = d.ps.getD kk pr0 := ⟨_, rfl⟩
    have hpm : pk ∈ d.ps := by rw [hpk, getD_at pr0 hkl]; exact List.getElem_mem hkl
    have hpsz := szP_at hkl
    rw [← hpk] at hpsz
    have hrgk := only_rg (n := d.n) (ps := [pk]) ⟨hel_.nw, (fun l hl => by cases hl), .nil, (fun p hp => by simp at hp; rw [hp]; exact hel_.po pk hpm), List.pairwise_singleton _ _, (fun p hp => by simp at hp; rw [hp]; exact hel_.pn pk hpm)⟩
    have h0k := hrgk.right
    have hpp : printG (onlyN d.n [pk]) = bs ++ (prK 0 pk ++ [10]) := by rw [print_only, node_pr, ← hbs, List.append_assoc]
    have hbl1 := labs_len d.ls d.ls.length
    rw [List.take_of_length_le (by rw [List.length_reverse]; exact Nat.le_refl _)] at hbl1
    have hbp := prsr_len hok hri q
    have hbp2 := prsr_len hok hri (q + 1)
    rw [take_flat (prK 0) pr0 hql, ← hkk, ← hpk, List.length_append] at hbp2
    have hone2 : (bs ++ [10]).length = bs.length + 1 := by simp
    refine Wc.skip <| Wq.next hK_107 <| Wc.seq fun _ hK_112 => Wc.block <| Wc.seq fun _ hK_113 => Wc.any (n := 17) (fun w' => Below w.heap.size w w' ∧ Blk w' g_o0 27 [.slice (some p_) X.ns.length c, .slice none X.es.length 0] ∧ Blk w' g_o20 43 [str d.n, .slice Al d.ls.length cl, .slice Ap d.ps.length cp]) #[false, false, false, false, false, false, false, false, false, false, false, false, false, false, false, false, false] (by kernel_rfl) rfl (by kernel_rfl) <| Wa.drew ?_
    rintro w_g19 hs_g19
    have hz_g19 := hs_g19.size
    have hb := hb.trans (hs_g19.mono hb.size)
    have hG := hG_hb.below hb
    have hL := hL_hb.below hb
    have hB_o0 := Blk.below hB_o0 hs_g19
    have hB_o20 := Blk.below hB_o20 hs_g19
    refine Wa.take (i := 0) #[true, false, false, false, false, false, false, false, false, false, false, false, false, false, false, false, false] rfl (by kernel_rfl) (fun _ _ _ h => h) rfl (fun wq hq => Yl.ld (y_fieldAddr (fa43_0LpG _) rfl)) ⟨hb, hB_o0, hB_o20⟩ <| Wa.take (i := 1) #[true, true, false, false, false, false, false, false, false, false, false, false, false, false, false, false, false] rfl (by kernel_rfl) (fun _ _ _ h => h) rfl (fun wq hq => l_load one9LpG rfl (by obtain ⟨hq, hB_o0, hB_o20⟩ := hq; exact hB_o20.at (j := 0) rfl)) ⟨hb, hB_o0, hB_o20⟩ <| Wa.take (i := 2) #[true, true, true, false, false, false, false, false, false, false, false, false, false, false, false, false, false] rfl (by kernel_rfl) (fun _ _ _ h => h) rfl (fun wq hq => Yl.ld (y_fieldAddr (fa43_2LpG _) rfl)) ⟨hb, hB_o0, hB_o20⟩ <| Wa.take (i := 3) #[true, true, true, true, false, false, false, false, false, false, false, false, false, false, false, false, false] rfl (by kernel_rfl) (fun _ _ _ h => h) rfl (fun wq hq => l_load one41LpG rfl (by obtain ⟨hq, hB_o0, hB_o20⟩ := hq; exact hB_o20.at (j := 2) rfl)) ⟨hb, hB_o0, hB_o20⟩ <| Wa.take (i := 4) #[true, true, true, true, true, false, false, false, false, false, false, false, false, false, false, false, false] rfl (by kernel_rfl) (fun _ _ _ h => h) rfl (fun wq hq => Yl.ld (y_move rfl)) ⟨hb, hB_o0, hB_o20⟩ <| Wa.take (i := 5) #[true, true, true, true, true, true, false, false, false, false, false, false, false, false, false, false, false] rfl (by kernel_rfl) (fun _ _ _ h => h) rfl (fun wq hq => Yl.ld (y_move rfl)) ⟨hb, hB_o0, hB_o20⟩ <| Wa.take (i := 6) #[true, true, true, true, true, true, true, false, false, false, false, false, false, false, false, false, false] rfl (by kernel_rfl) (fun _ _ _ h => h) rfl (fun wq hq => Yl.ld (y_addI rfl rfl (by omega) (by omega))) ⟨hb, hB_o0, hB_o20⟩ <| Wa.take (i := 7) #[true, true, true, true, true, true, true, true, false, false, false, false, false, false, false, false, false] rfl (by kernel_rfl) (fun _ _ _ h => h) rfl (fun wq hq => Yl.ld (y_eq (y_slicelLH Tryz.underlying41 sz105LpG rfl rfl rfl (by omega) (by omega) (by omega)) ((show _ = Value.slice (if cp = kk then Ap else Ap.map (·.add (kk * 5))) 1 (cp - kk) by rw [show ((d.ps.length : Int) - 1 - (q : Int)).toNat = kk by omega, show ((d.ps.length : Int) - 1 - (q : Int) + 1).toNat = kk + 1 by omega, Nat.add_sub_cancel_left])))) ⟨hb, hB_o0, hB_o20⟩ <| Wa.take (i := 8) #[true, true, true, true, true, true, true, true, true, false, false, false, false, false, false, false, false] rfl (by kernel_rfl) (fun _ _ _ h => h) rfl (fun wq hq => Yl.ld (y_buildS (z := [(str []), (.slice none 0 0), (.slice none 0 0)]) (pl := [(0, 1), (1, 1), (2, 1)]) (cs := [_, _, _]) Tryz.underlying43 (by kernel_rfl) (by kernel_rfl) rfl rfl rfl)) ⟨hb, hB_o0, hB_o20⟩ <| Wa.some (rs := [9]) (by kernel_rfl) rfl <| Ws.cons #[true, true, true, true, true, true, true, true, true, true, false, false, false, false, false, false, false] rfl rfl (fun _ hK_123 => ?_) ?_
    ·
     refine Wl.litN (sz := 3) (vs := [_]) Tryz.underlying24 (by kernel_rfl) rfl rfl rfl rfl rfl rfl ?_
     rintro g_b6 w_b6 hg_b6 hn_b6 hs_b6
     have hz_b6 := hs_b6.size
     have hb := hb.trans (hs_b6.mono hb.size)
     have hG := hG_hb.below hb
     have hL := hL_hb.below hb
     have hB_o0 := Blk.below hB_o0 hs_b6
     have hB_o20 := Blk.below hB_o20 hs_b6
     have hB_b6 := hn_b6
     have hl_b6 := hB_b6.lt
     refine Wl.nil <| Wq.back hK_123 ⟨hb, hB_o0, hB_o20⟩ <| Wa.take (i := 10) #[true, true, true, true, true, true, true, true, true, true, true, false, false, false, false, false, false] rfl (by kernel_rfl) (fun _ _ _ h => h) rfl (fun wq hq => Yl.ld (y_buildS (z := [(.slice none 0 0), (.slice none 0 0)]) (pl := [(0, 1), (1, 1)]) (cs := [_, _]) Tryz.underlying27 (by kernel_rfl) (by kernel_rfl) rfl rfl rfl)) ⟨hb, hB_o0, hB_o20⟩ <| Wa.some (rs := [11]) (by kernel_rfl) rfl <| Ws.cons #[true, true, true, true, true, true, true, true, true, true, true, true, false, false, false, false, false] rfl rfl (fun _ hK_126 => ?_) ?_
     ·
      refine Wl.call txt11LpG rfl rfl (GPrint_r _ _ 1 _ 0 (onlyN d.n [pk]) _ (gat_one hB_b6 (by rw [hpk]; exact rd_piece (hN.rp.below hb) rfl hpc' hkl) (by show 1 ≤ cp - kk; omega) (fun p hp => by simp at hp; rw [hp]; exact hok pk hpm)) (by unfold onlyN szG szN szL szP; simp; omega) hL) rfl ?_
      rintro _ w_k4 ⟨rfl, hs_k4⟩
      have hz_k4 := hs_k4.size
      have hb := hb.trans (hs_k4.mono hb.size)
      have hG := hG_hb.below hb
      have hL := hL_hb.below hb
      have hB_o0 := Blk.below hB_o0 hs_k4
      have hB_o20 := Blk.below hB_o20 hs_k4
      refine Wl.nil <| Wq.back hK_126 ⟨hb, hB_o0, hB_o20⟩ ?_
      rw [if_pos h0k, hpp]
      refine Wa.take (i := 12) #[true, true, true, true, true, true, true, true, true, true, true, true, true, false, false, false, false] rfl (by kernel_rfl) (fun _ _ _ h => h) rfl (fun wq hq => Yl.ld (y_move rfl)) ⟨hb, hB_o0, hB_o20⟩ <| Wa.take (i := 13) #[true, true, true, true, true, true, true, true, true, true, true, true, true, true, false, false, false] rfl (by kernel_rfl) (fun _ _ _ h => h) rfl (fun wq hq => Yl.ld (y_extract rfl rfl)) ⟨hb, hB_o0, hB_o20⟩ <| Wa.take (i := 14) #[true, true, true, true, true, true, true, true, true, true, true, true, true, true, true, false, false] rfl (by kernel_rfl) (fun _ _ _ h => h) rfl (fun wq hq => Yl.ld (y_extract rfl rfl)) ⟨hb, hB_o0, hB_o20⟩ <| Wa.take (i := 15) #[true, true, true, true, true, true, true, true, true, true, true, true, true, true, true, true, false] rfl (by kernel_rfl) (fun _ _ _ h => h) rfl (fun wq hq => Yl.ld (y_assign rfl)) ⟨hb, hB_o0, hB_o20⟩ <| Wa.take (i := 16) #[true, true, true, true, true, true, true, true, true, true, true, true, true, true, true, true, true] rfl (by kernel_rfl) (fun _ _ _ h => h) rfl (fun wq hq => Yl.ld (y_assign rfl)) ⟨hb, hB_o0, hB_o20⟩ <| Wa.done (by kernel_rfl) <| Wq.next hK_113 <| Wc.seq fun _ hK_133 => Wc.seq fun _ hK_134 => Wc.region <| Wl.mv rfl rfl <| Wl.y (y_lens Tryz.underlying9 (by omega) rfl) rfl <| Wl.y (y_eqli rfl rfl) rfl <| Wl.mv rfl rfl <| Wl.guardF rfl rfl rfl (fun g_139 => ?_) (fun g_139 => ?_)
      ·
       have g_139_ := g_139
       simp only [DZ] at g_139
       exact absurd g_139 (by rw [hone2]; omega)
      have g_139_ := g_139
      simp only [DZ] at g_139
      refine Wl.mv rfl rfl <| Wl.on' rfl rfl g_139_ <| Wl.y (y_lens Tryz.underlying9 (by simp only [List.length_append, List.length_cons, List.length_nil]; omega) rfl) rfl <| Wl.on' rfl rfl g_139_ <| Wl.mv rfl rfl <| Wl.on' rfl rfl g_139_ <| Wl.y (y_lens Tryz.underlying9 (by omega) rfl) rfl <| Wl.on' rfl rfl g_139_ <| Wl.y (y_lssi rfl rfl) rfl <| Wl.y (y_pickF rfl g_139_ rfl) rfl <| Wl.nil <| Wq.next hK_134 <| Wc.cond rfl (fun c4_146 => ?_) (fun c4_146 => ?_)
      ·
       have c4_146_ := c4_146
       simp only [DZ] at c4_146
       exact absurd c4_146 (by simp only [List.length_append, List.length_cons, List.length_nil]; omega)
      have c4_146_ := c4_146
      simp only [DZ] at c4_146
      refine Wc.skip <| Wq.next hK_133 <| Wc.region <| Wl.mv rfl rfl <| Wl.mv rfl rfl <| Wl.mv rfl rfl <| Wl.y (y_lens Tryz.underlying9 (by omega) rfl) rfl <| Wl.y (y_subI rfl rfl (by omega) (by omega)) rfl <| Wl.mv rfl rfl <| Wl.y (y_lens Tryz.underlying9 (by simp only [List.length_append, List.length_cons, List.length_nil]; omega) rfl) rfl <| Wl.y (y_subI rfl rfl (by omega) (by simp; omega)) rfl <| Wl.y (y_eq (y_slices Tryz.underlying9 rfl rfl rfl (by simp only [List.length_append, List.length_cons, List.length_nil]; omega) (by simp only [List.length_append, List.length_cons, List.length_nil]; omega) (by simp only [List.length_append, List.length_cons, List.length_nil]; omega)) (str_eq (cut_mid bs (prK 0 pk)))) rfl <| Wl.y (y_adds rfl rfl (by simp only [List.length_append]; omega)) rfl <| Wl.sg rfl rfl <| Wl.nil <| Wq.block_normal <| Wq.next hK_112 <| Wc.region <| Wl.mv rfl rfl <| Wl.y (y_subI rfl rfl (by omega) (by omega)) rfl <| Wl.sg rfl rfl <| Wl.nil <| fun a_ ha_ => hL_105 _ _ (q + 1) (by have hql2 : q < d.ps.length := hql; omega) (by repeat first | exact Sub.nil | refine Sub.cons' rfl (by first | rfl | exact int_eq (by omega) | exact str_eq (by rw [take_flat (prK 0) pr0 hql, ← hkk, ← hpk]; simp)) ?_) ?_ a_ ha_
      exact ⟨(show q + 1 ≤ d.ps.length by omega), hb, hB_o0, hB_o20⟩
     exact Ws.nil
    exact Ws.nil
   have c3_111_ := c3_111
   simp only [DZ] at c3_111
   have hqe : q = d.ps.length := by have := c3_111; omega
   have hqt : d.ps.reverse.take q = d.ps.reverse := List.take_of_length_le (by rw [List.length_reverse]; omega)
   rw [hqt]
   have hline : bs ++ (d.ls.reverse.flatMap (labK 0) ++ d.ps.reverse.flatMap (prK 0)) = nodeK 0 (revN d) := by rw [node_rev, hbs]
   rw [hline]
   have hrl := rev_len hok hri
   have hol := out_len (ns := X.ns.take i) (fun d hd => hG.oks d (List.mem_of_mem_take hd)) (fun d hd p hp => ((hrg.ns d (List.mem_of_mem_take hd)).po p hp).2.2)
   have hos := sum_take_le szN X.ns i
   have hsg : (X.ns.map szN).sum ≤ szG X := by unfold szG; omega
   rw [List.length_take] at hol
   rw [List.length_append] at hrl
   have h1l : ([10] : List UInt8).length = 1 := rfl
   refine Wc.exit <| Wq.then_exit <| Wq.then_exit <| Wq.block_exit <| Wq.next hK_98 <| Wc.region <| Wl.mv rfl rfl <| Wl.mv rfl rfl <| Wl.y (y_adds rfl rfl (by omega)) rfl <| Wl.y (y_adds rfl rfl (by rw [List.length_append]; omega)) rfl <| Wl.sg rfl rfl <| Wl.nil <| Wq.block_normal <| Wq.next hK_43 <| Wc.region <| Wl.mv rfl rfl <| Wl.y (y_addI rfl rfl (by omega) (by omega)) rfl <| Wl.sg rfl rfl <| Wl.nil <| fun a_ ha_ => hL_33 _ _ (i + 1) (by omega) (by repeat first | exact Sub.nil | refine Sub.cons' rfl (by first | rfl | exact int_eq (by omega) | exact str_eq (by rw [List.take_succ_eq_append_getElem hil, List.map_append, feeds_app, hd, getD_at nd0 hil]; simp [feeds])) ?_) ?_ a_ ha_
   exact ⟨(show i + 1 ≤ X.ns.length by omega), hb, hB_o0⟩
  have c1_42_ := c1_42
  simp only [DZ] at c1_42
  have hie : i = X.ns.length := by have := c1_42; omega
  have hit : X.ns.take i = X.ns := List.take_of_length_le (by omega)
  rw [hit]
  have hXX : (⟨X.ns, []⟩ : GV) = X := by rw [← hXe]
  have hld := load_rev hrg.ns hrg.nd hrg.nl
  rw [hXX] at hld
  have hol := out_len (ns := X.ns) hG.oks (fun d hd p hp => ((hrg.ns d hd).po p hp).2.2)
  have hsg : (X.ns.map szN).sum ≤ szG X := by unfold szG; omega
  refine Wc.exit <| Wq.then_exit <| Wq.then_exit <| Wq.block_exit <| Wq.next hK_30 <| Wc.seq fun _ hK_169 => Wc.region <| Wl.mv rfl rfl <| Wl.bytesN Tryz.underlying9 Tryz.underlying22 Tryz.underlying5 rfl rfl ?_
  rintro g_o92 c_o92 w_o92 hg_o92 hl_o92 hn_o92 hs_o92
  have hz_o92 := hs_o92.size
  have hb := hb.trans (hs_o92.mono hb.size)
  have hG := hG_hb.below hb
  have hL := hL_hb.below hb
  have hB_o0 := Blk.below hB_o0 hs_o92
  have hR_o92 := hn_o92
  refine Wl.call txt8LpG rfl rfl (LParse_r _ _ _ (feeds (X.ns.map fun d => nodeK 0 (revN d))) _ hR_o92 rfl (by omega) hL) rfl ?_
  rintro _ w_k5 ⟨⟨A1, c1, A2, c2, rfl, hG1⟩, hs_k5⟩
  have hz_k5 := hs_k5.size
  have hb := hb.trans (hs_k5.mono hb.size)
  have hG := hG_hb.below hb
  have hL := hL_hb.below hb
  have hB_o0 := Blk.below hB_o0 hs_k5
  rw [hld] at hG1 ⊢
  dsimp only at hG1 ⊢
  refine Wl.mv rfl rfl <| Wl.y (y_extract rfl rfl) rfl <| Wl.y (y_extract rfl rfl) rfl <| Wl.y (y_extract rfl rfl) rfl <| Wl.allocN (z := (.agg #[(.slice none 0 0), (.slice none 0 0)])) (by kernel_rfl) rfl ?_
  rintro g_o97 w_o97 hg_o97 hn_o97 hs_o97
  have hz_o97 := hs_o97.size
  have hb := hb.trans (hs_o97.mono hb.size)
  have hG := hG_hb.below hb
  have hL := hL_hb.below hb
  have hB_o0 := Blk.below hB_o0 hs_o97
  have hG1 := GIn.below hG1 hs_o97
  have hB_o97 := hn_o97
  have hl_o97 := hB_o97.lt
  refine Wl.storeS (by kernel_rfl) rfl rfl hB_o97 rfl rfl ?_
  rintro w_s3 hn_s3 hg_s3
  have hz_s3 := hg_s3.size
  have hb := below_blk hb hg_s3 hb.size (by omega)
  have hG := hG_hb.below hb
  have hL := hL_hb.below hb
  have hB_o0 := hB_o0.over hg_s3 (by omega)
  have hG1 := hG1.over hg_s3 (by omega)
  have hB_o97 := hn_s3
  refine Wl.sg rfl rfl <| Wl.sg rfl rfl <| Wl.nil <| Wq.next hK_169 <| Wc.seq fun _ hK_180 => Wc.region <| Wl.l (l_loadS Tryz.underlying27 (by kernel_rfl) rfl (by exact fun j u hu => hB_o97.at hu)) rfl <| Wl.call txt11LpG rfl rfl (GPrint_r _ A1 c1 A2 c2 X _ hG1.gat (by omega) hL) rfl ?_
  rintro _ w_k6 ⟨rfl, hs_k6⟩
  have hz_k6 := hs_k6.size
  have hb := hb.trans (hs_k6.mono hb.size)
  have hG := hG_hb.below hb
  have hL := hL_hb.below hb
  have hB_o0 := Blk.below hB_o0 hs_k6
  have hG1 := GIn.below hG1 hs_k6
  have hB_o97 := Blk.below hB_o97 hs_k6
  refine Wl.mv rfl rfl <| Wl.y (y_extract rfl rfl) rfl <| Wl.y (y_extract rfl rfl) rfl <| Wl.sg rfl rfl <| Wl.sg rfl rfl <| Wl.nil <| Wq.next hK_180 <| Wc.seq fun _ hK_188 => Wc.region <| Wl.mv rfl rfl <| Wl.mv rfl rfl <| Wl.guardT rfl rfl rfl (fun g_191 => ?_) (fun g_191 => ?_)
  ·
   have g_191_ := g_191
   simp only [DZ] at g_191
   refine Wl.mv rfl rfl <| Wl.on' rfl rfl g_191_ <| Wl.y (y_eqli rfl rfl) rfl <| Wl.y (y_pickT rfl g_191_ rfl) rfl <| Wl.mv rfl rfl <| Wl.guardT rfl rfl rfl (fun g_196 => ?_) (fun g_196 => ?_)
   ·
    have g_196_ := g_196
    simp only [DZ] at g_196
    refine Wl.l (l_loadS Tryz.underlying27 (by kernel_rfl) rfl (by exact fun j u hu => hB_o0.at hu)) rfl <| Wl.on' rfl rfl g_196_ <| Wl.l (l_loadS Tryz.underlying27 (by kernel_rfl) rfl (by exact fun j u hu => hB_o97.at hu)) rfl <| Wl.on' rfl rfl g_196_ <| Wl.call txt10LpG rfl rfl (GSame_r S A c none 0 X _ A1 c1 A2 c2 X _ hG hG1.gat (by omega) (by omega)) rfl ?_
    rintro _ w_k7 ⟨rfl, hs_k7⟩
    have hz_k7 := hs_k7.size
    have hb := hb.trans (hs_k7.mono hb.size)
    have hG := hG_hb.below hb
    have hL := hL_hb.below hb
    have hG1 := GIn.below hG1 hs_k7
    refine Wl.y (y_pickT rfl g_196_ rfl) rfl <| Wl.mv rfl rfl <| Wl.guardT rfl rfl rfl (fun g_202 => ?_) (fun g_202 => ?_)
    ·
     have g_202_ := g_202
     refine Wl.mv rfl rfl <| Wl.on' rfl rfl g_202_ <| Wl.y (y_eqli rfl rfl) rfl <| Wl.y (y_pickT rfl g_202_ rfl) rfl <| Wl.mv rfl rfl <| Wl.guardT rfl rfl rfl (fun g_207 => ?_) (fun g_207 => ?_)
     ·
      have g_207_ := g_207
      simp only [DZ] at g_207
      refine Wl.mv rfl rfl <| Wl.on' rfl rfl g_207_ <| Wl.mv rfl rfl <| Wl.on' rfl rfl g_207_ <| Wl.y (y_eqls rfl rfl) rfl <| Wl.y (y_pickT rfl g_207_ rfl) rfl <| Wl.sg rfl rfl <| Wl.nil <| Wq.next hK_188 <| Wc.ret <| ret1 rfl rfl ?_
      exact ⟨_, rfl, bool_eq (by rw [if_pos h0]; simp), hb⟩
     have g_207_ := g_207
     simp only [DZ] at g_207
     exact absurd g_207_ (by rw [h0]; simp)
    have g_202_ := g_202
    exact absurd g_202_ (by rw [sameG_refl]; simp)
   have g_196_ := g_196
   simp only [DZ] at g_196
   exact absurd g_196_ (by simp)
  have g_191_ := g_191
  cases g_191_
end Go.Proofs.YtjmlknjbhbfneaaGreatDoor
