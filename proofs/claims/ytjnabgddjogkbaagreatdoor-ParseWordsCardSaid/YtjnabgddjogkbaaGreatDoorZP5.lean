/- Package parse, by the calculus: how deep. · Package parse, by the calculus: what catches. · Plain: how deep what is parsed is, at most. · Package parse, by the calculus: Parse. -/
import Derived.Test.YtjnabgddjogkbaaGreatDoorZP4
namespace Go.Proofs.YtjnabgddjogkbaaGreatDoor
open Go.RowKit Go.Bw Go.Bw.Fl
set_option linter.unusedVariables false
set_option linter.unusedSimpArgs false
theorem fa28_3PsR (p : Addr) (w : World) : (Instr.fieldAt 28 (.pointer (some p)) 3).run Tryz.prog w = .ok (.pointer (some (p.add 6))) w := run_fieldAt (i := 3) (sz := 0) Tryz.underlying28 rfl (by kernel_rfl) p w
theorem fa31_3PsR (p : Addr) (w : World) : (Instr.fieldAt 31 (.pointer (some p)) 3).run Tryz.prog w = .ok (.pointer (some (p.add 3))) w := run_fieldAt (i := 3) (sz := 6) Tryz.underlying31 rfl (by kernel_rfl) p w
theorem fa31_4PsR (p : Addr) (w : World) : (Instr.fieldAt 31 (.pointer (some p)) 4).run Tryz.prog w = .ok (.pointer (some (p.add 10))) w := run_fieldAt (i := 4) (sz := 6) Tryz.underlying31 rfl (by kernel_rfl) p w
theorem fa31_7PsR (p : Addr) (w : World) : (Instr.fieldAt 31 (.pointer (some p)) 7).run Tryz.prog w = .ok (.pointer (some (p.add 19))) w := run_fieldAt (i := 7) (sz := 0) Tryz.underlying31 rfl (by kernel_rfl) p w
theorem one26PsR : One Tryz.prog 26 := ⟨_, Tryz.underlying26, rfl, by kernel_rfl⟩
theorem one29PsR : One Tryz.prog 29 := ⟨_, Tryz.underlying29, rfl, by kernel_rfl⟩
theorem sz28PsR : (Tryz.prog.info? 28).map (·.size) = some 7 := by kernel_rfl
theorem sz31PsR : (Tryz.prog.info? 31).map (·.size) = some 20 := by kernel_rfl
theorem txt22PsR : Txt Tryz.prog 22 := ⟨_, Tryz.func22, by kernel_rfl, rfl⟩   -- bridleway/parse.patDeep
theorem txt43PsR : Txt Tryz.prog 43 := ⟨_, Tryz.func43, by kernel_rfl, rfl⟩   -- bridleway/parse.exprDeep
theorem txt44PsR : Txt Tryz.prog 44 := ⟨_, Tryz.func44, by kernel_rfl, rfl⟩   -- slices.ContainsFunc[[]bridleway/api.Pat,bridleway/api.Pat]
theorem txt68PsR : Txt Tryz.prog 68 := ⟨_, Tryz.func68, by kernel_rfl, rfl⟩   -- slices.IndexFunc[[]bridleway/api.Pat,bridleway/api.Pat]
theorem EAt.z {w : World} {S : Nat → Prop} {x : ExprD} {cs : List Value} (h : EAt w S x cs) : ∃ z : EC, cs = z.cells := by
  obtain ⟨k, nm, v, kids⟩ := x
  unfold EAt at h
  obtain ⟨A, c, kcs, h1, h2⟩ := h
  exact ⟨⟨k, nm, v, A, kids.length, c⟩, h1⟩
theorem EC.len (z : EC) : z.cells.length = 7 := rfl
theorem ELs.get {w : World} {S : Nat → Prop} : ∀ {l : List ExprD} {xs : List Value} (_ : ELs w S l xs) {i : Nat} (hi : i < l.length), ∃ z : EC, EAt w S l[i] z.cells ∧ ∀ j, j < 7 → xs[i * 7 + j]? = z.cells[j]?
  | [], _, _, _, hi => absurd hi (Nat.not_lt_zero _)
  | e :: r, xs, h, 0, hi => by
    unfold ELs at h
    obtain ⟨c, ys, h1, h2, h3⟩ := h
    obtain ⟨z, rfl⟩ := h2.z
    exact ⟨z, h2, fun j hj => by rw [h1, Nat.zero_mul, Nat.zero_add, List.getElem?_append_left (by rw [z.len]; exact hj)]⟩
  | e :: r, xs, h, i + 1, hi => by
    unfold ELs at h
    obtain ⟨c, ys, h1, h2, h3⟩ := h
    obtain ⟨z0, rfl⟩ := h2.z
    obtain ⟨z, h4, h5⟩ := h3.get (i := i) (by simpa using hi)
    refine ⟨z, h4, fun j hj => ?_⟩
    rw [← h5 j hj, h1, List.getElem?_append_right (by rw [z0.len]; omega), z0.len]
    congr 1; omega
theorem Rd.kidE {w : World} {S : Nat → Prop} {A : Option Addr} {l : List ExprD} {xs : List Value} (h : Rd w 7 A l.length xs) (hL : ELs w S l xs) {i : Nat} (hi : i < l.length) : ∃ (p : Addr) (z : EC), A = some p ∧ EAt w S l[i] z.cells ∧ ∀ (j : Nat) (u : Value), z.cells[j]? = some u → w.cell? ((p.add (i * 7)).add j) = some u := by
  obtain ⟨z, h1, h2⟩ := hL.get hi
  obtain ⟨p, e, hc⟩ := h.2 (by rw [h.1]; omega)
  refine ⟨p, z, e, h1, fun j u hu => ?_⟩
  have hj : j < 7 := (List.getElem?_eq_some_iff.1 hu).1
  rw [addr_add_add]
  exact hc _ _ ((h2 j hj).trans hu)
theorem deepEs_snoc (x : ExprD) : ∀ l : List ExprD, deepEs (l ++ [x]) = max (deepEs l) (deepE x)
  | [] => by show max (deepE x) (deepEs []) = max (deepEs []) (deepE x); exact Nat.max_comm _ _
  | y :: r => by
    show max (deepE y) (deepEs (r ++ [x])) = max (max (deepE y) (deepEs r)) (deepE x)
    rw [deepEs_snoc x r, Nat.max_assoc]
theorem deepPs_snoc (x : PatD) : ∀ l : List PatD, deepPs (l ++ [x]) = max (deepPs l) (deepP x)
  | [] => by show max (deepP x) (deepPs []) = max (deepPs []) (deepP x); exact Nat.max_comm _ _
  | y :: r => by
    show max (deepP y) (deepPs (r ++ [x])) = max (max (deepP y) (deepPs r)) (deepP x)
    rw [deepPs_snoc x r, Nat.max_assoc]
theorem deepEs_get : ∀ {l : List ExprD} {i : Nat} (hi : i < l.length), deepE l[i] ≤ deepEs l
  | y :: r, 0, hi => Nat.le_max_left _ _
  | y :: r, i + 1, hi => Nat.le_trans (deepEs_get (l := r) (i := i) (by simpa using hi)) (Nat.le_max_right _ _)
theorem deepPs_get : ∀ {l : List PatD} {i : Nat} (hi : i < l.length), deepP l[i] ≤ deepPs l
  | y :: r, 0, hi => Nat.le_max_left _ _
  | y :: r, i + 1, hi => Nat.le_trans (deepPs_get (l := r) (i := i) (by simpa using hi)) (Nat.le_max_right _ _)
theorem exprDeep_r (n : Nat) : ∀ (e : ExprD) (x : EC) (S : Nat → Prop) (w : World), deepE e ≤ n → n ≤ 1099511627776 → EAt w S e x.cells → Ret Tryz.prog 43 [x.enc] w fun v w' => v = .int .i64 (deepE e : Int) ∧ Below w.heap.size w w' := by
  induction n using Nat.strongRecOn with
  | ind n ih =>
  intro e x S w hn hn2 hE
  obtain ⟨k, nm, v, kids⟩ := e
  unfold EAt at hE
  obtain ⟨A, c, kcs, h1, hR, hS, hL, hk65⟩ := hE
  have hc6 : x.cells[6]? = some (.slice A kids.length c) := by rw [h1]; rfl
  have hdn : deepEs kids + 1 ≤ n := hn
  have hb := Below.refl w.heap.size w
  have hR_hb := hR
  have hL_hb := hL
  refine enter Tryz.func43 rfl rfl rfl ?_
  refine Wc.seq fun _ hK_1 => Wc.region ?_
  refine Wl.boxN rfl rfl ?_
  rintro g_o0 w_o0 hg_o0 hn_o0 hs_o0
  have hz_o0 := hs_o0.size
  have hb := hb.trans (hs_o0.mono hb.size)
  have hR := hR_hb.below hb
  have hL := hL_hb.below hb
  have hB_o0 := hn_o0
  have hl_o0 := hB_o0.lt
  refine Wl.sg rfl rfl <| Wl.nil <| Wq.next hK_1 <| Wc.seq fun _ hK_4 => Wc.region <| Wl.sg rfl rfl <| Wl.nil <| Wq.next hK_4 <| Wc.seq fun _ hK_6 => Wc.seq fun _ hK_7 => ?_
  refine Wc.region ?_
  refine Wl.y (y_fieldAddr (fa28_3PsR _) rfl) rfl ?_
  refine Wl.l (l_load one26PsR rfl (by exact hB_o0.at (j := 6) hc6)) rfl ?_
  refine Wl.y (y_lenl Tryz.underlying26 (by omega) rfl) rfl ?_
  refine Wl.mv rfl rfl <| Wl.nil <| Wq.next hK_7 <| Wc.block ?_
  refine Wc.loop (X := Nat × Nat) (fun (i, d) => [(3, .int .i64 (d : Int)), (7, .slice A kids.length c), (8, .int .i64 (kids.length : Int)), (9, .int .i64 (i : Int))]) (fun (i, d) wr => i ≤ kids.length ∧ d = deepEs (kids.take i) ∧ Below w.heap.size w wr) (fun (i, d) => kids.length - i) (⟨0, 0⟩) ?_ ?_ ?_
  · exact by repeat first | exact Sub.nil | refine Sub.cons' rfl (by first | rfl | exact int_eq (by omega) | exact int_eq (by simp) | (simp; done)) ?_
  · exact ⟨by omega, rfl, hb⟩
  rintro ⟨i, d⟩ wr hI_13 _ hL_12
  replace hI_13 : i ≤ kids.length ∧ d = deepEs (kids.take i) ∧ Below w.heap.size w wr := hI_13
  obtain ⟨hi, hd, hb⟩ := hI_13
  show Wc _ _ _ _ _ [(3, .int .i64 (d : Int)), (7, .slice A kids.length c), (8, .int .i64 (kids.length : Int)), (9, .int .i64 (i : Int))] _
  have hR := hR_hb.below hb
  have hL := hL_hb.below hb
  try have hzhb_L0 := hb.size
  refine Wc.seq fun _ hK_14 => Wc.region <| Wl.y (y_lssi rfl rfl) rfl <| Wl.nil <| Wq.next hK_14 <| Wc.seq fun _ hK_16 => ?_
  refine Wc.cond rfl (fun c0_17 => ?_) (fun c0_17 => ?_)
  ·
   have c0_17_ := c0_17
   try simp only [DZ] at c0_17
   have hil : i < kids.length := by have := c0_17; omega
   obtain ⟨p_, z, hpe, hz, hcell⟩ := Rd.kidE hR_hb hL_hb hil
   subst hpe
   have hdk := deepEs_get hil
   refine Wc.skip <| Wq.next hK_16 <| Wc.seq fun _ hK_18 => Wc.block <| Wc.seq fun _ hK_19 => Wc.region ?_
   refine Wl.y (y_indexAddr Tryz.underlying26 sz28PsR rfl rfl (by omega) (by omega)) rfl ?_
   refine Wl.l (l_loadS Tryz.underlying28 (by kernel_rfl) rfl (by exact fun j u hu => by rw [Int.toNat_natCast]; exact cell_below hb (hcell j u hu))) rfl ?_
   refine Wl.allocN (z := (.agg #[(.int .i64 0), (str []), (.int .i64 0), (.int .i64 0), (.float .f64 0), (str []), (.slice none 0 0)])) (by kernel_rfl) rfl ?_
   rintro g_o6 w_o6 hg_o6 hn_o6 hs_o6
   have hz_o6 := hs_o6.size
   have hb := hb.trans (hs_o6.mono hb.size)
   have hR := hR_hb.below hb
   have hL := hL_hb.below hb
   have hB_o6 := hn_o6
   have hl_o6 := hB_o6.lt
   refine Wl.storeS (by kernel_rfl) rfl rfl hB_o6 rfl rfl ?_
   rintro w_s0 hn_s0 hg_s0
   have hz_s0 := hg_s0.size
   have hb := below_blk hb hg_s0 hb.size (by omega)
   have hR := hR_hb.below hb
   have hL := hL_hb.below hb
   have hB_o6 := hn_s0
   refine Wl.nil <| Wq.next hK_19 <| Wc.region <| Wl.mv rfl rfl ?_
   refine Wl.l (l_loadS Tryz.underlying28 (by kernel_rfl) rfl (by exact fun j u hu => hB_o6.at hu)) rfl ?_
   refine Wl.call txt43PsR rfl rfl (ih (n - 1) (by omega) kids[i] z S _ (by omega) (by omega) (EAt.below hz hb)) rfl ?_
   rintro _ w_k0 ⟨rfl, hs_k0⟩
   have hz_k0 := hs_k0.size
   have hb := hb.trans (hs_k0.mono hb.size)
   have hR := hR_hb.below hb
   have hL := hL_hb.below hb
   refine Wl.y (y_max rfl rfl) rfl <| Wl.sg rfl rfl <| Wl.nil <| Wq.block_normal <| Wq.next hK_18 <| Wc.region ?_
   refine Wl.y (y_addI rfl rfl (by first | omega | (simp; done) | (simp; omega)) (by first | omega | (simp; done) | (simp; omega))) rfl ?_
   refine Wl.mv rfl rfl <| Wl.nil ?_
   refine fun a_ ha_ => hL_12 _ _ (⟨i + 1, max d (deepE kids[i])⟩) (by show kids.length - (i + 1) < kids.length - i; omega) (by repeat first | exact Sub.nil | refine Sub.cons' rfl (by first | rfl | exact int_eq (by omega)) ?_) ?_ a_ ha_
   exact ⟨by omega, by rw [hd, List.take_succ_eq_append_getElem hil, deepEs_snoc], hb⟩
  have c0_17_ := c0_17
  try simp only [DZ] at c0_17
  have hil : i = kids.length := by have := c0_17; omega
  have hd2 : d = deepEs kids := by rw [hd, hil, List.take_length]
  refine Wc.exit ?_
  refine Wq.then_exit <| Wq.then_exit <| Wq.block_exit <| Wq.next hK_6 <| Wc.seq fun _ hK_30 => Wc.region <| Wl.mv rfl rfl ?_
  refine Wl.y (y_addI rfl rfl (by first | omega | (simp; done) | (simp; omega)) (by first | omega | (simp; done) | (simp; omega))) rfl ?_
  refine Wl.sg rfl rfl <| Wl.nil <| Wq.next hK_30 <| Wc.ret ?_
  refine ret1 rfl rfl ?_
  exact ⟨_, rfl, int_eq (by rw [hd2]; rfl), hb⟩
theorem patDeep_r (n : Nat) : ∀ (e : PatD) (x : PC) (S : Nat → Prop) (w : World), deepP e ≤ n → n ≤ 1099511627776 → PAt w S e x.cells → Ret Tryz.prog 22 [x.enc] w fun v w' => v = .int .i64 (deepP e : Int) ∧ Below w.heap.size w w' := by
  induction n using Nat.strongRecOn with
  | ind n ih =>
  intro e x S w hn hn2 hE
  obtain ⟨k, var, dir, l, wh, mn, mx, kids⟩ := e
  unfold PAt at hE
  obtain ⟨lc, wc, A, c, kcs, h1, _, _, hR, hS, hL, hk65⟩ := hE
  have hc19 : x.cells[19]? = some (.slice A kids.length c) := by rw [h1]; rfl
  have hdn : deepPs kids + 1 ≤ n := hn
  have hb := Below.refl w.heap.size w
  have hR_hb := hR
  have hL_hb := hL
  refine enter Tryz.func22 rfl rfl rfl ?_
  refine Wc.seq fun _ hK_1 => Wc.region ?_
  refine Wl.boxN rfl rfl ?_
  rintro g_o0 w_o0 hg_o0 hn_o0 hs_o0
  have hz_o0 := hs_o0.size
  have hb := hb.trans (hs_o0.mono hb.size)
  have hR := hR_hb.below hb
  have hL := hL_hb.below hb
  have hB_o0 := hn_o0
  have hl_o0 := hB_o0.lt
  refine Wl.sg rfl rfl <| Wl.nil <| Wq.next hK_1 <| Wc.seq fun _ hK_4 => Wc.region <| Wl.sg rfl rfl <| Wl.nil <| Wq.next hK_4 <| Wc.seq fun _ hK_6 => Wc.seq fun _ hK_7 => ?_
  refine Wc.region ?_
  refine Wl.y (y_fieldAddr (fa31_7PsR _) rfl) rfl ?_
  refine Wl.l (l_load one29PsR rfl (by exact hB_o0.at (j := 19) hc19)) rfl ?_
  refine Wl.y (y_lenl Tryz.underlying29 (by omega) rfl) rfl ?_
  refine Wl.mv rfl rfl <| Wl.nil <| Wq.next hK_7 <| Wc.block ?_
  refine Wc.loop (X := Nat × Nat) (fun (i, d) => [(3, .int .i64 (d : Int)), (7, .slice A kids.length c), (8, .int .i64 (kids.length : Int)), (9, .int .i64 (i : Int))]) (fun (i, d) wr => i ≤ kids.length ∧ d = deepPs (kids.take i) ∧ Below w.heap.size w wr) (fun (i, d) => kids.length - i) (⟨0, 0⟩) ?_ ?_ ?_
  · exact by repeat first | exact Sub.nil | refine Sub.cons' rfl (by first | rfl | exact int_eq (by omega) | exact int_eq (by simp) | (simp; done)) ?_
  · exact ⟨by omega, rfl, hb⟩
  rintro ⟨i, d⟩ wr hI_13 _ hL_12
  replace hI_13 : i ≤ kids.length ∧ d = deepPs (kids.take i) ∧ Below w.heap.size w wr := hI_13
  obtain ⟨hi, hd, hb⟩ := hI_13
  show Wc _ _ _ _ _ [(3, .int .i64 (d : Int)), (7, .slice A kids.length c), (8, .int .i64 (kids.length : Int)), (9, .int .i64 (i : Int))] _
  have hR := hR_hb.below hb
  have hL := hL_hb.below hb
  try have hzhb_L0 := hb.size
  refine Wc.seq fun _ hK_14 => Wc.region <| Wl.y (y_lssi rfl rfl) rfl <| Wl.nil <| Wq.next hK_14 <| Wc.seq fun _ hK_16 => ?_
  refine Wc.cond rfl (fun c0_17 => ?_) (fun c0_17 => ?_)
  ·
   have c0_17_ := c0_17
   try simp only [DZ] at c0_17
   have hil : i < kids.length := by have := c0_17; omega
   obtain ⟨p_, z, hpe, hz, hcell⟩ := Rd.kid hR_hb hL_hb hil
   subst hpe
   have hdk := deepPs_get hil
   refine Wc.skip <| Wq.next hK_16 <| Wc.seq fun _ hK_18 => Wc.block <| Wc.seq fun _ hK_19 => Wc.region ?_
   refine Wl.y (y_indexAddr Tryz.underlying29 sz31PsR rfl rfl (by omega) (by omega)) rfl ?_
   refine Wl.l (l_loadS Tryz.underlying31 (by kernel_rfl) rfl (by exact fun j u hu => by rw [Int.toNat_natCast]; exact cell_below hb (hcell j u hu))) rfl ?_
   refine Wl.allocN (z := (.agg #[(.int .i64 0), (str []), (.int .i64 0), (.int .i64 0), (str []), (.int .i64 0), (.int .i64 0), (.float .f64 0), (str []), (.slice none 0 0), (.int .i64 0), (str []), (.int .i64 0), (.int .i64 0), (.float .f64 0), (str []), (.slice none 0 0), (.int .i64 0), (.int .i64 0), (.slice none 0 0)])) (by kernel_rfl) rfl ?_
   rintro g_o6 w_o6 hg_o6 hn_o6 hs_o6
   have hz_o6 := hs_o6.size
   have hb := hb.trans (hs_o6.mono hb.size)
   have hR := hR_hb.below hb
   have hL := hL_hb.below hb
   have hB_o6 := hn_o6
   have hl_o6 := hB_o6.lt
   refine Wl.storeS (by kernel_rfl) rfl rfl hB_o6 rfl rfl ?_
   rintro w_s0 hn_s0 hg_s0
   have hz_s0 := hg_s0.size
   have hb := below_blk hb hg_s0 hb.size (by omega)
   have hR := hR_hb.below hb
   have hL := hL_hb.below hb
   have hB_o6 := hn_s0
   refine Wl.nil <| Wq.next hK_19 <| Wc.region <| Wl.mv rfl rfl ?_
   refine Wl.l (l_loadS Tryz.underlying31 (by kernel_rfl) rfl (by exact fun j u hu => hB_o6.at hu)) rfl ?_
   refine Wl.call txt22PsR rfl rfl (ih (n - 1) (by omega) kids[i] z S _ (by omega) (by omega) (PAt.below hz hb)) rfl ?_
   rintro _ w_k0 ⟨rfl, hs_k0⟩
   have hz_k0 := hs_k0.size
   have hb := hb.trans (hs_k0.mono hb.size)
   have hR := hR_hb.below hb
   have hL := hL_hb.below hb
   refine Wl.y (y_max rfl rfl) rfl <| Wl.sg rfl rfl <| Wl.nil <| Wq.block_normal <| Wq.next hK_18 <| Wc.region ?_
   refine Wl.y (y_addI rfl rfl (by first | omega | (simp; done) | (simp; omega)) (by first | omega | (simp; done) | (simp; omega))) rfl ?_
   refine Wl.mv rfl rfl <| Wl.nil ?_
   refine fun a_ ha_ => hL_12 _ _ (⟨i + 1, max d (deepP kids[i])⟩) (by show kids.length - (i + 1) < kids.length - i; omega) (by repeat first | exact Sub.nil | refine Sub.cons' rfl (by first | rfl | exact int_eq (by omega)) ?_) ?_ a_ ha_
   exact ⟨by omega, by rw [hd, List.take_succ_eq_append_getElem hil, deepPs_snoc], hb⟩
  have c0_17_ := c0_17
  try simp only [DZ] at c0_17
  have hil : i = kids.length := by have := c0_17; omega
  have hd2 : d = deepPs kids := by rw [hd, hil, List.take_length]
  refine Wc.exit ?_
  refine Wq.then_exit <| Wq.then_exit <| Wq.block_exit <| Wq.next hK_6 <| Wc.seq fun _ hK_30 => Wc.region <| Wl.mv rfl rfl ?_
  refine Wl.y (y_addI rfl rfl (by first | omega | (simp; done) | (simp; omega)) (by first | omega | (simp; done) | (simp; omega))) rfl ?_
  refine Wl.sg rfl rfl <| Wl.nil <| Wq.next hK_30 <| Wc.ret ?_
  refine ret1 rfl rfl ?_
  exact ⟨_, rfl, int_eq (by rw [hd2]; rfl), hb⟩
theorem txtDeep : Txt Tryz.prog 23 := ⟨_, Tryz.func23, by kernel_rfl, rfl⟩
theorem tooDeeps_get : ∀ {l : List PatD} {i : Nat} (hi : i < l.length), tooDeep l[i] = true → tooDeeps l = true
  | y :: r, 0, hi, h => by show (tooDeep y || tooDeeps r) = true; rw [show tooDeep y = true from h]; rfl
  | y :: r, i + 1, hi, h => by show (tooDeep y || tooDeeps r) = true; rw [tooDeeps_get (l := r) (i := i) (by simpa using hi) h, Bool.or_true]
theorem tooDeeps_none : ∀ {l : List PatD}, (∀ i (hi : i < l.length), tooDeep l[i] = false) → tooDeeps l = false
  | [], _ => rfl
  | y :: r, h => by
    show (tooDeep y || tooDeeps r) = false
    rw [show tooDeep y = false from h 0 (by simp), tooDeeps_none (l := r) fun i hi => h (i + 1) (by simpa using hi)]; rfl
theorem IndexFuncP_r (l : List PatD) (xs : List Value) (A : Option Addr) (c : Nat) (S : Nat → Prop) (hl : l.length ≤ 65537) (w : World) (hR : Rd w 20 A l.length xs) (hL : PLs w S l xs)
    (hf : ∀ (i : Nat) (hi : i < l.length) (z : PC) (w' : World), PAt w' S l[i] z.cells → Ret Tryz.prog 23 [z.enc] w' fun v w'' => v = .bool (tooDeep l[i]) ∧ Below w'.heap.size w' w'') :
    Ret Tryz.prog 68 [.slice A l.length c, .func (.func 23) #[] #[]] w fun v w' => (∃ z, v = .int .i64 z ∧ (0 ≤ z ↔ tooDeeps l = true)) ∧ Below w.heap.size w w' := by
  have hb := Below.refl w.heap.size w
  have hR_hb := hR
  have hL_hb := hL
  refine enter Tryz.func68 rfl rfl rfl ?_
  refine Wc.seq fun _ hK_1 => Wc.region <| Wl.sg rfl rfl <| Wl.nil <| Wq.next hK_1 <| Wc.seq fun _ hK_3 => Wc.seq fun _ hK_4 => Wc.region <| Wl.mv rfl rfl ?_
  refine Wl.y (y_lenl Tryz.underlying29 (by omega) rfl) rfl ?_
  refine Wl.mv rfl rfl <| Wl.nil <| Wq.next hK_4 <| Wc.block ?_
  refine Wc.loop (X := Nat) (fun i => [(0, .slice A l.length c), (1, .func (.func 23) #[] #[]), (7, .int .i64 (l.length : Int)), (8, .int .i64 (i : Int))]) (fun i wr => i ≤ l.length ∧ (∀ j (h : j < l.length), j < i → tooDeep l[j] = false) ∧ Below w.heap.size w wr) (fun i => l.length - i) (0) ?_ ?_ ?_
  · exact by repeat first | exact Sub.nil | refine Sub.cons' rfl (by first | rfl | exact int_eq (by omega) | exact int_eq (by simp) | (simp; done)) ?_
  · exact ⟨by omega, fun j _ h => by omega, hb⟩
  rintro i wr hI_9 _ hL_8
  replace hI_9 : i ≤ l.length ∧ (∀ j (h : j < l.length), j < i → tooDeep l[j] = false) ∧ Below w.heap.size w wr := hI_9
  obtain ⟨hi, hall, hb⟩ := hI_9
  show Wc _ _ _ _ _ [(0, .slice A l.length c), (1, .func (.func 23) #[] #[]), (7, .int .i64 (l.length : Int)), (8, .int .i64 (i : Int))] _
  have hR := hR_hb.below hb
  have hL := hL_hb.below hb
  try have hzhb_L0 := hb.size
  refine Wc.seq fun _ hK_10 => Wc.region <| Wl.y (y_lssi rfl rfl) rfl <| Wl.nil <| Wq.next hK_10 <| Wc.seq fun _ hK_12 => ?_
  refine Wc.cond rfl (fun c0_13 => ?_) (fun c0_13 => ?_)
  ·
   have c0_13_ := c0_13
   try simp only [DZ] at c0_13
   have hil : i < l.length := by have := c0_13; omega
   obtain ⟨p_, z, hpe, hz, hcell⟩ := Rd.kid hR_hb hL_hb hil
   subst hpe
   refine Wc.skip <| Wq.next hK_12 <| Wc.seq fun _ hK_14 => Wc.block <| Wc.seq fun _ hK_15 => Wc.region <| Wl.mv rfl rfl <| Wl.sg rfl rfl <| Wl.nil <| Wq.next hK_15 ?_
   refine Wc.seq fun _ hK_18 => Wc.region <| Wl.mv rfl rfl <| Wl.mv rfl rfl <| Wl.mv rfl rfl ?_
   refine Wl.y (y_indexAddr Tryz.underlying29 sz31PsR rfl rfl (by omega) (by omega)) rfl ?_
   refine Wl.l (l_loadS Tryz.underlying31 (by kernel_rfl) rfl (by exact fun j u hu => by rw [Int.toNat_natCast]; exact cell_below hb (hcell j u hu))) rfl ?_
   refine Wl.callP txtDeep rfl rfl (Ret.out (X := fun _ _ => False) (hf i hil z _ (PAt.below hz hb))) rfl (fun v_ w_k0 hv_ => ?_) (fun c_ w_k0 hx_ => ?_)
   rotate_left
   ·
    exact hx_.elim
   obtain ⟨rfl, hs_k0⟩ := hv_
   have hz_k0 := hs_k0.size
   have hb := hb.trans (hs_k0.mono hb.size)
   have hR := hR_hb.below hb
   have hL := hL_hb.below hb
   refine Wl.nil <| Wq.next hK_18 ?_
   refine Wc.cond rfl (fun c1_25 => ?_) (fun c1_25 => ?_)
   ·
    have c1_25_ := c1_25
    try simp only [DZ] at c1_25
    have hyes : tooDeep l[i] = true := c1_25_
    refine Wc.seq fun _ hK_26 => Wc.region <| Wl.mv rfl rfl <| Wl.sg rfl rfl <| Wl.nil <| Wq.next hK_26 <| Wc.ret ?_
    refine Wq.block_ret (Wq.then_ret (Wq.then_ret (Wq.block_ret (Wq.then_ret ?_))))
    refine ret1 rfl rfl ?_
    exact ⟨_, rfl, ⟨_, rfl, ⟨fun _ => tooDeeps_get hil hyes, fun _ => by omega⟩⟩, hb⟩
   have c1_25_ := c1_25
   try simp only [DZ] at c1_25
   have hno : tooDeep l[i] = false := c1_25_
   refine Wc.skip <| Wq.block_normal <| Wq.next hK_14 <| Wc.region ?_
   refine Wl.y (y_addI rfl rfl (by first | omega | (simp; done) | (simp; omega)) (by first | omega | (simp; done) | (simp; omega))) rfl ?_
   refine Wl.mv rfl rfl <| Wl.nil ?_
   refine fun a_ ha_ => hL_8 _ _ (i + 1) (by first | omega | (simp; omega)) (by repeat first | exact Sub.nil | refine Sub.cons' rfl (by first | rfl | exact int_eq (by omega)) ?_) ?_ a_ ha_
   exact ⟨by omega, fun j h hj => by (by_cases e : j = i); (· subst e; exact hno); (· exact hall j h (by omega)), hb⟩
  have c0_13_ := c0_13
  try simp only [DZ] at c0_13
  refine Wc.exit ?_
  refine Wq.then_exit <| Wq.then_exit <| Wq.block_exit <| Wq.next hK_3 <| Wc.seq fun _ hK_31 => Wc.region <| Wl.sg rfl rfl <| Wl.nil <| Wq.next hK_31 <| Wc.ret ?_
  refine ret1 rfl rfl ?_
  exact ⟨_, rfl, ⟨_, rfl, ⟨fun h => by omega, fun h => by rw [tooDeeps_none fun j hj => hall j hj (by have := c0_13; omega)] at h; cases h⟩⟩, hb⟩
theorem ContainsFuncP_r (l : List PatD) (xs : List Value) (A : Option Addr) (c : Nat) (S : Nat → Prop) (hl : l.length ≤ 65537) (w : World) (hR : Rd w 20 A l.length xs) (hL : PLs w S l xs)
    (hf : ∀ (i : Nat) (hi : i < l.length) (z : PC) (w' : World), PAt w' S l[i] z.cells → Ret Tryz.prog 23 [z.enc] w' fun v w'' => v = .bool (tooDeep l[i]) ∧ Below w'.heap.size w' w'') :
    Ret Tryz.prog 44 [.slice A l.length c, .func (.func 23) #[] #[]] w fun v w' => v = .bool (tooDeeps l) ∧ Below w.heap.size w w' := by
  have hb := Below.refl w.heap.size w
  have hR_hb := hR
  have hL_hb := hL
  refine enter Tryz.func44 rfl rfl rfl ?_
  refine Wc.seq fun _ hK_1 => Wc.region <| Wl.sg rfl rfl <| Wl.nil <| Wq.next hK_1 <| Wc.seq fun _ hK_3 => Wc.region <| Wl.mv rfl rfl <| Wl.mv rfl rfl ?_
  refine Wl.call txt68PsR rfl rfl (IndexFuncP_r l xs A c S hl _ hR hL hf) rfl ?_
  rintro _ w_k0 ⟨⟨z, rfl, hz⟩, hs_k0⟩
  have hz_k0 := hs_k0.size
  have hb := hb.trans (hs_k0.mono hb.size)
  have hR := hR_hb.below hb
  have hL := hL_hb.below hb
  refine Wl.y (y_geqi rfl rfl) rfl <| Wl.sg rfl rfl <| Wl.nil <| Wq.next hK_3 <| Wc.ret ?_
  refine ret1 rfl rfl ?_
  exact ⟨_, rfl, bool_eq (by rw [Bool.eq_iff_iff]; simp [hz]), hb⟩
mutual
/-- how deep an expression in a pattern is, at most -/
def deepX : PatD → Nat
  | .mk _ _ _ l wh _ _ kids => max (max (deepE l) (deepE wh)) (deepXs kids)
def deepXs : List PatD → Nat
  | [] => 0
  | x :: r => max (deepX x) (deepXs r)
end
theorem deepXs_get : ∀ {l : List PatD} {i : Nat} (hi : i < l.length), deepX l[i] ≤ deepXs l
  | y :: r, 0, hi => Nat.le_max_left _ _
  | y :: r, i + 1, hi => Nat.le_trans (deepXs_get (l := r) (i := i) (by simpa using hi)) (Nat.le_max_right _ _)
theorem PC.lab (z : PC) {j : Nat} {u : Value} (h : z.l.cells[j]? = some u) : z.cells[3 + j]? = some u := by
  have hj : j < 7 := (List.getElem?_eq_some_iff.1 h).1
  show ([Value.int .i64 z.k, str z.var, .int .i64 z.dir] ++ (z.l.cells ++ (z.wh.cells ++ _)))[3 + j]? = _
  rw [List.getElem?_append_right (by simp), List.getElem?_append_left (by rw [z.l.len]; simp; exact hj)]
  simpa using h
theorem PC.whr (z : PC) {j : Nat} {u : Value} (h : z.wh.cells[j]? = some u) : z.cells[10 + j]? = some u := by
  have hj : j < 7 := (List.getElem?_eq_some_iff.1 h).1
  show ([Value.int .i64 z.k, str z.var, .int .i64 z.dir] ++ (z.l.cells ++ (z.wh.cells ++ _)))[10 + j]? = _
  rw [List.getElem?_append_right (by simp; omega), List.getElem?_append_right (by rw [z.l.len]; simp; omega), List.getElem?_append_left (by rw [z.l.len, z.wh.len]; simp; omega), z.l.len, ← h]
  congr 1; simp; omega
theorem deep_r (n : Nat) : ∀ (e : PatD) (x : PC) (S : Nat → Prop) (w : World), deepP e ≤ n → deepX e ≤ 1099511627776 → PAt w S e x.cells → Ret Tryz.prog 23 [x.enc] w fun v w' => v = .bool (tooDeep e) ∧ Below w.heap.size w w' := by
  induction n using Nat.strongRecOn with
  | ind n ih =>
  intro e x S w hn hn2 hE
  obtain ⟨k, var, dir, l, wh, mn, mx, kids⟩ := e
  unfold PAt at hE
  obtain ⟨lc, wc, A, c, kcs, h1, hEl, hEw, hR, hS, hL, hk65⟩ := hE
  have hdn : deepPs kids + 1 ≤ n := hn
  have hdx : max (max (deepE l) (deepE wh)) (deepXs kids) ≤ 1099511627776 := hn2
  have hT : tooDeep (.mk k var dir l wh mn mx kids) = (decide (50 < deepE l) || decide (50 < deepE wh) || tooDeeps kids) := rfl
  obtain ⟨z, hz⟩ : ∃ z : PC, z = ⟨k, var, dir, lc, wc, mn, mx, A, kids.length, c⟩ := ⟨_, rfl⟩
  have hzl : z.l = lc := by rw [hz]
  have hzw : z.wh = wc := by rw [hz]
  have hx : x.enc = z.enc := by unfold PC.enc; rw [h1, hz]
  have hc19 : z.cells[19]? = some (.slice A kids.length c) := by rw [hz]; rfl
  rw [hx]
  have hb := Below.refl w.heap.size w
  have hR_hb := hR
  have hL_hb := hL
  have hEl_hb := hEl
  have hEw_hb := hEw
  refine enter Tryz.func23 rfl rfl rfl ?_
  refine Wc.seq fun _ hK_1 => Wc.region ?_
  refine Wl.boxN rfl rfl ?_
  rintro g_o0 w_o0 hg_o0 hn_o0 hs_o0
  have hz_o0 := hs_o0.size
  have hb := hb.trans (hs_o0.mono hb.size)
  have hR := hR_hb.below hb
  have hL := hL_hb.below hb
  have hEl := hEl_hb.below hb
  have hEw := hEw_hb.below hb
  have hB_o0 := hn_o0
  have hl_o0 := hB_o0.lt
  refine Wl.sg rfl rfl <| Wl.nil <| Wq.next hK_1 <| Wc.seq fun _ hK_4 => Wc.region ?_
  refine Wl.y (y_fieldAddr (fa31_3PsR _) rfl) rfl ?_
  refine Wl.l (l_loadS Tryz.underlying28 (by kernel_rfl) rfl (by exact fun j u hu => by rw [addr_add_add]; exact hB_o0.at (z.lab (by rw [hzl]; exact hu)))) rfl ?_
  refine Wl.call txt43PsR rfl rfl (exprDeep_r (deepE l) l lc S _ (Nat.le_refl _) (by omega) hEl) rfl ?_
  rintro _ w_k0 ⟨rfl, hs_k0⟩
  have hz_k0 := hs_k0.size
  have hb := hb.trans (hs_k0.mono hb.size)
  have hR := hR_hb.below hb
  have hL := hL_hb.below hb
  have hEl := hEl_hb.below hb
  have hEw := hEw_hb.below hb
  try have hB_o0 := Blk.below hB_o0 hs_k0
  refine Wl.y (y_gtri rfl rfl) rfl <| Wl.mv rfl rfl ?_
  refine Wl.guardF rfl rfl rfl (fun g_10 => ?_) (fun g_10 => ?_)
  ·
   have g_10_ := g_10
   try simp only [DZ] at g_10
   refine Wl.off' rfl rfl g_10_ rfl rfl <| Wl.off' rfl rfl g_10_ rfl rfl <| Wl.off' rfl rfl g_10_ rfl rfl ?_
   refine Wl.y (y_pickT rfl g_10_ rfl) rfl ?_
   refine Wl.mv rfl rfl <| Wl.off' rfl rfl rfl rfl rfl <| Wl.off' rfl rfl rfl rfl rfl <| Wl.off' rfl rfl rfl rfl rfl <| Wl.y (y_pickT rfl rfl rfl) rfl <| Wl.sg rfl rfl <| Wl.nil <| Wq.next hK_4 <| Wc.ret ?_
   refine ret1 rfl rfl ?_
   exact ⟨_, rfl, bool_eq (by rw [hT, Bool.eq_iff_iff]; simp_all <;> omega), hb⟩
  have g_10_ := g_10
  try simp only [DZ] at g_10
  refine Wl.y (y_fieldAddr (fa31_4PsR _) rfl) rfl ?_
  refine Wl.on' rfl rfl g_10_ ?_
  refine Wl.l (l_loadS Tryz.underlying28 (by kernel_rfl) rfl (by exact fun j u hu => by rw [addr_add_add]; exact hB_o0.at (z.whr (by rw [hzw]; exact hu)))) rfl ?_
  refine Wl.on' rfl rfl g_10_ ?_
  refine Wl.call txt43PsR rfl rfl (exprDeep_r (deepE wh) wh wc S _ (Nat.le_refl _) (by omega) hEw) rfl ?_
  rintro _ w_k1 ⟨rfl, hs_k1⟩
  have hz_k1 := hs_k1.size
  have hb := hb.trans (hs_k1.mono hb.size)
  have hR := hR_hb.below hb
  have hL := hL_hb.below hb
  have hEl := hEl_hb.below hb
  have hEw := hEw_hb.below hb
  try have hB_o0 := Blk.below hB_o0 hs_k1
  refine Wl.on' rfl rfl g_10_ <| Wl.y (y_gtri rfl rfl) rfl ?_
  refine Wl.y (y_pickF rfl g_10_ rfl) rfl ?_
  refine Wl.mv rfl rfl ?_
  refine Wl.guardF rfl rfl rfl (fun g_21 => ?_) (fun g_21 => ?_)
  ·
   have g_21_ := g_21
   try simp only [DZ] at g_21
   refine Wl.off' rfl rfl g_21_ rfl rfl <| Wl.off' rfl rfl g_21_ rfl rfl ?_
   refine Wl.y (y_pickT rfl g_21_ rfl) rfl ?_
   refine Wl.sg rfl rfl <| Wl.nil <| Wq.next hK_4 <| Wc.ret ?_
   refine ret1 rfl rfl ?_
   exact ⟨_, rfl, bool_eq (by rw [hT, Bool.eq_iff_iff]; simp_all <;> omega), hb⟩
  have g_21_ := g_21
  try simp only [DZ] at g_21
  refine Wl.y (y_fieldAddr (fa31_7PsR _) rfl) rfl ?_
  refine Wl.on' rfl rfl g_21_ ?_
  refine Wl.l (l_load one29PsR rfl (by exact hB_o0.at (j := 19) hc19)) rfl ?_
  refine Wl.on' rfl rfl g_21_ ?_
  refine Wl.call txt44PsR rfl rfl (ContainsFuncP_r kids kcs A c S hk65 _ hR hL fun i hi z w' hz => ih (n - 1) (by omega) kids[i] z S w' (by have := deepPs_get hi; omega) (by have := deepXs_get hi; omega) hz) rfl ?_
  rintro _ w_k2 ⟨rfl, hs_k2⟩
  have hz_k2 := hs_k2.size
  have hb := hb.trans (hs_k2.mono hb.size)
  have hR := hR_hb.below hb
  have hL := hL_hb.below hb
  have hEl := hEl_hb.below hb
  have hEw := hEw_hb.below hb
  refine Wl.y (y_pickF rfl g_21_ rfl) rfl ?_
  refine Wl.sg rfl rfl <| Wl.nil <| Wq.next hK_4 <| Wc.ret ?_
  refine ret1 rfl rfl ?_
  exact ⟨_, rfl, bool_eq (by rw [hT, Bool.eq_iff_iff]; simp_all <;> omega), hb⟩
end Go.Proofs.YtjnabgddjogkbaaGreatDoor
namespace Go.Proofs.YtjnabgddjogkbaaGreatDoor
open Go.RowKit Go.Bw Go.Bw.Fl
set_option linter.unusedVariables false
set_option linter.unusedSimpArgs false
theorem fa54_0PsS (p : Addr) (w : World) : (Instr.fieldAt 54 (.pointer (some p)) 0).run Tryz.prog w = .ok (.pointer (some (p.add 0))) w := run_fieldAt (i := 0) (sz := 0) Tryz.underlying54 rfl (by kernel_rfl) p w
theorem fa54_1PsS (p : Addr) (w : World) : (Instr.fieldAt 54 (.pointer (some p)) 1).run Tryz.prog w = .ok (.pointer (some (p.add 1))) w := run_fieldAt (i := 1) (sz := 0) Tryz.underlying54 rfl (by kernel_rfl) p w
theorem one3PsS : One Tryz.prog 3 := ⟨_, Tryz.underlying3, rfl, by kernel_rfl⟩
theorem one34PsS : One Tryz.prog 34 := ⟨_, Tryz.underlying34, rfl, by kernel_rfl⟩
abbrev wchR (a e : Int) : List PanicEntry := [{ v := .iface 54 (.agg #[.int .i64 a, .int .i64 e]), recovered := true }]
theorem catchP_r (a e : Int) (g0 g1 g2 : Nat) (a0 e0 : Int) (wA w : World) (hB0 : Below wA.heap.size wA w) (h0 : wA.heap.size ≤ g0) (h1 : wA.heap.size ≤ g1) (h2 : wA.heap.size ≤ g2) (h01 : g0 ≠ g1) (h02 : g0 ≠ g2) (h12 : g1 ≠ g2) (hBq : Blk w g0 33 (qcells 0 0 0 pc0)) (hBa : Blk w g1 3 [.int .i64 a0]) (hBe : Blk w g2 34 [.int .i64 e0]) :
    CallsD Tryz.prog 20 [gptr0 g0, gptr0 g1, gptr0 g2].toArray (.panicking (wch a e)) w fun r x w' => (∃ v, r = .returned v ∧ (Blk w' g0 33 (qcells 0 0 0 pc0) ∧ Blk w' g1 3 [.int .i64 a] ∧ Blk w' g2 34 [.int .i64 e]) ∧ Below wA.heap.size wA w') ∧ x = .panicking (wchR a e) := by
  have hl0 := hBq.lt
  have hl1 := hBa.lt
  have hl2 := hBe.lt
  have hb := Below.refl wA.heap.size wA
  refine enterRec (v := .iface 54 (.agg #[.int .i64 a, .int .i64 e])) (u' := .panicking (wchR a e)) Tryz.func20 rfl rfl rfl rfl rfl (fun c₀ cs hc => .inl (by cases c₀; simp only at hc; subst hc; rfl)) ?_
  refine Wc.seq fun _ hK_1 => ?_
  have hb := hB0
  refine Wc.region <| Wl.mv rfl rfl ?_
  refine Wl.y (y_neqN (by kernel_rfl) rfl (.inr ⟨_, _, rfl⟩)) rfl ?_
  refine Wl.nil <| Wq.next hK_1 ?_
  refine Wc.cond rfl (fun c0_4 => ?_) (fun c0_4 => ?_)
  ·
   have c0_4_ := c0_4
   try simp only [DZ] at c0_4
   refine Wc.seq fun _ hK_5 => Wc.region <| Wl.mv rfl rfl ?_
   refine Wl.y (y_assert Tryz.underlying54 rfl) rfl ?_
   refine Wl.mv rfl rfl <| Wl.y (y_extract rfl rfl) rfl <| Wl.y (y_extract rfl rfl) rfl ?_
   refine Wl.allocN (z := (.agg #[(.int .i64 0), (.int .i64 0)])) (by kernel_rfl) rfl ?_
   rintro g_o8 w_o8 hg_o8 hn_o8 hs_o8
   have hz_o8 := hs_o8.size
   have hb := hb.trans (hs_o8.mono hb.size)
   try have hBq := Blk.below hBq hs_o8
   try have hBa := Blk.below hBa hs_o8
   try have hBe := Blk.below hBe hs_o8
   have hB_o8 := hn_o8
   have hl_o8 := hB_o8.lt
   refine Wl.storeS (by kernel_rfl) rfl rfl hB_o8 rfl rfl ?_
   rintro w_s0 hn_s0 hg_s0
   have hz_s0 := hg_s0.size
   have hb := below_blk hb hg_s0 hb.size (by omega)
   try have hBq := hBq.over hg_s0 (by omega)
   try have hBa := hBa.over hg_s0 (by omega)
   try have hBe := hBe.over hg_s0 (by omega)
   have hB_o8 := hn_s0
   refine Wl.sg rfl rfl <| Wl.nil <| Wq.next hK_5 <| Wc.seq fun _ hK_13 => Wc.seq fun _ hK_14 => Wc.region <| Wl.mv rfl rfl <| Wl.y (y_not rfl) rfl <| Wl.nil <| Wq.next hK_14 ?_
   refine Wc.cond rfl (fun c1_17 => ?_) (fun c1_17 => ?_)
   ·
    have c1_17_ := c1_17
    try simp only [DZ] at c1_17
    exact absurd c1_17_ (by decide)
   have c1_17_ := c1_17
   try simp only [DZ] at c1_17
   refine Wc.skip <| Wq.next hK_13 ?_
   refine Wc.any (n := 8) (fun w' => Below wA.heap.size wA w' ∧ Blk w' g_o8 54 [.int .i64 a, .int .i64 e] ∧ (∃ c, Blk w' g0 33 c) ∧ (∃ c, Blk w' g1 3 c) ∧ ∃ c, Blk w' g2 34 c) #[false, false, false, false, false, false, false, false] (by kernel_rfl) rfl (by kernel_rfl) ?_
   refine Wa.drew ?_
   rintro w_g5 hs_g5
   have hz_g5 := hs_g5.size
   have hb := hb.trans (hs_g5.mono hb.size)
   try have hBq := Blk.below hBq hs_g5
   try have hBa := Blk.below hBa hs_g5
   try have hBe := Blk.below hBe hs_g5
   try have hB_o8 := Blk.below hB_o8 hs_g5
   refine Wa.take (i := 0) #[true, false, false, false, false, false, false, false] rfl (by kernel_rfl) (fun _ _ _ h => h) rfl (fun wq hq => Yl.ld (y_buildS (z := [(.int .i64 0), (.int .i64 0), (.int .i64 0), (.int .i64 0), (str []), (.int .i64 0), (.int .i64 0), (str []), (.int .i64 0), (.int .i64 0), (.float .f64 0), (str []), (.slice none 0 0), (.int .i64 0), (str []), (.int .i64 0), (.int .i64 0), (.float .f64 0), (str []), (.slice none 0 0), (.int .i64 0), (.int .i64 0), (.slice none 0 0)]) (pl := [(0, 1), (1, 1), (2, 1), (3, 20)]) (cs := [_, _, _, _, _, _, _, _, _, _, _, _, _, _, _, _, _, _, _, _, _, _, _]) Tryz.underlying33 (by kernel_rfl) (by kernel_rfl) rfl rfl rfl)) ⟨hb, hB_o8, ⟨_,hBq⟩, ⟨_,hBa⟩, _, hBe⟩ ?_
   refine Wa.take (i := 1) #[true, true, false, false, false, false, false, false] rfl (by kernel_rfl) (fun _ _ _ h => h) rfl (fun wq hq => Yl.ld (y_fieldAddr (fa54_0PsS _) rfl)) ⟨hb, hB_o8, ⟨_,hBq⟩, ⟨_,hBa⟩, _, hBe⟩ ?_
   refine Wa.take (i := 2) #[true, true, true, false, false, false, false, false] rfl (by kernel_rfl) (fun _ _ _ h => h) rfl (fun wq hq => l_load one3PsS rfl (by obtain ⟨hq, hB_o8, ⟨_,hBq⟩, ⟨_,hBa⟩, _, hBe⟩ := hq; exact hB_o8.at (j := 0) rfl)) ⟨hb, hB_o8, ⟨_,hBq⟩, ⟨_,hBa⟩, _, hBe⟩ ?_
   refine Wa.take (i := 3) #[true, true, true, true, false, false, false, false] rfl (by kernel_rfl) (fun _ _ _ h => h) rfl (fun wq hq => Yl.ld (y_fieldAddr (fa54_1PsS _) rfl)) ⟨hb, hB_o8, ⟨_,hBq⟩, ⟨_,hBa⟩, _, hBe⟩ ?_
   refine Wa.take (i := 4) #[true, true, true, true, true, false, false, false] rfl (by kernel_rfl) (fun _ _ _ h => h) rfl (fun wq hq => l_load one34PsS rfl (by obtain ⟨hq, hB_o8, ⟨_,hBq⟩, ⟨_,hBa⟩, _, hBe⟩ := hq; exact hB_o8.at (j := 1) rfl)) ⟨hb, hB_o8, ⟨_,hBq⟩, ⟨_,hBa⟩, _, hBe⟩ ?_
   refine Wa.some (rs := [5]) (by kernel_rfl) rfl ?_
   refine Ws.cons #[true, true, true, true, true, true, false, false] rfl rfl (fun _ hK_23 => ?_) ?_
   ·
    refine Wl.storeS (by kernel_rfl) rfl rfl hBq rfl rfl ?_
    rintro w_s1 hn_s1 hg_s1
    have hz_s1 := hg_s1.size
    have hb := below_blk hb hg_s1 hb.size (by omega)
    try have hBa := hBa.over hg_s1 (by omega)
    try have hBe := hBe.over hg_s1 (by omega)
    try have hB_o8 := hB_o8.over hg_s1 (by omega)
    have hBq := hn_s1
    refine Wl.nil ?_
    refine Wq.back hK_23 ⟨hb, hB_o8, ⟨_,hBq⟩, ⟨_,hBa⟩, _, hBe⟩ ?_
    refine Wa.some (rs := [6]) (by kernel_rfl) rfl ?_
    refine Ws.cons #[true, true, true, true, true, true, true, false] rfl rfl (fun _ hK_24 => ?_) ?_
    ·
     refine Wl.store1 one3PsS rfl rfl rfl hBa ?_
     rintro w_s2 hn_s2 hg_s2
     have hz_s2 := hg_s2.size
     have hb := below_blk hb hg_s2 hb.size (by omega)
     try have hBq := hBq.over hg_s2 (by omega)
     try have hBe := hBe.over hg_s2 (by omega)
     try have hB_o8 := hB_o8.over hg_s2 (by omega)
     have hBa := hn_s2
     refine Wl.nil ?_
     refine Wq.back hK_24 ⟨hb, hB_o8, ⟨_,hBq⟩, ⟨_,hBa⟩, _, hBe⟩ ?_
     refine Wa.some (rs := [7]) (by kernel_rfl) rfl ?_
     refine Ws.cons #[true, true, true, true, true, true, true, true] rfl rfl (fun _ hK_25 => ?_) ?_
     ·
      refine Wl.store1 one34PsS rfl rfl rfl hBe ?_
      rintro w_s3 hn_s3 hg_s3
      have hz_s3 := hg_s3.size
      have hb := below_blk hb hg_s3 hb.size (by omega)
      try have hBq := hBq.over hg_s3 (by omega)
      try have hBa := hBa.over hg_s3 (by omega)
      try have hB_o8 := hB_o8.over hg_s3 (by omega)
      have hBe := hn_s3
      refine Wl.nil ?_
      refine Wq.back hK_25 ⟨hb, hB_o8, ⟨_,hBq⟩, ⟨_,hBa⟩, _, hBe⟩ ?_
      refine Wa.done (by kernel_rfl) ?_
      refine end0 rfl ?_
      exact ⟨_, rfl, ⟨hBq, hBa, hBe⟩, hb⟩
     exact Ws.nil
    exact Ws.nil
   exact Ws.nil
  have c0_4_ := c0_4
  try simp only [DZ] at c0_4
  exact absurd c0_4_ (by simp [isNilI])
theorem catchI_r (g0 g1 g2 : Nat) (w : World) : CallsD Tryz.prog 20 [gptr0 g0, gptr0 g1, gptr0 g2].toArray .returning w fun r x w' => (∃ v, r = .returned v ∧ w' = w) ∧ x = .returning := by
  have hb := Below.refl w.heap.size w
  refine enterRec (v := .nilIface) (u' := .returning) Tryz.func20 rfl rfl rfl rfl rfl (fun c₀ cs hc => .inr ⟨by cases c₀; simp only at hc; subst hc; rfl, rfl, rfl⟩) ?_
  refine Wc.seq fun _ hK_1 => Wc.region <| Wl.mv rfl rfl ?_
  refine Wl.y (y_neqN (by kernel_rfl) rfl (.inl rfl)) rfl ?_
  refine Wl.nil <| Wq.next hK_1 ?_
  refine Wc.cond rfl (fun c0_4 => ?_) (fun c0_4 => ?_)
  ·
   have c0_4_ := c0_4
   try simp only [DZ] at c0_4
   exact absurd c0_4_ (by simp [isNilI])
  have c0_4_ := c0_4
  try simp only [DZ] at c0_4
  refine Wc.skip ?_
  refine end0 rfl ?_
  exact ⟨_, rfl, rfl⟩
end Go.Proofs.YtjnabgddjogkbaaGreatDoor
namespace Go.Proofs.YtjnabgddjogkbaaGreatDoor
open Go.RowKit Go.Bw Go.Bw.Fl
set_option linter.unusedVariables false
set_option linter.unusedSimpArgs false
theorem deepE_pos (e : ExprD) : 1 ≤ deepE e := by obtain ⟨k, nm, v, kids⟩ := e; show 1 ≤ deepEs kids + 1; omega
/-- each node has a token of its own -/
def Thin (F : Pe) : Prop := ∀ ts x r, F ts = .ok x r → deepE x + r.length ≤ ts.length
theorem deep_two (k : Int) (nm : List UInt8) (a b : ExprD) : deepE (twoE k nm a b) = max (deepE a) (deepE b) + 1 := by
  show max (deepE a) (max (deepE b) 0) + 1 = _
  rw [Nat.max_zero]
theorem isT_len {en : Nat} {xs : List (List UInt8)} {ts : List Tok} (h : isT en xs ts = true) : ts.tail.length + 1 = ts.length := by
  have := List.length_pos_iff.2 (isT_ne h)
  rw [List.length_tail]; omega
theorem manyGo_thin {en : Nat} {F : Pe} {M : List UInt8 → ExprD → ExprD → ExprD} {signs : List (List UInt8)} (hF : Thin F) (hM : ∀ s a b, deepE (M s a b) = max (deepE a) (deepE b) + 1) : ∀ (n : Nat) (x : ExprD) (ts : List Tok) (y : ExprD) (r : List Tok), manyGo en F M signs n x ts = .ok y r → deepE y + r.length ≤ deepE x + ts.length
  | 0, x, ts, y, r, h => by
    simp only [manyGo] at h
    injection h with h1 h2
    subst h1 h2; exact Nat.le_refl _
  | n + 1, x, ts, y, r, h => by
    simp only [manyGo] at h
    split at h
    · rename_i hi
      have hl := isT_len hi
      cases hs : F ts.tail with
      | err a e => rw [hs] at h; cases h
      | ok z r2 =>
        rw [hs] at h
        have h1 := hF _ _ _ hs
        have h2 := manyGo_thin hF hM n _ _ _ _ h
        rw [hM] at h2
        have := deepE_pos z
        have := deepE_pos x
        omega
    · injection h with h1 h2
      subst h1 h2; exact Nat.le_refl _
theorem many_thin {en : Nat} {F : Pe} {M : List UInt8 → ExprD → ExprD → ExprD} {signs : List (List UInt8)} (hF : Thin F) (hM : ∀ s a b, deepE (M s a b) = max (deepE a) (deepE b) + 1) : Thin (pMany en F M signs) := fun ts x r h => by
  simp only [pMany] at h
  cases hs : F ts with
  | err a e => rw [hs] at h; cases h
  | ok z r2 =>
    rw [hs] at h
    have h1 := hF _ _ _ hs
    have h2 := manyGo_thin hF hM _ _ _ _ _ h
    omega
theorem cntS_len (en : Nat) (s : List UInt8) : ∀ ts : List Tok, (cntS en s ts).1 + (cntS en s ts).2.length = ts.length
  | [] => rfl
  | t :: r => by
    simp only [cntS]
    split
    · have := cntS_len en s r
      simp only [List.length_cons]; omega
    · simp
theorem wrap_deep (k : Int) (nm : List UInt8) : ∀ (n : Nat) (x : ExprD), deepE (wrapN k nm n x) = deepE x + n
  | 0, x => rfl
  | n + 1, x => by
    show deepE (wrapN k nm n (.mk k nm nullV [x])) = _
    rw [wrap_deep k nm n]
    show max (deepE x) 0 + 1 + n = _
    rw [Nat.max_zero]; omega
theorem turned_thin {en : Nat} {F : Pe} {sign : List UInt8} {k : Int} {nm : List UInt8} (hF : Thin F) : Thin (pTurned en sign F k nm) := fun ts x r h => by
  simp only [pTurned] at h
  have hl := cntS_len en sign ts
  cases hs : F (cntS en sign ts).2 with
  | err a e => rw [hs] at h; cases h
  | ok z r2 =>
    rw [hs] at h
    injection h with h1 h2
    subst h1 h2
    have h1 := hF _ _ _ hs
    rw [wrap_deep]; omega
theorem text_len {en : Nat} {s : List UInt8} {ts r : List Tok} {t : Tok} (h : pText en s ts = .ok t r) : r.length + 1 = ts.length := by
  unfold pText at h
  split at h
  · rename_i hi; injection h with h1 h2; subst h2; exact isT_len hi
  · cases h
theorem kind_len {en k : Nat} {ts r : List Tok} {t : Tok} (hk : k ≠ 0) (h : pKind en k ts = .ok t r) : r.length + 1 = ts.length := by
  unfold pKind at h
  split at h
  · rename_i hi
    injection h with h1 h2
    subst h2
    have := List.length_pos_iff.2 (nextT_k hi hk)
    rw [List.length_tail]; omega
  · cases h
theorem bracket_thin {en b : Nat} {one : Nat → Pe} (h1 : ∀ b, Thin (one b)) : Thin (pBracket en b one) := fun ts x r h => by
  simp only [pBracket] at h
  cases ht : pText en [40] ts with
  | err a e => rw [ht] at h; cases h
  | ok t r1 =>
    rw [ht] at h
    dsimp only at h
    split at h
    · cases h
    · cases ho : one (b + 1) r1 with
      | err a e => rw [ho] at h; cases h
      | ok y r2 =>
        rw [ho] at h
        dsimp only at h
        cases h2 : pText en [41] r2 with
        | err a e => rw [h2] at h; cases h
        | ok t3 r3 =>
          rw [h2] at h
          injection h with h3 h4
          subst h3 h4
          have := text_len ht
          have := text_len h2
          have := h1 _ _ _ _ ho
          omega
theorem leaf_deep (k : Int) (nm : List UInt8) (v : Val) : deepE (.mk k nm v []) = 1 := rfl
theorem label_thin {en b : Nat} {knot : Nat → Pe} (h1 : ∀ b, Thin (knot b)) : Thin (pLabel en b knot) := fun ts x r h => by
  simp only [pLabel] at h
  split at h
  · exact bracket_thin h1 ts x r h
  · split at h
    · rename_i hi
      injection h with h3 h4
      subst h3 h4
      have := isT_len hi
      rw [leaf_deep]; omega
    · cases hk : pKind en 1 ts with
      | err a e => rw [hk] at h; cases h
      | ok t r1 =>
        rw [hk] at h
        injection h with h3 h4
        subst h3 h4
        have := kind_len (by decide) hk
        rw [leaf_deep]; omega
theorem labels_thin (en : Nat) : ∀ n b, Thin (pLabels en n b)
  | 0, b => fun ts x r h => by cases h
  | n + 1, b => many_thin (many_thin (turned_thin (label_thin (labels_thin en n))) fun _ a b => deep_two 7 [] a b) fun _ a b => deep_two 8 [] a b
theorem lit_thin {s : List UInt8} {a : Int} {r r2 : List Tok} {x : ExprD} (h : pLit s a r = .ok x r2) : deepE x = 1 ∧ r2 = r := by
  unfold pLit at h
  cases hl : litV s with
  | none => rw [hl] at h; cases h
  | some v =>
    rw [hl] at h
    injection h with h3 h4
    subst h3 h4
    exact ⟨rfl, rfl⟩
theorem num_thin {en : Nat} {s : List UInt8} {ts r : List Tok} {x : ExprD} (h : pNum en s ts = .ok x r) : deepE x + r.length ≤ ts.length := by
  unfold pNum at h
  split at h
  · cases h
  · rename_i hn
    obtain ⟨h1, h2⟩ := lit_thin h
    have hne : ts ≠ [] := by
      by_cases e : (nextT en ts).k = 3
      · exact nextT_k e (by decide)
      · cases e2 : isT en [wInf] ts with
        | true => exact isT_ne e2
        | false => exact absurd ⟨e, e2⟩ hn
    have := List.length_pos_iff.2 hne
    rw [h1, h2, List.length_tail]; omega
theorem atom_thin {en b : Nat} {knot : Nat → Pe} (h1 : ∀ b, Thin (knot b)) : Thin (pAtom en b knot) := fun ts x r h => by
  unfold pAtom at h
  split at h
  · rename_i hk
    injection h with h3 h4
    subst h3 h4
    have := List.length_pos_iff.2 (nextT_k hk (by decide))
    rw [leaf_deep, List.length_tail]; omega
  · split at h
    · exact bracket_thin h1 ts x r h
    · split at h
      · rename_i hk
        obtain ⟨h2, h3⟩ := lit_thin h
        have hne : ts ≠ [] := by
          rcases hk with hk | hk
          · exact nextT_k hk (by decide)
          · exact isT_ne hk
        have := List.length_pos_iff.2 hne
        rw [h2, h3, List.length_tail]; omega
      · split at h
        · rename_i hk
          have := num_thin h
          have := isT_len hk
          omega
        · exact num_thin h
theorem op_deep (s : List UInt8) (a b : ExprD) : deepE (opE s a b) = max (deepE a) (deepE b) + 1 := deep_two 3 _ a b
theorem test_thin {en b : Nat} {knot : Nat → Pe} (h1 : ∀ b, Thin (knot b)) : Thin (pTest en b knot) := fun ts x r h => by
  have hS : Thin (pSum en b knot) := many_thin (many_thin (atom_thin h1) op_deep) op_deep
  simp only [pTest] at h
  cases hs : pSum en b knot ts with
  | err a e => rw [hs] at h; cases h
  | ok y r1 =>
    rw [hs] at h
    have h2 := hS _ _ _ hs
    dsimp only at h
    split at h
    · rename_i hi
      have := isT_len hi
      cases hs2 : pSum en b knot r1.tail with
      | err a e => rw [hs2] at h; cases h
      | ok z r2 =>
        rw [hs2] at h
        injection h with h3 h4
        subst h3 h4
        have h5 := hS _ _ _ hs2
        have := deepE_pos y
        have := deepE_pos z
        rw [op_deep]; omega
    · split at h
      · rename_i hi
        have := isT_len hi
        cases ht2 : pText en wNull r1.tail with
        | err a e => rw [ht2] at h; cases h
        | ok t r2 =>
          rw [ht2] at h
          injection h with h3 h4
          subst h3 h4
          have := text_len ht2
          show max (deepE y) 0 + 1 + _ ≤ _
          rw [Nat.max_zero]; omega
      · injection h with h3 h4
        subst h3 h4
        exact h2
theorem expr_thin (en : Nat) : ∀ n b, Thin (pExpr en n b)
  | 0, b => fun ts x r h => by cases h
  | n + 1, b => many_thin (many_thin (turned_thin (test_thin (expr_thin en n))) op_deep) op_deep
/-! ### patterns -/
theorem fillW_thin {en n : Nat} {k : Int} {var : List UInt8} {lab : ExprD} {ts r : List Tok} {x : PatD} {m : Nat} (h : pFillW en n k var lab ts = .ok x r) (hl : deepE lab ≤ m + 1) (hm : ts.length ≤ m) : r.length ≤ ts.length ∧ deepP x = 1 ∧ deepX x ≤ m + 1 := by
  unfold pFillW at h
  split at h
  · rename_i hi
    have := isT_len hi
    cases he : pExpr en n 0 ts.tail with
    | err a e => rw [he] at h; cases h
    | ok y r2 =>
      rw [he] at h
      injection h with h3 h4
      subst h3 h4
      have := expr_thin en n 0 _ _ _ he
      refine ⟨by omega, rfl, ?_⟩
      show max (max (deepE lab) (deepE y)) 0 ≤ _
      omega
  · injection h with h3 h4
    subst h3 h4
    refine ⟨Nat.le_refl _, rfl, ?_⟩
    show max (max (deepE lab) 1) 0 ≤ _
    omega
theorem fillL_thin {en n : Nat} {k : Int} {var : List UInt8} {ts r : List Tok} {x : PatD} {m : Nat} (h : pFillL en n k var ts = .ok x r) (hm : ts.length ≤ m) : r.length ≤ ts.length ∧ deepP x = 1 ∧ deepX x ≤ m + 1 := by
  unfold pFillL at h
  split at h
  · rename_i hi
    have := isT_len hi
    cases he : pLabels en n 0 ts.tail with
    | err a e => rw [he] at h; cases h
    | ok y r2 =>
      rw [he] at h
      have := labels_thin en n 0 _ _ _ he
      have h2 := fillW_thin (m := m) h (by omega) (by omega)
      exact ⟨by omega, h2.2⟩
  · exact fillW_thin h (by show 1 ≤ _; omega) hm
theorem fill_thin {en n : Nat} {k : Int} {ts r : List Tok} {x : PatD} (h : pFill en n k ts = .ok x r) : r.length ≤ ts.length ∧ deepP x = 1 ∧ deepX x ≤ ts.length + 1 := by
  unfold pFill at h
  split at h
  · have hl : ts.tail.length ≤ ts.length := by rw [List.length_tail]; omega
    have h2 := fillL_thin (m := ts.length) h hl
    exact ⟨by omega, h2.2⟩
  · exact fillL_thin h (Nat.le_refl _)
def ThinP (F : List Tok → Res PatD) : Prop := ∀ ts x r, F ts = .ok x r → deepP x + r.length ≤ ts.length ∧ deepX x ≤ ts.length
theorem setDir_deep (d : Int) (x : PatD) : deepP (x.setDir d) = deepP x ∧ deepX (x.setDir d) = deepX x := by
  obtain ⟨k, var, dir, l, w, mn, mx, kids⟩ := x
  exact ⟨rfl, rfl⟩
theorem primary_thin {en m g : Nat} {knot : Nat → List Tok → Res PatD} (h1 : ∀ g, ThinP (knot g)) : ThinP (pPrimary en m g knot) := fun ts x r h => by
  unfold pPrimary at h
  split at h
  · cases h
  · rename_i hb
    have hl := List.length_pos_iff.2 (begins_ne (by simpa using hb))
    have ht : ts.tail.length + 1 = ts.length := by rw [List.length_tail]; omega
    split at h
    · cases hf : pFill en m 1 ts.tail with
      | err a e => rw [hf] at h; cases h
      | ok y r2 =>
        rw [hf] at h
        dsimp only at h
        cases h2 : pText en [41] r2 with
        | err a e => rw [h2] at h; cases h
        | ok t3 r3 =>
          rw [h2] at h
          injection h with h3 h4
          subst h3 h4
          have := text_len h2
          have := fill_thin hf
          omega
    · split at h
      · split at h
        · cases h
        · cases hf : knot (g + 1) ts.tail with
          | err a e => rw [hf] at h; cases h
          | ok y r2 =>
            rw [hf] at h
            dsimp only at h
            cases h2 : pText en [93] r2 with
            | err a e => rw [h2] at h; cases h
            | ok t3 r3 =>
              rw [h2] at h
              injection h with h3 h4
              subst h3 h4
              have := text_len h2
              have := h1 _ _ _ _ hf
              omega
      · split at h
        · injection h with h3 h4
          subst h3 h4
          refine ⟨by show 1 + _ ≤ _; omega, ?_⟩
          show max (max 1 1) 0 ≤ _
          omega
        · cases hf : pFill en m 2 ts.tail with
          | err a e => rw [hf] at h; cases h
          | ok y r2 =>
            rw [hf] at h
            dsimp only at h
            have := fill_thin hf
            split at h
            · cases h
            · split at h
              · rename_i hk
                injection h with h3 h4
                subst h3 h4
                have hr := List.length_pos_iff.2 (nextT_k hk (by decide))
                rw [(setDir_deep _ y).1, (setDir_deep _ y).2, List.length_tail]
                omega
              · cases h
theorem whole_len {en : Nat} {a : Int} {ts r : List Tok} {k : Int} (h : pWhole en a ts = .ok k r) : r.length + 1 = ts.length := by
  unfold pWhole at h
  cases hk : pKind en 3 ts with
  | err a e => rw [hk] at h; cases h
  | ok t r1 =>
    rw [hk] at h
    dsimp only at h
    have := kind_len (by decide) hk
    cases hl : litV t.t with
    | none => rw [hl] at h; cases h
    | some v =>
      rw [hl] at h
      dsimp only at h
      split at h
      · injection h with h3 h4; subst h4; exact this
      · cases h
theorem timesE_len {en : Nat} {a mn mx : Int} {ts r : List Tok} {o : Option (Int × Int)} (h : pTimesE en a mn mx ts = .ok o r) : r.length + 1 = ts.length := by
  unfold pTimesE at h
  cases ht : pText en [125] ts with
  | err a e => rw [ht] at h; cases h
  | ok t r1 =>
    rw [ht] at h
    dsimp only at h
    have := text_len ht
    unfold timesOk at h
    split at h
    · cases h
    · split at h
      · cases h
      · injection h with h3 h4; subst h4; exact this
theorem times_len {en : Nat} {ts r : List Tok} {o : Option (Int × Int)} (h : pTimes en ts = .ok o r) : r.length ≤ ts.length ∧ (o = none ∨ r.length + 1 ≤ ts.length) := by
  unfold pTimes at h
  split at h
  · injection h with h3 h4; subst h3 h4; exact ⟨Nat.le_refl _, .inl rfl⟩
  · rename_i h0
    have ht := isT_len (show isT en [[42], [43], [63], [123]] ts = true by simpa using h0)
    suffices hh : r.length + 1 ≤ ts.length from ⟨by omega, .inr hh⟩
    split at h
    · injection h with h3 h4; subst h4; omega
    · split at h
      · injection h with h3 h4; subst h4; omega
      · split at h
        · injection h with h3 h4; subst h4; omega
        · cases hw : pWhole en (nextT en ts).a ts.tail with
          | err a e => rw [hw] at h; cases h
          | ok mn r1 =>
            rw [hw] at h
            have h1 := whole_len hw
            dsimp only at h
            by_cases h4 : isT en [[44]] r1 = true
            · have ht4 := isT_len h4
              rw [if_pos h4] at h
              by_cases h5 : isT en [[125]] r1.tail = true
              · rw [if_pos h5] at h
                have := timesE_len (show pTimesE en (nextT en ts).a mn (-1) r1.tail = .ok o r from h)
                omega
              · rw [if_neg h5] at h
                cases hw2 : pWhole en (nextT en ts).a r1.tail with
                | err a e => rw [hw2] at h; cases h
                | ok mx r2 =>
                  rw [hw2] at h
                  have h6 := whole_len hw2
                  have := timesE_len (show pTimesE en (nextT en ts).a mn mx r2 = .ok o r from h)
                  omega
            · rw [if_neg h4] at h
              have := timesE_len (show pTimesE en (nextT en ts).a mn mn r1 = .ok o r from h)
              omega
theorem deepP_pos (e : PatD) : 1 ≤ deepP e := by obtain ⟨k, var, d, l, w, mn, mx, kids⟩ := e; show 1 ≤ deepPs kids + 1; omega
theorem deepXs_snoc (x : PatD) : ∀ l : List PatD, deepXs (l ++ [x]) = max (deepXs l) (deepX x)
  | [] => by show max (deepX x) (deepXs []) = max (deepXs []) (deepX x); exact Nat.max_comm _ _
  | y :: r => by
    show max (deepX y) (deepXs (r ++ [x])) = max (max (deepX y) (deepXs r)) (deepX x)
    rw [deepXs_snoc x r, Nat.max_assoc]
theorem item_thin {en m g : Nat} {knot : Nat → List Tok → Res PatD} (h1 : ∀ g, ThinP (knot g)) : ThinP (pItem en m g knot) := fun ts x r h => by
  unfold pItem at h
  cases hp : pPrimary en m g knot ts with
  | err a e => rw [hp] at h; cases h
  | ok y r1 =>
    rw [hp] at h
    dsimp only at h
    have h2 := primary_thin h1 _ _ _ hp
    cases ht : pTimes en r1 with
    | err a e => rw [ht] at h; cases h
    | ok o r2 =>
      rw [ht] at h
      have h3 := times_len ht
      cases o with
      | none =>
        injection h with h4 h5
        subst h4 h5
        omega
      | some q =>
        obtain ⟨mn, mx⟩ := q
        injection h with h4 h5
        subst h4 h5
        have h6 : r2.length + 1 ≤ r1.length := by
          rcases h3.2 with h | h
          · cases h
          · exact h
        refine ⟨?_, ?_⟩
        · show max (deepP y) 0 + 1 + _ ≤ _
          omega
        · show max (max 1 1) (max (deepX y) 0) ≤ _
          have := deepP_pos y
          omega
theorem rowGo_thin {go : List Tok → Option (List Tok)} {one : List Tok → Res PatD} (hgo : ∀ ts ts', go ts = some ts' → ts'.length ≤ ts.length) (h1 : ThinP one) (N : Nat) : ∀ (n : Nat) (l : List PatD) (ts : List Tok) (l2 : List PatD) (r : List Tok), rowGo go one n l ts = .ok l2 r → 1 ≤ l.length → 1 ≤ deepPs l → deepPs l + (l.length - 1) + ts.length ≤ N → deepXs l ≤ N → ts.length ≤ N → 1 ≤ l2.length ∧ deepPs l2 + (l2.length - 1) + r.length ≤ N ∧ deepXs l2 ≤ N
  | 0, l, ts, l2, r, h, ha, hb, hc, hd, he => by
    simp only [rowGo] at h
    injection h with h3 h4
    subst h3 h4
    exact ⟨ha, hc, hd⟩
  | n + 1, l, ts, l2, r, h, ha, hb, hc, hd, he => by
    simp only [rowGo] at h
    cases hg : go ts with
    | none =>
      rw [hg] at h
      injection h with h3 h4
      subst h3 h4
      exact ⟨ha, hc, hd⟩
    | some ts' =>
      rw [hg] at h
      dsimp only at h
      have hl := hgo _ _ hg
      cases ho : one ts' with
      | err a e => rw [ho] at h; cases h
      | ok y r1 =>
        rw [ho] at h
        have h2 := h1 _ _ _ ho
        have := deepP_pos y
        have hs : (l ++ [y]).length = l.length + 1 := by rw [List.length_append]; rfl
        exact rowGo_thin hgo h1 N n _ _ _ _ h (by omega) (by rw [deepPs_snoc]; omega) (by rw [deepPs_snoc, hs]; omega) (by rw [deepXs_snoc]; omega) (by omega)
theorem someP_deep (k : Int) (l : List PatD) (h : 1 ≤ l.length) : deepP (someP k l) ≤ deepPs l + (l.length - 1) ∧ deepX (someP k l) ≤ max 1 (deepXs l) := by
  cases l with
  | nil => cases h
  | cons a r =>
    cases r with
    | nil =>
      refine ⟨Nat.le_max_left _ _, ?_⟩
      show deepX a ≤ max 1 (max (deepX a) 0)
      omega
    | cons b r =>
      refine ⟨?_, ?_⟩
      · show deepPs (a :: b :: r) + 1 ≤ deepPs (a :: b :: r) + (r.length + 1 + 1 - 1)
        omega
      · show max (max 1 1) (deepXs (a :: b :: r)) ≤ _
        omega
theorem row_thin {k : Int} {go : List Tok → Option (List Tok)} {one : List Tok → Res PatD} (hgo : ∀ ts ts', go ts = some ts' → ts'.length ≤ ts.length) (h1 : ThinP one) : ThinP (pRow k go one) := fun ts x r h => by
  unfold pRow at h
  cases ho : one ts with
  | err a e => rw [ho] at h; cases h
  | ok y r1 =>
    rw [ho] at h
    dsimp only at h
    have h2 := h1 _ _ _ ho
    have hp := deepP_pos y
    cases hr : rowGo go one r1.length [y] r1 with
    | err a e => rw [hr] at h; cases h
    | ok l2 r2 =>
      rw [hr] at h
      injection h with h4 h5
      subst h4 h5
      have e1 : deepPs [y] = deepP y := Nat.max_eq_left (Nat.zero_le _)
      have e2 : deepXs [y] = deepX y := Nat.max_eq_left (Nat.zero_le _)
      have h3 := rowGo_thin hgo h1 ts.length _ _ _ _ _ hr (Nat.le_refl 1) (by omega) (by rw [e1]; show deepP y + 0 + _ ≤ _; omega) (by omega) (by omega)
      have h6 := someP_deep k l2 h3.1
      omega
theorem pat_thin (en m : Nat) : ∀ n g, ThinP (pPat en m n g)
  | 0, g => fun ts x r h => by cases h
  | n + 1, g => row_thin (fun ts ts' h => by
      split at h
      · injection h with h; subst h; rw [List.length_tail]; omega
      · cases h) (row_thin (fun ts ts' h => by
      split at h
      · injection h with h; subst h; exact Nat.le_refl _
      · cases h) (item_thin (pat_thin en m n)))
theorem tail_le (ts : List Tok) : ts.tail.length ≤ ts.length := by rw [List.length_tail]; omega
theorem sel_len {en : Nat} {ts r : List Tok} {sk : Int × Int} (h : pSel en ts = .ok sk r) : r.length ≤ ts.length := by
  have h1 := tail_le ts
  have h2 := tail_le ts.tail
  unfold pSel at h
  split at h
  · split at h
    · injection h with h3 h4; subst h4; omega
    · injection h with h3 h4; subst h4; omega
  · split at h
    · injection h with h3 h4; subst h4; omega
    · split at h
      · cases hw : pWhole en (nextT en ts.tail).a ts.tail with
        | err a e => rw [hw] at h; cases h
        | ok k r1 =>
          rw [hw] at h
          dsimp only at h
          have := whole_len hw
          split at h
          · cases h
          · split at h
            · cases h
            · injection h with h3 h4; subst h4; omega
      · injection h with h3 h4; subst h4; exact Nat.le_refl _
theorem mode_len (en : Nat) (ts : List Tok) : (pMode en ts).2.length ≤ ts.length := by
  unfold pMode
  split
  · exact tail_le ts
  · exact Nat.le_refl _
theorem query_thin {en : Nat} {ts r : List Tok} {q : QryD} (h : pQuery en ts = .ok q r) : deepP q.pat ≤ ts.length ∧ deepX q.pat ≤ ts.length := by
  unfold pQuery at h
  have h0 := mode_len en ts
  cases hs : pSel en (pMode en ts).2 with
  | err a e => rw [hs] at h; cases h
  | ok sk r1 =>
    rw [hs] at h
    dsimp only at h
    have h1 := sel_len hs
    cases hp : pPat en (ts.length + 1) (ts.length + 1) 0 r1 with
    | err a e => rw [hp] at h; cases h
    | ok x r2 =>
      rw [hp] at h
      dsimp only at h
      have h2 := pat_thin en _ _ _ _ _ _ hp
      split at h
      · cases h
      · injection h with h3 h4
        subst h3
        show deepP x ≤ _ ∧ deepX x ≤ _
        omega
/-- a token's text is no longer than the text -/
theorem lex_small (N : Nat) : ∀ (s : List UInt8) (i : Nat) (l : List Tok), s.length ≤ N → lexV s i = .ok l → ∀ t ∈ l, t.t.length ≤ s.length := by
  induction N using Nat.strongRecOn with
  | ind N ih =>
  intro s i l hN h t ht
  cases s with
  | nil => rw [lexV_nil] at h; injection h with h; subst h; cases ht
  | cons c r =>
    cases hb : blank c with
    | true =>
      rw [lexV_blank i hb] at h
      have hr : r.length < N := by simp only [List.length_cons] at hN; omega
      have := ih r.length hr r (i + 1) l (Nat.le_refl _) h t ht
      simp only [List.length_cons]; omega
    | false =>
      by_cases h0 : (tokV (c :: r)).1 = 0
      · rw [lexV_bad i hb h0] at h; cases h
      · rw [lexV_tok i hb h0] at h
        have hn := tokV_len (c :: r) (by simp)
        have hd : ((c :: r).drop (tokV (c :: r)).2).length < N := by rw [List.length_drop]; simp only [List.length_cons] at hN ⊢; omega
        cases hl : lexV ((c :: r).drop (tokV (c :: r)).2) (i + (tokV (c :: r)).2) with
        | error e => rw [hl] at h; cases h
        | ok l2 =>
          rw [hl] at h
          injection h with h
          subst h
          rcases List.mem_cons.1 ht with rfl | ht
          · rw [List.length_take]; exact Nat.min_le_right _ _
          · have := ih _ hd _ _ _ (Nat.le_refl _) hl t ht
            rw [List.length_drop] at this
            omega
end Go.Proofs.YtjnabgddjogkbaaGreatDoor
namespace Go.Proofs.YtjnabgddjogkbaaGreatDoor
open Go.RowKit Go.Bw Go.Bw.Fl
set_option linter.unusedVariables false
set_option linter.unusedSimpArgs false
theorem fa33_3PsU (p : Addr) (w : World) : (Instr.fieldAt 33 (.pointer (some p)) 3).run Tryz.prog w = .ok (.pointer (some (p.add 3))) w := run_fieldAt (i := 3) (sz := 19) Tryz.underlying33 rfl (by kernel_rfl) p w
theorem one3PsU : One Tryz.prog 3 := ⟨_, Tryz.underlying3, rfl, by kernel_rfl⟩
theorem one34PsU : One Tryz.prog 34 := ⟨_, Tryz.underlying34, rfl, by kernel_rfl⟩
theorem txt15PsU : Txt Tryz.prog 15 := ⟨_, Tryz.func15, by kernel_rfl, rfl⟩   -- bridleway/lex.Lex
theorem txt21PsU : Txt Tryz.prog 21 := ⟨_, Tryz.func21, by kernel_rfl, rfl⟩   -- (*bridleway/parse.parser).query
theorem txt22PsU : Txt Tryz.prog 22 := ⟨_, Tryz.func22, by kernel_rfl, rfl⟩   -- bridleway/parse.patDeep
theorem txt23PsU : Txt Tryz.prog 23 := ⟨_, Tryz.func23, by kernel_rfl, rfl⟩   -- bridleway/parse.deep
/-- what Lex tells, in one form, for Parse -/
theorem lexIs_p {s : List UInt8} {v : Value} {w' : World} (h : LexIs s v w') : ∃ (A : Option Addr) (n c : Nat) (a e : Int), v = .tuple #[.slice A n c, .int .i64 a, .int .i64 e] ∧ ((e ≠ 0 ∧ parseV s = (noQ, a, e)) ∨ (e = 0 ∧ ∃ l, n = l.length ∧ s.length ≤ 65536 ∧ lexV s 0 = .ok l ∧ parseV s = parseT s.length l ∧ l.length ≤ 65536 ∧ l.length ≤ c ∧ Rd w' 3 A l.length (l.flatMap Tok.cells) ∧ ∀ q, A = some q → q.block < w'.heap.size)) := by
  rcases h with ⟨h, hv⟩ | ⟨h, i, he, hv⟩ | ⟨h, l, A, c, he, hv, h1, h2, h3, h4⟩
  · exact ⟨none, 0, 0, 0, 6, hv, .inl ⟨by decide, by unfold parseV; rw [if_pos h]⟩⟩
  · exact ⟨none, 0, 0, i, 2, hv, .inl ⟨by decide, by unfold parseV; rw [if_neg (by omega), he]⟩⟩
  · exact ⟨A, l.length, c, 0, 0, hv, .inr ⟨rfl, l, rfl, h, he, by unfold parseV; rw [if_neg (by omega), he], h1, h2, h3, h4⟩⟩
theorem Lex_p (s : List UInt8) (hs : s.length ≤ 70368744177664) (w : World) (hX : Lx w) : Ret Tryz.prog 15 [str s] w fun v w' => (∃ (A : Option Addr) (l : List Tok) (c : Nat) (a e : Int), v = .tuple #[.slice A l.length c, .int .i64 a, .int .i64 e] ∧ Rd w' 3 A l.length (l.flatMap Tok.cells) ∧ (∀ q, A = some q → q.block < w'.heap.size) ∧ ((e ≠ 0 ∧ parseV s = (noQ, a, e)) ∨ (e = 0 ∧ s.length ≤ 65536 ∧ lexV s 0 = .ok l ∧ parseV s = parseT s.length l ∧ l.length ≤ 65536 ∧ l.length ≤ c))) ∧ Below w.heap.size w w' :=
  (Lex_r s hs w hX).mono fun v w' ⟨h, h2⟩ => by
    refine ⟨?_, h2⟩
    obtain ⟨A, n, c, a, e, hv, h3⟩ := lexIs_p h
    rcases h3 with ⟨h4, h5⟩ | ⟨h4, l, hn, h5, h6, h7, h8, h9, h10, h11⟩
    · rcases h with ⟨_, hv2⟩ | ⟨_, i, _, hv2⟩ | ⟨_, l, A', c', _, hv2, _⟩
      · rw [hv] at hv2; cases hv2
        exact ⟨none, [], 0, _, _, hv, Rd.nil _ _ _, (fun q e => by cases e), .inl ⟨h4, h5⟩⟩
      · rw [hv] at hv2; cases hv2
        exact ⟨none, [], 0, _, _, hv, Rd.nil _ _ _, (fun q e => by cases e), .inl ⟨h4, h5⟩⟩
      · rw [hv] at hv2; cases hv2; exact absurd rfl h4
    · subst hn
      exact ⟨A, l, c, a, e, hv, h10, h11, .inr ⟨h4, h5, h6, h7, h8, h9⟩⟩
/-- a block of one cell holds no tokens -/
theorem Rd.toks1 {w w' : World} {A : Option Addr} {l : List Tok} {g : Nat} {t : TypeId} {v : Value} (h : Rd w 3 A l.length (l.flatMap Tok.cells)) (hB : Blk w g t [v]) (hg : w.grownBy w' (some g)) : Rd w' 3 A l.length (l.flatMap Tok.cells) := by
  rcases Nat.eq_zero_or_pos l.length with h0 | h0
  · have : l = [] := List.length_eq_zero_iff.1 h0
    subst this; exact Rd.nil _ _ _
  · refine h.kp hg fun q e hq => ?_
    subst e
    obtain ⟨p, hp, hc⟩ := Rd.tok h h0
    cases hp
    have h1 := hc 1 (str (l[0]).t) rfl
    obtain ⟨b, o, x⟩ := q
    cases hq
    rw [addr_add_add] at h1
    cases x with
    | none =>
      have h2 : w.cell? ⟨b, o + (0 * 3 + 1), none⟩ = [v][o + (0 * 3 + 1)]? := hB.cell _
      rw [show ((⟨b, o, none⟩ : Addr).add (0 * 3 + 1)) = ⟨b, o + (0 * 3 + 1), none⟩ from rfl, h2] at h1
      simp at h1
    | some x =>
      have h2 : w.heap[b]? = some (.cells #[v] t (0, 0)) := hB
      simp [World.cell?, Addr.add, h2] at h1
theorem txtC : Txt Tryz.prog 20 := ⟨_, Tryz.func20, by kernel_rfl, rfl⟩
/-- what Parse tells: the query's value, made since block B -/
def PrsIs (B : Nat) (s : List UInt8) (v : Value) (w : World) : Prop := ∃ (q : QryD) (a e : Int) (z : PC) (S : Nat → Prop), parseV s = (q, a, e) ∧ v = .tuple #[.agg (qcells q.mode q.sel q.kk z).toArray, .int .i64 a, .int .i64 e] ∧ PAt w S q.pat z.cells ∧ ∀ k, S k → B ≤ k ∧ k < w.heap.size
theorem noP_at (w : World) : PAt w (fun _ => False) noP pc0.cells := PAt.nokids (noE_at w _) (noE_at w _)
theorem qcells_pat (a b c : Int) (z : PC) {j : Nat} {u : Value} (h : z.cells[j]? = some u) : (qcells a b c z)[3 + j]? = some u := by
  show ([Value.int .i64 a, .int .i64 b, .int .i64 c] ++ z.cells)[3 + j]? = _
  rw [List.getElem?_append_right (by simp)]; simpa using h
set_option maxHeartbeats 400000 in
theorem ParseQ_r (s : List UInt8) (hs : s.length ≤ 70368744177664) (wA : World) (hX : Lx wA) : Ret Tryz.prog 12 [str s] wA fun v w' => PrsIs wA.heap.size s v w' ∧ Below wA.heap.size wA w' := by
  have hb := Below.refl wA.heap.size wA
  have hX_hb := hX
  refine enterD Tryz.func12 rfl rfl rfl ?_
  refine Wc.seqD fun _ hK_1 => ?_
  refine Wc.region ?_
  refine Wl.allocN (z := (.agg #[(.int .i64 0), (.int .i64 0), (.int .i64 0), (.int .i64 0), (str []), (.int .i64 0), (.int .i64 0), (str []), (.int .i64 0), (.int .i64 0), (.float .f64 0), (str []), (.slice none 0 0), (.int .i64 0), (str []), (.int .i64 0), (.int .i64 0), (.float .f64 0), (str []), (.slice none 0 0), (.int .i64 0), (.int .i64 0), (.slice none 0 0)])) (by kernel_rfl) rfl ?_
  rintro g_o0 w_o0 hg_o0 hn_o0 hs_o0
  have hz_o0 := hs_o0.size
  have hb := hb.trans (hs_o0.mono hb.size)
  have hX := hX_hb.below hb
  have hB_o0 := hn_o0
  have hl_o0 := hB_o0.lt
  refine Wl.allocN (z := (.int .i64 0)) (by kernel_rfl) rfl ?_
  rintro g_o1 w_o1 hg_o1 hn_o1 hs_o1
  have hz_o1 := hs_o1.size
  have hb := hb.trans (hs_o1.mono hb.size)
  have hX := hX_hb.below hb
  try have hB_o0 := Blk.below hB_o0 hs_o1
  have hB_o1 := hn_o1
  have hl_o1 := hB_o1.lt
  refine Wl.allocN (z := (.int .i64 0)) (by kernel_rfl) rfl ?_
  rintro g_o2 w_o2 hg_o2 hn_o2 hs_o2
  have hz_o2 := hs_o2.size
  have hb := hb.trans (hs_o2.mono hb.size)
  have hX := hX_hb.below hb
  try have hB_o0 := Blk.below hB_o0 hs_o2
  try have hB_o1 := Blk.below hB_o1 hs_o2
  have hB_o2 := hn_o2
  have hl_o2 := hB_o2.lt
  refine Wl.nil ?_
  refine Wq.nextD hK_1 ?_
  refine Wc.seqD fun _ hK_5 => ?_
  refine Wc.region <| Wl.mv rfl rfl ?_
  refine Wl.call txt15PsU rfl rfl (Lex_p s hs _ hX) rfl ?_
  rintro _ w_k0 ⟨⟨A, l, c, a, e, rfl, hR, hA, hlx⟩, hs_k0⟩
  have hz_k0 := hs_k0.size
  have hb := hb.trans (hs_k0.mono hb.size)
  have hX := hX_hb.below hb
  try have hB_o0 := Blk.below hB_o0 hs_k0
  try have hB_o1 := Blk.below hB_o1 hs_k0
  try have hB_o2 := Blk.below hB_o2 hs_k0
  refine Wl.mv rfl rfl <| Wl.y (y_extract rfl rfl) rfl <| Wl.y (y_extract rfl rfl) rfl <| Wl.y (y_extract rfl rfl) rfl <| Wl.sg rfl rfl ?_
  have hB1_ := hB_o1
  refine Wl.store1 one3PsU rfl rfl rfl hB_o1 ?_
  rintro w_s0 hn_s0 hg_s0
  have hz_s0 := hg_s0.size
  have hb := below_blk hb hg_s0 hb.size (by omega)
  have hX := hX_hb.below hb
  try have hB_o0 := hB_o0.over hg_s0 (by omega)
  try have hB_o2 := hB_o2.over hg_s0 (by omega)
  have hB_o1 := hn_s0
  have hR := Rd.toks1 hR hB1_ hg_s0
  have hB2_ := hB_o2
  refine Wl.store1 one34PsU rfl rfl rfl hB_o2 ?_
  rintro w_s1 hn_s1 hg_s1
  have hz_s1 := hg_s1.size
  have hb := below_blk hb hg_s1 hb.size (by omega)
  have hX := hX_hb.below hb
  try have hB_o0 := hB_o0.over hg_s1 (by omega)
  try have hB_o1 := hB_o1.over hg_s1 (by omega)
  have hB_o2 := hn_s1
  refine Wl.nil ?_
  refine Wq.nextD hK_5 ?_
  refine Wc.seqD fun _ hK_13 => ?_
  refine Wc.seqD fun _ hK_14 => ?_
  have hR := Rd.toks1 hR hB2_ hg_s1
  refine Wc.region ?_
  refine Wl.l (l_load one34PsU rfl (by exact hB_o2.at (j := 0) rfl)) rfl ?_
  refine Wl.y (y_neqi rfl rfl) rfl <| Wl.nil ?_
  refine Wq.nextD hK_14 ?_
  refine Wc.cond rfl (fun c0_17 => ?_) (fun c0_17 => ?_)
  ·
   have c0_17_ := c0_17
   try simp only [DZ] at c0_17
   have he : e ≠ 0 := by have := c0_17; simpa using this
   have hpv : parseV s = (noQ, a, e) := by rcases hlx with h | h; (· exact h.2); (· exact absurd h.1 he)
   refine Wc.seqD fun _ hK_18 => ?_
   refine Wc.any (n := 6) (fun w' => Below wA.heap.size wA w' ∧ Blk w' g_o0 33 (qcells 0 0 0 pc0) ∧ Blk w' g_o1 3 [.int .i64 a] ∧ Blk w' g_o2 34 [.int .i64 e]) #[false, false, false, false, false, false] (by kernel_rfl) rfl (by kernel_rfl) ?_
   refine Wa.drew ?_
   rintro w_g3 hs_g3
   have hz_g3 := hs_g3.size
   have hb := hb.trans (hs_g3.mono hb.size)
   have hX := hX_hb.below hb
   try have hB_o0 := Blk.below hB_o0 hs_g3
   try have hB_o1 := Blk.below hB_o1 hs_g3
   try have hB_o2 := Blk.below hB_o2 hs_g3
   refine Wa.take (i := 0) #[true, false, false, false, false, false] rfl (by kernel_rfl) (fun _ _ _ h => leaves_put3 rfl rfl rfl rfl h) rfl (fun wq hq => l_loadS Tryz.underlying33 (by kernel_rfl) rfl (by obtain ⟨hq, hB_o0, hB_o1, hB_o2⟩ := hq; exact fun j u hu => hB_o0.at hu)) ⟨hb, hB_o0, hB_o1, hB_o2⟩ ?_
   refine Wa.take (i := 1) #[true, true, false, false, false, false] rfl (by kernel_rfl) (fun _ _ _ h => leaves_put3 rfl rfl rfl rfl h) rfl (fun wq hq => l_load one3PsU rfl (by obtain ⟨hq, hB_o0, hB_o1, hB_o2⟩ := hq; exact hB_o1.at (j := 0) rfl)) ⟨hb, hB_o0, hB_o1, hB_o2⟩ ?_
   refine Wa.take (i := 2) #[true, true, true, false, false, false] rfl (by kernel_rfl) (fun _ _ _ h => leaves_put3 rfl rfl rfl rfl h) rfl (fun wq hq => l_load one34PsU rfl (by obtain ⟨hq, hB_o0, hB_o1, hB_o2⟩ := hq; exact hB_o2.at (j := 0) rfl)) ⟨hb, hB_o0, hB_o1, hB_o2⟩ ?_
   refine Wa.some (rs := [3]) (by kernel_rfl) rfl ?_
   refine Ws.consD #[true, true, true, true, false, false] rfl rfl (fun _ hK_22 => ?_) ?_
   ·
    refine Wl.storeS (by kernel_rfl) rfl rfl hB_o0 rfl rfl ?_
    rintro w_s2 hn_s2 hg_s2
    have hz_s2 := hg_s2.size
    have hb := below_blk hb hg_s2 hb.size (by omega)
    have hX := hX_hb.below hb
    try have hB_o1 := hB_o1.over hg_s2 (by omega)
    try have hB_o2 := hB_o2.over hg_s2 (by omega)
    have hB_o0 := hn_s2
    refine Wl.nil ?_
    refine Wq.backD hK_22 ⟨hb, hB_o0, hB_o1, hB_o2⟩ ?_
    refine Wa.some (rs := [4]) (by kernel_rfl) rfl ?_
    refine Ws.consD #[true, true, true, true, true, false] rfl rfl (fun _ hK_23 => ?_) ?_
    ·
     refine Wl.store1 one3PsU rfl rfl rfl hB_o1 ?_
     rintro w_s3 hn_s3 hg_s3
     have hz_s3 := hg_s3.size
     have hb := below_blk hb hg_s3 hb.size (by omega)
     have hX := hX_hb.below hb
     try have hB_o0 := hB_o0.over hg_s3 (by omega)
     try have hB_o2 := hB_o2.over hg_s3 (by omega)
     have hB_o1 := hn_s3
     refine Wl.nil ?_
     refine Wq.backD hK_23 ⟨hb, hB_o0, hB_o1, hB_o2⟩ ?_
     refine Wa.some (rs := [5]) (by kernel_rfl) rfl ?_
     refine Ws.consD #[true, true, true, true, true, true] rfl rfl (fun _ hK_24 => ?_) ?_
     ·
      refine Wl.store1 one34PsU rfl rfl rfl hB_o2 ?_
      rintro w_s4 hn_s4 hg_s4
      have hz_s4 := hg_s4.size
      have hb := below_blk hb hg_s4 hb.size (by omega)
      have hX := hX_hb.below hb
      try have hB_o0 := hB_o0.over hg_s4 (by omega)
      try have hB_o1 := hB_o1.over hg_s4 (by omega)
      have hB_o2 := hn_s4
      refine Wl.nil ?_
      refine Wq.backD hK_24 ⟨hb, hB_o0, hB_o1, hB_o2⟩ ?_
      refine Wa.done (by kernel_rfl) ?_
      refine Wq.nextD hK_18 ?_
      refine Wc.ret <| Wq.then_ret ?_
      refine Wq.dRet ?_
      refine retN (rs := [.cell 2 33, .cell 3 3, .cell 4 34]) (vs := [_, _, _]) rfl (.cell rfl (loadS Tryz.underlying33 (by kernel_rfl) (fun j u hu => hB_o0.at hu)) (.cell rfl (loadC one3PsU (hB_o1.at (j := 0) rfl)) (.cell rfl (loadC one34PsU (hB_o2.at (j := 0) rfl)) .nil))) ?_
      exact ⟨_, rfl, ⟨noQ, a, e, pc0, _, hpv, rfl, noP_at _, fun k h => h.elim⟩, hb⟩
     exact Ws.nil
    exact Ws.nil
   exact Ws.nil
  have c0_17_ := c0_17
  try simp only [DZ] at c0_17
  have he : e = 0 := by have := c0_17; simpa using this
  obtain ⟨hs65, hlv, hpv, hl65, hlc⟩ : s.length ≤ 65536 ∧ lexV s 0 = .ok l ∧ parseV s = parseT s.length l ∧ l.length ≤ 65536 ∧ l.length ≤ c := by rcases hlx with h | h; (· exact absurd he h.1); (· exact h.2)
  refine Wc.skip ?_
  refine Wq.nextD hK_13 ?_
  refine Wc.seqD fun _ hK_25 => ?_
  refine Wc.region <| Wl.y (y_makeFunc rfl rfl) rfl ?_
  refine Wl.defer rfl rfl ?_
  refine Wl.nil ?_
  refine Wq.nextD hK_25 ?_
  refine Wc.seqD fun _ hK_27 => ?_
  refine Wc.region <| Wl.mv rfl rfl <| Wl.mv rfl rfl ?_
  refine Wl.y (y_lens Tryz.underlying9 (by omega) rfl) rfl ?_
  refine Wl.y (y_buildS (z := [(.slice none 0 0), (.int .i64 0)]) (pl := [(0, 1), (1, 1)]) (cs := [_, _]) Tryz.underlying58 (by kernel_rfl) (by kernel_rfl) rfl rfl rfl) rfl ?_
  refine Wl.y (y_buildS (z := [(.slice none 0 0), (.int .i64 0), (.int .i64 0), (.int .i64 0)]) (pl := [(0, 2), (2, 1), (3, 1)]) (cs := [_, _, _, _]) Tryz.underlying60 (by kernel_rfl) (by kernel_rfl) rfl rfl rfl) rfl ?_
  refine Wl.boxN rfl rfl ?_
  rintro g_o16 w_o16 hg_o16 hn_o16 hs_o16
  have hz_o16 := hs_o16.size
  have hb := hb.trans (hs_o16.mono hb.size)
  have hX := hX_hb.below hb
  try have hB_o0 := Blk.below hB_o0 hs_o16
  try have hB_o1 := Blk.below hB_o1 hs_o16
  try have hB_o2 := Blk.below hB_o2 hs_o16
  try have hR := Rd.below hR hs_o16
  have hB_o16 := hn_o16
  have hl_o16 := hB_o16.lt
  have hP : PSt w_o16 g_o16 s.length l 0 0 := ⟨⟨A, c, hlc, hl65, hB_o16, hR, fun q e => by have := hA q e; omega⟩, hX.lb, hX_hb.lb.gl.mono (by omega), fun t ht => Nat.le_trans (lex_small _ s 0 l (Nat.le_refl _) hlv t ht) hs65⟩
  refine Wl.callP txt21PsU rfl rfl (query_r g_o16 s.length l _ hP) rfl (fun v_ w_k1 hv_ => ?_) (fun c_ w_k1 hx_ => ?_)
  rotate_left
  ·
   obtain ⟨a_k1, e_k1, hF_k1, rfl, hPp_k1, hs_k1⟩ := hx_
   have hz_k1 := hs_k1.size
   have hb := hb.trans (Kp.below hs_k1 (by omega) hb.size)
   have hX := hX_hb.below hb
   try have hB_o0 := hB_o0.kp hs_k1 (by omega)
   try have hB_o1 := hB_o1.kp hs_k1 (by omega)
   try have hB_o2 := hB_o2.kp hs_k1 (by omega)
   refine Wq.then_panic ?_
   refine Wq.leaveC txtC (catchP_r a_k1 e_k1 g_o0 g_o1 g_o2 _ _ wA _ hb (by omega) (by omega) (by omega) (by omega) (by omega) (by omega) hB_o0 hB_o1 hB_o2) (fun w_d hS => ?_)
   obtain ⟨⟨hB_o0, hB_o1, hB_o2⟩, hb⟩ := hS
   refine retN (rs := [.cell 2 33, .cell 3 3, .cell 4 34]) (vs := [_, _, _]) rfl (.cell rfl (loadS Tryz.underlying33 (by kernel_rfl) (fun j u hu => hB_o0.at hu)) (.cell rfl (loadC one3PsU (hB_o1.at (j := 0) rfl)) (.cell rfl (loadC one34PsU (hB_o2.at (j := 0) rfl)) .nil))) ?_
   exact ⟨_, rfl, ⟨noQ, a_k1, e_k1, pc0, _, by rw [hpv]; unfold parseT; rw [hF_k1], rfl, noP_at _, fun k h => h.elim⟩, hb⟩
  obtain ⟨⟨q, r, hF, ⟨z, Sz, rfl, hz, hz_S⟩, hPr, hrl⟩, hs_k1⟩ := hv_
  have hz_k1 := hs_k1.size
  have hb := hb.trans (Kp.below hs_k1 (by omega) hb.size)
  have hX := hX_hb.below hb
  try have hB_o0 := hB_o0.kp hs_k1 (by omega)
  try have hB_o1 := hB_o1.kp hs_k1 (by omega)
  try have hB_o2 := hB_o2.kp hs_k1 (by omega)
  have hth := query_thin hF
  refine Wl.storeS (by kernel_rfl) rfl rfl hB_o0 rfl rfl ?_
  rintro w_s5 hn_s5 hg_s5
  have hz_s5 := hg_s5.size
  have hb := below_blk hb hg_s5 hb.size (by omega)
  have hX := hX_hb.below hb
  try have hB_o1 := hB_o1.over hg_s5 (by omega)
  try have hB_o2 := hB_o2.over hg_s5 (by omega)
  try have hz := PAt.kp hz hg_s5 (fun h_ => by have h2_ := hz_S _ h_; first | omega | (rcases h2_ with h3_ | h3_; (have h4_ := hS _ h3_; omega); omega))
  have hB_o0 := hn_s5
  refine Wl.nil ?_
  refine Wq.nextD hK_27 ?_
  refine Wc.seqD fun _ hK_35 => ?_
  refine Wc.seqD fun _ hK_36 => ?_
  refine Wc.region ?_
  refine Wl.y (y_fieldAddr (fa33_3PsU _) rfl) rfl ?_
  refine Wl.l (l_loadS Tryz.underlying31 (by kernel_rfl) rfl (by exact fun j u hu => by rw [addr_add_add]; exact hB_o0.at (qcells_pat _ _ _ _ hu))) rfl ?_
  refine Wl.call txt22PsU rfl rfl (patDeep_r (deepP q.pat) q.pat z Sz _ (Nat.le_refl _) (by omega) hz) rfl ?_
  rintro _ w_k2 ⟨rfl, hs_k2⟩
  have hz_k2 := hs_k2.size
  have hb := hb.trans (hs_k2.mono hb.size)
  have hX := hX_hb.below hb
  try have hB_o0 := Blk.below hB_o0 hs_k2
  try have hB_o1 := Blk.below hB_o1 hs_k2
  try have hB_o2 := Blk.below hB_o2 hs_k2
  try have hz := PAt.below hz hs_k2
  refine Wl.y (y_gtri rfl rfl) rfl <| Wl.mv rfl rfl ?_
  refine Wl.guardF rfl rfl rfl (fun g_42 => ?_) (fun g_42 => ?_)
  ·
   have g_42_ := g_42
   try simp only [DZ] at g_42
   have hpos : 50 < deepP q.pat ∨ tooDeep q.pat = true := .inl (by have := g_42; omega)
   refine Wl.off' rfl rfl g_42_ rfl rfl <| Wl.off' rfl rfl g_42_ rfl rfl ?_
   refine Wl.y (y_pickT rfl g_42_ rfl) rfl ?_
   refine Wl.nil ?_
   refine Wq.nextD hK_36 ?_
   refine Wc.condT rfl rfl ?_
   refine Wc.seqD fun _ hK_44 => ?_
   refine Wc.region ?_
   refine Wl.y (y_buildS (z := [(.int .i64 0), (.int .i64 0), (.int .i64 0), (.int .i64 0), (str []), (.int .i64 0), (.int .i64 0), (str []), (.int .i64 0), (.int .i64 0), (.float .f64 0), (str []), (.slice none 0 0), (.int .i64 0), (str []), (.int .i64 0), (.int .i64 0), (.float .f64 0), (str []), (.slice none 0 0), (.int .i64 0), (.int .i64 0), (.slice none 0 0)]) (pl := [(0, 1), (1, 1), (2, 1), (3, 20)]) (cs := [_, _, _, _, _, _, _, _, _, _, _, _, _, _, _, _, _, _, _, _, _, _, _]) Tryz.underlying33 (by kernel_rfl) (by kernel_rfl) rfl rfl rfl) rfl ?_
   refine Wl.storeS (by kernel_rfl) rfl rfl hB_o0 rfl rfl ?_
   rintro w_s6 hn_s6 hg_s6
   have hz_s6 := hg_s6.size
   have hb := below_blk hb hg_s6 hb.size (by omega)
   have hX := hX_hb.below hb
   try have hB_o1 := hB_o1.over hg_s6 (by omega)
   try have hB_o2 := hB_o2.over hg_s6 (by omega)
   try have hz := PAt.kp hz hg_s6 (fun h_ => by have h2_ := hz_S _ h_; first | omega | (rcases h2_ with h3_ | h3_; (have h4_ := hS _ h3_; omega); omega))
   have hB_o0 := hn_s6
   refine Wl.store1 one3PsU rfl rfl rfl hB_o1 ?_
   rintro w_s7 hn_s7 hg_s7
   have hz_s7 := hg_s7.size
   have hb := below_blk hb hg_s7 hb.size (by omega)
   have hX := hX_hb.below hb
   try have hB_o0 := hB_o0.over hg_s7 (by omega)
   try have hB_o2 := hB_o2.over hg_s7 (by omega)
   try have hz := PAt.kp hz hg_s7 (fun h_ => by have h2_ := hz_S _ h_; first | omega | (rcases h2_ with h3_ | h3_; (have h4_ := hS _ h3_; omega); omega))
   have hB_o1 := hn_s7
   refine Wl.store1 one34PsU rfl rfl rfl hB_o2 ?_
   rintro w_s8 hn_s8 hg_s8
   have hz_s8 := hg_s8.size
   have hb := below_blk hb hg_s8 hb.size (by omega)
   have hX := hX_hb.below hb
   try have hB_o0 := hB_o0.over hg_s8 (by omega)
   try have hB_o1 := hB_o1.over hg_s8 (by omega)
   try have hz := PAt.kp hz hg_s8 (fun h_ => by have h2_ := hz_S _ h_; first | omega | (rcases h2_ with h3_ | h3_; (have h4_ := hS _ h3_; omega); omega))
   have hB_o2 := hn_s8
   refine Wl.nil ?_
   refine Wq.nextD hK_44 ?_
   refine Wc.ret <| Wq.then_ret ?_
   refine Wq.leaveR txtC (catchI_r g_o0 g_o1 g_o2 _) (fun w_d hS => ?_)
   subst hS
   refine retN (rs := [.cell 2 33, .cell 3 3, .cell 4 34]) (vs := [_, _, _]) rfl (.cell rfl (loadS Tryz.underlying33 (by kernel_rfl) (fun j u hu => hB_o0.at hu)) (.cell rfl (loadC one3PsU (hB_o1.at (j := 0) rfl)) (.cell rfl (loadC one34PsU (hB_o2.at (j := 0) rfl)) .nil))) ?_
   exact ⟨_, rfl, ⟨noQ, 0, 6, pc0, _, by rw [hpv]; unfold parseT; rw [hF]; exact if_pos hpos, rfl, noP_at _, fun k h => h.elim⟩, hb⟩
  have g_42_ := g_42
  try simp only [DZ] at g_42
  have hdp : ¬ 50 < deepP q.pat := by have := g_42; omega
  refine Wl.y (y_fieldAddr (fa33_3PsU _) rfl) rfl ?_
  refine Wl.on' rfl rfl g_42_ ?_
  refine Wl.l (l_loadS Tryz.underlying31 (by kernel_rfl) rfl (by exact fun j u hu => by rw [addr_add_add]; exact hB_o0.at (qcells_pat _ _ _ _ hu))) rfl ?_
  refine Wl.on' rfl rfl g_42_ ?_
  refine Wl.call txt23PsU rfl rfl (deep_r (deepP q.pat) q.pat z Sz _ (Nat.le_refl _) (by omega) hz) rfl ?_
  rintro _ w_k3 ⟨rfl, hs_k3⟩
  have hz_k3 := hs_k3.size
  have hb := hb.trans (hs_k3.mono hb.size)
  have hX := hX_hb.below hb
  try have hB_o0 := Blk.below hB_o0 hs_k3
  try have hB_o1 := Blk.below hB_o1 hs_k3
  try have hB_o2 := Blk.below hB_o2 hs_k3
  try have hz := PAt.below hz hs_k3
  refine Wl.y (y_pickF rfl g_42_ rfl) rfl ?_
  refine Wl.nil ?_
  refine Wq.nextD hK_36 ?_
  refine Wc.cond rfl (fun c1_50 => ?_) (fun c1_50 => ?_)
  ·
   have c1_50_ := c1_50
   try simp only [DZ] at c1_50
   have hpos : 50 < deepP q.pat ∨ tooDeep q.pat = true := .inr c1_50_
   refine Wc.seqD fun _ hK_51 => ?_
   refine Wc.region ?_
   refine Wl.y (y_buildS (z := [(.int .i64 0), (.int .i64 0), (.int .i64 0), (.int .i64 0), (str []), (.int .i64 0), (.int .i64 0), (str []), (.int .i64 0), (.int .i64 0), (.float .f64 0), (str []), (.slice none 0 0), (.int .i64 0), (str []), (.int .i64 0), (.int .i64 0), (.float .f64 0), (str []), (.slice none 0 0), (.int .i64 0), (.int .i64 0), (.slice none 0 0)]) (pl := [(0, 1), (1, 1), (2, 1), (3, 20)]) (cs := [_, _, _, _, _, _, _, _, _, _, _, _, _, _, _, _, _, _, _, _, _, _, _]) Tryz.underlying33 (by kernel_rfl) (by kernel_rfl) rfl rfl rfl) rfl ?_
   refine Wl.storeS (by kernel_rfl) rfl rfl hB_o0 rfl rfl ?_
   rintro w_s6 hn_s6 hg_s6
   have hz_s6 := hg_s6.size
   have hb := below_blk hb hg_s6 hb.size (by omega)
   have hX := hX_hb.below hb
   try have hB_o1 := hB_o1.over hg_s6 (by omega)
   try have hB_o2 := hB_o2.over hg_s6 (by omega)
   try have hz := PAt.kp hz hg_s6 (fun h_ => by have h2_ := hz_S _ h_; first | omega | (rcases h2_ with h3_ | h3_; (have h4_ := hS _ h3_; omega); omega))
   have hB_o0 := hn_s6
   refine Wl.store1 one3PsU rfl rfl rfl hB_o1 ?_
   rintro w_s7 hn_s7 hg_s7
   have hz_s7 := hg_s7.size
   have hb := below_blk hb hg_s7 hb.size (by omega)
   have hX := hX_hb.below hb
   try have hB_o0 := hB_o0.over hg_s7 (by omega)
   try have hB_o2 := hB_o2.over hg_s7 (by omega)
   try have hz := PAt.kp hz hg_s7 (fun h_ => by have h2_ := hz_S _ h_; first | omega | (rcases h2_ with h3_ | h3_; (have h4_ := hS _ h3_; omega); omega))
   have hB_o1 := hn_s7
   refine Wl.store1 one34PsU rfl rfl rfl hB_o2 ?_
   rintro w_s8 hn_s8 hg_s8
   have hz_s8 := hg_s8.size
   have hb := below_blk hb hg_s8 hb.size (by omega)
   have hX := hX_hb.below hb
   try have hB_o0 := hB_o0.over hg_s8 (by omega)
   try have hB_o1 := hB_o1.over hg_s8 (by omega)
   try have hz := PAt.kp hz hg_s8 (fun h_ => by have h2_ := hz_S _ h_; first | omega | (rcases h2_ with h3_ | h3_; (have h4_ := hS _ h3_; omega); omega))
   have hB_o2 := hn_s8
   refine Wl.nil ?_
   refine Wq.nextD hK_51 ?_
   refine Wc.ret <| Wq.then_ret ?_
   refine Wq.leaveR txtC (catchI_r g_o0 g_o1 g_o2 _) (fun w_d hS => ?_)
   subst hS
   refine retN (rs := [.cell 2 33, .cell 3 3, .cell 4 34]) (vs := [_, _, _]) rfl (.cell rfl (loadS Tryz.underlying33 (by kernel_rfl) (fun j u hu => hB_o0.at hu)) (.cell rfl (loadC one3PsU (hB_o1.at (j := 0) rfl)) (.cell rfl (loadC one34PsU (hB_o2.at (j := 0) rfl)) .nil))) ?_
   exact ⟨_, rfl, ⟨noQ, 0, 6, pc0, _, by rw [hpv]; unfold parseT; rw [hF]; exact if_pos hpos, rfl, noP_at _, fun k h => h.elim⟩, hb⟩
  have c1_50_ := c1_50
  try simp only [DZ] at c1_50
  have hneg : ¬ (50 < deepP q.pat ∨ tooDeep q.pat = true) := fun h => h.elim hdp (fun h => by have h2 := c1_50_; rw [h] at h2; cases h2)
  refine Wc.skip ?_
  refine Wq.nextD hK_35 ?_
  refine Wc.seqD fun _ hK_53 => ?_
  refine Wc.region ?_
  refine Wl.l (l_loadS Tryz.underlying33 (by kernel_rfl) rfl (by exact fun j u hu => hB_o0.at hu)) rfl ?_
  refine Wl.storeS (by kernel_rfl) rfl rfl hB_o0 rfl rfl ?_
  rintro w_s9 hn_s9 hg_s9
  have hz_s9 := hg_s9.size
  have hb := below_blk hb hg_s9 hb.size (by omega)
  have hX := hX_hb.below hb
  try have hB_o1 := hB_o1.over hg_s9 (by omega)
  try have hB_o2 := hB_o2.over hg_s9 (by omega)
  try have hz := PAt.kp hz hg_s9 (fun h_ => by have h2_ := hz_S _ h_; first | omega | (rcases h2_ with h3_ | h3_; (have h4_ := hS _ h3_; omega); omega))
  have hB_o0 := hn_s9
  refine Wl.store1 one3PsU rfl rfl rfl hB_o1 ?_
  rintro w_s10 hn_s10 hg_s10
  have hz_s10 := hg_s10.size
  have hb := below_blk hb hg_s10 hb.size (by omega)
  have hX := hX_hb.below hb
  try have hB_o0 := hB_o0.over hg_s10 (by omega)
  try have hB_o2 := hB_o2.over hg_s10 (by omega)
  try have hz := PAt.kp hz hg_s10 (fun h_ => by have h2_ := hz_S _ h_; first | omega | (rcases h2_ with h3_ | h3_; (have h4_ := hS _ h3_; omega); omega))
  have hB_o1 := hn_s10
  refine Wl.store1 one34PsU rfl rfl rfl hB_o2 ?_
  rintro w_s11 hn_s11 hg_s11
  have hz_s11 := hg_s11.size
  have hb := below_blk hb hg_s11 hb.size (by omega)
  have hX := hX_hb.below hb
  try have hB_o0 := hB_o0.over hg_s11 (by omega)
  try have hB_o1 := hB_o1.over hg_s11 (by omega)
  try have hz := PAt.kp hz hg_s11 (fun h_ => by have h2_ := hz_S _ h_; first | omega | (rcases h2_ with h3_ | h3_; (have h4_ := hS _ h3_; omega); omega))
  have hB_o2 := hn_s11
  refine Wl.nil ?_
  refine Wq.nextD hK_53 ?_
  refine Wc.ret ?_
  refine Wq.leaveR txtC (catchI_r g_o0 g_o1 g_o2 _) (fun w_d hS => ?_)
  subst hS
  refine retN (rs := [.cell 2 33, .cell 3 3, .cell 4 34]) (vs := [_, _, _]) rfl (.cell rfl (loadS Tryz.underlying33 (by kernel_rfl) (fun j u hu => hB_o0.at hu)) (.cell rfl (loadC one3PsU (hB_o1.at (j := 0) rfl)) (.cell rfl (loadC one34PsU (hB_o2.at (j := 0) rfl)) .nil))) ?_
  exact ⟨_, rfl, ⟨q, 0, 0, z, Sz, by rw [hpv]; unfold parseT; rw [hF]; exact if_neg hneg, rfl, hz, fun k hk => by have := hz_S k hk; omega⟩, hb⟩
end Go.Proofs.YtjnabgddjogkbaaGreatDoor
