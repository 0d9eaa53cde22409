/- Plain: the values in what is parsed fit their type. · Parse at known texts; trees read; the reference's Same; what each statement about parse begins with. -/
import Derived.Test.YtjnabgddjogkbaaGreatDoorZP5
import Derived.Test.YtjnabgddjogkbaaGreatDoorZK
namespace Go.Proofs.YtjnabgddjogkbaaGreatDoor
open Go.RowKit Go.Bw Go.Bw.Fl
set_option linter.unusedVariables false
set_option linter.unusedSimpArgs false
end Go.Proofs.YtjnabgddjogkbaaGreatDoor
namespace Go.Proofs.YtjnabgddjogkbaaGreatDoor
open Go.RowKit Go.Bw Go.Bw.Fl
set_option linter.unusedVariables false
set_option linter.unusedSimpArgs false
theorem fa28_1PsX (p : Addr) (w : World) : (Instr.fieldAt 28 (.pointer (some p)) 1).run Tryz.prog w = .ok (.pointer (some (p.add 1))) w := run_fieldAt (i := 1) (sz := 0) Tryz.underlying28 rfl (by kernel_rfl) p w
theorem fa31_0PsX (p : Addr) (w : World) : (Instr.fieldAt 31 (.pointer (some p)) 0).run Tryz.prog w = .ok (.pointer (some (p.add 0))) w := run_fieldAt (i := 0) (sz := 0) Tryz.underlying31 rfl (by kernel_rfl) p w
theorem fa31_2PsX (p : Addr) (w : World) : (Instr.fieldAt 31 (.pointer (some p)) 2).run Tryz.prog w = .ok (.pointer (some (p.add 2))) w := run_fieldAt (i := 2) (sz := 0) Tryz.underlying31 rfl (by kernel_rfl) p w
theorem fa31_4PsX (p : Addr) (w : World) : (Instr.fieldAt 31 (.pointer (some p)) 4).run Tryz.prog w = .ok (.pointer (some (p.add 10))) w := run_fieldAt (i := 4) (sz := 6) Tryz.underlying31 rfl (by kernel_rfl) p w
theorem fa31_6PsX (p : Addr) (w : World) : (Instr.fieldAt 31 (.pointer (some p)) 6).run Tryz.prog w = .ok (.pointer (some (p.add 18))) w := run_fieldAt (i := 6) (sz := 0) Tryz.underlying31 rfl (by kernel_rfl) p w
theorem fa31_7PsX (p : Addr) (w : World) : (Instr.fieldAt 31 (.pointer (some p)) 7).run Tryz.prog w = .ok (.pointer (some (p.add 19))) w := run_fieldAt (i := 7) (sz := 0) Tryz.underlying31 rfl (by kernel_rfl) p w
theorem fa33_0PsX (p : Addr) (w : World) : (Instr.fieldAt 33 (.pointer (some p)) 0).run Tryz.prog w = .ok (.pointer (some (p.add 0))) w := run_fieldAt (i := 0) (sz := 0) Tryz.underlying33 rfl (by kernel_rfl) p w
theorem fa33_1PsX (p : Addr) (w : World) : (Instr.fieldAt 33 (.pointer (some p)) 1).run Tryz.prog w = .ok (.pointer (some (p.add 1))) w := run_fieldAt (i := 1) (sz := 0) Tryz.underlying33 rfl (by kernel_rfl) p w
theorem fa33_2PsX (p : Addr) (w : World) : (Instr.fieldAt 33 (.pointer (some p)) 2).run Tryz.prog w = .ok (.pointer (some (p.add 2))) w := run_fieldAt (i := 2) (sz := 0) Tryz.underlying33 rfl (by kernel_rfl) p w
theorem fa33_3PsX (p : Addr) (w : World) : (Instr.fieldAt 33 (.pointer (some p)) 3).run Tryz.prog w = .ok (.pointer (some (p.add 3))) w := run_fieldAt (i := 3) (sz := 19) Tryz.underlying33 rfl (by kernel_rfl) p w
theorem one29PsX : One Tryz.prog 29 := ⟨_, Tryz.underlying29, rfl, by kernel_rfl⟩
theorem one3PsX : One Tryz.prog 3 := ⟨_, Tryz.underlying3, rfl, by kernel_rfl⟩
theorem one9PsX : One Tryz.prog 9 := ⟨_, Tryz.underlying9, rfl, by kernel_rfl⟩
theorem sz31PsX : (Tryz.prog.info? 31).map (·.size) = some 20 := by kernel_rfl
theorem txt12PsX : Txt Tryz.prog 12 := ⟨_, Tryz.func12, by kernel_rfl, rfl⟩   -- bridleway/parse.Parse
theorem ParseT_r {s : List UInt8} {q : QryD} {a e : Int} (h : parseV s = (q, a, e)) (hs : s.length ≤ 70368744177664) (w : World) (hX : Lx w) : Ret Tryz.prog 12 [str s] w fun v w' => (∃ (z : PC) (S : Nat → Prop), v = .tuple #[.agg (qcells q.mode q.sel q.kk z).toArray, .int .i64 a, .int .i64 e] ∧ PAt w' S q.pat z.cells ∧ ∀ k, S k → w.heap.size ≤ k ∧ k < w'.heap.size) ∧ Below w.heap.size w w' :=
  (ParseQ_r s hs w hX).mono fun v w' ⟨⟨q', a', e', z, S, h1, h2, h3, h4⟩, h5⟩ => ⟨by
    rw [h] at h1; cases h1
    exact ⟨z, S, h2, h3, h4⟩, h5⟩
/-! ### trees read -/
theorem str_inj {a b : List UInt8} (h : str a = str b) : a = b := by
  unfold str at h; simpa using h
theorem EC.val (x : EC) {j : Nat} {u : Value} (h : x.v.cells[j]? = some u) : x.cells[2 + j]? = some u := by
  show ([Value.int .i64 x.k, str x.nm] ++ (x.v.cells ++ [.slice x.A x.n x.c]))[2 + j]? = _
  have hj : j < x.v.cells.length := (List.getElem?_eq_some_iff.1 h).1
  rw [List.getElem?_append_right (by simp), List.getElem?_append_left (by simpa using hj), ← h]
  congr 1; simp
theorem EAt.see {w : World} {S : Nat → Prop} {k : Int} {nm : List UInt8} {v : Val} {kids : List ExprD} {z : EC} (h : EAt w S (.mk k nm v kids) z.cells) : z.k = k ∧ z.nm = nm ∧ z.v = v ∧ ∃ A c, z.cells[6]? = some (.slice A kids.length c) ∧ kids.length ≤ 65537 ∧ (∀ q, A = some q → S q.block) ∧ ∀ (i : Nat) (hi : i < kids.length), ∃ (p : Addr) (z' : EC), A = some p ∧ EAt w S kids[i] z'.cells ∧ ∀ (j : Nat) (u : Value), z'.cells[j]? = some u → w.cell? ((p.add (i * 7)).add j) = some u := by
  unfold EAt at h
  obtain ⟨A, c, kcs, h1, hR, hS, hL, hk65⟩ := h
  obtain ⟨zk, znm, zv, zA, zn, zc⟩ := z
  obtain ⟨vk, vn, vf, vs⟩ := v
  obtain ⟨wk, wn, wf, ws⟩ := zv
  simp only [EC.cells, List.cons.injEq, Value.int.injEq, Value.float.injEq, true_and, and_true] at h1
  obtain ⟨e1, e2, e3, e4, e5, e6, e7⟩ := h1
  have e2 := str_inj e2
  have e6 := str_inj e6
  subst e1 e2 e3 e4 e5 e6
  exact ⟨rfl, rfl, rfl, A, c, by rw [← e7]; rfl, hk65, hS, fun i hi => Rd.kidE hR hL hi⟩
theorem PAt.see {w : World} {S : Nat → Prop} {k : Int} {var : List UInt8} {dir : Int} {l wh : ExprD} {mn mx : Int} {kids : List PatD} {z : PC} (h : PAt w S (.mk k var dir l wh mn mx kids) z.cells) : z.k = k ∧ z.var = var ∧ z.dir = dir ∧ z.mn = mn ∧ z.mx = mx ∧ EAt w S l z.l.cells ∧ EAt w S wh z.wh.cells ∧ ∃ A c, z.cells[19]? = some (.slice A kids.length c) ∧ kids.length ≤ 65537 ∧ (∀ q, A = some q → S q.block) ∧ ∀ (i : Nat) (hi : i < kids.length), ∃ (p : Addr) (z' : PC), A = some p ∧ PAt w S kids[i] z'.cells ∧ ∀ (j : Nat) (u : Value), z'.cells[j]? = some u → w.cell? ((p.add (i * 20)).add j) = some u := by
  unfold PAt at h
  obtain ⟨lc, wc, A, c, kcs, h1, hEl, hEw, hR, hS, hL, hk65⟩ := h
  obtain ⟨zk, zvar, zdir, zl, zwh, zmn, zmx, zA, zn, zc⟩ := z
  have e0 : str zvar = str var := by have := congrArg (·[1]?) h1; simpa [PC.cells] using this
  have e1 : zk = k := by have := congrArg (·[0]?) h1; simpa [PC.cells] using this
  have e2 : zdir = dir := by have := congrArg (·[2]?) h1; simpa [PC.cells] using this
  have el : zl.cells = lc.cells := by have := congrArg (fun l => (l.drop 3).take 7) h1; simpa [PC.cells, EC.cells] using this
  have ew : zwh.cells = wc.cells := by have := congrArg (fun l => (l.drop 10).take 7) h1; simpa [PC.cells, EC.cells] using this
  have e3 : zmn = mn := by have := congrArg (·[17]?) h1; simpa [PC.cells, EC.cells] using this
  have e4 : zmx = mx := by have := congrArg (·[18]?) h1; simpa [PC.cells, EC.cells] using this
  have e5 : (PC.cells ⟨zk, zvar, zdir, zl, zwh, zmn, zmx, zA, zn, zc⟩)[19]? = some (.slice A kids.length c) := by rw [h1]; rfl
  exact ⟨e1, str_inj e0, e2, e3, e4, by rw [el]; exact hEl, by rw [ew]; exact hEw, A, c, e5, hk65, hS, fun i hi => Rd.kid hR hL hi⟩
/-! ### the reference's Same, of two that are the same -/
/-! ### what each statement begins with -/
def sh1S : List UInt8 := [84, 82, 65, 73, 76, 32, 83, 72, 79, 82, 84, 69, 83, 84, 32, 50, 32, 40, 97, 41, 45, 91, 58, 75, 93, 45, 62, 123, 49, 44, 50, 125, 40, 98, 32, 87, 72, 69, 82, 69, 32, 112, 32, 62, 32, 51, 41]
def sh2S : List UInt8 := [40, 97, 41, 45, 91]
def sh1P : PatD := .mk 3 [] 0 noE noE 0 0 [.mk 1 [97] 0 noE noE 0 0 [], .mk 5 [] 0 noE noE 1 2 [.mk 2 [] 4 (.mk 4 [75] nullV []) noE 0 0 []], .mk 1 [98] 0 noE (.mk 3 [62] nullV [.mk 2 [112] nullV [], .mk 1 [] ⟨2, 3, 0, []⟩ []]) 0 0 []]
theorem sh1_eq : parseV sh1S = (⟨1, 3, 2, sh1P⟩, 0, 0) := by kernel_rfl
theorem sh2_eq : parseV sh2S = (noQ, 5, 2) := by kernel_rfl
theorem pshown_r (w : World) (hX : Lx w) : Ret Tryz.prog 11 [] w fun v w' => v = .bool true ∧ Below w.heap.size w w' := by
  have hb := Below.refl w.heap.size w
  have hX_hb := hX
  refine enter Tryz.func11 rfl rfl rfl ?_
  refine Wc.seq fun _ hK_1 => Wc.region <| Wl.sg rfl rfl <| Wl.nil <| Wq.next hK_1 <| Wc.seq fun _ hK_3 => Wc.region ?_
  refine Wl.call txt12PsX rfl rfl (ParseT_r sh1_eq (by decide) _ hX) rfl ?_
  rintro _ w_k0 ⟨⟨z, Sz, rfl, hz, hz_S⟩, hs_k0⟩
  have hz_k0 := hs_k0.size
  have hb := hb.trans (hs_k0.mono hb.size)
  have hX := hX_hb.below hb
  refine Wl.mv rfl rfl <| Wl.y (y_extract rfl rfl) rfl <| Wl.y (y_extract rfl rfl) rfl <| Wl.y (y_extract rfl rfl) rfl ?_
  refine Wl.allocN (z := (.agg #[(.int .i64 0), (.int .i64 0), (.int .i64 0), (.int .i64 0), (str []), (.int .i64 0), (.int .i64 0), (str []), (.int .i64 0), (.int .i64 0), (.float .f64 0), (str []), (.slice none 0 0), (.int .i64 0), (str []), (.int .i64 0), (.int .i64 0), (.float .f64 0), (str []), (.slice none 0 0), (.int .i64 0), (.int .i64 0), (.slice none 0 0)])) (by kernel_rfl) rfl ?_
  rintro g_o5 w_o5 hg_o5 hn_o5 hs_o5
  have hz_o5 := hs_o5.size
  have hb := hb.trans (hs_o5.mono hb.size)
  have hX := hX_hb.below hb
  try have hz := PAt.below hz hs_o5
  have hB_o5 := hn_o5
  have hl_o5 := hB_o5.lt
  refine Wl.storeS (by kernel_rfl) rfl rfl hB_o5 rfl rfl ?_
  rintro w_s0 hn_s0 hg_s0
  have hz_s0 := hg_s0.size
  have hb := below_blk hb hg_s0 hb.size (by omega)
  have hX := hX_hb.below hb
  try have hz := PAt.kp hz hg_s0 (fun h_ => by have h2_ := hz_S _ h_; first | omega | (rcases h2_ with h3_ | h3_; (have h4_ := hS _ h3_; omega); omega))
  have hB_o5 := hn_s0
  refine Wl.sg rfl rfl <| Wl.sg rfl rfl <| Wl.nil <| Wq.next hK_3 <| Wc.seq fun _ hK_12 => Wc.region ?_
  refine Wl.call txt12PsX rfl rfl (ParseT_r sh2_eq (by decide) _ hX) rfl ?_
  rintro _ w_k1 ⟨⟨z2, S2, rfl, hz2, hz2_S⟩, hs_k1⟩
  have hz_k1 := hs_k1.size
  have hb := hb.trans (hs_k1.mono hb.size)
  have hX := hX_hb.below hb
  try have hz := PAt.below hz hs_k1
  try have hB_o5 := Blk.below hB_o5 hs_k1
  refine Wl.mv rfl rfl <| Wl.y (y_extract rfl rfl) rfl <| Wl.y (y_extract rfl rfl) rfl <| Wl.y (y_extract rfl rfl) rfl ?_
  refine Wl.allocN (z := (.agg #[(.int .i64 0), (.int .i64 0), (.int .i64 0), (.int .i64 0), (str []), (.int .i64 0), (.int .i64 0), (str []), (.int .i64 0), (.int .i64 0), (.float .f64 0), (str []), (.slice none 0 0), (.int .i64 0), (str []), (.int .i64 0), (.int .i64 0), (.float .f64 0), (str []), (.slice none 0 0), (.int .i64 0), (.int .i64 0), (.slice none 0 0)])) (by kernel_rfl) rfl ?_
  rintro g_o12 w_o12 hg_o12 hn_o12 hs_o12
  have hz_o12 := hs_o12.size
  have hb := hb.trans (hs_o12.mono hb.size)
  have hX := hX_hb.below hb
  try have hz := PAt.below hz hs_o12
  try have hB_o5 := Blk.below hB_o5 hs_o12
  have hB_o12 := hn_o12
  have hl_o12 := hB_o12.lt
  refine Wl.storeS (by kernel_rfl) rfl rfl hB_o12 rfl rfl ?_
  rintro w_s1 hn_s1 hg_s1
  have hz_s1 := hg_s1.size
  have hb := below_blk hb hg_s1 hb.size (by omega)
  have hX := hX_hb.below hb
  try have hz := PAt.kp hz hg_s1 (fun h_ => by have h2_ := hz_S _ h_; first | omega | (rcases h2_ with h3_ | h3_; (have h4_ := hS _ h3_; omega); omega))
  try have hB_o5 := hB_o5.over hg_s1 (by omega)
  have hB_o12 := hn_s1
  refine Wl.sg rfl rfl <| Wl.sg rfl rfl <| Wl.nil <| Wq.next hK_12 <| Wc.seq fun _ hK_21 => Wc.region ?_
  refine Wl.y (y_fieldAddr (fa33_3PsX _) rfl) rfl ?_
  refine Wl.l (l_loadS Tryz.underlying31 (by kernel_rfl) rfl (by exact fun j u hu => by rw [addr_add_add]; exact hB_o5.at (qcells_pat _ _ _ _ hu))) rfl ?_
  refine Wl.allocN (z := (.agg #[(.int .i64 0), (str []), (.int .i64 0), (.int .i64 0), (str []), (.int .i64 0), (.int .i64 0), (.float .f64 0), (str []), (.slice none 0 0), (.int .i64 0), (str []), (.int .i64 0), (.int .i64 0), (.float .f64 0), (str []), (.slice none 0 0), (.int .i64 0), (.int .i64 0), (.slice none 0 0)])) (by kernel_rfl) rfl ?_
  rintro g_o16 w_o16 hg_o16 hn_o16 hs_o16
  have hz_o16 := hs_o16.size
  have hb := hb.trans (hs_o16.mono hb.size)
  have hX := hX_hb.below hb
  try have hz := PAt.below hz hs_o16
  try have hB_o5 := Blk.below hB_o5 hs_o16
  have hB_o16 := hn_o16
  have hl_o16 := hB_o16.lt
  refine Wl.storeS (by kernel_rfl) rfl rfl hB_o16 rfl rfl ?_
  rintro w_s2 hn_s2 hg_s2
  have hz_s2 := hg_s2.size
  have hb := below_blk hb hg_s2 hb.size (by omega)
  have hX := hX_hb.below hb
  try have hz := PAt.kp hz hg_s2 (fun h_ => by have h2_ := hz_S _ h_; first | omega | (rcases h2_ with h3_ | h3_; (have h4_ := hS _ h3_; omega); omega))
  try have hB_o5 := hB_o5.over hg_s2 (by omega)
  have hB_o16 := hn_s2
  refine Wl.nil <| Wq.next hK_21 <| Wc.seq fun _ hK_25 => Wc.seq fun _ hK_26 => ?_
  obtain ⟨hz0, _, _, _, _, _, _, A, c, hcA, _, _, hkA⟩ := PAt.see hz
  obtain ⟨p, z1, rfl, hz1, hc1⟩ := hkA 1 (by decide)
  obtain ⟨p', z3, hp', hz3, hc3⟩ := hkA 2 (by decide)
  cases hp'
  obtain ⟨_, _, _, _, hmx, _, _, A1, c1, hcA1, _, _, hkA1⟩ := PAt.see hz1
  obtain ⟨p1, z4, rfl, hz4, hc4⟩ := hkA1 0 (by decide)
  obtain ⟨_, _, hdir, _⟩ := PAt.see hz4
  obtain ⟨_, _, _, _, _, _, hwh, _⟩ := PAt.see hz3
  obtain ⟨_, hnm, _⟩ := EAt.see hwh
  refine Wc.region ?_
  refine Wl.y (y_fieldAddr (fa31_7PsX _) rfl) rfl ?_
  refine Wl.l (l_load one29PsX rfl (by exact hB_o16.at (j := 19) hcA)) rfl ?_
  refine Wl.y (y_lenl Tryz.underlying29 (by omega) rfl) rfl ?_
  refine Wl.y (y_neqi rfl rfl) rfl <| Wl.mv rfl rfl ?_
  refine Wl.guardF rfl rfl rfl (fun g_32 => ?_) (fun g_32 => ?_)
  ·
   have g_32_ := g_32
   try simp only [DZ] at g_32
   exact absurd g_32_ (by decide)
  have g_32_ := g_32
  try simp only [DZ] at g_32
  refine Wl.y (y_fieldAddr (fa31_7PsX _) rfl) rfl ?_
  refine Wl.on' rfl rfl g_32_ ?_
  refine Wl.l (l_load one29PsX rfl (by exact hB_o16.at (j := 19) hcA)) rfl ?_
  refine Wl.on' rfl rfl g_32_ ?_
  refine Wl.y (y_indexAddr Tryz.underlying29 sz31PsX rfl rfl (by omega) (by omega)) rfl ?_
  refine Wl.on' rfl rfl g_32_ ?_
  refine Wl.y (y_fieldAddr (fa31_7PsX _) rfl) rfl ?_
  refine Wl.on' rfl rfl g_32_ ?_
  refine Wl.l (l_load one29PsX rfl (by exact hc1 19 _ hcA1)) rfl ?_
  refine Wl.on' rfl rfl g_32_ ?_
  refine Wl.y (y_lenl Tryz.underlying29 (by omega) rfl) rfl ?_
  refine Wl.on' rfl rfl g_32_ <| Wl.y (y_neqi rfl rfl) rfl ?_
  refine Wl.y (y_pickF rfl g_32_ rfl) rfl ?_
  refine Wl.nil <| Wq.next hK_26 ?_
  refine Wc.cond rfl (fun c0_41 => ?_) (fun c0_41 => ?_)
  ·
   have c0_41_ := c0_41
   try simp only [DZ] at c0_41
   exact absurd c0_41_ (by decide)
  have c0_41_ := c0_41
  try simp only [DZ] at c0_41
  refine Wc.skip <| Wq.next hK_25 <| Wc.seq fun _ hK_42 => Wc.region <| Wl.mv rfl rfl <| Wl.y (y_eqli rfl rfl) rfl <| Wl.mv rfl rfl ?_
  refine Wl.guardT rfl rfl rfl (fun g_46 => ?_) (fun g_46 => ?_)
  ·
   have g_46_ := g_46
   try simp only [DZ] at g_46
   refine Wl.mv rfl rfl <| Wl.on' rfl rfl g_46_ <| Wl.y (y_eqli rfl rfl) rfl ?_
   refine Wl.y (y_pickT rfl g_46_ rfl) rfl ?_
   refine Wl.mv rfl rfl ?_
   refine Wl.guardT rfl rfl rfl (fun g_51 => ?_) (fun g_51 => ?_)
   ·
    have g_51_ := g_51
    try simp only [DZ] at g_51
    refine Wl.y (y_fieldAddr (fa33_0PsX _) rfl) rfl ?_
    refine Wl.on' rfl rfl g_51_ ?_
    refine Wl.l (l_load one3PsX rfl (by exact hB_o5.at (j := 0) rfl)) rfl ?_
    refine Wl.on' rfl rfl g_51_ <| Wl.y (y_eqli rfl rfl) rfl ?_
    refine Wl.y (y_pickT rfl g_51_ rfl) rfl ?_
    refine Wl.mv rfl rfl ?_
    refine Wl.guardT rfl rfl rfl (fun g_57 => ?_) (fun g_57 => ?_)
    ·
     have g_57_ := g_57
     try simp only [DZ] at g_57
     refine Wl.y (y_fieldAddr (fa33_1PsX _) rfl) rfl ?_
     refine Wl.on' rfl rfl g_57_ ?_
     refine Wl.l (l_load one3PsX rfl (by exact hB_o5.at (j := 1) rfl)) rfl ?_
     refine Wl.on' rfl rfl g_57_ <| Wl.y (y_eqli rfl rfl) rfl ?_
     refine Wl.y (y_pickT rfl g_57_ rfl) rfl ?_
     refine Wl.mv rfl rfl ?_
     refine Wl.guardT rfl rfl rfl (fun g_63 => ?_) (fun g_63 => ?_)
     ·
      have g_63_ := g_63
      try simp only [DZ] at g_63
      refine Wl.y (y_fieldAddr (fa33_2PsX _) rfl) rfl ?_
      refine Wl.on' rfl rfl g_63_ ?_
      refine Wl.l (l_load one3PsX rfl (by exact hB_o5.at (j := 2) rfl)) rfl ?_
      refine Wl.on' rfl rfl g_63_ <| Wl.y (y_eqli rfl rfl) rfl ?_
      refine Wl.y (y_pickT rfl g_63_ rfl) rfl ?_
      refine Wl.mv rfl rfl ?_
      refine Wl.guardT rfl rfl rfl (fun g_69 => ?_) (fun g_69 => ?_)
      ·
       have g_69_ := g_69
       try simp only [DZ] at g_69
       refine Wl.y (y_fieldAddr (fa31_0PsX _) rfl) rfl ?_
       refine Wl.on' rfl rfl g_69_ ?_
       refine Wl.l (l_load one3PsX rfl (by exact hB_o16.at (j := 0) rfl)) rfl ?_
       refine Wl.on' rfl rfl g_69_ <| Wl.y (y_eqli rfl rfl) rfl ?_
       refine Wl.y (y_pickT rfl g_69_ rfl) rfl ?_
       refine Wl.mv rfl rfl ?_
       refine Wl.guardT rfl rfl rfl (fun g_75 => ?_) (fun g_75 => ?_)
       ·
        have g_75_ := g_75
        try simp only [DZ] at g_75
        refine Wl.y (y_fieldAddr (fa31_7PsX _) rfl) rfl ?_
        refine Wl.on' rfl rfl g_75_ ?_
        refine Wl.l (l_load one29PsX rfl (by exact hB_o16.at (j := 19) hcA)) rfl ?_
        refine Wl.on' rfl rfl g_75_ ?_
        refine Wl.y (y_indexAddr Tryz.underlying29 sz31PsX rfl rfl (by omega) (by omega)) rfl ?_
        refine Wl.on' rfl rfl g_75_ ?_
        refine Wl.y (y_fieldAddr (fa31_6PsX _) rfl) rfl ?_
        refine Wl.on' rfl rfl g_75_ ?_
        refine Wl.l (l_load one3PsX rfl (by exact hc1 18 _ rfl)) rfl ?_
        refine Wl.on' rfl rfl g_75_ <| Wl.y (y_eqli rfl rfl) rfl ?_
        refine Wl.y (y_pickT rfl g_75_ rfl) rfl ?_
        refine Wl.mv rfl rfl ?_
        refine Wl.guardT rfl rfl rfl (fun g_84 => ?_) (fun g_84 => ?_)
        ·
         have g_84_ := g_84
         try simp only [DZ] at g_84
         refine Wl.y (y_fieldAddr (fa31_7PsX _) rfl) rfl ?_
         refine Wl.on' rfl rfl g_84_ ?_
         refine Wl.l (l_load one29PsX rfl (by exact hB_o16.at (j := 19) hcA)) rfl ?_
         refine Wl.on' rfl rfl g_84_ ?_
         refine Wl.y (y_indexAddr Tryz.underlying29 sz31PsX rfl rfl (by omega) (by omega)) rfl ?_
         refine Wl.on' rfl rfl g_84_ ?_
         refine Wl.y (y_fieldAddr (fa31_7PsX _) rfl) rfl ?_
         refine Wl.on' rfl rfl g_84_ ?_
         refine Wl.l (l_load one29PsX rfl (by exact hc1 19 _ hcA1)) rfl ?_
         refine Wl.on' rfl rfl g_84_ ?_
         refine Wl.y (y_indexAddr Tryz.underlying29 sz31PsX rfl rfl (by omega) (by omega)) rfl ?_
         refine Wl.on' rfl rfl g_84_ ?_
         refine Wl.y (y_fieldAddr (fa31_2PsX _) rfl) rfl ?_
         refine Wl.on' rfl rfl g_84_ ?_
         refine Wl.l (l_load one3PsX rfl (by exact hc4 2 _ rfl)) rfl ?_
         refine Wl.on' rfl rfl g_84_ <| Wl.y (y_eqli rfl rfl) rfl ?_
         refine Wl.y (y_pickT rfl g_84_ rfl) rfl ?_
         refine Wl.mv rfl rfl ?_
         refine Wl.guardT rfl rfl rfl (fun g_96 => ?_) (fun g_96 => ?_)
         ·
          have g_96_ := g_96
          try simp only [DZ] at g_96
          refine Wl.y (y_fieldAddr (fa31_7PsX _) rfl) rfl ?_
          refine Wl.on' rfl rfl g_96_ ?_
          refine Wl.l (l_load one29PsX rfl (by exact hB_o16.at (j := 19) hcA)) rfl ?_
          refine Wl.on' rfl rfl g_96_ ?_
          refine Wl.y (y_indexAddr Tryz.underlying29 sz31PsX rfl rfl (by omega) (by omega)) rfl ?_
          refine Wl.on' rfl rfl g_96_ ?_
          refine Wl.y (y_fieldAddr (fa31_4PsX _) rfl) rfl ?_
          refine Wl.on' rfl rfl g_96_ ?_
          refine Wl.y (y_fieldAddr (fa28_1PsX _) rfl) rfl ?_
          refine Wl.on' rfl rfl g_96_ ?_
          refine Wl.l (l_load one9PsX rfl (by exact hc3 11 (str z3.wh.nm) rfl)) rfl ?_
          refine Wl.on' rfl rfl g_96_ <| Wl.y (y_eqls rfl rfl) rfl ?_
          refine Wl.y (y_pickT rfl g_96_ rfl) rfl ?_
          refine Wl.mv rfl rfl ?_
          refine Wl.guardT rfl rfl rfl (fun g_106 => ?_) (fun g_106 => ?_)
          ·
           have g_106_ := g_106
           try simp only [DZ] at g_106
           refine Wl.mv rfl rfl <| Wl.on' rfl rfl g_106_ <| Wl.y (y_eqli rfl rfl) rfl ?_
           refine Wl.y (y_pickT rfl g_106_ rfl) rfl ?_
           refine Wl.mv rfl rfl ?_
           refine Wl.guardT rfl rfl rfl (fun g_111 => ?_) (fun g_111 => ?_)
           ·
            have g_111_ := g_111
            try simp only [DZ] at g_111
            refine Wl.mv rfl rfl <| Wl.on' rfl rfl g_111_ <| Wl.y (y_eqli rfl rfl) rfl ?_
            refine Wl.y (y_pickT rfl g_111_ rfl) rfl ?_
            refine Wl.sg rfl rfl <| Wl.nil <| Wq.next hK_42 <| Wc.ret ?_
            refine ret1 rfl rfl ?_
            exact ⟨_, rfl, rfl, hb⟩
           have g_111_ := g_111
           try simp only [DZ] at g_111
           exact absurd g_111_ (by decide)
          have g_106_ := g_106
          try simp only [DZ] at g_106
          exact absurd g_106_ (by rw [hnm]; decide)
         have g_96_ := g_96
         try simp only [DZ] at g_96
         exact absurd g_96_ (by rw [hdir]; decide)
        have g_84_ := g_84
        try simp only [DZ] at g_84
        exact absurd g_84_ (by rw [hmx]; decide)
       have g_75_ := g_75
       try simp only [DZ] at g_75
       exact absurd g_75_ (by rw [hz0]; decide)
      have g_69_ := g_69
      try simp only [DZ] at g_69
      exact absurd g_69_ (by decide)
     have g_63_ := g_63
     try simp only [DZ] at g_63
     exact absurd g_63_ (by decide)
    have g_57_ := g_57
    try simp only [DZ] at g_57
    exact absurd g_57_ (by decide)
   have g_51_ := g_51
   try simp only [DZ] at g_51
   exact absurd g_51_ (by decide)
  have g_46_ := g_46
  try simp only [DZ] at g_46
  exact absurd g_46_ (by decide)
end Go.Proofs.YtjnabgddjogkbaaGreatDoor
