/- Package parse, by the calculus: expressions of two, literals, brackets. · Package parse, by the calculus: many, turned. · Package parse, by the calculus: labels. · Package parse, by the calculus: atoms. -/
import Derived.Test.YtjnabgddjogkbaaGreatDoorZP1
namespace Go.Proofs.YtjnabgddjogkbaaGreatDoor
open Go.RowKit Go.Bw Go.Bw.Fl
set_option linter.unusedVariables false
set_option linter.unusedSimpArgs false
theorem fa60_2PsC (p : Addr) (w : World) : (Instr.fieldAt 60 (.pointer (some p)) 2).run Tryz.prog w = .ok (.pointer (some (p.add 3))) w := run_fieldAt (i := 2) (sz := 0) Tryz.underlying60 rfl (by kernel_rfl) p w
theorem one3PsC : One Tryz.prog 3 := ⟨_, Tryz.underlying3, rfl, by kernel_rfl⟩
theorem txt150PsC : Txt Tryz.prog 150 := ⟨_, Tryz.func150, by kernel_rfl, rfl⟩   -- (*bridleway/parse.parser).text
theorem txt151PsC : Txt Tryz.prog 151 := ⟨_, Tryz.func151, by kernel_rfl, rfl⟩   -- bridleway/parse.within
theorem txt199PsC : Txt Tryz.prog 199 := ⟨_, Tryz.func199, by kernel_rfl, rfl⟩   -- bridleway/parse.two
theorem txt216PsC : Txt Tryz.prog 216 := ⟨_, Tryz.func216, by kernel_rfl, rfl⟩   -- strings.ToLower
theorem txt56PsC : Txt Tryz.prog 56 := ⟨_, Tryz.func56, by kernel_rfl, rfl⟩   -- bridleway/value.Read
/-- the cells of an expression's value -/
structure EC where
  k : Int
  nm : List UInt8
  v : Val
  A : Option Addr
  n : Nat
  c : Nat
def EC.cells (x : EC) : List Value := [.int .i64 x.k, str x.nm, .int .i64 x.v.k, .int .i64 x.v.n, .float .f64 x.v.f, str x.v.s, .slice x.A x.n x.c]
def EC.enc (x : EC) : Value := .agg x.cells.toArray
/-- likewise, made since block B -/
def EVal (B : Nat) (e : ExprD) (v : Value) (w : World) : Prop := ∃ (x : EC) (S : Nat → Prop), v = x.enc ∧ EAt w S e x.cells ∧ ∀ k, S k → B ≤ k ∧ k < w.heap.size
theorem EAt.leafC (w : World) (S : Nat → Prop) (k : Int) (nm : List UInt8) (v : Val) : EAt w S (.mk k nm v []) (EC.cells ⟨k, nm, v, none, 0, 0⟩) := EAt.leaf w S k nm v
/-- S, and what is made since -/
def More (S : Nat → Prop) (w w' : World) (k : Nat) : Prop := S k ∨ (w.heap.size ≤ k ∧ k < w'.heap.size)
theorem two_r (k : Int) (nm : List UInt8) (x y : EC) (ex ey : ExprD) (S : Nat → Prop) (w : World) (hx : EAt w S ex x.cells) (hy : EAt w S ey y.cells) : Ret Tryz.prog 199 [.int .i64 k, str nm, x.enc, y.enc] w fun v w' => (∃ (z : EC) (S' : Nat → Prop), v = z.enc ∧ EAt w' S' (twoE k nm ex ey) z.cells ∧ ∀ k, S' k → More S w w' k) ∧ Below w.heap.size w w' := by
  have hb := Below.refl w.heap.size w
  have hx_hb := hx
  have hy_hb := hy
  refine enter Tryz.func199 rfl rfl rfl ?_
  refine Wc.seq fun _ hK_1 => Wc.region ?_
  refine Wl.boxN rfl rfl ?_
  rintro g_o0 w_o0 hg_o0 hn_o0 hs_o0
  have hz_o0 := hs_o0.size
  have hb := hb.trans (hs_o0.mono hb.size)
  have hx := hx_hb.below hb
  have hy := hy_hb.below hb
  have hB_o0 := hn_o0
  have hl_o0 := hB_o0.lt
  refine Wl.boxN rfl rfl ?_
  rintro g_o1 w_o1 hg_o1 hn_o1 hs_o1
  have hz_o1 := hs_o1.size
  have hb := hb.trans (hs_o1.mono hb.size)
  have hx := hx_hb.below hb
  have hy := hy_hb.below hb
  try have hB_o0 := Blk.below hB_o0 hs_o1
  have hB_o1 := hn_o1
  have hl_o1 := hB_o1.lt
  refine Wl.allocN (z := (.agg #[(.int .i64 0), (str []), (.int .i64 0), (.int .i64 0), (.float .f64 0), (str []), (.slice none 0 0)])) (by kernel_rfl) rfl ?_
  rintro g_o2 w_o2 hg_o2 hn_o2 hs_o2
  have hz_o2 := hs_o2.size
  have hb := hb.trans (hs_o2.mono hb.size)
  have hx := hx_hb.below hb
  have hy := hy_hb.below hb
  try have hB_o0 := Blk.below hB_o0 hs_o2
  try have hB_o1 := Blk.below hB_o1 hs_o2
  have hB_o2 := hn_o2
  have hl_o2 := hB_o2.lt
  refine Wl.nil <| Wq.next hK_1 <| Wc.seq fun _ hK_5 => Wc.region <| Wl.mv rfl rfl <| Wl.mv rfl rfl ?_
  refine Wl.l (l_loadS Tryz.underlying28 (by kernel_rfl) rfl (by exact fun j u hu => hB_o0.at hu)) rfl ?_
  refine Wl.l (l_loadS Tryz.underlying28 (by kernel_rfl) rfl (by exact fun j u hu => hB_o1.at hu)) rfl ?_
  refine Wl.litN (sz := 7) (vs := [_, _]) Tryz.underlying26 (by kernel_rfl) rfl rfl rfl rfl rfl rfl ?_
  rintro g_b0 w_b0 hg_b0 hn_b0 hs_b0
  have hz_b0 := hs_b0.size
  have hb := hb.trans (hs_b0.mono hb.size)
  have hx := hx_hb.below hb
  have hy := hy_hb.below hb
  try have hB_o2 := Blk.below hB_o2 hs_b0
  have hB_b0 := hn_b0
  have hl_b0 := hB_b0.lt
  refine Wl.y (y_buildS (z := [(.int .i64 0), (str []), (.int .i64 0), (.int .i64 0), (.float .f64 0), (str []), (.slice none 0 0)]) (pl := [(0, 1), (1, 1), (2, 4), (6, 1)]) (cs := [_, _, _, _, _, _, _]) Tryz.underlying28 (by kernel_rfl) (by kernel_rfl) rfl rfl rfl) rfl ?_
  refine Wl.storeS (by kernel_rfl) rfl rfl hB_o2 rfl rfl ?_
  rintro w_s0 hn_s0 hg_s0
  have hz_s0 := hg_s0.size
  have hb := below_blk hb hg_s0 hb.size (by omega)
  have hx := hx_hb.below hb
  have hy := hy_hb.below hb
  try have hB_b0 := hB_b0.over hg_s0 (by omega)
  have hB_o2 := hn_s0
  refine Wl.nil <| Wq.next hK_5 <| Wc.ret ?_
  refine retN (rs := [.cell 8 28]) (vs := [_]) rfl (.cell rfl (loadS Tryz.underlying28 (by kernel_rfl) (fun j u hu => hB_o2.at hu)) .nil) ?_
  exact ⟨_, rfl, ⟨⟨k, nm, nullV, some ⟨g_b0, 0, none⟩, 2, 2⟩, fun k => S k ∨ k = g_b0, rfl, EAt.node (kids := [ex, ey]) rfl (hB_b0.rd 2 7 rfl) (.inr rfl) ((ELs.two hx hy).mono fun _ h => .inl h), fun k hk => by rcases hk with h | h; (· exact .inl h); (· exact .inr (by have := hB_b0.lt; omega))⟩, hb⟩
theorem op_r (s : List UInt8) (ha : ∀ j, j < s.length → (s.getD j 0).toNat < 128) (hs : s.length ≤ 65536) (x y : EC) (ex ey : ExprD) (S : Nat → Prop) (w : World) (hS : ∀ k, S k → k < w.heap.size) (hx : EAt w S ex x.cells) (hy : EAt w S ey y.cells) : Ret Tryz.prog 208 [str s, x.enc, y.enc] w fun v w' => (∃ (z : EC) (S' : Nat → Prop), v = z.enc ∧ EAt w' S' (opE s ex ey) z.cells ∧ ∀ k, S' k → More S w w' k) ∧ Below w.heap.size w w' := by
  have hb := Below.refl w.heap.size w
  have hx_hb := hx
  have hy_hb := hy
  refine enter Tryz.func208 rfl rfl rfl ?_
  refine Wc.seq fun _ hK_1 => Wc.region ?_
  refine Wl.boxN rfl rfl ?_
  rintro g_o0 w_o0 hg_o0 hn_o0 hs_o0
  have hz_o0 := hs_o0.size
  have hb := hb.trans (hs_o0.mono hb.size)
  have hx := hx_hb.below hb
  have hy := hy_hb.below hb
  have hB_o0 := hn_o0
  have hl_o0 := hB_o0.lt
  refine Wl.boxN rfl rfl ?_
  rintro g_o1 w_o1 hg_o1 hn_o1 hs_o1
  have hz_o1 := hs_o1.size
  have hb := hb.trans (hs_o1.mono hb.size)
  have hx := hx_hb.below hb
  have hy := hy_hb.below hb
  try have hB_o0 := Blk.below hB_o0 hs_o1
  have hB_o1 := hn_o1
  have hl_o1 := hB_o1.lt
  refine Wl.allocN (z := (.agg #[(.int .i64 0), (str []), (.int .i64 0), (.int .i64 0), (.float .f64 0), (str []), (.slice none 0 0)])) (by kernel_rfl) rfl ?_
  rintro g_o2 w_o2 hg_o2 hn_o2 hs_o2
  have hz_o2 := hs_o2.size
  have hb := hb.trans (hs_o2.mono hb.size)
  have hx := hx_hb.below hb
  have hy := hy_hb.below hb
  try have hB_o0 := Blk.below hB_o0 hs_o2
  try have hB_o1 := Blk.below hB_o1 hs_o2
  have hB_o2 := hn_o2
  have hl_o2 := hB_o2.lt
  refine Wl.nil <| Wq.next hK_1 <| Wc.seq fun _ hK_5 => ?_
  refine Wc.any (n := 6) (fun w' => Below w.heap.size w w' ∧ Blk w' g_o0 28 x.cells ∧ Blk w' g_o1 28 y.cells ∧ ∃ cs, Blk w' g_o2 28 cs) #[false, false, false, false, false, false] (by kernel_rfl) rfl (by kernel_rfl) ?_
  refine Wa.drew ?_
  rintro w_g1 hs_g1
  have hz_g1 := hs_g1.size
  have hb := hb.trans (hs_g1.mono hb.size)
  have hx := hx_hb.below hb
  have hy := hy_hb.below hb
  try have hB_o0 := Blk.below hB_o0 hs_g1
  try have hB_o1 := Blk.below hB_o1 hs_g1
  try have hB_o2 := Blk.below hB_o2 hs_g1
  refine Wa.take (i := 0) #[true, false, false, false, false, false] rfl (by kernel_rfl) (fun _ _ _ h => h) rfl (fun wq hq => Yl.ld (y_move rfl)) ⟨hb, hB_o0, hB_o1, _, hB_o2⟩ ?_
  refine Wa.take (i := 2) #[true, false, true, false, false, false] rfl (by kernel_rfl) (fun _ _ _ h => h) rfl (fun wq hq => l_loadS Tryz.underlying28 (by kernel_rfl) rfl (by obtain ⟨hq, hB_o0, hB_o1, _, hB_o2⟩ := hq; exact fun j u hu => hB_o0.at hu)) ⟨hb, hB_o0, hB_o1, _, hB_o2⟩ ?_
  refine Wa.take (i := 3) #[true, false, true, true, false, false] rfl (by kernel_rfl) (fun _ _ _ h => h) rfl (fun wq hq => l_loadS Tryz.underlying28 (by kernel_rfl) rfl (by obtain ⟨hq, hB_o0, hB_o1, _, hB_o2⟩ := hq; exact fun j u hu => hB_o1.at hu)) ⟨hb, hB_o0, hB_o1, _, hB_o2⟩ ?_
  refine Wa.some (rs := [1]) (by kernel_rfl) rfl ?_
  refine Ws.cons #[true, true, true, true, false, false] rfl rfl (fun _ hK_9 => ?_) ?_
  ·
   refine Wl.call txt216PsC rfl rfl (ToLower_r s ha hs _) rfl ?_
   rintro _ w_k0 ⟨rfl, hs_k0⟩
   have hz_k0 := hs_k0.size
   have hb := hb.trans (hs_k0.mono hb.size)
   have hx := hx_hb.below hb
   have hy := hy_hb.below hb
   try have hB_o0 := Blk.below hB_o0 hs_k0
   try have hB_o1 := Blk.below hB_o1 hs_k0
   try have hB_o2 := Blk.below hB_o2 hs_k0
   refine Wl.nil ?_
   refine Wq.back hK_9 ⟨hb, hB_o0, hB_o1, _, hB_o2⟩ ?_
   refine Wa.some (rs := [4]) (by kernel_rfl) rfl ?_
   refine Ws.cons #[true, true, true, true, true, false] rfl rfl (fun _ hK_11 => ?_) ?_
   ·
    refine Wl.call txt199PsC rfl rfl (two_r 3 (lowerV s) x y ex ey S _ hx hy) rfl ?_
    rintro _ w_k1 ⟨⟨z, Sz, rfl, hz, hz_S⟩, hs_k1⟩
    have hz_k1 := hs_k1.size
    have hb := hb.trans (hs_k1.mono hb.size)
    have hx := hx_hb.below hb
    have hy := hy_hb.below hb
    try have hB_o0 := Blk.below hB_o0 hs_k1
    try have hB_o1 := Blk.below hB_o1 hs_k1
    try have hB_o2 := Blk.below hB_o2 hs_k1
    refine Wl.nil ?_
    refine Wq.back hK_11 ⟨hb, hB_o0, hB_o1, _, hB_o2⟩ ?_
    refine Wa.some (rs := [5]) (by kernel_rfl) rfl ?_
    refine Ws.cons #[true, true, true, true, true, true] rfl rfl (fun _ hK_13 => ?_) ?_
    ·
     have hz_S : ∀ k, Sz k → (S k ∨ (w_k0.heap.size ≤ k ∧ k < w_k1.heap.size)) := hz_S
     refine Wl.storeS (by kernel_rfl) rfl rfl hB_o2 rfl rfl ?_
     rintro w_s0 hn_s0 hg_s0
     have hz_s0 := hg_s0.size
     have hb := below_blk hb hg_s0 hb.size (by omega)
     have hx := hx_hb.below hb
     have hy := hy_hb.below hb
     try have hB_o0 := hB_o0.over hg_s0 (by omega)
     try have hB_o1 := hB_o1.over hg_s0 (by omega)
     try have hz := EAt.kp hz hg_s0 (fun h_ => by have h2_ := hz_S _ h_; first | omega | (rcases h2_ with h3_ | h3_; (have h4_ := hS _ h3_; omega); omega))
     have hB_o2 := hn_s0
     refine Wl.nil ?_
     refine Wq.back hK_13 ⟨hb, hB_o0, hB_o1, _, hB_o2⟩ ?_
     refine Wa.done (by kernel_rfl) ?_
     refine Wq.next hK_5 <| Wc.ret ?_
     refine retN (rs := [.cell 6 28]) (vs := [_]) rfl (.cell rfl (loadS Tryz.underlying28 (by kernel_rfl) (fun j u hu => hB_o2.at hu)) .nil) ?_
     exact ⟨_, rfl, ⟨z, Sz, rfl, hz, fun k hk => by rcases hz_S k hk with h | h; (· exact .inl h); (· exact .inr (by omega))⟩, hb⟩
    exact Ws.nil
   exact Ws.nil
  exact Ws.nil
theorem literal_r (p en : Nat) (s : List UInt8) (a : Int) (r ts : List Tok) (hrt : r.length ≤ ts.length) (hs : s.length ≤ 140737488355328) (g b : Nat) (w : World) (hP : PSt w p en r g b) : Out Tryz.prog 219 [str s, .int .i64 a] w (PRes w p en g b ts (pLit s a r) (EVal w.heap.size)) (PErr w p en g b (pLit s a r)) := by
  have hpl := hP.lt
  have hb := Kp.refl p w
  refine enter Tryz.func219 rfl rfl rfl ?_
  refine Wc.seq fun _ hK_1 => Wc.region ?_
  refine Wl.allocN (z := (.agg #[(.int .i64 0), (str []), (.int .i64 0), (.int .i64 0), (.float .f64 0), (str []), (.slice none 0 0)])) (by kernel_rfl) rfl ?_
  rintro g_o0 w_o0 hg_o0 hn_o0 hs_o0
  have hz_o0 := hs_o0.size
  have hP := hP.below hs_o0
  replace hs_o0 := Below.kp (p := p) hs_o0
  have hb := hb.trans hs_o0
  have hB_o0 := hn_o0
  have hl_o0 := hB_o0.lt
  refine Wl.nil <| Wq.next hK_1 <| Wc.seq fun _ hK_3 => Wc.region <| Wl.mv rfl rfl ?_
  refine Wl.call txt56PsC rfl rfl (Read_x s hs _ hP.lb) rfl ?_
  rintro _ w_k0 ⟨⟨u, n, ok, rfl, hr⟩, hs_k0⟩
  have hz_k0 := hs_k0.size
  first | have hP := PSt.below hP hs_k0 | have hP := PSt.kp hP hs_k0 | skip
  first | have hB_o0 := Blk.below hB_o0 hs_k0 | have hB_o0 := Blk.kp hB_o0 hs_k0 (by omega) | skip
  first | replace hs_k0 := Below.kp (p := p) hs_k0 | skip
  have hb := hb.trans hs_k0
  refine Wl.mv rfl rfl <| Wl.y (y_extract rfl rfl) rfl <| Wl.y (y_extract rfl rfl) rfl <| Wl.y (y_extract rfl rfl) rfl ?_
  refine Wl.allocN (z := (.agg #[(.int .i64 0), (.int .i64 0), (.float .f64 0), (str [])])) (by kernel_rfl) rfl ?_
  rintro g_o6 w_o6 hg_o6 hn_o6 hs_o6
  have hz_o6 := hs_o6.size
  have hP := hP.below hs_o6
  have hB_o0 := hB_o0.below hs_o6
  replace hs_o6 := Below.kp (p := p) hs_o6
  have hb := hb.trans hs_o6
  have hB_o6 := hn_o6
  have hl_o6 := hB_o6.lt
  refine Wl.storeS (by kernel_rfl) rfl rfl hB_o6 rfl rfl ?_
  rintro w_s0 hn_s0 hg_s0
  have hz_s0 := hg_s0.size
  have hb := kp_blk hb hg_s0 (by omega)
  try have hP := PSt.over hP hg_s0 (by omega)
  try have hB_o0 := hB_o0.over hg_s0 (by omega)
  have hB_o6 := hn_s0
  refine Wl.sg rfl rfl <| Wl.sg rfl rfl <| Wl.nil <| Wq.next hK_3 <| Wc.seq fun _ hK_13 => Wc.seq fun _ hK_14 => ?_
  obtain ⟨hlit, hno⟩ := litV_rd hr
  refine Wc.meet (X := Bool) (fun q => [(0, str s), (1, .int .i64 a), (4, .pointer (some ⟨g_o0, 0, none⟩)), (5, .pointer (some ⟨g_o6, 0, none⟩)), (21, .bool q)]) (fun q wr => q = decide (¬ (ok = true ∧ n = s.length)) ∧ Kp p w wr ∧ PSt wr p en r g b ∧ Blk wr g_o6 25 u.cells ∧ Blk wr g_o0 28 (EC.cells ⟨0, [], nullV, none, 0, 0⟩)) (fun _ hM_15 => ?_) ?_
  ·
   refine Wc.region <| Wl.mv rfl rfl <| Wl.y (y_not rfl) rfl <| Wl.mv rfl rfl ?_
   refine Wl.guardF rfl rfl rfl (fun g_19 => ?_) (fun g_19 => ?_)
   ·
    have g_19_ := g_19
    try simp only [DZ] at g_19
    refine Wl.off' rfl rfl g_19_ rfl rfl <| Wl.off' rfl rfl g_19_ rfl rfl <| Wl.off' rfl rfl g_19_ rfl rfl ?_
    refine Wl.y (y_pickT rfl g_19_ rfl) rfl ?_
    refine Wl.nil ?_
    refine Wq.meet hM_15 (decide (¬ (ok = true ∧ n = s.length))) (by repeat first | exact Sub.nil | refine Sub.cons' rfl (by first | rfl | exact bool_eq (by rw [Bool.eq_iff_iff]; simp_all <;> omega)) ?_) ?_
    exact ⟨rfl, hb, hP, hB_o6, hB_o0⟩
   have g_19_ := g_19
   try simp only [DZ] at g_19
   refine Wl.mv rfl rfl <| Wl.on' rfl rfl g_19_ <| Wl.mv rfl rfl <| Wl.on' rfl rfl g_19_ ?_
   refine Wl.y (y_lens Tryz.underlying9 (by omega) rfl) rfl ?_
   refine Wl.on' rfl rfl g_19_ <| Wl.y (y_neqi rfl rfl) rfl ?_
   refine Wl.y (y_pickF rfl g_19_ rfl) rfl ?_
   refine Wl.nil ?_
   refine Wq.meet hM_15 (decide (¬ (ok = true ∧ n = s.length))) (by repeat first | exact Sub.nil | refine Sub.cons' rfl (by first | rfl | exact bool_eq (by rw [Bool.eq_iff_iff]; simp_all <;> omega)) ?_) ?_
   exact ⟨rfl, hb, hP, hB_o6, hB_o0⟩
  rintro q wr hI_26
  replace hI_26 : q = decide (¬ (ok = true ∧ n = s.length)) ∧ Kp p w wr ∧ PSt wr p en r g b ∧ Blk wr g_o6 25 u.cells ∧ Blk wr g_o0 28 (EC.cells ⟨0, [], nullV, none, 0, 0⟩) := hI_26
  obtain ⟨hq, hb, hP, hB_o6, hB_o0⟩ := hI_26
  show Wq _ _ _ _ [(0, str s), (1, .int .i64 a), (4, .pointer (some ⟨g_o0, 0, none⟩)), (5, .pointer (some ⟨g_o6, 0, none⟩)), (21, .bool q)] _
  try have hzhb_g2 := hb.size
  have hlhB_o6_g2 := hB_o6.lt
  have hlhB_o0_g2 := hB_o0.lt
  refine Wq.next hK_14 ?_
  refine Wc.cond rfl (fun c0_27 => ?_) (fun c0_27 => ?_)
  ·
   have c0_27_ := c0_27
   try simp only [DZ] at c0_27
   have hq0 := of_decide_eq_true (hq.symm.trans c0_27_)
   have hf : pLit s a r = .err a 2 := by simp only [pLit, hlit, if_neg hq0]
   refine Wc.region <| Wl.mv rfl rfl ?_
   refine Wl.y (y_buildS (z := [(.int .i64 0), (.int .i64 0)]) (pl := [(0, 1), (1, 1)]) (cs := [_, _]) Tryz.underlying54 (by kernel_rfl) (by kernel_rfl) rfl rfl rfl) rfl ?_
   refine Wl.y (y_iface Tryz.underlying54 (by intro _ h; cases h) rfl) rfl ?_
   refine Wl.panic rfl ?_
   refine Wq.then_panic ?_
   refine panics ?_
   exact outX ⟨_, _, hf, rfl, ⟨_, hP⟩, hb⟩
  have c0_27_ := c0_27
  try simp only [DZ] at c0_27
  have hq0 := Classical.not_not.1 (of_decide_eq_false (hq.symm.trans c0_27_))
  have hf : pLit s a r = .ok (.mk 1 [] u []) r := by simp only [pLit, hlit, if_pos hq0]
  refine Wc.skip <| Wq.next hK_13 <| Wc.seq fun _ hK_31 => Wc.region ?_
  refine Wl.l (l_loadS Tryz.underlying25 (by kernel_rfl) rfl (by exact fun j u hu => hB_o6.at hu)) rfl ?_
  refine Wl.y (y_buildS (z := [(.int .i64 0), (str []), (.int .i64 0), (.int .i64 0), (.float .f64 0), (str []), (.slice none 0 0)]) (pl := [(0, 1), (1, 1), (2, 4), (6, 1)]) (cs := [_, _, _, _, _, _, _]) Tryz.underlying28 (by kernel_rfl) (by kernel_rfl) rfl rfl rfl) rfl ?_
  refine Wl.storeS (by kernel_rfl) rfl rfl hB_o0 rfl rfl ?_
  rintro w_s1 hn_s1 hg_s1
  have hz_s1 := hg_s1.size
  have hb := kp_blk hb hg_s1 (by omega)
  try have hP := PSt.over hP hg_s1 (by omega)
  have hB_o0 := hn_s1
  refine Wl.nil <| Wq.next hK_31 <| Wc.ret ?_
  refine retN (rs := [.cell 4 28]) (vs := [_]) rfl (.cell rfl (loadS Tryz.underlying28 (by kernel_rfl) (fun j u hu => hB_o0.at hu)) .nil) ?_
  exact outR ⟨⟨_, _, hf, ⟨⟨1, [], u, none, 0, 0⟩, fun _ => False, rfl, EAt.leafC _ _ 1 [] u, fun _ h => h.elim⟩, hP, hrt⟩, hb⟩
/-! ### what is called by its value -/
/-- a function's value that parses, wherever but the parser's block is as it was -/
structure Does {α : Type} (w0 : World) (p en g b m : Nat) (f : FuncId) (l c : Array Value) (F : List Tok → Res α) (V : Nat → α → Value → World → Prop) : Prop where
  txt : Txt Tryz.prog f
  does : ∀ (w : World) (ts : List Tok), Kp p w0 w → PSt w p en ts g b → ts.length < m → Out Tryz.prog f (l.toList ++ [] ++ c.toList) w (PRes w p en g b ts (F ts) (V w.heap.size)) (PErr w p en g b (F ts))
theorem Does.kp {α : Type} {w0 w : World} {p en g b m : Nat} {f : FuncId} {l c : Array Value} {F : List Tok → Res α} {V : Nat → α → Value → World → Prop} (h : Does w0 p en g b m f l c F V) (hk : Kp p w0 w) : Does w p en g b m f l c F V := ⟨h.txt, fun w' ts h1 h2 h3 => h.does w' ts (hk.trans h1) h2 h3⟩
theorem txtW : Txt Tryz.prog 183 := ⟨_, Tryz.func183, by kernel_rfl, rfl⟩
theorem DRet.mono {f : FuncId} {args : List Value} {w : World} {R R' : World → Prop} (h : DRet Tryz.prog f args w R) (hr : ∀ w', R w' → R' w') : DRet Tryz.prog f args w R' := fun u => (h u).mono fun e u' w' ⟨h1, h2, h3⟩ => ⟨h1, h2, hr w' h3⟩
theorem outBx_r {p en g b gx : Nat} {w : World} (hP : ∃ r, PSt w p en r g (b + 1)) (hb0 : b < 50) (hx : p < gx) (hB : Blk w gx 178 [.pointer (some (bptr p))]) : DRet Tryz.prog 183 [.pointer (some ⟨gx, 0, none⟩)] w fun w' => (∃ r, PSt w' p en r g b) ∧ Kp p w w' := by
  obtain ⟨r, hP⟩ := hP
  exact DRet.mono (outB_r p en r g b gx w hP hb0 hx hB) fun w' h => ⟨⟨r, h.1⟩, h.2⟩
theorem outGx_r {p en g b gx : Nat} {w : World} (hP : ∃ r, PSt w p en r (g + 1) b) (hb0 : g < 50) (hx : p < gx) (hB : Blk w gx 178 [.pointer (some (gptr p))]) : DRet Tryz.prog 183 [.pointer (some ⟨gx, 0, none⟩)] w fun w' => (∃ r, PSt w' p en r g b) ∧ Kp p w w' := by
  obtain ⟨r, hP⟩ := hP
  exact DRet.mono (outG_r p en r g b gx w hP hb0 hx hB) fun w' h => ⟨⟨r, h.1⟩, h.2⟩
theorem bracket_r (p en : Nat) (ts : List Tok) (g b m : Nat) (f : FuncId) (l c : Array Value) (knot : Nat → Pe) (hm : ts.length ≤ m) (w : World) (hP : PSt w p en ts g b) (hD : Does w p en g (b + 1) m f l c (knot (b + 1)) EVal) : Out Tryz.prog 212 [pptr p, .func (.func f) l c] w (PRes w p en g b ts (pBracket en b knot ts) (EVal w.heap.size)) (PErr w p en g b (pBracket en b knot ts)) := by
  have hpl := hP.lt
  have hb := Kp.refl p w
  refine enterD Tryz.func212 rfl rfl rfl ?_
  refine Wc.seqD fun _ hK_1 => ?_
  refine Wc.region ?_
  refine Wl.allocN (z := (.agg #[(.int .i64 0), (str []), (.int .i64 0), (.int .i64 0), (.float .f64 0), (str []), (.slice none 0 0)])) (by kernel_rfl) rfl ?_
  rintro g_o0 w_o0 hg_o0 hn_o0 hs_o0
  have hz_o0 := hs_o0.size
  have hP := hP.below hs_o0
  replace hs_o0 := Below.kp (p := p) hs_o0
  have hb := hb.trans hs_o0
  have hB_o0 := hn_o0
  have hl_o0 := hB_o0.lt
  refine Wl.nil ?_
  refine Wq.nextD hK_1 ?_
  refine Wc.seqD fun _ hK_3 => ?_
  refine Wc.any (n := 8) (fun w' => Kp p w w' ∧ Blk w' g_o0 28 (EC.cells ⟨0, [], nullV, none, 0, 0⟩)) #[false, false, false, false, false, false, false, false] (by kernel_rfl) rfl (by kernel_rfl) ?_
  refine Wa.drew ?_
  rintro w_g1 hs_g1
  have hz_g1 := hs_g1.size
  have hP := hP.below hs_g1
  have hB_o0 := hB_o0.below hs_g1
  replace hs_g1 := Below.kp (p := p) hs_g1
  have hb := hb.trans hs_g1
  refine Wa.take (i := 0) #[true, false, false, false, false, false, false, false] rfl (by kernel_rfl) (fun _ _ _ h => leaves_put rfl rfl h) rfl (fun wq hq => Yl.ld (y_move rfl)) ⟨hb, hB_o0⟩ ?_
  refine Wa.take (i := 1) #[true, true, false, false, false, false, false, false] rfl (by kernel_rfl) (fun _ _ _ h => leaves_put rfl rfl h) rfl (fun wq hq => Yl.ld (y_nilCheck rfl)) ⟨hb, hB_o0⟩ ?_
  refine Wa.take (i := 2) #[true, true, true, false, false, false, false, false] rfl (by kernel_rfl) (fun _ _ _ h => leaves_put rfl rfl h) rfl (fun wq hq => Yl.ld (y_fieldAddr (fa60_2PsC _) rfl)) ⟨hb, hB_o0⟩ ?_
  refine Wa.take (i := 3) #[true, true, true, true, false, false, false, false] rfl (by kernel_rfl) (fun _ _ _ h => leaves_put rfl rfl h) rfl (fun wq hq => Yl.ld (y_move rfl)) ⟨hb, hB_o0⟩ ?_
  refine Wa.some (rs := [4]) (by kernel_rfl) rfl ?_
  refine Ws.consD #[true, true, true, true, true, false, false, false] rfl rfl (fun _ hK_8 => ?_) ?_
  ·
   refine Wl.callP txt150PsC rfl rfl (text_r p en [40] ts g b _ hP) rfl (fun v_ w_k0 hv_ => ?_) (fun c_ w_k0 hx_ => ?_)
   rotate_left
   ·
    obtain ⟨a_k0, e_k0, hF_k0, rfl, hPp_k0, hs_k0⟩ := hx_
    have hz_k0 := hs_k0.size
    have hb := hb.trans hs_k0
    refine Wq.then_panic <| Wq.then_panic ?_
    refine Wq.dPanic ?_
    exact outX ⟨_, _, by simp only [pBracket, hF_k0], rfl, hPp_k0, hb⟩
   obtain ⟨⟨t, r, hF, rfl, hP, hrl⟩, hs_k0⟩ := hv_
   have hz_k0 := hs_k0.size
   have hB_o0 := hB_o0.kp hs_k0 (by omega)
   have hb := hb.trans hs_k0
   refine Wl.nil ?_
   refine Wq.backD hK_8 ⟨hb, hB_o0⟩ ?_
   refine Wa.take (i := 5) #[true, true, true, true, true, true, false, false] rfl (by kernel_rfl) (fun _ _ _ h => leaves_put rfl rfl h) rfl (fun wq hq => Yl.ld (y_fieldO Tryz.underlying43 rfl one3PsC rfl rfl)) ⟨hb, hB_o0⟩ ?_
   refine Wa.some (rs := [6]) (by kernel_rfl) rfl ?_
   refine Ws.consD #[true, true, true, true, true, true, true, false] rfl rfl (fun _ hK_11 => ?_) ?_
   ·
    refine Wl.callP txt151PsC rfl rfl (withinB_r p en r g b t.a _ hP) rfl (fun v_ w_k1 hv_ => ?_) (fun c_ w_k1 hx_ => ?_)
    rotate_left
    ·
     obtain ⟨a_k1, e_k1, hF_k1, rfl, hPp_k1, hs_k1⟩ := hx_
     have hz_k1 := hs_k1.size
     have hb := hb.trans hs_k1
     refine Wq.then_panic <| Wq.then_panic ?_
     refine Wq.dPanic ?_
     obtain ⟨h50, ha_, he_⟩ := hF_k1; subst ha_; subst he_; exact outX ⟨_, _, by simp only [pBracket, hF, if_pos h50], rfl, hPp_k1, hb⟩
    obtain ⟨⟨gx, rfl, hBx, hgx, hP, hb50⟩, hs_k1⟩ := hv_
    have hz_k1 := hs_k1.size
    have hB_o0 := hB_o0.kp hs_k1 (by omega)
    have hb := hb.trans hs_k1
    have hlx := hBx.lt
    refine Wl.nil ?_
    refine Wq.backD hK_11 ⟨hb, hB_o0⟩ ?_
    refine Wa.some (rs := [7]) (by kernel_rfl) rfl ?_
    refine Ws.consD #[true, true, true, true, true, true, true, true] rfl rfl (fun _ hK_13 => ?_) ?_
    ·
     refine Wl.defer rfl rfl ?_
     refine Wl.nil ?_
     refine Wq.backD hK_13 ⟨hb, hB_o0⟩ ?_
     refine Wa.done (by kernel_rfl) ?_
     refine Wq.nextD hK_3 ?_
     refine Wc.seqD fun _ hK_14 => ?_
     have hnb : ¬ 50 ≤ b := by omega
     have htl : r.length < m := by
       unfold pText at hF
       split at hF
       · rename_i hi; injection hF with h1 h2; have := List.length_pos_iff.2 (isT_ne hi); rw [← h2, List.length_tail]; omega
       · cases hF
     refine Wc.region <| Wl.mv rfl rfl ?_
     refine Wl.callP hD.txt rfl rfl (hD.does _ r hb hP (by omega)) rfl (fun v_ w_k2 hv_ => ?_) (fun c_ w_k2 hx_ => ?_)
     rotate_left
     ·
      obtain ⟨a_k2, e_k2, hF_k2, rfl, hPp_k2, hs_k2⟩ := hx_
      have hz_k2 := hs_k2.size
      have hBx := hBx.kp hs_k2 (by omega)
      have hb := hb.trans hs_k2
      refine Wq.then_panic ?_
      refine Wq.leave1P txtW (outBx_r hPp_k2 hb50 (by omega) hBx) (fun w_d hS => ?_)
      exact outX ⟨_, _, by simp only [pBracket, hF, if_neg hnb, hF_k2], rfl, hS.1, hb.trans hS.2⟩
     obtain ⟨⟨x, r2, hF2, ⟨z, Sz, rfl, hz, hz_S⟩, hP, hrl2⟩, hs_k2⟩ := hv_
     have hz_k2 := hs_k2.size
     have hB_o0 := hB_o0.kp hs_k2 (by omega)
     have hBx := hBx.kp hs_k2 (by omega)
     have hb := hb.trans hs_k2
     refine Wl.allocN (z := (.agg #[(.int .i64 0), (str []), (.int .i64 0), (.int .i64 0), (.float .f64 0), (str []), (.slice none 0 0)])) (by kernel_rfl) rfl ?_
     rintro g_o8 w_o8 hg_o8 hn_o8 hs_o8
     have hz_o8 := hs_o8.size
     have hP := hP.below hs_o8
     have hB_o0 := hB_o0.below hs_o8
     have hBx := hBx.below hs_o8
     have hz := hz.below hs_o8
     replace hs_o8 := Below.kp (p := p) hs_o8
     have hb := hb.trans hs_o8
     have hB_o8 := hn_o8
     have hl_o8 := hB_o8.lt
     refine Wl.storeS (by kernel_rfl) rfl rfl hB_o8 rfl rfl ?_
     rintro w_s0 hn_s0 hg_s0
     have hz_s0 := hg_s0.size
     have hb := kp_blk hb hg_s0 (by omega)
     try have hP := PSt.over hP hg_s0 (by omega)
     try have hB_o0 := hB_o0.over hg_s0 (by omega)
     try have hBx := hBx.over hg_s0 (by omega)
     try have hz := EAt.kp hz hg_s0 (fun h_ => by have h2_ := hz_S _ h_; omega)
     have hB_o8 := hn_s0
     refine Wl.nil ?_
     refine Wq.nextD hK_14 ?_
     refine Wc.seqD fun _ hK_18 => ?_
     refine Wc.region <| Wl.mv rfl rfl ?_
     refine Wl.callP txt150PsC rfl rfl (text_r p en [41] r2 g (b + 1) _ hP) rfl (fun v_ w_k3 hv_ => ?_) (fun c_ w_k3 hx_ => ?_)
     rotate_left
     ·
      obtain ⟨a_k3, e_k3, hF_k3, rfl, hPp_k3, hs_k3⟩ := hx_
      have hz_k3 := hs_k3.size
      have hBx := hBx.kp hs_k3 (by omega)
      have hb := hb.trans hs_k3
      refine Wq.then_panic ?_
      refine Wq.leave1P txtW (outBx_r hPp_k3 hb50 (by omega) hBx) (fun w_d hS => ?_)
      exact outX ⟨_, _, by simp only [pBracket, hF, if_neg hnb, hF2, hF_k3], rfl, hS.1, hb.trans hS.2⟩
     obtain ⟨⟨t3, r3, hF3, rfl, hP, hrl3⟩, hs_k3⟩ := hv_
     have hz_k3 := hs_k3.size
     have hB_o0 := hB_o0.kp hs_k3 (by omega)
     have hBx := hBx.kp hs_k3 (by omega)
     try have hz := hz.kp hs_k3 (fun h_ => by have h2_ := hz_S _ h_; omega)
     have hB_o8 := hB_o8.kp hs_k3 (by omega)
     have hb := hb.trans hs_k3
     refine Wl.nil ?_
     refine Wq.nextD hK_18 ?_
     refine Wc.seqD fun _ hK_21 => ?_
     refine Wc.region ?_
     refine Wl.l (l_loadS Tryz.underlying28 (by kernel_rfl) rfl (by exact fun j u hu => hB_o8.at hu)) rfl ?_
     refine Wl.storeS (by kernel_rfl) rfl rfl hB_o0 rfl rfl ?_
     rintro w_s1 hn_s1 hg_s1
     have hz_s1 := hg_s1.size
     have hb := kp_blk hb hg_s1 (by omega)
     try have hP := PSt.over hP hg_s1 (by omega)
     try have hBx := hBx.over hg_s1 (by omega)
     try have hz := EAt.kp hz hg_s1 (fun h_ => by have h2_ := hz_S _ h_; omega)
     have hB_o0 := hn_s1
     refine Wl.nil ?_
     refine Wq.nextD hK_21 ?_
     refine Wc.ret ?_
     refine Wq.leave1 txtW (outB_r p en r3 g b gx _ hP hb50 (by omega) hBx) (fun w_d hS => ?_)
     obtain ⟨hP, hs_d⟩ := hS
     have hz_d := hs_d.size
     have hB_o0 := hB_o0.kp hs_d (by omega)
     have hz := EAt.kp hz hs_d (fun h_ => by have h2_ := hz_S _ h_; omega)
     have hb := hb.trans hs_d
     refine retN (rs := [.cell 4 28]) (vs := [_]) rfl (.cell rfl (loadS Tryz.underlying28 (by kernel_rfl) (fun j u hu => hB_o0.at hu)) .nil) ?_
     exact outR ⟨⟨x, r3, by simp only [pBracket, hF, if_neg hnb, hF2, hF3], ⟨z, Sz, rfl, hz, fun k hk => by have := hz_S k hk; omega⟩, hP, by omega⟩, hb⟩
    exact Ws.nil
   exact Ws.nil
  exact Ws.nil
end Go.Proofs.YtjnabgddjogkbaaGreatDoor
namespace Go.Proofs.YtjnabgddjogkbaaGreatDoor
open Go.RowKit Go.Bw Go.Bw.Fl
set_option linter.unusedVariables false
set_option linter.unusedSimpArgs false
theorem fa28_0PsD (p : Addr) (w : World) : (Instr.fieldAt 28 (.pointer (some p)) 0).run Tryz.prog w = .ok (.pointer (some (p.add 0))) w := run_fieldAt (i := 0) (sz := 0) Tryz.underlying28 rfl (by kernel_rfl) p w
theorem fa28_1PsD (p : Addr) (w : World) : (Instr.fieldAt 28 (.pointer (some p)) 1).run Tryz.prog w = .ok (.pointer (some (p.add 1))) w := run_fieldAt (i := 1) (sz := 0) Tryz.underlying28 rfl (by kernel_rfl) p w
theorem fa60_0PsD (p : Addr) (w : World) : (Instr.fieldAt 60 (.pointer (some p)) 0).run Tryz.prog w = .ok (.pointer (some (p.add 0))) w := run_fieldAt (i := 0) (sz := 1) Tryz.underlying60 rfl (by kernel_rfl) p w
theorem one3PsD : One Tryz.prog 3 := ⟨_, Tryz.underlying3, rfl, by kernel_rfl⟩
theorem one9PsD : One Tryz.prog 9 := ⟨_, Tryz.underlying9, rfl, by kernel_rfl⟩
theorem txt36PsD : Txt Tryz.prog 36 := ⟨_, Tryz.func36, by kernel_rfl, rfl⟩   -- (*bridleway/parse.row).is
theorem txt38PsD : Txt Tryz.prog 38 := ⟨_, Tryz.func38, by kernel_rfl, rfl⟩   -- (*bridleway/parse.parser).take
/-- a function's value that makes an expression of two -/
structure Made (w0 : World) (p : Nat) (f : FuncId) (l c : Array Value) (M : List UInt8 → ExprD → ExprD → ExprD) (signs : List (List UInt8)) : Prop where
  txt : Txt Tryz.prog f
  does : ∀ (w : World) (s : List UInt8) (x y : EC) (ex ey : ExprD) (S : Nat → Prop), Kp p w0 w → s ∈ signs → (∀ k, S k → k < w.heap.size) → EAt w S ex x.cells → EAt w S ey y.cells → Ret Tryz.prog f (l.toList ++ [str s, x.enc, y.enc] ++ c.toList) w fun v w' => (∃ (z : EC) (S' : Nat → Prop), v = z.enc ∧ EAt w' S' (M s ex ey) z.cells ∧ ∀ k, S' k → More S w w' k) ∧ Below w.heap.size w w'
theorem Made.kp {w0 w : World} {p : Nat} {f : FuncId} {l c : Array Value} {M : List UInt8 → ExprD → ExprD → ExprD} {signs : List (List UInt8)} (h : Made w0 p f l c M signs) (hk : Kp p w0 w) : Made w p f l c M signs := ⟨h.txt, fun w' s x y ex ey S h1 => h.does w' s x y ex ey S (hk.trans h1)⟩
theorem isT_mem {en : Nat} {xs : List (List UInt8)} {ts : List Tok} (h : isT en xs ts = true) : (nextT en ts).t ∈ xs := (of_decide_eq_true h).2
theorem many_r (p en : Nat) (ts : List Tok) (g b m : Nat) (f : FuncId) (l c : Array Value) (F : Pe) (f2 : FuncId) (l2 c2 : Array Value) (M : List UInt8 → ExprD → ExprD → ExprD) (A : Option Addr) (cap : Nat) (signs : List (List UInt8)) (hs : signs.length ≤ 1000) (hm : ts.length < m) (w : World) (hP : PSt w p en ts g b) (hD : Does w p en g b m f l c F EVal) (hM : Made w p f2 l2 c2 M signs) (hR : Rd w 1 A signs.length (strs signs)) (hRp : ∀ q, A = some q → q.block ≠ p) : Out Tryz.prog 204 [pptr p, .func (.func f) l c, .func (.func f2) l2 c2, .slice A signs.length cap] w (PRes w p en g b ts (pMany en F M signs ts) (EVal w.heap.size)) (PErr w p en g b (pMany en F M signs ts)) := by
  have hpl := hP.lt
  have hb := Kp.refl p w
  refine enter Tryz.func204 rfl rfl rfl ?_
  refine Wc.seq fun _ hK_1 => Wc.region ?_
  refine Wl.allocN (z := (.agg #[(.int .i64 0), (str []), (.int .i64 0), (.int .i64 0), (.float .f64 0), (str []), (.slice none 0 0)])) (by kernel_rfl) rfl ?_
  rintro g_o0 w_o0 hg_o0 hn_o0 hs_o0
  have hz_o0 := hs_o0.size
  have hP := hP.below hs_o0
  replace hs_o0 := Below.kp (p := p) hs_o0
  have hb := hb.trans hs_o0
  have hB_o0 := hn_o0
  have hl_o0 := hB_o0.lt
  refine Wl.nil <| Wq.next hK_1 <| Wc.seq fun _ hK_3 => Wc.region <| Wl.mv rfl rfl ?_
  refine Wl.callP hD.txt rfl rfl (hD.does _ ts hb hP hm) rfl (fun v_ w_k0 hv_ => ?_) (fun c_ w_k0 hx_ => ?_)
  rotate_left
  ·
   obtain ⟨a_k0, e_k0, hF_k0, rfl, hPp_k0, hs_k0⟩ := hx_
   have hz_k0 := hs_k0.size
   have hb := hb.trans hs_k0
   refine Wq.then_panic ?_
   refine panics ?_
   exact outX ⟨_, _, by simp only [pMany, hF_k0], rfl, hPp_k0, hb⟩
  obtain ⟨⟨x, r, hF, ⟨z, Sz, rfl, hz, hz_S⟩, hP, hrl⟩, hs_k0⟩ := hv_
  have hz_k0 := hs_k0.size
  have hB_o0 := hB_o0.kp hs_k0 (by omega)
  have hb := hb.trans hs_k0
  refine Wl.allocN (z := (.agg #[(.int .i64 0), (str []), (.int .i64 0), (.int .i64 0), (.float .f64 0), (str []), (.slice none 0 0)])) (by kernel_rfl) rfl ?_
  rintro g_o2 w_o2 hg_o2 hn_o2 hs_o2
  have hz_o2 := hs_o2.size
  have hP := hP.below hs_o2
  have hB_o0 := hB_o0.below hs_o2
  have hz := hz.below hs_o2
  replace hs_o2 := Below.kp (p := p) hs_o2
  have hb := hb.trans hs_o2
  have hB_o2 := hn_o2
  have hl_o2 := hB_o2.lt
  refine Wl.storeS (by kernel_rfl) rfl rfl hB_o2 rfl rfl ?_
  rintro w_s0 hn_s0 hg_s0
  have hz_s0 := hg_s0.size
  have hb := kp_blk hb hg_s0 (by omega)
  try have hP := PSt.over hP hg_s0 (by omega)
  try have hB_o0 := hB_o0.over hg_s0 (by omega)
  try have hz := EAt.kp hz hg_s0 (fun h_ => by have h2_ := hz_S _ h_; omega)
  have hB_o2 := hn_s0
  refine Wl.nil <| Wq.next hK_3 <| Wc.seq fun _ hK_7 => Wc.block ?_
  refine Wc.loop (X := EC × (Nat → Prop) × ExprD × List Tok × Nat) (fun (x, S, e, r, n) => [(0, pptr p), (1, .func (.func f) l c), (2, .func (.func f2) l2 c2), (3, .slice A signs.length cap), (8, .pointer (some ⟨g_o0, 0, none⟩)), (9, .pointer (some ⟨g_o2, 0, none⟩))]) (fun (x, S, e, r, n) wr => pMany en F M signs ts = manyGo en F M signs n e r ∧ r.length ≤ n ∧ r.length ≤ ts.length ∧ Kp p w wr ∧ PSt wr p en r g b ∧ EAt wr S e x.cells ∧ (∀ k, S k → w.heap.size ≤ k ∧ k < wr.heap.size ∧ k ≠ g_o2 ∧ k ≠ g_o0) ∧ Blk wr g_o2 28 x.cells ∧ (∃ y : EC, Blk wr g_o0 28 y.cells)) (fun (x, S, e, r, n) => r.length) (⟨z, Sz, x, r, r.length⟩) ?_ ?_ ?_
  · exact by repeat first | exact Sub.nil | refine Sub.cons' rfl (by first | rfl | exact int_eq (by omega) | exact int_eq (by simp) | (simp; done)) ?_
  · exact ⟨by simp only [pMany, hF], Nat.le_refl _, hrl, hb, hP, hz, fun k hk => by have := hz_S k hk; omega, hB_o2, ⟨⟨0, [], nullV, none, 0, 0⟩, hB_o0⟩⟩
  rintro ⟨x, S, e, r, n⟩ wr hI_9 _ hL_8
  replace hI_9 : pMany en F M signs ts = manyGo en F M signs n e r ∧ r.length ≤ n ∧ r.length ≤ ts.length ∧ Kp p w wr ∧ PSt wr p en r g b ∧ EAt wr S e x.cells ∧ (∀ k, S k → w.heap.size ≤ k ∧ k < wr.heap.size ∧ k ≠ g_o2 ∧ k ≠ g_o0) ∧ Blk wr g_o2 28 x.cells ∧ (∃ y : EC, Blk wr g_o0 28 y.cells) := hI_9
  obtain ⟨hF, hn, hrl, hb, hP, hx, hx_S, hB_o2, ⟨y0, hB_o0⟩⟩ := hI_9
  show Wc _ _ _ _ _ [(0, pptr p), (1, .func (.func f) l c), (2, .func (.func f2) l2 c2), (3, .slice A signs.length cap), (8, .pointer (some ⟨g_o0, 0, none⟩)), (9, .pointer (some ⟨g_o2, 0, none⟩))] _
  try have hzhb_L0 := hb.size
  have hlhB_o2_L0 := hB_o2.lt
  have hlhB_o0_L0 := hB_o0.lt
  refine Wc.seq fun _ hK_10 => Wc.seq fun _ hK_11 => Wc.region <| Wl.mv rfl rfl <| Wl.y (y_nilCheck rfl) rfl ?_
  refine Wl.y (y_fieldAddr (fa60_0PsD _) rfl) rfl ?_
  refine Wl.mv rfl rfl ?_
  refine Wl.call txt36PsD rfl rfl (is_r p en r g b A cap signs hs _ hP (hR.kp hb hRp)) rfl ?_
  rintro _ w_k1 ⟨rfl, hs_k1⟩
  have hz_k1 := hs_k1.size
  first | have hP := PSt.below hP hs_k1 | have hP := PSt.kp hP hs_k1 | skip
  first | have hx := EAt.below hx hs_k1 | have hx := EAt.kp hx hs_k1 (fun h_ => by have h2_ := hx_S _ h_; omega) | skip
  first | have hB_o2 := Blk.below hB_o2 hs_k1 | have hB_o2 := Blk.kp hB_o2 hs_k1 (by omega) | skip
  first | have hB_o0 := Blk.below hB_o0 hs_k1 | have hB_o0 := Blk.kp hB_o0 hs_k1 (by omega) | skip
  first | replace hs_k1 := Below.kp (p := p) hs_k1 | skip
  have hb := hb.trans hs_k1
  refine Wl.nil <| Wq.next hK_11 ?_
  refine Wc.cond rfl (fun c0_17 => ?_) (fun c0_17 => ?_)
  ·
   have c0_17_ := c0_17
   try simp only [DZ] at c0_17
   have hi : isT en signs r = true := c0_17_
   have hne : r ≠ [] := isT_ne hi
   have hr0 := List.length_pos_iff.2 hne
   have hrt : r.tail.length = r.length - 1 := List.length_tail
   obtain ⟨n, rfl⟩ : ∃ k, n = k + 1 := ⟨n - 1, by omega⟩
   refine Wc.skip <| Wq.next hK_10 <| Wc.block <| Wc.seq fun _ hK_18 => Wc.region <| Wl.mv rfl rfl ?_
   refine Wl.call txt38PsD rfl rfl (take_x p en r g b hne _ hP) rfl ?_
   rintro _ w_k2 ⟨⟨rfl, hP⟩, hs_k2⟩
   have hz_k2 := hs_k2.size
   first | have hP := PSt.below hP hs_k2 | have hP := PSt.kp hP hs_k2 | skip
   first | have hx := EAt.below hx hs_k2 | have hx := EAt.kp hx hs_k2 (fun h_ => by have h2_ := hx_S _ h_; omega) | skip
   first | have hB_o2 := Blk.below hB_o2 hs_k2 | have hB_o2 := Blk.kp hB_o2 hs_k2 (by omega) | skip
   first | have hB_o0 := Blk.below hB_o0 hs_k2 | have hB_o0 := Blk.kp hB_o0 hs_k2 (by omega) | skip
   first | replace hs_k2 := Below.kp (p := p) hs_k2 | skip
   have hb := hb.trans hs_k2
   refine Wl.y (y_fieldO Tryz.underlying43 rfl one9PsD rfl rfl) rfl ?_
   refine Wl.sg rfl rfl <| Wl.nil <| Wq.next hK_18 ?_
   refine Wc.any (n := 7) (fun w' => Kp p w w' ∧ ∃ y, Blk w' g_o2 28 y) #[false, false, false, false, false, false, false] (by kernel_rfl) rfl (by kernel_rfl) ?_
   refine Wa.drew ?_
   rintro w_g4 hs_g4
   have hz_g4 := hs_g4.size
   have hP := hP.below hs_g4
   have hx := hx.below hs_g4
   have hB_o2 := hB_o2.below hs_g4
   have hB_o0 := hB_o0.below hs_g4
   replace hs_g4 := Below.kp (p := p) hs_g4
   have hb := hb.trans hs_g4
   refine Wa.take (i := 0) #[true, false, false, false, false, false, false] rfl (by kernel_rfl) (fun _ _ _ h => h) rfl (fun wq hq => Yl.ld (y_move rfl)) ⟨hb, _, hB_o2⟩ ?_
   refine Wa.take (i := 1) #[true, true, false, false, false, false, false] rfl (by kernel_rfl) (fun _ _ _ h => h) rfl (fun wq hq => Yl.ld (y_move rfl)) ⟨hb, _, hB_o2⟩ ?_
   refine Wa.take (i := 3) #[true, true, false, true, false, false, false] rfl (by kernel_rfl) (fun _ _ _ h => h) rfl (fun wq hq => Yl.ld (y_move rfl)) ⟨hb, _, hB_o2⟩ ?_
   refine Wa.some (rs := [2, 4]) (by kernel_rfl) rfl ?_
   refine Ws.cons #[true, true, true, true, false, false, false] rfl rfl (fun _ hK_26 => ?_) ?_
   ·
    refine Wl.l (l_loadS Tryz.underlying28 (by kernel_rfl) rfl (by exact fun j u hu => hB_o2.at hu)) rfl ?_
    refine Wl.nil ?_
    refine Wq.back hK_26 ⟨hb, _, hB_o2⟩ ?_
    refine Wa.some (rs := [4]) (by kernel_rfl) rfl ?_
    refine Ws.cons #[true, true, true, true, true, false, false] rfl rfl (fun _ hK_28 => ?_) ?_
    ·
     refine Wl.callP hD.txt rfl rfl (hD.does _ r.tail hb hP (by omega)) rfl (fun v_ w_k3 hv_ => ?_) (fun c_ w_k3 hx_ => ?_)
     rotate_left
     ·
      obtain ⟨a_k3, e_k3, hF_k3, rfl, hPp_k3, hs_k3⟩ := hx_
      have hz_k3 := hs_k3.size
      have hb := hb.trans hs_k3
      refine Wq.then_panic <| Wq.block_panic <| Wq.then_panic <| Wq.block_panic <| Wq.then_panic ?_
      refine panics ?_
      exact outX ⟨_, _, by rw [hF]; simp only [manyGo, if_pos hi, hF_k3], rfl, hPp_k3, hb⟩
     obtain ⟨⟨y, r2, hF2, ⟨zy, Sy, rfl, hy, hy_S⟩, hP, hrl2⟩, hs_k3⟩ := hv_
     have hz_k3 := hs_k3.size
     try have hx := hx.kp hs_k3 (fun h_ => by have h2_ := hx_S _ h_; omega)
     have hB_o2 := hB_o2.kp hs_k3 (by omega)
     have hB_o0 := hB_o0.kp hs_k3 (by omega)
     have hb := hb.trans hs_k3
     refine Wl.nil ?_
     refine Wq.back hK_28 ⟨hb, _, hB_o2⟩ ?_
     refine Wa.some (rs := [5]) (by kernel_rfl) rfl ?_
     refine Ws.cons #[true, true, true, true, true, true, false] rfl rfl (fun _ hK_30 => ?_) ?_
     ·
      refine Wl.callP hM.txt rfl rfl (Ret.out (X := fun _ _ => False) (hM.does _ (nextT en r).t x zy e y (fun k => S k ∨ Sy k) hb (isT_mem hi) (fun k hk => by rcases hk with h | h; (· have := hx_S k h; omega); (· have := hy_S k h; omega)) (hx.mono fun _ h => .inl h) (hy.mono fun _ h => .inr h))) rfl (fun v_ w_k4 hv_ => ?_) (fun c_ w_k4 hx_ => ?_)
      rotate_left
      ·
       exact hx_.elim
      obtain ⟨⟨z, Sz, rfl, hz, hz_S⟩, hs_k4⟩ := hv_
      have hz_k4 := hs_k4.size
      first | have hP := PSt.below hP hs_k4 | have hP := PSt.kp hP hs_k4 | skip
      first | have hB_o2 := Blk.below hB_o2 hs_k4 | have hB_o2 := Blk.kp hB_o2 hs_k4 (by omega) | skip
      first | have hB_o0 := Blk.below hB_o0 hs_k4 | have hB_o0 := Blk.kp hB_o0 hs_k4 (by omega) | skip
      first | replace hs_k4 := Below.kp (p := p) hs_k4 | skip
      have hb := hb.trans hs_k4
      have hz_S : ∀ k, Sz k → w.heap.size ≤ k ∧ k < w_k4.heap.size ∧ k ≠ g_o2 ∧ k ≠ g_o0 := fun k hk => by
        rcases hz_S k hk with (h | h) | h
        · have := hx_S k h; omega
        · have := hy_S k h; omega
        · omega
      refine Wl.nil ?_
      refine Wq.back hK_30 ⟨hb, _, hB_o2⟩ ?_
      refine Wa.some (rs := [6]) (by kernel_rfl) rfl ?_
      refine Ws.cons #[true, true, true, true, true, true, true] rfl rfl (fun _ hK_32 => ?_) ?_
      ·
       refine Wl.storeS (by kernel_rfl) rfl rfl hB_o2 rfl rfl ?_
       rintro w_s1 hn_s1 hg_s1
       have hz_s1 := hg_s1.size
       have hb := kp_blk hb hg_s1 (by omega)
       try have hP := PSt.over hP hg_s1 (by omega)
       try have hB_o0 := hB_o0.over hg_s1 (by omega)
       try have hz := EAt.kp hz hg_s1 (fun h_ => by have h2_ := hz_S _ h_; omega)
       have hB_o2 := hn_s1
       refine Wl.nil ?_
       refine Wq.back hK_32 ⟨hb, _, hB_o2⟩ ?_
       refine Wa.done (by kernel_rfl) ?_
       refine Wq.block_normal ?_
       refine fun a_ ha_ => hL_8 _ _ (⟨z, Sz, M (nextT en r).t e y, r2, n⟩) (by first | omega | (simp; omega)) (by repeat first | exact Sub.nil | refine Sub.cons' rfl (by first | rfl | exact int_eq (by omega) | exact int_eq (by simp) | (simp; done)) ?_) ?_ a_ ha_
       exact ⟨by rw [hF]; simp only [manyGo, if_pos hi, hF2], by omega, by omega, hb, hP, hz, fun k hk => by have := hz_S k hk; omega, hB_o2, ⟨_, hB_o0⟩⟩
      exact Ws.nil
     exact Ws.nil
    exact Ws.nil
   refine Ws.cons #[true, true, false, true, true, false, false] rfl rfl (fun _ hK_33 => ?_) ?_
   ·
    refine Wl.callP hD.txt rfl rfl (hD.does _ r.tail hb hP (by omega)) rfl (fun v_ w_k3 hv_ => ?_) (fun c_ w_k3 hx_ => ?_)
    rotate_left
    ·
     obtain ⟨a_k3, e_k3, hF_k3, rfl, hPp_k3, hs_k3⟩ := hx_
     have hz_k3 := hs_k3.size
     have hb := hb.trans hs_k3
     refine Wq.then_panic <| Wq.block_panic <| Wq.then_panic <| Wq.block_panic <| Wq.then_panic ?_
     refine panics ?_
     exact outX ⟨_, _, by rw [hF]; simp only [manyGo, if_pos hi, hF_k3], rfl, hPp_k3, hb⟩
    obtain ⟨⟨y, r2, hF2, ⟨zy, Sy, rfl, hy, hy_S⟩, hP, hrl2⟩, hs_k3⟩ := hv_
    have hz_k3 := hs_k3.size
    try have hx := hx.kp hs_k3 (fun h_ => by have h2_ := hx_S _ h_; omega)
    have hB_o2 := hB_o2.kp hs_k3 (by omega)
    have hB_o0 := hB_o0.kp hs_k3 (by omega)
    have hb := hb.trans hs_k3
    refine Wl.nil ?_
    refine Wq.back hK_33 ⟨hb, _, hB_o2⟩ ?_
    refine Wa.some (rs := [2]) (by kernel_rfl) rfl ?_
    refine Ws.cons #[true, true, true, true, true, false, false] rfl rfl (fun _ hK_35 => ?_) ?_
    ·
     refine Wl.l (l_loadS Tryz.underlying28 (by kernel_rfl) rfl (by exact fun j u hu => hB_o2.at hu)) rfl ?_
     refine Wl.nil ?_
     refine Wq.back hK_35 ⟨hb, _, hB_o2⟩ ?_
     refine Wa.some (rs := [5]) (by kernel_rfl) rfl ?_
     refine Ws.cons #[true, true, true, true, true, true, false] rfl rfl (fun _ hK_37 => ?_) ?_
     ·
      refine Wl.callP hM.txt rfl rfl (Ret.out (X := fun _ _ => False) (hM.does _ (nextT en r).t x zy e y (fun k => S k ∨ Sy k) hb (isT_mem hi) (fun k hk => by rcases hk with h | h; (· have := hx_S k h; omega); (· have := hy_S k h; omega)) (hx.mono fun _ h => .inl h) (hy.mono fun _ h => .inr h))) rfl (fun v_ w_k4 hv_ => ?_) (fun c_ w_k4 hx_ => ?_)
      rotate_left
      ·
       exact hx_.elim
      obtain ⟨⟨z, Sz, rfl, hz, hz_S⟩, hs_k4⟩ := hv_
      have hz_k4 := hs_k4.size
      first | have hP := PSt.below hP hs_k4 | have hP := PSt.kp hP hs_k4 | skip
      first | have hB_o2 := Blk.below hB_o2 hs_k4 | have hB_o2 := Blk.kp hB_o2 hs_k4 (by omega) | skip
      first | have hB_o0 := Blk.below hB_o0 hs_k4 | have hB_o0 := Blk.kp hB_o0 hs_k4 (by omega) | skip
      first | replace hs_k4 := Below.kp (p := p) hs_k4 | skip
      have hb := hb.trans hs_k4
      have hz_S : ∀ k, Sz k → w.heap.size ≤ k ∧ k < w_k4.heap.size ∧ k ≠ g_o2 ∧ k ≠ g_o0 := fun k hk => by
        rcases hz_S k hk with (h | h) | h
        · have := hx_S k h; omega
        · have := hy_S k h; omega
        · omega
      refine Wl.nil ?_
      refine Wq.back hK_37 ⟨hb, _, hB_o2⟩ ?_
      refine Wa.some (rs := [6]) (by kernel_rfl) rfl ?_
      refine Ws.cons #[true, true, true, true, true, true, true] rfl rfl (fun _ hK_39 => ?_) ?_
      ·
       refine Wl.storeS (by kernel_rfl) rfl rfl hB_o2 rfl rfl ?_
       rintro w_s1 hn_s1 hg_s1
       have hz_s1 := hg_s1.size
       have hb := kp_blk hb hg_s1 (by omega)
       try have hP := PSt.over hP hg_s1 (by omega)
       try have hB_o0 := hB_o0.over hg_s1 (by omega)
       try have hz := EAt.kp hz hg_s1 (fun h_ => by have h2_ := hz_S _ h_; omega)
       have hB_o2 := hn_s1
       refine Wl.nil ?_
       refine Wq.back hK_39 ⟨hb, _, hB_o2⟩ ?_
       refine Wa.done (by kernel_rfl) ?_
       refine Wq.block_normal ?_
       refine fun a_ ha_ => hL_8 _ _ (⟨z, Sz, M (nextT en r).t e y, r2, n⟩) (by first | omega | (simp; omega)) (by repeat first | exact Sub.nil | refine Sub.cons' rfl (by first | rfl | exact int_eq (by omega) | exact int_eq (by simp) | (simp; done)) ?_) ?_ a_ ha_
       exact ⟨by rw [hF]; simp only [manyGo, if_pos hi, hF2], by omega, by omega, hb, hP, hz, fun k hk => by have := hz_S k hk; omega, hB_o2, ⟨_, hB_o0⟩⟩
      exact Ws.nil
     exact Ws.nil
    exact Ws.nil
   exact Ws.nil
  have c0_17_ := c0_17
  try simp only [DZ] at c0_17
  have hi : isT en signs r = false := c0_17_
  refine Wc.exit ?_
  refine Wq.then_exit <| Wq.then_exit <| Wq.block_exit <| Wq.next hK_7 <| Wc.seq fun _ hK_40 => Wc.region ?_
  refine Wl.l (l_loadS Tryz.underlying28 (by kernel_rfl) rfl (by exact fun j u hu => hB_o2.at hu)) rfl ?_
  refine Wl.storeS (by kernel_rfl) rfl rfl hB_o0 rfl rfl ?_
  rintro w_s2 hn_s2 hg_s2
  have hz_s2 := hg_s2.size
  have hb := kp_blk hb hg_s2 (by omega)
  try have hP := PSt.over hP hg_s2 (by omega)
  try have hx := EAt.kp hx hg_s2 (fun h_ => by have h2_ := hx_S _ h_; omega)
  have hB_o0 := hn_s2
  refine Wl.nil <| Wq.next hK_40 <| Wc.ret ?_
  refine retN (rs := [.cell 8 28]) (vs := [_]) rfl (.cell rfl (loadS Tryz.underlying28 (by kernel_rfl) (fun j u hu => hB_o0.at hu)) .nil) ?_
  exact outR ⟨⟨e, r, by rw [hF]; cases n <;> simp [manyGo, hi], ⟨x, S, rfl, hx, fun k hk => by have := hx_S k hk; omega⟩, hP, hrl⟩, hb⟩
theorem cntS_cons {en : Nat} {s : List UInt8} {r : List Tok} (h : isT en [s] r = true) : cntS en s r = ((cntS en s r.tail).1 + 1, (cntS en s r.tail).2) := by
  cases r with
  | nil => exact absurd rfl (isT_ne h)
  | cons t r => exact if_pos h
theorem cntS_end {en : Nat} {s : List UInt8} {r : List Tok} (h : isT en [s] r = false) : cntS en s r = (0, r) := by
  cases r with
  | nil => rfl
  | cons t r => exact if_neg (by rw [h]; decide)
theorem turned_r (p en : Nat) (ts : List Tok) (g b m : Nat) (sign : List UInt8) (f : FuncId) (l c : Array Value) (F : Pe) (k : Int) (nm : List UInt8) (hm : ts.length < m) (w : World) (hP : PSt w p en ts g b) (hD : Does w p en g b m f l c F EVal) : Out Tryz.prog 201 [pptr p, str sign, .func (.func f) l c, EC.enc ⟨k, nm, nullV, none, 0, 0⟩] w (PRes w p en g b ts (pTurned en sign F k nm ts) (EVal w.heap.size)) (PErr w p en g b (pTurned en sign F k nm ts)) := by
  have hpl := hP.lt
  have hl65 : ts.length ≤ 65536 := let ⟨_, _, _, h, _⟩ := hP.ex; h
  have hb := Kp.refl p w
  refine enter Tryz.func201 rfl rfl rfl ?_
  refine Wc.seq fun _ hK_1 => Wc.region ?_
  refine Wl.boxN rfl rfl ?_
  rintro g_o0 w_o0 hg_o0 hn_o0 hs_o0
  have hz_o0 := hs_o0.size
  have hP := hP.below hs_o0
  replace hs_o0 := Below.kp (p := p) hs_o0
  have hb := hb.trans hs_o0
  have hB_o0 := hn_o0
  have hl_o0 := hB_o0.lt
  refine Wl.allocN (z := (.agg #[(.int .i64 0), (str []), (.int .i64 0), (.int .i64 0), (.float .f64 0), (str []), (.slice none 0 0)])) (by kernel_rfl) rfl ?_
  rintro g_o1 w_o1 hg_o1 hn_o1 hs_o1
  have hz_o1 := hs_o1.size
  have hP := hP.below hs_o1
  have hB_o0 := hB_o0.below hs_o1
  replace hs_o1 := Below.kp (p := p) hs_o1
  have hb := hb.trans hs_o1
  have hB_o1 := hn_o1
  have hl_o1 := hB_o1.lt
  refine Wl.nil <| Wq.next hK_1 <| Wc.seq fun _ hK_4 => Wc.region <| Wl.sg rfl rfl <| Wl.nil <| Wq.next hK_4 <| Wc.seq fun _ hK_6 => Wc.block ?_
  refine Wc.loop (X := List Tok × Nat) (fun (r, n) => [(0, pptr p), (1, str sign), (2, .func (.func f) l c), (7, .pointer (some ⟨g_o0, 0, none⟩)), (8, .pointer (some ⟨g_o1, 0, none⟩)), (9, .int .i64 (n : Int))]) (fun (r, n) wr => cntS en sign ts = ((cntS en sign r).1 + n, (cntS en sign r).2) ∧ n + r.length = ts.length ∧ Kp p w wr ∧ PSt wr p en r g b ∧ Blk wr g_o0 28 (EC.cells ⟨k, nm, nullV, none, 0, 0⟩) ∧ Blk wr g_o1 28 (EC.cells ⟨0, [], nullV, none, 0, 0⟩)) (fun (r, n) => r.length) (⟨ts, 0⟩) ?_ ?_ ?_
  · exact by repeat first | exact Sub.nil | refine Sub.cons' rfl (by first | rfl | exact int_eq (by omega) | exact int_eq (by simp) | (simp; done)) ?_
  · exact ⟨rfl, by simp, hb, hP, hB_o0, hB_o1⟩
  rintro ⟨r, n⟩ wr hI_8 _ hL_7
  replace hI_8 : cntS en sign ts = ((cntS en sign r).1 + n, (cntS en sign r).2) ∧ n + r.length = ts.length ∧ Kp p w wr ∧ PSt wr p en r g b ∧ Blk wr g_o0 28 (EC.cells ⟨k, nm, nullV, none, 0, 0⟩) ∧ Blk wr g_o1 28 (EC.cells ⟨0, [], nullV, none, 0, 0⟩) := hI_8
  obtain ⟨hF, hn, hb, hP, hB_o0, hB_o1⟩ := hI_8
  show Wc _ _ _ _ _ [(0, pptr p), (1, str sign), (2, .func (.func f) l c), (7, .pointer (some ⟨g_o0, 0, none⟩)), (8, .pointer (some ⟨g_o1, 0, none⟩)), (9, .int .i64 (n : Int))] _
  try have hzhb_L0 := hb.size
  have hlhB_o0_L0 := hB_o0.lt
  have hlhB_o1_L0 := hB_o1.lt
  refine Wc.seq fun _ hK_9 => Wc.seq fun _ hK_10 => Wc.region <| Wl.mv rfl rfl <| Wl.y (y_nilCheck rfl) rfl ?_
  refine Wl.y (y_fieldAddr (fa60_0PsD _) rfl) rfl ?_
  refine Wl.mv rfl rfl ?_
  refine Wl.litN (sz := 1) (vs := [_]) Tryz.underlying45 (by kernel_rfl) rfl rfl rfl rfl rfl rfl ?_
  rintro g_b0 w_b0 hg_b0 hn_b0 hs_b0
  have hz_b0 := hs_b0.size
  have hP := hP.below hs_b0
  have hB_o0 := hB_o0.below hs_b0
  have hB_o1 := hB_o1.below hs_b0
  replace hs_b0 := Below.kp (p := p) hs_b0
  have hb := hb.trans hs_b0
  have hB_b0 := hn_b0
  have hl_b0 := hB_b0.lt
  refine Wl.call txt36PsD rfl rfl (is_r p en r g b _ 1 [sign] (by simp) _ hP (hB_b0.rd 1 1 rfl)) rfl ?_
  rintro _ w_k0 ⟨rfl, hs_k0⟩
  have hz_k0 := hs_k0.size
  first | have hP := PSt.below hP hs_k0 | have hP := PSt.kp hP hs_k0 | skip
  first | have hB_o0 := Blk.below hB_o0 hs_k0 | have hB_o0 := Blk.kp hB_o0 hs_k0 (by omega) | skip
  first | have hB_o1 := Blk.below hB_o1 hs_k0 | have hB_o1 := Blk.kp hB_o1 hs_k0 (by omega) | skip
  first | replace hs_k0 := Below.kp (p := p) hs_k0 | skip
  have hb := hb.trans hs_k0
  refine Wl.nil <| Wq.next hK_10 ?_
  refine Wc.cond rfl (fun c0_17 => ?_) (fun c0_17 => ?_)
  ·
   have c0_17_ := c0_17
   try simp only [DZ] at c0_17
   have hi : isT en [sign] r = true := c0_17_
   have hne : r ≠ [] := isT_ne hi
   have hr0 := List.length_pos_iff.2 hne
   have hrt : r.tail.length = r.length - 1 := List.length_tail
   refine Wc.skip <| Wq.next hK_9 <| Wc.seq fun _ hK_18 => Wc.block <| Wc.region <| Wl.mv rfl rfl ?_
   refine Wl.call txt38PsD rfl rfl (take_x p en r g b hne _ hP) rfl ?_
   rintro _ w_k1 ⟨⟨rfl, hP⟩, hs_k1⟩
   have hz_k1 := hs_k1.size
   first | have hP := PSt.below hP hs_k1 | have hP := PSt.kp hP hs_k1 | skip
   first | have hB_o0 := Blk.below hB_o0 hs_k1 | have hB_o0 := Blk.kp hB_o0 hs_k1 (by omega) | skip
   first | have hB_o1 := Blk.below hB_o1 hs_k1 | have hB_o1 := Blk.kp hB_o1 hs_k1 (by omega) | skip
   first | replace hs_k1 := Below.kp (p := p) hs_k1 | skip
   have hb := hb.trans hs_k1
   refine Wl.nil <| Wq.block_normal <| Wq.next hK_18 <| Wc.region <| Wl.mv rfl rfl ?_
   refine Wl.y (y_addI rfl rfl (by first | omega | (simp; done) | (simp; omega)) (by first | omega | (simp; done) | (simp; omega))) rfl ?_
   refine Wl.sg rfl rfl <| Wl.nil ?_
   refine fun a_ ha_ => hL_7 _ _ (⟨r.tail, n + 1⟩) (by first | omega | (simp; omega)) (by repeat first | exact Sub.nil | refine Sub.cons' rfl (by first | rfl | exact int_eq (by omega) | exact int_eq (by simp) | (simp; done)) ?_) ?_ a_ ha_
   exact ⟨by rw [hF, cntS_cons hi]; simp only [Prod.mk.injEq, and_true]; omega, by omega, hb, hP, hB_o0, hB_o1⟩
  have c0_17_ := c0_17
  try simp only [DZ] at c0_17
  have hi : isT en [sign] r = false := c0_17_
  rw [cntS_end hi] at hF
  refine Wc.exit ?_
  refine Wq.then_exit <| Wq.then_exit <| Wq.block_exit <| Wq.next hK_6 <| Wc.seq fun _ hK_24 => Wc.region <| Wl.mv rfl rfl ?_
  refine Wl.callP hD.txt rfl rfl (hD.does _ r hb hP (by omega)) rfl (fun v_ w_k2 hv_ => ?_) (fun c_ w_k2 hx_ => ?_)
  rotate_left
  ·
   obtain ⟨a_k2, e_k2, hF_k2, rfl, hPp_k2, hs_k2⟩ := hx_
   have hz_k2 := hs_k2.size
   have hb := hb.trans hs_k2
   refine Wq.then_panic ?_
   refine panics ?_
   exact outX ⟨_, _, by simp only [pTurned, hF, hF_k2], rfl, hPp_k2, hb⟩
  obtain ⟨⟨x, r2, hF2, ⟨z, Sz, rfl, hz, hz_S⟩, hP, hrl⟩, hs_k2⟩ := hv_
  have hz_k2 := hs_k2.size
  have hB_o0 := hB_o0.kp hs_k2 (by omega)
  have hB_o1 := hB_o1.kp hs_k2 (by omega)
  have hb := hb.trans hs_k2
  refine Wl.allocN (z := (.agg #[(.int .i64 0), (str []), (.int .i64 0), (.int .i64 0), (.float .f64 0), (str []), (.slice none 0 0)])) (by kernel_rfl) rfl ?_
  rintro g_o12 w_o12 hg_o12 hn_o12 hs_o12
  have hz_o12 := hs_o12.size
  have hP := hP.below hs_o12
  have hB_o0 := hB_o0.below hs_o12
  have hB_o1 := hB_o1.below hs_o12
  have hz := hz.below hs_o12
  replace hs_o12 := Below.kp (p := p) hs_o12
  have hb := hb.trans hs_o12
  have hB_o12 := hn_o12
  have hl_o12 := hB_o12.lt
  refine Wl.storeS (by kernel_rfl) rfl rfl hB_o12 rfl rfl ?_
  rintro w_s0 hn_s0 hg_s0
  have hz_s0 := hg_s0.size
  have hb := kp_blk hb hg_s0 (by omega)
  try have hP := PSt.over hP hg_s0 (by omega)
  try have hB_o0 := hB_o0.over hg_s0 (by omega)
  try have hB_o1 := hB_o1.over hg_s0 (by omega)
  try have hz := EAt.kp hz hg_s0 (fun h_ => by have h2_ := hz_S _ h_; omega)
  have hB_o12 := hn_s0
  refine Wl.nil <| Wq.next hK_24 <| Wc.seq fun _ hK_28 => Wc.seq fun _ hK_29 => Wc.region <| Wl.mv rfl rfl <| Wl.mv rfl rfl <| Wl.nil <| Wq.next hK_29 <| Wc.block ?_
  refine Wc.loop (X := Nat × EC × (Nat → Prop) × ExprD) (fun (i, x1, S, e) => [(7, .pointer (some ⟨g_o0, 0, none⟩)), (8, .pointer (some ⟨g_o1, 0, none⟩)), (10, .pointer (some ⟨g_o12, 0, none⟩)), (23, .int .i64 (n : Int)), (24, .int .i64 (i : Int))]) (fun (i, x1, S, e) wr => i ≤ n ∧ wrapN k nm (n - i) e = wrapN k nm n x ∧ Kp p w wr ∧ PSt wr p en r2 g b ∧ Blk wr g_o0 28 (EC.cells ⟨k, nm, nullV, none, 0, 0⟩) ∧ Blk wr g_o1 28 (EC.cells ⟨0, [], nullV, none, 0, 0⟩) ∧ Blk wr g_o12 28 x1.cells ∧ EAt wr S e x1.cells ∧ (∀ k, S k → w.heap.size ≤ k ∧ k < wr.heap.size ∧ k ≠ g_o12 ∧ k ≠ g_o0 ∧ k ≠ g_o1)) (fun (i, x1, S, e) => n - i) (⟨0, z, Sz, x⟩) ?_ ?_ ?_
  · exact by repeat first | exact Sub.nil | refine Sub.cons' rfl (by first | rfl | exact int_eq (by omega) | exact int_eq (by simp) | (simp; done)) ?_
  · exact ⟨by omega, rfl, hb, hP, hB_o0, hB_o1, hB_o12, hz, fun k hk => by have := hz_S k hk; omega⟩
  rintro ⟨i, x1, S, e⟩ wr hI_33 _ hL_32
  replace hI_33 : i ≤ n ∧ wrapN k nm (n - i) e = wrapN k nm n x ∧ Kp p w wr ∧ PSt wr p en r2 g b ∧ Blk wr g_o0 28 (EC.cells ⟨k, nm, nullV, none, 0, 0⟩) ∧ Blk wr g_o1 28 (EC.cells ⟨0, [], nullV, none, 0, 0⟩) ∧ Blk wr g_o12 28 x1.cells ∧ EAt wr S e x1.cells ∧ (∀ k, S k → w.heap.size ≤ k ∧ k < wr.heap.size ∧ k ≠ g_o12 ∧ k ≠ g_o0 ∧ k ≠ g_o1) := hI_33
  obtain ⟨hin, hw1, hb, hP, hB_o0, hB_o1, hB_o12, hx, hx_S⟩ := hI_33
  show Wc _ _ _ _ _ [(7, .pointer (some ⟨g_o0, 0, none⟩)), (8, .pointer (some ⟨g_o1, 0, none⟩)), (10, .pointer (some ⟨g_o12, 0, none⟩)), (23, .int .i64 (n : Int)), (24, .int .i64 (i : Int))] _
  try have hzhb_L1 := hb.size
  have hlhB_o0_L1 := hB_o0.lt
  have hlhB_o1_L1 := hB_o1.lt
  have hlhB_o12_L1 := hB_o12.lt
  refine Wc.seq fun _ hK_34 => Wc.region <| Wl.y (y_lssi rfl rfl) rfl <| Wl.nil <| Wq.next hK_34 <| Wc.seq fun _ hK_36 => ?_
  refine Wc.cond rfl (fun c1_37 => ?_) (fun c1_37 => ?_)
  ·
   have c1_37_ := c1_37
   try simp only [DZ] at c1_37
   have hlt : i < n := by have := c1_37; omega
   refine Wc.skip <| Wq.next hK_36 <| Wc.seq fun _ hK_38 => Wc.block <| Wc.region ?_
   refine Wl.y (y_fieldAddr (fa28_0PsD _) rfl) rfl ?_
   refine Wl.l (l_load one3PsD rfl (by exact hB_o0.at (j := 0) rfl)) rfl ?_
   refine Wl.y (y_fieldAddr (fa28_1PsD _) rfl) rfl ?_
   refine Wl.l (l_load one9PsD rfl (by exact hB_o0.at (j := 1) rfl)) rfl ?_
   refine Wl.l (l_loadS Tryz.underlying28 (by kernel_rfl) rfl (by exact fun j u hu => hB_o12.at hu)) rfl ?_
   refine Wl.litN (sz := 7) (vs := [_]) Tryz.underlying26 (by kernel_rfl) rfl rfl rfl rfl rfl rfl ?_
   rintro g_b1 w_b1 hg_b1 hn_b1 hs_b1
   have hz_b1 := hs_b1.size
   have hP := hP.below hs_b1
   have hx := hx.below hs_b1
   have hB_o0 := hB_o0.below hs_b1
   have hB_o1 := hB_o1.below hs_b1
   have hB_o12 := hB_o12.below hs_b1
   replace hs_b1 := Below.kp (p := p) hs_b1
   have hb := hb.trans hs_b1
   have hB_b1 := hn_b1
   have hl_b1 := hB_b1.lt
   refine Wl.y (y_buildS (z := [(.int .i64 0), (str []), (.int .i64 0), (.int .i64 0), (.float .f64 0), (str []), (.slice none 0 0)]) (pl := [(0, 1), (1, 1), (2, 4), (6, 1)]) (cs := [_, _, _, _, _, _, _]) Tryz.underlying28 (by kernel_rfl) (by kernel_rfl) rfl rfl rfl) rfl ?_
   refine Wl.storeS (by kernel_rfl) rfl rfl hB_o12 rfl rfl ?_
   rintro w_s1 hn_s1 hg_s1
   have hz_s1 := hg_s1.size
   have hb := kp_blk hb hg_s1 (by omega)
   try have hP := PSt.over hP hg_s1 (by omega)
   try have hx := EAt.kp hx hg_s1 (fun h_ => by have h2_ := hx_S _ h_; omega)
   try have hB_o0 := hB_o0.over hg_s1 (by omega)
   try have hB_o1 := hB_o1.over hg_s1 (by omega)
   try have hB_b1 := hB_b1.over hg_s1 (by omega)
   have hB_o12 := hn_s1
   refine Wl.nil <| Wq.block_normal <| Wq.next hK_38 <| Wc.region ?_
   refine Wl.y (y_addI rfl rfl (by first | omega | (simp; done) | (simp; omega)) (by first | omega | (simp; done) | (simp; omega))) rfl ?_
   refine Wl.mv rfl rfl <| Wl.nil ?_
   refine fun a_ ha_ => hL_32 _ _ (⟨i + 1, ⟨k, nm, nullV, some ⟨g_b1, 0, none⟩, 1, 1⟩, fun k => S k ∨ k = g_b1, .mk k nm nullV [e]⟩) (by show n - (i + 1) < n - i; omega) (by repeat first | exact Sub.nil | refine Sub.cons' rfl (by first | rfl | exact int_eq (by omega) | exact int_eq (by simp) | (simp; done)) ?_) ?_ a_ ha_
   exact ⟨by omega, by rw [← hw1, show n - i = (n - (i + 1)) + 1 by omega]; rfl, hb, hP, hB_o0, hB_o1, hB_o12, EAt.node (kids := [e]) rfl (hB_b1.rd 1 7 rfl) (.inr rfl) ((ELs.one hx).mono fun _ h => .inl h), fun k hk => by rcases hk with h | h; (· have := hx_S k h; omega); (· have := hB_b1.lt; omega)⟩
  have c1_37_ := c1_37
  try simp only [DZ] at c1_37
  have hlt : i = n := by have := c1_37; omega
  refine Wc.exit ?_
  refine Wq.then_exit <| Wq.then_exit <| Wq.block_exit <| Wq.next hK_28 <| Wc.seq fun _ hK_48 => Wc.region ?_
  refine Wl.l (l_loadS Tryz.underlying28 (by kernel_rfl) rfl (by exact fun j u hu => hB_o12.at hu)) rfl ?_
  refine Wl.storeS (by kernel_rfl) rfl rfl hB_o1 rfl rfl ?_
  rintro w_s2 hn_s2 hg_s2
  have hz_s2 := hg_s2.size
  have hb := kp_blk hb hg_s2 (by omega)
  try have hP := PSt.over hP hg_s2 (by omega)
  try have hx := EAt.kp hx hg_s2 (fun h_ => by have h2_ := hx_S _ h_; omega)
  have hB_o1 := hn_s2
  refine Wl.nil <| Wq.next hK_48 <| Wc.ret ?_
  refine retN (rs := [.cell 8 28]) (vs := [_]) rfl (.cell rfl (loadS Tryz.underlying28 (by kernel_rfl) (fun j u hu => hB_o1.at hu)) .nil) ?_
  exact outR ⟨⟨e, r2, by subst hlt; simp only [pTurned, hF, hF2, Nat.zero_add]; rw [← hw1]; simp [wrapN], ⟨x1, S, rfl, hx, fun k hk => by have := hx_S k hk; omega⟩, hP, by omega⟩, hb⟩
end Go.Proofs.YtjnabgddjogkbaaGreatDoor
namespace Go.Proofs.YtjnabgddjogkbaaGreatDoor
open Go.RowKit Go.Bw Go.Bw.Fl
set_option linter.unusedVariables false
set_option linter.unusedSimpArgs false
theorem fa60_0PsE (p : Addr) (w : World) : (Instr.fieldAt 60 (.pointer (some p)) 0).run Tryz.prog w = .ok (.pointer (some (p.add 0))) w := run_fieldAt (i := 0) (sz := 1) Tryz.underlying60 rfl (by kernel_rfl) p w
theorem one200PsE : One Tryz.prog 200 := ⟨_, Tryz.underlying200, rfl, by kernel_rfl⟩
theorem one212PsE : One Tryz.prog 212 := ⟨_, Tryz.underlying212, rfl, by kernel_rfl⟩
theorem one3PsE : One Tryz.prog 3 := ⟨_, Tryz.underlying3, rfl, by kernel_rfl⟩
theorem one56PsE : One Tryz.prog 56 := ⟨_, Tryz.underlying56, rfl, by kernel_rfl⟩
theorem one9PsE : One Tryz.prog 9 := ⟨_, Tryz.underlying9, rfl, by kernel_rfl⟩
theorem txt199PsE : Txt Tryz.prog 199 := ⟨_, Tryz.func199, by kernel_rfl, rfl⟩   -- bridleway/parse.two
theorem txt201PsE : Txt Tryz.prog 201 := ⟨_, Tryz.func201, by kernel_rfl, rfl⟩   -- (*bridleway/parse.parser).turned
theorem txt204PsE : Txt Tryz.prog 204 := ⟨_, Tryz.func204, by kernel_rfl, rfl⟩   -- (*bridleway/parse.parser).many
theorem txt212PsE : Txt Tryz.prog 212 := ⟨_, Tryz.func212, by kernel_rfl, rfl⟩   -- (*bridleway/parse.parser).bracket
theorem txt36PsE : Txt Tryz.prog 36 := ⟨_, Tryz.func36, by kernel_rfl, rfl⟩   -- (*bridleway/parse.row).is
theorem txt38PsE : Txt Tryz.prog 38 := ⟨_, Tryz.func38, by kernel_rfl, rfl⟩   -- (*bridleway/parse.parser).take
theorem txt65PsE : Txt Tryz.prog 65 := ⟨_, Tryz.func65, by kernel_rfl, rfl⟩   -- (*bridleway/parse.parser).kind
theorem txtLs : Txt Tryz.prog 181 := ⟨_, Tryz.func181, by kernel_rfl, rfl⟩
theorem txtL : Txt Tryz.prog 202 := ⟨_, Tryz.func202, by kernel_rfl, rfl⟩
theorem txtL1 : Txt Tryz.prog 197 := ⟨_, Tryz.func197, by kernel_rfl, rfl⟩
theorem txtL11 : Txt Tryz.prog 198 := ⟨_, Tryz.func198, by kernel_rfl, rfl⟩
theorem txtL2 : Txt Tryz.prog 200 := ⟨_, Tryz.func200, by kernel_rfl, rfl⟩
theorem txtL3 : Txt Tryz.prog 203 := ⟨_, Tryz.func203, by kernel_rfl, rfl⟩
abbrev gptr0 (k : Nat) : Value := .pointer (some ⟨k, 0, none⟩)
theorem label_r (p en : Nat) (ts : List Tok) (g b n : Nat) (knot : Nat → Pe) (hm : ts.length ≤ n) (w : World) (hP : PSt w p en ts g b) (hD : ∀ b', Does w p en g b' n 181 #[pptr p] #[] (knot b') EVal) : Out Tryz.prog 202 [pptr p] w (PRes w p en g b ts (pLabel en b knot ts) (EVal w.heap.size)) (PErr w p en g b (pLabel en b knot ts)) := by
  have hpl := hP.lt
  have hb := Kp.refl p w
  refine enter Tryz.func202 rfl rfl rfl ?_
  refine Wc.seq fun _ hK_1 => Wc.region ?_
  refine Wl.allocN (z := (.agg #[(.int .i64 0), (str []), (.int .i64 0), (.int .i64 0), (.float .f64 0), (str []), (.slice none 0 0)])) (by kernel_rfl) rfl ?_
  rintro g_o0 w_o0 hg_o0 hn_o0 hs_o0
  have hz_o0 := hs_o0.size
  have hP := hP.below hs_o0
  replace hs_o0 := Below.kp (p := p) hs_o0
  have hb := hb.trans hs_o0
  have hB_o0 := hn_o0
  have hl_o0 := hB_o0.lt
  refine Wl.nil <| Wq.next hK_1 <| Wc.seq fun _ hK_3 => Wc.block <| Wc.seq fun _ hK_4 => Wc.region <| Wl.mv rfl rfl <| Wl.y (y_nilCheck rfl) rfl ?_
  refine Wl.y (y_fieldAddr (fa60_0PsE _) rfl) rfl ?_
  refine Wl.litN (sz := 1) (vs := [_]) Tryz.underlying45 (by kernel_rfl) rfl rfl rfl rfl rfl rfl ?_
  rintro g_b0 w_b0 hg_b0 hn_b0 hs_b0
  have hz_b0 := hs_b0.size
  have hP := hP.below hs_b0
  have hB_o0 := hB_o0.below hs_b0
  replace hs_b0 := Below.kp (p := p) hs_b0
  have hb := hb.trans hs_b0
  have hB_b0 := hn_b0
  have hl_b0 := hB_b0.lt
  refine Wl.call txt36PsE rfl rfl (is_r p en ts g b _ 1 [[40]] (by simp) _ hP (hB_b0.rd 1 1 rfl)) rfl ?_
  rintro _ w_k0 ⟨rfl, hs_k0⟩
  have hz_k0 := hs_k0.size
  first | have hP := PSt.below hP hs_k0 | have hP := PSt.kp hP hs_k0 | skip
  first | have hB_o0 := Blk.below hB_o0 hs_k0 | have hB_o0 := Blk.kp hB_o0 hs_k0 (by omega) | skip
  first | replace hs_k0 := Below.kp (p := p) hs_k0 | skip
  have hb := hb.trans hs_k0
  refine Wl.sg rfl rfl <| Wl.nil <| Wq.next hK_4 ?_
  refine Wc.cond rfl (fun c0_11 => ?_) (fun c0_11 => ?_)
  ·
   have c0_11_ := c0_11
   try simp only [DZ] at c0_11
   have h1 : isT en [[40]] ts = true := c0_11_
   refine Wc.seq fun _ hK_12 => Wc.region <| Wl.mv rfl rfl <| Wl.mv rfl rfl <| Wl.y (y_makeFunc rfl rfl) rfl ?_
   refine Wl.callP txt212PsE rfl rfl (bracket_r p en ts g b n 181 #[pptr p] #[] knot hm _ hP ((hD (b + 1)).kp hb)) rfl (fun v_ w_k1 hv_ => ?_) (fun c_ w_k1 hx_ => ?_)
   rotate_left
   ·
    obtain ⟨a_k1, e_k1, hF_k1, rfl, hPp_k1, hs_k1⟩ := hx_
    have hz_k1 := hs_k1.size
    have hb := hb.trans hs_k1
    refine Wq.then_panic <| Wq.block_panic <| Wq.then_panic ?_
    refine panics ?_
    exact outX ⟨_, _, by simp [pLabel, h1, hF_k1], rfl, hPp_k1, hb⟩
   obtain ⟨⟨x, r, hF, ⟨z, Sz, rfl, hz, hz_S⟩, hP, hrl⟩, hs_k1⟩ := hv_
   have hz_k1 := hs_k1.size
   have hB_o0 := hB_o0.kp hs_k1 (by omega)
   have hb := hb.trans hs_k1
   refine Wl.storeS (by kernel_rfl) rfl rfl hB_o0 rfl rfl ?_
   rintro w_s0 hn_s0 hg_s0
   have hz_s0 := hg_s0.size
   have hb := kp_blk hb hg_s0 (by omega)
   try have hP := PSt.over hP hg_s0 (by omega)
   try have hz := EAt.kp hz hg_s0 (fun h_ => by have h2_ := hz_S _ h_; omega)
   have hB_o0 := hn_s0
   refine Wl.nil <| Wq.next hK_12 <| Wc.ret ?_
   refine Wq.block_ret (Wq.then_ret ?_)
   refine retN (rs := [.cell 2 28]) (vs := [_]) rfl (.cell rfl (loadS Tryz.underlying28 (by kernel_rfl) (fun j u hu => hB_o0.at hu)) .nil) ?_
   exact outR ⟨⟨x, r, by simp [pLabel, h1, hF], ⟨z, Sz, rfl, hz, fun k hk => by have := hz_S k hk; omega⟩, hP, hrl⟩, hb⟩
  have c0_11_ := c0_11
  try simp only [DZ] at c0_11
  have h1 : isT en [[40]] ts = false := c0_11_
  refine Wc.seq fun _ hK_17 => Wc.region <| Wl.mv rfl rfl <| Wl.y (y_nilCheck rfl) rfl ?_
  refine Wl.y (y_fieldAddr (fa60_0PsE _) rfl) rfl ?_
  refine Wl.litN (sz := 1) (vs := [_]) Tryz.underlying45 (by kernel_rfl) rfl rfl rfl rfl rfl rfl ?_
  rintro g_b1 w_b1 hg_b1 hn_b1 hs_b1
  have hz_b1 := hs_b1.size
  have hP := hP.below hs_b1
  have hB_o0 := hB_o0.below hs_b1
  replace hs_b1 := Below.kp (p := p) hs_b1
  have hb := hb.trans hs_b1
  have hB_b1 := hn_b1
  have hl_b1 := hB_b1.lt
  refine Wl.call txt36PsE rfl rfl (is_r p en ts g b _ 1 [[37]] (by simp) _ hP (hB_b1.rd 1 1 rfl)) rfl ?_
  rintro _ w_k2 ⟨rfl, hs_k2⟩
  have hz_k2 := hs_k2.size
  first | have hP := PSt.below hP hs_k2 | have hP := PSt.kp hP hs_k2 | skip
  first | have hB_o0 := Blk.below hB_o0 hs_k2 | have hB_o0 := Blk.kp hB_o0 hs_k2 (by omega) | skip
  first | replace hs_k2 := Below.kp (p := p) hs_k2 | skip
  have hb := hb.trans hs_k2
  refine Wl.sg rfl rfl <| Wl.nil <| Wq.next hK_17 ?_
  refine Wc.cond rfl (fun c1_24 => ?_) (fun c1_24 => ?_)
  ·
   have c1_24_ := c1_24
   try simp only [DZ] at c1_24
   have h2 : isT en [[37]] ts = true := c1_24_
   refine Wc.seq fun _ hK_25 => Wc.region <| Wl.mv rfl rfl ?_
   refine Wl.call txt38PsE rfl rfl (take_x p en ts g b (isT_ne h2) _ hP) rfl ?_
   rintro _ w_k3 ⟨⟨rfl, hP⟩, hs_k3⟩
   have hz_k3 := hs_k3.size
   first | have hP := PSt.below hP hs_k3 | have hP := PSt.kp hP hs_k3 | skip
   first | have hB_o0 := Blk.below hB_o0 hs_k3 | have hB_o0 := Blk.kp hB_o0 hs_k3 (by omega) | skip
   first | replace hs_k3 := Below.kp (p := p) hs_k3 | skip
   have hb := hb.trans hs_k3
   refine Wl.nil <| Wq.next hK_25 <| Wc.seq fun _ hK_28 => Wc.region ?_
   refine Wl.y (y_buildS (z := [(.int .i64 0), (str []), (.int .i64 0), (.int .i64 0), (.float .f64 0), (str []), (.slice none 0 0)]) (pl := [(0, 1), (1, 1), (2, 4), (6, 1)]) (cs := [_, _, _, _, _, _, _]) Tryz.underlying28 (by kernel_rfl) (by kernel_rfl) rfl rfl rfl) rfl ?_
   refine Wl.storeS (by kernel_rfl) rfl rfl hB_o0 rfl rfl ?_
   rintro w_s1 hn_s1 hg_s1
   have hz_s1 := hg_s1.size
   have hb := kp_blk hb hg_s1 (by omega)
   try have hP := PSt.over hP hg_s1 (by omega)
   have hB_o0 := hn_s1
   refine Wl.nil <| Wq.next hK_28 <| Wc.ret ?_
   refine Wq.block_ret (Wq.then_ret ?_)
   refine retN (rs := [.cell 2 28]) (vs := [_]) rfl (.cell rfl (loadS Tryz.underlying28 (by kernel_rfl) (fun j u hu => hB_o0.at hu)) .nil) ?_
   exact outR ⟨⟨_, ts.tail, by simp [pLabel, h1, h2], ⟨⟨5, [], nullV, none, 0, 0⟩, fun _ => False, rfl, EAt.leafC _ _ 5 [] nullV, fun _ h => h.elim⟩, hP, by rw [List.length_tail]; omega⟩, hb⟩
  have c1_24_ := c1_24
  try simp only [DZ] at c1_24
  have h2 : isT en [[37]] ts = false := c1_24_
  refine Wc.skip <| Wq.block_normal <| Wq.next hK_3 <| Wc.seq fun _ hK_30 => Wc.region <| Wl.mv rfl rfl ?_
  refine Wl.callP txt65PsE rfl rfl (kind_r p en 1 (by decide) ts g b _ hP) rfl (fun v_ w_k4 hv_ => ?_) (fun c_ w_k4 hx_ => ?_)
  rotate_left
  ·
   obtain ⟨a_k4, e_k4, hF_k4, rfl, hPp_k4, hs_k4⟩ := hx_
   have hz_k4 := hs_k4.size
   have hb := hb.trans hs_k4
   refine Wq.then_panic ?_
   refine panics ?_
   exact outX ⟨_, _, by simp [pLabel, h1, h2, hF_k4], rfl, hPp_k4, hb⟩
  obtain ⟨⟨t, r, hF, rfl, hP, hrl⟩, hs_k4⟩ := hv_
  have hz_k4 := hs_k4.size
  have hB_o0 := hB_o0.kp hs_k4 (by omega)
  have hb := hb.trans hs_k4
  refine Wl.y (y_fieldO Tryz.underlying43 rfl one9PsE rfl rfl) rfl ?_
  refine Wl.y (y_buildS (z := [(.int .i64 0), (str []), (.int .i64 0), (.int .i64 0), (.float .f64 0), (str []), (.slice none 0 0)]) (pl := [(0, 1), (1, 1), (2, 4), (6, 1)]) (cs := [_, _, _, _, _, _, _]) Tryz.underlying28 (by kernel_rfl) (by kernel_rfl) rfl rfl rfl) rfl ?_
  refine Wl.storeS (by kernel_rfl) rfl rfl hB_o0 rfl rfl ?_
  rintro w_s2 hn_s2 hg_s2
  have hz_s2 := hg_s2.size
  have hb := kp_blk hb hg_s2 (by omega)
  try have hP := PSt.over hP hg_s2 (by omega)
  have hB_o0 := hn_s2
  refine Wl.nil <| Wq.next hK_30 <| Wc.ret ?_
  refine retN (rs := [.cell 2 28]) (vs := [_]) rfl (.cell rfl (loadS Tryz.underlying28 (by kernel_rfl) (fun j u hu => hB_o0.at hu)) .nil) ?_
  exact outR ⟨⟨_, r, by simp [pLabel, h1, h2, hF], ⟨⟨4, t.t, nullV, none, 0, 0⟩, fun _ => False, rfl, EAt.leafC _ _ 4 t.t nullV, fun _ h => h.elim⟩, hP, hrl⟩, hb⟩
theorem label_d {p en g n : Nat} {knot : Nat → Pe} {w : World} (b : Nat) (hD : ∀ b', Does w p en g b' n 181 #[pptr p] #[] (knot b') EVal) : Does w p en g b (n + 1) 202 #[pptr p] #[] (pLabel en b knot) EVal :=
  ⟨txtL, fun w' ts hk hP hm => label_r p en ts g b n knot (by omega) w' hP fun b' => (hD b').kp hk⟩
theorem lkind_r (k : Int) (w : World) : Ret Tryz.prog 197 [.int .i64 k] w fun v w' => (∃ gk, v = .func (.func 198) #[] #[gptr0 gk] ∧ Blk w' gk 3 [.int .i64 k] ∧ w.heap.size ≤ gk) ∧ Below w.heap.size w w' := by
  have hb := Below.refl w.heap.size w
  refine enter Tryz.func197 rfl rfl rfl ?_
  refine Wc.seq fun _ hK_1 => Wc.region ?_
  refine Wl.boxN rfl rfl ?_
  rintro g_o0 w_o0 hg_o0 hn_o0 hs_o0
  have hz_o0 := hs_o0.size
  have hb := hb.trans (hs_o0.mono hb.size)
  have hB_o0 := hn_o0
  have hl_o0 := hB_o0.lt
  refine Wl.sg rfl rfl <| Wl.nil <| Wq.next hK_1 <| Wc.seq fun _ hK_4 => Wc.region <| Wl.y (y_makeFunc rfl rfl) rfl <| Wl.sg rfl rfl <| Wl.nil <| Wq.next hK_4 <| Wc.ret ?_
  refine ret1 rfl rfl ?_
  exact ⟨_, rfl, ⟨_, rfl, hB_o0, by omega⟩, hb⟩
theorem lmade_r (k : Int) (gk : Nat) (s : List UInt8) (x y : EC) (ex ey : ExprD) (S : Nat → Prop) (w : World) (hB : Blk w gk 3 [.int .i64 k]) (hS : ∀ k, S k → k < w.heap.size) (hx : EAt w S ex x.cells) (hy : EAt w S ey y.cells) : Ret Tryz.prog 198 [str s, x.enc, y.enc, gptr0 gk] w fun v w' => (∃ (z : EC) (S' : Nat → Prop), v = z.enc ∧ EAt w' S' (twoE k [] ex ey) z.cells ∧ ∀ k, S' k → More S w w' k) ∧ Below w.heap.size w w' := by
  have hb := Below.refl w.heap.size w
  have hB_hb := hB
  have hx_hb := hx
  have hy_hb := hy
  refine enter Tryz.func198 rfl rfl rfl ?_
  refine Wc.seq fun _ hK_1 => Wc.region ?_
  refine Wl.boxN rfl rfl ?_
  rintro g_o0 w_o0 hg_o0 hn_o0 hs_o0
  have hz_o0 := hs_o0.size
  have hb := hb.trans (hs_o0.mono hb.size)
  have hB := hB_hb.below hb
  have hx := hx_hb.below hb
  have hy := hy_hb.below hb
  have hB_o0 := hn_o0
  have hl_o0 := hB_o0.lt
  refine Wl.boxN rfl rfl ?_
  rintro g_o1 w_o1 hg_o1 hn_o1 hs_o1
  have hz_o1 := hs_o1.size
  have hb := hb.trans (hs_o1.mono hb.size)
  have hB := hB_hb.below hb
  have hx := hx_hb.below hb
  have hy := hy_hb.below hb
  try have hB_o0 := Blk.below hB_o0 hs_o1
  have hB_o1 := hn_o1
  have hl_o1 := hB_o1.lt
  refine Wl.allocN (z := (.agg #[(.int .i64 0), (str []), (.int .i64 0), (.int .i64 0), (.float .f64 0), (str []), (.slice none 0 0)])) (by kernel_rfl) rfl ?_
  rintro g_o2 w_o2 hg_o2 hn_o2 hs_o2
  have hz_o2 := hs_o2.size
  have hb := hb.trans (hs_o2.mono hb.size)
  have hB := hB_hb.below hb
  have hx := hx_hb.below hb
  have hy := hy_hb.below hb
  try have hB_o0 := Blk.below hB_o0 hs_o2
  try have hB_o1 := Blk.below hB_o1 hs_o2
  have hB_o2 := hn_o2
  have hl_o2 := hB_o2.lt
  refine Wl.nil <| Wq.next hK_1 <| Wc.seq fun _ hK_5 => Wc.region ?_
  refine Wl.l (l_load one3PsE rfl (by exact hB.at (j := 0) rfl)) rfl ?_
  refine Wl.l (l_loadS Tryz.underlying28 (by kernel_rfl) rfl (by exact fun j u hu => hB_o0.at hu)) rfl ?_
  refine Wl.l (l_loadS Tryz.underlying28 (by kernel_rfl) rfl (by exact fun j u hu => hB_o1.at hu)) rfl ?_
  refine Wl.call txt199PsE rfl rfl (two_r k [] x y ex ey S _ hx hy) rfl ?_
  rintro _ w_k0 ⟨⟨z, Sz, rfl, hz, hz_S⟩, hs_k0⟩
  have hz_k0 := hs_k0.size
  have hb := hb.trans (hs_k0.mono hb.size)
  have hB := hB_hb.below hb
  have hx := hx_hb.below hb
  have hy := hy_hb.below hb
  try have hB_o2 := Blk.below hB_o2 hs_k0
  have hz_S : ∀ k, Sz k → (S k ∨ (w_o2.heap.size ≤ k ∧ k < w_k0.heap.size)) := hz_S
  refine Wl.storeS (by kernel_rfl) rfl rfl hB_o2 rfl rfl ?_
  rintro w_s0 hn_s0 hg_s0
  have hz_s0 := hg_s0.size
  have hb := below_blk hb hg_s0 hb.size (by omega)
  have hB := hB_hb.below hb
  have hx := hx_hb.below hb
  have hy := hy_hb.below hb
  try have hz := EAt.kp hz hg_s0 (fun h_ => by have h2_ := hz_S _ h_; first | omega | (rcases h2_ with h3_ | h3_; (have h4_ := hS _ h3_; omega); omega))
  have hB_o2 := hn_s0
  refine Wl.nil <| Wq.next hK_5 <| Wc.ret ?_
  refine retN (rs := [.cell 7 28]) (vs := [_]) rfl (.cell rfl (loadS Tryz.underlying28 (by kernel_rfl) (fun j u hu => hB_o2.at hu)) .nil) ?_
  exact ⟨_, rfl, ⟨z, Sz, rfl, hz, fun k hk => by rcases hz_S k hk with h | h; (· exact .inl h); (· exact .inr (by omega))⟩, hb⟩
theorem lmade (k : Int) {p gk : Nat} {w : World} (hg : gk ≠ p) (hB : Blk w gk 3 [.int .i64 k]) (signs : List (List UInt8)) : Made w p 198 #[] #[gptr0 gk] (fun _ => twoE k []) signs :=
  ⟨txtL11, fun w' s x y ex ey S hk _ hS hx hy => lmade_r k gk s x y ex ey S w' (hB.kp hk hg) hS hx hy⟩
theorem lnot_r (p en : Nat) (ts : List Tok) (g b n g1 : Nat) (knot : Nat → Pe) (hm : ts.length < n + 1) (w : World) (hP : PSt w p en ts g b) (hg1 : g1 ≠ p) (hB : Blk w g1 56 [pptr p]) (hD : ∀ b', Does w p en g b' n 181 #[pptr p] #[] (knot b') EVal) : Out Tryz.prog 200 [gptr0 g1] w (PRes w p en g b ts (pTurned en [33] (pLabel en b knot) 6 [] ts) (EVal w.heap.size)) (PErr w p en g b (pTurned en [33] (pLabel en b knot) 6 [] ts)) := by
  have hpl := hP.lt
  have hl1_ := hB.lt
  have hb := Kp.refl p w
  refine enter Tryz.func200 rfl rfl rfl ?_
  refine Wc.seq fun _ hK_1 => Wc.region ?_
  refine Wl.allocN (z := (.agg #[(.int .i64 0), (str []), (.int .i64 0), (.int .i64 0), (.float .f64 0), (str []), (.slice none 0 0)])) (by kernel_rfl) rfl ?_
  rintro g_o0 w_o0 hg_o0 hn_o0 hs_o0
  have hz_o0 := hs_o0.size
  have hP := hP.below hs_o0
  have hB := hB.below hs_o0
  replace hs_o0 := Below.kp (p := p) hs_o0
  have hb := hb.trans hs_o0
  have hB_o0 := hn_o0
  have hl_o0 := hB_o0.lt
  refine Wl.nil <| Wq.next hK_1 <| Wc.seq fun _ hK_3 => Wc.region ?_
  refine Wl.l (l_load one56PsE rfl (by exact hB.at (j := 0) rfl)) rfl ?_
  refine Wl.l (l_load one56PsE rfl (by exact hB.at (j := 0) rfl)) rfl ?_
  refine Wl.y (y_makeFunc rfl rfl) rfl ?_
  refine Wl.y (y_buildS (z := [(.int .i64 0), (str []), (.int .i64 0), (.int .i64 0), (.float .f64 0), (str []), (.slice none 0 0)]) (pl := [(0, 1), (1, 1), (2, 4), (6, 1)]) (cs := [_, _, _, _, _, _, _]) Tryz.underlying28 (by kernel_rfl) (by kernel_rfl) rfl rfl rfl) rfl ?_
  refine Wl.callP txt201PsE rfl rfl (turned_r p en ts g b (n + 1) [33] 202 #[pptr p] #[] (pLabel en b knot) 6 [] hm _ hP ((label_d b hD).kp hb)) rfl (fun v_ w_k0 hv_ => ?_) (fun c_ w_k0 hx_ => ?_)
  rotate_left
  ·
   obtain ⟨a_k0, e_k0, hF_k0, rfl, hPp_k0, hs_k0⟩ := hx_
   have hz_k0 := hs_k0.size
   have hb := hb.trans hs_k0
   refine Wq.then_panic ?_
   refine panics ?_
   exact outX ⟨_, _, hF_k0, rfl, hPp_k0, hb⟩
  obtain ⟨⟨x, r, hF, ⟨z, Sz, rfl, hz, hz_S⟩, hP, hrl⟩, hs_k0⟩ := hv_
  have hz_k0 := hs_k0.size
  have hB_o0 := hB_o0.kp hs_k0 (by omega)
  have hb := hb.trans hs_k0
  refine Wl.storeS (by kernel_rfl) rfl rfl hB_o0 rfl rfl ?_
  rintro w_s0 hn_s0 hg_s0
  have hz_s0 := hg_s0.size
  have hb := kp_blk hb hg_s0 (by omega)
  try have hP := PSt.over hP hg_s0 (by omega)
  try have hz := EAt.kp hz hg_s0 (fun h_ => by have h2_ := hz_S _ h_; omega)
  have hB_o0 := hn_s0
  refine Wl.nil <| Wq.next hK_3 <| Wc.ret ?_
  refine retN (rs := [.cell 1 28]) (vs := [_]) rfl (.cell rfl (loadS Tryz.underlying28 (by kernel_rfl) (fun j u hu => hB_o0.at hu)) .nil) ?_
  exact outR ⟨⟨x, r, hF, ⟨z, Sz, rfl, hz, fun k hk => by have := hz_S k hk; omega⟩, hP, hrl⟩, hb⟩
theorem lnot_d {p en g n g1 : Nat} {knot : Nat → Pe} {w : World} (b : Nat) (hg1 : g1 ≠ p) (hB : Blk w g1 56 [pptr p]) (hD : ∀ b', Does w p en g b' n 181 #[pptr p] #[] (knot b') EVal) : Does w p en g b (n + 1) 200 #[] #[gptr0 g1] (pTurned en [33] (pLabel en b knot) 6 []) EVal :=
  ⟨txtL2, fun w' ts hk hP hm => lnot_r p en ts g b n g1 knot hm w' hP hg1 (hB.kp hk hg1) fun b' => (hD b').kp hk⟩
def pBoth (en b : Nat) (knot : Nat → Pe) : Pe := pMany en (pTurned en [33] (pLabel en b knot) 6 []) (fun _ => twoE 7 []) [[38]]
theorem lboth_r (p en : Nat) (ts : List Tok) (g b n g1 g4 g3 : Nat) (knot : Nat → Pe) (hm : ts.length < n + 1) (w : World) (hP : PSt w p en ts g b) (hg1 : g1 ≠ p) (hg4 : g4 ≠ p) (hg3 : g3 ≠ p) (hB1 : Blk w g1 56 [pptr p]) (hB4 : Blk w g4 200 [.func (.func 200) #[] #[gptr0 g1]]) (hB3 : Blk w g3 212 [.func (.func 197) #[] #[]]) (hD : ∀ b', Does w p en g b' n 181 #[pptr p] #[] (knot b') EVal) : Out Tryz.prog 203 [gptr0 g1, gptr0 g4, gptr0 g3] w (PRes w p en g b ts (pBoth en b knot ts) (EVal w.heap.size)) (PErr w p en g b (pBoth en b knot ts)) := by
  have hpl := hP.lt
  have hl1_ := hB1.lt
  have hl3_ := hB3.lt
  have hl4_ := hB4.lt
  have hb := Kp.refl p w
  refine enter Tryz.func203 rfl rfl rfl ?_
  refine Wc.seq fun _ hK_1 => Wc.region ?_
  refine Wl.allocN (z := (.agg #[(.int .i64 0), (str []), (.int .i64 0), (.int .i64 0), (.float .f64 0), (str []), (.slice none 0 0)])) (by kernel_rfl) rfl ?_
  rintro g_o0 w_o0 hg_o0 hn_o0 hs_o0
  have hz_o0 := hs_o0.size
  have hP := hP.below hs_o0
  have hB1 := hB1.below hs_o0
  have hB4 := hB4.below hs_o0
  have hB3 := hB3.below hs_o0
  replace hs_o0 := Below.kp (p := p) hs_o0
  have hb := hb.trans hs_o0
  have hB_o0 := hn_o0
  have hl_o0 := hB_o0.lt
  refine Wl.nil <| Wq.next hK_1 <| Wc.seq fun _ hK_3 => ?_
  refine Wc.any (n := 7) (fun w' => Kp p w w' ∧ Blk w' g1 56 [pptr p] ∧ Blk w' g4 200 [.func (.func 200) #[] #[gptr0 g1]] ∧ Blk w' g3 212 [.func (.func 197) #[] #[]] ∧ ∃ cs, Blk w' g_o0 28 cs) #[false, false, false, false, false, false, false] (by kernel_rfl) rfl (by kernel_rfl) ?_
  refine Wa.drew ?_
  rintro w_g1 hs_g1
  have hz_g1 := hs_g1.size
  have hP := hP.below hs_g1
  have hB1 := hB1.below hs_g1
  have hB4 := hB4.below hs_g1
  have hB3 := hB3.below hs_g1
  have hB_o0 := hB_o0.below hs_g1
  replace hs_g1 := Below.kp (p := p) hs_g1
  have hb := hb.trans hs_g1
  refine Wa.take (i := 0) #[true, false, false, false, false, false, false] rfl (by kernel_rfl) (fun _ _ _ h => h) rfl (fun wq hq => l_load one56PsE rfl (by obtain ⟨hq, hB1, hB4, hB3, _, hB_o0⟩ := hq; exact hB1.at (j := 0) rfl)) ⟨hb, hB1, hB4, hB3, _, hB_o0⟩ ?_
  refine Wa.take (i := 1) #[true, true, false, false, false, false, false] rfl (by kernel_rfl) (fun _ _ _ h => h) rfl (fun wq hq => l_load one200PsE rfl (by obtain ⟨hq, hB1, hB4, hB3, _, hB_o0⟩ := hq; exact hB4.at (j := 0) rfl)) ⟨hb, hB1, hB4, hB3, _, hB_o0⟩ ?_
  refine Wa.take (i := 2) #[true, true, true, false, false, false, false] rfl (by kernel_rfl) (fun _ _ _ h => h) rfl (fun wq hq => l_load one212PsE rfl (by obtain ⟨hq, hB1, hB4, hB3, _, hB_o0⟩ := hq; exact hB3.at (j := 0) rfl)) ⟨hb, hB1, hB4, hB3, _, hB_o0⟩ ?_
  refine Wa.some (rs := [3, 4]) (by kernel_rfl) rfl ?_
  refine Ws.cons #[true, true, true, true, false, false, false] rfl rfl (fun _ hK_7 => ?_) ?_
  ·
   refine Wl.callP txtL1 rfl rfl (Ret.out (X := fun _ _ => False) (lkind_r 7 _)) rfl (fun v_ w_k0 hv_ => ?_) (fun c_ w_k0 hx_ => ?_)
   rotate_left
   ·
    exact hx_.elim
   obtain ⟨⟨gk, rfl, hBk, hgk⟩, hs_k0⟩ := hv_
   have hz_k0 := hs_k0.size
   first | have hP := PSt.below hP hs_k0 | have hP := PSt.kp hP hs_k0 | skip
   first | have hB1 := Blk.below hB1 hs_k0 | have hB1 := Blk.kp hB1 hs_k0 (by omega) | skip
   first | have hB4 := Blk.below hB4 hs_k0 | have hB4 := Blk.kp hB4 hs_k0 (by omega) | skip
   first | have hB3 := Blk.below hB3 hs_k0 | have hB3 := Blk.kp hB3 hs_k0 (by omega) | skip
   first | have hB_o0 := Blk.below hB_o0 hs_k0 | have hB_o0 := Blk.kp hB_o0 hs_k0 (by omega) | skip
   first | replace hs_k0 := Below.kp (p := p) hs_k0 | skip
   have hb := hb.trans hs_k0
   refine Wl.nil ?_
   refine Wq.back hK_7 ⟨hb, hB1, hB4, hB3, _, hB_o0⟩ ?_
   refine Wa.some (rs := [4]) (by kernel_rfl) rfl ?_
   refine Ws.cons #[true, true, true, true, true, false, false] rfl rfl (fun _ hK_9 => ?_) ?_
   ·
    refine Wl.litN (sz := 1) (vs := [_]) Tryz.underlying45 (by kernel_rfl) rfl rfl rfl rfl rfl rfl ?_
    rintro g_b0 w_b0 hg_b0 hn_b0 hs_b0
    have hz_b0 := hs_b0.size
    have hP := hP.below hs_b0
    have hB1 := hB1.below hs_b0
    have hB4 := hB4.below hs_b0
    have hB3 := hB3.below hs_b0
    have hB_o0 := hB_o0.below hs_b0
    have hBk := hBk.below hs_b0
    replace hs_b0 := Below.kp (p := p) hs_b0
    have hb := hb.trans hs_b0
    have hB_b0 := hn_b0
    have hl_b0 := hB_b0.lt
    refine Wl.nil ?_
    refine Wq.back hK_9 ⟨hb, hB1, hB4, hB3, _, hB_o0⟩ ?_
    refine Wa.some (rs := [5]) (by kernel_rfl) rfl ?_
    refine Ws.cons #[true, true, true, true, true, true, false] rfl rfl (fun _ hK_11 => ?_) ?_
    ·
     refine Wl.callP txt204PsE rfl rfl (many_r p en ts g b (n + 1) 200 #[] #[gptr0 g1] (pTurned en [33] (pLabel en b knot) 6 []) 198 #[] #[gptr0 gk] (fun _ => twoE 7 []) _ 1 [[38]] (by simp) hm _ hP (lnot_d b hg1 hB1 fun b' => (hD b').kp hb) (lmade 7 (by omega) hBk _) (hB_b0.rd 1 1 rfl) (fun q e => by cases e; show g_b0 ≠ p; omega)) rfl (fun v_ w_k1 hv_ => ?_) (fun c_ w_k1 hx_ => ?_)
     rotate_left
     ·
      obtain ⟨a_k1, e_k1, hF_k1, rfl, hPp_k1, hs_k1⟩ := hx_
      have hz_k1 := hs_k1.size
      have hb := hb.trans hs_k1
      refine Wq.then_panic <| Wq.then_panic ?_
      refine panics ?_
      exact outX ⟨_, _, hF_k1, rfl, hPp_k1, hb⟩
     obtain ⟨⟨x, r, hF, ⟨z, Sz, rfl, hz, hz_S⟩, hP, hrl⟩, hs_k1⟩ := hv_
     have hz_k1 := hs_k1.size
     have hB1 := hB1.kp hs_k1 (by omega)
     have hB4 := hB4.kp hs_k1 (by omega)
     have hB3 := hB3.kp hs_k1 (by omega)
     have hB_o0 := hB_o0.kp hs_k1 (by omega)
     have hb := hb.trans hs_k1
     refine Wl.nil ?_
     refine Wq.back hK_11 ⟨hb, hB1, hB4, hB3, _, hB_o0⟩ ?_
     refine Wa.some (rs := [6]) (by kernel_rfl) rfl ?_
     refine Ws.cons #[true, true, true, true, true, true, true] rfl rfl (fun _ hK_13 => ?_) ?_
     ·
      refine Wl.storeS (by kernel_rfl) rfl rfl hB_o0 rfl rfl ?_
      rintro w_s0 hn_s0 hg_s0
      have hz_s0 := hg_s0.size
      have hb := kp_blk hb hg_s0 (by omega)
      try have hP := PSt.over hP hg_s0 (by omega)
      try have hB1 := hB1.over hg_s0 (by omega)
      try have hB4 := hB4.over hg_s0 (by omega)
      try have hB3 := hB3.over hg_s0 (by omega)
      try have hz := EAt.kp hz hg_s0 (fun h_ => by have h2_ := hz_S _ h_; omega)
      have hB_o0 := hn_s0
      refine Wl.nil ?_
      refine Wq.back hK_13 ⟨hb, hB1, hB4, hB3, _, hB_o0⟩ ?_
      refine Wa.done (by kernel_rfl) ?_
      refine Wq.next hK_3 <| Wc.ret ?_
      refine retN (rs := [.cell 3 28]) (vs := [_]) rfl (.cell rfl (loadS Tryz.underlying28 (by kernel_rfl) (fun j u hu => hB_o0.at hu)) .nil) ?_
      exact outR ⟨⟨x, r, hF, ⟨z, Sz, rfl, hz, fun k hk => by have := hz_S k hk; omega⟩, hP, hrl⟩, hb⟩
     exact Ws.nil
    exact Ws.nil
   exact Ws.nil
  refine Ws.cons #[true, true, true, false, true, false, false] rfl rfl (fun _ hK_14 => ?_) ?_
  ·
   refine Wl.litN (sz := 1) (vs := [_]) Tryz.underlying45 (by kernel_rfl) rfl rfl rfl rfl rfl rfl ?_
   rintro g_b0 w_b0 hg_b0 hn_b0 hs_b0
   have hz_b0 := hs_b0.size
   have hP := hP.below hs_b0
   have hB1 := hB1.below hs_b0
   have hB4 := hB4.below hs_b0
   have hB3 := hB3.below hs_b0
   have hB_o0 := hB_o0.below hs_b0
   replace hs_b0 := Below.kp (p := p) hs_b0
   have hb := hb.trans hs_b0
   have hB_b0 := hn_b0
   have hl_b0 := hB_b0.lt
   refine Wl.nil ?_
   refine Wq.back hK_14 ⟨hb, hB1, hB4, hB3, _, hB_o0⟩ ?_
   refine Wa.some (rs := [3]) (by kernel_rfl) rfl ?_
   refine Ws.cons #[true, true, true, true, true, false, false] rfl rfl (fun _ hK_16 => ?_) ?_
   ·
    refine Wl.callP txtL1 rfl rfl (Ret.out (X := fun _ _ => False) (lkind_r 7 _)) rfl (fun v_ w_k0 hv_ => ?_) (fun c_ w_k0 hx_ => ?_)
    rotate_left
    ·
     exact hx_.elim
    obtain ⟨⟨gk, rfl, hBk, hgk⟩, hs_k0⟩ := hv_
    have hz_k0 := hs_k0.size
    first | have hP := PSt.below hP hs_k0 | have hP := PSt.kp hP hs_k0 | skip
    first | have hB1 := Blk.below hB1 hs_k0 | have hB1 := Blk.kp hB1 hs_k0 (by omega) | skip
    first | have hB4 := Blk.below hB4 hs_k0 | have hB4 := Blk.kp hB4 hs_k0 (by omega) | skip
    first | have hB3 := Blk.below hB3 hs_k0 | have hB3 := Blk.kp hB3 hs_k0 (by omega) | skip
    first | have hB_o0 := Blk.below hB_o0 hs_k0 | have hB_o0 := Blk.kp hB_o0 hs_k0 (by omega) | skip
    first | have hB_b0 := Blk.below hB_b0 hs_k0 | have hB_b0 := Blk.kp hB_b0 hs_k0 (by omega) | skip
    first | replace hs_k0 := Below.kp (p := p) hs_k0 | skip
    have hb := hb.trans hs_k0
    refine Wl.nil ?_
    refine Wq.back hK_16 ⟨hb, hB1, hB4, hB3, _, hB_o0⟩ ?_
    refine Wa.some (rs := [5]) (by kernel_rfl) rfl ?_
    refine Ws.cons #[true, true, true, true, true, true, false] rfl rfl (fun _ hK_18 => ?_) ?_
    ·
     refine Wl.callP txt204PsE rfl rfl (many_r p en ts g b (n + 1) 200 #[] #[gptr0 g1] (pTurned en [33] (pLabel en b knot) 6 []) 198 #[] #[gptr0 gk] (fun _ => twoE 7 []) _ 1 [[38]] (by simp) hm _ hP (lnot_d b hg1 hB1 fun b' => (hD b').kp hb) (lmade 7 (by omega) hBk _) (hB_b0.rd 1 1 rfl) (fun q e => by cases e; show g_b0 ≠ p; omega)) rfl (fun v_ w_k1 hv_ => ?_) (fun c_ w_k1 hx_ => ?_)
     rotate_left
     ·
      obtain ⟨a_k1, e_k1, hF_k1, rfl, hPp_k1, hs_k1⟩ := hx_
      have hz_k1 := hs_k1.size
      have hb := hb.trans hs_k1
      refine Wq.then_panic <| Wq.then_panic ?_
      refine panics ?_
      exact outX ⟨_, _, hF_k1, rfl, hPp_k1, hb⟩
     obtain ⟨⟨x, r, hF, ⟨z, Sz, rfl, hz, hz_S⟩, hP, hrl⟩, hs_k1⟩ := hv_
     have hz_k1 := hs_k1.size
     have hB1 := hB1.kp hs_k1 (by omega)
     have hB4 := hB4.kp hs_k1 (by omega)
     have hB3 := hB3.kp hs_k1 (by omega)
     have hB_o0 := hB_o0.kp hs_k1 (by omega)
     have hb := hb.trans hs_k1
     refine Wl.nil ?_
     refine Wq.back hK_18 ⟨hb, hB1, hB4, hB3, _, hB_o0⟩ ?_
     refine Wa.some (rs := [6]) (by kernel_rfl) rfl ?_
     refine Ws.cons #[true, true, true, true, true, true, true] rfl rfl (fun _ hK_20 => ?_) ?_
     ·
      refine Wl.storeS (by kernel_rfl) rfl rfl hB_o0 rfl rfl ?_
      rintro w_s0 hn_s0 hg_s0
      have hz_s0 := hg_s0.size
      have hb := kp_blk hb hg_s0 (by omega)
      try have hP := PSt.over hP hg_s0 (by omega)
      try have hB1 := hB1.over hg_s0 (by omega)
      try have hB4 := hB4.over hg_s0 (by omega)
      try have hB3 := hB3.over hg_s0 (by omega)
      try have hz := EAt.kp hz hg_s0 (fun h_ => by have h2_ := hz_S _ h_; omega)
      have hB_o0 := hn_s0
      refine Wl.nil ?_
      refine Wq.back hK_20 ⟨hb, hB1, hB4, hB3, _, hB_o0⟩ ?_
      refine Wa.done (by kernel_rfl) ?_
      refine Wq.next hK_3 <| Wc.ret ?_
      refine retN (rs := [.cell 3 28]) (vs := [_]) rfl (.cell rfl (loadS Tryz.underlying28 (by kernel_rfl) (fun j u hu => hB_o0.at hu)) .nil) ?_
      exact outR ⟨⟨x, r, hF, ⟨z, Sz, rfl, hz, fun k hk => by have := hz_S k hk; omega⟩, hP, hrl⟩, hb⟩
     exact Ws.nil
    exact Ws.nil
   exact Ws.nil
  exact Ws.nil
theorem lboth_d {p en g n g1 g4 g3 : Nat} {knot : Nat → Pe} {w : World} (b : Nat) (hg1 : g1 ≠ p) (hg4 : g4 ≠ p) (hg3 : g3 ≠ p) (hB1 : Blk w g1 56 [pptr p]) (hB4 : Blk w g4 200 [.func (.func 200) #[] #[gptr0 g1]]) (hB3 : Blk w g3 212 [.func (.func 197) #[] #[]]) (hD : ∀ b', Does w p en g b' n 181 #[pptr p] #[] (knot b') EVal) : Does w p en g b (n + 1) 203 #[] #[gptr0 g1, gptr0 g4, gptr0 g3] (pBoth en b knot) EVal :=
  ⟨txtL3, fun w' ts hk hP hm => lboth_r p en ts g b n g1 g4 g3 knot hm w' hP hg1 hg4 hg3 (hB1.kp hk hg1) (hB4.kp hk hg4) (hB3.kp hk hg3) fun b' => (hD b').kp hk⟩
theorem labels1_r (p en : Nat) (ts : List Tok) (g b n : Nat) (knot : Nat → Pe) (hm : ts.length < n + 1) (w : World) (hP : PSt w p en ts g b) (hD : ∀ b', Does w p en g b' n 181 #[pptr p] #[] (knot b') EVal) : Out Tryz.prog 181 [pptr p] w (PRes w p en g b ts (pLabelsF en b knot ts) (EVal w.heap.size)) (PErr w p en g b (pLabelsF en b knot ts)) := by
  have hpl := hP.lt
  have hb := Kp.refl p w
  refine enter Tryz.func181 rfl rfl rfl ?_
  refine Wc.seq fun _ hK_1 => Wc.region ?_
  refine Wl.boxN rfl rfl ?_
  rintro g_o0 w_o0 hg_o0 hn_o0 hs_o0
  have hz_o0 := hs_o0.size
  have hP := hP.below hs_o0
  replace hs_o0 := Below.kp (p := p) hs_o0
  have hb := hb.trans hs_o0
  have hB_o0 := hn_o0
  have hl_o0 := hB_o0.lt
  refine Wl.allocN (z := (.agg #[(.int .i64 0), (str []), (.int .i64 0), (.int .i64 0), (.float .f64 0), (str []), (.slice none 0 0)])) (by kernel_rfl) rfl ?_
  rintro g_o1 w_o1 hg_o1 hn_o1 hs_o1
  have hz_o1 := hs_o1.size
  have hP := hP.below hs_o1
  have hB_o0 := hB_o0.below hs_o1
  replace hs_o1 := Below.kp (p := p) hs_o1
  have hb := hb.trans hs_o1
  have hB_o1 := hn_o1
  have hl_o1 := hB_o1.lt
  refine Wl.nil <| Wq.next hK_1 <| Wc.seq fun _ hK_4 => Wc.region ?_
  refine Wl.allocN (z := .nilFunc) (by kernel_rfl) rfl ?_
  rintro g_o2 w_o2 hg_o2 hn_o2 hs_o2
  have hz_o2 := hs_o2.size
  have hP := hP.below hs_o2
  have hB_o0 := hB_o0.below hs_o2
  have hB_o1 := hB_o1.below hs_o2
  replace hs_o2 := Below.kp (p := p) hs_o2
  have hb := hb.trans hs_o2
  have hB_o2 := hn_o2
  have hl_o2 := hB_o2.lt
  refine Wl.store1 one212PsE rfl rfl rfl hB_o2 ?_
  rintro w_s0 hn_s0 hg_s0
  have hz_s0 := hg_s0.size
  have hb := kp_blk hb hg_s0 (by omega)
  try have hP := PSt.over hP hg_s0 (by omega)
  try have hB_o0 := hB_o0.over hg_s0 (by omega)
  try have hB_o1 := hB_o1.over hg_s0 (by omega)
  have hB_o2 := hn_s0
  refine Wl.nil <| Wq.next hK_4 <| Wc.seq fun _ hK_6 => Wc.region <| Wl.y (y_makeFunc rfl rfl) rfl ?_
  refine Wl.allocN (z := .nilFunc) (by kernel_rfl) rfl ?_
  rintro g_o4 w_o4 hg_o4 hn_o4 hs_o4
  have hz_o4 := hs_o4.size
  have hP := hP.below hs_o4
  have hB_o0 := hB_o0.below hs_o4
  have hB_o1 := hB_o1.below hs_o4
  have hB_o2 := hB_o2.below hs_o4
  replace hs_o4 := Below.kp (p := p) hs_o4
  have hb := hb.trans hs_o4
  have hB_o4 := hn_o4
  have hl_o4 := hB_o4.lt
  refine Wl.store1 one200PsE rfl rfl rfl hB_o4 ?_
  rintro w_s1 hn_s1 hg_s1
  have hz_s1 := hg_s1.size
  have hb := kp_blk hb hg_s1 (by omega)
  try have hP := PSt.over hP hg_s1 (by omega)
  try have hB_o0 := hB_o0.over hg_s1 (by omega)
  try have hB_o1 := hB_o1.over hg_s1 (by omega)
  try have hB_o2 := hB_o2.over hg_s1 (by omega)
  have hB_o4 := hn_s1
  refine Wl.nil <| Wq.next hK_6 <| Wc.seq fun _ hK_9 => Wc.region <| Wl.y (y_makeFunc rfl rfl) rfl <| Wl.sg rfl rfl <| Wl.nil <| Wq.next hK_9 <| Wc.seq fun _ hK_12 => ?_
  refine Wc.any (n := 7) (fun w' => Kp p w w' ∧ Blk w' g_o0 56 [pptr p] ∧ Blk w' g_o4 200 [.func (.func 200) #[] #[gptr0 g_o0]] ∧ Blk w' g_o2 212 [.func (.func 197) #[] #[]] ∧ ∃ cs, Blk w' g_o1 28 cs) #[false, false, false, false, false, false, false] (by kernel_rfl) rfl (by kernel_rfl) ?_
  refine Wa.drew ?_
  rintro w_g4 hs_g4
  have hz_g4 := hs_g4.size
  have hP := hP.below hs_g4
  have hB_o0 := hB_o0.below hs_g4
  have hB_o1 := hB_o1.below hs_g4
  have hB_o2 := hB_o2.below hs_g4
  have hB_o4 := hB_o4.below hs_g4
  replace hs_g4 := Below.kp (p := p) hs_g4
  have hb := hb.trans hs_g4
  refine Wa.take (i := 0) #[true, false, false, false, false, false, false] rfl (by kernel_rfl) (fun _ _ _ h => h) rfl (fun wq hq => l_load one56PsE rfl (by obtain ⟨hq, hB_o0, hB_o4, hB_o2, _, hB_o1⟩ := hq; exact hB_o0.at (j := 0) rfl)) ⟨hb, hB_o0, hB_o4, hB_o2, _, hB_o1⟩ ?_
  refine Wa.take (i := 1) #[true, true, false, false, false, false, false] rfl (by kernel_rfl) (fun _ _ _ h => h) rfl (fun wq hq => Yl.ld (y_move rfl)) ⟨hb, hB_o0, hB_o4, hB_o2, _, hB_o1⟩ ?_
  refine Wa.take (i := 2) #[true, true, true, false, false, false, false] rfl (by kernel_rfl) (fun _ _ _ h => h) rfl (fun wq hq => l_load one212PsE rfl (by obtain ⟨hq, hB_o0, hB_o4, hB_o2, _, hB_o1⟩ := hq; exact hB_o2.at (j := 0) rfl)) ⟨hb, hB_o0, hB_o4, hB_o2, _, hB_o1⟩ ?_
  refine Wa.some (rs := [3, 4]) (by kernel_rfl) rfl ?_
  refine Ws.cons #[true, true, true, true, false, false, false] rfl rfl (fun _ hK_16 => ?_) ?_
  ·
   refine Wl.callP txtL1 rfl rfl (Ret.out (X := fun _ _ => False) (lkind_r 8 _)) rfl (fun v_ w_k0 hv_ => ?_) (fun c_ w_k0 hx_ => ?_)
   rotate_left
   ·
    exact hx_.elim
   obtain ⟨⟨gk, rfl, hBk, hgk⟩, hs_k0⟩ := hv_
   have hz_k0 := hs_k0.size
   first | have hP := PSt.below hP hs_k0 | have hP := PSt.kp hP hs_k0 | skip
   first | have hB_o0 := Blk.below hB_o0 hs_k0 | have hB_o0 := Blk.kp hB_o0 hs_k0 (by omega) | skip
   first | have hB_o1 := Blk.below hB_o1 hs_k0 | have hB_o1 := Blk.kp hB_o1 hs_k0 (by omega) | skip
   first | have hB_o2 := Blk.below hB_o2 hs_k0 | have hB_o2 := Blk.kp hB_o2 hs_k0 (by omega) | skip
   first | have hB_o4 := Blk.below hB_o4 hs_k0 | have hB_o4 := Blk.kp hB_o4 hs_k0 (by omega) | skip
   first | replace hs_k0 := Below.kp (p := p) hs_k0 | skip
   have hb := hb.trans hs_k0
   refine Wl.nil ?_
   refine Wq.back hK_16 ⟨hb, hB_o0, hB_o4, hB_o2, _, hB_o1⟩ ?_
   refine Wa.some (rs := [4]) (by kernel_rfl) rfl ?_
   refine Ws.cons #[true, true, true, true, true, false, false] rfl rfl (fun _ hK_18 => ?_) ?_
   ·
    refine Wl.litN (sz := 1) (vs := [_]) Tryz.underlying45 (by kernel_rfl) rfl rfl rfl rfl rfl rfl ?_
    rintro g_b0 w_b0 hg_b0 hn_b0 hs_b0
    have hz_b0 := hs_b0.size
    have hP := hP.below hs_b0
    have hB_o0 := hB_o0.below hs_b0
    have hB_o1 := hB_o1.below hs_b0
    have hB_o2 := hB_o2.below hs_b0
    have hB_o4 := hB_o4.below hs_b0
    have hBk := hBk.below hs_b0
    replace hs_b0 := Below.kp (p := p) hs_b0
    have hb := hb.trans hs_b0
    have hB_b0 := hn_b0
    have hl_b0 := hB_b0.lt
    refine Wl.nil ?_
    refine Wq.back hK_18 ⟨hb, hB_o0, hB_o4, hB_o2, _, hB_o1⟩ ?_
    refine Wa.some (rs := [5]) (by kernel_rfl) rfl ?_
    refine Ws.cons #[true, true, true, true, true, true, false] rfl rfl (fun _ hK_20 => ?_) ?_
    ·
     refine Wl.callP txt204PsE rfl rfl (many_r p en ts g b (n + 1) 203 #[] #[gptr0 g_o0, gptr0 g_o4, gptr0 g_o2] (pBoth en b knot) 198 #[] #[gptr0 gk] (fun _ => twoE 8 []) _ 1 [[124]] (by simp) hm _ hP (lboth_d b (by omega) (by omega) (by omega) hB_o0 hB_o4 hB_o2 fun b' => (hD b').kp hb) (lmade 8 (by omega) hBk _) (hB_b0.rd 1 1 rfl) (fun q e => by cases e; show g_b0 ≠ p; omega)) rfl (fun v_ w_k1 hv_ => ?_) (fun c_ w_k1 hx_ => ?_)
     rotate_left
     ·
      obtain ⟨a_k1, e_k1, hF_k1, rfl, hPp_k1, hs_k1⟩ := hx_
      have hz_k1 := hs_k1.size
      have hb := hb.trans hs_k1
      refine Wq.then_panic <| Wq.then_panic ?_
      refine panics ?_
      exact outX ⟨_, _, hF_k1, rfl, hPp_k1, hb⟩
     obtain ⟨⟨x, r, hF, ⟨z, Sz, rfl, hz, hz_S⟩, hP, hrl⟩, hs_k1⟩ := hv_
     have hz_k1 := hs_k1.size
     have hB_o0 := hB_o0.kp hs_k1 (by omega)
     have hB_o1 := hB_o1.kp hs_k1 (by omega)
     have hB_o2 := hB_o2.kp hs_k1 (by omega)
     have hB_o4 := hB_o4.kp hs_k1 (by omega)
     have hb := hb.trans hs_k1
     refine Wl.nil ?_
     refine Wq.back hK_20 ⟨hb, hB_o0, hB_o4, hB_o2, _, hB_o1⟩ ?_
     refine Wa.some (rs := [6]) (by kernel_rfl) rfl ?_
     refine Ws.cons #[true, true, true, true, true, true, true] rfl rfl (fun _ hK_22 => ?_) ?_
     ·
      refine Wl.storeS (by kernel_rfl) rfl rfl hB_o1 rfl rfl ?_
      rintro w_s2 hn_s2 hg_s2
      have hz_s2 := hg_s2.size
      have hb := kp_blk hb hg_s2 (by omega)
      try have hP := PSt.over hP hg_s2 (by omega)
      try have hB_o0 := hB_o0.over hg_s2 (by omega)
      try have hB_o2 := hB_o2.over hg_s2 (by omega)
      try have hB_o4 := hB_o4.over hg_s2 (by omega)
      try have hz := EAt.kp hz hg_s2 (fun h_ => by have h2_ := hz_S _ h_; omega)
      have hB_o1 := hn_s2
      refine Wl.nil ?_
      refine Wq.back hK_22 ⟨hb, hB_o0, hB_o4, hB_o2, _, hB_o1⟩ ?_
      refine Wa.done (by kernel_rfl) ?_
      refine Wq.next hK_12 <| Wc.ret ?_
      refine retN (rs := [.cell 2 28]) (vs := [_]) rfl (.cell rfl (loadS Tryz.underlying28 (by kernel_rfl) (fun j u hu => hB_o1.at hu)) .nil) ?_
      exact outR ⟨⟨x, r, hF, ⟨z, Sz, rfl, hz, fun k hk => by have := hz_S k hk; omega⟩, hP, hrl⟩, hb⟩
     exact Ws.nil
    exact Ws.nil
   exact Ws.nil
  refine Ws.cons #[true, true, true, false, true, false, false] rfl rfl (fun _ hK_23 => ?_) ?_
  ·
   refine Wl.litN (sz := 1) (vs := [_]) Tryz.underlying45 (by kernel_rfl) rfl rfl rfl rfl rfl rfl ?_
   rintro g_b0 w_b0 hg_b0 hn_b0 hs_b0
   have hz_b0 := hs_b0.size
   have hP := hP.below hs_b0
   have hB_o0 := hB_o0.below hs_b0
   have hB_o1 := hB_o1.below hs_b0
   have hB_o2 := hB_o2.below hs_b0
   have hB_o4 := hB_o4.below hs_b0
   replace hs_b0 := Below.kp (p := p) hs_b0
   have hb := hb.trans hs_b0
   have hB_b0 := hn_b0
   have hl_b0 := hB_b0.lt
   refine Wl.nil ?_
   refine Wq.back hK_23 ⟨hb, hB_o0, hB_o4, hB_o2, _, hB_o1⟩ ?_
   refine Wa.some (rs := [3]) (by kernel_rfl) rfl ?_
   refine Ws.cons #[true, true, true, true, true, false, false] rfl rfl (fun _ hK_25 => ?_) ?_
   ·
    refine Wl.callP txtL1 rfl rfl (Ret.out (X := fun _ _ => False) (lkind_r 8 _)) rfl (fun v_ w_k0 hv_ => ?_) (fun c_ w_k0 hx_ => ?_)
    rotate_left
    ·
     exact hx_.elim
    obtain ⟨⟨gk, rfl, hBk, hgk⟩, hs_k0⟩ := hv_
    have hz_k0 := hs_k0.size
    first | have hP := PSt.below hP hs_k0 | have hP := PSt.kp hP hs_k0 | skip
    first | have hB_o0 := Blk.below hB_o0 hs_k0 | have hB_o0 := Blk.kp hB_o0 hs_k0 (by omega) | skip
    first | have hB_o1 := Blk.below hB_o1 hs_k0 | have hB_o1 := Blk.kp hB_o1 hs_k0 (by omega) | skip
    first | have hB_o2 := Blk.below hB_o2 hs_k0 | have hB_o2 := Blk.kp hB_o2 hs_k0 (by omega) | skip
    first | have hB_o4 := Blk.below hB_o4 hs_k0 | have hB_o4 := Blk.kp hB_o4 hs_k0 (by omega) | skip
    first | have hB_b0 := Blk.below hB_b0 hs_k0 | have hB_b0 := Blk.kp hB_b0 hs_k0 (by omega) | skip
    first | replace hs_k0 := Below.kp (p := p) hs_k0 | skip
    have hb := hb.trans hs_k0
    refine Wl.nil ?_
    refine Wq.back hK_25 ⟨hb, hB_o0, hB_o4, hB_o2, _, hB_o1⟩ ?_
    refine Wa.some (rs := [5]) (by kernel_rfl) rfl ?_
    refine Ws.cons #[true, true, true, true, true, true, false] rfl rfl (fun _ hK_27 => ?_) ?_
    ·
     refine Wl.callP txt204PsE rfl rfl (many_r p en ts g b (n + 1) 203 #[] #[gptr0 g_o0, gptr0 g_o4, gptr0 g_o2] (pBoth en b knot) 198 #[] #[gptr0 gk] (fun _ => twoE 8 []) _ 1 [[124]] (by simp) hm _ hP (lboth_d b (by omega) (by omega) (by omega) hB_o0 hB_o4 hB_o2 fun b' => (hD b').kp hb) (lmade 8 (by omega) hBk _) (hB_b0.rd 1 1 rfl) (fun q e => by cases e; show g_b0 ≠ p; omega)) rfl (fun v_ w_k1 hv_ => ?_) (fun c_ w_k1 hx_ => ?_)
     rotate_left
     ·
      obtain ⟨a_k1, e_k1, hF_k1, rfl, hPp_k1, hs_k1⟩ := hx_
      have hz_k1 := hs_k1.size
      have hb := hb.trans hs_k1
      refine Wq.then_panic <| Wq.then_panic ?_
      refine panics ?_
      exact outX ⟨_, _, hF_k1, rfl, hPp_k1, hb⟩
     obtain ⟨⟨x, r, hF, ⟨z, Sz, rfl, hz, hz_S⟩, hP, hrl⟩, hs_k1⟩ := hv_
     have hz_k1 := hs_k1.size
     have hB_o0 := hB_o0.kp hs_k1 (by omega)
     have hB_o1 := hB_o1.kp hs_k1 (by omega)
     have hB_o2 := hB_o2.kp hs_k1 (by omega)
     have hB_o4 := hB_o4.kp hs_k1 (by omega)
     have hb := hb.trans hs_k1
     refine Wl.nil ?_
     refine Wq.back hK_27 ⟨hb, hB_o0, hB_o4, hB_o2, _, hB_o1⟩ ?_
     refine Wa.some (rs := [6]) (by kernel_rfl) rfl ?_
     refine Ws.cons #[true, true, true, true, true, true, true] rfl rfl (fun _ hK_29 => ?_) ?_
     ·
      refine Wl.storeS (by kernel_rfl) rfl rfl hB_o1 rfl rfl ?_
      rintro w_s2 hn_s2 hg_s2
      have hz_s2 := hg_s2.size
      have hb := kp_blk hb hg_s2 (by omega)
      try have hP := PSt.over hP hg_s2 (by omega)
      try have hB_o0 := hB_o0.over hg_s2 (by omega)
      try have hB_o2 := hB_o2.over hg_s2 (by omega)
      try have hB_o4 := hB_o4.over hg_s2 (by omega)
      try have hz := EAt.kp hz hg_s2 (fun h_ => by have h2_ := hz_S _ h_; omega)
      have hB_o1 := hn_s2
      refine Wl.nil ?_
      refine Wq.back hK_29 ⟨hb, hB_o0, hB_o4, hB_o2, _, hB_o1⟩ ?_
      refine Wa.done (by kernel_rfl) ?_
      refine Wq.next hK_12 <| Wc.ret ?_
      refine retN (rs := [.cell 2 28]) (vs := [_]) rfl (.cell rfl (loadS Tryz.underlying28 (by kernel_rfl) (fun j u hu => hB_o1.at hu)) .nil) ?_
      exact outR ⟨⟨x, r, hF, ⟨z, Sz, rfl, hz, fun k hk => by have := hz_S k hk; omega⟩, hP, hrl⟩, hb⟩
     exact Ws.nil
    exact Ws.nil
   exact Ws.nil
  exact Ws.nil
theorem labels_d (p en g : Nat) : ∀ (n b : Nat) (w : World), Does w p en g b n 181 #[pptr p] #[] (pLabels en n b) EVal
  | 0, b, w => ⟨txtLs, fun w' ts hk hP hm => absurd hm (Nat.not_lt_zero _)⟩
  | n + 1, b, w => ⟨txtLs, fun w' ts hk hP hm => labels1_r p en ts g b n (pLabels en n) hm w' hP fun b' => labels_d p en g n b' w'⟩
end Go.Proofs.YtjnabgddjogkbaaGreatDoor
namespace Go.Proofs.YtjnabgddjogkbaaGreatDoor
open Go.RowKit Go.Bw Go.Bw.Fl
set_option linter.unusedVariables false
set_option linter.unusedSimpArgs false
theorem fa43_0PsF (p : Addr) (w : World) : (Instr.fieldAt 43 (.pointer (some p)) 0).run Tryz.prog w = .ok (.pointer (some (p.add 0))) w := run_fieldAt (i := 0) (sz := 0) Tryz.underlying43 rfl (by kernel_rfl) p w
theorem fa43_2PsF (p : Addr) (w : World) : (Instr.fieldAt 43 (.pointer (some p)) 2).run Tryz.prog w = .ok (.pointer (some (p.add 2))) w := run_fieldAt (i := 2) (sz := 0) Tryz.underlying43 rfl (by kernel_rfl) p w
theorem fa60_0PsF (p : Addr) (w : World) : (Instr.fieldAt 60 (.pointer (some p)) 0).run Tryz.prog w = .ok (.pointer (some (p.add 0))) w := run_fieldAt (i := 0) (sz := 1) Tryz.underlying60 rfl (by kernel_rfl) p w
theorem one3PsF : One Tryz.prog 3 := ⟨_, Tryz.underlying3, rfl, by kernel_rfl⟩
theorem one9PsF : One Tryz.prog 9 := ⟨_, Tryz.underlying9, rfl, by kernel_rfl⟩
theorem txt212PsF : Txt Tryz.prog 212 := ⟨_, Tryz.func212, by kernel_rfl, rfl⟩   -- (*bridleway/parse.parser).bracket
theorem txt219PsF : Txt Tryz.prog 219 := ⟨_, Tryz.func219, by kernel_rfl, rfl⟩   -- bridleway/parse.literal
theorem txt36PsF : Txt Tryz.prog 36 := ⟨_, Tryz.func36, by kernel_rfl, rfl⟩   -- (*bridleway/parse.row).is
theorem txt38PsF : Txt Tryz.prog 38 := ⟨_, Tryz.func38, by kernel_rfl, rfl⟩   -- (*bridleway/parse.parser).take
theorem txt39PsF : Txt Tryz.prog 39 := ⟨_, Tryz.func39, by kernel_rfl, rfl⟩   -- (*bridleway/parse.row).next
theorem txt42PsF : Txt Tryz.prog 42 := ⟨_, Tryz.func42, by kernel_rfl, rfl⟩   -- (*bridleway/parse.parser).fail
theorem txtEx : Txt Tryz.prog 182 := ⟨_, Tryz.func182, by kernel_rfl, rfl⟩
theorem nextT_k {en k : Nat} {ts : List Tok} (h : (nextT en ts).k = k) (hk : k ≠ 0) : ts ≠ [] := fun e => by subst e; exact hk h.symm
theorem PSt.next_len {w : World} {p en : Nat} {ts : List Tok} {g b : Nat} (h : PSt w p en ts g b) : (nextT en ts).t.length ≤ 65536 := by
  cases ts with
  | nil => exact Nat.zero_le _
  | cons t r => exact h.tk _ (List.mem_cons_self ..)
theorem atom_r (p en : Nat) (ts : List Tok) (g b n : Nat) (knot : Nat → Pe) (hm : ts.length ≤ n) (w : World) (hP : PSt w p en ts g b) (hD : ∀ b', Does w p en g b' n 182 #[pptr p] #[] (knot b') EVal) : Out Tryz.prog 214 [pptr p] w (PRes w p en g b ts (pAtom en b knot ts) (EVal w.heap.size)) (PErr w p en g b (pAtom en b knot ts)) := by
  have hpl := hP.lt
  have htl := hP.next_len
  have hb := Kp.refl p w
  refine enter Tryz.func214 rfl rfl rfl ?_
  refine Wc.seq fun _ hK_1 => Wc.region ?_
  refine Wl.allocN (z := (.agg #[(.int .i64 0), (str []), (.int .i64 0), (.int .i64 0), (.float .f64 0), (str []), (.slice none 0 0)])) (by kernel_rfl) rfl ?_
  rintro g_o0 w_o0 hg_o0 hn_o0 hs_o0
  have hz_o0 := hs_o0.size
  have hP := hP.below hs_o0
  replace hs_o0 := Below.kp (p := p) hs_o0
  have hb := hb.trans hs_o0
  have hB_o0 := hn_o0
  have hl_o0 := hB_o0.lt
  refine Wl.nil <| Wq.next hK_1 <| Wc.seq fun _ hK_3 => Wc.region <| Wl.mv rfl rfl <| Wl.y (y_nilCheck rfl) rfl ?_
  refine Wl.y (y_fieldAddr (fa60_0PsF _) rfl) rfl ?_
  refine Wl.call txt39PsF rfl rfl (next_x p en ts g b _ hP) rfl ?_
  rintro _ w_k0 ⟨rfl, hs_k0⟩
  have hz_k0 := hs_k0.size
  first | have hP := PSt.below hP hs_k0 | have hP := PSt.kp hP hs_k0 | skip
  first | have hB_o0 := Blk.below hB_o0 hs_k0 | have hB_o0 := Blk.kp hB_o0 hs_k0 (by omega) | skip
  first | replace hs_k0 := Below.kp (p := p) hs_k0 | skip
  have hb := hb.trans hs_k0
  refine Wl.allocN (z := (.agg #[(.int .i64 0), (str []), (.int .i64 0)])) (by kernel_rfl) rfl ?_
  rintro g_o4 w_o4 hg_o4 hn_o4 hs_o4
  have hz_o4 := hs_o4.size
  have hP := hP.below hs_o4
  have hB_o0 := hB_o0.below hs_o4
  replace hs_o4 := Below.kp (p := p) hs_o4
  have hb := hb.trans hs_o4
  have hB_o4 := hn_o4
  have hl_o4 := hB_o4.lt
  refine Wl.storeS (by kernel_rfl) rfl rfl hB_o4 rfl rfl ?_
  rintro w_s0 hn_s0 hg_s0
  have hz_s0 := hg_s0.size
  have hb := kp_blk hb hg_s0 (by omega)
  try have hP := PSt.over hP hg_s0 (by omega)
  try have hB_o0 := hB_o0.over hg_s0 (by omega)
  have hB_o4 := hn_s0
  refine Wl.nil <| Wq.next hK_3 <| Wc.seq fun _ hK_9 => Wc.region <| Wl.sg rfl rfl <| Wl.nil <| Wq.next hK_9 <| Wc.seq fun _ hK_11 => Wc.block <| Wc.seq fun _ hK_12 => ?_
  refine Wc.region ?_
  refine Wl.y (y_fieldAddr (fa43_0PsF _) rfl) rfl ?_
  refine Wl.l (l_load one3PsF rfl (by exact hB_o4.at (j := 0) rfl)) rfl ?_
  refine Wl.y (y_eqli rfl rfl) rfl <| Wl.sg rfl rfl <| Wl.nil <| Wq.next hK_12 ?_
  refine Wc.cond rfl (fun c0_17 => ?_) (fun c0_17 => ?_)
  ·
   have c0_17_ := c0_17
   try simp only [DZ] at c0_17
   have hk : (nextT en ts).k = 1 := by have := c0_17; omega
   have hne : ts ≠ [] := nextT_k hk (by decide)
   refine Wc.seq fun _ hK_18 => Wc.region <| Wl.mv rfl rfl ?_
   refine Wl.call txt38PsF rfl rfl (take_x p en ts g b hne _ hP) rfl ?_
   rintro _ w_k1 ⟨⟨rfl, hP⟩, hs_k1⟩
   have hz_k1 := hs_k1.size
   first | have hP := PSt.below hP hs_k1 | have hP := PSt.kp hP hs_k1 | skip
   first | have hB_o0 := Blk.below hB_o0 hs_k1 | have hB_o0 := Blk.kp hB_o0 hs_k1 (by omega) | skip
   first | replace hs_k1 := Below.kp (p := p) hs_k1 | skip
   have hb := hb.trans hs_k1
   refine Wl.y (y_fieldO Tryz.underlying43 rfl one9PsF rfl rfl) rfl ?_
   refine Wl.y (y_buildS (z := [(.int .i64 0), (str []), (.int .i64 0), (.int .i64 0), (.float .f64 0), (str []), (.slice none 0 0)]) (pl := [(0, 1), (1, 1), (2, 4), (6, 1)]) (cs := [_, _, _, _, _, _, _]) Tryz.underlying28 (by kernel_rfl) (by kernel_rfl) rfl rfl rfl) rfl ?_
   refine Wl.storeS (by kernel_rfl) rfl rfl hB_o0 rfl rfl ?_
   rintro w_s1 hn_s1 hg_s1
   have hz_s1 := hg_s1.size
   have hb := kp_blk hb hg_s1 (by omega)
   try have hP := PSt.over hP hg_s1 (by omega)
   have hB_o0 := hn_s1
   refine Wl.nil <| Wq.next hK_18 <| Wc.ret ?_
   refine Wq.block_ret (Wq.then_ret ?_)
   refine retN (rs := [.cell 2 28]) (vs := [_]) rfl (.cell rfl (loadS Tryz.underlying28 (by kernel_rfl) (fun j u hu => hB_o0.at hu)) .nil) ?_
   exact outR ⟨⟨_, ts.tail, by simp [pAtom, hk], ⟨⟨2, (nextT en ts).t, nullV, none, 0, 0⟩, fun _ => False, rfl, EAt.leafC _ _ 2 _ nullV, fun _ h => h.elim⟩, hP, by rw [List.length_tail]; omega⟩, hb⟩
  have c0_17_ := c0_17
  try simp only [DZ] at c0_17
  have hk : (nextT en ts).k ≠ 1 := by have := c0_17; omega
  refine Wc.seq fun _ hK_23 => Wc.region <| Wl.mv rfl rfl <| Wl.y (y_nilCheck rfl) rfl ?_
  refine Wl.y (y_fieldAddr (fa60_0PsF _) rfl) rfl ?_
  refine Wl.litN (sz := 1) (vs := [_]) Tryz.underlying45 (by kernel_rfl) rfl rfl rfl rfl rfl rfl ?_
  rintro g_b0 w_b0 hg_b0 hn_b0 hs_b0
  have hz_b0 := hs_b0.size
  have hP := hP.below hs_b0
  have hB_o0 := hB_o0.below hs_b0
  have hB_o4 := hB_o4.below hs_b0
  replace hs_b0 := Below.kp (p := p) hs_b0
  have hb := hb.trans hs_b0
  have hB_b0 := hn_b0
  have hl_b0 := hB_b0.lt
  refine Wl.call txt36PsF rfl rfl (is_r p en ts g b _ 1 [[40]] (by simp) _ hP (hB_b0.rd 1 1 rfl)) rfl ?_
  rintro _ w_k2 ⟨rfl, hs_k2⟩
  have hz_k2 := hs_k2.size
  first | have hP := PSt.below hP hs_k2 | have hP := PSt.kp hP hs_k2 | skip
  first | have hB_o0 := Blk.below hB_o0 hs_k2 | have hB_o0 := Blk.kp hB_o0 hs_k2 (by omega) | skip
  first | have hB_o4 := Blk.below hB_o4 hs_k2 | have hB_o4 := Blk.kp hB_o4 hs_k2 (by omega) | skip
  first | replace hs_k2 := Below.kp (p := p) hs_k2 | skip
  have hb := hb.trans hs_k2
  refine Wl.sg rfl rfl <| Wl.nil <| Wq.next hK_23 ?_
  refine Wc.cond rfl (fun c1_30 => ?_) (fun c1_30 => ?_)
  ·
   have c1_30_ := c1_30
   try simp only [DZ] at c1_30
   have h1 : isT en [[40]] ts = true := c1_30_
   refine Wc.seq fun _ hK_31 => Wc.region <| Wl.mv rfl rfl <| Wl.mv rfl rfl <| Wl.y (y_makeFunc rfl rfl) rfl ?_
   refine Wl.callP txt212PsF rfl rfl (bracket_r p en ts g b n 182 #[pptr p] #[] knot hm _ hP ((hD (b + 1)).kp hb)) rfl (fun v_ w_k3 hv_ => ?_) (fun c_ w_k3 hx_ => ?_)
   rotate_left
   ·
    obtain ⟨a_k3, e_k3, hF_k3, rfl, hPp_k3, hs_k3⟩ := hx_
    have hz_k3 := hs_k3.size
    have hb := hb.trans hs_k3
    refine Wq.then_panic <| Wq.block_panic <| Wq.then_panic ?_
    refine panics ?_
    exact outX ⟨_, _, by simp [pAtom, hk, h1, hF_k3], rfl, hPp_k3, hb⟩
   obtain ⟨⟨x, r, hF, ⟨z, Sz, rfl, hz, hz_S⟩, hP, hrl⟩, hs_k3⟩ := hv_
   have hz_k3 := hs_k3.size
   have hB_o0 := hB_o0.kp hs_k3 (by omega)
   have hb := hb.trans hs_k3
   refine Wl.storeS (by kernel_rfl) rfl rfl hB_o0 rfl rfl ?_
   rintro w_s2 hn_s2 hg_s2
   have hz_s2 := hg_s2.size
   have hb := kp_blk hb hg_s2 (by omega)
   try have hP := PSt.over hP hg_s2 (by omega)
   try have hz := EAt.kp hz hg_s2 (fun h_ => by have h2_ := hz_S _ h_; omega)
   have hB_o0 := hn_s2
   refine Wl.nil <| Wq.next hK_31 <| Wc.ret ?_
   refine Wq.block_ret (Wq.then_ret ?_)
   refine retN (rs := [.cell 2 28]) (vs := [_]) rfl (.cell rfl (loadS Tryz.underlying28 (by kernel_rfl) (fun j u hu => hB_o0.at hu)) .nil) ?_
   exact outR ⟨⟨x, r, by simp [pAtom, hk, h1, hF], ⟨z, Sz, rfl, hz, fun k hk => by have := hz_S k hk; omega⟩, hP, hrl⟩, hb⟩
  have c1_30_ := c1_30
  try simp only [DZ] at c1_30
  have h1 : isT en [[40]] ts = false := c1_30_
  refine Wc.seq fun _ hK_36 => ?_
  refine Wc.meet (X := Bool) (fun q => [(0, pptr p), (2, .pointer (some ⟨g_o0, 0, none⟩)), (3, .pointer (some ⟨g_o4, 0, none⟩)), (4, str []), (27, .bool q)]) (fun q wr => q = decide ((nextT en ts).k = 4 ∨ isT en [wNull, wTrue, wFalse, wNan] ts = true) ∧ Kp p w wr ∧ PSt wr p en ts g b ∧ Blk wr g_o4 43 [.int .i64 ((nextT en ts).k : Int), str (nextT en ts).t, .int .i64 ((nextT en ts).a : Int)] ∧ Blk wr g_o0 28 (EC.cells ⟨0, [], nullV, none, 0, 0⟩)) (fun _ hM_37 => ?_) ?_
  ·
   refine Wc.region ?_
   refine Wl.y (y_fieldAddr (fa43_0PsF _) rfl) rfl ?_
   refine Wl.l (l_load one3PsF rfl (by exact hB_o4.at (j := 0) rfl)) rfl ?_
   refine Wl.y (y_eqli rfl rfl) rfl <| Wl.mv rfl rfl ?_
   refine Wl.guardF rfl rfl rfl (fun g_42 => ?_) (fun g_42 => ?_)
   ·
    have g_42_ := g_42
    try simp only [DZ] at g_42
    refine Wl.off' rfl rfl g_42_ rfl rfl <| Wl.off' rfl rfl g_42_ rfl rfl <| Wl.off' rfl rfl g_42_ rfl rfl <| Wl.off' rfl rfl g_42_ rfl rfl ?_
    refine Wl.y (y_pickT rfl g_42_ rfl) rfl ?_
    refine Wl.sg rfl rfl <| Wl.nil ?_
    refine Wq.meet hM_37 (decide ((nextT en ts).k = 4 ∨ isT en [wNull, wTrue, wFalse, wNan] ts = true)) (by repeat first | exact Sub.nil | refine Sub.cons' rfl (by first | rfl | exact bool_eq (by rw [Bool.eq_iff_iff]; simp_all <;> omega)) ?_) ?_
    exact ⟨rfl, hb, hP, hB_o4, hB_o0⟩
   have g_42_ := g_42
   try simp only [DZ] at g_42
   refine Wl.mv rfl rfl <| Wl.on' rfl rfl g_42_ <| Wl.y (y_nilCheck rfl) rfl <| Wl.on' rfl rfl g_42_ ?_
   refine Wl.y (y_fieldAddr (fa60_0PsF _) rfl) rfl ?_
   refine Wl.on' rfl rfl g_42_ ?_
   refine Wl.litN (sz := 1) (vs := [_, _, _, _]) Tryz.underlying45 (by kernel_rfl) rfl rfl rfl rfl rfl rfl ?_
   rintro g_b1 w_b1 hg_b1 hn_b1 hs_b1
   have hz_b1 := hs_b1.size
   have hP := hP.below hs_b1
   have hB_o0 := hB_o0.below hs_b1
   have hB_o4 := hB_o4.below hs_b1
   replace hs_b1 := Below.kp (p := p) hs_b1
   have hb := hb.trans hs_b1
   have hB_b1 := hn_b1
   have hl_b1 := hB_b1.lt
   refine Wl.on' rfl rfl g_42_ ?_
   refine Wl.call txt36PsF rfl rfl (is_r p en ts g b _ 4 [wNull, wTrue, wFalse, wNan] (by simp) _ hP (hB_b1.rd 4 1 rfl)) rfl ?_
   rintro _ w_k4 ⟨rfl, hs_k4⟩
   have hz_k4 := hs_k4.size
   first | have hP := PSt.below hP hs_k4 | have hP := PSt.kp hP hs_k4 | skip
   first | have hB_o0 := Blk.below hB_o0 hs_k4 | have hB_o0 := Blk.kp hB_o0 hs_k4 (by omega) | skip
   first | have hB_o4 := Blk.below hB_o4 hs_k4 | have hB_o4 := Blk.kp hB_o4 hs_k4 (by omega) | skip
   first | replace hs_k4 := Below.kp (p := p) hs_k4 | skip
   have hb := hb.trans hs_k4
   refine Wl.y (y_pickF rfl g_42_ rfl) rfl ?_
   refine Wl.sg rfl rfl <| Wl.nil ?_
   refine Wq.meet hM_37 (decide ((nextT en ts).k = 4 ∨ isT en [wNull, wTrue, wFalse, wNan] ts = true)) (by repeat first | exact Sub.nil | refine Sub.cons' rfl (by first | rfl | exact bool_eq (by rw [Bool.eq_iff_iff]; simp_all <;> omega)) ?_) ?_
   exact ⟨rfl, hb, hP, hB_o4, hB_o0⟩
  rintro q wr hI_52
  replace hI_52 : q = decide ((nextT en ts).k = 4 ∨ isT en [wNull, wTrue, wFalse, wNan] ts = true) ∧ Kp p w wr ∧ PSt wr p en ts g b ∧ Blk wr g_o4 43 [.int .i64 ((nextT en ts).k : Int), str (nextT en ts).t, .int .i64 ((nextT en ts).a : Int)] ∧ Blk wr g_o0 28 (EC.cells ⟨0, [], nullV, none, 0, 0⟩) := hI_52
  obtain ⟨hq, hb, hP, hB_o4, hB_o0⟩ := hI_52
  show Wq _ _ _ _ [(0, pptr p), (2, .pointer (some ⟨g_o0, 0, none⟩)), (3, .pointer (some ⟨g_o4, 0, none⟩)), (4, str []), (27, .bool q)] _
  try have hzhb_g7 := hb.size
  have hlhB_o4_g7 := hB_o4.lt
  have hlhB_o0_g7 := hB_o0.lt
  refine Wq.next hK_36 ?_
  refine Wc.cond rfl (fun c2_53 => ?_) (fun c2_53 => ?_)
  ·
   have c2_53_ := c2_53
   try simp only [DZ] at c2_53
   have h2 := of_decide_eq_true (hq.symm.trans c2_53_)
   have hne : ts ≠ [] := by
     rcases h2 with h2 | h2
     · exact nextT_k h2 (by decide)
     · exact isT_ne h2
   refine Wc.seq fun _ hK_54 => ?_
   refine Wc.any (n := 7) (fun w' => Kp p w w' ∧ Blk w' g_o4 43 [.int .i64 ((nextT en ts).k : Int), str (nextT en ts).t, .int .i64 ((nextT en ts).a : Int)] ∧ ∃ cs, Blk w' g_o0 28 cs) #[false, false, false, false, false, false, false] (by kernel_rfl) rfl (by kernel_rfl) ?_
   refine Wa.drew ?_
   rintro w_g8 hs_g8
   have hz_g8 := hs_g8.size
   have hP := hP.below hs_g8
   have hB_o4 := hB_o4.below hs_g8
   have hB_o0 := hB_o0.below hs_g8
   replace hs_g8 := Below.kp (p := p) hs_g8
   have hb := hb.trans hs_g8
   refine Wa.take (i := 0) #[true, false, false, false, false, false, false] rfl (by kernel_rfl) (fun _ _ _ h => h) rfl (fun wq hq => Yl.ld (y_move rfl)) ⟨hb, hB_o4, _, hB_o0⟩ ?_
   refine Wa.take (i := 3) #[true, false, false, true, false, false, false] rfl (by kernel_rfl) (fun _ _ _ h => h) rfl (fun wq hq => Yl.ld (y_fieldAddr (fa43_2PsF _) rfl)) ⟨hb, hB_o4, _, hB_o0⟩ ?_
   refine Wa.take (i := 4) #[true, false, false, true, true, false, false] rfl (by kernel_rfl) (fun _ _ _ h => h) rfl (fun wq hq => l_load one3PsF rfl (by obtain ⟨hq, hB_o4, _, hB_o0⟩ := hq; exact hB_o4.at (j := 2) rfl)) ⟨hb, hB_o4, _, hB_o0⟩ ?_
   refine Wa.some (rs := [1]) (by kernel_rfl) rfl ?_
   refine Ws.cons #[true, true, false, true, true, false, false] rfl rfl (fun _ hK_58 => ?_) ?_
   ·
    refine Wl.call txt38PsF rfl rfl (take_x p en ts g b hne _ hP) rfl ?_
    rintro _ w_k5 ⟨⟨rfl, hP⟩, hs_k5⟩
    have hz_k5 := hs_k5.size
    first | have hP := PSt.below hP hs_k5 | have hP := PSt.kp hP hs_k5 | skip
    first | have hB_o4 := Blk.below hB_o4 hs_k5 | have hB_o4 := Blk.kp hB_o4 hs_k5 (by omega) | skip
    first | have hB_o0 := Blk.below hB_o0 hs_k5 | have hB_o0 := Blk.kp hB_o0 hs_k5 (by omega) | skip
    first | replace hs_k5 := Below.kp (p := p) hs_k5 | skip
    have hb := hb.trans hs_k5
    refine Wl.nil ?_
    refine Wq.back hK_58 ⟨hb, hB_o4, _, hB_o0⟩ ?_
    refine Wa.take (i := 2) #[true, true, true, true, true, false, false] rfl (by kernel_rfl) (fun _ _ _ h => h) rfl (fun wq hq => Yl.ld (y_fieldO Tryz.underlying43 rfl one9PsF rfl rfl)) ⟨hb, hB_o4, _, hB_o0⟩ ?_
    refine Wa.some (rs := [5]) (by kernel_rfl) rfl ?_
    refine Ws.cons #[true, true, true, true, true, true, false] rfl rfl (fun _ hK_61 => ?_) ?_
    ·
     refine Wl.callP txt219PsF rfl rfl (literal_r p en (nextT en ts).t (nextT en ts).a ts.tail ts (by rw [List.length_tail]; omega) (by omega) g b _ hP) rfl (fun v_ w_k6 hv_ => ?_) (fun c_ w_k6 hx_ => ?_)
     rotate_left
     ·
      obtain ⟨a_k6, e_k6, hF_k6, rfl, hPp_k6, hs_k6⟩ := hx_
      have hz_k6 := hs_k6.size
      have hb := hb.trans hs_k6
      refine Wq.then_panic <| Wq.then_panic <| Wq.block_panic <| Wq.then_panic ?_
      refine panics ?_
      exact outX ⟨_, _, by simp only [pAtom, if_neg hk, h1, if_pos h2, hF_k6]; rfl, rfl, hPp_k6, hb⟩
     obtain ⟨⟨x, r, hF, ⟨z, Sz, rfl, hz, hz_S⟩, hP, hrl⟩, hs_k6⟩ := hv_
     have hz_k6 := hs_k6.size
     have hB_o4 := hB_o4.kp hs_k6 (by omega)
     have hB_o0 := hB_o0.kp hs_k6 (by omega)
     have hb := hb.trans hs_k6
     refine Wl.nil ?_
     refine Wq.back hK_61 ⟨hb, hB_o4, _, hB_o0⟩ ?_
     refine Wa.some (rs := [6]) (by kernel_rfl) rfl ?_
     refine Ws.cons #[true, true, true, true, true, true, true] rfl rfl (fun _ hK_63 => ?_) ?_
     ·
      refine Wl.storeS (by kernel_rfl) rfl rfl hB_o0 rfl rfl ?_
      rintro w_s3 hn_s3 hg_s3
      have hz_s3 := hg_s3.size
      have hb := kp_blk hb hg_s3 (by omega)
      try have hP := PSt.over hP hg_s3 (by omega)
      try have hB_o4 := hB_o4.over hg_s3 (by omega)
      try have hz := EAt.kp hz hg_s3 (fun h_ => by have h2_ := hz_S _ h_; omega)
      have hB_o0 := hn_s3
      refine Wl.nil ?_
      refine Wq.back hK_63 ⟨hb, hB_o4, _, hB_o0⟩ ?_
      refine Wa.done (by kernel_rfl) ?_
      refine Wq.next hK_54 <| Wc.ret ?_
      refine Wq.block_ret (Wq.then_ret ?_)
      refine retN (rs := [.cell 2 28]) (vs := [_]) rfl (.cell rfl (loadS Tryz.underlying28 (by kernel_rfl) (fun j u hu => hB_o0.at hu)) .nil) ?_
      exact outR ⟨⟨x, r, by simp only [pAtom, if_neg hk, h1, if_pos h2, hF]; rfl, ⟨z, Sz, rfl, hz, fun k hk => by have := hz_S k hk; omega⟩, hP, hrl⟩, hb⟩
     exact Ws.nil
    exact Ws.nil
   exact Ws.nil
  have c2_53_ := c2_53
  try simp only [DZ] at c2_53
  have h2 := of_decide_eq_false (hq.symm.trans c2_53_)
  refine Wc.seq fun _ hK_64 => Wc.region <| Wl.mv rfl rfl <| Wl.y (y_nilCheck rfl) rfl ?_
  refine Wl.y (y_fieldAddr (fa60_0PsF _) rfl) rfl ?_
  refine Wl.litN (sz := 1) (vs := [_]) Tryz.underlying45 (by kernel_rfl) rfl rfl rfl rfl rfl rfl ?_
  rintro g_b2 w_b2 hg_b2 hn_b2 hs_b2
  have hz_b2 := hs_b2.size
  have hP := hP.below hs_b2
  have hB_o4 := hB_o4.below hs_b2
  have hB_o0 := hB_o0.below hs_b2
  replace hs_b2 := Below.kp (p := p) hs_b2
  have hb := hb.trans hs_b2
  have hB_b2 := hn_b2
  have hl_b2 := hB_b2.lt
  refine Wl.call txt36PsF rfl rfl (is_r p en ts g b _ 1 [[45]] (by simp) _ hP (hB_b2.rd 1 1 rfl)) rfl ?_
  rintro _ w_k7 ⟨rfl, hs_k7⟩
  have hz_k7 := hs_k7.size
  first | have hP := PSt.below hP hs_k7 | have hP := PSt.kp hP hs_k7 | skip
  first | have hB_o4 := Blk.below hB_o4 hs_k7 | have hB_o4 := Blk.kp hB_o4 hs_k7 (by omega) | skip
  first | have hB_o0 := Blk.below hB_o0 hs_k7 | have hB_o0 := Blk.kp hB_o0 hs_k7 (by omega) | skip
  first | replace hs_k7 := Below.kp (p := p) hs_k7 | skip
  have hb := hb.trans hs_k7
  refine Wl.sg rfl rfl <| Wl.nil <| Wq.next hK_64 ?_
  refine Wc.meet (X := List UInt8 × List Tok) (fun (sg, r) => [(0, pptr p), (2, .pointer (some ⟨g_o0, 0, none⟩)), (3, .pointer (some ⟨g_o4, 0, none⟩)), (4, str sg)]) (fun (sg, r) wr => pAtom en b knot ts = pNum en sg r ∧ r.length ≤ ts.length ∧ sg.length ≤ 65536 ∧ Kp p w wr ∧ PSt wr p en r g b ∧ Blk wr g_o4 43 [.int .i64 ((nextT en ts).k : Int), str (nextT en ts).t, .int .i64 ((nextT en ts).a : Int)] ∧ Blk wr g_o0 28 (EC.cells ⟨0, [], nullV, none, 0, 0⟩)) (fun _ hM_71 => ?_) ?_
  ·
   refine Wc.cond rfl (fun c3_72 => ?_) (fun c3_72 => ?_)
   ·
    have c3_72_ := c3_72
    try simp only [DZ] at c3_72
    have h3 : isT en [[45]] ts = true := c3_72_
    have hne := isT_ne h3
    obtain ⟨sg, hsg⟩ : ∃ sg, sg = (nextT en ts).t := ⟨_, rfl⟩
    obtain ⟨r, hr_⟩ : ∃ r, r = ts.tail := ⟨_, rfl⟩
    have hrt : r.length ≤ ts.length := by rw [hr_, List.length_tail]; omega
    have hpn : pAtom en b knot ts = pNum en (nextT en ts).t ts.tail := by simp only [pAtom, if_neg hk, h1, if_neg h2, h3]; rfl
    refine Wc.region <| Wl.mv rfl rfl ?_
    refine Wl.call txt38PsF rfl rfl (take_x p en ts g b hne _ hP) rfl ?_
    rintro _ w_k8 ⟨⟨rfl, hP⟩, hs_k8⟩
    have hz_k8 := hs_k8.size
    first | have hP := PSt.below hP hs_k8 | have hP := PSt.kp hP hs_k8 | skip
    first | have hB_o4 := Blk.below hB_o4 hs_k8 | have hB_o4 := Blk.kp hB_o4 hs_k8 (by omega) | skip
    first | have hB_o0 := Blk.below hB_o0 hs_k8 | have hB_o0 := Blk.kp hB_o0 hs_k8 (by omega) | skip
    first | replace hs_k8 := Below.kp (p := p) hs_k8 | skip
    have hb := hb.trans hs_k8
    refine Wl.y (y_fieldO Tryz.underlying43 rfl one9PsF rfl rfl) rfl ?_
    refine Wl.sg rfl rfl <| Wl.nil ?_
    refine Wq.meet hM_71 (⟨sg, r⟩) (by repeat first | exact Sub.nil | refine Sub.cons' rfl (by first | rfl | (rw [hsg]; first | done | rfl)) ?_) ?_
    exact ⟨by rw [hpn, hsg, hr_], hrt, by rw [hsg]; first | omega | exact Nat.zero_le _, hb, by rw [hr_]; exact hP, hB_o4, hB_o0⟩
   have c3_72_ := c3_72
   try simp only [DZ] at c3_72
   have h3 : isT en [[45]] ts = false := c3_72_
   obtain ⟨sg, hsg⟩ : ∃ sg : List UInt8, sg = [] := ⟨_, rfl⟩
   obtain ⟨r, hr_⟩ : ∃ r, r = ts := ⟨_, rfl⟩
   have hrt : r.length ≤ ts.length := by rw [hr_]; omega
   have hpn : pAtom en b knot ts = pNum en [] ts := by simp only [pAtom, if_neg hk, h1, if_neg h2, h3]; rfl
   refine Wc.skip ?_
   refine Wq.meet hM_71 (⟨sg, r⟩) (by repeat first | exact Sub.nil | refine Sub.cons' rfl (by first | rfl | (rw [hsg]; first | done | rfl)) ?_) ?_
   exact ⟨by rw [hpn, hsg, hr_], hrt, by rw [hsg]; first | omega | exact Nat.zero_le _, hb, by rw [hr_]; exact hP, hB_o4, hB_o0⟩
  rintro ⟨sg, r⟩ wr hI_77
  replace hI_77 : pAtom en b knot ts = pNum en sg r ∧ r.length ≤ ts.length ∧ sg.length ≤ 65536 ∧ Kp p w wr ∧ PSt wr p en r g b ∧ Blk wr g_o4 43 [.int .i64 ((nextT en ts).k : Int), str (nextT en ts).t, .int .i64 ((nextT en ts).a : Int)] ∧ Blk wr g_o0 28 (EC.cells ⟨0, [], nullV, none, 0, 0⟩) := hI_77
  obtain ⟨hN, hrl, hsl, hb, hP, hB_o4, hB_o0⟩ := hI_77
  show Wq _ _ _ _ [(0, pptr p), (2, .pointer (some ⟨g_o0, 0, none⟩)), (3, .pointer (some ⟨g_o4, 0, none⟩)), (4, str sg)] _
  try have hzhb_c3 := hb.size
  have hlhB_o4_c3 := hB_o4.lt
  have hlhB_o0_c3 := hB_o0.lt
  refine Wq.block_normal <| Wq.next hK_11 <| Wc.seq fun _ hK_78 => ?_
  have hrl65 := hP.next_len
  refine Wc.region <| Wl.mv rfl rfl <| Wl.y (y_nilCheck rfl) rfl ?_
  refine Wl.y (y_fieldAddr (fa60_0PsF _) rfl) rfl ?_
  refine Wl.call txt39PsF rfl rfl (next_x p en r g b _ hP) rfl ?_
  rintro _ w_k9 ⟨rfl, hs_k9⟩
  have hz_k9 := hs_k9.size
  first | have hP := PSt.below hP hs_k9 | have hP := PSt.kp hP hs_k9 | skip
  first | have hB_o4 := Blk.below hB_o4 hs_k9 | have hB_o4 := Blk.kp hB_o4 hs_k9 (by omega) | skip
  first | have hB_o0 := Blk.below hB_o0 hs_k9 | have hB_o0 := Blk.kp hB_o0 hs_k9 (by omega) | skip
  first | replace hs_k9 := Below.kp (p := p) hs_k9 | skip
  have hb := hb.trans hs_k9
  refine Wl.storeS (by kernel_rfl) rfl rfl hB_o4 rfl rfl ?_
  rintro w_s4 hn_s4 hg_s4
  have hz_s4 := hg_s4.size
  have hb := kp_blk hb hg_s4 (by omega)
  try have hP := PSt.over hP hg_s4 (by omega)
  try have hB_o0 := hB_o0.over hg_s4 (by omega)
  have hB_o4 := hn_s4
  refine Wl.nil <| Wq.next hK_78 <| Wc.seq fun _ hK_83 => Wc.seq fun _ hK_84 => ?_
  refine Wc.meet (X := Bool) (fun q => [(0, pptr p), (2, .pointer (some ⟨g_o0, 0, none⟩)), (3, .pointer (some ⟨g_o4, 0, none⟩)), (4, str sg), (67, .bool q)]) (fun q wr => q = decide ((nextT en r).k ≠ 3 ∧ isT en [wInf] r = false) ∧ Kp p w wr ∧ PSt wr p en r g b ∧ Blk wr g_o4 43 [.int .i64 ((nextT en r).k : Int), str (nextT en r).t, .int .i64 ((nextT en r).a : Int)] ∧ Blk wr g_o0 28 (EC.cells ⟨0, [], nullV, none, 0, 0⟩)) (fun _ hM_85 => ?_) ?_
  ·
   refine Wc.region ?_
   refine Wl.y (y_fieldAddr (fa43_0PsF _) rfl) rfl ?_
   refine Wl.l (l_load one3PsF rfl (by exact hB_o4.at (j := 0) rfl)) rfl ?_
   refine Wl.y (y_neqi rfl rfl) rfl <| Wl.mv rfl rfl ?_
   refine Wl.guardT rfl rfl rfl (fun g_90 => ?_) (fun g_90 => ?_)
   ·
    have g_90_ := g_90
    try simp only [DZ] at g_90
    refine Wl.mv rfl rfl <| Wl.on' rfl rfl g_90_ <| Wl.y (y_nilCheck rfl) rfl <| Wl.on' rfl rfl g_90_ ?_
    refine Wl.y (y_fieldAddr (fa60_0PsF _) rfl) rfl ?_
    refine Wl.on' rfl rfl g_90_ ?_
    refine Wl.litN (sz := 1) (vs := [_]) Tryz.underlying45 (by kernel_rfl) rfl rfl rfl rfl rfl rfl ?_
    rintro g_b3 w_b3 hg_b3 hn_b3 hs_b3
    have hz_b3 := hs_b3.size
    have hP := hP.below hs_b3
    have hB_o4 := hB_o4.below hs_b3
    have hB_o0 := hB_o0.below hs_b3
    replace hs_b3 := Below.kp (p := p) hs_b3
    have hb := hb.trans hs_b3
    have hB_b3 := hn_b3
    have hl_b3 := hB_b3.lt
    refine Wl.on' rfl rfl g_90_ ?_
    refine Wl.call txt36PsF rfl rfl (is_r p en r g b _ 1 [wInf] (by simp) _ hP (hB_b3.rd 1 1 rfl)) rfl ?_
    rintro _ w_k10 ⟨rfl, hs_k10⟩
    have hz_k10 := hs_k10.size
    first | have hP := PSt.below hP hs_k10 | have hP := PSt.kp hP hs_k10 | skip
    first | have hB_o4 := Blk.below hB_o4 hs_k10 | have hB_o4 := Blk.kp hB_o4 hs_k10 (by omega) | skip
    first | have hB_o0 := Blk.below hB_o0 hs_k10 | have hB_o0 := Blk.kp hB_o0 hs_k10 (by omega) | skip
    first | replace hs_k10 := Below.kp (p := p) hs_k10 | skip
    have hb := hb.trans hs_k10
    refine Wl.on' rfl rfl g_90_ <| Wl.y (y_not rfl) rfl ?_
    refine Wl.y (y_pickT rfl g_90_ rfl) rfl ?_
    refine Wl.nil ?_
    refine Wq.meet hM_85 (decide ((nextT en r).k ≠ 3 ∧ isT en [wInf] r = false)) (by repeat first | exact Sub.nil | refine Sub.cons' rfl (by first | rfl | exact bool_eq (by rw [Bool.eq_iff_iff]; simp_all <;> omega)) ?_) ?_
    exact ⟨rfl, hb, hP, hB_o4, hB_o0⟩
   have g_90_ := g_90
   try simp only [DZ] at g_90
   refine Wl.off' rfl rfl g_90_ rfl rfl <| Wl.off' rfl rfl g_90_ rfl rfl <| Wl.off' rfl rfl g_90_ rfl rfl <| Wl.off' rfl rfl g_90_ rfl rfl <| Wl.off' rfl rfl g_90_ rfl rfl ?_
   refine Wl.y (y_pickF rfl g_90_ rfl) rfl ?_
   refine Wl.nil ?_
   refine Wq.meet hM_85 (decide ((nextT en r).k ≠ 3 ∧ isT en [wInf] r = false)) (by repeat first | exact Sub.nil | refine Sub.cons' rfl (by first | rfl | exact bool_eq (by rw [Bool.eq_iff_iff]; simp_all <;> omega)) ?_) ?_
   exact ⟨rfl, hb, hP, hB_o4, hB_o0⟩
  rintro q wr hI_99
  replace hI_99 : q = decide ((nextT en r).k ≠ 3 ∧ isT en [wInf] r = false) ∧ Kp p w wr ∧ PSt wr p en r g b ∧ Blk wr g_o4 43 [.int .i64 ((nextT en r).k : Int), str (nextT en r).t, .int .i64 ((nextT en r).a : Int)] ∧ Blk wr g_o0 28 (EC.cells ⟨0, [], nullV, none, 0, 0⟩) := hI_99
  obtain ⟨hq2, hb, hP, hB_o4, hB_o0⟩ := hI_99
  show Wq _ _ _ _ [(0, pptr p), (2, .pointer (some ⟨g_o0, 0, none⟩)), (3, .pointer (some ⟨g_o4, 0, none⟩)), (4, str sg), (67, .bool q)] _
  try have hzhb_g12 := hb.size
  have hlhB_o4_g12 := hB_o4.lt
  have hlhB_o0_g12 := hB_o0.lt
  refine Wq.next hK_84 ?_
  refine Wc.cond rfl (fun c4_100 => ?_) (fun c4_100 => ?_)
  ·
   have c4_100_ := c4_100
   try simp only [DZ] at c4_100
   have h4 := of_decide_eq_true (hq2.symm.trans c4_100_)
   refine Wc.region <| Wl.mv rfl rfl ?_
   refine Wl.callP txt42PsF rfl rfl (fail_r p en r g b _ hP) rfl (fun v_ w_k11 hv_ => ?_) (fun c_ w_k11 hx_ => ?_)
   rotate_left
   ·
    obtain ⟨a_k11, e_k11, hF_k11, rfl, hPp_k11, hs_k11⟩ := hx_
    have hz_k11 := hs_k11.size
    have hb := hb.trans hs_k11
    refine Wq.then_panic ?_
    refine panics ?_
    cases hF_k11; exact outX ⟨_, _, by rw [hN]; exact if_pos h4, rfl, hPp_k11, hb⟩
   exact hv_.elim
  have c4_100_ := c4_100
  try simp only [DZ] at c4_100
  have h4 := of_decide_eq_false (hq2.symm.trans c4_100_)
  have hne : r ≠ [] := by
    by_cases e : (nextT en r).k = 3
    · exact nextT_k e (by decide)
    · cases e2 : isT en [wInf] r with
      | true => exact isT_ne e2
      | false => exact absurd ⟨e, e2⟩ h4
  refine Wc.skip <| Wq.next hK_83 <| Wc.seq fun _ hK_103 => ?_
  refine Wc.any (n := 9) (fun w' => Kp p w w' ∧ Blk w' g_o4 43 [.int .i64 ((nextT en r).k : Int), str (nextT en r).t, .int .i64 ((nextT en r).a : Int)] ∧ ∃ cs, Blk w' g_o0 28 cs) #[false, false, false, false, false, false, false, false, false] (by kernel_rfl) rfl (by kernel_rfl) ?_
  refine Wa.drew ?_
  rintro w_g14 hs_g14
  have hz_g14 := hs_g14.size
  have hP := hP.below hs_g14
  have hB_o4 := hB_o4.below hs_g14
  have hB_o0 := hB_o0.below hs_g14
  replace hs_g14 := Below.kp (p := p) hs_g14
  have hb := hb.trans hs_g14
  refine Wa.take (i := 0) #[true, false, false, false, false, false, false, false, false] rfl (by kernel_rfl) (fun _ _ _ h => h) rfl (fun wq hq => Yl.ld (y_move rfl)) ⟨hb, hB_o4, _, hB_o0⟩ ?_
  refine Wa.take (i := 1) #[true, true, false, false, false, false, false, false, false] rfl (by kernel_rfl) (fun _ _ _ h => h) rfl (fun wq hq => Yl.ld (y_move rfl)) ⟨hb, hB_o4, _, hB_o0⟩ ?_
  refine Wa.take (i := 5) #[true, true, false, false, false, true, false, false, false] rfl (by kernel_rfl) (fun _ _ _ h => h) rfl (fun wq hq => Yl.ld (y_fieldAddr (fa43_2PsF _) rfl)) ⟨hb, hB_o4, _, hB_o0⟩ ?_
  refine Wa.take (i := 6) #[true, true, false, false, false, true, true, false, false] rfl (by kernel_rfl) (fun _ _ _ h => h) rfl (fun wq hq => l_load one3PsF rfl (by obtain ⟨hq, hB_o4, _, hB_o0⟩ := hq; exact hB_o4.at (j := 2) rfl)) ⟨hb, hB_o4, _, hB_o0⟩ ?_
  refine Wa.some (rs := [2]) (by kernel_rfl) rfl ?_
  refine Ws.cons #[true, true, true, false, false, true, true, false, false] rfl rfl (fun _ hK_108 => ?_) ?_
  ·
   refine Wl.call txt38PsF rfl rfl (take_x p en r g b hne _ hP) rfl ?_
   rintro _ w_k12 ⟨⟨rfl, hP⟩, hs_k12⟩
   have hz_k12 := hs_k12.size
   first | have hP := PSt.below hP hs_k12 | have hP := PSt.kp hP hs_k12 | skip
   first | have hB_o4 := Blk.below hB_o4 hs_k12 | have hB_o4 := Blk.kp hB_o4 hs_k12 (by omega) | skip
   first | have hB_o0 := Blk.below hB_o0 hs_k12 | have hB_o0 := Blk.kp hB_o0 hs_k12 (by omega) | skip
   first | replace hs_k12 := Below.kp (p := p) hs_k12 | skip
   have hb := hb.trans hs_k12
   refine Wl.nil ?_
   refine Wq.back hK_108 ⟨hb, hB_o4, _, hB_o0⟩ ?_
   refine Wa.take (i := 3) #[true, true, true, true, false, true, true, false, false] rfl (by kernel_rfl) (fun _ _ _ h => h) rfl (fun wq hq => Yl.ld (y_fieldO Tryz.underlying43 rfl one9PsF rfl rfl)) ⟨hb, hB_o4, _, hB_o0⟩ ?_
   refine Wa.take (i := 4) #[true, true, true, true, true, true, true, false, false] rfl (by kernel_rfl) (fun _ _ _ h => h) rfl (fun wq hq => Yl.ld (y_adds rfl rfl (by first | omega | (simp; done) | (simp; omega)))) ⟨hb, hB_o4, _, hB_o0⟩ ?_
   refine Wa.some (rs := [7]) (by kernel_rfl) rfl ?_
   refine Ws.cons #[true, true, true, true, true, true, true, true, false] rfl rfl (fun _ hK_112 => ?_) ?_
   ·
    refine Wl.callP txt219PsF rfl rfl (literal_r p en (sg ++ (nextT en r).t) (nextT en r).a r.tail ts (by rw [List.length_tail]; omega) (by rw [List.length_append]; omega) g b _ hP) rfl (fun v_ w_k13 hv_ => ?_) (fun c_ w_k13 hx_ => ?_)
    rotate_left
    ·
     obtain ⟨a_k13, e_k13, hF_k13, rfl, hPp_k13, hs_k13⟩ := hx_
     have hz_k13 := hs_k13.size
     have hb := hb.trans hs_k13
     refine Wq.then_panic <| Wq.then_panic ?_
     refine panics ?_
     exact outX ⟨_, _, by rw [hN]; simp only [pNum, if_neg h4, hF_k13], rfl, hPp_k13, hb⟩
    obtain ⟨⟨x, r2, hF, ⟨z, Sz, rfl, hz, hz_S⟩, hP, hrl2⟩, hs_k13⟩ := hv_
    have hz_k13 := hs_k13.size
    have hB_o4 := hB_o4.kp hs_k13 (by omega)
    have hB_o0 := hB_o0.kp hs_k13 (by omega)
    have hb := hb.trans hs_k13
    refine Wl.nil ?_
    refine Wq.back hK_112 ⟨hb, hB_o4, _, hB_o0⟩ ?_
    refine Wa.some (rs := [8]) (by kernel_rfl) rfl ?_
    refine Ws.cons #[true, true, true, true, true, true, true, true, true] rfl rfl (fun _ hK_114 => ?_) ?_
    ·
     refine Wl.storeS (by kernel_rfl) rfl rfl hB_o0 rfl rfl ?_
     rintro w_s5 hn_s5 hg_s5
     have hz_s5 := hg_s5.size
     have hb := kp_blk hb hg_s5 (by omega)
     try have hP := PSt.over hP hg_s5 (by omega)
     try have hB_o4 := hB_o4.over hg_s5 (by omega)
     try have hz := EAt.kp hz hg_s5 (fun h_ => by have h2_ := hz_S _ h_; omega)
     have hB_o0 := hn_s5
     refine Wl.nil ?_
     refine Wq.back hK_114 ⟨hb, hB_o4, _, hB_o0⟩ ?_
     refine Wa.done (by kernel_rfl) ?_
     refine Wq.next hK_103 <| Wc.ret ?_
     refine retN (rs := [.cell 2 28]) (vs := [_]) rfl (.cell rfl (loadS Tryz.underlying28 (by kernel_rfl) (fun j u hu => hB_o0.at hu)) .nil) ?_
     exact outR ⟨⟨x, r2, by rw [hN]; simp only [pNum, if_neg h4, hF], ⟨z, Sz, rfl, hz, fun k hk => by have := hz_S k hk; omega⟩, hP, hrl2⟩, hb⟩
    exact Ws.nil
   exact Ws.nil
  exact Ws.nil
end Go.Proofs.YtjnabgddjogkbaaGreatDoor
