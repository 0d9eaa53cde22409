/- Package parse, by the calculus: expressions. · Package parse, by the calculus: patterns in memory; what stands in a node, or an edge. · Package parse, by the calculus: an edge's signs; what begins an item. · Package parse, by the calculus: nodes, edges, groups. -/
import Derived.Test.YtjnabgddjogkbaaGreatDoorZP2
namespace Go.Proofs.YtjnabgddjogkbaaGreatDoor
open Go.RowKit Go.Bw Go.Bw.Fl
set_option linter.unusedVariables false
set_option linter.unusedSimpArgs false
theorem fa60_0PsG (p : Addr) (w : World) : (Instr.fieldAt 60 (.pointer (some p)) 0).run Tryz.prog w = .ok (.pointer (some (p.add 0))) w := run_fieldAt (i := 0) (sz := 1) Tryz.underlying60 rfl (by kernel_rfl) p w
theorem one200PsG : One Tryz.prog 200 := ⟨_, Tryz.underlying200, rfl, by kernel_rfl⟩
theorem one56PsG : One Tryz.prog 56 := ⟨_, Tryz.underlying56, rfl, by kernel_rfl⟩
theorem one9PsG : One Tryz.prog 9 := ⟨_, Tryz.underlying9, rfl, by kernel_rfl⟩
theorem txt150PsG : Txt Tryz.prog 150 := ⟨_, Tryz.func150, by kernel_rfl, rfl⟩   -- (*bridleway/parse.parser).text
theorem txt201PsG : Txt Tryz.prog 201 := ⟨_, Tryz.func201, by kernel_rfl, rfl⟩   -- (*bridleway/parse.parser).turned
theorem txt204PsG : Txt Tryz.prog 204 := ⟨_, Tryz.func204, by kernel_rfl, rfl⟩   -- (*bridleway/parse.parser).many
theorem txt208PsG : Txt Tryz.prog 208 := ⟨_, Tryz.func208, by kernel_rfl, rfl⟩   -- bridleway/parse.op
theorem txt36PsG : Txt Tryz.prog 36 := ⟨_, Tryz.func36, by kernel_rfl, rfl⟩   -- (*bridleway/parse.row).is
theorem txt38PsG : Txt Tryz.prog 38 := ⟨_, Tryz.func38, by kernel_rfl, rfl⟩   -- (*bridleway/parse.parser).take
theorem txtOp : Txt Tryz.prog 208 := ⟨_, Tryz.func208, by kernel_rfl, rfl⟩
theorem txtAt : Txt Tryz.prog 214 := ⟨_, Tryz.func214, by kernel_rfl, rfl⟩
theorem txtTe : Txt Tryz.prog 206 := ⟨_, Tryz.func206, by kernel_rfl, rfl⟩
theorem txtT1 : Txt Tryz.prog 213 := ⟨_, Tryz.func213, by kernel_rfl, rfl⟩
theorem txtT2 : Txt Tryz.prog 215 := ⟨_, Tryz.func215, by kernel_rfl, rfl⟩
theorem txtE1 : Txt Tryz.prog 205 := ⟨_, Tryz.func205, by kernel_rfl, rfl⟩
theorem txtE2 : Txt Tryz.prog 207 := ⟨_, Tryz.func207, by kernel_rfl, rfl⟩
/-- signs that op takes -/
def okSigns (l : List (List UInt8)) : Bool := l.all fun s => s.all (fun c => decide (c.toNat < 128)) && decide (s.length ≤ 65536)
theorem okSigns_of {l : List (List UInt8)} {s : List UInt8} (h : okSigns l = true) (hs : s ∈ l) : (∀ j, j < s.length → (s.getD j 0).toNat < 128) ∧ s.length ≤ 65536 := by
  have h1 := List.all_eq_true.1 h s hs
  simp only [Bool.and_eq_true, decide_eq_true_eq] at h1
  refine ⟨fun j hj => ?_, h1.2⟩
  have h2 := List.all_eq_true.1 h1.1 (s.getD j 0) (by rw [List.getD_eq_getElem?_getD, List.getElem?_eq_getElem hj]; exact List.getElem_mem hj)
  simpa using h2
theorem opMade (w : World) (p : Nat) {signs : List (List UInt8)} (h : okSigns signs = true) : Made w p 208 #[] #[] opE signs :=
  ⟨txtOp, fun w' s x y ex ey S hk hs hS hx hy => op_r s (okSigns_of h hs).1 (okSigns_of h hs).2 x y ex ey S w' hS hx hy⟩
abbrev ExD (w : World) (p en g n : Nat) (knot : Nat → Pe) : Prop := ∀ b', Does w p en g b' n 182 #[pptr p] #[] (knot b') EVal
theorem ExD.kp {w w' : World} {p en g n : Nat} {knot : Nat → Pe} (h : ExD w p en g n knot) (hk : Kp p w w') : ExD w' p en g n knot := fun b' => (h b').kp hk
theorem atom_d {p en g n : Nat} {knot : Nat → Pe} {w : World} (b : Nat) (hD : ExD w p en g n knot) : Does w p en g b (n + 1) 214 #[pptr p] #[] (pAtom en b knot) EVal :=
  ⟨txtAt, fun w' ts hk hP hm => atom_r p en ts g b n knot (by omega) w' hP (hD.kp hk)⟩
theorem test1_r (p en : Nat) (ts : List Tok) (g b n g1 : Nat) (knot : Nat → Pe) (hm : ts.length < n + 1) (w : World) (hP : PSt w p en ts g b) (hg1 : g1 ≠ p) (hB : Blk w g1 56 [pptr p]) (hD : ExD w p en g n knot) : Out Tryz.prog 213 [gptr0 g1] w (PRes w p en g b ts (pProd en b knot ts) (EVal w.heap.size)) (PErr w p en g b (pProd en b knot ts)) := by
  have hpl := hP.lt
  have hl1_ := hB.lt
  have hb := Kp.refl p w
  refine enter Tryz.func213 rfl rfl rfl ?_
  refine Wc.seq fun _ hK_1 => Wc.region ?_
  refine Wl.allocN (z := (.agg #[(.int .i64 0), (str []), (.int .i64 0), (.int .i64 0), (.float .f64 0), (str []), (.slice none 0 0)])) (by kernel_rfl) rfl ?_
  rintro g_o0 w_o0 hg_o0 hn_o0 hs_o0
  have hz_o0 := hs_o0.size
  have hP := hP.below hs_o0
  have hB := hB.below hs_o0
  replace hs_o0 := Below.kp (p := p) hs_o0
  have hb := hb.trans hs_o0
  have hB_o0 := hn_o0
  have hl_o0 := hB_o0.lt
  refine Wl.nil <| Wq.next hK_1 <| Wc.seq fun _ hK_3 => Wc.region ?_
  refine Wl.l (l_load one56PsG rfl (by exact hB.at (j := 0) rfl)) rfl ?_
  refine Wl.l (l_load one56PsG rfl (by exact hB.at (j := 0) rfl)) rfl ?_
  refine Wl.y (y_makeFunc rfl rfl) rfl ?_
  refine Wl.litN (sz := 1) (vs := [_]) Tryz.underlying45 (by kernel_rfl) rfl rfl rfl rfl rfl rfl ?_
  rintro g_b0 w_b0 hg_b0 hn_b0 hs_b0
  have hz_b0 := hs_b0.size
  have hP := hP.below hs_b0
  have hB_o0 := hB_o0.below hs_b0
  replace hs_b0 := Below.kp (p := p) hs_b0
  have hb := hb.trans hs_b0
  have hB_b0 := hn_b0
  have hl_b0 := hB_b0.lt
  refine Wl.callP txt204PsG rfl rfl (many_r p en ts g b (n + 1) 214 #[pptr p] #[] (pAtom en b knot) 208 #[] #[] opE _ 1 [[42]] (by simp) hm _ hP (atom_d b (hD.kp hb)) (opMade _ _ (by decide)) (hB_b0.rd 1 1 rfl) (fun q e => by cases e; show g_b0 ≠ p; omega)) rfl (fun v_ w_k0 hv_ => ?_) (fun c_ w_k0 hx_ => ?_)
  rotate_left
  ·
   obtain ⟨a_k0, e_k0, hF_k0, rfl, hPp_k0, hs_k0⟩ := hx_
   have hz_k0 := hs_k0.size
   have hb := hb.trans hs_k0
   refine Wq.then_panic ?_
   refine panics ?_
   exact outX ⟨_, _, hF_k0, rfl, hPp_k0, hb⟩
  obtain ⟨⟨x, r, hF, ⟨z, Sz, rfl, hz, hz_S⟩, hP, hrl⟩, hs_k0⟩ := hv_
  have hz_k0 := hs_k0.size
  have hB_o0 := hB_o0.kp hs_k0 (by omega)
  have hb := hb.trans hs_k0
  refine Wl.storeS (by kernel_rfl) rfl rfl hB_o0 rfl rfl ?_
  rintro w_s0 hn_s0 hg_s0
  have hz_s0 := hg_s0.size
  have hb := kp_blk hb hg_s0 (by omega)
  try have hP := PSt.over hP hg_s0 (by omega)
  try have hz := EAt.kp hz hg_s0 (fun h_ => by have h2_ := hz_S _ h_; omega)
  have hB_o0 := hn_s0
  refine Wl.nil <| Wq.next hK_3 <| Wc.ret ?_
  refine retN (rs := [.cell 1 28]) (vs := [_]) rfl (.cell rfl (loadS Tryz.underlying28 (by kernel_rfl) (fun j u hu => hB_o0.at hu)) .nil) ?_
  exact outR ⟨⟨x, r, hF, ⟨z, Sz, rfl, hz, fun k hk => by have := hz_S k hk; omega⟩, hP, hrl⟩, hb⟩
theorem test1_d {p en g n g1 : Nat} {knot : Nat → Pe} {w : World} (b : Nat) (hg1 : g1 ≠ p) (hB : Blk w g1 56 [pptr p]) (hD : ExD w p en g n knot) : Does w p en g b (n + 1) 213 #[] #[gptr0 g1] (pProd en b knot) EVal :=
  ⟨txtT1, fun w' ts hk hP hm => test1_r p en ts g b n g1 knot hm w' hP hg1 (hB.kp hk hg1) (hD.kp hk)⟩
theorem test2_r (p en : Nat) (ts : List Tok) (g b n g1 g3 : Nat) (knot : Nat → Pe) (hm : ts.length < n + 1) (w : World) (hP : PSt w p en ts g b) (hg1 : g1 ≠ p) (hg3 : g3 ≠ p) (hB : Blk w g1 56 [pptr p]) (hB3 : Blk w g3 200 [.func (.func 213) #[] #[gptr0 g1]]) (hD : ExD w p en g n knot) : Out Tryz.prog 215 [gptr0 g1, gptr0 g3] w (PRes w p en g b ts (pSum en b knot ts) (EVal w.heap.size)) (PErr w p en g b (pSum en b knot ts)) := by
  have hpl := hP.lt
  have hl1_ := hB.lt
  have hl3_ := hB3.lt
  have hb := Kp.refl p w
  refine enter Tryz.func215 rfl rfl rfl ?_
  refine Wc.seq fun _ hK_1 => Wc.region ?_
  refine Wl.allocN (z := (.agg #[(.int .i64 0), (str []), (.int .i64 0), (.int .i64 0), (.float .f64 0), (str []), (.slice none 0 0)])) (by kernel_rfl) rfl ?_
  rintro g_o0 w_o0 hg_o0 hn_o0 hs_o0
  have hz_o0 := hs_o0.size
  have hP := hP.below hs_o0
  have hB := hB.below hs_o0
  have hB3 := hB3.below hs_o0
  replace hs_o0 := Below.kp (p := p) hs_o0
  have hb := hb.trans hs_o0
  have hB_o0 := hn_o0
  have hl_o0 := hB_o0.lt
  refine Wl.nil <| Wq.next hK_1 <| Wc.seq fun _ hK_3 => Wc.region ?_
  refine Wl.l (l_load one56PsG rfl (by exact hB.at (j := 0) rfl)) rfl ?_
  refine Wl.l (l_load one200PsG rfl (by exact hB3.at (j := 0) rfl)) rfl ?_
  refine Wl.litN (sz := 1) (vs := [_, _]) Tryz.underlying45 (by kernel_rfl) rfl rfl rfl rfl rfl rfl ?_
  rintro g_b0 w_b0 hg_b0 hn_b0 hs_b0
  have hz_b0 := hs_b0.size
  have hP := hP.below hs_b0
  have hB := hB.below hs_b0
  have hB_o0 := hB_o0.below hs_b0
  replace hs_b0 := Below.kp (p := p) hs_b0
  have hb := hb.trans hs_b0
  have hB_b0 := hn_b0
  have hl_b0 := hB_b0.lt
  refine Wl.callP txt204PsG rfl rfl (many_r p en ts g b (n + 1) 213 #[] #[gptr0 g1] (pProd en b knot) 208 #[] #[] opE _ 2 [[43], [45]] (by simp) hm _ hP (test1_d b hg1 hB (hD.kp hb)) (opMade _ _ (by decide)) (hB_b0.rd 2 1 rfl) (fun q e => by cases e; show g_b0 ≠ p; omega)) rfl (fun v_ w_k0 hv_ => ?_) (fun c_ w_k0 hx_ => ?_)
  rotate_left
  ·
   obtain ⟨a_k0, e_k0, hF_k0, rfl, hPp_k0, hs_k0⟩ := hx_
   have hz_k0 := hs_k0.size
   have hb := hb.trans hs_k0
   refine Wq.then_panic ?_
   refine panics ?_
   exact outX ⟨_, _, hF_k0, rfl, hPp_k0, hb⟩
  obtain ⟨⟨x, r, hF, ⟨z, Sz, rfl, hz, hz_S⟩, hP, hrl⟩, hs_k0⟩ := hv_
  have hz_k0 := hs_k0.size
  have hB_o0 := hB_o0.kp hs_k0 (by omega)
  have hb := hb.trans hs_k0
  refine Wl.storeS (by kernel_rfl) rfl rfl hB_o0 rfl rfl ?_
  rintro w_s0 hn_s0 hg_s0
  have hz_s0 := hg_s0.size
  have hb := kp_blk hb hg_s0 (by omega)
  try have hP := PSt.over hP hg_s0 (by omega)
  try have hz := EAt.kp hz hg_s0 (fun h_ => by have h2_ := hz_S _ h_; omega)
  have hB_o0 := hn_s0
  refine Wl.nil <| Wq.next hK_3 <| Wc.ret ?_
  refine retN (rs := [.cell 2 28]) (vs := [_]) rfl (.cell rfl (loadS Tryz.underlying28 (by kernel_rfl) (fun j u hu => hB_o0.at hu)) .nil) ?_
  exact outR ⟨⟨x, r, hF, ⟨z, Sz, rfl, hz, fun k hk => by have := hz_S k hk; omega⟩, hP, hrl⟩, hb⟩
theorem test2_d {p en g n g1 g3 : Nat} {knot : Nat → Pe} {w : World} (b : Nat) (hg1 : g1 ≠ p) (hg3 : g3 ≠ p) (hB : Blk w g1 56 [pptr p]) (hB3 : Blk w g3 200 [.func (.func 213) #[] #[gptr0 g1]]) (hD : ExD w p en g n knot) : Does w p en g b (n + 1) 215 #[] #[gptr0 g1, gptr0 g3] (pSum en b knot) EVal :=
  ⟨txtT2, fun w' ts hk hP hm => test2_r p en ts g b n g1 g3 knot hm w' hP hg1 hg3 (hB.kp hk hg1) (hB3.kp hk hg3) (hD.kp hk)⟩
theorem test_r (p en : Nat) (ts : List Tok) (g b n : Nat) (knot : Nat → Pe) (hm : ts.length < n + 1) (w : World) (hP : PSt w p en ts g b) (hD : ExD w p en g n knot) : Out Tryz.prog 206 [pptr p] w (PRes w p en g b ts (pTest en b knot ts) (EVal w.heap.size)) (PErr w p en g b (pTest en b knot ts)) := by
  have hpl := hP.lt
  have hb := Kp.refl p w
  refine enter Tryz.func206 rfl rfl rfl ?_
  refine Wc.seq fun _ hK_1 => Wc.region ?_
  refine Wl.boxN rfl rfl ?_
  rintro g_o0 w_o0 hg_o0 hn_o0 hs_o0
  have hz_o0 := hs_o0.size
  have hP := hP.below hs_o0
  replace hs_o0 := Below.kp (p := p) hs_o0
  have hb := hb.trans hs_o0
  have hB_o0 := hn_o0
  have hl_o0 := hB_o0.lt
  refine Wl.allocN (z := (.agg #[(.int .i64 0), (str []), (.int .i64 0), (.int .i64 0), (.float .f64 0), (str []), (.slice none 0 0)])) (by kernel_rfl) rfl ?_
  rintro g_o1 w_o1 hg_o1 hn_o1 hs_o1
  have hz_o1 := hs_o1.size
  have hP := hP.below hs_o1
  have hB_o0 := hB_o0.below hs_o1
  replace hs_o1 := Below.kp (p := p) hs_o1
  have hb := hb.trans hs_o1
  have hB_o1 := hn_o1
  have hl_o1 := hB_o1.lt
  refine Wl.nil <| Wq.next hK_1 <| Wc.seq fun _ hK_4 => Wc.region <| Wl.y (y_makeFunc rfl rfl) rfl ?_
  refine Wl.allocN (z := .nilFunc) (by kernel_rfl) rfl ?_
  rintro g_o3 w_o3 hg_o3 hn_o3 hs_o3
  have hz_o3 := hs_o3.size
  have hP := hP.below hs_o3
  have hB_o0 := hB_o0.below hs_o3
  have hB_o1 := hB_o1.below hs_o3
  replace hs_o3 := Below.kp (p := p) hs_o3
  have hb := hb.trans hs_o3
  have hB_o3 := hn_o3
  have hl_o3 := hB_o3.lt
  refine Wl.store1 one200PsG rfl rfl rfl hB_o3 ?_
  rintro w_s0 hn_s0 hg_s0
  have hz_s0 := hg_s0.size
  have hb := kp_blk hb hg_s0 (by omega)
  try have hP := PSt.over hP hg_s0 (by omega)
  try have hB_o0 := hB_o0.over hg_s0 (by omega)
  try have hB_o1 := hB_o1.over hg_s0 (by omega)
  have hB_o3 := hn_s0
  refine Wl.nil <| Wq.next hK_4 <| Wc.seq fun _ hK_7 => Wc.region <| Wl.y (y_makeFunc rfl rfl) rfl <| Wl.sg rfl rfl <| Wl.nil <| Wq.next hK_7 <| Wc.seq fun _ hK_10 => Wc.region ?_
  refine Wl.mv rfl rfl ?_
  refine Wl.callP txtT2 rfl rfl ((test2_d b (by omega) (by omega) hB_o0 hB_o3 (hD.kp hb)).does _ ts (Kp.refl _ _) hP hm) rfl (fun v_ w_k0 hv_ => ?_) (fun c_ w_k0 hx_ => ?_)
  rotate_left
  ·
   obtain ⟨a_k0, e_k0, hF_k0, rfl, hPp_k0, hs_k0⟩ := hx_
   have hz_k0 := hs_k0.size
   have hb := hb.trans hs_k0
   refine Wq.then_panic ?_
   refine panics ?_
   exact outX ⟨_, _, by simp only [pTest, hF_k0], rfl, hPp_k0, hb⟩
  obtain ⟨⟨x, r, hF, ⟨z, Sz, rfl, hz, hz_S⟩, hP, hrl⟩, hs_k0⟩ := hv_
  have hz_k0 := hs_k0.size
  have hB_o0 := hB_o0.kp hs_k0 (by omega)
  have hB_o1 := hB_o1.kp hs_k0 (by omega)
  have hB_o3 := hB_o3.kp hs_k0 (by omega)
  have hb := hb.trans hs_k0
  refine Wl.allocN (z := (.agg #[(.int .i64 0), (str []), (.int .i64 0), (.int .i64 0), (.float .f64 0), (str []), (.slice none 0 0)])) (by kernel_rfl) rfl ?_
  rintro g_o7 w_o7 hg_o7 hn_o7 hs_o7
  have hz_o7 := hs_o7.size
  have hP := hP.below hs_o7
  have hB_o0 := hB_o0.below hs_o7
  have hB_o1 := hB_o1.below hs_o7
  have hB_o3 := hB_o3.below hs_o7
  have hz := hz.below hs_o7
  replace hs_o7 := Below.kp (p := p) hs_o7
  have hb := hb.trans hs_o7
  have hB_o7 := hn_o7
  have hl_o7 := hB_o7.lt
  refine Wl.storeS (by kernel_rfl) rfl rfl hB_o7 rfl rfl ?_
  rintro w_s1 hn_s1 hg_s1
  have hz_s1 := hg_s1.size
  have hb := kp_blk hb hg_s1 (by omega)
  try have hP := PSt.over hP hg_s1 (by omega)
  try have hB_o0 := hB_o0.over hg_s1 (by omega)
  try have hB_o1 := hB_o1.over hg_s1 (by omega)
  try have hB_o3 := hB_o3.over hg_s1 (by omega)
  try have hz := EAt.kp hz hg_s1 (fun h_ => by have h2_ := hz_S _ h_; omega)
  have hB_o7 := hn_s1
  refine Wl.nil <| Wq.next hK_10 <| Wc.seq fun _ hK_14 => Wc.block <| Wc.seq fun _ hK_15 => Wc.region ?_
  refine Wl.l (l_load one56PsG rfl (by exact hB_o0.at (j := 0) rfl)) rfl ?_
  refine Wl.y (y_nilCheck rfl) rfl ?_
  refine Wl.y (y_fieldAddr (fa60_0PsG _) rfl) rfl ?_
  refine Wl.litN (sz := 1) (vs := [_, _, _, _, _, _]) Tryz.underlying45 (by kernel_rfl) rfl rfl rfl rfl rfl rfl ?_
  rintro g_b0 w_b0 hg_b0 hn_b0 hs_b0
  have hz_b0 := hs_b0.size
  have hP := hP.below hs_b0
  have hB_o0 := hB_o0.below hs_b0
  have hB_o1 := hB_o1.below hs_b0
  have hB_o3 := hB_o3.below hs_b0
  have hz := hz.below hs_b0
  have hB_o7 := hB_o7.below hs_b0
  replace hs_b0 := Below.kp (p := p) hs_b0
  have hb := hb.trans hs_b0
  have hB_b0 := hn_b0
  have hl_b0 := hB_b0.lt
  refine Wl.call txt36PsG rfl rfl (is_r p en r g b _ 6 cmpSigns (by simp [cmpSigns]) _ hP (hB_b0.rd 6 1 rfl)) rfl ?_
  rintro _ w_k1 ⟨rfl, hs_k1⟩
  have hz_k1 := hs_k1.size
  first | have hP := PSt.below hP hs_k1 | have hP := PSt.kp hP hs_k1 | skip
  first | have hB_o0 := Blk.below hB_o0 hs_k1 | have hB_o0 := Blk.kp hB_o0 hs_k1 (by omega) | skip
  first | have hB_o1 := Blk.below hB_o1 hs_k1 | have hB_o1 := Blk.kp hB_o1 hs_k1 (by omega) | skip
  first | have hB_o3 := Blk.below hB_o3 hs_k1 | have hB_o3 := Blk.kp hB_o3 hs_k1 (by omega) | skip
  first | have hz := EAt.below hz hs_k1 | have hz := EAt.kp hz hs_k1 (fun h_ => by have h2_ := hz_S _ h_; omega) | skip
  first | have hB_o7 := Blk.below hB_o7 hs_k1 | have hB_o7 := Blk.kp hB_o7 hs_k1 (by omega) | skip
  first | replace hs_k1 := Below.kp (p := p) hs_k1 | skip
  have hb := hb.trans hs_k1
  refine Wl.sg rfl rfl <| Wl.nil <| Wq.next hK_15 ?_
  refine Wc.cond rfl (fun c0_22 => ?_) (fun c0_22 => ?_)
  ·
   have c0_22_ := c0_22
   try simp only [DZ] at c0_22
   have h1 : isT en cmpSigns r = true := c0_22_
   have hne := isT_ne h1
   have hr0 := List.length_pos_iff.2 hne
   have hrt : r.tail.length = r.length - 1 := List.length_tail
   refine Wc.seq fun _ hK_23 => Wc.region ?_
   refine Wl.l (l_load one56PsG rfl (by exact hB_o0.at (j := 0) rfl)) rfl ?_
   refine Wl.call txt38PsG rfl rfl (take_x p en r g b hne _ hP) rfl ?_
   rintro _ w_k2 ⟨⟨rfl, hP⟩, hs_k2⟩
   have hz_k2 := hs_k2.size
   first | have hP := PSt.below hP hs_k2 | have hP := PSt.kp hP hs_k2 | skip
   first | have hB_o0 := Blk.below hB_o0 hs_k2 | have hB_o0 := Blk.kp hB_o0 hs_k2 (by omega) | skip
   first | have hB_o1 := Blk.below hB_o1 hs_k2 | have hB_o1 := Blk.kp hB_o1 hs_k2 (by omega) | skip
   first | have hB_o3 := Blk.below hB_o3 hs_k2 | have hB_o3 := Blk.kp hB_o3 hs_k2 (by omega) | skip
   first | have hz := EAt.below hz hs_k2 | have hz := EAt.kp hz hs_k2 (fun h_ => by have h2_ := hz_S _ h_; omega) | skip
   first | have hB_o7 := Blk.below hB_o7 hs_k2 | have hB_o7 := Blk.kp hB_o7 hs_k2 (by omega) | skip
   first | replace hs_k2 := Below.kp (p := p) hs_k2 | skip
   have hb := hb.trans hs_k2
   refine Wl.y (y_fieldO Tryz.underlying43 rfl one9PsG rfl rfl) rfl ?_
   refine Wl.sg rfl rfl <| Wl.nil <| Wq.next hK_23 <| Wc.seq fun _ hK_28 => ?_
   refine Wc.any (n := 6) (fun w' => Kp p w w' ∧ Blk w' g_o7 28 z.cells ∧ ∃ cs, Blk w' g_o1 28 cs) #[false, false, false, false, false, false] (by kernel_rfl) rfl (by kernel_rfl) ?_
   refine Wa.drew ?_
   rintro w_g6 hs_g6
   have hz_g6 := hs_g6.size
   have hP := hP.below hs_g6
   have hB_o0 := hB_o0.below hs_g6
   have hB_o1 := hB_o1.below hs_g6
   have hB_o3 := hB_o3.below hs_g6
   have hz := hz.below hs_g6
   have hB_o7 := hB_o7.below hs_g6
   replace hs_g6 := Below.kp (p := p) hs_g6
   have hb := hb.trans hs_g6
   refine Wa.take (i := 0) #[true, false, false, false, false, false] rfl (by kernel_rfl) (fun _ _ _ h => h) rfl (fun wq hq => Yl.ld (y_move rfl)) ⟨hb, hB_o7, _, hB_o1⟩ ?_
   refine Wa.take (i := 1) #[true, true, false, false, false, false] rfl (by kernel_rfl) (fun _ _ _ h => h) rfl (fun wq hq => l_loadS Tryz.underlying28 (by kernel_rfl) rfl (by obtain ⟨hq, hB_o7, _, hB_o1⟩ := hq; exact fun j u hu => hB_o7.at hu)) ⟨hb, hB_o7, _, hB_o1⟩ ?_
   refine Wa.take (i := 2) #[true, true, true, false, false, false] rfl (by kernel_rfl) (fun _ _ _ h => h) rfl (fun wq hq => Yl.ld (y_move rfl)) ⟨hb, hB_o7, _, hB_o1⟩ ?_
   refine Wa.some (rs := [3]) (by kernel_rfl) rfl ?_
   refine Ws.cons #[true, true, true, true, false, false] rfl rfl (fun _ hK_32 => ?_) ?_
   ·
    refine Wl.callP txtT2 rfl rfl ((test2_d b (by omega) (by omega) hB_o0 hB_o3 (hD.kp hb)).does _ r.tail (Kp.refl _ _) hP (by omega)) rfl (fun v_ w_k3 hv_ => ?_) (fun c_ w_k3 hx_ => ?_)
    rotate_left
    ·
     obtain ⟨a_k3, e_k3, hF_k3, rfl, hPp_k3, hs_k3⟩ := hx_
     have hz_k3 := hs_k3.size
     have hb := hb.trans hs_k3
     refine Wq.then_panic <| Wq.then_panic <| Wq.block_panic <| Wq.then_panic ?_
     refine panics ?_
     exact outX ⟨_, _, by simp only [pTest, hF, if_pos h1, hF_k3], rfl, hPp_k3, hb⟩
    obtain ⟨⟨y, r2, hF2, ⟨zy, Sy, rfl, hy, hy_S⟩, hP, hrl2⟩, hs_k3⟩ := hv_
    have hz_k3 := hs_k3.size
    have hB_o1 := hB_o1.kp hs_k3 (by omega)
    try have hz := hz.kp hs_k3 (fun h_ => by have h2_ := hz_S _ h_; omega)
    have hB_o7 := hB_o7.kp hs_k3 (by omega)
    have hb := hb.trans hs_k3
    refine Wl.nil ?_
    refine Wq.back hK_32 ⟨hb, hB_o7, _, hB_o1⟩ ?_
    refine Wa.some (rs := [4]) (by kernel_rfl) rfl ?_
    refine Ws.cons #[true, true, true, true, true, false] rfl rfl (fun _ hK_34 => ?_) ?_
    ·
     refine Wl.callP txt208PsG rfl rfl (Ret.out (X := fun _ _ => False) ((opMade _ p (signs := cmpSigns) (by decide)).does _ (nextT en r).t z zy x y (fun k => Sz k ∨ Sy k) (Kp.refl _ _) (isT_mem h1) (fun k hk => by rcases hk with h | h; (· have := hz_S k h; omega); (· have := hy_S k h; omega)) (hz.mono fun _ h => .inl h) (hy.mono fun _ h => .inr h))) rfl (fun v_ w_k4 hv_ => ?_) (fun c_ w_k4 hx_ => ?_)
     rotate_left
     ·
      exact hx_.elim
     obtain ⟨⟨z2, Sz2, rfl, hz2, hz2_S⟩, hs_k4⟩ := hv_
     have hz_k4 := hs_k4.size
     first | have hP := PSt.below hP hs_k4 | have hP := PSt.kp hP hs_k4 | skip
     first | have hB_o1 := Blk.below hB_o1 hs_k4 | have hB_o1 := Blk.kp hB_o1 hs_k4 (by omega) | skip
     first | have hB_o7 := Blk.below hB_o7 hs_k4 | have hB_o7 := Blk.kp hB_o7 hs_k4 (by omega) | skip
     first | replace hs_k4 := Below.kp (p := p) hs_k4 | skip
     have hb := hb.trans hs_k4
     have hz2_S : ∀ k, Sz2 k → w.heap.size ≤ k ∧ k < w_k4.heap.size ∧ k ≠ g_o1 := fun k hk => by
       rcases hz2_S k hk with (h | h) | h
       · have := hz_S k h; omega
       · have := hy_S k h; omega
       · omega
     refine Wl.nil ?_
     refine Wq.back hK_34 ⟨hb, hB_o7, _, hB_o1⟩ ?_
     refine Wa.some (rs := [5]) (by kernel_rfl) rfl ?_
     refine Ws.cons #[true, true, true, true, true, true] rfl rfl (fun _ hK_36 => ?_) ?_
     ·
      refine Wl.storeS (by kernel_rfl) rfl rfl hB_o1 rfl rfl ?_
      rintro w_s2 hn_s2 hg_s2
      have hz_s2 := hg_s2.size
      have hb := kp_blk hb hg_s2 (by omega)
      try have hP := PSt.over hP hg_s2 (by omega)
      try have hB_o7 := hB_o7.over hg_s2 (by omega)
      try have hz2 := EAt.kp hz2 hg_s2 (fun h_ => by have h2_ := hz2_S _ h_; omega)
      have hB_o1 := hn_s2
      refine Wl.nil ?_
      refine Wq.back hK_36 ⟨hb, hB_o7, _, hB_o1⟩ ?_
      refine Wa.done (by kernel_rfl) ?_
      refine Wq.next hK_28 <| Wc.ret ?_
      refine Wq.block_ret (Wq.then_ret ?_)
      refine retN (rs := [.cell 2 28]) (vs := [_]) rfl (.cell rfl (loadS Tryz.underlying28 (by kernel_rfl) (fun j u hu => hB_o1.at hu)) .nil) ?_
      exact outR ⟨⟨_, r2, by simp only [pTest, hF, if_pos h1, hF2], ⟨z2, Sz2, rfl, hz2, fun k hk => by have := hz2_S k hk; omega⟩, hP, by omega⟩, hb⟩
     exact Ws.nil
    exact Ws.nil
   exact Ws.nil
  have c0_22_ := c0_22
  try simp only [DZ] at c0_22
  have h1 : isT en cmpSigns r = false := c0_22_
  refine Wc.seq fun _ hK_37 => Wc.region ?_
  refine Wl.l (l_load one56PsG rfl (by exact hB_o0.at (j := 0) rfl)) rfl ?_
  refine Wl.y (y_nilCheck rfl) rfl ?_
  refine Wl.y (y_fieldAddr (fa60_0PsG _) rfl) rfl ?_
  refine Wl.litN (sz := 1) (vs := [_]) Tryz.underlying45 (by kernel_rfl) rfl rfl rfl rfl rfl rfl ?_
  rintro g_b1 w_b1 hg_b1 hn_b1 hs_b1
  have hz_b1 := hs_b1.size
  have hP := hP.below hs_b1
  have hB_o0 := hB_o0.below hs_b1
  have hB_o1 := hB_o1.below hs_b1
  have hz := hz.below hs_b1
  have hB_o7 := hB_o7.below hs_b1
  replace hs_b1 := Below.kp (p := p) hs_b1
  have hb := hb.trans hs_b1
  have hB_b1 := hn_b1
  have hl_b1 := hB_b1.lt
  refine Wl.call txt36PsG rfl rfl (is_r p en r g b _ 1 [wIs] (by simp) _ hP (hB_b1.rd 1 1 rfl)) rfl ?_
  rintro _ w_k5 ⟨rfl, hs_k5⟩
  have hz_k5 := hs_k5.size
  first | have hP := PSt.below hP hs_k5 | have hP := PSt.kp hP hs_k5 | skip
  first | have hB_o0 := Blk.below hB_o0 hs_k5 | have hB_o0 := Blk.kp hB_o0 hs_k5 (by omega) | skip
  first | have hB_o1 := Blk.below hB_o1 hs_k5 | have hB_o1 := Blk.kp hB_o1 hs_k5 (by omega) | skip
  first | have hz := EAt.below hz hs_k5 | have hz := EAt.kp hz hs_k5 (fun h_ => by have h2_ := hz_S _ h_; omega) | skip
  first | have hB_o7 := Blk.below hB_o7 hs_k5 | have hB_o7 := Blk.kp hB_o7 hs_k5 (by omega) | skip
  first | replace hs_k5 := Below.kp (p := p) hs_k5 | skip
  have hb := hb.trans hs_k5
  refine Wl.sg rfl rfl <| Wl.nil <| Wq.next hK_37 ?_
  refine Wc.cond rfl (fun c1_44 => ?_) (fun c1_44 => ?_)
  ·
   have c1_44_ := c1_44
   try simp only [DZ] at c1_44
   have h2 : isT en [wIs] r = true := c1_44_
   have hne := isT_ne h2
   have hr0 := List.length_pos_iff.2 hne
   have hrt : r.tail.length = r.length - 1 := List.length_tail
   refine Wc.seq fun _ hK_45 => Wc.region ?_
   refine Wl.l (l_load one56PsG rfl (by exact hB_o0.at (j := 0) rfl)) rfl ?_
   refine Wl.call txt38PsG rfl rfl (take_x p en r g b hne _ hP) rfl ?_
   rintro _ w_k6 ⟨⟨rfl, hP⟩, hs_k6⟩
   have hz_k6 := hs_k6.size
   first | have hP := PSt.below hP hs_k6 | have hP := PSt.kp hP hs_k6 | skip
   first | have hB_o0 := Blk.below hB_o0 hs_k6 | have hB_o0 := Blk.kp hB_o0 hs_k6 (by omega) | skip
   first | have hB_o1 := Blk.below hB_o1 hs_k6 | have hB_o1 := Blk.kp hB_o1 hs_k6 (by omega) | skip
   first | have hz := EAt.below hz hs_k6 | have hz := EAt.kp hz hs_k6 (fun h_ => by have h2_ := hz_S _ h_; omega) | skip
   first | have hB_o7 := Blk.below hB_o7 hs_k6 | have hB_o7 := Blk.kp hB_o7 hs_k6 (by omega) | skip
   first | replace hs_k6 := Below.kp (p := p) hs_k6 | skip
   have hb := hb.trans hs_k6
   refine Wl.nil <| Wq.next hK_45 <| Wc.seq fun _ hK_48 => Wc.region ?_
   refine Wl.l (l_load one56PsG rfl (by exact hB_o0.at (j := 0) rfl)) rfl ?_
   refine Wl.callP txt150PsG rfl rfl (text_r p en wNull r.tail g b _ hP) rfl (fun v_ w_k7 hv_ => ?_) (fun c_ w_k7 hx_ => ?_)
   rotate_left
   ·
    obtain ⟨a_k7, e_k7, hF_k7, rfl, hPp_k7, hs_k7⟩ := hx_
    have hz_k7 := hs_k7.size
    have hb := hb.trans hs_k7
    refine Wq.then_panic <| Wq.block_panic <| Wq.then_panic ?_
    refine panics ?_
    exact outX ⟨_, _, by simp [pTest, hF, h1, h2, hF_k7], rfl, hPp_k7, hb⟩
   obtain ⟨⟨t3, r3, hF3, rfl, hP, hrl3⟩, hs_k7⟩ := hv_
   have hz_k7 := hs_k7.size
   have hB_o1 := hB_o1.kp hs_k7 (by omega)
   try have hz := hz.kp hs_k7 (fun h_ => by have h2_ := hz_S _ h_; omega)
   have hB_o7 := hB_o7.kp hs_k7 (by omega)
   have hb := hb.trans hs_k7
   refine Wl.nil <| Wq.next hK_48 <| Wc.seq fun _ hK_51 => Wc.region ?_
   refine Wl.l (l_loadS Tryz.underlying28 (by kernel_rfl) rfl (by exact fun j u hu => hB_o7.at hu)) rfl ?_
   refine Wl.litN (sz := 7) (vs := [_]) Tryz.underlying26 (by kernel_rfl) rfl rfl rfl rfl rfl rfl ?_
   rintro g_b2 w_b2 hg_b2 hn_b2 hs_b2
   have hz_b2 := hs_b2.size
   have hP := hP.below hs_b2
   have hB_o1 := hB_o1.below hs_b2
   have hz := hz.below hs_b2
   replace hs_b2 := Below.kp (p := p) hs_b2
   have hb := hb.trans hs_b2
   have hB_b2 := hn_b2
   have hl_b2 := hB_b2.lt
   refine Wl.y (y_buildS (z := [(.int .i64 0), (str []), (.int .i64 0), (.int .i64 0), (.float .f64 0), (str []), (.slice none 0 0)]) (pl := [(0, 1), (1, 1), (2, 4), (6, 1)]) (cs := [_, _, _, _, _, _, _]) Tryz.underlying28 (by kernel_rfl) (by kernel_rfl) rfl rfl rfl) rfl ?_
   refine Wl.storeS (by kernel_rfl) rfl rfl hB_o1 rfl rfl ?_
   rintro w_s3 hn_s3 hg_s3
   have hz_s3 := hg_s3.size
   have hb := kp_blk hb hg_s3 (by omega)
   try have hP := PSt.over hP hg_s3 (by omega)
   try have hz := EAt.kp hz hg_s3 (fun h_ => by have h2_ := hz_S _ h_; omega)
   try have hB_b2 := hB_b2.over hg_s3 (by omega)
   have hB_o1 := hn_s3
   refine Wl.nil <| Wq.next hK_51 <| Wc.ret ?_
   refine Wq.block_ret (Wq.then_ret ?_)
   refine retN (rs := [.cell 2 28]) (vs := [_]) rfl (.cell rfl (loadS Tryz.underlying28 (by kernel_rfl) (fun j u hu => hB_o1.at hu)) .nil) ?_
   exact outR ⟨⟨.mk 3 wNullE nullV [x], r3, by simp [pTest, hF, h1, h2, hF3], ⟨⟨3, wNullE, nullV, some ⟨g_b2, 0, none⟩, 1, 1⟩, fun k => Sz k ∨ k = g_b2, rfl, EAt.node (kids := [x]) rfl (hB_b2.rd 1 7 rfl) (.inr rfl) ((ELs.one hz).mono fun _ h => .inl h), fun k hk => by rcases hk with h | h; (· have := hz_S k h; omega); (· have := hB_b2.lt; omega)⟩, hP, by omega⟩, hb⟩
  have c1_44_ := c1_44
  try simp only [DZ] at c1_44
  have h2 : isT en [wIs] r = false := c1_44_
  refine Wc.skip <| Wq.block_normal <| Wq.next hK_14 <| Wc.seq fun _ hK_55 => Wc.region ?_
  refine Wl.l (l_loadS Tryz.underlying28 (by kernel_rfl) rfl (by exact fun j u hu => hB_o7.at hu)) rfl ?_
  refine Wl.storeS (by kernel_rfl) rfl rfl hB_o1 rfl rfl ?_
  rintro w_s4 hn_s4 hg_s4
  have hz_s4 := hg_s4.size
  have hb := kp_blk hb hg_s4 (by omega)
  try have hP := PSt.over hP hg_s4 (by omega)
  try have hz := EAt.kp hz hg_s4 (fun h_ => by have h2_ := hz_S _ h_; omega)
  have hB_o1 := hn_s4
  refine Wl.nil <| Wq.next hK_55 <| Wc.ret ?_
  refine retN (rs := [.cell 2 28]) (vs := [_]) rfl (.cell rfl (loadS Tryz.underlying28 (by kernel_rfl) (fun j u hu => hB_o1.at hu)) .nil) ?_
  exact outR ⟨⟨x, r, by simp [pTest, hF, h1, h2], ⟨z, Sz, rfl, hz, fun k hk => by have := hz_S k hk; omega⟩, hP, by omega⟩, hb⟩
theorem test_d {p en g n : Nat} {knot : Nat → Pe} {w : World} (b : Nat) (hD : ExD w p en g n knot) : Does w p en g b (n + 1) 206 #[pptr p] #[] (pTest en b knot) EVal :=
  ⟨txtTe, fun w' ts hk hP hm => test_r p en ts g b n knot (by omega) w' hP (hD.kp hk)⟩
theorem expr1_r (p en : Nat) (ts : List Tok) (g b n g1 : Nat) (knot : Nat → Pe) (hm : ts.length < n + 1) (w : World) (hP : PSt w p en ts g b) (hg1 : g1 ≠ p) (hB : Blk w g1 56 [pptr p]) (hD : ExD w p en g n knot) : Out Tryz.prog 205 [gptr0 g1] w (PRes w p en g b ts (pTurned en wNot (pTest en b knot) 3 [110, 111, 116] ts) (EVal w.heap.size)) (PErr w p en g b (pTurned en wNot (pTest en b knot) 3 [110, 111, 116] ts)) := by
  have hpl := hP.lt
  have hl1_ := hB.lt
  have hb := Kp.refl p w
  refine enter Tryz.func205 rfl rfl rfl ?_
  refine Wc.seq fun _ hK_1 => Wc.region ?_
  refine Wl.allocN (z := (.agg #[(.int .i64 0), (str []), (.int .i64 0), (.int .i64 0), (.float .f64 0), (str []), (.slice none 0 0)])) (by kernel_rfl) rfl ?_
  rintro g_o0 w_o0 hg_o0 hn_o0 hs_o0
  have hz_o0 := hs_o0.size
  have hP := hP.below hs_o0
  have hB := hB.below hs_o0
  replace hs_o0 := Below.kp (p := p) hs_o0
  have hb := hb.trans hs_o0
  have hB_o0 := hn_o0
  have hl_o0 := hB_o0.lt
  refine Wl.nil <| Wq.next hK_1 <| Wc.seq fun _ hK_3 => Wc.region ?_
  refine Wl.l (l_load one56PsG rfl (by exact hB.at (j := 0) rfl)) rfl ?_
  refine Wl.l (l_load one56PsG rfl (by exact hB.at (j := 0) rfl)) rfl ?_
  refine Wl.y (y_makeFunc rfl rfl) rfl ?_
  refine Wl.y (y_buildS (z := [(.int .i64 0), (str []), (.int .i64 0), (.int .i64 0), (.float .f64 0), (str []), (.slice none 0 0)]) (pl := [(0, 1), (1, 1), (2, 4), (6, 1)]) (cs := [_, _, _, _, _, _, _]) Tryz.underlying28 (by kernel_rfl) (by kernel_rfl) rfl rfl rfl) rfl ?_
  refine Wl.callP txt201PsG rfl rfl (turned_r p en ts g b (n + 1) wNot 206 #[pptr p] #[] (pTest en b knot) 3 [110, 111, 116] hm _ hP (test_d b (hD.kp hb))) rfl (fun v_ w_k0 hv_ => ?_) (fun c_ w_k0 hx_ => ?_)
  rotate_left
  ·
   obtain ⟨a_k0, e_k0, hF_k0, rfl, hPp_k0, hs_k0⟩ := hx_
   have hz_k0 := hs_k0.size
   have hb := hb.trans hs_k0
   refine Wq.then_panic ?_
   refine panics ?_
   exact outX ⟨_, _, hF_k0, rfl, hPp_k0, hb⟩
  obtain ⟨⟨x, r, hF, ⟨z, Sz, rfl, hz, hz_S⟩, hP, hrl⟩, hs_k0⟩ := hv_
  have hz_k0 := hs_k0.size
  have hB_o0 := hB_o0.kp hs_k0 (by omega)
  have hb := hb.trans hs_k0
  refine Wl.storeS (by kernel_rfl) rfl rfl hB_o0 rfl rfl ?_
  rintro w_s0 hn_s0 hg_s0
  have hz_s0 := hg_s0.size
  have hb := kp_blk hb hg_s0 (by omega)
  try have hP := PSt.over hP hg_s0 (by omega)
  try have hz := EAt.kp hz hg_s0 (fun h_ => by have h2_ := hz_S _ h_; omega)
  have hB_o0 := hn_s0
  refine Wl.nil <| Wq.next hK_3 <| Wc.ret ?_
  refine retN (rs := [.cell 1 28]) (vs := [_]) rfl (.cell rfl (loadS Tryz.underlying28 (by kernel_rfl) (fun j u hu => hB_o0.at hu)) .nil) ?_
  exact outR ⟨⟨x, r, hF, ⟨z, Sz, rfl, hz, fun k hk => by have := hz_S k hk; omega⟩, hP, hrl⟩, hb⟩
theorem expr1_d {p en g n g1 : Nat} {knot : Nat → Pe} {w : World} (b : Nat) (hg1 : g1 ≠ p) (hB : Blk w g1 56 [pptr p]) (hD : ExD w p en g n knot) : Does w p en g b (n + 1) 205 #[] #[gptr0 g1] (pTurned en wNot (pTest en b knot) 3 [110, 111, 116]) EVal :=
  ⟨txtE1, fun w' ts hk hP hm => expr1_r p en ts g b n g1 knot hm w' hP hg1 (hB.kp hk hg1) (hD.kp hk)⟩
noncomputable def pAnd (en b : Nat) (knot : Nat → Pe) : Pe := pMany en (pTurned en wNot (pTest en b knot) 3 [110, 111, 116]) opE [wAnd]
theorem expr2_r (p en : Nat) (ts : List Tok) (g b n g1 g3 : Nat) (knot : Nat → Pe) (hm : ts.length < n + 1) (w : World) (hP : PSt w p en ts g b) (hg1 : g1 ≠ p) (hg3 : g3 ≠ p) (hB : Blk w g1 56 [pptr p]) (hB3 : Blk w g3 200 [.func (.func 205) #[] #[gptr0 g1]]) (hD : ExD w p en g n knot) : Out Tryz.prog 207 [gptr0 g1, gptr0 g3] w (PRes w p en g b ts (pAnd en b knot ts) (EVal w.heap.size)) (PErr w p en g b (pAnd en b knot ts)) := by
  have hpl := hP.lt
  have hl1_ := hB.lt
  have hl3_ := hB3.lt
  have hb := Kp.refl p w
  refine enter Tryz.func207 rfl rfl rfl ?_
  refine Wc.seq fun _ hK_1 => Wc.region ?_
  refine Wl.allocN (z := (.agg #[(.int .i64 0), (str []), (.int .i64 0), (.int .i64 0), (.float .f64 0), (str []), (.slice none 0 0)])) (by kernel_rfl) rfl ?_
  rintro g_o0 w_o0 hg_o0 hn_o0 hs_o0
  have hz_o0 := hs_o0.size
  have hP := hP.below hs_o0
  have hB := hB.below hs_o0
  have hB3 := hB3.below hs_o0
  replace hs_o0 := Below.kp (p := p) hs_o0
  have hb := hb.trans hs_o0
  have hB_o0 := hn_o0
  have hl_o0 := hB_o0.lt
  refine Wl.nil <| Wq.next hK_1 <| Wc.seq fun _ hK_3 => Wc.region ?_
  refine Wl.l (l_load one56PsG rfl (by exact hB.at (j := 0) rfl)) rfl ?_
  refine Wl.l (l_load one200PsG rfl (by exact hB3.at (j := 0) rfl)) rfl ?_
  refine Wl.litN (sz := 1) (vs := [_]) Tryz.underlying45 (by kernel_rfl) rfl rfl rfl rfl rfl rfl ?_
  rintro g_b0 w_b0 hg_b0 hn_b0 hs_b0
  have hz_b0 := hs_b0.size
  have hP := hP.below hs_b0
  have hB := hB.below hs_b0
  have hB_o0 := hB_o0.below hs_b0
  replace hs_b0 := Below.kp (p := p) hs_b0
  have hb := hb.trans hs_b0
  have hB_b0 := hn_b0
  have hl_b0 := hB_b0.lt
  refine Wl.callP txt204PsG rfl rfl (many_r p en ts g b (n + 1) 205 #[] #[gptr0 g1] (pTurned en wNot (pTest en b knot) 3 [110, 111, 116]) 208 #[] #[] opE _ 1 [wAnd] (by simp) hm _ hP (expr1_d b hg1 hB (hD.kp hb)) (opMade _ _ (by decide)) (hB_b0.rd 1 1 rfl) (fun q e => by cases e; show g_b0 ≠ p; omega)) rfl (fun v_ w_k0 hv_ => ?_) (fun c_ w_k0 hx_ => ?_)
  rotate_left
  ·
   obtain ⟨a_k0, e_k0, hF_k0, rfl, hPp_k0, hs_k0⟩ := hx_
   have hz_k0 := hs_k0.size
   have hb := hb.trans hs_k0
   refine Wq.then_panic ?_
   refine panics ?_
   exact outX ⟨_, _, hF_k0, rfl, hPp_k0, hb⟩
  obtain ⟨⟨x, r, hF, ⟨z, Sz, rfl, hz, hz_S⟩, hP, hrl⟩, hs_k0⟩ := hv_
  have hz_k0 := hs_k0.size
  have hB_o0 := hB_o0.kp hs_k0 (by omega)
  have hb := hb.trans hs_k0
  refine Wl.storeS (by kernel_rfl) rfl rfl hB_o0 rfl rfl ?_
  rintro w_s0 hn_s0 hg_s0
  have hz_s0 := hg_s0.size
  have hb := kp_blk hb hg_s0 (by omega)
  try have hP := PSt.over hP hg_s0 (by omega)
  try have hz := EAt.kp hz hg_s0 (fun h_ => by have h2_ := hz_S _ h_; omega)
  have hB_o0 := hn_s0
  refine Wl.nil <| Wq.next hK_3 <| Wc.ret ?_
  refine retN (rs := [.cell 2 28]) (vs := [_]) rfl (.cell rfl (loadS Tryz.underlying28 (by kernel_rfl) (fun j u hu => hB_o0.at hu)) .nil) ?_
  exact outR ⟨⟨x, r, hF, ⟨z, Sz, rfl, hz, fun k hk => by have := hz_S k hk; omega⟩, hP, hrl⟩, hb⟩
theorem expr2_d {p en g n g1 g3 : Nat} {knot : Nat → Pe} {w : World} (b : Nat) (hg1 : g1 ≠ p) (hg3 : g3 ≠ p) (hB : Blk w g1 56 [pptr p]) (hB3 : Blk w g3 200 [.func (.func 205) #[] #[gptr0 g1]]) (hD : ExD w p en g n knot) : Does w p en g b (n + 1) 207 #[] #[gptr0 g1, gptr0 g3] (pAnd en b knot) EVal :=
  ⟨txtE2, fun w' ts hk hP hm => expr2_r p en ts g b n g1 g3 knot hm w' hP hg1 hg3 (hB.kp hk hg1) (hB3.kp hk hg3) (hD.kp hk)⟩
theorem expr3_r (p en : Nat) (ts : List Tok) (g b n : Nat) (knot : Nat → Pe) (hm : ts.length < n + 1) (w : World) (hP : PSt w p en ts g b) (hD : ExD w p en g n knot) : Out Tryz.prog 182 [pptr p] w (PRes w p en g b ts (pExprF en b knot ts) (EVal w.heap.size)) (PErr w p en g b (pExprF en b knot ts)) := by
  have hpl := hP.lt
  have hb := Kp.refl p w
  refine enter Tryz.func182 rfl rfl rfl ?_
  refine Wc.seq fun _ hK_1 => Wc.region ?_
  refine Wl.boxN rfl rfl ?_
  rintro g_o0 w_o0 hg_o0 hn_o0 hs_o0
  have hz_o0 := hs_o0.size
  have hP := hP.below hs_o0
  replace hs_o0 := Below.kp (p := p) hs_o0
  have hb := hb.trans hs_o0
  have hB_o0 := hn_o0
  have hl_o0 := hB_o0.lt
  refine Wl.allocN (z := (.agg #[(.int .i64 0), (str []), (.int .i64 0), (.int .i64 0), (.float .f64 0), (str []), (.slice none 0 0)])) (by kernel_rfl) rfl ?_
  rintro g_o1 w_o1 hg_o1 hn_o1 hs_o1
  have hz_o1 := hs_o1.size
  have hP := hP.below hs_o1
  have hB_o0 := hB_o0.below hs_o1
  replace hs_o1 := Below.kp (p := p) hs_o1
  have hb := hb.trans hs_o1
  have hB_o1 := hn_o1
  have hl_o1 := hB_o1.lt
  refine Wl.nil <| Wq.next hK_1 <| Wc.seq fun _ hK_4 => Wc.region <| Wl.y (y_makeFunc rfl rfl) rfl ?_
  refine Wl.allocN (z := .nilFunc) (by kernel_rfl) rfl ?_
  rintro g_o3 w_o3 hg_o3 hn_o3 hs_o3
  have hz_o3 := hs_o3.size
  have hP := hP.below hs_o3
  have hB_o0 := hB_o0.below hs_o3
  have hB_o1 := hB_o1.below hs_o3
  replace hs_o3 := Below.kp (p := p) hs_o3
  have hb := hb.trans hs_o3
  have hB_o3 := hn_o3
  have hl_o3 := hB_o3.lt
  refine Wl.store1 one200PsG rfl rfl rfl hB_o3 ?_
  rintro w_s0 hn_s0 hg_s0
  have hz_s0 := hg_s0.size
  have hb := kp_blk hb hg_s0 (by omega)
  try have hP := PSt.over hP hg_s0 (by omega)
  try have hB_o0 := hB_o0.over hg_s0 (by omega)
  try have hB_o1 := hB_o1.over hg_s0 (by omega)
  have hB_o3 := hn_s0
  refine Wl.nil <| Wq.next hK_4 <| Wc.seq fun _ hK_7 => Wc.region <| Wl.y (y_makeFunc rfl rfl) rfl <| Wl.sg rfl rfl <| Wl.nil <| Wq.next hK_7 <| Wc.seq fun _ hK_10 => Wc.region ?_
  refine Wl.l (l_load one56PsG rfl (by exact hB_o0.at (j := 0) rfl)) rfl ?_
  refine Wl.mv rfl rfl ?_
  refine Wl.litN (sz := 1) (vs := [_]) Tryz.underlying45 (by kernel_rfl) rfl rfl rfl rfl rfl rfl ?_
  rintro g_b0 w_b0 hg_b0 hn_b0 hs_b0
  have hz_b0 := hs_b0.size
  have hP := hP.below hs_b0
  have hB_o0 := hB_o0.below hs_b0
  have hB_o1 := hB_o1.below hs_b0
  have hB_o3 := hB_o3.below hs_b0
  replace hs_b0 := Below.kp (p := p) hs_b0
  have hb := hb.trans hs_b0
  have hB_b0 := hn_b0
  have hl_b0 := hB_b0.lt
  refine Wl.callP txt204PsG rfl rfl (many_r p en ts g b (n + 1) 207 #[] #[gptr0 g_o0, gptr0 g_o3] (pAnd en b knot) 208 #[] #[] opE _ 1 [wOr] (by simp) hm _ hP (expr2_d b (by omega) (by omega) hB_o0 hB_o3 (hD.kp hb)) (opMade _ _ (by decide)) (hB_b0.rd 1 1 rfl) (fun q e => by cases e; show g_b0 ≠ p; omega)) rfl (fun v_ w_k0 hv_ => ?_) (fun c_ w_k0 hx_ => ?_)
  rotate_left
  ·
   obtain ⟨a_k0, e_k0, hF_k0, rfl, hPp_k0, hs_k0⟩ := hx_
   have hz_k0 := hs_k0.size
   have hb := hb.trans hs_k0
   refine Wq.then_panic ?_
   refine panics ?_
   exact outX ⟨_, _, hF_k0, rfl, hPp_k0, hb⟩
  obtain ⟨⟨x, r, hF, ⟨z, Sz, rfl, hz, hz_S⟩, hP, hrl⟩, hs_k0⟩ := hv_
  have hz_k0 := hs_k0.size
  have hB_o1 := hB_o1.kp hs_k0 (by omega)
  have hb := hb.trans hs_k0
  refine Wl.storeS (by kernel_rfl) rfl rfl hB_o1 rfl rfl ?_
  rintro w_s1 hn_s1 hg_s1
  have hz_s1 := hg_s1.size
  have hb := kp_blk hb hg_s1 (by omega)
  try have hP := PSt.over hP hg_s1 (by omega)
  try have hz := EAt.kp hz hg_s1 (fun h_ => by have h2_ := hz_S _ h_; omega)
  have hB_o1 := hn_s1
  refine Wl.nil <| Wq.next hK_10 <| Wc.ret ?_
  refine retN (rs := [.cell 2 28]) (vs := [_]) rfl (.cell rfl (loadS Tryz.underlying28 (by kernel_rfl) (fun j u hu => hB_o1.at hu)) .nil) ?_
  exact outR ⟨⟨x, r, hF, ⟨z, Sz, rfl, hz, fun k hk => by have := hz_S k hk; omega⟩, hP, hrl⟩, hb⟩
theorem expr_d (p en g : Nat) : ∀ (n b : Nat) (w : World), Does w p en g b n 182 #[pptr p] #[] (pExpr en n b) EVal
  | 0, b, w => ⟨txtEx, fun w' ts hk hP hm => absurd hm (Nat.not_lt_zero _)⟩
  | n + 1, b, w => ⟨txtEx, fun w' ts hk hP hm => expr3_r p en ts g b n (pExpr en n) hm w' hP fun b' => expr_d p en g n b' w'⟩
end Go.Proofs.YtjnabgddjogkbaaGreatDoor
namespace Go.Proofs.YtjnabgddjogkbaaGreatDoor
open Go.RowKit Go.Bw Go.Bw.Fl
set_option linter.unusedVariables false
set_option linter.unusedSimpArgs false
theorem fa31_1PsH (p : Addr) (w : World) : (Instr.fieldAt 31 (.pointer (some p)) 1).run Tryz.prog w = .ok (.pointer (some (p.add 1))) w := run_fieldAt (i := 1) (sz := 0) Tryz.underlying31 rfl (by kernel_rfl) p w
theorem fa31_3PsH (p : Addr) (w : World) : (Instr.fieldAt 31 (.pointer (some p)) 3).run Tryz.prog w = .ok (.pointer (some (p.add 3))) w := run_fieldAt (i := 3) (sz := 6) Tryz.underlying31 rfl (by kernel_rfl) p w
theorem fa31_4PsH (p : Addr) (w : World) : (Instr.fieldAt 31 (.pointer (some p)) 4).run Tryz.prog w = .ok (.pointer (some (p.add 10))) w := run_fieldAt (i := 4) (sz := 6) Tryz.underlying31 rfl (by kernel_rfl) p w
theorem fa60_0PsH (p : Addr) (w : World) : (Instr.fieldAt 60 (.pointer (some p)) 0).run Tryz.prog w = .ok (.pointer (some (p.add 0))) w := run_fieldAt (i := 0) (sz := 1) Tryz.underlying60 rfl (by kernel_rfl) p w
theorem one3PsH : One Tryz.prog 3 := ⟨_, Tryz.underlying3, rfl, by kernel_rfl⟩
theorem one9PsH : One Tryz.prog 9 := ⟨_, Tryz.underlying9, rfl, by kernel_rfl⟩
theorem txt181PsH : Txt Tryz.prog 181 := ⟨_, Tryz.func181, by kernel_rfl, rfl⟩   -- (*bridleway/parse.parser).labels
theorem txt182PsH : Txt Tryz.prog 182 := ⟨_, Tryz.func182, by kernel_rfl, rfl⟩   -- (*bridleway/parse.parser).expr
theorem txt36PsH : Txt Tryz.prog 36 := ⟨_, Tryz.func36, by kernel_rfl, rfl⟩   -- (*bridleway/parse.row).is
theorem txt38PsH : Txt Tryz.prog 38 := ⟨_, Tryz.func38, by kernel_rfl, rfl⟩   -- (*bridleway/parse.parser).take
theorem txt39PsH : Txt Tryz.prog 39 := ⟨_, Tryz.func39, by kernel_rfl, rfl⟩   -- (*bridleway/parse.row).next
/-- the cells of a pattern's value -/
structure PC where
  k : Int
  var : List UInt8
  dir : Int
  l : EC
  wh : EC
  mn : Int
  mx : Int
  A : Option Addr
  n : Nat
  c : Nat
def PC.cells (x : PC) : List Value := .int .i64 x.k :: str x.var :: .int .i64 x.dir :: (x.l.cells ++ (x.wh.cells ++ [.int .i64 x.mn, .int .i64 x.mx, .slice x.A x.n x.c]))
def PC.enc (x : PC) : Value := .agg x.cells.toArray
abbrev ec0 : EC := ⟨0, [], nullV, none, 0, 0⟩
mutual
/-- a pattern's cells, the rows of what is in it in blocks of S -/
def PAt (w : World) (S : Nat → Prop) : PatD → List Value → Prop
  | .mk k var dir l wh mn mx kids, cs => ∃ (lc wc : EC) (A : Option Addr) (c : Nat) (kcs : List Value), cs = PC.cells ⟨k, var, dir, lc, wc, mn, mx, A, kids.length, c⟩ ∧ EAt w S l lc.cells ∧ EAt w S wh wc.cells ∧ Rd w 20 A kids.length kcs ∧ (∀ q, A = some q → S q.block) ∧ PLs w S kids kcs ∧ kids.length ≤ 65537
def PLs (w : World) (S : Nat → Prop) : List PatD → List Value → Prop
  | [], xs => xs = []
  | e :: r, xs => ∃ c ys, xs = c ++ ys ∧ PAt w S e c ∧ PLs w S r ys
end
mutual
theorem PAt.lift {w w' : World} {S S' : Nat → Prop} (hk : Keeps w w' S) (hS : ∀ k, S k → S' k) : ∀ {e : PatD} {cs : List Value}, PAt w S e cs → PAt w' S' e cs
  | .mk k var dir l wh mn mx kids, cs, h => by
    unfold PAt at h ⊢
    obtain ⟨lc, wc, A, c, kcs, h1, h2, h3, h4, h5, h6, h7⟩ := h
    exact ⟨lc, wc, A, c, kcs, h1, EAt.lift hk hS h2, EAt.lift hk hS h3, hk.rd _ _ _ _ h4 h5, fun q e => hS _ (h5 q e), PLs.lift hk hS h6, h7⟩
theorem PLs.lift {w w' : World} {S S' : Nat → Prop} (hk : Keeps w w' S) (hS : ∀ k, S k → S' k) : ∀ {l : List PatD} {cs : List Value}, PLs w S l cs → PLs w' S' l cs
  | [], cs, h => by unfold PLs at h ⊢; exact h
  | e :: r, cs, h => by
    unfold PLs at h ⊢
    obtain ⟨c, ys, h1, h2, h3⟩ := h
    exact ⟨c, ys, h1, PAt.lift hk hS h2, PLs.lift hk hS h3⟩
end
section
variable {w w' : World} {S : Nat → Prop} {p : Nat} {e : PatD} {l : List PatD} {cs : List Value}
theorem PAt.mono {S' : Nat → Prop} (h : PAt w S e cs) (hS : ∀ k, S k → S' k) : PAt w S' e cs := PAt.lift (Keeps.refl _ _) hS h
theorem PAt.below (h : PAt w S e cs) (hb : Below w.heap.size w w') : PAt w' S e cs := PAt.lift (Keeps.below hb _) (fun _ h => h) h
theorem PAt.kp (h : PAt w S e cs) (hk : Kp p w w') (hp : ¬ S p) : PAt w' S e cs := PAt.lift (Keeps.kp hk hp) (fun _ h => h) h
theorem PLs.mono {S' : Nat → Prop} (h : PLs w S l cs) (hS : ∀ k, S k → S' k) : PLs w S' l cs := PLs.lift (Keeps.refl _ _) hS h
theorem PLs.below (h : PLs w S l cs) (hb : Below w.heap.size w w') : PLs w' S l cs := PLs.lift (Keeps.below hb _) (fun _ h => h) h
theorem PLs.kp (h : PLs w S l cs) (hk : Kp p w w') (hp : ¬ S p) : PLs w' S l cs := PLs.lift (Keeps.kp hk hp) (fun _ h => h) h
theorem PLs.snoc {e : PatD} {ds : List Value} : ∀ {l : List PatD} {cs : List Value}, PLs w S l cs → PAt w S e ds → PLs w S (l ++ [e]) (cs ++ ds)
  | [], cs, h, h2 => by
    unfold PLs at h
    subst h
    show PLs w S [e] ds
    unfold PLs PLs
    exact ⟨ds, [], by simp, h2, rfl⟩
  | f :: r, cs, h, h2 => by
    unfold PLs at h
    obtain ⟨c, ys, h1, h3, h4⟩ := h
    show PLs w S (f :: (r ++ [e])) (cs ++ ds)
    unfold PLs
    exact ⟨c, ys ++ ds, by rw [h1, List.append_assoc], h3, PLs.snoc h4 h2⟩
theorem PLs.one {e : PatD} {cs : List Value} (h : PAt w S e cs) : PLs w S [e] cs := by
  unfold PLs PLs; exact ⟨cs, [], by simp, h, rfl⟩
end
theorem PAt.nokids {w : World} {S : Nat → Prop} {k : Int} {var : List UInt8} {dir : Int} {l wh : ExprD} {mn mx : Int} {lc wc : EC} (hl : EAt w S l lc.cells) (hw : EAt w S wh wc.cells) : PAt w S (.mk k var dir l wh mn mx []) (PC.cells ⟨k, var, dir, lc, wc, mn, mx, none, 0, 0⟩) := by
  unfold PAt PLs
  exact ⟨lc, wc, none, 0, [], rfl, hl, hw, Rd.nil _ _ _, fun q e => (by cases e), rfl, Nat.zero_le _⟩
/-- a value that is a pattern, made since block B -/
def PVal (B : Nat) (e : PatD) (v : Value) (w : World) : Prop := ∃ (x : PC) (S : Nat → Prop), v = x.enc ∧ PAt w S e x.cells ∧ ∀ k, S k → B ≤ k ∧ k < w.heap.size
theorem noE_at (w : World) (S : Nat → Prop) : EAt w S noE ec0.cells := EAt.leafC w S 0 [] nullV
theorem filling_r (p en : Nat) (ts : List Tok) (g n : Nat) (k : Int) (hm : ts.length < n) (w : World) (hP : PSt w p en ts g 0) : Out Tryz.prog 149 [pptr p, PC.enc ⟨k, [], 0, ec0, ec0, 0, 0, none, 0, 0⟩] w (PRes w p en g 0 ts (pFill en n k ts) (PVal w.heap.size)) (PErr w p en g 0 (pFill en n k ts)) := by
  have hpl := hP.lt
  have hb := Kp.refl p w
  refine enter Tryz.func149 rfl rfl rfl ?_
  refine Wc.seq fun _ hK_1 => Wc.region ?_
  refine Wl.boxN rfl rfl ?_
  rintro g_o0 w_o0 hg_o0 hn_o0 hs_o0
  have hz_o0 := hs_o0.size
  have hP := hP.below hs_o0
  replace hs_o0 := Below.kp (p := p) hs_o0
  have hb := hb.trans hs_o0
  have hB_o0 := hn_o0
  have hl_o0 := hB_o0.lt
  refine Wl.allocN (z := (.agg #[(.int .i64 0), (str []), (.int .i64 0), (.int .i64 0), (str []), (.int .i64 0), (.int .i64 0), (.float .f64 0), (str []), (.slice none 0 0), (.int .i64 0), (str []), (.int .i64 0), (.int .i64 0), (.float .f64 0), (str []), (.slice none 0 0), (.int .i64 0), (.int .i64 0), (.slice none 0 0)])) (by kernel_rfl) rfl ?_
  rintro g_o1 w_o1 hg_o1 hn_o1 hs_o1
  have hz_o1 := hs_o1.size
  have hP := hP.below hs_o1
  have hB_o0 := hB_o0.below hs_o1
  replace hs_o1 := Below.kp (p := p) hs_o1
  have hb := hb.trans hs_o1
  have hB_o1 := hn_o1
  have hl_o1 := hB_o1.lt
  refine Wl.nil <| Wq.next hK_1 <| Wc.seq fun _ hK_4 => Wc.seq fun _ hK_5 => Wc.region <| Wl.mv rfl rfl <| Wl.y (y_nilCheck rfl) rfl ?_
  refine Wl.y (y_fieldAddr (fa60_0PsH _) rfl) rfl ?_
  refine Wl.call txt39PsH rfl rfl (next_x p en ts g 0 _ hP) rfl ?_
  rintro _ w_k0 ⟨rfl, hs_k0⟩
  have hz_k0 := hs_k0.size
  first | have hP := PSt.below hP hs_k0 | have hP := PSt.kp hP hs_k0 | skip
  first | have hB_o0 := Blk.below hB_o0 hs_k0 | have hB_o0 := Blk.kp hB_o0 hs_k0 (by omega) | skip
  first | have hB_o1 := Blk.below hB_o1 hs_k0 | have hB_o1 := Blk.kp hB_o1 hs_k0 (by omega) | skip
  first | replace hs_k0 := Below.kp (p := p) hs_k0 | skip
  have hb := hb.trans hs_k0
  refine Wl.y (y_fieldO Tryz.underlying43 rfl one3PsH rfl rfl) rfl ?_
  refine Wl.y (y_eqli rfl rfl) rfl <| Wl.nil <| Wq.next hK_5 ?_
  refine Wc.meet (X := List UInt8 × List Tok) (fun (var, r) => [(0, pptr p), (3, .pointer (some ⟨g_o0, 0, none⟩)), (4, .pointer (some ⟨g_o1, 0, none⟩))]) (fun (var, r) wr => pFill en n k ts = pFillL en n k var r ∧ r.length ≤ ts.length ∧ Kp p w wr ∧ PSt wr p en r g 0 ∧ Blk wr g_o0 31 (PC.cells ⟨k, var, 0, ec0, ec0, 0, 0, none, 0, 0⟩) ∧ Blk wr g_o1 31 (PC.cells ⟨0, [], 0, ec0, ec0, 0, 0, none, 0, 0⟩)) (fun _ hM_12 => ?_) ?_
  ·
   refine Wc.cond rfl (fun c0_13 => ?_) (fun c0_13 => ?_)
   ·
    have c0_13_ := c0_13
    try simp only [DZ] at c0_13
    have hk : (nextT en ts).k = 1 := by have := c0_13; omega
    have hne := nextT_k hk (by decide)
    obtain ⟨var, hvar⟩ : ∃ z, z = (nextT en ts).t := ⟨_, rfl⟩
    obtain ⟨r, hr_⟩ : ∃ z, z = ts.tail := ⟨_, rfl⟩
    have hpf : pFill en n k ts = pFillL en n k (nextT en ts).t ts.tail := if_pos hk
    have hrt : ts.tail.length ≤ ts.length := by rw [List.length_tail]; omega
    refine Wc.region <| Wl.mv rfl rfl ?_
    refine Wl.call txt38PsH rfl rfl (take_x p en ts g 0 hne _ hP) rfl ?_
    rintro _ w_k1 ⟨⟨rfl, hP⟩, hs_k1⟩
    have hz_k1 := hs_k1.size
    first | have hP := PSt.below hP hs_k1 | have hP := PSt.kp hP hs_k1 | skip
    first | have hB_o0 := Blk.below hB_o0 hs_k1 | have hB_o0 := Blk.kp hB_o0 hs_k1 (by omega) | skip
    first | have hB_o1 := Blk.below hB_o1 hs_k1 | have hB_o1 := Blk.kp hB_o1 hs_k1 (by omega) | skip
    first | replace hs_k1 := Below.kp (p := p) hs_k1 | skip
    have hb := hb.trans hs_k1
    refine Wl.y (y_fieldO Tryz.underlying43 rfl one9PsH rfl rfl) rfl ?_
    refine Wl.y (y_fieldAddr (fa31_1PsH _) rfl) rfl ?_
    refine Wl.storeB one9PsH rfl rfl rfl hB_o0 (by show 1 < 20; decide) ?_
    rintro w_s0 hn_s0 hg_s0
    have hz_s0 := hg_s0.size
    have hb := kp_blk hb hg_s0 (by omega)
    try have hP := PSt.over hP hg_s0 (by omega)
    try have hB_o1 := hB_o1.over hg_s0 (by omega)
    have hB_o0 := hn_s0
    refine Wl.nil ?_
    refine Wq.meet hM_12 (⟨var, r⟩) (by repeat first | exact Sub.nil | refine Sub.cons' rfl (by first | rfl | exact int_eq (by omega) | exact int_eq (by simp) | (simp; done)) ?_) ?_
    subst hvar; subst hr_; exact ⟨hpf, hrt, hb, hP, hB_o0, hB_o1⟩
   have c0_13_ := c0_13
   try simp only [DZ] at c0_13
   have hk : (nextT en ts).k ≠ 1 := by have := c0_13; omega
   obtain ⟨var, hvar⟩ : ∃ z : List UInt8, z = [] := ⟨_, rfl⟩
   obtain ⟨r, hr_⟩ : ∃ z, z = ts := ⟨_, rfl⟩
   have hpf : pFill en n k ts = pFillL en n k [] ts := if_neg hk
   have hrt : ts.length ≤ ts.length := Nat.le_refl _
   refine Wc.skip ?_
   refine Wq.meet hM_12 (⟨var, r⟩) (by repeat first | exact Sub.nil | refine Sub.cons' rfl (by first | rfl | exact int_eq (by omega) | exact int_eq (by simp) | (simp; done)) ?_) ?_
   subst hvar; subst hr_; exact ⟨hpf, hrt, hb, hP, hB_o0, hB_o1⟩
  rintro ⟨var, r⟩ wr hI_18
  replace hI_18 : pFill en n k ts = pFillL en n k var r ∧ r.length ≤ ts.length ∧ Kp p w wr ∧ PSt wr p en r g 0 ∧ Blk wr g_o0 31 (PC.cells ⟨k, var, 0, ec0, ec0, 0, 0, none, 0, 0⟩) ∧ Blk wr g_o1 31 (PC.cells ⟨0, [], 0, ec0, ec0, 0, 0, none, 0, 0⟩) := hI_18
  obtain ⟨hF, hrl, hb, hP, hB_o0, hB_o1⟩ := hI_18
  show Wq _ _ _ _ [(0, pptr p), (3, .pointer (some ⟨g_o0, 0, none⟩)), (4, .pointer (some ⟨g_o1, 0, none⟩))] _
  try have hzhb_c0 := hb.size
  have hlhB_o0_c0 := hB_o0.lt
  have hlhB_o1_c0 := hB_o1.lt
  refine Wq.next hK_4 <| Wc.seq fun _ hK_19 => Wc.seq fun _ hK_20 => Wc.region <| Wl.mv rfl rfl <| Wl.y (y_nilCheck rfl) rfl ?_
  refine Wl.y (y_fieldAddr (fa60_0PsH _) rfl) rfl ?_
  refine Wl.litN (sz := 1) (vs := [_]) Tryz.underlying45 (by kernel_rfl) rfl rfl rfl rfl rfl rfl ?_
  rintro g_b0 w_b0 hg_b0 hn_b0 hs_b0
  have hz_b0 := hs_b0.size
  have hP := hP.below hs_b0
  have hB_o0 := hB_o0.below hs_b0
  have hB_o1 := hB_o1.below hs_b0
  replace hs_b0 := Below.kp (p := p) hs_b0
  have hb := hb.trans hs_b0
  have hB_b0 := hn_b0
  have hl_b0 := hB_b0.lt
  refine Wl.call txt36PsH rfl rfl (is_r p en r g 0 _ 1 [[58]] (by simp) _ hP (hB_b0.rd 1 1 rfl)) rfl ?_
  rintro _ w_k2 ⟨rfl, hs_k2⟩
  have hz_k2 := hs_k2.size
  first | have hP := PSt.below hP hs_k2 | have hP := PSt.kp hP hs_k2 | skip
  first | have hB_o0 := Blk.below hB_o0 hs_k2 | have hB_o0 := Blk.kp hB_o0 hs_k2 (by omega) | skip
  first | have hB_o1 := Blk.below hB_o1 hs_k2 | have hB_o1 := Blk.kp hB_o1 hs_k2 (by omega) | skip
  first | replace hs_k2 := Below.kp (p := p) hs_k2 | skip
  have hb := hb.trans hs_k2
  refine Wl.nil <| Wq.next hK_20 ?_
  refine Wc.meet (X := EC × (Nat → Prop) × ExprD × List Tok) (fun (lx, Sl, le, r2) => [(0, pptr p), (3, .pointer (some ⟨g_o0, 0, none⟩)), (4, .pointer (some ⟨g_o1, 0, none⟩))]) (fun (lx, Sl, le, r2) wr => pFillL en n k var r = pFillW en n k var le r2 ∧ r2.length ≤ ts.length ∧ Kp p w wr ∧ PSt wr p en r2 g 0 ∧ EAt wr Sl le lx.cells ∧ (∀ q, Sl q → w.heap.size ≤ q ∧ q < wr.heap.size ∧ q ≠ g_o0 ∧ q ≠ g_o1) ∧ Blk wr g_o0 31 (PC.cells ⟨k, var, 0, lx, ec0, 0, 0, none, 0, 0⟩) ∧ Blk wr g_o1 31 (PC.cells ⟨0, [], 0, ec0, ec0, 0, 0, none, 0, 0⟩)) (fun _ hM_26 => ?_) ?_
  ·
   refine Wc.cond rfl (fun c1_27 => ?_) (fun c1_27 => ?_)
   ·
    have c1_27_ := c1_27
    try simp only [DZ] at c1_27
    have h1 : isT en [[58]] r = true := c1_27_
    have hr0 := List.length_pos_iff.2 (isT_ne h1)
    have hrt : r.tail.length = r.length - 1 := List.length_tail
    refine Wc.seq fun _ hK_28 => Wc.region <| Wl.mv rfl rfl ?_
    refine Wl.call txt38PsH rfl rfl (take_x p en r g 0 (isT_ne h1) _ hP) rfl ?_
    rintro _ w_k3 ⟨⟨rfl, hP⟩, hs_k3⟩
    have hz_k3 := hs_k3.size
    first | have hP := PSt.below hP hs_k3 | have hP := PSt.kp hP hs_k3 | skip
    first | have hB_o0 := Blk.below hB_o0 hs_k3 | have hB_o0 := Blk.kp hB_o0 hs_k3 (by omega) | skip
    first | have hB_o1 := Blk.below hB_o1 hs_k3 | have hB_o1 := Blk.kp hB_o1 hs_k3 (by omega) | skip
    first | replace hs_k3 := Below.kp (p := p) hs_k3 | skip
    have hb := hb.trans hs_k3
    refine Wl.nil <| Wq.next hK_28 <| Wc.region <| Wl.mv rfl rfl ?_
    refine Wl.callP txt181PsH rfl rfl ((labels_d p en g n 0 _).does _ r.tail (Kp.refl _ _) hP (by omega)) rfl (fun v_ w_k4 hv_ => ?_) (fun c_ w_k4 hx_ => ?_)
    rotate_left
    ·
     obtain ⟨a_k4, e_k4, hF_k4, rfl, hPp_k4, hs_k4⟩ := hx_
     have hz_k4 := hs_k4.size
     have hb := hb.trans hs_k4
     refine Wq.then_panic <| Wq.then_panic ?_
     refine panics ?_
     exact outX ⟨_, _, by rw [hF]; simp only [pFillL, if_pos h1, hF_k4], rfl, hPp_k4, hb⟩
    obtain ⟨⟨le, r2, hFl, ⟨lx, Sl, rfl, hl, hl_S⟩, hP, hrl2⟩, hs_k4⟩ := hv_
    have hz_k4 := hs_k4.size
    have hB_o0 := hB_o0.kp hs_k4 (by omega)
    have hB_o1 := hB_o1.kp hs_k4 (by omega)
    have hb := hb.trans hs_k4
    refine Wl.y (y_fieldAddr (fa31_3PsH _) rfl) rfl ?_
    refine Wl.storeBS (by kernel_rfl) rfl rfl rfl hB_o0 (by show 3 + 7 ≤ 20; decide) ?_
    rintro w_s1 hn_s1 hg_s1
    have hz_s1 := hg_s1.size
    have hb := kp_blk hb hg_s1 (by omega)
    try have hP := PSt.over hP hg_s1 (by omega)
    try have hB_o1 := hB_o1.over hg_s1 (by omega)
    try have hl := EAt.kp hl hg_s1 (fun h_ => by have h2_ := hl_S _ h_; omega)
    have hB_o0 := hn_s1
    refine Wl.nil ?_
    refine Wq.meet hM_26 (⟨lx, Sl, le, r2⟩) (by repeat first | exact Sub.nil | refine Sub.cons' rfl (by first | rfl | exact int_eq (by omega) | exact int_eq (by simp) | (simp; done)) ?_) ?_
    first | exact ⟨by simp only [pFillL, if_pos h1, hFl], by omega, hb, hP, hl, fun q hq => by have := hl_S q hq; omega, hB_o0, hB_o1⟩ | (obtain ⟨e1, e2, e3, e4⟩ := heq; subst e1 e2 e3 e4; exact ⟨if_neg (by rw [h1]; decide), hrl, hb, hP, noE_at _ _, fun q hq => hq.elim, hB_o0, hB_o1⟩)
   have c1_27_ := c1_27
   try simp only [DZ] at c1_27
   have h1 : isT en [[58]] r = false := c1_27_
   obtain ⟨lx, Sl, le, r2, heq⟩ : ∃ (a : EC) (b : Nat → Prop) (c : ExprD) (d : List Tok), a = ec0 ∧ b = (fun _ => False) ∧ c = noE ∧ d = r := ⟨_, _, _, _, rfl, rfl, rfl, rfl⟩
   refine Wc.skip ?_
   refine Wq.meet hM_26 (⟨lx, Sl, le, r2⟩) (by repeat first | exact Sub.nil | refine Sub.cons' rfl (by first | rfl | exact int_eq (by omega) | exact int_eq (by simp) | (simp; done)) ?_) ?_
   first | exact ⟨by simp only [pFillL, if_pos h1, hFl], by omega, hb, hP, hl, fun q hq => by have := hl_S q hq; omega, hB_o0, hB_o1⟩ | (obtain ⟨e1, e2, e3, e4⟩ := heq; subst e1 e2 e3 e4; exact ⟨if_neg (by rw [h1]; decide), hrl, hb, hP, noE_at _ _, fun q hq => hq.elim, hB_o0, hB_o1⟩)
  rintro ⟨lx, Sl, le, r2⟩ wr hI_34
  replace hI_34 : pFillL en n k var r = pFillW en n k var le r2 ∧ r2.length ≤ ts.length ∧ Kp p w wr ∧ PSt wr p en r2 g 0 ∧ EAt wr Sl le lx.cells ∧ (∀ q, Sl q → w.heap.size ≤ q ∧ q < wr.heap.size ∧ q ≠ g_o0 ∧ q ≠ g_o1) ∧ Blk wr g_o0 31 (PC.cells ⟨k, var, 0, lx, ec0, 0, 0, none, 0, 0⟩) ∧ Blk wr g_o1 31 (PC.cells ⟨0, [], 0, ec0, ec0, 0, 0, none, 0, 0⟩) := hI_34
  obtain ⟨hF2, hrl2, hb, hP, hl, hl_S, hB_o0, hB_o1⟩ := hI_34
  show Wq _ _ _ _ [(0, pptr p), (3, .pointer (some ⟨g_o0, 0, none⟩)), (4, .pointer (some ⟨g_o1, 0, none⟩))] _
  try have hzhb_c1 := hb.size
  have hlhB_o0_c1 := hB_o0.lt
  have hlhB_o1_c1 := hB_o1.lt
  refine Wq.next hK_19 <| Wc.seq fun _ hK_35 => Wc.seq fun _ hK_36 => Wc.region <| Wl.mv rfl rfl <| Wl.y (y_nilCheck rfl) rfl ?_
  refine Wl.y (y_fieldAddr (fa60_0PsH _) rfl) rfl ?_
  refine Wl.litN (sz := 1) (vs := [_]) Tryz.underlying45 (by kernel_rfl) rfl rfl rfl rfl rfl rfl ?_
  rintro g_b1 w_b1 hg_b1 hn_b1 hs_b1
  have hz_b1 := hs_b1.size
  have hP := hP.below hs_b1
  have hl := hl.below hs_b1
  have hB_o0 := hB_o0.below hs_b1
  have hB_o1 := hB_o1.below hs_b1
  replace hs_b1 := Below.kp (p := p) hs_b1
  have hb := hb.trans hs_b1
  have hB_b1 := hn_b1
  have hl_b1 := hB_b1.lt
  refine Wl.call txt36PsH rfl rfl (is_r p en r2 g 0 _ 1 [wWhere] (by simp) _ hP (hB_b1.rd 1 1 rfl)) rfl ?_
  rintro _ w_k5 ⟨rfl, hs_k5⟩
  have hz_k5 := hs_k5.size
  first | have hP := PSt.below hP hs_k5 | have hP := PSt.kp hP hs_k5 | skip
  first | have hl := EAt.below hl hs_k5 | have hl := EAt.kp hl hs_k5 (fun h_ => by have h2_ := hl_S _ h_; omega) | skip
  first | have hB_o0 := Blk.below hB_o0 hs_k5 | have hB_o0 := Blk.kp hB_o0 hs_k5 (by omega) | skip
  first | have hB_o1 := Blk.below hB_o1 hs_k5 | have hB_o1 := Blk.kp hB_o1 hs_k5 (by omega) | skip
  first | replace hs_k5 := Below.kp (p := p) hs_k5 | skip
  have hb := hb.trans hs_k5
  refine Wl.nil <| Wq.next hK_36 ?_
  refine Wc.cond rfl (fun c2_42 => ?_) (fun c2_42 => ?_)
  ·
   have c2_42_ := c2_42
   try simp only [DZ] at c2_42
   have h2 : isT en [wWhere] r2 = true := c2_42_
   have hr0 := List.length_pos_iff.2 (isT_ne h2)
   have hrt : r2.tail.length = r2.length - 1 := List.length_tail
   refine Wc.seq fun _ hK_43 => Wc.region <| Wl.mv rfl rfl ?_
   refine Wl.call txt38PsH rfl rfl (take_x p en r2 g 0 (isT_ne h2) _ hP) rfl ?_
   rintro _ w_k6 ⟨⟨rfl, hP⟩, hs_k6⟩
   have hz_k6 := hs_k6.size
   first | have hP := PSt.below hP hs_k6 | have hP := PSt.kp hP hs_k6 | skip
   first | have hl := EAt.below hl hs_k6 | have hl := EAt.kp hl hs_k6 (fun h_ => by have h2_ := hl_S _ h_; omega) | skip
   first | have hB_o0 := Blk.below hB_o0 hs_k6 | have hB_o0 := Blk.kp hB_o0 hs_k6 (by omega) | skip
   first | have hB_o1 := Blk.below hB_o1 hs_k6 | have hB_o1 := Blk.kp hB_o1 hs_k6 (by omega) | skip
   first | replace hs_k6 := Below.kp (p := p) hs_k6 | skip
   have hb := hb.trans hs_k6
   refine Wl.nil <| Wq.next hK_43 <| Wc.region <| Wl.mv rfl rfl ?_
   refine Wl.callP txt182PsH rfl rfl ((expr_d p en g n 0 _).does _ r2.tail (Kp.refl _ _) hP (by omega)) rfl (fun v_ w_k7 hv_ => ?_) (fun c_ w_k7 hx_ => ?_)
   rotate_left
   ·
    obtain ⟨a_k7, e_k7, hF_k7, rfl, hPp_k7, hs_k7⟩ := hx_
    have hz_k7 := hs_k7.size
    have hb := hb.trans hs_k7
    refine Wq.then_panic ?_
    refine panics ?_
    exact outX ⟨_, _, by rw [hF, hF2]; simp only [pFillW, if_pos h2, hF_k7], rfl, hPp_k7, hb⟩
   obtain ⟨⟨we, r3, hFw, ⟨wx, Sw, rfl, hw, hw_S⟩, hP, hrl3⟩, hs_k7⟩ := hv_
   have hz_k7 := hs_k7.size
   try have hl := hl.kp hs_k7 (fun h_ => by have h2_ := hl_S _ h_; omega)
   have hB_o0 := hB_o0.kp hs_k7 (by omega)
   have hB_o1 := hB_o1.kp hs_k7 (by omega)
   have hb := hb.trans hs_k7
   refine Wl.y (y_fieldAddr (fa31_4PsH _) rfl) rfl ?_
   refine Wl.storeBS (by kernel_rfl) rfl rfl rfl hB_o0 (by show 10 + 7 ≤ 20; decide) ?_
   rintro w_s2 hn_s2 hg_s2
   have hz_s2 := hg_s2.size
   have hb := kp_blk hb hg_s2 (by omega)
   try have hP := PSt.over hP hg_s2 (by omega)
   try have hl := EAt.kp hl hg_s2 (fun h_ => by have h2_ := hl_S _ h_; omega)
   try have hB_o1 := hB_o1.over hg_s2 (by omega)
   try have hw := EAt.kp hw hg_s2 (fun h_ => by have h2_ := hw_S _ h_; omega)
   have hB_o0 := hn_s2
   refine Wl.nil <| Wq.next hK_35 <| Wc.seq fun _ hK_49 => Wc.region ?_
   refine Wl.l (l_loadS Tryz.underlying31 (by kernel_rfl) rfl (by exact fun j u hu => hB_o0.at hu)) rfl ?_
   refine Wl.storeS (by kernel_rfl) rfl rfl hB_o1 rfl rfl ?_
   rintro w_s3 hn_s3 hg_s3
   have hz_s3 := hg_s3.size
   have hb := kp_blk hb hg_s3 (by omega)
   try have hP := PSt.over hP hg_s3 (by omega)
   try have hl := EAt.kp hl hg_s3 (fun h_ => by have h2_ := hl_S _ h_; omega)
   try have hw := EAt.kp hw hg_s3 (fun h_ => by have h2_ := hw_S _ h_; omega)
   have hB_o1 := hn_s3
   refine Wl.nil <| Wq.next hK_49 <| Wc.ret ?_
   refine retN (rs := [.cell 4 31]) (vs := [_]) rfl (.cell rfl (loadS Tryz.underlying31 (by kernel_rfl) (fun j u hu => hB_o1.at hu)) .nil) ?_
   exact outR ⟨⟨_, r3, by rw [hF, hF2]; simp only [pFillW, if_pos h2, hFw], ⟨⟨k, var, 0, lx, wx, 0, 0, none, 0, 0⟩, fun q => Sl q ∨ Sw q, rfl, PAt.nokids (hl.mono fun _ h => .inl h) (hw.mono fun _ h => .inr h), fun q hq => by rcases hq with h | h; (· have := hl_S q h; omega); (· have := hw_S q h; omega)⟩, hP, by omega⟩, hb⟩
  have c2_42_ := c2_42
  try simp only [DZ] at c2_42
  have h2 : isT en [wWhere] r2 = false := c2_42_
  refine Wc.skip <| Wq.next hK_35 <| Wc.seq fun _ hK_51 => Wc.region ?_
  refine Wl.l (l_loadS Tryz.underlying31 (by kernel_rfl) rfl (by exact fun j u hu => hB_o0.at hu)) rfl ?_
  refine Wl.storeS (by kernel_rfl) rfl rfl hB_o1 rfl rfl ?_
  rintro w_s3 hn_s3 hg_s3
  have hz_s3 := hg_s3.size
  have hb := kp_blk hb hg_s3 (by omega)
  try have hP := PSt.over hP hg_s3 (by omega)
  try have hl := EAt.kp hl hg_s3 (fun h_ => by have h2_ := hl_S _ h_; omega)
  have hB_o1 := hn_s3
  refine Wl.nil <| Wq.next hK_51 <| Wc.ret ?_
  refine retN (rs := [.cell 4 31]) (vs := [_]) rfl (.cell rfl (loadS Tryz.underlying31 (by kernel_rfl) (fun j u hu => hB_o1.at hu)) .nil) ?_
  exact outR ⟨⟨_, r2, by rw [hF, hF2]; exact if_neg (by rw [h2]; decide), ⟨⟨k, var, 0, lx, ec0, 0, 0, none, 0, 0⟩, Sl, rfl, PAt.nokids hl (noE_at _ _), fun q hq => by have := hl_S q hq; omega⟩, hP, hrl2⟩, hb⟩
end Go.Proofs.YtjnabgddjogkbaaGreatDoor
namespace Go.Proofs.YtjnabgddjogkbaaGreatDoor
open Go.RowKit Go.Bw Go.Bw.Fl
set_option linter.unusedVariables false
set_option linter.unusedSimpArgs false
theorem fa43_0PsI (p : Addr) (w : World) : (Instr.fieldAt 43 (.pointer (some p)) 0).run Tryz.prog w = .ok (.pointer (some (p.add 0))) w := run_fieldAt (i := 0) (sz := 0) Tryz.underlying43 rfl (by kernel_rfl) p w
theorem fa43_1PsI (p : Addr) (w : World) : (Instr.fieldAt 43 (.pointer (some p)) 1).run Tryz.prog w = .ok (.pointer (some (p.add 1))) w := run_fieldAt (i := 1) (sz := 0) Tryz.underlying43 rfl (by kernel_rfl) p w
theorem fa60_0PsI (p : Addr) (w : World) : (Instr.fieldAt 60 (.pointer (some p)) 0).run Tryz.prog w = .ok (.pointer (some (p.add 0))) w := run_fieldAt (i := 0) (sz := 1) Tryz.underlying60 rfl (by kernel_rfl) p w
theorem one3PsI : One Tryz.prog 3 := ⟨_, Tryz.underlying3, rfl, by kernel_rfl⟩
theorem one9PsI : One Tryz.prog 9 := ⟨_, Tryz.underlying9, rfl, by kernel_rfl⟩
theorem txt115PsI : Txt Tryz.prog 115 := ⟨_, Tryz.func115, by kernel_rfl, rfl⟩   -- bridleway/parse.ends
theorem txt116PsI : Txt Tryz.prog 116 := ⟨_, Tryz.func116, by kernel_rfl, rfl⟩   -- bridleway/parse.short
theorem txt36PsI : Txt Tryz.prog 36 := ⟨_, Tryz.func36, by kernel_rfl, rfl⟩   -- (*bridleway/parse.row).is
theorem txt39PsI : Txt Tryz.prog 39 := ⟨_, Tryz.func39, by kernel_rfl, rfl⟩   -- (*bridleway/parse.row).next
theorem mlook_none {k : List UInt8} : ∀ {kv : List (List UInt8 × Value)}, (∀ q ∈ kv, q.1 ≠ k) → mlook kv k = none
  | [], _ => rfl
  | (a, v) :: r, h => by
    have h1 : (a == k) = false := beq_eq_false_iff_ne.2 (h (a, v) (List.mem_cons_self ..))
    have h2 := mlook_none (kv := r) (k := k) fun q hq => h q (List.mem_cons_of_mem _ hq)
    unfold mlook at h2 ⊢
    rw [List.find?_cons, h1]
    exact h2
def shortKV : List (List UInt8 × Value) := [([45, 62], .int .i64 4), ([60, 45], .int .i64 1), ([126], .int .i64 2), ([60, 45, 62], .int .i64 5), ([60, 126], .int .i64 3), ([126, 62], .int .i64 6), ([45], .int .i64 7)]
theorem short_look (s : List UInt8) : (mlook shortKV s).getD (.int .i64 0) = .int .i64 (shortV s) := by
  by_cases h1 : s = [45, 62]
  · subst h1; rfl
  by_cases h2 : s = [60, 45]
  · subst h2; rfl
  by_cases h3 : s = [126]
  · subst h3; rfl
  by_cases h4 : s = [60, 45, 62]
  · subst h4; rfl
  by_cases h5 : s = [60, 126]
  · subst h5; rfl
  by_cases h6 : s = [126, 62]
  · subst h6; rfl
  by_cases h7 : s = [45]
  · subst h7; rfl
  rw [mlook_none (by
    intro q hq e
    simp only [shortKV, List.mem_cons, List.not_mem_nil, or_false] at hq
    rcases hq with rfl | rfl | rfl | rfl | rfl | rfl | rfl <;> simp_all)]
  unfold shortV
  simp only [if_neg h1, if_neg h2, if_neg h3, if_neg h4, if_neg h5, if_neg h6, if_neg h7]
  rfl
theorem short_r (s : List UInt8) (w : World) : Ret Tryz.prog 116 [str s] w fun v w' => v = .int .i64 (shortV s) ∧ Below w.heap.size w w' := by
  have hb := Below.refl w.heap.size w
  refine enter Tryz.func116 rfl rfl rfl ?_
  refine Wc.seq fun _ hK_1 => Wc.region <| Wl.sg rfl rfl <| Wl.nil <| Wq.next hK_1 <| Wc.seq fun _ hK_3 => Wc.region ?_
  refine Wl.makeMap rfl ?_
  rintro g_o1 w_o1 hg_o1 hn_o1 hs_o1
  have hz_o1 := hs_o1.size
  have hb := hb.trans (hs_o1.mono hb.size)
  have hM_o1 := hn_o1
  have hl_o1 := hM_o1.lt
  refine Wl.insert Tryz.underlying148 Tryz.underlying9 rfl rfl rfl hM_o1 (by rfl) ?_
  rintro w_o2 hn_o2 hg_o2
  have hz_o2 := hg_o2.size
  have hb := below_blk hb hg_o2 hb.size (by omega)
  have hM_o1 := hn_o2
  refine Wl.insert Tryz.underlying148 Tryz.underlying9 rfl rfl rfl hM_o1 (by rfl) ?_
  rintro w_o3 hn_o3 hg_o3
  have hz_o3 := hg_o3.size
  have hb := below_blk hb hg_o3 hb.size (by omega)
  have hM_o1 := hn_o3
  refine Wl.insert Tryz.underlying148 Tryz.underlying9 rfl rfl rfl hM_o1 (by rfl) ?_
  rintro w_o4 hn_o4 hg_o4
  have hz_o4 := hg_o4.size
  have hb := below_blk hb hg_o4 hb.size (by omega)
  have hM_o1 := hn_o4
  refine Wl.insert Tryz.underlying148 Tryz.underlying9 rfl rfl rfl hM_o1 (by rfl) ?_
  rintro w_o5 hn_o5 hg_o5
  have hz_o5 := hg_o5.size
  have hb := below_blk hb hg_o5 hb.size (by omega)
  have hM_o1 := hn_o5
  refine Wl.insert Tryz.underlying148 Tryz.underlying9 rfl rfl rfl hM_o1 (by rfl) ?_
  rintro w_o6 hn_o6 hg_o6
  have hz_o6 := hg_o6.size
  have hb := below_blk hb hg_o6 hb.size (by omega)
  have hM_o1 := hn_o6
  refine Wl.insert Tryz.underlying148 Tryz.underlying9 rfl rfl rfl hM_o1 (by rfl) ?_
  rintro w_o7 hn_o7 hg_o7
  have hz_o7 := hg_o7.size
  have hb := below_blk hb hg_o7 hb.size (by omega)
  have hM_o1 := hn_o7
  refine Wl.insert Tryz.underlying148 Tryz.underlying9 rfl rfl rfl hM_o1 (by rfl) ?_
  rintro w_o8 hn_o8 hg_o8
  have hz_o8 := hg_o8.size
  have hb := below_blk hb hg_o8 hb.size (by omega)
  have hM_o1 := hn_o8
  refine Wl.mv rfl rfl <| Wl.mv rfl rfl ?_
  refine Wl.l (l_lookup1 (z := (.int .i64 0)) Tryz.underlying148 Tryz.underlying9 (by kernel_rfl) rfl rfl (by exact hM_o1)) rfl ?_
  refine Wl.sg rfl rfl <| Wl.nil <| Wq.next hK_3 <| Wc.ret ?_
  refine ret1 rfl rfl ?_
  exact ⟨_, rfl, short_look s, hb⟩
def encKV (l : List (List UInt8 × Int)) : List (List UInt8 × Value) := l.map fun q => (q.1, .int .i64 q.2)
def EndsAt (w : World) (B : Nat) (s : List UInt8) (A : Option Nat) : Prop := (A = none ∧ endsKV s = []) ∨ ∃ g, A = some g ∧ Mp w g (encKV (endsKV s)) ∧ endsKV s ≠ [] ∧ B ≤ g
theorem EndsAt.some {w : World} {B : Nat} {s : List UInt8} {A : Option Nat} (h : EndsAt w B s A) : A.isSome = decide (endsKV s ≠ []) := by
  rcases h with ⟨h1, h2⟩ | ⟨g, h1, h2, h3, h4⟩
  · rw [h1, h2]; rfl
  · rw [h1]; simp [h3]
theorem ends_look {w : World} {B g1 g2 g3 g4 : Nat} (s : List UInt8) (h1 : Mp w g1 (encKV [([93, 45, 62], 4), ([93, 45], 7)])) (h2 : Mp w g2 (encKV [([93, 45], 1), ([93, 45, 62], 5)])) (h3 : Mp w g3 (encKV [([93, 126], 2), ([93, 126, 62], 6)])) (h4 : Mp w g4 (encKV [([93, 126], 3)])) (hB1 : B ≤ g1) (hB2 : B ≤ g2) (hB3 : B ≤ g3) (hB4 : B ≤ g4) :
    ∃ A, (mlook [([45, 91], .map (some g1)), ([60, 45, 91], .map (some g2)), ([126, 91], .map (some g3)), ([60, 126, 91], .map (some g4))] s).getD (.map none) = .map A ∧ EndsAt w B s A := by
  by_cases e1 : s = [45, 91]
  · subst e1; exact ⟨some g1, rfl, .inr ⟨g1, rfl, h1, by decide, hB1⟩⟩
  by_cases e2 : s = [60, 45, 91]
  · subst e2; exact ⟨some g2, rfl, .inr ⟨g2, rfl, h2, by decide, hB2⟩⟩
  by_cases e3 : s = [126, 91]
  · subst e3; exact ⟨some g3, rfl, .inr ⟨g3, rfl, h3, by decide, hB3⟩⟩
  by_cases e4 : s = [60, 126, 91]
  · subst e4; exact ⟨some g4, rfl, .inr ⟨g4, rfl, h4, by decide, hB4⟩⟩
  rw [mlook_none (by
    intro q hq e
    simp only [List.mem_cons, List.not_mem_nil, or_false] at hq
    rcases hq with rfl | rfl | rfl | rfl <;> simp_all)]
  exact ⟨none, rfl, .inl ⟨rfl, by unfold endsKV; simp only [if_neg e1, if_neg e2, if_neg e3, if_neg e4]⟩⟩
theorem ends_r (s : List UInt8) (w : World) : Ret Tryz.prog 115 [str s] w fun v w' => (∃ A, v = .map A ∧ EndsAt w' w.heap.size s A) ∧ Below w.heap.size w w' := by
  have hb := Below.refl w.heap.size w
  refine enter Tryz.func115 rfl rfl rfl ?_
  refine Wc.seq fun _ hK_1 => Wc.region <| Wl.sg rfl rfl <| Wl.nil <| Wq.next hK_1 <| Wc.seq fun _ hK_3 => Wc.region ?_
  refine Wl.makeMap rfl ?_
  rintro g_o1 w_o1 hg_o1 hn_o1 hs_o1
  have hz_o1 := hs_o1.size
  have hb := hb.trans (hs_o1.mono hb.size)
  have hM_o1 := hn_o1
  have hl_o1 := hM_o1.lt
  refine Wl.makeMap rfl ?_
  rintro g_o2 w_o2 hg_o2 hn_o2 hs_o2
  have hz_o2 := hs_o2.size
  have hb := hb.trans (hs_o2.mono hb.size)
  try have hM_o1 := Mp.below hM_o1 hs_o2
  have hM_o2 := hn_o2
  have hl_o2 := hM_o2.lt
  refine Wl.insert Tryz.underlying148 Tryz.underlying9 rfl rfl rfl hM_o2 (by rfl) ?_
  rintro w_o3 hn_o3 hg_o3
  have hz_o3 := hg_o3.size
  have hb := below_blk hb hg_o3 hb.size (by omega)
  try have hM_o1 := hM_o1.over hg_o3 (by omega)
  have hM_o2 := hn_o3
  refine Wl.insert Tryz.underlying148 Tryz.underlying9 rfl rfl rfl hM_o2 (by rfl) ?_
  rintro w_o4 hn_o4 hg_o4
  have hz_o4 := hg_o4.size
  have hb := below_blk hb hg_o4 hb.size (by omega)
  try have hM_o1 := hM_o1.over hg_o4 (by omega)
  have hM_o2 := hn_o4
  refine Wl.mv rfl rfl ?_
  refine Wl.insert Tryz.underlying180 Tryz.underlying9 rfl rfl rfl hM_o1 (by rfl) ?_
  rintro w_o6 hn_o6 hg_o6
  have hz_o6 := hg_o6.size
  have hb := below_blk hb hg_o6 hb.size (by omega)
  try have hM_o2 := hM_o2.over hg_o6 (by omega)
  have hM_o1 := hn_o6
  refine Wl.makeMap rfl ?_
  rintro g_o7 w_o7 hg_o7 hn_o7 hs_o7
  have hz_o7 := hs_o7.size
  have hb := hb.trans (hs_o7.mono hb.size)
  try have hM_o1 := Mp.below hM_o1 hs_o7
  try have hM_o2 := Mp.below hM_o2 hs_o7
  have hM_o7 := hn_o7
  have hl_o7 := hM_o7.lt
  refine Wl.insert Tryz.underlying148 Tryz.underlying9 rfl rfl rfl hM_o7 (by rfl) ?_
  rintro w_o8 hn_o8 hg_o8
  have hz_o8 := hg_o8.size
  have hb := below_blk hb hg_o8 hb.size (by omega)
  try have hM_o1 := hM_o1.over hg_o8 (by omega)
  try have hM_o2 := hM_o2.over hg_o8 (by omega)
  have hM_o7 := hn_o8
  refine Wl.insert Tryz.underlying148 Tryz.underlying9 rfl rfl rfl hM_o7 (by rfl) ?_
  rintro w_o9 hn_o9 hg_o9
  have hz_o9 := hg_o9.size
  have hb := below_blk hb hg_o9 hb.size (by omega)
  try have hM_o1 := hM_o1.over hg_o9 (by omega)
  try have hM_o2 := hM_o2.over hg_o9 (by omega)
  have hM_o7 := hn_o9
  refine Wl.mv rfl rfl ?_
  refine Wl.insert Tryz.underlying180 Tryz.underlying9 rfl rfl rfl hM_o1 (by rfl) ?_
  rintro w_o11 hn_o11 hg_o11
  have hz_o11 := hg_o11.size
  have hb := below_blk hb hg_o11 hb.size (by omega)
  try have hM_o2 := hM_o2.over hg_o11 (by omega)
  try have hM_o7 := hM_o7.over hg_o11 (by omega)
  have hM_o1 := hn_o11
  refine Wl.makeMap rfl ?_
  rintro g_o12 w_o12 hg_o12 hn_o12 hs_o12
  have hz_o12 := hs_o12.size
  have hb := hb.trans (hs_o12.mono hb.size)
  try have hM_o1 := Mp.below hM_o1 hs_o12
  try have hM_o2 := Mp.below hM_o2 hs_o12
  try have hM_o7 := Mp.below hM_o7 hs_o12
  have hM_o12 := hn_o12
  have hl_o12 := hM_o12.lt
  refine Wl.insert Tryz.underlying148 Tryz.underlying9 rfl rfl rfl hM_o12 (by rfl) ?_
  rintro w_o13 hn_o13 hg_o13
  have hz_o13 := hg_o13.size
  have hb := below_blk hb hg_o13 hb.size (by omega)
  try have hM_o1 := hM_o1.over hg_o13 (by omega)
  try have hM_o2 := hM_o2.over hg_o13 (by omega)
  try have hM_o7 := hM_o7.over hg_o13 (by omega)
  have hM_o12 := hn_o13
  refine Wl.insert Tryz.underlying148 Tryz.underlying9 rfl rfl rfl hM_o12 (by rfl) ?_
  rintro w_o14 hn_o14 hg_o14
  have hz_o14 := hg_o14.size
  have hb := below_blk hb hg_o14 hb.size (by omega)
  try have hM_o1 := hM_o1.over hg_o14 (by omega)
  try have hM_o2 := hM_o2.over hg_o14 (by omega)
  try have hM_o7 := hM_o7.over hg_o14 (by omega)
  have hM_o12 := hn_o14
  refine Wl.mv rfl rfl ?_
  refine Wl.insert Tryz.underlying180 Tryz.underlying9 rfl rfl rfl hM_o1 (by rfl) ?_
  rintro w_o16 hn_o16 hg_o16
  have hz_o16 := hg_o16.size
  have hb := below_blk hb hg_o16 hb.size (by omega)
  try have hM_o2 := hM_o2.over hg_o16 (by omega)
  try have hM_o7 := hM_o7.over hg_o16 (by omega)
  try have hM_o12 := hM_o12.over hg_o16 (by omega)
  have hM_o1 := hn_o16
  refine Wl.makeMap rfl ?_
  rintro g_o17 w_o17 hg_o17 hn_o17 hs_o17
  have hz_o17 := hs_o17.size
  have hb := hb.trans (hs_o17.mono hb.size)
  try have hM_o1 := Mp.below hM_o1 hs_o17
  try have hM_o2 := Mp.below hM_o2 hs_o17
  try have hM_o7 := Mp.below hM_o7 hs_o17
  try have hM_o12 := Mp.below hM_o12 hs_o17
  have hM_o17 := hn_o17
  have hl_o17 := hM_o17.lt
  refine Wl.insert Tryz.underlying148 Tryz.underlying9 rfl rfl rfl hM_o17 (by rfl) ?_
  rintro w_o18 hn_o18 hg_o18
  have hz_o18 := hg_o18.size
  have hb := below_blk hb hg_o18 hb.size (by omega)
  try have hM_o1 := hM_o1.over hg_o18 (by omega)
  try have hM_o2 := hM_o2.over hg_o18 (by omega)
  try have hM_o7 := hM_o7.over hg_o18 (by omega)
  try have hM_o12 := hM_o12.over hg_o18 (by omega)
  have hM_o17 := hn_o18
  refine Wl.mv rfl rfl ?_
  refine Wl.insert Tryz.underlying180 Tryz.underlying9 rfl rfl rfl hM_o1 (by rfl) ?_
  rintro w_o20 hn_o20 hg_o20
  have hz_o20 := hg_o20.size
  have hb := below_blk hb hg_o20 hb.size (by omega)
  try have hM_o2 := hM_o2.over hg_o20 (by omega)
  try have hM_o7 := hM_o7.over hg_o20 (by omega)
  try have hM_o12 := hM_o12.over hg_o20 (by omega)
  try have hM_o17 := hM_o17.over hg_o20 (by omega)
  have hM_o1 := hn_o20
  refine Wl.mv rfl rfl <| Wl.mv rfl rfl ?_
  refine Wl.l (l_lookup1 (z := (.map none)) Tryz.underlying180 Tryz.underlying9 (by kernel_rfl) rfl rfl (by exact hM_o1)) rfl ?_
  refine Wl.sg rfl rfl <| Wl.nil <| Wq.next hK_3 <| Wc.ret ?_
  refine ret1 rfl rfl ?_
  exact ⟨_, rfl, ends_look s hM_o2 hM_o7 hM_o12 hM_o17 (by omega) (by omega) (by omega) (by omega), hb⟩
theorem begins_r (p en : Nat) (ts : List Tok) (g b : Nat) (w : World) (hP : PSt w p en ts g b) : Ret Tryz.prog 89 [pptr p] w fun v w' => v = .bool (beginsT en ts) ∧ Below w.heap.size w w' := by
  have hb := Below.refl w.heap.size w
  have hP_hb := hP
  refine enter Tryz.func89 rfl rfl rfl ?_
  refine Wc.seq fun _ hK_1 => Wc.region <| Wl.sg rfl rfl <| Wl.nil <| Wq.next hK_1 <| Wc.seq fun _ hK_3 => Wc.region <| Wl.mv rfl rfl <| Wl.y (y_nilCheck rfl) rfl ?_
  refine Wl.y (y_fieldAddr (fa60_0PsI _) rfl) rfl ?_
  refine Wl.call txt39PsI rfl rfl (next_x p en ts g b _ hP) rfl ?_
  rintro _ w_k0 ⟨rfl, hs_k0⟩
  have hz_k0 := hs_k0.size
  have hb := hb.trans (hs_k0.mono hb.size)
  have hP := hP_hb.below hb
  refine Wl.allocN (z := (.agg #[(.int .i64 0), (str []), (.int .i64 0)])) (by kernel_rfl) rfl ?_
  rintro g_o4 w_o4 hg_o4 hn_o4 hs_o4
  have hz_o4 := hs_o4.size
  have hb := hb.trans (hs_o4.mono hb.size)
  have hP := hP_hb.below hb
  have hB_o4 := hn_o4
  have hl_o4 := hB_o4.lt
  refine Wl.storeS (by kernel_rfl) rfl rfl hB_o4 rfl rfl ?_
  rintro w_s0 hn_s0 hg_s0
  have hz_s0 := hg_s0.size
  have hb := below_blk hb hg_s0 hb.size (by omega)
  have hP := hP_hb.below hb
  have hB_o4 := hn_s0
  refine Wl.nil <| Wq.next hK_3 <| Wc.seq fun _ hK_9 => Wc.region <| Wl.mv rfl rfl <| Wl.y (y_nilCheck rfl) rfl ?_
  refine Wl.y (y_fieldAddr (fa60_0PsI _) rfl) rfl ?_
  refine Wl.litN (sz := 1) (vs := [_, _]) Tryz.underlying45 (by kernel_rfl) rfl rfl rfl rfl rfl rfl ?_
  rintro g_b0 w_b0 hg_b0 hn_b0 hs_b0
  have hz_b0 := hs_b0.size
  have hb := hb.trans (hs_b0.mono hb.size)
  have hP := hP_hb.below hb
  try have hB_o4 := Blk.below hB_o4 hs_b0
  have hB_b0 := hn_b0
  have hl_b0 := hB_b0.lt
  refine Wl.call txt36PsI rfl rfl (is_r p en ts g b _ 2 [[40], [91]] (by simp) _ hP (hB_b0.rd 2 1 rfl)) rfl ?_
  rintro _ w_k1 ⟨rfl, hs_k1⟩
  have hz_k1 := hs_k1.size
  have hb := hb.trans (hs_k1.mono hb.size)
  have hP := hP_hb.below hb
  try have hB_o4 := Blk.below hB_o4 hs_k1
  refine Wl.mv rfl rfl ?_
  refine Wl.guardF rfl rfl rfl (fun g_16 => ?_) (fun g_16 => ?_)
  ·
   have g_16_ := g_16
   try simp only [DZ] at g_16
   refine Wl.off' rfl rfl g_16_ rfl rfl <| Wl.off' rfl rfl g_16_ rfl rfl <| Wl.off' rfl rfl g_16_ rfl rfl <| Wl.offU rfl rfl rfl <| Wl.offU rfl rfl rfl <| Wl.offU rfl rfl rfl <| Wl.offU rfl rfl rfl <| Wl.offU rfl rfl rfl <| Wl.offU rfl rfl rfl <| Wl.offU rfl rfl rfl ?_
   refine Wl.offU rfl rfl rfl <| Wl.offU rfl rfl rfl <| Wl.offU rfl rfl rfl <| Wl.off' rfl rfl g_16_ rfl rfl ?_
   refine Wl.y (y_pickT rfl g_16_ rfl) rfl ?_
   refine Wl.sg rfl rfl <| Wl.nil <| Wq.next hK_9 <| Wc.ret ?_
   refine ret1 rfl rfl ?_
   exact ⟨_, rfl, bool_eq (by unfold beginsT; rw [Bool.eq_iff_iff]; simp_all <;> omega), hb⟩
  have g_16_ := g_16
  try simp only [DZ] at g_16
  refine Wl.y (y_fieldAddr (fa43_0PsI _) rfl) rfl ?_
  refine Wl.on' rfl rfl g_16_ ?_
  refine Wl.l (l_load one3PsI rfl (by exact hB_o4.at (j := 0) rfl)) rfl ?_
  refine Wl.on' rfl rfl g_16_ <| Wl.y (y_eqli rfl rfl) rfl <| Wl.on' rfl rfl g_16_ <| Wl.mv rfl rfl ?_
  refine Wl.guardT rfl rfl rfl (fun g_23 => ?_) (fun g_23 => ?_)
  ·
   have g_23_ := g_23
   try simp only [DZ] at g_23
   refine Wl.y (y_fieldAddr (fa43_1PsI _) rfl) rfl ?_
   refine Wl.on' rfl rfl g_23_ ?_
   refine Wl.l (l_load one9PsI rfl (by exact hB_o4.at (j := 1) rfl)) rfl ?_
   refine Wl.on' rfl rfl g_23_ ?_
   refine Wl.call txt115PsI rfl rfl (ends_r (nextT en ts).t _) rfl ?_
   rintro _ w_k2 ⟨⟨A, rfl, hA⟩, hs_k2⟩
   have hz_k2 := hs_k2.size
   have hb := hb.trans (hs_k2.mono hb.size)
   have hP := hP_hb.below hb
   try have hB_o4 := Blk.below hB_o4 hs_k2
   refine Wl.on' rfl rfl g_23_ ?_
   have hA2 := hA.some
   refine Wl.y (y_neqM Tryz.underlying148 rfl) rfl ?_
   refine Wl.on' rfl rfl g_23_ <| Wl.mv rfl rfl ?_
   refine Wl.guardF rfl rfl rfl (fun g_29 => ?_) (fun g_29 => ?_)
   ·
    have g_29_ := g_29
    try simp only [DZ] at g_29
    refine Wl.off' rfl rfl g_29_ rfl rfl <| Wl.off' rfl rfl g_29_ rfl rfl <| Wl.off' rfl rfl g_29_ rfl rfl <| Wl.on' rfl rfl g_23_ ?_
    refine Wl.y (y_pickT rfl g_29_ rfl) rfl ?_
    refine Wl.on' rfl rfl g_16_ ?_
    refine Wl.y (y_pickT rfl g_23_ rfl) rfl ?_
    refine Wl.y (y_pickF rfl g_16_ rfl) rfl ?_
    refine Wl.sg rfl rfl <| Wl.nil <| Wq.next hK_9 <| Wc.ret ?_
    refine ret1 rfl rfl ?_
    exact ⟨_, rfl, bool_eq (by unfold beginsT; rw [Bool.eq_iff_iff]; simp_all <;> omega), hb⟩
   have g_29_ := g_29
   try simp only [DZ] at g_29
   refine Wl.y (y_fieldAddr (fa43_1PsI _) rfl) rfl ?_
   refine Wl.on' rfl rfl g_29_ ?_
   refine Wl.l (l_load one9PsI rfl (by exact hB_o4.at (j := 1) rfl)) rfl ?_
   refine Wl.on' rfl rfl g_29_ ?_
   refine Wl.call txt116PsI rfl rfl (short_r (nextT en ts).t _) rfl ?_
   rintro _ w_k3 ⟨rfl, hs_k3⟩
   have hz_k3 := hs_k3.size
   have hb := hb.trans (hs_k3.mono hb.size)
   have hP := hP_hb.below hb
   refine Wl.on' rfl rfl g_29_ <| Wl.y (y_gtri rfl rfl) rfl <| Wl.on' rfl rfl g_23_ ?_
   refine Wl.y (y_pickF rfl g_29_ rfl) rfl ?_
   refine Wl.on' rfl rfl g_16_ ?_
   refine Wl.y (y_pickT rfl g_23_ rfl) rfl ?_
   refine Wl.y (y_pickF rfl g_16_ rfl) rfl ?_
   refine Wl.sg rfl rfl <| Wl.nil <| Wq.next hK_9 <| Wc.ret ?_
   refine ret1 rfl rfl ?_
   exact ⟨_, rfl, bool_eq (by unfold beginsT; rw [Bool.eq_iff_iff]; simp_all <;> omega), hb⟩
  have g_23_ := g_23
  try simp only [DZ] at g_23
  refine Wl.off' rfl rfl g_23_ rfl rfl <| Wl.off' rfl rfl g_23_ rfl rfl <| Wl.off' rfl rfl g_23_ rfl rfl <| Wl.off' rfl rfl g_23_ rfl rfl <| Wl.offU rfl rfl rfl <| Wl.offU rfl rfl rfl <| Wl.offU rfl rfl rfl <| Wl.offU rfl rfl rfl <| Wl.off' rfl rfl g_23_ rfl rfl <| Wl.on' rfl rfl g_16_ ?_
  refine Wl.y (y_pickF rfl g_23_ rfl) rfl ?_
  refine Wl.y (y_pickF rfl g_16_ rfl) rfl ?_
  refine Wl.sg rfl rfl <| Wl.nil <| Wq.next hK_9 <| Wc.ret ?_
  refine ret1 rfl rfl ?_
  exact ⟨_, rfl, bool_eq (by unfold beginsT; rw [Bool.eq_iff_iff]; simp_all <;> omega), hb⟩
end Go.Proofs.YtjnabgddjogkbaaGreatDoor
namespace Go.Proofs.YtjnabgddjogkbaaGreatDoor
open Go.RowKit Go.Bw Go.Bw.Fl
set_option linter.unusedVariables false
set_option linter.unusedSimpArgs false
theorem fa31_2PsJ (p : Addr) (w : World) : (Instr.fieldAt 31 (.pointer (some p)) 2).run Tryz.prog w = .ok (.pointer (some (p.add 2))) w := run_fieldAt (i := 2) (sz := 0) Tryz.underlying31 rfl (by kernel_rfl) p w
theorem fa43_1PsJ (p : Addr) (w : World) : (Instr.fieldAt 43 (.pointer (some p)) 1).run Tryz.prog w = .ok (.pointer (some (p.add 1))) w := run_fieldAt (i := 1) (sz := 0) Tryz.underlying43 rfl (by kernel_rfl) p w
theorem fa43_2PsJ (p : Addr) (w : World) : (Instr.fieldAt 43 (.pointer (some p)) 2).run Tryz.prog w = .ok (.pointer (some (p.add 2))) w := run_fieldAt (i := 2) (sz := 0) Tryz.underlying43 rfl (by kernel_rfl) p w
theorem fa60_0PsJ (p : Addr) (w : World) : (Instr.fieldAt 60 (.pointer (some p)) 0).run Tryz.prog w = .ok (.pointer (some (p.add 0))) w := run_fieldAt (i := 0) (sz := 1) Tryz.underlying60 rfl (by kernel_rfl) p w
theorem fa60_1PsJ (p : Addr) (w : World) : (Instr.fieldAt 60 (.pointer (some p)) 1).run Tryz.prog w = .ok (.pointer (some (p.add 2))) w := run_fieldAt (i := 1) (sz := 0) Tryz.underlying60 rfl (by kernel_rfl) p w
theorem one3PsJ : One Tryz.prog 3 := ⟨_, Tryz.underlying3, rfl, by kernel_rfl⟩
theorem one9PsJ : One Tryz.prog 9 := ⟨_, Tryz.underlying9, rfl, by kernel_rfl⟩
theorem txt115PsJ : Txt Tryz.prog 115 := ⟨_, Tryz.func115, by kernel_rfl, rfl⟩   -- bridleway/parse.ends
theorem txt116PsJ : Txt Tryz.prog 116 := ⟨_, Tryz.func116, by kernel_rfl, rfl⟩   -- bridleway/parse.short
theorem txt149PsJ : Txt Tryz.prog 149 := ⟨_, Tryz.func149, by kernel_rfl, rfl⟩   -- (*bridleway/parse.parser).filling
theorem txt150PsJ : Txt Tryz.prog 150 := ⟨_, Tryz.func150, by kernel_rfl, rfl⟩   -- (*bridleway/parse.parser).text
theorem txt151PsJ : Txt Tryz.prog 151 := ⟨_, Tryz.func151, by kernel_rfl, rfl⟩   -- bridleway/parse.within
theorem txt38PsJ : Txt Tryz.prog 38 := ⟨_, Tryz.func38, by kernel_rfl, rfl⟩   -- (*bridleway/parse.parser).take
theorem txt39PsJ : Txt Tryz.prog 39 := ⟨_, Tryz.func39, by kernel_rfl, rfl⟩   -- (*bridleway/parse.row).next
theorem txt41PsJ : Txt Tryz.prog 41 := ⟨_, Tryz.func41, by kernel_rfl, rfl⟩   -- (*bridleway/parse.parser).pattern
theorem txt42PsJ : Txt Tryz.prog 42 := ⟨_, Tryz.func42, by kernel_rfl, rfl⟩   -- (*bridleway/parse.parser).fail
theorem txt89PsJ : Txt Tryz.prog 89 := ⟨_, Tryz.func89, by kernel_rfl, rfl⟩   -- (*bridleway/parse.parser).begins
theorem EndsAt.below {w w' : World} {B : Nat} {s : List UInt8} {A : Option Nat} (h : EndsAt w B s A) (hb : Below w.heap.size w w') : EndsAt w' B s A := by
  rcases h with h | ⟨g, h1, h2, h3, h4⟩
  · exact .inl h
  · exact .inr ⟨g, h1, h2.below hb, h3, h4⟩
theorem dir_look (o c : List UInt8) : mlook (encKV (endsKV o)) c = (dirOf o c).map fun d => Value.int .i64 d := by
  unfold dirOf
  generalize endsKV o = l
  induction l with
  | nil => rfl
  | cons q r ih =>
    obtain ⟨k, d⟩ := q
    unfold mlook encKV at ih ⊢
    rw [List.map_cons, List.find?_cons, List.find?_cons]
    dsimp only
    cases k == c with
    | true => rfl
    | false => exact ih
theorem l_dir {N : Nat} {D : List Deferred} {env : Env} {w : World} {x i : Operand} {ty : TypeId} {g : Nat} {o c : List UInt8} (hx : ev env x = some (.map (some g))) (hi : ev env i = some (str c)) (hm : Mp w g (encKV (endsKV o))) : Ld Tryz.prog N D env w (.lookup 148 x i true) ty (.tuple #[.int .i64 ((dirOf o c).getD 0), .bool (dirOf o c).isSome]) := by
  have h := l_lookup (N := N) (D := D) (ty := ty) (z := .int .i64 0) Tryz.underlying148 Tryz.underlying9 (by kernel_rfl) hx hi hm
  rw [dir_look] at h
  cases hd : dirOf o c with
  | none => rw [hd] at h; exact h
  | some d => rw [hd] at h; exact h
theorem PAt.setDir {w : World} {S : Nat → Prop} {x : PatD} {z : PC} (d : Int) (h : PAt w S x z.cells) : PAt w S (x.setDir d) (PC.cells { z with dir := d }) := by
  obtain ⟨k, var, dir, l, wh, mn, mx, kids⟩ := x
  show PAt w S (.mk k var d l wh mn mx kids) _
  unfold PAt at h ⊢
  obtain ⟨lc, wc, A, c, kcs, h1, h2⟩ := h
  exact ⟨lc, wc, A, c, kcs, congrArg (fun l => l.set 2 (.int .i64 d)) h1, h2⟩
theorem begins_ends {en : Nat} {ts : List Tok} (h : beginsT en ts = true) (h1 : (nextT en ts).t ≠ [40]) (h2 : (nextT en ts).t ≠ [91]) (h3 : ¬ 0 < shortV (nextT en ts).t) : endsKV (nextT en ts).t ≠ [] := by
  unfold beginsT at h
  rcases Bool.or_eq_true _ _ ▸ h with h | h
  · have := isT_mem h
    simp [h1, h2] at this
  · rcases (of_decide_eq_true h).2 with h | h
    · exact h
    · exact absurd h h3
theorem begins_ne {en : Nat} {ts : List Tok} (h : beginsT en ts = true) : ts ≠ [] := fun e => by
  subst e
  unfold beginsT at h
  rcases Bool.or_eq_true _ _ ▸ h with h | h
  · exact isT_ne h rfl
  · exact absurd (of_decide_eq_true h).1 (by show ¬ (0 = 5); decide)
abbrev pc0 : PC := ⟨0, [], 0, ec0, ec0, 0, 0, none, 0, 0⟩
abbrev PatKn (w : World) (p en n : Nat) (knot : Nat → List Tok → Res PatD) : Prop := ∀ g', Does w p en g' 0 n 41 #[pptr p] #[] (knot g') PVal
theorem PatKn.kp {w w' : World} {p en n : Nat} {knot : Nat → List Tok → Res PatD} (h : PatKn w p en n knot) (hk : Kp p w w') : PatKn w' p en n knot := fun g' => (h g').kp hk
theorem primary_r (p en : Nat) (ts : List Tok) (g m n : Nat) (knot : Nat → List Tok → Res PatD) (hm : ts.length ≤ m) (hn : ts.length ≤ n) (w : World) (hP : PSt w p en ts g 0) (hD : PatKn w p en n knot) : Out Tryz.prog 113 [pptr p] w (PRes w p en g 0 ts.tail (pPrimary en m g knot ts) (PVal w.heap.size)) (PErr w p en g 0 (pPrimary en m g knot ts)) := by
  have hpl := hP.lt
  have hb := Kp.refl p w
  refine enterD Tryz.func113 rfl rfl rfl ?_
  refine Wc.seqD fun _ hK_1 => ?_
  refine Wc.region ?_
  refine Wl.allocN (z := (.agg #[(.int .i64 0), (str []), (.int .i64 0), (.int .i64 0), (str []), (.int .i64 0), (.int .i64 0), (.float .f64 0), (str []), (.slice none 0 0), (.int .i64 0), (str []), (.int .i64 0), (.int .i64 0), (.float .f64 0), (str []), (.slice none 0 0), (.int .i64 0), (.int .i64 0), (.slice none 0 0)])) (by kernel_rfl) rfl ?_
  rintro g_o0 w_o0 hg_o0 hn_o0 hs_o0
  have hz_o0 := hs_o0.size
  have hP := hP.below hs_o0
  replace hs_o0 := Below.kp (p := p) hs_o0
  have hb := hb.trans hs_o0
  have hB_o0 := hn_o0
  have hl_o0 := hB_o0.lt
  refine Wl.nil ?_
  refine Wq.nextD hK_1 ?_
  refine Wc.seqD fun _ hK_3 => ?_
  refine Wc.seqD fun _ hK_4 => ?_
  refine Wc.region <| Wl.mv rfl rfl ?_
  refine Wl.call txt89PsJ rfl rfl (begins_r p en ts g 0 _ hP) rfl ?_
  rintro _ w_k0 ⟨rfl, hs_k0⟩
  have hz_k0 := hs_k0.size
  first | have hP := PSt.below hP hs_k0 | have hP := PSt.kp hP hs_k0 | skip
  first | have hB_o0 := Blk.below hB_o0 hs_k0 | have hB_o0 := Blk.kp hB_o0 hs_k0 (by omega) | skip
  first | replace hs_k0 := Below.kp (p := p) hs_k0 | skip
  have hb := hb.trans hs_k0
  refine Wl.y (y_not rfl) rfl <| Wl.nil ?_
  refine Wq.nextD hK_4 ?_
  refine Wc.cond rfl (fun c0_8 => ?_) (fun c0_8 => ?_)
  ·
   have c0_8_ := c0_8
   try simp only [DZ] at c0_8
   have h0 : beginsT en ts = false := by have := c0_8_; simpa using this
   refine Wc.region <| Wl.mv rfl rfl ?_
   refine Wl.callP txt42PsJ rfl rfl (fail_r p en ts g 0 _ hP) rfl (fun v_ w_k1 hv_ => ?_) (fun c_ w_k1 hx_ => ?_)
   rotate_left
   ·
    obtain ⟨a_k1, e_k1, hF_k1, rfl, hPp_k1, hs_k1⟩ := hx_
    have hz_k1 := hs_k1.size
    have hb := hb.trans hs_k1
    refine Wq.then_panic ?_
    refine Wq.dPanic ?_
    cases hF_k1; exact outX ⟨_, _, by simp only [pPrimary, if_pos h0], rfl, hPp_k1, hb⟩
   exact hv_.elim
  have c0_8_ := c0_8
  try simp only [DZ] at c0_8
  have h0 : beginsT en ts = true := by have := c0_8_; simpa using this
  have h0' : ¬ beginsT en ts = false := by rw [h0]; decide
  have hne := begins_ne h0
  have hr0 := List.length_pos_iff.2 hne
  have hrt : ts.tail.length = ts.length - 1 := List.length_tail
  refine Wc.skip ?_
  refine Wq.nextD hK_3 ?_
  refine Wc.seqD fun _ hK_11 => ?_
  refine Wc.region <| Wl.mv rfl rfl ?_
  refine Wl.call txt38PsJ rfl rfl (take_x p en ts g 0 hne _ hP) rfl ?_
  rintro _ w_k2 ⟨⟨rfl, hP⟩, hs_k2⟩
  have hz_k2 := hs_k2.size
  first | have hP := PSt.below hP hs_k2 | have hP := PSt.kp hP hs_k2 | skip
  first | have hB_o0 := Blk.below hB_o0 hs_k2 | have hB_o0 := Blk.kp hB_o0 hs_k2 (by omega) | skip
  first | replace hs_k2 := Below.kp (p := p) hs_k2 | skip
  have hb := hb.trans hs_k2
  refine Wl.allocN (z := (.agg #[(.int .i64 0), (str []), (.int .i64 0)])) (by kernel_rfl) rfl ?_
  rintro g_o5 w_o5 hg_o5 hn_o5 hs_o5
  have hz_o5 := hs_o5.size
  have hP := hP.below hs_o5
  have hB_o0 := hB_o0.below hs_o5
  replace hs_o5 := Below.kp (p := p) hs_o5
  have hb := hb.trans hs_o5
  have hB_o5 := hn_o5
  have hl_o5 := hB_o5.lt
  refine Wl.storeS (by kernel_rfl) rfl rfl hB_o5 rfl rfl ?_
  rintro w_s0 hn_s0 hg_s0
  have hz_s0 := hg_s0.size
  have hb := kp_blk hb hg_s0 (by omega)
  try have hP := PSt.over hP hg_s0 (by omega)
  try have hB_o0 := hB_o0.over hg_s0 (by omega)
  have hB_o5 := hn_s0
  refine Wl.nil ?_
  refine Wq.nextD hK_11 ?_
  refine Wc.seqD fun _ hK_15 => ?_
  refine Wc.seqD fun _ hK_16 => ?_
  refine Wc.region ?_
  refine Wl.y (y_fieldAddr (fa43_1PsJ _) rfl) rfl ?_
  refine Wl.l (l_load one9PsJ rfl (by exact hB_o5.at (j := 1) rfl)) rfl ?_
  refine Wl.nil ?_
  refine Wq.nextD hK_16 ?_
  refine Wc.block ?_
  refine Wc.seqD fun _ hK_19 => ?_
  refine Wc.region <| Wl.y (y_eqls rfl rfl) rfl <| Wl.sg rfl rfl <| Wl.nil ?_
  refine Wq.nextD hK_19 ?_
  refine Wc.cond rfl (fun c1_22 => ?_) (fun c1_22 => ?_)
  ·
   have c1_22_ := c1_22
   try simp only [DZ] at c1_22
   have h1 : (nextT en ts).t = [40] := by have := c1_22; simpa using this
   refine Wc.seqD fun _ hK_23 => ?_
   refine Wc.region <| Wl.mv rfl rfl ?_
   refine Wl.y (y_buildS (z := [(.int .i64 0), (str []), (.int .i64 0), (.int .i64 0), (str []), (.int .i64 0), (.int .i64 0), (.float .f64 0), (str []), (.slice none 0 0), (.int .i64 0), (str []), (.int .i64 0), (.int .i64 0), (.float .f64 0), (str []), (.slice none 0 0), (.int .i64 0), (.int .i64 0), (.slice none 0 0)]) (pl := [(0, 1), (1, 1), (2, 1), (3, 7), (10, 7), (17, 1), (18, 1), (19, 1)]) (cs := [_, _, _, _, _, _, _, _, _, _, _, _, _, _, _, _, _, _, _, _]) Tryz.underlying31 (by kernel_rfl) (by kernel_rfl) rfl rfl rfl) rfl ?_
   refine Wl.callP txt149PsJ rfl rfl (filling_r p en ts.tail g m 1 (by omega) _ hP) rfl (fun v_ w_k3 hv_ => ?_) (fun c_ w_k3 hx_ => ?_)
   rotate_left
   ·
    obtain ⟨a_k3, e_k3, hF_k3, rfl, hPp_k3, hs_k3⟩ := hx_
    have hz_k3 := hs_k3.size
    have hb := hb.trans hs_k3
    refine Wq.then_panic <| Wq.block_panic <| Wq.then_panic ?_
    refine Wq.dPanic ?_
    exact outX ⟨_, _, by simp only [pPrimary, if_neg h0', if_pos h1, hF_k3], rfl, hPp_k3, hb⟩
   obtain ⟨⟨x, r, hF, ⟨z, Sz, rfl, hz, hz_S⟩, hP, hrl⟩, hs_k3⟩ := hv_
   have hz_k3 := hs_k3.size
   have hB_o0 := hB_o0.kp hs_k3 (by omega)
   have hb := hb.trans hs_k3
   refine Wl.allocN (z := (.agg #[(.int .i64 0), (str []), (.int .i64 0), (.int .i64 0), (str []), (.int .i64 0), (.int .i64 0), (.float .f64 0), (str []), (.slice none 0 0), (.int .i64 0), (str []), (.int .i64 0), (.int .i64 0), (.float .f64 0), (str []), (.slice none 0 0), (.int .i64 0), (.int .i64 0), (.slice none 0 0)])) (by kernel_rfl) rfl ?_
   rintro g_o11 w_o11 hg_o11 hn_o11 hs_o11
   have hz_o11 := hs_o11.size
   have hP := hP.below hs_o11
   have hB_o0 := hB_o0.below hs_o11
   have hz := hz.below hs_o11
   replace hs_o11 := Below.kp (p := p) hs_o11
   have hb := hb.trans hs_o11
   have hB_o11 := hn_o11
   have hl_o11 := hB_o11.lt
   refine Wl.storeS (by kernel_rfl) rfl rfl hB_o11 rfl rfl ?_
   rintro w_s1 hn_s1 hg_s1
   have hz_s1 := hg_s1.size
   have hb := kp_blk hb hg_s1 (by omega)
   try have hP := PSt.over hP hg_s1 (by omega)
   try have hB_o0 := hB_o0.over hg_s1 (by omega)
   try have hz := PAt.kp hz hg_s1 (fun h_ => by have h2_ := hz_S _ h_; omega)
   have hB_o11 := hn_s1
   refine Wl.nil ?_
   refine Wq.nextD hK_23 ?_
   refine Wc.seqD fun _ hK_28 => ?_
   refine Wc.region <| Wl.mv rfl rfl ?_
   refine Wl.callP txt150PsJ rfl rfl (text_r p en [41] r g 0 _ hP) rfl (fun v_ w_k4 hv_ => ?_) (fun c_ w_k4 hx_ => ?_)
   rotate_left
   ·
    obtain ⟨a_k4, e_k4, hF_k4, rfl, hPp_k4, hs_k4⟩ := hx_
    have hz_k4 := hs_k4.size
    have hb := hb.trans hs_k4
    refine Wq.then_panic <| Wq.block_panic <| Wq.then_panic ?_
    refine Wq.dPanic ?_
    exact outX ⟨_, _, by simp only [pPrimary, if_neg h0', if_pos h1, hF, hF_k4], rfl, hPp_k4, hb⟩
   obtain ⟨⟨t4, r4, hF4, rfl, hP, hrl4⟩, hs_k4⟩ := hv_
   have hz_k4 := hs_k4.size
   have hB_o0 := hB_o0.kp hs_k4 (by omega)
   try have hz := hz.kp hs_k4 (fun h_ => by have h2_ := hz_S _ h_; omega)
   have hB_o11 := hB_o11.kp hs_k4 (by omega)
   have hb := hb.trans hs_k4
   refine Wl.nil ?_
   refine Wq.nextD hK_28 ?_
   refine Wc.seqD fun _ hK_31 => ?_
   refine Wc.region ?_
   refine Wl.l (l_loadS Tryz.underlying31 (by kernel_rfl) rfl (by exact fun j u hu => hB_o11.at hu)) rfl ?_
   refine Wl.storeS (by kernel_rfl) rfl rfl hB_o0 rfl rfl ?_
   rintro w_s2 hn_s2 hg_s2
   have hz_s2 := hg_s2.size
   have hb := kp_blk hb hg_s2 (by omega)
   try have hP := PSt.over hP hg_s2 (by omega)
   try have hz := PAt.kp hz hg_s2 (fun h_ => by have h2_ := hz_S _ h_; omega)
   have hB_o0 := hn_s2
   refine Wl.nil ?_
   refine Wq.nextD hK_31 ?_
   refine Wc.ret ?_
   refine Wq.block_ret (Wq.then_ret ?_)
   refine Wq.dRet ?_
   refine retN (rs := [.cell 2 31]) (vs := [_]) rfl (.cell rfl (loadS Tryz.underlying31 (by kernel_rfl) (fun j u hu => hB_o0.at hu)) .nil) ?_
   exact outR ⟨⟨x, r4, by simp only [pPrimary, if_neg h0', if_pos h1, hF, hF4], ⟨z, Sz, rfl, hz, fun k hk => by have := hz_S k hk; omega⟩, hP, by omega⟩, hb⟩
  have c1_22_ := c1_22
  try simp only [DZ] at c1_22
  have h1 : (nextT en ts).t ≠ [40] := by have := c1_22; simpa using this
  refine Wc.seqD fun _ hK_33 => ?_
  refine Wc.region <| Wl.y (y_eqls rfl rfl) rfl <| Wl.sg rfl rfl <| Wl.nil ?_
  refine Wq.nextD hK_33 ?_
  refine Wc.cond rfl (fun c2_36 => ?_) (fun c2_36 => ?_)
  ·
   have c2_36_ := c2_36
   try simp only [DZ] at c2_36
   have h2 : (nextT en ts).t = [91] := by have := c2_36; simpa using this
   refine Wc.seqD fun _ hK_37 => ?_
   refine Wc.any (n := 7) (fun w' => Kp p w w' ∧ Blk w' g_o5 43 [.int .i64 ((nextT en ts).k : Int), str (nextT en ts).t, .int .i64 ((nextT en ts).a : Int)] ∧ ∃ cs, Blk w' g_o0 31 cs) #[false, false, false, false, false, false, false] (by kernel_rfl) rfl (by kernel_rfl) ?_
   refine Wa.drew ?_
   rintro w_g10 hs_g10
   have hz_g10 := hs_g10.size
   have hP := hP.below hs_g10
   have hB_o0 := hB_o0.below hs_g10
   have hB_o5 := hB_o5.below hs_g10
   replace hs_g10 := Below.kp (p := p) hs_g10
   have hb := hb.trans hs_g10
   refine Wa.take (i := 0) #[true, false, false, false, false, false, false] rfl (by kernel_rfl) (fun _ _ _ h => leaves_put rfl rfl h) rfl (fun wq hq => Yl.ld (y_move rfl)) ⟨hb, hB_o5, _, hB_o0⟩ ?_
   refine Wa.take (i := 1) #[true, true, false, false, false, false, false] rfl (by kernel_rfl) (fun _ _ _ h => leaves_put rfl rfl h) rfl (fun wq hq => Yl.ld (y_nilCheck rfl)) ⟨hb, hB_o5, _, hB_o0⟩ ?_
   refine Wa.take (i := 2) #[true, true, true, false, false, false, false] rfl (by kernel_rfl) (fun _ _ _ h => leaves_put rfl rfl h) rfl (fun wq hq => Yl.ld (y_fieldAddr (fa60_1PsJ _) rfl)) ⟨hb, hB_o5, _, hB_o0⟩ ?_
   refine Wa.take (i := 3) #[true, true, true, true, false, false, false] rfl (by kernel_rfl) (fun _ _ _ h => leaves_put rfl rfl h) rfl (fun wq hq => Yl.ld (y_fieldAddr (fa43_2PsJ _) rfl)) ⟨hb, hB_o5, _, hB_o0⟩ ?_
   refine Wa.take (i := 4) #[true, true, true, true, true, false, false] rfl (by kernel_rfl) (fun _ _ _ h => leaves_put rfl rfl h) rfl (fun wq hq => l_load one3PsJ rfl (by obtain ⟨hq, hB_o5, _, hB_o0⟩ := hq; exact hB_o5.at (j := 2) rfl)) ⟨hb, hB_o5, _, hB_o0⟩ ?_
   refine Wa.some (rs := [5]) (by kernel_rfl) rfl ?_
   refine Ws.consD #[true, true, true, true, true, true, false] rfl rfl (fun _ hK_43 => ?_) ?_
   ·
    refine Wl.callP txt151PsJ rfl rfl (withinG_r p en ts.tail g 0 (nextT en ts).a _ hP) rfl (fun v_ w_k5 hv_ => ?_) (fun c_ w_k5 hx_ => ?_)
    rotate_left
    ·
     obtain ⟨a_k5, e_k5, hF_k5, rfl, hPp_k5, hs_k5⟩ := hx_
     have hz_k5 := hs_k5.size
     have hb := hb.trans hs_k5
     refine Wq.then_panic <| Wq.then_panic <| Wq.block_panic <| Wq.then_panic ?_
     refine Wq.dPanic ?_
     obtain ⟨h50, ha_, he_⟩ := hF_k5; subst ha_; subst he_; exact outX ⟨_, _, by simp only [pPrimary, if_neg h0', if_neg h1, if_pos h2, if_pos h50], rfl, hPp_k5, hb⟩
    obtain ⟨⟨gx, rfl, hBx, hgx, hP, hg50⟩, hs_k5⟩ := hv_
    have hz_k5 := hs_k5.size
    have hB_o0 := hB_o0.kp hs_k5 (by omega)
    have hB_o5 := hB_o5.kp hs_k5 (by omega)
    have hb := hb.trans hs_k5
    have hlx := hBx.lt
    have hng : ¬ 50 ≤ g := by omega
    refine Wl.nil ?_
    refine Wq.backD hK_43 ⟨hb, hB_o5, _, hB_o0⟩ ?_
    refine Wa.some (rs := [6]) (by kernel_rfl) rfl ?_
    refine Ws.consD #[true, true, true, true, true, true, true] rfl rfl (fun _ hK_45 => ?_) ?_
    ·
     refine Wl.defer rfl rfl ?_
     refine Wl.nil ?_
     refine Wq.backD hK_45 ⟨hb, hB_o5, _, hB_o0⟩ ?_
     refine Wa.done (by kernel_rfl) ?_
     refine Wq.nextD hK_37 ?_
     refine Wc.seqD fun _ hK_46 => ?_
     refine Wc.region <| Wl.mv rfl rfl ?_
     refine Wl.callP txt41PsJ rfl rfl ((hD (g + 1)).does _ ts.tail hb hP (by omega)) rfl (fun v_ w_k6 hv_ => ?_) (fun c_ w_k6 hx_ => ?_)
     rotate_left
     ·
      obtain ⟨a_k6, e_k6, hF_k6, rfl, hPp_k6, hs_k6⟩ := hx_
      have hz_k6 := hs_k6.size
      have hBx := hBx.kp hs_k6 (by omega)
      have hb := hb.trans hs_k6
      refine Wq.then_panic <| Wq.block_panic <| Wq.then_panic ?_
      refine Wq.leave1P txtW (outGx_r hPp_k6 hg50 (by omega) hBx) (fun w_d hS => ?_)
      exact outX ⟨_, _, by simp only [pPrimary, if_neg h0', if_neg h1, if_pos h2, if_neg hng, hF_k6], rfl, hS.1, hb.trans hS.2⟩
     obtain ⟨⟨x, r, hF, ⟨z, Sz, rfl, hz, hz_S⟩, hP, hrl⟩, hs_k6⟩ := hv_
     have hz_k6 := hs_k6.size
     have hB_o0 := hB_o0.kp hs_k6 (by omega)
     have hBx := hBx.kp hs_k6 (by omega)
     have hb := hb.trans hs_k6
     refine Wl.allocN (z := (.agg #[(.int .i64 0), (str []), (.int .i64 0), (.int .i64 0), (str []), (.int .i64 0), (.int .i64 0), (.float .f64 0), (str []), (.slice none 0 0), (.int .i64 0), (str []), (.int .i64 0), (.int .i64 0), (.float .f64 0), (str []), (.slice none 0 0), (.int .i64 0), (.int .i64 0), (.slice none 0 0)])) (by kernel_rfl) rfl ?_
     rintro g_o21 w_o21 hg_o21 hn_o21 hs_o21
     have hz_o21 := hs_o21.size
     have hP := hP.below hs_o21
     have hB_o0 := hB_o0.below hs_o21
     have hBx := hBx.below hs_o21
     have hz := hz.below hs_o21
     replace hs_o21 := Below.kp (p := p) hs_o21
     have hb := hb.trans hs_o21
     have hB_o21 := hn_o21
     have hl_o21 := hB_o21.lt
     refine Wl.storeS (by kernel_rfl) rfl rfl hB_o21 rfl rfl ?_
     rintro w_s3 hn_s3 hg_s3
     have hz_s3 := hg_s3.size
     have hb := kp_blk hb hg_s3 (by omega)
     try have hP := PSt.over hP hg_s3 (by omega)
     try have hB_o0 := hB_o0.over hg_s3 (by omega)
     try have hBx := hBx.over hg_s3 (by omega)
     try have hz := PAt.kp hz hg_s3 (fun h_ => by have h2_ := hz_S _ h_; omega)
     have hB_o21 := hn_s3
     refine Wl.nil ?_
     refine Wq.nextD hK_46 ?_
     refine Wc.seqD fun _ hK_50 => ?_
     refine Wc.region <| Wl.mv rfl rfl ?_
     refine Wl.callP txt150PsJ rfl rfl (text_r p en [93] r (g + 1) 0 _ hP) rfl (fun v_ w_k7 hv_ => ?_) (fun c_ w_k7 hx_ => ?_)
     rotate_left
     ·
      obtain ⟨a_k7, e_k7, hF_k7, rfl, hPp_k7, hs_k7⟩ := hx_
      have hz_k7 := hs_k7.size
      have hBx := hBx.kp hs_k7 (by omega)
      have hb := hb.trans hs_k7
      refine Wq.then_panic <| Wq.block_panic <| Wq.then_panic ?_
      refine Wq.leave1P txtW (outGx_r hPp_k7 hg50 (by omega) hBx) (fun w_d hS => ?_)
      exact outX ⟨_, _, by simp only [pPrimary, if_neg h0', if_neg h1, if_pos h2, if_neg hng, hF, hF_k7], rfl, hS.1, hb.trans hS.2⟩
     obtain ⟨⟨t7, r7, hF7, rfl, hP, hrl7⟩, hs_k7⟩ := hv_
     have hz_k7 := hs_k7.size
     have hB_o0 := hB_o0.kp hs_k7 (by omega)
     have hBx := hBx.kp hs_k7 (by omega)
     try have hz := hz.kp hs_k7 (fun h_ => by have h2_ := hz_S _ h_; omega)
     have hB_o21 := hB_o21.kp hs_k7 (by omega)
     have hb := hb.trans hs_k7
     refine Wl.nil ?_
     refine Wq.nextD hK_50 ?_
     refine Wc.seqD fun _ hK_53 => ?_
     refine Wc.region ?_
     refine Wl.l (l_loadS Tryz.underlying31 (by kernel_rfl) rfl (by exact fun j u hu => hB_o21.at hu)) rfl ?_
     refine Wl.storeS (by kernel_rfl) rfl rfl hB_o0 rfl rfl ?_
     rintro w_s4 hn_s4 hg_s4
     have hz_s4 := hg_s4.size
     have hb := kp_blk hb hg_s4 (by omega)
     try have hP := PSt.over hP hg_s4 (by omega)
     try have hBx := hBx.over hg_s4 (by omega)
     try have hz := PAt.kp hz hg_s4 (fun h_ => by have h2_ := hz_S _ h_; omega)
     have hB_o0 := hn_s4
     refine Wl.nil ?_
     refine Wq.nextD hK_53 ?_
     refine Wc.ret ?_
     refine Wq.block_ret (Wq.then_ret ?_)
     refine Wq.leave1 txtW (outG_r p en r7 g 0 gx _ hP hg50 (by omega) hBx) (fun w_d hS => ?_)
     obtain ⟨hP, hs_d⟩ := hS
     have hz_d := hs_d.size
     have hB_o0 := hB_o0.kp hs_d (by omega)
     have hz := PAt.kp hz hs_d (fun h_ => by have h2_ := hz_S _ h_; omega)
     have hb := hb.trans hs_d
     refine retN (rs := [.cell 2 31]) (vs := [_]) rfl (.cell rfl (loadS Tryz.underlying31 (by kernel_rfl) (fun j u hu => hB_o0.at hu)) .nil) ?_
     exact outR ⟨⟨x, r7, by simp only [pPrimary, if_neg h0', if_neg h1, if_pos h2, if_neg hng, hF, hF7], ⟨z, Sz, rfl, hz, fun k hk => by have := hz_S k hk; omega⟩, hP, by omega⟩, hb⟩
    exact Ws.nil
   exact Ws.nil
  have c2_36_ := c2_36
  try simp only [DZ] at c2_36
  have h2 : (nextT en ts).t ≠ [91] := by have := c2_36; simpa using this
  refine Wc.skip <| Wq.block_normal ?_
  refine Wq.nextD hK_15 ?_
  refine Wc.seqD fun _ hK_55 => ?_
  refine Wc.seqD fun _ hK_56 => ?_
  refine Wc.region ?_
  refine Wl.y (y_fieldAddr (fa43_1PsJ _) rfl) rfl ?_
  refine Wl.l (l_load one9PsJ rfl (by exact hB_o5.at (j := 1) rfl)) rfl ?_
  refine Wl.call txt116PsJ rfl rfl (short_r (nextT en ts).t _) rfl ?_
  rintro _ w_k8 ⟨rfl, hs_k8⟩
  have hz_k8 := hs_k8.size
  first | have hP := PSt.below hP hs_k8 | have hP := PSt.kp hP hs_k8 | skip
  first | have hB_o0 := Blk.below hB_o0 hs_k8 | have hB_o0 := Blk.kp hB_o0 hs_k8 (by omega) | skip
  first | have hB_o5 := Blk.below hB_o5 hs_k8 | have hB_o5 := Blk.kp hB_o5 hs_k8 (by omega) | skip
  first | replace hs_k8 := Below.kp (p := p) hs_k8 | skip
  have hb := hb.trans hs_k8
  refine Wl.sg rfl rfl <| Wl.nil ?_
  refine Wq.nextD hK_56 ?_
  refine Wc.seqD fun _ hK_61 => ?_
  refine Wc.region <| Wl.mv rfl rfl <| Wl.y (y_gtri rfl rfl) rfl <| Wl.nil ?_
  refine Wq.nextD hK_61 ?_
  refine Wc.cond rfl (fun c3_64 => ?_) (fun c3_64 => ?_)
  ·
   have c3_64_ := c3_64
   try simp only [DZ] at c3_64
   have h3 : 0 < shortV (nextT en ts).t := by have := c3_64; omega
   refine Wc.seqD fun _ hK_65 => ?_
   refine Wc.region <| Wl.mv rfl rfl ?_
   refine Wl.y (y_buildS (z := [(.int .i64 0), (str []), (.int .i64 0), (.int .i64 0), (str []), (.int .i64 0), (.int .i64 0), (.float .f64 0), (str []), (.slice none 0 0), (.int .i64 0), (str []), (.int .i64 0), (.int .i64 0), (.float .f64 0), (str []), (.slice none 0 0), (.int .i64 0), (.int .i64 0), (.slice none 0 0)]) (pl := [(0, 1), (1, 1), (2, 1), (3, 7), (10, 7), (17, 1), (18, 1), (19, 1)]) (cs := [_, _, _, _, _, _, _, _, _, _, _, _, _, _, _, _, _, _, _, _]) Tryz.underlying31 (by kernel_rfl) (by kernel_rfl) rfl rfl rfl) rfl ?_
   refine Wl.storeS (by kernel_rfl) rfl rfl hB_o0 rfl rfl ?_
   rintro w_s5 hn_s5 hg_s5
   have hz_s5 := hg_s5.size
   have hb := kp_blk hb hg_s5 (by omega)
   try have hP := PSt.over hP hg_s5 (by omega)
   have hB_o0 := hn_s5
   refine Wl.nil ?_
   refine Wq.nextD hK_65 ?_
   refine Wc.ret <| Wq.then_ret ?_
   refine Wq.dRet ?_
   refine retN (rs := [.cell 2 31]) (vs := [_]) rfl (.cell rfl (loadS Tryz.underlying31 (by kernel_rfl) (fun j u hu => hB_o0.at hu)) .nil) ?_
   exact outR ⟨⟨_, ts.tail, by simp only [pPrimary, if_neg h0', if_neg h1, if_neg h2, if_pos h3], ⟨⟨2, [], shortV (nextT en ts).t, ec0, ec0, 0, 0, none, 0, 0⟩, fun _ => False, rfl, PAt.nokids (noE_at _ _) (noE_at _ _), fun _ h => h.elim⟩, hP, by omega⟩, hb⟩
  have c3_64_ := c3_64
  try simp only [DZ] at c3_64
  have h3 : ¬ 0 < shortV (nextT en ts).t := by have := c3_64; omega
  have hends := begins_ends h0 h1 h2 h3
  refine Wc.skip ?_
  refine Wq.nextD hK_55 ?_
  refine Wc.seqD fun _ hK_68 => ?_
  refine Wc.region <| Wl.mv rfl rfl ?_
  refine Wl.y (y_buildS (z := [(.int .i64 0), (str []), (.int .i64 0), (.int .i64 0), (str []), (.int .i64 0), (.int .i64 0), (.float .f64 0), (str []), (.slice none 0 0), (.int .i64 0), (str []), (.int .i64 0), (.int .i64 0), (.float .f64 0), (str []), (.slice none 0 0), (.int .i64 0), (.int .i64 0), (.slice none 0 0)]) (pl := [(0, 1), (1, 1), (2, 1), (3, 7), (10, 7), (17, 1), (18, 1), (19, 1)]) (cs := [_, _, _, _, _, _, _, _, _, _, _, _, _, _, _, _, _, _, _, _]) Tryz.underlying31 (by kernel_rfl) (by kernel_rfl) rfl rfl rfl) rfl ?_
  refine Wl.callP txt149PsJ rfl rfl (filling_r p en ts.tail g m 2 (by omega) _ hP) rfl (fun v_ w_k9 hv_ => ?_) (fun c_ w_k9 hx_ => ?_)
  rotate_left
  ·
   obtain ⟨a_k9, e_k9, hF_k9, rfl, hPp_k9, hs_k9⟩ := hx_
   have hz_k9 := hs_k9.size
   have hb := hb.trans hs_k9
   refine Wq.then_panic ?_
   refine Wq.dPanic ?_
   exact outX ⟨_, _, by simp only [pPrimary, if_neg h0', if_neg h1, if_neg h2, if_neg h3, hF_k9], rfl, hPp_k9, hb⟩
  obtain ⟨⟨x, r, hF, ⟨z, Sz, rfl, hz, hz_S⟩, hP, hrl⟩, hs_k9⟩ := hv_
  have hz_k9 := hs_k9.size
  have hB_o0 := hB_o0.kp hs_k9 (by omega)
  have hB_o5 := hB_o5.kp hs_k9 (by omega)
  have hb := hb.trans hs_k9
  refine Wl.allocN (z := (.agg #[(.int .i64 0), (str []), (.int .i64 0), (.int .i64 0), (str []), (.int .i64 0), (.int .i64 0), (.float .f64 0), (str []), (.slice none 0 0), (.int .i64 0), (str []), (.int .i64 0), (.int .i64 0), (.float .f64 0), (str []), (.slice none 0 0), (.int .i64 0), (.int .i64 0), (.slice none 0 0)])) (by kernel_rfl) rfl ?_
  rintro g_o31 w_o31 hg_o31 hn_o31 hs_o31
  have hz_o31 := hs_o31.size
  have hP := hP.below hs_o31
  have hB_o0 := hB_o0.below hs_o31
  have hB_o5 := hB_o5.below hs_o31
  have hz := hz.below hs_o31
  replace hs_o31 := Below.kp (p := p) hs_o31
  have hb := hb.trans hs_o31
  have hB_o31 := hn_o31
  have hl_o31 := hB_o31.lt
  refine Wl.storeS (by kernel_rfl) rfl rfl hB_o31 rfl rfl ?_
  rintro w_s6 hn_s6 hg_s6
  have hz_s6 := hg_s6.size
  have hb := kp_blk hb hg_s6 (by omega)
  try have hP := PSt.over hP hg_s6 (by omega)
  try have hB_o0 := hB_o0.over hg_s6 (by omega)
  try have hB_o5 := hB_o5.over hg_s6 (by omega)
  try have hz := PAt.kp hz hg_s6 (fun h_ => by have h2_ := hz_S _ h_; omega)
  have hB_o31 := hn_s6
  refine Wl.nil ?_
  refine Wq.nextD hK_68 ?_
  refine Wc.seqD fun _ hK_73 => ?_
  refine Wc.any (n := 14) (fun w' => Kp p w w' ∧ Blk w' g_o5 43 [.int .i64 ((nextT en ts).k : Int), str (nextT en ts).t, .int .i64 ((nextT en ts).a : Int)]) #[false, false, false, false, false, false, false, false, false, false, false, false, false, false] (by kernel_rfl) rfl (by kernel_rfl) ?_
  refine Wa.drew ?_
  rintro w_g18 hs_g18
  have hz_g18 := hs_g18.size
  have hP := hP.below hs_g18
  have hB_o0 := hB_o0.below hs_g18
  have hB_o5 := hB_o5.below hs_g18
  have hz := hz.below hs_g18
  have hB_o31 := hB_o31.below hs_g18
  replace hs_g18 := Below.kp (p := p) hs_g18
  have hb := hb.trans hs_g18
  refine Wa.take (i := 0) #[true, false, false, false, false, false, false, false, false, false, false, false, false, false] rfl (by kernel_rfl) (fun _ _ _ h => leaves_put rfl rfl h) rfl (fun wq hq => Yl.ld (y_fieldAddr (fa43_1PsJ _) rfl)) ⟨hb, hB_o5⟩ ?_
  refine Wa.take (i := 1) #[true, true, false, false, false, false, false, false, false, false, false, false, false, false] rfl (by kernel_rfl) (fun _ _ _ h => leaves_put rfl rfl h) rfl (fun wq hq => l_load one9PsJ rfl (by obtain ⟨hq, hB_o5⟩ := hq; exact hB_o5.at (j := 1) rfl)) ⟨hb, hB_o5⟩ ?_
  refine Wa.take (i := 3) #[true, true, false, true, false, false, false, false, false, false, false, false, false, false] rfl (by kernel_rfl) (fun _ _ _ h => leaves_put rfl rfl h) rfl (fun wq hq => Yl.ld (y_move rfl)) ⟨hb, hB_o5⟩ ?_
  refine Wa.take (i := 4) #[true, true, false, true, true, false, false, false, false, false, false, false, false, false] rfl (by kernel_rfl) (fun _ _ _ h => leaves_put rfl rfl h) rfl (fun wq hq => Yl.ld (y_nilCheck rfl)) ⟨hb, hB_o5⟩ ?_
  refine Wa.take (i := 5) #[true, true, false, true, true, true, false, false, false, false, false, false, false, false] rfl (by kernel_rfl) (fun _ _ _ h => leaves_put rfl rfl h) rfl (fun wq hq => Yl.ld (y_fieldAddr (fa60_0PsJ _) rfl)) ⟨hb, hB_o5⟩ ?_
  refine Wa.some (rs := [2]) (by kernel_rfl) rfl ?_
  refine Ws.consD #[true, true, true, true, true, true, false, false, false, false, false, false, false, false] rfl rfl (fun _ hK_79 => ?_) ?_
  ·
   refine Wl.call txt115PsJ rfl rfl (ends_r (nextT en ts).t _) rfl ?_
   rintro _ w_k10 ⟨⟨A, rfl, hA⟩, hs_k10⟩
   have hz_k10 := hs_k10.size
   first | have hP := PSt.below hP hs_k10 | have hP := PSt.kp hP hs_k10 | skip
   first | have hB_o0 := Blk.below hB_o0 hs_k10 | have hB_o0 := Blk.kp hB_o0 hs_k10 (by omega) | skip
   first | have hB_o5 := Blk.below hB_o5 hs_k10 | have hB_o5 := Blk.kp hB_o5 hs_k10 (by omega) | skip
   first | have hz := PAt.below hz hs_k10 | have hz := PAt.kp hz hs_k10 (fun h_ => by have h2_ := hz_S _ h_; omega) | skip
   first | have hB_o31 := Blk.below hB_o31 hs_k10 | have hB_o31 := Blk.kp hB_o31 hs_k10 (by omega) | skip
   first | replace hs_k10 := Below.kp (p := p) hs_k10 | skip
   have hb := hb.trans hs_k10
   refine Wl.nil ?_
   refine Wq.backD hK_79 ⟨hb, hB_o5⟩ ?_
   refine Wa.some (rs := [6]) (by kernel_rfl) rfl ?_
   refine Ws.consD #[true, true, true, true, true, true, true, false, false, false, false, false, false, false] rfl rfl (fun _ hK_81 => ?_) ?_
   ·
    refine Wl.call txt39PsJ rfl rfl (next_x p en r g 0 _ hP) rfl ?_
    rintro _ w_k11 ⟨rfl, hs_k11⟩
    have hz_k11 := hs_k11.size
    first | have hP := PSt.below hP hs_k11 | have hP := PSt.kp hP hs_k11 | skip
    first | have hB_o0 := Blk.below hB_o0 hs_k11 | have hB_o0 := Blk.kp hB_o0 hs_k11 (by omega) | skip
    first | have hB_o5 := Blk.below hB_o5 hs_k11 | have hB_o5 := Blk.kp hB_o5 hs_k11 (by omega) | skip
    first | have hz := PAt.below hz hs_k11 | have hz := PAt.kp hz hs_k11 (fun h_ => by have h2_ := hz_S _ h_; omega) | skip
    first | have hB_o31 := Blk.below hB_o31 hs_k11 | have hB_o31 := Blk.kp hB_o31 hs_k11 (by omega) | skip
    first | have hA := EndsAt.below hA hs_k11 | have hA := EndsAt.kp hA hs_k11 | skip
    first | replace hs_k11 := Below.kp (p := p) hs_k11 | skip
    have hb := hb.trans hs_k11
    refine Wl.nil ?_
    refine Wq.backD hK_81 ⟨hb, hB_o5⟩ ?_
    refine Wa.take (i := 7) #[true, true, true, true, true, true, true, true, false, false, false, false, false, false] rfl (by kernel_rfl) (fun _ _ _ h => leaves_put rfl rfl h) rfl (fun wq hq => Yl.ld (y_fieldO Tryz.underlying43 rfl one9PsJ rfl rfl)) ⟨hb, hB_o5⟩ ?_
    refine Wa.some (rs := [8]) (by kernel_rfl) rfl ?_
    refine Ws.consD #[true, true, true, true, true, true, true, true, true, false, false, false, false, false] rfl rfl (fun _ hK_84 => ?_) ?_
    ·
     obtain ⟨_, hno⟩ | ⟨gm, rfl, hMp, _, _⟩ := hA
     · exact absurd hno hends
     refine Wl.l (l_dir rfl rfl hMp) rfl ?_
     refine Wl.nil ?_
     refine Wq.backD hK_84 ⟨hb, hB_o5⟩ ?_
     refine Wa.take (i := 9) #[true, true, true, true, true, true, true, true, true, true, false, false, false, false] rfl (by kernel_rfl) (fun _ _ _ h => leaves_put rfl rfl h) rfl (fun wq hq => Yl.ld (y_move rfl)) ⟨hb, hB_o5⟩ ?_
     refine Wa.take (i := 10) #[true, true, true, true, true, true, true, true, true, true, true, false, false, false] rfl (by kernel_rfl) (fun _ _ _ h => leaves_put rfl rfl h) rfl (fun wq hq => Yl.ld (y_extract rfl rfl)) ⟨hb, hB_o5⟩ ?_
     refine Wa.take (i := 11) #[true, true, true, true, true, true, true, true, true, true, true, true, false, false] rfl (by kernel_rfl) (fun _ _ _ h => leaves_put rfl rfl h) rfl (fun wq hq => Yl.ld (y_extract rfl rfl)) ⟨hb, hB_o5⟩ ?_
     refine Wa.take (i := 12) #[true, true, true, true, true, true, true, true, true, true, true, true, true, false] rfl (by kernel_rfl) (fun _ _ _ h => leaves_put rfl rfl h) rfl (fun wq hq => Yl.ld (y_assign rfl)) ⟨hb, hB_o5⟩ ?_
     refine Wa.take (i := 13) #[true, true, true, true, true, true, true, true, true, true, true, true, true, true] rfl (by kernel_rfl) (fun _ _ _ h => leaves_put rfl rfl h) rfl (fun wq hq => Yl.ld (y_assign rfl)) ⟨hb, hB_o5⟩ ?_
     refine Wa.done (by kernel_rfl) ?_
     refine Wq.nextD hK_73 ?_
     refine Wc.seqD fun _ hK_91 => ?_
     refine Wc.seqD fun _ hK_92 => ?_
     refine Wc.meet (X := Bool) (fun q => [(0, pptr p), (2, .pointer (some ⟨g_o0, 0, none⟩)), (7, .pointer (some ⟨g_o31, 0, none⟩)), (8, .int .i64 ((dirOf (nextT en ts).t (nextT en r).t).getD 0)), (71, .bool q)]) (fun q wr => q = decide (dirOf (nextT en ts).t (nextT en r).t = none ∨ (nextT en r).k ≠ 5) ∧ Kp p w wr ∧ PSt wr p en r g 0 ∧ PAt wr Sz x z.cells ∧ (∀ k, Sz k → w.heap.size ≤ k ∧ k < wr.heap.size ∧ k ≠ g_o31 ∧ k ≠ g_o0) ∧ Blk wr g_o31 31 z.cells ∧ Blk wr g_o0 31 pc0.cells) (fun _ hM_93 => ?_) ?_
     ·
      refine Wc.region <| Wl.mv rfl rfl <| Wl.y (y_not rfl) rfl <| Wl.mv rfl rfl ?_
      refine Wl.guardF rfl rfl rfl (fun g_97 => ?_) (fun g_97 => ?_)
      ·
       have g_97_ := g_97
       try simp only [DZ] at g_97
       refine Wl.off' rfl rfl g_97_ rfl rfl <| Wl.off' rfl rfl g_97_ rfl rfl <| Wl.off' rfl rfl g_97_ rfl rfl <| Wl.off' rfl rfl g_97_ rfl rfl <| Wl.off' rfl rfl g_97_ rfl rfl ?_
       refine Wl.y (y_pickT rfl g_97_ rfl) rfl ?_
       refine Wl.nil ?_
       refine Wq.meet hM_93 (decide (dirOf (nextT en ts).t (nextT en r).t = none ∨ (nextT en r).k ≠ 5)) (by repeat first | exact Sub.nil | refine Sub.cons' rfl (by first | rfl | exact bool_eq (by rw [Bool.eq_iff_iff]; cases hd_ : dirOf (nextT en ts).t (nextT en r).t <;> simp_all <;> omega)) ?_) ?_
       exact ⟨rfl, hb, hP, hz, fun k hk => by have := hz_S k hk; omega, hB_o31, hB_o0⟩
      have g_97_ := g_97
      try simp only [DZ] at g_97
      refine Wl.mv rfl rfl <| Wl.on' rfl rfl g_97_ <| Wl.y (y_nilCheck rfl) rfl <| Wl.on' rfl rfl g_97_ ?_
      refine Wl.y (y_fieldAddr (fa60_0PsJ _) rfl) rfl ?_
      refine Wl.on' rfl rfl g_97_ ?_
      refine Wl.call txt39PsJ rfl rfl (next_x p en r g 0 _ hP) rfl ?_
      rintro _ w_k12 ⟨rfl, hs_k12⟩
      have hz_k12 := hs_k12.size
      first | have hP := PSt.below hP hs_k12 | have hP := PSt.kp hP hs_k12 | skip
      first | have hB_o0 := Blk.below hB_o0 hs_k12 | have hB_o0 := Blk.kp hB_o0 hs_k12 (by omega) | skip
      first | have hz := PAt.below hz hs_k12 | have hz := PAt.kp hz hs_k12 (fun h_ => by have h2_ := hz_S _ h_; omega) | skip
      first | have hB_o31 := Blk.below hB_o31 hs_k12 | have hB_o31 := Blk.kp hB_o31 hs_k12 (by omega) | skip
      first | replace hs_k12 := Below.kp (p := p) hs_k12 | skip
      have hb := hb.trans hs_k12
      refine Wl.on' rfl rfl g_97_ ?_
      refine Wl.y (y_fieldO Tryz.underlying43 rfl one3PsJ rfl rfl) rfl ?_
      refine Wl.on' rfl rfl g_97_ <| Wl.y (y_neqi rfl rfl) rfl ?_
      refine Wl.y (y_pickF rfl g_97_ rfl) rfl ?_
      refine Wl.nil ?_
      refine Wq.meet hM_93 (decide (dirOf (nextT en ts).t (nextT en r).t = none ∨ (nextT en r).k ≠ 5)) (by repeat first | exact Sub.nil | refine Sub.cons' rfl (by first | rfl | exact bool_eq (by rw [Bool.eq_iff_iff]; cases hd_ : dirOf (nextT en ts).t (nextT en r).t <;> simp_all <;> omega)) ?_) ?_
      exact ⟨rfl, hb, hP, hz, fun k hk => by have := hz_S k hk; omega, hB_o31, hB_o0⟩
     rintro q wr hI_106
     replace hI_106 : q = decide (dirOf (nextT en ts).t (nextT en r).t = none ∨ (nextT en r).k ≠ 5) ∧ Kp p w wr ∧ PSt wr p en r g 0 ∧ PAt wr Sz x z.cells ∧ (∀ k, Sz k → w.heap.size ≤ k ∧ k < wr.heap.size ∧ k ≠ g_o31 ∧ k ≠ g_o0) ∧ Blk wr g_o31 31 z.cells ∧ Blk wr g_o0 31 pc0.cells := hI_106
     obtain ⟨hq, hb, hP, hz, hz_S, hB_o31, hB_o0⟩ := hI_106
     show Wq _ _ _ _ [(0, pptr p), (2, .pointer (some ⟨g_o0, 0, none⟩)), (7, .pointer (some ⟨g_o31, 0, none⟩)), (8, .int .i64 ((dirOf (nextT en ts).t (nextT en r).t).getD 0)), (71, .bool q)] _
     try have hzhb_g19 := hb.size
     have hlhB_o31_g19 := hB_o31.lt
     have hlhB_o0_g19 := hB_o0.lt
     refine Wq.nextD hK_92 ?_
     refine Wc.cond rfl (fun c4_107 => ?_) (fun c4_107 => ?_)
     ·
      have c4_107_ := c4_107
      try simp only [DZ] at c4_107
      have h4 := of_decide_eq_true (hq.symm.trans c4_107_)
      refine Wc.region <| Wl.mv rfl rfl ?_
      refine Wl.callP txt42PsJ rfl rfl (fail_r p en r g 0 _ hP) rfl (fun v_ w_k13 hv_ => ?_) (fun c_ w_k13 hx_ => ?_)
      rotate_left
      ·
       obtain ⟨a_k13, e_k13, hF_k13, rfl, hPp_k13, hs_k13⟩ := hx_
       have hz_k13 := hs_k13.size
       have hb := hb.trans hs_k13
       refine Wq.then_panic ?_
       refine Wq.dPanic ?_
       cases hF_k13; exact outX ⟨_, _, by simp only [pPrimary, if_neg h0', if_neg h1, if_neg h2, if_neg h3, hF]; (cases hd : dirOf (nextT en ts).t (nextT en r).t with | none => rfl | some d => exact if_neg (fun e => by rcases h4 with h4 | h4; (· rw [hd] at h4; cases h4); (· exact h4 e))), rfl, hPp_k13, hb⟩
      exact hv_.elim
     have c4_107_ := c4_107
     try simp only [DZ] at c4_107
     have h4 := of_decide_eq_false (hq.symm.trans c4_107_)
     have hk5 : (nextT en r).k = 5 := Classical.byContradiction fun e => h4 (.inr e)
     obtain ⟨d, hd⟩ : ∃ d, dirOf (nextT en ts).t (nextT en r).t = some d := Option.ne_none_iff_exists'.1 fun e => h4 (.inl e)
     refine Wc.skip ?_
     refine Wq.nextD hK_91 ?_
     refine Wc.seqD fun _ hK_110 => ?_
     refine Wc.region <| Wl.mv rfl rfl ?_
     refine Wl.call txt38PsJ rfl rfl (take_x p en r g 0 (nextT_k hk5 (by decide)) _ hP) rfl ?_
     rintro _ w_k14 ⟨⟨rfl, hP⟩, hs_k14⟩
     have hz_k14 := hs_k14.size
     first | have hP := PSt.below hP hs_k14 | have hP := PSt.kp hP hs_k14 | skip
     first | have hz := PAt.below hz hs_k14 | have hz := PAt.kp hz hs_k14 (fun h_ => by have h2_ := hz_S _ h_; omega) | skip
     first | have hB_o31 := Blk.below hB_o31 hs_k14 | have hB_o31 := Blk.kp hB_o31 hs_k14 (by omega) | skip
     first | have hB_o0 := Blk.below hB_o0 hs_k14 | have hB_o0 := Blk.kp hB_o0 hs_k14 (by omega) | skip
     first | replace hs_k14 := Below.kp (p := p) hs_k14 | skip
     have hb := hb.trans hs_k14
     refine Wl.nil ?_
     refine Wq.nextD hK_110 ?_
     refine Wc.seqD fun _ hK_113 => ?_
     refine Wc.region <| Wl.mv rfl rfl ?_
     refine Wl.y (y_fieldAddr (fa31_2PsJ _) rfl) rfl ?_
     refine Wl.storeB one3PsJ rfl rfl rfl hB_o31 (by show 2 < 20; decide) ?_
     rintro w_s7 hn_s7 hg_s7
     have hz_s7 := hg_s7.size
     have hb := kp_blk hb hg_s7 (by omega)
     try have hP := PSt.over hP hg_s7 (by omega)
     try have hz := PAt.kp hz hg_s7 (fun h_ => by have h2_ := hz_S _ h_; omega)
     try have hB_o0 := hB_o0.over hg_s7 (by omega)
     have hB_o31 := hn_s7
     refine Wl.nil ?_
     refine Wq.nextD hK_113 ?_
     refine Wc.seqD fun _ hK_116 => ?_
     refine Wc.region ?_
     refine Wl.l (l_loadS Tryz.underlying31 (by kernel_rfl) rfl (by exact fun j u hu => hB_o31.at hu)) rfl ?_
     refine Wl.storeS (by kernel_rfl) rfl rfl hB_o0 rfl rfl ?_
     rintro w_s8 hn_s8 hg_s8
     have hz_s8 := hg_s8.size
     have hb := kp_blk hb hg_s8 (by omega)
     try have hP := PSt.over hP hg_s8 (by omega)
     try have hz := PAt.kp hz hg_s8 (fun h_ => by have h2_ := hz_S _ h_; omega)
     have hB_o0 := hn_s8
     refine Wl.nil ?_
     refine Wq.nextD hK_116 ?_
     refine Wc.ret ?_
     refine Wq.dRet ?_
     refine retN (rs := [.cell 2 31]) (vs := [_]) rfl (.cell rfl (loadS Tryz.underlying31 (by kernel_rfl) (fun j u hu => hB_o0.at hu)) .nil) ?_
     exact outR ⟨⟨x.setDir d, r.tail, by simp only [pPrimary, if_neg h0', if_neg h1, if_neg h2, if_neg h3, hF, hd, if_pos hk5], ⟨{ z with dir := (dirOf (nextT en ts).t (nextT en r).t).getD 0 }, Sz, rfl, by rw [hd]; exact hz.setDir d, fun k hk => by have := hz_S k hk; omega⟩, hP, by rw [List.length_tail]; omega⟩, hb⟩
    exact Ws.nil
   exact Ws.nil
  exact Ws.nil
end Go.Proofs.YtjnabgddjogkbaaGreatDoor
