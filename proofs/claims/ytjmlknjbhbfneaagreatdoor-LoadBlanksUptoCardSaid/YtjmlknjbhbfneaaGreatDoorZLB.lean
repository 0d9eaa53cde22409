/- Laws for slices.Insert: copy into a block of one's own, append of made elements where there is no room, overlaps. · slices.BinarySearchFunc over properties by name. · slices.Insert of a property into a row of one's own. · slices.Insert of a property into a row of one's own, by the calculus. · line.props: all properties of a line, by name, by the calculus. · load.named, by the calculus. -/
import Derived.Test.YtjmlknjbhbfneaaGreatDoorZLA
import Derived.Laws.CopyRow
import Derived.Lib.AppendZerosOnto
import Derived.Lib.Overlaps
namespace Go.Bw
open Go.RowKit
set_option linter.unusedVariables false
set_option linter.unusedSimpArgs false
section
variable {P : Program} {N : Nat} {D : List Deferred} {env env' : Env} {a : Act} {w w' : World} {Q : Exit → Act → World → Prop}
variable {ops : Array Oper} {rest : List Oper} {d : Nat} {op : Op} {ty : TypeId} {pos : String} {af : Array Edge}
theorem run_copyZ (w : World) (dT sT ty elem : TypeId) (sz g o dLen dCap : Nat) (a : Addr) (sLen sCap k : Nat) (cur : Array Value) (t : TypeId) (cs : List Value)
    (hu : P.underlying dT = some (.slice elem)) (hs : (P.info? elem).map (·.size) = some sz) (hg : w.heap[g]? = some (.cells cur t (0, 0))) (hn : k = Nat.min sLen dLen) (hcl : cs.length = k * sz)
    (hsrc : ∀ j v, cs[j]? = some v → w.cell? (a.add j) = some v) (hfit : o + cs.length ≤ cur.size) (h1 : ∀ v ∈ cs, v.oneCell' = true) :
    (Builtin.copy_ #[dT, sT] ty #[.slice (some ⟨g, o, none⟩) dLen dCap, .slice (some a) sLen sCap]).run P w =
      .ok (goInt k) (w.setRow g (cur.toList.take o ++ cs ++ cur.toList.drop (o + cs.length)).toArray) := by
  have hl := run_loadCells_list (P := P) w a cs hsrc
  rw [hcl] at hl
  have hst := run_storeCells_at P g o t cs 0 cur w hg (by simpa using hfit) h1
  cases hq : P.info? elem with
  | none => simp [hq] at hs
  | some i =>
    have hi : i.size = sz := by simpa [hq] using hs
    simp [Builtin.copy_, run_underlying hu, Builtin.lenOf, Builtin.firstCells, sizeOf, typeInfo, hq, hi, ← hn, hl, hst]
/-- copy into a block -/
theorem Wl.copyB {x y : Operand} {t s e f : TypeId} {sz g o dn dc m sc k : Nat} {A : Addr} {cur cs : List Value} (ht : P.underlying t = some (.slice e)) (hs : (P.info? e).map (·.size) = some sz) (hx : ev env x = some (.slice (some ((⟨g, 0, none⟩ : Addr).add o)) dn dc)) (hy : ev env y = some (.slice (some A) m sc))
    (hB : Blk w g f cur) (hk : k = Nat.min m dn) (hcl : cs.length = k * sz) (hsrc : ∀ (j : Nat) (u : Value), cs[j]? = some u → w.cell? (A.add j) = some u) (hfit : o + cs.length ≤ cur.length) (h1 : ∀ v ∈ cs, v.oneCell' = true) (hd : Nat.blt d N = true)
    (h : ∀ w', Blk w' g f (cur.take o ++ cs ++ cur.drop (o + cs.length)) → w.grownBy w' (some g) → Wl P ops Q rest N D ((d, .int .i64 k) :: env) w') :
    Wl P ops Q (⟨some d, .call ⟨.builtin .copy, #[x, y], #[t, s]⟩, ty, pos, af, none⟩ :: rest) N D env w := by
  have hrun := run_copyZ (P := P) w t s ty e sz g o dn dc A m sc k cur.toArray f cs ht hs hB hk hcl hsrc (by simpa using hfit) h1
  refine Wl.m (v := .int .i64 k) (w' := w.setRow g (cur.take o ++ cs ++ cur.drop (o + cs.length)).toArray) (fun a ha dst pos af g' => ?_) hd (h _ hB.setRow ⟨rfl, rfl, rfl, by simp, fun j _ hne => setRow_other w g j _ (fun e => hne (by rw [e]))⟩)
  rw [add_zero_off] at hx
  simp [execOp, resolve, Go.invoke, Go.builtin, ha.eval hx, ha.eval hy, hrun, goInt]
/-- append of made elements, where there is no room: a new block -/
theorem Wl.appendZ {x y : Operand} {t tn e : TypeId} {z : Value} {sz bytes : Nat} {kq kn : IntKind} (ht : P.underlying t = some (.slice e)) (htn : P.underlying tn = some (.int kn)) (hi : (P.info? e).map (fun i => (i.zero, i.size, i.bytes)) = some (some z, sz, bytes)) (hz : z.cells.size = sz)
    {A : Addr} {n c k : Nat} {olds : List Value} (hx : ev env x = some (.slice (some A) n c)) (hy : ev env y = some (.int kq k)) (hcl : olds.length = n * sz) (hold : ∀ (j : Nat) (u : Value), olds[j]? = some u → w.cell? (A.add j) = some u)
    (h0 : 0 < k) (hs : 0 < sz) (hg : c < n + k) (h63 : n + k ≤ maxLen) (h48 : k * bytes ≤ 281474976710656) (hfit : Builtin.nextslicecap (n + k) c * bytes ≤ 281474976710656) (hd : Nat.blt d N = true)
    (h : ∀ (G : Nat) w', n + k ≤ G → G ≤ maxLen → Blk w' w.heap.size e (olds ++ (Builtin.zeroCells z.cells k).toList ++ (Builtin.zeroCells z.cells (G - (n + k))).toList) → Below w.heap.size w w' → Wl P ops Q rest N D ((d, .slice (some ⟨w.heap.size, 0, none⟩) (n + k) G) :: env) w') :
    Wl P ops Q (⟨some d, .call ⟨.builtin .append, #[x, y], #[t, tn]⟩, ty, pos, af, none⟩ :: rest) N D env w := by
  obtain ⟨i, hi0, hi1⟩ := Option.map_eq_some_iff.1 hi
  simp only [Prod.mk.injEq] at hi1
  obtain ⟨hz0, hs0, hb0⟩ := hi1
  have ho : (Builtin.firstCells i.size n (.slice (some A) n c)).run P w.drew = .ok olds.toArray w.drew := by
    rw [hs0]; exact run_firstCells_some w.drew sz n A n c olds hcl hold
  have hr := Lib.run_append_grow_zeros (P := P) w t tn ty e i z kq kn ht htn hi0 hz0 (some A) n c olds ho k h0 (by rw [hs0]; exact hs) hg (by simp only [maxLen] at h63; omega) (by rw [hb0]; exact h48) (by rw [hb0]; exact hfit)
  refine Wl.m (v := .slice (some ⟨w.heap.size, 0, none⟩) (n + k) (grownCap w (n + k) c e)) (w' := w.drew.alloc (.cells (olds.toArray ++ Builtin.zeroCells z.cells k ++ Builtin.zeroCells z.cells (grownCap w (n + k) c e - (n + k))) e)) (fun a ha dst pos af g' => by simp [execOp, resolve, Go.invoke, Go.builtin, ha.eval hx, ha.eval hy, hr]) hd (h (grownCap w (n + k) c e) _ (grownCap_ge _ _ _ _) (grownCap_le_maxLen _ _ _ _ h63) ?_ (((Below.refl _ _).drew).alloc (Nat.le_refl _) _))
  have h2 := Blk.new w.drew e (olds ++ (Builtin.zeroCells z.cells k).toList ++ (Builtin.zeroCells z.cells (grownCap w (n + k) c e - (n + k))).toList)
  have e1 : (olds ++ (Builtin.zeroCells z.cells k).toList ++ (Builtin.zeroCells z.cells (grownCap w (n + k) c e - (n + k))).toList).toArray = olds.toArray ++ Builtin.zeroCells z.cells k ++ Builtin.zeroCells z.cells (grownCap w (n + k) c e - (n + k)) := by apply Array.toList_inj.1; simp
  rw [e1] at h2; exact h2
end
end Go.Bw
namespace Go.Proofs.YtjmlknjbhbfneaaGreatDoor
open Go.RowKit Go.Bw Go.Bw.Fl
set_option linter.unusedVariables false
set_option linter.unusedSimpArgs false
theorem fa105_0LdE (p : Addr) (w : World) : (Instr.fieldAt 105 (.pointer (some p)) 0).run Tryz.prog w = .ok (.pointer (some (p.add 0))) w := run_fieldAt (i := 0) (sz := 0) Tryz.underlying105 rfl (by kernel_rfl) p w
theorem one9LdE : One Tryz.prog 9 := ⟨_, Tryz.underlying9, rfl, by kernel_rfl⟩
theorem sz105LdE : (Tryz.prog.info? 105).map (·.size) = some 5 := by kernel_rfl
theorem txt60LdE : Txt Tryz.prog 60 := ⟨_, Tryz.func60, by kernel_rfl, rfl⟩   -- (*bridleway/load.line).props$1
theorem txt61LdE : Txt Tryz.prog 61 := ⟨_, Tryz.func61, by kernel_rfl, rfl⟩   -- strings.Compare
theorem props1_r (q : Pr) (s : List UInt8) (w : World) : Ret Tryz.prog 60 [.agg (propC q).toArray, str s] w fun v w' => v = .int .i64 (Lib.compareBytes q.1 s) ∧ Below w.heap.size w w' := by
  have hb := Below.refl w.heap.size w
  refine enter Tryz.func60 rfl rfl rfl <| Wc.seq fun _ hK_1 => Wc.region <| Wl.boxN rfl rfl ?_
  rintro g_o0 w_o0 hg_o0 hn_o0 hs_o0
  have hz_o0 := hs_o0.size
  have hb := hb.trans (hs_o0.mono hb.size)
  have hB_o0 := hn_o0
  have hl_o0 := hB_o0.lt
  refine Wl.sg rfl rfl <| Wl.nil <| Wq.next hK_1 <| Wc.seq fun _ hK_4 => Wc.region <| Wl.y (y_fieldAddr (fa105_0LdE _) rfl) rfl <| Wl.l (l_load one9LdE rfl (by exact hB_o0.at (j := 0) rfl)) rfl <| Wl.mv rfl rfl <| Wl.call txt61LdE rfl rfl (Compare_r q.1 s _) rfl ?_
  rintro _ w_ ⟨rfl, hw_⟩
  have hw_ := hw_.symm; subst hw_
  refine Wl.sg rfl rfl <| Wl.nil <| Wq.next hK_4 <| Wc.ret <| ret1 rfl rfl ?_
  exact ⟨_, rfl, rfl, hb⟩
def cmpP (ps : List Pr) (s : List UInt8) (i : Nat) : Int := Lib.compareBytes (ps.getD i pr0).1 s
/-- the names are in order -/
def UpP (ps : List Pr) : Prop := ∀ (s : List UInt8) (i j : Nat), i ≤ j → j < ps.length → cmpP ps s j < 0 → cmpP ps s i < 0
def BsIs (ps : List Pr) (s : List UInt8) (i : Nat) (b : Bool) : Prop := i ≤ ps.length ∧ (∀ k, k < i → cmpP ps s k < 0) ∧ (∀ k, i ≤ k → k < ps.length → ¬ cmpP ps s k < 0) ∧ b = (decide (i < ps.length) && decide (cmpP ps s i = 0))
theorem half (i j : Nat) (h : i + j ≤ 9223372036854775807) : (IntKind.i64.wrap ((IntKind.u64.wrap ((i : Int) + (j : Int))) / 2 ^ (1 : Int).toNat)) = (((i + j) / 2 : Nat) : Int) := by
  rw [IntKind.wrap_u64, IntKind.wrap_i64]
  have e : (2 : Int) ^ (1 : Int).toNat = 2 := rfl
  rw [e]; omega
theorem Bs_r (A : Option Addr) (c : Nat) (ps : List Pr) (s : List UInt8) (w : World) (hR : Rd w 5 A ps.length (propsC ps)) (hU : UpP ps) (hl : ps.length ≤ 1099511627776) : Ret Tryz.prog 59 [.slice A ps.length c, str s, .func (.func 60) #[] #[]] w fun v w' => (∃ i b, v = .tuple #[.int .i64 (i : Nat), .bool b] ∧ BsIs ps s i b) ∧ Below w.heap.size w w' := by
  have hb := Below.refl w.heap.size w
  have hR_hb := hR
  refine enter Tryz.func59 rfl rfl rfl <| Wc.seq fun _ hK_1 => Wc.region <| Wl.sg rfl rfl <| Wl.sg rfl rfl <| Wl.nil <| Wq.next hK_1 <| Wc.seq fun _ hK_4 => Wc.region <| Wl.mv rfl rfl <| Wl.y (y_lenl Tryz.underlying41 (by omega) rfl) rfl <| Wl.sg rfl rfl <| Wl.nil <| Wq.next hK_4 <| Wc.seq fun _ hK_8 => Wc.region <| Wl.mv rfl rfl <| Wl.sg rfl rfl <| Wl.sg rfl rfl <| Wl.nil <| Wq.next hK_8 <| Wc.seq fun _ hK_12 => Wc.block <| Wc.loop (X := Nat × Nat) (fun (i, j) => [(0, .slice A ps.length c), (1, str s), (2, .func (.func 60) #[] #[]), (8, .int .i64 (ps.length : Int)), (9, .int .i64 (i : Int)), (10, .int .i64 (j : Int))]) (fun (i, j) wr => i ≤ j ∧ j ≤ ps.length ∧ (∀ k, k < i → cmpP ps s k < 0) ∧ (∀ k, j ≤ k → k < ps.length → ¬ cmpP ps s k < 0) ∧ Below w.heap.size w wr) (fun (i, j) => j - i) (⟨0, ps.length⟩) ?_ ?_ ?_
  · exact by repeat first | exact Sub.nil | refine Sub.cons' rfl (by first | rfl | exact int_eq (by omega)) ?_
  · exact ⟨by omega, Nat.le_refl _, fun _ h => by omega, fun _ h1 h2 => by omega, hb⟩
  rintro ⟨i, j⟩ wr hI_14 _ hL_13
  replace hI_14 : i ≤ j ∧ j ≤ ps.length ∧ (∀ k, k < i → cmpP ps s k < 0) ∧ (∀ k, j ≤ k → k < ps.length → ¬ cmpP ps s k < 0) ∧ Below w.heap.size w wr := hI_14
  obtain ⟨hij, hj, hlo, hhi, hb⟩ := hI_14
  show Wc _ _ _ _ _ [(0, .slice A ps.length c), (1, str s), (2, .func (.func 60) #[] #[]), (8, .int .i64 (ps.length : Int)), (9, .int .i64 (i : Int)), (10, .int .i64 (j : Int))] _
  have hR := hR_hb.below hb
  have hzhb_L0 := hb.size
  refine Wc.seq fun _ hK_15 => Wc.seq fun _ hK_16 => Wc.region <| Wl.mv rfl rfl <| Wl.mv rfl rfl <| Wl.y (y_lssi rfl rfl) rfl <| Wl.nil <| Wq.next hK_16 <| Wc.cond rfl (fun c0_20 => ?_) (fun c0_20 => ?_)
  ·
   have c0_20_ := c0_20
   simp only [DZ] at c0_20
   have hlt : i < j := by have := c0_20; omega
   refine Wc.skip <| Wq.next hK_15 <| Wc.block <| Wc.seq fun _ hK_21 => Wc.region <| Wl.mv rfl rfl <| Wl.mv rfl rfl <| Wl.y (y_addI rfl rfl (by omega) (by omega)) rfl <| Wl.y (y_convi Tryz.underlying3 Tryz.underlying148 rfl) rfl <| Wl.y (y_shr rfl rfl (by decide) (by decide)) rfl <| Wl.y (y_eq (y_convi Tryz.underlying148 Tryz.underlying3 rfl) (int_eq (half i j (by omega)))) rfl <| Wl.sg rfl rfl <| Wl.nil <| Wq.next hK_21 <| Wc.seq fun _ hK_29 => Wc.region <| Wl.mv rfl rfl <| Wl.mv rfl rfl <| Wl.mv rfl rfl ?_
   have hml : (i + j) / 2 < ps.length := by omega
   obtain ⟨p_, hpe, hcell⟩ := rd_elem propC (l := ps) (by omega) propC_len hR hml pr0
   subst hpe
   refine Wl.y (y_indexAddr Tryz.underlying41 sz105LdE rfl rfl (by omega) (by omega)) rfl <| Wl.l (l_loadS Tryz.underlying105 (by kernel_rfl) rfl (by exact at5 hcell)) rfl <| Wl.mv rfl rfl <| Wl.call txt60LdE rfl rfl (props1_r (ps.getD ((i + j) / 2) pr0) s _) rfl ?_
   rintro _ w_k0 ⟨rfl, hs_k0⟩
   have hz_k0 := hs_k0.size
   have hb := hb.trans (hs_k0.mono hb.size)
   have hR := hR_hb.below hb
   refine Wl.y (y_lssi rfl rfl) rfl <| Wl.nil <| Wq.next hK_29 <| Wc.meet (X := Nat × Nat) (fun (i', j') => [(0, .slice (some p_) ps.length c), (1, str s), (2, .func (.func 60) #[] #[]), (8, .int .i64 (ps.length : Int)), (9, .int .i64 (i' : Int)), (10, .int .i64 (j' : Int))]) (fun (i', j') wm => (i' ≤ j' ∧ j' - i' < j - i) ∧ j' ≤ ps.length ∧ (∀ k, k < i' → cmpP ps s k < 0) ∧ (∀ k, j' ≤ k → k < ps.length → ¬ cmpP ps s k < 0) ∧ Below w.heap.size w wm) (fun _ hM_38 => ?_) ?_
   ·
    refine Wc.cond rfl (fun c1_39 => ?_) (fun c1_39 => ?_)
    ·
     have c1_39_ := c1_39
     simp only [DZ] at c1_39
     obtain ⟨i', hi'⟩ : ∃ i', i' = (i + j) / 2 + 1 := ⟨_, rfl⟩
     obtain ⟨j', hj'⟩ : ∃ j', j' = j := ⟨_, rfl⟩
     have hcm : cmpP ps s ((i + j) / 2) < 0 := c1_39
     have h3 : ∀ k, k < i' → cmpP ps s k < 0 := fun k hk => hU s k ((i + j) / 2) (by omega) hml hcm
     have h4 : ∀ k, j' ≤ k → k < ps.length → ¬ cmpP ps s k < 0 := by rw [hj']; exact hhi
     refine Wc.region <| Wl.mv rfl rfl <| Wl.y (y_addI rfl rfl (by omega) (by omega)) rfl <| Wl.sg rfl rfl <| Wl.nil <| Wq.meet hM_38 (⟨i', j'⟩) (by repeat first | exact Sub.nil | refine Sub.cons' rfl (by first | rfl | exact int_eq (by omega)) ?_) ?_
     exact ⟨⟨(show i' ≤ j' by omega), (show j' - i' < j - i by omega)⟩, (show j' ≤ ps.length by omega), h3, h4, hb⟩
    have c1_39_ := c1_39
    simp only [DZ] at c1_39
    obtain ⟨i', hi'⟩ : ∃ i', i' = i := ⟨_, rfl⟩
    obtain ⟨j', hj'⟩ : ∃ j', j' = (i + j) / 2 := ⟨_, rfl⟩
    have hcm : ¬ cmpP ps s ((i + j) / 2) < 0 := by have h : 0 ≤ cmpP ps s ((i + j) / 2) := c1_39; omega
    have h3 : ∀ k, k < i' → cmpP ps s k < 0 := by rw [hi']; exact hlo
    have h4 : ∀ k, j' ≤ k → k < ps.length → ¬ cmpP ps s k < 0 := fun k h1 h2 h5 => hcm (hU s ((i + j) / 2) k (by omega) h2 h5)
    refine Wc.region <| Wl.mv rfl rfl <| Wl.sg rfl rfl <| Wl.nil <| Wq.meet hM_38 (⟨i', j'⟩) (by repeat first | exact Sub.nil | refine Sub.cons' rfl (by first | rfl | exact int_eq (by omega)) ?_) ?_
    exact ⟨⟨(show i' ≤ j' by omega), (show j' - i' < j - i by omega)⟩, (show j' ≤ ps.length by omega), h3, h4, hb⟩
   rintro ⟨i', j'⟩ wm hI_45
   replace hI_45 : (i' ≤ j' ∧ j' - i' < j - i) ∧ j' ≤ ps.length ∧ (∀ k, k < i' → cmpP ps s k < 0) ∧ (∀ k, j' ≤ k → k < ps.length → ¬ cmpP ps s k < 0) ∧ Below w.heap.size w wm := hI_45
   obtain ⟨⟨h1, hdc⟩, h2, h3, h4, hb⟩ := hI_45
   show Wq _ _ _ _ [(0, .slice (some p_) ps.length c), (1, str s), (2, .func (.func 60) #[] #[]), (8, .int .i64 (ps.length : Int)), (9, .int .i64 (i' : Int)), (10, .int .i64 (j' : Int))] _
   have hR := hR_hb.below hb
   have hzhb_c1 := hb.size
   refine Wq.block_normal <| fun a_ ha_ => hL_13 _ _ (⟨i', j'⟩) (by show j' - i' < j - i; omega) (by repeat first | exact Sub.nil | refine Sub.cons' rfl (by first | rfl | exact int_eq (by omega)) ?_) ?_ a_ ha_
   exact ⟨h1, h2, h3, h4, hb⟩
  have c0_20_ := c0_20
  simp only [DZ] at c0_20
  have hij2 : i = j := by have := c0_20; omega
  refine Wc.exit <| Wq.then_exit <| Wq.then_exit <| Wq.block_exit <| Wq.next hK_12 <| Wc.seq fun _ hK_46 => Wc.region <| Wl.mv rfl rfl <| Wl.mv rfl rfl <| Wl.mv rfl rfl <| Wl.y (y_lssi rfl rfl) rfl <| Wl.mv rfl rfl <| Wl.guardT rfl rfl rfl (fun g_52 => ?_) (fun g_52 => ?_)
  ·
   have g_52_ := g_52
   simp only [DZ] at g_52
   refine Wl.mv rfl rfl <| Wl.on' rfl rfl g_52_ <| Wl.mv rfl rfl <| Wl.on' rfl rfl g_52_ <| Wl.mv rfl rfl <| Wl.on' rfl rfl g_52_ ?_
   have hil : i < ps.length := by omega
   obtain ⟨p2_, hpe2, hcell2⟩ := rd_elem propC (l := ps) (by omega) propC_len hR hil pr0
   subst hpe2
   refine Wl.y (y_indexAddr Tryz.underlying41 sz105LdE rfl rfl (by omega) (by omega)) rfl <| Wl.on' rfl rfl g_52_ <| Wl.l (l_loadS Tryz.underlying105 (by kernel_rfl) rfl (by exact at5 hcell2)) rfl <| Wl.on' rfl rfl g_52_ <| Wl.mv rfl rfl <| Wl.on' rfl rfl g_52_ <| Wl.call txt60LdE rfl rfl (props1_r (ps.getD i pr0) s _) rfl ?_
   rintro _ w_k1 ⟨rfl, hs_k1⟩
   have hz_k1 := hs_k1.size
   have hb := hb.trans (hs_k1.mono hb.size)
   have hR := hR_hb.below hb
   refine Wl.on' rfl rfl g_52_ <| Wl.y (y_eqli rfl rfl) rfl <| Wl.y (y_pickT rfl g_52_ rfl) rfl <| Wl.sg rfl rfl <| Wl.sg rfl rfl <| Wl.nil <| Wq.next hK_46 <| Wc.ret <| ret2 rfl rfl rfl ?_
   exact ⟨_, rfl, ⟨i, _, rfl, by omega, hlo, by rw [hij2]; exact hhi, by first | (rw [decide_eq_true (by omega : i < ps.length), Bool.true_and, Bool.eq_iff_iff]; simp [cmpP]; done) | (rw [decide_eq_false (by omega : ¬ i < ps.length)]; rfl)⟩, hb⟩
  have g_52_ := g_52
  simp only [DZ] at g_52
  refine Wl.off' rfl rfl g_52_ rfl rfl <| Wl.off' rfl rfl g_52_ rfl rfl <| Wl.off' rfl rfl g_52_ rfl rfl <| Wl.off' rfl rfl g_52_ rfl rfl <| Wl.off' rfl rfl g_52_ rfl rfl <| Wl.off' rfl rfl g_52_ rfl rfl <| Wl.off' rfl rfl g_52_ rfl rfl <| Wl.y (y_pickF rfl g_52_ rfl) rfl <| Wl.sg rfl rfl <| Wl.sg rfl rfl <| Wl.nil <| Wq.next hK_46 <| Wc.ret <| ret2 rfl rfl rfl ?_
  exact ⟨_, rfl, ⟨i, _, rfl, by omega, hlo, by rw [hij2]; exact hhi, by first | (rw [decide_eq_true (by omega : i < ps.length), Bool.true_and, Bool.eq_iff_iff]; simp [cmpP]; done) | (rw [decide_eq_false (by omega : ¬ i < ps.length)]; rfl)⟩, hb⟩
end Go.Proofs.YtjmlknjbhbfneaaGreatDoor
namespace Go.Bw
open Go.RowKit
set_option linter.unusedVariables false
set_option linter.unusedSimpArgs false
section
variable {P : Program} {N : Nat} {D : List Deferred} {env env' : Env} {a : Act} {w w' : World} {Q : Exit → Act → World → Prop}
variable {ops : Array Oper} {rest : List Oper} {d : Nat} {op : Op} {ty : TypeId} {pos : String} {af : Array Edge}
theorem slOff {g c n sz k : Nat} {m : Int} (hm : m = (k : Int)) (h : c ≠ k) : Value.slice (if c = m.toNat then (some (⟨g, 0, none⟩ : Addr)) else (some (⟨g, 0, none⟩ : Addr)).map (·.add (m.toNat * sz))) (n - m.toNat) (c - m.toNat) = .slice (some ((⟨g, 0, none⟩ : Addr).add (k * sz))) (n - k) (c - k) := by
  subst hm; rw [Int.toNat_natCast, if_neg h]; rfl
/-- two rows in two blocks do not overlap -/
theorem Wl.overl {x y z : Operand} {f : FuncId} {t e r : TypeId} {sz g h o la ca lb cb : Nat} {tA tB : TypeId} {cs cur : List Value} (hr0 : Extn P f (Extern.SlicesOverlaps.overlaps #[t, t] #[r])) (ht : P.underlying t = some (.slice e)) (hs : (P.info? e).map (·.size) = some sz)
    (hx : ev env x = some (.func (.func f) #[] #[])) (hy : ev env y = some (.slice (some ⟨g, 0, none⟩) la ca)) (hz : ev env z = some (.slice (some ((⟨h, 0, none⟩ : Addr).add o)) lb cb)) (hA : Blk w g tA cs) (hB : Blk w h tB cur) (hne : g ≠ h) (hk : cur.length ≠ 0) {ts : Array TypeId} (hd : Nat.blt d N = true)
    (hh : Wl P ops Q rest N D ((d, .bool false) :: env) w) : Wl P ops Q (⟨some d, .call ⟨.value x, #[y, z], ts⟩, ty, pos, af, none⟩ :: rest) N D env w := by
  have e1 : (⟨h, 0, none⟩ : Addr).add o = ⟨h, o, none⟩ := add_zero_off h o
  have hrun := Lib.run_overlaps_apart (P := P) w t r e ht sz (fun w => run_sizeOf hs w) ⟨g, 0, none⟩ ⟨h, o, none⟩ la ca lb cb hne tA tB cs.length cur.length (by simp [World.shape?, show w.heap[g]? = _ from hA]) (by simp [World.shape?, show w.heap[h]? = _ from hB]) hk (by simp [World.frozen?, show w.heap[g]? = _ from hA]) (by simp [World.frozen?, show w.heap[g]? = _ from hA])
  refine Wl.l (v := .bool false) (fun a ha dst pos af g' => ?_) hd hh
  have hc := hr0 #[.slice (some ⟨g, 0, none⟩) la ca, .slice (some ⟨h, o, none⟩) lb cb] w
  rw [e1] at hz
  simp [execOp, resolve, Go.invoke, Deferred.ofValue, ha.eval hx, ha.eval hy, ha.eval hz, hc, hrun]
end
end Go.Bw
namespace Go.Proofs.YtjmlknjbhbfneaaGreatDoor
open Go.RowKit Go.Bw Go.Bw.Fl
set_option linter.unusedVariables false
set_option linter.unusedSimpArgs false

theorem exOv : Extn Tryz.prog 98 (Extern.SlicesOverlaps.overlaps #[41, 41] #[4]) := fun args w => run_callFunc_extern Tryz.func98 (by kernel_rfl) (by kernel_rfl) (by kernel_rfl) (by kernel_rfl) args w
theorem propC_one (q : Pr) : ∀ u ∈ propC q, u.oneCell' = true := fun u hu => by
  unfold propC Val.cells at hu
  simp only [List.mem_cons, List.not_mem_nil, or_false] at hu
  rcases hu with rfl | rfl | rfl | rfl | rfl <;> rfl
theorem propsC_one (ps : List Pr) : ∀ u ∈ propsC ps, u.oneCell' = true := fun u hu => by
  unfold propsC at hu; obtain ⟨q, _, h⟩ := List.mem_flatMap.1 hu; exact propC_one q u h
def insP (ps : List Pr) (i : Nat) (q : Pr) : List Pr := ps.take i ++ q :: ps.drop i
theorem insP_len {ps : List Pr} {i : Nat} (h : i ≤ ps.length) (q : Pr) : (insP ps i q).length = ps.length + 1 := by
  unfold insP; rw [List.length_append, List.length_cons, List.length_take, List.length_drop]; omega
theorem propsC_take (ps : List Pr) (i : Nat) : (propsC ps).take (i * 5) = propsC (ps.take i) := by
  have h := congrArg propsC (List.take_append_drop i ps)
  have h2 : propsC (ps.take i ++ ps.drop i) = propsC (ps.take i) ++ propsC (ps.drop i) := by unfold propsC; rw [List.flatMap_append]
  rw [h2] at h
  rcases Nat.le_total i ps.length with hi | hi
  · rw [← h, show i * 5 = (propsC (ps.take i)).length by rw [propsC_len, List.length_take]; omega, List.take_left]
  · rw [List.take_of_length_le (by rw [propsC_len]; omega), List.take_of_length_le hi]
theorem propsC_drop (ps : List Pr) (i : Nat) : (propsC ps).drop (i * 5) = propsC (ps.drop i) := by
  have h := congrArg propsC (List.take_append_drop i ps)
  have h2 : propsC (ps.take i ++ ps.drop i) = propsC (ps.take i) ++ propsC (ps.drop i) := by unfold propsC; rw [List.flatMap_append]
  rw [h2] at h
  rcases Nat.le_total i ps.length with hi | hi
  · rw [← h, show i * 5 = (propsC (ps.take i)).length by rw [propsC_len, List.length_take]; omega, List.drop_left]
  · rw [List.drop_eq_nil_of_le (by rw [propsC_len]; omega), List.drop_eq_nil_of_le hi]; rfl
theorem propsC_ins (ps : List Pr) (i : Nat) (q : Pr) : propsC (insP ps i q) = (propsC ps).take (i * 5) ++ propC q ++ (propsC ps).drop (i * 5) := by
  rw [propsC_take, propsC_drop]; unfold insP propsC; rw [List.flatMap_append, List.flatMap_cons, List.append_assoc]
end Go.Proofs.YtjmlknjbhbfneaaGreatDoor
namespace Go.Proofs.YtjmlknjbhbfneaaGreatDoor
open Go.RowKit Go.Bw Go.Bw.Fl
set_option linter.unusedVariables false
set_option linter.unusedSimpArgs false
theorem sz105LdG : (Tryz.prog.info? 105).map (·.size) = some 5 := by kernel_rfl
theorem take_app {α : Type} {A B : List α} {n : Nat} (h : A.length = n) : (A ++ B).take n = A := by subst h; exact List.take_left
theorem drop_app {α : Type} {A B : List α} {n : Nat} (h : A.length = n) : (A ++ B).drop n = B := by subst h; exact List.drop_left
theorem ins_new {L O X T R R2 : List Value} {a b m : Nat} (hO : O.length = a) (hX : X.length = b) (hT : T.length = m) (hL : L.take a = O) : ((L.take a ++ X ++ R).take (a + b) ++ T ++ R2).take (a + b + m) = O ++ X ++ T := by
  rw [hL, take_app (A := O ++ X) (by rw [List.length_append]; omega), take_app (by simp; omega)]
theorem ins_old {C T X : List Value} {a b m : Nat} (hC : a + b + m ≤ C.length) (hX : X.length = b) (hT : T.length = m) : ((C.take (a + b) ++ T ++ C.drop (a + b + T.length)).take a ++ X ++ (C.take (a + b) ++ T ++ C.drop (a + b + T.length)).drop (a + X.length)).take (a + b + m) = C.take a ++ X ++ T := by
  have h1 : (C.take (a + b)).length = a + b := by rw [List.length_take]; omega
  have h2 : (C.take (a + b) ++ T ++ C.drop (a + b + T.length)).take a = C.take a := by
    rw [List.append_assoc, List.take_append_of_le_length (by omega), List.take_take, Nat.min_eq_left (by omega)]
  have h3 : (C.take (a + b) ++ T ++ C.drop (a + b + T.length)).drop (a + X.length) = T ++ C.drop (a + b + T.length) := by
    rw [List.append_assoc, drop_app (by omega)]
  have h4 : (C.take a).length = a := by rw [List.length_take]; omega
  rw [h2, h3, ← List.append_assoc, take_app (A := C.take a ++ X ++ T) (by simp; omega)]
theorem Insert_some (base g c : Nat) (cur : List Value) (ps : List Pr) (i : Nat) (q : Pr) (gb : Nat) (w : World) (hP : Blk w g 105 cur) (hcl : cur.length = c * 5) (hnc : ps.length ≤ c) (hcm : c ≤ maxLen) (htk : cur.take (ps.length * 5) = propsC ps) (hB : Blk w gb 105 (propC q)) (hgb : gb ≠ g) (hi : i ≤ ps.length) (hl : ps.length ≤ 4294967296) (hbg : base ≤ g) :
    Ret Tryz.prog 62 [.slice (some ⟨g, 0, none⟩) ps.length c, .int .i64 (i : Int), .slice (some ⟨gb, 0, none⟩) 1 1] w fun u w' => w'.ownsRow base 105 5 u (ps.length + 1) (propsC (insP ps i q)) ∧ Kp g w w' := by
  have hgl := hP.lt
  have hgbl := hB.lt
  have hcm2 : c ≤ 9223372036854775807 := hcm
  have hpl := propsC_len ps
  have hcell : ∀ (j : Nat) (u : Value), (propsC ps)[j]? = some u → cur[j]? = some u := fun j u hu => by
    rw [← htk, List.getElem?_take] at hu
    split at hu
    · exact hu
    · cases hu
  have hO : w.ownsRow base 105 5 (.slice (some ⟨g, 0, none⟩) ps.length c) ps.length (propsC ps) := ⟨hpl, .inr ⟨g, c, cur.toArray, rfl, hbg, hP, hnc, hcm, by simpa using hcl, by simpa using htk⟩⟩
  have hb := Kp.refl g w
  refine enter Tryz.func62 rfl rfl rfl <| Wc.seq fun _ hK_1 => Wc.region <| Wl.sg rfl rfl <| Wl.nil <| Wq.next hK_1 <| Wc.seq fun _ hK_3 => Wc.region <| Wl.mv rfl rfl <| Wl.mv rfl rfl <| Wl.y (y_slicelL Tryz.underlying41 sz105LdG rfl rfl (by omega) (by omega)) rfl <| Wl.nil <| Wq.next hK_3 <| Wc.seq fun _ hK_7 => Wc.region <| Wl.mv rfl rfl <| Wl.y (y_lenl Tryz.underlying41 (by omega) rfl) rfl <| Wl.sg rfl rfl <| Wl.nil <| Wq.next hK_7 <| Wc.seq fun _ hK_11 => Wc.seq fun _ hK_12 => Wc.region <| Wl.mv rfl rfl <| Wl.y (y_eqli rfl rfl) rfl <| Wl.nil <| Wq.next hK_12 <| Wc.cond rfl (fun c0_15 => ?_) (fun c0_15 => ?_)
  ·
   have c0_15_ := c0_15
   simp only [DZ] at c0_15
   omega
  have c0_15_ := c0_15
  simp only [DZ] at c0_15
  refine Wc.skip <| Wq.next hK_11 <| Wc.seq fun _ hK_16 => Wc.region <| Wl.mv rfl rfl <| Wl.y (y_lenl Tryz.underlying41 (by omega) rfl) rfl <| Wl.sg rfl rfl <| Wl.nil <| Wq.next hK_16 <| Wc.seq fun _ hK_20 => Wc.seq fun _ hK_21 => Wc.region <| Wl.mv rfl rfl <| Wl.mv rfl rfl <| Wl.y (y_eqli rfl rfl) rfl <| Wl.nil <| Wq.next hK_21 <| Wc.cond rfl (fun c1_25 => ?_) (fun c1_25 => ?_)
  ·
   have c1_25_ := c1_25
   simp only [DZ] at c1_25
   refine Wc.seq fun _ hK_26 => Wc.region <| Wl.mv rfl rfl <| Wl.mv rfl rfl <| Wl.append (z := .agg #[str [], .int .i64 0, .int .i64 0, .float .f64 0, str []]) (sz := 5) (bytes := 56) Tryz.underlying41 (by kernel_rfl) rfl (by decide) base rfl hO rfl (hB.rd 1 5 rfl) (propC_one q) (by simp only [maxLen]; omega) (by omega) (by omega) rfl ?_
   rintro v_b2 w_b2 hO2 hg_b2 ha_b2
   refine Wl.sg rfl rfl <| Wl.nil <| Wq.next hK_26 <| Wc.ret <| Wq.then_ret <| ret1 rfl rfl ?_
   exact ⟨_, rfl, by have he : i = ps.length := (by have := c1_25; omega); rw [propsC_ins, he, ← hpl, List.take_length, List.drop_length, List.append_nil]; exact hO2, hg_b2⟩
  have c1_25_ := c1_25
  simp only [DZ] at c1_25
  have hin : i < ps.length := by have := c1_25; omega
  refine Wc.skip <| Wq.next hK_20 <| Wc.seq fun _ hK_31 => Wc.seq fun _ hK_32 => Wc.region <| Wl.mv rfl rfl <| Wl.mv rfl rfl <| Wl.y (y_addI rfl rfl (by omega) (by omega)) rfl <| Wl.mv rfl rfl <| Wl.y (y_capl Tryz.underlying41 (by omega) rfl) rfl <| Wl.y (y_gtri rfl rfl) rfl <| Wl.nil <| Wq.next hK_32 <| Wc.cond rfl (fun c2_39 => ?_) (fun c2_39 => ?_)
  ·
   have c2_39_ := c2_39
   simp only [DZ] at c2_39
   have hno : c < ps.length + 1 := by have := c2_39; omega
   refine Wc.seq fun _ hK_40 => Wc.region <| Wl.mv rfl rfl <| Wl.mv rfl rfl <| Wl.y (y_slicelH Tryz.underlying41 sz105LdG rfl rfl (by omega) (by omega)) rfl <| Wl.mv rfl rfl <| Wl.mv rfl rfl <| Wl.y (y_addI rfl rfl (by omega) (by omega)) rfl <| Wl.mv rfl rfl <| Wl.y (y_eq (y_subI rfl rfl (by omega) (by omega)) (int_eq (show _ = ((ps.length + 1 - i : Nat) : Int) by omega))) rfl <| Wl.appendZ (z := .agg #[str [], .int .i64 0, .int .i64 0, .float .f64 0, str []]) (sz := 5) (bytes := 56) (n := i) (k := ps.length + 1 - i) (A := ⟨g, 0, none⟩) (c := c) (kq := .i64) (olds := propsC (ps.take i)) Tryz.underlying41 Tryz.underlying3 (by kernel_rfl) rfl rfl rfl (by rw [propsC_len, List.length_take]; omega) (fun j u hu => hP.at (hcell j u (by rw [← propsC_take, List.getElem?_take] at hu; split at hu; (· exact hu); (· cases hu)))) (by omega) (by decide) (by omega) (by simp only [maxLen]; omega) (by omega) (growslice_fits (by omega) (by omega)) rfl ?_
   rintro G w_b4 hG hGm hN hs_b4
   have hP := hP.below hs_b4
   have hB := hB.below hs_b4
   have hz_b4 := hs_b4.size
   have hb := hb.trans (Below.kp (p := g) hs_b4)
   obtain ⟨L0, hL0⟩ : ∃ L0, L0 = propsC (ps.take i) ++ (Builtin.zeroCells (Value.agg #[str [], .int .i64 0, .int .i64 0, .float .f64 0, str []]).cells (ps.length + 1 - i)).toList ++ (Builtin.zeroCells (Value.agg #[str [], .int .i64 0, .int .i64 0, .float .f64 0, str []]).cells (G - (i + (ps.length + 1 - i)))).toList := ⟨_, rfl⟩
   rw [← hL0] at hN
   have hLl : L0.length = G * 5 := by rw [hL0]; simp [Builtin.zeroCells, Value.cells, propsC_len]; omega
   refine Wl.sg rfl rfl <| Wl.nil <| Wq.next hK_40 <| Wc.seq fun _ hK_51 => Wc.region <| Wl.mv rfl rfl <| Wl.mv rfl rfl <| Wl.y (y_eq (y_slicelL Tryz.underlying41 sz105LdG rfl rfl (by omega) (by omega)) (slOff (k := i) rfl (by omega))) rfl <| Wl.mv rfl rfl <| Wl.copyB (sz := 5) (k := 1) (cs := propC q) (cur := L0) (g := w.heap.size) (o := i * 5) Tryz.underlying41 (by kernel_rfl) rfl rfl hN (show 1 = Nat.min 1 _ from (Nat.min_eq_left (by omega)).symm) rfl (fun j u hu => hB.at hu) (by rw [hLl, propC_len]; omega) (propC_one q) rfl ?_
   rintro w_b5 hN5 hg_b5
   have hP := hP.over hg_b5 (by omega)
   have hz_b5 := hg_b5.size
   have hb := kp_blk hb hg_b5 (.inl (Nat.le_refl _))
   refine Wl.nil <| Wq.next hK_51 <| Wc.seq fun _ hK_57 => Wc.any (n := 9) (fun w' => Kp g w w') #[false, false, false, false, false, false, false, false, false] (by kernel_rfl) rfl (by kernel_rfl) <| Wa.drew ?_
   rintro w_g11 hs_g11
   have hz_g11 := hs_g11.size
   have hP := hP.below hs_g11
   replace hs_g11 := Below.kp (p := g) hs_g11
   have hb := hb.trans hs_g11
   have hN6 := hN5.kp hs_g11 (by omega)
   refine Wa.take (i := 0) #[true, false, false, false, false, false, false, false, false] rfl (by kernel_rfl) (fun _ _ _ h => h) rfl (fun wq hq => Yl.ld (y_move rfl)) hb <| Wa.take (i := 1) #[true, true, false, false, false, false, false, false, false] rfl (by kernel_rfl) (fun _ _ _ h => h) rfl (fun wq hq => Yl.ld (y_move rfl)) hb <| Wa.take (i := 2) #[true, true, true, false, false, false, false, false, false] rfl (by kernel_rfl) (fun _ _ _ h => h) rfl (fun wq hq => Yl.ld (y_move rfl)) hb <| Wa.take (i := 3) #[true, true, true, true, false, false, false, false, false] rfl (by kernel_rfl) (fun _ _ _ h => h) rfl (fun wq hq => Yl.ld (y_addI rfl rfl (by omega) (by omega))) hb <| Wa.take (i := 4) #[true, true, true, true, true, false, false, false, false] rfl (by kernel_rfl) (fun _ _ _ h => h) rfl (fun wq hq => Yl.ld (y_eq (y_slicelL Tryz.underlying41 sz105LdG rfl rfl (by omega) (by omega)) (slOff (k := i + 1) (by omega) (by omega)))) hb <| Wa.take (i := 5) #[true, true, true, true, true, true, false, false, false] rfl (by kernel_rfl) (fun _ _ _ h => h) rfl (fun wq hq => Yl.ld (y_move rfl)) hb <| Wa.take (i := 6) #[true, true, true, true, true, true, true, false, false] rfl (by kernel_rfl) (fun _ _ _ h => h) rfl (fun wq hq => Yl.ld (y_move rfl)) hb <| Wa.take (i := 7) #[true, true, true, true, true, true, true, true, false] rfl (by kernel_rfl) (fun _ _ _ h => h) rfl (fun wq hq => Yl.ld (y_eq (y_slicelL Tryz.underlying41 sz105LdG rfl rfl (by omega) (by omega)) (slOff (k := i) rfl (by omega)))) hb <| Wa.some (rs := [8]) (by kernel_rfl) rfl <| Ws.cons #[true, true, true, true, true, true, true, true, true] rfl rfl (fun _ hK_66 => ?_) ?_
   ·
    refine Wl.copyB (sz := 5) (k := ps.length - i) (cs := (propsC ps).drop (i * 5)) (g := w.heap.size) (o := (i + 1) * 5) Tryz.underlying41 (by kernel_rfl) rfl rfl hN6 (by show ps.length - i = min (ps.length - i) _; omega) (by rw [propsC_drop, propsC_len, List.length_drop]) (fun j u hu => by rw [addr_add_add]; exact hP.at (hcell _ u (by rw [List.getElem?_drop] at hu; exact hu))) (by simp [propsC_len, propC_len, hLl]; omega) (fun u hu => propsC_one ps u (List.mem_of_mem_drop hu)) rfl ?_
    rintro w_b6 hN7 hg_b6
    have hb := kp_blk hb hg_b6 (.inl (Nat.le_refl _))
    refine Wl.nil <| Wq.back hK_66 hb <| Wa.done (by kernel_rfl) <| Wq.next hK_57 <| Wc.seq fun _ hK_68 => Wc.region <| Wl.mv rfl rfl <| Wl.sg rfl rfl <| Wl.nil <| Wq.next hK_68 <| Wc.ret <| Wq.then_ret <| ret1 rfl rfl ?_
    exact ⟨_, rfl, by
  have e1 : i + (ps.length + 1 - i) = ps.length + 1 := by omega
  have hO1 : (propsC (ps.take i)).length = i * 5 := by rw [propsC_len, List.length_take]; omega
  have hTl : ((propsC ps).drop (i * 5)).length = (ps.length - i) * 5 := by rw [propsC_drop, propsC_len, List.length_drop]
  have hLt : L0.take (i * 5) = propsC (ps.take i) := by rw [hL0, List.append_assoc, take_app hO1]
  have e5 : (i + 1) * 5 = i * 5 + 5 := by omega
  have e6 : (ps.length + 1) * 5 = i * 5 + 5 + (ps.length - i) * 5 := by omega
  rw [e1]
  refine ⟨by rw [propsC_len, insP_len hi], .inr ⟨w.heap.size, G, _, rfl, by omega, hN7, by omega, hGm, ?_, ?_⟩⟩
  · simp [propC_len, hLl, hTl]; omega
  · rw [propsC_ins, propsC_take, e5, e6]; exact ins_new hO1 rfl hTl hLt, hb⟩
   exact Ws.nil
  have c2_39_ := c2_39
  simp only [DZ] at c2_39
  refine Wc.skip <| Wq.next hK_31 <| Wc.seq fun _ hK_71 => Wc.region <| Wl.mv rfl rfl <| Wl.mv rfl rfl <| Wl.mv rfl rfl <| Wl.y (y_addI rfl rfl (by omega) (by omega)) rfl <| Wl.y (y_slicelH Tryz.underlying41 sz105LdG rfl rfl (by omega) (by omega)) rfl <| Wl.sg rfl rfl <| Wl.nil <| Wq.next hK_71 <| Wc.seq fun _ hK_78 => Wc.seq fun _ hK_79 => Wc.region <| Wl.mv rfl rfl <| Wl.mv rfl rfl <| Wl.mv rfl rfl <| Wl.mv rfl rfl <| Wl.y (y_addI rfl rfl (by omega) (by omega)) rfl <| Wl.y (y_eq (y_slicelL Tryz.underlying41 sz105LdG rfl rfl (by omega) (by omega)) (slOff (k := i + 1) (by omega) (by omega))) rfl <| Wl.overl exOv Tryz.underlying41 (sz := 5) (by kernel_rfl) rfl rfl rfl hB hP hgb (by omega) rfl <| Wl.y (y_not rfl) rfl <| Wl.nil <| Wq.next hK_79 <| Wc.cond rfl (fun c3_88 => ?_) (fun c3_88 => ?_)
  ·
   have c3_88_ := c3_88
   simp only [DZ] at c3_88
   refine Wc.seq fun _ hK_89 => Wc.any (n := 9) (fun w' => Kp g w w') #[false, false, false, false, false, false, false, false, false] (by kernel_rfl) rfl (by kernel_rfl) <| Wa.drew ?_
   rintro w_g15 hs_g15
   have hz_g15 := hs_g15.size
   have hP := hP.below hs_g15
   have hB := hB.below hs_g15
   replace hs_g15 := Below.kp (p := g) hs_g15
   have hb := hb.trans hs_g15
   have hTl : ((propsC ps).drop (i * 5)).length = (ps.length - i) * 5 := by rw [propsC_drop, propsC_len, List.length_drop]
   refine Wa.take (i := 0) #[true, false, false, false, false, false, false, false, false] rfl (by kernel_rfl) (fun _ _ _ h => h) rfl (fun wq hq => Yl.ld (y_move rfl)) hb <| Wa.take (i := 1) #[true, true, false, false, false, false, false, false, false] rfl (by kernel_rfl) (fun _ _ _ h => h) rfl (fun wq hq => Yl.ld (y_move rfl)) hb <| Wa.take (i := 2) #[true, true, true, false, false, false, false, false, false] rfl (by kernel_rfl) (fun _ _ _ h => h) rfl (fun wq hq => Yl.ld (y_move rfl)) hb <| Wa.take (i := 3) #[true, true, true, true, false, false, false, false, false] rfl (by kernel_rfl) (fun _ _ _ h => h) rfl (fun wq hq => Yl.ld (y_addI rfl rfl (by omega) (by omega))) hb <| Wa.take (i := 4) #[true, true, true, true, true, false, false, false, false] rfl (by kernel_rfl) (fun _ _ _ h => h) rfl (fun wq hq => Yl.ld (y_eq (y_slicelL Tryz.underlying41 sz105LdG rfl rfl (by omega) (by omega)) (slOff (k := i + 1) (by omega) (by omega)))) hb <| Wa.take (i := 5) #[true, true, true, true, true, true, false, false, false] rfl (by kernel_rfl) (fun _ _ _ h => h) rfl (fun wq hq => Yl.ld (y_move rfl)) hb <| Wa.take (i := 6) #[true, true, true, true, true, true, true, false, false] rfl (by kernel_rfl) (fun _ _ _ h => h) rfl (fun wq hq => Yl.ld (y_move rfl)) hb <| Wa.take (i := 7) #[true, true, true, true, true, true, true, true, false] rfl (by kernel_rfl) (fun _ _ _ h => h) rfl (fun wq hq => Yl.ld (y_eq (y_slicelL Tryz.underlying41 sz105LdG rfl rfl (by omega) (by omega)) (slOff (k := i) rfl (by omega)))) hb <| Wa.some (rs := [8]) (by kernel_rfl) rfl <| Ws.cons #[true, true, true, true, true, true, true, true, true] rfl rfl (fun _ hK_98 => ?_) ?_
   ·
    refine Wl.copyB (sz := 5) (k := ps.length - i) (cs := (propsC ps).drop (i * 5)) (g := g) (o := (i + 1) * 5) Tryz.underlying41 (by kernel_rfl) rfl rfl hP (by show ps.length - i = min _ _; omega) hTl (fun j u hu => by rw [addr_add_add]; exact hP.at (hcell _ u (by rw [List.getElem?_drop] at hu; exact hu))) (by rw [hTl, hcl]; omega) (fun u hu => propsC_one ps u (List.mem_of_mem_drop hu)) rfl ?_
    rintro w_b7 hP7 hg_b7
    have hB := hB.over hg_b7 hgb
    have hz_b7 := hg_b7.size
    have hb := kp_blk hb hg_b7 (.inr rfl)
    refine Wl.nil <| Wq.back hK_98 hb <| Wa.done (by kernel_rfl) <| Wq.next hK_89 <| Wc.seq fun _ hK_100 => Wc.region <| Wl.mv rfl rfl <| Wl.mv rfl rfl <| Wl.y (y_eq (y_slicelL Tryz.underlying41 sz105LdG rfl rfl (by omega) (by omega)) (slOff (k := i) rfl (by omega))) rfl <| Wl.mv rfl rfl <| Wl.copyB (sz := 5) (k := 1) (cs := propC q) (g := g) (o := i * 5) Tryz.underlying41 (by kernel_rfl) rfl rfl hP7 (show 1 = Nat.min 1 _ from (Nat.min_eq_left (by omega)).symm) rfl (fun j u hu => hB.at hu) (by simp [propC_len, hTl, hcl]; omega) (propC_one q) rfl ?_
    rintro w_b8 hP8 hg_b8
    have hb := kp_blk hb hg_b8 (.inr rfl)
    refine Wl.nil <| Wq.next hK_100 <| Wc.seq fun _ hK_106 => Wc.region <| Wl.mv rfl rfl <| Wl.sg rfl rfl <| Wl.nil <| Wq.next hK_106 <| Wc.ret <| Wq.then_ret <| ret1 rfl rfl ?_
    exact ⟨_, rfl, by
  have e0 : ((ps.length : Int) + ((1 : Nat) : Int)).toNat = ps.length + 1 := by omega
  have e5 : (i + 1) * 5 = i * 5 + 5 := by omega
  have e6 : (ps.length + 1) * 5 = i * 5 + 5 + (ps.length - i) * 5 := by omega
  have hct : cur.take (i * 5) = (propsC ps).take (i * 5) := by rw [← htk, List.take_take, Nat.min_eq_left (by omega)]
  rw [e5] at hP8
  rw [e0]
  refine ⟨by rw [propsC_len, insP_len hi], .inr ⟨g, c, _, rfl, hbg, hP8, by omega, hcm, ?_, ?_⟩⟩
  · simp [propC_len, hTl, hcl]; omega
  · rw [propsC_ins, e6, ← hct]; exact ins_old (by omega) rfl hTl, hb⟩
   exact Ws.nil
  have c3_88_ := c3_88
  simp only [DZ] at c3_88
  cases c3_88_
theorem Insert_nil (base : Nat) (q : Pr) (gb : Nat) (w : World) (hB : Blk w gb 105 (propC q)) (hbase : base ≤ w.heap.size) :
    Ret Tryz.prog 62 [.slice none 0 0, .int .i64 0, .slice (some ⟨gb, 0, none⟩) 1 1] w fun u w' => w'.ownsRow base 105 5 u 1 (propsC [q]) ∧ w.grownBy w' none := by
  refine enter Tryz.func62 rfl rfl rfl <| Wc.seq fun _ hK_1 => Wc.region <| Wl.sg rfl rfl <| Wl.nil <| Wq.next hK_1 <| Wc.seq fun _ hK_3 => Wc.region <| Wl.mv rfl rfl <| Wl.mv rfl rfl <| Wl.y (y_slicelL Tryz.underlying41 sz105LdG rfl rfl (by omega) (by omega)) rfl <| Wl.nil <| Wq.next hK_3 <| Wc.seq fun _ hK_7 => Wc.region <| Wl.mv rfl rfl <| Wl.y (y_lenl Tryz.underlying41 (by omega) rfl) rfl <| Wl.sg rfl rfl <| Wl.nil <| Wq.next hK_7 <| Wc.seq fun _ hK_11 => Wc.seq fun _ hK_12 => Wc.region <| Wl.mv rfl rfl <| Wl.y (y_eqli rfl rfl) rfl <| Wl.nil <| Wq.next hK_12 <| Wc.cond rfl (fun c0_15 => ?_) (fun c0_15 => ?_)
  ·
   have c0_15_ := c0_15
   simp only [DZ] at c0_15
   exact absurd c0_15 (by decide)
  have c0_15_ := c0_15
  simp only [DZ] at c0_15
  refine Wc.skip <| Wq.next hK_11 <| Wc.seq fun _ hK_16 => Wc.region <| Wl.mv rfl rfl <| Wl.y (y_lenl Tryz.underlying41 (by omega) rfl) rfl <| Wl.sg rfl rfl <| Wl.nil <| Wq.next hK_16 <| Wc.seq fun _ hK_20 => Wc.seq fun _ hK_21 => Wc.region <| Wl.mv rfl rfl <| Wl.mv rfl rfl <| Wl.y (y_eqli rfl rfl) rfl <| Wl.nil <| Wq.next hK_21 <| Wc.cond rfl (fun c1_25 => ?_) (fun c1_25 => ?_)
  ·
   have c1_25_ := c1_25
   simp only [DZ] at c1_25
   refine Wc.seq fun _ hK_26 => Wc.region <| Wl.mv rfl rfl <| Wl.mv rfl rfl <| Wl.append (z := .agg #[str [], .int .i64 0, .int .i64 0, .float .f64 0, str []]) (sz := 5) (bytes := 56) Tryz.underlying41 (by kernel_rfl) rfl (by decide) base rfl (own_nil w base 105 5) rfl (hB.rd 1 5 rfl) (propC_one q) (by simp only [maxLen]; omega) (by omega) hbase rfl ?_
   rintro v_b2 w_b2 hO2 hg_b2 ha_b2
   refine Wl.sg rfl rfl <| Wl.nil <| Wq.next hK_26 <| Wc.ret <| Wq.then_ret <| ret1 rfl rfl ?_
   exact ⟨_, rfl, hO2, hg_b2⟩
  have c1_25_ := c1_25
  simp only [DZ] at c1_25
  exact absurd c1_25 (by decide)
theorem Insert_r (base : Nat) (v : Value) (ps : List Pr) (i : Nat) (q : Pr) (gb : Nat) (w : World) (hO : w.ownsRow base 105 5 v ps.length (propsC ps)) (hB : Blk w gb 105 (propC q)) (hgb : v.ownBlock ≠ some gb) (hi : i ≤ ps.length) (hl : ps.length ≤ 4294967296) (hbase : base ≤ w.heap.size) :
    Ret Tryz.prog 62 [v, .int .i64 (i : Int), .slice (some ⟨gb, 0, none⟩) 1 1] w fun u w' => w'.ownsRow base 105 5 u (ps.length + 1) (propsC (insP ps i q)) ∧ w.grownBy w' v.ownBlock := by
  rcases hO.2 with ⟨rfl, h0⟩ | ⟨g, c, cur, rfl, hg, hh, hnc, hcm, hcs, htk⟩
  · have hn : ps = [] := List.eq_nil_of_length_eq_zero h0
    subst hn
    obtain rfl : i = 0 := by simpa using hi
    exact Insert_nil base q gb w hB hbase
  · exact Insert_some base g c cur.toList ps i q gb w hh (by simpa using hcs) hnc hcm htk hB (fun e => hgb (by rw [e]; rfl)) hi hl hg
end Go.Proofs.YtjmlknjbhbfneaaGreatDoor
namespace Go.Proofs.YtjmlknjbhbfneaaGreatDoor
open Go.RowKit Go.Bw Go.Bw.Fl
set_option linter.unusedVariables false
set_option linter.unusedSimpArgs false
theorem fa105_0LdH (p : Addr) (w : World) : (Instr.fieldAt 105 (.pointer (some p)) 0).run Tryz.prog w = .ok (.pointer (some (p.add 0))) w := run_fieldAt (i := 0) (sz := 0) Tryz.underlying105 rfl (by kernel_rfl) p w
theorem fa56_0LdH (p : Addr) (w : World) : (Instr.fieldAt 56 (.pointer (some p)) 0).run Tryz.prog w = .ok (.pointer (some (p.add 0))) w := run_fieldAt (i := 0) (sz := 0) Tryz.underlying56 rfl (by kernel_rfl) p w
theorem one9LdH : One Tryz.prog 9 := ⟨_, Tryz.underlying9, rfl, by kernel_rfl⟩
theorem txt36LdH : Txt Tryz.prog 36 := ⟨_, Tryz.func36, by kernel_rfl, rfl⟩   -- (*bridleway/load.line).bad
theorem txt58LdH : Txt Tryz.prog 58 := ⟨_, Tryz.func58, by kernel_rfl, rfl⟩   -- (*bridleway/load.line).prop
theorem txt59LdH : Txt Tryz.prog 59 := ⟨_, Tryz.func59, by kernel_rfl, rfl⟩   -- slices.BinarySearchFunc[[]bridleway/api.Prop,bridleway/api.Prop,string]
/-- the names do not fall -/
def NoFall (ps : List Pr) : Prop := ∀ i j, i ≤ j → j < ps.length → Op.bytesLess (ps.getD j pr0).1 (ps.getD i pr0).1 = false
theorem NoFall.up {ps : List Pr} (h : NoFall ps) : UpP ps := fun s i j hij hj hc => by
  unfold cmpP at hc ⊢
  rw [cmp_lt] at hc ⊢
  have h1 := h i j hij hj
  rcases bl_total (ps.getD i pr0).1 (ps.getD j pr0).1 with h2 | h2 | h2
  · exact bl_trans _ _ _ h2 hc
  · rw [h2]; exact hc
  · rw [h1] at h2; cases h2
def lbP (ps : List Pr) (s : List UInt8) : Nat := (ps.takeWhile fun q => decide (Lib.compareBytes q.1 s < 0)).length
theorem tw_len {α : Type} (f : α → Bool) (z : α) : ∀ (l : List α) (i : Nat), i ≤ l.length → (∀ k, k < i → f (l.getD k z) = true) → (i < l.length → f (l.getD i z) = false) → (l.takeWhile f).length = i
  | [], i, hi, _, _ => by
    have h0 : i = 0 := (by simpa using hi)
    rw [h0]; rfl
  | a :: r, 0, _, _, h => by
    have : f a = false := by simpa using h (by simp)
    rw [List.takeWhile_cons, this]; rfl
  | a :: r, i + 1, hi, h1, h2 => by
    have h0 : f a = true := by simpa using h1 0 (by omega)
    have ih := tw_len f z r i (by simpa using hi) (fun k hk => by simpa using h1 (k + 1) (by omega)) (fun hl => by simpa using h2 (by simpa using hl))
    rw [List.takeWhile_cons, h0]; simp [ih]
theorem BsIs.lb {ps : List Pr} {s : List UInt8} {i : Nat} {b : Bool} (h : BsIs ps s i b) : i = lbP ps s ∧ b = (decide (lbP ps s < ps.length) && decide ((ps.getD (lbP ps s) pr0).1 = s)) := by
  obtain ⟨h1, h2, h3, h4⟩ := h
  have e : lbP ps s = i := tw_len _ pr0 ps i h1 (fun k hk => decide_eq_true (h2 k hk)) (fun hl => decide_eq_false (h3 i (Nat.le_refl _) hl))
  refine ⟨e.symm, ?_⟩
  rw [e, h4]
  congr 1
  rw [decide_eq_decide]
  unfold cmpP; exact cmp_eq0 _ _
theorem lbP_le (ps : List Pr) (s : List UInt8) : lbP ps s ≤ ps.length := (List.takeWhile_prefix _).length_le
theorem insP_at (ps : List Pr) (i : Nat) (q : Pr) (hi : i ≤ ps.length) (k : Nat) : (insP ps i q).getD k pr0 = if k < i then ps.getD k pr0 else if k = i then q else ps.getD (k - 1) pr0 := by
  have hl : (ps.take i).length = i := by rw [List.length_take]; omega
  unfold insP
  simp only [List.getD_eq_getElem?_getD]
  rw [List.getElem?_append, hl]
  split
  · rename_i h; rw [List.getElem?_take, if_pos h]
  · rename_i h
    split
    · rename_i h2; rw [h2, Nat.sub_self]; rfl
    · rename_i h2
      obtain ⟨m, hm⟩ : ∃ m, k - i = m + 1 := ⟨k - i - 1, by omega⟩
      rw [hm, List.getElem?_cons_succ, List.getElem?_drop, show i + m = k - 1 by omega]
theorem NoFall.ins {ps : List Pr} (h : NoFall ps) {i : Nat} {b : Bool} (q : Pr) (hb : BsIs ps q.1 i b) : NoFall (insP ps i q) := fun x y hxy hy => by
  obtain ⟨h1, h2, h3, _⟩ := hb
  rw [insP_len h1] at hy
  have g1 : ∀ k, k < i → Op.bytesLess (ps.getD k pr0).1 q.1 = true := fun k hk => (cmp_lt _ _).1 (h2 k hk)
  have g2 : ∀ k, i ≤ k → k < ps.length → Op.bytesLess (ps.getD k pr0).1 q.1 = false := fun k hk hl => by
    cases e : Op.bytesLess (ps.getD k pr0).1 q.1 with
    | false => rfl
    | true => exact absurd ((cmp_lt _ _).2 e) (h3 k hk hl)
  have as' : ∀ {u v : List UInt8}, Op.bytesLess u v = true → Op.bytesLess v u = false := fun {u v} hu => by
    cases e : Op.bytesLess v u with
    | false => rfl
    | true => have := bl_trans _ _ _ hu e; rw [bl_irr] at this; cases this
  rw [insP_at ps i q h1, insP_at ps i q h1]
  by_cases a1 : y < i
  · rw [if_pos a1, if_pos (by omega)]; exact h x y hxy (by omega)
  · rw [if_neg a1]
    by_cases a2 : y = i
    · rw [if_pos a2]
      by_cases a3 : x < i
      · rw [if_pos a3]; exact as' (g1 x a3)
      · rw [if_neg a3, if_pos (by omega)]; exact bl_irr _
    · rw [if_neg a2]
      by_cases a3 : x < i
      · rw [if_pos a3]; exact h x (y - 1) (by omega) (by omega)
      · rw [if_neg a3]
        by_cases a4 : x = i
        · rw [if_pos a4]; exact g2 (y - 1) (by omega) (by omega)
        · rw [if_neg a4]; exact h (x - 1) (y - 1) (by omega) (by omega)
noncomputable def propsGo : Nat → List Pr → List UInt8 → Int → List Pr × Int
  | 0, o, _, e => (o, e)
  | n + 1, o, s, e => if s = [] then (o, e) else
      propsGo n (insP o (lbP o (propOf s e).1.1) (propOf s e).1) (propOf s e).2.1 (if (decide (lbP o (propOf s e).1.1 < o.length) && decide ((o.getD (lbP o (propOf s e).1.1) pr0).1 = (propOf s e).1.1)) = true then badE (propOf s e).2.2 3 else (propOf s e).2.2)
noncomputable def propsOf (s : List UInt8) (e : Int) : List Pr × Int := propsGo s.length [] s e
theorem propsGo_nil : ∀ (n : Nat) (o : List Pr) (e : Int), propsGo n o [] e = (o, e)
  | 0, _, _ => rfl
  | n + 1, o, e => by show (if _ then _ else _) = _; rw [if_pos rfl]
theorem txtIns : Txt Tryz.prog 62 := ⟨_, Tryz.func62, by kernel_rfl, rfl⟩
theorem insP_ok {o : List Pr} (h : ∀ q ∈ o, q.2.Ok) (i : Nat) {p : Pr} (hp : p.2.Ok) : ∀ q ∈ insP o i p, q.2.Ok := fun q hq => by
  unfold insP at hq
  rw [List.mem_append, List.mem_cons] at hq
  rcases hq with hq | rfl | hq
  · exact h q (List.mem_of_mem_take hq)
  · exact hp
  · exact h q (List.mem_of_mem_drop hq)
theorem props_r (p : Nat) (s : List UInt8) (e : Int) (w : World) (hP : Blk w p 56 [str s, .int .i64 e]) (hs : s.length ≤ 4294967296) (hL : Lb w) (hG : Gl p) : Ret Tryz.prog 33 [.pointer (some ⟨p, 0, none⟩)] w fun v w' => (w'.ownsRow w.heap.size 105 5 v (propsOf s e).1.length (propsC (propsOf s e).1) ∧ Blk w' p 56 [str [], .int .i64 (propsOf s e).2] ∧ (∀ q ∈ (propsOf s e).1, q.2.Ok)) ∧ Kp p w w' := by
  have hpl := hP.lt
  have hb := Kp.refl p w
  refine enter Tryz.func33 rfl rfl rfl <| Wc.seq fun _ hK_1 => Wc.region <| Wl.sg rfl rfl <| Wl.nil <| Wq.next hK_1 <| Wc.seq fun _ hK_3 => Wc.block <| Wc.loop (X := Nat × Value × List Pr × List UInt8 × Int) (fun (n, v, o, t, f) => [(0, .pointer (some ⟨p, 0, none⟩)), (2, v)]) (fun (n, v, o, t, f) wr => t.length ≤ n ∧ o.length + t.length ≤ s.length ∧ propsGo n o t f = propsOf s e ∧ NoFall o ∧ (∀ q ∈ o, q.2.Ok) ∧ Kp p w wr ∧ Blk wr p 56 [str t, .int .i64 f] ∧ wr.ownsRow w.heap.size 105 5 v o.length (propsC o)) (fun (n, v, o, t, f) => t.length) (⟨s.length, .slice none 0 0, [], s, e⟩) ?_ ?_ ?_
  · exact by repeat first | exact Sub.nil | refine Sub.cons' rfl (by first | rfl | exact int_eq (by omega) | exact int_eq (by simp) | (simp; done)) ?_
  · exact ⟨Nat.le_refl _, by simp, rfl, fun i j _ hj => by simp at hj, (fun q hq => by cases hq), hb, hP, own_nil _ _ _ _⟩
  rintro ⟨n, v, o, t, f⟩ wr hI_5 _ hL_4
  replace hI_5 : t.length ≤ n ∧ o.length + t.length ≤ s.length ∧ propsGo n o t f = propsOf s e ∧ NoFall o ∧ (∀ q ∈ o, q.2.Ok) ∧ Kp p w wr ∧ Blk wr p 56 [str t, .int .i64 f] ∧ wr.ownsRow w.heap.size 105 5 v o.length (propsC o) := hI_5
  obtain ⟨hn, hol, hgo, hNF, hok, hb, hP, hO⟩ := hI_5
  show Wc _ _ _ _ _ [(0, .pointer (some ⟨p, 0, none⟩)), (2, v)] _
  have hzhb_L0 := hb.size
  have hlhP_L0 := hP.lt
  refine Wc.seq fun _ hK_6 => Wc.seq fun _ hK_7 => Wc.region <| Wl.mv rfl rfl <| Wl.y (y_nilCheck rfl) rfl <| Wl.y (y_fieldAddr (fa56_0LdH _) rfl) rfl <| Wl.l (l_load one9LdH rfl (by exact hP.at (j := 0) rfl)) rfl <| Wl.y (y_neqs rfl rfl) rfl <| Wl.nil <| Wq.next hK_7 <| Wc.cond rfl (fun c0_13 => ?_) (fun c0_13 => ?_)
  ·
   have c0_13_ := c0_13
   simp only [DZ] at c0_13
   have htn : t ≠ [] := c0_13
   have h0 := List.length_pos_iff.2 htn
   have hpol := propOf_len htn f
   have hap_ : v.ownBlock = none ∨ v.ownBlock ≠ some p := own_below_p hO hpl
   have hap3 := own_apart hO
   have hLr : Lb wr := hL.kp hb hG
   refine Wc.skip <| Wq.next hK_6 <| Wc.block <| Wc.seq fun _ hK_14 => Wc.region <| Wl.mv rfl rfl <| Wl.call txt58LdH rfl rfl (prop_r p t f _ hP (by omega) hLr) rfl ?_
   rintro _ w_k0 ⟨⟨rfl, hP⟩, hs_k0⟩
   have hz_k0 := hs_k0.size
   have hO := own_kp hO hs_k0 (by omega)
   have hb := hb.trans hs_k0
   have hap4 := own_apart hO
   refine Wl.allocN (z := (.agg #[(str []), (.int .i64 0), (.int .i64 0), (.float .f64 0), (str [])])) (by kernel_rfl) rfl ?_
   rintro g_o6 w_o6 hg_o6 hn_o6 hs_o6
   have hz_o6 := hs_o6.size
   have hP := hP.below hs_o6
   have hO := own_below hO hs_o6
   replace hs_o6 := Below.kp (p := p) hs_o6
   have hb := hb.trans hs_o6
   have hB_o6 := hn_o6
   have hl_o6 := hB_o6.lt
   have hapx := hap4 _ hg_o6
   refine Wl.storeS (by kernel_rfl) rfl rfl hB_o6 rfl rfl ?_
   rintro w_s0 hn_s0 hg_s0
   have hz_s0 := hg_s0.size
   have hb := kp_blk hb hg_s0 (by omega)
   have hP := hP.over hg_s0 (by omega)
   have hO := World.ownsRow.kept hO hg_s0 (by assumption)
   have hB_o6 := hn_s0
   refine Wl.nil <| Wq.next hK_14 <| Wc.seq fun _ hK_18 => Wc.region <| Wl.mv rfl rfl <| Wl.y (y_fieldAddr (fa105_0LdH _) rfl) rfl <| Wl.l (l_load one9LdH rfl (by exact hB_o6.at (j := 0) rfl)) rfl ?_
   obtain ⟨Ao, co, hve, hoc, _⟩ := own_form hO
   subst hve
   refine Wl.call txt59LdH rfl rfl (Bs_r Ao co o (propOf t f).1.1 _ (Rd.of_own hO) hNF.up (by omega)) rfl ?_
   rintro _ w_k1 ⟨⟨ib, bb, rfl, hbs⟩, hs_k1⟩
   have hz_k1 := hs_k1.size
   have hP := Blk.below hP hs_k1
   have hO := own_below hO hs_k1
   have hB_o6 := Blk.below hB_o6 hs_k1
   replace hs_k1 := Below.kp (p := p) hs_k1
   have hb := hb.trans hs_k1
   refine Wl.mv rfl rfl <| Wl.y (y_extract rfl rfl) rfl <| Wl.y (y_extract rfl rfl) rfl <| Wl.sg rfl rfl <| Wl.sg rfl rfl <| Wl.nil <| Wq.next hK_18 <| Wc.seq fun _ hK_28 => Wc.seq fun _ hK_29 => ?_
   obtain ⟨rfl, hbb⟩ := hbs.lb
   refine Wc.region <| Wl.mv rfl rfl <| Wl.nil <| Wq.next hK_29 <| Wc.meet (X := Unit) (fun u_ => [(0, .pointer (some ⟨p, 0, none⟩)), (2, .slice Ao o.length co), (3, .pointer (some ⟨g_o6, 0, none⟩)), (4, .int .i64 (lbP o (propOf t f).1.1 : Nat))]) (fun u_ wm => Kp p w wm ∧ Blk wm p 56 [str (propOf t f).2.1, .int .i64 (if (decide (lbP o (propOf t f).1.1 < o.length) && decide ((o.getD (lbP o (propOf t f).1.1) pr0).1 = (propOf t f).1.1)) = true then badE (propOf t f).2.2 3 else (propOf t f).2.2)] ∧ wm.ownsRow w.heap.size 105 5 (.slice Ao o.length co) o.length (propsC o) ∧ Blk wm g_o6 105 (propC (propOf t f).1)) (fun _ hM_31 => ?_) ?_
   ·
    refine Wc.cond rfl (fun c1_32 => ?_) (fun c1_32 => ?_)
    ·
     have c1_32_ := c1_32
     refine Wc.region <| Wl.mv rfl rfl <| Wl.call txt36LdH rfl rfl (bad_r p (propOf t f).2.1 (propOf t f).2.2 3 _ hP) rfl ?_
     rintro _ w_k2 ⟨⟨rfl, hP⟩, hs_k2⟩
     have hz_k2 := hs_k2.size
     have hO := own_kp hO hs_k2 (by omega)
     have hB_o6 := Blk.kp hB_o6 hs_k2 (by omega)
     have hb := hb.trans hs_k2
     refine Wl.nil <| Wq.meet hM_31 (()) (by repeat first | exact Sub.nil | refine Sub.cons' rfl (by first | rfl | exact int_eq (by omega) | exact int_eq (by simp) | (simp; done)) ?_) ?_
     exact ⟨hb, by rw [← hbb]; first | (rw [if_pos c1_32_]; exact hP) | (rw [if_neg (by rw [c1_32_]; simp)]; exact hP), hO, hB_o6⟩
    have c1_32_ := c1_32
    refine Wc.skip <| Wq.meet hM_31 (()) (by repeat first | exact Sub.nil | refine Sub.cons' rfl (by first | rfl | exact int_eq (by omega) | exact int_eq (by simp) | (simp; done)) ?_) ?_
    exact ⟨hb, by rw [← hbb]; first | (rw [if_pos c1_32_]; exact hP) | (rw [if_neg (by rw [c1_32_]; simp)]; exact hP), hO, hB_o6⟩
   rintro u_ wm hI_35
   replace hI_35 : Kp p w wm ∧ Blk wm p 56 [str (propOf t f).2.1, .int .i64 (if (decide (lbP o (propOf t f).1.1 < o.length) && decide ((o.getD (lbP o (propOf t f).1.1) pr0).1 = (propOf t f).1.1)) = true then badE (propOf t f).2.2 3 else (propOf t f).2.2)] ∧ wm.ownsRow w.heap.size 105 5 (.slice Ao o.length co) o.length (propsC o) ∧ Blk wm g_o6 105 (propC (propOf t f).1) := hI_35
   obtain ⟨hb, hP, hO, hB_o6⟩ := hI_35
   show Wq _ _ _ _ [(0, .pointer (some ⟨p, 0, none⟩)), (2, .slice Ao o.length co), (3, .pointer (some ⟨g_o6, 0, none⟩)), (4, .int .i64 (lbP o (propOf t f).1.1 : Nat))] _
   have hzhb_c1 := hb.size
   have hlhP_c1 := hP.lt
   have hlhB_o6_c1 := hB_o6.lt
   refine Wq.next hK_28 <| Wc.region <| Wl.mv rfl rfl <| Wl.mv rfl rfl <| Wl.l (l_loadS Tryz.underlying105 (by kernel_rfl) rfl (by exact fun j u hu => hB_o6.at hu)) rfl ?_
   have hap5 := own_apart hO
   refine Wl.litN (sz := 5) (vs := [_]) Tryz.underlying41 (by kernel_rfl) rfl rfl rfl rfl rfl rfl ?_
   rintro g_b0 w_b0 hg_b0 hn_b0 hs_b0
   have hz_b0 := hs_b0.size
   have hP := hP.below hs_b0
   have hO := own_below hO hs_b0
   replace hs_b0 := Below.kp (p := p) hs_b0
   have hb := hb.trans hs_b0
   have hB_b0 := hn_b0
   have hl_b0 := hB_b0.lt
   refine Wl.call txtIns rfl rfl (Insert_r w.heap.size (.slice Ao o.length co) o (lbP o (propOf t f).1.1) (propOf t f).1 g_b0 _ hO hB_b0 (fun h => by rcases hap5 g_b0 hg_b0 with h2 | h2; (· rw [h2] at h; cases h); (· exact h2 h)) (lbP_le _ _) (by omega) hb.size) rfl ?_
   rintro vI w_k3 ⟨hO2, hg_k3⟩
   have hP := hP.grown hg_k3 (fun h => by have := (own_ge hO _ h.symm).1; omega)
   have hb := kp_row hb hg_k3 (fun k_ hk_ => .inl (own_ge hO k_ hk_).1)
   have hO := hO2
   refine Wl.sg rfl rfl <| Wl.nil <| Wq.block_normal <| fun a_ ha_ => hL_4 _ _ (⟨n - 1, vI, insP o (lbP o (propOf t f).1.1) (propOf t f).1, (propOf t f).2.1, if (decide (lbP o (propOf t f).1.1 < o.length) && decide ((o.getD (lbP o (propOf t f).1.1) pr0).1 = (propOf t f).1.1)) = true then badE (propOf t f).2.2 3 else (propOf t f).2.2⟩) (by show (propOf t f).2.1.length < t.length; omega) (by repeat first | exact Sub.nil | refine Sub.cons' rfl (by first | rfl | exact int_eq (by omega) | exact int_eq (by simp) | (simp; done)) ?_) ?_ a_ ha_
   exact ⟨(show (propOf t f).2.1.length ≤ n - 1 by omega), (show (insP o _ _).length + (propOf t f).2.1.length ≤ s.length by rw [insP_len (lbP_le _ _)]; omega), by rw [← hgo]; obtain ⟨m, rfl⟩ : ∃ m, n = m + 1 := ⟨n - 1, by omega⟩; show _ = (if _ then _ else _); rw [if_neg htn]; rfl, NoFall.ins hNF _ hbs, insP_ok hok _ (propOf_ok t f), hb, hP, by rw [insP_len (lbP_le _ _)]; exact hO⟩
  have c0_13_ := c0_13
  simp only [DZ] at c0_13
  have htn : t = [] := by have h := c0_13; simpa using h
  subst htn
  have hdone : propsOf s e = (o, f) := by rw [← hgo, propsGo_nil]
  refine Wc.exit <| Wq.then_exit <| Wq.then_exit <| Wq.block_exit <| Wq.next hK_3 <| Wc.seq fun _ hK_42 => Wc.region <| Wl.mv rfl rfl <| Wl.sg rfl rfl <| Wl.nil <| Wq.next hK_42 <| Wc.ret <| ret1 rfl rfl ?_
  exact ⟨_, rfl, by rw [hdone]; exact ⟨hO, hP, hok⟩, hb⟩
end Go.Proofs.YtjmlknjbhbfneaaGreatDoor
namespace Go.Proofs.YtjmlknjbhbfneaaGreatDoor
open Go.RowKit Go.Bw Go.Bw.Fl
set_option linter.unusedVariables false
set_option linter.unusedSimpArgs false
theorem txt36LdI : Txt Tryz.prog 36 := ⟨_, Tryz.func36, by kernel_rfl, rfl⟩   -- (*bridleway/load.line).bad
def nameE (kv : List (List UInt8 × Value)) (nm : List UInt8) (most : Int) (e : Int) : Int :=
  if most ≤ (kv.length : Int) then badE (if (mlook kv nm).isSome = true then badE e 3 else e) 6 else if (mlook kv nm).isSome = true then badE e 3 else e
theorem named_r (p m : Nat) (s : List UInt8) (e : Int) (kv : List (List UInt8 × Value)) (nm : List UInt8) (most : Int) (w : World) (hP : Blk w p 56 [str s, .int .i64 e]) (hM : Mp w m kv) (hmp : m ≠ p) : Ret Tryz.prog 34 [.pointer (some ⟨p, 0, none⟩), .map (some m), str nm, .int .i64 most] w fun v w' => (v = .tuple #[] ∧ Blk w' p 56 [str s, .int .i64 (nameE kv nm most e)] ∧ Mp w' m (mput kv nm (.int .i64 kv.length))) ∧ ∃ w1, Kp p w w1 ∧ w1.grownBy w' (some m) := by
  have hpl := hP.lt
  have hb := Kp.refl p w
  refine enter Tryz.func34 rfl rfl rfl <| Wc.seq fun _ hK_1 => Wc.seq fun _ hK_2 => Wc.region <| Wl.mv rfl rfl <| Wl.mv rfl rfl <| Wl.l (l_lookup (z := (.int .i64 0)) Tryz.underlying48 Tryz.underlying9 (by kernel_rfl) rfl rfl (by exact hM)) rfl <| Wl.mv rfl rfl <| Wl.y (y_extract rfl rfl) rfl <| Wl.y (y_extract rfl rfl) rfl <| Wl.sg rfl rfl <| Wl.sg rfl rfl <| Wl.nil <| Wq.next hK_2 <| Wc.seq fun _ hK_11 => Wc.region <| Wl.mv rfl rfl <| Wl.nil <| Wq.next hK_11 <| Wc.meet (X := Unit) (fun u_ => [(0, .pointer (some ⟨p, 0, none⟩)), (1, .map (some m)), (2, str nm), (3, .int .i64 most)]) (fun u_ wr => Kp p w wr ∧ Blk wr p 56 [str s, .int .i64 (if (mlook kv nm).isSome = true then badE e 3 else e)]) (fun _ hM_13 => ?_) ?_
  ·
   refine Wc.cond rfl (fun c0_14 => ?_) (fun c0_14 => ?_)
   ·
    have c0_14_ := c0_14
    refine Wc.region <| Wl.mv rfl rfl <| Wl.call txt36LdI rfl rfl (bad_r p s e 3 _ hP) rfl ?_
    rintro _ w_k0 ⟨⟨rfl, hP⟩, hs_k0⟩
    have hz_k0 := hs_k0.size
    have hb := hb.trans hs_k0
    refine Wl.nil <| Wq.meet hM_13 (()) (by repeat first | exact Sub.nil | refine Sub.cons' rfl (by first | rfl | exact int_eq (by omega) | exact int_eq (by simp) | (simp; done)) ?_) ?_
    exact ⟨hb, by first | (rw [if_pos c0_14_]; exact hP) | (rw [if_neg (by rw [c0_14_]; simp)]; exact hP)⟩
   have c0_14_ := c0_14
   refine Wc.skip <| Wq.meet hM_13 (()) (by repeat first | exact Sub.nil | refine Sub.cons' rfl (by first | rfl | exact int_eq (by omega) | exact int_eq (by simp) | (simp; done)) ?_) ?_
   exact ⟨hb, by first | (rw [if_pos c0_14_]; exact hP) | (rw [if_neg (by rw [c0_14_]; simp)]; exact hP)⟩
  rintro u_ wr hI_17
  replace hI_17 : Kp p w wr ∧ Blk wr p 56 [str s, .int .i64 (if (mlook kv nm).isSome = true then badE e 3 else e)] := hI_17
  obtain ⟨hb, hP⟩ := hI_17
  show Wq _ _ _ _ [(0, .pointer (some ⟨p, 0, none⟩)), (1, .map (some m)), (2, str nm), (3, .int .i64 most)] _
  have hzhb_c0 := hb.size
  have hlhP_c0 := hP.lt
  refine Wq.next hK_1 <| Wc.seq fun _ hK_18 => Wc.seq fun _ hK_19 => Wc.region <| Wl.mv rfl rfl <| Wl.l (l_lenm Tryz.underlying48 rfl (by exact (hM.kp hb hmp))) rfl <| Wl.mv rfl rfl <| Wl.y (y_geqi rfl rfl) rfl <| Wl.nil <| Wq.next hK_19 <| Wc.meet (X := Unit) (fun u_ => [(0, .pointer (some ⟨p, 0, none⟩)), (1, .map (some m)), (2, str nm), (3, .int .i64 most)]) (fun u_ wr => Kp p w wr ∧ Blk wr p 56 [str s, .int .i64 (nameE kv nm most e)]) (fun _ hM_24 => ?_) ?_
  ·
   refine Wc.cond rfl (fun c1_25 => ?_) (fun c1_25 => ?_)
   ·
    have c1_25_ := c1_25
    simp only [DZ] at c1_25
    refine Wc.region <| Wl.mv rfl rfl <| Wl.call txt36LdI rfl rfl (bad_r p s (if (mlook kv nm).isSome = true then badE e 3 else e) 6 _ hP) rfl ?_
    rintro _ w_k1 ⟨⟨rfl, hP⟩, hs_k1⟩
    have hz_k1 := hs_k1.size
    have hb := hb.trans hs_k1
    refine Wl.nil <| Wq.meet hM_24 (()) (by repeat first | exact Sub.nil | refine Sub.cons' rfl (by first | rfl | exact int_eq (by omega) | exact int_eq (by simp) | (simp; done)) ?_) ?_
    exact ⟨hb, by unfold nameE; first | (rw [if_pos c1_25]; exact hP) | (rw [if_neg (by omega)]; exact hP)⟩
   have c1_25_ := c1_25
   simp only [DZ] at c1_25
   refine Wc.skip <| Wq.meet hM_24 (()) (by repeat first | exact Sub.nil | refine Sub.cons' rfl (by first | rfl | exact int_eq (by omega) | exact int_eq (by simp) | (simp; done)) ?_) ?_
   exact ⟨hb, by unfold nameE; first | (rw [if_pos c1_25]; exact hP) | (rw [if_neg (by omega)]; exact hP)⟩
  rintro u_ wr hI_28
  replace hI_28 : Kp p w wr ∧ Blk wr p 56 [str s, .int .i64 (nameE kv nm most e)] := hI_28
  obtain ⟨hb, hP⟩ := hI_28
  show Wq _ _ _ _ [(0, .pointer (some ⟨p, 0, none⟩)), (1, .map (some m)), (2, str nm), (3, .int .i64 most)] _
  have hzhb_c1 := hb.size
  have hlhP_c1 := hP.lt
  refine Wq.next hK_18 <| Wc.region <| Wl.mv rfl rfl <| Wl.mv rfl rfl <| Wl.mv rfl rfl <| Wl.l (l_lenm Tryz.underlying48 rfl (by exact (hM.kp hb hmp))) rfl <| Wl.mput Tryz.underlying48 Tryz.underlying9 rfl rfl rfl (hM.kp hb hmp) ?_
  rintro w_o17 hM2 hg_o17
  have hP2 := hP.grown hg_o17 (fun h => hmp (Option.some.inj h).symm)
  refine Wl.nil <| end0 rfl ?_
  exact ⟨_, rfl, ⟨rfl, hP2, hM2⟩, _, hb, hg_o17⟩
end Go.Proofs.YtjmlknjbhbfneaaGreatDoor
