/- The statement ValueTexts, by the calculus. -/
import Derived.Test.YtccgjfcaomngjaaGreatDoorZS
import Derived.Test.YtccgjfcaomngjaaGreatDoorZI
import Derived.Test.YtccgjfcaomngjaaGreatDoorZQ
namespace Go.Proofs.YtccgjfcaomngjaaGreatDoor
open Go.RowKit Go.Bw Go.Bw.Fl
set_option linter.unusedVariables false
set_option linter.unusedSimpArgs false
theorem txt14LawT : Txt Tryz.prog 14 := ⟨_, Tryz.func14, by kernel_rfl, rfl⟩   -- bridleway/bridlewaylaw02.shown
theorem txt15LawT : Txt Tryz.prog 15 := ⟨_, Tryz.func15, by kernel_rfl, rfl⟩   -- bridleway/bridlewaylaw02.of
theorem txt16LawT : Txt Tryz.prog 16 := ⟨_, Tryz.func16, by kernel_rfl, rfl⟩   -- bridleway/value.Text
theorem txt17LawT : Txt Tryz.prog 17 := ⟨_, Tryz.func17, by kernel_rfl, rfl⟩   -- bridleway/bridlewayref02.Text
theorem txt18LawT : Txt Tryz.prog 18 := ⟨_, Tryz.func18, by kernel_rfl, rfl⟩   -- bridleway/value.Read
theorem txt19LawT : Txt Tryz.prog 19 := ⟨_, Tryz.func19, by kernel_rfl, rfl⟩   -- bridleway/bridlewayref02.Read
theorem txt20LawT : Txt Tryz.prog 20 := ⟨_, Tryz.func20, by kernel_rfl, rfl⟩   -- bridleway/bridlewayref02.Same
theorem RRead_x (s : List UInt8) (hs : s.length ≤ 140737488355328) (w : World) : Ret Tryz.prog 19 [str s] w fun v w' => (∃ u n ok, v = .tuple #[Val.enc u, .int .i64 (n : Nat), .bool ok] ∧ RdIs (readV pf uqV s) u n ok) ∧ Below w.heap.size w w' :=
  (RRead_r s hs w).mono fun v w' ⟨h1, h2⟩ => ⟨by
    subst h1
    cases h : readV pf uqV s with
    | none => exact ⟨nullV, 0, false, rfl, .inr ⟨rfl, rfl, rfl, rfl⟩⟩
    | some r => exact ⟨r.1, r.2, true, rfl, .inl ⟨rfl, rfl⟩⟩, h2⟩
theorem RdIs.inj {r : Option (Val × Nat)} {u u' : Val} {n n' : Nat} {ok ok' : Bool} (h : RdIs r u n ok) (h' : RdIs r u' n' ok') : u = u' ∧ n = n' ∧ ok = ok' := by
  rcases h with ⟨h1, h2⟩ | ⟨h1, h2, h3, h4⟩
  · rcases h' with ⟨g1, g2⟩ | ⟨g1, g2, g3, g4⟩
    · rw [h2] at g2; cases g2; exact ⟨rfl, rfl, h1.trans g1.symm⟩
    · rw [h2] at g2; cases g2
  · rcases h' with ⟨g1, g2⟩ | ⟨g1, g2, g3, g4⟩
    · rw [h2] at g2; cases g2
    · exact ⟨h3.trans g3.symm, h4.trans g4.symm, h1.trans g1.symm⟩
theorem RdIs.ok {s : List UInt8} {u : Val} {n : Nat} {ok : Bool} (h : RdIs (readV pf uqV s) u n ok) : u.Ok := by
  rcases h with ⟨_, h⟩ | ⟨_, _, h, _⟩
  · exact readV_ok h
  · rw [h]; exact ⟨by decide, by decide, by decide⟩
theorem Texts_r (r : Raw) (s : List UInt8) (o : r.Ok) (hs : s.length ≤ 140737488355328) (w : World) (hL : Lb w) : Ret Tryz.prog 3 [r.enc, str s] w fun v w' => v = .bool true ∧ Below w.heap.size w w' := by
  obtain ⟨x, hx⟩ : ∃ x, x = s.take 100 := ⟨_, rfl⟩
  have hxl : x.length ≤ 100 := by rw [hx]; exact List.length_take_le _ _
  have hrs : r.val.s.length ≤ 60 := List.length_take_le _ _
  have hb := Below.refl w.heap.size w
  have hL_hb := hL
  refine enter Tryz.func3 rfl rfl rfl ?_
  refine Wc.seq fun _ hK_1 => Wc.region ?_
  refine Wl.boxN rfl rfl ?_
  rintro g_o0 w_o0 hg_o0 hn_o0 hs_o0
  have hz_o0 := hs_o0.size
  have hb := hb.trans (hs_o0.mono hb.size)
  have hL := hL_hb.below hb
  have hB_o0 := hn_o0
  have hl_o0 := hB_o0.lt
  refine Wl.sg rfl rfl <| Wl.nil <| Wq.next hK_1 <| Wc.seq fun _ hK_4 => Wc.region ?_
  refine Wl.call txt14LawT rfl rfl (shown_r _ hL) rfl ?_
  rintro _ w_k0 ⟨rfl, hs_k0⟩
  have hz_k0 := hs_k0.size
  have hb := hb.trans (hs_k0.mono hb.size)
  have hL := hL_hb.below hb
  try have hB_o0 := Blk.below hB_o0 hs_k0
  refine Wl.sg rfl rfl <| Wl.nil <| Wq.next hK_4 <| Wc.seq fun _ hK_7 => Wc.region ?_
  refine Wl.l (l_loadS Tryz.underlying24 (by kernel_rfl) rfl (by first | exact fun j u hu => hB_o0.at hu | assumption)) rfl ?_
  refine Wl.call txt15LawT rfl rfl (of_r r o _) rfl ?_
  rintro _ w_k1 ⟨rfl, hs_k1⟩
  have hz_k1 := hs_k1.size
  have hb := hb.trans (hs_k1.mono hb.size)
  have hL := hL_hb.below hb
  try have hB_o0 := Blk.below hB_o0 hs_k1
  refine Wl.allocN (z := (.agg #[(.int .i64 0), (.int .i64 0), (.float .f64 0), (str [])])) (by kernel_rfl) rfl ?_
  rintro g_o3 w_o3 hg_o3 hn_o3 hs_o3
  have hz_o3 := hs_o3.size
  have hb := hb.trans (hs_o3.mono hb.size)
  have hL := hL_hb.below hb
  try have hB_o0 := Blk.below hB_o0 hs_o3
  have hB_o3 := hn_o3
  have hl_o3 := hB_o3.lt
  refine Wl.storeS (by kernel_rfl) rfl rfl hB_o3 rfl rfl ?_
  rintro w_s0 hn_s0 hg_s0
  have hz_s0 := hg_s0.size
  have hb := below_blk hb hg_s0 hb.size (by omega)
  have hL := hL_hb.below hb
  try have hB_o0 := hB_o0.over hg_s0 (by omega)
  have hB_o3 := hn_s0
  refine Wl.nil <| Wq.next hK_7 <| Wc.seq fun _ hK_11 => Wc.region <| Wl.mv rfl rfl <| Wl.mv rfl rfl ?_
  refine Wl.y (y_lens Tryz.underlying9 (by omega) rfl) rfl ?_
  refine Wl.y (y_eq (y_min rfl rfl) (int_eq (show min (s.length : Int) 100 = ((min s.length 100 : Nat) : Int) by omega))) rfl ?_
  refine Wl.y (y_eq (y_slicesH Tryz.underlying9 rfl rfl (by omega) (by omega)) (str_eq (show _ = x by rw [hx, Int.toNat_natCast]; exact List.take_eq_take_iff.2 (by omega)))) rfl ?_
  refine Wl.sg rfl rfl <| Wl.nil <| Wq.next hK_11 <| Wc.seq fun _ hK_18 => Wc.region ?_
  refine Wl.l (l_loadS Tryz.underlying28 (by kernel_rfl) rfl (by first | exact fun j u hu => hB_o0.at hu | exact fun j u hu => hB_o3.at hu | assumption)) rfl ?_
  refine Wl.call txt16LawT rfl rfl (TextQ_r _ o.val (by omega) _ hL) rfl ?_
  rintro _ w_k2 ⟨rfl, hs_k2⟩
  have hz_k2 := hs_k2.size
  have hb := hb.trans (hs_k2.mono hb.size)
  have hL := hL_hb.below hb
  try have hB_o0 := Blk.below hB_o0 hs_k2
  try have hB_o3 := Blk.below hB_o3 hs_k2
  refine Wl.mv rfl rfl <| Wl.y (y_extract rfl rfl) rfl <| Wl.y (y_extract rfl rfl) rfl <| Wl.sg rfl rfl <| Wl.sg rfl rfl <| Wl.nil <| Wq.next hK_18 <| Wc.seq fun _ hK_26 => Wc.region ?_
  refine Wl.l (l_loadS Tryz.underlying28 (by kernel_rfl) rfl (by first | exact fun j u hu => hB_o0.at hu | exact fun j u hu => hB_o3.at hu | assumption)) rfl ?_
  refine Wl.call txt17LawT rfl rfl (RText2_r _ o.val (by omega) _) rfl ?_
  rintro _ w_k3 ⟨rfl, hs_k3⟩
  have hz_k3 := hs_k3.size
  have hb := hb.trans (hs_k3.mono hb.size)
  have hL := hL_hb.below hb
  try have hB_o0 := Blk.below hB_o0 hs_k3
  try have hB_o3 := Blk.below hB_o3 hs_k3
  refine Wl.mv rfl rfl <| Wl.y (y_extract rfl rfl) rfl <| Wl.y (y_extract rfl rfl) rfl <| Wl.sg rfl rfl <| Wl.sg rfl rfl <| Wl.nil <| Wq.next hK_26 <| Wc.seq fun _ hK_34 => Wc.region <| Wl.mv rfl rfl ?_
  refine Wl.call txt18LawT rfl rfl (Read_x x (by omega) _ hL) rfl ?_
  rintro _ w_k4 ⟨⟨u, n, ok, rfl, hr⟩, hs_k4⟩
  have hz_k4 := hs_k4.size
  have hb := hb.trans (hs_k4.mono hb.size)
  have hL := hL_hb.below hb
  try have hB_o0 := Blk.below hB_o0 hs_k4
  try have hB_o3 := Blk.below hB_o3 hs_k4
  refine Wl.mv rfl rfl <| Wl.y (y_extract rfl rfl) rfl <| Wl.y (y_extract rfl rfl) rfl <| Wl.y (y_extract rfl rfl) rfl ?_
  refine Wl.allocN (z := (.agg #[(.int .i64 0), (.int .i64 0), (.float .f64 0), (str [])])) (by kernel_rfl) rfl ?_
  rintro g_o22 w_o22 hg_o22 hn_o22 hs_o22
  have hz_o22 := hs_o22.size
  have hb := hb.trans (hs_o22.mono hb.size)
  have hL := hL_hb.below hb
  try have hB_o0 := Blk.below hB_o0 hs_o22
  try have hB_o3 := Blk.below hB_o3 hs_o22
  have hB_o22 := hn_o22
  have hl_o22 := hB_o22.lt
  refine Wl.storeS (by kernel_rfl) rfl rfl hB_o22 rfl rfl ?_
  rintro w_s1 hn_s1 hg_s1
  have hz_s1 := hg_s1.size
  have hb := below_blk hb hg_s1 hb.size (by omega)
  have hL := hL_hb.below hb
  try have hB_o0 := hB_o0.over hg_s1 (by omega)
  try have hB_o3 := hB_o3.over hg_s1 (by omega)
  have hB_o22 := hn_s1
  refine Wl.sg rfl rfl <| Wl.sg rfl rfl <| Wl.nil <| Wq.next hK_34 <| Wc.seq fun _ hK_44 => Wc.region <| Wl.mv rfl rfl ?_
  refine Wl.call txt19LawT rfl rfl (RRead_x x (by omega) _) rfl ?_
  rintro _ w_k5 ⟨⟨u2, n2, ok2, rfl, hr2⟩, hs_k5⟩
  have hz_k5 := hs_k5.size
  have hb := hb.trans (hs_k5.mono hb.size)
  have hL := hL_hb.below hb
  try have hB_o0 := Blk.below hB_o0 hs_k5
  try have hB_o3 := Blk.below hB_o3 hs_k5
  try have hB_o22 := Blk.below hB_o22 hs_k5
  refine Wl.mv rfl rfl <| Wl.y (y_extract rfl rfl) rfl <| Wl.y (y_extract rfl rfl) rfl <| Wl.y (y_extract rfl rfl) rfl ?_
  refine Wl.allocN (z := (.agg #[(.int .i64 0), (.int .i64 0), (.float .f64 0), (str [])])) (by kernel_rfl) rfl ?_
  rintro g_o30 w_o30 hg_o30 hn_o30 hs_o30
  have hz_o30 := hs_o30.size
  have hb := hb.trans (hs_o30.mono hb.size)
  have hL := hL_hb.below hb
  try have hB_o0 := Blk.below hB_o0 hs_o30
  try have hB_o3 := Blk.below hB_o3 hs_o30
  try have hB_o22 := Blk.below hB_o22 hs_o30
  have hB_o30 := hn_o30
  have hl_o30 := hB_o30.lt
  refine Wl.storeS (by kernel_rfl) rfl rfl hB_o30 rfl rfl ?_
  rintro w_s2 hn_s2 hg_s2
  have hz_s2 := hg_s2.size
  have hb := below_blk hb hg_s2 hb.size (by omega)
  have hL := hL_hb.below hb
  try have hB_o0 := hB_o0.over hg_s2 (by omega)
  try have hB_o3 := hB_o3.over hg_s2 (by omega)
  try have hB_o22 := hB_o22.over hg_s2 (by omega)
  have hB_o30 := hn_s2
  refine Wl.sg rfl rfl <| Wl.sg rfl rfl <| Wl.nil <| Wq.next hK_44 <| Wc.seq fun _ hK_54 => ?_
  obtain ⟨rfl, rfl, rfl⟩ := hr.inj hr2
  have ou := hr.ok
  refine Wc.region <| Wl.mv rfl rfl <| Wl.mv rfl rfl ?_
  refine Wl.guardT rfl rfl rfl (fun g_57 => ?_) (fun g_57 => ?_)
  ·
   have g_57_ := g_57
   try simp only [DZ] at g_57
   refine Wl.mv rfl rfl <| Wl.on' rfl rfl g_57_ <| Wl.mv rfl rfl <| Wl.on' rfl rfl g_57_ <| Wl.y (y_eqls rfl rfl) rfl ?_
   refine Wl.y (y_pickT rfl g_57_ rfl) rfl ?_
   refine Wl.mv rfl rfl ?_
   refine Wl.guardT rfl rfl rfl (fun g_63 => ?_) (fun g_63 => ?_)
   ·
    have g_63_ := g_63
    try simp only [DZ] at g_63
    refine Wl.mv rfl rfl <| Wl.on' rfl rfl g_63_ <| Wl.mv rfl rfl <| Wl.on' rfl rfl g_63_ <| Wl.y (y_eqli rfl rfl) rfl ?_
    refine Wl.y (y_pickT rfl g_63_ rfl) rfl ?_
    refine Wl.mv rfl rfl ?_
    refine Wl.guardT rfl rfl rfl (fun g_69 => ?_) (fun g_69 => ?_)
    ·
     have g_69_ := g_69
     try simp only [DZ] at g_69
     refine Wl.mv rfl rfl <| Wl.on' rfl rfl g_69_ <| Wl.mv rfl rfl <| Wl.on' rfl rfl g_69_ <| Wl.y (y_eqli rfl rfl) rfl ?_
     refine Wl.y (y_pickT rfl g_69_ rfl) rfl ?_
     refine Wl.mv rfl rfl ?_
     refine Wl.guardT rfl rfl rfl (fun g_75 => ?_) (fun g_75 => ?_)
     ·
      have g_75_ := g_75
      try simp only [DZ] at g_75
      refine Wl.mv rfl rfl <| Wl.on' rfl rfl g_75_ <| Wl.mv rfl rfl <| Wl.on' rfl rfl g_75_ ?_
      refine Wl.y (y_eqlb Tryz.underlying4 rfl rfl) rfl ?_
      refine Wl.y (y_pickT rfl g_75_ rfl) rfl ?_
      refine Wl.mv rfl rfl ?_
      refine Wl.guardT rfl rfl rfl (fun g_81 => ?_) (fun g_81 => ?_)
      ·
       have g_81_ := g_81
       try simp only [DZ] at g_81
       refine Wl.l (l_loadS Tryz.underlying28 (by kernel_rfl) rfl (by first | exact fun j u hu => hB_o0.at hu | exact fun j u hu => hB_o3.at hu | exact fun j u hu => hB_o22.at hu | exact fun j u hu => hB_o30.at hu | assumption)) rfl ?_
       refine Wl.on' rfl rfl g_81_ ?_
       refine Wl.l (l_loadS Tryz.underlying28 (by kernel_rfl) rfl (by first | exact fun j u hu => hB_o0.at hu | exact fun j u hu => hB_o3.at hu | exact fun j u hu => hB_o22.at hu | exact fun j u hu => hB_o30.at hu | assumption)) rfl ?_
       refine Wl.on' rfl rfl g_81_ ?_
       refine Wl.call txt20LawT rfl rfl (RSame_r _ _ ou ou _) rfl ?_
       rintro _ w_k6 ⟨rfl, hs_k6⟩
       have hz_k6 := hs_k6.size
       have hb := hb.trans (hs_k6.mono hb.size)
       have hL := hL_hb.below hb
       refine Wl.y (y_pickT rfl g_81_ rfl) rfl ?_
       refine Wl.sg rfl rfl <| Wl.nil <| Wq.next hK_54 <| Wc.ret ?_
       refine ret1 rfl rfl ?_
       exact ⟨_, rfl, bool_eq (sameV_self u), hb⟩
      have g_81_ := g_81
      try simp only [DZ] at g_81
      exact absurd g_81_ (by cases ok <;> simp)
     have g_75_ := g_75
     try simp only [DZ] at g_75
     exact absurd g_75_ (by simp)
    have g_69_ := g_69
    try simp only [DZ] at g_69
    exact absurd g_69_ (by simp)
   have g_63_ := g_63
   try simp only [DZ] at g_63
   exact absurd g_63_ (by show ¬ (_ == _) = false; rw [show textQ r.val = (textV (quoteV r.val.s) r.val).1 from rfl]; simp)
  have g_57_ := g_57
  try simp only [DZ] at g_57
  exact absurd g_57_ (by decide)
end Go.Proofs.YtccgjfcaomngjaaGreatDoor
