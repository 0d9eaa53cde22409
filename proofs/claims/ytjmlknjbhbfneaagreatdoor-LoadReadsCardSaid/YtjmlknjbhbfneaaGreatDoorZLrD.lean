import Derived.Test.YtjmlknjbhbfneaaGreatDoorZLrC
namespace Go.Proofs.YtjmlknjbhbfneaaGreatDoor
open Go.RowKit Go.Bw Go.Bw.Fl
set_option linter.unusedVariables false
set_option linter.unusedSimpArgs false
theorem afU:(Tryz.prog.info? 96).map (·.size)=some 4:=by kernel_rfl
theorem zC:bC Tryz.prog 46:=⟨_,Tryz.func46,by kernel_rfl,rfl⟩
theorem TW:bC Tryz.prog 80:=⟨_,Tryz.func80,by kernel_rfl,rfl⟩
theorem ag5:bC Tryz.prog 81:=⟨_,Tryz.func81,by kernel_rfl,rfl⟩
theorem Oz {f:al} (hne:f≠ []):(f.getD 0 0).toNat=58↔Lib.hasPrefix f [58]=true:=by
 cases f with
 |nil=>exact absurd rfl hne
 |cons a r=>
  rw [qF];show a.toNat=58↔_;exact ⟨fun h=>⟨r,by rw [show a=58 from UInt8.toNat_inj.1 h]⟩,fun ⟨r',h⟩=>by injection h with h1 _;rw [h1];rfl⟩
theorem drop_cons {α:Type} (z:α) {l:List α} {i:Nat} (h:i<l.length):l.drop i=l.getD i z :: l.drop (i+1):=by
 rw [List.drop_eq_getElem_cons h,getD_at z h]
theorem val_one (u:bW):∀x∈List.flatMap (fun v:Value=>v.cells.toList) [bW.enc u],x.oneCell'=true:=fun x hx=>by
 simp only [List.flatMap_cons,List.flatMap_nil,List.append_nil] at hx;have hx:x∈u.cells:=hx;simp [bW.cells] at hx;rcases hx with rfl|rfl|rfl|rfl<;>rfl
theorem Ug (u:bW):(bW.cells u).length=4:=rfl
theorem Pw {α β:Type} (f:α→List β) (m:Nat):∀(l:List α),(∀a∈l,(f a).length≤m)→(l.flatMap f).length≤l.length * m
 | [],_=>by simp
 |a :: r,h=>by
  have h1:=h a (List.mem_cons_self ..);have h2:=Pw f m r (fun b hb=>h b (List.mem_cons_of_mem _ hb));rw [List.flatMap_cons,List.length_append,List.length_cons,Nat.add_mul];omega
theorem S3 (ps:List Pr) (x:al):(eD ps x).length≤ps.length:=List.length_filter_le _ _
theorem afC (ps:List Pr) (p:Pr) (x:al):eD (ps++ [p]) x=if p.1=x then eD ps x++ [p] else eD ps x:=by
 unfold eD;rw [List.filter_append];by_cases h:p.1=x
 · rw [if_pos h];simp [h]
 · rw [if_neg h];simp [h]
theorem RI {ps:List Pr} {n:Nat} (h:n<ps.length):(ps.map (·.1)).getD n []=(ps.getD n cA).1∧(ps.map (·.2)).getD n dh=(ps.getD n cA).2:=by
 rw [getD_at [] (by rw [List.length_map];exact h),getD_at dh (by rw [List.length_map];exact h),getD_at cA h];simp
theorem FY {ps:List Pr} {n:Nat} (h:n<ps.length) (x:al):eD (ps.take (n+1)) x=if (ps.getD n cA).1=x then eD (ps.take n) x++ [ps.getD n cA] else eD (ps.take n) x:=by
 rw [List.take_succ_eq_append_getElem h,afC,getD_at cA h]
theorem aeF (l:List Pr) (p:Pr):c8 (l++ [p])=c8 l++f9 p:=by unfold c8;rw [List.flatMap_append];simp
theorem VE {w:World} {b g0 g1 g2:Nat} {Al:Option Addr} {ls:List (al)} (hL:Rd w 1 Al ls.length (strs ls)) (h1:aq w g1 9 []) (h2:aq w g2 96 []) (hA:∀q,Al=some q→q.block<w.heap.size∧(q.block=g0∨g2<q.block)) (h01:g0<g1) (h12:g1<g2) (hb:b≤g1):RS w.heap.size w b Al ls (.slice (some ⟨g1,0,none⟩) 0 0) [] (.slice (some ⟨g2,0,none⟩) 0 0) [] where
 lw:=Nat.le_refl _
 hL:=hL
 hN:=h1.own (base:=b) (n:=0) (sz:=1) hb rfl (by decide)
 hV:=h2.own (base:=b) (n:=0) (sz:=4) (by omega) rfl (by decide)
 ap:=fun k h e=>by cases h;have:=Option.some.inj e;simp at this;omega
 aN:=fun q e h=>by have:=Option.some.inj h;have:=(hA q e).2;simp at *;omega
 aV:=fun q e h=>by have:=Option.some.inj h;have:=(hA q e).2;simp at *;omega
 mL:=fun q e=>(hA q e).1
 mN:=fun k h=>by cases h;exact h1.lt
 mV:=fun k h=>by cases h;exact h2.lt
theorem aeC (p:Pr):∀z∈List.flatMap (fun v:Value=>v.cells.toList) [Value.agg #[str p.1,.int .i64 p.2.k,.int .i64 p.2.n,.float .f64 p.2.f,str p.2.s]],z.oneCell'=true:=fun z hz=>by
 simp only [List.flatMap_cons,List.flatMap_nil,List.append_nil] at hz;exact zn p z hz
theorem NJ (A:Option Addr) (c:Nat) (l:List (al)) (w:World) (hR:Rd w 1 A l.length (strs l)) (hl:l.length≤4096) (hs:∀f∈l,f.length≤4294967296) (hne:∀f∈l,f≠ []):
 be Tryz.prog 45 [.slice A l.length c] w fun v w'=>(∃Lb Pb Al cl Ap cp e,v= .tuple #[.slice Al Lb.length cl,.slice Ap Pb.length cp,.int .i64 e]∧Ec l Lb Pb e∧(∀p∈Pb,p.2.Ok)∧∀nm,cY (fun k=>w.heap.size≤k∧k<w'.heap.size) w' Al cl Ap cp ⟨nm,Lb,Pb⟩)∧Below w.heap.size w w':=by
 have hlen:∀{i:Nat},i<l.length→(l.getD i []).length≤4294967296∧l.getD i []≠ []:=fun {i} hi=>by
  rw [getD_at [] hi];exact ⟨hs _ (List.getElem_mem hi),hne _ (List.getElem_mem hi)⟩
 have hnone:∀w',fp l=none→∃Lb Pb Al cl Ap cp e,Value.tuple #[.slice none 0 0,.slice none 0 0,.int .i64 2]= .tuple #[.slice Al (Lb:List (al)).length cl,.slice Ap (Pb:List Pr).length cp,.int .i64 e]∧Ec l Lb Pb e∧(∀p∈Pb,p.2.Ok)∧∀nm,cY (fun k=>w.heap.size≤k∧k<w'.heap.size) w' Al cl Ap cp ⟨nm,Lb,Pb⟩:=fun w' h=>
  ⟨[],[],none,0,none,0,2,rfl,.inl ⟨h,rfl,rfl,rfl⟩,(fun p hp=>by cases hp),fun nm=>⟨Nat.le_refl _,Nat.le_refl _,Rd.nil _ _ _,Rd.nil _ _ _,(fun q h=>by cases h),(fun q h=>by cases h)⟩⟩
 have hb:=Below.refl w.heap.size w
 have bh:=hR
 refine enter Tryz.func45 rfl rfl rfl<|ao fun aZ=>am rfl<|am rfl<|am rfl<|an aZ<|ao fun cT=>jM bK (by kernel_rfl) rfl ?_
 rintro ix qL oX ew cm
 have:=cm.size
 have hb:=az hb cm
 have hR:=bh.below hb
 have:=ew.lt
 refine am rfl<|an cT<|ao fun gp=>jM bK (by kernel_rfl) rfl ?_
 rintro gc kw dg cD dW
 have:=dW.size
 have hb:=az hb dW
 have hR:=bh.below hb
 have ew:=aq.below ew dW
 have:=cD.lt
 refine am rfl<|an gp<|ao fun d7=>jM Tryz.underlying132 (by kernel_rfl) rfl ?_
 rintro iS mJ ey dV fO
 have:=fO.size
 have hb:=az hb fO
 have hR:=bh.below hb
 have ew:=aq.below ew fO
 have cD:=aq.below cD fO
 have:=dV.lt
 refine am rfl<|an d7<|ao fun eR=>am rfl<|an eR<|ao fun gY=>am rfl<|an gY<|ax fun _ dL=>br<|cU (X:=Nat×Option Addr×Nat×List (al)) (fun (i,Al,cl,ls)=> [(0,.slice A l.length c),(5,.slice Al (b7 ls).1.length cl),(6,.slice (some ⟨gc,0,none⟩) 0 0),(7,.slice (some ⟨iS,0,none⟩) 0 0),(8,.int .i64 (b7 ls).2),(9,.int .i64 (i:Int))]) (fun (i,Al,cl,ls) w1=>i≤l.length∧ls.length≤i∧fp l=(fp (l.drop i)).map (fun x=>(ls++x.1,x.2))∧(b7 ls).1.length≤cl∧(∀q,Al=some q→q.block<w1.heap.size∧(q.block=ix∨iS<q.block))∧Below w.heap.size w w1∧Rd w1 1 Al (b7 ls).1.length (strs (b7 ls).1)∧aq w1 gc 9 []∧aq w1 iS 96 []) (fun (i,Al,cl,ls)=>l.length - i) (⟨0,some ⟨ix,0,none⟩,0,[]⟩) ?_ ?_ ?_
 · exact by repeat first|exact aB|refine au rfl (by first|rfl|exact int_eq (by omega)) ?_
 · exact ⟨by omega,by simp,by simp,by simp [b7],fun q h=>by (cases h;exact ⟨by have:=ew.lt;omega,.inl rfl⟩),hb,Rd.nil _ _ _,cD,dV⟩
 rintro ⟨i,Al,cl,ls⟩ w1 JM _ abP
 replace JM:i≤l.length∧ls.length≤i∧fp l=(fp (l.drop i)).map (fun x=>(ls++x.1,x.2))∧(b7 ls).1.length≤cl∧(∀q,Al=some q→q.block<w1.heap.size∧(q.block=ix∨iS<q.block))∧Below w.heap.size w w1∧Rd w1 1 Al (b7 ls).1.length (strs (b7 ls).1)∧aq w1 gc 9 []∧aq w1 iS 96 []:=JM
 obtain ⟨hi,hlsl,hf,hcl,hAl,hb,hLr,cD,dV⟩:=JM
 show Wc _ _ _ _ _ [(0,.slice A l.length c),(5,.slice Al (b7 ls).1.length cl),(6,.slice (some ⟨gc,0,none⟩) 0 0),(7,.slice (some ⟨iS,0,none⟩) 0 0),(8,.int .i64 (b7 ls).2),(9,.int .i64 (i:Int))] _
 have hR:=bh.below hb
 have:=hb.size
 have:=cD.lt
 have:=dV.lt
 obtain ⟨f,hf0⟩:∃f,f=l.getD i []:=⟨_,rfl⟩
 obtain ⟨c0,hc0⟩:∃c0,c0=(f.getD 0 0).toNat:=⟨_,rfl⟩
 have aiI:=adm ls
 refine ax fun _ fZ=>ax fun _ kT=>b9 (X:=Bool) (fun q=> [(0,.slice A l.length c),(5,.slice Al (b7 ls).1.length cl),(6,.slice (some ⟨gc,0,none⟩) 0 0),(7,.slice (some ⟨iS,0,none⟩) 0 0),(8,.int .i64 (b7 ls).2),(9,.int .i64 (i:Int)),(39,.bool q)]) (fun q w2=>q=decide (i<l.length∧c0=58)∧w1.heap.size≤w2.heap.size∧Below w.heap.size w w2∧Rd w2 1 Al (b7 ls).1.length (strs (b7 ls).1)∧aq w2 gc 9 []∧aq w2 iS 96 []) (fun _ CH=>?_) ?_
 ·
  refine aR<|ai rfl<|ai rfl<|ah (cG bK (by omega) rfl) rfl<|ah (cg rfl rfl) rfl<|ai rfl<|cw rfl rfl rfl (fun oQ=>?_) (fun oQ=>?_)
  ·
   have it:=oQ;simp only [DZ] at oQ;have hil:i<l.length:=by have:=oQ;omega
   obtain ⟨p_,v_,hpe,hve,hcell⟩:=hR.one (i:=i) hil;obtain rfl:=i6 hil hve;have hfn:=hlen hil;have hfp:=List.length_pos_iff.2 hfn.2;refine ai rfl<|aE rfl rfl it<|ai rfl<|aE rfl rfl it<|ah (cx (sz:=1) (p:=p_) bK (by kernel_rfl) (by rw [hpe];rfl) rfl (by omega) (by omega)) rfl<|aE rfl rfl it<|aW (aI bQ rfl (by exact gH hcell)) rfl<|aE rfl rfl it<|ah (bt (eK bq rfl rfl (by omega) (by omega)) ((show Value.int .u8 (((l.getD i []).getD (0:Int).toNat 0).toNat:Int)= .int .u8 (((l.getD i []).getD 0 0).toNat:Int) from rfl))) rfl<|aE rfl rfl it<|ah (bA rfl rfl) rfl<|ah (bi rfl it rfl) rfl<|ay<|aY CH (decide (i<l.length∧c0=58)) (by repeat first|exact aB|refine au rfl (by first|rfl|exact aP (by rw [←hf0,←hc0,Bool.eq_iff_iff];simp<;>omega)|exact aP (by rw [Bool.eq_iff_iff];simp<;>omega)) ?_) ?_
   exact ⟨rfl,Nat.le_refl _,hb,hLr,cD,dV⟩
  have it:=oQ;simp only [DZ] at oQ;refine aA rfl rfl it rfl rfl<|aA rfl rfl it rfl rfl<|aA rfl rfl it rfl rfl<|aA rfl rfl it rfl rfl<|aA rfl rfl it rfl rfl<|ah (bg rfl it rfl) rfl<|ay<|aY CH (decide (i<l.length∧c0=58)) (by repeat first|exact aB|refine au rfl (by first|rfl|exact aP (by rw [←hf0,←hc0,Bool.eq_iff_iff];simp<;>omega)|exact aP (by rw [Bool.eq_iff_iff];simp<;>omega)) ?_) ?_
  exact ⟨rfl,Nat.le_refl _,hb,hLr,cD,dV⟩
 rintro q w2 J4
 replace J4:q=decide (i<l.length∧c0=58)∧w1.heap.size≤w2.heap.size∧Below w.heap.size w w2∧Rd w2 1 Al (b7 ls).1.length (strs (b7 ls).1)∧aq w2 gc 9 []∧aq w2 iS 96 []:=J4
 obtain ⟨hq,hw12,hb,hLr,cD,dV⟩:=J4
 show Wq _ _ _ _ [(0,.slice A l.length c),(5,.slice Al (b7 ls).1.length cl),(6,.slice (some ⟨gc,0,none⟩) 0 0),(7,.slice (some ⟨iS,0,none⟩) 0 0),(8,.int .i64 (b7 ls).2),(9,.int .i64 (i:Int)),(39,.bool q)] _
 have hR:=bh.below hb
 have:=hb.size
 have:=cD.lt
 have:=dV.lt
 refine aw kT<|aH rfl (fun Hn=>?_) (fun Hn=>?_)
 ·
  have Ho:=Hn;have hq0:=of_decide_eq_true (hq.symm.trans Ho);have hil:=hq0.1;have hfn:=hlen hil;rw [←hf0] at hfn;have hfp:=List.length_pos_iff.2 hfn.2;have hpre:=(Oz hfn.2).1 (hc0.symm.trans hq0.2);obtain ⟨t,ht⟩:∃t,t=f.drop 1:=⟨_,rfl⟩;have htl:t.length=f.length - 1:=by rw [ht,List.length_drop]
  have hdr:=drop_cons [] hil;rw [←hf0] at hdr;have hst:=afb (r:=l.drop (i+1)) hpre;rw [←hdr,←ht] at hst;obtain ⟨p_,v_,hpe,hve,hcell⟩:=hR.one (i:=i) hil;obtain rfl:=i6 hil hve;rw [←hf0] at hcell;refine aU<|aw fZ<|br<|ao fun mg=>ai rfl<|ai rfl<|ah (cx (sz:=1) (p:=p_) bK (by kernel_rfl) (by rw [hpe];rfl) rfl (by omega) (by omega)) rfl<|aW (aI bQ rfl (by exact gH hcell)) rfl<|ah (bt (oC bq rfl rfl (by omega) (by omega)) (dw (show _=t from ht.symm))) rfl<|am rfl<|an mg<|ao fun jj=>ai rfl<|aS zC rfl rfl (yl t (by omega) _) rfl ?_
  rintro _ cq ⟨rfl,bm⟩;have:=bm.size;have hb:=az hb bm;have hR:=bh.below hb;have hLr:=Rd.below hLr bm;have cD:=aq.below cD bm;have dV:=aq.below dV bm;refine am rfl<|an jj<|ax fun _ mi=>ao fun qm=>ai rfl<|ah (fI rfl) rfl<|an qm<|aH rfl (fun Ar=>?_) (fun Ar=>?_)
  ·
   have HN:=Ar;simp only [DZ] at Ar;have hwt:bO t=false:=by simpa using HN
   have hrn:fp l=none:=by rw [hf,hst,if_neg (by rw [hwt];simp)];rfl
   refine ao fun n6=>am rfl<|am rfl<|am rfl<|an n6<|aK<|aQ (bE (aQ (bE (aQ ?_))))
   refine qG rfl rfl rfl rfl ?_;exact ⟨_,rfl,hnone _ hrn,hb⟩
  have HN:=Ar;simp only [DZ] at Ar;have hwt:bO t=true:=by simpa using HN
  have hf2:fp l=(fp (l.drop (i+1))).map (fun x=>(ls++ [t]++x.1,x.2)):=by rw [hf,hst,if_pos hwt,Option.map_map];congr 1;funext x;simp
  refine aU<|aw mi<|ao fun n7=>ai rfl<|ai rfl<|aS MV rfl rfl (GQ Al cl (b7 ls).1 t (by omega) _ hLr) rfl ?_
  rintro _ ft ⟨rfl,bp⟩;have:=bp.size;have hb:=az hb bp;have hR:=bh.below hb;have hLr:=Rd.below hLr bp;have cD:=aq.below cD bp;have dV:=aq.below dV bp;refine am rfl<|an n7<|ax fun _ kW=>ao fun jk=>ai rfl<|an jk<|b9 (X:=Unit) (fun u_=> [(0,.slice A l.length c),(5,.slice Al (b7 ls).1.length cl),(6,.slice (some ⟨gc,0,none⟩) 0 0),(7,.slice (some ⟨iS,0,none⟩) 0 0),(8,.int .i64 (o9 (b7 ls) t).2),(9,.int .i64 (i:Int)),(10,str t)]) (fun u_ w3=>w1.heap.size≤w3.heap.size∧Below w.heap.size w w3∧Rd w3 1 Al (b7 ls).1.length (strs (b7 ls).1)∧aq w3 gc 9 []∧aq w3 iS 96 []) (fun _ CN=>?_) ?_
  ·
   refine aH rfl (fun At=>?_) (fun At=>?_)
   ·
    have HW:=At;simp only [DZ] at At;have he8:(3:Int)=(o9 (b7 ls) t).2:=by show _=(if _ then _ else _);rw [if_pos (of_decide_eq_true HW)]
    refine aR<|am rfl<|ay<|aY CN (()) (by repeat first|exact aB|refine au rfl (by first|rfl|exact int_eq he8) ?_) ?_
    exact ⟨by omega,hb,hLr,cD,dV⟩
   have HW:=At;simp only [DZ] at At;have he8:(b7 ls).2=(o9 (b7 ls) t).2:=by show _=(if _ then _ else _);rw [if_neg (of_decide_eq_false HW)]
   refine aU<|aY CN (()) (by repeat first|exact aB|refine au rfl (by first|rfl|exact int_eq he8) ?_) ?_
   exact ⟨by omega,hb,hLr,cD,dV⟩
  rintro u_ w3 xe;replace xe:w1.heap.size≤w3.heap.size∧Below w.heap.size w w3∧Rd w3 1 Al (b7 ls).1.length (strs (b7 ls).1)∧aq w3 gc 9 []∧aq w3 iS 96 []:=xe;obtain ⟨hw13,hb,hLr,cD,dV⟩:=xe;show Wq _ _ _ _ [(0,.slice A l.length c),(5,.slice Al (b7 ls).1.length cl),(6,.slice (some ⟨gc,0,none⟩) 0 0),(7,.slice (some ⟨iS,0,none⟩) 0 0),(8,.int .i64 (o9 (b7 ls) t).2),(9,.int .i64 (i:Int)),(10,str t)] _;have hR:=bh.below hb;have:=hb.size;have:=cD.lt;have:=dV.lt;refine aw kW<|ao fun sK=>ai rfl<|ai rfl<|aS TW rfl rfl (NK Al cl _ (b7 ls).1 t rfl (by omega) hcl _ hLr (fun q h=>Nat.lt_of_lt_of_le (hAl q h).1 hw13)) rfl ?_
  rintro _ gu ⟨⟨Al2,cl2,rfl,hcl2,hL2,hin2,hlt2⟩,bG⟩;have:=bG.size;have hb:=az hb bG;have hR:=bh.below hb;have hLr:=Rd.below hLr bG;have cD:=aq.below cD bG;have dV:=aq.below dV bG;refine am rfl<|an sK<|aR ?_
  have hAl2:∀q,Al2=some q→q.block<gu.heap.size∧(q.block=ix∨iS<q.block):=fun q h=>⟨hlt2 q h,by rcases hin2 q h with h2|h2;(· exact (hAl q h2).2);(· right;omega)⟩;refine ai rfl<|ah (bH rfl rfl (by omega) (by omega)) rfl<|am rfl<|ay<|bS<|fun a_ bn=>abP _ _ (⟨i+1,Al2,cl2,ls++ [t]⟩) (by simp;omega) (by repeat first|exact aB|refine au rfl (by first|rfl|exact int_eq (by omega)|(rw [FC];done)|(rw [FC];rfl)) ?_) ?_ a_ bn
  exact ⟨by omega,by simp;omega,hf2,by rw [FC];exact hcl2,hAl2,hb,by rw [FC];exact hL2,cD,dV⟩
 have Ho:=Hn
 have hq0:=of_decide_eq_false (hq.symm.trans Ho)
 have hAlb:∀q,Al=some q→w.heap.size≤q.block:=fun q e=>by have:=(hAl q e).2;omega
 have hf1:fp l=(iZ (l.drop i)).map (fun x=>(ls,[]++x)):=by
  rw [hf,afc (fun f' hf'=>by
   cases hp:Lib.hasPrefix f' [58] with
   |false=>rfl
   |true=>
    by_cases hil:i<l.length
    · rw [drop_cons [] hil] at hf'
      have e:f'=f:=by rw [hf0];exact (Option.some.inj hf').symm
      subst e
      have hfn:=hlen hil
      rw [←hf0] at hfn
      exact absurd ⟨hil,hc0.trans ((Oz hfn.2).2 hp)⟩ hq0
    · rw [List.drop_of_length_le (by omega)] at hf';cases hf'),Option.map_map]
  congr 1;funext x;simp
 refine cN<|bD<|bD<|cO<|aw dL<|ax fun _ oT=>br<|cU (X:=Nat×Value×Value×List Pr) (fun (j,vN,vV,ps)=> [(0,.slice A l.length c),(5,.slice Al (b7 ls).1.length cl),(6,vN),(7,vV),(8,.int .i64 (fQ (b7 ls).2 ps).2),(9,.int .i64 (j:Int))]) (fun (j,vN,vV,ps) w4=>j≤l.length∧ps.length≤j∧fp l=(iZ (l.drop j)).map (fun x=>(ls,ps++x))∧(∀p∈ps,p.2.Ok)∧Below w.heap.size w w4∧RS w4.heap.size w4 w.heap.size Al (b7 ls).1 vN (ps.map (·.1)) vV (ps.map (·.2))) (fun (j,vN,vV,ps)=>l.length - j) (⟨i,.slice (some ⟨gc,0,none⟩) 0 0,.slice (some ⟨iS,0,none⟩) 0 0,[]⟩) ?_ ?_ ?_
 · exact by repeat first|exact aB|refine au rfl (by first|rfl|exact int_eq (by omega)) ?_
 · exact ⟨hi,by simp,hf1,(fun p hp=>by cases hp),hb,VE hLr cD dV (fun q h=>⟨Nat.lt_of_lt_of_le (hAl q h).1 (by assumption),(hAl q h).2⟩) (by omega) (by omega) (by omega)⟩
 rintro ⟨j,vN,vV,ps⟩ w4 xg _ ab3
 replace xg:j≤l.length∧ps.length≤j∧fp l=(iZ (l.drop j)).map (fun x=>(ls,ps++x))∧(∀p∈ps,p.2.Ok)∧Below w.heap.size w w4∧RS w4.heap.size w4 w.heap.size Al (b7 ls).1 vN (ps.map (·.1)) vV (ps.map (·.2)):=xg
 obtain ⟨hj,hpl,hg,hok,hb,hRS⟩:=xg
 show Wc _ _ _ _ _ [(0,.slice A l.length c),(5,.slice Al (b7 ls).1.length cl),(6,vN),(7,vV),(8,.int .i64 (fQ (b7 ls).2 ps).2),(9,.int .i64 (j:Int))] _
 have hR:=bh.below hb
 have:=hb.size
 have aiJ:(ps.map (·.1)).length=ps.length:=List.length_map _
 have aiL:(ps.map (·.2)).length=ps.length:=List.length_map _
 obtain ⟨f2,hf2⟩:∃f2,f2=l.getD j []:=⟨_,rfl⟩
 obtain ⟨An,cn,hve,hcn,_⟩:=eT hRS.hN
 subst hve
 refine ax fun _ xx=>ao fun xy=>ai rfl<|ai rfl<|ah (cG bK (by omega) rfl) rfl<|ah (cg rfl rfl) rfl<|an xy<|aH rfl (fun vD=>?_) (fun vD=>?_)
 ·
  have Yn:=vD;simp only [DZ] at vD;have hjl:j<l.length:=by have:=vD;omega
  have hfn:=hlen hjl;rw [←hf2] at hfn;have hdr:=drop_cons [] hjl;rw [←hf2] at hdr;obtain ⟨p_,v_,hpe,hve,hcell⟩:=hR.one (i:=j) hjl;obtain rfl:=i6 hjl hve;rw [←hf2] at hcell;refine aU<|aw xx<|br<|ao fun Cu=>ai rfl<|ai rfl<|ah (cx (sz:=1) (p:=p_) bK (by kernel_rfl) (by rw [hpe];rfl) rfl (by omega) (by omega)) rfl<|aW (aI bQ rfl (by exact gH hcell)) rfl<|aS ag5 rfl rfl (VL f2 hfn.1 _) rfl ?_
  rintro _ hZ ⟨⟨kq,rfl,hk⟩,ck⟩;have:=ck.size;have hb:=az hb ck;have hR:=bh.below hb;have hRS:=RS.below hRS ck;refine am rfl<|an Cu<|ax fun _ qt=>ao fun mq=>ai rfl<|ah (cg rfl rfl) rfl<|an mq<|aH rfl (fun vF=>?_) (fun vF=>?_)
  ·
   have Yq:=vF;simp only [DZ] at vF
   have hrn:fp l=none:=by
    rcases hk with ⟨_,h⟩|⟨i',h,_⟩
    · rw [hg,hdr,Mi,aez h];rfl
    · have:=vF;omega
   refine ao fun kS=>am rfl<|am rfl<|am rfl<|an kS<|aK<|aQ (bE (aQ (bE (aQ ?_))))
   refine qG rfl rfl rfl rfl ?_;exact ⟨_,rfl,hnone _ hrn,hb⟩
  have Yq:=vF;simp only [DZ] at vF;obtain ⟨k,hk0,hkl,hk61,hkn⟩:=hk.resolve_left (fun h=>by have:=vF;omega);subst hk0;refine aU<|aw qt<|ao fun Kt=>ai rfl<|ai rfl ?_
  obtain ⟨p_,v_,hpe,hve,hcell⟩:=hR.one (i:=j) hjl;obtain rfl:=i6 hjl hve;rw [←hf2] at hcell;refine ah (cx (sz:=1) (p:=p_) bK (by kernel_rfl) (by rw [hpe];rfl) rfl (by omega) (by omega)) rfl<|aW (aI bQ rfl (by exact gH hcell)) rfl<|ai rfl<|ah (bt (rz bq rfl rfl (by omega) (by omega)) (dw (show _=f2.take k by rw [Int.toNat_natCast]))) rfl<|am rfl<|an Kt<|ao fun sE=>ai rfl<|aS zC rfl rfl (yl (f2.take k) (by have:=List.length_take_le' k f2;omega) _) rfl ?_
  rintro _ nq ⟨rfl,dE⟩;have:=dE.size;have hb:=az hb dE;have hR:=bh.below hb;have hRS:=RS.below hRS dE;refine am rfl<|an sE<|ax fun _ sF=>ao fun sG=>ai rfl<|ah (fI rfl) rfl<|an sG<|aH rfl (fun nM=>?_) (fun nM=>?_)
  ·
   have Az:=nM;simp only [DZ] at nM;have hwt:bO (f2.take k)=false:=by simpa using Az
   have hrn:fp l=none:=by rw [hg,hdr,Mi,aex hkl hk61 hkn hwt];rfl
   refine ao fun qk=>am rfl<|am rfl<|am rfl<|an qk<|aK<|aQ (bE (aQ (bE (aQ ?_))))
   refine qG rfl rfl rfl rfl ?_;exact ⟨_,rfl,hnone _ hrn,hb⟩
  have Az:=nM;simp only [DZ] at nM;have hwt:bO (f2.take k)=true:=by simpa using Az
  refine aU<|aw sF<|ao fun sH=>ai rfl<|ai rfl ?_
  obtain ⟨p_,v_,hpe,hve,hcell⟩:=hR.one (i:=j) hjl;obtain rfl:=i6 hjl hve;rw [←hf2] at hcell;refine ah (cx (sz:=1) (p:=p_) bK (by kernel_rfl) (by rw [hpe];rfl) rfl (by omega) (by omega)) rfl<|aW (aI bQ rfl (by exact gH hcell)) rfl<|ai rfl<|ah (bH rfl rfl (by omega) (by omega)) rfl<|ah (bt (oC bq rfl rfl (by omega) (by omega)) (dw (show _=f2.drop (k+1) by rw [show ((k:Int)+1).toNat=k+1 by omega]))) rfl<|aS TR rfl rfl (NI (f2.drop (k+1)) (by rw [List.length_drop];omega) _) rfl ?_
  rintro _ gD ⟨⟨u,n,ok,rfl,hr⟩,fk⟩;have:=fk.size;have hb:=az hb fk;have hR:=bh.below hb;have hRS:=RS.below hRS fk;refine ai rfl<|ah (bP rfl rfl) rfl<|ah (bP rfl rfl) rfl<|ah (bP rfl rfl) rfl ?_
  have hlwR:=hRS.lw;have hp1:=aey hkl hk61 hkn hwt hr;have hg2:fp l=(iZ (l.drop (j+1))).map (fun x=>(ls,ps++ [(f2.take k,u)]++x)):=by rw [hg,hdr,Mi,hp1];cases iZ (l.drop (j+1))<;>simp
  have hok2:∀p∈ps++ [(f2.take k,u)],p.2.Ok:=fun p hp=>by
   rcases List.mem_append.1 hp with h|h
   · exact hok p h
   · rcases List.mem_singleton.1 h with rfl;exact aeW hr
  refine el (z:=nf) (by kernel_rfl) rfl ?_;rintro sC ajx aiE jB LA;have:=LA.size;have hb:=az hb LA;have hR:=bh.below hb;have hRS:=RS.below hRS LA;have:=jB.lt;refine cH (by kernel_rfl) rfl rfl jB rfl rfl ?_;rintro d3 jB bI;have:=bI.size;have hb:=bY hb bI hb.size (by omega);have hR:=bh.below hb;have hRS:=hRS.over bI (by omega);refine am rfl<|am rfl<|an sH<|ao fun sI=>ai rfl<|ai rfl ?_
  have hNq:=fC hRS.hN;have hnq:(List.map (fun x:Pr=>x.1) ps).length≤281474976710656:=by rw [List.length_map];omega
  have hcq:=GQ An cn (ps.map (·.1)) (f2.take k) hnq _ hNq;refine aS MV rfl rfl (hcq) rfl ?_;rintro _ DV ⟨rfl,iC⟩;have:=iC.size;have hb:=az hb iC;have hR:=bh.below hb;have hRS:=RS.below hRS iC;have jB:=aq.below jB iC;refine am rfl<|an sI<|ax fun _ Cl=>ao fun Cm=>ai rfl<|an Cm<|b9 (X:=Unit) (fun u_=> [(0,.slice A l.length c),(5,.slice Al (b7 ls).1.length cl),(6,.slice An (ps.map (·.1)).length cn),(7,vV),(8,.int .i64 (ks (ps.map (·.1)) (fQ (b7 ls).2 ps).2 (f2.take k,u))),(9,.int .i64 (j:Int)),(14,str (f2.take k)),(16,.pointer (some ⟨sC,0,none⟩))]) (fun u_ w5=>Below w.heap.size w w5∧RS w4.heap.size w5 w.heap.size Al (b7 ls).1 (.slice An (ps.map (·.1)).length cn) (ps.map (·.1)) vV (ps.map (·.2))∧aq w5 sC 96 u.cells) (fun _ K5=>?_) ?_
  ·
   refine aH rfl (fun AE=>?_) (fun AE=>?_)
   ·
    have Iy:=AE;simp only [DZ] at AE;have hin:f2.take k∈(ps.map (·.1)):=of_decide_eq_true Iy;have he8:(3:Int)=ks (ps.map (·.1)) (fQ (b7 ls).2 ps).2 (f2.take k,u):=by unfold ks;rw [if_pos hin]
    refine aR<|am rfl<|ay<|aY K5 (()) (by repeat first|exact aB|refine au rfl (by first|rfl|exact int_eq he8) ?_) ?_
    exact ⟨hb,hRS,jB⟩
   have Iy:=AE;simp only [DZ] at AE;have hin:f2.take k ∉ (ps.map (·.1)):=of_decide_eq_false Iy;refine ax fun _ KB=>b9 (X:=Bool) (fun q4=> [(0,.slice A l.length c),(5,.slice Al (b7 ls).1.length cl),(6,.slice An (ps.map (·.1)).length cn),(7,vV),(8,.int .i64 (fQ (b7 ls).2 ps).2),(9,.int .i64 (j:Int)),(14,str (f2.take k)),(16,.pointer (some ⟨sC,0,none⟩)),(101,.bool q4)]) (fun q4 w5=>q4=decide (u.k=0∧(fQ (b7 ls).2 ps).2=0)∧Below w.heap.size w w5∧RS w4.heap.size w5 w.heap.size Al (b7 ls).1 (.slice An (ps.map (·.1)).length cn) (ps.map (·.1)) vV (ps.map (·.2))∧aq w5 sC 96 u.cells) (fun _ P8=>?_) ?_
   ·
    refine aR<|ah (aJ (jP _) rfl) rfl<|aW (aI f8 rfl (by exact jB.at (j:=0) rfl)) rfl<|ah (bA rfl rfl) rfl<|ai rfl<|cw rfl rfl rfl (fun wx=>?_) (fun wx=>?_)
    ·
     have Bk:=wx;simp only [DZ] at wx;have h78:u.k=0:=wx;refine ai rfl<|aE rfl rfl Bk<|ah (bA rfl rfl) rfl<|ah (bi rfl Bk rfl) rfl<|ay<|aY P8 (decide (u.k=0∧(fQ (b7 ls).2 ps).2=0)) (by repeat first|exact aB|refine au rfl (by first|rfl|exact aP (by rw [Bool.eq_iff_iff,decide_eq_true_eq];simp only [beq_iff_eq,h78,true_and,false_and,Bool.false_eq_true])) ?_) ?_
     exact ⟨rfl,hb,hRS,jB⟩
    have Bk:=wx;simp only [DZ] at wx;have h78:¬u.k=0:=wx;refine aA rfl rfl Bk rfl rfl<|ah (bg rfl Bk rfl) rfl<|ay<|aY P8 (decide (u.k=0∧(fQ (b7 ls).2 ps).2=0)) (by repeat first|exact aB|refine au rfl (by first|rfl|exact aP (by rw [Bool.eq_iff_iff,decide_eq_true_eq];simp only [beq_iff_eq,h78,true_and,false_and,Bool.false_eq_true])) ?_) ?_
    exact ⟨rfl,hb,hRS,jB⟩
   rintro q4 w5 JC;replace JC:q4=decide (u.k=0∧(fQ (b7 ls).2 ps).2=0)∧Below w.heap.size w w5∧RS w4.heap.size w5 w.heap.size Al (b7 ls).1 (.slice An (ps.map (·.1)).length cn) (ps.map (·.1)) vV (ps.map (·.2))∧aq w5 sC 96 u.cells:=JC;obtain ⟨hq4,hb,hRS,jB⟩:=JC;show Wq _ _ _ _ [(0,.slice A l.length c),(5,.slice Al (b7 ls).1.length cl),(6,.slice An (ps.map (·.1)).length cn),(7,vV),(8,.int .i64 (fQ (b7 ls).2 ps).2),(9,.int .i64 (j:Int)),(14,str (f2.take k)),(16,.pointer (some ⟨sC,0,none⟩)),(101,.bool q4)] _;have hR:=bh.below hb;have:=hb.size;have:=jB.lt;refine aw KB<|aH rfl (fun ID=>?_) (fun ID=>?_)
   ·
    have IE:=ID;have hk4:=of_decide_eq_true (hq4.symm.trans IE);have he8:(4:Int)=ks (ps.map (·.1)) (fQ (b7 ls).2 ps).2 (f2.take k,u):=by unfold ks;rw [if_neg hin,if_pos hk4]
    refine aR<|am rfl<|ay<|aY K5 (()) (by repeat first|exact aB|refine au rfl (by first|rfl|exact int_eq he8) ?_) ?_
    exact ⟨hb,hRS,jB⟩
   have IE:=ID;have hk4:=of_decide_eq_false (hq4.symm.trans IE);have he8:(fQ (b7 ls).2 ps).2=ks (ps.map (·.1)) (fQ (b7 ls).2 ps).2 (f2.take k,u):=by unfold ks;rw [if_neg hin,if_neg hk4]
   refine aU<|aY K5 (()) (by repeat first|exact aB|refine au rfl (by first|rfl|exact int_eq he8) ?_) ?_
   exact ⟨hb,hRS,jB⟩
  rintro u_ w5 JD;replace JD:Below w.heap.size w w5∧RS w4.heap.size w5 w.heap.size Al (b7 ls).1 (.slice An (ps.map (·.1)).length cn) (ps.map (·.1)) vV (ps.map (·.2))∧aq w5 sC 96 u.cells:=JD;obtain ⟨hb,hRS,jB⟩:=JD;show Wq _ _ _ _ [(0,.slice A l.length c),(5,.slice Al (b7 ls).1.length cl),(6,.slice An (ps.map (·.1)).length cn),(7,vV),(8,.int .i64 (ks (ps.map (·.1)) (fQ (b7 ls).2 ps).2 (f2.take k,u))),(9,.int .i64 (j:Int)),(14,str (f2.take k)),(16,.pointer (some ⟨sC,0,none⟩))] _;have hR:=bh.below hb;have:=hb.size;have:=jB.lt;refine aw Cl<|ao fun Cp=>ai rfl<|ai rfl<|dX (sz:=1) (vs:= [_]) bK (by kernel_rfl) rfl rfl rfl rfl rfl rfl ?_
  rintro Z8 tk e8 B5 uj;have:=uj.size;have hb:=az hb uj;have hR:=bh.below hb;have hRS:=RS.below hRS uj;have jB:=aq.below jB uj;have:=B5.lt;have hN0:=hRS.hN;have hne67:some sC≠(Value.slice An (ps.map (·.1)).length cn).ownBlock:=fun h=>by have:=hRS.mN _ h.symm;omega
  refine dK (z:=(str [])) (sz:=1) (bytes:=16) bK (by kernel_rfl) rfl (by decide) _ rfl hN0 rfl (B5.rd 1 1 rfl) (s6 _) (by simp only [maxLen];omega) (by omega) (by exact hb.size) rfl ?_;rintro M5 Ui Lr sR QD;have:=sR.size;have hb:=hb.grown sR hb.size (fun k_ ba=>by have:=(bz hN0 k_ ba).1;omega);have hR:=bh.below hb;have jB:=aq.grown jB sR (by first|assumption|(simp [Value.ownBlock];omega));have hN0:=Lr;have hRS:=hRS.growN (ns':=(ps++ [(f2.take k,u)]).map (·.1)) (ot hN0 (by rw [List.map_append,x5];rfl) (by simp)) sR QD;refine am rfl<|an Cp<|ao fun aaz=>ai rfl<|aW (dM de (by kernel_rfl) rfl (by exact fun j u hu=>jB.at hu)) rfl<|dX (sz:=4) (vs:= [_]) Tryz.underlying132 (by kernel_rfl) rfl rfl rfl rfl rfl rfl ?_
  rintro aij ahA Ff PK Fm;have:=Fm.size;have hb:=az hb Fm;have hR:=bh.below hb;have hRS:=RS.below hRS Fm;have hN0:=cR hN0 Fm;have:=PK.lt;have hV0:=hRS.hV;refine dK (z:=nf) (sz:=4) (bytes:=40) Tryz.underlying132 (by kernel_rfl) rfl (by decide) _ rfl hV0 rfl (PK.rd 1 4 rfl) (val_one u) (by simp only [maxLen];omega) (by omega) (by exact hb.size) rfl ?_;rintro aht yh acs qv ab8;have:=qv.size;have hb:=hb.grown qv hb.size (fun k_ ba=>by have:=(bz hV0 k_ ba).1;omega);have hR:=bh.below hb;have hV0:=acs;have hRS:=hRS.growV (vs':=(ps++ [(f2.take k,u)]).map (·.2)) (ot hV0 (by rw [List.map_append,List.flatMap_append];rfl) (by simp)) qv ab8;refine am rfl<|an aaz<|aR<|ai rfl<|ah (bH rfl rfl (by omega) (by omega)) rfl<|am rfl<|ay<|bS<|fun a_ bn=>ab3 _ _ (⟨j+1,M5,aht,ps++ [(f2.take k,u)]⟩) (by simp;omega) (by repeat first|exact aB|refine au rfl (by first|rfl|exact int_eq (by omega)|(rw [Sg];show _=Value.int .i64 (ks (fQ (b7 ls).2 ps).1 _ _);rw [Sf];done)|(rw [Sg];show _=Value.int .i64 (ks (fQ (b7 ls).2 ps).1 _ _);rw [Sf];rfl)) ?_) ?_ a_ bn
  exact ⟨by omega,by simp;omega,hg2,hok2,hb,hRS⟩
 have Yn:=vD
 simp only [DZ] at vD
 have hje:j=l.length:=by have:=vD;omega
 have hfin:fp l=some (ls,ps):=by rw [hg,hje,List.drop_length];simp [iZ]
 obtain ⟨Av,cv,hve,hcv,_⟩:=eT hRS.hV
 subst hve
 have hLr:=hRS.hL
 have hw4w:=hb.size
 have hNr:=fC hRS.hN
 have hVr:=fC hRS.hV
 have hnl:(ps.map (·.1)).length=ps.length:=List.length_map _
 have hvl:(ps.map (·.2)).length=ps.length:=List.length_map _
 have aiK:=R6 (ps.map (·.1))
 refine cN<|bD<|bD<|cO<|aw oT<|ax fun _ Cq=>?_
 have hb2:=Below.refl w4.heap.size w4
 have q9:=hLr
 have ra:=hNr
 have qu:=hVr
 refine aR<|jM ef (by kernel_rfl) rfl ?_
 rintro ll tl ez m5 rc
 have:=rc.size
 have hb:=az hb rc
 have hR:=bh.below hb
 have hb2:=az hb2 rc
 have hLr:=q9.below hb2
 have hNr:=ra.below hb2
 have hVr:=qu.below hb2
 have hRS:=RS.below hRS rc
 have:=m5.lt
 refine am rfl<|an Cq<|ao fun KK=>jM bK (by kernel_rfl) rfl ?_
 rintro gV tj oY d2 eC
 have:=eC.size
 have hb:=az hb eC
 have hR:=bh.below hb
 have hb2:=az hb2 eC
 have hLr:=q9.below hb2
 have hNr:=ra.below hb2
 have hVr:=qu.below hb2
 have hRS:=RS.below hRS eC
 have m5:=aq.below m5 eC
 have:=d2.lt
 refine am rfl<|an KK<|ax fun _ KL=>ao fun KM=>am rfl<|an KM<|br<|cU (X:=Nat×Option Addr×Nat) (fun (k,Ao,co)=> [(5,.slice Al (b7 ls).1.length cl),(6,.slice An (ps.map (·.1)).length cn),(7,.slice Av (ps.map (·.2)).length cv),(8,.int .i64 (fQ (b7 ls).2 ps).2),(20,.slice (some ⟨ll,0,none⟩) 0 0),(21,.slice Ao (cz ((ps.map (·.1)).take k)).length co),(22,.int .i64 (k:Int))]) (fun (k,Ao,co) w6=>k≤(ps.map (·.1)).length∧(cz ((ps.map (·.1)).take k)).length≤co∧(∀q,Ao=some q→q.block<w6.heap.size∧ll<q.block)∧Below w.heap.size w w6∧Below w4.heap.size w4 w6∧Rd w6 1 Ao (cz ((ps.map (·.1)).take k)).length (strs (cz ((ps.map (·.1)).take k)))∧aq w6 ll 105 []) (fun (k,Ao,co)=>(ps.map (·.1)).length - k) (⟨0,some ⟨gV,0,none⟩,0⟩) ?_ ?_ ?_
 · exact by repeat first|exact aB|refine au rfl (by first|rfl|exact int_eq (by omega)) ?_
 · exact ⟨by omega,Nat.le_refl _,(fun q h=>by (cases h;exact ⟨d2.lt,show ll<gV by omega⟩)),hb,hb2,Rd.nil _ _ _,m5⟩
 rintro ⟨k,Ao,co⟩ w6 JL _ abQ
 replace JL:k≤(ps.map (·.1)).length∧(cz ((ps.map (·.1)).take k)).length≤co∧(∀q,Ao=some q→q.block<w6.heap.size∧ll<q.block)∧Below w.heap.size w w6∧Below w4.heap.size w4 w6∧Rd w6 1 Ao (cz ((ps.map (·.1)).take k)).length (strs (cz ((ps.map (·.1)).take k)))∧aq w6 ll 105 []:=JL
 obtain ⟨hk,hco,hAo,hb,hb2,hOr,m5⟩:=JL
 show Wc _ _ _ _ _ [(5,.slice Al (b7 ls).1.length cl),(6,.slice An (ps.map (·.1)).length cn),(7,.slice Av (ps.map (·.2)).length cv),(8,.int .i64 (fQ (b7 ls).2 ps).2),(20,.slice (some ⟨ll,0,none⟩) 0 0),(21,.slice Ao (cz ((ps.map (·.1)).take k)).length co),(22,.int .i64 (k:Int))] _
 have hR:=bh.below hb
 have hLr:=q9.below hb2
 have hNr:=ra.below hb2
 have hVr:=qu.below hb2
 have:=hb.size
 have:=hb2.size
 have:=m5.lt
 refine ax fun _ aaH=>ao fun aaI=>ai rfl<|ai rfl<|ah (cG bK (by omega) rfl) rfl<|ah (cg rfl rfl) rfl<|an aaI<|aH rfl (fun v7=>?_) (fun v7=>?_)
 ·
  have YX:=v7;simp only [DZ] at v7;have hkl:k<(ps.map (·.1)).length:=by have:=v7;omega
  have hts:cz ((ps.map (·.1)).take (k+1))=fR (cz ((ps.map (·.1)).take k)) ((ps.map (·.1)).getD k []):=by rw [List.take_succ_eq_append_getElem hkl,ael,getD_at [] hkl]
  have aco:=R6 ((ps.map (·.1)).take k);rw [List.length_take] at aco;obtain ⟨p_,v_,hpe,hve,hcell⟩:=hNr.one (i:=k) hkl;obtain rfl:=i6 hkl hve;refine aU<|aw aaH<|ax fun _ aaO=>br<|aR<|ai rfl<|ai rfl<|ai rfl<|ah (cx (sz:=1) (p:=p_) bK (by kernel_rfl) (by rw [hpe];rfl) rfl (by omega) (by omega)) rfl<|aW (aI bQ rfl (by exact gH hcell)) rfl ?_
  have hoq:(cz ((ps.map (·.1)).take k)).length≤1099511627776:=by omega
  have hoq2:∀q,Ao=some q→q.block<w6.heap.size:=fun q h=>(hAo q h).1;have hcq:=NK Ao co _ (cz ((ps.map (·.1)).take k)) ((ps.map (·.1)).getD k []) rfl hoq hco _ hOr hoq2;refine aS TW rfl rfl (hcq) rfl ?_;rintro _ GA ⟨⟨Ao2,co2,rfl,hco2,hO2,hin2,hlt2⟩,jZ⟩;have:=jZ.size;have hb:=az hb jZ;have hR:=bh.below hb;have hb2:=az hb2 jZ;have hLr:=q9.below hb2;have hNr:=ra.below hb2;have hVr:=qu.below hb2;have m5:=aq.below m5 jZ;have hAo2:∀q,Ao2=some q→q.block<GA.heap.size∧ll<q.block:=fun q h=>⟨hlt2 q h,by rcases hin2 q h with h2|h2;(· exact (hAo q h2).2);(· have:=m5.lt;omega)⟩;refine am rfl<|ay<|bS<|aw aaO<|aR<|ai rfl<|ah (bH rfl rfl (by omega) (by omega)) rfl<|am rfl<|ay<|fun a_ bn=>abQ _ _ (⟨k+1,Ao2,co2⟩) (by simp;omega) (by repeat first|exact aB|refine au rfl (by first|rfl|exact int_eq (by omega)|(rw [hts];done)|(rw [hts];rfl)) ?_) ?_ a_ bn
  exact ⟨by omega,by rw [hts];exact hco2,hAo2,hb,hb2,by rw [hts];exact hO2,m5⟩
 have YX:=v7
 simp only [DZ] at v7
 have hke:(ps.map (·.1)).take k=(ps.map (·.1)):=List.take_of_length_le (by have:=v7;omega)
 rw [hke] at hco hOr
 have hOb:=m5.own (base:=w4.heap.size) (n:=0) (sz:=5) (by omega) rfl (by decide)
 refine cN<|bD<|bD<|cO<|aw KL<|ax fun _ KO=>ao fun aaQ=>am rfl<|an aaQ<|br<|cU (X:=Nat×Value) (fun (k,vP)=> [(5,.slice Al (b7 ls).1.length cl),(6,.slice An (ps.map (·.1)).length cn),(7,.slice Av (ps.map (·.2)).length cv),(8,.int .i64 (fQ (b7 ls).2 ps).2),(21,.slice Ao (cz (ps.map (·.1))).length co),(20,vP),(23,.int .i64 (k:Int))]) (fun (k,vP) w8=>k≤(cz (ps.map (·.1))).length∧(∀b,vP.ownBlock=some b→b=ll∨w6.heap.size≤b)∧w6.heap.size≤w8.heap.size∧Below w.heap.size w w8∧Below w4.heap.size w4 w8∧Rd w8 1 Ao (cz (ps.map (·.1))).length (strs (cz (ps.map (·.1))))∧w8.ownsRow w4.heap.size 105 5 vP (((cz (ps.map (·.1))).take k).flatMap (eD ps)).length (c8 (((cz (ps.map (·.1))).take k).flatMap (eD ps)))) (fun (k,vP)=>(cz (ps.map (·.1))).length - k) (⟨0,.slice (some ⟨ll,0,none⟩) 0 0⟩) ?_ ?_ ?_
 · exact by repeat first|exact aB|refine au rfl (by first|rfl|(rw [hke];done)|(rw [hke];rfl)) ?_
 · exact ⟨by omega,fun b h=>by (cases h;exact .inl rfl),Nat.le_refl _,hb,hb2,hOr,hOb⟩
 rintro ⟨k,vP⟩ w8 JO _ abR
 replace JO:k≤(cz (ps.map (·.1))).length∧(∀b,vP.ownBlock=some b→b=ll∨w6.heap.size≤b)∧w6.heap.size≤w8.heap.size∧Below w.heap.size w w8∧Below w4.heap.size w4 w8∧Rd w8 1 Ao (cz (ps.map (·.1))).length (strs (cz (ps.map (·.1))))∧w8.ownsRow w4.heap.size 105 5 vP (((cz (ps.map (·.1))).take k).flatMap (eD ps)).length (c8 (((cz (ps.map (·.1))).take k).flatMap (eD ps))):=JO
 obtain ⟨hk3,hvP,hw68,hb,hb2,hOr,hOP⟩:=JO
 show Wc _ _ _ _ _ [(5,.slice Al (b7 ls).1.length cl),(6,.slice An (ps.map (·.1)).length cn),(7,.slice Av (ps.map (·.2)).length cv),(8,.int .i64 (fQ (b7 ls).2 ps).2),(21,.slice Ao (cz (ps.map (·.1))).length co),(20,vP),(23,.int .i64 (k:Int))] _
 have hR:=bh.below hb
 have hLr:=q9.below hb2
 have hNr:=ra.below hb2
 have hVr:=qu.below hb2
 have:=hb.size
 have:=hb2.size
 refine ax fun _ aaS=>ao fun KQ=>ai rfl<|ai rfl<|ah (cG bK (by omega) rfl) rfl<|ah (cg rfl rfl) rfl<|an KQ<|aH rfl (fun we=>?_) (fun we=>?_)
 ·
  have Y0:=we;simp only [DZ] at we;have hkl:k<(cz (ps.map (·.1))).length:=by have:=we;omega
  refine aU<|aw aaS<|ax fun _ KS=>br<|ao fun ua=>am rfl<|an ua<|br<|cU (X:=Nat×Value) (fun (n,vQ)=> [(5,.slice Al (b7 ls).1.length cl),(6,.slice An (ps.map (·.1)).length cn),(7,.slice Av (ps.map (·.2)).length cv),(8,.int .i64 (fQ (b7 ls).2 ps).2),(21,.slice Ao (cz (ps.map (·.1))).length co),(20,vQ),(23,.int .i64 (k:Int)),(24,.int .i64 (n:Int))]) (fun (n,vQ) w9=>n≤ps.length∧(∀b,vQ.ownBlock=some b→b=ll∨w6.heap.size≤b)∧w6.heap.size≤w9.heap.size∧Below w.heap.size w w9∧Below w4.heap.size w4 w9∧Rd w9 1 Ao (cz (ps.map (·.1))).length (strs (cz (ps.map (·.1))))∧w9.ownsRow w4.heap.size 105 5 vQ (((cz (ps.map (·.1))).take k).flatMap (eD ps)++eD (ps.take n) ((cz (ps.map (·.1))).getD k [])).length (c8 (((cz (ps.map (·.1))).take k).flatMap (eD ps)++eD (ps.take n) ((cz (ps.map (·.1))).getD k [])))) (fun (n,vQ)=>ps.length - n) (⟨0,vP⟩) ?_ ?_ ?_
  · exact by repeat first|exact aB|refine au rfl (by first|rfl|exact hv3e.symm|exact int_eq (by omega)) ?_
  · exact ⟨by omega,hvP,hw68,hb,hb2,hOr,ot hOP (by simp [eD]) (by simp [eD])⟩
  rintro ⟨n,vQ⟩ w9 wS _ PR;replace wS:n≤ps.length∧(∀b,vQ.ownBlock=some b→b=ll∨w6.heap.size≤b)∧w6.heap.size≤w9.heap.size∧Below w.heap.size w w9∧Below w4.heap.size w4 w9∧Rd w9 1 Ao (cz (ps.map (·.1))).length (strs (cz (ps.map (·.1))))∧w9.ownsRow w4.heap.size 105 5 vQ (((cz (ps.map (·.1))).take k).flatMap (eD ps)++eD (ps.take n) ((cz (ps.map (·.1))).getD k [])).length (c8 (((cz (ps.map (·.1))).take k).flatMap (eD ps)++eD (ps.take n) ((cz (ps.map (·.1))).getD k []))):=wS;obtain ⟨hn,hvQ,hw69,hb,hb2,hOr,hOQ⟩:=wS;show Wc _ _ _ _ _ [(5,.slice Al (b7 ls).1.length cl),(6,.slice An (ps.map (·.1)).length cn),(7,.slice Av (ps.map (·.2)).length cv),(8,.int .i64 (fQ (b7 ls).2 ps).2),(21,.slice Ao (cz (ps.map (·.1))).length co),(20,vQ),(23,.int .i64 (k:Int)),(24,.int .i64 (n:Int))] _;have hR:=bh.below hb;have hLr:=q9.below hb2;have hNr:=ra.below hb2;have hVr:=qu.below hb2;have:=hb.size;have:=hb2.size;refine ax fun _ KT=>ao fun KU=>ai rfl<|ai rfl<|ah (cG bK (by omega) rfl) rfl<|ah (cg rfl rfl) rfl<|an KU ?_
  have hcb1:=Pw (eD ps) ps.length ((cz (ps.map (·.1))).take k) (fun a _=>S3 ps a);have hcb2:=S3 (ps.take n) ((cz (ps.map (·.1))).getD k []);have hcb3:((cz (ps.map (·.1))).take k).length * ps.length≤4096 * 4096:=Nat.mul_le_mul (by rw [List.length_take];omega) (by omega);have hcb:(((cz (ps.map (·.1))).take k).flatMap (eD ps)++eD (ps.take n) ((cz (ps.map (·.1))).getD k [])).length≤16781312+4096:=by rw [List.length_append];rw [List.length_take] at hcb2;omega
  refine aH rfl (fun u0=>?_) (fun u0=>?_)
  ·
   have Xw:=u0;simp only [DZ] at u0;have hnl2:n<ps.length:=by have:=u0;omega
   obtain ⟨p_,v_,hpe,hve,hcell⟩:=hNr.one (i:=n) (by omega);obtain rfl:=i6 (by omega) hve;obtain ⟨lC,M4,hpe2,hve2,hcell2⟩:=hOr.one (i:=k) hkl;obtain rfl:=i6 hkl hve2;obtain ⟨p3_,hpe3,hcell3⟩:=rr bW.cells (by decide) Ug hVr (i:=n) (by omega) dh;subst hpe hpe2 hpe3;refine aU<|aw KT<|ax fun _ PO=>br<|ax fun _ aaY=>ju (by kernel_rfl) (by kernel_rfl)<|aC (bl rfl) rfl<|aC (bl rfl) rfl<|aC (cx bK eo rfl rfl (by omega) (by omega)) rfl<|cr (fun wq hq=>aI bQ rfl (by have hR:=hR.below hq;have hLr:=hLr.below hq;have hNr:=hNr.below hq;have hVr:=hVr.below hq;have hOr:=Rd.below hOr hq;have hOQ:=cR hOQ hq;exact ip hq (gH hcell))) rfl<|aC (bl rfl) rfl<|aC (bl rfl) rfl<|aC (cx bK eo rfl rfl (by omega) (by omega)) rfl<|cr (fun wq hq=>aI bQ rfl (by have hR:=hR.below hq;have hLr:=hLr.below hq;have hNr:=hNr.below hq;have hVr:=hVr.below hq;have hOr:=Rd.below hOr hq;have hOQ:=cR hOQ hq;exact ip hq (gH hcell2))) rfl<|aC (fu rfl rfl) rfl<|dZ fun ajc C3=>?_
   have:=C3.size;have hb:=az hb C3;have hR:=bh.below hb;have hb2:=az hb2 C3;have hLr:=q9.below hb2;have hNr:=ra.below hb2;have hVr:=qu.below hb2;have hOr:=Rd.below hOr C3;have hOQ:=cR hOQ C3;refine aw aaY<|aH rfl (fun u2=>?_) (fun u2=>?_)
   ·
    have Xy:=u2;simp only [DZ] at u2;have heq:(ps.map (·.1)).getD n []=(cz (ps.map (·.1))).getD k []:=u2;have hnm:=RI hnl2;have hpn:ps.getD n cA=((cz (ps.map (·.1))).getD k [],(ps.map (·.2)).getD n dh):=Prod.ext (by rw [←hnm.1];exact heq) hnm.2.symm;refine gG (n:=13) (fun w'=>Below w4.heap.size w4 w'∧Rd w' 1 (some lC) (cz (ps.map (·.1))).length (strs (cz (ps.map (·.1))))) #[ac,ac,ac,ac,ac,ac,ac,ac,ac,ac,ac,ac,ac] (by kernel_rfl) rfl (by kernel_rfl)<|gF ?_
    rintro ajd C4;have:=C4.size;have hb:=az hb C4;have hR:=bh.below hb;have hb2:=az hb2 C4;have hLr:=q9.below hb2;have hNr:=ra.below hb2;have hVr:=qu.below hb2;have hOr:=Rd.below hOr C4;have hOQ:=cR hOQ C4;refine aT (i:=0) #[ab,ac,ac,ac,ac,ac,ac,ac,ac,ac,ac,ac,ac] rfl (by kernel_rfl) aO rfl (fun wq hq=>a8 (bl rfl)) ⟨hb2,hOr⟩<|aT (i:=1) #[ab,ab,ac,ac,ac,ac,ac,ac,ac,ac,ac,ac,ac] rfl (by kernel_rfl) aO rfl (fun wq hq=>a8 (bl rfl)) ⟨hb2,hOr⟩<|aT (i:=2) #[ab,ab,ab,ac,ac,ac,ac,ac,ac,ac,ac,ac,ac] rfl (by kernel_rfl) aO rfl (fun wq hq=>a8 (bl rfl)) ⟨hb2,hOr⟩<|aT (i:=3) #[ab,ab,ab,ab,ac,ac,ac,ac,ac,ac,ac,ac,ac] rfl (by kernel_rfl) aO rfl (fun wq hq=>a8 (cx bK eo rfl rfl (by omega) (by omega))) ⟨hb2,hOr⟩<|aT (i:=4) #[ab,ab,ab,ab,ab,ac,ac,ac,ac,ac,ac,ac,ac] rfl (by kernel_rfl) aO rfl (fun wq hq=>aI bQ rfl (by obtain ⟨hq,hOr⟩:=hq;exact by obtain ⟨p4_,v4_,hpe4,hve4,hcell4⟩:=hOr.one (i:=k) hkl;cases hpe4;obtain rfl:=i6 hkl hve4;exact gH hcell4)) ⟨hb2,hOr⟩<|aT (i:=5) #[ab,ab,ab,ab,ab,ab,ac,ac,ac,ac,ac,ac,ac] rfl (by kernel_rfl) aO rfl (fun wq hq=>a8 (bl rfl)) ⟨hb2,hOr⟩<|aT (i:=6) #[ab,ab,ab,ab,ab,ab,ab,ac,ac,ac,ac,ac,ac] rfl (by kernel_rfl) aO rfl (fun wq hq=>a8 (bl rfl)) ⟨hb2,hOr⟩<|aT (i:=7) #[ab,ab,ab,ab,ab,ab,ab,ab,ac,ac,ac,ac,ac] rfl (by kernel_rfl) aO rfl (fun wq hq=>a8 (cx Tryz.underlying132 afU rfl rfl (by omega) (by omega))) ⟨hb2,hOr⟩<|aT (i:=8) #[ab,ab,ab,ab,ab,ab,ab,ab,ab,ac,ac,ac,ac] rfl (by kernel_rfl) aO rfl (fun wq hq=>dM de (by kernel_rfl) rfl (by obtain ⟨hq,hOr⟩:=hq;exact by obtain ⟨p5_,hpe5,hcell5⟩:=rr bW.cells (by decide) Ug (qu.below hq) (i:=n) (by omega) dh;cases hpe5;rw [Int.toNat_natCast];exact hcell5)) ⟨hb2,hOr⟩<|aT (i:=9) #[ab,ab,ab,ab,ab,ab,ab,ab,ab,ab,ac,ac,ac] rfl (by kernel_rfl) aO rfl (fun wq hq=>a8 (fe (z:=Ro) (pl:= [(0,1),(1,4)]) (cs:= [_,_,_,_,_]) pj (by kernel_rfl) (by kernel_rfl) rfl rfl rfl)) ⟨hb2,hOr⟩<|bM (rs:= [10]) (by kernel_rfl) rfl<|bv #[ab,ab,ab,ab,ab,ab,ab,ab,ab,ab,ab,ac,ac] rfl rfl (fun _ aa6=>?_) ?_
    ·
     refine dX (sz:=5) (vs:= [_]) ef (by kernel_rfl) rfl rfl rfl rfl rfl rfl ?_;rintro aii ai1 aiu PJ CX;have:=CX.size;have hb:=az hb CX;have hR:=bh.below hb;have hb2:=az hb2 CX;have hLr:=q9.below hb2;have hNr:=ra.below hb2;have hVr:=qu.below hb2;have hOr:=Rd.below hOr CX;have hOQ:=cR hOQ CX;have:=PJ.lt;refine ay<|bu aa6 ⟨hb2,hOr⟩<|bM (rs:= [11]) (by kernel_rfl) rfl<|bv #[ab,ab,ab,ab,ab,ab,ab,ab,ab,ab,ab,ab,ac] rfl rfl (fun _ aa7=>?_) ?_
     ·
      have hne9:vQ.ownBlock≠some lC.block:=fun h=>by have h3:=hAo lC rfl;rcases hvQ _ h with h2|h2<;>omega
      refine dK (z:=Di) (sz:=5) (bytes:=56) ef (by kernel_rfl) rfl (by decide) _ rfl hOQ rfl (PJ.rd 1 5 rfl) (aeC ((cz (ps.map (·.1))).getD k [],(ps.map (·.2)).getD n dh)) (by simp only [maxLen];omega) (by omega) (by omega) rfl ?_;rintro ahs ai2 acr Fe ab7;have:=Fe.size;have hb:=hb.grown Fe hb.size (fun k_ ba=>by have:=(bz hOQ k_ ba).1;omega);have hR:=bh.below hb;have hb2:=hb2.grown Fe hb2.size (fun k_ ba=>by have:=(bz hOQ k_ ba).1;omega);have hLr:=q9.below hb2;have hNr:=ra.below hb2;have hVr:=qu.below hb2;have hOr:=Rd.grown hOr Fe (by first|assumption|(simp [Value.ownBlock];omega));have hOQ:=acr;refine ay<|bu aa7 ⟨hb2,hOr⟩ ?_
      obtain ⟨v3,hv3e⟩:∃v3,v3=ahs:=⟨_,rfl⟩;have hv3:∀b,v3.ownBlock=some b→b=ll∨w6.heap.size≤b:=fun b h=>by rw [hv3e] at h;rcases ab7 with h2|h2;(· exact hvQ b (h2 ▸ h));(· rw [h2] at h;cases h;right;omega)
      have hO3:=ot (xs':=c8 (((cz (ps.map (·.1))).take k).flatMap (eD ps)++eD (ps.take (n+1)) ((cz (ps.map (·.1))).getD k []))) (n':=(((cz (ps.map (·.1))).take k).flatMap (eD ps)++eD (ps.take (n+1)) ((cz (ps.map (·.1))).getD k [])).length) hOQ (by rw [FY hnl2,if_pos (by rw [←hnm.1];exact heq),←List.append_assoc,aeF,hpn];rfl) (by rw [FY hnl2,if_pos (by rw [←hnm.1];exact heq)];simp;omega);rw [←hv3e] at hO3;refine aT (i:=12) #[ab,ab,ab,ab,ab,ab,ab,ab,ab,ab,ab,ab,ab] rfl (by kernel_rfl) aO rfl (fun wq hq=>a8 (cX rfl)) ⟨hb2,hOr⟩<|eE (by kernel_rfl)<|bS<|aw PO<|aR<|ai rfl<|ah (bH rfl rfl (by omega) (by omega)) rfl<|am rfl<|ay<|fun a_ bn=>PR _ _ (⟨n+1,v3⟩) (by simp;omega) (by repeat first|exact aB|refine au rfl (by first|rfl|exact hv3e.symm|exact int_eq (by omega)) ?_) ?_ a_ bn
      exact ⟨by omega,hv3,by omega,hb,hb2,hOr,hO3⟩
     exact bN
    exact bN
   have Xy:=u2;simp only [DZ] at u2;have heq:¬(ps.map (·.1)).getD n []=(cz (ps.map (·.1))).getD k []:=u2;have hnm:=RI hnl2;obtain ⟨v3,hv3e⟩:∃v3,v3=vQ:=⟨_,rfl⟩;have hv3:∀b,v3.ownBlock=some b→b=ll∨w6.heap.size≤b:=by rw [hv3e];exact hvQ
   have hO3:=ot (xs':=c8 (((cz (ps.map (·.1))).take k).flatMap (eD ps)++eD (ps.take (n+1)) ((cz (ps.map (·.1))).getD k []))) (n':=(((cz (ps.map (·.1))).take k).flatMap (eD ps)++eD (ps.take (n+1)) ((cz (ps.map (·.1))).getD k [])).length) hOQ (by rw [FY hnl2,if_neg (by rw [←hnm.1];exact heq)]) (by rw [FY hnl2,if_neg (by rw [←hnm.1];exact heq)]);rw [←hv3e] at hO3;refine aU<|bS<|aw PO<|aR<|ai rfl<|ah (bH rfl rfl (by omega) (by omega)) rfl<|am rfl<|ay<|fun a_ bn=>PR _ _ (⟨n+1,v3⟩) (by simp;omega) (by repeat first|exact aB|refine au rfl (by first|rfl|exact hv3e.symm|exact int_eq (by omega)) ?_) ?_ a_ bn
   exact ⟨by omega,hv3,by omega,hb,hb2,hOr,hO3⟩
  have Xw:=u0;simp only [DZ] at u0;have hne:ps.take n=ps:=List.take_of_length_le (by have:=u0;omega);rw [hne] at hOQ;have htk:((cz (ps.map (·.1))).take (k+1)).flatMap (eD ps)=((cz (ps.map (·.1))).take k).flatMap (eD ps)++eD ps ((cz (ps.map (·.1))).getD k []):=by rw [List.take_succ_eq_append_getElem hkl,List.flatMap_append,getD_at [] hkl];simp
  refine cN<|bD<|bD<|cO<|bS<|aw KS<|aR<|ai rfl<|ah (bH rfl rfl (by omega) (by omega)) rfl<|am rfl<|ay<|fun a_ bn=>abR _ _ (⟨k+1,vQ⟩) (by simp;omega) (by repeat first|exact aB|refine au rfl (by first|rfl|exact int_eq (by omega)) ?_) ?_ a_ bn
  exact ⟨by omega,hvQ,hw69,hb,hb2,hOr,ot hOQ (by rw [htk]) (by rw [htk])⟩
 have Y0:=we
 simp only [DZ] at we
 have hke3:((cz (ps.map (·.1))).take k).flatMap (eD ps)=uB ps:=by rw [List.take_of_length_le (by have:=we;omega)];rfl
 rw [hke3] at hOP
 obtain ⟨Ap,cp,hve,hcp,_⟩:=eT hOP
 subst hve
 have hRp:=fC hOP
 have hLS:∀q,Al=some q→w.heap.size≤q.block∧q.block<w8.heap.size:=fun q e=>⟨hAlb q e,by have h1:=hRS.mL q e;have h2:=hb2.size;omega⟩
 have acM:∀p∈uB ps,p.2.Ok:=fun p hp=>by
  obtain ⟨x,_,hx⟩:=List.mem_flatMap.1 hp;exact hok p (List.mem_filter.1 hx).1
 refine cN<|bD<|bD<|cO<|aw KO<|ao fun aba=>ai rfl<|ai rfl<|ai rfl<|am rfl<|am rfl<|am rfl<|an aba<|aK<|qG rfl rfl rfl rfl ?_
 exact ⟨_,rfl,⟨(b7 ls).1,uB ps,Al,cl,Ap,cp,_,rfl,.inr ⟨ls,ps,hfin,rfl,rfl,rfl⟩,acM,fun nm=>⟨hcl,hcp,hLr,hRp,hLS,fun q e=>⟨Nat.le_trans hw4w (bz hOP _ (by rw [e];rfl)).1,(bz hOP _ (by rw [e];rfl)).2⟩⟩⟩,hb⟩
end Go.Proofs.YtjmlknjbhbfneaaGreatDoor
