import Derived.Test.YtjmlknjbhbfneaaGreatDoorZLrF
import Derived.Test.YtjmlknjbhbfneaaGreatDoorZLrH
namespace Go.Proofs.YtjmlknjbhbfneaaGreatDoor
open Go.RowKit Go.Bw Go.Bw.Fl
set_option linter.unusedVariables false
set_option linter.unusedSimpArgs false
theorem agM:bC Tryz.prog 20:=⟨_,Tryz.func20,by kernel_rfl,rfl⟩
theorem agO:bC Tryz.prog 21:=⟨_,Tryz.func21,by kernel_rfl,rfl⟩
theorem Te {s:al} {e:Nat} (he:e≤s.length) (h:∀j,j<e→s.getD j 0≠10):(10:UInt8) ∉ s.take e:=fun hm=>by
 obtain ⟨j,hj,hx⟩:=List.getElem_of_mem hm;rw [List.length_take] at hj;rw [List.getElem_take] at hx;exact h j (by omega) (by rw [getD_at 0 (by omega),hx])
theorem afN {s:al} {e:Nat} (he:e<s.length) (h:∀j,j<e→s.getD j 0≠10) (h10:s.getD e 0=10):dS s=s.take e :: dS (s.drop (e+1)):=by
 have h1:=drop_at he;rw [h10] at h1
 conv=>lhs;rw [←List.take_append_drop e s,h1]
 exact Tc _ (Te (by omega) h)
theorem Je {B L:Nat} {w:World} (hL:L≤w.heap.size):cB B L w none 0 none 0 ⟨[],[]⟩:=
 ⟨⟨Nat.le_refl _,Nat.le_refl _,(fun i hi=>absurd hi (by simp)),(fun i hi=>absurd hi (by simp)),(fun d hd=>by cases hd),(fun d hd=>by cases hd)⟩,(fun q h=>by cases h),(fun q h=>by cases h),hL⟩
theorem cB.down {B B' L:Nat} {w:World} {A A':Option Addr} {c c':Nat} {g:GV} (h:cB B L w A c A' c' g) (hB:B'≤B):cB B' w.heap.size w A c A' c' g:=cB.of ((jJ.of h).keep (fun _ _=>rfl) (fun k hk=>⟨Nat.le_trans hB hk.1,Nat.lt_of_lt_of_le hk.2 h.sz⟩)) (Nat.le_refl _)
theorem xS {z:al} (hz:bF z=z) (h:cJ z=none):(61:UInt8)∈wd z∨cJ (a7 z)=none:=by
 by_cases h61:(61:UInt8)∈wd z
 · exact .inl h61
 · right
   by_cases hs:z= []
   · subst hs;rw [oN rfl] at h;cases h
   · obtain ⟨c,r,hc,hc1,_⟩:=zy hz hs
     obtain ⟨b,h1,h2,h3,h4⟩:=pm z;have hf:∀c∈wd z,c≠32∧c≠61:=fun c hc=>⟨h2 c hc,fun e=>h61 (e ▸ hc)⟩;have hff:ff z=some (wd z).length:=(congrArg ff h1).trans (r7 hf h3);have hdr:z.drop (wd z).length=b:=by have h5:=List.drop_left (l₁:=wd z) (l₂:=b);rw [←h1] at h5;exact h5
     rw [nQ hz hs hff (yN hc hc1 hff),hdr,←mS b,←h4] at h;exact Option.map_eq_none_iff.1 h
theorem adz {s:al} (g:GV) (h:cJ s=none):(dN s g).2=2:=by
 have hb:bF s≠ []:=fun hb=>by rw [oN hb] at h;cases h
 rw [←mS] at h;have rn:∀{z:al},cJ z=none→eU z=none:=fun h=>by unfold eU;rw [h];rfl
 unfold dN;rw [if_neg hb]
 split
 · rename_i hw
   rcases xS (qQ s) h with h1|h1
   · rw [hw] at h1;exact absurd h1 (by decide)
   · rcases xS (ic _) h1 with h2|h2
     · exact uw g (.inl (oI h2))
     · exact uw g (.inr (rn h2))
 · split
   · rename_i hw
     rcases xS (qQ s) h with h1|h1
     · rw [hw] at h1;exact absurd h1 (by decide)
     · rcases xS (ic _) h1 with h2|h2
       · exact nO g (.inl (oI h2))
       · rcases xS (ic _) h2 with h3|h3
         · exact nO g (.inr (.inl (oI h3)))
         · rcases xS (ic _) h3 with h4|h4
           · exact nO g (.inr (.inr (.inl (fun e=>by rcases e with e|e<;>(rw [e] at h4;exact absurd h4 (by decide))))))
           · rcases xS (ic _) h4 with h5|h5
             · exact nO g (.inr (.inr (.inr (.inl (oI h5)))))
             · exact nO g (.inr (.inr (.inr (.inr (rn h5)))))
   · rfl
theorem ady {s:al} (g:GV) (h:cJ s=some []):dN s g=(g,0):=by
 rcases IZ h with ⟨h1,_⟩|⟨k,l',_,_,h1,_⟩
 · exact afO h1 g
 · cases h1
theorem PI {s:al} {r:List (al)} {n:Nat} {g:GV} {e:Int} (h:(dN s g).2=e) (h0:e≠0):(if (dN s g).2=0 then km r (n+1) (dN s g).1 else (⟨[],[]⟩,(n:Int)+1,(dN s g).2))=(⟨[],[]⟩,(n:Int)+1,e):=by
 rw [h,if_neg h0]
theorem aae {s:al} {r:List (al)} {n:Nat} {g g2:GV} (h:dN s g=(g2,0)):(if (dN s g).2=0 then km r (n+1) (dN s g).1 else (⟨[],[]⟩,(n:Int)+1,(dN s g).2))=km r (n+1) g2:=by
 rw [h];rfl
theorem Vz (s0:al) (hs:s0.length≤3000) (w:World):be Tryz.prog 9 [str s0] w fun v w'=>(∃A c A' c',v= .tuple #[.agg #[.slice A (fA s0).1.ns.length c,.slice A' (fA s0).1.es.length c'],.int .i64 (fA s0).2.1,.int .i64 (fA s0).2.2]∧cB w.heap.size w'.heap.size w' A c A' c' (fA s0).1)∧Below w.heap.size w w':=by
 have hb:=Below.refl w.heap.size w;refine enter Tryz.func9 rfl rfl rfl<|ao fun aZ=>el (z:=s3) (by kernel_rfl) rfl ?_
 rintro aX js iB aj cF;have:=cF.size;have hb:=az hb cF;have:=aj.lt;refine am rfl<|am rfl<|an aZ<|ao fun cT=>ah (fe (z:=Dh) (pl:= [(0,1),(1,1)]) (cs:= [_,_]) eJ (by kernel_rfl) (by kernel_rfl) rfl rfl rfl) rfl<|el (z:=s3) (by kernel_rfl) rfl ?_
 rintro gX ahJ acj fF un;have:=un.size;have hb:=az hb un;have aj:=aq.below aj un;have:=fF.lt;refine cH (by kernel_rfl) rfl rfl fF rfl rfl ?_;rintro d3 fF bI;have:=bI.size;have hb:=bY hb bI hb.size (by omega);have aj:=aj.over bI (by omega);refine an cT<|ao fun gp=>am rfl<|an gp<|br<|cU (X:=Nat×al×GV×Option Addr×Nat×Option Addr×Nat) (fun (n,s,g,A,c,A',c')=> [(0,str s),(2,.pointer (some ⟨aX,0,none⟩)),(5,.pointer (some ⟨gX,0,none⟩)),(6,.int .i64 ((n:Int)+1))]) (fun (n,s,g,A,c,A',c') w1=>n+s.length≤s0.length∧dO g+s.length≤s0.length∧fA s0=km (dS s) n g∧d3.heap.size≤w1.heap.size∧Below w.heap.size w w1∧aq w1 aX 27 [.slice none 0 0,.slice none 0 0]∧aq w1 gX 27 [.slice A g.ns.length c,.slice A' g.es.length c']∧cB d3.heap.size w1.heap.size w1 A c A' c' g) (fun (n,s,g,A,c,A',c')=>s.length) (⟨0,s0,⟨[],[]⟩,none,0,none,0⟩) ?_ ?_ ?_
 · exact by repeat first|exact aB|refine au rfl (by first|rfl|exact int_eq (by omega)) ?_
 · exact ⟨by omega,by simp [dO],rfl,Nat.le_refl _,hb,aj,fF,Je (Nat.le_refl _)⟩
 rintro ⟨n,s,g,A,c,A',c'⟩ w1 qd _ Cz;replace qd:n+s.length≤s0.length∧dO g+s.length≤s0.length∧fA s0=km (dS s) n g∧d3.heap.size≤w1.heap.size∧Below w.heap.size w w1∧aq w1 aX 27 [.slice none 0 0,.slice none 0 0]∧aq w1 gX 27 [.slice A g.ns.length c,.slice A' g.es.length c']∧cB d3.heap.size w1.heap.size w1 A c A' c' g:=qd;obtain ⟨hn,hsz,hgo,hw01,hb,aj,fF,hG⟩:=qd;show Wc _ _ _ _ _ [(0,str s),(2,.pointer (some ⟨aX,0,none⟩)),(5,.pointer (some ⟨gX,0,none⟩)),(6,.int .i64 ((n:Int)+1))] _;have:=hb.size;have:=aj.lt;have:=fF.lt;refine ax fun _ eO=>br<|ao fun eQ=>am rfl<|an eQ<|ax fun _ fj=>br<|cU (X:=Nat) (fun e=> [(0,str s),(2,.pointer (some ⟨aX,0,none⟩)),(5,.pointer (some ⟨gX,0,none⟩)),(6,.int .i64 ((n:Int)+1)),(7,.int .i64 (e:Int))]) (fun e w2=>e≤s.length∧(∀j,j<e→s.getD j 0≠10)∧w1.heap.size≤w2.heap.size∧Below w.heap.size w w2∧aq w2 aX 27 [.slice none 0 0,.slice none 0 0]∧aq w2 gX 27 [.slice A g.ns.length c,.slice A' g.es.length c']∧cB d3.heap.size w1.heap.size w2 A c A' c' g) (fun e=>s.length - e) (0) ?_ ?_ ?_
 · exact by repeat first|exact aB|refine au rfl (by first|rfl|exact int_eq (by omega)) ?_
 · exact ⟨by omega,fun j h=>by omega,Nat.le_refl _,hb,aj,fF,hG⟩
 rintro e w2 mb _ CA;replace mb:e≤s.length∧(∀j,j<e→s.getD j 0≠10)∧w1.heap.size≤w2.heap.size∧Below w.heap.size w w2∧aq w2 aX 27 [.slice none 0 0,.slice none 0 0]∧aq w2 gX 27 [.slice A g.ns.length c,.slice A' g.es.length c']∧cB d3.heap.size w1.heap.size w2 A c A' c' g:=mb;obtain ⟨hel,hall,hw12,hb,aj,fF,hG⟩:=mb;show Wc _ _ _ _ _ [(0,str s),(2,.pointer (some ⟨aX,0,none⟩)),(5,.pointer (some ⟨gX,0,none⟩)),(6,.int .i64 ((n:Int)+1)),(7,.int .i64 (e:Int))] _;have:=hb.size;have:=aj.lt;have:=fF.lt;obtain ⟨ce,hce⟩:∃ce,ce=(s.getD e 0).toNat:=⟨_,rfl⟩;refine ax fun _ dL=>ax fun _ gJ=>b9 (X:=Bool) (fun q=> [(0,str s),(2,.pointer (some ⟨aX,0,none⟩)),(5,.pointer (some ⟨gX,0,none⟩)),(6,.int .i64 ((n:Int)+1)),(7,.int .i64 (e:Int)),(24,.bool q)]) (fun q w3=>q=decide (e<s.length∧ce≠10)∧w1.heap.size≤w3.heap.size∧Below w.heap.size w w3∧aq w3 aX 27 [.slice none 0 0,.slice none 0 0]∧aq w3 gX 27 [.slice A g.ns.length c,.slice A' g.es.length c']∧cB d3.heap.size w1.heap.size w3 A c A' c' g) (fun _ ub=>?_) ?_
 ·
  refine aR<|ai rfl<|ai rfl<|ah (dF bq (by omega) rfl) rfl<|ah (cg rfl rfl) rfl<|ai rfl<|cw rfl rfl rfl (fun Bv=>?_) (fun Bv=>?_)
  ·
   have st:=Bv;simp only [DZ] at Bv;refine ai rfl<|aE rfl rfl st<|ai rfl<|aE rfl rfl st<|ah (bt (eK bq rfl rfl (by omega) (by omega)) (int_eq (show _=(ce:Int) by rw [hce,Int.toNat_natCast]))) rfl<|aE rfl rfl st<|ah (ig rfl rfl) rfl<|ah (bi rfl st rfl) rfl<|ay<|aY ub (decide (e<s.length∧ce≠10)) (by repeat first|exact aB|refine au rfl (by first|rfl|exact aP (by rw [Bool.eq_iff_iff];simp<;>omega)) ?_) ?_
   exact ⟨rfl,hw12,hb,aj,fF,hG⟩
  have st:=Bv;simp only [DZ] at Bv;refine aA rfl rfl st rfl rfl<|aA rfl rfl st rfl rfl<|aA rfl rfl st rfl rfl<|ah (bg rfl st rfl) rfl<|ay<|aY ub (decide (e<s.length∧ce≠10)) (by repeat first|exact aB|refine au rfl (by first|rfl|exact aP (by rw [Bool.eq_iff_iff];simp<;>omega)) ?_) ?_
  exact ⟨rfl,hw12,hb,aj,fF,hG⟩
 rintro q w3 qf;replace qf:q=decide (e<s.length∧ce≠10)∧w1.heap.size≤w3.heap.size∧Below w.heap.size w w3∧aq w3 aX 27 [.slice none 0 0,.slice none 0 0]∧aq w3 gX 27 [.slice A g.ns.length c,.slice A' g.es.length c']∧cB d3.heap.size w1.heap.size w3 A c A' c' g:=qf;obtain ⟨hq,hw12,hb,aj,fF,hG⟩:=qf;show Wq _ _ _ _ [(0,str s),(2,.pointer (some ⟨aX,0,none⟩)),(5,.pointer (some ⟨gX,0,none⟩)),(6,.int .i64 ((n:Int)+1)),(7,.int .i64 (e:Int)),(24,.bool q)] _;have:=hb.size;have:=aj.lt;have:=fF.lt;refine aw gJ<|aH rfl (fun Hj=>?_) (fun Hj=>?_)
 ·
  have Hk:=Hj;have hq0:=of_decide_eq_true (hq.symm.trans Hk);refine aU<|aw dL<|br<|aR<|ai rfl<|ah (bH rfl rfl (by omega) (by omega)) rfl<|am rfl<|ay<|bS<|fun a_ bn=>CA _ _ (e+1) (by omega) (by repeat first|exact aB|refine au rfl (by first|rfl|exact int_eq (by omega)) ?_) ?_ a_ bn
  exact ⟨by omega,fun j hj=>by (by_cases ej:j=e);(· rw [ej];exact fun h=>hq0.2 (by rw [hce,h];rfl));(· exact hall j (by omega)),hw12,hb,aj,fF,hG⟩
 have Hk:=Hj;have hq0:=of_decide_eq_false (hq.symm.trans Hk)
 have hsp:dS s=s.take e :: (if e<s.length then dS (s.drop (e+1)) else []):=by
  by_cases he:e<s.length
  · rw [if_pos he];exact afN he hall (UInt8.toNat_inj.1 (by rw [←hce];show ce=10;omega))
  · have ht:s.take e=s:=List.take_of_length_le (by omega)
    rw [if_neg he,ht];exact Td (by have:=Te hel hall;rw [ht] at this;exact this)
 have hle:(s.take e).length=e:=by rw [List.length_take];omega
 rw [hsp,Rr] at hgo;refine cN<|bD<|bD<|cO<|aw fj<|ao fun ji=>ai rfl<|ai rfl<|ah (bt (rz bq rfl rfl (by omega) (by omega)) (dw (show _=s.take e by rw [Int.toNat_natCast]))) rfl ?_
 have hcq:=Vw (s.take e) (by omega) w3;refine aS agM rfl rfl (hcq) rfl ?_;rintro _ cq ⟨⟨Af,cf,l,ok,rfl,hfl,hlc,hll,hRf⟩,bm⟩;have:=bm.size;have hb:=az hb bm;have aj:=aq.below aj bm;have fF:=aq.below fF bm;have hG:=cB.below hG bm;refine ai rfl<|ah (bP rfl rfl) rfl<|ah (bP rfl rfl) rfl<|am rfl<|am rfl<|an ji<|ax fun _ gd=>ao fun iX=>ai rfl<|ah (fI rfl) rfl<|an iX<|aH rfl (fun Aq=>?_) (fun Aq=>?_)
 ·
  have HL:=Aq;simp only [DZ] at Aq;have hok:ok=false:=by simpa using HL
  rw [hok,if_neg (by simp)] at hfl;have hld:fA s0=(⟨[],[]⟩,(n:Int)+1,2):=hgo.trans (PI (adz g hfl) (by decide));refine ao fun n5=>ah (fe (z:=Dh) (pl:= [(0,1),(1,1)]) (cs:= [_,_]) eJ (by kernel_rfl) (by kernel_rfl) rfl rfl rfl) rfl<|ai rfl<|cH (by kernel_rfl) rfl rfl aj rfl rfl ?_
  rintro ky aj cd;have:=cd.size;have hb:=bY hb cd hb.size (by omega);have hG:=hG.over cd (by omega);refine am rfl<|am rfl<|an n5<|aK<|aQ (bE (aQ (aQ (bE ?_))))
  refine fc (rs:= [.cell 2 27,.tmp 3,.tmp 4]) (vs:= [_,_,_]) rfl (.cell rfl (e9 eJ (by kernel_rfl) (fun j u hu=>aj.at hu)) (.tmp rfl (.tmp rfl .nil))) ?_;exact ⟨_,rfl,⟨none,0,none,0,by rw [hld];rfl,by rw [hld];exact Je (Nat.le_refl _)⟩,hb⟩
 have HL:=Aq;simp only [DZ] at Aq;have hok:ok=true:=by simpa using HL
 rw [hok,if_pos rfl] at hfl;have hfa:=Pz _ _ _ (Nat.le_refl _) hfl;have hns:=hsz;refine aU<|aw gd<|ax fun _ ml=>ao fun qo=>ai rfl<|ah (cG bK (by omega) rfl) rfl<|ah (eW rfl rfl) rfl<|an qo<|b9 (X:=GV×Option Addr×Nat×Option Addr×Nat) (fun (g2,A2,c2,A3,c3)=> [(0,str s),(2,.pointer (some ⟨aX,0,none⟩)),(5,.pointer (some ⟨gX,0,none⟩)),(6,.int .i64 ((n:Int)+1)),(7,.int .i64 (e:Int))]) (fun (g2,A2,c2,A3,c3) w4=>dN (s.take e) g=(g2,0)∧d3.heap.size≤w4.heap.size∧Below w.heap.size w w4∧aq w4 aX 27 [.slice none 0 0,.slice none 0 0]∧aq w4 gX 27 [.slice A2 g2.ns.length c2,.slice A3 g2.es.length c3]∧cB d3.heap.size w4.heap.size w4 A2 c2 A3 c3 g2) (fun _ Qp=>?_) ?_
 ·
  refine aH rfl (fun vr=>?_) (fun vr=>?_)
  ·
   have X2:=vr;simp only [DZ] at vr;have hlne:l≠ []:=fun h=>by have:=vr;rw [h] at this;simp at this
   have hG1:=cB.up hG;refine ao fun kW=>aW (dM eJ (by kernel_rfl) rfl (by exact fun j u hu=>fF.at hu)) rfl<|ai rfl ?_
   have hcq:=Vy d3.heap.size A c A' c' g Af cf l _ (cB.up hG) hRf hlc hlne (by omega) (fun f hf=>by have:=(hfa.2 f hf).2;omega) (fun f hf=>(hfa.2 f hf).1) (by omega) (by omega);refine aS agO rfl rfl (hcq) rfl ?_;rintro _ ft ⟨⟨A2,c2,A3,c3,h,e2,rfl,hLI,hG2⟩,bp⟩;have:=bp.size;have hb:=az hb bp;have aj:=aq.below aj bp;have fF:=aq.below fF bp;have hG:=cB.below hG bp;refine ai rfl<|ah (bP rfl rfl) rfl<|ah (bP rfl rfl) rfl ?_
   have hlr:=adA hfl hlne hLI;refine el (z:=s3) (by kernel_rfl) rfl ?_;rintro aim ajr aiz E4 y8;have:=y8.size;have hb:=az hb y8;have aj:=aq.below aj y8;have fF:=aq.below fF y8;have hG:=cB.below hG y8;have hG2:=cB.below hG2 y8;have:=E4.lt;refine cH (by kernel_rfl) rfl rfl E4 rfl rfl ?_;rintro oA E4 di;have:=di.size;have hb:=bY hb di hb.size (by omega);have aj:=aj.over di (by omega);have fF:=fF.over di (by omega);have hG:=hG.over di (by omega);have hG2:=hG2.over di (by omega);refine am rfl<|an kW<|ax fun _ qq=>ao fun mp=>ai rfl<|ah (ig rfl rfl) rfl<|an mp<|aH rfl (fun vC=>?_) (fun vC=>?_)
   ·
    have Yk:=vC;simp only [DZ] at vC;have hld:fA s0=(⟨[],[]⟩,(n:Int)+1,e2):=hgo.trans (PI hlr.1 vC);refine ao fun ki=>ah (fe (z:=Dh) (pl:= [(0,1),(1,1)]) (cs:= [_,_]) eJ (by kernel_rfl) (by kernel_rfl) rfl rfl rfl) rfl<|ai rfl<|ai rfl<|cH (by kernel_rfl) rfl rfl aj rfl rfl ?_
    rintro tm aj dD;have:=dD.size;have hb:=bY hb dD hb.size (by omega);have hG:=hG.over dD (by omega);have hG2:=hG2.over dD (by omega);refine am rfl<|am rfl<|an ki<|aK<|aQ (aQ (aQ (bE (aQ (aQ (bE ?_))))))
    refine fc (rs:= [.cell 2 27,.tmp 3,.tmp 4]) (vs:= [_,_,_]) rfl (.cell rfl (e9 eJ (by kernel_rfl) (fun j u hu=>aj.at hu)) (.tmp rfl (.tmp rfl .nil))) ?_;exact ⟨_,rfl,⟨none,0,none,0,by rw [hld];rfl,by rw [hld];exact Je (Nat.le_refl _)⟩,hb⟩
   have Yk:=vC;simp only [DZ] at vC;have he0:e2=0:=vC;have hls:dN (s.take e) g=(h,0):=Prod.ext (hlr.2 he0) (hlr.1.trans he0);refine aU<|aw qq<|aR<|aW (dM eJ (by kernel_rfl) rfl (by exact fun j u hu=>E4.at hu)) rfl ?_
   refine cH (by kernel_rfl) rfl rfl fF rfl rfl ?_;rintro uK fF eH;have:=eH.size;have hb:=bY hb eH hb.size (by omega);have aj:=aj.over eH (by omega);have hG:=hG.over eH (by omega);have hG2:=hG2.over eH (by omega);refine ay<|aY Qp (⟨h,A2,c2,A3,c3⟩) (by repeat first|exact aB|refine au rfl (by first|rfl|exact int_eq (by omega)) ?_) ?_
   exact ⟨hls,by omega,hb,aj,fF,cB.up hG2⟩
  have X2:=vr;simp only [DZ] at vr;have hl0:l= []:=List.eq_nil_of_length_eq_zero (by have:=vr;omega);rw [hl0] at hfl;obtain ⟨h,A2,c2,A3,c3,e1,e2,e3,e4,e5⟩:∃(h:GV) (A2:Option Addr) (c2:Nat) (A3:Option Addr) (c3:Nat),h=g∧A2=A∧c2=c∧A3=A'∧c3=c':=⟨_,_,_,_,_,rfl,rfl,rfl,rfl,rfl⟩;have hls:dN (s.take e) g=(h,0):=by rw [e1];exact ady g hfl
  have aaj:∀{w':World},aq w' gX 27 [.slice A g.ns.length c,.slice A' g.es.length c']→aq w' gX 27 [.slice A2 h.ns.length c2,.slice A3 h.es.length c3]:=fun h=>by rw [e1,e2,e3,e4,e5];exact h
  have aak:∀{L:Nat} {w':World},cB d3.heap.size L w' A c A' c' g→cB d3.heap.size w'.heap.size w' A2 c2 A3 c3 h:=fun h=>by rw [e1,e2,e3,e4,e5];exact cB.up h
  refine aU<|aY Qp (⟨h,A2,c2,A3,c3⟩) (by repeat first|exact aB|refine au rfl (by first|rfl|exact int_eq (by omega)) ?_) ?_
  exact ⟨hls,by omega,hb,aj,aaj fF,aak hG⟩
 rintro ⟨g2,A2,c2,A3,c3⟩ w4 qi;replace qi:dN (s.take e) g=(g2,0)∧d3.heap.size≤w4.heap.size∧Below w.heap.size w w4∧aq w4 aX 27 [.slice none 0 0,.slice none 0 0]∧aq w4 gX 27 [.slice A2 g2.ns.length c2,.slice A3 g2.es.length c3]∧cB d3.heap.size w4.heap.size w4 A2 c2 A3 c3 g2:=qi;obtain ⟨hls,hwz,hb,aj,fF,hG⟩:=qi;show Wq _ _ _ _ [(0,str s),(2,.pointer (some ⟨aX,0,none⟩)),(5,.pointer (some ⟨gX,0,none⟩)),(6,.int .i64 ((n:Int)+1)),(7,.int .i64 (e:Int))] _;have:=hb.size;have:=aj.lt;have:=fF.lt;refine aw ml<|ax fun _ lv=>ao fun qr=>ai rfl<|ai rfl<|ah (dF bq (by omega) rfl) rfl<|ah (bA rfl rfl) rfl<|an qr ?_
 rw [aae hls] at hgo;have hsz2:=Tf (s:=s.take e) (g:=g) (by rw [hls]);rw [hls,hle] at hsz2;have hsz3:dO g2≤dO g+e+1:=hsz2;refine aH rfl (fun vL=>?_) (fun vL=>?_)
 ·
  have YC:=vL;simp only [DZ] at vL;have hee:¬e<s.length:=by have:=vL;omega
  rw [if_neg hee] at hgo;refine ao fun KZ=>aW (dM eJ (by kernel_rfl) rfl (by exact fun j u hu=>fF.at hu)) rfl ?_;refine cH (by kernel_rfl) rfl rfl aj rfl rfl ?_;rintro zE aj fN;have:=fN.size;have hb:=bY hb fN hb.size (by omega);have hG:=hG.over fN (by omega);refine am rfl<|am rfl<|an KZ<|aK<|aQ (bE (aQ (aQ (bE ?_))))
  refine fc (rs:= [.cell 2 27,.tmp 3,.tmp 4]) (vs:= [_,_,_]) rfl (.cell rfl (e9 eJ (by kernel_rfl) (fun j u hu=>aj.at hu)) (.tmp rfl (.tmp rfl .nil))) ?_;exact ⟨_,rfl,⟨A2,c2,A3,c3,by rw [hgo];rfl,by rw [hgo];exact cB.down hG (by omega)⟩,hb⟩
 have YC:=vL;simp only [DZ] at vL;have hee:e<s.length:=by have:=vL;omega
 rw [if_pos hee] at hgo;refine aU<|aw lv<|aR<|ai rfl<|ai rfl<|ah (bH rfl rfl (by omega) (by omega)) rfl<|ah (bt (oC bq rfl rfl (by omega) (by omega)) (dw (show _=s.drop (e+1) by rw [show ((e:Int)+1).toNat=e+1 by omega]))) rfl<|am rfl<|ay<|bS<|aw eO<|aR<|ai rfl<|ah (bH rfl rfl (by omega) (by omega)) rfl<|am rfl<|ay<|fun a_ bn=>Cz _ _ (⟨n+1,s.drop (e+1),g2,A2,c2,A3,c3⟩) (by show (s.drop (e+1)).length<s.length;rw [List.length_drop];omega) (by repeat first|exact aB|refine au rfl (by first|rfl|exact int_eq (by omega)) ?_) ?_ a_ bn
 exact ⟨by rw [List.length_drop];omega,by rw [List.length_drop];omega,hgo,by omega,hb,aj,fF,cB.up hG⟩
end Go.Proofs.YtjmlknjbhbfneaaGreatDoor
