import Derived.Test.YtjmlknjbhbfneaaGreatDoorZLrG
namespace Go.Proofs.YtjmlknjbhbfneaaGreatDoor
open Go.RowKit Go.Bw Go.Bw.Fl
set_option linter.unusedVariables false
set_option linter.unusedSimpArgs false
theorem IZ {s:al} {l:List (al)} (h:cJ s=some l):(bF s= []∧l= [])∨∃k l',0<k∧k≤(bF s).length∧l=(bF s).take k :: l'∧cJ ((bF s).drop k)=some l':=by
 by_cases hb:bF s= []
 · rw [oN hb] at h;exact .inl ⟨hb,(Option.some.inj h).symm⟩
 · right
   cases hk:ff (bF s) with
   |none=>rw [←mS,r8 (qQ s) hb hk] at h;cases h
   |some k=>
    obtain ⟨c,r,hc,h1,_⟩:=zy (qQ s) hb;have h0:=yN hc h1 hk;rw [←mS,nQ (qQ s) hb hk h0] at h;obtain ⟨l',h2,h3⟩:=Option.map_eq_some_iff.1 h;exact ⟨k,l',h0,Ph hk,h3.symm,h2⟩
theorem Pz:∀(n:Nat) (s:al) (l:List (al)),s.length≤n→cJ s=some l→l.length≤s.length∧∀f∈l,f≠ []∧f.length≤s.length
 |n,s,l,hn,h=>by
  have hb:=mP s
  rcases IZ h with ⟨_,rfl⟩|⟨k,l',h0,hk,rfl,h2⟩
  · exact ⟨Nat.zero_le _,fun f hf=>by cases hf⟩
  · obtain ⟨n,rfl⟩:∃m,n=m+1:=⟨n - 1,by omega⟩
    have hd:((bF s).drop k).length=(bF s).length - k:=List.length_drop;obtain ⟨h3,h4⟩:=Pz n _ l' (by omega) h2;refine ⟨by rw [List.length_cons];omega,fun f hf=>?_⟩
    rcases List.mem_cons.1 hf with rfl|hf
    · have ht:((bF s).take k).length=k:=by rw [List.length_take];omega
      exact ⟨fun e=>by rw [e] at ht;simp at ht;omega,by omega⟩
    · have:=h4 f hf;exact ⟨this.1,by omega⟩
theorem ES {s:al} (ht:bF s=s) {l:List (al)} (h:cJ s=some l):
 ((61:UInt8) ∉ wd s∧cJ (a7 s)=some (l.drop 1)∧((s= []∧l= [])∨l=wd s :: l.drop 1))∨((61:UInt8)∈wd s∧(61:UInt8)∈l.getD 0 []):=by
 by_cases hs:s= []
 · subst hs
   have e:a7 []= []:=rfl
   rw [oN rfl] at h
   cases h
   exact .inl ⟨by simp [wd],by rw [e,oN rfl];rfl,.inl ⟨rfl,rfl⟩⟩
 · obtain ⟨c,r,hc,hc1,_⟩:=zy ht hs
   obtain ⟨b,h1,h2,h3,h4⟩:=pm s
   by_cases h61:(61:UInt8)∈wd s
   · right
     refine ⟨h61,?_⟩
     obtain ⟨x,y,hxy,hx⟩:=EH h61
     have hfx:∀c∈x,c≠32∧c≠61:=fun c hc=>⟨h2 c (by rw [hxy];exact List.mem_append_left _ hc),fun e=>hx (e ▸ hc)⟩
     have he:s=x++61 :: (y++b):=by (conv=>lhs;rw [h1,hxy]);simp
     have hff:=(congrArg ff he).trans (AZ hfx)
     cases hk:ff s with
     |none=>rw [r8 ht hs hk] at h;cases h
     |some k=>
      have h0:=yN hc hc1 hk;rw [nQ ht hs hk h0] at h;obtain ⟨l',_,rfl⟩:=Option.map_eq_some_iff.1 h
      have hkl:x.length+1≤k:=by
       rw [hk] at hff
       cases hr:bZ pf bL (y++b) with
       |none=>rw [hr] at hff;cases hff
       |some r=>
        rw [hr] at hff;dsimp only at hff
        split at hff
        · cases hff
        · cases hff;omega
      show (61:UInt8)∈s.take k;rw [he,List.take_append,List.take_of_length_le (by omega)];obtain ⟨j,hj⟩:∃j,k - x.length=j+1:=⟨k - x.length - 1,by omega⟩;rw [hj];simp
   · left
     have hf:∀c∈wd s,c≠32∧c≠61:=fun c hc=>⟨h2 c hc,fun e=>h61 (e ▸ hc)⟩
     have hff:ff s=some (wd s).length:=(congrArg ff h1).trans (r7 hf h3)
     have h0:0<(wd s).length:=yN hc hc1 hff
     have hdr:s.drop (wd s).length=b:=by have h5:=List.drop_left (l₁:=wd s) (l₂:=b);rw [←h1] at h5;exact h5
     rw [nQ ht hs hff h0,F7,hdr,←mS b,←h4] at h
     obtain ⟨l',h5,rfl⟩:=Option.map_eq_some_iff.1 h
     exact ⟨h61,h5,.inr rfl⟩
theorem Nf {w:al} (h:bO w=true):(61:UInt8) ∉ w:=fun hm=>((DY h).2.2 61 hm).2.1 rfl
theorem oI {w:al} (h:(61:UInt8)∈w):bO w=false:=GC h (.inr rfl)
theorem Pt {x:al}:∀{l:List (al)} {i:Nat} (n:Nat),i<l.length→l.getD i []=x→(∀j,j<i→l.getD j []≠x)→o6 x n l=some (n+i)
 | [],i,_,hi,_,_=>by simp at hi
 |y :: r,0,n,_,h,_=>by
  have h:y=x:=h;unfold o6;rw [if_pos h];rfl
 |y :: r,i+1,n,hi,h,hj=>by
  have h0:y≠x:=hj 0 (by omega);unfold o6;rw [if_neg h0,Pt (l:=r) (i:=i) (n+1) (by simpa using hi) h (fun j hj'=>hj (j+1) (by omega))]
  congr 1;omega
theorem EO {l:List (al)} {x:al} {k:Int} (h:yk l x k):(0≤k∧idx x l=some k.toNat)∨(k<0∧idx x l=none):=by
 rcases h with ⟨i,rfl,h1,h2,h3⟩|⟨rfl,h1⟩
 · left;refine ⟨by omega,?_⟩
   unfold idx;rw [Pt 0 h1 h2 h3];simp
 · right;refine ⟨by omega,QY.2 fun h=>?_⟩
   obtain ⟨j,hj,he⟩:=List.getElem_of_mem h;exact h1 j hj (by rw [getD_at [] hj];exact he)
theorem FX {b:Prop} {k:Int} (hk:2≤k):dl b 2 k=2:=by
 unfold dl;split
 · unfold mE;rw [if_neg];rintro (h|h)<;>omega
 · rfl
theorem FW {b:Prop} {e k:Int} (h:dl b e k=0):e=0:=by
 unfold dl at h;split at h
 · exact (LX h).1
 · exact h
theorem afB {a b:Prop} (h:a↔b) (e k:Int):dl a e k=dl b e k:=by rw [propext h]
theorem RF (l:List (al)) (x:al) (e:Int):jF (f7 l) x 1000 e=dl (1000≤l.length) (dl (x∈l) e 3) 6:=by
 have hm:(fa (f7 l) x).isSome=true↔x∈l:=by
  rw [Rz,Option.isSome_map]
  cases hi:idx x l with
  |none=>have:=QY.1 hi;simp [this]
  |some k=>exact ⟨fun _=>List.mem_of_getElem? (QZ hi),fun _=>rfl⟩
 have h1:(if (fa (f7 l) x).isSome=true then cP e 3 else e)=dl (x∈l) e 3:=by
  by_cases h:x∈l
  · rw [if_pos (hm.2 h),tb h,tC (by decide)]
  · rw [if_neg (fun h2=>h (hm.1 h2)),x3 h]
 unfold jF;rw [h1,zh];by_cases h:1000≤l.length
 · rw [if_pos (by omega),tb h,tC (by decide)]
 · rw [if_neg (by omega),x3 h]
theorem FT {s:al} {l:List (al)} (h:cJ s=some l):eU s=fp l:=by unfold eU;rw [h];rfl
theorem adZ {s:al} {g h:GV} {l:List (al)} {e:Int} (hf:cJ s=some (l.drop 1)) (ht:bF s=s) (hl:1<l.length) (hL:NE g l h e):(mC s 0 g).2=e∧(e=0→(mC s 0 g).1=h):=by
 obtain ⟨Lb,Pb,er,hR,hc⟩:=hL;have bad:e=2→(mC s 0 g).2=2→(mC s 0 g).2=e∧(e=0→(mC s 0 g).1=h):=fun h1 h2=>⟨by rw [h2,h1],fun h3=>by rw [h1] at h3;cases h3⟩;have hg:(l.drop 1).getD 0 []=l.getD 1 []:=by simp [List.getD]
 rcases ES ht hf with ⟨h61,h1,h2⟩|⟨h61,h1⟩
 · have hw:l.getD 1 []=wd s:=by
    rcases h2 with ⟨_,h2⟩|h2
    · have:=congrArg List.length h2;simp at this;omega
    · rw [←hg,h2];rfl
   rw [List.drop_drop] at h1;rw [hw] at hc
   rcases hc with ⟨h3,h4⟩|⟨h3,h4,h5⟩
   · exact bad h4 (uw g (.inl h3))
   · rcases hR with ⟨hr,h6,_,_⟩|⟨ls,ps,hr,hLb,hPb,h6⟩
     · exact bad (by rw [h5,h6,FX (by decide),FX (by decide)]) (uw g (.inr (by rw [FT h1];exact hr)))
     · have hn:=RP g h3 ((FT h1).trans hr)
       have he:jF (f7 (cK g)) (wd s) 1000 (eP [] ps (eL [] ls 0))=e:=by
        rw [h5,h6,Mv,RF];have:(cK g).length=g.ns.length:=by simp [cK]
        rw [this]
       rw [hn];refine ⟨he,fun h0=>?_⟩;have hr0:=SL (ls:=ls) (ps:=ps) (by rw [←h6];exact FW (FW (by rw [←h5];exact h0)));rw [h4,hLb,hPb,hr0.1,hr0.2]
 · rw [hg] at h1
   rcases hc with ⟨_,h4⟩|⟨h3,_⟩
   · exact bad h4 (uw g (.inl (oI h61)))
   · rw [oI h1] at h3;cases h3
theorem Zw {s:al} {g h:GV} {l:List (al)} {e:Int} (hf:cJ s=some (l.drop 1)) (ht:bF s=s) (hl:5≤l.length) (hL:Nr g l h e):(jO s 0 g).2=e∧(e=0→(jO s 0 g).1=h):=by
 obtain ⟨Lb,Pb,er,hR,hc⟩:=hL
 have bad:¬tu l→(jO s 0 g).2=2→(jO s 0 g).2=e∧(e=0→(jO s 0 g).1=h):=fun h1 h2=>by
  rcases hc with ⟨_,h3⟩|⟨h3,_⟩
  · exact ⟨by rw [h2,h3],fun h4=>by rw [h3] at h4;cases h4⟩
  · exact absurd h3 h1
 have hg:∀k,(l.drop (k+1)).getD 0 []=l.getD (k+1) []:=fun k=>by simp [List.getD]
 have step:∀(k:Nat) (z:al),k+1<l.length→bF z=z→cJ z=some (l.drop (k+1))→((61:UInt8)∈wd z∧(61:UInt8)∈l.getD (k+1) [])∨(l.getD (k+1) []=wd z∧cJ (a7 z)=some (l.drop (k+1+1))):=fun k z hk hz hzf=>by
  rcases ES hz hzf with ⟨h61,h1,h2⟩|⟨h61,h1⟩
  · right
    refine ⟨?_,by rw [h1,List.drop_drop]⟩
    rcases h2 with ⟨_,h2⟩|h2
    · have:=congrArg List.length h2;simp at this;omega
    · rw [←hg,h2];rfl
  · exact .inl ⟨h61,by rw [←hg];exact h1⟩
 rcases step 0 s (by omega) ht hf with ⟨a1,a2⟩|⟨w1,f1⟩
 · exact bad (fun h=>absurd (h.1.symm.trans (oI a2)) (by decide)) (nO g (.inl (oI a1)))
 rcases step 1 _ (by omega) (ic s) f1 with ⟨a1,a2⟩|⟨w2,f2⟩
 · exact bad (fun h=>absurd (h.2.1.symm.trans (oI a2)) (by decide)) (nO g (.inr (.inl (oI a1))))
 rcases step 2 _ (by omega) (ic _) f2 with ⟨a1,a2⟩|⟨w3,f3⟩
 · exact bad (fun h=>by have a3:(61:UInt8)∈l.getD 3 []:=a2;rcases h.2.2.2 with e|e<;>(rw [e] at a3;revert a3;decide)) (nO g (.inr (.inr (.inl (fun h=>by rcases h with e|e<;>(rw [e] at a1;revert a1;decide))))))
 rcases step 3 _ (by omega) (ic _) f3 with ⟨a1,a2⟩|⟨w4,f4⟩
 · exact bad (fun h=>absurd (h.2.2.1.symm.trans (oI a2)) (by decide)) (nO g (.inr (.inr (.inr (.inl (oI a1))))))
 by_cases hG:tu l
 · have hG2:=hG
   unfold tu at hG2;rw [w1,w2,w3,w4] at hG2;obtain ⟨g1,g2,g4,g3⟩:=hG2
   rcases hc with ⟨h3,_⟩|⟨_,fr,tw,hfr,htw,h4,h5⟩
   · exact absurd hG h3
   · rcases hR with ⟨hr,h6,_,_⟩|⟨ls,ps,hr,hLb,hPb,h6⟩
     · have he:e=2:=by rw [h5,h6,FX (by decide),FX (by decide)]
       exact ⟨by rw [he];exact nO g (.inr (.inr (.inr (.inr (by rw [FT f4];exact hr))))),fun h0=>by rw [he] at h0;cases h0⟩
     · have hn:=OY g g1 g2 g3 g4 ((FT f4).trans hr)
       have hel:(dy g).length=g.es.length:=by simp [dy]
       rw [w1,w2,w4] at *;have b3:∀x:Int,mE 3 x=mE x 3:=fun x=>Dl _ _
       have he:jF (f7 (dy g)) (wd s) 1000 (eP [] ps (eL [] ls (iG (idx (wd (a7 (a7 (a7 s)))) (cK g)) (iG (idx (wd (a7 s)) (cK g)) 0))))=e:=by
        have hE:∀x,eP [] ps (eL [] ls x)=mE x er:=fun x=>by rw [h6,Mv,yK,IP,yK ps [] (eL [] ls 0),Dk]
        rw [hE,RF,hel,h5]
        congr 1
        rcases EO hfr with ⟨k1,i1⟩|⟨k1,i1⟩<;>rcases EO htw with ⟨k2,i2⟩|⟨k2,i2⟩<;>rw [i1,i2]
        · have:iG (some tw.toNat) (iG (some fr.toNat) 0)=0:=rfl
          rw [this,xQ];exact afB ⟨fun h=> .inr (.inr h),fun h=>by rcases h with h|h|h;(· omega);(· omega);(· exact h)⟩ _ _
        all_goals
         have e3:∀a b:Option Nat,(a=none∨b=none)→iG b (iG a 0)=3:=fun a b h=>by
          cases a<;>cases b<;>first|rfl|(rcases h with h|h<;>cases h)
         rw [e3 _ _ (by first|exact .inl rfl|exact .inr rfl),tb (show fr<0∨tw<0∨wd s∈dy g by omega)];by_cases hm:wd s∈dy g
         · rw [tb hm,b3,Dk];rfl
         · rw [x3 hm,b3]
       rw [hn];refine ⟨he,fun h0=>?_⟩;rw [h5] at h0;have hs:=FW h0;have hr0:=SL (ls:=ls) (ps:=ps) (by rw [←h6];exact FW hs)
       have hno:¬(fr<0∨tw<0∨wd s∈dy g):=fun hp=>by
        rw [tb hp] at hs;have:=(LX hs).2;cases this
       rcases EO hfr with ⟨k1,i1⟩|⟨k1,i1⟩
       · rcases EO htw with ⟨k2,i2⟩|⟨k2,i2⟩
         · rw [h4,hLb,hPb,hr0.1,hr0.2,i1,i2,w3]
           simp only [Option.getD_some];rw [show ((fr.toNat:Nat):Int)=fr by omega,show ((tw.toNat:Nat):Int)=tw by omega]
         · exact absurd (.inr (.inl k2)) hno
       · exact absurd (.inl k1) hno
 · refine bad hG (nO g ?_)
   unfold tu at hG;rw [w1,w2,w3,w4] at hG
   cases h1:bO (wd s) with
   |false=>exact .inl rfl
   |true=>
    cases h2:bO (wd (a7 s)) with
    |false=>exact .inr (.inl rfl)
    |true=>
     cases h4:bO (wd (a7 (a7 (a7 s)))) with
     |false=>exact .inr (.inr (.inr (.inl rfl)))
     |true=>exact .inr (.inr (.inl (fun h3=>hG ⟨h1,h2,h4,h3⟩)))
theorem adA {s:al} {g h:GV} {l:List (al)} {e:Int} (hf:cJ s=some l) (hne:l≠ []) (hL:zP g l h e):(dN s g).2=e∧(e=0→(dN s g).1=h):=by
 have hb:bF s≠ []:=fun hb=>by rw [oN hb] at hf;cases hf;exact hne rfl
 rw [←mS] at hf;have two:∀{x:GV×Int},x.2=2→e=2→x.2=e∧(e=0→x.1=h):=fun h1 h2=>⟨by rw [h1,h2],fun h0=>by rw [h2] at h0;cases h0⟩;have hl0:∀{x:al},l.getD 0 []=x→(61:UInt8) ∉ x→(61:UInt8) ∉ l.getD 0 []:=fun h1 h2=>by rw [h1];exact h2
 unfold dN;rw [if_neg hb]
 rcases ES (qQ s) hf with ⟨h61,h1,h2⟩|⟨h61,h1⟩
 · have hw:l.getD 0 []=wd (bF s):=by
    rcases h2 with ⟨h2,_⟩|h2
    · exact absurd h2 hb
    · rw [h2];rfl
   by_cases hN:wd (bF s)=i8
   · rw [if_pos hN]
     rcases hL with ⟨hNL,hI⟩|⟨hNL,hEL,_⟩|⟨hNL,hEL,he⟩
     · exact adZ h1 (ic _) hNL.2 hI
     · exact absurd (hEL.1.symm.trans (hw.trans hN)) (by decide)
     · have hlen:¬1<l.length:=fun h=>hNL ⟨hw.trans hN,h⟩
       refine two (uw g (.inl ?_)) he
       rcases IZ h1 with ⟨h3,_⟩|⟨k,l',_,_,h3,_⟩
       · rw [ic] at h3;rw [h3];rfl
       · have:=congrArg List.length h3;simp at this;omega
   · rw [if_neg hN]
     by_cases hE:wd (bF s)=jH
     · rw [if_pos hE]
       rcases hL with ⟨hNL,hI⟩|⟨hNL,hEL,hI⟩|⟨hNL,hEL,he⟩
       · exact absurd (hw.symm.trans hNL.1) hN
       · exact Zw h1 (ic _) hEL.2 hI
       · have hlen:¬5≤l.length:=fun h=>hEL ⟨hw.trans hE,h⟩
         refine two (nO g ?_) he
         have nx:∀{z:al} {m:List (al)},bF z=z→cJ z=some m→wd z≠ []→(61:UInt8) ∉ wd z→0<m.length∧cJ (a7 z)=some (m.drop 1):=fun hz hm hzn hz61=>by
          rcases ES hz hm with ⟨_,h5,h6⟩|⟨h5,_⟩
          · refine ⟨?_,h5⟩
            rcases h6 with ⟨h6,_⟩|h6
            · rw [h6] at hzn;exact absurd rfl hzn
            · rw [h6];simp
          · exact absurd h5 hz61
         cases g1:bO (wd (a7 (bF s))) with
         |false=>exact .inl rfl
         |true=>
          cases g2:bO (wd (a7 (a7 (bF s)))) with
          |false=>exact .inr (.inl rfl)
          |true=>
           cases g4:bO (wd (a7 (a7 (a7 (a7 (bF s)))))) with
           |false=>exact .inr (.inr (.inr (.inl rfl)))
           |true=>
            refine .inr (.inr (.inl fun g3=>hlen ?_));have n1:=nx (ic _) h1 (DY g1).1 (Nf g1);have n2:=nx (ic _) n1.2 (DY g2).1 (Nf g2);have n3:=nx (ic _) n2.2 (by rcases g3 with e|e<;>rw [e]<;>decide) (by rcases g3 with e|e<;>rw [e]<;>decide);have n4:=nx (ic _) n3.2 (DY g4).1 (Nf g4);have:=n4.1;simp at this;omega
     · rw [if_neg hE]
       rcases hL with ⟨hNL,_⟩|⟨_,hEL,_⟩|⟨_,_,he⟩
       · exact absurd (hw.symm.trans hNL.1) hN
       · exact absurd (hw.symm.trans hEL.1) hE
       · exact two (x:=(g,2)) rfl he
 · have hN:wd (bF s)≠i8:=fun e=>by rw [e] at h61;revert h61;decide
   have hE:wd (bF s)≠jH:=fun e=>by rw [e] at h61;revert h61;decide
   rw [if_neg hN,if_neg hE]
   rcases hL with ⟨hNL,_⟩|⟨_,hEL,_⟩|⟨_,_,he⟩
   · exact absurd h1 (by rw [hNL.1];decide)
   · exact absurd h1 (by rw [hEL.1];decide)
   · exact two (x:=(g,2)) rfl he
end Go.Proofs.YtjmlknjbhbfneaaGreatDoor
