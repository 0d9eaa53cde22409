import Derived.Test.YtjdjliiolchciaaGreatDoorZP2
namespace Go.Proofs.YtjdjliiolchciaaGreatDoor
open Go.RowKit Go.Bw Go.Bw.Fl
set_option linter.unusedVariables false
set_option linter.unusedSimpArgs false
theorem afz:bB Tryz.prog 194:=⟨_,Tryz.func194,by kernel_rfl,rfl⟩
theorem agm:bB Tryz.prog 194:=⟨_,Tryz.func194,by kernel_rfl,rfl⟩
theorem agc:bB Tryz.prog 200:=⟨_,Tryz.func200,by kernel_rfl,rfl⟩
theorem ago:bB Tryz.prog 192:=⟨_,Tryz.func192,by kernel_rfl,rfl⟩
theorem agn:bB Tryz.prog 199:=⟨_,Tryz.func199,by kernel_rfl,rfl⟩
theorem Nj:bB Tryz.prog 201:=⟨_,Tryz.func201,by kernel_rfl,rfl⟩
theorem age:bB Tryz.prog 191:=⟨_,Tryz.func191,by kernel_rfl,rfl⟩
theorem agf:bB Tryz.prog 193:=⟨_,Tryz.func193,by kernel_rfl,rfl⟩
def RC (l:List (ao)):Bool:=l.all fun s=>s.all (fun c=>decide (c.toNat<128))&&decide (s.length≤65536)
theorem RD {l:List (ao)} {s:ao} (h:RC l=true) (hs:s∈l):(∀j,j<s.length→(s.getD j 0).toNat<128)∧s.length≤65536:=by
 have h1:=List.all_eq_true.1 h s hs;simp only [Bool.and_eq_true,decide_eq_true_eq] at h1;refine ⟨fun j hj=>?_,h1.2⟩;have h2:=List.all_eq_true.1 h1.1 (s.getD j 0) (by rw [List.getD_eq_getElem?_getD,List.getElem?_eq_getElem hj];exact List.getElem_mem hj)
 simpa using h2
theorem C9 (w:World) (p:Nat) {signs:List (ao)} (h:RC signs=true):Gb w p 194 #[] #[] hZ signs:=
 ⟨agm,fun w' s x y ex ey S hk hs hS hx hy=>adk s (RD h hs).1 (RD h hs).2 x y ex ey S w' hS hx hy⟩
abbrev nk (w:World) (p en g n:Nat) (knot:Nat→Pe):Prop:=∀b',iv w p en g b' n 168 #[bH p] #[] (knot b') eU
theorem nk.kp {w w':World} {p en g n:Nat} {knot:Nat→Pe} (h:nk w p en g n knot) (hk:Kp p w w'):nk w' p en g n knot:=fun b'=>(h b').kp hk
theorem WQ {p en g n:Nat} {knot:Nat→Pe} {w:World} (b:Nat) (hD:nk w p en g n knot):iv w p en g b (n+1) 200 #[bH p] #[] (fL en b knot) eU:=
 ⟨agc,fun w' ts hk hP hm=>WR p en ts g b n knot (by omega) w' hP (hD.kp hk)⟩
theorem aeS (p en:Nat) (ts:List Tok) (g b n g1:Nat) (knot:Nat→Pe) (hm:ts.length<n+1) (w:World) (hP:be w p en ts g b) (hg1:g1≠p) (hB:ak w g1 45 [bH p]) (hD:nk w p en g n knot):gC Tryz.prog 199 [ei g1] w (iR w p en g b ts (Dc en b knot ts) (eU w.heap.size)) (iD w p en g b (Dc en b knot ts)):=by
 have hpl:=hP.lt;have pA:=hB.lt;have hb:=Kp.refl p w;refine enter Tryz.func199 rfl rfl rfl<|am fun aR=>bT (z:=fy) (by kernel_rfl) rfl ?_
 rintro au dJ dH ab aM;have:=aM.size;have hP:=hP.below aM;have hB:=hB.below aM;replace aM:=Below.kp (p:=p) aM;have hb:=hb.trans aM;have:=ab.lt;refine al aR<|am fun bt=>aG (aS nc rfl (by exact hB.at (j:=0) rfl)) rfl<|aG (aS nc rfl (by exact hB.at (j:=0) rfl)) rfl<|ae (nj rfl rfl) rfl<|cz (sz:=1) (vs:= [_]) dl (by kernel_rfl) rfl rfl rfl rfl rfl rfl ?_
 rintro cp fA fw aI aV;have:=aV.size;have hP:=hP.below aV;have ab:=ab.below aV;replace aV:=Below.kp (p:=p) aV;have hb:=hb.trans aV;have:=aI.lt;refine dQ u3 rfl rfl (uW p en ts g b (n+1) 200 #[bH p] #[] (fL en b knot) 194 #[] #[] hZ _ 1 [[42]] (by simp) hm _ hP (WQ b (hD.kp hb)) (C9 _ _ (by decide)) (aI.rd 1 1 rfl) (fun q e=>by cases e;show cp≠p;omega)) rfl (fun v_ cB cc=>?_) (fun c_ cB cg=>?_)
 rotate_left
 ·
  obtain ⟨pV,p3,jt,rfl,jw,aw⟩:=cg;have gK:=aw.size;have hb:=hb.trans aw;refine cJ<|eH ?_
  exact dY ⟨_,_,jt,rfl,jw,hb⟩
 obtain ⟨⟨x,r,hF,⟨z,Sz,rfl,hz,aT⟩,hP,hrl⟩,aw⟩:=cc;have gK:=aw.size;have ab:=ab.kp aw (by omega);have hb:=hb.trans aw;refine ba (by kernel_rfl) rfl rfl ab rfl rfl ?_;rintro du ab aF;have:=aF.size;have hb:=bp hb aF (by omega);have hP:=be.over hP aF (by omega);have hz:=aY.kp hz aF (fun h_=>by have bh:=aT _ h_;omega);refine al bt<|aJ<|bQ (rs:= [.cell 1 28]) (vs:= [_]) rfl (.cell rfl (bP b5 (by kernel_rfl) (fun j u hu=>ab.at hu)) .nil) ?_
 exact eY ⟨⟨x,r,hF,⟨z,Sz,rfl,hz,fun k hk=>by have:=aT k hk;omega⟩,hP,hrl⟩,hb⟩
theorem aeR {p en g n g1:Nat} {knot:Nat→Pe} {w:World} (b:Nat) (hg1:g1≠p) (hB:ak w g1 45 [bH p]) (hD:nk w p en g n knot):iv w p en g b (n+1) 199 #[] #[ei g1] (Dc en b knot) eU:=
 ⟨agn,fun w' ts hk hP hm=>aeS p en ts g b n g1 knot hm w' hP hg1 (hB.kp hk hg1) (hD.kp hk)⟩
theorem aeT (p en:Nat) (ts:List Tok) (g b n g1 g3:Nat) (knot:Nat→Pe) (hm:ts.length<n+1) (w:World) (hP:be w p en ts g b) (hg1:g1≠p) (hg3:g3≠p) (hB:ak w g1 45 [bH p]) (hB3:ak w g3 192 [.func (.func 199) #[] #[ei g1]]) (hD:nk w p en g n knot):gC Tryz.prog 201 [ei g1,ei g3] w (iR w p en g b ts (lU en b knot ts) (eU w.heap.size)) (iD w p en g b (lU en b knot ts)):=by
 have hpl:=hP.lt;have pA:=hB.lt;have QA:=hB3.lt;have hb:=Kp.refl p w;refine enter Tryz.func201 rfl rfl rfl<|am fun aR=>bT (z:=fy) (by kernel_rfl) rfl ?_
 rintro au dJ dH ab aM;have:=aM.size;have hP:=hP.below aM;have hB:=hB.below aM;have hB3:=hB3.below aM;replace aM:=Below.kp (p:=p) aM;have hb:=hb.trans aM;have:=ab.lt;refine al aR<|am fun bt=>aG (aS nc rfl (by exact hB.at (j:=0) rfl)) rfl<|aG (aS zx rfl (by exact hB3.at (j:=0) rfl)) rfl<|cz (sz:=1) (vs:= [_,_]) dl (by kernel_rfl) rfl rfl rfl rfl rfl rfl ?_
 rintro cp fA fw aI aV;have:=aV.size;have hP:=hP.below aV;have hB:=hB.below aV;have ab:=ab.below aV;replace aV:=Below.kp (p:=p) aV;have hb:=hb.trans aV;have:=aI.lt;refine dQ u3 rfl rfl (uW p en ts g b (n+1) 199 #[] #[ei g1] (Dc en b knot) 194 #[] #[] hZ _ 2 [[43],[45]] (by simp) hm _ hP (aeR b hg1 hB (hD.kp hb)) (C9 _ _ (by decide)) (aI.rd 2 1 rfl) (fun q e=>by cases e;show cp≠p;omega)) rfl (fun v_ cB cc=>?_) (fun c_ cB cg=>?_)
 rotate_left
 ·
  obtain ⟨pV,p3,jt,rfl,jw,aw⟩:=cg;have gK:=aw.size;have hb:=hb.trans aw;refine cJ<|eH ?_
  exact dY ⟨_,_,jt,rfl,jw,hb⟩
 obtain ⟨⟨x,r,hF,⟨z,Sz,rfl,hz,aT⟩,hP,hrl⟩,aw⟩:=cc;have gK:=aw.size;have ab:=ab.kp aw (by omega);have hb:=hb.trans aw;refine ba (by kernel_rfl) rfl rfl ab rfl rfl ?_;rintro du ab aF;have:=aF.size;have hb:=bp hb aF (by omega);have hP:=be.over hP aF (by omega);have hz:=aY.kp hz aF (fun h_=>by have bh:=aT _ h_;omega);refine al bt<|aJ<|bQ (rs:= [.cell 2 28]) (vs:= [_]) rfl (.cell rfl (bP b5 (by kernel_rfl) (fun j u hu=>ab.at hu)) .nil) ?_
 exact eY ⟨⟨x,r,hF,⟨z,Sz,rfl,hz,fun k hk=>by have:=aT k hk;omega⟩,hP,hrl⟩,hb⟩
theorem S8 {p en g n g1 g3:Nat} {knot:Nat→Pe} {w:World} (b:Nat) (hg1:g1≠p) (hg3:g3≠p) (hB:ak w g1 45 [bH p]) (hB3:ak w g3 192 [.func (.func 199) #[] #[ei g1]]) (hD:nk w p en g n knot):iv w p en g b (n+1) 201 #[] #[ei g1,ei g3] (lU en b knot) eU:=
 ⟨Nj,fun w' ts hk hP hm=>aeT p en ts g b n g1 g3 knot hm w' hP hg1 hg3 (hB.kp hk hg1) (hB3.kp hk hg3) (hD.kp hk)⟩
theorem aeV (p en:Nat) (ts:List Tok) (g b n:Nat) (knot:Nat→Pe) (hm:ts.length<n+1) (w:World) (hP:be w p en ts g b) (hD:nk w p en g n knot):gC Tryz.prog 192 [bH p] w (iR w p en g b ts (kq en b knot ts) (eU w.heap.size)) (iD w p en g b (kq en b knot ts)):=by
 have hpl:=hP.lt;have hb:=Kp.refl p w;refine enter Tryz.func192 rfl rfl rfl<|am fun aR=>gp rfl rfl ?_
 rintro au dJ dH ab aM;have:=aM.size;have hP:=hP.below aM;replace aM:=Below.kp (p:=p) aM;have hb:=hb.trans aM;have:=ab.lt;refine bT (z:=fy) (by kernel_rfl) rfl ?_;rintro cV mU mK aq cT;have:=cT.size;have hP:=hP.below cT;have ab:=ab.below cT;replace cT:=Below.kp (p:=p) cT;have hb:=hb.trans cT;have:=aq.lt;refine al aR<|am fun b8=>ae (nj rfl rfl) rfl<|bT (z:= .nilFunc) (by kernel_rfl) rfl ?_
 rintro PI F2 rv iV n5;have:=n5.size;have hP:=hP.below n5;have ab:=ab.below n5;have aq:=aq.below n5;replace n5:=Below.kp (p:=p) n5;have hb:=hb.trans n5;have:=iV.lt;refine mZ zx rfl rfl rfl iV ?_;rintro du iV aF;have:=aF.size;have hb:=bp hb aF (by omega);have hP:=be.over hP aF (by omega);have ab:=ab.over aF (by omega);have aq:=aq.over aF (by omega);refine al b8<|am fun dV=>ae (nj rfl rfl) rfl<|an rfl<|al dV<|am fun fZ=>ai rfl<|dQ Nj rfl rfl ((S8 b (by omega) (by omega) ab iV (hD.kp hb)).does _ ts (Kp.refl _ _) hP hm) rfl (fun v_ cB cc=>?_) (fun c_ cB cg=>?_)
 rotate_left
 ·
  obtain ⟨pV,p3,jt,rfl,jw,aw⟩:=cg;have gK:=aw.size;have hb:=hb.trans aw;refine cJ<|eH ?_
  exact dY ⟨_,_,by simp only [kq,jt],rfl,jw,hb⟩
 obtain ⟨⟨x,r,hF,⟨z,Sz,rfl,hz,aT⟩,hP,hrl⟩,aw⟩:=cc;have gK:=aw.size;have ab:=ab.kp aw (by omega);have aq:=aq.kp aw (by omega);have iV:=iV.kp aw (by omega);have hb:=hb.trans aw;refine bT (z:=fy) (by kernel_rfl) rfl ?_;rintro oy Nu CH dS ko;have:=ko.size;have hP:=hP.below ko;have ab:=ab.below ko;have aq:=aq.below ko;have iV:=iV.below ko;have hz:=hz.below ko;replace ko:=Below.kp (p:=p) ko;have hb:=hb.trans ko;have:=dS.lt;refine ba (by kernel_rfl) rfl rfl dS rfl rfl ?_;rintro ff dS bc;have:=bc.size;have hb:=bp hb bc (by omega);have hP:=be.over hP bc (by omega);have ab:=ab.over bc (by omega);have aq:=aq.over bc (by omega);have iV:=iV.over bc (by omega);have hz:=aY.kp hz bc (fun h_=>by have bh:=aT _ h_;omega);refine al fZ<|av fun _ fd=>b4<|am fun eL=>aG (aS nc rfl (by exact ab.at (j:=0) rfl)) rfl<|ae (cI rfl) rfl<|ae (aP (fH _) rfl) rfl<|cz (sz:=1) (vs:= [_,_,_,_,_,_]) dl (by kernel_rfl) rfl rfl rfl rfl rfl rfl ?_
 rintro cp fA fw aI aV;have:=aV.size;have hP:=hP.below aV;have ab:=ab.below aV;have aq:=aq.below aV;have iV:=iV.below aV;have hz:=hz.below aV;have dS:=dS.below aV;replace aV:=Below.kp (p:=p) aV;have hb:=hb.trans aV;have:=aI.lt;refine aD j4 rfl rfl (jY p en r g b _ 6 iT (by simp [iT]) _ hP (aI.rd 6 1 rfl)) rfl ?_;rintro _ cU ⟨rfl,aL⟩;have:=aL.size;have hP:=be.below hP aL;have ab:=ak.below ab aL;have aq:=ak.below aq aL;have iV:=ak.below iV aL;have hz:=aY.below hz aL;have dS:=ak.below dS aL;replace aL:=Below.kp (p:=p) aL;have hb:=hb.trans aL;refine an rfl<|al eL<|aO rfl (fun np=>?_) (fun np=>?_)
 ·
  have Au:=np;have h1:bv en iT r=true:=Au;have hne:=eB h1;have hr0:=List.length_pos_iff.2 hne;have hrt:r.tail.length=r.length - 1:=List.length_tail;refine am fun gr=>aG (aS nc rfl (by exact ab.at (j:=0) rfl)) rfl<|aD jM rfl rfl (jL p en r g b hne _ hP) rfl ?_
  rintro _ eP ⟨⟨rfl,hP⟩,a6⟩;have:=a6.size;have ab:=ak.kp ab a6 (by omega);have aq:=ak.kp aq a6 (by omega);have iV:=ak.kp iV a6 (by omega);have hz:=aY.kp hz a6 (fun h_=>by have bh:=aT _ h_;omega);have dS:=ak.kp dS a6 (by omega);have hb:=hb.trans a6;refine ae (ni fe rfl di rfl rfl) rfl<|an rfl<|al gr<|av fun _ fu=>jg (n:=6) (fun w'=>Kp p w w'∧ak w' oy 28 z.cells∧∃cs,ak w' cV 28 cs) #[aj,aj,aj,aj,aj,aj] (by kernel_rfl) rfl (by kernel_rfl)<|jf ?_
  rintro agH nZ;have:=nZ.size;have hP:=hP.below nZ;have ab:=ab.below nZ;have aq:=aq.below nZ;have iV:=iV.below nZ;have hz:=hz.below nZ;have dS:=dS.below nZ;replace nZ:=Below.kp (p:=p) nZ;have hb:=hb.trans nZ;refine bC (i:=0) #[ah,aj,aj,aj,aj,aj] rfl (by kernel_rfl) bF rfl (fun wq hq=>bU (dN rfl)) ⟨hb,dS,_,aq⟩<|bC (i:=1) #[ah,ah,aj,aj,aj,aj] rfl (by kernel_rfl) bF rfl (fun wq hq=>cr b5 (by kernel_rfl) rfl (by obtain ⟨hq,dS,_,aq⟩:=hq;exact fun j u hu=>dS.at hu)) ⟨hb,dS,_,aq⟩<|bC (i:=2) #[ah,ah,ah,aj,aj,aj] rfl (by kernel_rfl) bF rfl (fun wq hq=>bU (dN rfl)) ⟨hb,dS,_,aq⟩<|cM (rs:= [3]) (by kernel_rfl) rfl<|cO #[ah,ah,ah,ah,aj,aj] rfl rfl (fun _ gP=>?_) ?_
  ·
   refine dQ Nj rfl rfl ((S8 b (by omega) (by omega) ab iV (hD.kp hb)).does _ r.tail (Kp.refl _ _) hP (by omega)) rfl (fun v_ fj cc=>?_) (fun c_ fj cg=>?_)
   rotate_left
   ·
    obtain ⟨vu,wN,nO,rfl,nW,bk⟩:=cg;have mM:=bk.size;have hb:=hb.trans bk;refine cJ<|cJ<|jh<|cJ<|eH ?_
    exact dY ⟨_,_,by simp only [kq,hF,if_pos h1,nO],rfl,nW,hb⟩
   obtain ⟨⟨y,r2,hF2,⟨zy,Sy,rfl,hy,fp⟩,hP,hrl2⟩,bk⟩:=cc;have mM:=bk.size;have aq:=aq.kp bk (by omega);have hz:=hz.kp bk (fun h_=>by have bh:=aT _ h_;omega);have dS:=dS.kp bk (by omega);have hb:=hb.trans bk;refine ay<|cN gP ⟨hb,dS,_,aq⟩<|cM (rs:= [4]) (by kernel_rfl) rfl<|cO #[ah,ah,ah,ah,ah,aj] rfl rfl (fun _ im=>?_) ?_
   ·
    refine dQ afz rfl rfl (tZ (X:=fun _ _=>False) ((C9 _ p (signs:=iT) (by decide)).does _ (aN en r).t z zy x y (fun k=>Sz k∨Sy k) (Kp.refl _ _) (qi h1) (fun k hk=>by rcases hk with h|h;(· have:=aT k h;omega);(· have:=fp k h;omega)) (hz.mono fun _ h=> .inl h) (hy.mono fun _ h=> .inr h))) rfl (fun v_ gj cc=>?_) (fun c_ gj cg=>?_)
    rotate_left
    ·
     exact cg.elim
    obtain ⟨⟨z2,Sz2,rfl,hz2,x8⟩,bD⟩:=cc;have:=bD.size;have hP:=be.below hP bD;have aq:=ak.below aq bD;have dS:=ak.below dS bD;replace bD:=Below.kp (p:=p) bD;have hb:=hb.trans bD
    have x8:∀k,Sz2 k→w.heap.size≤k∧k<gj.heap.size∧k≠cV:=fun k hk=>by
     rcases x8 k hk with (h|h)|h
     · have:=aT k h;omega
     · have:=fp k h;omega
     · omega
    refine ay<|cN im ⟨hb,dS,_,aq⟩<|cM (rs:= [5]) (by kernel_rfl) rfl<|cO #[ah,ah,ah,ah,ah,ah] rfl rfl (fun _ iW=>?_) ?_
    ·
     refine ba (by kernel_rfl) rfl rfl aq rfl rfl ?_;rintro gB aq bz;have:=bz.size;have hb:=bp hb bz (by omega);have hP:=be.over hP bz (by omega);have dS:=dS.over bz (by omega);have hz2:=aY.kp hz2 bz (fun h_=>by have bh:=x8 _ h_;omega);refine ay<|cN iW ⟨hb,dS,_,aq⟩<|fB (by kernel_rfl)<|ax fu<|aJ<|co (aX ?_)
     refine bQ (rs:= [.cell 2 28]) (vs:= [_]) rfl (.cell rfl (bP b5 (by kernel_rfl) (fun j u hu=>aq.at hu)) .nil) ?_;exact eY ⟨⟨_,r2,by simp only [kq,hF,if_pos h1,hF2],⟨z2,Sz2,rfl,hz2,fun k hk=>by have:=x8 k hk;omega⟩,hP,by omega⟩,hb⟩
    exact cP
   exact cP
  exact cP
 have Au:=np;have h1:bv en iT r=false:=Au;refine am fun kH=>aG (aS nc rfl (by exact ab.at (j:=0) rfl)) rfl<|ae (cI rfl) rfl<|ae (aP (fH _) rfl) rfl<|cz (sz:=1) (vs:= [_]) dl (by kernel_rfl) rfl rfl rfl rfl rfl rfl ?_
 rintro cK jB jG aK bA;have:=bA.size;have hP:=hP.below bA;have ab:=ab.below bA;have aq:=aq.below bA;have hz:=hz.below bA;have dS:=dS.below bA;replace bA:=Below.kp (p:=p) bA;have hb:=hb.trans bA;have:=aK.lt;refine aD j4 rfl rfl (jY p en r g b _ 1 [pN] (by simp) _ hP (aK.rd 1 1 rfl)) rfl ?_;rintro _ lW ⟨rfl,cm⟩;have:=cm.size;have hP:=be.below hP cm;have ab:=ak.below ab cm;have aq:=ak.below aq cm;have hz:=aY.below hz cm;have dS:=ak.below dS cm;replace cm:=Below.kp (p:=p) cm;have hb:=hb.trans cm;refine an rfl<|al kH<|aO rfl (fun G0=>?_) (fun G0=>?_)
 ·
  have G1:=G0;have h2:bv en [pN] r=true:=G1;have hne:=eB h2;have hr0:=List.length_pos_iff.2 hne;have hrt:r.tail.length=r.length - 1:=List.length_tail;refine am fun mD=>aG (aS nc rfl (by exact ab.at (j:=0) rfl)) rfl<|aD jM rfl rfl (jL p en r g b hne _ hP) rfl ?_
  rintro _ lX ⟨⟨rfl,hP⟩,cy⟩;have:=cy.size;have ab:=ak.kp ab cy (by omega);have aq:=ak.kp aq cy (by omega);have hz:=aY.kp hz cy (fun h_=>by have bh:=aT _ h_;omega);have dS:=ak.kp dS cy (by omega);have hb:=hb.trans cy;refine al mD<|am fun gZ=>aG (aS nc rfl (by exact ab.at (j:=0) rfl)) rfl<|dQ zX rfl rfl (zU p en gi r.tail g b _ hP) rfl (fun v_ mh cc=>?_) (fun c_ mh cg=>?_)
  rotate_left
  ·
   obtain ⟨Gu,IU,xf,rfl,xN,cA⟩:=cg;have yb:=cA.size;have hb:=hb.trans cA;refine cJ<|jh<|cJ<|eH ?_
   exact dY ⟨_,_,by simp [kq,hF,h1,h2,xf],rfl,xN,hb⟩
  obtain ⟨⟨t3,r3,hF3,rfl,hP,hrl3⟩,cA⟩:=cc;have yb:=cA.size;have aq:=aq.kp cA (by omega);have hz:=hz.kp cA (fun h_=>by have bh:=aT _ h_;omega);have dS:=dS.kp cA (by omega);have hb:=hb.trans cA;refine al gZ<|am fun m6=>aG (cr b5 (by kernel_rfl) rfl (by exact fun j u hu=>dS.at hu)) rfl<|cz (sz:=7) (vs:= [_]) j5 (by kernel_rfl) rfl rfl rfl rfl rfl rfl ?_
  rintro eA pO f4 bn c8;have:=c8.size;have hP:=hP.below c8;have aq:=aq.below c8;have hz:=hz.below c8;replace c8:=Below.kp (p:=p) c8;have hb:=hb.trans c8;have:=bn.lt;refine ae (cC (z:=gd) (pl:=gf) (cs:= [_,_,_,_,_,_,_]) b5 (by kernel_rfl) (by kernel_rfl) rfl rfl rfl) rfl<|ba (by kernel_rfl) rfl rfl aq rfl rfl ?_
  rintro j7 aq cd;have:=cd.size;have hb:=bp hb cd (by omega);have hP:=be.over hP cd (by omega);have hz:=aY.kp hz cd (fun h_=>by have bh:=aT _ h_;omega);have bn:=bn.over cd (by omega);refine al m6<|aJ<|co (aX ?_)
  refine bQ (rs:= [.cell 2 28]) (vs:= [_]) rfl (.cell rfl (bP b5 (by kernel_rfl) (fun j u hu=>aq.at hu)) .nil) ?_;exact eY ⟨⟨.mk 3 DP ch [x],r3,by simp [kq,hF,h1,h2,hF3],⟨⟨3,DP,ch,some ⟨eA,0,none⟩,1,1⟩,fun k=>Sz k∨k=eA,rfl,aY.node (kids:= [x]) rfl (bn.rd 1 7 rfl) (.inr rfl) ((eQ.one hz).mono fun _ h=> .inl h),fun k hk=>by rcases hk with h|h;(· have:=aT k h;omega);(· have:=bn.lt;omega)⟩,hP,by omega⟩,hb⟩
 have G1:=G0;have h2:bv en [pN] r=false:=G1;refine aU<|cD<|ax fd<|am fun kI=>aG (cr b5 (by kernel_rfl) rfl (by exact fun j u hu=>dS.at hu)) rfl ?_
 refine ba (by kernel_rfl) rfl rfl aq rfl rfl ?_;rintro kW aq cx;have:=cx.size;have hb:=bp hb cx (by omega);have hP:=be.over hP cx (by omega);have hz:=aY.kp hz cx (fun h_=>by have bh:=aT _ h_;omega);refine al kI<|aJ<|bQ (rs:= [.cell 2 28]) (vs:= [_]) rfl (.cell rfl (bP b5 (by kernel_rfl) (fun j u hu=>aq.at hu)) .nil) ?_
 exact eY ⟨⟨x,r,by simp [kq,hF,h1,h2],⟨z,Sz,rfl,hz,fun k hk=>by have:=aT k hk;omega⟩,hP,by omega⟩,hb⟩
theorem aeU {p en g n:Nat} {knot:Nat→Pe} {w:World} (b:Nat) (hD:nk w p en g n knot):iv w p en g b (n+1) 192 #[bH p] #[] (kq en b knot) eU:=
 ⟨ago,fun w' ts hk hP hm=>aeV p en ts g b n knot (by omega) w' hP (hD.kp hk)⟩
theorem YM (p en:Nat) (ts:List Tok) (g b n g1:Nat) (knot:Nat→Pe) (hm:ts.length<n+1) (w:World) (hP:be w p en ts g b) (hg1:g1≠p) (hB:ak w g1 45 [bH p]) (hD:nk w p en g n knot):gC Tryz.prog 191 [ei g1] w (iR w p en g b ts (i8 en gA (kq en b knot) 3 [110,111,116] ts) (eU w.heap.size)) (iD w p en g b (i8 en gA (kq en b knot) 3 [110,111,116] ts)):=by
 have hpl:=hP.lt;have pA:=hB.lt;have hb:=Kp.refl p w;refine enter Tryz.func191 rfl rfl rfl<|am fun aR=>bT (z:=fy) (by kernel_rfl) rfl ?_
 rintro au dJ dH ab aM;have:=aM.size;have hP:=hP.below aM;have hB:=hB.below aM;replace aM:=Below.kp (p:=p) aM;have hb:=hb.trans aM;have:=ab.lt;refine al aR<|am fun bt=>aG (aS nc rfl (by exact hB.at (j:=0) rfl)) rfl<|aG (aS nc rfl (by exact hB.at (j:=0) rfl)) rfl<|ae (nj rfl rfl) rfl<|ae (cC (z:=gd) (pl:=gf) (cs:= [_,_,_,_,_,_,_]) b5 (by kernel_rfl) (by kernel_rfl) rfl rfl rfl) rfl<|dQ TF rfl rfl (Tl p en ts g b (n+1) gA 192 #[bH p] #[] (kq en b knot) 3 [110,111,116] hm _ hP (aeU b (hD.kp hb))) rfl (fun v_ cB cc=>?_) (fun c_ cB cg=>?_)
 rotate_left
 ·
  obtain ⟨pV,p3,jt,rfl,jw,aw⟩:=cg;have gK:=aw.size;have hb:=hb.trans aw;refine cJ<|eH ?_
  exact dY ⟨_,_,jt,rfl,jw,hb⟩
 obtain ⟨⟨x,r,hF,⟨z,Sz,rfl,hz,aT⟩,hP,hrl⟩,aw⟩:=cc;have gK:=aw.size;have ab:=ab.kp aw (by omega);have hb:=hb.trans aw;refine ba (by kernel_rfl) rfl rfl ab rfl rfl ?_;rintro du ab aF;have:=aF.size;have hb:=bp hb aF (by omega);have hP:=be.over hP aF (by omega);have hz:=aY.kp hz aF (fun h_=>by have bh:=aT _ h_;omega);refine al bt<|aJ<|bQ (rs:= [.cell 1 28]) (vs:= [_]) rfl (.cell rfl (bP b5 (by kernel_rfl) (fun j u hu=>ab.at hu)) .nil) ?_
 exact eY ⟨⟨x,r,hF,⟨z,Sz,rfl,hz,fun k hk=>by have:=aT k hk;omega⟩,hP,hrl⟩,hb⟩
theorem YL {p en g n g1:Nat} {knot:Nat→Pe} {w:World} (b:Nat) (hg1:g1≠p) (hB:ak w g1 45 [bH p]) (hD:nk w p en g n knot):iv w p en g b (n+1) 191 #[] #[ei g1] (i8 en gA (kq en b knot) 3 [110,111,116]) eU:=
 ⟨age,fun w' ts hk hP hm=>YM p en ts g b n g1 knot hm w' hP hg1 (hB.kp hk hg1) (hD.kp hk)⟩
noncomputable def FD (en b:Nat) (knot:Nat→Pe):Pe:=jK en (i8 en gA (kq en b knot) 3 [110,111,116]) hZ [jO]
theorem YO (p en:Nat) (ts:List Tok) (g b n g1 g3:Nat) (knot:Nat→Pe) (hm:ts.length<n+1) (w:World) (hP:be w p en ts g b) (hg1:g1≠p) (hg3:g3≠p) (hB:ak w g1 45 [bH p]) (hB3:ak w g3 192 [.func (.func 191) #[] #[ei g1]]) (hD:nk w p en g n knot):gC Tryz.prog 193 [ei g1,ei g3] w (iR w p en g b ts (FD en b knot ts) (eU w.heap.size)) (iD w p en g b (FD en b knot ts)):=by
 have hpl:=hP.lt;have pA:=hB.lt;have QA:=hB3.lt;have hb:=Kp.refl p w;refine enter Tryz.func193 rfl rfl rfl<|am fun aR=>bT (z:=fy) (by kernel_rfl) rfl ?_
 rintro au dJ dH ab aM;have:=aM.size;have hP:=hP.below aM;have hB:=hB.below aM;have hB3:=hB3.below aM;replace aM:=Below.kp (p:=p) aM;have hb:=hb.trans aM;have:=ab.lt;refine al aR<|am fun bt=>aG (aS nc rfl (by exact hB.at (j:=0) rfl)) rfl<|aG (aS zx rfl (by exact hB3.at (j:=0) rfl)) rfl<|cz (sz:=1) (vs:= [_]) dl (by kernel_rfl) rfl rfl rfl rfl rfl rfl ?_
 rintro cp fA fw aI aV;have:=aV.size;have hP:=hP.below aV;have hB:=hB.below aV;have ab:=ab.below aV;replace aV:=Below.kp (p:=p) aV;have hb:=hb.trans aV;have:=aI.lt;refine dQ u3 rfl rfl (uW p en ts g b (n+1) 191 #[] #[ei g1] (i8 en gA (kq en b knot) 3 [110,111,116]) 194 #[] #[] hZ _ 1 [jO] (by simp) hm _ hP (YL b hg1 hB (hD.kp hb)) (C9 _ _ (by decide)) (aI.rd 1 1 rfl) (fun q e=>by cases e;show cp≠p;omega)) rfl (fun v_ cB cc=>?_) (fun c_ cB cg=>?_)
 rotate_left
 ·
  obtain ⟨pV,p3,jt,rfl,jw,aw⟩:=cg;have gK:=aw.size;have hb:=hb.trans aw;refine cJ<|eH ?_
  exact dY ⟨_,_,jt,rfl,jw,hb⟩
 obtain ⟨⟨x,r,hF,⟨z,Sz,rfl,hz,aT⟩,hP,hrl⟩,aw⟩:=cc;have gK:=aw.size;have ab:=ab.kp aw (by omega);have hb:=hb.trans aw;refine ba (by kernel_rfl) rfl rfl ab rfl rfl ?_;rintro du ab aF;have:=aF.size;have hb:=bp hb aF (by omega);have hP:=be.over hP aF (by omega);have hz:=aY.kp hz aF (fun h_=>by have bh:=aT _ h_;omega);refine al bt<|aJ<|bQ (rs:= [.cell 2 28]) (vs:= [_]) rfl (.cell rfl (bP b5 (by kernel_rfl) (fun j u hu=>ab.at hu)) .nil) ?_
 exact eY ⟨⟨x,r,hF,⟨z,Sz,rfl,hz,fun k hk=>by have:=aT k hk;omega⟩,hP,hrl⟩,hb⟩
theorem YN {p en g n g1 g3:Nat} {knot:Nat→Pe} {w:World} (b:Nat) (hg1:g1≠p) (hg3:g3≠p) (hB:ak w g1 45 [bH p]) (hB3:ak w g3 192 [.func (.func 191) #[] #[ei g1]]) (hD:nk w p en g n knot):iv w p en g b (n+1) 193 #[] #[ei g1,ei g3] (FD en b knot) eU:=
 ⟨agf,fun w' ts hk hP hm=>YO p en ts g b n g1 g3 knot hm w' hP hg1 hg3 (hB.kp hk hg1) (hB3.kp hk hg3) (hD.kp hk)⟩
theorem YP (p en:Nat) (ts:List Tok) (g b n:Nat) (knot:Nat→Pe) (hm:ts.length<n+1) (w:World) (hP:be w p en ts g b) (hD:nk w p en g n knot):gC Tryz.prog 168 [bH p] w (iR w p en g b ts (Mw en b knot ts) (eU w.heap.size)) (iD w p en g b (Mw en b knot ts)):=by
 have hpl:=hP.lt;have hb:=Kp.refl p w;refine enter Tryz.func168 rfl rfl rfl<|am fun aR=>gp rfl rfl ?_
 rintro au dJ dH ab aM;have:=aM.size;have hP:=hP.below aM;replace aM:=Below.kp (p:=p) aM;have hb:=hb.trans aM;have:=ab.lt;refine bT (z:=fy) (by kernel_rfl) rfl ?_;rintro cV mU mK aq cT;have:=cT.size;have hP:=hP.below cT;have ab:=ab.below cT;replace cT:=Below.kp (p:=p) cT;have hb:=hb.trans cT;have:=aq.lt;refine al aR<|am fun b8=>ae (nj rfl rfl) rfl<|bT (z:= .nilFunc) (by kernel_rfl) rfl ?_
 rintro PI F2 rv iV n5;have:=n5.size;have hP:=hP.below n5;have ab:=ab.below n5;have aq:=aq.below n5;replace n5:=Below.kp (p:=p) n5;have hb:=hb.trans n5;have:=iV.lt;refine mZ zx rfl rfl rfl iV ?_;rintro du iV aF;have:=aF.size;have hb:=bp hb aF (by omega);have hP:=be.over hP aF (by omega);have ab:=ab.over aF (by omega);have aq:=aq.over aF (by omega);refine al b8<|am fun dV=>ae (nj rfl rfl) rfl<|an rfl<|al dV<|am fun fZ=>aG (aS nc rfl (by exact ab.at (j:=0) rfl)) rfl<|ai rfl<|cz (sz:=1) (vs:= [_]) dl (by kernel_rfl) rfl rfl rfl rfl rfl rfl ?_
 rintro cp fA fw aI aV;have:=aV.size;have hP:=hP.below aV;have ab:=ab.below aV;have aq:=aq.below aV;have iV:=iV.below aV;replace aV:=Below.kp (p:=p) aV;have hb:=hb.trans aV;have:=aI.lt;refine dQ u3 rfl rfl (uW p en ts g b (n+1) 193 #[] #[ei au,ei PI] (FD en b knot) 194 #[] #[] hZ _ 1 [j6] (by simp) hm _ hP (YN b (by omega) (by omega) ab iV (hD.kp hb)) (C9 _ _ (by decide)) (aI.rd 1 1 rfl) (fun q e=>by cases e;show cp≠p;omega)) rfl (fun v_ cB cc=>?_) (fun c_ cB cg=>?_)
 rotate_left
 ·
  obtain ⟨pV,p3,jt,rfl,jw,aw⟩:=cg;have gK:=aw.size;have hb:=hb.trans aw;refine cJ<|eH ?_
  exact dY ⟨_,_,jt,rfl,jw,hb⟩
 obtain ⟨⟨x,r,hF,⟨z,Sz,rfl,hz,aT⟩,hP,hrl⟩,aw⟩:=cc;have gK:=aw.size;have aq:=aq.kp aw (by omega);have hb:=hb.trans aw;refine ba (by kernel_rfl) rfl rfl aq rfl rfl ?_;rintro ff aq bc;have:=bc.size;have hb:=bp hb bc (by omega);have hP:=be.over hP bc (by omega);have hz:=aY.kp hz bc (fun h_=>by have bh:=aT _ h_;omega);refine al fZ<|aJ<|bQ (rs:= [.cell 2 28]) (vs:= [_]) rfl (.cell rfl (bP b5 (by kernel_rfl) (fun j u hu=>aq.at hu)) .nil) ?_
 exact eY ⟨⟨x,r,hF,⟨z,Sz,rfl,hz,fun k hk=>by have:=aT k hk;omega⟩,hP,hrl⟩,hb⟩
theorem Ph (p en g:Nat):∀(n b:Nat) (w:World),iv w p en g b n 168 #[bH p] #[] (pE en n b) eU
 |0,b,w=>⟨T2,fun w' ts hk hP hm=>absurd hm (Nat.not_lt_zero _)⟩
 |n+1,b,w=>⟨T2,fun w' ts hk hP hm=>YP p en ts g b n (pE en n) hm w' hP fun b'=>Ph p en g n b' w'⟩
theorem EM (p:Addr) (w:World):(Instr.fieldAt 31 (.pointer (some p)) 1).run Tryz.prog w= .ok (.pointer (some (p.add 1))) w:=eT (i:=1) (sz:=0) dc rfl (by kernel_rfl) p w
theorem y5 (p:Addr) (w:World):(Instr.fieldAt 31 (.pointer (some p)) 3).run Tryz.prog w= .ok (.pointer (some (p.add 3))) w:=eT (i:=3) (sz:=6) dc rfl (by kernel_rfl) p w
theorem wO (p:Addr) (w:World):(Instr.fieldAt 31 (.pointer (some p)) 4).run Tryz.prog w= .ok (.pointer (some (p.add 10))) w:=eT (i:=4) (sz:=6) dc rfl (by kernel_rfl) p w
theorem afw:bB Tryz.prog 167:=⟨_,Tryz.func167,by kernel_rfl,rfl⟩
theorem afx:bB Tryz.prog 168:=⟨_,Tryz.func168,by kernel_rfl,rfl⟩
structure PC where
 k:Int
 var:ao
 dir:Int
 l:EC
 wh:EC
 mn:Int
 mx:Int
 A:Option Addr
 n:Nat
 c:Nat
def PC.cells (x:PC):List Value:= .int .i64 x.k :: str x.var :: .int .i64 x.dir :: (x.l.cells++(x.wh.cells++ [.int .i64 x.mn,.int .i64 x.mx,.slice x.A x.n x.c]))
def PC.enc (x:PC):Value:= .agg x.cells.toArray
abbrev dE:EC:=⟨0,[],ch,none,0,0⟩
mutual
def bi (w:World) (S:Nat→Prop):bS→List Value→Prop
 | .mk k var dir l wh mn mx kids,cs=>∃(lc wc:EC) (A:Option Addr) (c:Nat) (kcs:List Value),cs=PC.cells ⟨k,var,dir,lc,wc,mn,mx,A,kids.length,c⟩∧aY w S l lc.cells∧aY w S wh wc.cells∧Rd w 20 A kids.length kcs∧(∀q,A=some q→S q.block)∧dv w S kids kcs∧kids.length≤65537
def dv (w:World) (S:Nat→Prop):List bS→List Value→Prop
 | [],xs=>xs= []
 |e :: r,xs=>∃c ys,xs=c++ys∧bi w S e c∧dv w S r ys
end
mutual
theorem bi.lift {w w':World} {S S':Nat→Prop} (hk:gn w w' S) (hS:∀k,S k→S' k):∀{e:bS} {cs:List Value},bi w S e cs→bi w' S' e cs
 | .mk k var dir l wh mn mx kids,cs,h=>by
  unfold bi at h ⊢;obtain ⟨lc,wc,A,c,kcs,h1,h2,h3,h4,h5,h6,h7⟩:=h;exact ⟨lc,wc,A,c,kcs,h1,aY.lift hk hS h2,aY.lift hk hS h3,hk.rd _ _ _ _ h4 h5,fun q e=>hS _ (h5 q e),dv.lift hk hS h6,h7⟩
theorem dv.lift {w w':World} {S S':Nat→Prop} (hk:gn w w' S) (hS:∀k,S k→S' k):∀{l:List bS} {cs:List Value},dv w S l cs→dv w' S' l cs
 | [],cs,h=>by unfold dv at h ⊢;exact h
 |e :: r,cs,h=>by
  unfold dv at h ⊢;obtain ⟨c,ys,h1,h2,h3⟩:=h;exact ⟨c,ys,h1,bi.lift hk hS h2,dv.lift hk hS h3⟩
end
section
variable {w w':World} {S:Nat→Prop} {p:Nat} {e:bS} {l:List bS} {cs:List Value}
theorem bi.mono {S':Nat→Prop} (h:bi w S e cs) (hS:∀k,S k→S' k):bi w S' e cs:=bi.lift (gn.refl _ _) hS h
theorem bi.below (h:bi w S e cs) (hb:Below w.heap.size w w'):bi w' S e cs:=bi.lift (gn.below hb _) (fun _ h=>h) h
theorem bi.kp (h:bi w S e cs) (hk:Kp p w w') (hp:¬S p):bi w' S e cs:=bi.lift (gn.kp hk hp) (fun _ h=>h) h
theorem dv.mono {S':Nat→Prop} (h:dv w S l cs) (hS:∀k,S k→S' k):dv w S' l cs:=dv.lift (gn.refl _ _) hS h
theorem dv.below (h:dv w S l cs) (hb:Below w.heap.size w w'):dv w' S l cs:=dv.lift (gn.below hb _) (fun _ h=>h) h
theorem dv.kp (h:dv w S l cs) (hk:Kp p w w') (hp:¬S p):dv w' S l cs:=dv.lift (gn.kp hk hp) (fun _ h=>h) h
theorem dv.snoc {e:bS} {ds:List Value}:∀{l:List bS} {cs:List Value},dv w S l cs→bi w S e ds→dv w S (l++ [e]) (cs++ds)
 | [],cs,h,h2=>by
  unfold dv at h;subst h;show dv w S [e] ds;unfold dv dv;exact ⟨ds,[],by simp,h2,rfl⟩
 |f :: r,cs,h,h2=>by
  unfold dv at h;obtain ⟨c,ys,h1,h3,h4⟩:=h;show dv w S (f :: (r++ [e])) (cs++ds);unfold dv;exact ⟨c,ys++ds,by rw [h1,List.append_assoc],h3,dv.snoc h4 h2⟩
theorem dv.one {e:bS} {cs:List Value} (h:bi w S e cs):dv w S [e] cs:=by
 unfold dv dv;exact ⟨cs,[],by simp,h,rfl⟩
end
theorem vd {w:World} {S:Nat→Prop} {k:Int} {var:ao} {dir:Int} {l wh:b6} {mn mx:Int} {lc wc:EC} (hl:aY w S l lc.cells) (hw:aY w S wh wc.cells):bi w S (.mk k var dir l wh mn mx []) (PC.cells ⟨k,var,dir,lc,wc,mn,mx,none,0,0⟩):=by
 unfold bi dv;exact ⟨lc,wc,none,0,[],rfl,hl,hw,Rd.nil _ _ _,fun q e=>(by cases e),rfl,Nat.zero_le _⟩
def pT (B:Nat) (e:bS) (v:Value) (w:World):Prop:=∃(x:PC) (S:Nat→Prop),v=x.enc∧bi w S e x.cells∧∀k,S k→B≤k∧k<w.heap.size
theorem kQ (w:World) (S:Nat→Prop):aY w S eC dE.cells:=rQ w S 0 [] ch
theorem Pw (p en:Nat) (ts:List Tok) (g n:Nat) (k:Int) (hm:ts.length<n) (w:World) (hP:be w p en ts g 0):gC Tryz.prog 133 [bH p,PC.enc ⟨k,[],0,dE,dE,0,0,none,0,0⟩] w (iR w p en g 0 ts (gh en n k ts) (pT w.heap.size)) (iD w p en g 0 (gh en n k ts)):=by
 have hpl:=hP.lt;have hb:=Kp.refl p w;refine enter Tryz.func133 rfl rfl rfl<|am fun aR=>gp rfl rfl ?_
 rintro au dJ dH ab aM;have:=aM.size;have hP:=hP.below aM;replace aM:=Below.kp (p:=p) aM;have hb:=hb.trans aM;have:=ab.lt;refine bT (z:=hY) (by kernel_rfl) rfl ?_;rintro cV mU mK aq cT;have:=cT.size;have hP:=hP.below cT;have ab:=ab.below cT;replace cT:=Below.kp (p:=p) cT;have hb:=hb.trans cT;have:=aq.lt;refine al aR<|av fun _ b8=>am fun dC=>ai rfl<|ae (cI rfl) rfl<|ae (aP (fH _) rfl) rfl<|aD qt rfl rfl (st p en ts g 0 _ hP) rfl ?_
 rintro _ cB ⟨rfl,aw⟩;have:=aw.size;have hP:=be.below hP aw;have ab:=ak.below ab aw;have aq:=ak.below aq aw;replace aw:=Below.kp (p:=p) aw;have hb:=hb.trans aw;refine ae (ni fe rfl b0 rfl rfl) rfl<|ae (bX rfl rfl) rfl<|al dC<|cR (X:=ao×List Tok) (fun (var,r)=> [(0,bH p),(3,.pointer (some ⟨au,0,none⟩)),(4,.pointer (some ⟨cV,0,none⟩))]) (fun (var,r) wr=>gh en n k ts=j1 en n k var r∧r.length≤ts.length∧Kp p w wr∧be wr p en r g 0∧ak wr au 31 (PC.cells ⟨k,var,0,dE,dE,0,0,none,0,0⟩)∧ak wr cV 31 (PC.cells ⟨0,[],0,dE,dE,0,0,none,0,0⟩)) (fun _ Cx=>?_) ?_
 ·
  refine aO rfl (fun eK=>?_) (fun eK=>?_)
  ·
   have sP:=eK;simp only [DZ] at eK;have hk:(aN en ts).k=1:=by have:=eK;omega
   have hne:=oI hk (by decide);obtain ⟨var,hvar⟩:∃z,z=(aN en ts).t:=⟨_,rfl⟩;obtain ⟨r,nX⟩:∃z,z=ts.tail:=⟨_,rfl⟩;have hpf:gh en n k ts=j1 en n k (aN en ts).t ts.tail:=if_pos hk;have hrt:ts.tail.length≤ts.length:=by rw [List.length_tail];omega
   refine aQ<|ai rfl<|aD jM rfl rfl (jL p en ts g 0 hne _ hP) rfl ?_
   rintro _ cU ⟨⟨rfl,hP⟩,aL⟩;have:=aL.size;have ab:=ak.kp ab aL (by omega);have aq:=ak.kp aq aL (by omega);have hb:=hb.trans aL;refine ae (ni fe rfl di rfl rfl) rfl<|ae (aP (EM _) rfl) rfl<|fV di rfl rfl rfl ab (by show 1<20;decide) ?_
   rintro du ab aF;have:=aF.size;have hb:=bp hb aF (by omega);have hP:=be.over hP aF (by omega);have aq:=aq.over aF (by omega);refine ay<|a7 Cx (⟨var,r⟩) (by repeat first|exact aC|refine aA rfl (by first|rfl|exact aH (by omega)) ?_) ?_
   subst hvar;subst nX;exact ⟨hpf,hrt,hb,hP,ab,aq⟩
  have sP:=eK;simp only [DZ] at eK;have hk:(aN en ts).k≠1:=by have:=eK;omega
  obtain ⟨var,hvar⟩:∃z:ao,z= []:=⟨_,rfl⟩;obtain ⟨r,nX⟩:∃z,z=ts:=⟨_,rfl⟩;have hpf:gh en n k ts=j1 en n k [] ts:=if_neg hk;have hrt:ts.length≤ts.length:=Nat.le_refl _;refine aU<|a7 Cx (⟨var,r⟩) (by repeat first|exact aC|refine aA rfl (by first|rfl|exact aH (by omega)) ?_) ?_
  subst hvar;subst nX;exact ⟨hpf,hrt,hb,hP,ab,aq⟩
 rintro ⟨var,r⟩ wr xn;replace xn:gh en n k ts=j1 en n k var r∧r.length≤ts.length∧Kp p w wr∧be wr p en r g 0∧ak wr au 31 (PC.cells ⟨k,var,0,dE,dE,0,0,none,0,0⟩)∧ak wr cV 31 (PC.cells ⟨0,[],0,dE,dE,0,0,none,0,0⟩):=xn;obtain ⟨hF,hrl,hb,hP,ab,aq⟩:=xn;show Wq _ _ _ _ [(0,bH p),(3,.pointer (some ⟨au,0,none⟩)),(4,.pointer (some ⟨cV,0,none⟩))] _;have:=hb.size;have:=ab.lt;have:=aq.lt;refine ax b8<|av fun _ fC=>am fun eM=>ai rfl<|ae (cI rfl) rfl<|ae (aP (fH _) rfl) rfl<|cz (sz:=1) (vs:= [_]) dl (by kernel_rfl) rfl rfl rfl rfl rfl rfl ?_
 rintro cp fA fw aI aV;have:=aV.size;have hP:=hP.below aV;have ab:=ab.below aV;have aq:=aq.below aV;replace aV:=Below.kp (p:=p) aV;have hb:=hb.trans aV;have:=aI.lt;refine aD j4 rfl rfl (jY p en r g 0 _ 1 [[58]] (by simp) _ hP (aI.rd 1 1 rfl)) rfl ?_;rintro _ eP ⟨rfl,a6⟩;have:=a6.size;have hP:=be.below hP a6;have ab:=ak.below ab a6;have aq:=ak.below aq a6;replace a6:=Below.kp (p:=p) a6;have hb:=hb.trans a6;refine al eM<|cR (X:=EC×(Nat→Prop)×b6×List Tok) (fun (lx,Sl,le,r2)=> [(0,bH p),(3,.pointer (some ⟨au,0,none⟩)),(4,.pointer (some ⟨cV,0,none⟩))]) (fun (lx,Sl,le,r2) wr=>j1 en n k var r=kS en n k var le r2∧r2.length≤ts.length∧Kp p w wr∧be wr p en r2 g 0∧aY wr Sl le lx.cells∧(∀q,Sl q→w.heap.size≤q∧q<wr.heap.size∧q≠au∧q≠cV)∧ak wr au 31 (PC.cells ⟨k,var,0,lx,dE,0,0,none,0,0⟩)∧ak wr cV 31 (PC.cells ⟨0,[],0,dE,dE,0,0,none,0,0⟩)) (fun _ Qa=>?_) ?_
 ·
  refine aO rfl (fun GW=>?_) (fun GW=>?_)
  ·
   have GX:=GW;have h1:bv en [[58]] r=true:=GX;have hr0:=List.length_pos_iff.2 (eB h1);have hrt:r.tail.length=r.length - 1:=List.length_tail;refine am fun fu=>ai rfl<|aD jM rfl rfl (jL p en r g 0 (eB h1) _ hP) rfl ?_
   rintro _ fj ⟨⟨rfl,hP⟩,bk⟩;have:=bk.size;have ab:=ak.kp ab bk (by omega);have aq:=ak.kp aq bk (by omega);have hb:=hb.trans bk;refine al fu<|aQ<|ai rfl<|dQ afw rfl rfl ((QP p en g n 0 _).does _ r.tail (Kp.refl _ _) hP (by omega)) rfl (fun v_ gj cc=>?_) (fun c_ gj cg=>?_)
   rotate_left
   ·
    obtain ⟨Oe,O0,BY,rfl,CD,bD⟩:=cg;have ya:=bD.size;have hb:=hb.trans bD;refine cJ<|cJ<|eH ?_
    exact dY ⟨_,_,by rw [hF];simp only [j1,if_pos h1,BY],rfl,CD,hb⟩
   obtain ⟨⟨le,r2,hFl,⟨lx,Sl,rfl,hl,sm⟩,hP,hrl2⟩,bD⟩:=cc;have ya:=bD.size;have ab:=ab.kp bD (by omega);have aq:=aq.kp bD (by omega);have hb:=hb.trans bD;refine ae (aP (y5 _) rfl) rfl<|yJ (by kernel_rfl) rfl rfl rfl ab (by show 3+7≤20;decide) ?_
   rintro ff ab bc;have:=bc.size;have hb:=bp hb bc (by omega);have hP:=be.over hP bc (by omega);have aq:=aq.over bc (by omega);have hl:=aY.kp hl bc (fun h_=>by have bh:=sm _ h_;omega);refine ay<|a7 Qa (⟨lx,Sl,le,r2⟩) (by repeat first|exact aC|refine aA rfl (by first|rfl|exact aH (by omega)) ?_) ?_
   exact ⟨by simp only [j1,if_pos h1,hFl],by omega,hb,hP,hl,fun q hq=>by have:=sm q hq;omega,ab,aq⟩
  have GX:=GW;have h1:bv en [[58]] r=false:=GX;obtain ⟨lx,Sl,le,r2,heq⟩:∃(a:EC) (b:Nat→Prop) (c:b6) (d:List Tok),a=dE∧b=(fun _=>False)∧c=eC∧d=r:=⟨_,_,_,_,rfl,rfl,rfl,rfl⟩;refine aU<|a7 Qa (⟨lx,Sl,le,r2⟩) (by repeat first|exact aC|refine aA rfl (by first|rfl|exact aH (by omega)) ?_) ?_
  (obtain ⟨e1,e2,e3,e4⟩:=heq;subst e1 e2 e3 e4;exact ⟨if_neg (by rw [h1];decide),hrl,hb,hP,kQ _ _,fun q hq=>hq.elim,ab,aq⟩)
 rintro ⟨lx,Sl,le,r2⟩ wr J1;replace J1:j1 en n k var r=kS en n k var le r2∧r2.length≤ts.length∧Kp p w wr∧be wr p en r2 g 0∧aY wr Sl le lx.cells∧(∀q,Sl q→w.heap.size≤q∧q<wr.heap.size∧q≠au∧q≠cV)∧ak wr au 31 (PC.cells ⟨k,var,0,lx,dE,0,0,none,0,0⟩)∧ak wr cV 31 (PC.cells ⟨0,[],0,dE,dE,0,0,none,0,0⟩):=J1;obtain ⟨hF2,hrl2,hb,hP,hl,sm,ab,aq⟩:=J1;show Wq _ _ _ _ [(0,bH p),(3,.pointer (some ⟨au,0,none⟩)),(4,.pointer (some ⟨cV,0,none⟩))] _;have:=hb.size;have:=ab.lt;have:=aq.lt;refine ax fC<|av fun _ gI=>am fun iW=>ai rfl<|ae (cI rfl) rfl<|ae (aP (fH _) rfl) rfl<|cz (sz:=1) (vs:= [_]) dl (by kernel_rfl) rfl rfl rfl rfl rfl rfl ?_
 rintro cK jB jG aK bA;have:=bA.size;have hP:=hP.below bA;have hl:=hl.below bA;have ab:=ab.below bA;have aq:=aq.below bA;replace bA:=Below.kp (p:=p) bA;have hb:=hb.trans bA;have:=aK.lt;refine aD j4 rfl rfl (jY p en r2 g 0 _ 1 [u5] (by simp) _ hP (aK.rd 1 1 rfl)) rfl ?_;rintro _ lW ⟨rfl,cm⟩;have:=cm.size;have hP:=be.below hP cm;have hl:=aY.below hl cm;have ab:=ak.below ab cm;have aq:=ak.below aq cm;replace cm:=Below.kp (p:=p) cm;have hb:=hb.trans cm;refine al iW<|aO rfl (fun qG=>?_) (fun qG=>?_)
 ·
  have AC:=qG;have h2:bv en [u5] r2=true:=AC;have hr0:=List.length_pos_iff.2 (eB h2);have hrt:r2.tail.length=r2.length - 1:=List.length_tail;refine am fun iK=>ai rfl<|aD jM rfl rfl (jL p en r2 g 0 (eB h2) _ hP) rfl ?_
  rintro _ lX ⟨⟨rfl,hP⟩,cy⟩;have:=cy.size;have hl:=aY.kp hl cy (fun h_=>by have bh:=sm _ h_;omega);have ab:=ak.kp ab cy (by omega);have aq:=ak.kp aq cy (by omega);have hb:=hb.trans cy;refine al iK<|aQ<|ai rfl<|dQ afx rfl rfl ((Ph p en g n 0 _).does _ r2.tail (Kp.refl _ _) hP (by omega)) rfl (fun v_ mh cc=>?_) (fun c_ mh cg=>?_)
  rotate_left
  ·
   obtain ⟨Gu,IU,xf,rfl,xN,cA⟩:=cg;have yb:=cA.size;have hb:=hb.trans cA;refine cJ<|eH ?_
   exact dY ⟨_,_,by rw [hF,hF2];simp only [kS,if_pos h2,xf],rfl,xN,hb⟩
  obtain ⟨⟨we,r3,hFw,⟨wx,Sw,rfl,hw,x7⟩,hP,hrl3⟩,cA⟩:=cc;have yb:=cA.size;have hl:=hl.kp cA (fun h_=>by have bh:=sm _ h_;omega);have ab:=ab.kp cA (by omega);have aq:=aq.kp cA (by omega);have hb:=hb.trans cA;refine ae (aP (wO _) rfl) rfl<|yJ (by kernel_rfl) rfl rfl rfl ab (by show 10+7≤20;decide) ?_
  rintro gB ab bz;have:=bz.size;have hb:=bp hb bz (by omega);have hP:=be.over hP bz (by omega);have hl:=aY.kp hl bz (fun h_=>by have bh:=sm _ h_;omega);have aq:=aq.over bz (by omega);have hw:=aY.kp hw bz (fun h_=>by have bh:=x7 _ h_;omega);refine al gI<|am fun kl=>aG (cr dc (by kernel_rfl) rfl (by exact fun j u hu=>ab.at hu)) rfl ?_
  refine ba (by kernel_rfl) rfl rfl aq rfl rfl ?_;rintro j7 aq cd;have abW:=cd.size;have hb:=bp hb cd (by omega);have hP:=be.over hP cd (by omega);have hl:=aY.kp hl cd (fun h_=>by have bh:=sm _ h_;omega);have hw:=aY.kp hw cd (fun h_=>by have bh:=x7 _ h_;omega);refine al kl<|aJ<|bQ (rs:= [.cell 4 31]) (vs:= [_]) rfl (.cell rfl (bP dc (by kernel_rfl) (fun j u hu=>aq.at hu)) .nil) ?_
  exact eY ⟨⟨_,r3,by rw [hF,hF2];simp only [kS,if_pos h2,hFw],⟨⟨k,var,0,lx,wx,0,0,none,0,0⟩,fun q=>Sl q∨Sw q,rfl,vd (hl.mono fun _ h=> .inl h) (hw.mono fun _ h=> .inr h),fun q hq=>by rcases hq with h|h;(· have:=sm q h;omega);(· have:=x7 q h;omega)⟩,hP,by omega⟩,hb⟩
 have AC:=qG;have h2:bv en [u5] r2=false:=AC;refine aU<|ax gI<|am fun m6=>aG (cr dc (by kernel_rfl) rfl (by exact fun j u hu=>ab.at hu)) rfl ?_
 refine ba (by kernel_rfl) rfl rfl aq rfl rfl ?_;rintro j7 aq cd;have abW:=cd.size;have hb:=bp hb cd (by omega);have hP:=be.over hP cd (by omega);have hl:=aY.kp hl cd (fun h_=>by have bh:=sm _ h_;omega);refine al m6<|aJ<|bQ (rs:= [.cell 4 31]) (vs:= [_]) rfl (.cell rfl (bP dc (by kernel_rfl) (fun j u hu=>aq.at hu)) .nil) ?_
 exact eY ⟨⟨_,r2,by rw [hF,hF2];exact if_neg (by rw [h2];decide),⟨⟨k,var,0,lx,dE,0,0,none,0,0⟩,Sl,rfl,vd hl (kQ _ _),fun q hq=>by have:=sm q hq;omega⟩,hP,hrl2⟩,hb⟩
end Go.Proofs.YtjdjliiolchciaaGreatDoor
namespace Go.Proofs.YtjdjliiolchciaaGreatDoor
open Go.RowKit Go.Bw Go.Bw.Fl
set_option linter.unusedVariables false
set_option linter.unusedSimpArgs false
theorem T0:bB Tryz.prog 98:=⟨_,Tryz.func98,by kernel_rfl,rfl⟩
theorem T1:bB Tryz.prog 99:=⟨_,Tryz.func99,by kernel_rfl,rfl⟩
theorem Me {k:ao}:∀{kv:List (ao×Value)},(∀q∈kv,q.1≠k)→mP kv k=none
 | [],_=>rfl
 |(a,v) :: r,h=>by
  have h1:(a==k)=false:=beq_eq_false_iff_ne.2 (h (a,v) (List.mem_cons_self ..));have h2:=Me (kv:=r) (k:=k) fun q hq=>h q (List.mem_cons_of_mem _ hq);unfold mP at h2 ⊢;rw [List.find?_cons,h1];exact h2
def SU:List (ao×Value):= [([45,62],.int .i64 4),([60,45],.int .i64 1),([126],.int .i64 2),([60,45,62],.int .i64 5),([60,126],.int .i64 3),([126,62],.int .i64 6),([45],.int .i64 7)]
theorem aeA (s:ao):(mP SU s).getD (.int .i64 0)= .int .i64 (mf s):=by
 by_cases h1:s= [45,62]
 · subst h1;rfl
 by_cases h2:s= [60,45]
 · subst h2;rfl
 by_cases h3:s= [126]
 · subst h3;rfl
 by_cases h4:s= [60,45,62]
 · subst h4;rfl
 by_cases h5:s= [60,126]
 · subst h5;rfl
 by_cases h6:s= [126,62]
 · subst h6;rfl
 by_cases h7:s= [45]
 · subst h7;rfl
 rw [Me (by
  intro q hq e
  simp only [SU,List.mem_cons,List.not_mem_nil,or_false] at hq
  rcases hq with rfl|rfl|rfl|rfl|rfl|rfl|rfl<;>simp_all)]
 unfold mf;simp only [if_neg h1,if_neg h2,if_neg h3,if_neg h4,if_neg h5,if_neg h6,if_neg h7]
 rfl
theorem SV (s:ao) (w:World):bx Tryz.prog 99 [str s] w fun v w'=>v= .int .i64 (mf s)∧Below w.heap.size w w':=by
 have hb:=Below.refl w.heap.size w;refine enter Tryz.func99 rfl rfl rfl<|am fun aR=>an rfl<|al aR<|am fun bt=>vt rfl ?_
 rintro cV mU mK Lp cT;have:=cT.size;have hb:=aZ hb cT;have eG:=Lp;have:=eG.lt;refine kw mS bI rfl rfl rfl eG (by rfl) ?_;rintro ks CK jH;have:=jH.size;have hb:=cf hb jH hb.size (by omega);have eG:=CK;refine kw mS bI rfl rfl rfl eG (by rfl) ?_;rintro F2 CL rv;have:=rv.size;have hb:=cf hb rv hb.size (by omega);have eG:=CL;refine kw mS bI rfl rfl rfl eG (by rfl) ?_;rintro Ad Lr rx;have:=rx.size;have hb:=cf hb rx hb.size (by omega);have eG:=Lr;refine kw mS bI rfl rfl rfl eG (by rfl) ?_;rintro Nt abC CG;have:=CG.size;have hb:=cf hb CG hb.size (by omega);have eG:=abC;refine kw mS bI rfl rfl rfl eG (by rfl) ?_;rintro tV Ls oF;have:=oF.size;have hb:=cf hb oF hb.size (by omega);have eG:=Ls;refine kw mS bI rfl rfl rfl eG (by rfl) ?_;rintro Nu Lt CH;have:=CH.size;have hb:=cf hb CH hb.size (by omega);have eG:=Lt;refine kw mS bI rfl rfl rfl eG (by rfl) ?_;rintro Ae Lu qf;have:=qf.size;have hb:=cf hb qf hb.size (by omega);have eG:=Lu;refine ai rfl<|ai rfl<|aG (QM (z:=(.int .i64 0)) mS bI (by kernel_rfl) rfl rfl (by exact eG)) rfl<|an rfl<|al bt<|aJ<|bN rfl rfl ?_
 exact ⟨_,rfl,aeA s,hb⟩
def uu (l:List (ao×Int)):List (ao×Value):=l.map fun q=>(q.1,.int .i64 q.2)
def tY (w:World) (B:Nat) (s:ao) (A:Option Nat):Prop:=(A=none∧nA s= [])∨∃g,A=some g∧Mp w g (uu (nA s))∧nA s≠ []∧B≤g
theorem tY.some {w:World} {B:Nat} {s:ao} {A:Option Nat} (h:tY w B s A):A.isSome=decide (nA s≠ []):=by
 rcases h with ⟨h1,h2⟩|⟨g,h1,h2,h3,h4⟩
 · rw [h1,h2];rfl
 · rw [h1];simp [h3]
theorem YC {w:World} {B g1 g2 g3 g4:Nat} (s:ao) (h1:Mp w g1 (uu [([93,45,62],4),([93,45],7)])) (h2:Mp w g2 (uu [([93,45],1),([93,45,62],5)])) (h3:Mp w g3 (uu [([93,126],2),([93,126,62],6)])) (h4:Mp w g4 (uu [([93,126],3)])) (hB1:B≤g1) (hB2:B≤g2) (hB3:B≤g3) (hB4:B≤g4):
 ∃A,(mP [([45,91],.map (some g1)),([60,45,91],.map (some g2)),([126,91],.map (some g3)),([60,126,91],.map (some g4))] s).getD (.map none)= .map A∧tY w B s A:=by
 by_cases e1:s= [45,91]
 · subst e1;exact ⟨some g1,rfl,.inr ⟨g1,rfl,h1,by decide,hB1⟩⟩
 by_cases e2:s= [60,45,91]
 · subst e2;exact ⟨some g2,rfl,.inr ⟨g2,rfl,h2,by decide,hB2⟩⟩
 by_cases e3:s= [126,91]
 · subst e3;exact ⟨some g3,rfl,.inr ⟨g3,rfl,h3,by decide,hB3⟩⟩
 by_cases e4:s= [60,126,91]
 · subst e4;exact ⟨some g4,rfl,.inr ⟨g4,rfl,h4,by decide,hB4⟩⟩
 rw [Me (by
  intro q hq e
  simp only [List.mem_cons,List.not_mem_nil,or_false] at hq
  rcases hq with rfl|rfl|rfl|rfl<;>simp_all)]
 exact ⟨none,rfl,.inl ⟨rfl,by unfold nA;simp only [if_neg e1,if_neg e2,if_neg e3,if_neg e4]⟩⟩
theorem O3 (s:ao) (w:World):bx Tryz.prog 98 [str s] w fun v w'=>(∃A,v= .map A∧tY w' w.heap.size s A)∧Below w.heap.size w w':=by
 have hb:=Below.refl w.heap.size w;refine enter Tryz.func98 rfl rfl rfl<|am fun aR=>an rfl<|al aR<|am fun bt=>vt rfl ?_
 rintro cV mU mK Lp cT;have:=cT.size;have hb:=aZ hb cT;have eG:=Lp;have:=eG.lt;refine vt rfl ?_;rintro dq ks jH CK ck;have:=ck.size;have hb:=aZ hb ck;have eG:=Mp.below eG ck;have hJ:=CK;have:=hJ.lt;refine kw mS bI rfl rfl rfl hJ (by rfl) ?_;rintro F2 CL rv;have:=rv.size;have hb:=cf hb rv hb.size (by omega);have eG:=eG.over rv (by omega);have hJ:=CL;refine kw mS bI rfl rfl rfl hJ (by rfl) ?_;rintro Ad Lr rx;have:=rx.size;have hb:=cf hb rx hb.size (by omega);have eG:=eG.over rx (by omega);have hJ:=Lr;refine ai rfl<|kw Dx bI rfl rfl rfl eG (by rfl) ?_
 rintro tV Ls oF;have:=oF.size;have hb:=cf hb oF hb.size (by omega);have hJ:=hJ.over oF (by omega);have eG:=Ls;refine vt rfl ?_;rintro oy Nu CH Lt ko;have:=ko.size;have hb:=aZ hb ko;have eG:=Mp.below eG ko;have hJ:=Mp.below hJ ko;have km:=Lt;have:=km.lt;refine kw mS bI rfl rfl rfl km (by rfl) ?_;rintro Ae Lu qf;have:=qf.size;have hb:=cf hb qf hb.size (by omega);have eG:=eG.over qf (by omega);have hJ:=hJ.over qf (by omega);have km:=Lu;refine kw mS bI rfl rfl rfl km (by rfl) ?_;rintro aiy abD Ff;have:=Ff.size;have hb:=cf hb Ff hb.size (by omega);have eG:=eG.over Ff (by omega);have hJ:=hJ.over Ff (by omega);have km:=abD;refine ai rfl<|kw Dx bI rfl rfl rfl eG (by rfl) ?_
 rintro Uk abq zo;have:=zo.size;have hb:=cf hb zo hb.size (by omega);have hJ:=hJ.over zo (by omega);have km:=km.over zo (by omega);have eG:=abq;refine vt rfl ?_;rintro nN F0 Fb abr fE;have:=fE.size;have hb:=aZ hb fE;have eG:=Mp.below eG fE;have hJ:=Mp.below hJ fE;have km:=Mp.below km fE;have oE:=abr;have:=oE.lt;refine kw mS bI rfl rfl rfl oE (by rfl) ?_;rintro agI abs zp;have:=zp.size;have hb:=cf hb zp hb.size (by omega);have eG:=eG.over zp (by omega);have hJ:=hJ.over zp (by omega);have km:=km.over zp (by omega);have oE:=abs;refine kw mS bI rfl rfl rfl oE (by rfl) ?_;rintro aip abt CF;have:=CF.size;have hb:=cf hb CF hb.size (by omega);have eG:=eG.over CF (by omega);have hJ:=hJ.over CF (by omega);have km:=km.over CF (by omega);have oE:=abt;refine ai rfl<|kw Dx bI rfl rfl rfl eG (by rfl) ?_
 rintro Nr abu xR;have:=xR.size;have hb:=cf hb xR hb.size (by omega);have hJ:=hJ.over xR (by omega);have km:=km.over xR (by omega);have oE:=oE.over xR (by omega);have eG:=abu;refine vt rfl ?_;rintro xd agJ aaO abv pB;have:=pB.size;have hb:=aZ hb pB;have eG:=Mp.below eG pB;have hJ:=Mp.below hJ pB;have km:=Mp.below km pB;have oE:=Mp.below oE pB;have zm:=abv;have:=zm.lt;refine kw mS bI rfl rfl rfl zm (by rfl) ?_;rintro agK abw xS;have:=xS.size;have hb:=cf hb xS hb.size (by omega);have eG:=eG.over xS (by omega);have hJ:=hJ.over xS (by omega);have km:=km.over xS (by omega);have oE:=oE.over xS (by omega);have zm:=abw;refine ai rfl<|kw Dx bI rfl rfl rfl eG (by rfl) ?_
 rintro Ul Lq uK;have:=uK.size;have hb:=cf hb uK hb.size (by omega);have hJ:=hJ.over uK (by omega);have km:=km.over uK (by omega);have oE:=oE.over uK (by omega);have zm:=zm.over uK (by omega);have eG:=Lq;refine ai rfl<|ai rfl<|aG (QM (z:=(.map none)) Dx bI (by kernel_rfl) rfl rfl (by exact eG)) rfl<|an rfl<|al bt<|aJ<|bN rfl rfl ?_
 exact ⟨_,rfl,YC s hJ km oE zm (by omega) (by omega) (by omega) (by omega),hb⟩
theorem Om (p en:Nat) (ts:List Tok) (g b:Nat) (w:World) (hP:be w p en ts g b):bx Tryz.prog 72 [bH p] w fun v w'=>v= .bool (iS en ts)∧Below w.heap.size w w':=by
 have hb:=Below.refl w.heap.size w;have jF:=hP;refine enter Tryz.func72 rfl rfl rfl<|am fun aR=>an rfl<|al aR<|am fun bt=>ai rfl<|ae (cI rfl) rfl<|ae (aP (fH _) rfl) rfl<|aD qt rfl rfl (st p en ts g b _ hP) rfl ?_
 rintro _ cB ⟨rfl,aw⟩;have:=aw.size;have hb:=aZ hb aw;have hP:=jF.below hb;refine bT (z:=fx) (by kernel_rfl) rfl ?_;rintro kE Ad rx bZ gv;have:=gv.size;have hb:=aZ hb gv;have hP:=jF.below hb;have:=bZ.lt;refine ba (by kernel_rfl) rfl rfl bZ rfl rfl ?_;rintro du bZ aF;have:=aF.size;have hb:=cf hb aF hb.size (by omega);have hP:=jF.below hb;refine al bt<|am fun dW=>ai rfl<|ae (cI rfl) rfl<|ae (aP (fH _) rfl) rfl<|cz (sz:=1) (vs:= [_,_]) dl (by kernel_rfl) rfl rfl rfl rfl rfl rfl ?_
 rintro cp fA fw aI aV;have:=aV.size;have hb:=aZ hb aV;have hP:=jF.below hb;have bZ:=ak.below bZ aV;have:=aI.lt;refine aD j4 rfl rfl (jY p en ts g b _ 2 [[40],[91]] (by simp) _ hP (aI.rd 2 1 rfl)) rfl ?_;rintro _ cU ⟨rfl,aL⟩;have:=aL.size;have hb:=aZ hb aL;have hP:=jF.below hb;have bZ:=ak.below bZ aL;refine ai rfl<|dy rfl rfl rfl (fun ov=>?_) (fun ov=>?_)
 ·
  have eF:=ov;refine az rfl rfl eF rfl rfl<|az rfl rfl eF rfl rfl<|az rfl rfl eF rfl rfl<|bY rfl rfl rfl<|bY rfl rfl rfl<|bY rfl rfl rfl<|bY rfl rfl rfl<|bY rfl rfl rfl<|bY rfl rfl rfl<|bY rfl rfl rfl<|bY rfl rfl rfl<|bY rfl rfl rfl<|bY rfl rfl rfl<|az rfl rfl eF rfl rfl<|ae (bo rfl eF rfl) rfl<|an rfl<|al dW<|aJ<|bN rfl rfl ?_
  exact ⟨_,rfl,a8 (by unfold iS;rw [Bool.eq_iff_iff];simp_all<;>omega),hb⟩
 have eF:=ov;refine ae (aP (wQ _) rfl) rfl<|ap rfl rfl eF<|aG (aS b0 rfl (by exact bZ.at (j:=0) rfl)) rfl<|ap rfl rfl eF<|ae (bX rfl rfl) rfl<|ap rfl rfl eF<|ai rfl<|cG rfl rfl rfl (fun iH=>?_) (fun iH=>?_)
 ·
  refine ae (aP (r8 _) rfl) rfl<|ap rfl rfl iH<|aG (aS di rfl (by exact bZ.at (j:=1) rfl)) rfl<|ap rfl rfl iH<|aD T0 rfl rfl (O3 (aN en ts).t _) rfl ?_
  rintro _ eP ⟨⟨A,rfl,hA⟩,a6⟩;have:=a6.size;have hb:=aZ hb a6;have hP:=jF.below hb;have bZ:=ak.below bZ a6;refine ap rfl rfl iH ?_;have hA2:=hA.some;refine ae (ahc mS rfl) rfl<|ap rfl rfl iH<|ai rfl<|dy rfl rfl rfl (fun Jd=>?_) (fun Jd=>?_)
  ·
   have ta:=Jd;refine az rfl rfl ta rfl rfl<|az rfl rfl ta rfl rfl<|az rfl rfl ta rfl rfl<|ap rfl rfl iH<|ae (bo rfl ta rfl) rfl<|ap rfl rfl eF<|ae (bo rfl iH rfl) rfl<|ae (bj rfl eF rfl) rfl<|an rfl<|al dW<|aJ<|bN rfl rfl ?_
   exact ⟨_,rfl,a8 (by unfold iS;rw [Bool.eq_iff_iff];simp_all<;>omega),hb⟩
  have ta:=Jd;refine ae (aP (r8 _) rfl) rfl<|ap rfl rfl ta<|aG (aS di rfl (by exact bZ.at (j:=1) rfl)) rfl<|ap rfl rfl ta<|aD T1 rfl rfl (SV (aN en ts).t _) rfl ?_
  rintro _ fj ⟨rfl,bk⟩;have:=bk.size;have hb:=aZ hb bk;have hP:=jF.below hb;refine ap rfl rfl ta<|ae (ed rfl rfl) rfl<|ap rfl rfl iH<|ae (bj rfl ta rfl) rfl<|ap rfl rfl eF<|ae (bo rfl iH rfl) rfl<|ae (bj rfl eF rfl) rfl<|an rfl<|al dW<|aJ<|bN rfl rfl ?_
  exact ⟨_,rfl,a8 (by unfold iS;rw [Bool.eq_iff_iff];simp_all<;>omega),hb⟩
 refine az rfl rfl iH rfl rfl<|az rfl rfl iH rfl rfl<|az rfl rfl iH rfl rfl<|az rfl rfl iH rfl rfl<|bY rfl rfl rfl<|bY rfl rfl rfl<|bY rfl rfl rfl<|bY rfl rfl rfl<|az rfl rfl iH rfl rfl<|ap rfl rfl eF<|ae (bj rfl iH rfl) rfl<|ae (bj rfl eF rfl) rfl<|an rfl<|al dW<|aJ<|bN rfl rfl ?_
 exact ⟨_,rfl,a8 (by unfold iS;rw [Bool.eq_iff_iff];simp_all<;>omega),hb⟩
theorem y4 (p:Addr) (w:World):(Instr.fieldAt 31 (.pointer (some p)) 2).run Tryz.prog w= .ok (.pointer (some (p.add 2))) w:=eT (i:=2) (sz:=0) dc rfl (by kernel_rfl) p w
theorem YW (p:Addr) (w:World):(Instr.fieldAt 49 (.pointer (some p)) 1).run Tryz.prog w= .ok (.pointer (some (p.add 2))) w:=eT (i:=1) (sz:=0) FZ rfl (by kernel_rfl) p w
theorem Tu:bB Tryz.prog 133:=⟨_,Tryz.func133,by kernel_rfl,rfl⟩
theorem TM:bB Tryz.prog 26:=⟨_,Tryz.func26,by kernel_rfl,rfl⟩
theorem TY:bB Tryz.prog 72:=⟨_,Tryz.func72,by kernel_rfl,rfl⟩
theorem tY.below {w w':World} {B:Nat} {s:ao} {A:Option Nat} (h:tY w B s A) (hb:Below w.heap.size w w'):tY w' B s A:=by
 rcases h with h|⟨g,h1,h2,h3,h4⟩
 · exact .inl h
 · exact .inr ⟨g,h1,h2.below hb,h3,h4⟩
theorem Yq (o c:ao):mP (uu (nA o)) c=(jS o c).map fun d=>Value.int .i64 d:=by
 unfold jS
 generalize nA o=l
 induction l with
 |nil=>rfl
 |cons q r ih=>
  obtain ⟨k,d⟩:=q;unfold mP uu at ih ⊢;rw [List.map_cons,List.find?_cons,List.find?_cons];dsimp only
  cases k==c with
  |true=>rfl
  |false=>exact ih
theorem ach {N:Nat} {D:List Deferred} {env:eR} {w:World} {x i:Operand} {ty:TypeId} {g:Nat} {o c:ao} (hx:ev env x=some (.map (some g))) (hi:ev env i=some (str c)) (hm:Mp w g (uu (nA o))):Ld Tryz.prog N D env w (.lookup 135 x i true) ty (.tuple #[.int .i64 ((jS o c).getD 0),.bool (jS o c).isSome]):=by
 have h:=ack (N:=N) (D:=D) (ty:=ty) (z:= .int .i64 0) mS bI (by kernel_rfl) hx hi hm;rw [Yq] at h
 cases hd:jS o c with
 |none=>rw [hd] at h;exact h
 |some d=>rw [hd] at h;exact h
theorem bi.setDir {w:World} {S:Nat→Prop} {x:bS} {z:PC} (d:Int) (h:bi w S x z.cells):bi w S (x.setDir d) (PC.cells {z with dir:=d}):=by
 obtain ⟨k,var,dir,l,wh,mn,mx,kids⟩:=x;show bi w S (.mk k var d l wh mn mx kids) _;unfold bi at h ⊢;obtain ⟨lc,wc,A,c,kcs,h1,h2⟩:=h;exact ⟨lc,wc,A,c,kcs,congrArg (fun l=>l.set 2 (.int .i64 d)) h1,h2⟩
theorem Ol {en:Nat} {ts:List Tok} (h:iS en ts=true) (h1:(aN en ts).t≠ [40]) (h2:(aN en ts).t≠ [91]) (h3:¬0<mf (aN en ts).t):nA (aN en ts).t≠ []:=by
 unfold iS at h
 rcases Bool.or_eq_true _ _ ▸ h with h|h
 · have:=qi h
   simp [h1,h2] at this
 · rcases (of_decide_eq_true h).2 with h|h
   · exact h
   · exact absurd h h3
theorem yM {en:Nat} {ts:List Tok} (h:iS en ts=true):ts≠ []:=fun e=>by
 subst e;unfold iS at h
 rcases Bool.or_eq_true _ _ ▸ h with h|h
 · exact eB h rfl
 · exact absurd (of_decide_eq_true h).1 (by show ¬(0=5);decide)
abbrev er:PC:=⟨0,[],0,dE,dE,0,0,none,0,0⟩
abbrev vg (w:World) (p en n:Nat) (knot:Nat→List Tok→cn bS):Prop:=∀g',iv w p en g' 0 n 26 #[bH p] #[] (knot g') pT
theorem vg.kp {w w':World} {p en n:Nat} {knot:Nat→List Tok→cn bS} (h:vg w p en n knot) (hk:Kp p w w'):vg w' p en n knot:=fun g'=>(h g').kp hk
theorem adB (p en:Nat) (ts:List Tok) (g m n:Nat) (knot:Nat→List Tok→cn bS) (hm:ts.length≤m) (hn:ts.length≤n) (w:World) (hP:be w p en ts g 0) (hD:vg w p en n knot):gC Tryz.prog 96 [bH p] w (iR w p en g 0 ts.tail (gS en m g knot ts) (pT w.heap.size)) (iD w p en g 0 (gS en m g knot ts)):=by
 have hpl:=hP.lt;have hb:=Kp.refl p w;refine IV Tryz.func96 rfl rfl rfl<|fg fun _ aR=>aQ<|bT (z:=hY) (by kernel_rfl) rfl ?_
 rintro au dJ dH ab aM;have:=aM.size;have hP:=hP.below aM;replace aM:=Below.kp (p:=p) aM;have hb:=hb.trans aM;have:=ab.lt;refine ay<|e9 aR<|fg fun _ bt=>fg fun _ b8=>aQ<|ai rfl<|aD TY rfl rfl (Om p en ts g 0 _ hP) rfl ?_
 rintro _ cB ⟨rfl,aw⟩;have:=aw.size;have hP:=be.below hP aw;have ab:=ak.below ab aw;replace aw:=Below.kp (p:=p) aw;have hb:=hb.trans aw;refine ae (jd rfl) rfl<|ay<|e9 b8<|aO rfl (fun d7=>?_) (fun d7=>?_)
 ·
  have h0:iS en ts=false:=by have:=d7;simpa using this
  refine aQ<|ai rfl<|dQ z6 rfl rfl (y8 p en ts g 0 _ hP) rfl (fun v_ cU cc=>?_) (fun c_ cU cg=>?_)
  rotate_left
  ·
   obtain ⟨pW,p4,kF,rfl,lg,aL⟩:=cg;have:=aL.size;have hb:=hb.trans aL;refine cJ<|uc ?_
   cases kF;exact dY ⟨_,_,by simp only [gS,if_pos h0],rfl,lg,hb⟩
  exact cc.elim
 have h0:iS en ts=true:=by have:=d7;simpa using this
 have h0':¬iS en ts=false:=by rw [h0];decide
 have hne:=yM h0;have hr0:=List.length_pos_iff.2 hne;have hrt:ts.tail.length=ts.length - 1:=List.length_tail;refine aU<|e9 bt<|fg fun _ dT=>aQ<|ai rfl<|aD jM rfl rfl (jL p en ts g 0 hne _ hP) rfl ?_
 rintro _ eP ⟨⟨rfl,hP⟩,a6⟩;have:=a6.size;have ab:=ak.kp ab a6 (by omega);have hb:=hb.trans a6;refine bT (z:=fx) (by kernel_rfl) rfl ?_;rintro EY Nt CG dF mL;have:=mL.size;have hP:=hP.below mL;have ab:=ab.below mL;replace mL:=Below.kp (p:=p) mL;have hb:=hb.trans mL;have:=dF.lt;refine ba (by kernel_rfl) rfl rfl dF rfl rfl ?_;rintro du dF aF;have:=aF.size;have hb:=bp hb aF (by omega);have hP:=be.over hP aF (by omega);have ab:=ab.over aF (by omega);refine ay<|e9 dT<|fg fun _ eL=>fg fun _ gH=>aQ<|ae (aP (r8 _) rfl) rfl<|aG (aS di rfl (by exact dF.at (j:=1) rfl)) rfl<|ay<|e9 gH<|b4<|fg fun _ fC=>aQ<|ae (fl rfl rfl) rfl<|an rfl<|ay<|e9 fC<|aO rfl (fun nt=>?_) (fun nt=>?_)
 ·
  have GV:=nt;simp only [DZ] at nt;have h1:(aN en ts).t= [40]:=by have:=nt;simpa using this
  refine fg fun _ gr=>aQ<|ai rfl<|ae (cC (z:=n7) (pl:=n8) (cs:= [_,_,_,_,_,_,_,_,_,_,_,_,_,_,_,_,_,_,_,_]) dc (by kernel_rfl) (by kernel_rfl) rfl rfl rfl) rfl<|dQ Tu rfl rfl (Pw p en ts.tail g m 1 (by omega) _ hP) rfl (fun v_ fj cc=>?_) (fun c_ fj cg=>?_)
  rotate_left
  ·
   obtain ⟨vu,wN,nO,rfl,nW,bk⟩:=cg;have mM:=bk.size;have hb:=hb.trans bk;refine cJ<|jh<|cJ<|uc ?_
   exact dY ⟨_,_,by simp only [gS,if_neg h0',if_pos h1,nO],rfl,nW,hb⟩
  obtain ⟨⟨x,r,hF,⟨z,Sz,rfl,hz,aT⟩,hP,hrl⟩,bk⟩:=cc;have mM:=bk.size;have ab:=ab.kp bk (by omega);have hb:=hb.trans bk;refine bT (z:=hY) (by kernel_rfl) rfl ?_;rintro Zg Uk zo pi n4;have:=n4.size;have hP:=hP.below n4;have ab:=ab.below n4;have hz:=hz.below n4;replace n4:=Below.kp (p:=p) n4;have hb:=hb.trans n4;have:=pi.lt;refine ba (by kernel_rfl) rfl rfl pi rfl rfl ?_;rintro ff pi bc;have:=bc.size;have hb:=bp hb bc (by omega);have hP:=be.over hP bc (by omega);have ab:=ab.over bc (by omega);have hz:=bi.kp hz bc (fun h_=>by have bh:=aT _ h_;omega);refine ay<|e9 gr<|fg fun _ fu=>aQ<|ai rfl<|dQ zX rfl rfl (zU p en [41] r g 0 _ hP) rfl (fun v_ gj cc=>?_) (fun c_ gj cg=>?_)
  rotate_left
  ·
   obtain ⟨Oe,O0,BY,rfl,CD,bD⟩:=cg;have ya:=bD.size;have hb:=hb.trans bD;refine cJ<|jh<|cJ<|uc ?_
   exact dY ⟨_,_,by simp only [gS,if_neg h0',if_pos h1,hF,BY],rfl,CD,hb⟩
  obtain ⟨⟨t4,r4,hF4,rfl,hP,hrl4⟩,bD⟩:=cc;have ya:=bD.size;have ab:=ab.kp bD (by omega);have hz:=hz.kp bD (fun h_=>by have bh:=aT _ h_;omega);have pi:=pi.kp bD (by omega);have hb:=hb.trans bD;refine ay<|e9 fu<|fg fun _ k8=>?_
  refine aQ ?_;refine aG (cr dc (by kernel_rfl) rfl (by exact fun j u hu=>pi.at hu)) rfl ?_;refine ba (by kernel_rfl) rfl rfl ab rfl rfl ?_;rintro gB ab bz;have:=bz.size;have hb:=bp hb bz (by omega);have hP:=be.over hP bz (by omega);have hz:=bi.kp hz bz (fun h_=>by have bh:=aT _ h_;omega);refine ay<|e9 k8<|aJ<|co (aX ?_)
  refine Ec<|bQ (rs:= [.cell 2 31]) (vs:= [_]) rfl (.cell rfl (bP dc (by kernel_rfl) (fun j u hu=>ab.at hu)) .nil) ?_
  exact eY ⟨⟨x,r4,by simp only [gS,if_neg h0',if_pos h1,hF,hF4],⟨z,Sz,rfl,hz,fun k hk=>by have:=aT k hk;omega⟩,hP,by omega⟩,hb⟩
 have GV:=nt;simp only [DZ] at nt;have h1:(aN en ts).t≠ [40]:=by have:=nt;simpa using this
 refine fg fun _ kG=>aQ<|ae (fl rfl rfl) rfl<|an rfl<|ay<|e9 kG<|aO rfl (fun nv=>?_) (fun nv=>?_)
 ·
  have Hf:=nv;simp only [DZ] at nv;have h2:(aN en ts).t= [91]:=by have:=nv;simpa using this
  refine fg fun _ kH=>jg (n:=7) (fun w'=>Kp p w w'∧ak w' EY 65 [.int .i64 ((aN en ts).k:Int),str (aN en ts).t,.int .i64 ((aN en ts).a:Int)]∧∃cs,ak w' au 31 cs) #[aj,aj,aj,aj,aj,aj,aj] (by kernel_rfl) rfl (by kernel_rfl)<|jf ?_
  rintro Ac fo;have:=fo.size;have hP:=hP.below fo;have ab:=ab.below fo;have dF:=dF.below fo;replace fo:=Below.kp (p:=p) fo;have hb:=hb.trans fo;refine bC (i:=0) #[ah,aj,aj,aj,aj,aj,aj] rfl (by kernel_rfl) (fun _ _ _ h=>kO rfl rfl h) rfl (fun wq hq=>bU (dN rfl)) ⟨hb,dF,_,ab⟩<|bC (i:=1) #[ah,ah,aj,aj,aj,aj,aj] rfl (by kernel_rfl) (fun _ _ _ h=>kO rfl rfl h) rfl (fun wq hq=>bU (cI rfl)) ⟨hb,dF,_,ab⟩<|bC (i:=2) #[ah,ah,ah,aj,aj,aj,aj] rfl (by kernel_rfl) (fun _ _ _ h=>kO rfl rfl h) rfl (fun wq hq=>bU (aP (YW _) rfl)) ⟨hb,dF,_,ab⟩<|bC (i:=3) #[ah,ah,ah,ah,aj,aj,aj] rfl (by kernel_rfl) (fun _ _ _ h=>kO rfl rfl h) rfl (fun wq hq=>bU (aP (qQ _) rfl)) ⟨hb,dF,_,ab⟩<|bC (i:=4) #[ah,ah,ah,ah,ah,aj,aj] rfl (by kernel_rfl) (fun _ _ _ h=>kO rfl rfl h) rfl (fun wq hq=>aS b0 rfl (by obtain ⟨hq,dF,_,ab⟩:=hq;exact dF.at (j:=2) rfl)) ⟨hb,dF,_,ab⟩<|cM (rs:= [5]) (by kernel_rfl) rfl<|qB #[ah,ah,ah,ah,ah,ah,aj] rfl rfl (fun _ iK=>?_) ?_
  ·
   refine dQ Tv rfl rfl (agS p en ts.tail g 0 (aN en ts).a _ hP) rfl (fun v_ lW cc=>?_) (fun c_ lW cg=>?_)
   rotate_left
   ·
    obtain ⟨ahs,ahH,Zr,rfl,aaI,cm⟩:=cg;have LH:=cm.size;have hb:=hb.trans cm;refine cJ<|cJ<|jh<|cJ<|uc ?_
    obtain ⟨h50,bM,kn⟩:=Zr;subst bM;subst kn;exact dY ⟨_,_,by simp only [gS,if_neg h0',if_neg h1,if_pos h2,if_pos h50],rfl,aaI,hb⟩
   obtain ⟨⟨gx,rfl,hBx,hgx,hP,hg50⟩,cm⟩:=cc;have LH:=cm.size;have ab:=ab.kp cm (by omega);have dF:=dF.kp cm (by omega);have hb:=hb.trans cm;have hlx:=hBx.lt;have hng:¬50≤g:=by omega
   refine ay<|qA iK ⟨hb,dF,_,ab⟩<|cM (rs:= [6]) (by kernel_rfl) rfl<|qB #[ah,ah,ah,ah,ah,ah,ah] rfl rfl (fun _ mD=>?_) ?_
   ·
    refine Gn rfl rfl<|ay<|qA mD ⟨hb,dF,_,ab⟩<|fB (by kernel_rfl)<|e9 kH<|fg fun _ oB=>aQ<|ai rfl<|dQ TM rfl rfl ((hD (g+1)).does _ ts.tail hb hP (by omega)) rfl (fun v_ lX cc=>?_) (fun c_ lX cg=>?_)
    rotate_left
    ·
     obtain ⟨WN,YA,Jo,rfl,Lc,cy⟩:=cg;have CR:=cy.size;have hBx:=hBx.kp cy (by omega);have hb:=hb.trans cy;refine cJ<|jh<|cJ<|Ed z8 (RL Lc hg50 (by omega) hBx) (fun w_d hS=>?_)
     exact dY ⟨_,_,by simp only [gS,if_neg h0',if_neg h1,if_pos h2,if_neg hng,Jo],rfl,hS.1,hb.trans hS.2⟩
    obtain ⟨⟨x,r,hF,⟨z,Sz,rfl,hz,aT⟩,hP,hrl⟩,cy⟩:=cc;have CR:=cy.size;have ab:=ab.kp cy (by omega);have hBx:=hBx.kp cy (by omega);have hb:=hb.trans cy;refine bT (z:=hY) (by kernel_rfl) rfl ?_;rintro mz F1 Lg fc io;have:=io.size;have hP:=hP.below io;have ab:=ab.below io;have hBx:=hBx.below io;have hz:=hz.below io;replace io:=Below.kp (p:=p) io;have hb:=hb.trans io;have:=fc.lt;refine ba (by kernel_rfl) rfl rfl fc rfl rfl ?_;rintro j7 fc cd;have:=cd.size;have hb:=bp hb cd (by omega);have hP:=be.over hP cd (by omega);have ab:=ab.over cd (by omega);have hBx:=hBx.over cd (by omega);have hz:=bi.kp hz cd (fun h_=>by have bh:=aT _ h_;omega);refine ay<|e9 oB<|fg fun _ pn=>aQ<|ai rfl<|dQ zX rfl rfl (zU p en [93] r (g+1) 0 _ hP) rfl (fun v_ mh cc=>?_) (fun c_ mh cg=>?_)
    rotate_left
    ·
     obtain ⟨Gu,IU,xf,rfl,xN,cA⟩:=cg;have yb:=cA.size;have hBx:=hBx.kp cA (by omega);have hb:=hb.trans cA;refine cJ<|jh<|cJ<|Ed z8 (RL xN hg50 (by omega) hBx) (fun w_d hS=>?_)
     exact dY ⟨_,_,by simp only [gS,if_neg h0',if_neg h1,if_pos h2,if_neg hng,hF,xf],rfl,hS.1,hb.trans hS.2⟩
    obtain ⟨⟨t7,r7,hF7,rfl,hP,hrl7⟩,cA⟩:=cc;have yb:=cA.size;have ab:=ab.kp cA (by omega);have hBx:=hBx.kp cA (by omega);have hz:=hz.kp cA (fun h_=>by have bh:=aT _ h_;omega);have fc:=fc.kp cA (by omega);have hb:=hb.trans cA;refine ay<|e9 pn<|fg fun _ lM=>?_
    refine aQ ?_;refine aG (cr dc (by kernel_rfl) rfl (by exact fun j u hu=>fc.at hu)) rfl ?_;refine ba (by kernel_rfl) rfl rfl ab rfl rfl ?_;rintro kW ab cx;have:=cx.size;have hb:=bp hb cx (by omega);have hP:=be.over hP cx (by omega);have hBx:=hBx.over cx (by omega);have hz:=bi.kp hz cx (fun h_=>by have bh:=aT _ h_;omega);refine ay<|e9 lM<|aJ<|co (aX ?_)
    refine Oa z8 (RK p en r7 g 0 gx _ hP hg50 (by omega) hBx) (fun w_d hS=>?_);obtain ⟨hP,tD⟩:=hS;have:=tD.size;have ab:=ab.kp tD (by omega);have hz:=bi.kp hz tD (fun h_=>by have bh:=aT _ h_;omega);have hb:=hb.trans tD;refine bQ (rs:= [.cell 2 31]) (vs:= [_]) rfl (.cell rfl (bP dc (by kernel_rfl) (fun j u hu=>ab.at hu)) .nil) ?_;exact eY ⟨⟨x,r7,by simp only [gS,if_neg h0',if_neg h1,if_pos h2,if_neg hng,hF,hF7],⟨z,Sz,rfl,hz,fun k hk=>by have:=aT k hk;omega⟩,hP,by omega⟩,hb⟩
   exact cP
  exact cP
 have Hf:=nv;simp only [DZ] at nv;have h2:(aN en ts).t≠ [91]:=by have:=nv;simpa using this
 refine aU<|cD<|e9 eL<|fg fun _ kI=>fg fun _ kJ=>aQ<|ae (aP (r8 _) rfl) rfl<|aG (aS di rfl (by exact dF.at (j:=1) rfl)) rfl<|aD T1 rfl rfl (SV (aN en ts).t _) rfl ?_
 rintro _ qw ⟨rfl,cL⟩;have:=cL.size;have hP:=be.below hP cL;have ab:=ak.below ab cL;have dF:=ak.below dF cL;replace cL:=Below.kp (p:=p) cL;have hb:=hb.trans cL;refine an rfl<|ay<|e9 kJ<|fg fun _ nR=>aQ<|ai rfl<|ae (ed rfl rfl) rfl<|ay<|e9 nR<|aO rfl (fun v1=>?_) (fun v1=>?_)
 ·
  have Xu:=v1;simp only [DZ] at v1;have h3:0<mf (aN en ts).t:=by have:=v1;omega
  refine fg fun _ pt=>aQ<|ai rfl<|ae (cC (z:=n7) (pl:=n8) (cs:= [_,_,_,_,_,_,_,_,_,_,_,_,_,_,_,_,_,_,_,_]) dc (by kernel_rfl) (by kernel_rfl) rfl rfl rfl) rfl<|ba (by kernel_rfl) rfl rfl ab rfl rfl ?_
  rintro mV ab cS;have:=cS.size;have hb:=bp hb cS (by omega);have hP:=be.over hP cS (by omega);refine ay<|e9 pt<|aJ<|aX<|Ec<|bQ (rs:= [.cell 2 31]) (vs:= [_]) rfl (.cell rfl (bP dc (by kernel_rfl) (fun j u hu=>ab.at hu)) .nil) ?_
  exact eY ⟨⟨_,ts.tail,by simp only [gS,if_neg h0',if_neg h1,if_neg h2,if_pos h3],⟨⟨2,[],mf (aN en ts).t,dE,dE,0,0,none,0,0⟩,fun _=>False,rfl,vd (kQ _ _) (kQ _ _),fun _ h=>h.elim⟩,hP,by omega⟩,hb⟩
 have Xu:=v1;simp only [DZ] at v1;have h3:¬0<mf (aN en ts).t:=by have:=v1;omega
 have hends:=Ol h0 h1 h2 h3;refine aU<|e9 kI<|fg fun _ pu=>aQ<|ai rfl<|ae (cC (z:=n7) (pl:=n8) (cs:= [_,_,_,_,_,_,_,_,_,_,_,_,_,_,_,_,_,_,_,_]) dc (by kernel_rfl) (by kernel_rfl) rfl rfl rfl) rfl<|dQ Tu rfl rfl (Pw p en ts.tail g m 2 (by omega) _ hP) rfl (fun v_ sD cc=>?_) (fun c_ sD cg=>?_)
 rotate_left
 ·
  obtain ⟨ahu,ahJ,Zt,rfl,aaK,dr⟩:=cg;have LJ:=dr.size;have hb:=hb.trans dr;refine cJ<|uc ?_
  exact dY ⟨_,_,by simp only [gS,if_neg h0',if_neg h1,if_neg h2,if_neg h3,Zt],rfl,aaK,hb⟩
 obtain ⟨⟨x,r,hF,⟨z,Sz,rfl,hz,aT⟩,hP,hrl⟩,dr⟩:=cc;have LJ:=dr.size;have ab:=ab.kp dr (by omega);have dF:=dF.kp dr (by omega);have hb:=hb.trans dr;refine bT (z:=hY) (by kernel_rfl) rfl ?_;rintro dO Ns Lj br gb;have:=gb.size;have hP:=hP.below gb;have ab:=ab.below gb;have dF:=dF.below gb;have hz:=hz.below gb;replace gb:=Below.kp (p:=p) gb;have hb:=hb.trans gb;have:=br.lt;refine ba (by kernel_rfl) rfl rfl br rfl rfl ?_;rintro mW br df;have:=df.size;have hb:=bp hb df (by omega);have hP:=be.over hP df (by omega);have ab:=ab.over df (by omega);have dF:=dF.over df (by omega);have hz:=bi.kp hz df (fun h_=>by have bh:=aT _ h_;omega);refine ay<|e9 pu<|fg fun _ tw=>jg (n:=14) (fun w'=>Kp p w w'∧ak w' EY 65 [.int .i64 ((aN en ts).k:Int),str (aN en ts).t,.int .i64 ((aN en ts).a:Int)]) #[aj,aj,aj,aj,aj,aj,aj,aj,aj,aj,aj,aj,aj,aj] (by kernel_rfl) rfl (by kernel_rfl)<|jf ?_
 rintro aik tE;have:=tE.size;have hP:=hP.below tE;have ab:=ab.below tE;have dF:=dF.below tE;have hz:=hz.below tE;have br:=br.below tE;replace tE:=Below.kp (p:=p) tE;have hb:=hb.trans tE;refine bC (i:=0) #[ah,aj,aj,aj,aj,aj,aj,aj,aj,aj,aj,aj,aj,aj] rfl (by kernel_rfl) (fun _ _ _ h=>kO rfl rfl h) rfl (fun wq hq=>bU (aP (r8 _) rfl)) ⟨hb,dF⟩<|bC (i:=1) #[ah,ah,aj,aj,aj,aj,aj,aj,aj,aj,aj,aj,aj,aj] rfl (by kernel_rfl) (fun _ _ _ h=>kO rfl rfl h) rfl (fun wq hq=>aS di rfl (by obtain ⟨hq,dF⟩:=hq;exact dF.at (j:=1) rfl)) ⟨hb,dF⟩<|bC (i:=3) #[ah,ah,aj,ah,aj,aj,aj,aj,aj,aj,aj,aj,aj,aj] rfl (by kernel_rfl) (fun _ _ _ h=>kO rfl rfl h) rfl (fun wq hq=>bU (dN rfl)) ⟨hb,dF⟩<|bC (i:=4) #[ah,ah,aj,ah,ah,aj,aj,aj,aj,aj,aj,aj,aj,aj] rfl (by kernel_rfl) (fun _ _ _ h=>kO rfl rfl h) rfl (fun wq hq=>bU (cI rfl)) ⟨hb,dF⟩<|bC (i:=5) #[ah,ah,aj,ah,ah,ah,aj,aj,aj,aj,aj,aj,aj,aj] rfl (by kernel_rfl) (fun _ _ _ h=>kO rfl rfl h) rfl (fun wq hq=>bU (aP (fH _) rfl)) ⟨hb,dF⟩<|cM (rs:= [2]) (by kernel_rfl) rfl<|qB #[ah,ah,ah,ah,ah,ah,aj,aj,aj,aj,aj,aj,aj,aj] rfl rfl (fun _ mG=>?_) ?_
 ·
  refine aD T0 rfl rfl (O3 (aN en ts).t _) rfl ?_;rintro _ sB ⟨⟨A,rfl,hA⟩,cY⟩;have:=cY.size;have hP:=be.below hP cY;have ab:=ak.below ab cY;have dF:=ak.below dF cY;have hz:=bi.below hz cY;have br:=ak.below br cY;replace cY:=Below.kp (p:=p) cY;have hb:=hb.trans cY;refine ay<|qA mG ⟨hb,dF⟩<|cM (rs:= [6]) (by kernel_rfl) rfl<|qB #[ah,ah,ah,ah,ah,ah,ah,aj,aj,aj,aj,aj,aj,aj] rfl rfl (fun _ rq=>?_) ?_
  ·
   refine aD qt rfl rfl (st p en r g 0 _ hP) rfl ?_;rintro _ oQ ⟨rfl,bE⟩;have:=bE.size;have hP:=be.below hP bE;have ab:=ak.below ab bE;have dF:=ak.below dF bE;have hz:=bi.below hz bE;have br:=ak.below br bE;have hA:=tY.below hA bE;replace bE:=Below.kp (p:=p) bE;have hb:=hb.trans bE;refine ay<|qA rq ⟨hb,dF⟩<|bC (i:=7) #[ah,ah,ah,ah,ah,ah,ah,ah,aj,aj,aj,aj,aj,aj] rfl (by kernel_rfl) (fun _ _ _ h=>kO rfl rfl h) rfl (fun wq hq=>bU (ni fe rfl di rfl rfl)) ⟨hb,dF⟩<|cM (rs:= [8]) (by kernel_rfl) rfl<|qB #[ah,ah,ah,ah,ah,ah,ah,ah,ah,aj,aj,aj,aj,aj] rfl rfl (fun _ mH=>?_) ?_
   ·
    obtain ⟨_,hno⟩|⟨gm,rfl,hMp,_,_⟩:=hA
    · exact absurd hno hends
    refine aG (ach rfl rfl hMp) rfl<|ay<|qA mH ⟨hb,dF⟩<|bC (i:=9) #[ah,ah,ah,ah,ah,ah,ah,ah,ah,ah,aj,aj,aj,aj] rfl (by kernel_rfl) (fun _ _ _ h=>kO rfl rfl h) rfl (fun wq hq=>bU (dN rfl)) ⟨hb,dF⟩<|bC (i:=10) #[ah,ah,ah,ah,ah,ah,ah,ah,ah,ah,ah,aj,aj,aj] rfl (by kernel_rfl) (fun _ _ _ h=>kO rfl rfl h) rfl (fun wq hq=>bU (cu rfl rfl)) ⟨hb,dF⟩<|bC (i:=11) #[ah,ah,ah,ah,ah,ah,ah,ah,ah,ah,ah,ah,aj,aj] rfl (by kernel_rfl) (fun _ _ _ h=>kO rfl rfl h) rfl (fun wq hq=>bU (cu rfl rfl)) ⟨hb,dF⟩<|bC (i:=12) #[ah,ah,ah,ah,ah,ah,ah,ah,ah,ah,ah,ah,ah,aj] rfl (by kernel_rfl) (fun _ _ _ h=>kO rfl rfl h) rfl (fun wq hq=>bU (it rfl)) ⟨hb,dF⟩<|bC (i:=13) #[ah,ah,ah,ah,ah,ah,ah,ah,ah,ah,ah,ah,ah,ah] rfl (by kernel_rfl) (fun _ _ _ h=>kO rfl rfl h) rfl (fun wq hq=>bU (it rfl)) ⟨hb,dF⟩<|fB (by kernel_rfl)<|e9 tw<|fg fun _ xH=>fg fun _ tA=>cR (X:=Bool) (fun q=> [(0,bH p),(2,.pointer (some ⟨au,0,none⟩)),(7,.pointer (some ⟨dO,0,none⟩)),(8,.int .i64 ((jS (aN en ts).t (aN en r).t).getD 0)),(71,.bool q)]) (fun q wr=>q=decide (jS (aN en ts).t (aN en r).t=none∨(aN en r).k≠5)∧Kp p w wr∧be wr p en r g 0∧bi wr Sz x z.cells∧(∀k,Sz k→w.heap.size≤k∧k<wr.heap.size∧k≠dO∧k≠au)∧ak wr dO 31 z.cells∧ak wr au 31 er.cells) (fun _ Qu=>?_) ?_
    ·
     refine aQ<|ai rfl<|ae (jd rfl) rfl<|ai rfl<|dy rfl rfl rfl (fun ph=>?_) (fun ph=>?_)
     ·
      refine az rfl rfl ph rfl rfl<|az rfl rfl ph rfl rfl<|az rfl rfl ph rfl rfl<|az rfl rfl ph rfl rfl<|az rfl rfl ph rfl rfl<|ae (bo rfl ph rfl) rfl<|ay<|a7 Qu (decide (jS (aN en ts).t (aN en r).t=none∨(aN en r).k≠5)) (by repeat first|exact aC|refine aA rfl (by first|rfl|exact a8 (by rw [Bool.eq_iff_iff];cases xP:jS (aN en ts).t (aN en r).t<;>simp_all<;>omega)) ?_) ?_
      exact ⟨rfl,hb,hP,hz,fun k hk=>by have:=aT k hk;omega,br,ab⟩
     refine ai rfl<|ap rfl rfl ph<|ae (cI rfl) rfl<|ap rfl rfl ph<|ae (aP (fH _) rfl) rfl<|ap rfl rfl ph<|aD qt rfl rfl (st p en r g 0 _ hP) rfl ?_
     rintro _ u6 ⟨rfl,eN⟩;have:=eN.size;have hP:=be.below hP eN;have ab:=ak.below ab eN;have hz:=bi.below hz eN;have br:=ak.below br eN;replace eN:=Below.kp (p:=p) eN;have hb:=hb.trans eN;refine ap rfl rfl ph<|ae (ni fe rfl b0 rfl rfl) rfl<|ap rfl rfl ph<|ae (fG rfl rfl) rfl<|ae (bj rfl ph rfl) rfl<|ay<|a7 Qu (decide (jS (aN en ts).t (aN en r).t=none∨(aN en r).k≠5)) (by repeat first|exact aC|refine aA rfl (by first|rfl|exact a8 (by rw [Bool.eq_iff_iff];cases xP:jS (aN en ts).t (aN en r).t<;>simp_all<;>omega)) ?_) ?_
     exact ⟨rfl,hb,hP,hz,fun k hk=>by have:=aT k hk;omega,br,ab⟩
    rintro q wr Jq;replace Jq:q=decide (jS (aN en ts).t (aN en r).t=none∨(aN en r).k≠5)∧Kp p w wr∧be wr p en r g 0∧bi wr Sz x z.cells∧(∀k,Sz k→w.heap.size≤k∧k<wr.heap.size∧k≠dO∧k≠au)∧ak wr dO 31 z.cells∧ak wr au 31 er.cells:=Jq;obtain ⟨hq,hb,hP,hz,aT,br,ab⟩:=Jq;show Wq _ _ _ _ [(0,bH p),(2,.pointer (some ⟨au,0,none⟩)),(7,.pointer (some ⟨dO,0,none⟩)),(8,.int .i64 ((jS (aN en ts).t (aN en r).t).getD 0)),(71,.bool q)] _;have:=hb.size;have:=br.lt;have:=ab.lt;refine e9 tA<|aO rfl (fun HQ=>?_) (fun HQ=>?_)
    ·
     have HR:=HQ;have h4:=of_decide_eq_true (hq.symm.trans HR);refine aQ<|ai rfl<|dQ z6 rfl rfl (y8 p en r g 0 _ hP) rfl (fun v_ sC cc=>?_) (fun c_ sC cg=>?_)
     rotate_left
     ·
      obtain ⟨Oc,OY,BW,rfl,CB,fk⟩:=cg;have:=fk.size;have hb:=hb.trans fk;refine cJ<|uc ?_
      cases BW;exact dY ⟨_,_,by simp only [gS,if_neg h0',if_neg h1,if_neg h2,if_neg h3,hF];(cases hd:jS (aN en ts).t (aN en r).t with|none=>rfl|some d=>exact if_neg (fun e=>by rcases h4 with h4|h4;(· rw [hd] at h4;cases h4);(· exact h4 e))),rfl,CB,hb⟩
     exact cc.elim
    have HR:=HQ;have h4:=of_decide_eq_false (hq.symm.trans HR);have hk5:(aN en r).k=5:=Classical.byContradiction fun e=>h4 (.inr e);obtain ⟨d,hd⟩:∃d,jS (aN en ts).t (aN en r).t=some d:=Option.ne_none_iff_exists'.1 fun e=>h4 (.inl e);refine aU<|e9 xH<|fg fun _ rl=>aQ<|ai rfl<|aD jM rfl rfl (jL p en r g 0 (oI hk5 (by decide)) _ hP) rfl ?_
    rintro _ Uj ⟨⟨rfl,hP⟩,uM⟩;have:=uM.size;have hz:=bi.kp hz uM (fun h_=>by have bh:=aT _ h_;omega);have br:=ak.kp br uM (by omega);have ab:=ak.kp ab uM (by omega);have hb:=hb.trans uM;refine ay<|e9 rl<|fg fun _ Zy=>aQ<|ai rfl<|ae (aP (y4 _) rfl) rfl<|fV b0 rfl rfl rfl br (by show 2<20;decide) ?_
    rintro mi br cF;have:=cF.size;have hb:=bp hb cF (by omega);have hP:=be.over hP cF (by omega);have hz:=bi.kp hz cF (fun h_=>by have bh:=aT _ h_;omega);have ab:=ab.over cF (by omega);refine ay<|e9 Zy<|fg fun _ xA=>?_
    refine aQ ?_;refine aG (cr dc (by kernel_rfl) rfl (by exact fun j u hu=>br.at hu)) rfl ?_;refine ba (by kernel_rfl) rfl rfl ab rfl rfl ?_;rintro rO ab dw;have:=dw.size;have hb:=bp hb dw (by omega);have hP:=be.over hP dw (by omega);have hz:=bi.kp hz dw (fun h_=>by have bh:=aT _ h_;omega);refine ay<|e9 xA<|aJ<|Ec<|bQ (rs:= [.cell 2 31]) (vs:= [_]) rfl (.cell rfl (bP dc (by kernel_rfl) (fun j u hu=>ab.at hu)) .nil) ?_
    exact eY ⟨⟨x.setDir d,r.tail,by simp only [gS,if_neg h0',if_neg h1,if_neg h2,if_neg h3,hF,hd,if_pos hk5],⟨{z with dir:=(jS (aN en ts).t (aN en r).t).getD 0},Sz,rfl,by rw [hd];exact hz.setDir d,fun k hk=>by have:=aT k hk;omega⟩,hP,by rw [List.length_tail];omega⟩,hb⟩
   exact cP
  exact cP
 exact cP
end Go.Proofs.YtjdjliiolchciaaGreatDoor
