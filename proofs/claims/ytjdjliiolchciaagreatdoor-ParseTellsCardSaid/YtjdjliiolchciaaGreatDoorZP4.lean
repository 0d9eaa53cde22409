import Derived.Test.YtjdjliiolchciaaGreatDoorZP3
namespace Go.Proofs.YtjdjliiolchciaaGreatDoor
open Go.RowKit Go.Bw Go.Bw.Fl
set_option linter.unusedVariables false
set_option linter.unusedSimpArgs false
theorem M7:bB Tryz.prog 25:=⟨_,Tryz.func25,by kernel_rfl,rfl⟩
abbrev YB (o:Option (Int×Int)):Value:= .tuple #[.int .i64 (o.getD (0,0)).1,.int .i64 (o.getD (0,0)).2,.bool o.isSome]
def qn (en:Nat) (a mn mx:Int) (r:List Tok):cn (Option (Int×Int)):=match eO en [125] r with
 | .err a e=> .err a e
 | .ok _ r3=>yp a mn mx r3
theorem ae0 (p en:Nat) (ts:List Tok) (g:Nat) (w:World) (hP:be w p en ts g 0):gC Tryz.prog 97 [bH p] w (iR w p en g 0 ts (iN en ts) fun o v _=>v=YB o) (iD w p en g 0 (iN en ts)):=by
 have hpl:=hP.lt;have hb:=Kp.refl p w;refine enter Tryz.func97 rfl rfl rfl<|am fun aR=>an rfl<|an rfl<|an rfl<|al aR<|am fun dC=>ai rfl<|ae (cI rfl) rfl<|ae (aP (fH _) rfl) rfl<|aD qt rfl rfl (st p en ts g 0 _ hP) rfl ?_
 rintro _ cB ⟨rfl,aw⟩;have:=aw.size;have hP:=be.below hP aw;replace aw:=Below.kp (p:=p) aw;have hb:=hb.trans aw;refine bT (z:=fx) (by kernel_rfl) rfl ?_;rintro gG tV oF bL ep;have:=ep.size;have hP:=hP.below ep;replace ep:=Below.kp (p:=p) ep;have hb:=hb.trans ep;have:=bL.lt;refine ba (by kernel_rfl) rfl rfl bL rfl rfl ?_;rintro du bL aF;have:=aF.size;have hb:=bp hb aF (by omega);have hP:=be.over hP aF (by omega);refine al dC<|av fun _ dT=>am fun dU=>ai rfl<|ae (cI rfl) rfl<|ae (aP (fH _) rfl) rfl<|cz (sz:=1) (vs:= [_,_,_,_]) dl (by kernel_rfl) rfl rfl rfl rfl rfl rfl ?_
 rintro cp fA fw aI aV;have:=aV.size;have hP:=hP.below aV;have bL:=bL.below aV;replace aV:=Below.kp (p:=p) aV;have hb:=hb.trans aV;have:=aI.lt;refine aD j4 rfl rfl (jY p en ts g 0 _ 4 [[42],[43],[63],[123]] (by simp) _ hP (aI.rd 4 1 rfl)) rfl ?_;rintro _ cU ⟨rfl,aL⟩;have:=aL.size;have hP:=be.below hP aL;have bL:=ak.below bL aL;replace aL:=Below.kp (p:=p) aL;have hb:=hb.trans aL;refine ae (jd rfl) rfl<|al dU<|aO rfl (fun nl=>?_) (fun nl=>?_)
 ·
  have h0:bv en [[42],[43],[63],[123]] ts=false:=by have:=nl;simpa using this
  refine am fun eM=>an rfl<|an rfl<|an rfl<|al eM<|aJ<|aX<|oh rfl rfl rfl rfl ?_
  exact eY ⟨⟨none,ts,by simp only [iN,if_pos h0],rfl,hP,Nat.le_refl _⟩,hb⟩
 have h0:bv en [[42],[43],[63],[123]] ts=true:=by have:=nl;simpa using this
 have h0':¬bv en [[42],[43],[63],[123]] ts=false:=by rw [h0];decide
 have hne:=eB h0;have hr0:=List.length_pos_iff.2 hne;have hrt:ts.tail.length=ts.length - 1:=List.length_tail;refine aU<|ax dT<|av fun _ fT=>am fun gu=>ai rfl<|aD jM rfl rfl (jL p en ts g 0 hne _ hP) rfl ?_
 rintro _ eP ⟨⟨rfl,hP⟩,a6⟩;have:=a6.size;have bL:=ak.kp bL a6 (by omega);have hb:=hb.trans a6;refine ae (ni fe rfl di rfl rfl) rfl<|al gu<|b4<|am fun fD=>ae (fl rfl rfl) rfl<|an rfl<|al fD<|aO rfl (fun ji=>?_) (fun ji=>?_)
 ·
  have Ay:=ji;simp only [DZ] at ji;have h1:(aN en ts).t= [42]:=by have:=ji;simpa using this
  refine am fun kG=>an rfl<|an rfl<|an rfl<|al kG<|aJ<|co (aX ?_)
  refine oh rfl rfl rfl rfl ?_;exact eY ⟨⟨some (0,-1),ts.tail,by simp only [iN,if_neg h0',if_pos h1],rfl,hP,by omega⟩,hb⟩
 have Ay:=ji;simp only [DZ] at ji;have h1:(aN en ts).t≠ [42]:=by have:=ji;simpa using this
 refine am fun kH=>ae (fl rfl rfl) rfl<|an rfl<|al kH<|aO rfl (fun vN=>?_) (fun vN=>?_)
 ·
  have Xg:=vN;simp only [DZ] at vN;have h2:(aN en ts).t= [43]:=by have:=vN;simpa using this
  refine am fun lK=>an rfl<|an rfl<|an rfl<|al lK<|aJ<|co (aX ?_)
  refine oh rfl rfl rfl rfl ?_;exact eY ⟨⟨some (1,-1),ts.tail,by simp only [iN,if_neg h0',if_neg h1,if_pos h2],rfl,hP,by omega⟩,hb⟩
 have Xg:=vN;simp only [DZ] at vN;have h2:(aN en ts).t≠ [43]:=by have:=vN;simpa using this
 refine am fun mD=>ae (fl rfl rfl) rfl<|an rfl<|al mD<|aO rfl (fun vY=>?_) (fun vY=>?_)
 ·
  have Xr:=vY;simp only [DZ] at vY;have h3:(aN en ts).t= [63]:=by have:=vY;simpa using this
  refine am fun kl=>an rfl<|an rfl<|an rfl<|al kl<|aJ<|co (aX ?_)
  refine oh rfl rfl rfl rfl ?_;exact eY ⟨⟨some (0,1),ts.tail,by simp only [iN,if_neg h0',if_neg h1,if_neg h2,if_pos h3],rfl,hP,by omega⟩,hb⟩
 have Xr:=vY;simp only [DZ] at vY;have h3:(aN en ts).t≠ [63]:=by have:=vY;simpa using this
 refine aU<|cD<|ax fT<|am fun lM=>ai rfl<|ae (aP (qQ _) rfl) rfl<|aG (aS b0 rfl (by exact bL.at (j:=2) rfl)) rfl<|dQ M7 rfl rfl (Nx p en (aN en ts).a ts.tail g 0 _ hP) rfl (fun v_ fj cc=>?_) (fun c_ fj cg=>?_)
 rotate_left
 ·
  obtain ⟨vu,wN,nO,rfl,nW,bk⟩:=cg;have mM:=bk.size;have hb:=hb.trans bk;refine cJ<|eH ?_
  exact dY ⟨_,_,by simp only [iN,if_neg h0',if_neg h1,if_neg h2,if_neg h3,nO],rfl,nW,hb⟩
 obtain ⟨⟨mn,r,hF,rfl,hP,hrl⟩,bk⟩:=cc;have mM:=bk.size;have bL:=bL.kp bk (by omega);have hb:=hb.trans bk;refine an rfl<|al lM<|am fun Cl=>ai rfl<|an rfl<|al Cl<|av fun _ rm=>am fun jv=>ai rfl<|ae (cI rfl) rfl<|ae (aP (fH _) rfl) rfl<|cz (sz:=1) (vs:= [_]) dl (by kernel_rfl) rfl rfl rfl rfl rfl rfl ?_
 rintro cK jB jG aK bA;have:=bA.size;have hP:=hP.below bA;have bL:=bL.below bA;replace bA:=Below.kp (p:=p) bA;have hb:=hb.trans bA;have:=aK.lt;refine aD j4 rfl rfl (jY p en r g 0 _ 1 [[44]] (by simp) _ hP (aK.rd 1 1 rfl)) rfl ?_;rintro _ gj ⟨rfl,bD⟩;have:=bD.size;have hP:=be.below hP bD;have bL:=ak.below bL bD;replace bD:=Below.kp (p:=p) bD;have hb:=hb.trans bD;refine al jv<|cR (X:=Int×List Tok) (fun (mx,r2)=> [(0,bH p),(2,.int .i64 mn),(3,.int .i64 mx),(5,.pointer (some ⟨gG,0,none⟩))]) (fun (mx,r2) wr=>iN en ts=qn en (aN en ts).a mn mx r2∧r2.length≤ts.length∧Kp p w wr∧be wr p en r2 g 0∧ak wr gG 65 [.int .i64 ((aN en ts).k:Int),str (aN en ts).t,.int .i64 ((aN en ts).a:Int)]) (fun _ K6=>?_) ?_
 ·
  refine aO rfl (fun ny=>?_) (fun ny=>?_)
  ·
   have sX:=ny;have h4:bv en [[44]] r=true:=sX;have hrt4:r.tail.length=r.length - 1:=List.length_tail;refine am fun ro=>ai rfl<|aD jM rfl rfl (jL p en r g 0 (eB h4) _ hP) rfl ?_
   rintro _ lW ⟨⟨rfl,hP⟩,cm⟩;have:=cm.size;have bL:=ak.kp bL cm (by omega);have hb:=hb.trans cm;refine al ro<|am fun xF=>an rfl<|al xF<|am fun nU=>ai rfl<|ae (cI rfl) rfl<|ae (aP (fH _) rfl) rfl<|cz (sz:=1) (vs:= [_]) dl (by kernel_rfl) rfl rfl rfl rfl rfl rfl ?_
   rintro eA pO f4 bn c8;have:=c8.size;have hP:=hP.below c8;have bL:=bL.below c8;replace c8:=Below.kp (p:=p) c8;have hb:=hb.trans c8;have:=bn.lt;refine aD j4 rfl rfl (jY p en r.tail g 0 _ 1 [[125]] (by simp) _ hP (bn.rd 1 1 rfl)) rfl ?_;rintro _ lX ⟨rfl,cy⟩;have:=cy.size;have hP:=be.below hP cy;have bL:=ak.below bL cy;replace cy:=Below.kp (p:=p) cy;have hb:=hb.trans cy;refine ae (jd rfl) rfl<|al nU<|aO rfl (fun wm=>?_) (fun wm=>?_)
   ·
    have h5:¬bv en [[125]] r.tail=true:=by have:=wm;simpa using this
    refine aQ<|ai rfl<|ae (aP (qQ _) rfl) rfl<|aG (aS b0 rfl (by exact bL.at (j:=2) rfl)) rfl<|dQ M7 rfl rfl (Nx p en (aN en ts).a r.tail g 0 _ hP) rfl (fun v_ mh cc=>?_) (fun c_ mh cg=>?_)
    rotate_left
    ·
     obtain ⟨Gu,IU,xf,rfl,xN,cA⟩:=cg;have yb:=cA.size;have hb:=hb.trans cA;refine cJ<|cJ<|eH ?_
     exact dY ⟨_,_,by simp only [iN,if_neg h0',if_neg h1,if_neg h2,if_neg h3,hF,if_pos h4,if_neg h5,xf],rfl,xN,hb⟩
    obtain ⟨⟨mx,r2,hF7,rfl,hP,hrl7⟩,cA⟩:=cc;have yb:=cA.size;have bL:=bL.kp cA (by omega);have hb:=hb.trans cA;have hr2l:r2.length≤ts.length:=by omega
    have hpt:iN en ts=qn en (aN en ts).a mn mx r2:=by simp only [iN,if_neg h0',if_neg h1,if_neg h2,if_neg h3,hF,if_pos h4,if_neg h5,hF7];rfl
    refine an rfl<|ay<|a7 K6 (⟨mx,r2⟩) (by repeat first|exact aC|refine aA rfl (by first|rfl|(rw [hmx];first|done|rfl)) ?_) ?_
    exact ⟨hpt,hr2l,hb,hP,bL⟩
   have h5:bv en [[125]] r.tail=true:=by have:=wm;simpa using this
   obtain ⟨mx,hmx⟩:∃z:Int,z= -1:=⟨_,rfl⟩;obtain ⟨r2,hr2⟩:∃z,z=r.tail:=⟨_,rfl⟩;have hr2l:r2.length≤ts.length:=by rw [hr2];omega
   have hpt:iN en ts=qn en (aN en ts).a mn mx r2:=by rw [hr2,hmx];simp only [iN,if_neg h0',if_neg h1,if_neg h2,if_neg h3,hF,if_pos h4,if_pos h5];rfl
   refine aU<|a7 K6 (⟨mx,r2⟩) (by repeat first|exact aC|refine aA rfl (by first|rfl|(rw [hmx];first|done|rfl)) ?_) ?_
   exact ⟨hpt,hr2l,hb,by rw [hr2];exact hP,bL⟩
  have sX:=ny;have h4:¬bv en [[44]] r=true:=by rw [sX];decide
  obtain ⟨mx,hmx⟩:∃z,z=mn:=⟨_,rfl⟩;obtain ⟨r2,hr2⟩:∃z,z=r:=⟨_,rfl⟩;have hr2l:r2.length≤ts.length:=by rw [hr2];omega
  have hpt:iN en ts=qn en (aN en ts).a mn mx r2:=by rw [hr2,hmx];simp only [iN,if_neg h0',if_neg h1,if_neg h2,if_neg h3,hF,if_neg h4];rfl
  refine aU<|a7 K6 (⟨mx,r2⟩) (by repeat first|exact aC|refine aA rfl (by first|rfl|(rw [hmx];first|done|rfl)) ?_) ?_
  exact ⟨hpt,hr2l,hb,by rw [hr2];exact hP,bL⟩
 rintro ⟨mx,r2⟩ wr Ko;replace Ko:iN en ts=qn en (aN en ts).a mn mx r2∧r2.length≤ts.length∧Kp p w wr∧be wr p en r2 g 0∧ak wr gG 65 [.int .i64 ((aN en ts).k:Int),str (aN en ts).t,.int .i64 ((aN en ts).a:Int)]:=Ko;obtain ⟨hT,hrl2,hb,hP,bL⟩:=Ko;show Wq _ _ _ _ [(0,bH p),(2,.int .i64 mn),(3,.int .i64 mx),(5,.pointer (some ⟨gG,0,none⟩))] _;have:=hb.size;have:=bL.lt;refine ax rm<|am fun xG=>ai rfl<|dQ zX rfl rfl (zU p en [125] r2 g 0 _ hP) rfl (fun v_ qw cc=>?_) (fun c_ qw cg=>?_)
 rotate_left
 ·
  obtain ⟨aht,ahI,Zs,rfl,aaJ,cL⟩:=cg;have LI:=cL.size;have hb:=hb.trans cL;refine cJ<|eH ?_
  exact dY ⟨_,_,by rw [hT];simp only [qn,Zs],rfl,aaJ,hb⟩
 obtain ⟨⟨t8,r3,hF8,rfl,hP,hrl8⟩,cL⟩:=cc;have LI:=cL.size;have bL:=bL.kp cL (by omega);have hb:=hb.trans cL;have hT2:iN en ts=yp (aN en ts).a mn mx r3:=by rw [hT];simp only [qn,hF8]
 refine al xG<|av fun _ px=>b4<|av fun _ KS=>cR (X:=Bool) (fun q=> [(0,bH p),(2,.int .i64 mn),(3,.int .i64 mx),(5,.pointer (some ⟨gG,0,none⟩)),(49,.bool q)]) (fun q wr=>q=decide ((0≤mx∧mx<mn)∨mx=0)∧Kp p w wr∧be wr p en r3 g 0∧ak wr gG 65 [.int .i64 ((aN en ts).k:Int),str (aN en ts).t,.int .i64 ((aN en ts).a:Int)]) (fun _ K9=>?_) ?_
 ·
  refine aQ<|ai rfl<|ae (f7 rfl rfl) rfl<|ai rfl<|cG rfl rfl rfl (fun xb=>?_) (fun xb=>?_)
  ·
   refine ai rfl<|ap rfl rfl xb<|ai rfl<|ap rfl rfl xb<|ae (ed rfl rfl) rfl<|ae (bo rfl xb rfl) rfl<|ai rfl<|dy rfl rfl rfl (fun kA=>?_) (fun kA=>?_)
   ·
    refine az rfl rfl kA rfl rfl<|ae (bo rfl kA rfl) rfl<|an rfl<|ay<|a7 K9 (decide ((0≤mx∧mx<mn)∨mx=0)) (by repeat first|exact aC|refine aA rfl (by first|rfl|exact a8 (by rw [Bool.eq_iff_iff];simp_all<;>omega)) ?_) ?_
    exact ⟨rfl,hb,hP,bL⟩
   refine ai rfl<|ap rfl rfl kA<|ae (bX rfl rfl) rfl<|ae (bj rfl kA rfl) rfl<|an rfl<|ay<|a7 K9 (decide ((0≤mx∧mx<mn)∨mx=0)) (by repeat first|exact aC|refine aA rfl (by first|rfl|exact a8 (by rw [Bool.eq_iff_iff];simp_all<;>omega)) ?_) ?_
   exact ⟨rfl,hb,hP,bL⟩
  refine az rfl rfl xb rfl rfl<|az rfl rfl xb rfl rfl<|ae (bj rfl xb rfl) rfl<|ai rfl<|ap rfl rfl rfl<|ai rfl<|ap rfl rfl rfl<|ae (bX rfl rfl) rfl<|ae (bj rfl rfl rfl) rfl<|an rfl<|ay<|a7 K9 (decide ((0≤mx∧mx<mn)∨mx=0)) (by repeat first|exact aC|refine aA rfl (by first|rfl|exact a8 (by rw [Bool.eq_iff_iff];simp_all<;>omega)) ?_) ?_
  exact ⟨rfl,hb,hP,bL⟩
 rintro q wr Jv;replace Jv:q=decide ((0≤mx∧mx<mn)∨mx=0)∧Kp p w wr∧be wr p en r3 g 0∧ak wr gG 65 [.int .i64 ((aN en ts).k:Int),str (aN en ts).t,.int .i64 ((aN en ts).a:Int)]:=Jv;obtain ⟨hq,hb,hP,bL⟩:=Jv;show Wq _ _ _ _ [(0,bH p),(2,.int .i64 mn),(3,.int .i64 mx),(5,.pointer (some ⟨gG,0,none⟩)),(49,.bool q)] _;have:=hb.size;have:=bL.lt;refine ax KS<|aO rfl (fun Ik=>?_) (fun Ik=>?_)
 ·
  have Il:=Ik;have h6:=of_decide_eq_true (hq.symm.trans Il);refine aQ<|ae (aP (qQ _) rfl) rfl<|aG (aS b0 rfl (by exact bL.at (j:=2) rfl)) rfl<|ae (cC (z:=tI) (pl:= [(0,1),(1,1)]) (cs:= [_,_]) kU (by kernel_rfl) (by kernel_rfl) rfl rfl rfl) rfl<|ae (pP kU (by intro _ h;cases h) rfl) rfl<|sO rfl<|jh<|cJ<|eH ?_
  exact dY ⟨_,_,by rw [hT2];exact if_pos h6,rfl,⟨_,hP⟩,hb⟩
 have Il:=Ik;have h6:=of_decide_eq_false (hq.symm.trans Il);refine am fun B7=>ai rfl<|ai rfl<|ae (qy rfl rfl) rfl<|ae (ed rfl rfl) rfl<|an rfl<|al B7<|aO rfl (fun wE=>?_) (fun wE=>?_)
 ·
  have XY:=wE;simp only [DZ] at wE;have h7:20<max mn mx:=by have:=wE;omega
  refine aQ<|ae (aP (qQ _) rfl) rfl<|aG (aS b0 rfl (by exact bL.at (j:=2) rfl)) rfl<|ae (cC (z:=tI) (pl:= [(0,1),(1,1)]) (cs:= [_,_]) kU (by kernel_rfl) (by kernel_rfl) rfl rfl rfl) rfl<|ae (pP kU (by intro _ h;cases h) rfl) rfl<|sO rfl<|jh<|cJ<|eH ?_
  exact dY ⟨_,_,by rw [hT2,yp,if_neg h6];exact if_pos h7,rfl,⟨_,hP⟩,hb⟩
 have XY:=wE;simp only [DZ] at wE;have h7:¬20<max mn mx:=by have:=wE;omega
 refine aU<|cD<|ax px<|am fun Kx=>ai rfl<|ai rfl<|an rfl<|an rfl<|an rfl<|al Kx<|aJ<|oh rfl rfl rfl rfl ?_
 exact eY ⟨⟨some (mn,mx),r3,by rw [hT2,yp,if_neg h6];exact if_neg h7,rfl,hP,by omega⟩,hb⟩
theorem rI:(Tryz.prog.info? 31).map (·.size)=some 20:=by kernel_rfl
theorem TQ:bB Tryz.prog 49:=⟨_,Tryz.func49,by kernel_rfl,rfl⟩
theorem TX:bB Tryz.prog 71:=⟨_,Tryz.func71,by kernel_rfl,rfl⟩
theorem aga:bB Tryz.prog 96:=⟨_,Tryz.func96,by kernel_rfl,rfl⟩
theorem agb:bB Tryz.prog 97:=⟨_,Tryz.func97,by kernel_rfl,rfl⟩
theorem Yc {a:Addr} {v:Value} {row:Option Nat} {w w':World} (hg:w.grownBy w' row) (h:w.cell? a=some v) (hn:row≠some a.block):w'.cell? a=some v:=by
 have hb:=hg.block a.block (El h) (fun e=>hn e.symm);unfold World.cell? at h ⊢;rw [hb];exact h
theorem Rd.row {sz n:Nat} {A:Option Addr} {xs:List Value} {row:Option Nat} {w w':World} (h:Rd w sz A n xs) (hg:w.grownBy w' row) (hn:∀q,A=some q→row≠some q.block):Rd w' sz A n xs:=
 ⟨h.1,fun h0=>let ⟨q,e,hc⟩:=h.2 h0;⟨q,e,fun j u hu=>Yc hg (hc j u hu) (by rw [Eg];exact hn q e)⟩⟩
theorem gn.row {w w':World} {row:Option Nat} {S:Nat→Prop} (hg:w.grownBy w' row) (hp:∀k,S k→row≠some k):gn w w' S:=⟨fun _ _ _ _ h h2=>Rd.row h hg fun q e=>hp _ (h2 q e)⟩
theorem be.row {w w':World} {p en:Nat} {ts:List Tok} {g b:Nat} {row:Option Nat} (h:be w p en ts g b) (hg:w.grownBy w' row) (hk:∀k,row=some k→p<k):be w' p en ts g b:=by
 cases row with
 |some k=>exact h.over hg (hk k rfl)
 |none=>exact h.below ⟨hg.os,hg.tape,hg.output,hg.size,fun k hk=>hg.block k hk (by simp)⟩
theorem bi.z {w:World} {S:Nat→Prop} {x:bS} {cs:List Value} (h:bi w S x cs):∃z:PC,cs=z.cells:=by
 obtain ⟨k,var,dir,l,wh,mn,mx,kids⟩:=x;unfold bi at h;obtain ⟨lc,wc,A,c,kcs,h1,h2⟩:=h;exact ⟨_,h1⟩
theorem PC.len (z:PC):z.cells.length=20:=rfl
theorem dv.get {w:World} {S:Nat→Prop}:∀{l:List bS} {xs:List Value} (_:dv w S l xs) {i:Nat} (hi:i<l.length),∃z:PC,bi w S l[i] z.cells∧∀j,j<20→xs[i * 20+j]? =z.cells[j]?
 | [],_,_,_,hi=>absurd hi (Nat.not_lt_zero _)
 |e :: r,xs,h,0,hi=>by
  unfold dv at h;obtain ⟨c,ys,h1,h2,h3⟩:=h;obtain ⟨z,rfl⟩:=h2.z;exact ⟨z,h2,fun j hj=>by rw [h1,Nat.zero_mul,Nat.zero_add,List.getElem?_append_left (by rw [z.len];exact hj)]⟩
 |e :: r,xs,h,i+1,hi=>by
  unfold dv at h;obtain ⟨c,ys,h1,h2,h3⟩:=h;obtain ⟨z0,rfl⟩:=h2.z;obtain ⟨z,h4,h5⟩:=h3.get (i:=i) (by simpa using hi);refine ⟨z,h4,fun j hj=>?_⟩;rw [←h5 j hj,h1,List.getElem?_append_right (by rw [z0.len];omega),z0.len]
  congr 1;omega
theorem An {w:World} {S:Nat→Prop} {A:Option Addr} {l:List bS} {xs:List Value} (h:Rd w 20 A l.length xs) (hL:dv w S l xs) {i:Nat} (hi:i<l.length):∃(p:Addr) (z:PC),A=some p∧bi w S l[i] z.cells∧∀(j:Nat) (u:Value),z.cells[j]? =some u→w.cell? ((p.add (i * 20)).add j)=some u:=by
 obtain ⟨z,h1,h2⟩:=hL.get hi;obtain ⟨p,e,hc⟩:=h.2 (by rw [h.1];omega);refine ⟨p,z,e,h1,fun j u hu=>?_⟩;have hj:j<20:=(List.getElem?_eq_some_iff.1 hu).1;rw [jR];exact hc _ _ ((h2 j hj).trans hu)
theorem bi.node {w:World} {S:Nat→Prop} {A:Option Addr} {n c:Nat} (k mn mx:Int) {kids:List bS} {kcs:List Value} (hn:n=kids.length) (hR:Rd w 20 A kids.length kcs) (hg:∀q,A=some q→S q.block) (hL:dv w S kids kcs) (hk:kids.length≤65537:=by simp):bi w S (.mk k [] 0 eC eC mn mx kids) (PC.cells ⟨k,[],0,dE,dE,mn,mx,A,n,c⟩):=by
 subst hn;unfold bi;exact ⟨dE,dE,A,c,kcs,rfl,kQ _ _,kQ _ _,hR,hg,hL,hk⟩
theorem QG (p en:Nat) (ts:List Tok) (g m n:Nat) (knot:Nat→List Tok→cn bS) (hm:ts.length≤m) (hn:ts.length≤n) (w:World) (hP:be w p en ts g 0) (hD:vg w p en n knot):gC Tryz.prog 71 [bH p] w (iR w p en g 0 ts.tail (fz en m g knot ts) (pT w.heap.size)) (iD w p en g 0 (fz en m g knot ts)):=by
 have hpl:=hP.lt;have hb:=Kp.refl p w;refine enter Tryz.func71 rfl rfl rfl<|am fun aR=>bT (z:=hY) (by kernel_rfl) rfl ?_
 rintro au dJ dH ab aM;have:=aM.size;have hP:=hP.below aM;replace aM:=Below.kp (p:=p) aM;have hb:=hb.trans aM;have:=ab.lt;refine al aR<|am fun bt=>ai rfl<|dQ aga rfl rfl (adB p en ts g m n knot hm hn _ hP (hD.kp hb)) rfl (fun v_ cB cc=>?_) (fun c_ cB cg=>?_)
 rotate_left
 ·
  obtain ⟨pV,p3,jt,rfl,jw,aw⟩:=cg;have gK:=aw.size;have hb:=hb.trans aw;refine cJ<|eH ?_
  exact dY ⟨_,_,by simp only [fz,jt],rfl,jw,hb⟩
 obtain ⟨⟨x,r,hF,⟨z,Sz,rfl,hz,aT⟩,hP,hrl⟩,aw⟩:=cc;have gK:=aw.size;have ab:=ab.kp aw (by omega);have hb:=hb.trans aw;refine bT (z:=hY) (by kernel_rfl) rfl ?_;rintro dq ks jH aE ck;have:=ck.size;have hP:=hP.below ck;have ab:=ab.below ck;have hz:=hz.below ck;replace ck:=Below.kp (p:=p) ck;have hb:=hb.trans ck;have:=aE.lt;refine ba (by kernel_rfl) rfl rfl aE rfl rfl ?_;rintro du aE aF;have:=aF.size;have hb:=bp hb aF (by omega);have hP:=be.over hP aF (by omega);have ab:=ab.over aF (by omega);have hz:=bi.kp hz aF (fun h_=>by have bh:=aT _ h_;omega);refine al bt<|av fun _ dV=>am fun eX=>ai rfl<|dQ agb rfl rfl (ae0 p en r g _ hP) rfl (fun v_ cU cc=>?_) (fun c_ cU cg=>?_)
 rotate_left
 ·
  obtain ⟨pW,p4,kF,rfl,lg,aL⟩:=cg;have i7:=aL.size;have hb:=hb.trans aL;refine cJ<|cJ<|eH ?_
  exact dY ⟨_,_,by simp only [fz,hF,kF],rfl,lg,hb⟩
 obtain ⟨⟨o,r2,hF2,rfl,hP,hrl2⟩,aL⟩:=cc;have i7:=aL.size;have ab:=ab.kp aL (by omega);have hz:=hz.kp aL (fun h_=>by have bh:=aT _ h_;omega);have aE:=aE.kp aL (by omega);have hb:=hb.trans aL;refine ai rfl<|ae (cu rfl rfl) rfl<|ae (cu rfl rfl) rfl<|ae (cu rfl rfl) rfl<|an rfl<|an rfl<|an rfl<|al eX<|am fun dG=>ai rfl<|al dG<|aO rfl (fun Gz=>?_) (fun Gz=>?_)
 ·
  have GA:=Gz;obtain ⟨⟨mn,mx⟩,rfl⟩:=Option.isSome_iff_exists.1 (show o.isSome=true from GA);refine am fun mC=>ai rfl<|ai rfl<|aG (cr dc (by kernel_rfl) rfl (by exact fun j u hu=>aE.at hu)) rfl<|cz (sz:=20) (vs:= [_]) fO (by kernel_rfl) rfl rfl rfl rfl rfl rfl ?_
  rintro cp fA fw aI aV;have:=aV.size;have hP:=hP.below aV;have ab:=ab.below aV;have hz:=hz.below aV;replace aV:=Below.kp (p:=p) aV;have hb:=hb.trans aV;have:=aI.lt;refine ae (cC (z:=n7) (pl:=n8) (cs:= [_,_,_,_,_,_,_,_,_,_,_,_,_,_,_,_,_,_,_,_]) dc (by kernel_rfl) (by kernel_rfl) rfl rfl rfl) rfl<|ba (by kernel_rfl) rfl rfl ab rfl rfl ?_
  rintro ff ab bc;have:=bc.size;have hb:=bp hb bc (by omega);have hP:=be.over hP bc (by omega);have hz:=bi.kp hz bc (fun h_=>by have bh:=aT _ h_;omega);have aI:=aI.over bc (by omega);refine al mC<|aJ<|aX<|bQ (rs:= [.cell 2 31]) (vs:= [_]) rfl (.cell rfl (bP dc (by kernel_rfl) (fun j u hu=>ab.at hu)) .nil) ?_
  exact eY ⟨⟨_,r2,by simp only [fz,hF,hF2],⟨⟨5,[],0,dE,dE,mn,mx,some ⟨cp,0,none⟩,1,1⟩,fun q=>Sz q∨q=cp,rfl,bi.node 5 mn mx (kids:= [x]) rfl (aI.rd 1 20 rfl) (fun q e=>by cases e;exact .inr rfl) ((dv.one hz).mono fun _ h=> .inl h),fun k hk=>by rcases hk with h|h;(· have:=aT k h;omega);(· have:=aI.lt;omega)⟩,hP,by omega⟩,hb⟩
 have GA:=Gz;obtain rfl:o=none:=by have h_:o.isSome=false:=GA;cases o with|none=>rfl|some q=>cases h_
 refine aU<|ax dV<|am fun ki=>aG (cr dc (by kernel_rfl) rfl (by exact fun j u hu=>aE.at hu)) rfl ?_
 refine ba (by kernel_rfl) rfl rfl ab rfl rfl ?_;rintro gB ab bz;have:=bz.size;have hb:=bp hb bz (by omega);have hP:=be.over hP bz (by omega);have hz:=bi.kp hz bz (fun h_=>by have bh:=aT _ h_;omega);refine al ki<|aJ<|bQ (rs:= [.cell 2 31]) (vs:= [_]) rfl (.cell rfl (bP dc (by kernel_rfl) (fun j u hu=>ab.at hu)) .nil) ?_
 exact eY ⟨⟨x,r2,by simp only [fz,hF,hF2],⟨z,Sz,rfl,hz,fun k hk=>by have:=aT k hk;omega⟩,hP,by omega⟩,hb⟩
theorem SX (k:Int) (A:Option Addr) (c:Nat) (l:List bS) (xs:List Value) (S:Nat→Prop) (h0:0<l.length) (hl:l.length≤65537) (w:World) (hR:Rd w 20 A l.length xs) (hL:dv w S l xs):bx Tryz.prog 49 [.int .i64 k,.slice A l.length c] w fun v w'=>(∃z:PC,v=z.enc∧bi w' (fun q=>S q∨∃a,A=some a∧q=a.block) (oi k l) z.cells)∧Below w.heap.size w w':=by
 have hb:=Below.refl w.heap.size w;have dX:=hR;have ce:=hL;refine enter Tryz.func49 rfl rfl rfl<|am fun aR=>bT (z:=hY) (by kernel_rfl) rfl ?_
 rintro au dJ dH ab aM;have:=aM.size;have hb:=aZ hb aM;have hR:=dX.below hb;have hL:=ce.below hb;have:=ab.lt;refine al aR<|av fun _ bt=>am fun b8=>ai rfl<|ae (iC fO (by omega) rfl) rfl<|ae (bX rfl rfl) rfl<|al b8<|aO rfl (fun d7=>?_) (fun d7=>?_)
 ·
  have oV:=d7;simp only [DZ] at d7;have h1:l.length=1:=by have:=d7;omega
  refine am fun dW=>ai rfl ?_;obtain ⟨p_,z,hpe,hz,hcell⟩:=An dX ce h0;subst hpe;refine ae (f8 fO rI rfl rfl (by omega) (by omega)) rfl<|aG (cr dc (by kernel_rfl) rfl (by exact fun j u hu=>ou hb (hcell j u hu))) rfl ?_
  refine ba (by kernel_rfl) rfl rfl ab rfl rfl ?_;rintro du ab aF;have:=aF.size;have hb:=cf hb aF hb.size (by omega);have hR:=dX.below hb;have hL:=ce.below hb;refine al dW<|aJ<|aX<|bQ (rs:= [.cell 4 31]) (vs:= [_]) rfl (.cell rfl (bP dc (by kernel_rfl) (fun j u hu=>ab.at hu)) .nil) ?_
  exact ⟨_,rfl,⟨z,rfl,by obtain ⟨x,rfl⟩:=List.length_eq_one_iff.1 h1;exact (bi.below hz hb).mono fun _ h=> .inl h⟩,hb⟩
 have oV:=d7;simp only [DZ] at d7;have h1:l.length≠1:=by have:=d7;omega
 refine aU<|ax bt<|am fun eh=>ai rfl<|ai rfl<|ae (cC (z:=n7) (pl:=n8) (cs:= [_,_,_,_,_,_,_,_,_,_,_,_,_,_,_,_,_,_,_,_]) dc (by kernel_rfl) (by kernel_rfl) rfl rfl rfl) rfl<|ba (by kernel_rfl) rfl rfl ab rfl rfl ?_
 rintro ff ab bc;have:=bc.size;have hb:=cf hb bc hb.size (by omega);have hR:=dX.below hb;have hL:=ce.below hb;refine al eh<|aJ<|bQ (rs:= [.cell 4 31]) (vs:= [_]) rfl (.cell rfl (bP dc (by kernel_rfl) (fun j u hu=>ab.at hu)) .nil) ?_
 exact ⟨_,rfl,⟨⟨k,[],0,dE,dE,0,0,A,l.length,c⟩,rfl,by have e:oi k l= .mk k [] 0 eC eC 0 0 l:=(by cases l with|nil=>rfl|cons a r=>cases r with|nil=>exact absurd rfl h1|cons b r=>rfl);rw [e];exact bi.node k 0 0 rfl hR (fun q e=> .inr ⟨q,e,rfl⟩) (hL.mono fun _ h=> .inl h) hl⟩,hb⟩
theorem PC.one (z:PC):∀u∈z.cells,u.oneCell'=true:=fun u hu=>List.all_eq_true.1 (show z.cells.all (·.oneCell')=true from rfl) u hu
def oM (k:Int):cn (List bS)→cn bS
 | .ok l r=> .ok (oi k l) r
 | .err a e=> .err a e
theorem Dd (k:Int) (go:List Tok→Option (List Tok)) (one:List Tok→cn bS) (ts:List Tok):tN k go one ts=match one ts with
 | .err a e=> .err a e
 | .ok x r=>oM k (gz go one r.length [x] r):=by
 unfold tN
 cases one ts with
 |err a e=>rfl
 |ok x r=>cases h:gz go one r.length [x] r<;>simp only [h,oM]
theorem Ov (p en:Nat) (ts:List Tok) (g m n:Nat) (knot:Nat→List Tok→cn bS) (hm:ts.length≤m) (hn:ts.length≤n) (w:World) (hP:be w p en ts g 0) (hD:vg w p en n knot):gC Tryz.prog 48 [bH p] w (iR w p en g 0 ts.tail (kR en m g knot ts) (pT w.heap.size)) (iD w p en g 0 (kR en m g knot ts)):=by
 have hpl:=hP.lt;have hl65:ts.length≤65536:=let ⟨_,_,_,h,_⟩:=hP.ex;h;have hrt:ts.tail.length=ts.length - 1:=List.length_tail;have hb:=Kp.refl p w;refine enter Tryz.func48 rfl rfl rfl<|am fun aR=>bT (z:=hY) (by kernel_rfl) rfl ?_
 rintro au dJ dH ab aM;have:=aM.size;have hP:=hP.below aM;replace aM:=Below.kp (p:=p) aM;have hb:=hb.trans aM;have:=ab.lt;refine al aR<|am fun bt=>ai rfl<|dQ TX rfl rfl (QG p en ts g m n knot hm hn _ hP (hD.kp hb)) rfl (fun v_ cB cc=>?_) (fun c_ cB cg=>?_)
 rotate_left
 ·
  obtain ⟨pV,p3,jt,rfl,jw,aw⟩:=cg;have gK:=aw.size;have hb:=hb.trans aw;refine cJ<|eH ?_
  exact dY ⟨_,_,by rw [kR,Dd,jt],rfl,jw,hb⟩
 obtain ⟨⟨x,r,hF,⟨z,Sz,rfl,hz,aT⟩,hP,hrl⟩,aw⟩:=cc;have gK:=aw.size;have ab:=ab.kp aw (by omega);have hb:=hb.trans aw;refine cz (sz:=20) (vs:= [_]) fO (by kernel_rfl) rfl rfl rfl rfl rfl rfl ?_;rintro cp fA fw aI aV;have:=aV.size;have hP:=hP.below aV;have ab:=ab.below aV;have hz:=hz.below aV;replace aV:=Below.kp (p:=p) aV;have hb:=hb.trans aV;have:=aI.lt;refine an rfl<|al bt<|av fun _ eX=>b4<|d9 (X:=Value×List bS×List Value×(Nat→Prop)×List Tok×Nat) (fun (v,l,xs,S,r,n1)=> [(0,bH p),(2,.pointer (some ⟨au,0,none⟩)),(3,v)]) (fun (v,l,xs,S,r,n1) wr=>kR en m g knot ts=oM 3 (gz (fun ts=>if iS en ts=true then some ts else none) (fz en m g knot) n1 l r)∧r.length≤n1∧r.length≤ts.tail.length∧0<l.length∧l.length+r.length≤ts.length+1∧Kp p w wr∧be wr p en r g 0∧wr.ownsRow w.heap.size 31 20 v l.length xs∧dv wr S l xs∧(∀k,S k→w.heap.size≤k∧k<wr.heap.size∧k≠au)∧(∀k,S k→v.ownBlock≠some k)∧v.ownBlock≠some au∧ak wr au 31 er.cells) (fun (v,l,xs,S,r,n1)=>r.length) (⟨.slice (some ⟨cp,0,none⟩) 1 1,[x],z.cells,Sz,r,r.length⟩) ?_ ?_ ?_
 · exact by repeat first|exact aC|refine aA rfl (by first|rfl|exact aH (by omega)) ?_
 · exact ⟨by rw [kR,Dd,hF],Nat.le_refl _,hrl,Nat.one_pos,by show 1+r.length≤_;omega,hb,hP,aI.own (base:=w.heap.size) (n:=1) (sz:=20) (by omega) rfl (by decide),dv.one hz,fun k hk=>by have:=aT k hk;omega,fun k hk e=>by have:=aT k hk;have e:cp=k:=Option.some.inj e;omega,fun e=>by have e:cp=au:=Option.some.inj e;omega,ab⟩
 rintro ⟨v,l,xs,S,r,n1⟩ wr jW _ nV;replace jW:kR en m g knot ts=oM 3 (gz (fun ts=>if iS en ts=true then some ts else none) (fz en m g knot) n1 l r)∧r.length≤n1∧r.length≤ts.tail.length∧0<l.length∧l.length+r.length≤ts.length+1∧Kp p w wr∧be wr p en r g 0∧wr.ownsRow w.heap.size 31 20 v l.length xs∧dv wr S l xs∧(∀k,S k→w.heap.size≤k∧k<wr.heap.size∧k≠au)∧(∀k,S k→v.ownBlock≠some k)∧v.ownBlock≠some au∧ak wr au 31 er.cells:=jW;obtain ⟨hF,hn1,hrl,hl0,hlr,hb,hP,hO,hL,jX,pz,hO0,ab⟩:=jW;show Wc _ _ _ _ _ [(0,bH p),(2,.pointer (some ⟨au,0,none⟩)),(3,v)] _;have:=hb.size;have:=ab.lt;refine av fun _ dT=>am fun dU=>ai rfl<|aD TY rfl rfl (Om p en r g 0 _ hP) rfl ?_
 rintro _ cU ⟨rfl,aL⟩;have:=aL.size;have hP:=be.below hP aL;have hO:=mc hO aL;have hL:=dv.below hL aL;have ab:=ak.below ab aL;replace aL:=Below.kp (p:=p) aL;have hb:=hb.trans aL;refine al dU<|aO rfl (fun Gx=>?_) (fun Gx=>?_)
 ·
  have Gy:=Gx;have h1:iS en r=true:=Gy;have hr0:=List.length_pos_iff.2 (yM h1);have hrt2:r.tail.length=r.length - 1:=List.length_tail;have hvk:∀k,v.ownBlock=some k→k<cU.heap.size:=fun k hk=>(jz hO k hk).2;obtain ⟨n1,rfl⟩:∃k,n1=k+1:=⟨n1 - 1,by omega⟩;refine aU<|ax dT<|b4<|aQ<|ai rfl<|ai rfl<|dQ TX rfl rfl (QG p en r g m n knot (by omega) (by omega) _ hP (hD.kp hb)) rfl (fun v_ eP cc=>?_) (fun c_ eP cg=>?_)
  rotate_left
  ·
   obtain ⟨Od,OZ,BX,rfl,CC,a6⟩:=cg;have rD:=a6.size;have hb:=hb.trans a6;refine jh<|cJ<|jh<|cJ<|eH ?_
   exact dY ⟨_,_,by rw [hF];simp only [gz,if_pos h1,BX,oM],rfl,CC,hb⟩
  obtain ⟨⟨y,r2,hF2,⟨z,Sz,rfl,hz,aT⟩,hP,hrl2⟩,a6⟩:=cc;have rD:=a6.size;have hO:=zE hO a6 (by omega);have hL:=hL.kp a6 (fun h_=>by have bh:=jX _ h_;omega);have ab:=ab.kp a6 (by omega);have hb:=hb.trans a6;refine cz (sz:=20) (vs:= [_]) fO (by kernel_rfl) rfl rfl rfl rfl rfl rfl ?_;rintro cK jB jG aK bA;have:=bA.size;have hP:=hP.below bA;have hO:=mc hO bA;have hL:=hL.below bA;have ab:=ab.below bA;have hz:=hz.below bA;replace bA:=Below.kp (p:=p) bA;have hb:=hb.trans bA;have:=aK.lt;have xM:=hO;refine vr (z:=hY) (sz:=20) (bytes:=248) fO (by kernel_rfl) rfl (by decide) _ rfl hO rfl (aK.rd 1 20 rfl) z.one (by simp only [maxLen];omega) (by omega) (by exact hb.size) rfl ?_;rintro DO pO CJ f4 sj;have:=f4.size;have hb:=Fs hb f4 (fun k_ ry=>by have:=(jz hO k_ ry).1;omega);have hO:=CJ;have hP:=hP.row f4 (fun k hk=>by have:=(jz xM k hk).1;omega);have hL:=dv.lift (gn.row f4 pz) (fun _ h=>h) hL;have hz:=bi.lift (gn.row f4 (fun k hk e=>by have:=hvk k e;have:=aT k hk;omega)) (fun _ h=>h) hz;have ab:=ab.grown f4 (fun e=>hO0 e.symm);refine an rfl<|ay<|cD<|fun a_ bM=>nV _ _ (⟨DO,l++ [y],xs++z.cells,fun k=>S k∨Sz k,r2,n1⟩) (by simp;omega) (by repeat first|exact aC|refine aA rfl (by first|rfl|exact aH (by omega)) ?_) ?_ a_ bM
  exact ⟨by rw [hF];simp only [gz,if_pos h1,hF2],by omega,by omega,by rw [List.length_append];omega,by rw [List.length_append];show l.length+1+r2.length≤_;omega,hb,hP,by rw [List.length_append];exact hO,dv.snoc (hL.mono fun _ h=> .inl h) (hz.mono fun _ h=> .inr h),fun k hk=>by rcases hk with h|h;(· have:=jX k h;omega);(· have:=aT k h;omega),fun k hk e=>by rcases sj with h3|h3;(· rw [h3] at e;rcases hk with h|h;(· exact pz k h e);(· have:=hvk k e;have:=aT k h;omega));(· rw [h3] at e;injection e with e;rcases hk with h|h;(· have:=jX k h;omega);(· have:=aT k h;omega)),fun e=>by rcases sj with h3|h3;(· rw [h3] at e;exact hO0 e);(· rw [h3] at e;injection e with e;omega),ab⟩
 have Gy:=Gx;have h1:¬iS en r=true:=by rw [Gy];decide
 refine d2<|cj<|cj<|d3<|ax eX<|av fun _ kh=>?_
 obtain ⟨A,c,rfl,hnc,hmx⟩:=uZ hO;have hR:=vi hO
 have hA:∀q,A=some q→w.heap.size≤q.block∧q.block<cU.heap.size∧q.block≠au:=fun q e=>by
  subst e;have hq:(Value.slice (some q) l.length c).ownBlock=some q.block:=rfl;have:=jz hO q.block hq;exact ⟨this.1,this.2,fun e=>hO0 (by rw [hq,e])⟩
 refine aQ<|ai rfl<|aD TQ rfl rfl (SX 3 A c l xs S hl0 (by omega) _ hR hL) rfl ?_
 rintro _ fj ⟨⟨z,rfl,hz⟩,bk⟩;have:=bk.size;have hP:=be.below hP bk;have ab:=ak.below ab bk;replace bk:=Below.kp (p:=p) bk;have hb:=hb.trans bk
 have aT:∀k,(S k∨∃a,A=some a∧k=a.block)→w.heap.size≤k∧k<cU.heap.size∧k≠au:=fun k hk=>by
  rcases hk with h|⟨a,e,rfl⟩
  · have:=jX k h;omega
  · exact hA a e
 refine ba (by kernel_rfl) rfl rfl ab rfl rfl ?_;rintro du ab aF;have:=aF.size;have hb:=bp hb aF (by omega);have hP:=be.over hP aF (by omega);have hz:=bi.kp hz aF (fun h_=>by have bh:=aT _ h_;omega);refine al kh<|aJ<|bQ (rs:= [.cell 2 31]) (vs:= [_]) rfl (.cell rfl (bP dc (by kernel_rfl) (fun j u hu=>ab.at hu)) .nil) ?_
 exact eY ⟨⟨_,r,by rw [hF];cases n1<;>simp only [gz,if_neg h1,oM],⟨z,_,rfl,hz,fun k hk=>by have:=aT k hk;omega⟩,hP,hrl⟩,hb⟩
theorem TP:bB Tryz.prog 48:=⟨_,Tryz.func48,by kernel_rfl,rfl⟩
theorem adt (p en:Nat) (ts:List Tok) (g m n:Nat) (knot:Nat→List Tok→cn bS) (hm:ts.length≤m) (hn:ts.length≤n) (w:World) (hP:be w p en ts g 0) (hD:vg w p en n knot):gC Tryz.prog 26 [bH p] w (iR w p en g 0 ts (pG en m g knot ts) (pT w.heap.size)) (iD w p en g 0 (pG en m g knot ts)):=by
 have hpl:=hP.lt;have hl65:ts.length≤65536:=let ⟨_,_,_,h,_⟩:=hP.ex;h;have hrt:ts.tail.length=ts.length - 1:=List.length_tail;have hb:=Kp.refl p w;refine enter Tryz.func26 rfl rfl rfl<|am fun aR=>bT (z:=hY) (by kernel_rfl) rfl ?_
 rintro au dJ dH ab aM;have:=aM.size;have hP:=hP.below aM;replace aM:=Below.kp (p:=p) aM;have hb:=hb.trans aM;have:=ab.lt;refine al aR<|am fun bt=>ai rfl<|dQ TP rfl rfl (Ov p en ts g m n knot hm hn _ hP (hD.kp hb)) rfl (fun v_ cB cc=>?_) (fun c_ cB cg=>?_)
 rotate_left
 ·
  obtain ⟨pV,p3,jt,rfl,jw,aw⟩:=cg;have gK:=aw.size;have hb:=hb.trans aw;refine cJ<|eH ?_
  exact dY ⟨_,_,by rw [pG,Dd,jt],rfl,jw,hb⟩
 obtain ⟨⟨x,r,hF,⟨z,Sz,rfl,hz,aT⟩,hP,hrl⟩,aw⟩:=cc;have gK:=aw.size;have ab:=ab.kp aw (by omega);have hb:=hb.trans aw;refine cz (sz:=20) (vs:= [_]) fO (by kernel_rfl) rfl rfl rfl rfl rfl rfl ?_;rintro cp fA fw aI aV;have:=aV.size;have hP:=hP.below aV;have ab:=ab.below aV;have hz:=hz.below aV;replace aV:=Below.kp (p:=p) aV;have hb:=hb.trans aV;have:=aI.lt;refine an rfl<|al bt<|av fun _ eX=>b4<|d9 (X:=Value×List bS×List Value×(Nat→Prop)×List Tok×Nat) (fun (v,l,xs,S,r,n1)=> [(0,bH p),(2,.pointer (some ⟨au,0,none⟩)),(3,v)]) (fun (v,l,xs,S,r,n1) wr=>pG en m g knot ts=oM 4 (gz (fun ts=>if bv en [[124]] ts=true then some ts.tail else none) (kR en m g knot) n1 l r)∧r.length≤n1∧r.length≤ts.tail.length∧0<l.length∧l.length+r.length≤ts.length+1∧Kp p w wr∧be wr p en r g 0∧wr.ownsRow w.heap.size 31 20 v l.length xs∧dv wr S l xs∧(∀k,S k→w.heap.size≤k∧k<wr.heap.size∧k≠au)∧(∀k,S k→v.ownBlock≠some k)∧v.ownBlock≠some au∧ak wr au 31 er.cells) (fun (v,l,xs,S,r,n1)=>r.length) (⟨.slice (some ⟨cp,0,none⟩) 1 1,[x],z.cells,Sz,r,r.length⟩) ?_ ?_ ?_
 · exact by repeat first|exact aC|refine aA rfl (by first|rfl|exact aH (by omega)) ?_
 · exact ⟨by rw [pG,Dd,hF],Nat.le_refl _,hrl,Nat.one_pos,by show 1+r.length≤_;omega,hb,hP,aI.own (base:=w.heap.size) (n:=1) (sz:=20) (by omega) rfl (by decide),dv.one hz,fun k hk=>by have:=aT k hk;omega,fun k hk e=>by have:=aT k hk;have e:cp=k:=Option.some.inj e;omega,fun e=>by have e:cp=au:=Option.some.inj e;omega,ab⟩
 rintro ⟨v,l,xs,S,r,n1⟩ wr jW _ nV;replace jW:pG en m g knot ts=oM 4 (gz (fun ts=>if bv en [[124]] ts=true then some ts.tail else none) (kR en m g knot) n1 l r)∧r.length≤n1∧r.length≤ts.tail.length∧0<l.length∧l.length+r.length≤ts.length+1∧Kp p w wr∧be wr p en r g 0∧wr.ownsRow w.heap.size 31 20 v l.length xs∧dv wr S l xs∧(∀k,S k→w.heap.size≤k∧k<wr.heap.size∧k≠au)∧(∀k,S k→v.ownBlock≠some k)∧v.ownBlock≠some au∧ak wr au 31 er.cells:=jW;obtain ⟨hF,hn1,hrl,hl0,hlr,hb,hP,hO,hL,jX,pz,hO0,ab⟩:=jW;show Wc _ _ _ _ _ [(0,bH p),(2,.pointer (some ⟨au,0,none⟩)),(3,v)] _;have:=hb.size;have:=ab.lt;refine av fun _ dT=>am fun dU=>ai rfl<|ae (cI rfl) rfl<|ae (aP (fH _) rfl) rfl<|cz (sz:=1) (vs:= [_]) dl (by kernel_rfl) rfl rfl rfl rfl rfl rfl ?_
 rintro cK jB jG aK bA;have:=bA.size;have hP:=hP.below bA;have hO:=mc hO bA;have hL:=hL.below bA;have ab:=ab.below bA;replace bA:=Below.kp (p:=p) bA;have hb:=hb.trans bA;have:=aK.lt;refine aD j4 rfl rfl (jY p en r g 0 _ 1 [[124]] (by simp) _ hP (aK.rd 1 1 rfl)) rfl ?_;rintro _ cU ⟨rfl,aL⟩;have:=aL.size;have hP:=be.below hP aL;have hO:=mc hO aL;have hL:=dv.below hL aL;have ab:=ak.below ab aL;replace aL:=Below.kp (p:=p) aL;have hb:=hb.trans aL;refine al dU<|aO rfl (fun lr=>?_) (fun lr=>?_)
 ·
  have sR:=lr;have h1:bv en [[124]] r=true:=sR;have hr0:=List.length_pos_iff.2 (eB h1);have hrt2:r.tail.length=r.length - 1:=List.length_tail;have hrt3:r.tail.tail.length=r.tail.length - 1:=List.length_tail;have hvk:∀k,v.ownBlock=some k→k<cU.heap.size:=fun k hk=>(jz hO k hk).2;obtain ⟨n1,rfl⟩:∃k,n1=k+1:=⟨n1 - 1,by omega⟩;refine aU<|ax dT<|b4<|am fun fC=>ai rfl<|aD jM rfl rfl (jL p en r g 0 (eB h1) _ hP) rfl ?_
  rintro _ eP ⟨⟨rfl,hP⟩,a6⟩;have:=a6.size;have hO:=zE hO a6 (by omega);have hL:=dv.kp hL a6 (fun h_=>by have bh:=jX _ h_;omega);have ab:=ak.kp ab a6 (by omega);have hb:=hb.trans a6;refine al fC<|aQ<|ai rfl<|ai rfl<|dQ TP rfl rfl (Ov p en r.tail g m n knot (by omega) (by omega) _ hP (hD.kp hb)) rfl (fun v_ fj cc=>?_) (fun c_ fj cg=>?_)
  rotate_left
  ·
   obtain ⟨vu,wN,nO,rfl,nW,bk⟩:=cg;have mM:=bk.size;have hb:=hb.trans bk;refine jh<|cJ<|jh<|cJ<|eH ?_
   exact dY ⟨_,_,by rw [hF];simp only [gz,if_pos h1,nO,oM],rfl,nW,hb⟩
  obtain ⟨⟨y,r2,hF2,⟨z,Sz,rfl,hz,aT⟩,hP,hrl2⟩,bk⟩:=cc;have mM:=bk.size;have hO:=zE hO bk (by omega);have hL:=hL.kp bk (fun h_=>by have bh:=jX _ h_;omega);have ab:=ab.kp bk (by omega);have hb:=hb.trans bk;refine cz (sz:=20) (vs:= [_]) fO (by kernel_rfl) rfl rfl rfl rfl rfl rfl ?_;rintro eA pO f4 bn c8;have:=c8.size;have hP:=hP.below c8;have hO:=mc hO c8;have hL:=hL.below c8;have ab:=ab.below c8;have hz:=hz.below c8;replace c8:=Below.kp (p:=p) c8;have hb:=hb.trans c8;have:=bn.lt;have xM:=hO;refine vr (z:=hY) (sz:=20) (bytes:=248) fO (by kernel_rfl) rfl (by decide) _ rfl hO rfl (bn.rd 1 20 rfl) z.one (by simp only [maxLen];omega) (by omega) (by exact hb.size) rfl ?_;rintro No sA Lo l8 Le;have:=l8.size;have hb:=Fs hb l8 (fun k_ ry=>by have:=(jz hO k_ ry).1;omega);have hO:=Lo;have hP:=hP.row l8 (fun k hk=>by have:=(jz xM k hk).1;omega);have hL:=dv.lift (gn.row l8 pz) (fun _ h=>h) hL;have hz:=bi.lift (gn.row l8 (fun k hk e=>by have:=hvk k e;have:=aT k hk;omega)) (fun _ h=>h) hz;have ab:=ab.grown l8 (fun e=>hO0 e.symm);refine an rfl<|ay<|cD<|fun a_ bM=>nV _ _ (⟨No,l++ [y],xs++z.cells,fun k=>S k∨Sz k,r2,n1⟩) (by simp;omega) (by repeat first|exact aC|refine aA rfl (by first|rfl|exact aH (by omega)) ?_) ?_ a_ bM
  exact ⟨by rw [hF];simp only [gz,if_pos h1,hF2],by omega,by omega,by rw [List.length_append];omega,by rw [List.length_append];show l.length+1+r2.length≤_;omega,hb,hP,by rw [List.length_append];exact hO,dv.snoc (hL.mono fun _ h=> .inl h) (hz.mono fun _ h=> .inr h),fun k hk=>by rcases hk with h|h;(· have:=jX k h;omega);(· have:=aT k h;omega),fun k hk e=>by rcases Le with h3|h3;(· rw [h3] at e;rcases hk with h|h;(· exact pz k h e);(· have:=hvk k e;have:=aT k h;omega));(· rw [h3] at e;injection e with e;rcases hk with h|h;(· have:=jX k h;omega);(· have:=aT k h;omega)),fun e=>by rcases Le with h3|h3;(· rw [h3] at e;exact hO0 e);(· rw [h3] at e;injection e with e;omega),ab⟩
 have sR:=lr;have h1:¬bv en [[124]] r=true:=by rw [sR];decide
 refine d2<|cj<|cj<|d3<|ax eX<|av fun _ fu=>?_
 obtain ⟨A,c,rfl,hnc,hmx⟩:=uZ hO;have hR:=vi hO
 have hA:∀q,A=some q→w.heap.size≤q.block∧q.block<cU.heap.size∧q.block≠au:=fun q e=>by
  subst e;have hq:(Value.slice (some q) l.length c).ownBlock=some q.block:=rfl;have:=jz hO q.block hq;exact ⟨this.1,this.2,fun e=>hO0 (by rw [hq,e])⟩
 refine aQ<|ai rfl<|aD TQ rfl rfl (SX 4 A c l xs S hl0 (by omega) _ hR hL) rfl ?_
 rintro _ gj ⟨⟨z,rfl,hz⟩,bD⟩;have:=bD.size;have hP:=be.below hP bD;have ab:=ak.below ab bD;replace bD:=Below.kp (p:=p) bD;have hb:=hb.trans bD
 have aT:∀k,(S k∨∃a,A=some a∧k=a.block)→w.heap.size≤k∧k<cU.heap.size∧k≠au:=fun k hk=>by
  rcases hk with h|⟨a,e,rfl⟩
  · have:=jX k h;omega
  · exact hA a e
 refine ba (by kernel_rfl) rfl rfl ab rfl rfl ?_;rintro du ab aF;have:=aF.size;have hb:=bp hb aF (by omega);have hP:=be.over hP aF (by omega);have hz:=bi.kp hz aF (fun h_=>by have bh:=aT _ h_;omega);refine al fu<|aJ<|bQ (rs:= [.cell 2 31]) (vs:= [_]) rfl (.cell rfl (bP dc (by kernel_rfl) (fun j u hu=>ab.at hu)) .nil) ?_
 exact eY ⟨⟨_,r,by rw [hF];cases n1<;>simp only [gz,if_neg h1,oM],⟨z,_,rfl,hz,fun k hk=>by have:=aT k hk;omega⟩,hP,by omega⟩,hb⟩
theorem T4:bB Tryz.prog 26:=⟨_,Tryz.func26,by kernel_rfl,rfl⟩
theorem RV (p en m:Nat):∀(n g:Nat) (w:World),n≤m→iv w p en g 0 n 26 #[bH p] #[] (pF en m n g) pT
 |0,g,w,_=>⟨T4,fun w' ts hk hP hm=>absurd hm (Nat.not_lt_zero _)⟩
 |n+1,g,w,h=>⟨T4,fun w' ts hk hP hm=>adt p en ts g m n (pF en m n) (by omega) (by omega) w' hP fun g'=>RV p en m n g' w' (by omega)⟩
theorem y6 (p:Addr) (w:World):(Instr.fieldAt 33 (.pointer (some p)) 0).run Tryz.prog w= .ok (.pointer (some (p.add 0))) w:=eT (i:=0) (sz:=0) e8 rfl (by kernel_rfl) p w
theorem s1 (p:Addr) (w:World):(Instr.fieldAt 33 (.pointer (some p)) 1).run Tryz.prog w= .ok (.pointer (some (p.add 1))) w:=eT (i:=1) (sz:=0) e8 rfl (by kernel_rfl) p w
theorem r6 (p:Addr) (w:World):(Instr.fieldAt 33 (.pointer (some p)) 2).run Tryz.prog w= .ok (.pointer (some (p.add 2))) w:=eT (i:=2) (sz:=0) e8 rfl (by kernel_rfl) p w
theorem uB (p:Addr) (w:World):(Instr.fieldAt 33 (.pointer (some p)) 3).run Tryz.prog w= .ok (.pointer (some (p.add 3))) w:=eT (i:=3) (sz:=19) e8 rfl (by kernel_rfl) p w
theorem VF (A:Option Addr) (c:Nat) (l:List (ao)) (x:ao) (hl:l.length≤281474976710656) (w:World) (hR:Rd w 1 A l.length (b9 l)):bx Tryz.prog 22 [.slice A l.length c,str x] w fun v w'=>(∃z,v= .int .i64 z∧(x∈l→z=((l.findIdx (· ==x):Nat):Int)))∧Below w.heap.size w w':=by
 have hb:=Below.refl w.heap.size w;have dX:=hR;refine enter Tryz.func22 rfl rfl rfl<|am fun aR=>an rfl<|al aR<|av fun _ bt=>am fun b8=>ai rfl<|ae (iC dl (by omega) rfl) rfl<|ai rfl<|al b8<|b4<|d9 (X:=Nat) (fun i=> [(0,.slice A l.length c),(1,str x),(7,.int .i64 (l.length:Int)),(8,.int .i64 (i:Int))]) (fun i wr=>i≤l.length∧(∀j,j<i→l.getD j []≠x)∧Below w.heap.size w wr) (fun i=>l.length - i) (0) ?_ ?_ ?_
 · exact by repeat first|exact aC|refine aA rfl (by first|rfl|exact aH (by omega)) ?_
 · exact ⟨by omega,fun j h=>by omega,hb⟩
 rintro i wr lI _ si;replace lI:i≤l.length∧(∀j,j<i→l.getD j []≠x)∧Below w.heap.size w wr:=lI;obtain ⟨hi,hall,hb⟩:=lI;show Wc _ _ _ _ _ [(0,.slice A l.length c),(1,str x),(7,.int .i64 (l.length:Int)),(8,.int .i64 (i:Int))] _;have hR:=dX.below hb;have:=hb.size;refine am fun fZ=>ae (dL rfl rfl) rfl<|al fZ<|av fun _ dU=>aO rfl (fun eK=>?_) (fun eK=>?_)
 ·
  have sP:=eK;simp only [DZ] at eK;have hil:i<l.length:=by have:=eK;omega
  obtain ⟨p_,v_,hpe,hve,hcell⟩:=hR.one (i:=i) hil;subst hpe;obtain rfl:=Do hil hve;refine aU<|ax dU<|av fun _ fd=>b4<|am fun eL=>ai rfl<|an rfl<|al eL<|am fun dG=>ai rfl<|ai rfl<|ai rfl<|ae (f8 dl pL rfl rfl (by omega) (by omega)) rfl<|aG (aS di rfl (by exact vv hcell)) rfl<|ae (fl rfl rfl) rfl<|al dG<|aO rfl (fun nu=>?_) (fun nu=>?_)
  ·
   have heq:x=l.getD i []:=by have h:=nu;simpa using h
   refine am fun ju=>ai rfl<|an rfl<|al ju<|aJ<|co (aX (aX (co (aX ?_))))
   refine bN rfl rfl ?_
   exact ⟨_,rfl,⟨_,rfl,fun _=>by
 have h1:l.findIdx (· ==x)=i:=(List.findIdx_eq hil).2 ⟨by rw [heq];simp [List.getD,List.getElem?_eq_getElem hil],fun j hj=>by have:=hall j hj;simpa [List.getD,List.getElem?_eq_getElem (Nat.lt_trans hj hil)] using this⟩
 rw [h1]⟩,hb⟩
  have hne:l.getD i []≠x:=fun e=>by have h:=nu;rw [e] at h;simp at h
  refine aU<|cD<|ax fd<|aQ<|ae (ct rfl rfl (by omega) (by omega)) rfl<|ai rfl<|ay<|fun a_ bM=>si _ _ (i+1) (by omega) (by repeat first|exact aC|refine aA rfl (by first|rfl|exact aH (by omega)) ?_) ?_ a_ bM
  exact ⟨by omega,fun j hj=>by (by_cases e:j=i);(· rw [e];exact hne);(· exact hall j (by omega)),hb⟩
 have sP:=eK;simp only [DZ] at eK;refine d2<|cj<|cj<|d3<|ax bt<|am fun k8=>an rfl<|al k8<|aJ<|bN rfl rfl ?_
 exact ⟨_,rfl,⟨_,rfl,fun h=>by
 obtain ⟨j,hj,e⟩:=List.mem_iff_getElem.1 h
 exact absurd (by simp [List.getD,List.getElem?_eq_getElem hj,e]) (hall j (by have:=eK;omega))⟩,hb⟩
def ic (mode sel kk:Int) (z:PC):List Value:= .int .i64 mode :: .int .i64 sel :: .int .i64 kk :: z.cells
theorem SO:∀(vs pre old:List Value),old.length=vs.length→zP (pre++old) pre.length vs=pre++vs
 | [],pre,old,h=>by
  rw [List.eq_nil_of_length_eq_zero h];rfl
 |v :: r,pre,[],h=>by cases h
 |v :: r,pre,o :: old,h=>by
  have h1:(pre++o :: old).set pre.length v=(pre++ [v])++old:=by
   rw [List.set_append_right _ _ (Nat.le_refl _),Nat.sub_self,List.append_assoc];rfl
  have h2:=SO r (pre++ [v]) old (by simpa using h);rw [List.length_append] at h2;show zP ((pre++o :: old).set pre.length v) (pre.length+1) r=_;rw [h1];exact h2.trans (by rw [List.append_assoc];rfl)
theorem SP (mode sel kk:Int) (z0 z:PC):zP (ic mode sel kk z0) 3 z.cells=ic mode sel kk z:=
 SO z.cells [.int .i64 mode,.int .i64 sel,.int .i64 kk] z0.cells (by rw [z0.len,z.len])
def Vj (B:Nat) (q:sM) (v:Value) (w:World):Prop:=∃(z:PC) (S:Nat→Prop),v= .agg (ic q.mode q.sel q.kk z).toArray∧bi w S q.pat z.cells∧∀k,S k→B≤k∧k<w.heap.size
set_option maxHeartbeats 400000 in
theorem adJ (p en:Nat) (ts:List Tok) (w:World) (hP:be w p en ts 0 0):gC Tryz.prog 10 [bH p] w (iR w p en 0 0 ts (me en ts) (Vj w.heap.size)) (iD w p en 0 0 (me en ts)):=by
 have hpl:=hP.lt;have hb:=Kp.refl p w;refine enter Tryz.func10 rfl rfl rfl<|am fun aR=>bT (z:=sr) (by kernel_rfl) rfl ?_
 rintro au dJ dH ab aM;have:=aM.size;have hP:=hP.below aM;replace aM:=Below.kp (p:=p) aM;have hb:=hb.trans aM;have:=ab.lt;refine al aR<|am fun bt=>cz (sz:=1) (vs:= [_,_,_,_]) dl (by kernel_rfl) rfl rfl rfl rfl rfl rfl ?_
 rintro cp fA fw aI aV;have:=aV.size;have hP:=hP.below aV;have ab:=ab.below aV;replace aV:=Below.kp (p:=p) aV;have hb:=hb.trans aV;have:=aI.lt;refine an rfl<|al bt<|av fun _ fi=>am fun dV=>ai rfl<|ae (cI rfl) rfl<|ae (aP (fH _) rfl) rfl<|ai rfl<|aD j4 rfl rfl (jY p en ts 0 0 _ 4 kP (by simp [kP]) _ hP (aI.rd 4 1 rfl)) rfl ?_
 rintro _ cB ⟨rfl,aw⟩;have:=aw.size;have hP:=be.below hP aw;have ab:=ak.below ab aw;have aI:=ak.below aI aw;replace aw:=Below.kp (p:=p) aw;have hb:=hb.trans aw;refine al dV<|cR (X:=Int×List Tok) (fun (mode,r)=> [(0,bH p),(2,.pointer (some ⟨au,0,none⟩))]) (fun (mode,r) wr=>j2 en ts=(mode,r)∧r.length≤ts.length∧Kp p w wr∧be wr p en r 0 0∧ak wr au 33 (ic mode 0 0 er)) (fun _ PX=>?_) ?_
 ·
  refine aO rfl (fun iF=>?_) (fun iF=>?_)
  ·
   have sQ:=iF;have h0:bv en kP ts=true:=sQ;obtain ⟨r,nX⟩:∃r,ts.tail=r:=⟨_,rfl⟩;have hrt:r.length≤ts.length:=by rw [←nX,List.length_tail];omega
   refine aQ<|ai rfl<|ai rfl<|aD jM rfl rfl (jL p en ts 0 0 (eB h0) _ hP) rfl ?_
   rintro _ cU ⟨⟨rfl,hP⟩,aL⟩;have:=aL.size;have ab:=ak.kp ab aL (by omega);have aI:=ak.kp aI aL (by omega);have hb:=hb.trans aL;refine ae (ni fe rfl di rfl rfl) rfl<|aD TL rfl rfl (VF _ 4 kP (aN en ts).t (by simp [kP]) _ (aI.rd 4 1 rfl)) rfl ?_
   rintro _ eP ⟨⟨mode,rfl,hmode⟩,a6⟩;have:=a6.size;have hP:=be.below hP a6;have ab:=ak.below ab a6;replace a6:=Below.kp (p:=p) a6;have hb:=hb.trans a6;refine ae (aP (y6 _) rfl) rfl ?_;rw [nX] at hP;refine fV b0 rfl rfl rfl ab (by show 0<23;decide) ?_;rintro du ab aF;have:=aF.size;have hb:=bp hb aF (by omega);have hP:=be.over hP aF (by omega);refine ay<|a7 PX (⟨mode,r⟩) (by repeat first|exact aC|refine aA rfl (by first|rfl|exact aH (by omega)) ?_) ?_
   exact ⟨by unfold j2 Mf;rw [if_pos h0,hmode (qi h0),nX],hrt,hb,hP,ab⟩
  have sQ:=iF;have h0:¬bv en kP ts=true:=by rw [sQ];decide
  obtain ⟨mode,r,heq⟩:∃(a:Int) (b:List Tok),a=0∧b=ts:=⟨_,_,rfl,rfl⟩;refine aU<|a7 PX (⟨mode,r⟩) (by repeat first|exact aC|refine aA rfl (by first|rfl|exact aH (by omega)) ?_) ?_
  (obtain ⟨e1,e2⟩:=heq;subst e1 e2;exact ⟨if_neg h0,Nat.le_refl _,hb,hP,ab⟩)
 rintro ⟨mode,r⟩ wr xo;replace xo:j2 en ts=(mode,r)∧r.length≤ts.length∧Kp p w wr∧be wr p en r 0 0∧ak wr au 33 (ic mode 0 0 er):=xo;obtain ⟨hMo,hrl,hb,hP,ab⟩:=xo;show Wq _ _ _ _ [(0,bH p),(2,.pointer (some ⟨au,0,none⟩))] _;have:=hb.size;have:=ab.lt;refine ax fi<|av fun _ kh=>b4<|am fun gr=>ai rfl<|ae (cI rfl) rfl<|ae (aP (fH _) rfl) rfl<|cz (sz:=1) (vs:= [_]) dl (by kernel_rfl) rfl rfl rfl rfl rfl rfl ?_
 rintro cK jB jG aK bA;have:=bA.size;have hP:=hP.below bA;have ab:=ab.below bA;replace bA:=Below.kp (p:=p) bA;have hb:=hb.trans bA;have:=aK.lt;refine aD j4 rfl rfl (jY p en r 0 0 _ 1 [tS] (by simp) _ hP (aK.rd 1 1 rfl)) rfl ?_;rintro _ fj ⟨rfl,bk⟩;have:=bk.size;have hP:=be.below hP bk;have ab:=ak.below ab bk;replace bk:=Below.kp (p:=p) bk;have hb:=hb.trans bk;refine an rfl<|al gr ?_
 have hrt1:r.tail.length=r.length - 1:=List.length_tail;have hrt2:r.tail.tail.length=r.tail.length - 1:=List.length_tail;refine cR (X:=Int×Int×List Tok) (fun (sel,kk,r2)=> [(0,bH p),(2,.pointer (some ⟨au,0,none⟩))]) (fun (sel,kk,r2) wr=>gw en r= .ok (sel,kk) r2∧r2.length≤ts.length∧Kp p w wr∧be wr p en r2 0 0∧ak wr au 33 (ic mode sel kk er)) (fun _ ru=>?_) ?_
 ·
  refine aO rfl (fun vJ=>?_) (fun vJ=>?_)
  ·
   have sU:=vJ;have h1:bv en [tS] r=true:=sU;refine am fun gP=>ai rfl<|aD jM rfl rfl (jL p en r 0 0 (eB h1) _ hP) rfl ?_
   rintro _ gj ⟨⟨rfl,hP⟩,bD⟩;have:=bD.size;have ab:=ak.kp ab bD (by omega);have hb:=hb.trans bD;refine al gP<|am fun gI=>ai rfl<|ae (cI rfl) rfl<|ae (aP (fH _) rfl) rfl<|cz (sz:=1) (vs:= [_]) dl (by kernel_rfl) rfl rfl rfl rfl rfl rfl ?_
   rintro eA pO f4 bn c8;have:=c8.size;have hP:=hP.below c8;have ab:=ab.below c8;replace c8:=Below.kp (p:=p) c8;have hb:=hb.trans c8;have:=bn.lt;refine aD j4 rfl rfl (jY p en r.tail 0 0 _ 1 [mT] (by simp) _ hP (bn.rd 1 1 rfl)) rfl ?_;rintro _ lW ⟨rfl,cm⟩;have:=cm.size;have hP:=be.below hP cm;have ab:=ak.below ab cm;replace cm:=Below.kp (p:=p) cm;have hb:=hb.trans cm;refine al gI<|aO rfl (fun vO=>?_) (fun vO=>?_)
   ·
    have vP:=vO;have h2:bv en [mT] r.tail=true:=vP;obtain ⟨sel,kk,r2,heq⟩:∃(a b:Int) (c:List Tok),a=2∧b=0∧c=r.tail.tail:=⟨_,_,_,rfl,rfl,rfl⟩;have hpt:gw en r= .ok (2,0) r.tail.tail:=by unfold gw;rw [if_pos h1,if_pos h2]
    have hr2l:r.tail.tail.length≤ts.length:=by omega
    refine am fun lL=>ai rfl<|aD jM rfl rfl (jL p en r.tail 0 0 (eB h2) _ hP) rfl ?_
    rintro _ lX ⟨⟨rfl,hP⟩,cy⟩;have:=cy.size;have ab:=ak.kp ab cy (by omega);have hb:=hb.trans cy;refine al lL<|aQ<|ae (aP (s1 _) rfl) rfl<|fV b0 rfl rfl rfl ab (by show 1<23;decide) ?_
    rintro ff ab bc;have:=bc.size;have hb:=bp hb bc (by omega);have hP:=be.over hP bc (by omega);refine ay<|a7 ru (⟨sel,kk,r2⟩) (by repeat first|exact aC|refine aA rfl (by first|rfl|exact aH (by omega)) ?_) ?_
    obtain ⟨e1,e2,e3⟩:=heq;subst e1 e2 e3;exact ⟨hpt,hr2l,hb,hP,ab⟩
   have vP:=vO;have h2:¬bv en [mT] r.tail=true:=by rw [vP];decide
   obtain ⟨sel,kk,r2,heq⟩:∃(a b:Int) (c:List Tok),a=0∧b=0∧c=r.tail:=⟨_,_,_,rfl,rfl,rfl⟩;have hpt:gw en r= .ok (0,0) r.tail:=by unfold gw;rw [if_pos h1,if_neg h2]
   have hr2l:r.tail.length≤ts.length:=by omega
   refine aU<|a7 ru (⟨sel,kk,r2⟩) (by repeat first|exact aC|refine aA rfl (by first|rfl|exact aH (by omega)) ?_) ?_
   obtain ⟨e1,e2,e3⟩:=heq;subst e1 e2 e3;exact ⟨hpt,hr2l,hb,hP,ab⟩
  have sU:=vJ;have h1:¬bv en [tS] r=true:=by rw [sU];decide
  refine am fun oB=>ai rfl<|ae (cI rfl) rfl<|ae (aP (fH _) rfl) rfl<|cz (sz:=1) (vs:= [_]) dl (by kernel_rfl) rfl rfl rfl rfl rfl rfl ?_
  rintro eW sA l8 bu d4;have:=d4.size;have hP:=hP.below d4;have ab:=ab.below d4;replace d4:=Below.kp (p:=p) d4;have hb:=hb.trans d4;have:=bu.lt;refine aD j4 rfl rfl (jY p en r 0 0 _ 1 [tT] (by simp) _ hP (bu.rd 1 1 rfl)) rfl ?_;rintro _ mh ⟨rfl,cA⟩;have:=cA.size;have hP:=be.below hP cA;have ab:=ak.below ab cA;replace cA:=Below.kp (p:=p) cA;have hb:=hb.trans cA;refine an rfl<|al oB<|aO rfl (fun HC=>?_) (fun HC=>?_)
  ·
   have HD:=HC;have h3:bv en [tT] r=true:=HD;obtain ⟨sel,kk,r2,heq⟩:∃(a b:Int) (c:List Tok),a=1∧b=0∧c=r.tail:=⟨_,_,_,rfl,rfl,rfl⟩;have hpt:gw en r= .ok (1,0) r.tail:=by unfold gw;rw [if_neg h1,if_pos h3]
   have hr2l:r.tail.length≤ts.length:=by omega
   refine am fun mF=>ai rfl<|aD jM rfl rfl (jL p en r 0 0 (eB h3) _ hP) rfl ?_
   rintro _ qw ⟨⟨rfl,hP⟩,cL⟩;have:=cL.size;have ab:=ak.kp ab cL (by omega);have hb:=hb.trans cL;refine al mF<|aQ<|ae (aP (s1 _) rfl) rfl<|fV b0 rfl rfl rfl ab (by show 1<23;decide) ?_
   rintro gB ab bz;have:=bz.size;have hb:=bp hb bz (by omega);have hP:=be.over hP bz (by omega);refine ay<|a7 ru (⟨sel,kk,r2⟩) (by repeat first|exact aC|refine aA rfl (by first|rfl|exact aH (by omega)) ?_) ?_
   obtain ⟨e1,e2,e3⟩:=heq;subst e1 e2 e3;exact ⟨hpt,hr2l,hb,hP,ab⟩
  have HD:=HC;have h3:¬bv en [tT] r=true:=by rw [HD];decide
  refine am fun kK=>ai rfl<|ae (cI rfl) rfl<|ae (aP (fH _) rfl) rfl<|cz (sz:=1) (vs:= [_]) dl (by kernel_rfl) rfl rfl rfl rfl rfl rfl ?_
  rintro gO DQ xQ bG gQ;have:=gQ.size;have hP:=hP.below gQ;have ab:=ab.below gQ;replace gQ:=Below.kp (p:=p) gQ;have hb:=hb.trans gQ;have:=bG.lt;refine aD j4 rfl rfl (jY p en r 0 0 _ 1 [mT] (by simp) _ hP (bG.rd 1 1 rfl)) rfl ?_;rintro _ sD ⟨rfl,dr⟩;have:=dr.size;have hP:=be.below hP dr;have ab:=ak.below ab dr;replace dr:=Below.kp (p:=p) dr;have hb:=hb.trans dr;refine an rfl<|al kK<|aO rfl (fun HZ=>?_) (fun HZ=>?_)
  ·
   have H0:=HZ;have h4:bv en [mT] r=true:=H0;refine am fun m7=>ai rfl<|aD jM rfl rfl (jL p en r 0 0 (eB h4) _ hP) rfl ?_
   rintro _ sB ⟨⟨rfl,hP⟩,cY⟩;have:=cY.size;have ab:=ak.kp ab cY (by omega);have hb:=hb.trans cY;refine al m7<|am fun aag=>ai rfl<|ae (cI rfl) rfl<|ae (aP (fH _) rfl) rfl<|aD qt rfl rfl (st p en r.tail 0 0 _ hP) rfl ?_
   rintro _ oQ ⟨rfl,bE⟩;have:=bE.size;have hP:=be.below hP bE;have ab:=ak.below ab bE;replace bE:=Below.kp (p:=p) bE;have hb:=hb.trans bE;refine bT (z:=fx) (by kernel_rfl) rfl ?_;rintro p8 Um Qx fh kM;have:=kM.size;have hP:=hP.below kM;have ab:=ab.below kM;replace kM:=Below.kp (p:=p) kM;have hb:=hb.trans kM;have:=fh.lt;refine ba (by kernel_rfl) rfl rfl fh rfl rfl ?_;rintro j7 fh cd;have:=cd.size;have hb:=bp hb cd (by omega);have hP:=be.over hP cd (by omega);have ab:=ab.over cd (by omega);refine al aag<|am fun nT=>ai rfl<|ae (aP (qQ _) rfl) rfl<|aG (aS b0 rfl (by exact fh.at (j:=2) rfl)) rfl<|dQ M7 rfl rfl (Nx p en (aN en r.tail).a r.tail 0 0 _ hP) rfl (fun v_ u6 cc=>?_) (fun c_ u6 cg=>?_)
   rotate_left
   ·
    obtain ⟨ahq,ahF,Zp,rfl,aaG,eN⟩:=cg;have abO:=eN.size;have hb:=hb.trans eN;refine cJ<|cJ<|jh<|cJ<|eH ?_
    exact dY ⟨_,_,by simp only [me,hMo,gw,if_neg h1,if_neg h3,if_pos h4,Zp],rfl,aaG,hb⟩
   obtain ⟨⟨k3,r3,hFk,rfl,hP,hrl3⟩,eN⟩:=cc;have abO:=eN.size;have ab:=ab.kp eN (by omega);have fh:=fh.kp eN (by omega);have hb:=hb.trans eN;refine ae (aP (s1 _) rfl) rfl<|fV b0 rfl rfl rfl ab (by show 1<23;decide) ?_
   rintro kW ab cx;have:=cx.size;have hb:=bp hb cx (by omega);have hP:=be.over hP cx (by omega);have fh:=fh.over cx (by omega);refine ae (aP (r6 _) rfl) rfl<|fV b0 rfl rfl rfl ab (by show 2<23;decide) ?_
   rintro mV ab cS;have:=cS.size;have hb:=bp hb cS (by omega);have hP:=be.over hP cS (by omega);have fh:=fh.over cS (by omega);refine al nT<|b4<|am fun Cp=>ae (aP (r6 _) rfl) rfl<|aG (aS b0 rfl (by exact ab.at (j:=2) rfl)) rfl<|ae (dL rfl rfl) rfl<|an rfl<|al Cp<|aO rfl (fun wo=>?_) (fun wo=>?_)
   ·
    have XN:=wo;simp only [DZ] at wo;have h5:k3<1:=by have:=wo;omega
    refine aQ<|ae (aP (qQ _) rfl) rfl<|aG (aS b0 rfl (by exact fh.at (j:=2) rfl)) rfl<|ae (cC (z:=tI) (pl:= [(0,1),(1,1)]) (cs:= [_,_]) kU (by kernel_rfl) (by kernel_rfl) rfl rfl rfl) rfl<|ae (pP kU (by intro _ h;cases h) rfl) rfl<|sO rfl<|jh<|cJ<|jh<|cJ<|eH ?_
    exact dY ⟨_,_,by simp only [me,hMo,gw,if_neg h1,if_neg h3,if_pos h4,hFk,if_pos h5],rfl,⟨_,hP⟩,hb⟩
   have XN:=wo;simp only [DZ] at wo;have h5:¬k3<1:=by have:=wo;omega
   refine am fun tA=>ae (aP (r6 _) rfl) rfl<|aG (aS b0 rfl (by exact ab.at (j:=2) rfl)) rfl<|ae (ed rfl rfl) rfl<|an rfl<|al tA<|aO rfl (fun wy=>?_) (fun wy=>?_)
   ·
    have XT:=wy;simp only [DZ] at wy;have h6:1000<k3:=by have:=wy;omega
    refine aQ<|ae (aP (qQ _) rfl) rfl<|aG (aS b0 rfl (by exact fh.at (j:=2) rfl)) rfl<|ae (cC (z:=tI) (pl:= [(0,1),(1,1)]) (cs:= [_,_]) kU (by kernel_rfl) (by kernel_rfl) rfl rfl rfl) rfl<|ae (pP kU (by intro _ h;cases h) rfl) rfl<|sO rfl<|jh<|cJ<|jh<|cJ<|eH ?_
    exact dY ⟨_,_,by simp only [me,hMo,gw,if_neg h1,if_neg h3,if_pos h4,hFk,if_neg h5,if_pos h6],rfl,⟨_,hP⟩,hb⟩
   have XT:=wy;simp only [DZ] at wy;have h6:¬1000<k3:=by have:=wy;omega
   obtain ⟨sel,kk,r2,heq⟩:∃(a b:Int) (c:List Tok),a=3∧b=k3∧c=r3:=⟨_,_,_,rfl,rfl,rfl⟩;have hpt:gw en r= .ok (3,k3) r3:=by unfold gw;rw [if_neg h1,if_neg h3,if_pos h4,hFk];simp only [if_neg h5,if_neg h6]
   have hr2l:r3.length≤ts.length:=by omega
   refine aU<|cD<|a7 ru (⟨sel,kk,r2⟩) (by repeat first|exact aC|refine aA rfl (by first|rfl|exact aH (by omega)) ?_) ?_
   obtain ⟨e1,e2,e3⟩:=heq;subst e1 e2 e3;exact ⟨hpt,hr2l,hb,hP,ab⟩
  have H0:=HZ;have h4:¬bv en [mT] r=true:=by rw [H0];decide
  obtain ⟨sel,kk,r2,heq⟩:∃(a b:Int) (c:List Tok),a=0∧b=0∧c=r:=⟨_,_,_,rfl,rfl,rfl⟩;have hpt:gw en r= .ok (0,0) r:=by unfold gw;rw [if_neg h1,if_neg h3,if_neg h4]
  have hr2l:r.length≤ts.length:=by omega
  refine aU<|a7 ru (⟨sel,kk,r2⟩) (by repeat first|exact aC|refine aA rfl (by first|rfl|exact aH (by omega)) ?_) ?_
  obtain ⟨e1,e2,e3⟩:=heq;subst e1 e2 e3;exact ⟨hpt,hr2l,hb,hP,ab⟩
 rintro ⟨sel,kk,r2⟩ wr xg;replace xg:gw en r= .ok (sel,kk) r2∧r2.length≤ts.length∧Kp p w wr∧be wr p en r2 0 0∧ak wr au 33 (ic mode sel kk er):=xg;obtain ⟨hSe,hrl2,hb,hP,ab⟩:=xg;show Wq _ _ _ _ [(0,bH p),(2,.pointer (some ⟨au,0,none⟩))] _;have:=hb.size;have:=ab.lt;refine cD<|ax kh<|am fun oA=>ai rfl<|dQ TM rfl rfl ((RV p en (ts.length+1) (ts.length+1) 0 _ (Nat.le_refl _)).does _ r2 (Kp.refl _ _) hP (by omega)) rfl (fun v_ sC cc=>?_) (fun c_ sC cg=>?_)
 rotate_left
 ·
  obtain ⟨Oc,OY,BW,rfl,CB,fk⟩:=cg;have CQ:=fk.size;have hb:=hb.trans fk;refine cJ<|eH ?_
  exact dY ⟨_,_,by simp only [me,hMo,hSe,BW],rfl,CB,hb⟩
 obtain ⟨⟨x,r4,hFp,⟨z,Sz,rfl,hz,aT⟩,hP,hrl4⟩,fk⟩:=cc;have CQ:=fk.size;have ab:=ab.kp fk (by omega);have hb:=hb.trans fk;refine ae (aP (uB _) rfl) rfl<|yJ (by kernel_rfl) rfl rfl rfl ab (by show 3+20≤23;decide) ?_
 rintro mW ab df;have:=df.size;have hb:=bp hb df (by omega);have hP:=be.over hP df (by omega);have hz:=bi.kp hz df (fun h_=>by have bh:=aT _ h_;omega);refine al oA<|av fun _ B1=>av fun _ B2=>?_
 rw [SP] at ab;obtain ⟨A,c,hp1,hp2,hPb,hPr,hp5⟩:=hP.ex;refine aQ<|ai rfl<|ae (cI rfl) rfl<|ae (aP (fH _) rfl) rfl<|ae (aP (AZ _) rfl) rfl<|aG (aS C7 rfl (by exact hPb.at (j:=0) rfl)) rfl<|ae (iC yx (by omega) rfl) rfl<|ae (ed rfl rfl) rfl<|al B2<|aO rfl (fun nz=>?_) (fun nz=>?_)
 ·
  have Ix:=nz;simp only [DZ] at nz;have h7:0<r4.length:=by have:=nz;omega
  refine aQ<|ai rfl<|dQ z6 rfl rfl (y8 p en r4 0 0 _ hP) rfl (fun v_ Uj cc=>?_) (fun c_ Uj cg=>?_)
  rotate_left
  ·
   obtain ⟨ahr,ahG,Zq,rfl,aaH,uM⟩:=cg;have:=uM.size;have hb:=hb.trans uM;refine cJ<|eH ?_
   cases Zq;exact dY ⟨_,_,by simp only [me,hMo,hSe,hFp,if_pos h7],rfl,aaH,hb⟩
  exact cc.elim
 have Ix:=nz;simp only [DZ] at nz;have h7:¬0<r4.length:=by have:=nz;omega
 refine aU<|ax B1<|am fun B3=>aG (cr e8 (by kernel_rfl) rfl (by exact fun j u hu=>ab.at hu)) rfl<|ba (by kernel_rfl) rfl rfl ab rfl rfl ?_
 rintro mi ab cF;have:=cF.size;have hb:=bp hb cF (by omega);have hP:=be.over hP cF (by omega);have hz:=bi.kp hz cF (fun h_=>by have bh:=aT _ h_;omega);refine al B3<|aJ<|bQ (rs:= [.cell 2 33]) (vs:= [_]) rfl (.cell rfl (bP e8 (by kernel_rfl) (fun j u hu=>ab.at hu)) .nil) ?_
 exact eY ⟨⟨⟨mode,sel,kk,x⟩,r4,by simp only [me,hMo,hSe,hFp,if_neg h7],⟨z,Sz,rfl,hz,fun k hk=>by have:=aT k hk;omega⟩,hP,by omega⟩,hb⟩
end Go.Proofs.YtjdjliiolchciaaGreatDoor
