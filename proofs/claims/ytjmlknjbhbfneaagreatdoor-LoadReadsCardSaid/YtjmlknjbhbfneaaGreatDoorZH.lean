import Derived.Test.YtjmlknjbhbfneaaGreatDoorZF
namespace Go.Proofs.YtjmlknjbhbfneaaGreatDoor
open Go.RowKit Go.Bw Go.Bw.Fl
set_option linter.unusedVariables false
set_option linter.unusedSimpArgs false
theorem jP (p:Addr) (w:World):(Instr.fieldAt 96 (.pointer (some p)) 0).run Tryz.prog w= .ok (.pointer (some (p.add 0))) w:=fd (i:=0) (sz:=0) de rfl (by kernel_rfl) p w
theorem fv (p:Addr) (w:World):(Instr.fieldAt 96 (.pointer (some p)) 1).run Tryz.prog w= .ok (.pointer (some (p.add 1))) w:=fd (i:=1) (sz:=0) de rfl (by kernel_rfl) p w
theorem kb (p:Addr) (w:World):(Instr.fieldAt 96 (.pointer (some p)) 2).run Tryz.prog w= .ok (.pointer (some (p.add 2))) w:=fd (i:=2) (sz:=0) de rfl (by kernel_rfl) p w
theorem iP (p:Addr) (w:World):(Instr.fieldAt 96 (.pointer (some p)) 3).run Tryz.prog w= .ok (.pointer (some (p.add 3))) w:=fd (i:=3) (sz:=0) de rfl (by kernel_rfl) p w
theorem fB:One Tryz.prog 2:=⟨_,Gr,rfl,by kernel_rfl⟩
theorem f8:One Tryz.prog 3:=⟨_,jp,rfl,by kernel_rfl⟩
theorem kr:One Tryz.prog 94:=⟨_,T6,rfl,by kernel_rfl⟩
theorem xX {v:bW} (h:v.k=0):en v=decide (v.n=0∧v.f=0∧v.s= []):=by unfold en;rw [if_pos h]
theorem ta {v:bW} (h:v.k=1):en v=decide ((v.n=0∨v.n=1)∧v.f=0∧v.s= []):=by unfold en;rw [if_neg (by omega),if_pos h]
theorem zr {v:bW} (h:v.k=2):en v=decide (v.f=0∧v.s= []):=by unfold en;rw [if_neg (by omega),if_neg (by omega),if_pos h]
theorem uC {v:bW} (h:v.k=3):en v=decide (v.n=0∧v.s= []∧canon v.f=v.f):=by unfold en;rw [if_neg (by omega),if_neg (by omega),if_neg (by omega),if_pos h]
theorem zs {v:bW} (h:v.k=4):en v=decide (v.n=0∧v.f=0):=by unfold en;rw [if_neg (by omega),if_neg (by omega),if_neg (by omega),if_neg (by omega),if_pos h]
theorem tr1 (n:Int):(n=if (n==1)=true then 1 else 0)↔(n=0∨n=1):=by split<;>simp_all<;>omega
theorem uI (n:Int):(n=(hY (n==1)).n)↔(n=0∨n=1):=tr1 n
theorem kC (x y:Nat):((x:Int)==(y:Int))=decide (x=y):=by rw [Bool.eq_iff_iff,beq_iff_eq,decide_eq_true_eq];omega
theorem cI (x:Nat):((x:Int)==0)=decide (x=0):=kC x 0
theorem dQ (x:Nat):((x:Int)==(canon x:Int))=decide (canon x=x):=by rw [kC];exact decide_eq_decide.2 eq_comm
theorem NM (a:bW) (oa:a.Ok) (w:World):be Tryz.prog 54 [a.enc] w fun v w'=>v= .bool (en a)∧Below w.heap.size w w':=by
 have hb:=Below.refl w.heap.size w;refine enter Tryz.func54 rfl rfl rfl<|ao fun aZ=>jL rfl rfl ?_
 rintro aX js iB aj cF;have:=cF.size;have hb:=az hb cF;have:=aj.lt;refine am rfl<|an aZ<|ao fun bX=>aW (dM de (by kernel_rfl) rfl (by exact fun j u hu=>aj.at hu)) rfl<|el (z:=nf) (by kernel_rfl) rfl ?_
 rintro c7 DW y0 aD f6;have:=f6.size;have hb:=az hb f6;have aj:=aq.below aj f6;have:=aD.lt;refine cH (by kernel_rfl) rfl rfl aD rfl rfl ?_;rintro d3 aD bI;have:=bI.size;have hb:=bY hb bI hb.size (by omega);have aj:=aj.over bI (by omega);refine an bX<|ax fun _ e7=>ao fun gp=>ah (aJ (jP _) rfl) rfl<|aW (aI f8 rfl (by exact aj.at rfl)) rfl<|an gp<|br<|ao fun d7=>ah (bA rfl rfl) rfl<|am rfl<|an d7<|aH rfl (fun dR=>?_) (fun dR=>?_)
 ·
  simp only [DZ] at dR;refine aR<|ah (fe (z:=j2) (pl:=j3) (cs:= [_,_,_,_]) de (by kernel_rfl) (by kernel_rfl) rfl rfl rfl) rfl<|cH (by kernel_rfl) rfl rfl aD rfl rfl ?_
  rintro ky aD cd;have:=cd.size;have hb:=bY hb cd hb.size (by omega);have aj:=aj.over cd (by omega);refine ay<|bS<|aw e7<|ax fun _ gY=>ju (by kernel_rfl) (by kernel_rfl)<|aC (aJ (jP _) rfl) rfl<|cr (fun wq hq=>aI f8 rfl (by have aj:=aq.below aj hq;have aD:=aq.below aD hq;first|exact aj.at rfl|exact aD.at rfl|exact aj.cell 0|exact aD.cell 0|assumption)) rfl<|aC (aJ (jP _) rfl) rfl<|cr (fun wq hq=>aI f8 rfl (by have aj:=aq.below aj hq;have aD:=aq.below aD hq;first|exact aj.at rfl|exact aD.at rfl|exact aj.cell 0|exact aD.cell 0|assumption)) rfl<|aC (bA rfl rfl) rfl<|aC (bl rfl) rfl<|iN rfl rfl rfl (fun nR=>?_) (fun nR=>?_)
  ·
   have lZ:=nR;simp only [DZ] at nR;refine aC (aJ (fv _) rfl) rfl<|bB rfl rfl lZ<|cr (fun wq hq=>aI fB rfl (by have aj:=aq.below aj hq;have aD:=aq.below aD hq;first|exact aj.at rfl|exact aD.at rfl|exact aj.cell 0|exact aD.cell 0|assumption)) rfl<|bB rfl rfl lZ<|aC (aJ (fv _) rfl) rfl<|bB rfl rfl lZ<|cr (fun wq hq=>aI fB rfl (by have aj:=aq.below aj hq;have aD:=aq.below aD hq;first|exact aj.at rfl|exact aD.at rfl|exact aj.cell 0|exact aD.cell 0|assumption)) rfl<|bB rfl rfl lZ<|aC (bA rfl rfl) rfl<|aC (bi rfl lZ rfl) rfl<|aC (bl rfl) rfl<|iN rfl rfl rfl (fun pX=>?_) (fun pX=>?_)
   ·
    have mZ:=pX;simp only [DZ] at pX;refine aC (aJ (iP _) rfl) rfl<|bB rfl rfl mZ<|cr (fun wq hq=>aI bQ rfl (by have aj:=aq.below aj hq;have aD:=aq.below aD hq;first|exact aj.at rfl|exact aD.at rfl|exact aj.cell 0|exact aD.cell 0|assumption)) rfl<|bB rfl rfl mZ<|aC (aJ (iP _) rfl) rfl<|bB rfl rfl mZ<|cr (fun wq hq=>aI bQ rfl (by have aj:=aq.below aj hq;have aD:=aq.below aD hq;first|exact aj.at rfl|exact aD.at rfl|exact aj.cell 0|exact aD.cell 0|assumption)) rfl<|bB rfl rfl mZ<|aC (fu rfl rfl) rfl<|aC (bi rfl mZ rfl) rfl<|aC (bl rfl) rfl<|iN rfl rfl rfl (fun l5=>?_) (fun l5=>?_)
    ·
     have eu:=l5;simp only [DZ] at l5;refine aC (aJ (kb _) rfl) rfl<|bB rfl rfl eu<|cr (fun wq hq=>aI kr rfl (by have aj:=aq.below aj hq;have aD:=aq.below aD hq;first|exact aj.at rfl|exact aD.at rfl|exact aj.cell 0|exact aD.cell 0|assumption)) rfl<|bB rfl rfl eu<|aC (jI jx rfl rfl) rfl<|bB rfl rfl eu<|aC (aJ (kb _) rfl) rfl<|bB rfl rfl eu<|cr (fun wq hq=>aI kr rfl (by have aj:=aq.below aj hq;have aD:=aq.below aD hq;first|exact aj.at rfl|exact aD.at rfl|exact aj.cell 0|exact aD.cell 0|assumption)) rfl<|bB rfl rfl eu<|aC (jI jx rfl rfl) rfl<|bB rfl rfl eu<|aC (bA rfl rfl) rfl<|aC (bi rfl eu rfl) rfl<|aC (cX rfl) rfl<|dZ fun iI ci=>?_
     have jo:=ci.size;have hb:=az hb ci;refine aw gY<|aK<|bj rfl rfl ?_
     exact ⟨_,rfl,aP (by rw [xX dR];first|exact absurd dR nR|(exfalso;have h:=eu;simp at h;done)|(exfalso;have h:=mZ;simp at h;done)|(simp [pX,l5,cI,dQ];done)|(simp [pX,cI,dQ];done)|(simp [l5,cI,dQ];done)),hb⟩
    have eu:=l5;simp only [DZ] at l5;refine aL rfl rfl eu rfl rfl<|aL rfl rfl eu rfl rfl<|aL rfl rfl eu rfl rfl<|aL rfl rfl eu rfl rfl<|aL rfl rfl eu rfl rfl<|aL rfl rfl eu rfl rfl<|aC (bg rfl eu rfl) rfl<|aC (cX rfl) rfl<|dZ fun iI ci=>?_
    have jo:=ci.size;have hb:=az hb ci;refine aw gY<|aK<|bj rfl rfl ?_
    exact ⟨_,rfl,aP (by rw [xX dR];first|exact absurd dR nR|(exfalso;have h:=eu;simp at h;done)|(exfalso;have h:=mZ;simp at h;done)|(simp [pX,l5,cI,dQ];done)|(simp [pX,cI,dQ];done)|(simp [l5,cI,dQ];done)),hb⟩
   have mZ:=pX;simp only [DZ] at pX;refine aL rfl rfl mZ rfl rfl<|aL rfl rfl mZ rfl rfl<|aL rfl rfl mZ rfl rfl<|aL rfl rfl mZ rfl rfl<|aC (bg rfl mZ rfl) rfl<|aC (bl rfl) rfl<|aL rfl rfl rfl rfl rfl<|aL rfl rfl rfl rfl rfl<|aL rfl rfl rfl rfl rfl<|aL rfl rfl rfl rfl rfl<|aL rfl rfl rfl rfl rfl<|aL rfl rfl rfl rfl rfl<|aL rfl rfl rfl rfl rfl<|aC (bg rfl rfl rfl) rfl<|aC (cX rfl) rfl<|dZ fun iI ci=>?_
   have jo:=ci.size;have hb:=az hb ci;refine aw gY<|aK<|bj rfl rfl ?_
   exact ⟨_,rfl,aP (by rw [xX dR];first|exact absurd dR nR|(exfalso;have h:=rE;simp at h;done)|(exfalso;have h:=mZ;simp at h;done)|(simp [pX,kz,cI,dQ];done)|(simp [pX,cI,dQ];done)|(simp [kz,cI,dQ];done)),hb⟩
  have lZ:=nR;simp only [DZ] at nR;refine aL rfl rfl lZ rfl rfl<|aL rfl rfl lZ rfl rfl<|aL rfl rfl lZ rfl rfl<|aL rfl rfl lZ rfl rfl<|aC (bg rfl lZ rfl) rfl<|aC (bl rfl) rfl<|aL rfl rfl rfl rfl rfl<|aL rfl rfl rfl rfl rfl<|aL rfl rfl rfl rfl rfl<|aL rfl rfl rfl rfl rfl<|aL rfl rfl rfl rfl rfl<|aC (bg rfl rfl rfl) rfl<|aC (bl rfl) rfl<|aL rfl rfl rfl rfl rfl<|aL rfl rfl rfl rfl rfl<|aL rfl rfl rfl rfl rfl<|aL rfl rfl rfl rfl rfl<|aL rfl rfl rfl rfl rfl<|aL rfl rfl rfl rfl rfl<|aL rfl rfl rfl rfl rfl<|aC (bg rfl rfl rfl) rfl<|aC (cX rfl) rfl<|dZ fun iI ci=>?_
  have jo:=ci.size;have hb:=az hb ci;refine aw gY<|aK<|bj rfl rfl ?_
  exact ⟨_,rfl,aP (by rw [xX dR];first|exact absurd dR nR|(exfalso;have h:=rE;simp at h;done)|(exfalso;have h:=Ea;simp at h;done)|(simp [rD,kz,cI,dQ];done)|(simp [rD,cI,dQ];done)|(simp [kz,cI,dQ];done)),hb⟩
 simp only [DZ] at dR;refine ao fun qp=>ah (bA rfl rfl) rfl<|am rfl<|an qp<|aH rfl (fun oJ=>?_) (fun oJ=>?_)
 ·
  simp only [DZ] at oJ;refine aR<|ah (aJ (fv _) rfl) rfl<|aW (aI fB rfl (by exact aj.at rfl)) rfl<|ah (bA rfl rfl) rfl<|aS MX rfl rfl (MP _ _) rfl ?_
  rintro _ cq ⟨rfl,bm⟩;have:=bm.size;have hb:=az hb bm;have aj:=aq.below aj bm;have aD:=aq.below aD bm;refine cH (by kernel_rfl) rfl rfl aD rfl rfl ?_;rintro oA aD di;have:=di.size;have hb:=bY hb di hb.size (by omega);have aj:=aj.over di (by omega);refine ay<|bS<|aw e7<|ax fun _ oS=>ju (by kernel_rfl) (by kernel_rfl)<|aC (aJ (jP _) rfl) rfl<|cr (fun wq hq=>aI f8 rfl (by have aj:=aq.below aj hq;have aD:=aq.below aD hq;first|exact aj.at rfl|exact aD.at rfl|exact aj.cell 0|exact aD.cell 0|assumption)) rfl<|aC (aJ (jP _) rfl) rfl<|cr (fun wq hq=>aI f8 rfl (by have aj:=aq.below aj hq;have aD:=aq.below aD hq;first|exact aj.at rfl|exact aD.at rfl|exact aj.cell 0|exact aD.cell 0|assumption)) rfl<|aC (bA rfl rfl) rfl<|aC (bl rfl) rfl<|iN rfl rfl rfl (fun sw=>?_) (fun sw=>?_)
  ·
   have p5:=sw;simp only [DZ] at sw;refine aC (aJ (fv _) rfl) rfl<|bB rfl rfl p5<|cr (fun wq hq=>aI fB rfl (by have aj:=aq.below aj hq;have aD:=aq.below aD hq;first|exact aj.at rfl|exact aD.at rfl|exact aj.cell 0|exact aD.cell 0|assumption)) rfl<|bB rfl rfl p5<|aC (aJ (fv _) rfl) rfl<|bB rfl rfl p5<|cr (fun wq hq=>aI fB rfl (by have aj:=aq.below aj hq;have aD:=aq.below aD hq;first|exact aj.at rfl|exact aD.at rfl|exact aj.cell 0|exact aD.cell 0|assumption)) rfl<|bB rfl rfl p5<|aC (bA rfl rfl) rfl<|aC (bi rfl p5 rfl) rfl<|aC (bl rfl) rfl<|iN rfl rfl rfl (fun p7=>?_) (fun p7=>?_)
   ·
    have m3:=p7;simp only [DZ] at p7;refine aC (aJ (iP _) rfl) rfl<|bB rfl rfl m3<|cr (fun wq hq=>aI bQ rfl (by have aj:=aq.below aj hq;have aD:=aq.below aD hq;first|exact aj.at rfl|exact aD.at rfl|exact aj.cell 0|exact aD.cell 0|assumption)) rfl<|bB rfl rfl m3<|aC (aJ (iP _) rfl) rfl<|bB rfl rfl m3<|cr (fun wq hq=>aI bQ rfl (by have aj:=aq.below aj hq;have aD:=aq.below aD hq;first|exact aj.at rfl|exact aD.at rfl|exact aj.cell 0|exact aD.cell 0|assumption)) rfl<|bB rfl rfl m3<|aC (fu rfl rfl) rfl<|aC (bi rfl m3 rfl) rfl<|aC (bl rfl) rfl<|iN rfl rfl rfl (fun wH=>?_) (fun wH=>?_)
    ·
     have kQ:=wH;simp only [DZ] at wH;refine aC (aJ (kb _) rfl) rfl<|bB rfl rfl kQ<|cr (fun wq hq=>aI kr rfl (by have aj:=aq.below aj hq;have aD:=aq.below aD hq;first|exact aj.at rfl|exact aD.at rfl|exact aj.cell 0|exact aD.cell 0|assumption)) rfl<|bB rfl rfl kQ<|aC (jI jx rfl rfl) rfl<|bB rfl rfl kQ<|aC (aJ (kb _) rfl) rfl<|bB rfl rfl kQ<|cr (fun wq hq=>aI kr rfl (by have aj:=aq.below aj hq;have aD:=aq.below aD hq;first|exact aj.at rfl|exact aD.at rfl|exact aj.cell 0|exact aD.cell 0|assumption)) rfl<|bB rfl rfl kQ<|aC (jI jx rfl rfl) rfl<|bB rfl rfl kQ<|aC (bA rfl rfl) rfl<|aC (bi rfl kQ rfl) rfl<|aC (cX rfl) rfl<|dZ fun iI ci=>?_
     have jo:=ci.size;have hb:=az hb ci;refine aw oS<|aK<|bj rfl rfl ?_
     exact ⟨_,rfl,aP (by rw [ta oJ];first|exact absurd oJ sw|(exfalso;have h:=kQ;simp at h;done)|(exfalso;have h:=m3;simp at h;done)|(have h33:=p7;rw [uI] at h33;have h38:=wH;simp [hY] at h38;simp [h33,h38,kC,cI,hY];done)|(have h33:=p7;rw [uI] at h33;simp [h33,kC,cI,hY];done)),hb⟩
    have kQ:=wH;simp only [DZ] at wH;refine aL rfl rfl kQ rfl rfl<|aL rfl rfl kQ rfl rfl<|aL rfl rfl kQ rfl rfl<|aL rfl rfl kQ rfl rfl<|aL rfl rfl kQ rfl rfl<|aL rfl rfl kQ rfl rfl<|aC (bg rfl kQ rfl) rfl<|aC (cX rfl) rfl<|dZ fun iI ci=>?_
    have jo:=ci.size;have hb:=az hb ci;refine aw oS<|aK<|bj rfl rfl ?_
    exact ⟨_,rfl,aP (by rw [ta oJ];first|exact absurd oJ sw|(exfalso;have h:=kQ;simp at h;done)|(exfalso;have h:=m3;simp at h;done)|(have h33:=p7;rw [uI] at h33;have h38:=wH;simp [hY] at h38;simp [h33,h38,kC,cI,hY];done)|(have h33:=p7;rw [uI] at h33;simp [h33,kC,cI,hY];done)),hb⟩
   have m3:=p7;simp only [DZ] at p7;refine aL rfl rfl m3 rfl rfl<|aL rfl rfl m3 rfl rfl<|aL rfl rfl m3 rfl rfl<|aL rfl rfl m3 rfl rfl<|aC (bg rfl m3 rfl) rfl<|aC (bl rfl) rfl<|aL rfl rfl rfl rfl rfl<|aL rfl rfl rfl rfl rfl<|aL rfl rfl rfl rfl rfl<|aL rfl rfl rfl rfl rfl<|aL rfl rfl rfl rfl rfl<|aL rfl rfl rfl rfl rfl<|aL rfl rfl rfl rfl rfl<|aC (bg rfl rfl rfl) rfl<|aC (cX rfl) rfl<|dZ fun iI ci=>?_
   have jo:=ci.size;have hb:=az hb ci;refine aw oS<|aK<|bj rfl rfl ?_
   exact ⟨_,rfl,aP (by rw [ta oJ];first|exact absurd oJ sw|(exfalso;have h:=rE;simp at h;done)|(exfalso;have h:=m3;simp at h;done)|(have h33:=p7;rw [uI] at h33;have h38:=kz;simp [hY] at h38;simp [h33,h38,kC,cI,hY];done)|(have h33:=p7;rw [uI] at h33;simp [h33,kC,cI,hY];done)),hb⟩
  have p5:=sw;simp only [DZ] at sw;refine aL rfl rfl p5 rfl rfl<|aL rfl rfl p5 rfl rfl<|aL rfl rfl p5 rfl rfl<|aL rfl rfl p5 rfl rfl<|aC (bg rfl p5 rfl) rfl<|aC (bl rfl) rfl<|aL rfl rfl rfl rfl rfl<|aL rfl rfl rfl rfl rfl<|aL rfl rfl rfl rfl rfl<|aL rfl rfl rfl rfl rfl<|aL rfl rfl rfl rfl rfl<|aC (bg rfl rfl rfl) rfl<|aC (bl rfl) rfl<|aL rfl rfl rfl rfl rfl<|aL rfl rfl rfl rfl rfl<|aL rfl rfl rfl rfl rfl<|aL rfl rfl rfl rfl rfl<|aL rfl rfl rfl rfl rfl<|aL rfl rfl rfl rfl rfl<|aL rfl rfl rfl rfl rfl<|aC (bg rfl rfl rfl) rfl<|aC (cX rfl) rfl<|dZ fun iI ci=>?_
  have jo:=ci.size;have hb:=az hb ci;refine aw oS<|aK<|bj rfl rfl ?_
  exact ⟨_,rfl,aP (by rw [ta oJ];first|exact absurd oJ sw|(exfalso;have h:=rE;simp at h;done)|(exfalso;have h:=Ea;simp at h;done)|(have h33:=rD;rw [uI] at h33;have h38:=kz;simp [hY] at h38;simp [h33,h38,kC,cI,hY];done)|(have h33:=rD;rw [uI] at h33;simp [h33,kC,cI,hY];done)),hb⟩
 simp only [DZ] at oJ;refine ao fun sE=>ah (bA rfl rfl) rfl<|am rfl<|an sE<|aH rfl (fun oK=>?_) (fun oK=>?_)
 ·
  simp only [DZ] at oK;refine aR<|ah (aJ (fv _) rfl) rfl<|aW (aI fB rfl (by exact aj.at rfl)) rfl ?_
  refine ah (fe (z:=j2) (pl:=j3) (cs:= [_,_,_,_]) de (by kernel_rfl) (by kernel_rfl) rfl rfl rfl) rfl<|cH (by kernel_rfl) rfl rfl aD rfl rfl ?_
  rintro tm aD dD;have:=dD.size;have hb:=bY hb dD hb.size (by omega);have aj:=aj.over dD (by omega);refine ay<|bS<|aw e7<|ax fun _ q7=>ju (by kernel_rfl) (by kernel_rfl)<|aC (aJ (jP _) rfl) rfl<|cr (fun wq hq=>aI f8 rfl (by have aj:=aq.below aj hq;have aD:=aq.below aD hq;first|exact aj.at rfl|exact aD.at rfl|exact aj.cell 0|exact aD.cell 0|assumption)) rfl<|aC (aJ (jP _) rfl) rfl<|cr (fun wq hq=>aI f8 rfl (by have aj:=aq.below aj hq;have aD:=aq.below aD hq;first|exact aj.at rfl|exact aD.at rfl|exact aj.cell 0|exact aD.cell 0|assumption)) rfl<|aC (bA rfl rfl) rfl<|aC (bl rfl) rfl<|iN rfl rfl rfl (fun sh=>?_) (fun sh=>?_)
  ·
   have pK:=sh;simp only [DZ] at sh;refine aC (aJ (fv _) rfl) rfl<|bB rfl rfl pK<|cr (fun wq hq=>aI fB rfl (by have aj:=aq.below aj hq;have aD:=aq.below aD hq;first|exact aj.at rfl|exact aD.at rfl|exact aj.cell 0|exact aD.cell 0|assumption)) rfl<|bB rfl rfl pK<|aC (aJ (fv _) rfl) rfl<|bB rfl rfl pK<|cr (fun wq hq=>aI fB rfl (by have aj:=aq.below aj hq;have aD:=aq.below aD hq;first|exact aj.at rfl|exact aD.at rfl|exact aj.cell 0|exact aD.cell 0|assumption)) rfl<|bB rfl rfl pK<|aC (bA rfl rfl) rfl<|aC (bi rfl pK rfl) rfl<|aC (bl rfl) rfl<|iN rfl rfl rfl (fun pM=>?_) (fun pM=>?_)
   ·
    have mW:=pM;simp only [DZ] at pM;refine aC (aJ (iP _) rfl) rfl<|bB rfl rfl mW<|cr (fun wq hq=>aI bQ rfl (by have aj:=aq.below aj hq;have aD:=aq.below aD hq;first|exact aj.at rfl|exact aD.at rfl|exact aj.cell 0|exact aD.cell 0|assumption)) rfl<|bB rfl rfl mW<|aC (aJ (iP _) rfl) rfl<|bB rfl rfl mW<|cr (fun wq hq=>aI bQ rfl (by have aj:=aq.below aj hq;have aD:=aq.below aD hq;first|exact aj.at rfl|exact aD.at rfl|exact aj.cell 0|exact aD.cell 0|assumption)) rfl<|bB rfl rfl mW<|aC (fu rfl rfl) rfl<|aC (bi rfl mW rfl) rfl<|aC (bl rfl) rfl<|iN rfl rfl rfl (fun si=>?_) (fun si=>?_)
    ·
     have kK:=si;simp only [DZ] at si;refine aC (aJ (kb _) rfl) rfl<|bB rfl rfl kK<|cr (fun wq hq=>aI kr rfl (by have aj:=aq.below aj hq;have aD:=aq.below aD hq;first|exact aj.at rfl|exact aD.at rfl|exact aj.cell 0|exact aD.cell 0|assumption)) rfl<|bB rfl rfl kK<|aC (jI jx rfl rfl) rfl<|bB rfl rfl kK<|aC (aJ (kb _) rfl) rfl<|bB rfl rfl kK<|cr (fun wq hq=>aI kr rfl (by have aj:=aq.below aj hq;have aD:=aq.below aD hq;first|exact aj.at rfl|exact aD.at rfl|exact aj.cell 0|exact aD.cell 0|assumption)) rfl<|bB rfl rfl kK<|aC (jI jx rfl rfl) rfl<|bB rfl rfl kK<|aC (bA rfl rfl) rfl<|aC (bi rfl kK rfl) rfl<|aC (cX rfl) rfl<|dZ fun iI ci=>?_
     have jo:=ci.size;have hb:=az hb ci;refine aw q7<|aK<|bj rfl rfl ?_
     exact ⟨_,rfl,aP (by rw [zr oK];first|exact absurd oK sh|(exfalso;have h:=kK;simp at h;done)|(exfalso;have h:=mW;simp at h;done)|(simp [pM,si,cI,dQ];done)|(simp [pM,cI,dQ];done)|(simp [si,cI,dQ];done)),hb⟩
    have kK:=si;simp only [DZ] at si;refine aL rfl rfl kK rfl rfl<|aL rfl rfl kK rfl rfl<|aL rfl rfl kK rfl rfl<|aL rfl rfl kK rfl rfl<|aL rfl rfl kK rfl rfl<|aL rfl rfl kK rfl rfl<|aC (bg rfl kK rfl) rfl<|aC (cX rfl) rfl<|dZ fun iI ci=>?_
    have jo:=ci.size;have hb:=az hb ci;refine aw q7<|aK<|bj rfl rfl ?_
    exact ⟨_,rfl,aP (by rw [zr oK];first|exact absurd oK sh|(exfalso;have h:=kK;simp at h;done)|(exfalso;have h:=mW;simp at h;done)|(simp [pM,si,cI,dQ];done)|(simp [pM,cI,dQ];done)|(simp [si,cI,dQ];done)),hb⟩
   have mW:=pM;simp only [DZ] at pM;refine aL rfl rfl mW rfl rfl<|aL rfl rfl mW rfl rfl<|aL rfl rfl mW rfl rfl<|aL rfl rfl mW rfl rfl<|aC (bg rfl mW rfl) rfl<|aC (bl rfl) rfl<|aL rfl rfl rfl rfl rfl<|aL rfl rfl rfl rfl rfl<|aL rfl rfl rfl rfl rfl<|aL rfl rfl rfl rfl rfl<|aL rfl rfl rfl rfl rfl<|aL rfl rfl rfl rfl rfl<|aL rfl rfl rfl rfl rfl<|aC (bg rfl rfl rfl) rfl<|aC (cX rfl) rfl<|dZ fun iI ci=>?_
   have jo:=ci.size;have hb:=az hb ci;refine aw q7<|aK<|bj rfl rfl ?_
   exact ⟨_,rfl,aP (by rw [zr oK];first|exact absurd oK sh|(exfalso;have h:=rE;simp at h;done)|(exfalso;have h:=mW;simp at h;done)|(simp [pM,kz,cI,dQ];done)|(simp [pM,cI,dQ];done)|(simp [kz,cI,dQ];done)),hb⟩
  have pK:=sh;simp only [DZ] at sh;refine aL rfl rfl pK rfl rfl<|aL rfl rfl pK rfl rfl<|aL rfl rfl pK rfl rfl<|aL rfl rfl pK rfl rfl<|aC (bg rfl pK rfl) rfl<|aC (bl rfl) rfl<|aL rfl rfl rfl rfl rfl<|aL rfl rfl rfl rfl rfl<|aL rfl rfl rfl rfl rfl<|aL rfl rfl rfl rfl rfl<|aL rfl rfl rfl rfl rfl<|aC (bg rfl rfl rfl) rfl<|aC (bl rfl) rfl<|aL rfl rfl rfl rfl rfl<|aL rfl rfl rfl rfl rfl<|aL rfl rfl rfl rfl rfl<|aL rfl rfl rfl rfl rfl<|aL rfl rfl rfl rfl rfl<|aL rfl rfl rfl rfl rfl<|aL rfl rfl rfl rfl rfl<|aC (bg rfl rfl rfl) rfl<|aC (cX rfl) rfl<|dZ fun iI ci=>?_
  have jo:=ci.size;have hb:=az hb ci;refine aw q7<|aK<|bj rfl rfl ?_
  exact ⟨_,rfl,aP (by rw [zr oK];first|exact absurd oK sh|(exfalso;have h:=rE;simp at h;done)|(exfalso;have h:=Ea;simp at h;done)|(simp [rD,kz,cI,dQ];done)|(simp [rD,cI,dQ];done)|(simp [kz,cI,dQ];done)),hb⟩
 simp only [DZ] at oK;refine ao fun KE=>ah (bA rfl rfl) rfl<|am rfl<|an KE<|aH rfl (fun oL=>?_) (fun oL=>?_)
 ·
  simp only [DZ] at oL;refine aR<|ah (aJ (kb _) rfl) rfl<|aW (aI kr rfl (by exact aj.at rfl)) rfl<|aS TZ rfl rfl (Nq _ _) rfl ?_
  rintro _ w_ ⟨rfl,bf⟩;have bf:=bf.symm;subst bf;refine ah (fe (z:=j2) (pl:=j3) (cs:= [_,_,_,_]) de (by kernel_rfl) (by kernel_rfl) rfl rfl rfl) rfl<|cH (by kernel_rfl) rfl rfl aD rfl rfl ?_
  rintro uK aD eH;have:=eH.size;have hb:=bY hb eH hb.size (by omega);have aj:=aj.over eH (by omega);refine ay<|bS<|aw e7<|ax fun _ yU=>ju (by kernel_rfl) (by kernel_rfl)<|aC (aJ (jP _) rfl) rfl<|cr (fun wq hq=>aI f8 rfl (by have aj:=aq.below aj hq;have aD:=aq.below aD hq;first|exact aj.at rfl|exact aD.at rfl|exact aj.cell 0|exact aD.cell 0|assumption)) rfl<|aC (aJ (jP _) rfl) rfl<|cr (fun wq hq=>aI f8 rfl (by have aj:=aq.below aj hq;have aD:=aq.below aD hq;first|exact aj.at rfl|exact aD.at rfl|exact aj.cell 0|exact aD.cell 0|assumption)) rfl<|aC (bA rfl rfl) rfl<|aC (bl rfl) rfl<|iN rfl rfl rfl (fun sk=>?_) (fun sk=>?_)
  ·
   have pO:=sk;simp only [DZ] at sk;refine aC (aJ (fv _) rfl) rfl<|bB rfl rfl pO<|cr (fun wq hq=>aI fB rfl (by have aj:=aq.below aj hq;have aD:=aq.below aD hq;first|exact aj.at rfl|exact aD.at rfl|exact aj.cell 0|exact aD.cell 0|assumption)) rfl<|bB rfl rfl pO<|aC (aJ (fv _) rfl) rfl<|bB rfl rfl pO<|cr (fun wq hq=>aI fB rfl (by have aj:=aq.below aj hq;have aD:=aq.below aD hq;first|exact aj.at rfl|exact aD.at rfl|exact aj.cell 0|exact aD.cell 0|assumption)) rfl<|bB rfl rfl pO<|aC (bA rfl rfl) rfl<|aC (bi rfl pO rfl) rfl<|aC (bl rfl) rfl<|iN rfl rfl rfl (fun pQ=>?_) (fun pQ=>?_)
   ·
    have mX:=pQ;simp only [DZ] at pQ;refine aC (aJ (iP _) rfl) rfl<|bB rfl rfl mX<|cr (fun wq hq=>aI bQ rfl (by have aj:=aq.below aj hq;have aD:=aq.below aD hq;first|exact aj.at rfl|exact aD.at rfl|exact aj.cell 0|exact aD.cell 0|assumption)) rfl<|bB rfl rfl mX<|aC (aJ (iP _) rfl) rfl<|bB rfl rfl mX<|cr (fun wq hq=>aI bQ rfl (by have aj:=aq.below aj hq;have aD:=aq.below aD hq;first|exact aj.at rfl|exact aD.at rfl|exact aj.cell 0|exact aD.cell 0|assumption)) rfl<|bB rfl rfl mX<|aC (fu rfl rfl) rfl<|aC (bi rfl mX rfl) rfl<|aC (bl rfl) rfl<|iN rfl rfl rfl (fun sm=>?_) (fun sm=>?_)
    ·
     have kN:=sm;simp only [DZ] at sm;refine aC (aJ (kb _) rfl) rfl<|bB rfl rfl kN<|cr (fun wq hq=>aI kr rfl (by have aj:=aq.below aj hq;have aD:=aq.below aD hq;first|exact aj.at rfl|exact aD.at rfl|exact aj.cell 0|exact aD.cell 0|assumption)) rfl<|bB rfl rfl kN<|aC (jI jx rfl rfl) rfl<|bB rfl rfl kN<|aC (aJ (kb _) rfl) rfl<|bB rfl rfl kN<|cr (fun wq hq=>aI kr rfl (by have aj:=aq.below aj hq;have aD:=aq.below aD hq;first|exact aj.at rfl|exact aD.at rfl|exact aj.cell 0|exact aD.cell 0|assumption)) rfl<|bB rfl rfl kN<|aC (jI jx rfl rfl) rfl<|bB rfl rfl kN<|aC (bA rfl rfl) rfl<|aC (bi rfl kN rfl) rfl<|aC (cX rfl) rfl<|dZ fun iI ci=>?_
     have jo:=ci.size;have hb:=az hb ci;refine aw yU<|aK<|bj rfl rfl ?_
     exact ⟨_,rfl,aP (by rw [uC oL];first|exact absurd oL sk|(exfalso;have h:=kN;simp at h;done)|(exfalso;have h:=mX;simp at h;done)|(simp [pQ,sm,cI,dQ];done)|(simp [pQ,cI,dQ];done)|(simp [sm,cI,dQ];done)),hb⟩
    have kN:=sm;simp only [DZ] at sm;refine aL rfl rfl kN rfl rfl<|aL rfl rfl kN rfl rfl<|aL rfl rfl kN rfl rfl<|aL rfl rfl kN rfl rfl<|aL rfl rfl kN rfl rfl<|aL rfl rfl kN rfl rfl<|aC (bg rfl kN rfl) rfl<|aC (cX rfl) rfl<|dZ fun iI ci=>?_
    have jo:=ci.size;have hb:=az hb ci;refine aw yU<|aK<|bj rfl rfl ?_
    exact ⟨_,rfl,aP (by rw [uC oL];first|exact absurd oL sk|(exfalso;have h:=kN;simp at h;done)|(exfalso;have h:=mX;simp at h;done)|(simp [pQ,sm,cI,dQ];done)|(simp [pQ,cI,dQ];done)|(simp [sm,cI,dQ];done)),hb⟩
   have mX:=pQ;simp only [DZ] at pQ;refine aL rfl rfl mX rfl rfl<|aL rfl rfl mX rfl rfl<|aL rfl rfl mX rfl rfl<|aL rfl rfl mX rfl rfl<|aC (bg rfl mX rfl) rfl<|aC (bl rfl) rfl<|aL rfl rfl rfl rfl rfl<|aL rfl rfl rfl rfl rfl<|aL rfl rfl rfl rfl rfl<|aL rfl rfl rfl rfl rfl<|aL rfl rfl rfl rfl rfl<|aL rfl rfl rfl rfl rfl<|aL rfl rfl rfl rfl rfl<|aC (bg rfl rfl rfl) rfl<|aC (cX rfl) rfl<|dZ fun iI ci=>?_
   have jo:=ci.size;have hb:=az hb ci;refine aw yU<|aK<|bj rfl rfl ?_
   exact ⟨_,rfl,aP (by rw [uC oL];first|exact absurd oL sk|(exfalso;have h:=rE;simp at h;done)|(exfalso;have h:=mX;simp at h;done)|(simp [pQ,kz,cI,dQ];done)|(simp [pQ,cI,dQ];done)|(simp [kz,cI,dQ];done)),hb⟩
  have pO:=sk;simp only [DZ] at sk;refine aL rfl rfl pO rfl rfl<|aL rfl rfl pO rfl rfl<|aL rfl rfl pO rfl rfl<|aL rfl rfl pO rfl rfl<|aC (bg rfl pO rfl) rfl<|aC (bl rfl) rfl<|aL rfl rfl rfl rfl rfl<|aL rfl rfl rfl rfl rfl<|aL rfl rfl rfl rfl rfl<|aL rfl rfl rfl rfl rfl<|aL rfl rfl rfl rfl rfl<|aC (bg rfl rfl rfl) rfl<|aC (bl rfl) rfl<|aL rfl rfl rfl rfl rfl<|aL rfl rfl rfl rfl rfl<|aL rfl rfl rfl rfl rfl<|aL rfl rfl rfl rfl rfl<|aL rfl rfl rfl rfl rfl<|aL rfl rfl rfl rfl rfl<|aL rfl rfl rfl rfl rfl<|aC (bg rfl rfl rfl) rfl<|aC (cX rfl) rfl<|dZ fun iI ci=>?_
  have jo:=ci.size;have hb:=az hb ci;refine aw yU<|aK<|bj rfl rfl ?_
  exact ⟨_,rfl,aP (by rw [uC oL];first|exact absurd oL sk|(exfalso;have h:=rE;simp at h;done)|(exfalso;have h:=Ea;simp at h;done)|(simp [rD,kz,cI,dQ];done)|(simp [rD,cI,dQ];done)|(simp [kz,cI,dQ];done)),hb⟩
 simp only [DZ] at oL;refine ao fun KQ=>ah (bA rfl rfl) rfl<|am rfl<|an KQ<|aH rfl (fun oM=>?_) (fun oM=>?_)
 ·
  simp only [DZ] at oM;refine aR<|ah (aJ (iP _) rfl) rfl<|aW (aI bQ rfl (by exact aj.at rfl)) rfl ?_
  refine ah (fe (z:=j2) (pl:=j3) (cs:= [_,_,_,_]) de (by kernel_rfl) (by kernel_rfl) rfl rfl rfl) rfl<|cH (by kernel_rfl) rfl rfl aD rfl rfl ?_
  rintro zE aD fN;have:=fN.size;have hb:=bY hb fN hb.size (by omega);have aj:=aj.over fN (by omega);refine ay<|bS<|aw e7<|ax fun _ ua=>ju (by kernel_rfl) (by kernel_rfl)<|aC (aJ (jP _) rfl) rfl<|cr (fun wq hq=>aI f8 rfl (by have aj:=aq.below aj hq;have aD:=aq.below aD hq;first|exact aj.at rfl|exact aD.at rfl|exact aj.cell 0|exact aD.cell 0|assumption)) rfl<|aC (aJ (jP _) rfl) rfl<|cr (fun wq hq=>aI f8 rfl (by have aj:=aq.below aj hq;have aD:=aq.below aD hq;first|exact aj.at rfl|exact aD.at rfl|exact aj.cell 0|exact aD.cell 0|assumption)) rfl<|aC (bA rfl rfl) rfl<|aC (bl rfl) rfl<|iN rfl rfl rfl (fun sq=>?_) (fun sq=>?_)
  ·
   have pU:=sq;simp only [DZ] at sq;refine aC (aJ (fv _) rfl) rfl<|bB rfl rfl pU<|cr (fun wq hq=>aI fB rfl (by have aj:=aq.below aj hq;have aD:=aq.below aD hq;first|exact aj.at rfl|exact aD.at rfl|exact aj.cell 0|exact aD.cell 0|assumption)) rfl<|bB rfl rfl pU<|aC (aJ (fv _) rfl) rfl<|bB rfl rfl pU<|cr (fun wq hq=>aI fB rfl (by have aj:=aq.below aj hq;have aD:=aq.below aD hq;first|exact aj.at rfl|exact aD.at rfl|exact aj.cell 0|exact aD.cell 0|assumption)) rfl<|bB rfl rfl pU<|aC (bA rfl rfl) rfl<|aC (bi rfl pU rfl) rfl<|aC (bl rfl) rfl<|iN rfl rfl rfl (fun pW=>?_) (fun pW=>?_)
   ·
    have mY:=pW;simp only [DZ] at pW;refine aC (aJ (iP _) rfl) rfl<|bB rfl rfl mY<|cr (fun wq hq=>aI bQ rfl (by have aj:=aq.below aj hq;have aD:=aq.below aD hq;first|exact aj.at rfl|exact aD.at rfl|exact aj.cell 0|exact aD.cell 0|assumption)) rfl<|bB rfl rfl mY<|aC (aJ (iP _) rfl) rfl<|bB rfl rfl mY<|cr (fun wq hq=>aI bQ rfl (by have aj:=aq.below aj hq;have aD:=aq.below aD hq;first|exact aj.at rfl|exact aD.at rfl|exact aj.cell 0|exact aD.cell 0|assumption)) rfl<|bB rfl rfl mY<|aC (fu rfl rfl) rfl<|aC (bi rfl mY rfl) rfl<|aC (bl rfl) rfl<|iN rfl rfl rfl (fun sr=>?_) (fun sr=>?_)
    ·
     have kO:=sr;simp only [DZ] at sr;refine aC (aJ (kb _) rfl) rfl<|bB rfl rfl kO<|cr (fun wq hq=>aI kr rfl (by have aj:=aq.below aj hq;have aD:=aq.below aD hq;first|exact aj.at rfl|exact aD.at rfl|exact aj.cell 0|exact aD.cell 0|assumption)) rfl<|bB rfl rfl kO<|aC (jI jx rfl rfl) rfl<|bB rfl rfl kO<|aC (aJ (kb _) rfl) rfl<|bB rfl rfl kO<|cr (fun wq hq=>aI kr rfl (by have aj:=aq.below aj hq;have aD:=aq.below aD hq;first|exact aj.at rfl|exact aD.at rfl|exact aj.cell 0|exact aD.cell 0|assumption)) rfl<|bB rfl rfl kO<|aC (jI jx rfl rfl) rfl<|bB rfl rfl kO<|aC (bA rfl rfl) rfl<|aC (bi rfl kO rfl) rfl<|aC (cX rfl) rfl<|dZ fun iI ci=>?_
     have jo:=ci.size;have hb:=az hb ci;refine aw ua<|aK<|bj rfl rfl ?_
     exact ⟨_,rfl,aP (by rw [zs oM];first|exact absurd oM sq|(exfalso;have h:=kO;simp at h;done)|(exfalso;have h:=mY;simp at h;done)|(simp [pW,sr,cI,dQ];done)|(simp [pW,cI,dQ];done)|(simp [sr,cI,dQ];done)),hb⟩
    have kO:=sr;simp only [DZ] at sr;refine aL rfl rfl kO rfl rfl<|aL rfl rfl kO rfl rfl<|aL rfl rfl kO rfl rfl<|aL rfl rfl kO rfl rfl<|aL rfl rfl kO rfl rfl<|aL rfl rfl kO rfl rfl<|aC (bg rfl kO rfl) rfl<|aC (cX rfl) rfl<|dZ fun iI ci=>?_
    have jo:=ci.size;have hb:=az hb ci;refine aw ua<|aK<|bj rfl rfl ?_
    exact ⟨_,rfl,aP (by rw [zs oM];first|exact absurd oM sq|(exfalso;have h:=kO;simp at h;done)|(exfalso;have h:=mY;simp at h;done)|(simp [pW,sr,cI,dQ];done)|(simp [pW,cI,dQ];done)|(simp [sr,cI,dQ];done)),hb⟩
   have mY:=pW;simp only [DZ] at pW;refine aL rfl rfl mY rfl rfl<|aL rfl rfl mY rfl rfl<|aL rfl rfl mY rfl rfl<|aL rfl rfl mY rfl rfl<|aC (bg rfl mY rfl) rfl<|aC (bl rfl) rfl<|aL rfl rfl rfl rfl rfl<|aL rfl rfl rfl rfl rfl<|aL rfl rfl rfl rfl rfl<|aL rfl rfl rfl rfl rfl<|aL rfl rfl rfl rfl rfl<|aL rfl rfl rfl rfl rfl<|aL rfl rfl rfl rfl rfl<|aC (bg rfl rfl rfl) rfl<|aC (cX rfl) rfl<|dZ fun iI ci=>?_
   have jo:=ci.size;have hb:=az hb ci;refine aw ua<|aK<|bj rfl rfl ?_
   exact ⟨_,rfl,aP (by rw [zs oM];first|exact absurd oM sq|(exfalso;have h:=rE;simp at h;done)|(exfalso;have h:=mY;simp at h;done)|(simp [pW,kz,cI,dQ];done)|(simp [pW,cI,dQ];done)|(simp [kz,cI,dQ];done)),hb⟩
  have pU:=sq;simp only [DZ] at sq;refine aL rfl rfl pU rfl rfl<|aL rfl rfl pU rfl rfl<|aL rfl rfl pU rfl rfl<|aL rfl rfl pU rfl rfl<|aC (bg rfl pU rfl) rfl<|aC (bl rfl) rfl<|aL rfl rfl rfl rfl rfl<|aL rfl rfl rfl rfl rfl<|aL rfl rfl rfl rfl rfl<|aL rfl rfl rfl rfl rfl<|aL rfl rfl rfl rfl rfl<|aC (bg rfl rfl rfl) rfl<|aC (bl rfl) rfl<|aL rfl rfl rfl rfl rfl<|aL rfl rfl rfl rfl rfl<|aL rfl rfl rfl rfl rfl<|aL rfl rfl rfl rfl rfl<|aL rfl rfl rfl rfl rfl<|aL rfl rfl rfl rfl rfl<|aL rfl rfl rfl rfl rfl<|aC (bg rfl rfl rfl) rfl<|aC (cX rfl) rfl<|dZ fun iI ci=>?_
  have jo:=ci.size;have hb:=az hb ci;refine aw ua<|aK<|bj rfl rfl ?_
  exact ⟨_,rfl,aP (by rw [zs oM];first|exact absurd oM sq|(exfalso;have h:=rE;simp at h;done)|(exfalso;have h:=Ea;simp at h;done)|(simp [rD,kz,cI,dQ];done)|(simp [rD,cI,dQ];done)|(simp [kz,cI,dQ];done)),hb⟩
 simp only [DZ] at oM;refine ao fun aa9=>am rfl<|an aa9<|aK<|bE (aQ ?_)
 refine bj rfl rfl ?_;exact ⟨_,rfl,aP (by unfold en;rw [if_neg dR,if_neg oJ,if_neg oK,if_neg oL,if_neg oM]),hb⟩
theorem TT:bC Tryz.prog 54:=⟨_,Tryz.func54,by kernel_rfl,rfl⟩
theorem ag7:bC Tryz.prog 85:=⟨_,Tryz.func85,by kernel_rfl,rfl⟩
theorem ag8:bC Tryz.prog 88:=⟨_,Tryz.func88,by kernel_rfl,rfl⟩
def gj (q:al) (a:bW):al×Int:=
 if en a=false then ([],1) else if a.k=1 then ((if (a.n==1)=true then [116,114,117,101] else [102,97,108,115,101]),0)
 else if a.k=2 then (Lib.itoa a.n,0) else if a.k=3 then (dr a.f,0) else if a.k=4 then (q,0) else ([110,117,108,108],0)
theorem WQ (q:al) (a:bW) (oa:a.Ok) (w:World) (hL:Lt w) (hq:en a=true→a.k=4→∀w,Lt w→be Tryz.prog 88 [str a.s] w fun v w'=>v=str q∧Below w.heap.size w w'):be Tryz.prog 53 [a.enc] w fun v w'=>v= .tuple #[str (gj q a).1,.int .i64 (gj q a).2]∧Below w.heap.size w w':=by
 have hb:=Below.refl w.heap.size w;have bw:=hL;refine enter Tryz.func53 rfl rfl rfl<|ao fun aZ=>jL rfl rfl ?_
 rintro aX js iB aj cF;have:=cF.size;have hb:=az hb cF;have hL:=bw.below hb;have:=aj.lt;refine am rfl<|am rfl<|an aZ<|ax fun _ cT=>ao fun ex=>aW (dM de (by kernel_rfl) rfl (by exact fun j u hu=>aj.at hu)) rfl<|aS TT rfl rfl (NM a oa _) rfl ?_
 rintro _ cq ⟨rfl,bm⟩;have:=bm.size;have hb:=az hb bm;have hL:=bw.below hb;have aj:=aq.below aj bm;refine ah (fI rfl) rfl<|an ex<|aH rfl (fun fh=>?_) (fun fh=>?_)
 ·
  have ny:=fh;simp only [DZ] at fh;refine ao fun d7=>am rfl<|am rfl<|an d7<|aK<|aQ<|dv rfl rfl rfl ?_
  exact ⟨_,rfl,by unfold gj;rw [if_pos (by have h:=ny;simpa using h)];rfl,hb⟩
 have ny:=fh;simp only [DZ] at fh;have hr:en a=true:=by have h:=ny;simpa using h
 have hr':¬en a=false:=by rw [hr];simp
 refine aU<|aw cT<|ax fun _ eR=>ao fun fj=>ah (aJ (jP _) rfl) rfl<|aW (aI f8 rfl (by exact aj.at rfl)) rfl<|an fj<|br<|ao fun dL=>ah (bA rfl rfl) rfl<|am rfl<|an dL<|aH rfl (fun im=>?_) (fun im=>?_)
 ·
  have yx:=im;simp only [DZ] at im;refine ao fun kT=>ah (aJ (fv _) rfl) rfl<|aW (aI fB rfl (by exact aj.at rfl)) rfl<|ah (bA rfl rfl) rfl<|aS ag7 rfl rfl (U4 _ _) rfl ?_
  rintro _ w_ ⟨rfl,bf⟩;have bf:=bf.symm;subst bf;refine am rfl<|am rfl<|an kT<|aK<|bE (aQ ?_)
  refine dv rfl rfl rfl ?_;exact ⟨_,rfl,by unfold gj;rw [if_neg hr',if_pos im],hb⟩
 have yx:=im;simp only [DZ] at im;refine ao fun gK=>ah (bA rfl rfl) rfl<|am rfl<|an gK<|aH rfl (fun rV=>?_) (fun rV=>?_)
 ·
  have XR:=rV;simp only [DZ] at rV;refine ao fun jh=>ah (aJ (fv _) rfl) rfl<|aW (aI fB rfl (by exact aj.at rfl)) rfl<|aS TX rfl rfl (Nt _ oa.n0 oa.n1 _ hL) rfl ?_
  rintro _ gu ⟨rfl,bG⟩;have:=bG.size;have hb:=az hb bG;have hL:=bw.below hb;refine am rfl<|am rfl<|an jh<|aK<|bE (aQ ?_)
  refine dv rfl rfl rfl ?_;exact ⟨_,rfl,by unfold gj;rw [if_neg hr',if_neg im,if_pos rV],hb⟩
 have XR:=rV;simp only [DZ] at rV;refine ao fun fx=>ah (bA rfl rfl) rfl<|am rfl<|an fx<|aH rfl (fun tK=>?_) (fun tK=>?_)
 ·
  have Yc:=tK;simp only [DZ] at tK;refine ao fun f5=>ah (aJ (kb _) rfl) rfl<|aW (aI kr rfl (by exact aj.at rfl)) rfl<|aS TY rfl rfl (NP _ oa.f1 _ hL) rfl ?_
  rintro _ hZ ⟨rfl,ck⟩;have:=ck.size;have hb:=az hb ck;have hL:=bw.below hb;refine am rfl<|am rfl<|an f5<|aK<|bE (aQ ?_)
  refine dv rfl rfl rfl ?_;exact ⟨_,rfl,by unfold gj;rw [if_neg hr',if_neg im,if_neg rV,if_pos tK],hb⟩
 have Yc:=tK;simp only [DZ] at tK;refine ao fun iX=>ah (bA rfl rfl) rfl<|am rfl<|an iX<|aH rfl (fun tP=>?_) (fun tP=>?_)
 ·
  have Yw:=tP;simp only [DZ] at tP;refine ao fun n5=>ah (aJ (iP _) rfl) rfl<|aW (aI bQ rfl (by exact aj.at rfl)) rfl<|aS ag8 rfl rfl (hq hr tP _ hL) rfl ?_
  rintro _ nq ⟨rfl,dE⟩;have:=dE.size;have hb:=az hb dE;have hL:=bw.below hb;refine am rfl<|am rfl<|an n5<|aK<|bE (aQ ?_)
  refine dv rfl rfl rfl ?_;exact ⟨_,rfl,by unfold gj;rw [if_neg hr',if_neg im,if_neg rV,if_neg tK,if_pos tP],hb⟩
 have Yw:=tP;simp only [DZ] at tP;refine aU<|bS<|aw eR<|ao fun qo=>am rfl<|am rfl<|an qo<|aK<|dv rfl rfl rfl ?_
 exact ⟨_,rfl,by unfold gj;rw [if_neg hr',if_neg im,if_neg rV,if_neg tK,if_neg tP];rfl,hb⟩
end Go.Proofs.YtjmlknjbhbfneaaGreatDoor
