import Derived.Test.YtjmlknjbhbfneaaGreatDoorZJ
namespace Go.Proofs.YtjmlknjbhbfneaaGreatDoor
open Go.RowKit Go.Bw Go.Bw.Fl
set_option linter.unusedVariables false
set_option linter.unusedSimpArgs false
theorem MW:bC Tryz.prog 82:=⟨_,Tryz.func82,by kernel_rfl,rfl⟩
theorem VD (a:bW) (oa:a.Ok) (w:World):be Tryz.prog 152 [a.enc] w fun v w'=>v= .bool (en a)∧Below w.heap.size w w':=by
 have hb:=Below.refl w.heap.size w;refine enter Tryz.func152 rfl rfl rfl<|ao fun aZ=>jL rfl rfl ?_
 rintro aX js iB aj cF;have:=cF.size;have hb:=az hb cF;have:=aj.lt;refine am rfl<|an aZ<|ao fun bX=>ah (aJ (kb _) rfl) rfl<|aW (aI kr rfl (by exact aj.at rfl)) rfl<|ah (jI jx rfl rfl) rfl<|ah (bA rfl rfl) rfl<|am rfl<|an bX<|ax fun _ eZ=>ao fun d7=>ah (aJ (jP _) rfl) rfl<|aW (aI f8 rfl (by exact aj.at rfl)) rfl<|an d7<|br<|ao fun eR=>ah (bA rfl rfl) rfl<|am rfl<|an eR<|aH rfl (fun il=>?_) (fun il=>?_)
 ·
  simp only [DZ] at il;refine ao fun dL=>ah (aJ (fv _) rfl) rfl<|aW (aI fB rfl (by exact aj.at rfl)) rfl<|ah (bA rfl rfl) rfl<|ai rfl<|cw rfl rfl rfl (fun nR=>?_) (fun nR=>?_)
  ·
   have lZ:=nR;refine ai rfl<|ah (bi rfl lZ rfl) rfl<|ai rfl<|cw rfl rfl rfl (fun su=>?_) (fun su=>?_)
   ·
    have jT:=su;refine ah (aJ (iP _) rfl) rfl<|aE rfl rfl jT<|aW (aI bQ rfl (by exact aj.at rfl)) rfl<|aE rfl rfl jT<|ah (fu rfl rfl) rfl<|ah (bi rfl jT rfl) rfl<|am rfl<|an dL<|aK<|bE (aQ ?_)
    refine bj rfl rfl ?_;exact ⟨_,rfl,aP (by rw [xX il];simp_all [cI]<;>(cases a.s<;>rfl)),hb⟩
   have jT:=su;refine aA rfl rfl jT rfl rfl<|aA rfl rfl jT rfl rfl<|ah (bg rfl jT rfl) rfl<|am rfl<|an dL<|aK<|bE (aQ ?_)
   refine bj rfl rfl ?_;exact ⟨_,rfl,aP (by rw [xX il];simp_all [cI]<;>(cases a.s<;>rfl)),hb⟩
  have lZ:=nR;refine ah (bg rfl lZ rfl) rfl<|ai rfl<|aA rfl rfl rfl rfl rfl<|aA rfl rfl rfl rfl rfl<|aA rfl rfl rfl rfl rfl<|ah (bg rfl rfl rfl) rfl<|am rfl<|an dL<|aK<|bE (aQ ?_)
  refine bj rfl rfl ?_;exact ⟨_,rfl,aP (by rw [xX il];simp_all [cI]<;>(cases a.s<;>rfl)),hb⟩
 simp only [DZ] at il;refine ao fun fx=>ah (bA rfl rfl) rfl<|am rfl<|an fx<|aH rfl (fun io=>?_) (fun io=>?_)
 ·
  simp only [DZ] at io;refine ao fun f5=>ah (aJ (fv _) rfl) rfl<|aW (aI fB rfl (by exact aj.at rfl)) rfl<|ah (bA rfl rfl) rfl<|ai rfl<|dP rfl rfl rfl (fun iR=>?_) (fun iR=>?_)
  ·
   have iv:=iR;refine aA rfl rfl iv rfl rfl<|aA rfl rfl iv rfl rfl<|ah (bi rfl iv rfl) rfl<|ai rfl<|aE rfl rfl rfl<|ai rfl<|ah (bi rfl rfl rfl) rfl<|ai rfl<|cw rfl rfl rfl (fun qW=>?_) (fun qW=>?_)
   ·
    have l8:=qW;refine ah (aJ (iP _) rfl) rfl<|aE rfl rfl l8<|aW (aI bQ rfl (by exact aj.at rfl)) rfl<|aE rfl rfl l8<|ah (fu rfl rfl) rfl<|ah (bi rfl l8 rfl) rfl<|am rfl<|an f5<|aK<|bE (aQ ?_)
    refine bj rfl rfl ?_;exact ⟨_,rfl,aP (by rw [ta io];simp_all [cI]<;>(cases a.s<;>rfl)),hb⟩
   have l8:=qW;refine aA rfl rfl l8 rfl rfl<|aA rfl rfl l8 rfl rfl<|ah (bg rfl l8 rfl) rfl<|am rfl<|an f5<|aK<|bE (aQ ?_)
   refine bj rfl rfl ?_;exact ⟨_,rfl,aP (by rw [ta io];simp_all [cI]<;>(cases a.s<;>rfl)),hb⟩
  have iv:=iR;refine ah (aJ (fv _) rfl) rfl<|aE rfl rfl iv<|aW (aI fB rfl (by exact aj.at rfl)) rfl<|aE rfl rfl iv<|ah (bA rfl rfl) rfl<|ah (bg rfl iv rfl) rfl<|ai rfl<|cw rfl rfl rfl (fun Ja=>?_) (fun Ja=>?_)
  ·
   have Jb:=Ja;refine ai rfl<|ah (bi rfl Jb rfl) rfl<|ai rfl<|cw rfl rfl rfl (fun Jc=>?_) (fun Jc=>?_)
   ·
    have wF:=Jc;refine ah (aJ (iP _) rfl) rfl<|aE rfl rfl wF<|aW (aI bQ rfl (by exact aj.at rfl)) rfl<|aE rfl rfl wF<|ah (fu rfl rfl) rfl<|ah (bi rfl wF rfl) rfl<|am rfl<|an f5<|aK<|bE (aQ ?_)
    refine bj rfl rfl ?_;exact ⟨_,rfl,aP (by rw [ta io];simp_all [cI]<;>(cases a.s<;>rfl)),hb⟩
   have wF:=Jc;refine aA rfl rfl wF rfl rfl<|aA rfl rfl wF rfl rfl<|ah (bg rfl wF rfl) rfl<|am rfl<|an f5<|aK<|bE (aQ ?_)
   refine bj rfl rfl ?_;exact ⟨_,rfl,aP (by rw [ta io];simp_all [cI]<;>(cases a.s<;>rfl)),hb⟩
  have Jb:=Ja;refine ah (bg rfl Jb rfl) rfl<|ai rfl<|aA rfl rfl rfl rfl rfl<|aA rfl rfl rfl rfl rfl<|aA rfl rfl rfl rfl rfl<|ah (bg rfl rfl rfl) rfl<|am rfl<|an f5<|aK<|bE (aQ ?_)
  refine bj rfl rfl ?_;exact ⟨_,rfl,aP (by rw [ta io];simp_all [cI]<;>(cases a.s<;>rfl)),hb⟩
 simp only [DZ] at io;refine ao fun xx=>ah (bA rfl rfl) rfl<|am rfl<|an xx<|aH rfl (fun yA=>?_) (fun yA=>?_)
 ·
  simp only [DZ] at yA;refine ao fun lv=>ai rfl<|ai rfl<|cw rfl rfl rfl (fun sy=>?_) (fun sy=>?_)
  ·
   have p9:=sy;refine ah (aJ (iP _) rfl) rfl<|aE rfl rfl p9<|aW (aI bQ rfl (by exact aj.at rfl)) rfl<|aE rfl rfl p9<|ah (fu rfl rfl) rfl<|ah (bi rfl p9 rfl) rfl<|am rfl<|an lv<|aK<|bE (aQ ?_)
   refine bj rfl rfl ?_;exact ⟨_,rfl,aP (by rw [zr yA];simp_all [cI]<;>(cases a.s<;>rfl)),hb⟩
  have p9:=sy;refine aA rfl rfl p9 rfl rfl<|aA rfl rfl p9 rfl rfl<|ah (bg rfl p9 rfl) rfl<|am rfl<|an lv<|aK<|bE (aQ ?_)
  refine bj rfl rfl ?_;exact ⟨_,rfl,aP (by rw [zr yA];simp_all [cI]<;>(cases a.s<;>rfl)),hb⟩
 simp only [DZ] at yA;refine ao fun mq=>ah (bA rfl rfl) rfl<|am rfl<|an mq<|aH rfl (fun vv=>?_) (fun vv=>?_)
 ·
  simp only [DZ] at vv;refine ax fun _ kS=>ju (by kernel_rfl) (by kernel_rfl)<|aC (aJ (fv _) rfl) rfl<|cr (fun wq hq=>aI fB rfl (by have aj:=aq.below aj hq;first|exact aj.at rfl|exact aj.cell 0|assumption)) rfl<|aC (bA rfl rfl) rfl<|aC (bl rfl) rfl<|iN rfl rfl rfl (fun sb=>?_) (fun sb=>?_)
  ·
   have jR:=sb;refine aC (aJ (iP _) rfl) rfl<|bB rfl rfl jR<|cr (fun wq hq=>aI bQ rfl (by have aj:=aq.below aj hq;first|exact aj.at rfl|exact aj.cell 0|assumption)) rfl<|bB rfl rfl jR<|aC (fu rfl rfl) rfl<|aC (bi rfl jR rfl) rfl<|aC (bl rfl) rfl<|iN rfl rfl rfl (fun I1=>?_) (fun I1=>?_)
   ·
    have lW:=I1;refine aC (aJ (kb _) rfl) rfl<|bB rfl rfl lW<|cr (fun wq hq=>aI kr rfl (by have aj:=aq.below aj hq;first|exact aj.at rfl|exact aj.cell 0|assumption)) rfl<|bB rfl rfl lW<|uQ MW rfl rfl (fun wq hq=>by have aj:=aq.below aj hq;exact be.quiet (GL _ oa.f1 _)) rfl<|bB rfl rfl lW<|aC (aJ (kb _) rfl) rfl<|bB rfl rfl lW<|cr (fun wq hq=>aI kr rfl (by have aj:=aq.below aj hq;first|exact aj.at rfl|exact aj.cell 0|assumption)) rfl<|bB rfl rfl lW<|aC (jI jx rfl rfl) rfl<|bB rfl rfl lW<|aC (bA rfl rfl) rfl<|aC (bi rfl lW rfl) rfl<|aC (cX rfl) rfl<|dZ fun Gx jY=>?_
    have QR:=jY.size;have hb:=az hb jY;refine aw kS<|aK<|bE (aQ ?_)
    refine bj rfl rfl ?_;exact ⟨_,rfl,aP (by rw [uC vv];simp_all [kC]<;>(cases a.s<;>rfl)),hb⟩
   have lW:=I1;refine aL rfl rfl lW rfl rfl<|aL rfl rfl lW rfl rfl<|aL rfl rfl lW rfl rfl<|aL rfl rfl lW rfl rfl<|aL rfl rfl lW rfl rfl<|aL rfl rfl lW rfl rfl<|aC (bg rfl lW rfl) rfl<|aC (cX rfl) rfl<|dZ fun Gx jY=>?_
   have QR:=jY.size;have hb:=az hb jY;refine aw kS<|aK<|bE (aQ ?_)
   refine bj rfl rfl ?_;exact ⟨_,rfl,aP (by rw [uC vv];simp_all [kC]<;>(cases a.s<;>rfl)),hb⟩
  have jR:=sb;refine aL rfl rfl jR rfl rfl<|aL rfl rfl jR rfl rfl<|aC (bg rfl jR rfl) rfl<|aC (bl rfl) rfl<|aL rfl rfl rfl rfl rfl<|aL rfl rfl rfl rfl rfl<|aL rfl rfl rfl rfl rfl<|aL rfl rfl rfl rfl rfl<|aL rfl rfl rfl rfl rfl<|aL rfl rfl rfl rfl rfl<|aL rfl rfl rfl rfl rfl<|aC (bg rfl rfl rfl) rfl<|aC (cX rfl) rfl<|dZ fun Gx jY=>?_
  have QR:=jY.size;have hb:=az hb jY;refine aw kS<|aK<|bE (aQ ?_)
  refine bj rfl rfl ?_;exact ⟨_,rfl,aP (by rw [uC vv];simp_all [kC]<;>(cases a.s<;>rfl)),hb⟩
 simp only [DZ] at vv;refine ao fun xm=>ah (bA rfl rfl) rfl<|am rfl<|an xm<|aH rfl (fun yD=>?_) (fun yD=>?_)
 ·
  simp only [DZ] at yD;refine ao fun q8=>ah (aJ (fv _) rfl) rfl<|aW (aI fB rfl (by exact aj.at rfl)) rfl<|ah (bA rfl rfl) rfl<|ai rfl<|cw rfl rfl rfl (fun I4=>?_) (fun I4=>?_)
  ·
   have I5:=I4;refine ai rfl<|ah (bi rfl I5 rfl) rfl<|am rfl<|an q8<|aK<|bE (aQ ?_)
   refine bj rfl rfl ?_;exact ⟨_,rfl,aP (by rw [zs yD];simp_all [cI]<;>(cases a.s<;>rfl)),hb⟩
  have I5:=I4;refine ah (bg rfl I5 rfl) rfl<|am rfl<|an q8<|aK<|bE (aQ ?_)
  refine bj rfl rfl ?_;exact ⟨_,rfl,aP (by rw [zs yD];simp_all [cI]<;>(cases a.s<;>rfl)),hb⟩
 simp only [DZ] at yD;refine aU<|bS<|aw eZ<|ao fun Kx=>am rfl<|an Kx<|aK<|bj rfl rfl ?_
 exact ⟨_,rfl,aP (by unfold en;rw [if_neg il,if_neg io,if_neg yA,if_neg vv,if_neg yD]),hb⟩
theorem Dp (w:World):be Tryz.prog 77 [] w fun v w'=>v=dh.enc∧Below w.heap.size w w':=by
 have hb:=Below.refl w.heap.size w;refine enter Tryz.func77 rfl rfl rfl<|ao fun aZ=>el (z:=nf) (by kernel_rfl) rfl ?_
 rintro aX js iB aj cF;have:=cF.size;have hb:=az hb cF;have:=aj.lt;refine an aZ<|ao fun bJ=>ah (fe (z:=j2) (pl:=j3) (cs:= [_,_,_,_]) de (by kernel_rfl) (by kernel_rfl) rfl rfl rfl) rfl<|cH (by kernel_rfl) rfl rfl aj rfl rfl ?_
 rintro d3 aj bI;have:=bI.size;have hb:=bY hb bI hb.size (by omega);refine an bJ<|aK<|fc (rs:= [.cell 0 96]) (vs:= [_]) rfl (.cell rfl (e9 de (by kernel_rfl) (fun j u hu=>aj.at hu)) .nil) ?_
 exact ⟨_,rfl,rfl,hb⟩
theorem VY (t:Bool) (w:World):be Tryz.prog 108 [.bool t] w fun v w'=>v=(hY t).enc∧Below w.heap.size w w':=by
 have hb:=Below.refl w.heap.size w;refine enter Tryz.func108 rfl rfl rfl<|ao fun aZ=>el (z:=nf) (by kernel_rfl) rfl ?_
 rintro aX js iB aj cF;have:=cF.size;have hb:=az hb cF;have:=aj.lt;refine an aZ<|ax fun _ bJ=>ao fun bX=>ai rfl<|an bX<|aH rfl (fun uW=>?_) (fun uW=>?_)
 ·
  have uX:=uW;refine ao fun e7=>ah (fe (z:=j2) (pl:=j3) (cs:= [_,_,_,_]) de (by kernel_rfl) (by kernel_rfl) rfl rfl rfl) rfl<|cH (by kernel_rfl) rfl rfl aj rfl rfl ?_
  rintro d3 aj bI;have:=bI.size;have hb:=bY hb bI hb.size (by omega);refine an e7<|aK<|aQ<|fc (rs:= [.cell 2 96]) (vs:= [_]) rfl (.cell rfl (e9 de (by kernel_rfl) (fun j u hu=>aj.at hu)) .nil) ?_
  exact ⟨_,rfl,by rw [uX];rfl,hb⟩
 have uX:=uW;refine aU<|aw bJ<|ao fun ek=>ah (fe (z:=j2) (pl:=j3) (cs:= [_,_,_,_]) de (by kernel_rfl) (by kernel_rfl) rfl rfl rfl) rfl<|cH (by kernel_rfl) rfl rfl aj rfl rfl ?_
 rintro ky aj cd;have:=cd.size;have hb:=bY hb cd hb.size (by omega);refine an ek<|aK<|fc (rs:= [.cell 2 96]) (vs:= [_]) rfl (.cell rfl (e9 de (by kernel_rfl) (fun j u hu=>aj.at hu)) .nil) ?_
 exact ⟨_,rfl,by rw [uX];rfl,hb⟩
theorem adg {a b:Nat} (ha:a<18446744073709551616) (hb:b<18446744073709551616):m8 a=m8 b↔canon a=canon b:=
 ⟨Y3 ha hb,fun h=>by rw [←Q7 a,←Q7 b,h]⟩
theorem VF (a b:bW) (oa:a.Ok) (ob:b.Ok) (w:World):be Tryz.prog 50 [a.enc,b.enc] w fun v w'=>v= .bool (uE a b)∧Below w.heap.size w w':=by
 have hk:=adg oa.f1 ob.f1;have hb:=Below.refl w.heap.size w;refine enter Tryz.func50 rfl rfl rfl<|ao fun aZ=>jL rfl rfl ?_
 rintro aX js iB aj cF;have:=cF.size;have hb:=az hb cF;have:=aj.lt;refine jL rfl rfl ?_;rintro cQ M9 Lf aF m7;have:=m7.size;have hb:=az hb m7;have aj:=aq.below aj m7;have:=aF.lt;refine am rfl<|an aZ<|ax fun _ cT=>ju (by kernel_rfl) (by kernel_rfl)<|aC (aJ (jP _) rfl) rfl<|cr (fun wq hq=>aI f8 rfl (by have aj:=aq.below aj hq;have aF:=aq.below aF hq;first|exact aj.at rfl|exact aF.at rfl|exact aj.cell 0|exact aF.cell 0|assumption)) rfl<|aC (aJ (jP _) rfl) rfl<|cr (fun wq hq=>aI f8 rfl (by have aj:=aq.below aj hq;have aF:=aq.below aF hq;first|exact aj.at rfl|exact aF.at rfl|exact aj.cell 0|exact aF.cell 0|assumption)) rfl<|aC (bA rfl rfl) rfl<|aC (bl rfl) rfl<|iN rfl rfl rfl (fun lX=>?_) (fun lX=>?_)
 ·
  have fX:=lX;refine aC (aJ (fv _) rfl) rfl<|bB rfl rfl fX<|cr (fun wq hq=>aI fB rfl (by have aj:=aq.below aj hq;have aF:=aq.below aF hq;first|exact aj.at rfl|exact aF.at rfl|exact aj.cell 0|exact aF.cell 0|assumption)) rfl<|bB rfl rfl fX<|aC (aJ (fv _) rfl) rfl<|bB rfl rfl fX<|cr (fun wq hq=>aI fB rfl (by have aj:=aq.below aj hq;have aF:=aq.below aF hq;first|exact aj.at rfl|exact aF.at rfl|exact aj.cell 0|exact aF.cell 0|assumption)) rfl<|bB rfl rfl fX<|aC (bA rfl rfl) rfl<|aC (bi rfl fX rfl) rfl<|aC (bl rfl) rfl<|iN rfl rfl rfl (fun I7=>?_) (fun I7=>?_)
  ·
   have pS:=I7;refine aC (aJ (iP _) rfl) rfl<|bB rfl rfl pS<|cr (fun wq hq=>aI bQ rfl (by have aj:=aq.below aj hq;have aF:=aq.below aF hq;first|exact aj.at rfl|exact aF.at rfl|exact aj.cell 0|exact aF.cell 0|assumption)) rfl<|bB rfl rfl pS<|aC (aJ (iP _) rfl) rfl<|bB rfl rfl pS<|cr (fun wq hq=>aI bQ rfl (by have aj:=aq.below aj hq;have aF:=aq.below aF hq;first|exact aj.at rfl|exact aF.at rfl|exact aj.cell 0|exact aF.cell 0|assumption)) rfl<|bB rfl rfl pS<|aC (fu rfl rfl) rfl<|aC (bi rfl pS rfl) rfl<|aC (bl rfl) rfl<|iN rfl rfl rfl (fun I8=>?_) (fun I8=>?_)
   ·
    have l3:=I8;refine aC (aJ (kb _) rfl) rfl<|bB rfl rfl l3<|cr (fun wq hq=>aI kr rfl (by have aj:=aq.below aj hq;have aF:=aq.below aF hq;first|exact aj.at rfl|exact aF.at rfl|exact aj.cell 0|exact aF.cell 0|assumption)) rfl<|bB rfl rfl l3<|uQ MW rfl rfl (fun wq hq=>by have aj:=aq.below aj hq;have aF:=aq.below aF hq;exact be.quiet (GL _ oa.f1 _)) rfl<|bB rfl rfl l3<|aC (aJ (kb _) rfl) rfl<|bB rfl rfl l3<|cr (fun wq hq=>aI kr rfl (by have aj:=aq.below aj hq;have aF:=aq.below aF hq;first|exact aj.at rfl|exact aF.at rfl|exact aj.cell 0|exact aF.cell 0|assumption)) rfl<|bB rfl rfl l3<|uQ MW rfl rfl (fun wq hq=>by have aj:=aq.below aj hq;have aF:=aq.below aF hq;exact be.quiet (GL _ ob.f1 _)) rfl<|bB rfl rfl l3<|aC (bA rfl rfl) rfl<|aC (bi rfl l3 rfl) rfl<|aC (cX rfl) rfl<|dZ fun M7 qx=>?_
    have LD:=qx.size;have hb:=az hb qx;refine aw cT<|aK<|bj rfl rfl ?_
    exact ⟨_,rfl,aP (by unfold uE;rw [Bool.eq_iff_iff];simp only [decide_eq_true_eq,hk,kC];clear hk;simp_all),hb⟩
   have l3:=I8;refine aL rfl rfl l3 rfl rfl<|aL rfl rfl l3 rfl rfl<|aL rfl rfl l3 rfl rfl<|aL rfl rfl l3 rfl rfl<|aL rfl rfl l3 rfl rfl<|aL rfl rfl l3 rfl rfl<|aC (bg rfl l3 rfl) rfl<|aC (cX rfl) rfl<|dZ fun M7 qx=>?_
   have LD:=qx.size;have hb:=az hb qx;refine aw cT<|aK<|bj rfl rfl ?_
   exact ⟨_,rfl,aP (by unfold uE;rw [Bool.eq_iff_iff];simp only [decide_eq_true_eq,hk,kC];clear hk;simp_all),hb⟩
  have pS:=I7;refine aL rfl rfl pS rfl rfl<|aL rfl rfl pS rfl rfl<|aL rfl rfl pS rfl rfl<|aL rfl rfl pS rfl rfl<|aC (bg rfl pS rfl) rfl<|aC (bl rfl) rfl<|aL rfl rfl rfl rfl rfl<|aL rfl rfl rfl rfl rfl<|aL rfl rfl rfl rfl rfl<|aL rfl rfl rfl rfl rfl<|aL rfl rfl rfl rfl rfl<|aL rfl rfl rfl rfl rfl<|aL rfl rfl rfl rfl rfl<|aC (bg rfl rfl rfl) rfl<|aC (cX rfl) rfl<|dZ fun M7 qx=>?_
  have LD:=qx.size;have hb:=az hb qx;refine aw cT<|aK<|bj rfl rfl ?_
  exact ⟨_,rfl,aP (by unfold uE;rw [Bool.eq_iff_iff];simp only [decide_eq_true_eq,hk,kC];clear hk;simp_all),hb⟩
 have fX:=lX;refine aL rfl rfl fX rfl rfl<|aL rfl rfl fX rfl rfl<|aL rfl rfl fX rfl rfl<|aL rfl rfl fX rfl rfl<|aC (bg rfl fX rfl) rfl<|aC (bl rfl) rfl<|aL rfl rfl rfl rfl rfl<|aL rfl rfl rfl rfl rfl<|aL rfl rfl rfl rfl rfl<|aL rfl rfl rfl rfl rfl<|aL rfl rfl rfl rfl rfl<|aC (bg rfl rfl rfl) rfl<|aC (bl rfl) rfl<|aL rfl rfl rfl rfl rfl<|aL rfl rfl rfl rfl rfl<|aL rfl rfl rfl rfl rfl<|aL rfl rfl rfl rfl rfl<|aL rfl rfl rfl rfl rfl<|aL rfl rfl rfl rfl rfl<|aL rfl rfl rfl rfl rfl<|aC (bg rfl rfl rfl) rfl<|aC (cX rfl) rfl<|dZ fun M7 qx=>?_
 have LD:=qx.size;have hb:=az hb qx;refine aw cT<|aK<|bj rfl rfl ?_
 exact ⟨_,rfl,aP (by unfold uE;rw [Bool.eq_iff_iff];simp only [decide_eq_true_eq,hk,kC];clear hk;simp_all),hb⟩
theorem Gf:bC Tryz.prog 153:=⟨_,Tryz.func153,by kernel_rfl,rfl⟩
theorem ad3 (n:Int):(n.tdiv 10).natAbs=n.natAbs / 10∧(0≤n→n.tmod 10=((n.natAbs % 10:Nat):Int))∧(n<0→n.tmod 10= -((n.natAbs % 10:Nat):Int)):=by
 rcases Int.lt_or_le n 0 with h|h
 · obtain ⟨u,hu⟩:∃u:Nat,n= -(u:Int):=⟨n.natAbs,by omega⟩
   subst hu;have e1:((-(u:Int)).tdiv 10)= -((u / 10:Nat):Int):=by rw [Int.neg_tdiv,Int.tdiv_eq_ediv_of_nonneg (by omega)];omega
   have e2:((-(u:Int)).tmod 10)= -((u % 10:Nat):Int):=by rw [Int.neg_tmod,Int.tmod_eq_emod_of_nonneg (by omega)];omega
   rw [e1,e2];omega
 · obtain ⟨u,hu⟩:∃u:Nat,n=(u:Int):=⟨n.natAbs,by omega⟩
   subst hu;have e1:((u:Int).tdiv 10)=((u / 10:Nat):Int):=by rw [Int.tdiv_eq_ediv_of_nonneg (by omega)];omega
   have e2:((u:Int).tmod 10)=((u % 10:Nat):Int):=by rw [Int.tmod_eq_emod_of_nonneg (by omega)];omega
   rw [e1,e2];omega
theorem GR (u:Nat):∀(n:Int) (hu:n.natAbs=u) (h0: -9223372036854775808≤n) (h1:n≤9223372036854775807) (w:World),be Tryz.prog 153 [.int .i64 n] w fun v w'=>v=str (Lib.decDigits u)∧Below w.heap.size w w':=by
 induction u using Nat.strongRecOn with
 |ind u ih=>
 intro n hu h0 h1 w;obtain ⟨hq,hm0,hm1⟩:=ad3 n;rw [hu] at hq hm0 hm1;have hqb: -9223372036854775808≤n.tdiv 10∧n.tdiv 10≤9223372036854775807:=by omega
 have hb:=Below.refl w.heap.size w;refine enter Tryz.func153 rfl rfl rfl<|ao fun aZ=>am rfl<|an aZ<|ao fun bJ=>ai rfl<|ah (tt rfl rfl (by decide)) rfl<|am rfl<|an bJ<|ax fun _ e7=>ao fun gp=>ai rfl<|ah (cg rfl rfl) rfl<|an gp<|b9 (X:=Unit) (fun u_=> [(0,.int .i64 n),(3,.int .i64 (u % 10:Nat))]) (fun u_ wr=>Below w.heap.size w wr) (fun _ PW=>?_) ?_
 ·
  refine aH rfl (fun tF=>?_) (fun tF=>?_)
  ·
   have Xo:=tF;simp only [DZ] at tF;refine aR<|ai rfl<|ah (bt (Ni rfl) (int_eq (show _=((u % 10:Nat):Int) by have:=tF;first|(rw [wrap_i64 _ (by omega) (by omega)];omega)|omega))) rfl<|am rfl<|ay<|aY PW (()) (by repeat first|exact aB|refine au rfl (by first|rfl|exact int_eq (by have:=tF;omega)) ?_) ?_
   exact hb
  have Xo:=tF;simp only [DZ] at tF;refine aU<|aY PW (()) (by repeat first|exact aB|refine au rfl (by first|rfl|exact int_eq (by have:=tF;omega)) ?_) ?_
  exact hb
 rintro u_ wr wQ;replace wQ:Below w.heap.size w wr:=wQ;have hb:=wQ;show Wq _ _ _ _ [(0,.int .i64 n),(3,.int .i64 (u % 10:Nat))] _;have:=hb.size;refine aw e7<|ao fun iA=>ai rfl<|ah (bH rfl rfl (by omega) (by omega)) rfl<|ah (bt (ja Gr fq rfl) (int_eq (AO (u % 10) (by omega)))) rfl<|dX (sz:=1) (vs:= [_]) dB (by kernel_rfl) rfl rfl rfl rfl rfl rfl ?_
 rintro ix qL oX ew cm;have:=cm.size;have hb:=az hb cm;have:=ew.lt;refine aW (lB dB fq bq rfl (by exact rH ew)) rfl<|am rfl<|an iA<|ao fun jf=>ai rfl<|ah (bt (tq rfl rfl (by decide)) (int_eq (show _=n.tdiv 10 from wrap_i64 _ (by omega) (by omega)))) rfl<|am rfl<|an jf<|ax fun _ eG=>ao fun gK=>ai rfl<|ah (ig rfl rfl) rfl<|an gK<|aH rfl (fun jd=>?_) (fun jd=>?_)
 ·
  have rS:=jd;simp only [DZ] at jd;refine ao fun jh=>ai rfl<|aS Gf rfl rfl (ih (u / 10) (by have:=jd;omega) (n.tdiv 10) hq hqb.1 hqb.2 _) rfl ?_
  rintro _ cq ⟨rfl,bm⟩;have:=bm.size;have hb:=az hb bm;refine ai rfl<|ah (dx rfl rfl (by have:=kF (u / 10) (by omega);first|omega|(simp;omega))) rfl<|am rfl<|an jh<|aK<|aQ<|bj rfl rfl ?_
  exact ⟨_,rfl,by rw [Lib.decDigits.eq_def u,dif_neg (by have:=jd;omega)],hb⟩
 have rS:=jd;simp only [DZ] at jd;refine aU<|aw eG<|ao fun fx=>ai rfl<|am rfl<|an fx<|aK<|bj rfl rfl ?_
 exact ⟨_,rfl,by rw [Lib.decDigits.eq_def u,dif_pos (by have:=jd;omega),Nat.mod_eq_of_lt (by have:=jd;omega)],hb⟩
theorem SV (n:Int) (w:World):be Tryz.prog 154 [.int .i64 n] w fun v w'=>v=str (if n<0 then [45] else [])∧Below w.heap.size w w':=by
 have hb:=Below.refl w.heap.size w;refine enter Tryz.func154 rfl rfl rfl<|ao fun aZ=>am rfl<|an aZ<|ax fun _ bJ=>ao fun bX=>ai rfl<|ah (cg rfl rfl) rfl<|an bX<|aH rfl (fun cL=>?_) (fun cL=>?_)
 ·
  have j7:=cL;simp only [DZ] at cL;refine ao fun gp=>am rfl<|an gp<|aK<|aQ<|bj rfl rfl ?_
  exact ⟨_,rfl,dw (if_pos cL).symm,hb⟩
 have j7:=cL;simp only [DZ] at cL;refine aU<|aw bJ<|ao fun eZ=>am rfl<|an eZ<|aK<|bj rfl rfl ?_
 exact ⟨_,rfl,dw (if_neg (by have:=cL;omega)).symm,hb⟩
theorem zw {l:al} {i:Nat} (h:i<l.length):l.take (i+1)=l.take i++ [l.getD i 0]:=by
 rw [List.take_add_one,List.getElem?_eq_getElem h];simp [List.getD,List.getElem?_eq_getElem h]
theorem Dx {s:al} {i:Nat} (h:i<s.length):(s.take (i+1)).flatMap qc=(s.take i).flatMap qc++qc (s.getD i 0):=by
 rw [zw h,List.flatMap_append];simp
theorem FO {s:al} {i:Nat} (h:i<s.length):(s.take (i+1)).drop i= [s.getD i 0]:=by
 rw [zw h,List.drop_append_of_le_length (by rw [List.length_take];omega),List.drop_eq_nil_of_le (by rw [List.length_take];omega)];rfl
theorem itoa_neg {n:Int} (h:n<0):Lib.itoa n=45 :: Lib.decDigits n.natAbs:=by unfold Lib.itoa;rw [if_pos h]
theorem Q6 {n:Int} (h:¬n<0):Lib.itoa n=Lib.decDigits n.natAbs:=by unfold Lib.itoa;rw [if_neg h];congr 1;omega
theorem Fy (n:Int):Lib.itoa n=(if n<0 then [45] else [])++Lib.decDigits n.natAbs:=by
 by_cases h:n<0
 · rw [itoa_neg h,if_pos h];rfl
 · rw [Q6 h,if_neg h];rfl
theorem agu:bC Tryz.prog 152:=⟨_,Tryz.func152,by kernel_rfl,rfl⟩
theorem TD:bC Tryz.prog 154:=⟨_,Tryz.func154,by kernel_rfl,rfl⟩
theorem agv:bC Tryz.prog 155:=⟨_,Tryz.func155,by kernel_rfl,rfl⟩
theorem afh {a:bW} (h:en a=true):a.k=0∨a.k=1∨a.k=2∨a.k=3∨a.k=4:=by
 refine Classical.byContradiction fun hn=>?_;unfold en at h;rw [if_neg (by omega),if_neg (by omega),if_neg (by omega),if_neg (by omega),if_neg (by omega)] at h
 cases h
theorem VG (a:bW) (oa:a.Ok) (hl:a.s.length≤70368744177664) (w:World):be Tryz.prog 110 [a.enc] w fun v w'=>v= .tuple #[str (gj (gi a.s) a).1,.int .i64 (gj (gi a.s) a).2]∧Below w.heap.size w w':=by
 have hn0:=oa.n0;have hn1:=oa.n1;have hdl:=kF a.n.natAbs (by omega);have hb:=Below.refl w.heap.size w;refine enter Tryz.func110 rfl rfl rfl<|ao fun aZ=>jL rfl rfl ?_
 rintro aX js iB aj cF;have:=cF.size;have hb:=az hb cF;have:=aj.lt;refine am rfl<|am rfl<|an aZ<|ao fun cT=>aW (dM de (by kernel_rfl) rfl (by exact fun j u hu=>aj.at hu)) rfl<|aS agu rfl rfl (VD a oa _) rfl ?_
 rintro _ cq ⟨rfl,bm⟩;have:=bm.size;have hb:=az hb bm;have aj:=aq.below aj bm;refine am rfl<|an cT<|ax fun _ ek=>ao fun eZ=>ai rfl<|ah (fI rfl) rfl<|an eZ<|aH rfl (fun dH=>?_) (fun dH=>?_)
 ·
  have kD:=dH;simp only [DZ] at dH;have hr:en a=false:=by have h:=kD;simpa using h
  refine ao fun eR=>am rfl<|am rfl<|an eR<|aK<|aQ<|dv rfl rfl rfl ?_
  exact ⟨_,rfl,by unfold gj;rw [if_pos hr];rfl,hb⟩
 have kD:=dH;simp only [DZ] at dH;have hr:en a=true:=by have h:=kD;simpa using h
 have hr':¬en a=false:=by rw [hr];simp
 have hkk:=afh hr;refine aU<|aw ek<|ax fun _ iA=>ao fun dL=>ah (aJ (jP _) rfl) rfl<|aW (aI f8 rfl (by exact aj.at rfl)) rfl<|an dL<|br<|ao fun fZ=>ah (bA rfl rfl) rfl<|am rfl<|an fZ<|aH rfl (fun fK=>?_) (fun fK=>?_)
 ·
  have rR:=fK;simp only [DZ] at fK;refine ao fun jg=>am rfl<|am rfl<|an jg<|aK<|bE (aQ ?_)
  refine dv rfl rfl rfl ?_;exact ⟨_,rfl,by unfold gj;rw [if_neg hr',if_neg (by have:=fK;omega),if_neg (by have:=fK;omega),if_neg (by have:=fK;omega),if_neg (by have:=fK;omega)];rfl,hb⟩
 have rR:=fK;simp only [DZ] at fK;refine ao fun eG=>ah (bA rfl rfl) rfl<|am rfl<|an eG<|aH rfl (fun nG=>?_) (fun nG=>?_)
 ·
  have XQ:=nG;simp only [DZ] at nG;refine ax fun _ iW=>ao fun jh=>ah (aJ (fv _) rfl) rfl<|aW (aI fB rfl (by exact aj.at rfl)) rfl<|ah (bA rfl rfl) rfl<|an jh<|aH rfl (fun vy=>?_) (fun vy=>?_)
  ·
   have Ya:=vy;simp only [DZ] at vy;refine ao fun ji=>am rfl<|am rfl<|an ji<|aK<|aQ (bE (aQ ?_))
   refine dv rfl rfl rfl ?_;exact ⟨_,rfl,by unfold gj;rw [if_neg hr',if_pos nG,if_pos (by have:=vy;simpa using this)];rfl,hb⟩
  have Ya:=vy;simp only [DZ] at vy;refine aU<|aw iW<|ao fun nX=>am rfl<|am rfl<|an nX<|aK<|bE (aQ ?_)
  refine dv rfl rfl rfl ?_;exact ⟨_,rfl,by unfold gj;rw [if_neg hr',if_pos nG,if_neg (by have:=vy;simpa using this)];rfl,hb⟩
 have XQ:=nG;simp only [DZ] at nG;refine ao fun lu=>ah (bA rfl rfl) rfl<|am rfl<|an lu<|aH rfl (fun pB=>?_) (fun pB=>?_)
 ·
  have Yv:=pB;simp only [DZ] at pB;refine ax fun _ gd=>ao fun iX=>ah (aJ (fv _) rfl) rfl<|aW (aI fB rfl (by exact aj.at rfl)) rfl<|ah (cg rfl rfl) rfl<|ai rfl<|cw rfl rfl rfl (fun qW=>?_) (fun qW=>?_)
  ·
   have l8:=qW;simp only [DZ] at qW;refine ah (aJ (fv _) rfl) rfl<|aE rfl rfl l8<|aW (aI fB rfl (by exact aj.at rfl)) rfl<|aE rfl rfl l8<|ah (eW rfl rfl) rfl<|ah (bi rfl l8 rfl) rfl<|an iX<|aH rfl (fun AA=>?_) (fun AA=>?_)
   ·
    have YG:=AA;simp only [DZ] at AA;refine ao fun n7=>ah (aJ (fv _) rfl) rfl<|aW (aI fB rfl (by exact aj.at rfl)) rfl<|aS Gf rfl rfl (GR _ a.n rfl hn0 hn1 _) rfl ?_
    rintro _ ft ⟨rfl,bp⟩;have:=bp.size;have hb:=az hb bp;refine ah (dx rfl rfl (by simp;omega)) rfl<|am rfl<|am rfl<|an n7<|aK<|aQ (bE (aQ ?_))
    refine dv rfl rfl rfl ?_;exact ⟨_,rfl,by unfold gj;rw [if_neg hr',if_neg nG,if_pos pB,itoa_neg (by have:=qW;omega)];rfl,hb⟩
   have YG:=AA;simp only [DZ] at AA;refine aU<|aw gd<|ax fun _ mn=>gG (n:=9) (fun w'=>Below w.heap.size w w'∧aq w' aX 96 a.cells) #[ac,ac,ac,ac,ac,ac,ac,ac,ac] (by kernel_rfl) rfl (by kernel_rfl)<|gF ?_
   rintro iI ci;have jo:=ci.size;have hb:=az hb ci;have aj:=aq.below aj ci;refine aT (i:=0) #[ab,ac,ac,ac,ac,ac,ac,ac,ac] rfl (by kernel_rfl) aO rfl (fun wq hq=>a8 (aJ (fv _) rfl)) ⟨hb,aj⟩<|aT (i:=1) #[ab,ab,ac,ac,ac,ac,ac,ac,ac] rfl (by kernel_rfl) aO rfl (fun wq hq=>aI fB rfl (by obtain ⟨hq,aj⟩:=hq;first|exact aj.at rfl|exact aj.cell 0|assumption)) ⟨hb,aj⟩<|aT (i:=3) #[ab,ab,ac,ab,ac,ac,ac,ac,ac] rfl (by kernel_rfl) aO rfl (fun wq hq=>a8 (aJ (fv _) rfl)) ⟨hb,aj⟩<|aT (i:=4) #[ab,ab,ac,ab,ab,ac,ac,ac,ac] rfl (by kernel_rfl) aO rfl (fun wq hq=>aI fB rfl (by obtain ⟨hq,aj⟩:=hq;first|exact aj.at rfl|exact aj.cell 0|assumption)) ⟨hb,aj⟩<|bM (rs:= [2]) (by kernel_rfl) rfl<|bv #[ab,ab,ab,ab,ab,ac,ac,ac,ac] rfl rfl (fun _ sK=>?_) ?_
   ·
    refine aS TD rfl rfl (SV a.n _) rfl ?_;rintro _ gu ⟨rfl,bG⟩;have xM:=bG.size;have hb:=az hb bG;have aj:=aq.below aj bG;refine ay<|bu sK ⟨hb,aj⟩<|bM (rs:= [5]) (by kernel_rfl) rfl<|bv #[ab,ab,ab,ab,ab,ab,ac,ac,ac] rfl rfl (fun _ qq=>?_) ?_
    ·
     refine aS Gf rfl rfl (GR _ a.n rfl hn0 hn1 _) rfl ?_;rintro _ hZ ⟨rfl,ck⟩;have LF:=ck.size;have hb:=az hb ck;have aj:=aq.below aj ck;refine ay<|bu qq ⟨hb,aj⟩<|aT (i:=6) #[ab,ab,ab,ab,ab,ab,ab,ac,ac] rfl (by kernel_rfl) aO rfl (fun wq hq=>a8 (dx rfl rfl (by split<;>simp<;>omega))) ⟨hb,aj⟩<|aT (i:=7) #[ab,ab,ab,ab,ab,ab,ab,ab,ac] rfl (by kernel_rfl) aO rfl (fun wq hq=>a8 (cX rfl)) ⟨hb,aj⟩<|aT (i:=8) #[ab,ab,ab,ab,ab,ab,ab,ab,ab] rfl (by kernel_rfl) aO rfl (fun wq hq=>a8 (cX rfl)) ⟨hb,aj⟩<|eE (by kernel_rfl)<|aw mn<|aK<|bE (aQ ?_)
     refine dv rfl rfl rfl ?_;exact ⟨_,rfl,by unfold gj;rw [if_neg hr',if_neg nG,if_pos pB,Fy],hb⟩
    exact bN
   exact bN
  have l8:=qW;simp only [DZ] at qW;refine aA rfl rfl l8 rfl rfl<|aA rfl rfl l8 rfl rfl<|ah (bg rfl l8 rfl) rfl<|an iX<|pt rfl rfl<|aU<|aw gd<|ax fun _ oT=>gG (n:=9) (fun w'=>Below w.heap.size w w'∧aq w' aX 96 a.cells) #[ac,ac,ac,ac,ac,ac,ac,ac,ac] (by kernel_rfl) rfl (by kernel_rfl)<|gF ?_
  rintro iI ci;have jo:=ci.size;have hb:=az hb ci;have aj:=aq.below aj ci;refine aT (i:=0) #[ab,ac,ac,ac,ac,ac,ac,ac,ac] rfl (by kernel_rfl) aO rfl (fun wq hq=>a8 (aJ (fv _) rfl)) ⟨hb,aj⟩<|aT (i:=1) #[ab,ab,ac,ac,ac,ac,ac,ac,ac] rfl (by kernel_rfl) aO rfl (fun wq hq=>aI fB rfl (by obtain ⟨hq,aj⟩:=hq;first|exact aj.at rfl|exact aj.cell 0|assumption)) ⟨hb,aj⟩<|aT (i:=3) #[ab,ab,ac,ab,ac,ac,ac,ac,ac] rfl (by kernel_rfl) aO rfl (fun wq hq=>a8 (aJ (fv _) rfl)) ⟨hb,aj⟩<|aT (i:=4) #[ab,ab,ac,ab,ab,ac,ac,ac,ac] rfl (by kernel_rfl) aO rfl (fun wq hq=>aI fB rfl (by obtain ⟨hq,aj⟩:=hq;first|exact aj.at rfl|exact aj.cell 0|assumption)) ⟨hb,aj⟩<|bM (rs:= [2]) (by kernel_rfl) rfl<|bv #[ab,ab,ab,ab,ab,ac,ac,ac,ac] rfl rfl (fun _ sL=>?_) ?_
  ·
   refine aS TD rfl rfl (SV a.n _) rfl ?_;rintro _ gu ⟨rfl,bG⟩;have xM:=bG.size;have hb:=az hb bG;have aj:=aq.below aj bG;refine ay<|bu sL ⟨hb,aj⟩<|bM (rs:= [5]) (by kernel_rfl) rfl<|bv #[ab,ab,ab,ab,ab,ab,ac,ac,ac] rfl rfl (fun _ lv=>?_) ?_
   ·
    refine aS Gf rfl rfl (GR _ a.n rfl hn0 hn1 _) rfl ?_;rintro _ hZ ⟨rfl,ck⟩;have LF:=ck.size;have hb:=az hb ck;have aj:=aq.below aj ck;refine ay<|bu lv ⟨hb,aj⟩<|aT (i:=6) #[ab,ab,ab,ab,ab,ab,ab,ac,ac] rfl (by kernel_rfl) aO rfl (fun wq hq=>a8 (dx rfl rfl (by split<;>simp<;>omega))) ⟨hb,aj⟩<|aT (i:=7) #[ab,ab,ab,ab,ab,ab,ab,ab,ac] rfl (by kernel_rfl) aO rfl (fun wq hq=>a8 (cX rfl)) ⟨hb,aj⟩<|aT (i:=8) #[ab,ab,ab,ab,ab,ab,ab,ab,ab] rfl (by kernel_rfl) aO rfl (fun wq hq=>a8 (cX rfl)) ⟨hb,aj⟩<|eE (by kernel_rfl)<|aw oT<|aK<|bE (aQ ?_)
    refine dv rfl rfl rfl ?_;exact ⟨_,rfl,by unfold gj;rw [if_neg hr',if_neg nG,if_pos pB,Fy],hb⟩
   exact bN
  exact bN
 have Yv:=pB;simp only [DZ] at pB;refine ao fun Cx=>ah (bA rfl rfl) rfl<|am rfl<|an Cx<|aH rfl (fun tQ=>?_) (fun tQ=>?_)
 ·
  have YL:=tQ;simp only [DZ] at tQ;refine ao fun Cy=>ah (aJ (kb _) rfl) rfl<|aW (aI kr rfl (by exact aj.at rfl)) rfl<|aS agv rfl rfl (VH _ oa.f1 _) rfl ?_
  rintro _ nq ⟨rfl,dE⟩;have:=dE.size;have hb:=az hb dE;refine am rfl<|am rfl<|an Cy<|aK<|bE (aQ ?_)
  refine dv rfl rfl rfl ?_;exact ⟨_,rfl,by unfold gj;rw [if_neg hr',if_neg nG,if_neg pB,if_pos tQ],hb⟩
 have YL:=tQ;simp only [DZ] at tQ;have hk4:a.k=4:=by have h1:=fK;have h2:=nG;have h3:=pB;have h5:=tQ;omega
 refine aU<|bS<|aw iA<|ao fun kS=>am rfl<|an kS<|ax fun _ aal=>ao fun Ca=>am rfl<|an Ca<|br<|cU (X:=Nat) (fun i=> [(1,.pointer (some ⟨aX,0,none⟩)),(5,str (39 :: (a.s.take i).flatMap qc)),(6,.int .i64 (i:Int))]) (fun i wr=>i≤a.s.length∧Below w.heap.size w wr∧aq wr aX 96 a.cells) (fun i=>a.s.length - i) (0) ?_ ?_ ?_
 · exact by repeat first|exact aB|refine au rfl (by first|rfl|exact int_eq (by omega)|exact dw (by rw [Dx hil,←hc,hqc];rfl)) ?_
 · exact ⟨by omega,hb,aj⟩
 rintro i wr Ji _ E8;replace Ji:i≤a.s.length∧Below w.heap.size w wr∧aq wr aX 96 a.cells:=Ji;obtain ⟨hi,hb,aj⟩:=Ji;show Wc _ _ _ _ _ [(1,.pointer (some ⟨aX,0,none⟩)),(5,str (39 :: (a.s.take i).flatMap qc)),(6,.int .i64 (i:Int))] _;have:=hb.size;have:=aj.lt;refine ax fun _ Cc=>ao fun Cd=>ai rfl<|ah (aJ (iP _) rfl) rfl<|aW (aI bQ rfl (by exact aj.at (j:=3) rfl)) rfl<|ah (dF bq (by omega) rfl) rfl<|ah (cg rfl rfl) rfl<|an Cd<|aH rfl (fun vX=>?_) (fun vX=>?_)
 ·
  have YO:=vX;simp only [DZ] at vX;have hil:i<a.s.length:=by have:=vX;omega
  obtain ⟨c,hc⟩:∃c,c=a.s.getD i 0:=⟨_,rfl⟩;have hql:=Mo (a.s.take i);have hqt:(a.s.take i).length≤70368744177664:=Nat.le_trans (List.length_take_le' _ _) hl;refine aU<|aw Cc<|ax fun _ m6=>br<|ao fun sF=>ah (aJ (iP _) rfl) rfl<|aW (aI bQ rfl (by exact aj.at (j:=3) rfl)) rfl<|ai rfl<|ah (bt (eK bq rfl rfl (by omega) (by omega)) (int_eq (show _=(c.toNat:Int) by rw [hc,Int.toNat_natCast]))) rfl<|an sF<|br<|ao fun qk=>ah (bA rfl rfl) rfl<|am rfl<|an qk<|aH rfl (fun v6=>?_) (fun v6=>?_)
  ·
   have YV:=v6;simp only [DZ] at v6;have hq1:c=92:=mH (n:=92) v6 (by decide);have hqc:qc c= [92,92]:=by unfold qc;rw [if_pos hq1]
   refine aR<|ai rfl<|ah (dx rfl rfl (by simp only [List.length_cons,List.length_append,List.length_nil];omega)) rfl<|am rfl<|ay<|bS<|bS<|aw m6<|aR<|ai rfl<|ah (bH rfl rfl (by omega) (by omega)) rfl<|am rfl<|ay<|fun a_ bn=>E8 _ _ (i+1) (by omega) (by repeat first|exact aB|refine au rfl (by first|rfl|exact int_eq (by omega)|exact dw (by rw [Dx hil,←hc,hqc];rfl)) ?_) ?_ a_ bn
   exact ⟨by omega,hb,aj⟩
  have YV:=v6;simp only [DZ] at v6;have hq1:¬c=92:=pi (n:=92) v6 (by decide);refine ao fun q8=>ah (bA rfl rfl) rfl<|am rfl<|an q8<|aH rfl (fun v8=>?_) (fun v8=>?_)
  ·
   have YY:=v8;simp only [DZ] at v8;have hq2:c=39:=mH (n:=39) v8 (by decide);have hqc:qc c= [92,39]:=by unfold qc;rw [if_neg hq1,if_pos hq2]
   refine aR<|ai rfl<|ah (dx rfl rfl (by simp only [List.length_cons,List.length_append,List.length_nil];omega)) rfl<|am rfl<|ay<|bS<|bS<|aw m6<|aR<|ai rfl<|ah (bH rfl rfl (by omega) (by omega)) rfl<|am rfl<|ay<|fun a_ bn=>E8 _ _ (i+1) (by omega) (by repeat first|exact aB|refine au rfl (by first|rfl|exact int_eq (by omega)|exact dw (by rw [Dx hil,←hc,hqc];rfl)) ?_) ?_ a_ bn
   exact ⟨by omega,hb,aj⟩
  have YY:=v8;simp only [DZ] at v8;have hq2:¬c=39:=pi (n:=39) v8 (by decide);refine ao fun sI=>ah (bA rfl rfl) rfl<|am rfl<|an sI<|aH rfl (fun uY=>?_) (fun uY=>?_)
  ·
   have Xu:=uY;simp only [DZ] at uY;have hq3:c=10:=mH (n:=10) uY (by decide);have hqc:qc c= [92,110]:=by unfold qc;rw [if_neg hq1,if_neg hq2,if_pos hq3]
   refine aR<|ai rfl<|ah (dx rfl rfl (by simp only [List.length_cons,List.length_append,List.length_nil];omega)) rfl<|am rfl<|ay<|bS<|bS<|aw m6<|aR<|ai rfl<|ah (bH rfl rfl (by omega) (by omega)) rfl<|am rfl<|ay<|fun a_ bn=>E8 _ _ (i+1) (by omega) (by repeat first|exact aB|refine au rfl (by first|rfl|exact int_eq (by omega)|exact dw (by rw [Dx hil,←hc,hqc];rfl)) ?_) ?_ a_ bn
   exact ⟨by omega,hb,aj⟩
  have Xu:=uY;simp only [DZ] at uY;have hq3:¬c=10:=pi (n:=10) uY (by decide);have hqc:qc c= [c]:=by unfold qc;rw [if_neg hq1,if_neg hq2,if_neg hq3]
  refine aR<|ai rfl<|ah (aJ (iP _) rfl) rfl<|aW (aI bQ rfl (by exact aj.at (j:=3) rfl)) rfl<|ai rfl<|ai rfl<|ah (bH rfl rfl (by omega) (by omega)) rfl<|ah (bt (D4 bq rfl rfl rfl (by omega) (by omega) (by omega)) (dw (show (a.s.take ((i:Int)+1).toNat).drop (i:Int).toNat= [c] by rw [show ((i:Int)+1).toNat=i+1 by omega,Int.toNat_natCast,FO hil,hc]))) rfl<|ah (dx rfl rfl (by simp only [List.length_cons,List.length_append,List.length_nil];omega)) rfl<|am rfl<|ay<|bS<|bS<|aw m6<|aR<|ai rfl<|ah (bH rfl rfl (by omega) (by omega)) rfl<|am rfl<|ay<|fun a_ bn=>E8 _ _ (i+1) (by omega) (by repeat first|exact aB|refine au rfl (by first|rfl|exact int_eq (by omega)|exact dw (by rw [Dx hil,←hc,hqc];rfl)) ?_) ?_ a_ bn
  exact ⟨by omega,hb,aj⟩
 have YO:=vX;simp only [DZ] at vX;refine cN<|bD<|bD<|cO<|aw aal<|ao fun xp=>?_
 have hql:=Mo (a.s.take i);have hqt:(a.s.take i).length≤70368744177664:=Nat.le_trans (List.length_take_le' _ _) hl;refine ai rfl<|ah (dx rfl rfl (by simp only [List.length_cons,List.length_append,List.length_nil];omega)) rfl<|am rfl<|am rfl<|an xp<|aK<|dv rfl rfl rfl ?_
 exact ⟨_,rfl,by unfold gj gi;rw [if_neg hr',if_neg nG,if_neg pB,if_neg tQ,if_pos hk4,List.take_of_length_le (by have:=vX;omega)];rfl,hb⟩
end Go.Proofs.YtjmlknjbhbfneaaGreatDoor
