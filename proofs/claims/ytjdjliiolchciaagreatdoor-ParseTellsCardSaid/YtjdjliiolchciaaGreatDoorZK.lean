import Derived.Test.YtjdjliiolchciaaGreatDoorZJ
namespace Go.Proofs.YtjdjliiolchciaaGreatDoor
open Go.RowKit Go.Bw Go.Bw.Fl
set_option linter.unusedVariables false
set_option linter.unusedSimpArgs false
theorem EK (p:Addr) (w:World):(Instr.fieldAt 25 (.pointer (some p)) 0).run Tryz.prog w= .ok (.pointer (some (p.add 0))) w:=eT (i:=0) (sz:=0) ek rfl (by kernel_rfl) p w
theorem lA (p:Addr) (w:World):(Instr.fieldAt 25 (.pointer (some p)) 1).run Tryz.prog w= .ok (.pointer (some (p.add 1))) w:=eT (i:=1) (sz:=0) ek rfl (by kernel_rfl) p w
theorem yZ (p:Addr) (w:World):(Instr.fieldAt 25 (.pointer (some p)) 2).run Tryz.prog w= .ok (.pointer (some (p.add 2))) w:=eT (i:=2) (sz:=0) ek rfl (by kernel_rfl) p w
theorem r5 (p:Addr) (w:World):(Instr.fieldAt 25 (.pointer (some p)) 3).run Tryz.prog w= .ok (.pointer (some (p.add 3))) w:=eT (i:=3) (sz:=0) ek rfl (by kernel_rfl) p w
theorem lR:One Tryz.prog 2:=⟨_,Dz,rfl,by kernel_rfl⟩
theorem zB:One Tryz.prog 23:=⟨_,Tryz.underlying23,rfl,by kernel_rfl⟩
theorem FB:One Tryz.prog 3:=⟨_,mg,rfl,by kernel_rfl⟩
theorem Ng:bB Tryz.prog 79:=⟨_,Tryz.func79,by kernel_rfl,rfl⟩
theorem Vt (a:c7) (oa:a.Ok) (w:World):bx Tryz.prog 137 [a.enc] w fun v w'=>v= .bool (iB a)∧Below w.heap.size w w':=by
 have hb:=Below.refl w.heap.size w;refine enter Tryz.func137 rfl rfl rfl<|am fun aR=>gp rfl rfl ?_
 rintro au dJ dH ab aM;have:=aM.size;have hb:=aZ hb aM;have:=ab.lt;refine an rfl<|al aR<|am fun b8=>ae (aP (yZ _) rfl) rfl<|aG (aS zB rfl (by exact ab.at rfl)) rfl<|ae (sE rY rfl rfl) rfl<|ae (bX rfl rfl) rfl<|an rfl<|al b8<|av fun _ fZ=>am fun dT=>ae (aP (EK _) rfl) rfl<|aG (aS FB rfl (by exact ab.at rfl)) rfl<|al dT<|b4<|am fun fd=>ae (bX rfl rfl) rfl<|an rfl<|al fd<|aO rfl (fun dD=>?_) (fun dD=>?_)
 ·
  simp only [DZ] at dD;refine am fun dG=>ae (aP (lA _) rfl) rfl<|aG (aS lR rfl (by exact ab.at rfl)) rfl<|ae (bX rfl rfl) rfl<|ai rfl<|cG rfl rfl rfl (fun iH=>?_) (fun iH=>?_)
  ·
   have Jc:=iH;refine ai rfl<|ae (bo rfl Jc rfl) rfl<|ai rfl<|cG rfl rfl rfl (fun qT=>?_) (fun qT=>?_)
   ·
    have wW:=qT;refine ae (aP (r5 _) rfl) rfl<|ap rfl rfl wW<|aG (aS di rfl (by exact ab.at rfl)) rfl<|ap rfl rfl wW<|ae (fl rfl rfl) rfl<|ae (bo rfl wW rfl) rfl<|an rfl<|al dG<|aJ<|co (aX ?_)
    refine bN rfl rfl ?_;exact ⟨_,rfl,a8 (by rw [MF dD];simp_all [pY]<;>(cases a.s<;>rfl)),hb⟩
   have wW:=qT;refine az rfl rfl wW rfl rfl<|az rfl rfl wW rfl rfl<|ae (bj rfl wW rfl) rfl<|an rfl<|al dG<|aJ<|co (aX ?_)
   refine bN rfl rfl ?_;exact ⟨_,rfl,a8 (by rw [MF dD];simp_all [pY]<;>(cases a.s<;>rfl)),hb⟩
  have Jc:=iH;refine ae (bj rfl Jc rfl) rfl<|ai rfl<|az rfl rfl rfl rfl rfl<|az rfl rfl rfl rfl rfl<|az rfl rfl rfl rfl rfl<|ae (bj rfl rfl rfl) rfl<|an rfl<|al dG<|aJ<|co (aX ?_)
  refine bN rfl rfl ?_;exact ⟨_,rfl,a8 (by rw [MF dD];simp_all [pY]<;>(cases a.s<;>rfl)),hb⟩
 simp only [DZ] at dD;refine am fun k9=>ae (bX rfl rfl) rfl<|an rfl<|al k9<|aO rfl (fun sV=>?_) (fun sV=>?_)
 ·
  simp only [DZ] at sV;refine am fun iK=>ae (aP (lA _) rfl) rfl<|aG (aS lR rfl (by exact ab.at rfl)) rfl<|ae (bX rfl rfl) rfl<|ai rfl<|dy rfl rfl rfl (fun kd=>?_) (fun kd=>?_)
  ·
   have pb:=kd;refine az rfl rfl pb rfl rfl<|az rfl rfl pb rfl rfl<|ae (bo rfl pb rfl) rfl<|ai rfl<|ap rfl rfl rfl<|ai rfl<|ae (bo rfl rfl rfl) rfl<|ai rfl<|cG rfl rfl rfl (fun jr=>?_) (fun jr=>?_)
   ·
    have qY:=jr;refine ae (aP (r5 _) rfl) rfl<|ap rfl rfl qY<|aG (aS di rfl (by exact ab.at rfl)) rfl<|ap rfl rfl qY<|ae (fl rfl rfl) rfl<|ae (bo rfl qY rfl) rfl<|an rfl<|al iK<|aJ<|co (aX ?_)
    refine bN rfl rfl ?_;exact ⟨_,rfl,a8 (by rw [Dj sV];simp_all [pY]<;>(cases a.s<;>rfl)),hb⟩
   have qY:=jr;refine az rfl rfl qY rfl rfl<|az rfl rfl qY rfl rfl<|ae (bj rfl qY rfl) rfl<|an rfl<|al iK<|aJ<|co (aX ?_)
   refine bN rfl rfl ?_;exact ⟨_,rfl,a8 (by rw [Dj sV];simp_all [pY]<;>(cases a.s<;>rfl)),hb⟩
  have pb:=kd;refine ae (aP (lA _) rfl) rfl<|ap rfl rfl pb<|aG (aS lR rfl (by exact ab.at rfl)) rfl<|ap rfl rfl pb<|ae (bX rfl rfl) rfl<|ae (bj rfl pb rfl) rfl<|ai rfl<|cG rfl rfl rfl (fun Jf=>?_) (fun Jf=>?_)
  ·
   have Jg:=Jf;refine ai rfl<|ae (bo rfl Jg rfl) rfl<|ai rfl<|cG rfl rfl rfl (fun Ji=>?_) (fun Ji=>?_)
   ·
    have wZ:=Ji;refine ae (aP (r5 _) rfl) rfl<|ap rfl rfl wZ<|aG (aS di rfl (by exact ab.at rfl)) rfl<|ap rfl rfl wZ<|ae (fl rfl rfl) rfl<|ae (bo rfl wZ rfl) rfl<|an rfl<|al iK<|aJ<|co (aX ?_)
    refine bN rfl rfl ?_;exact ⟨_,rfl,a8 (by rw [Dj sV];simp_all [pY]<;>(cases a.s<;>rfl)),hb⟩
   have wZ:=Ji;refine az rfl rfl wZ rfl rfl<|az rfl rfl wZ rfl rfl<|ae (bj rfl wZ rfl) rfl<|an rfl<|al iK<|aJ<|co (aX ?_)
   refine bN rfl rfl ?_;exact ⟨_,rfl,a8 (by rw [Dj sV];simp_all [pY]<;>(cases a.s<;>rfl)),hb⟩
  have Jg:=Jf;refine ae (bj rfl Jg rfl) rfl<|ai rfl<|az rfl rfl rfl rfl rfl<|az rfl rfl rfl rfl rfl<|az rfl rfl rfl rfl rfl<|ae (bj rfl rfl rfl) rfl<|an rfl<|al iK<|aJ<|co (aX ?_)
  refine bN rfl rfl ?_;exact ⟨_,rfl,a8 (by rw [Dj sV];simp_all [pY]<;>(cases a.s<;>rfl)),hb⟩
 simp only [DZ] at sV;refine am fun tx=>ae (bX rfl rfl) rfl<|an rfl<|al tx<|aO rfl (fun yS=>?_) (fun yS=>?_)
 ·
  simp only [DZ] at yS;refine am fun oD=>ai rfl<|ai rfl<|cG rfl rfl rfl (fun kD=>?_) (fun kD=>?_)
  ·
   have w8:=kD;refine ae (aP (r5 _) rfl) rfl<|ap rfl rfl w8<|aG (aS di rfl (by exact ab.at rfl)) rfl<|ap rfl rfl w8<|ae (fl rfl rfl) rfl<|ae (bo rfl w8 rfl) rfl<|an rfl<|al oD<|aJ<|co (aX ?_)
   refine bN rfl rfl ?_;exact ⟨_,rfl,a8 (by rw [Sj yS];simp_all [pY]<;>(cases a.s<;>rfl)),hb⟩
  have w8:=kD;refine az rfl rfl w8 rfl rfl<|az rfl rfl w8 rfl rfl<|ae (bj rfl w8 rfl) rfl<|an rfl<|al oD<|aJ<|co (aX ?_)
  refine bN rfl rfl ?_;exact ⟨_,rfl,a8 (by rw [Sj yS];simp_all [pY]<;>(cases a.s<;>rfl)),hb⟩
 simp only [DZ] at yS;refine am fun py=>ae (bX rfl rfl) rfl<|an rfl<|al py<|aO rfl (fun vV=>?_) (fun vV=>?_)
 ·
  simp only [DZ] at vV;refine av fun _ pm=>Ap (by kernel_rfl) (by kernel_rfl)<|dh (aP (lA _) rfl) rfl<|oq (fun wq hq=>aS lR rfl (by have ab:=ak.below ab hq;first|exact ab.at rfl|exact ab.cell 0|assumption)) rfl<|dh (bX rfl rfl) rfl<|dh (dN rfl) rfl<|yK rfl rfl rfl (fun s5=>?_) (fun s5=>?_)
  ·
   have lB:=s5;refine dh (aP (r5 _) rfl) rfl<|ix rfl rfl lB<|oq (fun wq hq=>aS di rfl (by have ab:=ak.below ab hq;first|exact ab.at rfl|exact ab.cell 0|assumption)) rfl<|ix rfl rfl lB<|dh (fl rfl rfl) rfl<|dh (bo rfl lB rfl) rfl<|dh (dN rfl) rfl<|yK rfl rfl rfl (fun I6=>?_) (fun I6=>?_)
   ·
    have nF:=I6;refine dh (aP (yZ _) rfl) rfl<|ix rfl rfl nF<|oq (fun wq hq=>aS zB rfl (by have ab:=ak.below ab hq;first|exact ab.at rfl|exact ab.cell 0|assumption)) rfl<|ix rfl rfl nF<|Ef Ng rfl rfl (fun wq hq=>by have ab:=ak.below ab hq;exact bx.quiet (F9 _ oa.f1 _)) rfl<|ix rfl rfl nF<|dh (aP (yZ _) rfl) rfl<|ix rfl rfl nF<|oq (fun wq hq=>aS zB rfl (by have ab:=ak.below ab hq;first|exact ab.at rfl|exact ab.cell 0|assumption)) rfl<|ix rfl rfl nF<|dh (sE rY rfl rfl) rfl<|ix rfl rfl nF<|dh (bX rfl rfl) rfl<|dh (bo rfl nF rfl) rfl<|dh (it rfl) rfl<|qD fun Ac fo=>?_
    have QC:=fo.size;have hb:=aZ hb fo;refine ax pm<|aJ<|co (aX ?_)
    refine bN rfl rfl ?_;exact ⟨_,rfl,a8 (by rw [FG vV];simp_all [ug]<;>(cases a.s<;>rfl)),hb⟩
   have nF:=I6;refine ef rfl rfl nF rfl rfl<|ef rfl rfl nF rfl rfl<|ef rfl rfl nF rfl rfl<|ef rfl rfl nF rfl rfl<|ef rfl rfl nF rfl rfl<|ef rfl rfl nF rfl rfl<|dh (bj rfl nF rfl) rfl<|dh (it rfl) rfl<|qD fun Ac fo=>?_
   have QC:=fo.size;have hb:=aZ hb fo;refine ax pm<|aJ<|co (aX ?_)
   refine bN rfl rfl ?_;exact ⟨_,rfl,a8 (by rw [FG vV];simp_all [ug]<;>(cases a.s<;>rfl)),hb⟩
  have lB:=s5;refine ef rfl rfl lB rfl rfl<|ef rfl rfl lB rfl rfl<|dh (bj rfl lB rfl) rfl<|dh (dN rfl) rfl<|ef rfl rfl rfl rfl rfl<|ef rfl rfl rfl rfl rfl<|ef rfl rfl rfl rfl rfl<|ef rfl rfl rfl rfl rfl<|ef rfl rfl rfl rfl rfl<|ef rfl rfl rfl rfl rfl<|ef rfl rfl rfl rfl rfl<|dh (bj rfl rfl rfl) rfl<|dh (it rfl) rfl<|qD fun Ac fo=>?_
  have QC:=fo.size;have hb:=aZ hb fo;refine ax pm<|aJ<|co (aX ?_)
  refine bN rfl rfl ?_;exact ⟨_,rfl,a8 (by rw [FG vV];simp_all [ug]<;>(cases a.s<;>rfl)),hb⟩
 simp only [DZ] at vV;refine am fun Kv=>ae (bX rfl rfl) rfl<|an rfl<|al Kv<|aO rfl (fun yT=>?_) (fun yT=>?_)
 ·
  simp only [DZ] at yT;refine am fun sf=>ae (aP (lA _) rfl) rfl<|aG (aS lR rfl (by exact ab.at rfl)) rfl<|ae (bX rfl rfl) rfl<|ai rfl<|cG rfl rfl rfl (fun I7=>?_) (fun I7=>?_)
  ·
   have I8:=I7;refine ai rfl<|ae (bo rfl I8 rfl) rfl<|an rfl<|al sf<|aJ<|co (aX ?_)
   refine bN rfl rfl ?_;exact ⟨_,rfl,a8 (by rw [Sk yT];simp_all [pY]<;>(cases a.s<;>rfl)),hb⟩
  have I8:=I7;refine ae (bj rfl I8 rfl) rfl<|an rfl<|al sf<|aJ<|co (aX ?_)
  refine bN rfl rfl ?_;exact ⟨_,rfl,a8 (by rw [Sk yT];simp_all [pY]<;>(cases a.s<;>rfl)),hb⟩
 simp only [DZ] at yT;refine aU<|cD<|ax fZ<|am fun Cc=>an rfl<|al Cc<|aJ<|bN rfl rfl ?_
 exact ⟨_,rfl,a8 (by unfold iB;rw [if_neg dD,if_neg sV,if_neg yS,if_neg vV,if_neg yT]),hb⟩
theorem C6 (w:World):bx Tryz.prog 74 [] w fun v w'=>v=ch.enc∧Below w.heap.size w w':=by
 have hb:=Below.refl w.heap.size w;refine enter Tryz.func74 rfl rfl rfl<|am fun aR=>bT (z:=mO) (by kernel_rfl) rfl ?_
 rintro au dJ dH ab aM;have:=aM.size;have hb:=aZ hb aM;have:=ab.lt;refine al aR<|am fun bt=>ae (cC (z:=n6) (pl:=n9) (cs:= [_,_,_,_]) ek (by kernel_rfl) (by kernel_rfl) rfl rfl rfl) rfl<|ba (by kernel_rfl) rfl rfl ab rfl rfl ?_
 rintro du ab aF;have:=aF.size;have hb:=cf hb aF hb.size (by omega);refine al bt<|aJ<|bQ (rs:= [.cell 0 25]) (vs:= [_]) rfl (.cell rfl (bP ek (by kernel_rfl) (fun j u hu=>ab.at hu)) .nil) ?_
 exact ⟨_,rfl,rfl,hb⟩
theorem VR (t:Bool) (w:World):bx Tryz.prog 100 [.bool t] w fun v w'=>v=(rN t).enc∧Below w.heap.size w w':=by
 have hb:=Below.refl w.heap.size w;refine enter Tryz.func100 rfl rfl rfl<|am fun aR=>bT (z:=mO) (by kernel_rfl) rfl ?_
 rintro au dJ dH ab aM;have:=aM.size;have hb:=aZ hb aM;have:=ab.lt;refine al aR<|av fun _ bt=>am fun b8=>ai rfl<|al b8<|aO rfl (fun vA=>?_) (fun vA=>?_)
 ·
  have vB:=vA;refine am fun dV=>ae (cC (z:=n6) (pl:=n9) (cs:= [_,_,_,_]) ek (by kernel_rfl) (by kernel_rfl) rfl rfl rfl) rfl<|ba (by kernel_rfl) rfl rfl ab rfl rfl ?_
  rintro du ab aF;have:=aF.size;have hb:=cf hb aF hb.size (by omega);refine al dV<|aJ<|aX<|bQ (rs:= [.cell 2 25]) (vs:= [_]) rfl (.cell rfl (bP ek (by kernel_rfl) (fun j u hu=>ab.at hu)) .nil) ?_
  exact ⟨_,rfl,by rw [vB];rfl,hb⟩
 have vB:=vA;refine aU<|ax bt<|am fun dW=>ae (cC (z:=n6) (pl:=n9) (cs:= [_,_,_,_]) ek (by kernel_rfl) (by kernel_rfl) rfl rfl rfl) rfl<|ba (by kernel_rfl) rfl rfl ab rfl rfl ?_
 rintro ff ab bc;have:=bc.size;have hb:=cf hb bc hb.size (by omega);refine al dW<|aJ<|bQ (rs:= [.cell 2 25]) (vs:= [_]) rfl (.cell rfl (bP ek (by kernel_rfl) (fun j u hu=>ab.at hu)) .nil) ?_
 exact ⟨_,rfl,by rw [vB];rfl,hb⟩
theorem acg {a b:Nat} (ha:a<18446744073709551616) (hb:b<18446744073709551616):oH a=oH b↔jk a=jk b:=
 ⟨X9 ha hb,fun h=>by rw [←QJ a,←QJ b,h]⟩
theorem Vu (a b:c7) (oa:a.Ok) (ob:b.Ok) (w:World):bx Tryz.prog 61 [a.enc,b.enc] w fun v w'=>v= .bool (yl a b)∧Below w.heap.size w w':=by
 have hk:=acg oa.f1 ob.f1;have hb:=Below.refl w.heap.size w;refine enter Tryz.func61 rfl rfl rfl<|am fun aR=>gp rfl rfl ?_
 rintro au dJ dH ab aM;have:=aM.size;have hb:=aZ hb aM;have:=ab.lt;refine gp rfl rfl ?_;rintro cV mU mK aq cT;have:=cT.size;have hb:=aZ hb cT;have ab:=ak.below ab cT;have:=aq.lt;refine an rfl<|al aR<|av fun _ dC=>Ap (by kernel_rfl) (by kernel_rfl)<|dh (aP (EK _) rfl) rfl<|oq (fun wq hq=>aS FB rfl (by have ab:=ak.below ab hq;have aq:=ak.below aq hq;first|exact ab.at rfl|exact aq.at rfl|exact ab.cell 0|exact aq.cell 0|assumption)) rfl<|dh (aP (EK _) rfl) rfl<|oq (fun wq hq=>aS FB rfl (by have ab:=ak.below ab hq;have aq:=ak.below aq hq;first|exact ab.at rfl|exact aq.at rfl|exact ab.cell 0|exact aq.cell 0|assumption)) rfl<|dh (bX rfl rfl) rfl<|dh (dN rfl) rfl<|yK rfl rfl rfl (fun kB=>?_) (fun kB=>?_)
 ·
  have gN:=kB;refine dh (aP (lA _) rfl) rfl<|ix rfl rfl gN<|oq (fun wq hq=>aS lR rfl (by have ab:=ak.below ab hq;have aq:=ak.below aq hq;first|exact ab.at rfl|exact aq.at rfl|exact ab.cell 0|exact aq.cell 0|assumption)) rfl<|ix rfl rfl gN<|dh (aP (lA _) rfl) rfl<|ix rfl rfl gN<|oq (fun wq hq=>aS lR rfl (by have ab:=ak.below ab hq;have aq:=ak.below aq hq;first|exact ab.at rfl|exact aq.at rfl|exact ab.cell 0|exact aq.cell 0|assumption)) rfl<|ix rfl rfl gN<|dh (bX rfl rfl) rfl<|dh (bo rfl gN rfl) rfl<|dh (dN rfl) rfl<|yK rfl rfl rfl (fun lE=>?_) (fun lE=>?_)
  ·
   have lF:=lE;refine dh (aP (r5 _) rfl) rfl<|ix rfl rfl lF<|oq (fun wq hq=>aS di rfl (by have ab:=ak.below ab hq;have aq:=ak.below aq hq;first|exact ab.at rfl|exact aq.at rfl|exact ab.cell 0|exact aq.cell 0|assumption)) rfl<|ix rfl rfl lF<|dh (aP (r5 _) rfl) rfl<|ix rfl rfl lF<|oq (fun wq hq=>aS di rfl (by have ab:=ak.below ab hq;have aq:=ak.below aq hq;first|exact ab.at rfl|exact aq.at rfl|exact ab.cell 0|exact aq.cell 0|assumption)) rfl<|ix rfl rfl lF<|dh (fl rfl rfl) rfl<|dh (bo rfl lF rfl) rfl<|dh (dN rfl) rfl<|yK rfl rfl rfl (fun uE=>?_) (fun uE=>?_)
   ·
    have nI:=uE;refine dh (aP (yZ _) rfl) rfl<|ix rfl rfl nI<|oq (fun wq hq=>aS zB rfl (by have ab:=ak.below ab hq;have aq:=ak.below aq hq;first|exact ab.at rfl|exact aq.at rfl|exact ab.cell 0|exact aq.cell 0|assumption)) rfl<|ix rfl rfl nI<|Ef Ng rfl rfl (fun wq hq=>by have ab:=ak.below ab hq;have aq:=ak.below aq hq;exact bx.quiet (F9 _ oa.f1 _)) rfl<|ix rfl rfl nI<|dh (aP (yZ _) rfl) rfl<|ix rfl rfl nI<|oq (fun wq hq=>aS zB rfl (by have ab:=ak.below ab hq;have aq:=ak.below aq hq;first|exact ab.at rfl|exact aq.at rfl|exact ab.cell 0|exact aq.cell 0|assumption)) rfl<|ix rfl rfl nI<|Ef Ng rfl rfl (fun wq hq=>by have ab:=ak.below ab hq;have aq:=ak.below aq hq;exact bx.quiet (F9 _ ob.f1 _)) rfl<|ix rfl rfl nI<|dh (bX rfl rfl) rfl<|dh (bo rfl nI rfl) rfl<|dh (it rfl) rfl<|qD fun Ab ga=>?_
    have LG:=ga.size;have hb:=aZ hb ga;refine ax dC<|aJ<|bN rfl rfl ?_
    exact ⟨_,rfl,a8 (by unfold yl;rw [Bool.eq_iff_iff];simp only [decide_eq_true_eq,hk,ug];clear hk;simp_all),hb⟩
   have nI:=uE;refine ef rfl rfl nI rfl rfl<|ef rfl rfl nI rfl rfl<|ef rfl rfl nI rfl rfl<|ef rfl rfl nI rfl rfl<|ef rfl rfl nI rfl rfl<|ef rfl rfl nI rfl rfl<|dh (bj rfl nI rfl) rfl<|dh (it rfl) rfl<|qD fun Ab ga=>?_
   have LG:=ga.size;have hb:=aZ hb ga;refine ax dC<|aJ<|bN rfl rfl ?_
   exact ⟨_,rfl,a8 (by unfold yl;rw [Bool.eq_iff_iff];simp only [decide_eq_true_eq,hk,ug];clear hk;simp_all),hb⟩
  have lF:=lE;refine ef rfl rfl lF rfl rfl<|ef rfl rfl lF rfl rfl<|ef rfl rfl lF rfl rfl<|ef rfl rfl lF rfl rfl<|dh (bj rfl lF rfl) rfl<|dh (dN rfl) rfl<|ef rfl rfl rfl rfl rfl<|ef rfl rfl rfl rfl rfl<|ef rfl rfl rfl rfl rfl<|ef rfl rfl rfl rfl rfl<|ef rfl rfl rfl rfl rfl<|ef rfl rfl rfl rfl rfl<|ef rfl rfl rfl rfl rfl<|dh (bj rfl rfl rfl) rfl<|dh (it rfl) rfl<|qD fun Ab ga=>?_
  have LG:=ga.size;have hb:=aZ hb ga;refine ax dC<|aJ<|bN rfl rfl ?_
  exact ⟨_,rfl,a8 (by unfold yl;rw [Bool.eq_iff_iff];simp only [decide_eq_true_eq,hk,ug];clear hk;simp_all),hb⟩
 have gN:=kB;refine ef rfl rfl gN rfl rfl<|ef rfl rfl gN rfl rfl<|ef rfl rfl gN rfl rfl<|ef rfl rfl gN rfl rfl<|dh (bj rfl gN rfl) rfl<|dh (dN rfl) rfl<|ef rfl rfl rfl rfl rfl<|ef rfl rfl rfl rfl rfl<|ef rfl rfl rfl rfl rfl<|ef rfl rfl rfl rfl rfl<|ef rfl rfl rfl rfl rfl<|dh (bj rfl rfl rfl) rfl<|dh (dN rfl) rfl<|ef rfl rfl rfl rfl rfl<|ef rfl rfl rfl rfl rfl<|ef rfl rfl rfl rfl rfl<|ef rfl rfl rfl rfl rfl<|ef rfl rfl rfl rfl rfl<|ef rfl rfl rfl rfl rfl<|ef rfl rfl rfl rfl rfl<|dh (bj rfl rfl rfl) rfl<|dh (it rfl) rfl<|qD fun Ab ga=>?_
 have LG:=ga.size;have hb:=aZ hb ga;refine ax dC<|aJ<|bN rfl rfl ?_
 exact ⟨_,rfl,a8 (by unfold yl;rw [Bool.eq_iff_iff];simp only [decide_eq_true_eq,hk,ug];clear hk;simp_all),hb⟩
theorem FQ:bB Tryz.prog 138:=⟨_,Tryz.func138,by kernel_rfl,rfl⟩
theorem ac8 (n:Int):(n.tdiv 10).natAbs=n.natAbs / 10∧(0≤n→n.tmod 10=((n.natAbs % 10:Nat):Int))∧(n<0→n.tmod 10= -((n.natAbs % 10:Nat):Int)):=by
 rcases Int.lt_or_le n 0 with h|h
 · obtain ⟨u,hu⟩:∃u:Nat,n= -(u:Int):=⟨n.natAbs,by omega⟩
   subst hu;have e1:((-(u:Int)).tdiv 10)= -((u / 10:Nat):Int):=by rw [Int.neg_tdiv,Int.tdiv_eq_ediv_of_nonneg (by omega)];omega
   have e2:((-(u:Int)).tmod 10)= -((u % 10:Nat):Int):=by rw [Int.neg_tmod,Int.tmod_eq_emod_of_nonneg (by omega)];omega
   rw [e1,e2];omega
 · obtain ⟨u,hu⟩:∃u:Nat,n=(u:Int):=⟨n.natAbs,by omega⟩
   subst hu;have e1:((u:Int).tdiv 10)=((u / 10:Nat):Int):=by rw [Int.tdiv_eq_ediv_of_nonneg (by omega)];omega
   have e2:((u:Int).tmod 10)=((u % 10:Nat):Int):=by rw [Int.tmod_eq_emod_of_nonneg (by omega)];omega
   rw [e1,e2];omega
theorem Gf (u:Nat):∀(n:Int) (hu:n.natAbs=u) (h0: -9223372036854775808≤n) (h1:n≤9223372036854775807) (w:World),bx Tryz.prog 138 [.int .i64 n] w fun v w'=>v=str (Lib.decDigits u)∧Below w.heap.size w w':=by
 induction u using Nat.strongRecOn with
 |ind u ih=>
 intro n hu h0 h1 w;obtain ⟨hq,hm0,hm1⟩:=ac8 n;rw [hu] at hq hm0 hm1;have hqb: -9223372036854775808≤n.tdiv 10∧n.tdiv 10≤9223372036854775807:=by omega
 have hb:=Below.refl w.heap.size w;refine enter Tryz.func138 rfl rfl rfl<|am fun aR=>an rfl<|al aR<|am fun bt=>ai rfl<|ae (u7 rfl rfl (by decide)) rfl<|an rfl<|al bt<|av fun _ dV=>am fun eX=>ai rfl<|ae (dL rfl rfl) rfl<|al eX<|cR (X:=Unit) (fun u_=> [(0,.int .i64 n),(3,.int .i64 (u % 10:Nat))]) (fun u_ wr=>Below w.heap.size w wr) (fun _ PS=>?_) ?_
 ·
  refine aO rfl (fun kX=>?_) (fun kX=>?_)
  ·
   have Gw:=kX;simp only [DZ] at kX;refine aQ<|ai rfl<|ae (bW (NA rfl) (aH (show _=((u % 10:Nat):Int) by have:=kX;first|(rw [wrap_i64 _ (by omega) (by omega)];omega)|omega))) rfl<|an rfl<|ay<|a7 PS (()) (by repeat first|exact aC|refine aA rfl (by first|rfl|exact aH (by have:=kX;omega)) ?_) ?_
   exact hb
  have Gw:=kX;simp only [DZ] at kX;refine aU<|a7 PS (()) (by repeat first|exact aC|refine aA rfl (by first|rfl|exact aH (by have:=kX;omega)) ?_) ?_
  exact hb
 rintro u_ wr JG;replace JG:Below w.heap.size w wr:=JG;have hb:=JG;show Wq _ _ _ _ [(0,.int .i64 n),(3,.int .i64 (u % 10:Nat))] _;have:=hb.size;refine ax dV<|am fun mB=>ai rfl<|ae (ct rfl rfl (by omega) (by omega)) rfl<|ae (bW (ll Dz kV rfl) (aH (AR (u % 10) (by omega)))) rfl<|cz (sz:=1) (vs:= [_]) jN (by kernel_rfl) rfl rfl rfl rfl rfl rfl ?_
 rintro cp fA fw aI aV;have:=aV.size;have hb:=aZ hb aV;have:=aI.lt;refine aG (so jN kV bI rfl (by exact sN aI)) rfl<|an rfl<|al mB<|am fun fT=>ai rfl<|ae (bW (yC rfl rfl (by decide)) (aH (show _=n.tdiv 10 from wrap_i64 _ (by omega) (by omega)))) rfl<|an rfl<|al fT<|av fun _ fu=>am fun fD=>ai rfl<|ae (fG rfl rfl) rfl<|al fD<|aO rfl (fun ji=>?_) (fun ji=>?_)
 ·
  have Ay:=ji;simp only [DZ] at ji;refine am fun kG=>ai rfl<|aD FQ rfl rfl (ih (u / 10) (by have:=ji;omega) (n.tdiv 10) hq hqb.1 hqb.2 _) rfl ?_
  rintro _ cB ⟨rfl,aw⟩;have:=aw.size;have hb:=aZ hb aw;refine ai rfl<|ae (eu rfl rfl (by have:=ml (u / 10) (by omega);first|omega|(simp;omega))) rfl<|an rfl<|al kG<|aJ<|aX<|bN rfl rfl ?_
  exact ⟨_,rfl,by rw [Lib.decDigits.eq_def u,dif_neg (by have:=ji;omega)],hb⟩
 have Ay:=ji;simp only [DZ] at ji;refine aU<|ax fu<|am fun k9=>ai rfl<|an rfl<|al k9<|aJ<|bN rfl rfl ?_
 exact ⟨_,rfl,by rw [Lib.decDigits.eq_def u,dif_pos (by have:=ji;omega),Nat.mod_eq_of_lt (by have:=ji;omega)],hb⟩
theorem SA (n:Int) (w:World):bx Tryz.prog 139 [.int .i64 n] w fun v w'=>v=str (if n<0 then [45] else [])∧Below w.heap.size w w':=by
 have hb:=Below.refl w.heap.size w;refine enter Tryz.func139 rfl rfl rfl<|am fun aR=>an rfl<|al aR<|av fun _ bt=>am fun b8=>ai rfl<|ae (dL rfl rfl) rfl<|al b8<|aO rfl (fun dR=>?_) (fun dR=>?_)
 ·
  have nr:=dR;simp only [DZ] at dR;refine am fun eX=>an rfl<|al eX<|aJ<|aX<|bN rfl rfl ?_
  exact ⟨_,rfl,d5 (if_pos dR).symm,hb⟩
 have nr:=dR;simp only [DZ] at dR;refine aU<|ax bt<|am fun fZ=>an rfl<|al fZ<|aJ<|bN rfl rfl ?_
 exact ⟨_,rfl,d5 (if_neg (by have:=dR;omega)).symm,hb⟩
theorem zS {l:ao} {i:Nat} (h:i<l.length):l.take (i+1)=l.take i++ [l.getD i 0]:=by
 rw [List.take_add_one,List.getElem?_eq_getElem h];simp [List.getD,List.getElem?_eq_getElem h]
theorem Dh {s:ao} {i:Nat} (h:i<s.length):(s.take (i+1)).flatMap qc=(s.take i).flatMap qc++qc (s.getD i 0):=by
 rw [zS h,List.flatMap_append];simp
theorem FC {s:ao} {i:Nat} (h:i<s.length):(s.take (i+1)).drop i= [s.getD i 0]:=by
 rw [zS h,List.drop_append_of_le_length (by rw [List.length_take];omega),List.drop_eq_nil_of_le (by rw [List.length_take];omega)];rfl
theorem itoa_neg {n:Int} (h:n<0):Lib.itoa n=45 :: Lib.decDigits n.natAbs:=by unfold Lib.itoa;rw [if_pos h]
theorem QI {n:Int} (h:¬n<0):Lib.itoa n=Lib.decDigits n.natAbs:=by unfold Lib.itoa;rw [if_neg h];congr 1;omega
theorem Fq (n:Int):Lib.itoa n=(if n<0 then [45] else [])++Lib.decDigits n.natAbs:=by
 by_cases h:n<0
 · rw [itoa_neg h,if_pos h];rfl
 · rw [QI h,if_neg h];rfl
theorem afo:bB Tryz.prog 137:=⟨_,Tryz.func137,by kernel_rfl,rfl⟩
theorem Tx:bB Tryz.prog 139:=⟨_,Tryz.func139,by kernel_rfl,rfl⟩
theorem afq:bB Tryz.prog 140:=⟨_,Tryz.func140,by kernel_rfl,rfl⟩
theorem ad3 {a:c7} (h:iB a=true):a.k=0∨a.k=1∨a.k=2∨a.k=3∨a.k=4:=by
 refine Classical.byContradiction fun hn=>?_;unfold iB at h;rw [if_neg (by omega),if_neg (by omega),if_neg (by omega),if_neg (by omega),if_neg (by omega)] at h
 cases h
theorem Vw (a:c7) (oa:a.Ok) (hl:a.s.length≤70368744177664) (w:World):bx Tryz.prog 102 [a.enc] w fun v w'=>v= .tuple #[str (nh (lV a.s) a).1,.int .i64 (nh (lV a.s) a).2]∧Below w.heap.size w w':=by
 have hn0:=oa.n0;have hn1:=oa.n1;have hdl:=ml a.n.natAbs (by omega);have hb:=Below.refl w.heap.size w;refine enter Tryz.func102 rfl rfl rfl<|am fun aR=>gp rfl rfl ?_
 rintro au dJ dH ab aM;have:=aM.size;have hb:=aZ hb aM;have:=ab.lt;refine an rfl<|an rfl<|al aR<|am fun dC=>aG (cr ek (by kernel_rfl) rfl (by exact fun j u hu=>ab.at hu)) rfl<|aD afo rfl rfl (Vt a oa _) rfl ?_
 rintro _ cB ⟨rfl,aw⟩;have:=aw.size;have hb:=aZ hb aw;have ab:=ak.below ab aw;refine an rfl<|al dC<|av fun _ dW=>am fun fZ=>ai rfl<|ae (jd rfl) rfl<|al fZ<|aO rfl (fun eK=>?_) (fun eK=>?_)
 ·
  have hr:iB a=false:=by have h:=eK;simpa using h
  refine am fun fd=>an rfl<|an rfl<|al fd<|aJ<|aX<|fm rfl rfl rfl ?_
  exact ⟨_,rfl,by unfold nh;rw [if_pos hr];rfl,hb⟩
 have hr:iB a=true:=by have h:=eK;simpa using h
 have hr':¬iB a=false:=by rw [hr];simp
 have hkk:=ad3 hr;refine aU<|ax dW<|av fun _ mB=>am fun dG=>ae (aP (EK _) rfl) rfl<|aG (aS FB rfl (by exact ab.at rfl)) rfl<|al dG<|b4<|am fun mC=>ae (bX rfl rfl) rfl<|an rfl<|al mC<|aO rfl (fun lZ=>?_) (fun lZ=>?_)
 ·
  have sT:=lZ;simp only [DZ] at lZ;refine am fun gu=>an rfl<|an rfl<|al gu<|aJ<|co (aX ?_)
  refine fm rfl rfl rfl ?_;exact ⟨_,rfl,by unfold nh;rw [if_neg hr',if_neg (by have:=lZ;omega),if_neg (by have:=lZ;omega),if_neg (by have:=lZ;omega),if_neg (by have:=lZ;omega)];rfl,hb⟩
 have sT:=lZ;simp only [DZ] at lZ;refine am fun fu=>ae (bX rfl rfl) rfl<|an rfl<|al fu<|aO rfl (fun jj=>?_) (fun jj=>?_)
 ·
  have yR:=jj;simp only [DZ] at jj;refine av fun _ gP=>am fun kG=>ae (aP (lA _) rfl) rfl<|aG (aS lR rfl (by exact ab.at rfl)) rfl<|ae (bX rfl rfl) rfl<|al kG<|aO rfl (fun vW=>?_) (fun vW=>?_)
  ·
   have Xp:=vW;simp only [DZ] at vW;refine am fun kj=>an rfl<|an rfl<|al kj<|aJ<|aX (co (aX ?_))
   refine fm rfl rfl rfl ?_;exact ⟨_,rfl,by unfold nh;rw [if_neg hr',if_pos jj,if_pos (by have:=vW;simpa using this)];rfl,hb⟩
  have Xp:=vW;simp only [DZ] at vW;refine aU<|ax gP<|am fun lK=>an rfl<|an rfl<|al lK<|aJ<|co (aX ?_)
  refine fm rfl rfl rfl ?_;exact ⟨_,rfl,by unfold nh;rw [if_neg hr',if_pos jj,if_neg (by have:=vW;simpa using this)];rfl,hb⟩
 have yR:=jj;simp only [DZ] at jj;refine am fun lf=>ae (bX rfl rfl) rfl<|an rfl<|al lf<|aO rfl (fun qK=>?_) (fun qK=>?_)
 ·
  have XD:=qK;simp only [DZ] at qK;refine av fun _ gZ=>am fun kl=>ae (aP (lA _) rfl) rfl<|aG (aS lR rfl (by exact ab.at rfl)) rfl<|ae (dL rfl rfl) rfl<|ai rfl<|cG rfl rfl rfl (fun jr=>?_) (fun jr=>?_)
  ·
   have qY:=jr;simp only [DZ] at jr;refine ae (aP (lA _) rfl) rfl<|ap rfl rfl qY<|aG (aS lR rfl (by exact ab.at rfl)) rfl<|ap rfl rfl qY<|ae (ed rfl rfl) rfl<|ae (bo rfl qY rfl) rfl<|al kl<|aO rfl (fun sY=>?_) (fun sY=>?_)
   ·
    refine am fun nQ=>ae (aP (lA _) rfl) rfl<|aG (aS lR rfl (by exact ab.at rfl)) rfl<|aD FQ rfl rfl (Gf _ a.n rfl hn0 hn1 _) rfl ?_
    rintro _ cU ⟨rfl,aL⟩;have:=aL.size;have hb:=aZ hb aL;refine ae (eu rfl rfl (by simp;omega)) rfl<|an rfl<|an rfl<|al nQ<|aJ<|aX (co (aX ?_))
    refine fm rfl rfl rfl ?_;exact ⟨_,rfl,by unfold nh;rw [if_neg hr',if_neg jj,if_pos qK,itoa_neg (by have:=jr;omega)];rfl,hb⟩
   refine aU<|ax gZ<|av fun _ nS=>jg (n:=9) (fun w'=>Below w.heap.size w w'∧ak w' au 25 a.cells) #[aj,aj,aj,aj,aj,aj,aj,aj,aj] (by kernel_rfl) rfl (by kernel_rfl)<|jf ?_
   rintro Uh nY;have abK:=nY.size;have hb:=aZ hb nY;have ab:=ak.below ab nY;refine bC (i:=0) #[ah,aj,aj,aj,aj,aj,aj,aj,aj] rfl (by kernel_rfl) bF rfl (fun wq hq=>bU (aP (lA _) rfl)) ⟨hb,ab⟩<|bC (i:=1) #[ah,ah,aj,aj,aj,aj,aj,aj,aj] rfl (by kernel_rfl) bF rfl (fun wq hq=>aS lR rfl (by obtain ⟨hq,ab⟩:=hq;first|exact ab.at rfl|exact ab.cell 0|assumption)) ⟨hb,ab⟩<|bC (i:=3) #[ah,ah,aj,ah,aj,aj,aj,aj,aj] rfl (by kernel_rfl) bF rfl (fun wq hq=>bU (aP (lA _) rfl)) ⟨hb,ab⟩<|bC (i:=4) #[ah,ah,aj,ah,ah,aj,aj,aj,aj] rfl (by kernel_rfl) bF rfl (fun wq hq=>aS lR rfl (by obtain ⟨hq,ab⟩:=hq;first|exact ab.at rfl|exact ab.cell 0|assumption)) ⟨hb,ab⟩<|cM (rs:= [2]) (by kernel_rfl) rfl<|cO #[ah,ah,ah,ah,ah,aj,aj,aj,aj] rfl rfl (fun _ tv=>?_) ?_
   ·
    refine aD Tx rfl rfl (SA a.n _) rfl ?_;rintro _ eP ⟨rfl,a6⟩;have rD:=a6.size;have hb:=aZ hb a6;have ab:=ak.below ab a6;refine ay<|cN tv ⟨hb,ab⟩<|cM (rs:= [5]) (by kernel_rfl) rfl<|cO #[ah,ah,ah,ah,ah,ah,aj,aj,aj] rfl rfl (fun _ xF=>?_) ?_
    ·
     refine aD FQ rfl rfl (Gf _ a.n rfl hn0 hn1 _) rfl ?_;rintro _ fj ⟨rfl,bk⟩;have mM:=bk.size;have hb:=aZ hb bk;have ab:=ak.below ab bk;refine ay<|cN xF ⟨hb,ab⟩<|bC (i:=6) #[ah,ah,ah,ah,ah,ah,ah,aj,aj] rfl (by kernel_rfl) bF rfl (fun wq hq=>bU (eu rfl rfl (by split<;>simp<;>omega))) ⟨hb,ab⟩<|bC (i:=7) #[ah,ah,ah,ah,ah,ah,ah,ah,aj] rfl (by kernel_rfl) bF rfl (fun wq hq=>bU (it rfl)) ⟨hb,ab⟩<|bC (i:=8) #[ah,ah,ah,ah,ah,ah,ah,ah,ah] rfl (by kernel_rfl) bF rfl (fun wq hq=>bU (it rfl)) ⟨hb,ab⟩<|fB (by kernel_rfl)<|ax nS<|aJ<|co (aX ?_)
     refine fm rfl rfl rfl ?_;exact ⟨_,rfl,by unfold nh;rw [if_neg hr',if_neg jj,if_pos qK,Fq],hb⟩
    exact cP
   exact cP
  refine az rfl rfl jr rfl rfl<|az rfl rfl jr rfl rfl<|ae (bj rfl jr rfl) rfl<|al kl<|oU rfl rfl<|aU<|ax gZ<|av fun _ rp=>jg (n:=9) (fun w'=>Below w.heap.size w w'∧ak w' au 25 a.cells) #[aj,aj,aj,aj,aj,aj,aj,aj,aj] (by kernel_rfl) rfl (by kernel_rfl)<|jf ?_
  rintro Uh nY;have abK:=nY.size;have hb:=aZ hb nY;have ab:=ak.below ab nY;refine bC (i:=0) #[ah,aj,aj,aj,aj,aj,aj,aj,aj] rfl (by kernel_rfl) bF rfl (fun wq hq=>bU (aP (lA _) rfl)) ⟨hb,ab⟩<|bC (i:=1) #[ah,ah,aj,aj,aj,aj,aj,aj,aj] rfl (by kernel_rfl) bF rfl (fun wq hq=>aS lR rfl (by obtain ⟨hq,ab⟩:=hq;first|exact ab.at rfl|exact ab.cell 0|assumption)) ⟨hb,ab⟩<|bC (i:=3) #[ah,ah,aj,ah,aj,aj,aj,aj,aj] rfl (by kernel_rfl) bF rfl (fun wq hq=>bU (aP (lA _) rfl)) ⟨hb,ab⟩<|bC (i:=4) #[ah,ah,aj,ah,ah,aj,aj,aj,aj] rfl (by kernel_rfl) bF rfl (fun wq hq=>aS lR rfl (by obtain ⟨hq,ab⟩:=hq;first|exact ab.at rfl|exact ab.cell 0|assumption)) ⟨hb,ab⟩<|cM (rs:= [2]) (by kernel_rfl) rfl<|cO #[ah,ah,ah,ah,ah,aj,aj,aj,aj] rfl rfl (fun _ qa=>?_) ?_
  ·
   refine aD Tx rfl rfl (SA a.n _) rfl ?_;rintro _ eP ⟨rfl,a6⟩;have rD:=a6.size;have hb:=aZ hb a6;have ab:=ak.below ab a6;refine ay<|cN qa ⟨hb,ab⟩<|cM (rs:= [5]) (by kernel_rfl) rfl<|cO #[ah,ah,ah,ah,ah,ah,aj,aj,aj] rfl rfl (fun _ oD=>?_) ?_
   ·
    refine aD FQ rfl rfl (Gf _ a.n rfl hn0 hn1 _) rfl ?_;rintro _ fj ⟨rfl,bk⟩;have mM:=bk.size;have hb:=aZ hb bk;have ab:=ak.below ab bk;refine ay<|cN oD ⟨hb,ab⟩<|bC (i:=6) #[ah,ah,ah,ah,ah,ah,ah,aj,aj] rfl (by kernel_rfl) bF rfl (fun wq hq=>bU (eu rfl rfl (by split<;>simp<;>omega))) ⟨hb,ab⟩<|bC (i:=7) #[ah,ah,ah,ah,ah,ah,ah,ah,aj] rfl (by kernel_rfl) bF rfl (fun wq hq=>bU (it rfl)) ⟨hb,ab⟩<|bC (i:=8) #[ah,ah,ah,ah,ah,ah,ah,ah,ah] rfl (by kernel_rfl) bF rfl (fun wq hq=>bU (it rfl)) ⟨hb,ab⟩<|fB (by kernel_rfl)<|ax rp<|aJ<|co (aX ?_)
    refine fm rfl rfl rfl ?_;exact ⟨_,rfl,by unfold nh;rw [if_neg hr',if_neg jj,if_pos qK,Fq],hb⟩
   exact cP
  exact cP
 have XD:=qK;simp only [DZ] at qK;refine am fun tA=>ae (bX rfl rfl) rfl<|an rfl<|al tA<|aO rfl (fun up=>?_) (fun up=>?_)
 ·
  have XR:=up;simp only [DZ] at up;refine am fun Cq=>ae (aP (yZ _) rfl) rfl<|aG (aS zB rfl (by exact ab.at rfl)) rfl<|aD afq rfl rfl (Vx _ oa.f1 _) rfl ?_
  rintro _ gj ⟨rfl,bD⟩;have:=bD.size;have hb:=aZ hb bD;refine an rfl<|an rfl<|al Cq<|aJ<|co (aX ?_)
  refine fm rfl rfl rfl ?_;exact ⟨_,rfl,by unfold nh;rw [if_neg hr',if_neg jj,if_neg qK,if_pos up],hb⟩
 have XR:=up;simp only [DZ] at up;have hk4:a.k=4:=by have h1:=lZ;have h2:=jj;have h3:=qK;have h5:=up;omega
 refine aU<|cD<|ax mB<|am fun pm=>an rfl<|al pm<|av fun _ B0=>am fun zb=>an rfl<|al zb<|b4<|d9 (X:=Nat) (fun i=> [(1,.pointer (some ⟨au,0,none⟩)),(5,str (39 :: (a.s.take i).flatMap qc)),(6,.int .i64 (i:Int))]) (fun i wr=>i≤a.s.length∧Below w.heap.size w wr∧ak wr au 25 a.cells) (fun i=>a.s.length - i) (0) ?_ ?_ ?_
 · exact by repeat first|exact aC|refine aA rfl (by first|rfl|exact aH (by omega)|exact d5 (by rw [Dh hil,←hc,hqc];rfl)) ?_
 · exact ⟨by omega,hb,ab⟩
 rintro i wr Jr _ E6;replace Jr:i≤a.s.length∧Below w.heap.size w wr∧ak wr au 25 a.cells:=Jr;obtain ⟨hi,hb,ab⟩:=Jr;show Wc _ _ _ _ _ [(1,.pointer (some ⟨au,0,none⟩)),(5,str (39 :: (a.s.take i).flatMap qc)),(6,.int .i64 (i:Int))] _;have:=hb.size;have:=ab.lt;refine av fun _ tm=>am fun rl=>ai rfl<|ae (aP (r5 _) rfl) rfl<|aG (aS di rfl (by exact ab.at (j:=3) rfl)) rfl<|ae (ez bI (by omega) rfl) rfl<|ae (dL rfl rfl) rfl<|al rl<|aO rfl (fun nz=>?_) (fun nz=>?_)
 ·
  have Ix:=nz;simp only [DZ] at nz;have hil:i<a.s.length:=by have:=nz;omega
  obtain ⟨c,hc⟩:∃c,c=a.s.getD i 0:=⟨_,rfl⟩;have hql:=RZ (a.s.take i);have hqt:(a.s.take i).length≤70368744177664:=Nat.le_trans (List.length_take_le' _ _) hl;refine aU<|ax tm<|av fun _ se=>b4<|am fun tr=>ae (aP (r5 _) rfl) rfl<|aG (aS di rfl (by exact ab.at (j:=3) rfl)) rfl<|ai rfl<|ae (bW (fP bI rfl rfl (by omega) (by omega)) (aH (show _=(c.toNat:Int) by rw [hc,Int.toNat_natCast]))) rfl<|al tr<|b4<|am fun xB=>ae (bX rfl rfl) rfl<|an rfl<|al xB<|aO rfl (fun wI=>?_) (fun wI=>?_)
  ·
   have X3:=wI;simp only [DZ] at wI;have hq1:c=92:=oO (n:=92) wI (by decide);have hqc:qc c= [92,92]:=by unfold qc;rw [if_pos hq1]
   refine aQ<|ai rfl<|ae (eu rfl rfl (by simp only [List.length_cons,List.length_append,List.length_nil];omega)) rfl<|an rfl<|ay<|cD<|cD<|ax se<|aQ<|ai rfl<|ae (ct rfl rfl (by omega) (by omega)) rfl<|an rfl<|ay<|fun a_ bM=>E6 _ _ (i+1) (by omega) (by repeat first|exact aC|refine aA rfl (by first|rfl|exact aH (by omega)|exact d5 (by rw [Dh hil,←hc,hqc];rfl)) ?_) ?_ a_ bM
   exact ⟨by omega,hb,ab⟩
  have X3:=wI;simp only [DZ] at wI;have hq1:¬c=92:=qu (n:=92) wI (by decide);refine am fun sf=>ae (bX rfl rfl) rfl<|an rfl<|al sf<|aO rfl (fun wJ=>?_) (fun wJ=>?_)
  ·
   have X5:=wJ;simp only [DZ] at wJ;have hq2:c=39:=oO (n:=39) wJ (by decide);have hqc:qc c= [92,39]:=by unfold qc;rw [if_neg hq1,if_pos hq2]
   refine aQ<|ai rfl<|ae (eu rfl rfl (by simp only [List.length_cons,List.length_append,List.length_nil];omega)) rfl<|an rfl<|ay<|cD<|cD<|ax se<|aQ<|ai rfl<|ae (ct rfl rfl (by omega) (by omega)) rfl<|an rfl<|ay<|fun a_ bM=>E6 _ _ (i+1) (by omega) (by repeat first|exact aC|refine aA rfl (by first|rfl|exact aH (by omega)|exact d5 (by rw [Dh hil,←hc,hqc];rfl)) ?_) ?_ a_ bM
   exact ⟨by omega,hb,ab⟩
  have X5:=wJ;simp only [DZ] at wJ;have hq2:¬c=39:=qu (n:=39) wJ (by decide);refine am fun tt=>ae (bX rfl rfl) rfl<|an rfl<|al tt<|aO rfl (fun vC=>?_) (fun vC=>?_)
  ·
   have W2:=vC;simp only [DZ] at vC;have hq3:c=10:=oO (n:=10) vC (by decide);have hqc:qc c= [92,110]:=by unfold qc;rw [if_neg hq1,if_neg hq2,if_pos hq3]
   refine aQ<|ai rfl<|ae (eu rfl rfl (by simp only [List.length_cons,List.length_append,List.length_nil];omega)) rfl<|an rfl<|ay<|cD<|cD<|ax se<|aQ<|ai rfl<|ae (ct rfl rfl (by omega) (by omega)) rfl<|an rfl<|ay<|fun a_ bM=>E6 _ _ (i+1) (by omega) (by repeat first|exact aC|refine aA rfl (by first|rfl|exact aH (by omega)|exact d5 (by rw [Dh hil,←hc,hqc];rfl)) ?_) ?_ a_ bM
   exact ⟨by omega,hb,ab⟩
  have W2:=vC;simp only [DZ] at vC;have hq3:¬c=10:=qu (n:=10) vC (by decide);have hqc:qc c= [c]:=by unfold qc;rw [if_neg hq1,if_neg hq2,if_neg hq3]
  refine aQ<|ai rfl<|ae (aP (r5 _) rfl) rfl<|aG (aS di rfl (by exact ab.at (j:=3) rfl)) rfl<|ai rfl<|ai rfl<|ae (ct rfl rfl (by omega) (by omega)) rfl<|ae (bW (sF bI rfl rfl rfl (by omega) (by omega) (by omega)) (d5 (show (a.s.take ((i:Int)+1).toNat).drop (i:Int).toNat= [c] by rw [show ((i:Int)+1).toNat=i+1 by omega,Int.toNat_natCast,FC hil,hc]))) rfl<|ae (eu rfl rfl (by simp only [List.length_cons,List.length_append,List.length_nil];omega)) rfl<|an rfl<|ay<|cD<|cD<|ax se<|aQ<|ai rfl<|ae (ct rfl rfl (by omega) (by omega)) rfl<|an rfl<|ay<|fun a_ bM=>E6 _ _ (i+1) (by omega) (by repeat first|exact aC|refine aA rfl (by first|rfl|exact aH (by omega)|exact d5 (by rw [Dh hil,←hc,hqc];rfl)) ?_) ?_ a_ bM
  exact ⟨by omega,hb,ab⟩
 have Ix:=nz;simp only [DZ] at nz;refine d2<|cj<|cj<|d3<|ax B0<|am fun tu=>?_
 have hql:=RZ (a.s.take i);have hqt:(a.s.take i).length≤70368744177664:=Nat.le_trans (List.length_take_le' _ _) hl;refine ai rfl<|ae (eu rfl rfl (by simp only [List.length_cons,List.length_append,List.length_nil];omega)) rfl<|an rfl<|an rfl<|al tu<|aJ<|fm rfl rfl rfl ?_
 exact ⟨_,rfl,by unfold nh lV;rw [if_neg hr',if_neg jj,if_neg qK,if_neg up,if_pos hk4,List.take_of_length_le (by have:=nz;omega)];rfl,hb⟩
end Go.Proofs.YtjdjliiolchciaaGreatDoor
