import Derived.Test.YtjdjliiolchciaaGreatDoorZM
import Derived.Test.YtjdjliiolchciaaGreatDoorZT
namespace Go.Proofs.YtjdjliiolchciaaGreatDoor
open Go.RowKit Go.Bw Go.Bw.Fl
set_option linter.unusedVariables false
set_option linter.unusedSimpArgs false
theorem YZ (p:Addr) (w:World):(Instr.fieldAt 74 (.pointer (some p)) 0).run Tryz.prog w= .ok (.pointer (some (p.add 0))) w:=eT (i:=0) (sz:=0) ig rfl (by kernel_rfl) p w
theorem Y0 (p:Addr) (w:World):(Instr.fieldAt 74 (.pointer (some p)) 1).run Tryz.prog w= .ok (.pointer (some (p.add 1))) w:=eT (i:=1) (sz:=0) ig rfl (by kernel_rfl) p w
theorem afF:bB Tryz.prog 30:=⟨_,Tryz.func30,by kernel_rfl,rfl⟩
theorem Ek (c:UInt8):blank c=decide (c.toNat=32∨c.toNat=9∨c.toNat=13∨c.toNat=10):=by
 have key:∀n:Fin 256,blank (UInt8.ofNat n.val)=decide (n.val=32∨n.val=9∨n.val=13∨n.val=10):=by decide +kernel
 have h2:=key ⟨c.toNat,UInt8.toNat_lt c⟩;rw [show UInt8.ofNat c.toNat=c from UInt8.ofNat_toNat] at h2;exact h2
theorem Vz (s:ao) (a:Nat) (ha:a<s.length) (hs:s.length≤70368744177664) (w:World):bx Tryz.prog 30 [str s,.int .i64 (a:Int)] w fun v w'=>(∃(k n:Nat) (z:Nat) (t:ao),v= .agg #[.int .i64 (k:Int),str t,.int .i64 (z:Int)]∧dP (s.drop a)=(k,n)∧(k≠0→z=a∧t=(s.drop a).take n))∧Below w.heap.size w w':=
 (Vy s a ha hs w).mono fun v w' ⟨h1,h2⟩=>⟨by
  obtain ⟨k,n,h,h3⟩:=h1
  rcases h3 with ⟨hk,hv⟩|⟨hk,hv⟩
  · exact ⟨k,n,a,_,hv,h,fun _=>⟨rfl,rfl⟩⟩
  · exact ⟨k,n,0,[],by rw [hv,hk];rfl,h,fun h=>absurd hk h⟩,h2⟩
theorem Vm (s:ao) (hs:s.length≤70368744177664) (w:World):bx Tryz.prog 13 [str s] w fun v w'=>D1 s v w'∧Below w.heap.size w w':=by
 have hb:=Below.refl w.heap.size w;refine enter Tryz.func13 rfl rfl rfl<|am fun aR=>an rfl<|an rfl<|an rfl<|al aR<|av fun _ dC=>am fun fi=>ai rfl<|ae (ez bI (by omega) rfl) rfl<|ae (ed rfl rfl) rfl<|al fi<|aO rfl (fun dA=>?_) (fun dA=>?_)
 ·
  have lp:=dA;simp only [DZ] at dA;refine am fun dT=>an rfl<|an rfl<|an rfl<|al dT<|aJ<|aX<|oh rfl rfl rfl rfl ?_
  exact ⟨_,rfl,QZ (by have:=dA;omega),hb⟩
 have lp:=dA;simp only [DZ] at dA;have hsl:s.length≤65536:=by have:=dA;omega
 refine aU<|ax dC<|am fun eL=>WC tQ (by kernel_rfl) rfl ?_
 rintro cK jB jG aK bA;have:=bA.size;have hb:=aZ hb bA;have:=aK.lt;refine an rfl<|al eL<|am fun dG=>an rfl<|al dG<|av fun _ eM=>b4<|d9 (X:=Nat×List Tok×Value) (fun (i,l,v)=> [(0,str s),(5,v),(6,.int .i64 (i:Int))]) (fun (i,l,v) wr=>i≤s.length∧l.length≤i∧eJ s 0=(eJ (s.drop i) i).map (l++ ·)∧Below w.heap.size w wr∧wr.ownsRow w.heap.size 74 3 v l.length (l.flatMap Tok.cells)) (fun (i,l,v)=>s.length - i) (⟨0,[],.slice (some ⟨cK,0,none⟩) 0 0⟩) ?_ ?_ ?_
 · exact by repeat first|exact aC|refine aA rfl (by first|rfl|exact aH (by omega)) ?_
 · exact ⟨by omega,Nat.le_refl _,Rb,hb,aK.own (base:=w.heap.size) (n:=0) (sz:=3) (by omega) rfl (by decide)⟩
 rintro ⟨i,l,v⟩ wr JV _ PO;replace JV:i≤s.length∧l.length≤i∧eJ s 0=(eJ (s.drop i) i).map (l++ ·)∧Below w.heap.size w wr∧wr.ownsRow w.heap.size 74 3 v l.length (l.flatMap Tok.cells):=JV;obtain ⟨hi,hll,hlx,hb,hO⟩:=JV;show Wc _ _ _ _ _ [(0,str s),(5,v),(6,.int .i64 (i:Int))] _;have:=hb.size;refine av fun _ gr=>am fun fT=>ai rfl<|ai rfl<|ae (ez bI (by omega) rfl) rfl<|ae (dL rfl rfl) rfl<|al fT<|aO rfl (fun vI=>?_) (fun vI=>?_)
 ·
  have Xb:=vI;simp only [DZ] at vI;have hil:i<s.length:=by have:=vI;omega
  obtain ⟨c,hc⟩:∃c,c=s.getD i 0:=⟨_,rfl⟩;refine aU<|ax gr<|b4<|am fun iJ=>ai rfl<|ai rfl<|ae (bW (fP bI rfl rfl (by omega) (by omega)) (aH (show _=(c.toNat:Int) by rw [hc,Int.toNat_natCast]))) rfl<|an rfl<|al iJ<|av fun _ gI=>av fun _ iW=>cR (X:=Bool) (fun q=> [(0,str s),(5,v),(6,.int .i64 (i:Int)),(33,.bool q)]) (fun q wr=>q=blank c∧Below w.heap.size w wr∧wr.ownsRow w.heap.size 74 3 v l.length (l.flatMap Tok.cells)) (fun _ xK=>?_) ?_
  ·
   refine aQ<|ai rfl<|ae (bX rfl rfl) rfl<|ai rfl<|dy rfl rfl rfl (fun Bt=>?_) (fun Bt=>?_)
   ·
    have Bu:=Bt;simp only [DZ] at Bt;refine az rfl rfl Bu rfl rfl<|ae (bo rfl Bu rfl) rfl<|ai rfl<|az rfl rfl rfl rfl rfl<|az rfl rfl rfl rfl rfl<|ae (bo rfl rfl rfl) rfl<|ai rfl<|az rfl rfl rfl rfl rfl<|az rfl rfl rfl rfl rfl<|ae (bo rfl rfl rfl) rfl<|ay<|a7 xK (blank c) (by repeat first|exact aC|refine aA rfl (by first|rfl|exact a8 (by rw [Ek,Bool.eq_iff_iff];simp<;>omega)) ?_) ?_
    exact ⟨rfl,hb,hO⟩
   have Bu:=Bt;simp only [DZ] at Bt;refine ai rfl<|ap rfl rfl Bu<|ae (bX rfl rfl) rfl<|ae (bj rfl Bu rfl) rfl<|ai rfl<|dy rfl rfl rfl (fun jE=>?_) (fun jE=>?_)
   ·
    have nK:=jE;simp only [DZ] at jE;refine az rfl rfl nK rfl rfl<|ae (bo rfl nK rfl) rfl<|ai rfl<|az rfl rfl rfl rfl rfl<|az rfl rfl rfl rfl rfl<|ae (bo rfl rfl rfl) rfl<|ay<|a7 xK (blank c) (by repeat first|exact aC|refine aA rfl (by first|rfl|exact a8 (by rw [Ek,Bool.eq_iff_iff];simp<;>omega)) ?_) ?_
    exact ⟨rfl,hb,hO⟩
   have nK:=jE;simp only [DZ] at jE;refine ai rfl<|ap rfl rfl nK<|ae (bX rfl rfl) rfl<|ae (bj rfl nK rfl) rfl<|ai rfl<|dy rfl rfl rfl (fun ke=>?_) (fun ke=>?_)
   ·
    have jV:=ke;simp only [DZ] at ke;refine az rfl rfl jV rfl rfl<|ae (bo rfl jV rfl) rfl<|ay<|a7 xK (blank c) (by repeat first|exact aC|refine aA rfl (by first|rfl|exact a8 (by rw [Ek,Bool.eq_iff_iff];simp<;>omega)) ?_) ?_
    exact ⟨rfl,hb,hO⟩
   have jV:=ke;simp only [DZ] at ke;refine ai rfl<|ap rfl rfl jV<|ae (bX rfl rfl) rfl<|ae (bj rfl jV rfl) rfl<|ay<|a7 xK (blank c) (by repeat first|exact aC|refine aA rfl (by first|rfl|exact a8 (by rw [Ek,Bool.eq_iff_iff];simp<;>omega)) ?_) ?_
   exact ⟨rfl,hb,hO⟩
  rintro q wr rj;replace rj:q=blank c∧Below w.heap.size w wr∧wr.ownsRow w.heap.size 74 3 v l.length (l.flatMap Tok.cells):=rj;obtain ⟨hq,hb,hO⟩:=rj;show Wq _ _ _ _ [(0,str s),(5,v),(6,.int .i64 (i:Int)),(33,.bool q)] _;have:=hb.size;refine ax iW<|aO rfl (fun qH=>?_) (fun qH=>?_)
  ·
   have AD:=qH;have hbl:blank (s.getD i 0)=true:=by rw [←hc];exact hq.symm.trans AD
   have rA:=Q9 hlx hil hbl;obtain ⟨j_,kL⟩:∃j,j=i+1:=⟨_,rfl⟩;rw [←kL] at rA;have xU:j_≤s.length:=by omega
   have pA:l.length≤j_:=by omega
   have xL:=hO;obtain ⟨l_,rz⟩:∃l',l'=l:=⟨_,rfl⟩;subst rz;obtain ⟨v_,cc⟩:∃v',v'=v:=⟨_,rfl⟩;subst cc;refine am fun m7=>ai rfl<|ae (ct rfl rfl (by omega) (by omega)) rfl<|an rfl<|al m7<|d2<|cj<|d3<|fun a_ bM=>PO _ _ (⟨j_,l_,v_⟩) (by show s.length - j_<s.length - i;omega) (by repeat first|exact aC|refine aA rfl (by first|rfl|exact aH (by omega)) ?_) ?_ a_ bM
   exact ⟨xU,pA,rA,hb,xL⟩
  have AD:=qH;have hbl:blank (s.getD i 0)=false:=by rw [←hc];exact hq.symm.trans AD
  have hO0:=hO;refine aU<|ax gI<|am fun rn=>ai rfl<|ai rfl<|aD afF rfl rfl (Vz s i hil hs _) rfl ?_
  rintro _ cB ⟨⟨k,n,z,t,rfl,htok,hzt⟩,aw⟩;have:=aw.size;have hb:=aZ hb aw;have hO:=mc hO aw;refine bT (z:=fx) (by kernel_rfl) rfl ?_;rintro Jk agO aaR oz uO;have:=uO.size;have hb:=aZ hb uO;have hO:=mc hO uO;have:=oz.lt
  have uJ:v.ownBlock=none∨v.ownBlock≠some Jk:=by
   cases hv:v.ownBlock with
   |none=>exact .inl rfl
   |some kk=>exact .inr (fun e=>by have:=jz hO0 kk hv;cases e;omega)
  have Lf:some Jk≠v.ownBlock:=by rcases uJ with h|h;(· rw [h];simp);(· exact fun e=>h e.symm)
  refine ba (by kernel_rfl) rfl rfl oz rfl rfl ?_;rintro du oz aF;have:=aF.size;have hb:=cf hb aF hb.size (by omega);have hO:=World.ownsRow.kept hO aF (by exact uJ);refine al rn<|av fun _ nT=>am fun nU=>ae (aP (YZ _) rfl) rfl<|aG (aS b0 rfl (by exact oz.at (j:=0) rfl)) rfl<|ae (bX rfl rfl) rfl<|al nU<|aO rfl (fun qI=>?_) (fun qI=>?_)
  ·
   have AG:=qI;simp only [DZ] at qI;have herr:=Q8 hlx hil hbl (by rw [htok];have:=qI;show k=0;omega);refine am fun rq=>ai rfl<|an rfl<|an rfl<|an rfl<|al rq<|aJ<|aX (co (aX (co (aX ?_))))
   refine oh rfl rfl rfl rfl ?_;exact ⟨_,rfl,.inr (.inl ⟨hsl,i,herr,rfl⟩),hb⟩
  have AG:=qI;simp only [DZ] at qI;have hk0:k≠0:=by have:=qI;omega
  obtain ⟨hz,ht⟩:=hzt hk0;have hz:=hz.symm;subst hz;subst ht;have htl:=Ds (s.drop i) (by rw [drop_at hil];simp);rw [htok,List.length_drop] at htl;simp only at htl;have hn0:0<n:=by have:=htl.2.1;omega
  have hlx2:=Rc hlx hil hbl htok hk0;refine aU<|ax nT<|am fun sh=>ai rfl<|aG (cr ig (by kernel_rfl) rfl (by exact fun j u hu=>oz.at hu)) rfl<|cz (sz:=3) (vs:= [_]) tQ (by kernel_rfl) rfl rfl rfl rfl rfl rfl ?_
  rintro eW sA l8 bu d4;have:=d4.size;have hb:=aZ hb d4;have hO:=mc hO d4;have oz:=ak.below oz d4;have:=bu.lt;refine vr (z:=fx) (sz:=3) (bytes:=32) tQ (by kernel_rfl) rfl (by decide) _ rfl hO rfl (bu.rd 1 3 rfl) (fun u hu=>by have h2:u∈ [Value.int .i64 (k:Int),str ((s.drop i).take n),.int .i64 (i:Int)]:=hu;simp only [List.mem_cons,List.not_mem_nil,or_false] at h2;rcases h2 with rfl|rfl|rfl<;>rfl) (by simp only [maxLen];omega) (by omega) (by exact hb.size) rfl ?_;rintro agx DQ abp xQ ahQ;have:=xQ.size;have hb:=hb.grown xQ hb.size (fun k_ ry=>by have:=(jz hO k_ ry).1;omega);have oz:=ak.grown oz xQ (by exact Lf);have hO:=abp;refine an rfl<|al sh<|aQ<|ai rfl<|ae (aP (Y0 _) rfl) rfl<|aG (aS di rfl (by exact oz.at (j:=1) rfl)) rfl<|ae (bW (ez bI (by rw [List.length_take,List.length_drop];omega) rfl) (aH (show _=(n:Int) by rw [List.length_take,List.length_drop];omega))) rfl ?_
  have rA:=hlx2;obtain ⟨j_,kL⟩:∃j,j=i+n:=⟨_,rfl⟩;obtain ⟨l_,rz⟩:∃l',l'=l++ [⟨k,(s.drop i).take n,i⟩]:=⟨_,rfl⟩;rw [←kL,←rz] at rA;have xU:j_≤s.length:=by omega
  have pA:l_.length≤j_:=by rw [rz,List.length_append];show l.length+1≤_;omega
  obtain ⟨v_,cc⟩:∃v',v'=agx:=⟨_,rfl⟩;subst cc;have xL:World.ownsRow DQ w.heap.size 74 3 v_ l_.length (l_.flatMap Tok.cells):=by rw [rz,List.length_append,List.flatMap_append];exact hO
  refine ae (ct rfl rfl (by omega) (by omega)) rfl<|an rfl<|ay<|cD<|fun a_ bM=>PO _ _ (⟨j_,l_,v_⟩) (by show s.length - j_<s.length - i;omega) (by repeat first|exact aC|refine aA rfl (by first|rfl|exact aH (by omega)) ?_) ?_ a_ bM
  exact ⟨xU,pA,rA,hb,xL⟩
 have Xb:=vI;simp only [DZ] at vI;refine d2<|cj<|cj<|d3<|ax eM<|am fun py=>?_
 obtain ⟨A_,c_,rfl,Ln,_⟩:=uZ hO;refine ai rfl<|an rfl<|an rfl<|an rfl<|al py<|aJ<|oh rfl rfl rfl rfl ?_
 exact ⟨_,rfl,.inr (.inr ⟨hsl,l,A_,c_,Ra hlx (by have:=vI;omega),rfl,by omega,Ln,vi hO,fun q e=>by subst e;exact (jz hO q.block rfl).2⟩),hb⟩
end Go.Proofs.YtjdjliiolchciaaGreatDoor
