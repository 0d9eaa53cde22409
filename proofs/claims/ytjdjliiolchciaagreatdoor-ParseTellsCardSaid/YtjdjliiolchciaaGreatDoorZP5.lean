import Derived.Test.YtjdjliiolchciaaGreatDoorZP4
namespace Go.Proofs.YtjdjliiolchciaaGreatDoor
open Go.RowKit Go.Bw Go.Bw.Fl
set_option linter.unusedVariables false
set_option linter.unusedSimpArgs false
theorem uA (p:Addr) (w:World):(Instr.fieldAt 28 (.pointer (some p)) 3).run Tryz.prog w= .ok (.pointer (some (p.add 6))) w:=eT (i:=3) (sz:=0) b5 rfl (by kernel_rfl) p w
theorem m3 (p:Addr) (w:World):(Instr.fieldAt 31 (.pointer (some p)) 7).run Tryz.prog w= .ok (.pointer (some (p.add 19))) w:=eT (i:=7) (sz:=0) dc rfl (by kernel_rfl) p w
theorem uY:One Tryz.prog 26:=⟨_,j5,rfl,by kernel_rfl⟩
theorem m9:One Tryz.prog 29:=⟨_,fO,rfl,by kernel_rfl⟩
theorem FN:(Tryz.prog.info? 28).map (·.size)=some 7:=by kernel_rfl
theorem Ts:bB Tryz.prog 11:=⟨_,Tryz.func11,by kernel_rfl,rfl⟩
theorem M8:bB Tryz.prog 28:=⟨_,Tryz.func28,by kernel_rfl,rfl⟩
theorem afE:bB Tryz.prog 29:=⟨_,Tryz.func29,by kernel_rfl,rfl⟩
theorem afK:bB Tryz.prog 50:=⟨_,Tryz.func50,by kernel_rfl,rfl⟩
theorem aY.z {w:World} {S:Nat→Prop} {x:b6} {cs:List Value} (h:aY w S x cs):∃z:EC,cs=z.cells:=by
 obtain ⟨k,nm,v,kids⟩:=x;unfold aY at h;obtain ⟨A,c,kcs,h1,h2⟩:=h;exact ⟨⟨k,nm,v,A,kids.length,c⟩,h1⟩
theorem EC.len (z:EC):z.cells.length=7:=rfl
theorem eQ.get {w:World} {S:Nat→Prop}:∀{l:List b6} {xs:List Value} (_:eQ w S l xs) {i:Nat} (hi:i<l.length),∃z:EC,aY w S l[i] z.cells∧∀j,j<7→xs[i * 7+j]? =z.cells[j]?
 | [],_,_,_,hi=>absurd hi (Nat.not_lt_zero _)
 |e :: r,xs,h,0,hi=>by
  unfold eQ at h;obtain ⟨c,ys,h1,h2,h3⟩:=h;obtain ⟨z,rfl⟩:=h2.z;exact ⟨z,h2,fun j hj=>by rw [h1,Nat.zero_mul,Nat.zero_add,List.getElem?_append_left (by rw [z.len];exact hj)]⟩
 |e :: r,xs,h,i+1,hi=>by
  unfold eQ at h;obtain ⟨c,ys,h1,h2,h3⟩:=h;obtain ⟨z0,rfl⟩:=h2.z;obtain ⟨z,h4,h5⟩:=h3.get (i:=i) (by simpa using hi);refine ⟨z,h4,fun j hj=>?_⟩;rw [←h5 j hj,h1,List.getElem?_append_right (by rw [z0.len];omega),z0.len]
  congr 1;omega
theorem Gg {w:World} {S:Nat→Prop} {A:Option Addr} {l:List b6} {xs:List Value} (h:Rd w 7 A l.length xs) (hL:eQ w S l xs) {i:Nat} (hi:i<l.length):∃(p:Addr) (z:EC),A=some p∧aY w S l[i] z.cells∧∀(j:Nat) (u:Value),z.cells[j]? =some u→w.cell? ((p.add (i * 7)).add j)=some u:=by
 obtain ⟨z,h1,h2⟩:=hL.get hi;obtain ⟨p,e,hc⟩:=h.2 (by rw [h.1];omega);refine ⟨p,z,e,h1,fun j u hu=>?_⟩;have hj:j<7:=(List.getElem?_eq_some_iff.1 hu).1;rw [jR];exact hc _ _ ((h2 j hj).trans hu)
theorem IM (x:b6):∀l:List b6,ly (l++ [x])=max (ly l) (dB x)
 | []=>by show max (dB x) (ly [])=max (ly []) (dB x);exact Nat.max_comm _ _
 |y :: r=>by
  show max (dB y) (ly (r++ [x]))=max (max (dB y) (ly r)) (dB x);rw [IM x r,Nat.max_assoc]
theorem AO (x:bS):∀l:List bS,iG (l++ [x])=max (iG l) (fa x)
 | []=>by show max (fa x) (iG [])=max (iG []) (fa x);exact Nat.max_comm _ _
 |y :: r=>by
  show max (fa y) (iG (r++ [x]))=max (max (fa y) (iG r)) (fa x);rw [AO x r,Nat.max_assoc]
theorem EB:∀{l:List b6} {i:Nat} (hi:i<l.length),dB l[i]≤ly l
 |y :: r,0,hi=>Nat.le_max_left _ _
 |y :: r,i+1,hi=>Nat.le_trans (EB (l:=r) (i:=i) (by simpa using hi)) (Nat.le_max_right _ _)
theorem AN:∀{l:List bS} {i:Nat} (hi:i<l.length),fa l[i]≤iG l
 |y :: r,0,hi=>Nat.le_max_left _ _
 |y :: r,i+1,hi=>Nat.le_trans (AN (l:=r) (i:=i) (by simpa using hi)) (Nat.le_max_right _ _)
theorem Pf (n:Nat):∀(e:b6) (x:EC) (S:Nat→Prop) (w:World),dB e≤n→n≤1099511627776→aY w S e x.cells→bx Tryz.prog 28 [x.enc] w fun v w'=>v= .int .i64 (dB e:Int)∧Below w.heap.size w w':=by
 induction n using Nat.strongRecOn with
 |ind n ih=>
 intro e x S w hn hn2 hE;obtain ⟨k,nm,v,kids⟩:=e;unfold aY at hE;obtain ⟨A,c,kcs,h1,hR,hS,hL,hk65⟩:=hE;have hc6:x.cells[6]? =some (.slice A kids.length c):=by rw [h1];rfl
 have hdn:ly kids+1≤n:=hn;have hb:=Below.refl w.heap.size w;have dX:=hR;have ce:=hL;refine enter Tryz.func28 rfl rfl rfl<|am fun aR=>gp rfl rfl ?_
 rintro au dJ dH ab aM;have:=aM.size;have hb:=aZ hb aM;have hR:=dX.below hb;have hL:=ce.below hb;have:=ab.lt;refine an rfl<|al aR<|am fun b8=>an rfl<|al b8<|av fun _ fi=>am fun dV=>ae (aP (uA _) rfl) rfl<|aG (aS uY rfl (by exact ab.at (j:=6) hc6)) rfl<|ae (iC j5 (by omega) rfl) rfl<|ai rfl<|al dV<|b4<|d9 (X:=Nat×Nat) (fun (i,d)=> [(3,.int .i64 (d:Int)),(7,.slice A kids.length c),(8,.int .i64 (kids.length:Int)),(9,.int .i64 (i:Int))]) (fun (i,d) wr=>i≤kids.length∧d=ly (kids.take i)∧Below w.heap.size w wr) (fun (i,d)=>kids.length - i) (⟨0,0⟩) ?_ ?_ ?_
 · exact by repeat first|exact aC|refine aA rfl (by first|rfl|exact aH (by omega)) ?_
 · exact ⟨by omega,rfl,hb⟩
 rintro ⟨i,d⟩ wr re _ Cs;replace re:i≤kids.length∧d=ly (kids.take i)∧Below w.heap.size w wr:=re;obtain ⟨hi,hd,hb⟩:=re;show Wc _ _ _ _ _ [(3,.int .i64 (d:Int)),(7,.slice A kids.length c),(8,.int .i64 (kids.length:Int)),(9,.int .i64 (i:Int))] _;have hR:=dX.below hb;have hL:=ce.below hb;have:=hb.size;refine am fun fd=>ae (dL rfl rfl) rfl<|al fd<|av fun _ gH=>aO rfl (fun dD=>?_) (fun dD=>?_)
 ·
  have kx:=dD;simp only [DZ] at dD;have hil:i<kids.length:=by have:=dD;omega
  obtain ⟨p_,z,hpe,hz,hcell⟩:=Gg dX ce hil;subst hpe;have hdk:=EB hil;refine aU<|ax gH<|av fun _ dG=>b4<|am fun fC=>ae (f8 j5 FN rfl rfl (by omega) (by omega)) rfl<|aG (cr b5 (by kernel_rfl) rfl (by exact fun j u hu=>by rw [Int.toNat_natCast];exact ou hb (hcell j u hu))) rfl<|bT (z:=fy) (by kernel_rfl) rfl ?_
  rintro gG tV oF bL ep;have:=ep.size;have hb:=aZ hb ep;have hR:=dX.below hb;have hL:=ce.below hb;have:=bL.lt;refine ba (by kernel_rfl) rfl rfl bL rfl rfl ?_;rintro du bL aF;have:=aF.size;have hb:=cf hb aF hb.size (by omega);have hR:=dX.below hb;have hL:=ce.below hb;refine al fC<|aQ<|ai rfl<|aG (cr b5 (by kernel_rfl) rfl (by exact fun j u hu=>bL.at hu)) rfl<|aD M8 rfl rfl (ih (n - 1) (by omega) kids[i] z S _ (by omega) (by omega) (aY.below hz hb)) rfl ?_
  rintro _ cB ⟨rfl,aw⟩;have:=aw.size;have hb:=aZ hb aw;have hR:=dX.below hb;have hL:=ce.below hb;refine ae (qy rfl rfl) rfl<|an rfl<|ay<|cD<|ax dG<|aQ<|ae (ct rfl rfl (by omega) (by omega)) rfl<|ai rfl<|ay<|fun a_ bM=>Cs _ _ (⟨i+1,max d (dB kids[i])⟩) (by show kids.length - (i+1)<kids.length - i;omega) (by repeat first|exact aC|refine aA rfl (by first|rfl|exact aH (by omega)) ?_) ?_ a_ bM
  exact ⟨by omega,by rw [hd,List.take_succ_eq_append_getElem hil,IM],hb⟩
 have kx:=dD;simp only [DZ] at dD;have hil:i=kids.length:=by have:=dD;omega
 have hd2:d=ly kids:=by rw [hd,hil,List.take_length]
 refine d2<|cj<|cj<|d3<|ax fi<|am fun iJ=>ai rfl<|ae (ct rfl rfl (by omega) (by omega)) rfl<|an rfl<|al iJ<|aJ<|bN rfl rfl ?_
 exact ⟨_,rfl,aH (by rw [hd2];rfl),hb⟩
theorem ads (n:Nat):∀(e:bS) (x:PC) (S:Nat→Prop) (w:World),fa e≤n→n≤1099511627776→bi w S e x.cells→bx Tryz.prog 11 [x.enc] w fun v w'=>v= .int .i64 (fa e:Int)∧Below w.heap.size w w':=by
 induction n using Nat.strongRecOn with
 |ind n ih=>
 intro e x S w hn hn2 hE;obtain ⟨k,var,dir,l,wh,mn,mx,kids⟩:=e;unfold bi at hE;obtain ⟨lc,wc,A,c,kcs,h1,_,_,hR,hS,hL,hk65⟩:=hE;have hc19:x.cells[19]? =some (.slice A kids.length c):=by rw [h1];rfl
 have hdn:iG kids+1≤n:=hn;have hb:=Below.refl w.heap.size w;have dX:=hR;have ce:=hL;refine enter Tryz.func11 rfl rfl rfl<|am fun aR=>gp rfl rfl ?_
 rintro au dJ dH ab aM;have:=aM.size;have hb:=aZ hb aM;have hR:=dX.below hb;have hL:=ce.below hb;have:=ab.lt;refine an rfl<|al aR<|am fun b8=>an rfl<|al b8<|av fun _ fi=>am fun dV=>ae (aP (m3 _) rfl) rfl<|aG (aS m9 rfl (by exact ab.at (j:=19) hc19)) rfl<|ae (iC fO (by omega) rfl) rfl<|ai rfl<|al dV<|b4<|d9 (X:=Nat×Nat) (fun (i,d)=> [(3,.int .i64 (d:Int)),(7,.slice A kids.length c),(8,.int .i64 (kids.length:Int)),(9,.int .i64 (i:Int))]) (fun (i,d) wr=>i≤kids.length∧d=iG (kids.take i)∧Below w.heap.size w wr) (fun (i,d)=>kids.length - i) (⟨0,0⟩) ?_ ?_ ?_
 · exact by repeat first|exact aC|refine aA rfl (by first|rfl|exact aH (by omega)) ?_
 · exact ⟨by omega,rfl,hb⟩
 rintro ⟨i,d⟩ wr re _ Cs;replace re:i≤kids.length∧d=iG (kids.take i)∧Below w.heap.size w wr:=re;obtain ⟨hi,hd,hb⟩:=re;show Wc _ _ _ _ _ [(3,.int .i64 (d:Int)),(7,.slice A kids.length c),(8,.int .i64 (kids.length:Int)),(9,.int .i64 (i:Int))] _;have hR:=dX.below hb;have hL:=ce.below hb;have:=hb.size;refine am fun fd=>ae (dL rfl rfl) rfl<|al fd<|av fun _ gH=>aO rfl (fun dD=>?_) (fun dD=>?_)
 ·
  have kx:=dD;simp only [DZ] at dD;have hil:i<kids.length:=by have:=dD;omega
  obtain ⟨p_,z,hpe,hz,hcell⟩:=An dX ce hil;subst hpe;have hdk:=AN hil;refine aU<|ax gH<|av fun _ dG=>b4<|am fun fC=>ae (f8 fO rI rfl rfl (by omega) (by omega)) rfl<|aG (cr dc (by kernel_rfl) rfl (by exact fun j u hu=>by rw [Int.toNat_natCast];exact ou hb (hcell j u hu))) rfl<|bT (z:=hY) (by kernel_rfl) rfl ?_
  rintro gG tV oF bL ep;have:=ep.size;have hb:=aZ hb ep;have hR:=dX.below hb;have hL:=ce.below hb;have:=bL.lt;refine ba (by kernel_rfl) rfl rfl bL rfl rfl ?_;rintro du bL aF;have:=aF.size;have hb:=cf hb aF hb.size (by omega);have hR:=dX.below hb;have hL:=ce.below hb;refine al fC<|aQ<|ai rfl<|aG (cr dc (by kernel_rfl) rfl (by exact fun j u hu=>bL.at hu)) rfl<|aD Ts rfl rfl (ih (n - 1) (by omega) kids[i] z S _ (by omega) (by omega) (bi.below hz hb)) rfl ?_
  rintro _ cB ⟨rfl,aw⟩;have:=aw.size;have hb:=aZ hb aw;have hR:=dX.below hb;have hL:=ce.below hb;refine ae (qy rfl rfl) rfl<|an rfl<|ay<|cD<|ax dG<|aQ<|ae (ct rfl rfl (by omega) (by omega)) rfl<|ai rfl<|ay<|fun a_ bM=>Cs _ _ (⟨i+1,max d (fa kids[i])⟩) (by show kids.length - (i+1)<kids.length - i;omega) (by repeat first|exact aC|refine aA rfl (by first|rfl|exact aH (by omega)) ?_) ?_ a_ bM
  exact ⟨by omega,by rw [hd,List.take_succ_eq_append_getElem hil,AO],hb⟩
 have kx:=dD;simp only [DZ] at dD;have hil:i=kids.length:=by have:=dD;omega
 have hd2:d=iG kids:=by rw [hd,hil,List.take_length]
 refine d2<|cj<|cj<|d3<|ax fi<|am fun iJ=>ai rfl<|ae (ct rfl rfl (by omega) (by omega)) rfl<|an rfl<|al iJ<|aJ<|bN rfl rfl ?_
 exact ⟨_,rfl,aH (by rw [hd2];rfl),hb⟩
theorem agd:bB Tryz.prog 12:=⟨_,Tryz.func12,by kernel_rfl,rfl⟩
theorem Th:∀{l:List bS} {i:Nat} (hi:i<l.length),j3 l[i]=true→pM l=true
 |y :: r,0,hi,h=>by show (j3 y||pM r)=true;rw [show j3 y=true from h];rfl
 |y :: r,i+1,hi,h=>by show (j3 y||pM r)=true;rw [Th (l:=r) (i:=i) (by simpa using hi) h,Bool.or_true]
theorem Ti:∀{l:List bS},(∀i (hi:i<l.length),j3 l[i]=false)→pM l=false
 | [],_=>rfl
 |y :: r,h=>by
  show (j3 y||pM r)=false;rw [show j3 y=false from h 0 (by simp),Ti (l:=r) fun i hi=>h (i+1) (by simpa using hi)];rfl
theorem U4 (l:List bS) (xs:List Value) (A:Option Addr) (c:Nat) (S:Nat→Prop) (hl:l.length≤65537) (w:World) (hR:Rd w 20 A l.length xs) (hL:dv w S l xs)
 (hf:∀(i:Nat) (hi:i<l.length) (z:PC) (w':World),bi w' S l[i] z.cells→bx Tryz.prog 12 [z.enc] w' fun v w''=>v= .bool (j3 l[i])∧Below w'.heap.size w' w''):
 bx Tryz.prog 50 [.slice A l.length c,.func (.func 12) #[] #[]] w fun v w'=>(∃z,v= .int .i64 z∧(0≤z↔pM l=true))∧Below w.heap.size w w':=by
 have hb:=Below.refl w.heap.size w
 have dX:=hR
 have ce:=hL
 refine enter Tryz.func50 rfl rfl rfl<|am fun aR=>an rfl<|al aR<|av fun _ bt=>am fun b8=>ai rfl<|ae (iC fO (by omega) rfl) rfl<|ai rfl<|al b8<|b4<|d9 (X:=Nat) (fun i=> [(0,.slice A l.length c),(1,.func (.func 12) #[] #[]),(7,.int .i64 (l.length:Int)),(8,.int .i64 (i:Int))]) (fun i wr=>i≤l.length∧(∀j (h:j<l.length),j<i→j3 l[j]=false)∧Below w.heap.size w wr) (fun i=>l.length - i) (0) ?_ ?_ ?_
 · exact by repeat first|exact aC|refine aA rfl (by first|rfl|exact aH (by omega)) ?_
 · exact ⟨by omega,fun j _ h=>by omega,hb⟩
 rintro i wr lI _ si
 replace lI:i≤l.length∧(∀j (h:j<l.length),j<i→j3 l[j]=false)∧Below w.heap.size w wr:=lI
 obtain ⟨hi,hall,hb⟩:=lI
 show Wc _ _ _ _ _ [(0,.slice A l.length c),(1,.func (.func 12) #[] #[]),(7,.int .i64 (l.length:Int)),(8,.int .i64 (i:Int))] _
 have hR:=dX.below hb
 have hL:=ce.below hb
 have:=hb.size
 refine am fun fZ=>ae (dL rfl rfl) rfl<|al fZ<|av fun _ dU=>aO rfl (fun eK=>?_) (fun eK=>?_)
 ·
  have sP:=eK;simp only [DZ] at eK;have hil:i<l.length:=by have:=eK;omega
  obtain ⟨p_,z,hpe,hz,hcell⟩:=An dX ce hil;subst hpe;refine aU<|ax dU<|av fun _ fd=>b4<|am fun eL=>ai rfl<|an rfl<|al eL<|am fun dG=>ai rfl<|ai rfl<|ai rfl<|ae (f8 fO rI rfl rfl (by omega) (by omega)) rfl<|aG (cr dc (by kernel_rfl) rfl (by exact fun j u hu=>by rw [Int.toNat_natCast];exact ou hb (hcell j u hu))) rfl<|dQ agd rfl rfl (tZ (X:=fun _ _=>False) (hf i hil z _ (bi.below hz hb))) rfl (fun v_ cB cc=>?_) (fun c_ cB cg=>?_)
  rotate_left
  ·
   exact cg.elim
  obtain ⟨rfl,aw⟩:=cc;have:=aw.size;have hb:=aZ hb aw;have hR:=dX.below hb;have hL:=ce.below hb;refine al dG<|aO rfl (fun nu=>?_) (fun nu=>?_)
  ·
   have vH:=nu;have hyes:j3 l[i]=true:=vH;refine am fun ju=>ai rfl<|an rfl<|al ju<|aJ<|co (aX (aX (co (aX ?_))))
   refine bN rfl rfl ?_;exact ⟨_,rfl,⟨_,rfl,⟨fun _=>Th hil hyes,fun _=>by omega⟩⟩,hb⟩
  have vH:=nu;have hno:j3 l[i]=false:=vH;refine aU<|cD<|ax fd<|aQ<|ae (ct rfl rfl (by omega) (by omega)) rfl<|ai rfl<|ay<|fun a_ bM=>si _ _ (i+1) (by omega) (by repeat first|exact aC|refine aA rfl (by first|rfl|exact aH (by omega)) ?_) ?_ a_ bM
  exact ⟨by omega,fun j h hj=>by (by_cases e:j=i);(· subst e;exact hno);(· exact hall j h (by omega)),hb⟩
 have sP:=eK
 simp only [DZ] at eK
 refine d2<|cj<|cj<|d3<|ax bt<|am fun k8=>an rfl<|al k8<|aJ<|bN rfl rfl ?_
 exact ⟨_,rfl,⟨_,rfl,⟨fun h=>by omega,fun h=>by rw [Ti fun j hj=>hall j hj (by have:=eK;omega)] at h;cases h⟩⟩,hb⟩
theorem UI (l:List bS) (xs:List Value) (A:Option Addr) (c:Nat) (S:Nat→Prop) (hl:l.length≤65537) (w:World) (hR:Rd w 20 A l.length xs) (hL:dv w S l xs)
 (hf:∀(i:Nat) (hi:i<l.length) (z:PC) (w':World),bi w' S l[i] z.cells→bx Tryz.prog 12 [z.enc] w' fun v w''=>v= .bool (j3 l[i])∧Below w'.heap.size w' w''):
 bx Tryz.prog 29 [.slice A l.length c,.func (.func 12) #[] #[]] w fun v w'=>v= .bool (pM l)∧Below w.heap.size w w':=by
 have hb:=Below.refl w.heap.size w
 have dX:=hR
 have ce:=hL
 refine enter Tryz.func29 rfl rfl rfl<|am fun aR=>an rfl<|al aR<|am fun bt=>ai rfl<|ai rfl<|aD afK rfl rfl (U4 l xs A c S hl _ hR hL hf) rfl ?_
 rintro _ cB ⟨⟨z,rfl,hz⟩,aw⟩
 have:=aw.size
 have hb:=aZ hb aw
 have hR:=dX.below hb
 have hL:=ce.below hb
 refine ae (f7 rfl rfl) rfl<|an rfl<|al bt<|aJ<|bN rfl rfl ?_
 exact ⟨_,rfl,a8 (by rw [Bool.eq_iff_iff];simp [hz]),hb⟩
mutual
def gM:bS→Nat
 | .mk _ _ _ l wh _ _ kids=>max (max (dB l) (dB wh)) (kb kids)
def kb:List bS→Nat
 | []=>0
 |x :: r=>max (gM x) (kb r)
end
theorem IN:∀{l:List bS} {i:Nat} (hi:i<l.length),gM l[i]≤kb l
 |y :: r,0,hi=>Nat.le_max_left _ _
 |y :: r,i+1,hi=>Nat.le_trans (IN (l:=r) (i:=i) (by simpa using hi)) (Nat.le_max_right _ _)
theorem PC.lab (z:PC) {j:Nat} {u:Value} (h:z.l.cells[j]? =some u):z.cells[3+j]? =some u:=by
 have hj:j<7:=(List.getElem?_eq_some_iff.1 h).1;show ([Value.int .i64 z.k,str z.var,.int .i64 z.dir]++(z.l.cells++(z.wh.cells++_)))[3+j]? =_;rw [List.getElem?_append_right (by simp),List.getElem?_append_left (by rw [z.l.len];simp;exact hj)]
 simpa using h
theorem PC.whr (z:PC) {j:Nat} {u:Value} (h:z.wh.cells[j]? =some u):z.cells[10+j]? =some u:=by
 have hj:j<7:=(List.getElem?_eq_some_iff.1 h).1;show ([Value.int .i64 z.k,str z.var,.int .i64 z.dir]++(z.l.cells++(z.wh.cells++_)))[10+j]? =_;rw [List.getElem?_append_right (by simp;omega),List.getElem?_append_right (by rw [z.l.len];simp;omega),List.getElem?_append_left (by rw [z.l.len,z.wh.len];simp;omega),z.l.len,←h]
 congr 1;simp;omega
theorem Yn (n:Nat):∀(e:bS) (x:PC) (S:Nat→Prop) (w:World),fa e≤n→gM e≤1099511627776→bi w S e x.cells→bx Tryz.prog 12 [x.enc] w fun v w'=>v= .bool (j3 e)∧Below w.heap.size w w':=by
 induction n using Nat.strongRecOn with
 |ind n ih=>
 intro e x S w hn hn2 hE;obtain ⟨k,var,dir,l,wh,mn,mx,kids⟩:=e;unfold bi at hE;obtain ⟨lc,wc,A,c,kcs,h1,hEl,hEw,hR,hS,hL,hk65⟩:=hE;have hdn:iG kids+1≤n:=hn;have hdx:max (max (dB l) (dB wh)) (kb kids)≤1099511627776:=hn2;have hT:j3 (.mk k var dir l wh mn mx kids)=(decide (50<dB l)||decide (50<dB wh)||pM kids):=rfl;obtain ⟨z,hz⟩:∃z:PC,z=⟨k,var,dir,lc,wc,mn,mx,A,kids.length,c⟩:=⟨_,rfl⟩;have hzl:z.l=lc:=by rw [hz]
 have hzw:z.wh=wc:=by rw [hz]
 have hx:x.enc=z.enc:=by unfold PC.enc;rw [h1,hz]
 have hc19:z.cells[19]? =some (.slice A kids.length c):=by rw [hz];rfl
 rw [hx];have hb:=Below.refl w.heap.size w;have dX:=hR;have ce:=hL;have sc:=hEl;have sd:=hEw;refine enter Tryz.func12 rfl rfl rfl<|am fun aR=>gp rfl rfl ?_
 rintro au dJ dH ab aM;have:=aM.size;have hb:=aZ hb aM;have hR:=dX.below hb;have hL:=ce.below hb;have hEl:=sc.below hb;have hEw:=sd.below hb;have:=ab.lt;refine an rfl<|al aR<|am fun b8=>ae (aP (y5 _) rfl) rfl<|aG (cr b5 (by kernel_rfl) rfl (by exact fun j u hu=>by rw [jR];exact ab.at (z.lab (by rw [hzl];exact hu)))) rfl<|aD M8 rfl rfl (Pf (dB l) l lc S _ (Nat.le_refl _) (by omega) hEl) rfl ?_
 rintro _ cB ⟨rfl,aw⟩;have:=aw.size;have hb:=aZ hb aw;have hR:=dX.below hb;have hL:=ce.below hb;have hEl:=sc.below hb;have hEw:=sd.below hb;have ab:=ak.below ab aw;refine ae (ed rfl rfl) rfl<|ai rfl<|dy rfl rfl rfl (fun s3=>?_) (fun s3=>?_)
 ·
  refine az rfl rfl s3 rfl rfl<|az rfl rfl s3 rfl rfl<|az rfl rfl s3 rfl rfl<|ae (bo rfl s3 rfl) rfl<|ai rfl<|az rfl rfl rfl rfl rfl<|az rfl rfl rfl rfl rfl<|az rfl rfl rfl rfl rfl<|ae (bo rfl rfl rfl) rfl<|an rfl<|al b8<|aJ<|bN rfl rfl ?_
  exact ⟨_,rfl,a8 (by rw [hT,Bool.eq_iff_iff];simp_all<;>omega),hb⟩
 refine ae (aP (wO _) rfl) rfl<|ap rfl rfl s3<|aG (cr b5 (by kernel_rfl) rfl (by exact fun j u hu=>by rw [jR];exact ab.at (z.whr (by rw [hzw];exact hu)))) rfl<|ap rfl rfl s3<|aD M8 rfl rfl (Pf (dB wh) wh wc S _ (Nat.le_refl _) (by omega) hEw) rfl ?_
 rintro _ cU ⟨rfl,aL⟩;have:=aL.size;have hb:=aZ hb aL;have hR:=dX.below hb;have hL:=ce.below hb;have hEl:=sc.below hb;have hEw:=sd.below hb;have ab:=ak.below ab aL;refine ap rfl rfl s3<|ae (ed rfl rfl) rfl<|ae (bj rfl s3 rfl) rfl<|ai rfl<|dy rfl rfl rfl (fun wV=>?_) (fun wV=>?_)
 ·
  refine az rfl rfl wV rfl rfl<|az rfl rfl wV rfl rfl<|ae (bo rfl wV rfl) rfl<|an rfl<|al b8<|aJ<|bN rfl rfl ?_
  exact ⟨_,rfl,a8 (by rw [hT,Bool.eq_iff_iff];simp_all<;>omega),hb⟩
 refine ae (aP (m3 _) rfl) rfl<|ap rfl rfl wV<|aG (aS m9 rfl (by exact ab.at (j:=19) hc19)) rfl<|ap rfl rfl wV<|aD afE rfl rfl (UI kids kcs A c S hk65 _ hR hL fun i hi z w' hz=>ih (n - 1) (by omega) kids[i] z S w' (by have:=AN hi;omega) (by have:=IN hi;omega) hz) rfl ?_
 rintro _ eP ⟨rfl,a6⟩;have:=a6.size;have hb:=aZ hb a6;have hR:=dX.below hb;have hL:=ce.below hb;have hEl:=sc.below hb;have hEw:=sd.below hb;refine ae (bj rfl wV rfl) rfl<|an rfl<|al b8<|aJ<|bN rfl rfl ?_
 exact ⟨_,rfl,a8 (by rw [hT,Bool.eq_iff_iff];simp_all<;>omega),hb⟩
theorem YT (p:Addr) (w:World):(Instr.fieldAt 43 (.pointer (some p)) 0).run Tryz.prog w= .ok (.pointer (some (p.add 0))) w:=eT (i:=0) (sz:=0) kU rfl (by kernel_rfl) p w
theorem YU (p:Addr) (w:World):(Instr.fieldAt 43 (.pointer (some p)) 1).run Tryz.prog w= .ok (.pointer (some (p.add 1))) w:=eT (i:=1) (sz:=0) kU rfl (by kernel_rfl) p w
theorem iq:One Tryz.prog 34:=⟨_,agr,rfl,by kernel_rfl⟩
abbrev Uq (a e:Int):List PanicEntry:= [{v:= .iface 43 (.agg #[.int .i64 a,.int .i64 e]),recovered:=true}]
theorem Ya (a e:Int) (g0 g1 g2:Nat) (a0 e0:Int) (wA w:World) (hB0:Below wA.heap.size wA w) (h0:wA.heap.size≤g0) (h1:wA.heap.size≤g1) (h2:wA.heap.size≤g2) (h01:g0≠g1) (h02:g0≠g2) (h12:g1≠g2) (hBq:ak w g0 33 (ic 0 0 0 er)) (hBa:ak w g1 3 [.int .i64 a0]) (hBe:ak w g2 34 [.int .i64 e0]):
 CallsD Tryz.prog 9 [ei g0,ei g1,ei g2].toArray (.panicking (Nv a e)) w fun r x w'=>(∃v,r= .returned v∧(ak w' g0 33 (ic 0 0 0 er)∧ak w' g1 3 [.int .i64 a]∧ak w' g2 34 [.int .i64 e])∧Below wA.heap.size wA w')∧x= .panicking (Uq a e):=by
 have hl0:=hBq.lt
 have hl1:=hBa.lt
 have hl2:=hBe.lt
 have hb:=Below.refl wA.heap.size wA
 refine O6 (v:= .iface 43 (.agg #[.int .i64 a,.int .i64 e])) (u':= .panicking (Uq a e)) Tryz.func9 rfl rfl rfl rfl rfl (fun c₀ cs hc=> .inl (by cases c₀;simp only at hc;subst hc;rfl))<|av fun _ aR=>?_
 have hb:=hB0
 refine aQ<|ai rfl<|ae (DV (by kernel_rfl) rfl (.inr ⟨_,_,rfl⟩)) rfl<|al aR<|aO rfl (fun Av=>?_) (fun Av=>?_)
 ·
  refine am fun dC=>ai rfl<|ae (ag4 kU rfl) rfl<|ai rfl<|ae (cu rfl rfl) rfl<|ae (cu rfl rfl) rfl<|bT (z:=(.agg #[(.int .i64 0),(.int .i64 0)])) (by kernel_rfl) rfl ?_
  rintro fJ Ae qf cq gc;have:=gc.size;have hb:=aZ hb gc;have hBq:=ak.below hBq gc;have hBa:=ak.below hBa gc;have hBe:=ak.below hBe gc;have:=cq.lt;refine ba (by kernel_rfl) rfl rfl cq rfl rfl ?_;rintro du cq aF;have:=aF.size;have hb:=cf hb aF hb.size (by omega);have hBq:=hBq.over aF (by omega);have hBa:=hBa.over aF (by omega);have hBe:=hBe.over aF (by omega);refine an rfl<|al dC<|av fun _ eh=>am fun fd=>ai rfl<|ae (jd rfl) rfl<|al fd<|aO rfl (fun yQ=>?_) (fun yQ=>?_)
  ·
   exact absurd yQ (by decide)
  refine aU<|ax eh<|jg (n:=8) (fun w'=>Below wA.heap.size wA w'∧ak w' fJ 43 [.int .i64 a,.int .i64 e]∧(∃c,ak w' g0 33 c)∧(∃c,ak w' g1 3 c)∧∃c,ak w' g2 34 c) #[aj,aj,aj,aj,aj,aj,aj,aj] (by kernel_rfl) rfl (by kernel_rfl)<|jf ?_
  rintro agG tF;have:=tF.size;have hb:=aZ hb tF;have hBq:=ak.below hBq tF;have hBa:=ak.below hBa tF;have hBe:=ak.below hBe tF;have cq:=ak.below cq tF;refine bC (i:=0) #[ah,aj,aj,aj,aj,aj,aj,aj] rfl (by kernel_rfl) bF rfl (fun wq hq=>bU (cC (z:=uR) (pl:=uS) (cs:= [_,_,_,_,_,_,_,_,_,_,_,_,_,_,_,_,_,_,_,_,_,_,_]) e8 (by kernel_rfl) (by kernel_rfl) rfl rfl rfl)) ⟨hb,cq,⟨_,hBq⟩,⟨_,hBa⟩,_,hBe⟩<|bC (i:=1) #[ah,ah,aj,aj,aj,aj,aj,aj] rfl (by kernel_rfl) bF rfl (fun wq hq=>bU (aP (YT _) rfl)) ⟨hb,cq,⟨_,hBq⟩,⟨_,hBa⟩,_,hBe⟩<|bC (i:=2) #[ah,ah,ah,aj,aj,aj,aj,aj] rfl (by kernel_rfl) bF rfl (fun wq hq=>aS b0 rfl (by obtain ⟨hq,cq,⟨_,hBq⟩,⟨_,hBa⟩,_,hBe⟩:=hq;exact cq.at (j:=0) rfl)) ⟨hb,cq,⟨_,hBq⟩,⟨_,hBa⟩,_,hBe⟩<|bC (i:=3) #[ah,ah,ah,ah,aj,aj,aj,aj] rfl (by kernel_rfl) bF rfl (fun wq hq=>bU (aP (YU _) rfl)) ⟨hb,cq,⟨_,hBq⟩,⟨_,hBa⟩,_,hBe⟩<|bC (i:=4) #[ah,ah,ah,ah,ah,aj,aj,aj] rfl (by kernel_rfl) bF rfl (fun wq hq=>aS iq rfl (by obtain ⟨hq,cq,⟨_,hBq⟩,⟨_,hBa⟩,_,hBe⟩:=hq;exact cq.at (j:=1) rfl)) ⟨hb,cq,⟨_,hBq⟩,⟨_,hBa⟩,_,hBe⟩<|cM (rs:= [5]) (by kernel_rfl) rfl<|cO #[ah,ah,ah,ah,ah,ah,aj,aj] rfl rfl (fun _ gr=>?_) ?_
  ·
   refine ba (by kernel_rfl) rfl rfl hBq rfl rfl ?_;rintro ff xW bc;have:=bc.size;have hb:=cf hb bc hb.size (by omega);have hBa:=hBa.over bc (by omega);have hBe:=hBe.over bc (by omega);have cq:=cq.over bc (by omega);have hBq:=xW;refine ay<|cN gr ⟨hb,cq,⟨_,hBq⟩,⟨_,hBa⟩,_,hBe⟩<|cM (rs:= [6]) (by kernel_rfl) rfl<|cO #[ah,ah,ah,ah,ah,ah,ah,aj] rfl rfl (fun _ fT=>?_) ?_
   ·
    refine mZ b0 rfl rfl rfl hBa ?_;rintro gB Lv bz;have:=bz.size;have hb:=cf hb bz hb.size (by omega);have hBq:=hBq.over bz (by omega);have hBe:=hBe.over bz (by omega);have cq:=cq.over bz (by omega);have hBa:=Lv;refine ay<|cN fT ⟨hb,cq,⟨_,hBq⟩,⟨_,hBa⟩,_,hBe⟩<|cM (rs:= [7]) (by kernel_rfl) rfl<|cO #[ah,ah,ah,ah,ah,ah,ah,ah] rfl rfl (fun _ gu=>?_) ?_
    ·
     refine mZ iq rfl rfl rfl hBe ?_;rintro j7 abF cd;have:=cd.size;have hb:=cf hb cd hb.size (by omega);have hBq:=hBq.over cd (by omega);have hBa:=hBa.over cd (by omega);have cq:=cq.over cd (by omega);have hBe:=abF;refine ay<|cN gu ⟨hb,cq,⟨_,hBq⟩,⟨_,hBa⟩,_,hBe⟩<|fB (by kernel_rfl)<|o4 rfl ?_
     exact ⟨_,rfl,⟨hBq,hBa,hBe⟩,hb⟩
    exact cP
   exact cP
  exact cP
 exact absurd Av (by simp [f6])
theorem IK (g0 g1 g2:Nat) (w:World):CallsD Tryz.prog 9 [ei g0,ei g1,ei g2].toArray .returning w fun r x w'=>(∃v,r= .returned v∧w'=w)∧x= .returning:=by
 have hb:=Below.refl w.heap.size w;refine O6 (v:= .nilIface) (u':= .returning) Tryz.func9 rfl rfl rfl rfl rfl (fun c₀ cs hc=> .inr ⟨by cases c₀;simp only at hc;subst hc;rfl,rfl,rfl⟩)<|am fun aR=>ai rfl<|ae (DV (by kernel_rfl) rfl (.inl rfl)) rfl<|al aR<|aO rfl (fun Av=>?_) (fun Av=>?_)
 ·
  exact absurd Av (by simp [f6])
 refine aU<|o4 rfl ?_
 exact ⟨_,rfl,rfl⟩
theorem yV (e:b6):1≤dB e:=by obtain ⟨k,nm,v,kids⟩:=e;show 1≤ly kids+1;omega
def iE (F:Pe):Prop:=∀ts x r,F ts= .ok x r→dB x+r.length≤ts.length
theorem AP (k:Int) (nm:ao) (a b:b6):dB (kT k nm a b)=max (dB a) (dB b)+1:=by
 show max (dB a) (max (dB b) 0)+1=_;rw [Nat.max_zero]
theorem kN {en:Nat} {xs:List (ao)} {ts:List Tok} (h:bv en xs ts=true):ts.tail.length+1=ts.length:=by
 have:=List.length_pos_iff.2 (eB h);rw [List.length_tail];omega
theorem Rf {en:Nat} {F:Pe} {M:ao→b6→b6→b6} {signs:List (ao)} (hF:iE F) (hM:∀s a b,dB (M s a b)=max (dB a) (dB b)+1):∀(n:Nat) (x:b6) (ts:List Tok) (y:b6) (r:List Tok),jJ en F M signs n x ts= .ok y r→dB y+r.length≤dB x+ts.length
 |0,x,ts,y,r,h=>by
  simp only [jJ] at h;injection h with h1 h2
  subst h1 h2;exact Nat.le_refl _
 |n+1,x,ts,y,r,h=>by
  simp only [jJ] at h
  split at h
  · rename_i hi
    have hl:=kN hi
    cases hs:F ts.tail with
    |err a e=>rw [hs] at h;cases h
    |ok z r2=>
     rw [hs] at h;have h1:=hF _ _ _ hs;have h2:=Rf hF hM n _ _ _ _ h;rw [hM] at h2;have:=yV z;have:=yV x;omega
  · injection h with h1 h2
    subst h1 h2;exact Nat.le_refl _
theorem qj {en:Nat} {F:Pe} {M:ao→b6→b6→b6} {signs:List (ao)} (hF:iE F) (hM:∀s a b,dB (M s a b)=max (dB a) (dB b)+1):iE (jK en F M signs):=fun ts x r h=>by
 simp only [jK] at h
 cases hs:F ts with
 |err a e=>rw [hs] at h;cases h
 |ok z r2=>
  rw [hs] at h;have h1:=hF _ _ _ hs;have h2:=Rf hF hM _ _ _ _ _ h;omega
theorem OM (en:Nat) (s:ao):∀ts:List Tok,(ik en s ts).1+(ik en s ts).2.length=ts.length
 | []=>rfl
 |t :: r=>by
  simp only [ik]
  split
  · have:=OM en s r
    simp only [List.length_cons];omega
  · simp
theorem Uv (k:Int) (nm:ao):∀(n:Nat) (x:b6),dB (ku k nm n x)=dB x+n
 |0,x=>rfl
 |n+1,x=>by
  show dB (ku k nm n (.mk k nm ch [x]))=_;rw [Uv k nm n];show max (dB x) 0+1+n=_;rw [Nat.max_zero];omega
theorem zW {en:Nat} {F:Pe} {sign:ao} {k:Int} {nm:ao} (hF:iE F):iE (i8 en sign F k nm):=fun ts x r h=>by
 simp only [i8] at h;have hl:=OM en sign ts
 cases hs:F (ik en sign ts).2 with
 |err a e=>rw [hs] at h;cases h
 |ok z r2=>
  rw [hs] at h;injection h with h1 h2
  subst h1 h2;have h1:=hF _ _ _ hs;rw [Uv];omega
theorem zT {en:Nat} {s:ao} {ts r:List Tok} {t:Tok} (h:eO en s ts= .ok t r):r.length+1=ts.length:=by
 unfold eO at h
 split at h
 · rename_i hi;injection h with h1 h2;subst h2;exact kN hi
 · cases h
theorem QK {en k:Nat} {ts r:List Tok} {t:Tok} (hk:k≠0) (h:mQ en k ts= .ok t r):r.length+1=ts.length:=by
 unfold mQ at h
 split at h
 · rename_i hi
   injection h with h1 h2
   subst h2;have:=List.length_pos_iff.2 (oI hi hk);rw [List.length_tail];omega
 · cases h
theorem Ot {en b:Nat} {one:Nat→Pe} (h1:∀b,iE (one b)):iE (lS en b one):=fun ts x r h=>by
 simp only [lS] at h
 cases ht:eO en [40] ts with
 |err a e=>rw [ht] at h;cases h
 |ok t r1=>
  rw [ht] at h;dsimp only at h
  split at h
  · cases h
  · cases ho:one (b+1) r1 with
    |err a e=>rw [ho] at h;cases h
    |ok y r2=>
     rw [ho] at h;dsimp only at h
     cases h2:eO en [41] r2 with
     |err a e=>rw [h2] at h;cases h
     |ok t3 r3=>
      rw [h2] at h;injection h with h3 h4
      subst h3 h4;have:=zT ht;have:=zT h2;have:=h1 _ _ _ _ ho;omega
theorem L1 (k:Int) (nm:ao) (v:c7):dB (.mk k nm v [])=1:=rfl
theorem LY {en b:Nat} {knot:Nat→Pe} (h1:∀b,iE (knot b)):iE (ir en b knot):=fun ts x r h=>by
 simp only [ir] at h
 split at h
 · exact Ot h1 ts x r h
 · split at h
   · rename_i hi
     injection h with h3 h4
     subst h3 h4;have:=kN hi;rw [L1];omega
   · cases hk:mQ en 1 ts with
     |err a e=>rw [hk] at h;cases h
     |ok t r1=>
      rw [hk] at h;injection h with h3 h4
      subst h3 h4;have:=QK (by decide) hk;rw [L1];omega
theorem CU (en:Nat):∀n b,iE (lT en n b)
 |0,b=>fun ts x r h=>by cases h
 |n+1,b=>qj (qj (zW (LY (CU en n))) fun _ a b=>AP 7 [] a b) fun _ a b=>AP 8 [] a b
theorem Q3 {s:ao} {a:Int} {r r2:List Tok} {x:b6} (h:nf s a r= .ok x r2):dB x=1∧r2=r:=by
 unfold nf at h
 cases hl:uT s with
 |none=>rw [hl] at h;cases h
 |some v=>
  rw [hl] at h;injection h with h3 h4
  subst h3 h4;exact ⟨rfl,rfl⟩
theorem Rw {en:Nat} {s:ao} {ts r:List Tok} {x:b6} (h:oe en s ts= .ok x r):dB x+r.length≤ts.length:=by
 unfold oe at h
 split at h
 · cases h
 · rename_i hn
   obtain ⟨h1,h2⟩:=Q3 h
   have hne:ts≠ []:=by
    by_cases e:(aN en ts).k=3
    · exact oI e (by decide)
    · cases e2:bv en [qv] ts with
      |true=>exact eB e2
      |false=>exact absurd ⟨e,e2⟩ hn
   have:=List.length_pos_iff.2 hne;rw [h1,h2,List.length_tail];omega
theorem Ej {en b:Nat} {knot:Nat→Pe} (h1:∀b,iE (knot b)):iE (fL en b knot):=fun ts x r h=>by
 unfold fL at h
 split at h
 · rename_i hk
   injection h with h3 h4
   subst h3 h4;have:=List.length_pos_iff.2 (oI hk (by decide));rw [L1,List.length_tail];omega
 · split at h
   · exact Ot h1 ts x r h
   · split at h
     · rename_i hk
       obtain ⟨h2,h3⟩:=Q3 h
       have hne:ts≠ []:=by
        rcases hk with hk|hk
        · exact oI hk (by decide)
        · exact eB hk
       have:=List.length_pos_iff.2 hne;rw [h2,h3,List.length_tail];omega
     · split at h
       · rename_i hk
         have:=Rw h;have:=kN hk;omega
       · exact Rw h
theorem tM (s:ao) (a b:b6):dB (hZ s a b)=max (dB a) (dB b)+1:=AP 3 _ a b
theorem MT {en b:Nat} {knot:Nat→Pe} (h1:∀b,iE (knot b)):iE (kq en b knot):=fun ts x r h=>by
 have hS:iE (lU en b knot):=qj (qj (Ej h1) tM) tM;simp only [kq] at h
 cases hs:lU en b knot ts with
 |err a e=>rw [hs] at h;cases h
 |ok y r1=>
  rw [hs] at h;have h2:=hS _ _ _ hs;dsimp only at h
  split at h
  · rename_i hi
    have:=kN hi
    cases hs2:lU en b knot r1.tail with
    |err a e=>rw [hs2] at h;cases h
    |ok z r2=>
     rw [hs2] at h;injection h with h3 h4
     subst h3 h4;have h5:=hS _ _ _ hs2;have:=yV y;have:=yV z;rw [tM];omega
  · split at h
    · rename_i hi
      have:=kN hi
      cases ht2:eO en gi r1.tail with
      |err a e=>rw [ht2] at h;cases h
      |ok t r2=>
       rw [ht2] at h;injection h with h3 h4
       subst h3 h4;have:=zT ht2;show max (dB y) 0+1+_≤_;rw [Nat.max_zero];omega
    · injection h with h3 h4
      subst h3 h4;exact h2
theorem IY (en:Nat):∀n b,iE (pE en n b)
 |0,b=>fun ts x r h=>by cases h
 |n+1,b=>qj (qj (zW (MT (IY en n))) tM) tM
theorem Pq {en n:Nat} {k:Int} {var:ao} {lab:b6} {ts r:List Tok} {x:bS} {m:Nat} (h:kS en n k var lab ts= .ok x r) (hl:dB lab≤m+1) (hm:ts.length≤m):r.length≤ts.length∧fa x=1∧gM x≤m+1:=by
 unfold kS at h
 split at h
 · rename_i hi
   have:=kN hi
   cases he:pE en n 0 ts.tail with
   |err a e=>rw [he] at h;cases h
   |ok y r2=>
    rw [he] at h;injection h with h3 h4
    subst h3 h4;have:=IY en n 0 _ _ _ he;refine ⟨by omega,rfl,?_⟩;show max (max (dB lab) (dB y)) 0≤_;omega
 · injection h with h3 h4
   subst h3 h4;refine ⟨Nat.le_refl _,rfl,?_⟩;show max (max (dB lab) 1) 0≤_;omega
theorem Po {en n:Nat} {k:Int} {var:ao} {ts r:List Tok} {x:bS} {m:Nat} (h:j1 en n k var ts= .ok x r) (hm:ts.length≤m):r.length≤ts.length∧fa x=1∧gM x≤m+1:=by
 unfold j1 at h
 split at h
 · rename_i hi
   have:=kN hi
   cases he:lT en n 0 ts.tail with
   |err a e=>rw [he] at h;cases h
   |ok y r2=>
    rw [he] at h;have:=CU en n 0 _ _ _ he;have h2:=Pq (m:=m) h (by omega) (by omega);exact ⟨by omega,h2.2⟩
 · exact Pq h (by show 1≤_;omega) hm
theorem Pu {en n:Nat} {k:Int} {ts r:List Tok} {x:bS} (h:gh en n k ts= .ok x r):r.length≤ts.length∧fa x=1∧gM x≤ts.length+1:=by
 unfold gh at h
 split at h
 · have hl:ts.tail.length≤ts.length:=by rw [List.length_tail];omega
   have h2:=Po (m:=ts.length) h hl;exact ⟨by omega,h2.2⟩
 · exact Po h (Nat.le_refl _)
def mY (F:List Tok→cn bS):Prop:=∀ts x r,F ts= .ok x r→fa x+r.length≤ts.length∧gM x≤ts.length
theorem SN (d:Int) (x:bS):fa (x.setDir d)=fa x∧gM (x.setDir d)=gM x:=by
 obtain ⟨k,var,dir,l,w,mn,mx,kids⟩:=x;exact ⟨rfl,rfl⟩
theorem adC {en m g:Nat} {knot:Nat→List Tok→cn bS} (h1:∀g,mY (knot g)):mY (gS en m g knot):=fun ts x r h=>by
 unfold gS at h
 split at h
 · cases h
 · rename_i hb
   have hl:=List.length_pos_iff.2 (yM (by simpa using hb));have ht:ts.tail.length+1=ts.length:=by rw [List.length_tail];omega
   split at h
   · cases hf:gh en m 1 ts.tail with
     |err a e=>rw [hf] at h;cases h
     |ok y r2=>
      rw [hf] at h;dsimp only at h
      cases h2:eO en [41] r2 with
      |err a e=>rw [h2] at h;cases h
      |ok t3 r3=>
       rw [h2] at h;injection h with h3 h4
       subst h3 h4;have:=zT h2;have:=Pu hf;omega
   · split at h
     · split at h
       · cases h
       · cases hf:knot (g+1) ts.tail with
         |err a e=>rw [hf] at h;cases h
         |ok y r2=>
          rw [hf] at h;dsimp only at h
          cases h2:eO en [93] r2 with
          |err a e=>rw [h2] at h;cases h
          |ok t3 r3=>
           rw [h2] at h;injection h with h3 h4
           subst h3 h4;have:=zT h2;have:=h1 _ _ _ _ hf;omega
     · split at h
       · injection h with h3 h4
         subst h3 h4;refine ⟨by show 1+_≤_;omega,?_⟩;show max (max 1 1) 0≤_;omega
       · cases hf:gh en m 2 ts.tail with
         |err a e=>rw [hf] at h;cases h
         |ok y r2=>
          rw [hf] at h;dsimp only at h;have:=Pu hf
          split at h
          · cases h
          · split at h
            · rename_i hk
              injection h with h3 h4
              subst h3 h4;have hr:=List.length_pos_iff.2 (oI hk (by decide));rw [(SN _ y).1,(SN _ y).2,List.length_tail];omega
            · cases h
theorem Nw {en:Nat} {a:Int} {ts r:List Tok} {k:Int} (h:gy en a ts= .ok k r):r.length+1=ts.length:=by
 unfold gy at h
 cases hk:mQ en 3 ts with
 |err a e=>rw [hk] at h;cases h
 |ok t r1=>
  rw [hk] at h;dsimp only at h;have:=QK (by decide) hk
  cases hl:uT t.t with
  |none=>rw [hl] at h;cases h
  |some v=>
   rw [hl] at h;dsimp only at h
   split at h
   · injection h with h3 h4;subst h4;exact this
   · cases h
theorem MW {en:Nat} {a mn mx:Int} {ts r:List Tok} {o:Option (Int×Int)} (h:qn en a mn mx ts= .ok o r):r.length+1=ts.length:=by
 unfold qn at h
 cases ht:eO en [125] ts with
 |err a e=>rw [ht] at h;cases h
 |ok t r1=>
  rw [ht] at h;dsimp only at h;have:=zT ht;unfold yp at h
  split at h
  · cases h
  · split at h
    · cases h
    · injection h with h3 h4;subst h4;exact this
theorem aeZ {en:Nat} {ts r:List Tok} {o:Option (Int×Int)} (h:iN en ts= .ok o r):r.length≤ts.length∧(o=none∨r.length+1≤ts.length):=by
 unfold iN at h
 split at h
 · injection h with h3 h4;subst h3 h4;exact ⟨Nat.le_refl _,.inl rfl⟩
 · rename_i h0
   have ht:=kN (show bv en [[42],[43],[63],[123]] ts=true by simpa using h0)
   suffices hh:r.length+1≤ts.length from ⟨by omega,.inr hh⟩
   split at h
   · injection h with h3 h4;subst h4;omega
   · split at h
     · injection h with h3 h4;subst h4;omega
     · split at h
       · injection h with h3 h4;subst h4;omega
       · cases hw:gy en (aN en ts).a ts.tail with
         |err a e=>rw [hw] at h;cases h
         |ok mn r1=>
          rw [hw] at h;have h1:=Nw hw;dsimp only at h;by_cases h4:bv en [[44]] r1=true
          · have ht4:=kN h4
            rw [if_pos h4] at h;by_cases h5:bv en [[125]] r1.tail=true
            · rw [if_pos h5] at h
              have:=MW (show qn en (aN en ts).a mn (-1) r1.tail= .ok o r from h);omega
            · rw [if_neg h5] at h
              cases hw2:gy en (aN en ts).a r1.tail with
              |err a e=>rw [hw2] at h;cases h
              |ok mx r2=>
               rw [hw2] at h;have h6:=Nw hw2;have:=MW (show qn en (aN en ts).a mn mx r2= .ok o r from h);omega
          · rw [if_neg h4] at h
            have:=MW (show qn en (aN en ts).a mn mn r1= .ok o r from h);omega
theorem yW (e:bS):1≤fa e:=by obtain ⟨k,var,d,l,w,mn,mx,kids⟩:=e;show 1≤iG kids+1;omega
theorem IP (x:bS):∀l:List bS,kb (l++ [x])=max (kb l) (gM x)
 | []=>by show max (gM x) (kb [])=max (kb []) (gM x);exact Nat.max_comm _ _
 |y :: r=>by
  show max (gM y) (kb (r++ [x]))=max (max (gM y) (kb r)) (gM x);rw [IP x r,Nat.max_assoc]
theorem LU {en m g:Nat} {knot:Nat→List Tok→cn bS} (h1:∀g,mY (knot g)):mY (fz en m g knot):=fun ts x r h=>by
 unfold fz at h
 cases hp:gS en m g knot ts with
 |err a e=>rw [hp] at h;cases h
 |ok y r1=>
  rw [hp] at h;dsimp only at h;have h2:=adC h1 _ _ _ hp
  cases ht:iN en r1 with
  |err a e=>rw [ht] at h;cases h
  |ok o r2=>
   rw [ht] at h;have h3:=aeZ ht
   cases o with
   |none=>
    injection h with h4 h5
    subst h4 h5;omega
   |some q=>
    obtain ⟨mn,mx⟩:=q;injection h with h4 h5
    subst h4 h5
    have h6:r2.length+1≤r1.length:=by
     rcases h3.2 with h|h
     · cases h
     · exact h
    refine ⟨?_,?_⟩
    · show max (fa y) 0+1+_≤_
      omega
    · show max (max 1 1) (max (gM y) 0)≤_
      have:=yW y;omega
theorem Sq {go:List Tok→Option (List Tok)} {one:List Tok→cn bS} (hgo:∀ts ts',go ts=some ts'→ts'.length≤ts.length) (h1:mY one) (N:Nat):∀(n:Nat) (l:List bS) (ts:List Tok) (l2:List bS) (r:List Tok),gz go one n l ts= .ok l2 r→1≤l.length→1≤iG l→iG l+(l.length - 1)+ts.length≤N→kb l≤N→ts.length≤N→1≤l2.length∧iG l2+(l2.length - 1)+r.length≤N∧kb l2≤N
 |0,l,ts,l2,r,h,ha,hb,hc,hd,he=>by
  simp only [gz] at h;injection h with h3 h4
  subst h3 h4;exact ⟨ha,hc,hd⟩
 |n+1,l,ts,l2,r,h,ha,hb,hc,hd,he=>by
  simp only [gz] at h
  cases hg:go ts with
  |none=>
   rw [hg] at h;injection h with h3 h4
   subst h3 h4;exact ⟨ha,hc,hd⟩
  |some ts'=>
   rw [hg] at h;dsimp only at h;have hl:=hgo _ _ hg
   cases ho:one ts' with
   |err a e=>rw [ho] at h;cases h
   |ok y r1=>
    rw [ho] at h;have h2:=h1 _ _ _ ho;have:=yW y;have hs:(l++ [y]).length=l.length+1:=by rw [List.length_append];rfl
    exact Sq hgo h1 N n _ _ _ _ h (by omega) (by rw [AO];omega) (by rw [AO,hs];omega) (by rw [IP];omega) (by omega)
theorem aeF (k:Int) (l:List bS) (h:1≤l.length):fa (oi k l)≤iG l+(l.length - 1)∧gM (oi k l)≤max 1 (kb l):=by
 cases l with
 |nil=>cases h
 |cons a r=>
  cases r with
  |nil=>
   refine ⟨Nat.le_max_left _ _,?_⟩;show gM a≤max 1 (max (gM a) 0);omega
  |cons b r=>
   refine ⟨?_,?_⟩
   · show iG (a :: b :: r)+1≤iG (a :: b :: r)+(r.length+1+1 - 1)
     omega
   · show max (max 1 1) (kb (a :: b :: r))≤_
     omega
theorem MG {k:Int} {go:List Tok→Option (List Tok)} {one:List Tok→cn bS} (hgo:∀ts ts',go ts=some ts'→ts'.length≤ts.length) (h1:mY one):mY (tN k go one):=fun ts x r h=>by
 unfold tN at h
 cases ho:one ts with
 |err a e=>rw [ho] at h;cases h
 |ok y r1=>
  rw [ho] at h;dsimp only at h;have h2:=h1 _ _ _ ho;have hp:=yW y
  cases hr:gz go one r1.length [y] r1 with
  |err a e=>rw [hr] at h;cases h
  |ok l2 r2=>
   rw [hr] at h;injection h with h4 h5
   subst h4 h5;have e1:iG [y]=fa y:=Nat.max_eq_left (Nat.zero_le _);have e2:kb [y]=gM y:=Nat.max_eq_left (Nat.zero_le _);have h3:=Sq hgo h1 ts.length _ _ _ _ _ hr (Nat.le_refl 1) (by omega) (by rw [e1];show fa y+0+_≤_;omega) (by omega) (by omega);have h6:=aeF k l2 h3.1;omega
theorem My (en m:Nat):∀n g,mY (pF en m n g)
 |0,g=>fun ts x r h=>by cases h
 |n+1,g=>MG (fun ts ts' h=>by
  split at h
  · injection h with h;subst h;rw [List.length_tail];omega
  · cases h) (MG (fun ts ts' h=>by
  split at h
  · injection h with h;subst h;exact Nat.le_refl _
  · cases h) (LU (My en m n)))
theorem Dq (ts:List Tok):ts.tail.length≤ts.length:=by rw [List.length_tail];omega
theorem SL {en:Nat} {ts r:List Tok} {sk:Int×Int} (h:gw en ts= .ok sk r):r.length≤ts.length:=by
 have h1:=Dq ts;have h2:=Dq ts.tail;unfold gw at h
 split at h
 · split at h
   · injection h with h3 h4;subst h4;omega
   · injection h with h3 h4;subst h4;omega
 · split at h
   · injection h with h3 h4;subst h4;omega
   · split at h
     · cases hw:gy en (aN en ts.tail).a ts.tail with
       |err a e=>rw [hw] at h;cases h
       |ok k r1=>
        rw [hw] at h;dsimp only at h;have:=Nw hw
        split at h
        · cases h
        · split at h
          · cases h
          · injection h with h3 h4;subst h4;omega
     · injection h with h3 h4;subst h4;exact Nat.le_refl _
theorem Rj (en:Nat) (ts:List Tok):(j2 en ts).2.length≤ts.length:=by
 unfold j2
 split
 · exact Dq ts
 · exact Nat.le_refl _
theorem R1 {en:Nat} {ts r:List Tok} {q:sM} (h:me en ts= .ok q r):fa q.pat≤ts.length∧gM q.pat≤ts.length:=by
 unfold me at h;have h0:=Rj en ts
 cases hs:gw en (j2 en ts).2 with
 |err a e=>rw [hs] at h;cases h
 |ok sk r1=>
  rw [hs] at h;dsimp only at h;have h1:=SL hs
  cases hp:pF en (ts.length+1) (ts.length+1) 0 r1 with
  |err a e=>rw [hp] at h;cases h
  |ok x r2=>
   rw [hp] at h;dsimp only at h;have h2:=My en _ _ _ _ _ _ hp
   split at h
   · cases h
   · injection h with h3 h4
     subst h3;show fa x≤_∧gM x≤_;omega
theorem Q1 (N:Nat):∀(s:ao) (i:Nat) (l:List Tok),s.length≤N→eJ s i= .ok l→∀t∈l,t.t.length≤s.length:=by
 induction N using Nat.strongRecOn with
 |ind N ih=>
 intro s i l hN h t ht
 cases s with
 |nil=>rw [L7] at h;injection h with h;subst h;cases ht
 |cons c r=>
  cases hb:blank c with
  |true=>
   rw [L5 i hb] at h;have hr:r.length<N:=by simp only [List.length_cons] at hN;omega
   have:=ih r.length hr r (i+1) l (Nat.le_refl _) h t ht;simp only [List.length_cons];omega
  |false=>
   by_cases h0:(dP (c :: r)).1=0
   · rw [L4 i hb h0] at h;cases h
   · rw [L8 i hb h0] at h
     have hn:=Ds (c :: r) (by simp);have hd:((c :: r).drop (dP (c :: r)).2).length<N:=by rw [List.length_drop];simp only [List.length_cons] at hN ⊢;omega
     cases hl:eJ ((c :: r).drop (dP (c :: r)).2) (i+(dP (c :: r)).2) with
     |error e=>rw [hl] at h;cases h
     |ok l2=>
      rw [hl] at h;injection h with h
      subst h
      rcases List.mem_cons.1 ht with rfl|ht
      · rw [List.length_take];exact Nat.min_le_right _ _
      · have:=ih _ hd _ _ _ (Nat.le_refl _) hl t ht
        rw [List.length_drop] at this;omega
theorem afg:bB Tryz.prog 10:=⟨_,Tryz.func10,by kernel_rfl,rfl⟩
theorem afl:bB Tryz.prog 12:=⟨_,Tryz.func12,by kernel_rfl,rfl⟩
theorem af6:bB Tryz.prog 8:=⟨_,Tryz.func8,by kernel_rfl,rfl⟩
theorem Q0 {s:ao} {v:Value} {w':World} (h:D1 s v w'):∃(A:Option Addr) (n c:Nat) (a e:Int),v= .tuple #[.slice A n c,.int .i64 a,.int .i64 e]∧((e≠0∧kr s=(lQ,a,e))∨(e=0∧∃l,n=l.length∧s.length≤65536∧eJ s 0= .ok l∧kr s=pH s.length l∧l.length≤65536∧l.length≤c∧Rd w' 3 A l.length (l.flatMap Tok.cells)∧∀q,A=some q→q.block<w'.heap.size)):=by
 rcases h with ⟨h,hv⟩|⟨h,i,he,hv⟩|⟨h,l,A,c,he,hv,h1,h2,h3,h4⟩
 · exact ⟨none,0,0,0,6,hv,.inl ⟨by decide,by unfold kr;rw [if_pos h]⟩⟩
 · exact ⟨none,0,0,i,2,hv,.inl ⟨by decide,by unfold kr;rw [if_neg (by omega),he]⟩⟩
 · exact ⟨A,l.length,c,0,0,hv,.inr ⟨rfl,l,rfl,h,he,by unfold kr;rw [if_neg (by omega),he],h1,h2,h3,h4⟩⟩
theorem U9 (s:ao) (hs:s.length≤70368744177664) (w:World) (hX:Lx w):bx Tryz.prog 8 [str s] w fun v w'=>(∃(A:Option Addr) (l:List Tok) (c:Nat) (a e:Int),v= .tuple #[.slice A l.length c,.int .i64 a,.int .i64 e]∧Rd w' 3 A l.length (l.flatMap Tok.cells)∧(∀q,A=some q→q.block<w'.heap.size)∧((e≠0∧kr s=(lQ,a,e))∨(e=0∧s.length≤65536∧eJ s 0= .ok l∧kr s=pH s.length l∧l.length≤65536∧l.length≤c)))∧Below w.heap.size w w':=
 (Va s hs w hX).mono fun v w' ⟨h,h2⟩=>by
  refine ⟨?_,h2⟩;obtain ⟨A,n,c,a,e,hv,h3⟩:=Q0 h
  rcases h3 with ⟨h4,h5⟩|⟨h4,l,hn,h5,h6,h7,h8,h9,h10,h11⟩
  · rcases h with ⟨_,hv2⟩|⟨_,i,_,hv2⟩|⟨_,l,A',c',_,hv2,_⟩
    · rw [hv] at hv2;cases hv2
      exact ⟨none,[],0,_,_,hv,Rd.nil _ _ _,(fun q e=>by cases e),.inl ⟨h4,h5⟩⟩
    · rw [hv] at hv2;cases hv2
      exact ⟨none,[],0,_,_,hv,Rd.nil _ _ _,(fun q e=>by cases e),.inl ⟨h4,h5⟩⟩
    · rw [hv] at hv2;cases hv2;exact absurd rfl h4
  · subst hn
    exact ⟨A,l,c,a,e,hv,h10,h11,.inr ⟨h4,h5,h6,h7,h8,h9⟩⟩
theorem NU {w w':World} {A:Option Addr} {l:List Tok} {g:Nat} {t:TypeId} {v:Value} (h:Rd w 3 A l.length (l.flatMap Tok.cells)) (hB:ak w g t [v]) (hg:w.grownBy w' (some g)):Rd w' 3 A l.length (l.flatMap Tok.cells):=by
 rcases Nat.eq_zero_or_pos l.length with h0|h0
 · have:l= []:=List.length_eq_zero_iff.1 h0
   subst this;exact Rd.nil _ _ _
 · refine h.kp hg fun q e hq=>?_
   subst e;obtain ⟨p,hp,hc⟩:=Rd.tok h h0
   cases hp
   have h1:=hc 1 (str (l[0]).t) rfl;obtain ⟨b,o,x⟩:=q
   cases hq
   rw [jR] at h1
   cases x with
   |none=>
    have h2:w.cell? ⟨b,o+(0 * 3+1),none⟩= [v][o+(0 * 3+1)]? :=hB.cell _;rw [show ((⟨b,o,none⟩:Addr).add (0 * 3+1))=⟨b,o+(0 * 3+1),none⟩ from rfl,h2] at h1;simp at h1
   |some x=>
    have h2:w.heap[b]? =some (.cells #[v] t (0,0)):=hB;simp [World.cell?,Addr.add,h2] at h1
theorem FW:bB Tryz.prog 9:=⟨_,Tryz.func9,by kernel_rfl,rfl⟩
def NP (B:Nat) (s:ao) (v:Value) (w:World):Prop:=∃(q:sM) (a e:Int) (z:PC) (S:Nat→Prop),kr s=(q,a,e)∧v= .tuple #[.agg (ic q.mode q.sel q.kk z).toArray,.int .i64 a,.int .i64 e]∧bi w S q.pat z.cells∧∀k,S k→B≤k∧k<w.heap.size
theorem ql (w:World):bi w (fun _=>False) oJ er.cells:=vd (kQ w _) (kQ w _)
theorem zK (a b c:Int) (z:PC) {j:Nat} {u:Value} (h:z.cells[j]? =some u):(ic a b c z)[3+j]? =some u:=by
 show ([Value.int .i64 a,.int .i64 b,.int .i64 c]++z.cells)[3+j]? =_;rw [List.getElem?_append_right (by simp)];simpa using h
set_option maxHeartbeats 400000 in
theorem Vh (s:ao) (hs:s.length≤70368744177664) (wA:World) (hX:Lx wA):bx Tryz.prog 5 [str s] wA fun v w'=>NP wA.heap.size s v w'∧Below wA.heap.size wA w':=by
 have hb:=Below.refl wA.heap.size wA;have eo:=hX;refine IV Tryz.func5 rfl rfl rfl<|fg fun _ aR=>aQ<|bT (z:=sr) (by kernel_rfl) rfl ?_
 rintro au dJ dH ab aM;have:=aM.size;have hb:=aZ hb aM;have hX:=eo.below hb;have:=ab.lt;refine bT (z:=(.int .i64 0)) (by kernel_rfl) rfl ?_;rintro cV mU mK aq cT;have:=cT.size;have hb:=aZ hb cT;have hX:=eo.below hb;have ab:=ak.below ab cT;have:=aq.lt;refine bT (z:=(.int .i64 0)) (by kernel_rfl) rfl ?_;rintro dq ks jH aE ck;have:=ck.size;have hb:=aZ hb ck;have hX:=eo.below hb;have ab:=ak.below ab ck;have aq:=ak.below aq ck;have:=aE.lt;refine ay<|e9 aR<|fg fun _ dC=>aQ<|ai rfl<|aD af6 rfl rfl (U9 s hs _ hX) rfl ?_
 rintro _ cB ⟨⟨A,l,c,a,e,rfl,hR,hA,hlx⟩,aw⟩;have:=aw.size;have hb:=aZ hb aw;have hX:=eo.below hb;have ab:=ak.below ab aw;have aq:=ak.below aq aw;have aE:=ak.below aE aw;refine ai rfl<|ae (cu rfl rfl) rfl<|ae (cu rfl rfl) rfl<|ae (cu rfl rfl) rfl<|an rfl ?_
 have Zm:=aq;refine mZ b0 rfl rfl rfl aq ?_;rintro du aq aF;have:=aF.size;have hb:=cf hb aF hb.size (by omega);have hX:=eo.below hb;have ab:=ab.over aF (by omega);have aE:=aE.over aF (by omega);have hR:=NU hR Zm aF;have Zn:=aE;refine mZ iq rfl rfl rfl aE ?_;rintro ff aE bc;have:=bc.size;have hb:=cf hb bc hb.size (by omega);have hX:=eo.below hb;have ab:=ab.over bc (by omega);have aq:=aq.over bc (by omega);refine ay<|e9 dC<|fg fun _ eh=>fg fun _ fd=>?_
 have hR:=NU hR Zn bc;refine aQ<|aG (aS iq rfl (by exact aE.at (j:=0) rfl)) rfl<|ae (fG rfl rfl) rfl<|ay<|e9 fd<|aO rfl (fun dD=>?_) (fun dD=>?_)
 ·
  have kx:=dD;simp only [DZ] at dD;have he:e≠0:=by have:=dD;simpa using this
  have hpv:kr s=(lQ,a,e):=by rcases hlx with h|h;(· exact h.2);(· exact absurd h.1 he)
  refine fg fun _ dG=>jg (n:=6) (fun w'=>Below wA.heap.size wA w'∧ak w' au 33 (ic 0 0 0 er)∧ak w' cV 3 [.int .i64 a]∧ak w' dq 34 [.int .i64 e]) #[aj,aj,aj,aj,aj,aj] (by kernel_rfl) rfl (by kernel_rfl)<|jf ?_
  rintro Ui rB;have:=rB.size;have hb:=aZ hb rB;have hX:=eo.below hb;have ab:=ak.below ab rB;have aq:=ak.below aq rB;have aE:=ak.below aE rB;refine bC (i:=0) #[ah,aj,aj,aj,aj,aj] rfl (by kernel_rfl) (fun _ _ _ h=>L2 rfl rfl rfl rfl h) rfl (fun wq hq=>cr e8 (by kernel_rfl) rfl (by obtain ⟨hq,ab,aq,aE⟩:=hq;exact fun j u hu=>ab.at hu)) ⟨hb,ab,aq,aE⟩<|bC (i:=1) #[ah,ah,aj,aj,aj,aj] rfl (by kernel_rfl) (fun _ _ _ h=>L2 rfl rfl rfl rfl h) rfl (fun wq hq=>aS b0 rfl (by obtain ⟨hq,ab,aq,aE⟩:=hq;exact aq.at (j:=0) rfl)) ⟨hb,ab,aq,aE⟩<|bC (i:=2) #[ah,ah,ah,aj,aj,aj] rfl (by kernel_rfl) (fun _ _ _ h=>L2 rfl rfl rfl rfl h) rfl (fun wq hq=>aS iq rfl (by obtain ⟨hq,ab,aq,aE⟩:=hq;exact aE.at (j:=0) rfl)) ⟨hb,ab,aq,aE⟩<|cM (rs:= [3]) (by kernel_rfl) rfl<|qB #[ah,ah,ah,ah,aj,aj] rfl rfl (fun _ kh=>?_) ?_
  ·
   refine ba (by kernel_rfl) rfl rfl ab rfl rfl ?_;rintro gB ab bz;have:=bz.size;have hb:=cf hb bz hb.size (by omega);have hX:=eo.below hb;have aq:=aq.over bz (by omega);have aE:=aE.over bz (by omega);refine ay<|qA kh ⟨hb,ab,aq,aE⟩<|cM (rs:= [4]) (by kernel_rfl) rfl<|qB #[ah,ah,ah,ah,ah,aj] rfl rfl (fun _ gr=>?_) ?_
   ·
    refine mZ b0 rfl rfl rfl aq ?_;rintro j7 aq cd;have:=cd.size;have hb:=cf hb cd hb.size (by omega);have hX:=eo.below hb;have ab:=ab.over cd (by omega);have aE:=aE.over cd (by omega);refine ay<|qA gr ⟨hb,ab,aq,aE⟩<|cM (rs:= [5]) (by kernel_rfl) rfl<|qB #[ah,ah,ah,ah,ah,ah] rfl rfl (fun _ fT=>?_) ?_
    ·
     refine mZ iq rfl rfl rfl aE ?_;rintro kW aE cx;have:=cx.size;have hb:=cf hb cx hb.size (by omega);have hX:=eo.below hb;have ab:=ab.over cx (by omega);have aq:=aq.over cx (by omega);refine ay<|qA fT ⟨hb,ab,aq,aE⟩<|fB (by kernel_rfl)<|e9 dG<|aJ<|aX<|Ec<|bQ (rs:= [.cell 2 33,.cell 3 3,.cell 4 34]) (vs:= [_,_,_]) rfl (.cell rfl (bP e8 (by kernel_rfl) (fun j u hu=>ab.at hu)) (.cell rfl (ss b0 (aq.at (j:=0) rfl)) (.cell rfl (ss iq (aE.at (j:=0) rfl)) .nil))) ?_
     exact ⟨_,rfl,⟨lQ,a,e,er,_,hpv,rfl,ql _,fun k h=>h.elim⟩,hb⟩
    exact cP
   exact cP
  exact cP
 have kx:=dD;simp only [DZ] at dD;have he:e=0:=by have:=dD;simpa using this
 obtain ⟨hs65,hlv,hpv,hl65,hlc⟩:s.length≤65536∧eJ s 0= .ok l∧kr s=pH s.length l∧l.length≤65536∧l.length≤c:=by rcases hlx with h|h;(· exact absurd he h.1);(· exact h.2)
 refine aU<|e9 eh<|fg fun _ gu=>aQ<|ae (nj rfl rfl) rfl<|Gn rfl rfl<|ay<|e9 gu<|fg fun _ ki=>aQ<|ai rfl<|ai rfl<|ae (ez bI (by omega) rfl) rfl<|ae (cC (z:= [(.slice none 0 0),(.int .i64 0)]) (pl:= [(0,1),(1,1)]) (cs:= [_,_]) Tryz.underlying47 (by kernel_rfl) (by kernel_rfl) rfl rfl rfl) rfl<|ae (cC (z:= [(.slice none 0 0),(.int .i64 0),(.int .i64 0),(.int .i64 0)]) (pl:= [(0,2),(2,1),(3,1)]) (cs:= [_,_,_,_]) FZ (by kernel_rfl) (by kernel_rfl) rfl rfl rfl) rfl<|gp rfl rfl ?_
 rintro Jj Nr xR p9 rC;have:=rC.size;have hb:=aZ hb rC;have hX:=eo.below hb;have ab:=ak.below ab rC;have aq:=ak.below aq rC;have aE:=ak.below aE rC;have hR:=Rd.below hR rC;have:=p9.lt;have hP:be Nr Jj s.length l 0 0:=⟨⟨A,c,hlc,hl65,p9,hR,fun q e=>by have:=hA q e;omega⟩,hX.lb,eo.lb.gl.mono (by omega),fun t ht=>Nat.le_trans (Q1 _ s 0 l (Nat.le_refl _) hlv t ht) hs65⟩;refine dQ afg rfl rfl (adJ Jj s.length l _ hP) rfl (fun v_ cU cc=>?_) (fun c_ cU cg=>?_)
 rotate_left
 ·
  obtain ⟨pW,p4,kF,rfl,lg,aL⟩:=cg;have i7:=aL.size;have hb:=hb.trans (Kp.below aL (by omega) hb.size);have hX:=eo.below hb;have ab:=ab.kp aL (by omega);have aq:=aq.kp aL (by omega);have aE:=aE.kp aL (by omega);refine cJ<|WM FW (Ya pW p4 au cV dq _ _ wA _ hb (by omega) (by omega) (by omega) (by omega) (by omega) (by omega) ab aq aE) (fun w_d hS=>?_)
  obtain ⟨⟨ab,aq,aE⟩,hb⟩:=hS;refine bQ (rs:= [.cell 2 33,.cell 3 3,.cell 4 34]) (vs:= [_,_,_]) rfl (.cell rfl (bP e8 (by kernel_rfl) (fun j u hu=>ab.at hu)) (.cell rfl (ss b0 (aq.at (j:=0) rfl)) (.cell rfl (ss iq (aE.at (j:=0) rfl)) .nil))) ?_;exact ⟨_,rfl,⟨lQ,pW,p4,er,_,by rw [hpv];unfold pH;rw [kF],rfl,ql _,fun k h=>h.elim⟩,hb⟩
 obtain ⟨⟨q,r,hF,⟨z,Sz,rfl,hz,aT⟩,hPr,hrl⟩,aL⟩:=cc;have i7:=aL.size;have hb:=hb.trans (Kp.below aL (by omega) hb.size);have hX:=eo.below hb;have ab:=ab.kp aL (by omega);have aq:=aq.kp aL (by omega);have aE:=aE.kp aL (by omega);have hth:=R1 hF;refine ba (by kernel_rfl) rfl rfl ab rfl rfl ?_;rintro mV ab cS;have:=cS.size;have hb:=cf hb cS hb.size (by omega);have hX:=eo.below hb;have aq:=aq.over cS (by omega);have aE:=aE.over cS (by omega);have hz:=bi.kp hz cS (fun h_=>by have bh:=aT _ h_;first|omega|(rcases bh with dK|dK;(have kg:=hS _ dK;omega);omega));refine ay<|e9 ki<|fg fun _ gI=>fg fun _ iW=>aQ<|ae (aP (uB _) rfl) rfl<|aG (cr dc (by kernel_rfl) rfl (by exact fun j u hu=>by rw [jR];exact ab.at (zK _ _ _ _ hu))) rfl<|aD Ts rfl rfl (ads (fa q.pat) q.pat z Sz _ (Nat.le_refl _) (by omega) hz) rfl ?_
 rintro _ eP ⟨rfl,a6⟩;have:=a6.size;have hb:=aZ hb a6;have hX:=eo.below hb;have ab:=ak.below ab a6;have aq:=ak.below aq a6;have aE:=ak.below aE a6;have hz:=bi.below hz a6;refine ae (ed rfl rfl) rfl<|ai rfl<|dy rfl rfl rfl (fun fX=>?_) (fun fX=>?_)
 ·
  have iI:=fX;simp only [DZ] at fX;have hpos:50<fa q.pat∨j3 q.pat=true:= .inl (by have:=fX;omega);refine az rfl rfl iI rfl rfl<|az rfl rfl iI rfl rfl<|ae (bo rfl iI rfl) rfl<|ay<|e9 iW<|yI rfl rfl<|fg fun _ lf=>aQ<|ae (cC (z:=uR) (pl:=uS) (cs:= [_,_,_,_,_,_,_,_,_,_,_,_,_,_,_,_,_,_,_,_,_,_,_]) e8 (by kernel_rfl) (by kernel_rfl) rfl rfl rfl) rfl<|ba (by kernel_rfl) rfl rfl ab rfl rfl ?_
  rintro mW ab df;have LL:=df.size;have hb:=cf hb df hb.size (by omega);have hX:=eo.below hb;have aq:=aq.over df (by omega);have aE:=aE.over df (by omega);have hz:=bi.kp hz df (fun h_=>by have bh:=aT _ h_;first|omega|(rcases bh with dK|dK;(have kg:=hS _ dK;omega);omega));refine mZ b0 rfl rfl rfl aq ?_;rintro mi aq cF;have zq:=cF.size;have hb:=cf hb cF hb.size (by omega);have hX:=eo.below hb;have ab:=ab.over cF (by omega);have aE:=aE.over cF (by omega);have hz:=bi.kp hz cF (fun h_=>by have bh:=aT _ h_;first|omega|(rcases bh with dK|dK;(have kg:=hS _ dK;omega);omega));refine mZ iq rfl rfl rfl aE ?_;rintro rO aE dw;have LM:=dw.size;have hb:=cf hb dw hb.size (by omega);have hX:=eo.below hb;have ab:=ab.over dw (by omega);have aq:=aq.over dw (by omega);have hz:=bi.kp hz dw (fun h_=>by have bh:=aT _ h_;first|omega|(rcases bh with dK|dK;(have kg:=hS _ dK;omega);omega));refine ay<|e9 lf<|aJ<|aX<|Gs FW (IK au cV dq _) (fun w_d hS=>?_)
  subst hS;refine bQ (rs:= [.cell 2 33,.cell 3 3,.cell 4 34]) (vs:= [_,_,_]) rfl (.cell rfl (bP e8 (by kernel_rfl) (fun j u hu=>ab.at hu)) (.cell rfl (ss b0 (aq.at (j:=0) rfl)) (.cell rfl (ss iq (aE.at (j:=0) rfl)) .nil))) ?_;exact ⟨_,rfl,⟨lQ,0,6,er,_,by rw [hpv];unfold pH;rw [hF];exact if_pos hpos,rfl,ql _,fun k h=>h.elim⟩,hb⟩
 have iI:=fX;simp only [DZ] at fX;have hdp:¬50<fa q.pat:=by have:=fX;omega
 refine ae (aP (uB _) rfl) rfl<|ap rfl rfl iI<|aG (cr dc (by kernel_rfl) rfl (by exact fun j u hu=>by rw [jR];exact ab.at (zK _ _ _ _ hu))) rfl<|ap rfl rfl iI<|aD afl rfl rfl (Yn (fa q.pat) q.pat z Sz _ (Nat.le_refl _) (by omega) hz) rfl ?_
 rintro _ fj ⟨rfl,bk⟩;have:=bk.size;have hb:=aZ hb bk;have hX:=eo.below hb;have ab:=ak.below ab bk;have aq:=ak.below aq bk;have aE:=ak.below aE bk;have hz:=bi.below hz bk;refine ae (bj rfl iI rfl) rfl<|ay<|e9 iW<|aO rfl (fun qF=>?_) (fun qF=>?_)
 ·
  have AA:=qF;have hpos:50<fa q.pat∨j3 q.pat=true:= .inr AA;refine fg fun _ m6=>aQ<|ae (cC (z:=uR) (pl:=uS) (cs:= [_,_,_,_,_,_,_,_,_,_,_,_,_,_,_,_,_,_,_,_,_,_,_]) e8 (by kernel_rfl) (by kernel_rfl) rfl rfl rfl) rfl<|ba (by kernel_rfl) rfl rfl ab rfl rfl ?_
  rintro mW ab df;have LL:=df.size;have hb:=cf hb df hb.size (by omega);have hX:=eo.below hb;have aq:=aq.over df (by omega);have aE:=aE.over df (by omega);have hz:=bi.kp hz df (fun h_=>by have bh:=aT _ h_;first|omega|(rcases bh with dK|dK;(have kg:=hS _ dK;omega);omega));refine mZ b0 rfl rfl rfl aq ?_;rintro mi aq cF;have zq:=cF.size;have hb:=cf hb cF hb.size (by omega);have hX:=eo.below hb;have ab:=ab.over cF (by omega);have aE:=aE.over cF (by omega);have hz:=bi.kp hz cF (fun h_=>by have bh:=aT _ h_;first|omega|(rcases bh with dK|dK;(have kg:=hS _ dK;omega);omega));refine mZ iq rfl rfl rfl aE ?_;rintro rO aE dw;have LM:=dw.size;have hb:=cf hb dw hb.size (by omega);have hX:=eo.below hb;have ab:=ab.over dw (by omega);have aq:=aq.over dw (by omega);have hz:=bi.kp hz dw (fun h_=>by have bh:=aT _ h_;first|omega|(rcases bh with dK|dK;(have kg:=hS _ dK;omega);omega));refine ay<|e9 m6<|aJ<|aX<|Gs FW (IK au cV dq _) (fun w_d hS=>?_)
  subst hS;refine bQ (rs:= [.cell 2 33,.cell 3 3,.cell 4 34]) (vs:= [_,_,_]) rfl (.cell rfl (bP e8 (by kernel_rfl) (fun j u hu=>ab.at hu)) (.cell rfl (ss b0 (aq.at (j:=0) rfl)) (.cell rfl (ss iq (aE.at (j:=0) rfl)) .nil))) ?_;exact ⟨_,rfl,⟨lQ,0,6,er,_,by rw [hpv];unfold pH;rw [hF];exact if_pos hpos,rfl,ql _,fun k h=>h.elim⟩,hb⟩
 have AA:=qF;have hneg:¬(50<fa q.pat∨j3 q.pat=true):=fun h=>h.elim hdp (fun h=>by have h2:=AA;rw [h] at h2;cases h2);refine aU<|e9 gI<|fg fun _ lM=>aQ<|aG (cr e8 (by kernel_rfl) rfl (by exact fun j u hu=>ab.at hu)) rfl<|ba (by kernel_rfl) rfl rfl ab rfl rfl ?_
 rintro oj ab bO;have:=bO.size;have hb:=cf hb bO hb.size (by omega);have hX:=eo.below hb;have aq:=aq.over bO (by omega);have aE:=aE.over bO (by omega);have hz:=bi.kp hz bO (fun h_=>by have bh:=aT _ h_;first|omega|(rcases bh with dK|dK;(have kg:=hS _ dK;omega);omega));refine mZ b0 rfl rfl rfl aq ?_;rintro DS aq gJ;have:=gJ.size;have hb:=cf hb gJ hb.size (by omega);have hX:=eo.below hb;have ab:=ab.over gJ (by omega);have aE:=aE.over gJ (by omega);have hz:=bi.kp hz gJ (fun h_=>by have bh:=aT _ h_;first|omega|(rcases bh with dK|dK;(have kg:=hS _ dK;omega);omega));refine mZ iq rfl rfl rfl aE ?_;rintro Uo aE l9;have:=l9.size;have hb:=cf hb l9 hb.size (by omega);have hX:=eo.below hb;have ab:=ab.over l9 (by omega);have aq:=aq.over l9 (by omega);have hz:=bi.kp hz l9 (fun h_=>by have bh:=aT _ h_;first|omega|(rcases bh with dK|dK;(have kg:=hS _ dK;omega);omega));refine ay<|e9 lM<|aJ<|Gs FW (IK au cV dq _) (fun w_d hS=>?_)
 subst hS;refine bQ (rs:= [.cell 2 33,.cell 3 3,.cell 4 34]) (vs:= [_,_,_]) rfl (.cell rfl (bP e8 (by kernel_rfl) (fun j u hu=>ab.at hu)) (.cell rfl (ss b0 (aq.at (j:=0) rfl)) (.cell rfl (ss iq (aE.at (j:=0) rfl)) .nil))) ?_;exact ⟨_,rfl,⟨q,0,0,z,Sz,by rw [hpv];unfold pH;rw [hF];exact if_neg hneg,rfl,hz,fun k hk=>by have:=aT k hk;omega⟩,hb⟩
end Go.Proofs.YtjdjliiolchciaaGreatDoor
