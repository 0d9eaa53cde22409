import Derived.Test.YtjdjliiolchciaaGreatDoorZR2
import Derived.Test.YtjdjliiolchciaaGreatDoorZLawL
import Derived.Test.YtjdjliiolchciaaGreatDoorZLawB2
namespace Go.Proofs.YtjdjliiolchciaaGreatDoor
open Go.RowKit Go.Bw Go.Bw.Fl
set_option linter.unusedVariables false
set_option linter.unusedSimpArgs false
theorem M9:bB Tryz.prog 34:=⟨_,Tryz.func34,by kernel_rfl,rfl⟩
theorem afW:bB Tryz.prog 76:=⟨_,Tryz.func76,by kernel_rfl,rfl⟩
def s2:List (ao):= [[42],[43],[63],[123]]
def qP (mn mx:Int) (x:bS):bS:= .mk 5 [] 0 eC eC mn mx [x]
noncomputable def oG (en:Nat) (x:bS) (r:List Tok):cn bS:=match iN en r with
 | .err a e=> .err a e
 | .ok none r2=> .ok x r2
 | .ok (some (mn,mx)) r2=> .ok (qP mn mx x) r2
theorem adp (en m g:Nat) (knot:Nat→List Tok→cn bS):fz en m g knot=fun ts=>eI (gS en m g knot ts) (oG en):=by
 funext ts
 unfold fz
 cases gS en m g knot ts with
 |err a e=>rfl
 |ok x r=>
  show _=oG en x r;unfold oG;dsimp only
  cases iN en r with
  |err a e=>rfl
  |ok o r2=>cases o with
   |none=>rfl
   |some q=>rfl
noncomputable def pD (en:Nat) (a mn:Int) (r:List Tok):cn Int:=if bv en [[44]] r=true then (if bv en [[125]] r.tail=true then .ok (-1) r.tail else gy en a r.tail) else .ok mn r
def rM (a mn mx:Int) (x:bS) (r:List Tok):cn bS:=if (0≤mx∧mx<mn)∨mx=0 then .err a 2 else if 20<max mn mx then .err a 6 else .ok (qP mn mx x) r
theorem acd {en:Nat} {x:bS} {σ:Sg} (h:eZ en s2 σ=false):bR σ (oG en x)=dZ x σ:=by
 cases σ with
 |err a e=>rfl
 |ok u r=>
  show oG en x r= .ok x r;unfold oG iN;rw [if_pos (show bv en [[42],[43],[63],[123]] r=false from h)]
theorem LS {en:Nat} {x:bS} {r:List Tok} (h:bv en s2 r=true) (hb:(aN en r).t≠ [123]):oG en x r= .ok (qP (if (aN en r).t= [43] then 1 else 0) (if (aN en r).t= [63] then 1 else -1) x) r.tail:=by
 have h1:¬bv en [[42],[43],[63],[123]] r=false:=fun e=>by rw [show bv en s2 r=bv en [[42],[43],[63],[123]] r from rfl,e] at h;cases h
 have hm:=qi h;simp only [s2,List.mem_cons,List.not_mem_nil,or_false] at hm;unfold oG iN;rw [if_neg h1]
 rcases hm with h2|h2|h2|h2
 · rw [if_pos h2,h2];rfl
 · rw [if_neg (by rw [h2];decide),if_pos h2,h2];rfl
 · rw [if_neg (by rw [h2];decide),if_neg (by rw [h2];decide),if_pos h2,h2];rfl
 · exact absurd h2 hb
theorem acc {en:Nat} {x:bS} {r:List Tok} (h:bv en s2 r=true) (hb:(aN en r).t= [123]):oG en x r=bR (.ok () r.tail) (fun r1=>eI (gy en (aN en r).a r1) fun mn r2=>eI (pD en (aN en r).a mn r2) fun mx r3=>eI (eO en [125] r3) fun _ r4=>rM (aN en r).a mn mx x r4):=by
 have h1:¬bv en [[42],[43],[63],[123]] r=false:=fun e=>by rw [show bv en s2 r=bv en [[42],[43],[63],[123]] r from rfl,e] at h;cases h
 unfold oG iN;rw [if_neg h1,if_neg (by rw [hb];decide),if_neg (by rw [hb];decide),if_neg (by rw [hb];decide)];show _=eI (gy en (aN en r).a r.tail) _
 cases gy en (aN en r).a r.tail with
 |err a e=>rfl
 |ok mn r2=>
  show _=eI (pD en (aN en r).a mn r2) _;dsimp only;unfold pD
  cases (if bv en [[44]] r2=true then (if bv en [[125]] r2.tail=true then cn.ok (-1) r2.tail else gy en (aN en r).a r2.tail) else cn.ok mn r2) with
  |err a e=>rfl
  |ok mx r3=>
   show _=eI (eO en [125] r3) _;dsimp only
   cases eO en [125] r3 with
   |err a e=>rfl
   |ok t r4=>
    show _=rM (aN en r).a mn mx x r4;dsimp only;unfold yp rM;by_cases h5:(0≤mx∧mx<mn)∨mx=0
    · simp only [if_pos h5]
    · simp only [if_neg h5]
      by_cases h6:20<max mn mx
      · simp only [if_pos h6]
      · simp only [if_neg h6]
theorem aeM {σ':Sg} {F:List Tok→cn bS} {x:bS} {ts:List Tok} (h:bR (.ok () ts) F=dZ x σ') (hF:mY F) (h0:0<ts.length):cE σ'+1≤ts.length:=by
 cases σ' with
 |err a e=>exact h0
 |ok u r=>have:=(hF ts x r h).1;have:=yW x;show r.length+1≤_;omega
theorem ac2 {α:Type} (en:Nat) (s:ao) (σ:Sg) (G:List Tok→cn α):bR σ (fun r=>eI (eO en s r) fun _ r4=>G r4)=bR (uX en s σ) G:=by
 cases σ with
 |err a e=>rfl
 |ok u ts=>
  show eI (eO en s ts) _=bR (if bv en [s] ts=true then .ok u ts.tail else .err (aN en ts).a 2) G;unfold eO
  split<;>rfl
abbrev qC (mn mx:Int) (gk:Nat):PC:=⟨5,[],0,dE,dE,mn,mx,some ⟨gk,0,none⟩,1,1⟩
set_option maxHeartbeats 1000000 in
theorem Sm (p en g m n:Nat) (hnm:n≤m) (knot:Nat→List Tok→cn bS) (hK:∀g',yE p en n g' (knot g')):qz p en 59 [] (n+1) g 0 (fz en m g knot) pT:=by
 intro w σ hP hn;have hpl:=hP.lt;have hb:=Kp.refl p w;refine enter Tryz.func59 rfl rfl rfl<|am fun aR=>bT (z:=hY) (by kernel_rfl) rfl ?_
 rintro au dJ dH ab aM;have:=aM.size;have hP:=hP.below aM;replace aM:=Below.kp (p:=p) aM;have hb:=hb.trans aM;have:=ab.lt;refine al aR<|am fun bt=>ai rfl<|aD afW rfl rfl (aee p en g m n hnm knot hK _ σ hP hn) rfl ?_
 rintro _ cB ⟨⟨x,τ,⟨z,Sz,rfl,hz,aT⟩,hf1,hP⟩,aw⟩;have:=aw.size;have ab:=ak.kp ab aw (by omega);have hb:=hb.trans aw;have hpe:bR σ (fz en m g knot)=bR τ (oG en x):=by rw [adp];exact ij hf1 _
 refine bT (z:=hY) (by kernel_rfl) rfl ?_;rintro dq ks jH aE ck;have:=ck.size;have hP:=hP.below ck;have ab:=ab.below ck;have hz:=hz.below ck;replace ck:=Below.kp (p:=p) ck;have hb:=hb.trans ck;have:=aE.lt;refine ba (by kernel_rfl) rfl rfl aE rfl rfl ?_;rintro du aE aF;have:=aF.size;have hb:=bp hb aF (by omega);have hP:=RO.over hP aF (by omega);have ab:=ab.over aF (by omega);have hz:=bi.kp hz aF (fun h_=>by have bh:=aT _ h_;omega);refine al bt<|av fun _ dV=>am fun eX=>ai rfl<|cz (sz:=1) (vs:= [_,_,_,_]) dl (by kernel_rfl) rfl rfl rfl rfl rfl rfl ?_
 rintro cp fA fw aI aV;have:=aV.size;have hP:=hP.below aV;have ab:=ab.below aV;have hz:=hz.below aV;have aE:=aE.below aV;replace aV:=Below.kp (p:=p) aV;have hb:=hb.trans aV;have:=aI.lt;refine aD z7 rfl rfl (zN p en g 0 τ _ 4 s2 (by decide) _ hP (aI.rd 4 1 rfl)) rfl ?_;rintro _ cU ⟨rfl,aL⟩;have:=aL.size;have hP:=RO.below hP aL;have ab:=ak.below ab aL;have hz:=bi.below hz aL;have aE:=ak.below aE aL;replace aL:=Below.kp (p:=p) aL;have hb:=hb.trans aL;refine ae (jd rfl) rfl<|al eX<|aO rfl (fun eK=>?_) (fun eK=>?_)
 ·
  have hi:eZ en s2 τ=false:=by simpa using eK
  refine am fun fd=>aG (cr dc (by kernel_rfl) rfl (by exact fun j u hu=>aE.at hu)) rfl ?_;refine ba (by kernel_rfl) rfl rfl ab rfl rfl ?_;rintro ff ab bc;have:=bc.size;have hb:=bp hb bc (by omega);have hP:=RO.over hP bc (by omega);have hz:=bi.kp hz bc (fun h_=>by have bh:=aT _ h_;omega);refine al fd<|aJ<|aX<|bQ (rs:= [.cell 2 31]) (vs:= [_]) rfl (.cell rfl (bP dc (by kernel_rfl) (fun j u hu=>ab.at hu)) .nil) ?_
  exact ⟨_,rfl,⟨x,τ,⟨z,Sz,rfl,hz,fun k hk=>by have:=aT k hk;omega⟩,hpe.trans (acd hi),hP⟩,hb⟩
 obtain ⟨ts,rfl,hi⟩:=oN (en:=en) (xs:=s2) (σ:=τ) (by simpa using eK);obtain ⟨t,htk⟩:∃t,t=aN en ts:=⟨_,rfl⟩;refine aU<|ax dV<|am fun gH=>ai rfl<|aD iP rfl rfl (iO p en ts g 0 (eB hi) _ hP) rfl ?_
 rintro _ eP ⟨⟨rfl,hP⟩,a6⟩;have:=a6.size;have ab:=ak.kp ab a6 (by omega);have hz:=bi.kp hz a6 (fun h_=>by have bh:=aT _ h_;omega);have aE:=ak.kp aE a6 (by omega);have hb:=hb.trans a6;refine bT (z:=fx) (by kernel_rfl) rfl ?_;rintro gG tV oF bL ep;have:=ep.size;have hP:=hP.below ep;have ab:=ab.below ep;have hz:=hz.below ep;have aE:=aE.below ep;replace ep:=Below.kp (p:=p) ep;have hb:=hb.trans ep;have:=bL.lt;rw [←htk];refine ba (by kernel_rfl) rfl rfl bL rfl rfl ?_;rintro gB bL bz;have:=bz.size;have hb:=bp hb bz (by omega);have hP:=RO.over hP bz (by omega);have ab:=ab.over bz (by omega);have hz:=bi.kp hz bz (fun h_=>by have bh:=aT _ h_;omega);have aE:=aE.over bz (by omega);refine al gH<|am fun eM=>aG (cr dc (by kernel_rfl) rfl (by exact fun j u hu=>aE.at hu)) rfl<|cz (sz:=20) (vs:= [_]) fO (by kernel_rfl) rfl rfl rfl rfl rfl rfl ?_
 rintro cK jB jG aK bA;have:=bA.size;have hP:=hP.below bA;have ab:=ab.below bA;have hz:=hz.below bA;have bL:=bL.below bA;replace bA:=Below.kp (p:=p) bA;have hb:=hb.trans bA;have:=aK.lt;refine ae (cC (z:=n7) (pl:=n8) (cs:= [_,_,_,_,_,_,_,_,_,_,_,_,_,_,_,_,_,_,_,_]) dc (by kernel_rfl) (by kernel_rfl) rfl rfl rfl) rfl ?_;have aK:ak jB cK 31 z.cells:=aK;refine bT (z:=hY) (by kernel_rfl) rfl ?_;rintro fJ Ae qf cq gc;have:=gc.size;have hP:=hP.below gc;have ab:=ab.below gc;have hz:=hz.below gc;have bL:=bL.below gc;have aK:=aK.below gc;replace gc:=Below.kp (p:=p) gc;have hb:=hb.trans gc;have:=cq.lt;refine ba (by kernel_rfl) rfl rfl cq rfl rfl ?_;rintro j7 cq cd;have:=cd.size;have hb:=bp hb cd (by omega);have hP:=RO.over hP cd (by omega);have ab:=ab.over cd (by omega);have hz:=bi.kp hz cd (fun h_=>by have bh:=aT _ h_;omega);have bL:=bL.over cd (by omega);have aK:=aK.over cd (by omega);refine al eM<|av fun _ gu=>am fun ju=>ae (aP (l5 _) rfl) rfl<|aG (aS di rfl (by exact bL.at (j:=1) rfl)) rfl<|al ju<|b4<|am fun fD=>ae (fl rfl rfl) rfl<|an rfl<|al fD<|cR (X:=Int×Int×Sg) (fun (mn,mx,τ2)=> [(2,.pointer (some ⟨au,0,none⟩)),(5,.pointer (some ⟨fJ,0,none⟩))]) (fun (mn,mx,τ2) wr=>bR σ (fz en m g knot)=dZ (qP mn mx x) τ2∧Kp p w wr∧RO wr p en g 0 τ2∧ak wr fJ 31 (PC.cells (qC mn mx cK))∧bi wr Sz x z.cells∧(∀k,Sz k→w.heap.size≤k∧k<wr.heap.size∧k≠au∧k≠fJ)∧ak wr cK 31 z.cells∧(∃y_:PC,ak wr au 31 y_.cells)) (fun _ uI=>?_) ?_
 ·
  refine aO rfl (fun lu=>?_) (fun lu=>?_)
  ·
   have vK:=lu;simp only [DZ] at lu;have h43:t.t= [43]:=by have:=lu;simpa using this
   have hpf:bR σ (fz en m g knot)=dZ (qP 1 (-1) x) (.ok () ts.tail):=by rw [hpe];show oG en x ts=_;rw [LS hi (by rw [←htk,h43];decide),←htk,h43];rfl
   obtain ⟨mn,mx,τ2,heq⟩:∃(a b:Int) (c:Sg),a=1∧b= -1∧c= .ok () ts.tail:=⟨_,_,_,rfl,rfl,rfl⟩;refine aQ<|ae (aP (wP _) rfl) rfl<|fV b0 rfl rfl rfl cq (by show 17<20;decide) ?_
   rintro kW cq cx;have:=cx.size;have hb:=bp hb cx (by omega);have hP:=RO.over hP cx (by omega);have ab:=ab.over cx (by omega);have hz:=bi.kp hz cx (fun h_=>by have bh:=aT _ h_;omega);have aK:=aK.over cx (by omega);refine ay<|a7 uI (⟨mn,mx,τ2⟩) (by repeat first|exact aC|refine aA rfl (by first|rfl|exact aH (by omega)) ?_) ?_
   (obtain ⟨e1,e2,e3⟩:=heq;subst e1 e2 e3;exact ⟨hpf,hb,hP,cq,hz,fun k hk=>by have:=aT k hk;omega,aK,⟨er,ab⟩⟩)
  have vK:=lu;simp only [DZ] at lu;have h43:¬t.t= [43]:=by have:=lu;simpa using this
  refine am fun gI=>ae (fl rfl rfl) rfl<|an rfl<|al gI<|aO rfl (fun m1=>?_) (fun m1=>?_)
  ·
   have Hg:=m1;simp only [DZ] at m1;have h63:t.t= [63]:=by have:=m1;simpa using this
   have hpf:bR σ (fz en m g knot)=dZ (qP 0 1 x) (.ok () ts.tail):=by rw [hpe];show oG en x ts=_;rw [LS hi (by rw [←htk,h63];decide),←htk,h63];rfl
   obtain ⟨mn,mx,τ2,heq⟩:∃(a b:Int) (c:Sg),a=0∧b=1∧c= .ok () ts.tail:=⟨_,_,_,rfl,rfl,rfl⟩;refine aQ<|ae (aP (qO _) rfl) rfl<|fV b0 rfl rfl rfl cq (by show 18<20;decide) ?_
   rintro mV cq cS;have:=cS.size;have hb:=bp hb cS (by omega);have hP:=RO.over hP cS (by omega);have ab:=ab.over cS (by omega);have hz:=bi.kp hz cS (fun h_=>by have bh:=aT _ h_;omega);have aK:=aK.over cS (by omega);refine ay<|a7 uI (⟨mn,mx,τ2⟩) (by repeat first|exact aC|refine aA rfl (by first|rfl|exact aH (by omega)) ?_) ?_
   (obtain ⟨e1,e2,e3⟩:=heq;subst e1 e2 e3;exact ⟨hpf,hb,hP,cq,hz,fun k hk=>by have:=aT k hk;omega,aK,⟨er,ab⟩⟩)
  have Hg:=m1;simp only [DZ] at m1;have h63:¬t.t= [63]:=by have:=m1;simpa using this
  refine am fun nP=>ae (fl rfl rfl) rfl<|an rfl<|al nP<|aO rfl (fun vX=>?_) (fun vX=>?_)
  ·
   have Xq:=vX;simp only [DZ] at vX;have h123:t.t= [123]:=by have:=vX;simpa using this
   have hpb:bR σ (fz en m g knot)=bR (.ok () ts.tail) (fun r1=>eI (gy en t.a r1) fun mn r2=>eI (pD en t.a mn r2) fun mx r3=>eI (eO en [125] r3) fun _ r4=>rM t.a mn mx x r4):=by rw [hpe,htk];exact acc hi (by rw [←htk];exact h123)
   refine am fun lf=>ai rfl<|ae (aP (p5 _) rfl) rfl<|aG (aS b0 rfl (by exact bL.at (j:=2) rfl)) rfl<|aD M9 rfl rfl (MM p en g 0 t.a _ _ hP) rfl ?_
   rintro _ fj ⟨⟨mn,σ1,rfl,hw1,hP⟩,bk⟩;have:=bk.size;have ab:=ak.kp ab bk (by omega);have hz:=bi.kp hz bk (fun h_=>by have bh:=aT _ h_;omega);have bL:=ak.kp bL bk (by omega);have aK:=ak.kp aK bk (by omega);have cq:=ak.kp cq bk (by omega);have hb:=hb.trans bk;refine ae (aP (wP _) rfl) rfl<|fV b0 rfl rfl rfl cq (by show 17<20;decide) ?_
   rintro mW cq df;have:=df.size;have hb:=bp hb df (by omega);have hP:=RO.over hP df (by omega);have ab:=ab.over df (by omega);have hz:=bi.kp hz df (fun h_=>by have bh:=aT _ h_;omega);have bL:=bL.over df (by omega);have aK:=aK.over df (by omega);refine al lf<|av fun _ pn=>?_
   have cq:ak mW fJ 31 (PC.cells (qC mn (-1) cK)):=cq;refine aQ<|ae (aP (wP _) rfl) rfl<|aG (aS b0 rfl (by exact cq.at (j:=17) rfl)) rfl<|ae (aP (qO _) rfl) rfl<|fV b0 rfl rfl rfl cq (by show 18<20;decide) ?_
   rintro mi cq cF;have:=cF.size;have hb:=bp hb cF (by omega);have hP:=RO.over hP cF (by omega);have ab:=ab.over cF (by omega);have hz:=bi.kp hz cF (fun h_=>by have bh:=aT _ h_;omega);have bL:=bL.over cF (by omega);have aK:=aK.over cF (by omega);refine al pn<|av fun _ mF=>av fun _ kI=>?_
   have cq:ak mi fJ 31 (PC.cells (qC mn mn cK)):=cq;refine aQ<|ai rfl<|aD lj rfl rfl (lh p en g 0 σ1 [44] _ hP) rfl ?_
   rintro _ gj ⟨rfl,bD⟩;have:=bD.size;have hP:=RO.below hP bD;have ab:=ak.below ab bD;have hz:=bi.below hz bD;have bL:=ak.below bL bD;have aK:=ak.below aK bD;have cq:=ak.below cq bD;replace bD:=Below.kp (p:=p) bD;have hb:=hb.trans bD;refine al kI<|cR (X:=Int×Sg) (fun (mx,σ2)=> [(0,bH p),(2,.pointer (some ⟨au,0,none⟩)),(4,.pointer (some ⟨gG,0,none⟩)),(5,.pointer (some ⟨fJ,0,none⟩))]) (fun (mx,σ2) wr=>bR σ (fz en m g knot)=bR σ2 (fun r3=>eI (eO en [125] r3) fun _ r4=>rM t.a mn mx x r4)∧Kp p w wr∧RO wr p en g 0 σ2∧ak wr fJ 31 (PC.cells (qC mn mx cK))∧ak wr gG 74 [.int .i64 (t.k:Int),str t.t,.int .i64 (t.a:Int)]∧bi wr Sz x z.cells∧(∀k,Sz k→w.heap.size≤k∧k<wr.heap.size∧k≠au∧k≠fJ)∧ak wr cK 31 z.cells∧(∃y_:PC,ak wr au 31 y_.cells)) (fun _ zj=>?_) ?_
   ·
    refine aO rfl (fun HW=>?_) (fun HW=>?_)
    ·
     have HX:=HW;obtain ⟨us,rfl,hj⟩:=oN HX;refine am fun nQ=>ai rfl<|aD iP rfl rfl (iO p en us g 0 (eB hj) _ hP) rfl ?_
     rintro _ lW ⟨⟨rfl,hP⟩,cm⟩;have:=cm.size;have ab:=ak.kp ab cm (by omega);have hz:=bi.kp hz cm (fun h_=>by have bh:=aT _ h_;omega);have bL:=ak.kp bL cm (by omega);have aK:=ak.kp aK cm (by omega);have cq:=ak.kp cq cm (by omega);have hb:=hb.trans cm;refine al nQ<|am fun jv=>ae (aP (qO _) rfl) rfl<|fV b0 rfl rfl rfl cq (by show 18<20;decide) ?_
     rintro rO cq dw;have:=dw.size;have hb:=bp hb dw (by omega);have hP:=RO.over hP dw (by omega);have ab:=ab.over dw (by omega);have hz:=bi.kp hz dw (fun h_=>by have bh:=aT _ h_;omega);have bL:=bL.over dw (by omega);have aK:=aK.over dw (by omega);refine al jv<|av fun _ pt=>?_
     have cq:ak rO fJ 31 (PC.cells (qC mn (-1) cK)):=cq;refine aQ<|ai rfl<|aD lj rfl rfl (lh p en g 0 (.ok () us.tail) [125] _ hP) rfl ?_
     rintro _ lX ⟨rfl,cy⟩;have:=cy.size;have hP:=RO.below hP cy;have ab:=ak.below ab cy;have hz:=bi.below hz cy;have bL:=ak.below bL cy;have aK:=ak.below aK cy;have cq:=ak.below cq cy;replace cy:=Below.kp (p:=p) cy;have hb:=hb.trans cy;refine ae (jd rfl) rfl<|al pt<|aO rfl (fun Ih=>?_) (fun Ih=>?_)
     ·
      have hk:bv en [[125]] us.tail=false:=by have h:(!bv en [[125]] us.tail)=true:=Ih;simpa using h
      refine aQ<|ai rfl<|ae (aP (p5 _) rfl) rfl<|aG (aS b0 rfl (by exact bL.at (j:=2) rfl)) rfl<|aD M9 rfl rfl (MM p en g 0 t.a _ _ hP) rfl ?_
      rintro _ mh ⟨⟨mx,σ2,rfl,hw3,hP⟩,cA⟩;have:=cA.size;have ab:=ak.kp ab cA (by omega);have hz:=bi.kp hz cA (fun h_=>by have bh:=aT _ h_;omega);have bL:=ak.kp bL cA (by omega);have aK:=ak.kp aK cA (by omega);have cq:=ak.kp cq cA (by omega);have hb:=hb.trans cA;refine ae (aP (qO _) rfl) rfl<|fV b0 rfl rfl rfl cq (by show 18<20;decide) ?_
      rintro oj cq bO;have:=bO.size;have hb:=bp hb bO (by omega);have hP:=RO.over hP bO (by omega);have ab:=ab.over bO (by omega);have hz:=bi.kp hz bO (fun h_=>by have bh:=aT _ h_;omega);have bL:=bL.over bO (by omega);have aK:=aK.over bO (by omega);refine ay<|a7 zj (⟨mx,σ2⟩) (by repeat first|exact aC|refine aA rfl (by first|rfl|exact aH (by omega)) ?_) ?_
      exact ⟨by rw [hpb,ij hw1];exact ij (show bR (.ok () us) (pD en t.a mn)=dZ mx σ2 by show pD en t.a mn us=_;unfold pD;rw [if_pos hj,if_neg (by rw [hk];decide)];exact hw3) _,hb,hP,cq,bL,hz,fun k hk=>by have:=aT k hk;omega,aK,⟨er,ab⟩⟩
     have hk:bv en [[125]] us.tail=true:=by have h:(!bv en [[125]] us.tail)=false:=Ih;simpa using h
     have hw2:bR (.ok () us) (pD en t.a mn)=dZ (-1:Int) (.ok () us.tail):=by show pD en t.a mn us=_;unfold pD;rw [if_pos hj,if_pos hk];rfl
     obtain ⟨mx,σ2,heq2⟩:∃(a:Int) (b:Sg),a= -1∧b= .ok () us.tail:=⟨_,_,rfl,rfl⟩;refine aU<|a7 zj (⟨mx,σ2⟩) (by repeat first|exact aC|refine aA rfl (by first|rfl|exact aH (by omega)) ?_) ?_
     (obtain ⟨e1,e2⟩:=heq2;subst e1 e2;exact ⟨by rw [hpb,ij hw1];exact ij hw2 _,hb,hP,cq,bL,hz,fun k hk=>by have:=aT k hk;omega,aK,⟨er,ab⟩⟩)
    have HX:=HW;have hj:eZ en [[44]] σ1=false:=HX
    have hw2:bR σ1 (pD en t.a mn)=dZ mn σ1:=by
     cases σ1 with
     |err a e=>rfl
     |ok u us=>show pD en t.a mn us=_;unfold pD;rw [if_neg (by rw [show bv en [[44]] us=false from hj];decide)];rfl
    obtain ⟨mx,σ2,heq2⟩:∃(a:Int) (b:Sg),a=mn∧b=σ1:=⟨_,_,rfl,rfl⟩;refine aU<|a7 zj (⟨mx,σ2⟩) (by repeat first|exact aC|refine aA rfl (by first|rfl|exact aH (by omega)) ?_) ?_
    (obtain ⟨e1,e2⟩:=heq2;subst e1 e2;exact ⟨by rw [hpb,ij hw1];exact ij hw2 _,hb,hP,cq,bL,hz,fun k hk=>by have:=aT k hk;omega,aK,⟨er,ab⟩⟩)
   rintro ⟨mx,σ2⟩ wr xw;replace xw:bR σ (fz en m g knot)=bR σ2 (fun r3=>eI (eO en [125] r3) fun _ r4=>rM t.a mn mx x r4)∧Kp p w wr∧RO wr p en g 0 σ2∧ak wr fJ 31 (PC.cells (qC mn mx cK))∧ak wr gG 74 [.int .i64 (t.k:Int),str t.t,.int .i64 (t.a:Int)]∧bi wr Sz x z.cells∧(∀k,Sz k→w.heap.size≤k∧k<wr.heap.size∧k≠au∧k≠fJ)∧ak wr cK 31 z.cells∧(∃y_:PC,ak wr au 31 y_.cells):=xw;obtain ⟨hpc,hb,hP,cq,bL,hz,aT,aK,⟨_,ab⟩⟩:=xw;show Wq _ _ _ _ [(0,bH p),(2,.pointer (some ⟨au,0,none⟩)),(4,.pointer (some ⟨gG,0,none⟩)),(5,.pointer (some ⟨fJ,0,none⟩))] _;have:=hb.size;have:=cq.lt;have:=bL.lt;have:=aK.lt;have:=ab.lt;refine ax mF<|am fun nU=>ai rfl<|aD Dw rfl rfl (Dk p en g 0 [125] σ2 _ hP) rfl ?_
   rintro _ qw ⟨hP,cL⟩;have:=cL.size;have cq:=ak.kp cq cL (by omega);have bL:=ak.kp bL cL (by omega);have hz:=bi.kp hz cL (fun h_=>by have bh:=aT _ h_;omega);have aK:=ak.kp aK cL (by omega);have ab:=ak.kp ab cL (by omega);have hb:=hb.trans cL;refine al nU<|av fun _ mG=>av fun _ rp=>?_
   have hpd:bR σ (fz en m g knot)=bR (uX en [125] σ2) (rM t.a mn mx x):=by rw [hpc];exact ac2 en [125] σ2 _
   obtain ⟨σ3,hσ3⟩:∃s,s=uX en [125] σ2:=⟨_,rfl⟩;rw [←hσ3] at hpd hP;refine cR (X:=Bool) (fun q=> [(0,bH p),(2,.pointer (some ⟨au,0,none⟩)),(4,.pointer (some ⟨gG,0,none⟩)),(5,.pointer (some ⟨fJ,0,none⟩)),(65,.bool q)]) (fun q wr=>q=decide ((0≤mx∧mx<mn)∨mx=0)∧Kp p w wr∧RO wr p en g 0 σ3∧ak wr fJ 31 (PC.cells (qC mn mx cK))∧ak wr gG 74 [.int .i64 (t.k:Int),str t.t,.int .i64 (t.a:Int)]∧bi wr Sz x z.cells∧(∀k,Sz k→w.heap.size≤k∧k<wr.heap.size∧k≠au∧k≠fJ)∧ak wr cK 31 z.cells∧(∃y_:PC,ak wr au 31 y_.cells)) (fun _ K7=>?_) ?_
   ·
    refine aQ<|ae (aP (qO _) rfl) rfl<|aG (aS b0 rfl (by exact cq.at (j:=18) rfl)) rfl<|ae (bX rfl rfl) rfl<|ai rfl<|dy rfl rfl rfl (fun q7=>?_) (fun q7=>?_)
    ·
     have lG:=q7;simp only [DZ] at q7;refine az rfl rfl lG rfl rfl<|az rfl rfl lG rfl rfl<|az rfl rfl lG rfl rfl<|bY rfl rfl rfl<|bY rfl rfl rfl<|bY rfl rfl rfl<|bY rfl rfl rfl<|bY rfl rfl rfl<|az rfl rfl lG rfl rfl<|ae (bo rfl lG rfl) rfl<|ay<|a7 K7 (decide ((0≤mx∧mx<mn)∨mx=0)) (by repeat first|exact aC|refine aA rfl (by first|rfl|exact a8 (by rw [Bool.eq_iff_iff];simp<;>omega)) ?_) ?_
     exact ⟨rfl,hb,hP,cq,bL,hz,fun k hk=>by have:=aT k hk;omega,aK,⟨_,ab⟩⟩
    have lG:=q7;simp only [DZ] at q7;refine ae (aP (qO _) rfl) rfl<|ap rfl rfl lG<|aG (aS b0 rfl (by exact cq.at (j:=18) rfl)) rfl<|ap rfl rfl lG<|ae (f7 rfl rfl) rfl<|ap rfl rfl lG<|ai rfl<|cG rfl rfl rfl (fun BN=>?_) (fun BN=>?_)
    ·
     have ra:=BN;simp only [DZ] at BN;refine ae (aP (wP _) rfl) rfl<|ap rfl rfl ra<|aG (aS b0 rfl (by exact cq.at (j:=17) rfl)) rfl<|ap rfl rfl ra<|ae (aP (qO _) rfl) rfl<|ap rfl rfl ra<|aG (aS b0 rfl (by exact cq.at (j:=18) rfl)) rfl<|ap rfl rfl ra<|ae (ed rfl rfl) rfl<|ap rfl rfl lG<|ae (bo rfl ra rfl) rfl<|ae (bj rfl lG rfl) rfl<|ay<|a7 K7 (decide ((0≤mx∧mx<mn)∨mx=0)) (by repeat first|exact aC|refine aA rfl (by first|rfl|exact a8 (by rw [Bool.eq_iff_iff];simp<;>omega)) ?_) ?_
     exact ⟨rfl,hb,hP,cq,bL,hz,fun k hk=>by have:=aT k hk;omega,aK,⟨_,ab⟩⟩
    have ra:=BN;simp only [DZ] at BN;refine az rfl rfl ra rfl rfl<|az rfl rfl ra rfl rfl<|az rfl rfl ra rfl rfl<|az rfl rfl ra rfl rfl<|ap rfl rfl lG<|ae (bj rfl ra rfl) rfl<|ae (bj rfl lG rfl) rfl<|ay<|a7 K7 (decide ((0≤mx∧mx<mn)∨mx=0)) (by repeat first|exact aC|refine aA rfl (by first|rfl|exact a8 (by rw [Bool.eq_iff_iff];simp<;>omega)) ?_) ?_
    exact ⟨rfl,hb,hP,cq,bL,hz,fun k hk=>by have:=aT k hk;omega,aK,⟨_,ab⟩⟩
   rintro q wr xg;replace xg:q=decide ((0≤mx∧mx<mn)∨mx=0)∧Kp p w wr∧RO wr p en g 0 σ3∧ak wr fJ 31 (PC.cells (qC mn mx cK))∧ak wr gG 74 [.int .i64 (t.k:Int),str t.t,.int .i64 (t.a:Int)]∧bi wr Sz x z.cells∧(∀k,Sz k→w.heap.size≤k∧k<wr.heap.size∧k≠au∧k≠fJ)∧ak wr cK 31 z.cells∧(∃y_:PC,ak wr au 31 y_.cells):=xg;obtain ⟨hq,hb,hP,cq,bL,hz,aT,aK,⟨_,ab⟩⟩:=xg;show Wq _ _ _ _ [(0,bH p),(2,.pointer (some ⟨au,0,none⟩)),(4,.pointer (some ⟨gG,0,none⟩)),(5,.pointer (some ⟨fJ,0,none⟩)),(65,.bool q)] _;have:=hb.size;have:=cq.lt;have:=bL.lt;have:=aK.lt;have:=ab.lt;refine ax rp<|cR (X:=Sg) (fun σ4=> [(0,bH p),(2,.pointer (some ⟨au,0,none⟩)),(4,.pointer (some ⟨gG,0,none⟩)),(5,.pointer (some ⟨fJ,0,none⟩))]) (fun σ4 wr=>bR σ (fz en m g knot)=dZ (qP mn mx x) (if 20<max mn mx then pK t.a 6 σ4 else σ4)∧Kp p w wr∧RO wr p en g 0 σ4∧ak wr fJ 31 (PC.cells (qC mn mx cK))∧ak wr gG 74 [.int .i64 (t.k:Int),str t.t,.int .i64 (t.a:Int)]∧bi wr Sz x z.cells∧(∀k,Sz k→w.heap.size≤k∧k<wr.heap.size∧k≠au∧k≠fJ)∧ak wr cK 31 z.cells∧(∃y_:PC,ak wr au 31 y_.cells)) (fun _ Ct=>?_) ?_
   ·
    refine aO rfl (fun qL=>?_) (fun qL=>?_)
    ·
     have AJ:=qL;have hbad:(0≤mx∧mx<mn)∨mx=0:=of_decide_eq_true (hq.symm.trans AJ);have hpg:bR σ (fz en m g knot)=dZ (qP mn mx x) (pK t.a 2 σ3):=by rw [hpd];cases σ3 with|err a e=>rfl|ok u r=>show rM t.a mn mx x r=_;unfold rM;rw [if_pos hbad];rfl
     obtain ⟨σ4,hσ4⟩:∃s,s=pK t.a 2 σ3:=⟨_,rfl⟩;have hc:bR σ (fz en m g knot)=dZ (qP mn mx x) (if 20<max mn mx then pK t.a 6 σ4 else σ4):=by rw [hpg,hσ4];cases σ3<;>(split<;>rfl)
     refine aQ<|ai rfl<|ae (aP (p5 _) rfl) rfl<|aG (aS b0 rfl (by exact bL.at (j:=2) rfl)) rfl<|aD sw rfl rfl (sv p en g 0 t.a 2 (by decide) _ _ hP) rfl ?_
     rintro _ sD ⟨hP,dr⟩;have:=dr.size;have cq:=ak.kp cq dr (by omega);have bL:=ak.kp bL dr (by omega);have hz:=bi.kp hz dr (fun h_=>by have bh:=aT _ h_;omega);have aK:=ak.kp aK dr (by omega);have ab:=ak.kp ab dr (by omega);have hb:=hb.trans dr;refine ay<|a7 Ct (σ4) (by repeat first|exact aC|refine aA rfl (by first|rfl|exact aH (by omega)) ?_) ?_
     exact ⟨hc,hb,by rw [hσ4];exact hP,cq,bL,hz,fun k hk=>by have:=aT k hk;omega,aK,⟨_,ab⟩⟩
    have AJ:=qL;have hbad:¬((0≤mx∧mx<mn)∨mx=0):=of_decide_eq_false (hq.symm.trans AJ);obtain ⟨σ4,hσ4⟩:∃s,s=σ3:=⟨_,rfl⟩
    have hc:bR σ (fz en m g knot)=dZ (qP mn mx x) (if 20<max mn mx then pK t.a 6 σ4 else σ4):=by
     rw [hpd,hσ4]
     cases σ3 with
     |err a e=>split<;>rfl
     |ok u r=>show rM t.a mn mx x r=_;unfold rM;rw [if_neg hbad];split<;>rfl
    refine aU<|a7 Ct (σ4) (by repeat first|exact aC|refine aA rfl (by first|rfl|exact aH (by omega)) ?_) ?_
    exact ⟨hc,hb,by rw [hσ4];exact hP,cq,bL,hz,fun k hk=>by have:=aT k hk;omega,aK,⟨_,ab⟩⟩
   rintro σ4 wr xh;replace xh:bR σ (fz en m g knot)=dZ (qP mn mx x) (if 20<max mn mx then pK t.a 6 σ4 else σ4)∧Kp p w wr∧RO wr p en g 0 σ4∧ak wr fJ 31 (PC.cells (qC mn mx cK))∧ak wr gG 74 [.int .i64 (t.k:Int),str t.t,.int .i64 (t.a:Int)]∧bi wr Sz x z.cells∧(∀k,Sz k→w.heap.size≤k∧k<wr.heap.size∧k≠au∧k≠fJ)∧ak wr cK 31 z.cells∧(∃y_:PC,ak wr au 31 y_.cells):=xh;obtain ⟨hc,hb,hP,cq,bL,hz,aT,aK,⟨_,ab⟩⟩:=xh;show Wq _ _ _ _ [(0,bH p),(2,.pointer (some ⟨au,0,none⟩)),(4,.pointer (some ⟨gG,0,none⟩)),(5,.pointer (some ⟨fJ,0,none⟩))] _;have:=hb.size;have:=cq.lt;have:=bL.lt;have:=aK.lt;have:=ab.lt;refine ax mG<|am fun rl=>ae (aP (wP _) rfl) rfl<|aG (aS b0 rfl (by exact cq.at (j:=17) rfl)) rfl<|ae (aP (qO _) rfl) rfl<|aG (aS b0 rfl (by exact cq.at (j:=18) rfl)) rfl<|ae (qy rfl rfl) rfl<|ae (ed rfl rfl) rfl<|al rl<|aO rfl (fun wC=>?_) (fun wC=>?_)
   ·
    have XW:=wC;simp only [DZ] at wC;have h20:20<max mn mx:=by have:=wC;omega
    obtain ⟨τ2,hτ2⟩:∃s,s=pK t.a 6 σ4:=⟨_,rfl⟩;have hpf:bR σ (fz en m g knot)=dZ (qP mn mx x) τ2:=by rw [hc,if_pos h20,hτ2]
    refine aQ<|ai rfl<|ae (aP (p5 _) rfl) rfl<|aG (aS b0 rfl (by exact bL.at (j:=2) rfl)) rfl<|aD sw rfl rfl (sv p en g 0 t.a 6 (by decide) _ _ hP) rfl ?_
    rintro _ sB ⟨hP,cY⟩;have:=cY.size;have cq:=ak.kp cq cY (by omega);have hz:=bi.kp hz cY (fun h_=>by have bh:=aT _ h_;omega);have aK:=ak.kp aK cY (by omega);have ab:=ak.kp ab cY (by omega);have hb:=hb.trans cY;refine ay<|a7 uI (⟨mn,mx,τ2⟩) (by repeat first|exact aC|refine aA rfl (by first|rfl|exact aH (by omega)) ?_) ?_
    exact ⟨hpf,hb,by rw [hτ2];exact hP,cq,hz,fun k hk=>by have:=aT k hk;omega,aK,⟨_,ab⟩⟩
   have XW:=wC;simp only [DZ] at wC;have h20:¬20<max mn mx:=by have:=wC;omega
   obtain ⟨τ2,hτ2⟩:∃s,s=σ4:=⟨_,rfl⟩;have hpf:bR σ (fz en m g knot)=dZ (qP mn mx x) τ2:=by rw [hc,if_neg h20,hτ2]
   refine aU<|a7 uI (⟨mn,mx,τ2⟩) (by repeat first|exact aC|refine aA rfl (by first|rfl|exact aH (by omega)) ?_) ?_
   exact ⟨hpf,hb,by rw [hτ2];exact hP,cq,hz,fun k hk=>by have:=aT k hk;omega,aK,⟨_,ab⟩⟩
  have Xq:=vX;simp only [DZ] at vX;have h123:¬t.t= [123]:=by have:=vX;simpa using this
  have hpf:bR σ (fz en m g knot)=dZ (qP 0 (-1) x) (.ok () ts.tail):=by rw [hpe];show oG en x ts=_;rw [LS hi (by rw [←htk];exact h123),←htk,if_neg h43,if_neg h63];rfl
  obtain ⟨mn,mx,τ2,heq⟩:∃(a b:Int) (c:Sg),a=0∧b= -1∧c= .ok () ts.tail:=⟨_,_,_,rfl,rfl,rfl⟩;refine aU<|a7 uI (⟨mn,mx,τ2⟩) (by repeat first|exact aC|refine aA rfl (by first|rfl|exact aH (by omega)) ?_) ?_
  (obtain ⟨e1,e2,e3⟩:=heq;subst e1 e2 e3;exact ⟨hpf,hb,hP,cq,hz,fun k hk=>by have:=aT k hk;omega,aK,⟨er,ab⟩⟩)
 rintro ⟨mn,mx,τ2⟩ wr rc;replace rc:bR σ (fz en m g knot)=dZ (qP mn mx x) τ2∧Kp p w wr∧RO wr p en g 0 τ2∧ak wr fJ 31 (PC.cells (qC mn mx cK))∧bi wr Sz x z.cells∧(∀k,Sz k→w.heap.size≤k∧k<wr.heap.size∧k≠au∧k≠fJ)∧ak wr cK 31 z.cells∧(∃y_:PC,ak wr au 31 y_.cells):=rc;obtain ⟨hpf,hb,hP,cq,hz,aT,aK,⟨_,ab⟩⟩:=rc;show Wq _ _ _ _ [(2,.pointer (some ⟨au,0,none⟩)),(5,.pointer (some ⟨fJ,0,none⟩))] _;have:=hb.size;have:=cq.lt;have:=aK.lt;have:=ab.lt;refine cD<|ax gu<|am fun xB=>aG (cr dc (by kernel_rfl) rfl (by exact fun j u hu=>cq.at hu)) rfl ?_
 refine ba (by kernel_rfl) rfl rfl ab rfl rfl ?_;rintro DS ab gJ;have:=gJ.size;have hb:=bp hb gJ (by omega);have hP:=RO.over hP gJ (by omega);have hz:=bi.kp hz gJ (fun h_=>by have bh:=aT _ h_;omega);have aK:=aK.over gJ (by omega);refine al xB<|aJ<|bQ (rs:= [.cell 2 31]) (vs:= [_]) rfl (.cell rfl (bP dc (by kernel_rfl) (fun j u hu=>ab.at hu)) .nil) ?_
 exact ⟨_,rfl,⟨qP mn mx x,τ2,⟨qC mn mx cK,fun q=>Sz q∨q=cK,rfl,bi.node 5 mn mx (kids:= [x]) rfl (aK.rd 1 20 rfl) (fun q e=>by cases e;exact .inr rfl) ((dv.one hz).mono fun _ h=> .inl h),fun k hk=>by rcases hk with h|h;(· have:=aT k h;omega);(· omega)⟩,hpf,hP⟩,hb⟩
theorem TN:bB Tryz.prog 36:=⟨_,Tryz.func36,by kernel_rfl,rfl⟩
theorem TR:bB Tryz.prog 59:=⟨_,Tryz.func59,by kernel_rfl,rfl⟩
theorem RO.row {w w':World} {p en g b:Nat} {σ:Sg} {row:Option Nat} (h:RO w p en g b σ) (hg:w.grownBy w' row) (hk:∀k,row=some k→p<k):RO w' p en g b σ:=by
 cases row with
 |some k=>exact h.over hg (hk k rfl)
 |none=>exact h.below ⟨hg.os,hg.tape,hg.output,hg.size,fun k hk=>hg.block k hk (by simp)⟩
theorem Sp {go:List Tok→Option (List Tok)} {one:List Tok→cn bS} (hgo:∀ts ts',go ts=some ts'→ts'.length≤ts.length) (h0:go []=none) (hT:mY one):∀(n m:Nat) (l:List bS) (ts:List Tok),ts.length≤n→ts.length≤m→gz go one n l ts=gz go one m l ts
 |0,0,l,ts,_,_=>rfl
 |0,m+1,l,ts,hn,_=>by
  have:ts= []:=List.length_eq_zero_iff.1 (by omega);subst this;simp only [gz];rw [h0]
 |n+1,0,l,ts,_,hm=>by
  have:ts= []:=List.length_eq_zero_iff.1 (by omega);subst this;simp only [gz];rw [h0]
 |n+1,m+1,l,ts,hn,hm=>by
  simp only [gz]
  cases hg:go ts with
  |none=>rfl
  |some ts'=>
   dsimp only;have h1:=hgo _ _ hg
   cases ho:one ts' with
   |err a e=>rfl
   |ok y r=>
    have h2:=(hT _ _ _ ho).1;have:=yW y;exact Sp hgo h0 hT n m _ _ (by omega) (by omega)
def pI (k:Int) (go:List Tok→Option (List Tok)) (one:List Tok→cn bS) (l:List bS) (ts:List Tok):cn bS:=oM k (gz go one ts.length l ts)
theorem RP (k:Int) (go:List Tok→Option (List Tok)) (one:List Tok→cn bS):tN k go one=fun ts=>eI (one ts) fun x r=>pI k go one [x] r:=by
 funext ts
 rw [Dd]
 cases one ts<;>rfl
theorem Su {k:Int} {go:List Tok→Option (List Tok)} {one:List Tok→cn bS} (hgo:∀ts ts',go ts=some ts'→ts'.length≤ts.length) (h0:go []=none) (hT:mY one) {l:List bS} {ts ts':List Tok} (h:go ts=some ts'):pI k go one l ts=eI (one ts') fun y r=>pI k go one (l++ [y]) r:=by
 have hne:0<ts.length:=by
  cases ts with
  |nil=>rw [h0] at h;cases h
  |cons t r=>simp
 have h1:=hgo _ _ h;obtain ⟨n,hn⟩:∃n,ts.length=n+1:=⟨ts.length - 1,by omega⟩;unfold pI;rw [hn];simp only [gz];rw [h];dsimp only
 cases ho:one ts' with
 |err a e=>rfl
 |ok y r=>
  have h2:=(hT _ _ _ ho).1;have:=yW y;show oM k (gz go one n (l++ [y]) r)=oM k (gz go one r.length (l++ [y]) r);rw [Sp hgo h0 hT n r.length _ _ (by omega) (Nat.le_refl _)]
theorem Ss {k:Int} {go:List Tok→Option (List Tok)} {one:List Tok→cn bS} {l:List bS} {σ:Sg} (h:∀ts,σ= .ok () ts→go ts=none):bR σ (pI k go one l)=dZ (oi k l) σ:=by
 cases σ with
 |err a e=>rfl
 |ok u ts=>
  show oM k (gz go one ts.length l ts)= .ok (oi k l) ts
  cases hl:ts.length with
  |zero=>rfl
  |succ n=>simp only [gz];rw [h ts rfl];rfl
def tj (en:Nat) (ts:List Tok):Option (List Tok):=if iS en ts=true then some ts else none
def th (en:Nat) (ts:List Tok):Option (List Tok):=if bv en [[124]] ts=true then some ts.tail else none
theorem PK (en:Nat):∀ts ts',tj en ts=some ts'→ts'.length≤ts.length:=fun ts ts' h=>by
 unfold tj at h
 split at h
 · injection h with h;subst h;exact Nat.le_refl _
 · cases h
theorem Zi (en:Nat):∀ts ts',th en ts=some ts'→ts'.length≤ts.length:=fun ts ts' h=>by
 unfold th at h
 split at h
 · injection h with h;subst h;exact Dq ts
 · cases h
theorem Zj (en:Nat):tj en []=none:=if_neg (fun h=>yM h rfl)
theorem Zh (en:Nat):th en []=none:=if_neg (fun h=>eB h rfl)
set_option maxHeartbeats 1000000 in
theorem R4 (p en g m n:Nat) (hnm:n≤m) (knot:Nat→List Tok→cn bS) (hTk:∀g,mY (knot g)) (hK:∀g',yE p en n g' (knot g')):qz p en 36 [] (n+1) g 0 (kR en m g knot) pT:=by
 intro w σ hP hn;have hpl:=hP.lt;have h65:=hP.sz;have hTi:mY (fz en m g knot):=LU hTk;have hb:=Kp.refl p w;refine enter Tryz.func36 rfl rfl rfl<|am fun aR=>bT (z:=hY) (by kernel_rfl) rfl ?_
 rintro au dJ dH ab aM;have:=aM.size;have hP:=hP.below aM;replace aM:=Below.kp (p:=p) aM;have hb:=hb.trans aM;have:=ab.lt;refine al aR<|am fun bt=>ai rfl<|aD TR rfl rfl (Sm p en g m n hnm knot hK _ σ hP hn) rfl ?_
 rintro _ cB ⟨⟨x,σ1,⟨z,Sz,rfl,hz,aT⟩,hf1,hP⟩,aw⟩;have:=aw.size;have ab:=ak.kp ab aw (by omega);have hb:=hb.trans aw;have hpe:bR σ (kR en m g knot)=bR σ1 (pI 3 (tj en) (fz en m g knot) [x]):=by rw [show kR en m g knot=_ from RP 3 (tj en) (fz en m g knot)];exact ij hf1 _
 have hs1:cE σ1≤cE σ:=rJ hf1 (MV hTi);refine bT (z:=hY) (by kernel_rfl) rfl ?_;rintro dq ks jH aE ck;have:=ck.size;have hP:=hP.below ck;have ab:=ab.below ck;have hz:=hz.below ck;replace ck:=Below.kp (p:=p) ck;have hb:=hb.trans ck;have:=aE.lt;refine ba (by kernel_rfl) rfl rfl aE rfl rfl ?_;rintro du aE aF;have:=aF.size;have hb:=bp hb aF (by omega);have hP:=RO.over hP aF (by omega);have ab:=ab.over aF (by omega);have hz:=bi.kp hz aF (fun h_=>by have bh:=aT _ h_;omega);refine al bt<|am fun dV=>aG (cr dc (by kernel_rfl) rfl (by exact fun j u hu=>aE.at hu)) rfl<|cz (sz:=20) (vs:= [_]) fO (by kernel_rfl) rfl rfl rfl rfl rfl rfl ?_
 rintro cp fA fw aI aV;have:=aV.size;have hP:=hP.below aV;have ab:=ab.below aV;have hz:=hz.below aV;have aE:=aE.below aV;replace aV:=Below.kp (p:=p) aV;have hb:=hb.trans aV;have:=aI.lt;refine an rfl<|al dV<|av fun _ dT=>b4<|d9 (X:=Value×List bS×List Value×(Nat→Prop)×Sg) (fun (v,l,xs,S,τ)=> [(0,bH p),(2,.pointer (some ⟨au,0,none⟩)),(3,.pointer (some ⟨dq,0,none⟩)),(4,v)]) (fun (v,l,xs,S,τ) wr=>bR σ (kR en m g knot)=bR τ (pI 3 (tj en) (fz en m g knot) l)∧(∃l',l=x :: l')∧l.length+cE τ≤cE σ+1∧Kp p w wr∧RO wr p en g 0 τ∧wr.ownsRow w.heap.size 31 20 v l.length xs∧dv wr S l xs∧(∀k,S k→w.heap.size≤k∧k<wr.heap.size∧k≠au∧k≠dq)∧(∀k,S k→v.ownBlock≠some k)∧v.ownBlock≠some au∧v.ownBlock≠some dq∧ak wr au 31 er.cells∧ak wr dq 31 z.cells∧bi wr Sz x z.cells∧(∀k,Sz k→S k)∧(∀k,Sz k→w.heap.size≤k∧k<wr.heap.size∧k≠au∧k≠dq)) (fun (v,l,xs,S,τ)=>cE τ) (⟨.slice (some ⟨cp,0,none⟩) 1 1,[x],z.cells,Sz,σ1⟩) ?_ ?_ ?_
 · exact by repeat first|exact aC|refine aA rfl (by first|rfl|exact aH (by omega)) ?_
 · exact ⟨hpe,⟨[],rfl⟩,by show 1+cE σ1≤_;omega,hb,hP,aI.own (base:=w.heap.size) (n:=1) (sz:=20) (by omega) rfl (by decide),dv.one hz,fun k hk=>by have:=aT k hk;omega,fun k hk e=>by have:=aT k hk;have e:cp=k:=Option.some.inj e;omega,fun e=>by have e:cp=au:=Option.some.inj e;omega,fun e=>by have e:cp=dq:=Option.some.inj e;omega,ab,aE,hz,fun _ h=>h,fun k hk=>by have:=aT k hk;omega⟩
 rintro ⟨v,l,xs,S,τ⟩ wr re _ Cs;replace re:bR σ (kR en m g knot)=bR τ (pI 3 (tj en) (fz en m g knot) l)∧(∃l',l=x :: l')∧l.length+cE τ≤cE σ+1∧Kp p w wr∧RO wr p en g 0 τ∧wr.ownsRow w.heap.size 31 20 v l.length xs∧dv wr S l xs∧(∀k,S k→w.heap.size≤k∧k<wr.heap.size∧k≠au∧k≠dq)∧(∀k,S k→v.ownBlock≠some k)∧v.ownBlock≠some au∧v.ownBlock≠some dq∧ak wr au 31 er.cells∧ak wr dq 31 z.cells∧bi wr Sz x z.cells∧(∀k,Sz k→S k)∧(∀k,Sz k→w.heap.size≤k∧k<wr.heap.size∧k≠au∧k≠dq):=re;obtain ⟨hF,hlx,hlr,hb,hP,hO,hL,jX,pz,hO0,hO2,ab,aE,hx,hxs,dt⟩:=re;show Wc _ _ _ _ _ [(0,bH p),(2,.pointer (some ⟨au,0,none⟩)),(3,.pointer (some ⟨dq,0,none⟩)),(4,v)] _;have:=hb.size;have:=ab.lt;have:=aE.lt;refine av fun _ fd=>am fun eL=>ai rfl<|aD TS rfl rfl (R2 p en g 0 τ _ hP) rfl ?_
 rintro _ cU ⟨rfl,aL⟩;have:=aL.size;have hP:=RO.below hP aL;have hO:=mc hO aL;have hL:=dv.below hL aL;have ab:=ak.below ab aL;have aE:=ak.below aE aL;have hx:=bi.below hx aL;replace aL:=Below.kp (p:=p) aL;have hb:=hb.trans aL;refine al eL<|aO rfl (fun lr=>?_) (fun lr=>?_)
 ·
  have sR:=lr;obtain ⟨ts,rfl,hbg⟩:=Oj sR;have hl0:=List.length_pos_iff.2 (yM hbg);have hts:l.length+ts.length≤cE σ+1:=hlr;have hll:1≤l.length:=by obtain ⟨l',rfl⟩:=hlx;simp
  refine aU<|ax fd<|b4<|am fun fC=>ai rfl ?_
  have La:=hO;refine aD TR rfl rfl (Sm p en g m n hnm knot hK _ (.ok () ts) hP (show ts.length<n+1 by omega)) rfl ?_;rintro _ eP ⟨⟨y,τ2,⟨zy,Sy,rfl,hy,fp⟩,hf2,hP⟩,a6⟩;have:=a6.size;have hO:=zE hO a6 (by omega);have hL:=dv.kp hL a6 (fun h_=>by have bh:=jX _ h_;omega);have ab:=ak.kp ab a6 (by omega);have aE:=ak.kp aE a6 (by omega);have hx:=bi.kp hx a6 (fun h_=>by have bh:=dt _ h_;omega);have hb:=hb.trans a6;have hs2:=aeM hf2 hTi hl0;have hvk:∀k,v.ownBlock=some k→k<cU.heap.size:=fun k hk=>by have:=(jz La k hk).2;omega
  refine bT (z:=hY) (by kernel_rfl) rfl ?_;rintro gG tV oF bL ep;have:=ep.size;have hP:=hP.below ep;have hO:=mc hO ep;have hL:=hL.below ep;have ab:=ab.below ep;have aE:=aE.below ep;have hx:=hx.below ep;have hy:=hy.below ep;replace ep:=Below.kp (p:=p) ep;have hb:=hb.trans ep;have:=bL.lt
  have uJ:v.ownBlock=none∨v.ownBlock≠some gG:=by
   cases hv:v.ownBlock with
   |none=>exact .inl rfl
   |some kk=>exact .inr (fun e=>by have:=hvk kk hv;cases e;omega)
  refine ba (by kernel_rfl) rfl rfl bL rfl rfl ?_;rintro ff bL bc;have:=bc.size;have hb:=bp hb bc (by omega);have hP:=RO.over hP bc (by omega);have hO:=World.ownsRow.kept hO bc (by assumption);have hL:=dv.kp hL bc (fun h_=>by have bh:=jX _ h_;omega);have ab:=ab.over bc (by omega);have aE:=aE.over bc (by omega);have hx:=bi.kp hx bc (fun h_=>by have bh:=dt _ h_;omega);have hy:=bi.kp hy bc (fun h_=>by have bh:=fp _ h_;omega);refine al fC<|aQ<|ai rfl<|aG (cr dc (by kernel_rfl) rfl (by exact fun j u hu=>bL.at hu)) rfl<|cz (sz:=20) (vs:= [_]) fO (by kernel_rfl) rfl rfl rfl rfl rfl rfl ?_
  rintro cK jB jG aK bA;have:=bA.size;have hP:=hP.below bA;have hO:=mc hO bA;have hL:=hL.below bA;have ab:=ab.below bA;have aE:=aE.below bA;have hx:=hx.below bA;have hy:=hy.below bA;replace bA:=Below.kp (p:=p) bA;have hb:=hb.trans bA;have:=aK.lt;have xM:=hO;refine vr (z:=hY) (sz:=20) (bytes:=248) fO (by kernel_rfl) rfl (by decide) _ rfl hO rfl (aK.rd 1 20 rfl) zy.one (by simp only [maxLen];omega) (by omega) (by exact hb.size) rfl ?_;rintro DO pO CJ f4 sj;have:=f4.size;have hb:=Fs hb f4 (fun k_ ry=>by have:=(jz hO k_ ry).1;omega);have hO:=CJ;have hP:=hP.row f4 (fun k hk=>by have:=(jz xM k hk).1;omega);have hL:=dv.lift (gn.row f4 pz) (fun _ h=>h) hL;have hx:=bi.lift (gn.row f4 (fun k hk=>pz k (hxs k hk))) (fun _ h=>h) hx;have hy:=bi.lift (gn.row f4 (fun k hk e=>by have:=hvk k e;have:=fp k hk;omega)) (fun _ h=>h) hy;have ab:=ab.grown f4 (fun e=>hO0 e.symm);have aE:=aE.grown f4 (fun e=>hO2 e.symm);refine an rfl<|ay<|cD<|fun a_ bM=>Cs _ _ (⟨DO,l++ [y],xs++zy.cells,fun k=>S k∨Sy k,τ2⟩) (by show cE τ2<ts.length;omega) (by repeat first|exact aC|refine aA rfl (by first|rfl|exact aH (by omega)) ?_) ?_ a_ bM
  exact ⟨by rw [hF];show pI 3 (tj en) (fz en m g knot) l ts=_;rw [Su (PK en) (Zj en) hTi (show tj en ts=some ts from if_pos hbg)];exact ij hf2 _,by obtain ⟨l',rfl⟩:=hlx;exact ⟨l'++ [y],rfl⟩,by rw [List.length_append];show l.length+1+cE τ2≤_;omega,hb,hP,by rw [List.length_append];exact hO,dv.snoc (hL.mono fun _ h=> .inl h) (hy.mono fun _ h=> .inr h),fun k hk=>by rcases hk with h|h;(· have:=jX k h;omega);(· have:=fp k h;omega),fun k hk e=>by rcases sj with h3|h3;(· rw [h3] at e;rcases hk with h|h;(· exact pz k h e);(· have:=hvk k e;have:=fp k h;omega));(· rw [h3] at e;injection e with e;rcases hk with h|h;(· have:=jX k h;omega);(· have:=fp k h;omega)),fun e=>by rcases sj with h3|h3;(· rw [h3] at e;exact hO0 e);(· rw [h3] at e;injection e with e;omega),fun e=>by rcases sj with h3|h3;(· rw [h3] at e;exact hO2 e);(· rw [h3] at e;injection e with e;omega),ab,aE,hx,fun k hk=> .inl (hxs k hk),fun k hk=>by have:=dt k hk;omega⟩
 have sR:=lr;have hbg:Ar en τ=false:=sR;refine d2<|cj<|cj<|d3<|ax dT<|av fun _ fu=>av fun _ fD=>?_
 have hend:bR σ (kR en m g knot)=dZ (oi 3 l) τ:=by rw [hF];exact Ss (fun ts hts=>by subst hts;exact if_neg (by rw [show iS en ts=false from hbg];decide))
 obtain ⟨A,c,rfl,hnc,hmx⟩:=uZ hO;have hR:=vi hO
 have hA:∀q,A=some q→w.heap.size≤q.block∧q.block<cU.heap.size∧q.block≠au:=fun q e=>by
  subst e;have hq:(Value.slice (some q) l.length c).ownBlock=some q.block:=rfl;have:=jz hO q.block hq;exact ⟨this.1,this.2,fun e=>hO0 (by rw [hq,e])⟩
 refine aQ<|ai rfl<|ae (iC fO (by omega) rfl) rfl<|ae (bX rfl rfl) rfl<|al fD<|aO rfl (fun lu=>?_) (fun lu=>?_)
 ·
  have vK:=lu;simp only [DZ] at lu;have h1:l.length=1:=by have:=lu;omega
  obtain ⟨l',hl'⟩:=hlx;have hle:l= [x]:=by rw [hl'] at h1 ⊢;simp at h1;rw [h1]
  refine am fun im=>aG (cr dc (by kernel_rfl) rfl (by exact fun j u hu=>aE.at hu)) rfl ?_;refine ba (by kernel_rfl) rfl rfl ab rfl rfl ?_;rintro gB ab bz;have:=bz.size;have hb:=bp hb bz (by omega);have hP:=RO.over hP bz (by omega);have hx:=bi.kp hx bz (fun h_=>by have bh:=dt _ h_;omega);refine al im<|aJ<|aX<|bQ (rs:= [.cell 2 31]) (vs:= [_]) rfl (.cell rfl (bP dc (by kernel_rfl) (fun j u hu=>ab.at hu)) .nil) ?_
  exact ⟨_,rfl,⟨x,τ,⟨z,Sz,rfl,hx,fun k hk=>by have:=dt k hk;omega⟩,by rw [hend,hle];rfl,hP⟩,hb⟩
 have vK:=lu;simp only [DZ] at lu;have h1:l.length≠1:=by have:=lu;omega
 have hsp:oi 3 l= .mk 3 [] 0 eC eC 0 0 l:=by
  obtain ⟨l',rfl⟩:=hlx
  cases l' with
  |nil=>exact absurd rfl h1
  |cons a b=>rfl
 refine aU<|ax fu<|am fun iW=>ai rfl<|ae (cC (z:=n7) (pl:=n8) (cs:= [_,_,_,_,_,_,_,_,_,_,_,_,_,_,_,_,_,_,_,_]) dc (by kernel_rfl) (by kernel_rfl) rfl rfl rfl) rfl ?_
 have hNode:bi cU (fun q=>S q∨∃a,A=some a∧q=a.block) (.mk 3 [] 0 eC eC 0 0 l) (PC.cells ⟨3,[],0,dE,dE,0,0,A,l.length,c⟩):=bi.node 3 0 0 rfl hR (fun q e=> .inr ⟨q,e,rfl⟩) (hL.mono fun _ h=> .inl h) (by omega)
 have CA:∀k,(S k∨∃a,A=some a∧k=a.block)→w.heap.size≤k∧k<cU.heap.size∧k≠au:=fun k hk=>by
  rcases hk with h|⟨a,e,rfl⟩
  · have:=jX k h;omega
  · exact hA a e
 refine ba (by kernel_rfl) rfl rfl ab rfl rfl ?_;rintro j7 ab cd;have:=cd.size;have hb:=bp hb cd (by omega);have hP:=RO.over hP cd (by omega);refine al iW<|aJ<|bQ (rs:= [.cell 2 31]) (vs:= [_]) rfl (.cell rfl (bP dc (by kernel_rfl) (fun j u hu=>ab.at hu)) .nil) ?_
 exact ⟨_,rfl,⟨oi 3 l,τ,⟨⟨3,[],0,dE,dE,0,0,A,l.length,c⟩,_,rfl,by rw [hsp];exact hNode.kp cd (fun h=>by have:=CA _ h;omega),fun k hk=>by have:=CA k hk;omega⟩,hend,hP⟩,hb⟩
set_option maxHeartbeats 1000000 in
theorem aed (p en g m n:Nat) (hnm:n≤m) (knot:Nat→List Tok→cn bS) (hTk:∀g,mY (knot g)) (hK:∀g',yE p en n g' (knot g')):yE p en (n+1) g (pG en m g knot):=by
 intro w σ hP hn;have hpl:=hP.lt;have h65:=hP.sz;have hTi:mY (kR en m g knot):=MG (PK en) (LU hTk);have hb:=Kp.refl p w;refine enter Tryz.func15 rfl rfl rfl<|am fun aR=>bT (z:=hY) (by kernel_rfl) rfl ?_
 rintro au dJ dH ab aM;have:=aM.size;have hP:=hP.below aM;replace aM:=Below.kp (p:=p) aM;have hb:=hb.trans aM;have:=ab.lt;refine al aR<|av fun _ bt=>av fun _ b8=>?_
 obtain ⟨A,c,nn,a0,e0,hPb,hσ,_⟩:=hP.open;refine aQ<|ai rfl<|ae (cI rfl) rfl<|ae (aP (nB _) rfl) rfl<|aG (aS iq rfl (by exact hPb.at (j:=3) rfl)) rfl<|ae (fG rfl rfl) rfl<|al b8<|aO rfl (fun dA=>?_) (fun dA=>?_)
 ·
  have lp:=dA;simp only [DZ] at dA;obtain ⟨he0,hσe⟩:e0≠0∧σ= .err a0 e0:=by rcases hσ with h|h;(· exact absurd h.1 dA);(· exact h)
  subst hσe;refine am fun dT=>ae (cC (z:=n7) (pl:=n8) (cs:= [_,_,_,_,_,_,_,_,_,_,_,_,_,_,_,_,_,_,_,_]) dc (by kernel_rfl) (by kernel_rfl) rfl rfl rfl) rfl<|ba (by kernel_rfl) rfl rfl ab rfl rfl ?_
  rintro du ab aF;have:=aF.size;have hb:=bp hb aF (by omega);have hP:=RO.over hP aF (by omega);refine al dT<|aJ<|aX<|bQ (rs:= [.cell 2 31]) (vs:= [_]) rfl (.cell rfl (bP dc (by kernel_rfl) (fun j u hu=>ab.at hu)) .nil) ?_
  exact ⟨_,rfl,⟨oJ,.err a0 e0,⟨er,_,rfl,ql _,fun k h=>h.elim⟩,rfl,hP⟩,hb⟩
 clear hPb;refine aU<|ax bt<|am fun eh=>ai rfl<|aD TN rfl rfl (R4 p en g m n hnm knot hTk hK _ σ hP hn) rfl ?_
 rintro _ cB ⟨⟨x,σ1,⟨z,Sz,rfl,hz,aT⟩,hf1,hP⟩,aw⟩;have:=aw.size;have ab:=ak.kp ab aw (by omega);have hb:=hb.trans aw;have hpe:bR σ (pG en m g knot)=bR σ1 (pI 4 (th en) (kR en m g knot) [x]):=by rw [show pG en m g knot=_ from RP 4 (th en) (kR en m g knot)];exact ij hf1 _
 have hs1:cE σ1≤cE σ:=rJ hf1 (MV hTi);refine bT (z:=hY) (by kernel_rfl) rfl ?_;rintro oy Nu CH dS ko;have:=ko.size;have hP:=hP.below ko;have ab:=ab.below ko;have hz:=hz.below ko;replace ko:=Below.kp (p:=p) ko;have hb:=hb.trans ko;have:=dS.lt;refine ba (by kernel_rfl) rfl rfl dS rfl rfl ?_;rintro ff dS bc;have:=bc.size;have hb:=bp hb bc (by omega);have hP:=RO.over hP bc (by omega);have ab:=ab.over bc (by omega);have hz:=bi.kp hz bc (fun h_=>by have bh:=aT _ h_;omega);refine al eh<|am fun mB=>aG (cr dc (by kernel_rfl) rfl (by exact fun j u hu=>dS.at hu)) rfl<|cz (sz:=20) (vs:= [_]) fO (by kernel_rfl) rfl rfl rfl rfl rfl rfl ?_
 rintro cp fA fw aI aV;have:=aV.size;have hP:=hP.below aV;have ab:=ab.below aV;have hz:=hz.below aV;have dS:=dS.below aV;replace aV:=Below.kp (p:=p) aV;have hb:=hb.trans aV;have:=aI.lt;refine an rfl<|al mB<|av fun _ mC=>b4<|d9 (X:=Value×List bS×List Value×(Nat→Prop)×Sg) (fun (v,l,xs,S,τ)=> [(0,bH p),(2,.pointer (some ⟨au,0,none⟩)),(3,.pointer (some ⟨oy,0,none⟩)),(4,v)]) (fun (v,l,xs,S,τ) wr=>bR σ (pG en m g knot)=bR τ (pI 4 (th en) (kR en m g knot) l)∧(∃l',l=x :: l')∧l.length+cE τ≤cE σ+1∧Kp p w wr∧RO wr p en g 0 τ∧wr.ownsRow w.heap.size 31 20 v l.length xs∧dv wr S l xs∧(∀k,S k→w.heap.size≤k∧k<wr.heap.size∧k≠au∧k≠oy)∧(∀k,S k→v.ownBlock≠some k)∧v.ownBlock≠some au∧v.ownBlock≠some oy∧ak wr au 31 er.cells∧ak wr oy 31 z.cells∧bi wr Sz x z.cells∧(∀k,Sz k→S k)∧(∀k,Sz k→w.heap.size≤k∧k<wr.heap.size∧k≠au∧k≠oy)) (fun (v,l,xs,S,τ)=>cE τ) (⟨.slice (some ⟨cp,0,none⟩) 1 1,[x],z.cells,Sz,σ1⟩) ?_ ?_ ?_
 · exact by repeat first|exact aC|refine aA rfl (by first|rfl|exact aH (by omega)) ?_
 · exact ⟨hpe,⟨[],rfl⟩,by show 1+cE σ1≤_;omega,hb,hP,aI.own (base:=w.heap.size) (n:=1) (sz:=20) (by omega) rfl (by decide),dv.one hz,fun k hk=>by have:=aT k hk;omega,fun k hk e=>by have:=aT k hk;have e:cp=k:=Option.some.inj e;omega,fun e=>by have e:cp=au:=Option.some.inj e;omega,fun e=>by have e:cp=oy:=Option.some.inj e;omega,ab,dS,hz,fun _ h=>h,fun k hk=>by have:=aT k hk;omega⟩
 rintro ⟨v,l,xs,S,τ⟩ wr xp _ aaq;replace xp:bR σ (pG en m g knot)=bR τ (pI 4 (th en) (kR en m g knot) l)∧(∃l',l=x :: l')∧l.length+cE τ≤cE σ+1∧Kp p w wr∧RO wr p en g 0 τ∧wr.ownsRow w.heap.size 31 20 v l.length xs∧dv wr S l xs∧(∀k,S k→w.heap.size≤k∧k<wr.heap.size∧k≠au∧k≠oy)∧(∀k,S k→v.ownBlock≠some k)∧v.ownBlock≠some au∧v.ownBlock≠some oy∧ak wr au 31 er.cells∧ak wr oy 31 z.cells∧bi wr Sz x z.cells∧(∀k,Sz k→S k)∧(∀k,Sz k→w.heap.size≤k∧k<wr.heap.size∧k≠au∧k≠oy):=xp;obtain ⟨hF,hlx,hlr,hb,hP,hO,hL,jX,pz,hO0,hO2,ab,dS,hx,hxs,dt⟩:=xp;show Wc _ _ _ _ _ [(0,bH p),(2,.pointer (some ⟨au,0,none⟩)),(3,.pointer (some ⟨oy,0,none⟩)),(4,v)] _;have:=hb.size;have:=ab.lt;have:=dS.lt;refine av fun _ fT=>am fun gu=>ai rfl<|aD lj rfl rfl (lh p en g 0 τ [124] _ hP) rfl ?_
 rintro _ cU ⟨rfl,aL⟩;have:=aL.size;have hP:=RO.below hP aL;have hO:=mc hO aL;have hL:=dv.below hL aL;have ab:=ak.below ab aL;have dS:=ak.below dS aL;have hx:=bi.below hx aL;replace aL:=Below.kp (p:=p) aL;have hb:=hb.trans aL;refine al gu<|aO rfl (fun gE=>?_) (fun gE=>?_)
 ·
  have rU:=gE;obtain ⟨ts,rfl,hi⟩:=oN rU;have hl0:=kN hi;have hts:l.length+ts.length≤cE σ+1:=hlr;have hll:1≤l.length:=by obtain ⟨l',rfl⟩:=hlx;simp
  refine aU<|ax fT<|b4<|am fun fD=>ai rfl ?_
  have La:=hO;refine aD iP rfl rfl (iO p en ts g 0 (eB hi) _ hP) rfl ?_;rintro _ eP ⟨⟨rfl,hP⟩,a6⟩;have:=a6.size;have hO:=zE hO a6 (by omega);have hL:=dv.kp hL a6 (fun h_=>by have bh:=jX _ h_;omega);have ab:=ak.kp ab a6 (by omega);have dS:=ak.kp dS a6 (by omega);have hx:=bi.kp hx a6 (fun h_=>by have bh:=dt _ h_;omega);have hb:=hb.trans a6;refine al fD<|am fun gP=>ai rfl<|aD TN rfl rfl (R4 p en g m n hnm knot hTk hK _ (.ok () ts.tail) hP (show ts.tail.length<n+1 by omega)) rfl ?_
  rintro _ fj ⟨⟨y,τ2,⟨zy,Sy,rfl,hy,fp⟩,hf2,hP⟩,bk⟩;have:=bk.size;have hO:=zE hO bk (by omega);have hL:=dv.kp hL bk (fun h_=>by have bh:=jX _ h_;omega);have ab:=ak.kp ab bk (by omega);have dS:=ak.kp dS bk (by omega);have hx:=bi.kp hx bk (fun h_=>by have bh:=dt _ h_;omega);have hb:=hb.trans bk;have hs2:cE τ2≤ts.tail.length:=rJ hf2 (MV hTi);have hvk:∀k,v.ownBlock=some k→k<cU.heap.size:=fun k hk=>by have:=(jz La k hk).2;omega
  refine bT (z:=hY) (by kernel_rfl) rfl ?_;rintro nN F0 Fb fY fE;have:=fE.size;have hP:=hP.below fE;have hO:=mc hO fE;have hL:=hL.below fE;have ab:=ab.below fE;have dS:=dS.below fE;have hx:=hx.below fE;have hy:=hy.below fE;replace fE:=Below.kp (p:=p) fE;have hb:=hb.trans fE;have:=fY.lt
  have uJ:v.ownBlock=none∨v.ownBlock≠some nN:=by
   cases hv:v.ownBlock with
   |none=>exact .inl rfl
   |some kk=>exact .inr (fun e=>by have:=hvk kk hv;cases e;omega)
  refine ba (by kernel_rfl) rfl rfl fY rfl rfl ?_;rintro gB fY bz;have:=bz.size;have hb:=bp hb bz (by omega);have hP:=RO.over hP bz (by omega);have hO:=World.ownsRow.kept hO bz (by assumption);have hL:=dv.kp hL bz (fun h_=>by have bh:=jX _ h_;omega);have ab:=ab.over bz (by omega);have dS:=dS.over bz (by omega);have hx:=bi.kp hx bz (fun h_=>by have bh:=dt _ h_;omega);have hy:=bi.kp hy bz (fun h_=>by have bh:=fp _ h_;omega);refine al gP<|aQ<|ai rfl<|aG (cr dc (by kernel_rfl) rfl (by exact fun j u hu=>fY.at hu)) rfl<|cz (sz:=20) (vs:= [_]) fO (by kernel_rfl) rfl rfl rfl rfl rfl rfl ?_
  rintro cK jB jG aK bA;have:=bA.size;have hP:=hP.below bA;have hO:=mc hO bA;have hL:=hL.below bA;have ab:=ab.below bA;have dS:=dS.below bA;have hx:=hx.below bA;have hy:=hy.below bA;replace bA:=Below.kp (p:=p) bA;have hb:=hb.trans bA;have:=aK.lt;have xM:=hO;refine vr (z:=hY) (sz:=20) (bytes:=248) fO (by kernel_rfl) rfl (by decide) _ rfl hO rfl (aK.rd 1 20 rfl) zy.one (by simp only [maxLen];omega) (by omega) (by exact hb.size) rfl ?_;rintro DO pO CJ f4 sj;have:=f4.size;have hb:=Fs hb f4 (fun k_ ry=>by have:=(jz hO k_ ry).1;omega);have hO:=CJ;have hP:=hP.row f4 (fun k hk=>by have:=(jz xM k hk).1;omega);have hL:=dv.lift (gn.row f4 pz) (fun _ h=>h) hL;have hx:=bi.lift (gn.row f4 (fun k hk=>pz k (hxs k hk))) (fun _ h=>h) hx;have hy:=bi.lift (gn.row f4 (fun k hk e=>by have:=hvk k e;have:=fp k hk;omega)) (fun _ h=>h) hy;have ab:=ab.grown f4 (fun e=>hO0 e.symm);have dS:=dS.grown f4 (fun e=>hO2 e.symm);refine an rfl<|ay<|cD<|fun a_ bM=>aaq _ _ (⟨DO,l++ [y],xs++zy.cells,fun k=>S k∨Sy k,τ2⟩) (by show cE τ2<ts.length;omega) (by repeat first|exact aC|refine aA rfl (by first|rfl|exact aH (by omega)) ?_) ?_ a_ bM
  exact ⟨by rw [hF];show pI 4 (th en) (kR en m g knot) l ts=_;rw [Su (Zi en) (Zh en) hTi (show th en ts=some ts.tail from if_pos hi)];exact ij hf2 _,by obtain ⟨l',rfl⟩:=hlx;exact ⟨l'++ [y],rfl⟩,by rw [List.length_append];show l.length+1+cE τ2≤_;omega,hb,hP,by rw [List.length_append];exact hO,dv.snoc (hL.mono fun _ h=> .inl h) (hy.mono fun _ h=> .inr h),fun k hk=>by rcases hk with h|h;(· have:=jX k h;omega);(· have:=fp k h;omega),fun k hk e=>by rcases sj with h3|h3;(· rw [h3] at e;rcases hk with h|h;(· exact pz k h e);(· have:=hvk k e;have:=fp k h;omega));(· rw [h3] at e;injection e with e;rcases hk with h|h;(· have:=jX k h;omega);(· have:=fp k h;omega)),fun e=>by rcases sj with h3|h3;(· rw [h3] at e;exact hO0 e);(· rw [h3] at e;injection e with e;omega),fun e=>by rcases sj with h3|h3;(· rw [h3] at e;exact hO2 e);(· rw [h3] at e;injection e with e;omega),ab,dS,hx,fun k hk=> .inl (hxs k hk),fun k hk=>by have:=dt k hk;omega⟩
 have rU:=gE;have hi:eZ en [[124]] τ=false:=rU;refine d2<|cj<|cj<|d3<|ax mC<|av fun _ lK=>av fun _ lL=>?_
 have hend:bR σ (pG en m g knot)=dZ (oi 4 l) τ:=by rw [hF];exact Ss (fun ts hts=>by subst hts;exact if_neg (by rw [show bv en [[124]] ts=false from hi];decide))
 obtain ⟨A,c,rfl,hnc,hmx⟩:=uZ hO;have hR:=vi hO
 have hA:∀q,A=some q→w.heap.size≤q.block∧q.block<cU.heap.size∧q.block≠au:=fun q e=>by
  subst e;have hq:(Value.slice (some q) l.length c).ownBlock=some q.block:=rfl;have:=jz hO q.block hq;exact ⟨this.1,this.2,fun e=>hO0 (by rw [hq,e])⟩
 refine aQ<|ai rfl<|ae (iC fO (by omega) rfl) rfl<|ae (bX rfl rfl) rfl<|al lL<|aO rfl (fun vR=>?_) (fun vR=>?_)
 ·
  have Xi:=vR;simp only [DZ] at vR;have h1:l.length=1:=by have:=vR;omega
  obtain ⟨l',hl'⟩:=hlx;have hle:l= [x]:=by rw [hl'] at h1 ⊢;simp at h1;rw [h1]
  refine am fun mE=>aG (cr dc (by kernel_rfl) rfl (by exact fun j u hu=>dS.at hu)) rfl ?_;refine ba (by kernel_rfl) rfl rfl ab rfl rfl ?_;rintro j7 ab cd;have:=cd.size;have hb:=bp hb cd (by omega);have hP:=RO.over hP cd (by omega);have hx:=bi.kp hx cd (fun h_=>by have bh:=dt _ h_;omega);refine al mE<|aJ<|aX<|bQ (rs:= [.cell 2 31]) (vs:= [_]) rfl (.cell rfl (bP dc (by kernel_rfl) (fun j u hu=>ab.at hu)) .nil) ?_
  exact ⟨_,rfl,⟨x,τ,⟨z,Sz,rfl,hx,fun k hk=>by have:=dt k hk;omega⟩,by rw [hend,hle];rfl,hP⟩,hb⟩
 have Xi:=vR;simp only [DZ] at vR;have h1:l.length≠1:=by have:=vR;omega
 have hsp:oi 4 l= .mk 4 [] 0 eC eC 0 0 l:=by
  obtain ⟨l',rfl⟩:=hlx
  cases l' with
  |nil=>exact absurd rfl h1
  |cons a b=>rfl
 refine aU<|ax lK<|am fun kl=>ai rfl<|ae (cC (z:=n7) (pl:=n8) (cs:= [_,_,_,_,_,_,_,_,_,_,_,_,_,_,_,_,_,_,_,_]) dc (by kernel_rfl) (by kernel_rfl) rfl rfl rfl) rfl ?_
 have hNode:bi cU (fun q=>S q∨∃a,A=some a∧q=a.block) (.mk 4 [] 0 eC eC 0 0 l) (PC.cells ⟨4,[],0,dE,dE,0,0,A,l.length,c⟩):=bi.node 4 0 0 rfl hR (fun q e=> .inr ⟨q,e,rfl⟩) (hL.mono fun _ h=> .inl h) (by omega)
 have CA:∀k,(S k∨∃a,A=some a∧k=a.block)→w.heap.size≤k∧k<cU.heap.size∧k≠au:=fun k hk=>by
  rcases hk with h|⟨a,e,rfl⟩
  · have:=jX k h;omega
  · exact hA a e
 refine ba (by kernel_rfl) rfl rfl ab rfl rfl ?_;rintro kW ab cx;have:=cx.size;have hb:=bp hb cx (by omega);have hP:=RO.over hP cx (by omega);refine al kl<|aJ<|bQ (rs:= [.cell 2 31]) (vs:= [_]) rfl (.cell rfl (bP dc (by kernel_rfl) (fun j u hu=>ab.at hu)) .nil) ?_
 exact ⟨_,rfl,⟨oi 4 l,τ,⟨⟨4,[],0,dE,dE,0,0,A,l.length,c⟩,_,rfl,by rw [hsp];exact hNode.kp cx (fun h=>by have:=CA _ h;omega),fun k hk=>by have:=CA k hk;omega⟩,hend,hP⟩,hb⟩
theorem RU (p en m:Nat):∀n,n≤m+1→∀g,yE p en n g (pF en m n g)
 |0,_,g=>fun w σ hP hn=>absurd hn (Nat.not_lt_zero _)
 |n+1,h,g=>aed p en g m n (by omega) (pF en m n) (My en m n) (RU p en m n (by omega))
theorem TD:bB Tryz.prog 17:=⟨_,Tryz.func17,by kernel_rfl,rfl⟩
theorem Na:bB Tryz.prog 37:=⟨_,Tryz.func37,by kernel_rfl,rfl⟩
theorem Rk:∀i,i<4→kP.getD i []∈kP∧Mf (kP.getD i [])=(i:Int):=by decide
theorem acZ {en i:Nat} {ts:List Tok} (hi:i<4) (h:bv en [kP.getD i []] ts=true):j2 en ts=((i:Int),ts.tail):=by
 have h1:=of_decide_eq_true h;have h2:=List.mem_singleton.1 h1.2;unfold j2 bv;rw [if_pos (decide_eq_true ⟨h1.1,by rw [h2];exact (Rk i hi).1⟩),h2,(Rk i hi).2]
theorem ac0 {en:Nat} {ts:List Tok} (h:∀j,j<4→bv en [kP.getD j []] ts=false):j2 en ts=(0,ts):=by
 unfold j2;refine if_neg fun e=>?_;have h1:=of_decide_eq_true e;obtain ⟨j,hj,hx⟩:=List.mem_iff_getElem.1 h1.2;have h2:=of_decide_eq_false (h j hj);exact h2 ⟨h1.1,List.mem_singleton.2 (by rw [←hx];simp [List.getD,List.getElem?_eq_getElem hj])⟩
theorem LQ {en:Nat} {a b:ao} {ts:List Tok} (h:bv en [a] ts=true) (hab:a≠b):¬bv en [b] ts=true:=fun e=>hab ((List.mem_singleton.1 (qi h)).symm.trans (List.mem_singleton.1 (qi e)))
theorem aeq {en:Nat} {r:List Tok} (h:bv en [tT] r=true):gw en r= .ok (1,0) r.tail:=by
 unfold gw;rw [if_neg (LQ h (by decide)),if_pos h]
theorem SK {en:Nat} {r:List Tok} (h:bv en [tS] r=true):gw en r=if bv en [mT] r.tail=true then .ok (2,0) r.tail.tail else .ok (0,0) r.tail:=by
 unfold gw;rw [if_pos h]
theorem aer {en:Nat} {r:List Tok} (h1:bv en [tT] r=false) (h2:bv en [tS] r=false) (h3:bv en [mT] r=false):gw en r= .ok (0,0) r:=by
 unfold gw;rw [if_neg (by rw [h2];decide),if_neg (by rw [h1];decide),if_neg (by rw [h3];decide)]
def zO (a k:Int) (r:List Tok):cn (Int×Int):=if k<1 then .err a 2 else if 1000<k then .err a 6 else .ok (3,k) r
theorem MN {en:Nat} {r:List Tok} {k:Int} {σ:Sg} (h3:bv en [mT] r=true) (hw:bR (.ok () r.tail) (gy en (aN en r.tail).a)=dZ k σ):bR (.ok () r) (gw en)=bR σ (zO (aN en r.tail).a k):=by
 have e:gw en r=eI (gy en (aN en r.tail).a r.tail) (zO (aN en r.tail).a):=by
  unfold gw;rw [if_neg (LQ h3 (by decide)),if_neg (LQ h3 (by decide)),if_pos h3]
  cases gy en (aN en r.tail).a r.tail<;>rfl
 show gw en r=_;rw [e];exact ij hw (zO (aN en r.tail).a)
theorem aen {a k:Int} (h:k<1) (σ:Sg):bR σ (zO a k)=dZ (3,k) (pK a 2 σ):=by
 cases σ with
 |err a e=>rfl
 |ok u r=>exact if_pos h
theorem aeo {a k:Int} (h:1000<k) (σ:Sg):bR σ (zO a k)=dZ (3,k) (pK a 6 σ):=by
 cases σ with
 |err a e=>rfl
 |ok u r=>exact (if_neg (by omega)).trans (if_pos h)
theorem aep {a k:Int} (h1:¬k<1) (h2:¬1000<k) (σ:Sg):bR σ (zO a k)=dZ (3,k) σ:=by
 cases σ with
 |err a e=>rfl
 |ok u r=>exact (if_neg h1).trans (if_neg h2)
theorem ad2 (p en g b:Nat) (ts:List Tok) (w:World) (hP:RO w p en g b (.ok () ts)):bx Tryz.prog 14 [bH p] w fun v w'=>(∃sel kk σ',v= .agg (ic (j2 en ts).1 sel kk er).toArray∧bR (.ok () (j2 en ts).2) (gw en)=dZ (sel,kk) σ'∧RO w' p en g b σ')∧Kp p w w':=by
 have hpl:=hP.lt;obtain ⟨mode,r,hMo⟩:∃m r,j2 en ts=(m,r):=⟨_,_,rfl⟩;rw [hMo];have hb:=Kp.refl p w;refine enter Tryz.func14 rfl rfl rfl<|am fun aR=>bT (z:=sr) (by kernel_rfl) rfl ?_
 rintro au dJ dH ab aM;have:=aM.size;have hP:=hP.below aM;replace aM:=Below.kp (p:=p) aM;have hb:=hb.trans aM;have:=ab.lt;refine al aR<|am fun bt=>ae (cC (z:=uR) (pl:=uS) (cs:= [_,_,_,_,_,_,_,_,_,_,_,_,_,_,_,_,_,_,_,_,_,_,_]) e8 (by kernel_rfl) (by kernel_rfl) rfl rfl rfl) rfl<|bT (z:=sr) (by kernel_rfl) rfl ?_
 rintro dq ks jH aE ck;have:=ck.size;have hP:=hP.below ck;have ab:=ab.below ck;replace ck:=Below.kp (p:=p) ck;have hb:=hb.trans ck;have:=aE.lt;refine ba (by kernel_rfl) rfl rfl aE rfl rfl ?_;rintro du aE aF;have:=aF.size;have hb:=bp hb aF (by omega);have hP:=RO.over hP aF (by omega);have ab:=ab.over aF (by omega);refine al bt<|am fun fi=>cz (sz:=1) (vs:= [_,_,_,_]) dl (by kernel_rfl) rfl rfl rfl rfl rfl rfl ?_
 rintro cp fA fw aI aV;have:=aV.size;have hP:=hP.below aV;have ab:=ab.below aV;have aE:=aE.below aV;replace aV:=Below.kp (p:=p) aV;have hb:=hb.trans aV;have:=aI.lt;refine an rfl<|al fi<|av fun _ dW=>am fun fZ=>an rfl<|al fZ<|cR (X:=Unit) (fun u_=> [(0,bH p),(2,.pointer (some ⟨au,0,none⟩)),(3,.pointer (some ⟨dq,0,none⟩))]) (fun u_ wr=>Kp p w wr∧RO wr p en g b (.ok () r)∧ak wr au 33 (ic 0 0 0 er)∧ak wr dq 33 (ic mode 0 0 er)) (fun _ Cx=>?_) ?_
 ·
  refine b4<|d9 (X:=Nat) (fun i=> [(0,bH p),(2,.pointer (some ⟨au,0,none⟩)),(3,.pointer (some ⟨dq,0,none⟩)),(4,.slice (some ⟨cp,0,none⟩) 4 4),(5,.int .i64 (i:Int))]) (fun i wr=>i≤4∧(∀j,j<i→bv en [kP.getD j []] ts=false)∧Kp p w wr∧RO wr p en g b (.ok () ts)∧ak wr au 33 (ic 0 0 0 er)∧ak wr dq 33 (ic 0 0 0 er)∧ak wr cp 9 (b9 kP)) (fun i=>4 - i) (0) ?_ ?_ ?_
  · exact by repeat first|exact aC|refine aA rfl (by first|rfl|exact aH (by omega)) ?_
  · exact ⟨by omega,fun j h=>by omega,hb,hP,ab,aE,aI⟩
  rintro i wr JB _ aak;replace JB:i≤4∧(∀j,j<i→bv en [kP.getD j []] ts=false)∧Kp p w wr∧RO wr p en g b (.ok () ts)∧ak wr au 33 (ic 0 0 0 er)∧ak wr dq 33 (ic 0 0 0 er)∧ak wr cp 9 (b9 kP):=JB;obtain ⟨hi,hall,hb,hP,ab,aE,aI⟩:=JB;show Wc _ _ _ _ _ [(0,bH p),(2,.pointer (some ⟨au,0,none⟩)),(3,.pointer (some ⟨dq,0,none⟩)),(4,.slice (some ⟨cp,0,none⟩) 4 4),(5,.int .i64 (i:Int))] _;have:=hb.size;have:=ab.lt;have:=aE.lt;have:=aI.lt;refine av fun _ eL=>am fun gH=>ai rfl<|ae (dL rfl rfl) rfl<|ai rfl<|cG rfl rfl rfl (fun lE=>?_) (fun lE=>?_)
  ·
   have lF:=lE;simp only [DZ] at lE;have hi4:i<4:=by have:=lE;omega
   refine ae (aP (y6 _) rfl) rfl<|ap rfl rfl lF<|aG (aS b0 rfl (by exact aE.at (j:=0) rfl)) rfl<|ap rfl rfl lF<|ae (bX rfl rfl) rfl<|ae (bo rfl lF rfl) rfl<|al gH<|aO rfl (fun Eo=>?_) (fun Eo=>?_)
   ·
    refine aU<|ax eL<|av fun _ ju=>b4<|am fun ki=>ai rfl<|ai rfl<|ai rfl<|ae (f8 dl pL rfl rfl (by omega) (by omega)) rfl<|aG (aS di rfl (by exact yc aI (show i<kP.length from hi4))) rfl<|aD lj rfl rfl (lh p en g b (.ok () ts) (kP.getD i []) _ hP) rfl ?_
    rintro _ cB ⟨rfl,aw⟩;have:=aw.size;have hP:=RO.below hP aw;have ab:=ak.below ab aw;have aE:=ak.below aE aw;have aI:=ak.below aI aw;replace aw:=Below.kp (p:=p) aw;have hb:=hb.trans aw;refine al ki<|aO rfl (fun GY=>?_) (fun GY=>?_)
    ·
     have GZ:=GY;have hh:bv en [kP.getD i []] ts=true:=GZ;have heq:(i:Int)=mode∧ts.tail=r:=by rw [acZ hi4 hh] at hMo;injection hMo with a b;exact ⟨a,b⟩
     refine am fun gI=>ai rfl<|aD iP rfl rfl (iO p en ts g b (eB hh) _ hP) rfl ?_
     rintro _ cU ⟨⟨rfl,hP⟩,aL⟩;have:=aL.size;have ab:=ak.kp ab aL (by omega);have aE:=ak.kp aE aL (by omega);have hb:=hb.trans aL;refine al gI<|am fun kj=>ai rfl<|ae (aP (y6 _) rfl) rfl<|fV b0 rfl rfl rfl aE (by show 0<23;decide) ?_
     rintro ff aE bc;have:=bc.size;have hb:=bp hb bc (by omega);have hP:=RO.over hP bc (by omega);have ab:=ab.over bc (by omega);refine al kj<|d2<|WL rfl<|cj<|cj<|d3<|a7 Cx (()) (by repeat first|exact aC|refine aA rfl (by first|rfl|exact aH (by omega)) ?_) ?_
     obtain ⟨e1,e2⟩:=heq;subst e1 e2;exact ⟨hb,hP,ab,aE⟩
    have GZ:=GY;have hn:bv en [kP.getD i []] ts=false:=GZ;refine aU<|cD<|ax ju<|aQ<|ai rfl<|ae (ct rfl rfl (by omega) (by omega)) rfl<|an rfl<|ay<|fun a_ bM=>aak _ _ (i+1) (by omega) (by repeat first|exact aC|refine aA rfl (by first|rfl|exact aH (by omega)) ?_) ?_ a_ bM
    exact ⟨by omega,fun j hj=>by (by_cases e:j=i);(· rw [e];exact hn);(· exact hall j (by omega)),hb,hP,ab,aE,aI⟩
   have ahw:=Eo;simp only [DZ] at Eo
   (have h:=Eo;first|omega|exact absurd rfl h|simp at h)
  have lF:=lE;simp only [DZ] at lE;have hi4:i=4:=by have:=lE;omega
  subst hi4;have heq:(0:Int)=mode∧ts=r:=by rw [ac0 hall] at hMo;injection hMo with a b;exact ⟨a,b⟩
  refine az rfl rfl lF rfl rfl<|az rfl rfl lF rfl rfl<|ae (bj rfl lF rfl) rfl<|al gH<|oU rfl rfl<|d2<|cj<|cj<|d3<|a7 Cx (()) (by repeat first|exact aC|refine aA rfl (by first|rfl|exact aH (by omega)) ?_) ?_
  obtain ⟨e1,e2⟩:=heq;subst e1 e2;exact ⟨hb,hP,ab,aE⟩
 rintro u_ wr J6;replace J6:Kp p w wr∧RO wr p en g b (.ok () r)∧ak wr au 33 (ic 0 0 0 er)∧ak wr dq 33 (ic mode 0 0 er):=J6;obtain ⟨hb,hP,ab,aE⟩:=J6;show Wq _ _ _ _ [(0,bH p),(2,.pointer (some ⟨au,0,none⟩)),(3,.pointer (some ⟨dq,0,none⟩))] _;have:=hb.size;have:=ab.lt;have:=aE.lt;refine ax dW<|av fun _ oB=>am fun mE=>ai rfl<|aD lj rfl rfl (lh p en g b (.ok () r) tT _ hP) rfl ?_
 rintro _ eP ⟨rfl,a6⟩;have:=a6.size;have hP:=RO.below hP a6;have ab:=ak.below ab a6;have aE:=ak.below aE a6;replace a6:=Below.kp (p:=p) a6;have hb:=hb.trans a6;refine al mE<|aO rfl (fun Hi=>?_) (fun Hi=>?_)
 ·
  have Hj:=Hi;have h1:bv en [tT] r=true:=Hj;refine am fun m6=>ai rfl<|aD iP rfl rfl (iO p en r g b (eB h1) _ hP) rfl ?_
  rintro _ fj ⟨⟨rfl,hP⟩,bk⟩;have:=bk.size;have ab:=ak.kp ab bk (by omega);have aE:=ak.kp aE bk (by omega);have hb:=hb.trans bk;refine al m6<|am fun mF=>ae (aP (s1 _) rfl) rfl<|fV b0 rfl rfl rfl aE (by show 1<23;decide) ?_
  rintro gB aE bz;have:=bz.size;have hb:=bp hb bz (by omega);have hP:=RO.over hP bz (by omega);have ab:=ab.over bz (by omega);refine al mF<|am fun kJ=>aG (cr e8 (by kernel_rfl) rfl (by exact fun j u hu=>aE.at hu)) rfl ?_
  refine ba (by kernel_rfl) rfl rfl ab rfl rfl ?_;rintro j7 ab cd;have:=cd.size;have hb:=bp hb cd (by omega);have hP:=RO.over hP cd (by omega);refine al kJ<|aJ<|aX<|bQ (rs:= [.cell 2 33]) (vs:= [_]) rfl (.cell rfl (bP e8 (by kernel_rfl) (fun j u hu=>ab.at hu)) .nil) ?_
  exact ⟨_,rfl,⟨1,0,.ok () r.tail,rfl,aeq h1,hP⟩,hb⟩
 have Hj:=Hi;have h1:bv en [tT] r=false:=Hj;refine aU<|ax oB<|av fun _ kK=>am fun Cl=>ai rfl<|aD lj rfl rfl (lh p en g b (.ok () r) tS _ hP) rfl ?_
 rintro _ gj ⟨rfl,bD⟩;have:=bD.size;have hP:=RO.below hP bD;have ab:=ak.below ab bD;have aE:=ak.below aE bD;replace bD:=Below.kp (p:=p) bD;have hb:=hb.trans bD;refine al Cl<|aO rfl (fun HE=>?_) (fun HE=>?_)
 ·
  have HF:=HE;have h2:bv en [tS] r=true:=HF;refine am fun jv=>ai rfl<|aD iP rfl rfl (iO p en r g b (eB h2) _ hP) rfl ?_
  rintro _ lW ⟨⟨rfl,hP⟩,cm⟩;have:=cm.size;have ab:=ak.kp ab cm (by omega);have aE:=ak.kp aE cm (by omega);have hb:=hb.trans cm;refine al jv<|av fun _ m7=>am fun nS=>ai rfl<|aD lj rfl rfl (lh p en g b (.ok () r.tail) mT _ hP) rfl ?_
  rintro _ lX ⟨rfl,cy⟩;have:=cy.size;have hP:=RO.below hP cy;have ab:=ak.below ab cy;have aE:=ak.below aE cy;replace cy:=Below.kp (p:=p) cy;have hb:=hb.trans cy;refine al nS<|aO rfl (fun ny=>?_) (fun ny=>?_)
  ·
   have sX:=ny;have h4:bv en [mT] r.tail=true:=sX;refine am fun ro=>ai rfl<|aD iP rfl rfl (iO p en r.tail g b (eB h4) _ hP) rfl ?_
   rintro _ mh ⟨⟨rfl,hP⟩,cA⟩;have:=cA.size;have ab:=ak.kp ab cA (by omega);have aE:=ak.kp aE cA (by omega);have hb:=hb.trans cA;refine al ro<|aQ<|ae (aP (s1 _) rfl) rfl<|fV b0 rfl rfl rfl aE (by show 1<23;decide) ?_
   rintro kW aE cx;have:=cx.size;have hb:=bp hb cx (by omega);have hP:=RO.over hP cx (by omega);have ab:=ab.over cx (by omega);refine al m7<|am fun nT=>aG (cr e8 (by kernel_rfl) rfl (by exact fun j u hu=>aE.at hu)) rfl ?_
   refine ba (by kernel_rfl) rfl rfl ab rfl rfl ?_;rintro mV ab cS;have abX:=cS.size;have hb:=bp hb cS (by omega);have hP:=RO.over hP cS (by omega);refine al nT<|aJ<|aX<|bQ (rs:= [.cell 2 33]) (vs:= [_]) rfl (.cell rfl (bP e8 (by kernel_rfl) (fun j u hu=>ab.at hu)) .nil) ?_
   exact ⟨_,rfl,⟨2,0,.ok () r.tail.tail,rfl,(SK h2).trans (if_pos h4),hP⟩,hb⟩
  have sX:=ny;have h4:bv en [mT] r.tail=false:=sX;refine aU<|ax m7<|am fun Co=>aG (cr e8 (by kernel_rfl) rfl (by exact fun j u hu=>aE.at hu)) rfl ?_
  refine ba (by kernel_rfl) rfl rfl ab rfl rfl ?_;rintro mV ab cS;have abX:=cS.size;have hb:=bp hb cS (by omega);have hP:=RO.over hP cS (by omega);refine al Co<|aJ<|aX<|bQ (rs:= [.cell 2 33]) (vs:= [_]) rfl (.cell rfl (bP e8 (by kernel_rfl) (fun j u hu=>ab.at hu)) .nil) ?_
  exact ⟨_,rfl,⟨0,0,.ok () r.tail,rfl,(SK h2).trans (if_neg (by rw [h4];decide)),hP⟩,hb⟩
 have HF:=HE;have h2:bv en [tS] r=false:=HF;refine aU<|ax kK<|av fun _ mG=>am fun rp=>ai rfl<|aD lj rfl rfl (lh p en g b (.ok () r) mT _ hP) rfl ?_
 rintro _ qw ⟨rfl,cL⟩;have:=cL.size;have hP:=RO.below hP cL;have ab:=ak.below ab cL;have aE:=ak.below aE cL;replace cL:=Below.kp (p:=p) cL;have hb:=hb.trans cL;refine al rp<|aO rfl (fun wm=>?_) (fun wm=>?_)
 ·
  have Ij:=wm;have h3:bv en [mT] r=true:=Ij;refine am fun mH=>ai rfl<|aD iP rfl rfl (iO p en r g b (eB h3) _ hP) rfl ?_
  rintro _ sD ⟨⟨rfl,hP⟩,dr⟩;have:=dr.size;have ab:=ak.kp ab dr (by omega);have aE:=ak.kp aE dr (by omega);have hb:=hb.trans dr;refine al mH<|am fun oD=>ai rfl<|aD u4 rfl rfl (u0 p en r.tail g b 0 0 _ hP.live) rfl ?_
  rintro _ sB ⟨rfl,cY⟩;have:=cY.size;have hP:=RO.below hP cY;have ab:=ak.below ab cY;have aE:=ak.below aE cY;replace cY:=Below.kp (p:=p) cY;have hb:=hb.trans cY;refine bT (z:=fx) (by kernel_rfl) rfl ?_;rintro dO Ns Lj br gb;have:=gb.size;have hP:=hP.below gb;have ab:=ab.below gb;have aE:=aE.below gb;replace gb:=Below.kp (p:=p) gb;have hb:=hb.trans gb;have:=br.lt;refine ba (by kernel_rfl) rfl rfl br rfl rfl ?_;rintro mW br df;have:=df.size;have hb:=bp hb df (by omega);have hP:=RO.over hP df (by omega);have ab:=ab.over df (by omega);have aE:=aE.over df (by omega);refine al oD<|am fun xH=>ae (aP (s1 _) rfl) rfl<|fV b0 rfl rfl rfl aE (by show 1<23;decide) ?_
  rintro mi aE cF;have:=cF.size;have hb:=bp hb cF (by omega);have hP:=RO.over hP cF (by omega);have ab:=ab.over cF (by omega);have br:=br.over cF (by omega);refine al xH<|am fun px=>ai rfl<|ae (aP (p5 _) rfl) rfl<|aG (aS b0 rfl (by exact br.at (j:=2) rfl)) rfl<|aD M9 rfl rfl (MM p en g b (aN en r.tail).a (.ok () r.tail) _ hP) rfl ?_
  rintro _ oQ ⟨⟨k,σ1,rfl,hw,hP⟩,bE⟩;have:=bE.size;have ab:=ak.kp ab bE (by omega);have aE:=ak.kp aE bE (by omega);have br:=ak.kp br bE (by omega);have hb:=hb.trans bE;refine ae (aP (r6 _) rfl) rfl<|fV b0 rfl rfl rfl aE (by show 2<23;decide) ?_
  rintro rO aE dw;have:=dw.size;have hb:=bp hb dw (by omega);have hP:=RO.over hP dw (by omega);have ab:=ab.over dw (by omega);have br:=br.over dw (by omega);refine al px<|av fun _ qb=>am fun BZ=>ae (aP (r6 _) rfl) rfl<|aG (aS b0 rfl (by exact aE.at (j:=2) rfl)) rfl<|ae (dL rfl rfl) rfl<|al BZ<|aO rfl (fun qL=>?_) (fun qL=>?_)
  ·
   have AJ:=qL;simp only [DZ] at qL;have hk1:k<1:=by have:=qL;omega
   refine aQ<|ai rfl<|ae (aP (p5 _) rfl) rfl<|aG (aS b0 rfl (by exact br.at (j:=2) rfl)) rfl<|aD sw rfl rfl (sv p en g b (aN en r.tail).a 2 (by decide) _ _ hP) rfl ?_
   rintro _ u6 ⟨hP,eN⟩;have:=eN.size;have ab:=ak.kp ab eN (by omega);have aE:=ak.kp aE eN (by omega);have br:=ak.kp br eN (by omega);have hb:=hb.trans eN;refine al qb<|am fun tm=>ae (aP (r6 _) rfl) rfl<|aG (aS b0 rfl (by exact aE.at (j:=2) rfl)) rfl<|ae (ed rfl rfl) rfl<|al tm<|aO rfl (fun wB=>?_) (fun wB=>?_)
   ·
    have XV:=wB;simp only [DZ] at wB;have hk2:1000<k:=by have:=wB;omega
    refine aQ<|ai rfl<|ae (aP (p5 _) rfl) rfl<|aG (aS b0 rfl (by exact br.at (j:=2) rfl)) rfl<|aD sw rfl rfl (sv p en g b (aN en r.tail).a 6 (by decide) _ _ hP) rfl ?_
    rintro _ sC ⟨hP,fk⟩;have CQ:=fk.size;have ab:=ak.kp ab fk (by omega);have aE:=ak.kp aE fk (by omega);have hb:=hb.trans fk;refine al mG<|am fun tr=>aG (cr e8 (by kernel_rfl) rfl (by exact fun j u hu=>aE.at hu)) rfl ?_
    refine ba (by kernel_rfl) rfl rfl ab rfl rfl ?_;rintro oj ab bO;have sn:=bO.size;have hb:=bp hb bO (by omega);refine al tr<|aJ<|bQ (rs:= [.cell 2 33]) (vs:= [_]) rfl (.cell rfl (bP e8 (by kernel_rfl) (fun j u hu=>ab.at hu)) .nil) ?_
    exact absurd hk2 (by omega)
   have XV:=wB;simp only [DZ] at wB;have hk2:¬1000<k:=by have:=wB;omega
   refine aU<|ax mG<|am fun B4=>aG (cr e8 (by kernel_rfl) rfl (by exact fun j u hu=>aE.at hu)) rfl ?_
   refine ba (by kernel_rfl) rfl rfl ab rfl rfl ?_;rintro oj ab bO;have sn:=bO.size;have hb:=bp hb bO (by omega);have hP:=RO.over hP bO (by omega);refine al B4<|aJ<|bQ (rs:= [.cell 2 33]) (vs:= [_]) rfl (.cell rfl (bP e8 (by kernel_rfl) (fun j u hu=>ab.at hu)) .nil) ?_
   exact ⟨_,rfl,⟨3,k,_,rfl,(MN h3 hw).trans (aen hk1 σ1),hP⟩,hb⟩
  have AJ:=qL;simp only [DZ] at qL;have hk1:¬k<1:=by have:=qL;omega
  refine aU<|ax qb<|am fun B6=>ae (aP (r6 _) rfl) rfl<|aG (aS b0 rfl (by exact aE.at (j:=2) rfl)) rfl<|ae (ed rfl rfl) rfl<|al B6<|aO rfl (fun wD=>?_) (fun wD=>?_)
  ·
   have XX:=wD;simp only [DZ] at wD;have hk2:1000<k:=by have:=wD;omega
   refine aQ<|ai rfl<|ae (aP (p5 _) rfl) rfl<|aG (aS b0 rfl (by exact br.at (j:=2) rfl)) rfl<|aD sw rfl rfl (sv p en g b (aN en r.tail).a 6 (by decide) _ _ hP) rfl ?_
   rintro _ sC ⟨hP,fk⟩;have CQ:=fk.size;have ab:=ak.kp ab fk (by omega);have aE:=ak.kp aE fk (by omega);have hb:=hb.trans fk;refine al mG<|am fun Zz=>aG (cr e8 (by kernel_rfl) rfl (by exact fun j u hu=>aE.at hu)) rfl ?_
   refine ba (by kernel_rfl) rfl rfl ab rfl rfl ?_;rintro oj ab bO;have sn:=bO.size;have hb:=bp hb bO (by omega);have hP:=RO.over hP bO (by omega);refine al Zz<|aJ<|bQ (rs:= [.cell 2 33]) (vs:= [_]) rfl (.cell rfl (bP e8 (by kernel_rfl) (fun j u hu=>ab.at hu)) .nil) ?_
   exact ⟨_,rfl,⟨3,k,_,rfl,(MN h3 hw).trans (aeo hk2 σ1),hP⟩,hb⟩
  have XX:=wD;simp only [DZ] at wD;have hk2:¬1000<k:=by have:=wD;omega
  refine aU<|ax mG<|am fun sf=>aG (cr e8 (by kernel_rfl) rfl (by exact fun j u hu=>aE.at hu)) rfl ?_
  refine ba (by kernel_rfl) rfl rfl ab rfl rfl ?_;rintro oj ab bO;have sn:=bO.size;have hb:=bp hb bO (by omega);have hP:=RO.over hP bO (by omega);refine al sf<|aJ<|bQ (rs:= [.cell 2 33]) (vs:= [_]) rfl (.cell rfl (bP e8 (by kernel_rfl) (fun j u hu=>ab.at hu)) .nil) ?_
  exact ⟨_,rfl,⟨3,k,_,rfl,(MN h3 hw).trans (aep hk1 hk2 σ1),hP⟩,hb⟩
 have Ij:=wm;have h3:bv en [mT] r=false:=Ij;refine aU<|ax mG<|am fun Kx=>aG (cr e8 (by kernel_rfl) rfl (by exact fun j u hu=>aE.at hu)) rfl ?_
 refine ba (by kernel_rfl) rfl rfl ab rfl rfl ?_;rintro oj ab bO;have sn:=bO.size;have hb:=bp hb bO (by omega);have hP:=RO.over hP bO (by omega);refine al Kx<|aJ<|bQ (rs:= [.cell 2 33]) (vs:= [_]) rfl (.cell rfl (bP e8 (by kernel_rfl) (fun j u hu=>ab.at hu)) .nil) ?_
 exact ⟨_,rfl,⟨0,0,.ok () r,rfl,aer h1 h2 h3,hP⟩,hb⟩
theorem NQ (n:Nat):∀(e:b6) (x:EC) (S:Nat→Prop) (w:World),dB e≤n→n≤1099511627776→aY w S e x.cells→bx Tryz.prog 37 [x.enc] w fun v w'=>v= .int .i64 (dB e:Int)∧Below w.heap.size w w':=by
 induction n using Nat.strongRecOn with
 |ind n ih=>
 intro e x S w hn hn2 hE;obtain ⟨k,nm,v,kids⟩:=e;unfold aY at hE;obtain ⟨A,c,kcs,h1,hR,hS,hL,hk65⟩:=hE;have hc6:x.cells[6]? =some (.slice A kids.length c):=by rw [h1];rfl
 have hdn:ly kids+1≤n:=hn;have hb:=Below.refl w.heap.size w;have dX:=hR;have ce:=hL;refine enter Tryz.func37 rfl rfl rfl<|am fun aR=>gp rfl rfl ?_
 rintro au dJ dH ab aM;have:=aM.size;have hb:=aZ hb aM;have hR:=dX.below hb;have hL:=ce.below hb;have:=ab.lt;refine an rfl<|al aR<|am fun b8=>an rfl<|al b8<|av fun _ fi=>am fun dV=>an rfl<|al dV<|b4<|d9 (X:=Nat×Nat) (fun (i,d)=> [(1,.pointer (some ⟨au,0,none⟩)),(3,.int .i64 (d:Int)),(4,.int .i64 (i:Int))]) (fun (i,d) wr=>i≤kids.length∧d=ly (kids.take i)∧Below w.heap.size w wr∧ak wr au 28 x.cells) (fun (i,d)=>kids.length - i) (⟨0,0⟩) ?_ ?_ ?_
 · exact by repeat first|exact aC|refine aA rfl (by first|rfl|exact aH (by omega)) ?_
 · exact ⟨by omega,rfl,hb,ab⟩
 rintro ⟨i,d⟩ wr jW _ nV;replace jW:i≤kids.length∧d=ly (kids.take i)∧Below w.heap.size w wr∧ak wr au 28 x.cells:=jW;obtain ⟨hi,hd,hb,ab⟩:=jW;show Wc _ _ _ _ _ [(1,.pointer (some ⟨au,0,none⟩)),(3,.int .i64 (d:Int)),(4,.int .i64 (i:Int))] _;have hR:=dX.below hb;have hL:=ce.below hb;have:=hb.size;have:=ab.lt;refine av fun _ dT=>am fun dU=>ai rfl<|ae (aP (uA _) rfl) rfl<|aG (aS uY rfl (by exact ab.at (j:=6) hc6)) rfl<|ae (iC j5 (by omega) rfl) rfl<|ae (dL rfl rfl) rfl<|al dU<|aO rfl (fun lr=>?_) (fun lr=>?_)
 ·
  have sR:=lr;simp only [DZ] at lr;have hil:i<kids.length:=by have:=lr;omega
  obtain ⟨p_,z,hpe,hz,hcell⟩:=Gg dX ce hil;subst hpe;have hdk:=EB hil;refine aU<|ax dT<|av fun _ fC=>b4<|am fun eM=>ae (aP (uA _) rfl) rfl<|aG (aS uY rfl (by exact ab.at (j:=6) hc6)) rfl<|ai rfl<|ae (f8 j5 FN rfl rfl (by omega) (by omega)) rfl<|aG (cr b5 (by kernel_rfl) rfl (by exact fun j u hu=>by rw [Int.toNat_natCast];exact ou hb (hcell j u hu))) rfl<|aD Na rfl rfl (ih (n - 1) (by omega) kids[i] z S _ (by omega) (by omega) (aY.below hz hb)) rfl ?_
  rintro _ cB ⟨rfl,aw⟩;have:=aw.size;have hb:=aZ hb aw;have hR:=dX.below hb;have hL:=ce.below hb;have ab:=ak.below ab aw;refine an rfl<|al eM<|aQ<|ai rfl<|ai rfl<|ae (qy rfl rfl) rfl<|an rfl<|ay<|cD<|ax fC<|aQ<|ai rfl<|ae (ct rfl rfl (by omega) (by omega)) rfl<|an rfl<|ay<|fun a_ bM=>nV _ _ (⟨i+1,max d (dB kids[i])⟩) (by show kids.length - (i+1)<kids.length - i;omega) (by repeat first|exact aC|refine aA rfl (by first|rfl|exact aH (by omega)) ?_) ?_ a_ bM
  exact ⟨by omega,by rw [hd,List.take_succ_eq_append_getElem hil,IM],hb,ab⟩
 have sR:=lr;simp only [DZ] at lr;have hil:i=kids.length:=by have:=lr;omega
 have hd2:d=ly kids:=by rw [hd,hil,List.take_length]
 refine d2<|cj<|cj<|d3<|ax fi<|am fun gI=>ai rfl<|ae (ct rfl rfl (by omega) (by omega)) rfl<|an rfl<|al gI<|aJ<|bN rfl rfl ?_
 exact ⟨_,rfl,aH (by rw [hd2];rfl),hb⟩
mutual
theorem Tf:∀e:bS,j3 e=decide (50<gM e)
 | .mk k var d l w mn mx kids=>by
  have h:=Tg kids;show (decide (50<dB l)||decide (50<dB w)||pM kids)=decide (50<max (max (dB l) (dB w)) (kb kids));rw [h,Bool.eq_iff_iff];simp;omega
theorem Tg:∀l:List bS,pM l=decide (50<kb l)
 | []=>rfl
 |x :: r=>by
  have h:=Tf x;have h2:=Tg r;show (j3 x||pM r)=decide (50<max (gM x) (kb r));rw [h,h2,Bool.eq_iff_iff];simp;omega
end
theorem Vs (n:Nat):∀(e:bS) (x:PC) (S:Nat→Prop) (w:World),fa e≤n→n≤1099511627776→gM e≤1099511627776→bi w S e x.cells→bx Tryz.prog 17 [x.enc] w fun v w'=>(∃a b:Int,v= .tuple #[.int .i64 a,.int .i64 b]∧a=(fa e:Int)∧b=(gM e:Int))∧Below w.heap.size w w':=by
 induction n using Nat.strongRecOn with
 |ind n ih=>
 intro e x S w hn hn2 hdx hE;obtain ⟨k,var,dir,l,wh,mn,mx,kids⟩:=e;unfold bi at hE;obtain ⟨lc,wc,A,c,kcs,h1,hEl,hEw,hR,hS,hL,hk65⟩:=hE;have hdn:iG kids+1≤n:=hn;replace hdx:max (max (dB l) (dB wh)) (kb kids)≤1099511627776:=hdx;obtain ⟨z,hz⟩:∃z:PC,z=⟨k,var,dir,lc,wc,mn,mx,A,kids.length,c⟩:=⟨_,rfl⟩;have hzl:z.l=lc:=by rw [hz]
 have hzw:z.wh=wc:=by rw [hz]
 have hx:x.enc=z.enc:=by unfold PC.enc;rw [h1,hz]
 have hc19:z.cells[19]? =some (.slice A kids.length c):=by rw [hz];rfl
 rw [hx];have hb:=Below.refl w.heap.size w;have dX:=hR;have ce:=hL;have sc:=hEl;have sd:=hEw;refine enter Tryz.func17 rfl rfl rfl<|am fun aR=>gp rfl rfl ?_
 rintro au dJ dH ab aM;have:=aM.size;have hb:=aZ hb aM;have hR:=dX.below hb;have hL:=ce.below hb;have hEl:=sc.below hb;have hEw:=sd.below hb;have:=ab.lt;refine an rfl<|an rfl<|al aR<|am fun dC=>ae (aP (y5 _) rfl) rfl<|aG (cr b5 (by kernel_rfl) rfl (by exact fun j u hu=>by rw [jR];exact ab.at (z.lab (by rw [hzl];exact hu)))) rfl<|aD Na rfl rfl (NQ (dB l) l lc S _ (Nat.le_refl _) (by omega) hEl) rfl ?_
 rintro _ cB ⟨rfl,aw⟩;have:=aw.size;have hb:=aZ hb aw;have hR:=dX.below hb;have hL:=ce.below hb;have hEl:=sc.below hb;have hEw:=sd.below hb;have ab:=ak.below ab aw;refine an rfl<|al dC<|am fun fZ=>ae (aP (wO _) rfl) rfl<|aG (cr b5 (by kernel_rfl) rfl (by exact fun j u hu=>by rw [jR];exact ab.at (z.whr (by rw [hzw];exact hu)))) rfl<|aD Na rfl rfl (NQ (dB wh) wh wc S _ (Nat.le_refl _) (by omega) hEw) rfl ?_
 rintro _ cU ⟨rfl,aL⟩;have:=aL.size;have hb:=aZ hb aL;have hR:=dX.below hb;have hL:=ce.below hb;have hEl:=sc.below hb;have hEw:=sd.below hb;have ab:=ak.below ab aL;refine an rfl<|al fZ<|am fun eL=>ai rfl<|ai rfl<|ae (qy rfl rfl) rfl<|an rfl<|al eL<|am fun eM=>an rfl<|al eM<|av fun _ kh=>am fun gr=>an rfl<|al gr<|b4<|d9 (X:=Nat×Nat×Nat) (fun (i,d,m)=> [(1,.pointer (some ⟨au,0,none⟩)),(6,.int .i64 (m:Int)),(7,.int .i64 (d:Int)),(8,.int .i64 (i:Int))]) (fun (i,d,m) wr=>i≤kids.length∧d=iG (kids.take i)∧m=max (max (dB l) (dB wh)) (kb (kids.take i))∧Below w.heap.size w wr∧ak wr au 31 z.cells) (fun (i,d,m)=>kids.length - i) (⟨0,0,max (dB l) (dB wh)⟩) ?_ ?_ ?_
 · exact by repeat first|exact aC|refine aA rfl (by first|rfl|exact aH (by omega)) ?_
 · exact ⟨by omega,rfl,(Nat.max_eq_left (Nat.zero_le _)).symm,hb,ab⟩
 rintro ⟨i,d,m⟩ wr rf _ aas;replace rf:i≤kids.length∧d=iG (kids.take i)∧m=max (max (dB l) (dB wh)) (kb (kids.take i))∧Below w.heap.size w wr∧ak wr au 31 z.cells:=rf;obtain ⟨hi,hd,hm,hb,ab⟩:=rf;show Wc _ _ _ _ _ [(1,.pointer (some ⟨au,0,none⟩)),(6,.int .i64 (m:Int)),(7,.int .i64 (d:Int)),(8,.int .i64 (i:Int))] _;have hR:=dX.below hb;have hL:=ce.below hb;have hEl:=sc.below hb;have hEw:=sd.below hb;have:=hb.size;have:=ab.lt;refine av fun _ ki=>am fun fu=>ai rfl<|ae (aP (m3 _) rfl) rfl<|aG (aS m9 rfl (by exact ab.at (j:=19) hc19)) rfl<|ae (iC fO (by omega) rfl) rfl<|ae (dL rfl rfl) rfl<|al fu<|aO rfl (fun nq=>?_) (fun nq=>?_)
 ·
  have sS:=nq;simp only [DZ] at nq;have hil:i<kids.length:=by have:=nq;omega
  obtain ⟨p_,y,hpe,hy,hcell⟩:=An dX ce hil;subst hpe;have hdk:=AN hil;have hdk2:=IN hil;refine aU<|ax ki<|av fun _ gI=>b4<|am fun iW=>ae (aP (m3 _) rfl) rfl<|aG (aS m9 rfl (by exact ab.at (j:=19) hc19)) rfl<|ai rfl<|ae (f8 fO rI rfl rfl (by omega) (by omega)) rfl<|aG (cr dc (by kernel_rfl) rfl (by exact fun j u hu=>by rw [Int.toNat_natCast];exact ou hb (hcell j u hu))) rfl<|aD TD rfl rfl (ih (n - 1) (by omega) kids[i] y S _ (by omega) (by omega) (by omega) (bi.below hy hb)) rfl ?_
  rintro _ eP ⟨⟨a_,b_,rfl,rfl,rfl⟩,a6⟩;have:=a6.size;have hb:=aZ hb a6;have hR:=dX.below hb;have hL:=ce.below hb;have hEl:=sc.below hb;have hEw:=sd.below hb;have ab:=ak.below ab a6;refine ai rfl<|ae (cu rfl rfl) rfl<|ae (cu rfl rfl) rfl<|an rfl<|an rfl<|al iW<|am fun gZ=>ai rfl<|ai rfl<|ae (qy rfl rfl) rfl<|an rfl<|al gZ<|aQ<|ai rfl<|ai rfl<|ae (qy rfl rfl) rfl<|an rfl<|ay<|cD<|ax gI<|aQ<|ai rfl<|ae (ct rfl rfl (by omega) (by omega)) rfl<|an rfl<|ay<|fun a_ bM=>aas _ _ (⟨i+1,max d (fa kids[i]),max m (gM kids[i])⟩) (by show kids.length - (i+1)<kids.length - i;omega) (by repeat first|exact aC|refine aA rfl (by first|rfl|exact aH (by omega)) ?_) ?_ a_ bM
  exact ⟨by omega,by rw [hd,List.take_succ_eq_append_getElem hil,AO],by rw [hm,List.take_succ_eq_append_getElem hil,IP,Nat.max_assoc],hb,ab⟩
 have sS:=nq;simp only [DZ] at nq;have hil:i=kids.length:=by have:=nq;omega
 have hd2:d=iG kids:=by rw [hd,hil,List.take_length]
 have hm2:m=max (max (dB l) (dB wh)) (kb kids):=by rw [hm,hil,List.take_length]
 refine d2<|cj<|cj<|d3<|ax kh<|am fun nQ=>ai rfl<|ae (ct rfl rfl (by omega) (by omega)) rfl<|ai rfl<|an rfl<|an rfl<|al nQ<|aJ<|fm rfl rfl rfl ?_
 exact ⟨_,rfl,⟨_,_,rfl,by rw [hd2];rfl,by rw [hm2];rfl⟩,hb⟩
theorem ae5 {s:ao} {n:Nat} (h:dP s=(2,n)):s.take n∈jy:=by
 unfold dP at h
 split at h
 · split at h
   · cases h
   · split at h<;>cases h
 · split at h
   · split at h
     · rename_i hk;injection h with _ h;subst h;exact hk
     · split at h<;>cases h
   · split at h<;>cases h
theorem afp:bB Tryz.prog 13:=⟨_,Tryz.func13,by kernel_rfl,rfl⟩
theorem afs:bB Tryz.prog 14:=⟨_,Tryz.func14,by kernel_rfl,rfl⟩
theorem Vl (s:ao) (hs:s.length≤70368744177664) (w:World):bx Tryz.prog 13 [str s] w fun v w'=>(∃(A:Option Addr) (l:List Tok) (c:Nat) (a e:Int),v= .tuple #[.slice A l.length c,.int .i64 a,.int .i64 e]∧Rd w' 3 A l.length (l.flatMap Tok.cells)∧(∀q,A=some q→q.block<w'.heap.size)∧((e≠0∧kr s=(lQ,a,e))∨(e=0∧s.length≤65536∧eJ s 0= .ok l∧kr s=pH s.length l∧l.length≤65536∧l.length≤c)))∧Below w.heap.size w w':=
 (Vm s hs w).mono fun v w' ⟨h,h2⟩=>by
  refine ⟨?_,h2⟩;obtain ⟨A,n,c,a,e,hv,h3⟩:=Q0 h
  rcases h3 with ⟨h4,h5⟩|⟨h4,l,hn,h5,h6,h7,h8,h9,h10,h11⟩
  · rcases h with ⟨_,hv2⟩|⟨_,i,_,hv2⟩|⟨_,l,A',c',_,hv2,_⟩
    · rw [hv] at hv2;cases hv2
      exact ⟨none,[],0,_,_,hv,Rd.nil _ _ _,(fun q e=>by cases e),.inl ⟨h4,h5⟩⟩
    · rw [hv] at hv2;cases hv2
      exact ⟨none,[],0,_,_,hv,Rd.nil _ _ _,(fun q e=>by cases e),.inl ⟨h4,h5⟩⟩
    · rw [hv] at hv2;cases hv2;exact absurd rfl h4
  · subst hn
    exact ⟨A,l,c,a,e,hv,h10,h11,.inr ⟨h4,h5,h6,h7,h8,h9⟩⟩
theorem acH {s:ao} {l:List Tok} (hs:s.length≤65536) (h:eJ s 0= .ok l):∀t∈l,t.t.length≤65536∧(t.k=2→t.t∈jy):=fun t ht=>
 ⟨Nat.le_trans (Q1 _ s 0 l (Nat.le_refl _) h t ht) hs,fun hk=>by
  have hg:=(L6 s s.length 0 l (by omega) (by omega) (by rw [List.drop_zero];exact h)).good t ht
  have h2:=hg.tok
  rw [hk] at h2
  have h3:=ae5 h2
  rwa [List.take_length] at h3⟩
def uv (en:Nat):Sg→Sg
 | .ok u ts=>if 0<ts.length then .err (aN en ts).a 2 else .ok u ts
 | .err a e=> .err a e
theorem adI {en:Nat} {ts:List Tok} {sel kk:Int} {x:bS} {σ1 σ2:Sg} (h1:bR (.ok () (j2 en ts).2) (gw en)=dZ (sel,kk) σ1) (h2:bR σ1 (pF en (ts.length+1) (ts.length+1) 0)=dZ x σ2):me en ts=dZ ⟨(j2 en ts).1,sel,kk,x⟩ (uv en σ2):=by
 have h3:gw en (j2 en ts).2=dZ (sel,kk) σ1:=h1;unfold me;rw [h3]
 cases σ1 with
 |err a e=>
  cases σ2 with
  |ok u r=>cases h2
  |err a' e'=>have h5:(cn.err a e:cn bS)= .err a' e':=h2;injection h5 with h6 h7;subst h6 h7;rfl
 |ok u r=>
  have h4:pF en (ts.length+1) (ts.length+1) 0 r=dZ x σ2:=h2;show (match pF en (ts.length+1) (ts.length+1) 0 r with| .err a e=>_| .ok x r2=>_)=_;rw [h4]
  cases σ2 with
  |err a e=>rfl
  |ok u r2=>
   show (if 0<r2.length then _ else _)=dZ _ (if 0<r2.length then _ else _)
   split<;>rfl
set_option maxHeartbeats 400000 in
theorem Vn (s:ao) (hs:s.length≤70368744177664) (wA:World):bx Tryz.prog 6 [str s] wA fun v w'=>NP wA.heap.size s v w'∧Below wA.heap.size wA w':=by
 have hb:=Below.refl wA.heap.size wA;refine enter Tryz.func6 rfl rfl rfl<|am fun aR=>bT (z:=sr) (by kernel_rfl) rfl ?_
 rintro au dJ dH ab aM;have:=aM.size;have hb:=aZ hb aM;have:=ab.lt;refine an rfl<|an rfl<|al aR<|am fun dC=>ai rfl<|aD afp rfl rfl (Vl s hs _) rfl ?_
 rintro _ cB ⟨⟨A,l,c,a,e,rfl,hR,hA,hlx⟩,aw⟩;have:=aw.size;have hb:=aZ hb aw;have ab:=ak.below ab aw;refine ai rfl<|ae (cu rfl rfl) rfl<|ae (cu rfl rfl) rfl<|ae (cu rfl rfl) rfl<|an rfl<|an rfl<|an rfl<|al dC<|av fun _ eL=>am fun gH=>ai rfl<|ae (fG rfl rfl) rfl<|al gH<|aO rfl (fun nl=>?_) (fun nl=>?_)
 ·
  have At:=nl;simp only [DZ] at nl;have he:e≠0:=by have:=nl;simpa using this
  have hpv:kr s=(lQ,a,e):=by rcases hlx with h|h;(· exact h.2);(· exact absurd h.1 he)
  refine am fun eM=>ae (cC (z:=uR) (pl:=uS) (cs:= [_,_,_,_,_,_,_,_,_,_,_,_,_,_,_,_,_,_,_,_,_,_,_]) e8 (by kernel_rfl) (by kernel_rfl) rfl rfl rfl) rfl<|ai rfl<|ai rfl<|ba (by kernel_rfl) rfl rfl ab rfl rfl ?_
  rintro du ab aF;have:=aF.size;have hb:=cf hb aF hb.size (by omega);refine an rfl<|an rfl<|al eM<|aJ<|aX<|bQ (rs:= [.cell 2 33,.tmp 3,.tmp 4]) (vs:= [_,_,_]) rfl (.cell rfl (bP e8 (by kernel_rfl) (fun j u hu=>ab.at hu)) (.tmp rfl (.tmp rfl .nil))) ?_
  exact ⟨_,rfl,⟨lQ,a,e,er,_,hpv,rfl,ql _,fun k h=>h.elim⟩,hb⟩
 have At:=nl;simp only [DZ] at nl;have he:e=0:=by have:=nl;simpa using this
 obtain ⟨hs65,hlv,hpv,hl65,hlc⟩:s.length≤65536∧eJ s 0= .ok l∧kr s=pH s.length l∧l.length≤65536∧l.length≤c:=by rcases hlx with h|h;(· exact absurd he h.1);(· exact h.2)
 refine aU<|ax eL<|am fun ju=>ai rfl<|ai rfl<|ae (ez bI (by omega) rfl) rfl<|ae (cC (z:= [(.slice none 0 0),(.int .i64 0),(.int .i64 0),(.int .i64 0),(.int .i64 0),(.int .i64 0)]) (pl:= [(0,1),(1,1),(2,1),(3,1),(4,1),(5,1)]) (cs:= [_,_,_,_,_,_]) yy (by kernel_rfl) (by kernel_rfl) rfl rfl rfl) rfl<|gp rfl rfl ?_
 rintro mz F1 Lg fc io;have:=io.size;have hb:=aZ hb io;have ab:=ak.below ab io;have hR:=Rd.below hR io;have:=fc.lt;refine an rfl<|al ju<|am fun kG=>ai rfl ?_
 have hP:RO F1 mz s.length 0 0 (.ok () l):=RO.mk ⟨⟨A,c,hlc,hl65,fc,hR,fun q e=>by have:=hA q e;omega⟩,acH hs65 hlv⟩;refine aD afs rfl rfl (ad2 mz s.length 0 0 l _ hP) rfl ?_;rintro _ cU ⟨⟨sel,kk,σ1,rfl,hq1,hP⟩,aL⟩;have:=aL.size;have hb:=hb.trans (Kp.below aL (by omega) hb.size);have ab:=ab.kp aL (by omega);refine bT (z:=sr) (by kernel_rfl) rfl ?_;rintro za agM Fc l7 Fm;have:=Fm.size;have hb:=aZ hb Fm;have ab:=ak.below ab Fm;have:=l7.lt;refine ba (by kernel_rfl) rfl rfl l7 rfl rfl ?_;rintro ff l7 bc;have:=bc.size;have hb:=cf hb bc hb.size (by omega);have ab:=ab.over bc (by omega);refine al kG<|am fun kH=>ai rfl ?_
 have hP:=(hP.below Fm).over bc (by omega);have hsz:cE σ1≤l.length:=Nat.le_trans (rJ hq1 fun ts x r h=>SL h) (Rj _ _);refine aD TB rfl rfl (RU mz s.length (l.length+1) (l.length+1) (by omega) 0 _ σ1 hP (by omega)) rfl ?_;rintro _ eP ⟨⟨x,σ2,⟨z,Sz,rfl,hz,aT⟩,hq2,hP⟩,a6⟩;have:=a6.size;have hb:=hb.trans (Kp.below a6 (by omega) hb.size);have ab:=ab.kp a6 (by omega);have l7:=l7.kp a6 (by omega);refine ae (aP (uB _) rfl) rfl<|yJ (by kernel_rfl) rfl rfl rfl l7 (by show 3+20≤23;decide) ?_
 rintro gB l7 bz;have:=bz.size;have hb:=cf hb bz hb.size (by omega);have ab:=ab.over bz (by omega);have hz:=bi.kp hz bz (fun h_=>by have bh:=aT _ h_;first|omega|(rcases bh with dK|dK;(have kg:=hS _ dK;omega);omega));refine al kH<|av fun _ lK=>av fun _ lL=>?_
 rw [SP] at l7;have hP:=hP.over bz (by omega);have hq:=adI hq1 hq2;obtain ⟨ts2,a2,e2,hS2,hσ2⟩:=id hP;obtain ⟨A2,c2,h12,h22,hPb2,_,_⟩:=hS2.ex;refine aQ<|ai rfl<|ae (cI rfl) rfl<|ae (aP (y7 _) rfl) rfl<|aG (aS zC rfl (by exact hPb2.at (j:=0) rfl)) rfl<|ae (iC tQ (by omega) rfl) rfl<|ae (ed rfl rfl) rfl<|al lL<|cR (X:=Unit) (fun u_=> [(0,str s),(2,.pointer (some ⟨au,0,none⟩)),(8,bH mz),(9,.pointer (some ⟨za,0,none⟩))]) (fun u_ wr=>Below wA.heap.size wA wr∧(∃A3 c3 n3 a3 e3,ak wr mz 58 [.slice A3 n3 c3,.int .i64 (s.length:Int),.int .i64 a3,.int .i64 e3,.int .i64 ((0:Nat):Int),.int .i64 ((0:Nat):Int)]∧((e3=0∧∃ts,uv s.length σ2= .ok () ts)∨(e3≠0∧uv s.length σ2= .err a3 e3)))∧bi wr Sz x z.cells∧(∀k,Sz k→wA.heap.size≤k∧k<wr.heap.size∧k≠au∧k≠mz∧k≠za)∧ak wr au 33 (ic 0 0 0 er)∧ak wr za 33 (ic (j2 s.length l).1 sel kk z)) (fun _ Qe=>?_) ?_
 ·
  refine aO rfl (fun qF=>?_) (fun qF=>?_)
  ·
   have AA:=qF;simp only [DZ] at qF;have h7:0<ts2.length:=by have:=qF;omega
   have hend:uv s.length σ2=uC s.length σ2:=by rcases hσ2 with ⟨h,_⟩|⟨h,_⟩;(· rw [h];exact if_pos h7);(· rw [h];rfl)
   refine aQ<|ai rfl<|aD yr rfl rfl (yj mz s.length 0 0 σ2 _ hP) rfl ?_
   rintro _ fj ⟨hP,bk⟩;have:=bk.size;have hb:=hb.trans (Kp.below bk (by omega) hb.size);have ab:=ab.kp bk (by omega);have l7:=l7.kp bk (by omega);refine ay<|a7 Qe (()) (by repeat first|exact aC|refine aA rfl (by first|rfl|exact aH (by omega)) ?_) ?_
   exact ⟨hb,by rw [hend];obtain ⟨A,c,n,a,e,h1,h2,_⟩:=hP.open;exact ⟨A,c,n,a,e,h1,h2⟩,by first|exact hz|exact hz.kp bk (fun h_=>by have:=aT _ h_;omega),fun k hk=>by have:=aT k hk;omega,ab,l7⟩
  have AA:=qF;simp only [DZ] at qF;have h7:¬0<ts2.length:=by have:=qF;omega
  have hend:uv s.length σ2=σ2:=by rcases hσ2 with ⟨h,_⟩|⟨h,_⟩;(· rw [h];exact if_neg h7);(· rw [h];rfl)
  refine aU<|a7 Qe (()) (by repeat first|exact aC|refine aA rfl (by first|rfl|exact aH (by omega)) ?_) ?_
  exact ⟨hb,by rw [hend];obtain ⟨A,c,n,a,e,h1,h2,_⟩:=hP.open;exact ⟨A,c,n,a,e,h1,h2⟩,by first|exact hz|exact hz.kp bk (fun h_=>by have:=aT _ h_;omega),fun k hk=>by have:=aT k hk;omega,ab,l7⟩
 rintro u_ wr ri;replace ri:Below wA.heap.size wA wr∧(∃A3 c3 n3 a3 e3,ak wr mz 58 [.slice A3 n3 c3,.int .i64 (s.length:Int),.int .i64 a3,.int .i64 e3,.int .i64 ((0:Nat):Int),.int .i64 ((0:Nat):Int)]∧((e3=0∧∃ts,uv s.length σ2= .ok () ts)∨(e3≠0∧uv s.length σ2= .err a3 e3)))∧bi wr Sz x z.cells∧(∀k,Sz k→wA.heap.size≤k∧k<wr.heap.size∧k≠au∧k≠mz∧k≠za)∧ak wr au 33 (ic 0 0 0 er)∧ak wr za 33 (ic (j2 s.length l).1 sel kk z):=ri;obtain ⟨hb,⟨A3,c3,n3,a3,e3,hPb3,hσ3⟩,hz,aT,ab,l7⟩:=ri;show Wq _ _ _ _ [(0,str s),(2,.pointer (some ⟨au,0,none⟩)),(8,bH mz),(9,.pointer (some ⟨za,0,none⟩))] _;have:=hb.size;have:=hPb3.lt;have:=ab.lt;have:=l7.lt;refine ax lK<|av fun _ mF=>am fun kI=>ai rfl<|ae (cI rfl) rfl<|ae (aP (nB _) rfl) rfl<|aG (aS iq rfl (by exact hPb3.at (j:=3) rfl)) rfl<|ae (fG rfl rfl) rfl<|al kI<|aO rfl (fun vU=>?_) (fun vU=>?_)
 ·
  have Xm:=vU;simp only [DZ] at vU;have he3:e3≠0:=by have:=vU;omega
  have hqv:me s.length l= .err a3 e3:=by rcases hσ3 with ⟨h,_⟩|⟨_,h⟩;(· exact absurd h he3);(· rw [hq,h];rfl)
  refine av fun _ rm=>jg (n:=12) (fun w'=>Below wA.heap.size wA w'∧ak w' mz 58 [.slice A3 n3 c3,.int .i64 (s.length:Int),.int .i64 a3,.int .i64 e3,.int .i64 ((0:Nat):Int),.int .i64 ((0:Nat):Int)]∧ak w' au 33 (ic 0 0 0 er)) #[aj,aj,aj,aj,aj,aj,aj,aj,aj,aj,aj,aj] (by kernel_rfl) rfl (by kernel_rfl)<|jf ?_
  rintro Ac fo;have:=fo.size;have hb:=aZ hb fo;have hPb3:=ak.below hPb3 fo;have hz:=bi.below hz fo;have ab:=ak.below ab fo;refine bC (i:=0) #[ah,aj,aj,aj,aj,aj,aj,aj,aj,aj,aj,aj] rfl (by kernel_rfl) bF rfl (fun wq hq=>bU (cC (z:=uR) (pl:=uS) (cs:= [_,_,_,_,_,_,_,_,_,_,_,_,_,_,_,_,_,_,_,_,_,_,_]) e8 (by kernel_rfl) (by kernel_rfl) rfl rfl rfl)) ⟨hb,hPb3,ab⟩<|bC (i:=1) #[ah,ah,aj,aj,aj,aj,aj,aj,aj,aj,aj,aj] rfl (by kernel_rfl) bF rfl (fun wq hq=>bU (dN rfl)) ⟨hb,hPb3,ab⟩<|bC (i:=2) #[ah,ah,ah,aj,aj,aj,aj,aj,aj,aj,aj,aj] rfl (by kernel_rfl) bF rfl (fun wq hq=>bU (cI rfl)) ⟨hb,hPb3,ab⟩<|bC (i:=3) #[ah,ah,ah,ah,aj,aj,aj,aj,aj,aj,aj,aj] rfl (by kernel_rfl) bF rfl (fun wq hq=>bU (aP (Pn _) rfl)) ⟨hb,hPb3,ab⟩<|bC (i:=4) #[ah,ah,ah,ah,ah,aj,aj,aj,aj,aj,aj,aj] rfl (by kernel_rfl) bF rfl (fun wq hq=>aS b0 rfl (by obtain ⟨hq,hPb3,ab⟩:=hq;exact hPb3.at (j:=2) rfl)) ⟨hb,hPb3,ab⟩<|bC (i:=5) #[ah,ah,ah,ah,ah,ah,aj,aj,aj,aj,aj,aj] rfl (by kernel_rfl) bF rfl (fun wq hq=>bU (dN rfl)) ⟨hb,hPb3,ab⟩<|bC (i:=6) #[ah,ah,ah,ah,ah,ah,ah,aj,aj,aj,aj,aj] rfl (by kernel_rfl) bF rfl (fun wq hq=>bU (cI rfl)) ⟨hb,hPb3,ab⟩<|bC (i:=7) #[ah,ah,ah,ah,ah,ah,ah,ah,aj,aj,aj,aj] rfl (by kernel_rfl) bF rfl (fun wq hq=>bU (aP (nB _) rfl)) ⟨hb,hPb3,ab⟩<|bC (i:=8) #[ah,ah,ah,ah,ah,ah,ah,ah,ah,aj,aj,aj] rfl (by kernel_rfl) bF rfl (fun wq hq=>aS iq rfl (by obtain ⟨hq,hPb3,ab⟩:=hq;exact hPb3.at (j:=3) rfl)) ⟨hb,hPb3,ab⟩<|cM (rs:= [9]) (by kernel_rfl) rfl<|cO #[ah,ah,ah,ah,ah,ah,ah,ah,ah,ah,aj,aj] rfl rfl (fun _ tv=>?_) ?_
  ·
   refine ba (by kernel_rfl) rfl rfl ab rfl rfl ?_;rintro j7 ab cd;have:=cd.size;have hb:=cf hb cd hb.size (by omega);have hPb3:=hPb3.over cd (by omega);have hz:=bi.kp hz cd (fun h_=>by have bh:=aT _ h_;first|omega|(rcases bh with dK|dK;(have kg:=hS _ dK;omega);omega));refine ay<|cN tv ⟨hb,hPb3,ab⟩<|bC (i:=10) #[ah,ah,ah,ah,ah,ah,ah,ah,ah,ah,ah,aj] rfl (by kernel_rfl) bF rfl (fun wq hq=>bU (it rfl)) ⟨hb,hPb3,ab⟩<|bC (i:=11) #[ah,ah,ah,ah,ah,ah,ah,ah,ah,ah,ah,ah] rfl (by kernel_rfl) bF rfl (fun wq hq=>bU (it rfl)) ⟨hb,hPb3,ab⟩<|fB (by kernel_rfl)<|ax rm<|aJ<|aX<|bQ (rs:= [.cell 2 33,.tmp 3,.tmp 4]) (vs:= [_,_,_]) rfl (.cell rfl (bP e8 (by kernel_rfl) (fun j u hu=>ab.at hu)) (.tmp rfl (.tmp rfl .nil))) ?_
   exact ⟨_,rfl,⟨lQ,a3,e3,er,_,by rw [hpv];unfold pH;rw [hqv],rfl,ql _,fun k h=>h.elim⟩,hb⟩
  exact cP
 have Xm:=vU;simp only [DZ] at vU;have he3:e3=0:=by have:=vU;omega
 obtain ⟨ts3,hσ3⟩:∃t,uv s.length σ2= .ok () t:=by rcases hσ3 with ⟨_,h⟩|⟨h,_⟩;(· exact h);(· exact absurd he3 h)
 have hqv:me s.length l= .ok ⟨(j2 s.length l).1,sel,kk,x⟩ ts3:=by rw [hq,hσ3];rfl
 have hth:=R1 hqv;obtain ⟨hth1,hth2⟩:fa x≤l.length∧gM x≤l.length:=hth;have hpt:kr s=if 50<fa x∨j3 x=true then (lQ,0,6) else (⟨(j2 s.length l).1,sel,kk,x⟩,0,0):=by rw [hpv];unfold pH;rw [hqv]
 rw [Tf] at hpt;refine aU<|ax mF<|am fun nT=>ae (aP (uB _) rfl) rfl<|aG (cr dc (by kernel_rfl) rfl (by exact fun j u hu=>by rw [jR];exact l7.at (zK _ _ _ _ hu))) rfl<|aD TD rfl rfl (Vs (fa x) x z Sz _ (Nat.le_refl _) (by omega) (by omega) hz) rfl ?_
 rintro _ gj ⟨⟨a_,b_,rfl,rfl,rfl⟩,bD⟩;have:=bD.size;have hb:=aZ hb bD;have hPb3:=ak.below hPb3 bD;have hz:=bi.below hz bD;have ab:=ak.below ab bD;have l7:=ak.below l7 bD;refine ai rfl<|ae (cu rfl rfl) rfl<|ae (cu rfl rfl) rfl<|an rfl<|an rfl<|al nT<|av fun _ mH=>am fun qa=>ai rfl<|ae (ed rfl rfl) rfl<|ai rfl<|dy rfl rfl rfl (fun pg=>?_) (fun pg=>?_)
 ·
  have mu:=pg;simp only [DZ] at pg;have hd:50<fa x∨decide (50<gM x)=true:= .inl (by have:=pg;omega);refine az rfl rfl mu rfl rfl<|ae (bo rfl mu rfl) rfl<|al qa<|yI rfl rfl<|am fun xH=>ae (cC (z:=uR) (pl:=uS) (cs:= [_,_,_,_,_,_,_,_,_,_,_,_,_,_,_,_,_,_,_,_,_,_,_]) e8 (by kernel_rfl) (by kernel_rfl) rfl rfl rfl) rfl<|ba (by kernel_rfl) rfl rfl ab rfl rfl ?_
  rintro kW ab cx;have LK:=cx.size;have hb:=cf hb cx hb.size (by omega);have hPb3:=hPb3.over cx (by omega);have hz:=bi.kp hz cx (fun h_=>by have bh:=aT _ h_;first|omega|(rcases bh with dK|dK;(have kg:=hS _ dK;omega);omega));refine an rfl<|an rfl<|al xH<|aJ<|aX<|bQ (rs:= [.cell 2 33,.tmp 3,.tmp 4]) (vs:= [_,_,_]) rfl (.cell rfl (bP e8 (by kernel_rfl) (fun j u hu=>ab.at hu)) (.tmp rfl (.tmp rfl .nil))) ?_
  exact ⟨_,rfl,⟨lQ,0,6,er,_,hpt.trans (if_pos hd),rfl,ql _,fun k h=>h.elim⟩,hb⟩
 have mu:=pg;simp only [DZ] at pg;have hd0:¬50<fa x:=by have:=pg;omega
 refine ai rfl<|ap rfl rfl mu<|ae (ed rfl rfl) rfl<|ae (bj rfl mu rfl) rfl<|al qa<|aO rfl (fun v7=>?_) (fun v7=>?_)
 ·
  have Xy:=v7;simp only [DZ] at v7;have hd:50<fa x∨decide (50<gM x)=true:= .inr (decide_eq_true (by have:=v7;omega));refine am fun qb=>ae (cC (z:=uR) (pl:=uS) (cs:= [_,_,_,_,_,_,_,_,_,_,_,_,_,_,_,_,_,_,_,_,_,_,_]) e8 (by kernel_rfl) (by kernel_rfl) rfl rfl rfl) rfl<|ba (by kernel_rfl) rfl rfl ab rfl rfl ?_
  rintro kW ab cx;have LK:=cx.size;have hb:=cf hb cx hb.size (by omega);have hPb3:=hPb3.over cx (by omega);have hz:=bi.kp hz cx (fun h_=>by have bh:=aT _ h_;first|omega|(rcases bh with dK|dK;(have kg:=hS _ dK;omega);omega));refine an rfl<|an rfl<|al qb<|aJ<|aX<|bQ (rs:= [.cell 2 33,.tmp 3,.tmp 4]) (vs:= [_,_,_]) rfl (.cell rfl (bP e8 (by kernel_rfl) (fun j u hu=>ab.at hu)) (.tmp rfl (.tmp rfl .nil))) ?_
  exact ⟨_,rfl,⟨lQ,0,6,er,_,hpt.trans (if_pos hd),rfl,ql _,fun k h=>h.elim⟩,hb⟩
 have Xy:=v7;simp only [DZ] at v7;have hd:¬(50<fa x∨decide (50<gM x)=true):=fun h=>h.elim hd0 (fun h=>by have:=of_decide_eq_true h;have:=v7;omega);refine aU<|ax mH<|am fun oA=>aG (cr e8 (by kernel_rfl) rfl (by exact fun j u hu=>l7.at hu)) rfl ?_
 refine ba (by kernel_rfl) rfl rfl ab rfl rfl ?_;rintro mV ab cS;have:=cS.size;have hb:=cf hb cS hb.size (by omega);have hPb3:=hPb3.over cS (by omega);have hz:=bi.kp hz cS (fun h_=>by have bh:=aT _ h_;first|omega|(rcases bh with dK|dK;(have kg:=hS _ dK;omega);omega));refine an rfl<|an rfl<|al oA<|aJ<|bQ (rs:= [.cell 2 33,.tmp 3,.tmp 4]) (vs:= [_,_,_]) rfl (.cell rfl (bP e8 (by kernel_rfl) (fun j u hu=>ab.at hu)) (.tmp rfl (.tmp rfl .nil))) ?_
 exact ⟨_,rfl,⟨_,0,0,z,Sz,hpt.trans (if_neg hd),rfl,hz,fun k hk=>by have:=aT k hk;omega⟩,hb⟩
end Go.Proofs.YtjdjliiolchciaaGreatDoor
