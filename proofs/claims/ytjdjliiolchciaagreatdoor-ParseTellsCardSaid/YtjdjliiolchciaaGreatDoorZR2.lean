import Derived.Test.YtjdjliiolchciaaGreatDoorZR1
namespace Go.Proofs.YtjdjliiolchciaaGreatDoor
open Go.RowKit Go.Bw Go.Bw.Fl
set_option linter.unusedVariables false
set_option linter.unusedSimpArgs false
theorem S4:(Tryz.prog.info? 67).map (·.size)=some 1:=by kernel_rfl
theorem afy:bB Tryz.prog 173:=⟨_,Tryz.func173,by kernel_rfl,rfl⟩
theorem zZ:bB Tryz.prog 174:=⟨_,Tryz.func174,by kernel_rfl,rfl⟩
def qq:List (List (ao)):= [[j6],[jO],[gA],iT,[[43],[45]],[[42]]]
theorem Ro:∀lv:Nat,lv<6→∀t,t∈qq.getD lv []→lv≠2→lP t=ip t:=by decide
abbrev cQ (g n:Nat):Value:= .slice (some ⟨g,0,none⟩) n n
theorem SR {w:World} {t:TypeId} {g0 g1 g2 g3 g4 g5:Nat} (h0:ak w g0 t (b9 [j6])) (h1:ak w g1 t (b9 [jO])) (h2:ak w g2 t (b9 [gA])) (h3:ak w g3 t (b9 iT)) (h4:ak w g4 t (b9 [[43],[45]])) (h5:ak w g5 t (b9 [[42]])) {lv:Nat} (hlv:lv<6):∃g',([cQ g0 1,cQ g1 1,cQ g2 1,cQ g3 6,cQ g4 2,cQ g5 1]:List Value)[lv]? =some (.slice (some ⟨g',0,none⟩) (qq.getD lv []).length (qq.getD lv []).length)∧Rd w 1 (some ⟨g',0,none⟩) (qq.getD lv []).length (b9 (qq.getD lv [])):=by
 have:lv=0∨lv=1∨lv=2∨lv=3∨lv=4∨lv=5:=by omega
 rcases this with rfl|rfl|rfl|rfl|rfl|rfl
 · exact ⟨g0,rfl,h0.rd 1 1 rfl⟩
 · exact ⟨g1,rfl,h1.rd 1 1 rfl⟩
 · exact ⟨g2,rfl,h2.rd 1 1 rfl⟩
 · exact ⟨g3,rfl,h3.rd 6 1 rfl⟩
 · exact ⟨g4,rfl,h4.rd 2 1 rfl⟩
 · exact ⟨g5,rfl,h5.rd 1 1 rfl⟩
abbrev rR (p en g b n lv:Nat) (F:Pe):Prop:=qz p en 142 [.int .i64 (lv:Int)] n g b F eU
theorem ad1 (p en g b n:Nat) (F:Pe) (hA:qz p en 173 [] n g b F eU):rR p en g b n 6 F:=by
 intro w σ hP hn;have hpl:=hP.lt;have hb:=Kp.refl p w;refine enter Tryz.func142 rfl rfl rfl<|am fun aR=>bT (z:=fy) (by kernel_rfl) rfl ?_
 rintro au dJ dH ab aM;have:=aM.size;have hP:=hP.below aM;replace aM:=Below.kp (p:=p) aM;have hb:=hb.trans aM;have:=ab.lt;refine al aR<|av fun _ bt=>av fun _ b8=>?_
 obtain ⟨A,c,nn,a0,e0,hPb,hσ,_⟩:=hP.open;refine aQ<|ai rfl<|ae (cI rfl) rfl<|ae (aP (nB _) rfl) rfl<|aG (aS iq rfl (by exact hPb.at (j:=3) rfl)) rfl<|ae (fG rfl rfl) rfl<|al b8<|aO rfl (fun dA=>?_) (fun dA=>?_)
 ·
  have lp:=dA;simp only [DZ] at dA;obtain ⟨he0,hσe⟩:e0≠0∧σ= .err a0 e0:=by rcases hσ with h|h;(· exact absurd h.1 dA);(· exact h)
  subst hσe;refine am fun dT=>ae (cC (z:=gd) (pl:=gf) (cs:= [_,_,_,_,_,_,_]) b5 (by kernel_rfl) (by kernel_rfl) rfl rfl rfl) rfl<|ba (by kernel_rfl) rfl rfl ab rfl rfl ?_
  rintro du ab aF;have:=aF.size;have hb:=bp hb aF (by omega);have hP:=RO.over hP aF (by omega);refine al dT<|aJ<|aX<|bQ (rs:= [.cell 4 28]) (vs:= [_]) rfl (.cell rfl (bP b5 (by kernel_rfl) (fun j u hu=>ab.at hu)) .nil) ?_
  exact ⟨_,rfl,⟨eC,.err a0 e0,⟨dE,fun _=>False,rfl,kQ _ _,fun k h=>h.elim⟩,rfl,hP⟩,hb⟩
 clear hPb;refine aU<|ax bt<|am fun eh=>cz (sz:=1) (vs:= [_]) dl (by kernel_rfl) rfl rfl rfl rfl rfl rfl ?_
 rintro cp fA fw aI aV;have:=aV.size;have hP:=hP.below aV;have ab:=ab.below aV;replace aV:=Below.kp (p:=p) aV;have hb:=hb.trans aV;have:=aI.lt;refine cz (sz:=1) (vs:= [_]) dl (by kernel_rfl) rfl rfl rfl rfl rfl rfl ?_;rintro cK jB jG aK bA;have:=bA.size;have hP:=hP.below bA;have ab:=ab.below bA;replace bA:=Below.kp (p:=p) bA;have hb:=hb.trans bA;have:=aK.lt;refine cz (sz:=1) (vs:= [_]) dl (by kernel_rfl) rfl rfl rfl rfl rfl rfl ?_;rintro eA pO f4 bn c8;have:=c8.size;have hP:=hP.below c8;have ab:=ab.below c8;replace c8:=Below.kp (p:=p) c8;have hb:=hb.trans c8;have:=bn.lt;refine cz (sz:=1) (vs:= [_,_,_,_,_,_]) dl (by kernel_rfl) rfl rfl rfl rfl rfl rfl ?_;rintro eW sA l8 bu d4;have:=d4.size;have hP:=hP.below d4;have ab:=ab.below d4;replace d4:=Below.kp (p:=p) d4;have hb:=hb.trans d4;have:=bu.lt;refine cz (sz:=1) (vs:= [_,_]) dl (by kernel_rfl) rfl rfl rfl rfl rfl rfl ?_;rintro gO DQ xQ bG gQ;have:=gQ.size;have hP:=hP.below gQ;have ab:=ab.below gQ;replace gQ:=Below.kp (p:=p) gQ;have hb:=hb.trans gQ;have:=bG.lt;refine cz (sz:=1) (vs:= [_]) dl (by kernel_rfl) rfl rfl rfl rfl rfl rfl ?_;rintro gX Uf Qv bJ jx;have:=jx.size;have hP:=hP.below jx;have ab:=ab.below jx;replace jx:=Below.kp (p:=p) jx;have hb:=hb.trans jx;have:=bJ.lt;refine cz (sz:=1) (vs:= [_,_,_,_,_,_]) Dy (by kernel_rfl) rfl rfl rfl rfl rfl rfl ?_;rintro iz Ug Qw bK i6
 have:=i6.size;have hP:=hP.below i6;have ab:=ab.below i6;replace i6:=Below.kp (p:=p) i6;have hb:=hb.trans i6;have:=bK.lt;refine an rfl<|al eh<|av fun _ kh=>am fun gr=>ai rfl<|ae (bX rfl rfl) rfl<|al gr<|aO rfl (fun ot=>?_) (fun ot=>?_)
 ·
  refine am fun ki=>ai rfl<|aD afy rfl rfl (hA _ σ hP hn) rfl ?_
  rintro _ cB ⟨⟨x,σ1,⟨z,Sz,rfl,hz,aT⟩,h1,hP⟩,aw⟩;have:=aw.size;have ab:=ak.kp ab aw (by omega);have hb:=hb.trans aw;refine ba (by kernel_rfl) rfl rfl ab rfl rfl ?_;rintro ff ab bc;have:=bc.size;have hb:=bp hb bc (by omega);have hP:=RO.over hP bc (by omega);have hz:=aY.kp hz bc (fun h_=>by have bh:=aT _ h_;omega);refine al ki<|aJ<|aX<|bQ (rs:= [.cell 4 28]) (vs:= [_]) rfl (.cell rfl (bP b5 (by kernel_rfl) (fun j u hu=>ab.at hu)) .nil) ?_
  exact ⟨_,rfl,⟨x,σ1,⟨z,Sz,rfl,hz,fun k hk=>by have:=aT k hk;omega⟩,h1,hP⟩,hb⟩
 exact absurd ot (by decide)
theorem ad0 (p en g b n:Nat) (F:Pe) (h3:rR p en g b n 3 F):rR p en g b n 2 (i8 en gA F 3 [110,111,116]):=by
 intro w σ hP hn;have hpl:=hP.lt;have h65:=hP.sz;have hb:=Kp.refl p w;refine enter Tryz.func142 rfl rfl rfl<|am fun aR=>bT (z:=fy) (by kernel_rfl) rfl ?_
 rintro au dJ dH ab aM;have:=aM.size;have hP:=hP.below aM;replace aM:=Below.kp (p:=p) aM;have hb:=hb.trans aM;have:=ab.lt;refine al aR<|av fun _ bt=>av fun _ b8=>?_
 obtain ⟨A,c,nn,a0,e0,hPb,hσ,_⟩:=hP.open;refine aQ<|ai rfl<|ae (cI rfl) rfl<|ae (aP (nB _) rfl) rfl<|aG (aS iq rfl (by exact hPb.at (j:=3) rfl)) rfl<|ae (fG rfl rfl) rfl<|al b8<|aO rfl (fun dA=>?_) (fun dA=>?_)
 ·
  have lp:=dA;simp only [DZ] at dA;obtain ⟨he0,hσe⟩:e0≠0∧σ= .err a0 e0:=by rcases hσ with h|h;(· exact absurd h.1 dA);(· exact h)
  subst hσe;refine am fun dT=>ae (cC (z:=gd) (pl:=gf) (cs:= [_,_,_,_,_,_,_]) b5 (by kernel_rfl) (by kernel_rfl) rfl rfl rfl) rfl<|ba (by kernel_rfl) rfl rfl ab rfl rfl ?_
  rintro du ab aF;have:=aF.size;have hb:=bp hb aF (by omega);have hP:=RO.over hP aF (by omega);refine al dT<|aJ<|aX<|bQ (rs:= [.cell 4 28]) (vs:= [_]) rfl (.cell rfl (bP b5 (by kernel_rfl) (fun j u hu=>ab.at hu)) .nil) ?_
  exact ⟨_,rfl,⟨eC,.err a0 e0,⟨dE,fun _=>False,rfl,kQ _ _,fun k h=>h.elim⟩,rfl,hP⟩,hb⟩
 clear hPb;refine aU<|ax bt<|am fun eh=>cz (sz:=1) (vs:= [_]) dl (by kernel_rfl) rfl rfl rfl rfl rfl rfl ?_
 rintro cp fA fw aI aV;have:=aV.size;have hP:=hP.below aV;have ab:=ab.below aV;replace aV:=Below.kp (p:=p) aV;have hb:=hb.trans aV;have:=aI.lt;refine cz (sz:=1) (vs:= [_]) dl (by kernel_rfl) rfl rfl rfl rfl rfl rfl ?_;rintro cK jB jG aK bA;have:=bA.size;have hP:=hP.below bA;have ab:=ab.below bA;replace bA:=Below.kp (p:=p) bA;have hb:=hb.trans bA;have:=aK.lt;refine cz (sz:=1) (vs:= [_]) dl (by kernel_rfl) rfl rfl rfl rfl rfl rfl ?_;rintro eA pO f4 bn c8;have:=c8.size;have hP:=hP.below c8;have ab:=ab.below c8;replace c8:=Below.kp (p:=p) c8;have hb:=hb.trans c8;have:=bn.lt;refine cz (sz:=1) (vs:= [_,_,_,_,_,_]) dl (by kernel_rfl) rfl rfl rfl rfl rfl rfl ?_;rintro eW sA l8 bu d4;have:=d4.size;have hP:=hP.below d4;have ab:=ab.below d4;replace d4:=Below.kp (p:=p) d4;have hb:=hb.trans d4;have:=bu.lt;refine cz (sz:=1) (vs:= [_,_]) dl (by kernel_rfl) rfl rfl rfl rfl rfl rfl ?_;rintro gO DQ xQ bG gQ;have:=gQ.size;have hP:=hP.below gQ;have ab:=ab.below gQ;replace gQ:=Below.kp (p:=p) gQ;have hb:=hb.trans gQ;have:=bG.lt;refine cz (sz:=1) (vs:= [_]) dl (by kernel_rfl) rfl rfl rfl rfl rfl rfl ?_;rintro gX Uf Qv bJ jx;have:=jx.size;have hP:=hP.below jx;have ab:=ab.below jx;replace jx:=Below.kp (p:=p) jx;have hb:=hb.trans jx;have:=bJ.lt;refine cz (sz:=1) (vs:= [_,_,_,_,_,_]) Dy (by kernel_rfl) rfl rfl rfl rfl rfl rfl ?_;rintro iz Ug Qw bK i6
 have:=i6.size;have hP:=hP.below i6;have ab:=ab.below i6;replace i6:=Below.kp (p:=p) i6;have hb:=hb.trans i6;have:=bK.lt;refine an rfl<|al eh<|av fun _ kh=>am fun gr=>ai rfl<|ae (bX rfl rfl) rfl<|al gr<|aO rfl (fun ot=>?_) (fun ot=>?_)
 ·
  exact absurd ot (by decide)
 refine aU<|ax kh<|av fun _ ki=>am fun fu=>ai rfl<|ae (bX rfl rfl) rfl<|al fu<|aO rfl (fun jj=>?_) (fun jj=>?_)
 ·
  refine am fun gP=>an rfl<|al gP<|av fun _ im=>b4<|d9 (X:=Sg×Nat) (fun (τ,m)=> [(0,bH p),(4,.pointer (some ⟨au,0,none⟩)),(6,.int .i64 (m:Int))]) (fun (τ,m) wr=>l1 en gA σ=((l1 en gA τ).1+m,(l1 en gA τ).2)∧m+cE τ=cE σ∧Kp p w wr∧RO wr p en g b τ∧(∃y_:EC,ak wr au 28 y_.cells)) (fun (τ,m)=>cE τ) (⟨σ,0⟩) ?_ ?_ ?_
  · exact by repeat first|exact aC|refine aA rfl (by first|rfl|exact aH (by omega)) ?_
  · exact ⟨by rw [Nat.add_zero],by omega,hb,hP,⟨dE,ab⟩⟩
  rintro ⟨τ,m⟩ wr xr _ aau;replace xr:l1 en gA σ=((l1 en gA τ).1+m,(l1 en gA τ).2)∧m+cE τ=cE σ∧Kp p w wr∧RO wr p en g b τ∧(∃y_:EC,ak wr au 28 y_.cells):=xr;obtain ⟨hF,hm,hb,hP,⟨_,ab⟩⟩:=xr;show Wc _ _ _ _ _ [(0,bH p),(4,.pointer (some ⟨au,0,none⟩)),(6,.int .i64 (m:Int))] _;have:=hb.size;have:=ab.lt;refine av fun _ kH=>am fun kj=>ai rfl<|aD lj rfl rfl (lh p en g b τ gA _ hP) rfl ?_
  rintro _ cU ⟨rfl,aL⟩;have:=aL.size;have hP:=RO.below hP aL;have ab:=ak.below ab aL;replace aL:=Below.kp (p:=p) aL;have hb:=hb.trans aL;refine al kj<|aO rfl (fun Hy=>?_) (fun Hy=>?_)
  ·
   have Hz:=Hy;obtain ⟨ts,rfl,hi⟩:=oN Hz;have hl:=kN hi;refine aU<|ax kH<|b4<|am fun lL=>ai rfl<|aD iP rfl rfl (iO p en ts g b (eB hi) _ hP) rfl ?_
   rintro _ eP ⟨⟨rfl,hP⟩,a6⟩;have:=a6.size;have ab:=ak.kp ab a6 (by omega);have hb:=hb.trans a6;refine al lL<|aQ<|ai rfl<|ae (ct rfl rfl (by omega) (by omega)) rfl<|an rfl<|ay<|cD<|fun a_ bM=>aau _ _ (⟨.ok () ts.tail,m+1⟩) (by show ts.tail.length<ts.length;omega) (by repeat first|exact aC|refine aA rfl (by first|rfl|exact aH (by omega)) ?_) ?_ a_ bM
   exact ⟨by rw [hF,OL hi,Nat.add_assoc,Nat.add_comm 1 m],by show m+1+ts.tail.length=_;rw [←hm];show _=m+ts.length;omega,hb,hP,⟨_,ab⟩⟩
  have Hz:=Hy;have hi:eZ en [gA] τ=false:=Hz;rw [OK hi,Nat.zero_add] at hF;refine d2<|cj<|cj<|d3<|ax im<|am fun gZ=>ai rfl<|aD zY rfl rfl (h3 _ τ hP (by omega)) rfl ?_
  rintro _ fj ⟨⟨x,σ1,⟨z,Sz,rfl,hz,aT⟩,h1,hP⟩,bk⟩;have:=bk.size;have ab:=ak.kp ab bk (by omega);have hb:=hb.trans bk;refine bT (z:=fy) (by kernel_rfl) rfl ?_;rintro xe agL aaP mA qg;have:=qg.size;have hP:=hP.below qg;have ab:=ab.below qg;have hz:=hz.below qg;replace qg:=Below.kp (p:=p) qg;have hb:=hb.trans qg;have:=mA.lt;refine ba (by kernel_rfl) rfl rfl mA rfl rfl ?_;rintro gB mA bz;have:=bz.size;have hb:=bp hb bz (by omega);have hP:=RO.over hP bz (by omega);have ab:=ab.over bz (by omega);have hz:=aY.kp hz bz (fun h_=>by have bh:=aT _ h_;omega);refine al gZ<|av fun _ po=>am fun lM=>an rfl<|al lM<|b4<|d9 (X:=Nat×EC×(Nat→Prop)×b6) (fun (i,x1,S,e)=> [(4,.pointer (some ⟨au,0,none⟩)),(6,.int .i64 (m:Int)),(7,.pointer (some ⟨xe,0,none⟩)),(8,.int .i64 (i:Int))]) (fun (i,x1,S,e) wr=>i≤m∧ku 3 [110,111,116] (m - i) e=ku 3 [110,111,116] m x∧Kp p w wr∧RO wr p en g b σ1∧(∃y_:EC,ak wr au 28 y_.cells)∧ak wr xe 28 x1.cells∧aY wr S e x1.cells∧(∀k,S k→w.heap.size≤k∧k<wr.heap.size∧k≠xe∧k≠au)) (fun (i,x1,S,e)=>m - i) (⟨0,z,Sz,x⟩) ?_ ?_ ?_
  · exact by repeat first|exact aC|refine aA rfl (by first|rfl|exact aH (by omega)) ?_
  · exact ⟨by omega,rfl,hb,hP,⟨_,ab⟩,mA,hz,fun k hk=>by have:=aT k hk;omega⟩
  rintro ⟨i,x1,S,e⟩ wr xu _ aaz;replace xu:i≤m∧ku 3 [110,111,116] (m - i) e=ku 3 [110,111,116] m x∧Kp p w wr∧RO wr p en g b σ1∧(∃y_:EC,ak wr au 28 y_.cells)∧ak wr xe 28 x1.cells∧aY wr S e x1.cells∧(∀k,S k→w.heap.size≤k∧k<wr.heap.size∧k≠xe∧k≠au):=xu;obtain ⟨him,hw1,hb,hP,⟨_,ab⟩,mA,hx,dt⟩:=xu;show Wc _ _ _ _ _ [(4,.pointer (some ⟨au,0,none⟩)),(6,.int .i64 (m:Int)),(7,.pointer (some ⟨xe,0,none⟩)),(8,.int .i64 (i:Int))] _;have:=hb.size;have:=ab.lt;have:=mA.lt;refine av fun _ pp=>am fun kK=>ai rfl<|ai rfl<|ae (dL rfl rfl) rfl<|al kK<|aO rfl (fun kz=>?_) (fun kz=>?_)
  ·
   have HY:=kz;simp only [DZ] at kz;have hlt:i<m:=by have:=kz;omega
   refine aU<|ax pp<|av fun _ jv=>b4<|aQ<|aG (cr b5 (by kernel_rfl) rfl (by exact fun j u hu=>mA.at hu)) rfl<|cz (sz:=7) (vs:= [_]) j5 (by kernel_rfl) rfl rfl rfl rfl rfl rfl ?_
   rintro PG aih ahS BU uL;have:=uL.size;have hP:=hP.below uL;have hx:=hx.below uL;have ab:=ab.below uL;have mA:=mA.below uL;replace uL:=Below.kp (p:=p) uL;have hb:=hb.trans uL;have:=BU.lt;refine ae (cC (z:=gd) (pl:=gf) (cs:= [_,_,_,_,_,_,_]) b5 (by kernel_rfl) (by kernel_rfl) rfl rfl rfl) rfl<|ba (by kernel_rfl) rfl rfl mA rfl rfl ?_
   rintro j7 mA cd;have:=cd.size;have hb:=bp hb cd (by omega);have hP:=RO.over hP cd (by omega);have hx:=aY.kp hx cd (fun h_=>by have bh:=dt _ h_;omega);have ab:=ab.over cd (by omega);have BU:=BU.over cd (by omega);refine ay<|cD<|ax jv<|aQ<|ai rfl<|ae (ct rfl rfl (by omega) (by omega)) rfl<|an rfl<|ay<|fun a_ bM=>aaz _ _ (⟨i+1,⟨3,[110,111,116],ch,some ⟨PG,0,none⟩,1,1⟩,fun k=>S k∨k=PG,.mk 3 [110,111,116] ch [e]⟩) (by show m - (i+1)<m - i;omega) (by repeat first|exact aC|refine aA rfl (by first|rfl|exact aH (by omega)) ?_) ?_ a_ bM
   exact ⟨by omega,by rw [←hw1,show m - i=(m - (i+1))+1 by omega];rfl,hb,hP,⟨_,ab⟩,mA,aY.node (kids:= [e]) rfl (BU.rd 1 7 rfl) (.inr rfl) ((eQ.one hx).mono fun _ h=> .inl h),fun k hk=>by rcases hk with h|h;(· have:=dt k h;omega);(· have:=BU.lt;omega)⟩
  have HY:=kz;simp only [DZ] at kz;have hlt:i=m:=by have:=kz;omega
  refine d2<|cj<|cj<|d3<|ax po<|am fun rn=>?_
  refine aG (cr b5 (by kernel_rfl) rfl (by exact fun j u hu=>mA.at hu)) rfl ?_;refine ba (by kernel_rfl) rfl rfl ab rfl rfl ?_;rintro kW ab cx;have:=cx.size;have hb:=bp hb cx (by omega);have hP:=RO.over hP cx (by omega);have hx:=aY.kp hx cx (fun h_=>by have bh:=dt _ h_;omega);refine al rn<|aJ<|aX<|bQ (rs:= [.cell 4 28]) (vs:= [_]) rfl (.cell rfl (bP b5 (by kernel_rfl) (fun j u hu=>ab.at hu)) .nil) ?_
  exact ⟨_,rfl,⟨e,σ1,⟨x1,S,rfl,hx,fun k hk=>by have:=dt k hk;omega⟩,by
 subst hlt
 have h2:=Tk (k:=3) (nm:= [110,111,116]) (sign:=gA) (en:=en) (σ:=σ) (F:=F) (σ':=σ1) (x:=x) (by rw [hF];exact h1)
 rw [h2,hF]
 rw [Nat.sub_self] at hw1
 show dZ (ku 3 [110,111,116] i x) σ1=dZ e σ1
 rw [←hw1];rfl,hP⟩,hb⟩
 exact absurd jj (by decide)
def LR (x:b6):b6:= .mk 3 DP ch [x]
set_option maxHeartbeats 2000000 in
theorem Sh (p en g b n lv:Nat) (hlv:lv<6) (hl2:lv≠2) (F:Pe) (hT:iE F) (W:Nat→b6→List Tok→cn b6) (P:Pe)
 (hgo:∀m e ts,bv en (qq.getD lv []) ts=true→(m=0∨lv≠3)→W m e ts=eI (F ts.tail) fun y r=>W (m+1) (hZ (aN en ts).t e y) r)
 (hend:∀m e σ,(eZ en (qq.getD lv []) σ&&decide (m=0∨lv≠3))=false→bR σ (W m e)=dZ e σ)
 (hPE:∀ts,P ts=eI (F ts) fun x r=>if lv=3∧bv en [pN] r=true then eI (eO en gi r.tail) (fun _ r2=> .ok (LR x) r2) else W 0 x r)
 (h3:rR p en g b n (lv+1) F):rR p en g b n lv P:=by
 intro w σ hP hn
 have hpl:=hP.lt
 have h65:=hP.sz
 obtain ⟨sgs,hsgs⟩:∃s,s=qq.getD lv []:=⟨_,rfl⟩
 rw [←hsgs] at hgo hend
 have hsl:sgs.length≤6:=by rw [hsgs];exact (show ∀l:Nat,l<6→(qq.getD l []).length≤6 by decide) lv hlv
 have hb:=Kp.refl p w
 refine enter Tryz.func142 rfl rfl rfl<|am fun aR=>bT (z:=fy) (by kernel_rfl) rfl ?_
 rintro au dJ dH ab aM
 have:=aM.size
 have hP:=hP.below aM
 replace aM:=Below.kp (p:=p) aM
 have hb:=hb.trans aM
 have:=ab.lt
 refine al aR<|av fun _ bt=>av fun _ b8=>?_
 obtain ⟨A,c,nn,a0,e0,hPb,hσ,_⟩:=hP.open
 refine aQ<|ai rfl<|ae (cI rfl) rfl<|ae (aP (nB _) rfl) rfl<|aG (aS iq rfl (by exact hPb.at (j:=3) rfl)) rfl<|ae (fG rfl rfl) rfl<|al b8<|aO rfl (fun dA=>?_) (fun dA=>?_)
 ·
  have lp:=dA;simp only [DZ] at dA;obtain ⟨he0,hσe⟩:e0≠0∧σ= .err a0 e0:=by rcases hσ with h|h;(· exact absurd h.1 dA);(· exact h)
  subst hσe;refine am fun dT=>ae (cC (z:=gd) (pl:=gf) (cs:= [_,_,_,_,_,_,_]) b5 (by kernel_rfl) (by kernel_rfl) rfl rfl rfl) rfl<|ba (by kernel_rfl) rfl rfl ab rfl rfl ?_
  rintro du ab aF;have:=aF.size;have hb:=bp hb aF (by omega);have hP:=RO.over hP aF (by omega);refine al dT<|aJ<|aX<|bQ (rs:= [.cell 4 28]) (vs:= [_]) rfl (.cell rfl (bP b5 (by kernel_rfl) (fun j u hu=>ab.at hu)) .nil) ?_
  exact ⟨_,rfl,⟨eC,.err a0 e0,⟨dE,fun _=>False,rfl,kQ _ _,fun k h=>h.elim⟩,rfl,hP⟩,hb⟩
 clear hPb
 refine aU<|ax bt<|am fun eh=>cz (sz:=1) (vs:= [_]) dl (by kernel_rfl) rfl rfl rfl rfl rfl rfl ?_
 rintro cp fA fw aI aV
 have:=aV.size
 have hP:=hP.below aV
 have ab:=ab.below aV
 replace aV:=Below.kp (p:=p) aV
 have hb:=hb.trans aV
 have:=aI.lt
 refine cz (sz:=1) (vs:= [_]) dl (by kernel_rfl) rfl rfl rfl rfl rfl rfl ?_
 rintro cK jB jG aK bA
 have:=bA.size
 have hP:=hP.below bA
 have ab:=ab.below bA
 have aI:=aI.below bA
 replace bA:=Below.kp (p:=p) bA
 have hb:=hb.trans bA
 have:=aK.lt
 refine cz (sz:=1) (vs:= [_]) dl (by kernel_rfl) rfl rfl rfl rfl rfl rfl ?_
 rintro eA pO f4 bn c8
 have:=c8.size
 have hP:=hP.below c8
 have ab:=ab.below c8
 have aI:=aI.below c8
 have aK:=aK.below c8
 replace c8:=Below.kp (p:=p) c8
 have hb:=hb.trans c8
 have:=bn.lt
 refine cz (sz:=1) (vs:= [_,_,_,_,_,_]) dl (by kernel_rfl) rfl rfl rfl rfl rfl rfl ?_
 rintro eW sA l8 bu d4
 have:=d4.size
 have hP:=hP.below d4
 have ab:=ab.below d4
 have aI:=aI.below d4
 have aK:=aK.below d4
 have bn:=bn.below d4
 replace d4:=Below.kp (p:=p) d4
 have hb:=hb.trans d4
 have:=bu.lt
 refine cz (sz:=1) (vs:= [_,_]) dl (by kernel_rfl) rfl rfl rfl rfl rfl rfl ?_
 rintro gO DQ xQ bG gQ
 have:=gQ.size
 have hP:=hP.below gQ
 have ab:=ab.below gQ
 have aI:=aI.below gQ
 have aK:=aK.below gQ
 have bn:=bn.below gQ
 have bu:=bu.below gQ
 replace gQ:=Below.kp (p:=p) gQ
 have hb:=hb.trans gQ
 have:=bG.lt
 refine cz (sz:=1) (vs:= [_]) dl (by kernel_rfl) rfl rfl rfl rfl rfl rfl ?_
 rintro gX Uf Qv bJ jx
 have:=jx.size
 have hP:=hP.below jx
 have ab:=ab.below jx
 have aI:=aI.below jx
 have aK:=aK.below jx
 have bn:=bn.below jx
 have bu:=bu.below jx
 have bG:=bG.below jx
 replace jx:=Below.kp (p:=p) jx
 have hb:=hb.trans jx
 have:=bJ.lt
 refine cz (sz:=1) (vs:= [_,_,_,_,_,_]) Dy (by kernel_rfl) rfl rfl rfl rfl rfl rfl ?_
 rintro iz Ug Qw bK i6
 have:=i6.size
 have hP:=hP.below i6
 have ab:=ab.below i6
 have aI:=aI.below i6
 have aK:=aK.below i6
 have bn:=bn.below i6
 have bu:=bu.below i6
 have bG:=bG.below i6
 have bJ:=bJ.below i6
 replace i6:=Below.kp (p:=p) i6
 have hb:=hb.trans i6
 have:=bK.lt
 refine an rfl<|al eh<|av fun _ kh=>am fun gr=>ai rfl<|ae (bX rfl rfl) rfl<|al gr<|aO rfl (fun ot=>?_) (fun ot=>?_)
 ·
  have ahy:=ot;simp only [DZ] at ot
  (have h:=ot;omega)
 refine aU<|ax kh<|av fun _ ki=>am fun fu=>ai rfl<|ae (bX rfl rfl) rfl<|al fu<|aO rfl (fun jj=>?_) (fun jj=>?_)
 ·
  have yR:=jj;simp only [DZ] at jj
  (have h:=jj;omega)
 refine aU<|ax ki<|am fun gP=>ai rfl<|ai rfl<|ae (bW (ct rfl rfl (by omega) (by omega)) (aH (show _=((lv+1:Nat):Int) by omega))) rfl<|aD zY rfl rfl (h3 _ σ hP hn) rfl ?_
 rintro _ gj ⟨⟨x,σ1,⟨z,Sz,rfl,hz,aT⟩,h1,hP⟩,bD⟩
 have:=bD.size
 have ab:=ak.kp ab bD (by omega)
 have aI:=ak.kp aI bD (by omega)
 have aK:=ak.kp aK bD (by omega)
 have bn:=ak.kp bn bD (by omega)
 have bu:=ak.kp bu bD (by omega)
 have bG:=ak.kp bG bD (by omega)
 have bJ:=ak.kp bJ bD (by omega)
 have bK:=ak.kp bK bD (by omega)
 have hb:=hb.trans bD
 have hsz1:=rJ h1 (yo hT)
 refine bT (z:=fy) (by kernel_rfl) rfl ?_
 rintro dO Ns Lj br gb
 have:=gb.size
 have hP:=hP.below gb
 have ab:=ab.below gb
 have aI:=aI.below gb
 have aK:=aK.below gb
 have bn:=bn.below gb
 have bu:=bu.below gb
 have bG:=bG.below gb
 have bJ:=bJ.below gb
 have bK:=bK.below gb
 have hz:=hz.below gb
 replace gb:=Below.kp (p:=p) gb
 have hb:=hb.trans gb
 have:=br.lt
 refine ba (by kernel_rfl) rfl rfl br rfl rfl ?_
 rintro mV br cS
 have:=cS.size
 have hb:=bp hb cS (by omega)
 have hP:=RO.over hP cS (by omega)
 have ab:=ab.over cS (by omega)
 have aI:=aI.over cS (by omega)
 have aK:=aK.over cS (by omega)
 have bn:=bn.over cS (by omega)
 have bu:=bu.over cS (by omega)
 have bG:=bG.over cS (by omega)
 have bJ:=bJ.over cS (by omega)
 have bK:=bK.over cS (by omega)
 have hz:=aY.kp hz cS (fun h_=>by have bh:=aT _ h_;omega)
 refine al gP<|av fun _ kj=>am fun k9=>ai rfl<|ae (bX rfl rfl) rfl<|ai rfl<|cG rfl rfl rfl (fun nJ=>?_) (fun nJ=>?_)
 ·
  have Bv:=nJ;simp only [DZ] at nJ;have hl3:lv=3:=by have:=nJ;omega
  refine ai rfl<|ap rfl rfl Bv<|aD lj rfl rfl (lh p en g b σ1 pN _ hP) rfl ?_
  rintro _ lW ⟨rfl,cm⟩;have:=cm.size;have hP:=RO.below hP cm;have ab:=ak.below ab cm;have aI:=ak.below aI cm;have aK:=ak.below aK cm;have bn:=ak.below bn cm;have bu:=ak.below bu cm;have bG:=ak.below bG cm;have bJ:=ak.below bJ cm;have bK:=ak.below bK cm;have hz:=aY.below hz cm;have br:=ak.below br cm;replace cm:=Below.kp (p:=p) cm;have hb:=hb.trans cm;refine ae (bo rfl Bv rfl) rfl<|al k9<|cR (X:=Unit) (fun ()=> [(0,bH p),(1,.int .i64 (lv:Int)),(4,.pointer (some ⟨au,0,none⟩)),(5,.slice (some ⟨iz,0,none⟩) 6 6),(9,.pointer (some ⟨dO,0,none⟩))]) (fun () wr=>bR σ P=bR σ1 (W 0 x)∧Kp p w wr∧RO wr p en g b σ1∧aY wr Sz x z.cells∧(∀k,Sz k→w.heap.size≤k∧k<wr.heap.size∧k≠dO∧k≠au)∧ak wr dO 28 z.cells∧(∃y_:EC,ak wr au 28 y_.cells)∧ak wr cp 9 (b9 [j6])∧ak wr cK 9 (b9 [jO])∧ak wr eA 9 (b9 [gA])∧ak wr eW 9 (b9 iT)∧ak wr gO 9 (b9 [[43],[45]])∧ak wr gX 9 (b9 [[42]])∧ak wr iz 67 [cQ cp 1,cQ cK 1,cQ eA 1,cQ eW 6,cQ gO 2,cQ gX 1]) (fun _ E7=>?_) ?_
  ·
   refine aO rfl (fun Ie=>?_) (fun Ie=>?_)
   ·
    have If:=Ie;obtain ⟨ts,rfl,hi⟩:=oN If
    have hPis:bR σ P=bR (.ok () ts.tail) (fun r2=>eI (eO en gi r2) fun _ r3=> .ok (LR x) r3):=by
     rw [show P=_ from funext hPE,ij h1];show (if lv=3∧bv en [pN] ts=true then _ else _)=_;rw [if_pos ⟨hl3,hi⟩];rfl
    refine am fun kl=>ai rfl<|aD iP rfl rfl (iO p en ts g b (eB hi) _ hP) rfl ?_
    rintro _ lX ⟨⟨rfl,hP⟩,cy⟩;have:=cy.size;have ab:=ak.kp ab cy (by omega);have hz:=aY.kp hz cy (fun h_=>by have bh:=aT _ h_;omega);have br:=ak.kp br cy (by omega);have hb:=hb.trans cy;refine al kl<|am fun po=>ai rfl<|aD Dw rfl rfl (Dk p en g b gi _ _ hP) rfl ?_
    rintro _ mh ⟨hP,cA⟩;have:=cA.size;have ab:=ak.kp ab cA (by omega);have hz:=aY.kp hz cA (fun h_=>by have bh:=aT _ h_;omega);have br:=ak.kp br cA (by omega);have hb:=hb.trans cA;refine al po<|am fun kI=>aG (cr b5 (by kernel_rfl) rfl (by exact fun j u hu=>br.at hu)) rfl<|cz (sz:=7) (vs:= [_]) j5 (by kernel_rfl) rfl rfl rfl rfl rfl rfl ?_
    rintro PH aii ahT BV xX;have:=xX.size;have hP:=hP.below xX;have ab:=ab.below xX;have hz:=hz.below xX;replace xX:=Below.kp (p:=p) xX;have hb:=hb.trans xX;have:=BV.lt;refine ae (cC (z:=gd) (pl:=gf) (cs:= [_,_,_,_,_,_,_]) b5 (by kernel_rfl) (by kernel_rfl) rfl rfl rfl) rfl<|ba (by kernel_rfl) rfl rfl ab rfl rfl ?_
    rintro mW ab df;have:=df.size;have hb:=bp hb df (by omega);have hP:=RO.over hP df (by omega);have hz:=aY.kp hz df (fun h_=>by have bh:=aT _ h_;omega);have BV:=BV.over df (by omega);refine al kI<|aJ<|aX (aX ?_)
    refine bQ (rs:= [.cell 4 28]) (vs:= [_]) rfl (.cell rfl (bP b5 (by kernel_rfl) (fun j u hu=>ab.at hu)) .nil) ?_;exact ⟨_,rfl,⟨LR x,_,⟨⟨3,DP,ch,some ⟨PH,0,none⟩,1,1⟩,fun k=>Sz k∨k=PH,rfl,aY.node (kids:= [x]) rfl (BV.rd 1 7 rfl) (.inr rfl) ((eQ.one hz).mono fun _ h=> .inl h),fun k hk=>by rcases hk with h|h;(· have:=aT k h;omega);(· have:=BV.lt;omega)⟩,by rw [hPis,Mj],hP⟩,hb⟩
   have If:=Ie
   have hW:bR σ P=bR σ1 (W 0 x):=by
    rw [show P=_ from funext hPE,ij h1]
    first
    |(cases σ1 with
     |err a e=>rfl
     |ok u r=>show (if lv=3∧bv en [pN] r=true then _ else _)=_;rw [if_neg (fun h=>by have h2:=If;rw [show eZ en [pN] (.ok u r)=bv en [pN] r from rfl,h.2] at h2;cases h2)];rfl)
    |(congr 1;funext r;rw [if_neg (fun h=>hl3 h.1)])
   refine aU<|a7 E7 (()) (by repeat first|exact aC|refine aA rfl (by first|rfl|exact aH (by omega)) ?_) ?_
   exact ⟨hW,hb,hP,hz,fun k hk=>by have:=aT k hk;omega,br,⟨dE,ab⟩,aI,aK,bn,bu,bG,bJ,bK⟩
  rintro ⟨⟩ wr Ka;replace Ka:bR σ P=bR σ1 (W 0 x)∧Kp p w wr∧RO wr p en g b σ1∧aY wr Sz x z.cells∧(∀k,Sz k→w.heap.size≤k∧k<wr.heap.size∧k≠dO∧k≠au)∧ak wr dO 28 z.cells∧(∃y_:EC,ak wr au 28 y_.cells)∧ak wr cp 9 (b9 [j6])∧ak wr cK 9 (b9 [jO])∧ak wr eA 9 (b9 [gA])∧ak wr eW 9 (b9 iT)∧ak wr gO 9 (b9 [[43],[45]])∧ak wr gX 9 (b9 [[42]])∧ak wr iz 67 [cQ cp 1,cQ cK 1,cQ eA 1,cQ eW 6,cQ gO 2,cQ gX 1]:=Ka;obtain ⟨hW,hb,hP,hz,aT,br,⟨_,ab⟩,aI,aK,bn,bu,bG,bJ,bK⟩:=Ka;show Wq _ _ _ _ [(0,bH p),(1,.int .i64 (lv:Int)),(4,.pointer (some ⟨au,0,none⟩)),(5,.slice (some ⟨iz,0,none⟩) 6 6),(9,.pointer (some ⟨dO,0,none⟩))] _;have ab0:=hb.size;have abn:=br.lt;have abk:=ab.lt;have aaZ:=aI.lt;have aa2:=aK.lt;have aa5:=bn.lt;have aa8:=bu.lt;have abb:=bG.lt;have abe:=bJ.lt;have abh:=bK.lt;refine ax kj<|av fun _ nQ=>am fun nR=>an rfl<|al nR<|b4<|d9 (X:=EC×(Nat→Prop)×b6×Sg×Nat) (fun (x,S,e,τ,m)=> [(0,bH p),(1,.int .i64 (lv:Int)),(4,.pointer (some ⟨au,0,none⟩)),(5,.slice (some ⟨iz,0,none⟩) 6 6),(9,.pointer (some ⟨dO,0,none⟩)),(10,.int .i64 (m:Int))]) (fun (x,S,e,τ,m) wr=>bR σ P=bR τ (W m e)∧m+cE τ≤cE σ∧Kp p w wr∧RO wr p en g b τ∧aY wr S e x.cells∧(∀k,S k→w.heap.size≤k∧k<wr.heap.size∧k≠dO∧k≠au)∧ak wr dO 28 x.cells∧(∃y_:EC,ak wr au 28 y_.cells)∧ak wr cp 9 (b9 [j6])∧ak wr cK 9 (b9 [jO])∧ak wr eA 9 (b9 [gA])∧ak wr eW 9 (b9 iT)∧ak wr gO 9 (b9 [[43],[45]])∧ak wr gX 9 (b9 [[42]])∧ak wr iz 67 [cQ cp 1,cQ cK 1,cQ eA 1,cQ eW 6,cQ gO 2,cQ gX 1]) (fun (x,S,e,τ,m)=>cE τ) (⟨z,Sz,x,σ1,0⟩) ?_ ?_ ?_
  · exact by repeat first|exact aC|refine aA rfl (by first|rfl|exact aH (by omega)) ?_
  · exact ⟨hW,by omega,hb,hP,hz,fun k hk=>by have:=aT k hk;omega,br,⟨_,ab⟩,aI,aK,bn,bu,bG,bJ,bK⟩
  rintro ⟨x,S,e,τ,m⟩ wr rj _ KZ;replace rj:bR σ P=bR τ (W m e)∧m+cE τ≤cE σ∧Kp p w wr∧RO wr p en g b τ∧aY wr S e x.cells∧(∀k,S k→w.heap.size≤k∧k<wr.heap.size∧k≠dO∧k≠au)∧ak wr dO 28 x.cells∧(∃y_:EC,ak wr au 28 y_.cells)∧ak wr cp 9 (b9 [j6])∧ak wr cK 9 (b9 [jO])∧ak wr eA 9 (b9 [gA])∧ak wr eW 9 (b9 iT)∧ak wr gO 9 (b9 [[43],[45]])∧ak wr gX 9 (b9 [[42]])∧ak wr iz 67 [cQ cp 1,cQ cK 1,cQ eA 1,cQ eW 6,cQ gO 2,cQ gX 1]:=rj;obtain ⟨hF,hle,hb,hP,hx,dt,br,⟨_,ab⟩,aI,aK,bn,bu,bG,bJ,bK⟩:=rj;show Wc _ _ _ _ _ [(0,bH p),(1,.int .i64 (lv:Int)),(4,.pointer (some ⟨au,0,none⟩)),(5,.slice (some ⟨iz,0,none⟩) 6 6),(9,.pointer (some ⟨dO,0,none⟩)),(10,.int .i64 (m:Int))] _;have abY:=hb.size;have abm:=br.lt;have abj:=ab.lt;have aaY:=aI.lt;have aa1:=aK.lt;have aa4:=bn.lt;have aa7:=bu.lt;have aba:=bG.lt;have abd:=bJ.lt;have abg:=bK.lt;refine av fun _ pt=>av fun _ m7=>?_;obtain ⟨g',hrow,hRs⟩:=SR aI aK bn bu bG bJ hlv;rw [←hsgs] at hrow hRs;refine cR (X:=Bool) (fun q=> [(0,bH p),(1,.int .i64 (lv:Int)),(4,.pointer (some ⟨au,0,none⟩)),(5,.slice (some ⟨iz,0,none⟩) 6 6),(9,.pointer (some ⟨dO,0,none⟩)),(10,.int .i64 (m:Int)),(79,.bool q)]) (fun q wr=>q=(eZ en sgs τ&&decide (m=0∨lv≠3))∧Kp p w wr∧RO wr p en g b τ∧aY wr S e x.cells∧(∀k,S k→w.heap.size≤k∧k<wr.heap.size∧k≠dO∧k≠au)∧ak wr dO 28 x.cells∧(∃y_:EC,ak wr au 28 y_.cells)∧ak wr cp 9 (b9 [j6])∧ak wr cK 9 (b9 [jO])∧ak wr eA 9 (b9 [gA])∧ak wr eW 9 (b9 iT)∧ak wr gO 9 (b9 [[43],[45]])∧ak wr gX 9 (b9 [[42]])∧ak wr iz 67 [cQ cp 1,cQ cK 1,cQ eA 1,cQ eW 6,cQ gO 2,cQ gX 1]) (fun _ K5=>?_) ?_
  ·
   refine aQ<|ai rfl<|ai rfl<|ai rfl<|ae (f8 Dy S4 rfl rfl (by omega) (by omega)) rfl<|aG (aS C8 rfl (by exact by rw [Int.toNat_natCast,Nat.mul_one];exact bK.at hrow)) rfl<|aD z7 rfl rfl (zN p en g b τ _ _ sgs (by omega) _ hP hRs) rfl ?_
   rintro _ qw ⟨rfl,cL⟩;have LI:=cL.size;have hP:=RO.below hP cL;have hx:=aY.below hx cL;have br:=ak.below br cL;have ab:=ak.below ab cL;have aI:=ak.below aI cL;have aK:=ak.below aK cL;have bn:=ak.below bn cL;have bu:=ak.below bu cL;have bG:=ak.below bG cL;have bJ:=ak.below bJ cL;have bK:=ak.below bK cL;replace cL:=Below.kp (p:=p) cL;have hb:=hb.trans cL;refine ai rfl<|cG rfl rfl rfl (fun ox=>?_) (fun ox=>?_)
   ·
    have iU:=ox;have hsee:eZ en sgs τ=true:=iU;refine ai rfl<|ap rfl rfl iU<|ae (bX rfl rfl) rfl<|ap rfl rfl iU<|ai rfl<|dy rfl rfl rfl (fun w7=>?_) (fun w7=>?_)
    ·
     have BG:=w7;simp only [DZ] at w7;have hm0:m=0:=by have:=w7;omega
     refine az rfl rfl BG rfl rfl<|ap rfl rfl iU<|ae (bo rfl BG rfl) rfl<|ae (bo rfl iU rfl) rfl<|ay<|a7 K5 (eZ en sgs τ&&decide (m=0∨lv≠3)) (by repeat first|exact aC|refine aA rfl (by first|rfl|exact a8 (by rw [hsee];rfl)|exact a8 (by rw [hsee,Bool.true_and,eq_comm,decide_eq_true_eq];exact .inl hm0)|exact a8 (by rw [hsee,Bool.true_and,Bool.eq_iff_iff];simp [hm0];omega)) ?_) ?_
     exact ⟨rfl,hb,hP,hx,fun k hk=>by have:=dt k hk;omega,br,⟨_,ab⟩,aI,aK,bn,bu,bG,bJ,bK⟩
    have BG:=w7;simp only [DZ] at w7;have hm0:¬m=0:=by have:=w7;omega
    refine ai rfl<|ap rfl rfl BG<|ae (fG rfl rfl) rfl<|ap rfl rfl iU<|ae (bj rfl BG rfl) rfl<|ae (bo rfl iU rfl) rfl<|ay<|a7 K5 (eZ en sgs τ&&decide (m=0∨lv≠3)) (by repeat first|exact aC|refine aA rfl (by first|rfl|exact a8 (by rw [hsee];rfl)|exact a8 (by rw [hsee,Bool.true_and,eq_comm,decide_eq_true_eq];exact .inl hm0)|exact a8 (by rw [hsee,Bool.true_and,Bool.eq_iff_iff];simp [hm0];omega)) ?_) ?_
    exact ⟨rfl,hb,hP,hx,fun k hk=>by have:=dt k hk;omega,br,⟨_,ab⟩,aI,aK,bn,bu,bG,bJ,bK⟩
   have iU:=ox;have hsee:eZ en sgs τ=false:=iU;refine az rfl rfl iU rfl rfl<|az rfl rfl iU rfl rfl<|bY rfl rfl rfl<|bY rfl rfl rfl<|az rfl rfl iU rfl rfl<|ae (bj rfl iU rfl) rfl<|ay<|a7 K5 (eZ en sgs τ&&decide (m=0∨lv≠3)) (by repeat first|exact aC|refine aA rfl (by first|rfl|exact a8 (by rw [hsee];rfl)|exact a8 (by rw [hsee,Bool.true_and,eq_comm,decide_eq_true_eq];exact .inl hm0)|exact a8 (by rw [hsee,Bool.true_and,Bool.eq_iff_iff];simp [hm0];omega)) ?_) ?_
   exact ⟨rfl,hb,hP,hx,fun k hk=>by have:=dt k hk;omega,br,⟨_,ab⟩,aI,aK,bn,bu,bG,bJ,bK⟩
  rintro q wr rk;replace rk:q=(eZ en sgs τ&&decide (m=0∨lv≠3))∧Kp p w wr∧RO wr p en g b τ∧aY wr S e x.cells∧(∀k,S k→w.heap.size≤k∧k<wr.heap.size∧k≠dO∧k≠au)∧ak wr dO 28 x.cells∧(∃y_:EC,ak wr au 28 y_.cells)∧ak wr cp 9 (b9 [j6])∧ak wr cK 9 (b9 [jO])∧ak wr eA 9 (b9 [gA])∧ak wr eW 9 (b9 iT)∧ak wr gO 9 (b9 [[43],[45]])∧ak wr gX 9 (b9 [[42]])∧ak wr iz 67 [cQ cp 1,cQ cK 1,cQ eA 1,cQ eW 6,cQ gO 2,cQ gX 1]:=rk;obtain ⟨hq,hb,hP,hx,dt,br,⟨_,ab⟩,aI,aK,bn,bu,bG,bJ,bK⟩:=rk;show Wq _ _ _ _ [(0,bH p),(1,.int .i64 (lv:Int)),(4,.pointer (some ⟨au,0,none⟩)),(5,.slice (some ⟨iz,0,none⟩) 6 6),(9,.pointer (some ⟨dO,0,none⟩)),(10,.int .i64 (m:Int)),(79,.bool q)] _;have ab1:=hb.size;have abo:=br.lt;have abl:=ab.lt;have aa0:=aI.lt;have aa3:=aK.lt;have aa6:=bn.lt;have aa9:=bu.lt;have abc:=bG.lt;have abf:=bJ.lt;have abi:=bK.lt;refine ax m7<|aO rfl (fun Iv=>?_) (fun Iv=>?_)
  ·
   have Iw:=Iv;obtain ⟨hs1,hmz⟩:eZ en sgs τ=true∧(m=0∨lv≠3):=by have h:=hq.symm.trans Iw;simpa using h
   obtain ⟨ts,rfl,hi⟩:=oN hs1;have hl:=kN hi;have hts:m+ts.length≤cE σ:=hle;have hnm:lP (aN en ts).t=ip (aN en ts).t:=Ro lv hlv _ (by rw [←hsgs];exact qi hi) hl2;refine aU<|ax pt<|av fun _ rr=>b4<|am fun xG=>ai rfl<|aD iP rfl rfl (iO p en ts g b (eB hi) _ hP) rfl ?_
   rintro _ sD ⟨⟨rfl,hP⟩,dr⟩;have LJ:=dr.size;have hx:=aY.kp hx dr (fun h_=>by have bh:=dt _ h_;omega);have br:=ak.kp br dr (by omega);have ab:=ak.kp ab dr (by omega);have aI:=ak.kp aI dr (by omega);have aK:=ak.kp aK dr (by omega);have bn:=ak.kp bn dr (by omega);have bu:=ak.kp bu dr (by omega);have bG:=ak.kp bG dr (by omega);have bJ:=ak.kp bJ dr (by omega);have bK:=ak.kp bK dr (by omega);have hb:=hb.trans dr;refine bT (z:=fx) (by kernel_rfl) rfl ?_;rintro EZ Un Qy cv fF;have abP:=fF.size;have hP:=hP.below fF;have hx:=hx.below fF;have br:=br.below fF;have ab:=ab.below fF;have aI:=aI.below fF;have aK:=aK.below fF;have bn:=bn.below fF;have bu:=bu.below fF;have bG:=bG.below fF;have bJ:=bJ.below fF;have bK:=bK.below fF;replace fF:=Below.kp (p:=p) fF;have hb:=hb.trans fF;have aaW:=cv.lt;refine ba (by kernel_rfl) rfl rfl cv rfl rfl ?_;rintro mi cv cF;have zq:=cF.size;have hb:=bp hb cF (by omega);have hP:=RO.over hP cF (by omega);have hx:=aY.kp hx cF (fun h_=>by have bh:=dt _ h_;omega);have br:=br.over cF (by omega);have ab:=ab.over cF (by omega);have aI:=aI.over cF (by omega);have aK:=aK.over cF (by omega);have bn:=bn.over cF (by omega);have bu:=bu.over cF (by omega);have bG:=bG.over cF (by omega);have bJ:=bJ.over cF (by omega);have bK:=bK.over cF (by omega);refine al xG<|am fun KS=>ai rfl<|ai rfl<|ae (bW (ct rfl rfl (by omega) (by omega)) (aH (show _=((lv+1:Nat):Int) by omega))) rfl<|aD zY rfl rfl (h3 _ (.ok () ts.tail) hP (show ts.tail.length<n by omega)) rfl ?_
   rintro _ sB ⟨⟨y,σ2,⟨zy,Sy,rfl,hy,fp⟩,h2,hP⟩,cY⟩;have abN:=cY.size;have hx:=aY.kp hx cY (fun h_=>by have bh:=dt _ h_;omega);have br:=ak.kp br cY (by omega);have ab:=ak.kp ab cY (by omega);have aI:=ak.kp aI cY (by omega);have aK:=ak.kp aK cY (by omega);have bn:=ak.kp bn cY (by omega);have bu:=ak.kp bu cY (by omega);have bG:=ak.kp bG cY (by omega);have bJ:=ak.kp bJ cY (by omega);have bK:=ak.kp bK cY (by omega);have cv:=ak.kp cv cY (by omega);have hb:=hb.trans cY;have hsz2:=rJ h2 (yo hT);refine bT (z:=fy) (by kernel_rfl) rfl ?_;rintro Jl agQ aaT cW f5;have abQ:=f5.size;have hP:=hP.below f5;have hx:=hx.below f5;have br:=br.below f5;have ab:=ab.below f5;have aI:=aI.below f5;have aK:=aK.below f5;have bn:=bn.below f5;have bu:=bu.below f5;have bG:=bG.below f5;have bJ:=bJ.below f5;have bK:=bK.below f5;have cv:=cv.below f5;have hy:=hy.below f5;replace f5:=Below.kp (p:=p) f5;have hb:=hb.trans f5;have aaX:=cW.lt;refine ba (by kernel_rfl) rfl rfl cW rfl rfl ?_;rintro rO cW dw;have LM:=dw.size;have hb:=bp hb dw (by omega);have hP:=RO.over hP dw (by omega);have hx:=aY.kp hx dw (fun h_=>by have bh:=dt _ h_;omega);have br:=br.over dw (by omega);have ab:=ab.over dw (by omega);have aI:=aI.over dw (by omega);have aK:=aK.over dw (by omega);have bn:=bn.over dw (by omega);have bu:=bu.over dw (by omega);have bG:=bG.over dw (by omega);have bJ:=bJ.over dw (by omega)
   have bK:=bK.over dw (by omega);have cv:=cv.over dw (by omega);have hy:=aY.kp hy dw (fun h_=>by have bh:=fp _ h_;omega);refine al KS<|jg (n:=8) (fun w'=>Kp p w w'∧RO w' p en g b σ2∧aY w' S e x.cells∧aY w' Sy y zy.cells∧(∃AL,ak w' dO 28 AL)∧ak w' Jl 28 zy.cells∧ak w' EZ 74 [.int .i64 ((aN en ts).k:Int),str (aN en ts).t,.int .i64 ((aN en ts).a:Int)]∧(∃y_:EC,ak w' au 28 y_.cells)∧ak w' cp 9 (b9 [j6])∧ak w' cK 9 (b9 [jO])∧ak w' eA 9 (b9 [gA])∧ak w' eW 9 (b9 iT)∧ak w' gO 9 (b9 [[43],[45]])∧ak w' gX 9 (b9 [[42]])∧ak w' iz 67 [cQ cp 1,cQ cK 1,cQ eA 1,cQ eW 6,cQ gO 2,cQ gX 1]) #[aj,aj,aj,aj,aj,aj,aj,aj] (by kernel_rfl) rfl (by kernel_rfl)<|jf ?_
   rintro agD fK;have abL:=fK.size;have hP:=hP.below fK;have hx:=hx.below fK;have br:=br.below fK;have ab:=ab.below fK;have aI:=aI.below fK;have aK:=aK.below fK;have bn:=bn.below fK;have bu:=bu.below fK;have bG:=bG.below fK;have bJ:=bJ.below fK;have bK:=bK.below fK;have cv:=cv.below fK;have hy:=hy.below fK;have cW:=cW.below fK;replace fK:=Below.kp (p:=p) fK;have hb:=hb.trans fK;refine bC (i:=0) #[ah,aj,aj,aj,aj,aj,aj,aj] rfl (by kernel_rfl) bF rfl (fun wq hq=>bU (aP (l5 _) rfl)) ⟨hb,hP,hx,hy,⟨_,br⟩,cW,cv,⟨_,ab⟩,aI,aK,bn,bu,bG,bJ,bK⟩<|bC (i:=1) #[ah,ah,aj,aj,aj,aj,aj,aj] rfl (by kernel_rfl) bF rfl (fun wq hq=>aS di rfl (by obtain ⟨hq,hP,hx,hy,⟨_,br⟩,cW,cv,⟨_,ab⟩,aI,aK,bn,bu,bG,bJ,bK⟩:=hq;exact cv.at (j:=1) rfl)) ⟨hb,hP,hx,hy,⟨_,br⟩,cW,cv,⟨_,ab⟩,aI,aK,bn,bu,bG,bJ,bK⟩<|bC (i:=4) #[ah,ah,aj,aj,ah,aj,aj,aj] rfl (by kernel_rfl) bF rfl (fun wq hq=>cr b5 (by kernel_rfl) rfl (by obtain ⟨hq,hP,hx,hy,⟨_,br⟩,cW,cv,⟨_,ab⟩,aI,aK,bn,bu,bG,bJ,bK⟩:=hq;exact fun j u hu=>cW.at hu)) ⟨hb,hP,hx,hy,⟨_,br⟩,cW,cv,⟨_,ab⟩,aI,aK,bn,bu,bG,bJ,bK⟩<|cM (rs:= [2,3]) (by kernel_rfl) rfl<|cO #[ah,ah,ah,aj,ah,aj,aj,aj] rfl rfl (fun _ oA=>?_) ?_
   ·
    refine aD zZ rfl rfl (zM (aN en ts).t _) rfl ?_;rintro _ oQ ⟨rfl,bE⟩;have CP:=bE.size;have hP:=RO.below hP bE;have hx:=aY.below hx bE;have br:=ak.below br bE;have ab:=ak.below ab bE;have aI:=ak.below aI bE;have aK:=ak.below aK bE;have bn:=ak.below bn bE;have bu:=ak.below bu bE;have bG:=ak.below bG bE;have bJ:=ak.below bJ bE;have bK:=ak.below bK bE;have cv:=ak.below cv bE;have hy:=aY.below hy bE;have cW:=ak.below cW bE;replace bE:=Below.kp (p:=p) bE;have hb:=hb.trans bE;refine ay<|cN oA ⟨hb,hP,hx,hy,⟨_,br⟩,cW,cv,⟨_,ab⟩,aI,aK,bn,bu,bG,bJ,bK⟩<|cM (rs:= [3]) (by kernel_rfl) rfl<|cO #[ah,ah,ah,ah,ah,aj,aj,aj] rfl rfl (fun _ zb=>?_) ?_
    ·
     refine aG (cr b5 (by kernel_rfl) rfl (by exact fun j u hu=>br.at hu)) rfl<|ay<|cN zb ⟨hb,hP,hx,hy,⟨_,br⟩,cW,cv,⟨_,ab⟩,aI,aK,bn,bu,bG,bJ,bK⟩<|cM (rs:= [5]) (by kernel_rfl) rfl<|cO #[ah,ah,ah,ah,ah,ah,aj,aj] rfl rfl (fun _ B1=>?_) ?_
     ·
      refine cz (sz:=7) (vs:= [_,_]) j5 (by kernel_rfl) rfl rfl rfl rfl rfl rfl ?_;rintro my DR CE ft cl;have CO:=cl.size;have hP:=hP.below cl;have hx:=hx.below cl;have br:=br.below cl;have ab:=ab.below cl;have aI:=aI.below cl;have aK:=aK.below cl;have bn:=bn.below cl;have bu:=bu.below cl;have bG:=bG.below cl;have bJ:=bJ.below cl;have bK:=bK.below cl;have cv:=cv.below cl;have hy:=hy.below cl;have cW:=cW.below cl;replace cl:=Below.kp (p:=p) cl;have hb:=hb.trans cl;have CI:=ft.lt;refine ay<|cN B1 ⟨hb,hP,hx,hy,⟨_,br⟩,cW,cv,⟨_,ab⟩,aI,aK,bn,bu,bG,bJ,bK⟩<|bC (i:=6) #[ah,ah,ah,ah,ah,ah,ah,aj] rfl (by kernel_rfl) bF rfl (fun wq hq=>bU (cC (z:=gd) (pl:=gf) (cs:= [_,_,_,_,_,_,_]) b5 (by kernel_rfl) (by kernel_rfl) rfl rfl rfl)) ⟨hb,hP,hx,hy,⟨_,br⟩,cW,cv,⟨_,ab⟩,aI,aK,bn,bu,bG,bJ,bK⟩<|cM (rs:= [7]) (by kernel_rfl) rfl<|cO #[ah,ah,ah,ah,ah,ah,ah,ah] rfl rfl (fun _ rl=>?_) ?_
      ·
       refine ba (by kernel_rfl) rfl rfl br rfl rfl ?_;rintro oj br bO;have sn:=bO.size;have hb:=bp hb bO (by omega);have hP:=RO.over hP bO (by omega);have hx:=aY.kp hx bO (fun h_=>by have bh:=dt _ h_;omega);have ab:=ab.over bO (by omega);have aI:=aI.over bO (by omega);have aK:=aK.over bO (by omega);have bn:=bn.over bO (by omega);have bu:=bu.over bO (by omega);have bG:=bG.over bO (by omega);have bJ:=bJ.over bO (by omega);have bK:=bK.over bO (by omega);have cv:=cv.over bO (by omega);have hy:=aY.kp hy bO (fun h_=>by have bh:=fp _ h_;omega);have cW:=cW.over bO (by omega);have ft:=ft.over bO (by omega);refine ay<|cN rl ⟨hb,hP,hx,hy,⟨_,br⟩,cW,cv,⟨_,ab⟩,aI,aK,bn,bu,bG,bJ,bK⟩<|fB (by kernel_rfl)<|cD<|ax rr<|aQ<|ai rfl<|ae (ct rfl rfl (by omega) (by omega)) rfl<|an rfl<|ay<|fun a_ bM=>KZ _ _ (⟨⟨3,lP (aN en ts).t,ch,some ⟨my,0,none⟩,2,2⟩,fun k=>(S k∨Sy k)∨k=my,hZ (aN en ts).t e y,σ2,m+1⟩) (by show cE σ2<ts.length;have h4:cE (.ok () ts.tail)=ts.tail.length:=rfl;omega) (by repeat first|exact aC|refine aA rfl (by first|rfl|exact aH (by omega)) ?_) ?_ a_ bM
       exact ⟨by rw [hF];show W m e ts=_;rw [hgo m e ts hi hmz];exact ij h2 _,by have h4:cE (.ok () ts.tail)=ts.tail.length:=rfl;have h5:cE (.ok () ts)=ts.length:=rfl;omega,hb,hP,by rw [show hZ (aN en ts).t e y= .mk 3 (lP (aN en ts).t) ch [e,y] by rw [hnm];rfl];exact aY.node (kids:= [e,y]) rfl (ft.rd 2 7 rfl) (.inr rfl) ((tX (hx.mono fun _ h=> .inl h) (hy.mono fun _ h=> .inr h)).mono fun _ h=> .inl h),fun k hk=>by rcases hk with (h|h)|h;(· have:=dt k h;omega);(· have:=fp k h;omega);(· have:=ft.lt;omega),br,⟨_,ab⟩,aI,aK,bn,bu,bG,bJ,bK⟩
      exact cP
     exact cP
    exact cP
   refine cO #[ah,ah,aj,ah,ah,aj,aj,aj] rfl rfl (fun _ tq=>?_) ?_
   ·
    refine aG (cr b5 (by kernel_rfl) rfl (by exact fun j u hu=>br.at hu)) rfl<|ay<|cN tq ⟨hb,hP,hx,hy,⟨_,br⟩,cW,cv,⟨_,ab⟩,aI,aK,bn,bu,bG,bJ,bK⟩<|cM (rs:= [2,5]) (by kernel_rfl) rfl<|cO #[ah,ah,ah,ah,ah,aj,aj,aj] rfl rfl (fun _ xA=>?_) ?_
    ·
     refine aD zZ rfl rfl (zM (aN en ts).t _) rfl ?_;rintro _ oQ ⟨rfl,bE⟩;have CP:=bE.size;have hP:=RO.below hP bE;have hx:=aY.below hx bE;have br:=ak.below br bE;have ab:=ak.below ab bE;have aI:=ak.below aI bE;have aK:=ak.below aK bE;have bn:=ak.below bn bE;have bu:=ak.below bu bE;have bG:=ak.below bG bE;have bJ:=ak.below bJ bE;have bK:=ak.below bK bE;have cv:=ak.below cv bE;have hy:=aY.below hy bE;have cW:=ak.below cW bE;replace bE:=Below.kp (p:=p) bE;have hb:=hb.trans bE;refine ay<|cN xA ⟨hb,hP,hx,hy,⟨_,br⟩,cW,cv,⟨_,ab⟩,aI,aK,bn,bu,bG,bJ,bK⟩<|cM (rs:= [5]) (by kernel_rfl) rfl<|cO #[ah,ah,ah,ah,ah,ah,aj,aj] rfl rfl (fun _ tr=>?_) ?_
     ·
      refine cz (sz:=7) (vs:= [_,_]) j5 (by kernel_rfl) rfl rfl rfl rfl rfl rfl ?_;rintro my DR CE ft cl;have CO:=cl.size;have hP:=hP.below cl;have hx:=hx.below cl;have br:=br.below cl;have ab:=ab.below cl;have aI:=aI.below cl;have aK:=aK.below cl;have bn:=bn.below cl;have bu:=bu.below cl;have bG:=bG.below cl;have bJ:=bJ.below cl;have bK:=bK.below cl;have cv:=cv.below cl;have hy:=hy.below cl;have cW:=cW.below cl;replace cl:=Below.kp (p:=p) cl;have hb:=hb.trans cl;have CI:=ft.lt;refine ay<|cN tr ⟨hb,hP,hx,hy,⟨_,br⟩,cW,cv,⟨_,ab⟩,aI,aK,bn,bu,bG,bJ,bK⟩<|bC (i:=6) #[ah,ah,ah,ah,ah,ah,ah,aj] rfl (by kernel_rfl) bF rfl (fun wq hq=>bU (cC (z:=gd) (pl:=gf) (cs:= [_,_,_,_,_,_,_]) b5 (by kernel_rfl) (by kernel_rfl) rfl rfl rfl)) ⟨hb,hP,hx,hy,⟨_,br⟩,cW,cv,⟨_,ab⟩,aI,aK,bn,bu,bG,bJ,bK⟩<|cM (rs:= [7]) (by kernel_rfl) rfl<|cO #[ah,ah,ah,ah,ah,ah,ah,ah] rfl rfl (fun _ B5=>?_) ?_
      ·
       refine ba (by kernel_rfl) rfl rfl br rfl rfl ?_;rintro oj br bO;have sn:=bO.size;have hb:=bp hb bO (by omega);have hP:=RO.over hP bO (by omega);have hx:=aY.kp hx bO (fun h_=>by have bh:=dt _ h_;omega);have ab:=ab.over bO (by omega);have aI:=aI.over bO (by omega);have aK:=aK.over bO (by omega);have bn:=bn.over bO (by omega);have bu:=bu.over bO (by omega);have bG:=bG.over bO (by omega);have bJ:=bJ.over bO (by omega);have bK:=bK.over bO (by omega);have cv:=cv.over bO (by omega);have hy:=aY.kp hy bO (fun h_=>by have bh:=fp _ h_;omega);have cW:=cW.over bO (by omega);have ft:=ft.over bO (by omega);refine ay<|cN B5 ⟨hb,hP,hx,hy,⟨_,br⟩,cW,cv,⟨_,ab⟩,aI,aK,bn,bu,bG,bJ,bK⟩<|fB (by kernel_rfl)<|cD<|ax rr<|aQ<|ai rfl<|ae (ct rfl rfl (by omega) (by omega)) rfl<|an rfl<|ay<|fun a_ bM=>KZ _ _ (⟨⟨3,lP (aN en ts).t,ch,some ⟨my,0,none⟩,2,2⟩,fun k=>(S k∨Sy k)∨k=my,hZ (aN en ts).t e y,σ2,m+1⟩) (by show cE σ2<ts.length;have h4:cE (.ok () ts.tail)=ts.tail.length:=rfl;omega) (by repeat first|exact aC|refine aA rfl (by first|rfl|exact aH (by omega)) ?_) ?_ a_ bM
       exact ⟨by rw [hF];show W m e ts=_;rw [hgo m e ts hi hmz];exact ij h2 _,by have h4:cE (.ok () ts.tail)=ts.tail.length:=rfl;have h5:cE (.ok () ts)=ts.length:=rfl;omega,hb,hP,by rw [show hZ (aN en ts).t e y= .mk 3 (lP (aN en ts).t) ch [e,y] by rw [hnm];rfl];exact aY.node (kids:= [e,y]) rfl (ft.rd 2 7 rfl) (.inr rfl) ((tX (hx.mono fun _ h=> .inl h) (hy.mono fun _ h=> .inr h)).mono fun _ h=> .inl h),fun k hk=>by rcases hk with (h|h)|h;(· have:=dt k h;omega);(· have:=fp k h;omega);(· have:=ft.lt;omega),br,⟨_,ab⟩,aI,aK,bn,bu,bG,bJ,bK⟩
      exact cP
     exact cP
    refine cO #[ah,ah,aj,ah,ah,ah,aj,aj] rfl rfl (fun _ B8=>?_) ?_
    ·
     refine cz (sz:=7) (vs:= [_,_]) j5 (by kernel_rfl) rfl rfl rfl rfl rfl rfl ?_;rintro my DR CE ft cl;have CO:=cl.size;have hP:=hP.below cl;have hx:=hx.below cl;have br:=br.below cl;have ab:=ab.below cl;have aI:=aI.below cl;have aK:=aK.below cl;have bn:=bn.below cl;have bu:=bu.below cl;have bG:=bG.below cl;have bJ:=bJ.below cl;have bK:=bK.below cl;have cv:=cv.below cl;have hy:=hy.below cl;have cW:=cW.below cl;replace cl:=Below.kp (p:=p) cl;have hb:=hb.trans cl;have CI:=ft.lt;refine ay<|cN B8 ⟨hb,hP,hx,hy,⟨_,br⟩,cW,cv,⟨_,ab⟩,aI,aK,bn,bu,bG,bJ,bK⟩<|cM (rs:= [2]) (by kernel_rfl) rfl<|cO #[ah,ah,ah,ah,ah,ah,aj,aj] rfl rfl (fun _ B9=>?_) ?_
     ·
      refine aD zZ rfl rfl (zM (aN en ts).t _) rfl ?_;rintro _ oQ ⟨rfl,bE⟩;have CP:=bE.size;have hP:=RO.below hP bE;have hx:=aY.below hx bE;have br:=ak.below br bE;have ab:=ak.below ab bE;have aI:=ak.below aI bE;have aK:=ak.below aK bE;have bn:=ak.below bn bE;have bu:=ak.below bu bE;have bG:=ak.below bG bE;have bJ:=ak.below bJ bE;have bK:=ak.below bK bE;have cv:=ak.below cv bE;have hy:=aY.below hy bE;have cW:=ak.below cW bE;have ft:=ak.below ft bE;replace bE:=Below.kp (p:=p) bE;have hb:=hb.trans bE;refine ay<|cN B9 ⟨hb,hP,hx,hy,⟨_,br⟩,cW,cv,⟨_,ab⟩,aI,aK,bn,bu,bG,bJ,bK⟩<|bC (i:=6) #[ah,ah,ah,ah,ah,ah,ah,aj] rfl (by kernel_rfl) bF rfl (fun wq hq=>bU (cC (z:=gd) (pl:=gf) (cs:= [_,_,_,_,_,_,_]) b5 (by kernel_rfl) (by kernel_rfl) rfl rfl rfl)) ⟨hb,hP,hx,hy,⟨_,br⟩,cW,cv,⟨_,ab⟩,aI,aK,bn,bu,bG,bJ,bK⟩<|cM (rs:= [7]) (by kernel_rfl) rfl<|cO #[ah,ah,ah,ah,ah,ah,ah,ah] rfl rfl (fun _ Kw=>?_) ?_
      ·
       refine ba (by kernel_rfl) rfl rfl br rfl rfl ?_;rintro oj br bO;have sn:=bO.size;have hb:=bp hb bO (by omega);have hP:=RO.over hP bO (by omega);have hx:=aY.kp hx bO (fun h_=>by have bh:=dt _ h_;omega);have ab:=ab.over bO (by omega);have aI:=aI.over bO (by omega);have aK:=aK.over bO (by omega);have bn:=bn.over bO (by omega);have bu:=bu.over bO (by omega);have bG:=bG.over bO (by omega);have bJ:=bJ.over bO (by omega);have bK:=bK.over bO (by omega);have cv:=cv.over bO (by omega);have hy:=aY.kp hy bO (fun h_=>by have bh:=fp _ h_;omega);have cW:=cW.over bO (by omega);have ft:=ft.over bO (by omega);refine ay<|cN Kw ⟨hb,hP,hx,hy,⟨_,br⟩,cW,cv,⟨_,ab⟩,aI,aK,bn,bu,bG,bJ,bK⟩<|fB (by kernel_rfl)<|cD<|ax rr<|aQ<|ai rfl<|ae (ct rfl rfl (by omega) (by omega)) rfl<|an rfl<|ay<|fun a_ bM=>KZ _ _ (⟨⟨3,lP (aN en ts).t,ch,some ⟨my,0,none⟩,2,2⟩,fun k=>(S k∨Sy k)∨k=my,hZ (aN en ts).t e y,σ2,m+1⟩) (by show cE σ2<ts.length;have h4:cE (.ok () ts.tail)=ts.tail.length:=rfl;omega) (by repeat first|exact aC|refine aA rfl (by first|rfl|exact aH (by omega)) ?_) ?_ a_ bM
       exact ⟨by rw [hF];show W m e ts=_;rw [hgo m e ts hi hmz];exact ij h2 _,by have h4:cE (.ok () ts.tail)=ts.tail.length:=rfl;have h5:cE (.ok () ts)=ts.length:=rfl;omega,hb,hP,by rw [show hZ (aN en ts).t e y= .mk 3 (lP (aN en ts).t) ch [e,y] by rw [hnm];rfl];exact aY.node (kids:= [e,y]) rfl (ft.rd 2 7 rfl) (.inr rfl) ((tX (hx.mono fun _ h=> .inl h) (hy.mono fun _ h=> .inr h)).mono fun _ h=> .inl h),fun k hk=>by rcases hk with (h|h)|h;(· have:=dt k h;omega);(· have:=fp k h;omega);(· have:=ft.lt;omega),br,⟨_,ab⟩,aI,aK,bn,bu,bG,bJ,bK⟩
      exact cP
     exact cP
    exact cP
   exact cP
  have Iw:=Iv;have hend1:=hend m e τ (hq.symm.trans Iw);refine d2<|cj<|cj<|d3<|ax nQ<|am fun Ca=>?_
  refine aG (cr b5 (by kernel_rfl) rfl (by exact fun j u hu=>br.at hu)) rfl ?_;refine ba (by kernel_rfl) rfl rfl ab rfl rfl ?_;rintro DS ab gJ;have abU:=gJ.size;have hb:=bp hb gJ (by omega);have hP:=RO.over hP gJ (by omega);have hx:=aY.kp hx gJ (fun h_=>by have bh:=dt _ h_;omega);refine al Ca<|aJ<|bQ (rs:= [.cell 4 28]) (vs:= [_]) rfl (.cell rfl (bP b5 (by kernel_rfl) (fun j u hu=>ab.at hu)) .nil) ?_
  exact ⟨_,rfl,⟨e,τ,⟨x,S,rfl,hx,fun k hk=>by have:=dt k hk;omega⟩,by rw [hF];exact hend1,hP⟩,hb⟩
 have Bv:=nJ
 simp only [DZ] at nJ
 have hl3:lv≠3:=by have:=nJ;omega
 have hW:bR σ P=bR σ1 (W 0 x):=by
  rw [show P=_ from funext hPE,ij h1]
  congr 1;funext r;rw [if_neg (fun h=>hl3 h.1)]
 refine az rfl rfl Bv rfl rfl<|ae (bj rfl Bv rfl) rfl<|al k9<|cR (X:=Unit) (fun ()=> [(0,bH p),(1,.int .i64 (lv:Int)),(4,.pointer (some ⟨au,0,none⟩)),(5,.slice (some ⟨iz,0,none⟩) 6 6),(9,.pointer (some ⟨dO,0,none⟩))]) (fun () wr=>bR σ P=bR σ1 (W 0 x)∧Kp p w wr∧RO wr p en g b σ1∧aY wr Sz x z.cells∧(∀k,Sz k→w.heap.size≤k∧k<wr.heap.size∧k≠dO∧k≠au)∧ak wr dO 28 z.cells∧(∃y_:EC,ak wr au 28 y_.cells)∧ak wr cp 9 (b9 [j6])∧ak wr cK 9 (b9 [jO])∧ak wr eA 9 (b9 [gA])∧ak wr eW 9 (b9 iT)∧ak wr gO 9 (b9 [[43],[45]])∧ak wr gX 9 (b9 [[42]])∧ak wr iz 67 [cQ cp 1,cQ cK 1,cQ eA 1,cQ eW 6,cQ gO 2,cQ gX 1]) (fun _ aaE=>?_) ?_
 ·
  refine oU rfl rfl<|aU<|a7 aaE (()) (by repeat first|exact aC|refine aA rfl (by first|rfl|exact aH (by omega)) ?_) ?_
  exact ⟨hW,hb,hP,hz,fun k hk=>by have:=aT k hk;omega,br,⟨dE,ab⟩,aI,aK,bn,bu,bG,bJ,bK⟩
 rintro ⟨⟩ wr JA
 replace JA:bR σ P=bR σ1 (W 0 x)∧Kp p w wr∧RO wr p en g b σ1∧aY wr Sz x z.cells∧(∀k,Sz k→w.heap.size≤k∧k<wr.heap.size∧k≠dO∧k≠au)∧ak wr dO 28 z.cells∧(∃y_:EC,ak wr au 28 y_.cells)∧ak wr cp 9 (b9 [j6])∧ak wr cK 9 (b9 [jO])∧ak wr eA 9 (b9 [gA])∧ak wr eW 9 (b9 iT)∧ak wr gO 9 (b9 [[43],[45]])∧ak wr gX 9 (b9 [[42]])∧ak wr iz 67 [cQ cp 1,cQ cK 1,cQ eA 1,cQ eW 6,cQ gO 2,cQ gX 1]:=JA
 obtain ⟨hW,hb,hP,hz,aT,br,⟨_,ab⟩,aI,aK,bn,bu,bG,bJ,bK⟩:=JA
 show Wq _ _ _ _ [(0,bH p),(1,.int .i64 (lv:Int)),(4,.pointer (some ⟨au,0,none⟩)),(5,.slice (some ⟨iz,0,none⟩) 6 6),(9,.pointer (some ⟨dO,0,none⟩))] _
 have ab0:=hb.size
 have abn:=br.lt
 have abk:=ab.lt
 have aaZ:=aI.lt
 have aa2:=aK.lt
 have aa5:=bn.lt
 have aa8:=bu.lt
 have abb:=bG.lt
 have abe:=bJ.lt
 have abh:=bK.lt
 refine ax kj<|av fun _ Ky=>am fun Kz=>an rfl<|al Kz<|b4<|d9 (X:=EC×(Nat→Prop)×b6×Sg×Nat) (fun (x,S,e,τ,m)=> [(0,bH p),(1,.int .i64 (lv:Int)),(4,.pointer (some ⟨au,0,none⟩)),(5,.slice (some ⟨iz,0,none⟩) 6 6),(9,.pointer (some ⟨dO,0,none⟩)),(10,.int .i64 (m:Int))]) (fun (x,S,e,τ,m) wr=>bR σ P=bR τ (W m e)∧m+cE τ≤cE σ∧Kp p w wr∧RO wr p en g b τ∧aY wr S e x.cells∧(∀k,S k→w.heap.size≤k∧k<wr.heap.size∧k≠dO∧k≠au)∧ak wr dO 28 x.cells∧(∃y_:EC,ak wr au 28 y_.cells)∧ak wr cp 9 (b9 [j6])∧ak wr cK 9 (b9 [jO])∧ak wr eA 9 (b9 [gA])∧ak wr eW 9 (b9 iT)∧ak wr gO 9 (b9 [[43],[45]])∧ak wr gX 9 (b9 [[42]])∧ak wr iz 67 [cQ cp 1,cQ cK 1,cQ eA 1,cQ eW 6,cQ gO 2,cQ gX 1]) (fun (x,S,e,τ,m)=>cE τ) (⟨z,Sz,x,σ1,0⟩) ?_ ?_ ?_
 · exact by repeat first|exact aC|refine aA rfl (by first|rfl|exact aH (by omega)) ?_
 · exact ⟨hW,by omega,hb,hP,hz,fun k hk=>by have:=aT k hk;omega,br,⟨_,ab⟩,aI,aK,bn,bu,bG,bJ,bK⟩
 rintro ⟨x,S,e,τ,m⟩ wr JD _ KU
 replace JD:bR σ P=bR τ (W m e)∧m+cE τ≤cE σ∧Kp p w wr∧RO wr p en g b τ∧aY wr S e x.cells∧(∀k,S k→w.heap.size≤k∧k<wr.heap.size∧k≠dO∧k≠au)∧ak wr dO 28 x.cells∧(∃y_:EC,ak wr au 28 y_.cells)∧ak wr cp 9 (b9 [j6])∧ak wr cK 9 (b9 [jO])∧ak wr eA 9 (b9 [gA])∧ak wr eW 9 (b9 iT)∧ak wr gO 9 (b9 [[43],[45]])∧ak wr gX 9 (b9 [[42]])∧ak wr iz 67 [cQ cp 1,cQ cK 1,cQ eA 1,cQ eW 6,cQ gO 2,cQ gX 1]:=JD
 obtain ⟨hF,hle,hb,hP,hx,dt,br,⟨_,ab⟩,aI,aK,bn,bu,bG,bJ,bK⟩:=JD
 show Wc _ _ _ _ _ [(0,bH p),(1,.int .i64 (lv:Int)),(4,.pointer (some ⟨au,0,none⟩)),(5,.slice (some ⟨iz,0,none⟩) 6 6),(9,.pointer (some ⟨dO,0,none⟩)),(10,.int .i64 (m:Int))] _
 have abY:=hb.size
 have abm:=br.lt
 have abj:=ab.lt
 have aaY:=aI.lt
 have aa1:=aK.lt
 have aa4:=bn.lt
 have aa7:=bu.lt
 have aba:=bG.lt
 have abd:=bJ.lt
 have abg:=bK.lt
 refine av fun _ Cc=>av fun _ ZB=>?_
 obtain ⟨g',hrow,hRs⟩:=SR aI aK bn bu bG bJ hlv
 rw [←hsgs] at hrow hRs
 refine cR (X:=Bool) (fun q=> [(0,bH p),(1,.int .i64 (lv:Int)),(4,.pointer (some ⟨au,0,none⟩)),(5,.slice (some ⟨iz,0,none⟩) 6 6),(9,.pointer (some ⟨dO,0,none⟩)),(10,.int .i64 (m:Int)),(79,.bool q)]) (fun q wr=>q=(eZ en sgs τ&&decide (m=0∨lv≠3))∧Kp p w wr∧RO wr p en g b τ∧aY wr S e x.cells∧(∀k,S k→w.heap.size≤k∧k<wr.heap.size∧k≠dO∧k≠au)∧ak wr dO 28 x.cells∧(∃y_:EC,ak wr au 28 y_.cells)∧ak wr cp 9 (b9 [j6])∧ak wr cK 9 (b9 [jO])∧ak wr eA 9 (b9 [gA])∧ak wr eW 9 (b9 iT)∧ak wr gO 9 (b9 [[43],[45]])∧ak wr gX 9 (b9 [[42]])∧ak wr iz 67 [cQ cp 1,cQ cK 1,cQ eA 1,cQ eW 6,cQ gO 2,cQ gX 1]) (fun _ zh=>?_) ?_
 ·
  refine aQ<|ai rfl<|ai rfl<|ai rfl<|ae (f8 Dy S4 rfl rfl (by omega) (by omega)) rfl<|aG (aS C8 rfl (by exact by rw [Int.toNat_natCast,Nat.mul_one];exact bK.at hrow)) rfl<|aD z7 rfl rfl (zN p en g b τ _ _ sgs (by omega) _ hP hRs) rfl ?_
  rintro _ qw ⟨rfl,cL⟩;have LI:=cL.size;have hP:=RO.below hP cL;have hx:=aY.below hx cL;have br:=ak.below br cL;have ab:=ak.below ab cL;have aI:=ak.below aI cL;have aK:=ak.below aK cL;have bn:=ak.below bn cL;have bu:=ak.below bu cL;have bG:=ak.below bG cL;have bJ:=ak.below bJ cL;have bK:=ak.below bK cL;replace cL:=Below.kp (p:=p) cL;have hb:=hb.trans cL;refine ai rfl<|cG rfl rfl rfl (fun I9=>?_) (fun I9=>?_)
  ·
   have o8:=I9;have hsee:eZ en sgs τ=true:=o8;refine ai rfl<|ap rfl rfl o8<|ae (bX rfl rfl) rfl<|ap rfl rfl o8<|ai rfl<|dy rfl rfl rfl (fun wU=>?_) (fun wU=>?_)
   ·
    have Bg:=wU;simp only [DZ] at wU;have hm0:m=0:=by have:=wU;omega
    refine az rfl rfl Bg rfl rfl<|ap rfl rfl o8<|ae (bo rfl Bg rfl) rfl<|ae (bo rfl o8 rfl) rfl<|ay<|a7 zh (eZ en sgs τ&&decide (m=0∨lv≠3)) (by repeat first|exact aC|refine aA rfl (by first|rfl|exact a8 (by rw [hsee];rfl)|exact a8 (by rw [hsee,Bool.true_and,eq_comm,decide_eq_true_eq];exact .inl hm0)|exact a8 (by rw [hsee,Bool.true_and,Bool.eq_iff_iff];simp [hm0];omega)) ?_) ?_
    exact ⟨rfl,hb,hP,hx,fun k hk=>by have:=dt k hk;omega,br,⟨_,ab⟩,aI,aK,bn,bu,bG,bJ,bK⟩
   have Bg:=wU;simp only [DZ] at wU;have hm0:¬m=0:=by have:=wU;omega
   refine ai rfl<|ap rfl rfl Bg<|ae (fG rfl rfl) rfl<|ap rfl rfl o8<|ae (bj rfl Bg rfl) rfl<|ae (bo rfl o8 rfl) rfl<|ay<|a7 zh (eZ en sgs τ&&decide (m=0∨lv≠3)) (by repeat first|exact aC|refine aA rfl (by first|rfl|exact a8 (by rw [hsee];rfl)|exact a8 (by rw [hsee,Bool.true_and,eq_comm,decide_eq_true_eq];exact .inl hm0)|exact a8 (by rw [hsee,Bool.true_and,Bool.eq_iff_iff];simp [hm0];omega)) ?_) ?_
   exact ⟨rfl,hb,hP,hx,fun k hk=>by have:=dt k hk;omega,br,⟨_,ab⟩,aI,aK,bn,bu,bG,bJ,bK⟩
  have o8:=I9;have hsee:eZ en sgs τ=false:=o8;refine az rfl rfl o8 rfl rfl<|az rfl rfl o8 rfl rfl<|bY rfl rfl rfl<|bY rfl rfl rfl<|az rfl rfl o8 rfl rfl<|ae (bj rfl o8 rfl) rfl<|ay<|a7 zh (eZ en sgs τ&&decide (m=0∨lv≠3)) (by repeat first|exact aC|refine aA rfl (by first|rfl|exact a8 (by rw [hsee];rfl)|exact a8 (by rw [hsee,Bool.true_and,eq_comm,decide_eq_true_eq];exact .inl hm0)|exact a8 (by rw [hsee,Bool.true_and,Bool.eq_iff_iff];simp [hm0];omega)) ?_) ?_
  exact ⟨rfl,hb,hP,hx,fun k hk=>by have:=dt k hk;omega,br,⟨_,ab⟩,aI,aK,bn,bu,bG,bJ,bK⟩
 rintro q wr JJ
 replace JJ:q=(eZ en sgs τ&&decide (m=0∨lv≠3))∧Kp p w wr∧RO wr p en g b τ∧aY wr S e x.cells∧(∀k,S k→w.heap.size≤k∧k<wr.heap.size∧k≠dO∧k≠au)∧ak wr dO 28 x.cells∧(∃y_:EC,ak wr au 28 y_.cells)∧ak wr cp 9 (b9 [j6])∧ak wr cK 9 (b9 [jO])∧ak wr eA 9 (b9 [gA])∧ak wr eW 9 (b9 iT)∧ak wr gO 9 (b9 [[43],[45]])∧ak wr gX 9 (b9 [[42]])∧ak wr iz 67 [cQ cp 1,cQ cK 1,cQ eA 1,cQ eW 6,cQ gO 2,cQ gX 1]:=JJ
 obtain ⟨hq,hb,hP,hx,dt,br,⟨_,ab⟩,aI,aK,bn,bu,bG,bJ,bK⟩:=JJ
 show Wq _ _ _ _ [(0,bH p),(1,.int .i64 (lv:Int)),(4,.pointer (some ⟨au,0,none⟩)),(5,.slice (some ⟨iz,0,none⟩) 6 6),(9,.pointer (some ⟨dO,0,none⟩)),(10,.int .i64 (m:Int)),(79,.bool q)] _
 have ab1:=hb.size
 have abo:=br.lt
 have abl:=ab.lt
 have aa0:=aI.lt
 have aa3:=aK.lt
 have aa6:=bn.lt
 have aa9:=bu.lt
 have abc:=bG.lt
 have abf:=bJ.lt
 have abi:=bK.lt
 refine ax ZB<|aO rfl (fun Iq=>?_) (fun Iq=>?_)
 ·
  have Ir:=Iq;obtain ⟨hs1,hmz⟩:eZ en sgs τ=true∧(m=0∨lv≠3):=by have h:=hq.symm.trans Ir;simpa using h
  obtain ⟨ts,rfl,hi⟩:=oN hs1;have hl:=kN hi;have hts:m+ts.length≤cE σ:=hle;have hnm:lP (aN en ts).t=ip (aN en ts).t:=Ro lv hlv _ (by rw [←hsgs];exact qi hi) hl2;refine aU<|ax Cc<|av fun _ Ci=>b4<|am fun Cj=>ai rfl<|aD iP rfl rfl (iO p en ts g b (eB hi) _ hP) rfl ?_
  rintro _ sD ⟨⟨rfl,hP⟩,dr⟩;have LJ:=dr.size;have hx:=aY.kp hx dr (fun h_=>by have bh:=dt _ h_;omega);have br:=ak.kp br dr (by omega);have ab:=ak.kp ab dr (by omega);have aI:=ak.kp aI dr (by omega);have aK:=ak.kp aK dr (by omega);have bn:=ak.kp bn dr (by omega);have bu:=ak.kp bu dr (by omega);have bG:=ak.kp bG dr (by omega);have bJ:=ak.kp bJ dr (by omega);have bK:=ak.kp bK dr (by omega);have hb:=hb.trans dr;refine bT (z:=fx) (by kernel_rfl) rfl ?_;rintro EZ Un Qy cv fF;have abP:=fF.size;have hP:=hP.below fF;have hx:=hx.below fF;have br:=br.below fF;have ab:=ab.below fF;have aI:=aI.below fF;have aK:=aK.below fF;have bn:=bn.below fF;have bu:=bu.below fF;have bG:=bG.below fF;have bJ:=bJ.below fF;have bK:=bK.below fF;replace fF:=Below.kp (p:=p) fF;have hb:=hb.trans fF;have aaW:=cv.lt;refine ba (by kernel_rfl) rfl rfl cv rfl rfl ?_;rintro mi cv cF;have zq:=cF.size;have hb:=bp hb cF (by omega);have hP:=RO.over hP cF (by omega);have hx:=aY.kp hx cF (fun h_=>by have bh:=dt _ h_;omega);have br:=br.over cF (by omega);have ab:=ab.over cF (by omega);have aI:=aI.over cF (by omega);have aK:=aK.over cF (by omega);have bn:=bn.over cF (by omega);have bu:=bu.over cF (by omega);have bG:=bG.over cF (by omega);have bJ:=bJ.over cF (by omega);have bK:=bK.over cF (by omega);refine al Cj<|am fun KH=>ai rfl<|ai rfl<|ae (bW (ct rfl rfl (by omega) (by omega)) (aH (show _=((lv+1:Nat):Int) by omega))) rfl<|aD zY rfl rfl (h3 _ (.ok () ts.tail) hP (show ts.tail.length<n by omega)) rfl ?_
  rintro _ sB ⟨⟨y,σ2,⟨zy,Sy,rfl,hy,fp⟩,h2,hP⟩,cY⟩;have abN:=cY.size;have hx:=aY.kp hx cY (fun h_=>by have bh:=dt _ h_;omega);have br:=ak.kp br cY (by omega);have ab:=ak.kp ab cY (by omega);have aI:=ak.kp aI cY (by omega);have aK:=ak.kp aK cY (by omega);have bn:=ak.kp bn cY (by omega);have bu:=ak.kp bu cY (by omega);have bG:=ak.kp bG cY (by omega);have bJ:=ak.kp bJ cY (by omega);have bK:=ak.kp bK cY (by omega);have cv:=ak.kp cv cY (by omega);have hb:=hb.trans cY;have hsz2:=rJ h2 (yo hT);refine bT (z:=fy) (by kernel_rfl) rfl ?_;rintro Jl agQ aaT cW f5;have abQ:=f5.size;have hP:=hP.below f5;have hx:=hx.below f5;have br:=br.below f5;have ab:=ab.below f5;have aI:=aI.below f5;have aK:=aK.below f5;have bn:=bn.below f5;have bu:=bu.below f5;have bG:=bG.below f5;have bJ:=bJ.below f5;have bK:=bK.below f5;have cv:=cv.below f5;have hy:=hy.below f5;replace f5:=Below.kp (p:=p) f5;have hb:=hb.trans f5;have aaX:=cW.lt;refine ba (by kernel_rfl) rfl rfl cW rfl rfl ?_;rintro rO cW dw;have LM:=dw.size;have hb:=bp hb dw (by omega);have hP:=RO.over hP dw (by omega);have hx:=aY.kp hx dw (fun h_=>by have bh:=dt _ h_;omega);have br:=br.over dw (by omega);have ab:=ab.over dw (by omega);have aI:=aI.over dw (by omega);have aK:=aK.over dw (by omega);have bn:=bn.over dw (by omega);have bu:=bu.over dw (by omega);have bG:=bG.over dw (by omega);have bJ:=bJ.over dw (by omega)
  have bK:=bK.over dw (by omega);have cv:=cv.over dw (by omega);have hy:=aY.kp hy dw (fun h_=>by have bh:=fp _ h_;omega);refine al KH<|jg (n:=8) (fun w'=>Kp p w w'∧RO w' p en g b σ2∧aY w' S e x.cells∧aY w' Sy y zy.cells∧(∃AL,ak w' dO 28 AL)∧ak w' Jl 28 zy.cells∧ak w' EZ 74 [.int .i64 ((aN en ts).k:Int),str (aN en ts).t,.int .i64 ((aN en ts).a:Int)]∧(∃y_:EC,ak w' au 28 y_.cells)∧ak w' cp 9 (b9 [j6])∧ak w' cK 9 (b9 [jO])∧ak w' eA 9 (b9 [gA])∧ak w' eW 9 (b9 iT)∧ak w' gO 9 (b9 [[43],[45]])∧ak w' gX 9 (b9 [[42]])∧ak w' iz 67 [cQ cp 1,cQ cK 1,cQ eA 1,cQ eW 6,cQ gO 2,cQ gX 1]) #[aj,aj,aj,aj,aj,aj,aj,aj] (by kernel_rfl) rfl (by kernel_rfl)<|jf ?_
  rintro agD fK;have abL:=fK.size;have hP:=hP.below fK;have hx:=hx.below fK;have br:=br.below fK;have ab:=ab.below fK;have aI:=aI.below fK;have aK:=aK.below fK;have bn:=bn.below fK;have bu:=bu.below fK;have bG:=bG.below fK;have bJ:=bJ.below fK;have bK:=bK.below fK;have cv:=cv.below fK;have hy:=hy.below fK;have cW:=cW.below fK;replace fK:=Below.kp (p:=p) fK;have hb:=hb.trans fK;refine bC (i:=0) #[ah,aj,aj,aj,aj,aj,aj,aj] rfl (by kernel_rfl) bF rfl (fun wq hq=>bU (aP (l5 _) rfl)) ⟨hb,hP,hx,hy,⟨_,br⟩,cW,cv,⟨_,ab⟩,aI,aK,bn,bu,bG,bJ,bK⟩<|bC (i:=1) #[ah,ah,aj,aj,aj,aj,aj,aj] rfl (by kernel_rfl) bF rfl (fun wq hq=>aS di rfl (by obtain ⟨hq,hP,hx,hy,⟨_,br⟩,cW,cv,⟨_,ab⟩,aI,aK,bn,bu,bG,bJ,bK⟩:=hq;exact cv.at (j:=1) rfl)) ⟨hb,hP,hx,hy,⟨_,br⟩,cW,cv,⟨_,ab⟩,aI,aK,bn,bu,bG,bJ,bK⟩<|bC (i:=4) #[ah,ah,aj,aj,ah,aj,aj,aj] rfl (by kernel_rfl) bF rfl (fun wq hq=>cr b5 (by kernel_rfl) rfl (by obtain ⟨hq,hP,hx,hy,⟨_,br⟩,cW,cv,⟨_,ab⟩,aI,aK,bn,bu,bG,bJ,bK⟩:=hq;exact fun j u hu=>cW.at hu)) ⟨hb,hP,hx,hy,⟨_,br⟩,cW,cv,⟨_,ab⟩,aI,aK,bn,bu,bG,bJ,bK⟩<|cM (rs:= [2,3]) (by kernel_rfl) rfl<|cO #[ah,ah,ah,aj,ah,aj,aj,aj] rfl rfl (fun _ ZP=>?_) ?_
  ·
   refine aD zZ rfl rfl (zM (aN en ts).t _) rfl ?_;rintro _ oQ ⟨rfl,bE⟩;have CP:=bE.size;have hP:=RO.below hP bE;have hx:=aY.below hx bE;have br:=ak.below br bE;have ab:=ak.below ab bE;have aI:=ak.below aI bE;have aK:=ak.below aK bE;have bn:=ak.below bn bE;have bu:=ak.below bu bE;have bG:=ak.below bG bE;have bJ:=ak.below bJ bE;have bK:=ak.below bK bE;have cv:=ak.below cv bE;have hy:=aY.below hy bE;have cW:=ak.below cW bE;replace bE:=Below.kp (p:=p) bE;have hb:=hb.trans bE;refine ay<|cN ZP ⟨hb,hP,hx,hy,⟨_,br⟩,cW,cv,⟨_,ab⟩,aI,aK,bn,bu,bG,bJ,bK⟩<|cM (rs:= [3]) (by kernel_rfl) rfl<|cO #[ah,ah,ah,ah,ah,aj,aj,aj] rfl rfl (fun _ KI=>?_) ?_
   ·
    refine aG (cr b5 (by kernel_rfl) rfl (by exact fun j u hu=>br.at hu)) rfl<|ay<|cN KI ⟨hb,hP,hx,hy,⟨_,br⟩,cW,cv,⟨_,ab⟩,aI,aK,bn,bu,bG,bJ,bK⟩<|cM (rs:= [5]) (by kernel_rfl) rfl<|cO #[ah,ah,ah,ah,ah,ah,aj,aj] rfl rfl (fun _ KJ=>?_) ?_
    ·
     refine cz (sz:=7) (vs:= [_,_]) j5 (by kernel_rfl) rfl rfl rfl rfl rfl rfl ?_;rintro my DR CE ft cl;have CO:=cl.size;have hP:=hP.below cl;have hx:=hx.below cl;have br:=br.below cl;have ab:=ab.below cl;have aI:=aI.below cl;have aK:=aK.below cl;have bn:=bn.below cl;have bu:=bu.below cl;have bG:=bG.below cl;have bJ:=bJ.below cl;have bK:=bK.below cl;have cv:=cv.below cl;have hy:=hy.below cl;have cW:=cW.below cl;replace cl:=Below.kp (p:=p) cl;have hb:=hb.trans cl;have CI:=ft.lt;refine ay<|cN KJ ⟨hb,hP,hx,hy,⟨_,br⟩,cW,cv,⟨_,ab⟩,aI,aK,bn,bu,bG,bJ,bK⟩<|bC (i:=6) #[ah,ah,ah,ah,ah,ah,ah,aj] rfl (by kernel_rfl) bF rfl (fun wq hq=>bU (cC (z:=gd) (pl:=gf) (cs:= [_,_,_,_,_,_,_]) b5 (by kernel_rfl) (by kernel_rfl) rfl rfl rfl)) ⟨hb,hP,hx,hy,⟨_,br⟩,cW,cv,⟨_,ab⟩,aI,aK,bn,bu,bG,bJ,bK⟩<|cM (rs:= [7]) (by kernel_rfl) rfl<|cO #[ah,ah,ah,ah,ah,ah,ah,ah] rfl rfl (fun _ ZS=>?_) ?_
     ·
      refine ba (by kernel_rfl) rfl rfl br rfl rfl ?_;rintro oj br bO;have sn:=bO.size;have hb:=bp hb bO (by omega);have hP:=RO.over hP bO (by omega);have hx:=aY.kp hx bO (fun h_=>by have bh:=dt _ h_;omega);have ab:=ab.over bO (by omega);have aI:=aI.over bO (by omega);have aK:=aK.over bO (by omega);have bn:=bn.over bO (by omega);have bu:=bu.over bO (by omega);have bG:=bG.over bO (by omega);have bJ:=bJ.over bO (by omega);have bK:=bK.over bO (by omega);have cv:=cv.over bO (by omega);have hy:=aY.kp hy bO (fun h_=>by have bh:=fp _ h_;omega);have cW:=cW.over bO (by omega);have ft:=ft.over bO (by omega);refine ay<|cN ZS ⟨hb,hP,hx,hy,⟨_,br⟩,cW,cv,⟨_,ab⟩,aI,aK,bn,bu,bG,bJ,bK⟩<|fB (by kernel_rfl)<|cD<|ax Ci<|aQ<|ai rfl<|ae (ct rfl rfl (by omega) (by omega)) rfl<|an rfl<|ay<|fun a_ bM=>KU _ _ (⟨⟨3,lP (aN en ts).t,ch,some ⟨my,0,none⟩,2,2⟩,fun k=>(S k∨Sy k)∨k=my,hZ (aN en ts).t e y,σ2,m+1⟩) (by show cE σ2<ts.length;have h4:cE (.ok () ts.tail)=ts.tail.length:=rfl;omega) (by repeat first|exact aC|refine aA rfl (by first|rfl|exact aH (by omega)) ?_) ?_ a_ bM
      exact ⟨by rw [hF];show W m e ts=_;rw [hgo m e ts hi hmz];exact ij h2 _,by have h4:cE (.ok () ts.tail)=ts.tail.length:=rfl;have h5:cE (.ok () ts)=ts.length:=rfl;omega,hb,hP,by rw [show hZ (aN en ts).t e y= .mk 3 (lP (aN en ts).t) ch [e,y] by rw [hnm];rfl];exact aY.node (kids:= [e,y]) rfl (ft.rd 2 7 rfl) (.inr rfl) ((tX (hx.mono fun _ h=> .inl h) (hy.mono fun _ h=> .inr h)).mono fun _ h=> .inl h),fun k hk=>by rcases hk with (h|h)|h;(· have:=dt k h;omega);(· have:=fp k h;omega);(· have:=ft.lt;omega),br,⟨_,ab⟩,aI,aK,bn,bu,bG,bJ,bK⟩
     exact cP
    exact cP
   exact cP
  refine cO #[ah,ah,aj,ah,ah,aj,aj,aj] rfl rfl (fun _ xE=>?_) ?_
  ·
   refine aG (cr b5 (by kernel_rfl) rfl (by exact fun j u hu=>br.at hu)) rfl<|ay<|cN xE ⟨hb,hP,hx,hy,⟨_,br⟩,cW,cv,⟨_,ab⟩,aI,aK,bn,bu,bG,bJ,bK⟩<|cM (rs:= [2,5]) (by kernel_rfl) rfl<|cO #[ah,ah,ah,ah,ah,aj,aj,aj] rfl rfl (fun _ ZW=>?_) ?_
   ·
    refine aD zZ rfl rfl (zM (aN en ts).t _) rfl ?_;rintro _ oQ ⟨rfl,bE⟩;have CP:=bE.size;have hP:=RO.below hP bE;have hx:=aY.below hx bE;have br:=ak.below br bE;have ab:=ak.below ab bE;have aI:=ak.below aI bE;have aK:=ak.below aK bE;have bn:=ak.below bn bE;have bu:=ak.below bu bE;have bG:=ak.below bG bE;have bJ:=ak.below bJ bE;have bK:=ak.below bK bE;have cv:=ak.below cv bE;have hy:=aY.below hy bE;have cW:=ak.below cW bE;replace bE:=Below.kp (p:=p) bE;have hb:=hb.trans bE;refine ay<|cN ZW ⟨hb,hP,hx,hy,⟨_,br⟩,cW,cv,⟨_,ab⟩,aI,aK,bn,bu,bG,bJ,bK⟩<|cM (rs:= [5]) (by kernel_rfl) rfl<|cO #[ah,ah,ah,ah,ah,ah,aj,aj] rfl rfl (fun _ KM=>?_) ?_
    ·
     refine cz (sz:=7) (vs:= [_,_]) j5 (by kernel_rfl) rfl rfl rfl rfl rfl rfl ?_;rintro my DR CE ft cl;have CO:=cl.size;have hP:=hP.below cl;have hx:=hx.below cl;have br:=br.below cl;have ab:=ab.below cl;have aI:=aI.below cl;have aK:=aK.below cl;have bn:=bn.below cl;have bu:=bu.below cl;have bG:=bG.below cl;have bJ:=bJ.below cl;have bK:=bK.below cl;have cv:=cv.below cl;have hy:=hy.below cl;have cW:=cW.below cl;replace cl:=Below.kp (p:=p) cl;have hb:=hb.trans cl;have CI:=ft.lt;refine ay<|cN KM ⟨hb,hP,hx,hy,⟨_,br⟩,cW,cv,⟨_,ab⟩,aI,aK,bn,bu,bG,bJ,bK⟩<|bC (i:=6) #[ah,ah,ah,ah,ah,ah,ah,aj] rfl (by kernel_rfl) bF rfl (fun wq hq=>bU (cC (z:=gd) (pl:=gf) (cs:= [_,_,_,_,_,_,_]) b5 (by kernel_rfl) (by kernel_rfl) rfl rfl rfl)) ⟨hb,hP,hx,hy,⟨_,br⟩,cW,cv,⟨_,ab⟩,aI,aK,bn,bu,bG,bJ,bK⟩<|cM (rs:= [7]) (by kernel_rfl) rfl<|cO #[ah,ah,ah,ah,ah,ah,ah,ah] rfl rfl (fun _ KN=>?_) ?_
     ·
      refine ba (by kernel_rfl) rfl rfl br rfl rfl ?_;rintro oj br bO;have sn:=bO.size;have hb:=bp hb bO (by omega);have hP:=RO.over hP bO (by omega);have hx:=aY.kp hx bO (fun h_=>by have bh:=dt _ h_;omega);have ab:=ab.over bO (by omega);have aI:=aI.over bO (by omega);have aK:=aK.over bO (by omega);have bn:=bn.over bO (by omega);have bu:=bu.over bO (by omega);have bG:=bG.over bO (by omega);have bJ:=bJ.over bO (by omega);have bK:=bK.over bO (by omega);have cv:=cv.over bO (by omega);have hy:=aY.kp hy bO (fun h_=>by have bh:=fp _ h_;omega);have cW:=cW.over bO (by omega);have ft:=ft.over bO (by omega);refine ay<|cN KN ⟨hb,hP,hx,hy,⟨_,br⟩,cW,cv,⟨_,ab⟩,aI,aK,bn,bu,bG,bJ,bK⟩<|fB (by kernel_rfl)<|cD<|ax Ci<|aQ<|ai rfl<|ae (ct rfl rfl (by omega) (by omega)) rfl<|an rfl<|ay<|fun a_ bM=>KU _ _ (⟨⟨3,lP (aN en ts).t,ch,some ⟨my,0,none⟩,2,2⟩,fun k=>(S k∨Sy k)∨k=my,hZ (aN en ts).t e y,σ2,m+1⟩) (by show cE σ2<ts.length;have h4:cE (.ok () ts.tail)=ts.tail.length:=rfl;omega) (by repeat first|exact aC|refine aA rfl (by first|rfl|exact aH (by omega)) ?_) ?_ a_ bM
      exact ⟨by rw [hF];show W m e ts=_;rw [hgo m e ts hi hmz];exact ij h2 _,by have h4:cE (.ok () ts.tail)=ts.tail.length:=rfl;have h5:cE (.ok () ts)=ts.length:=rfl;omega,hb,hP,by rw [show hZ (aN en ts).t e y= .mk 3 (lP (aN en ts).t) ch [e,y] by rw [hnm];rfl];exact aY.node (kids:= [e,y]) rfl (ft.rd 2 7 rfl) (.inr rfl) ((tX (hx.mono fun _ h=> .inl h) (hy.mono fun _ h=> .inr h)).mono fun _ h=> .inl h),fun k hk=>by rcases hk with (h|h)|h;(· have:=dt k h;omega);(· have:=fp k h;omega);(· have:=ft.lt;omega),br,⟨_,ab⟩,aI,aK,bn,bu,bG,bJ,bK⟩
     exact cP
    exact cP
   refine cO #[ah,ah,aj,ah,ah,ah,aj,aj] rfl rfl (fun _ KO=>?_) ?_
   ·
    refine cz (sz:=7) (vs:= [_,_]) j5 (by kernel_rfl) rfl rfl rfl rfl rfl rfl ?_;rintro my DR CE ft cl;have CO:=cl.size;have hP:=hP.below cl;have hx:=hx.below cl;have br:=br.below cl;have ab:=ab.below cl;have aI:=aI.below cl;have aK:=aK.below cl;have bn:=bn.below cl;have bu:=bu.below cl;have bG:=bG.below cl;have bJ:=bJ.below cl;have bK:=bK.below cl;have cv:=cv.below cl;have hy:=hy.below cl;have cW:=cW.below cl;replace cl:=Below.kp (p:=p) cl;have hb:=hb.trans cl;have CI:=ft.lt;refine ay<|cN KO ⟨hb,hP,hx,hy,⟨_,br⟩,cW,cv,⟨_,ab⟩,aI,aK,bn,bu,bG,bJ,bK⟩<|cM (rs:= [2]) (by kernel_rfl) rfl<|cO #[ah,ah,ah,ah,ah,ah,aj,aj] rfl rfl (fun _ Z0=>?_) ?_
    ·
     refine aD zZ rfl rfl (zM (aN en ts).t _) rfl ?_;rintro _ oQ ⟨rfl,bE⟩;have CP:=bE.size;have hP:=RO.below hP bE;have hx:=aY.below hx bE;have br:=ak.below br bE;have ab:=ak.below ab bE;have aI:=ak.below aI bE;have aK:=ak.below aK bE;have bn:=ak.below bn bE;have bu:=ak.below bu bE;have bG:=ak.below bG bE;have bJ:=ak.below bJ bE;have bK:=ak.below bK bE;have cv:=ak.below cv bE;have hy:=aY.below hy bE;have cW:=ak.below cW bE;have ft:=ak.below ft bE;replace bE:=Below.kp (p:=p) bE;have hb:=hb.trans bE;refine ay<|cN Z0 ⟨hb,hP,hx,hy,⟨_,br⟩,cW,cv,⟨_,ab⟩,aI,aK,bn,bu,bG,bJ,bK⟩<|bC (i:=6) #[ah,ah,ah,ah,ah,ah,ah,aj] rfl (by kernel_rfl) bF rfl (fun wq hq=>bU (cC (z:=gd) (pl:=gf) (cs:= [_,_,_,_,_,_,_]) b5 (by kernel_rfl) (by kernel_rfl) rfl rfl rfl)) ⟨hb,hP,hx,hy,⟨_,br⟩,cW,cv,⟨_,ab⟩,aI,aK,bn,bu,bG,bJ,bK⟩<|cM (rs:= [7]) (by kernel_rfl) rfl<|cO #[ah,ah,ah,ah,ah,ah,ah,ah] rfl rfl (fun _ E5=>?_) ?_
     ·
      refine ba (by kernel_rfl) rfl rfl br rfl rfl ?_;rintro oj br bO;have sn:=bO.size;have hb:=bp hb bO (by omega);have hP:=RO.over hP bO (by omega);have hx:=aY.kp hx bO (fun h_=>by have bh:=dt _ h_;omega);have ab:=ab.over bO (by omega);have aI:=aI.over bO (by omega);have aK:=aK.over bO (by omega);have bn:=bn.over bO (by omega);have bu:=bu.over bO (by omega);have bG:=bG.over bO (by omega);have bJ:=bJ.over bO (by omega);have bK:=bK.over bO (by omega);have cv:=cv.over bO (by omega);have hy:=aY.kp hy bO (fun h_=>by have bh:=fp _ h_;omega);have cW:=cW.over bO (by omega);have ft:=ft.over bO (by omega);refine ay<|cN E5 ⟨hb,hP,hx,hy,⟨_,br⟩,cW,cv,⟨_,ab⟩,aI,aK,bn,bu,bG,bJ,bK⟩<|fB (by kernel_rfl)<|cD<|ax Ci<|aQ<|ai rfl<|ae (ct rfl rfl (by omega) (by omega)) rfl<|an rfl<|ay<|fun a_ bM=>KU _ _ (⟨⟨3,lP (aN en ts).t,ch,some ⟨my,0,none⟩,2,2⟩,fun k=>(S k∨Sy k)∨k=my,hZ (aN en ts).t e y,σ2,m+1⟩) (by show cE σ2<ts.length;have h4:cE (.ok () ts.tail)=ts.tail.length:=rfl;omega) (by repeat first|exact aC|refine aA rfl (by first|rfl|exact aH (by omega)) ?_) ?_ a_ bM
      exact ⟨by rw [hF];show W m e ts=_;rw [hgo m e ts hi hmz];exact ij h2 _,by have h4:cE (.ok () ts.tail)=ts.tail.length:=rfl;have h5:cE (.ok () ts)=ts.length:=rfl;omega,hb,hP,by rw [show hZ (aN en ts).t e y= .mk 3 (lP (aN en ts).t) ch [e,y] by rw [hnm];rfl];exact aY.node (kids:= [e,y]) rfl (ft.rd 2 7 rfl) (.inr rfl) ((tX (hx.mono fun _ h=> .inl h) (hy.mono fun _ h=> .inr h)).mono fun _ h=> .inl h),fun k hk=>by rcases hk with (h|h)|h;(· have:=dt k h;omega);(· have:=fp k h;omega);(· have:=ft.lt;omega),br,⟨_,ab⟩,aI,aK,bn,bu,bG,bJ,bK⟩
     exact cP
    exact cP
   exact cP
  exact cP
 have Ir:=Iq
 have hend1:=hend m e τ (hq.symm.trans Ir)
 refine d2<|cj<|cj<|d3<|ax Ky<|am fun KP=>?_
 refine aG (cr b5 (by kernel_rfl) rfl (by exact fun j u hu=>br.at hu)) rfl ?_
 refine ba (by kernel_rfl) rfl rfl ab rfl rfl ?_
 rintro DS ab gJ
 have abU:=gJ.size
 have hb:=bp hb gJ (by omega)
 have hP:=RO.over hP gJ (by omega)
 have hx:=aY.kp hx gJ (fun h_=>by have bh:=dt _ h_;omega)
 refine al KP<|aJ<|bQ (rs:= [.cell 4 28]) (vs:= [_]) rfl (.cell rfl (bP b5 (by kernel_rfl) (fun j u hu=>ab.at hu)) .nil) ?_
 exact ⟨_,rfl,⟨e,τ,⟨x,S,rfl,hx,fun k hk=>by have:=dt k hk;omega⟩,by rw [hF];exact hend1,hP⟩,hb⟩
theorem FH (p en g b n lv:Nat) (hlv:lv<6) (hl2:lv≠2) (hl3:lv≠3) (F:Pe) (hT:iE F) (h3:rR p en g b n (lv+1) F):rR p en g b n lv (jK en F hZ (qq.getD lv [])):=
 Sh p en g b n lv hlv hl2 F hT (fun _=>tK en F hZ (qq.getD lv [])) _ (fun m e ts hi _=>Ri hT e hi) (fun m e σ h=>Rh e (by rcases Bool.and_eq_false_iff.1 h with h|h;(· exact h);(· exact absurd (.inr hl3) (of_decide_eq_false h))))
  (fun ts=>by
   rw [RN]
   show eI (F ts) _=eI (F ts) _
   congr 1;funext x r;rw [if_neg (fun h=>hl3 h.1)]) h3
noncomputable def ym (en:Nat) (F:Pe) (m:Nat) (e:b6) (ts:List Tok):cn b6:=if m=0∧bv en iT ts=true then eI (F ts.tail) fun y r=> .ok (hZ (aN en ts).t e y) r else .ok e ts
theorem aeg (p en g b n:Nat) (knot:Nat→Pe) (hT:∀b,iE (knot b)) (h4:rR p en g b n 4 (lU en b knot)):rR p en g b n 3 (kq en b knot):=by
 have hS:iE (lU en b knot):=qj (qj (Ej hT) tM) tM;refine Sh p en g b n 3 (by decide) (by decide) (lU en b knot) hS (ym en (lU en b knot)) _ (fun m e ts hi hm=>?_) (fun m e σ h=>?_) (fun ts=>?_) h4
 · have hm0:m=0:=by rcases hm with h|h;exact h;exact absurd rfl h
   unfold ym;rw [if_pos ⟨hm0,hi⟩]
   congr 1
 · cases σ with
   |err a e=>rfl
   |ok u ts=>
    show ym en (lU en b knot) m e ts=_;unfold ym
    rw [if_neg (fun h2=>by
     rcases Bool.and_eq_false_iff.1 h with h|h
     · rw [show eZ en (qq.getD 3 []) (.ok u ts)=bv en iT ts from rfl,h2.2] at h;cases h
     · exact absurd (.inl h2.1) (of_decide_eq_false h))]
    rfl
 · unfold kq
   cases hs:lU en b knot ts with
   |err a e=>rfl
   |ok x r=>
    show (if bv en iT r=true then _ else _)=if (3:Nat)=3∧bv en [pN] r=true then _ else ym en (lU en b knot) 0 x r;by_cases hc:bv en iT r=true
    · have hni:bv en [pN] r=false:=by
       have h1:=qi hc;unfold bv;rw [decide_eq_false_iff_not];rintro ⟨_,h2⟩;rw [List.mem_singleton.1 h2] at h1;exact absurd h1 (by decide)
      rw [if_pos hc,if_neg (fun h=>by rw [hni] at h;cases h.2)];unfold ym;rw [if_pos ⟨rfl,hc⟩]
      cases lU en b knot r.tail<;>rfl
    · rw [if_neg hc]
      by_cases hi:bv en [pN] r=true
      · rw [if_pos hi,if_pos ⟨rfl,hi⟩]
        cases eO en gi r.tail<;>rfl
      · rw [if_neg hi,if_neg (fun h=>hi h.2)]
        unfold ym;rw [if_neg (fun h=>hc h.2)]
theorem Pg (p en g:Nat):∀n b,rR p en g b n 0 (pE en n b)
 |0,b=>fun w σ hP hn=>absurd hn (Nat.not_lt_zero _)
 |n+1,b=>by
  have hK:=Pg p en g n;have hT:=IY en n;have h6:=ad1 p en g b (n+1) _ (adM p en g b n (pE en n) hT hK);have h5:=FH p en g b (n+1) 5 (by decide) (by decide) (by decide) _ (Ej hT) h6;have h4:=FH p en g b (n+1) 4 (by decide) (by decide) (by decide) _ (qj (Ej hT) tM) h5;have h3:=aeg p en g b (n+1) (pE en n) hT h4;have h2:=ad0 p en g b (n+1) _ h3;have h1:=FH p en g b (n+1) 1 (by decide) (by decide) (by decide) _ (zW (MT hT)) h2;exact FH p en g b (n+1) 0 (by decide) (by decide) (by decide) _ (qj (zW (MT hT)) tM) h1
theorem Nf:bB Tryz.prog 78:=⟨_,Tryz.func78,by kernel_rfl,rfl⟩
theorem Y2 {en m:Nat} {k:Int} {var:ao} {ts:List Tok} (h:bv en [[58]] ts=true):j1 en m k var ts=eI (lT en m 0 ts.tail) (fun x r=>kS en m k var x r):=by
 unfold j1;rw [if_pos h];cases lT en m 0 ts.tail<;>rfl
theorem Y3 {en m:Nat} {k:Int} {var:ao} {ts:List Tok} (h:bv en [[58]] ts=false):j1 en m k var ts=kS en m k var eC ts:=by
 unfold j1;rw [if_neg (by rw [h];decide)]
theorem Y4 {en m:Nat} {k:Int} {var:ao} {lab:b6} {ts:List Tok} (h:bv en [u5] ts=true):kS en m k var lab ts=eI (pE en m 0 ts.tail) (fun x r=> .ok (.mk k var 0 lab x 0 0 []) r):=by
 unfold kS;rw [if_pos h];cases pE en m 0 ts.tail<;>rfl
theorem Si (p en g m:Nat) (k:Int):qz p en 103 [PC.enc ⟨k,[],0,dE,dE,0,0,none,0,0⟩] m g 0 (gh en m k) pT:=by
 intro w σ hP hn;have hpl:=hP.lt;have hb:=Kp.refl p w;refine enter Tryz.func103 rfl rfl rfl<|am fun aR=>gp rfl rfl ?_
 rintro au dJ dH ab aM;have:=aM.size;have hP:=hP.below aM;replace aM:=Below.kp (p:=p) aM;have hb:=hb.trans aM;have:=ab.lt;refine bT (z:=hY) (by kernel_rfl) rfl ?_;rintro cV mU mK aq cT;have:=cT.size;have hP:=hP.below cT;have ab:=ab.below cT;replace cT:=Below.kp (p:=p) cT;have hb:=hb.trans cT;have:=aq.lt;refine al aR<|av fun _ b8=>am fun dC=>ai rfl<|aD yu rfl rfl (yk p en g 0 1 σ _ hP) rfl ?_
 rintro _ cB ⟨rfl,aw⟩;have:=aw.size;have hP:=RO.below hP aw;have ab:=ak.below ab aw;have aq:=ak.below aq aw;replace aw:=Below.kp (p:=p) aw;have hb:=hb.trans aw;refine al dC<|cR (X:=ao×Sg) (fun (var,τ)=> [(0,bH p),(3,.pointer (some ⟨au,0,none⟩)),(4,.pointer (some ⟨cV,0,none⟩))]) (fun (var,τ) wr=>bR σ (gh en m k)=bR τ (j1 en m k var)∧cE τ≤cE σ∧Kp p w wr∧RO wr p en g 0 τ∧ak wr au 31 (PC.cells ⟨k,var,0,dE,dE,0,0,none,0,0⟩)∧(∃y_:PC,ak wr cV 31 y_.cells)) (fun _ Qo=>?_) ?_
 ·
  refine aO rfl (fun eV=>?_) (fun eV=>?_)
  ·
   have ky:=eV;obtain ⟨ts,rfl,hk⟩:=LX ky;obtain ⟨var,hvar⟩:∃z,z=(aN en ts).t:=⟨_,rfl⟩;obtain ⟨τ,hτ⟩:∃τ:Sg,τ= .ok () ts.tail:=⟨_,rfl⟩;have he:bR (.ok () ts) (gh en m k)=bR τ (j1 en m k var):=by rw [hτ,hvar];show gh en m k ts=_;unfold gh;rw [if_pos hk];rfl
   have hsz:cE τ≤cE (.ok () ts):=by rw [hτ];exact Dq ts
   refine am fun fZ=>ai rfl<|aD iP rfl rfl (iO p en ts g 0 (oI hk (by decide)) _ hP) rfl ?_
   rintro _ cU ⟨⟨rfl,hP⟩,aL⟩;have:=aL.size;have ab:=ak.kp ab aL (by omega);have aq:=ak.kp aq aL (by omega);have hb:=hb.trans aL;refine bT (z:=fx) (by kernel_rfl) rfl ?_;rintro kE Ad rx bZ gv;have:=gv.size;have hP:=hP.below gv;have ab:=ab.below gv;have aq:=aq.below gv;replace gv:=Below.kp (p:=p) gv;have hb:=hb.trans gv;have:=bZ.lt;rw [←hvar];refine ba (by kernel_rfl) rfl rfl bZ rfl rfl ?_;rintro du bZ aF;have:=aF.size;have hb:=bp hb aF (by omega);have hP:=RO.over hP aF (by omega);have ab:=ab.over aF (by omega);have aq:=aq.over aF (by omega);refine al fZ<|aQ<|ae (aP (l5 _) rfl) rfl<|aG (aS di rfl (by exact bZ.at (j:=1) rfl)) rfl<|ae (aP (EM _) rfl) rfl<|fV di rfl rfl rfl ab (by show 1<20;decide) ?_
   rintro ff ab bc;have:=bc.size;have hb:=bp hb bc (by omega);have hP:=RO.over hP bc (by omega);have aq:=aq.over bc (by omega);refine ay<|a7 Qo (⟨var,τ⟩) (by repeat first|exact aC|refine aA rfl (by first|rfl|exact aH (by omega)) ?_) ?_
   exact ⟨he,hsz,hb,by rw [hτ];exact hP,ab,⟨er,aq⟩⟩
  have ky:=eV;have hk:mN en 1 σ=false:=ky;obtain ⟨var,hvar⟩:∃z:ao,z= []:=⟨_,rfl⟩;obtain ⟨τ,hτ⟩:∃τ:Sg,τ=σ:=⟨_,rfl⟩;have hsz:cE τ≤cE σ:=by rw [hτ];exact Nat.le_refl _
  have he:bR σ (gh en m k)=bR τ (j1 en m k var):=by
   rw [hτ,hvar]
   cases σ with
   |err a e=>rfl
   |ok u ts=>show gh en m k ts=_;unfold gh;rw [if_neg (of_decide_eq_false hk)];rfl
  refine aU<|a7 Qo (⟨var,τ⟩) (by repeat first|exact aC|refine aA rfl (by first|rfl|exact aH (by omega)) ?_) ?_
  exact ⟨he,hsz,hb,by rw [hτ];exact hP,by rw [hvar];exact ab,⟨er,aq⟩⟩
 rintro ⟨var,τ⟩ wr JK;replace JK:bR σ (gh en m k)=bR τ (j1 en m k var)∧cE τ≤cE σ∧Kp p w wr∧RO wr p en g 0 τ∧ak wr au 31 (PC.cells ⟨k,var,0,dE,dE,0,0,none,0,0⟩)∧(∃y_:PC,ak wr cV 31 y_.cells):=JK;obtain ⟨he,hsz,hb,hP,ab,⟨_,aq⟩⟩:=JK;show Wq _ _ _ _ [(0,bH p),(3,.pointer (some ⟨au,0,none⟩)),(4,.pointer (some ⟨cV,0,none⟩))] _;have:=hb.size;have:=ab.lt;have:=aq.lt;refine ax b8<|av fun _ dG=>am fun fC=>ai rfl<|aD lj rfl rfl (lh p en g 0 τ [58] _ hP) rfl ?_
 rintro _ eP ⟨rfl,a6⟩;have:=a6.size;have hP:=RO.below hP a6;have ab:=ak.below ab a6;have aq:=ak.below aq a6;replace a6:=Below.kp (p:=p) a6;have hb:=hb.trans a6;refine al fC<|cR (X:=EC×(Nat→Prop)×b6×Sg) (fun (lx,Sl,le,τ2)=> [(0,bH p),(3,.pointer (some ⟨au,0,none⟩)),(4,.pointer (some ⟨cV,0,none⟩))]) (fun (lx,Sl,le,τ2) wr=>bR σ (gh en m k)=bR τ2 (kS en m k var le)∧cE τ2≤cE σ∧Kp p w wr∧RO wr p en g 0 τ2∧aY wr Sl le lx.cells∧(∀q,Sl q→w.heap.size≤q∧q<wr.heap.size∧q≠au∧q≠cV)∧ak wr au 31 (PC.cells ⟨k,var,0,lx,dE,0,0,none,0,0⟩)∧(∃y_:PC,ak wr cV 31 y_.cells)) (fun _ P8=>?_) ?_
 ·
  refine aO rfl (fun gD=>?_) (fun gD=>?_)
  ·
   have uh:=gD;obtain ⟨ts,rfl,hi⟩:=oN uh;have hl:=kN hi;have hts:ts.length≤cE σ:=hsz;refine am fun fT=>ai rfl<|aD iP rfl rfl (iO p en ts g 0 (eB hi) _ hP) rfl ?_
   rintro _ fj ⟨⟨rfl,hP⟩,bk⟩;have:=bk.size;have ab:=ak.kp ab bk (by omega);have aq:=ak.kp aq bk (by omega);have hb:=hb.trans bk;refine al fT<|aQ<|ai rfl<|aD Du rfl rfl (QO p en g m 0 _ (.ok () ts.tail) hP (show ts.tail.length<m by omega)) rfl ?_
   rintro _ gj ⟨⟨le,τ2,⟨lx,Sl,rfl,hl2,Qz⟩,h1,hP⟩,bD⟩;have:=bD.size;have ab:=ak.kp ab bD (by omega);have aq:=ak.kp aq bD (by omega);have hb:=hb.trans bD;refine ae (aP (y5 _) rfl) rfl ?_;have he2:bR σ (gh en m k)=bR τ2 (kS en m k var le):=by rw [he];show j1 en m k var ts=_;rw [Y2 hi];exact ij h1 _
   have hs2:cE τ2≤ts.tail.length:=rJ h1 (yo (CU en m 0));refine yJ (by kernel_rfl) rfl rfl rfl ab (by show 3+7≤20;decide) ?_;rintro gB ab bz;have:=bz.size;have hb:=bp hb bz (by omega);have hP:=RO.over hP bz (by omega);have aq:=aq.over bz (by omega);have hl2:=aY.kp hl2 bz (fun h_=>by have bh:=Qz _ h_;omega);refine ay<|a7 P8 (⟨lx,Sl,le,τ2⟩) (by repeat first|exact aC|refine aA rfl (by first|rfl|exact aH (by omega)) ?_) ?_
   exact ⟨he2,by omega,hb,hP,hl2,fun q hq=>by have:=Qz q hq;omega,ab,⟨_,aq⟩⟩
  have uh:=gD;have hi:eZ en [[58]] τ=false:=uh;obtain ⟨lx,Sl,le,τ2,heq⟩:∃(a:EC) (b:Nat→Prop) (c:b6) (d:Sg),a=dE∧b=(fun _=>False)∧c=eC∧d=τ:=⟨_,_,_,_,rfl,rfl,rfl,rfl⟩
  have he2:bR σ (gh en m k)=bR τ2 (kS en m k var le):=by
   rw [he,heq.2.2.1,heq.2.2.2]
   cases τ with
   |err a e=>rfl
   |ok u ts=>exact Y3 hi
  refine aU<|a7 P8 (⟨lx,Sl,le,τ2⟩) (by repeat first|exact aC|refine aA rfl (by first|rfl|exact aH (by omega)) ?_) ?_
  (obtain ⟨e1,e2,e3,e4⟩:=heq;subst e1 e2 e3 e4;exact ⟨he2,hsz,hb,hP,kQ _ _,fun q hq=>hq.elim,ab,⟨_,aq⟩⟩)
 rintro ⟨lx,Sl,le,τ2⟩ wr JZ;replace JZ:bR σ (gh en m k)=bR τ2 (kS en m k var le)∧cE τ2≤cE σ∧Kp p w wr∧RO wr p en g 0 τ2∧aY wr Sl le lx.cells∧(∀q,Sl q→w.heap.size≤q∧q<wr.heap.size∧q≠au∧q≠cV)∧ak wr au 31 (PC.cells ⟨k,var,0,lx,dE,0,0,none,0,0⟩)∧(∃y_:PC,ak wr cV 31 y_.cells):=JZ;obtain ⟨he2,hsz2,hb,hP,hlx,xV,ab,⟨_,aq⟩⟩:=JZ;show Wq _ _ _ _ [(0,bH p),(3,.pointer (some ⟨au,0,none⟩)),(4,.pointer (some ⟨cV,0,none⟩))] _;have:=hb.size;have:=ab.lt;have:=aq.lt;refine ax dG<|av fun _ k8=>am fun gP=>ai rfl<|aD lj rfl rfl (lh p en g 0 τ2 u5 _ hP) rfl ?_
 rintro _ lW ⟨rfl,cm⟩;have:=cm.size;have hP:=RO.below hP cm;have hlx:=aY.below hlx cm;have ab:=ak.below ab cm;have aq:=ak.below aq cm;replace cm:=Below.kp (p:=p) cm;have hb:=hb.trans cm;refine al gP<|aO rfl (fun Hd=>?_) (fun Hd=>?_)
 ·
  have He:=Hd;obtain ⟨ts,rfl,hj⟩:=oN He;have hl:=kN hj;have hts:ts.length≤cE σ:=hsz2;refine am fun iW=>ai rfl<|aD iP rfl rfl (iO p en ts g 0 (eB hj) _ hP) rfl ?_
  rintro _ lX ⟨⟨rfl,hP⟩,cy⟩;have:=cy.size;have hlx:=aY.kp hlx cy (fun h_=>by have bh:=xV _ h_;omega);have ab:=ak.kp ab cy (by omega);have aq:=ak.kp aq cy (by omega);have hb:=hb.trans cy;refine al iW<|aQ<|ai rfl<|aD zY rfl rfl (Pg p en g m 0 _ (.ok () ts.tail) hP (show ts.tail.length<m by omega)) rfl ?_
  rintro _ mh ⟨⟨we,τ3,⟨wx,Sw,rfl,hw,x7⟩,h2,hP⟩,cA⟩;have:=cA.size;have hlx:=aY.kp hlx cA (fun h_=>by have bh:=xV _ h_;omega);have ab:=ak.kp ab cA (by omega);have aq:=ak.kp aq cA (by omega);have hb:=hb.trans cA;refine ae (aP (wO _) rfl) rfl<|yJ (by kernel_rfl) rfl rfl rfl ab (by show 10+7≤20;decide) ?_
  rintro j7 ab cd;have:=cd.size;have hb:=bp hb cd (by omega);have hP:=RO.over hP cd (by omega);have hlx:=aY.kp hlx cd (fun h_=>by have bh:=xV _ h_;omega);have aq:=aq.over cd (by omega);have hw:=aY.kp hw cd (fun h_=>by have bh:=x7 _ h_;omega);refine al k8<|am fun lL=>aG (cr dc (by kernel_rfl) rfl (by exact fun j u hu=>ab.at hu)) rfl ?_
  refine ba (by kernel_rfl) rfl rfl aq rfl rfl ?_;rintro kW aq cx;have LK:=cx.size;have hb:=bp hb cx (by omega);have hP:=RO.over hP cx (by omega);have hlx:=aY.kp hlx cx (fun h_=>by have bh:=xV _ h_;omega);have hw:=aY.kp hw cx (fun h_=>by have bh:=x7 _ h_;omega);refine al lL<|aJ<|bQ (rs:= [.cell 4 31]) (vs:= [_]) rfl (.cell rfl (bP dc (by kernel_rfl) (fun j u hu=>aq.at hu)) .nil) ?_
  exact ⟨_,rfl,⟨.mk k var 0 le we 0 0 [],τ3,⟨⟨k,var,0,lx,wx,0,0,none,0,0⟩,fun q=>Sl q∨Sw q,rfl,vd (hlx.mono fun _ h=> .inl h) (hw.mono fun _ h=> .inr h),fun q hq=>by rcases hq with h|h;(· have:=xV q h;omega);(· have:=x7 q h;omega)⟩,by rw [he2];show kS en m k var le ts=_;rw [Y4 hj];exact (ij h2 _).trans (WY _ _),hP⟩,hb⟩
 have He:=Hd;have hj:eZ en [u5] τ2=false:=He
 have hf:bR σ (gh en m k)=dZ (.mk k var 0 le eC 0 0 []) τ2:=by
  rw [he2]
  cases τ2 with
  |err a e=>rfl
  |ok u ts=>show kS en m k var le ts=_;unfold kS;rw [if_neg (by rw [show bv en [u5] ts=false from hj];decide)];rfl
 refine aU<|ax k8<|am fun lf=>aG (cr dc (by kernel_rfl) rfl (by exact fun j u hu=>ab.at hu)) rfl ?_
 refine ba (by kernel_rfl) rfl rfl aq rfl rfl ?_;rintro kW aq cx;have LK:=cx.size;have hb:=bp hb cx (by omega);have hP:=RO.over hP cx (by omega);have hlx:=aY.kp hlx cx (fun h_=>by have bh:=xV _ h_;omega);refine al lf<|aJ<|bQ (rs:= [.cell 4 31]) (vs:= [_]) rfl (.cell rfl (bP dc (by kernel_rfl) (fun j u hu=>aq.at hu)) .nil) ?_
 exact ⟨_,rfl,⟨_,τ2,⟨⟨k,var,0,lx,dE,0,0,none,0,0⟩,Sl,rfl,vd hlx (kQ _ _),fun q hq=>by have:=xV q hq;omega⟩,hf,hP⟩,hb⟩
def Ar (en:Nat):Sg→Bool
 | .ok _ ts=>iS en ts
 | .err _ _=>false
def zQ:List (ao):= [[40],[91],[45,91],[60,45,91],[126,91],[60,126,91]]
theorem OW (o:ao):lz o []=mf o:=by
 by_cases h0:o= [45,62]
 · subst h0;decide
 · by_cases h1:o= [60,45]
   · subst h1;decide
   · by_cases h2:o= [126]
     · subst h2;decide
     · by_cases h3:o= [60,45,62]
       · subst h3;decide
       · by_cases h4:o= [60,126]
         · subst h4;decide
         · by_cases h5:o= [126,62]
           · subst h5;decide
           · by_cases h6:o= [45]
             · subst h6;decide
             · rw [show mf o=0 by unfold mf;rw [if_neg h0,if_neg h1,if_neg h2,if_neg h3,if_neg h4,if_neg h5,if_neg h6]]
               refine IQ fun j hj=>?_;unfold iy;rw [decide_eq_false_iff_not];rintro (⟨_,h⟩|⟨h,_⟩)
               · have:j=0∨j=1∨j=2∨j=3∨j=4∨j=5∨j=6:=by omega
                 rcases this with rfl|rfl|rfl|rfl|rfl|rfl|rfl
                 · exact h0 h.symm
                 · exact h1 h.symm
                 · exact h2 h.symm
                 · exact h3 h.symm
                 · exact h4 h.symm
                 · exact h5 h.symm
                 · exact h6 h.symm
               · exact h rfl
theorem O2 (o:ao):nA o≠ []↔o∈([[45,91],[60,45,91],[126,91],[60,126,91]]:List (ao)):=by
 by_cases h0:o= [45,91]
 · subst h0;decide
 · by_cases h1:o= [60,45,91]
   · subst h1;decide
   · by_cases h2:o= [126,91]
     · subst h2;decide
     · by_cases h3:o= [60,126,91]
       · subst h3;decide
       · unfold nA;rw [if_neg h0,if_neg h1,if_neg h2,if_neg h3];simp [h0,h1,h2,h3]
theorem WU {en:Nat} {ts:List Tok} (hk:∀t∈ts,t.k=2→t.t∈jy):iS en ts=(bv en zQ ts||(decide ((aN en ts).k=5)&&decide (0<lz (aN en ts).t []))):=by
 rw [OW];unfold iS bv
 have h2:(aN en ts).k=2→(aN en ts).t∈jy:=by
  cases ts with
  |nil=>intro h;cases h
  |cons t r=>exact hk t (List.mem_cons_self ..)
 have hno:∀x,x∈jy→x ∉ zQ:=by decide
 rw [Bool.eq_iff_iff];simp only [Bool.or_eq_true,Bool.and_eq_true,decide_eq_true_eq]
 have h6:(aN en ts).t∈zQ↔((aN en ts).t∈([[40],[91]]:List (ao))∨nA (aN en ts).t≠ []):=by
  rw [O2];unfold zQ;simp [or_assoc]
 constructor
 · rintro (⟨h,h3⟩|⟨h,h3|h3⟩)
   · exact .inl ⟨h,h6.2 (.inl h3)⟩
   · exact .inl ⟨.inr h,h6.2 (.inr h3)⟩
   · exact .inr ⟨h,h3⟩
 · rintro (⟨h,h3⟩|⟨h,h3⟩)
   · rcases h with h|h
     · exact absurd h3 (hno _ (h2 h))
     · rcases h6.1 h3 with h4|h4
       · exact .inl ⟨.inr h,h4⟩
       · exact .inr ⟨h,.inl h4⟩
   · exact .inr ⟨h,.inr h3⟩
theorem R2 (p en g b:Nat) (σ:Sg) (w:World) (hP:RO w p en g b σ):bx Tryz.prog 60 [bH p] w fun v w'=>v= .bool (Ar en σ)∧Below w.heap.size w w':=by
 obtain ⟨ts,a0,e0,hS,hσ⟩:=id hP;obtain ⟨t,htk⟩:∃t,t=aN en ts:=⟨_,rfl⟩
 have hq:Ar en σ=(eZ en zQ σ||(mN en 5 σ&&decide (0<lz t.t []))):=by
  rcases hσ with ⟨h,_,_⟩|⟨h,_⟩
  · rw [h,htk];exact WU fun t ht=>(hS.tk t ht).2
  · rw [h];rfl
 have hb:=Below.refl w.heap.size w;have mJ:=hS;have jF:=hP;refine enter Tryz.func60 rfl rfl rfl<|am fun aR=>an rfl<|al aR<|am fun bt=>ai rfl<|aD u4 rfl rfl (u0 p en ts g b a0 e0 _ hS) rfl ?_
 rintro _ cB ⟨rfl,aw⟩;have:=aw.size;have hb:=aZ hb aw;have hS:=mJ.below hb;have hP:=jF.below hb;refine bT (z:=fx) (by kernel_rfl) rfl ?_;rintro dq ks jH aE ck;have:=ck.size;have hb:=aZ hb ck;have hS:=mJ.below hb;have hP:=jF.below hb;have:=aE.lt;rw [←htk];refine ba (by kernel_rfl) rfl rfl aE rfl rfl ?_;rintro du aE aF;have:=aF.size;have hb:=cf hb aF hb.size (by omega);have hS:=mJ.below hb;have hP:=jF.below hb;refine al bt<|am fun dV=>ai rfl<|cz (sz:=1) (vs:= [_,_,_,_,_,_]) dl (by kernel_rfl) rfl rfl rfl rfl rfl rfl ?_
 rintro cp fA fw aI aV;have:=aV.size;have hb:=aZ hb aV;have hS:=mJ.below hb;have hP:=jF.below hb;have aE:=ak.below aE aV;have:=aI.lt;refine aD z7 rfl rfl (zN p en g b σ _ 6 zQ (by decide) _ hP (aI.rd 6 1 rfl)) rfl ?_;rintro _ cU ⟨rfl,aL⟩;have:=aL.size;have hb:=aZ hb aL;have hS:=mJ.below hb;have hP:=jF.below hb;have aE:=ak.below aE aL;refine ai rfl<|dy rfl rfl rfl (fun kB=>?_) (fun kB=>?_)
 ·
  have gN:=kB;refine az rfl rfl gN rfl rfl<|az rfl rfl gN rfl rfl<|bY rfl rfl rfl<|bY rfl rfl rfl<|bY rfl rfl rfl<|bY rfl rfl rfl<|az rfl rfl gN rfl rfl<|ae (bo rfl gN rfl) rfl<|an rfl<|al dV<|aJ<|bN rfl rfl ?_
  exact ⟨_,rfl,a8 (by rw [hq];simp_all),hb⟩
 have gN:=kB;refine ai rfl<|ap rfl rfl gN<|aD yu rfl rfl (yk p en g b 5 σ _ hP) rfl ?_
 rintro _ eP ⟨rfl,a6⟩;have:=a6.size;have hb:=aZ hb a6;have hS:=mJ.below hb;have hP:=jF.below hb;have aE:=ak.below aE a6;refine ap rfl rfl gN<|ai rfl<|cG rfl rfl rfl (fun eS=>?_) (fun eS=>?_)
 ·
  have gq:=eS;refine ae (aP (l5 _) rfl) rfl<|ap rfl rfl gq<|aG (aS di rfl (by exact aE.at (j:=1) rfl)) rfl<|ap rfl rfl gq<|aD Nf rfl rfl (Ge t.t [] _) rfl ?_
  rintro _ fj ⟨rfl,bk⟩;have:=bk.size;have hb:=aZ hb bk;have hS:=mJ.below hb;have hP:=jF.below hb;refine ap rfl rfl gq<|ae (ed rfl rfl) rfl<|ap rfl rfl gN<|ae (bo rfl gq rfl) rfl<|ae (bj rfl gN rfl) rfl<|an rfl<|al dV<|aJ<|bN rfl rfl ?_
  exact ⟨_,rfl,a8 (by rw [hq];simp_all),hb⟩
 have gq:=eS;refine az rfl rfl gq rfl rfl<|az rfl rfl gq rfl rfl<|az rfl rfl gq rfl rfl<|ap rfl rfl gN<|ae (bj rfl gq rfl) rfl<|ae (bj rfl gN rfl) rfl<|an rfl<|al dV<|aJ<|bN rfl rfl ?_
 exact ⟨_,rfl,a8 (by rw [hq];simp_all),hb⟩
theorem Oj {en:Nat} {σ:Sg} (h:Ar en σ=true):∃ts,σ= .ok () ts∧iS en ts=true:=by
 cases σ with
 |ok u ts=>exact ⟨ts,rfl,h⟩
 |err a e=>cases h
theorem A4 (p:Addr) (w:World):(Instr.fieldAt 58 (.pointer (some p)) 4).run Tryz.prog w= .ok (.pointer (some (p.add 4))) w:=eT (i:=4) (sz:=0) yy rfl (by kernel_rfl) p w
theorem To:bB Tryz.prog 103:=⟨_,Tryz.func103,by kernel_rfl,rfl⟩
theorem TB:bB Tryz.prog 15:=⟨_,Tryz.func15,by kernel_rfl,rfl⟩
theorem TS:bB Tryz.prog 60:=⟨_,Tryz.func60,by kernel_rfl,rfl⟩
theorem ED {o c:ao} (hs:∀j,j<7→wL.getD j []≠o) (h:∀j,j<7→¬(ut.getD j []=o∧ur.getD j []=c)):lz o c=0:=IQ fun j hj=>by
 unfold iy;rw [decide_eq_false_iff_not];rintro (⟨_,h1⟩|⟨_,h1⟩)
 · exact hs j hj h1
 · exact h j hj h1
theorem Yr {o:ao} (ho:nA o≠ []) (c:ao):jS o c=if lz o c=0 then none else some (lz o c):=by
 have h:=(O2 o).1 ho;simp only [List.mem_cons,List.not_mem_nil,or_false] at h
 rcases h with rfl|rfl|rfl|rfl
 · by_cases h0:c= [93,45,62]
   · subst h0;decide
   · by_cases h1:c= [93,45]
     · subst h1;decide
     · have hz:lz [45,91] c=0:=ED (by decide) (fun j hj h=>by
        have:j=0∨j=1∨j=2∨j=3∨j=4∨j=5∨j=6:=by omega
        rcases this with rfl|rfl|rfl|rfl|rfl|rfl|rfl<;>first|exact absurd h.1 (by decide)|exact h0 h.2.symm|exact h1 h.2.symm)
       rw [hz,if_pos rfl];unfold jS;show Option.map _ (List.find? _ ([([93,45,62],(4:Int)),([93,45],(7:Int))]:List (ao×Int)))=none;simp only [List.find?];rw [show (([93,45,62]:ao)==c)=false from beq_eq_false_iff_ne.2 (fun e=>h0 e.symm)];rw [show (([93,45]:ao)==c)=false from beq_eq_false_iff_ne.2 (fun e=>h1 e.symm)]
       rfl
 · by_cases h0:c= [93,45]
   · subst h0;decide
   · by_cases h1:c= [93,45,62]
     · subst h1;decide
     · have hz:lz [60,45,91] c=0:=ED (by decide) (fun j hj h=>by
        have:j=0∨j=1∨j=2∨j=3∨j=4∨j=5∨j=6:=by omega
        rcases this with rfl|rfl|rfl|rfl|rfl|rfl|rfl<;>first|exact absurd h.1 (by decide)|exact h0 h.2.symm|exact h1 h.2.symm)
       rw [hz,if_pos rfl];unfold jS;show Option.map _ (List.find? _ ([([93,45],(1:Int)),([93,45,62],(5:Int))]:List (ao×Int)))=none;simp only [List.find?];rw [show (([93,45]:ao)==c)=false from beq_eq_false_iff_ne.2 (fun e=>h0 e.symm)];rw [show (([93,45,62]:ao)==c)=false from beq_eq_false_iff_ne.2 (fun e=>h1 e.symm)]
       rfl
 · by_cases h0:c= [93,126]
   · subst h0;decide
   · by_cases h1:c= [93,126,62]
     · subst h1;decide
     · have hz:lz [126,91] c=0:=ED (by decide) (fun j hj h=>by
        have:j=0∨j=1∨j=2∨j=3∨j=4∨j=5∨j=6:=by omega
        rcases this with rfl|rfl|rfl|rfl|rfl|rfl|rfl<;>first|exact absurd h.1 (by decide)|exact h0 h.2.symm|exact h1 h.2.symm)
       rw [hz,if_pos rfl];unfold jS;show Option.map _ (List.find? _ ([([93,126],(2:Int)),([93,126,62],(6:Int))]:List (ao×Int)))=none;simp only [List.find?];rw [show (([93,126]:ao)==c)=false from beq_eq_false_iff_ne.2 (fun e=>h0 e.symm)];rw [show (([93,126,62]:ao)==c)=false from beq_eq_false_iff_ne.2 (fun e=>h1 e.symm)]
       rfl
 · by_cases h0:c= [93,126]
   · subst h0;decide
   · have hz:lz [60,126,91] c=0:=ED (by decide) (fun j hj h=>by
      have:j=0∨j=1∨j=2∨j=3∨j=4∨j=5∨j=6:=by omega
      rcases this with rfl|rfl|rfl|rfl|rfl|rfl|rfl<;>first|exact absurd h.1 (by decide)|exact h0 h.2.symm)
     rw [hz,if_pos rfl];unfold jS;show Option.map _ (List.find? _ ([([93,126],(3:Int))]:List (ao×Int)))=none;simp only [List.find?];rw [show (([93,126]:ao)==c)=false from beq_eq_false_iff_ne.2 (fun e=>h0 e.symm)]
     rfl
def S6:Sg→Sg
 | .ok u ts=> .ok u ts.tail
 | .err a e=> .err a e
theorem aef (p en g b:Nat) (σ:Sg) (hne:∀ts,σ= .ok () ts→ts≠ []) (w:World) (hP:RO w p en g b σ):bx Tryz.prog 32 [bH p] w fun v w'=>RO w' p en g b (S6 σ)∧Kp p w w':=by
 cases σ with
 |ok u ts=>exact (iO p en ts g b (hne ts rfl) w hP).mono fun v w' h=>⟨h.1.2,h.2⟩
 |err a e=>
  have hpl:=hP.lt;obtain ⟨ts,a0,e0,hS,hσ⟩:=id hP
  have he0:e0≠0:=by
   rcases hσ with ⟨h,_⟩|⟨_,h⟩
   · cases h
   · exact h
  have hb:=Kp.refl p w;refine enter Tryz.func32 rfl rfl rfl<|am fun aR=>bT (z:=fx) (by kernel_rfl) rfl ?_
  rintro au dJ dH ab aM;have:=aM.size;have hS:=hS.below aM;have hP:=hP.below aM;replace aM:=Below.kp (p:=p) aM;have hb:=hb.trans aM;have:=ab.lt;refine al aR<|am fun bt=>ai rfl<|aD u4 rfl rfl (u0 p en ts g b a0 e0 _ hS) rfl ?_
  rintro _ cB ⟨rfl,aw⟩;have:=aw.size;have hS:=ka.below hS aw;have hP:=RO.below hP aw;have ab:=ak.below ab aw;replace aw:=Below.kp (p:=p) aw;have hb:=hb.trans aw;refine bT (z:=fx) (by kernel_rfl) rfl ?_;rintro dq ks jH aE ck;have:=ck.size;have hS:=hS.below ck;have hP:=hP.below ck;have ab:=ab.below ck;replace ck:=Below.kp (p:=p) ck;have hb:=hb.trans ck;have:=aE.lt;refine ba (by kernel_rfl) rfl rfl aE rfl rfl ?_;rintro du aE aF;have:=aF.size;have hb:=bp hb aF (by omega);have hS:=ka.over hS aF (by omega);have hP:=RO.over hP aF (by omega);have ab:=ab.over aF (by omega);refine al bt<|av fun _ dV=>av fun _ eX=>?_
  obtain ⟨A,c,h1,h2,hPb,hPr,h5⟩:=hS.ex;refine aQ<|ai rfl<|ae (cI rfl) rfl<|ae (aP (nB _) rfl) rfl<|aG (aS iq rfl (by exact hPb.at (j:=3) rfl)) rfl<|ae (bX rfl rfl) rfl<|ai rfl<|cG rfl rfl rfl (fun jo=>?_) (fun jo=>?_)
  ·
   exact absurd (of_decide_eq_true jo) he0
  refine az rfl rfl jo rfl rfl<|az rfl rfl jo rfl rfl<|az rfl rfl jo rfl rfl<|az rfl rfl jo rfl rfl<|az rfl rfl jo rfl rfl<|ae (bj rfl jo rfl) rfl<|al eX<|oU rfl rfl ?_
  refine aU<|ax dV<|am fun mB=>?_
  refine aG (cr ig (by kernel_rfl) rfl (by exact fun j u hu=>aE.at hu)) rfl ?_;refine ba (by kernel_rfl) rfl rfl ab rfl rfl ?_;rintro gB ab bz;have:=bz.size;have hb:=bp hb bz (by omega);have hP:=RO.over hP bz (by omega);refine al mB<|aJ<|bQ (rs:= [.cell 2 74]) (vs:= [_]) rfl (.cell rfl (bP ig (by kernel_rfl) (fun j u hu=>ab.at hu)) .nil) ?_
  exact ⟨_,rfl,hP,hb⟩
def rX (en:Nat) (o:ao) (x:bS) (r:List Tok):cn bS:=if (aN en r).k≠5∨lz o (aN en r).t=0 then .err (aN en r).a 2 else .ok (x.setDir (lz o (aN en r).t)) r.tail
def Mi (en:Nat) (s:ao) (x:bS) (r:List Tok):cn bS:=eI (eO en s r) fun _ r2=> .ok x r2
theorem adA {en m g:Nat} {knot:Nat→List Tok→cn bS} {ts:List Tok} (hb:iS en ts=true):gS en m g knot ts=
 if (aN en ts).t= [40] then bR (.ok () ts.tail) fun r=>eI (gh en m 1 r) (Mi en [41])
 else if (aN en ts).t= [91] then if 50≤g then .err (aN en ts).a 6 else bR (.ok () ts.tail) fun r=>eI (knot (g+1) r) (Mi en [93])
 else if 0<mf (aN en ts).t then .ok (.mk 2 [] (mf (aN en ts).t) eC eC 0 0 []) ts.tail
 else bR (.ok () ts.tail) fun r=>eI (gh en m 2 r) (rX en (aN en ts).t):=by
 unfold gS
 rw [if_neg (by rw [hb];decide)]
 split
 · kernel_rfl
 · rename_i h1
   split
   · split
     · rfl
     · kernel_rfl
   · rename_i h2
     split
     · rfl
     · rename_i h3
       have ho:=Ol hb h1 h2 h3
       show _=eI (gh en m 2 ts.tail) _
       cases gh en m 2 ts.tail with
       |err a e=>rfl
       |ok x r=>
        show (match jS (aN en ts).t (aN en r).t with|none=>cn.err ((aN en r).a:Int) 2|some d=>if (aN en r).k=5 then .ok (x.setDir d) r.tail else .err ((aN en r).a:Int) 2)=rX en (aN en ts).t x r;rw [Yr ho];unfold rX;by_cases hd:lz (aN en ts).t (aN en r).t=0
        · rw [if_pos hd,if_pos (.inr hd)]
        · rw [if_neg hd]
          dsimp only;by_cases hk:(aN en r).k=5
          · rw [if_pos hk,if_neg (fun h=>h.elim (fun h=>h hk) hd)]
          · rw [if_neg hk,if_pos (.inl hk)]
abbrev yE (p en n g:Nat) (F:List Tok→cn bS):Prop:=qz p en 15 [] n g 0 F pT
theorem Rr (en:Nat) (s:ao) (x:bS) (σ:Sg):bR σ (Mi en s x)=dZ x (uX en s σ):=Mj en s σ x
set_option maxHeartbeats 1000000 in
theorem aee (p en g m n:Nat) (hnm:n≤m) (knot:Nat→List Tok→cn bS) (hK:∀g',yE p en n g' (knot g')):qz p en 76 [] (n+1) g 0 (gS en m g knot) pT:=by
 intro w σ hP hn;have hpl:=hP.lt;have hb:=Kp.refl p w;refine enter Tryz.func76 rfl rfl rfl<|am fun aR=>bT (z:=hY) (by kernel_rfl) rfl ?_
 rintro au dJ dH ab aM;have:=aM.size;have hP:=hP.below aM;replace aM:=Below.kp (p:=p) aM;have hb:=hb.trans aM;have:=ab.lt;refine al aR<|av fun _ bt=>am fun b8=>ai rfl<|aD TS rfl rfl (R2 p en g 0 σ _ hP) rfl ?_
 rintro _ cB ⟨rfl,aw⟩;have:=aw.size;have hP:=RO.below hP aw;have ab:=ak.below ab aw;replace aw:=Below.kp (p:=p) aw;have hb:=hb.trans aw;refine ae (jd rfl) rfl<|al b8<|aO rfl (fun d7=>?_) (fun d7=>?_)
 ·
  have hbg:Ar en σ=false:=by simpa using d7
  have hf:bR σ (gS en m g knot)=dZ oJ (uC en σ):=by
   cases σ with
   |err a e=>rfl
   |ok u ts=>show gS en m g knot ts=_;unfold gS;rw [if_pos (show iS en ts=false from hbg)];rfl
  refine am fun dW=>ai rfl<|aD yr rfl rfl (yj p en g 0 σ _ hP) rfl ?_
  rintro _ cU ⟨hP,aL⟩;have:=aL.size;have ab:=ak.kp ab aL (by omega);have hb:=hb.trans aL;refine al dW<|am fun dU=>ae (cC (z:=n7) (pl:=n8) (cs:= [_,_,_,_,_,_,_,_,_,_,_,_,_,_,_,_,_,_,_,_]) dc (by kernel_rfl) (by kernel_rfl) rfl rfl rfl) rfl<|ba (by kernel_rfl) rfl rfl ab rfl rfl ?_
  rintro du ab aF;have:=aF.size;have hb:=bp hb aF (by omega);have hP:=RO.over hP aF (by omega);refine al dU<|aJ<|aX<|bQ (rs:= [.cell 2 31]) (vs:= [_]) rfl (.cell rfl (bP dc (by kernel_rfl) (fun j u hu=>ab.at hu)) .nil) ?_
  exact ⟨_,rfl,⟨oJ,_,⟨er,_,rfl,ql _,fun k h=>h.elim⟩,hf,hP⟩,hb⟩
 obtain ⟨ts,rfl,hbg⟩:=Oj (en:=en) (σ:=σ) (by simpa using d7);have hne:=yM hbg;have hlt:=List.length_pos_iff.2 hne;have hn2:ts.length<n+1:=hn;have htl:ts.tail.length=ts.length - 1:=List.length_tail;have hpe:bR (.ok () ts) (gS en m g knot)=_:=adA hbg;obtain ⟨t,htk⟩:∃t,t=aN en ts:=⟨_,rfl⟩;rw [←htk] at hpe;refine aU<|ax bt<|am fun fd=>ai rfl<|aD iP rfl rfl (iO p en ts g 0 hne _ hP) rfl ?_
 rintro _ eP ⟨⟨rfl,hP⟩,a6⟩;have:=a6.size;have ab:=ak.kp ab a6 (by omega);have hb:=hb.trans a6;refine bT (z:=fx) (by kernel_rfl) rfl ?_;rintro gG tV oF bL ep;have:=ep.size;have hP:=hP.below ep;have ab:=ab.below ep;replace ep:=Below.kp (p:=p) ep;have hb:=hb.trans ep;have:=bL.lt;rw [←htk];refine ba (by kernel_rfl) rfl rfl bL rfl rfl ?_;rintro ff bL bc;have:=bc.size;have hb:=bp hb bc (by omega);have hP:=RO.over hP bc (by omega);have ab:=ab.over bc (by omega);refine al fd<|av fun _ dG=>am fun fC=>ae (aP (l5 _) rfl) rfl<|aG (aS di rfl (by exact bL.at (j:=1) rfl)) rfl<|ae (fl rfl rfl) rfl<|al fC<|aO rfl (fun gD=>?_) (fun gD=>?_)
 ·
  have uh:=gD;simp only [DZ] at gD;have h1:t.t= [40]:=by have:=gD;simpa using this
  refine am fun fT=>ai rfl<|ae (cC (z:=n7) (pl:=n8) (cs:= [_,_,_,_,_,_,_,_,_,_,_,_,_,_,_,_,_,_,_,_]) dc (by kernel_rfl) (by kernel_rfl) rfl rfl rfl) rfl<|aD To rfl rfl (Si p en g m 1 _ (.ok () ts.tail) hP (show ts.tail.length<m by omega)) rfl ?_
  rintro _ fj ⟨⟨x,τ,⟨z,Sz,rfl,hz,aT⟩,hf1,hP⟩,bk⟩;have:=bk.size;have ab:=ak.kp ab bk (by omega);have hb:=hb.trans bk;refine bT (z:=hY) (by kernel_rfl) rfl ?_;rintro Zg Uk zo pi n4;have:=n4.size;have hP:=hP.below n4;have ab:=ab.below n4;have hz:=hz.below n4;replace n4:=Below.kp (p:=p) n4;have hb:=hb.trans n4;have:=pi.lt;refine ba (by kernel_rfl) rfl rfl pi rfl rfl ?_;rintro gB pi bz;have:=bz.size;have hb:=bp hb bz (by omega);have hP:=RO.over hP bz (by omega);have ab:=ab.over bz (by omega);have hz:=bi.kp hz bz (fun h_=>by have bh:=aT _ h_;omega);refine al fT<|am fun fD=>ai rfl<|aD Dw rfl rfl (Dk p en g 0 [41] τ _ hP) rfl ?_
  rintro _ gj ⟨hP,bD⟩;have:=bD.size;have ab:=ak.kp ab bD (by omega);have hz:=bi.kp hz bD (fun h_=>by have bh:=aT _ h_;omega);have pi:=ak.kp pi bD (by omega);have hb:=hb.trans bD;refine al fD<|am fun gP=>aG (cr dc (by kernel_rfl) rfl (by exact fun j u hu=>pi.at hu)) rfl ?_
  refine ba (by kernel_rfl) rfl rfl ab rfl rfl ?_;rintro j7 ab cd;have:=cd.size;have hb:=bp hb cd (by omega);have hP:=RO.over hP cd (by omega);have hz:=bi.kp hz cd (fun h_=>by have bh:=aT _ h_;omega);refine al gP<|aJ<|aX<|bQ (rs:= [.cell 2 31]) (vs:= [_]) rfl (.cell rfl (bP dc (by kernel_rfl) (fun j u hu=>ab.at hu)) .nil) ?_
  exact ⟨_,rfl,⟨x,_,⟨z,Sz,rfl,hz,fun k hk=>by have:=aT k hk;omega⟩,by rw [hpe,if_pos h1,ij hf1,Rr],hP⟩,hb⟩
 have uh:=gD;simp only [DZ] at gD;have h1:¬t.t= [40]:=by have:=gD;simpa using this
 refine aU<|ax dG<|av fun _ im=>am fun gI=>ae (aP (l5 _) rfl) rfl<|aG (aS di rfl (by exact bL.at (j:=1) rfl)) rfl<|ae (fl rfl rfl) rfl<|al gI<|aO rfl (fun nw=>?_) (fun nw=>?_)
 ·
  have Hh:=nw;simp only [DZ] at nw;have h2:t.t= [91]:=by have:=nw;simpa using this
  obtain ⟨A,c,nn,a0,e0,hPb,_,hback⟩:=hP.open;refine av fun _ nP=>am fun lK=>ai rfl<|ae (cI rfl) rfl<|ae (aP (A4 _) rfl) rfl<|aG (aS b0 rfl (by exact hPb.at (j:=4) rfl)) rfl<|ae (f7 rfl rfl) rfl<|al lK<|aO rfl (fun nx=>?_) (fun nx=>?_)
  ·
   have HA:=nx;simp only [DZ] at nx;have h50:50≤g:=by have:=nx;omega
   refine am fun gZ=>ai rfl<|ae (aP (p5 _) rfl) rfl<|aG (aS b0 rfl (by exact bL.at (j:=2) rfl)) rfl<|aD sw rfl rfl (sv p en g 0 t.a 6 (by decide) _ _ hP) rfl ?_
   rintro _ lW ⟨hP,cm⟩;have:=cm.size;have ab:=ak.kp ab cm (by omega);have hb:=hb.trans cm;refine al gZ<|am fun lM=>ae (cC (z:=n7) (pl:=n8) (cs:= [_,_,_,_,_,_,_,_,_,_,_,_,_,_,_,_,_,_,_,_]) dc (by kernel_rfl) (by kernel_rfl) rfl rfl rfl) rfl<|ba (by kernel_rfl) rfl rfl ab rfl rfl ?_
   rintro kW ab cx;have:=cx.size;have hb:=bp hb cx (by omega);have hP:=RO.over hP cx (by omega);refine al lM<|aJ<|aX (aX ?_)
   refine bQ (rs:= [.cell 2 31]) (vs:= [_]) rfl (.cell rfl (bP dc (by kernel_rfl) (fun j u hu=>ab.at hu)) .nil) ?_;exact ⟨_,rfl,⟨oJ,_,⟨er,_,rfl,ql _,fun k h=>h.elim⟩,by rw [hpe,if_neg h1,if_pos h2,if_pos h50];rfl,hP⟩,hb⟩
  have HA:=nx;simp only [DZ] at nx;have h50:¬50≤g:=by have:=nx;omega
  refine aU<|ax nP<|am fun kI=>ai rfl<|ae (cI rfl) rfl<|ae (aP (A4 _) rfl) rfl<|aG (aS b0 rfl (by exact hPb.at (j:=4) rfl)) rfl<|ae (bW (ct rfl rfl (by omega) (by omega)) (aH (show _=((g+1:Nat):Int) by omega))) rfl<|ae (cI rfl) rfl<|ae (aP (A4 _) rfl) rfl<|fV b0 rfl rfl rfl hPb (by show 4<6;decide) ?_
  rintro mV abG cS;have:=cS.size;have hb:=bp hb cS (by omega);have ab:=ab.over cS (by omega);have hPb:=abG;refine al kI<|av fun _ jv=>?_
  have hP:RO mV p en (g+1) 0 (.ok () ts.tail):=hback (g+1) 0 _ hPb cS;clear hPb;refine aQ<|ai rfl<|aD TB rfl rfl (hK (g+1) _ (.ok () ts.tail) hP (show ts.tail.length<n by omega)) rfl ?_
  rintro _ lX ⟨⟨x,τ,⟨z,Sz,rfl,hz,aT⟩,hf1,hP⟩,cy⟩;have:=cy.size;have ab:=ak.kp ab cy (by omega);have hb:=hb.trans cy;refine bT (z:=hY) (by kernel_rfl) rfl ?_;rintro ahM ait ahV uH x5;have:=x5.size;have hP:=hP.below x5;have ab:=ab.below x5;have hz:=hz.below x5;replace x5:=Below.kp (p:=p) x5;have hb:=hb.trans x5;have:=uH.lt;refine ba (by kernel_rfl) rfl rfl uH rfl rfl ?_;rintro mW uH df;have:=df.size;have hb:=bp hb df (by omega);have hP:=RO.over hP df (by omega);have ab:=ab.over df (by omega);have hz:=bi.kp hz df (fun h_=>by have bh:=aT _ h_;omega);refine al jv<|am fun nS=>ai rfl<|aD Dw rfl rfl (Dk p en (g+1) 0 [93] τ _ hP) rfl ?_
  rintro _ mh ⟨hP,cA⟩;have:=cA.size;have ab:=ak.kp ab cA (by omega);have hz:=bi.kp hz cA (fun h_=>by have bh:=aT _ h_;omega);have uH:=ak.kp uH cA (by omega);have hb:=hb.trans cA;refine al nS<|av fun _ rn=>?_
  obtain ⟨A2,c2,nn2,a2,e2,hPb2,_,hback2⟩:=hP.open;refine aQ<|ai rfl<|ae (cI rfl) rfl<|ae (aP (A4 _) rfl) rfl<|aG (aS b0 rfl (by exact hPb2.at (j:=4) rfl)) rfl<|ae (bW (iQ rfl rfl (by omega) (by omega)) (aH (show _=(g:Int) by omega))) rfl<|ae (cI rfl) rfl<|ae (aP (A4 _) rfl) rfl<|fV b0 rfl rfl rfl hPb2 (by show 4<6;decide) ?_
  rintro mi abI cF;have:=cF.size;have hb:=bp hb cF (by omega);have ab:=ab.over cF (by omega);have hz:=bi.kp hz cF (fun h_=>by have bh:=aT _ h_;omega);have uH:=uH.over cF (by omega);have hPb2:=abI;refine al rn<|av fun _ oC=>?_
  have hP:RO mi p en g 0 (uX en [93] τ):=hback2 g 0 _ hPb2 cF;refine aQ<|aG (cr dc (by kernel_rfl) rfl (by exact fun j u hu=>uH.at hu)) rfl ?_
  refine ba (by kernel_rfl) rfl rfl ab rfl rfl ?_;rintro rO ab dw;have:=dw.size;have hb:=bp hb dw (by omega);have hP:=RO.over hP dw (by omega);have hz:=bi.kp hz dw (fun h_=>by have bh:=aT _ h_;omega);refine al oC<|aJ<|aX<|bQ (rs:= [.cell 2 31]) (vs:= [_]) rfl (.cell rfl (bP dc (by kernel_rfl) (fun j u hu=>ab.at hu)) .nil) ?_
  exact ⟨_,rfl,⟨x,_,⟨z,Sz,rfl,hz,fun k hk=>by have:=aT k hk;omega⟩,by rw [hpe,if_neg h1,if_pos h2,if_neg h50,ij hf1,Rr],hP⟩,hb⟩
 have Hh:=nw;simp only [DZ] at nw;have h2:¬t.t= [91]:=by have:=nw;simpa using this
 refine aU<|ax im<|am fun rp=>ae (aP (l5 _) rfl) rfl<|aG (aS di rfl (by exact bL.at (j:=1) rfl)) rfl<|aD Nf rfl rfl (Ge t.t [] _) rfl ?_
 rintro _ qw ⟨rfl,cL⟩;have:=cL.size;have hP:=RO.below hP cL;have ab:=ak.below ab cL;have bL:=ak.below bL cL;replace cL:=Below.kp (p:=p) cL;have hb:=hb.trans cL;rw [OW];refine an rfl<|al rp<|av fun _ qa=>am fun sh=>ai rfl<|ae (ed rfl rfl) rfl<|al sh<|aO rfl (fun wd=>?_) (fun wd=>?_)
 ·
  have XH:=wd;simp only [DZ] at wd;have h3:0<mf t.t:=by have:=wd;omega
  refine am fun xG=>ai rfl<|ae (cC (z:=n7) (pl:=n8) (cs:= [_,_,_,_,_,_,_,_,_,_,_,_,_,_,_,_,_,_,_,_]) dc (by kernel_rfl) (by kernel_rfl) rfl rfl rfl) rfl<|ba (by kernel_rfl) rfl rfl ab rfl rfl ?_
  rintro oj ab bO;have:=bO.size;have hb:=bp hb bO (by omega);have hP:=RO.over hP bO (by omega);refine al xG<|aJ<|aX<|bQ (rs:= [.cell 2 31]) (vs:= [_]) rfl (.cell rfl (bP dc (by kernel_rfl) (fun j u hu=>ab.at hu)) .nil) ?_
  exact ⟨_,rfl,⟨_,.ok () ts.tail,⟨⟨2,[],mf t.t,dE,dE,0,0,none,0,0⟩,fun _=>False,rfl,vd (kQ _ _) (kQ _ _),fun k h=>h.elim⟩,by rw [hpe,if_neg h1,if_neg h2,if_pos h3];rfl,hP⟩,hb⟩
 have XH:=wd;simp only [DZ] at wd;have h3:¬0<mf t.t:=by have:=wd;omega
 refine aU<|ax qa<|am fun px=>ai rfl<|ae (cC (z:=n7) (pl:=n8) (cs:= [_,_,_,_,_,_,_,_,_,_,_,_,_,_,_,_,_,_,_,_]) dc (by kernel_rfl) (by kernel_rfl) rfl rfl rfl) rfl<|aD To rfl rfl (Si p en g m 2 _ (.ok () ts.tail) hP (show ts.tail.length<m by omega)) rfl ?_
 rintro _ sD ⟨⟨x,τ,⟨z,Sz,rfl,hz,aT⟩,hf1,hP⟩,dr⟩;have:=dr.size;have ab:=ak.kp ab dr (by omega);have bL:=ak.kp bL dr (by omega);have hb:=hb.trans dr;refine bT (z:=hY) (by kernel_rfl) rfl ?_;rintro uF agP aaS iA qh;have:=qh.size;have hP:=hP.below qh;have ab:=ab.below qh;have bL:=bL.below qh;have hz:=hz.below qh;replace qh:=Below.kp (p:=p) qh;have hb:=hb.trans qh;have:=iA.lt;refine ba (by kernel_rfl) rfl rfl iA rfl rfl ?_;rintro DS iA gJ;have:=gJ.size;have hb:=bp hb gJ (by omega);have hP:=RO.over hP gJ (by omega);have ab:=ab.over gJ (by omega);have bL:=bL.over gJ (by omega);have hz:=bi.kp hz gJ (fun h_=>by have bh:=aT _ h_;omega);refine al px<|av fun _ py=>?_
 have hpe2:bR (.ok () ts) (gS en m g knot)=bR τ (rX en t.t x):=by rw [hpe,if_neg h1,if_neg h2,if_neg h3];exact ij hf1 _
 obtain ⟨us,ua,ue,hS,hσ⟩:=id hP;obtain ⟨c,hck⟩:∃c,c=aN en us:=⟨_,rfl⟩;refine aQ<|ai rfl<|aD u4 rfl rfl (u0 p en us g 0 ua ue _ hS) rfl ?_
 rintro _ sB ⟨rfl,cY⟩;have:=cY.size;have hP:=RO.below hP cY;have ab:=ak.below ab cY;have bL:=ak.below bL cY;have hz:=bi.below hz cY;have iA:=ak.below iA cY;replace cY:=Below.kp (p:=p) cY;have hb:=hb.trans cY;refine bT (z:=fx) (by kernel_rfl) rfl ?_;rintro ahP aix ahZ tl tH;have:=tH.size;have hP:=hP.below tH;have ab:=ab.below tH;have bL:=bL.below tH;have hz:=hz.below tH;have iA:=iA.below tH;replace tH:=Below.kp (p:=p) tH;have hb:=hb.trans tH;have:=tl.lt;rw [←hck];refine ba (by kernel_rfl) rfl rfl tl rfl rfl ?_;rintro Uo tl l9;have:=l9.size;have hb:=bp hb l9 (by omega);have hP:=RO.over hP l9 (by omega);have ab:=ab.over l9 (by omega);have bL:=bL.over l9 (by omega);have hz:=bi.kp hz l9 (fun h_=>by have bh:=aT _ h_;omega);have iA:=iA.over l9 (by omega);refine al py<|am fun pm=>ae (aP (l5 _) rfl) rfl<|aG (aS di rfl (by exact bL.at (j:=1) rfl)) rfl<|ae (aP (l5 _) rfl) rfl<|aG (aS di rfl (by exact tl.at (j:=1) rfl)) rfl<|aD Nf rfl rfl (Ge t.t c.t _) rfl ?_
 rintro _ oQ ⟨rfl,bE⟩;have:=bE.size;have hP:=RO.below hP bE;have ab:=ak.below ab bE;have hz:=bi.below hz bE;have iA:=ak.below iA bE;have tl:=ak.below tl bE;replace bE:=Below.kp (p:=p) bE;have hb:=hb.trans bE;refine ae (aP (y4 _) rfl) rfl<|fV b0 rfl rfl rfl iA (by show 2<20;decide) ?_
 rintro Up iA sl;have:=sl.size;have hb:=bp hb sl (by omega);have hP:=RO.over hP sl (by omega);have ab:=ab.over sl (by omega);have hz:=bi.kp hz sl (fun h_=>by have bh:=aT _ h_;omega);have tl:=tl.over sl (by omega);refine al pm<|av fun _ tm=>av fun _ rl=>?_
 obtain ⟨d,hd⟩:∃d,d=lz t.t c.t:=⟨_,rfl⟩;rw [←hd] at iA;have iA:ak Up uF 31 (PC.cells {z with dir:=d}):=iA;refine cR (X:=Bool) (fun q=> [(0,bH p),(2,.pointer (some ⟨au,0,none⟩)),(7,.pointer (some ⟨uF,0,none⟩)),(83,.bool q)]) (fun q wr=>q=decide (c.k≠5∨d=0)∧Kp p w wr∧RO wr p en g 0 τ∧bi wr Sz x z.cells∧(∀k,Sz k→w.heap.size≤k∧k<wr.heap.size∧k≠au∧k≠uF)∧ak wr uF 31 (PC.cells {z with dir:=d})∧(∃y_:PC,ak wr au 31 y_.cells)) (fun _ Cv=>?_) ?_
 ·
  refine aQ<|ae (aP (EN _) rfl) rfl<|aG (aS b0 rfl (by exact tl.at (j:=0) rfl)) rfl<|ae (fG rfl rfl) rfl<|ai rfl<|dy rfl rfl rfl (fun wR=>?_) (fun wR=>?_)
  ·
   have wS:=wR;simp only [DZ] at wR;have hk5:¬c.k=5:=by have:=wR;omega
   refine az rfl rfl wS rfl rfl<|az rfl rfl wS rfl rfl<|ae (bo rfl wS rfl) rfl<|ay<|a7 Cv (decide (c.k≠5∨d=0)) (by repeat first|exact aC|refine aA rfl (by first|rfl|exact a8 (by rw [Bool.eq_iff_iff];simp [hk5])) ?_) ?_
   exact ⟨rfl,hb,hP,hz,fun k hk=>by have:=aT k hk;omega,iA,⟨er,ab⟩⟩
  have wS:=wR;simp only [DZ] at wR;have hk5:c.k=5:=by have:=wR;omega
  refine ae (aP (y4 _) rfl) rfl<|ap rfl rfl wS<|aG (aS b0 rfl (by exact iA.at (j:=2) rfl)) rfl<|ap rfl rfl wS<|ae (bX rfl rfl) rfl<|ae (bj rfl wS rfl) rfl<|ay<|a7 Cv (decide (c.k≠5∨d=0)) (by repeat first|exact aC|refine aA rfl (by first|rfl|exact a8 (by rw [Bool.eq_iff_iff];simp [hk5])) ?_) ?_
  exact ⟨rfl,hb,hP,hz,fun k hk=>by have:=aT k hk;omega,iA,⟨er,ab⟩⟩
 rintro q wr rc;replace rc:q=decide (c.k≠5∨d=0)∧Kp p w wr∧RO wr p en g 0 τ∧bi wr Sz x z.cells∧(∀k,Sz k→w.heap.size≤k∧k<wr.heap.size∧k≠au∧k≠uF)∧ak wr uF 31 (PC.cells {z with dir:=d})∧(∃y_:PC,ak wr au 31 y_.cells):=rc;obtain ⟨hq,hb,hP,hz,aT,iA,⟨_,ab⟩⟩:=rc;show Wq _ _ _ _ [(0,bH p),(2,.pointer (some ⟨au,0,none⟩)),(7,.pointer (some ⟨uF,0,none⟩)),(83,.bool q)] _;have:=hb.size;have:=iA.lt;have:=ab.lt;refine ax rl<|aO rfl (fun Ia=>?_) (fun Ia=>?_)
 ·
  have Ib:=Ia;have hbad:c.k≠5∨d=0:=of_decide_eq_true (hq.symm.trans Ib)
  have hf:bR τ (rX en t.t x)=dZ oJ (uC en τ):=by
   rcases hσ with ⟨h,_,_⟩|⟨h,_⟩
   · rw [h];show rX en t.t x us=_;unfold rX;rw [←hck,←hd,if_pos hbad,hck];rfl
   · rw [h];rfl
  refine am fun B7=>ai rfl<|aD yr rfl rfl (yj p en g 0 τ _ hP) rfl ?_
  rintro _ u6 ⟨hP,eN⟩;have:=eN.size;have ab:=ak.kp ab eN (by omega);have hb:=hb.trans eN;refine al B7<|am fun B9=>ae (cC (z:=n7) (pl:=n8) (cs:= [_,_,_,_,_,_,_,_,_,_,_,_,_,_,_,_,_,_,_,_]) dc (by kernel_rfl) (by kernel_rfl) rfl rfl rfl) rfl<|ba (by kernel_rfl) rfl rfl ab rfl rfl ?_
  rintro aiA ab Lk;have:=Lk.size;have hb:=bp hb Lk (by omega);have hP:=RO.over hP Lk (by omega);refine al B9<|aJ<|aX<|bQ (rs:= [.cell 2 31]) (vs:= [_]) rfl (.cell rfl (bP dc (by kernel_rfl) (fun j u hu=>ab.at hu)) .nil) ?_
  exact ⟨_,rfl,⟨oJ,_,⟨er,_,rfl,ql _,fun k h=>h.elim⟩,hpe2.trans hf,hP⟩,hb⟩
 have Ib:=Ia;have hbad:¬(c.k≠5∨d=0):=of_decide_eq_false (hq.symm.trans Ib)
 have hf:bR τ (rX en t.t x)=dZ (x.setDir d) (S6 τ):=by
  rcases hσ with ⟨h,_,_⟩|⟨h,_⟩
  · rw [h];show rX en t.t x us=_;unfold rX;rw [←hck,←hd,if_neg hbad];rfl
  · rw [h];rfl
 have hnu:∀ts,τ= .ok () ts→ts≠ []:=fun r hr=>by
  rcases hσ with ⟨h,_,_⟩|⟨h,_⟩
  · rw [h] at hr;injection hr with _ hr2;subst hr2;intro e;subst e;exact hbad (.inl (by rw [hck];show (0:Nat)≠5;decide))
  · rw [h] at hr;cases hr
 refine aU<|ax tm<|am fun Kv=>ai rfl<|aD iP rfl rfl (aef p en g 0 τ hnu _ hP) rfl ?_
 rintro _ sC ⟨hP,fk⟩;have:=fk.size;have hz:=bi.kp hz fk (fun h_=>by have bh:=aT _ h_;omega);have iA:=ak.kp iA fk (by omega);have ab:=ak.kp ab fk (by omega);have hb:=hb.trans fk;refine al Kv<|am fun ZA=>aG (cr dc (by kernel_rfl) rfl (by exact fun j u hu=>iA.at hu)) rfl ?_
 refine ba (by kernel_rfl) rfl rfl ab rfl rfl ?_;rintro aiB ab Fg;have:=Fg.size;have hb:=bp hb Fg (by omega);have hP:=RO.over hP Fg (by omega);have hz:=bi.kp hz Fg (fun h_=>by have bh:=aT _ h_;omega);refine al ZA<|aJ<|bQ (rs:= [.cell 2 31]) (vs:= [_]) rfl (.cell rfl (bP dc (by kernel_rfl) (fun j u hu=>ab.at hu)) .nil) ?_
 exact ⟨_,rfl,⟨x.setDir d,_,⟨{z with dir:=d},Sz,rfl,bi.setDir d hz,fun k hk=>by have:=aT k hk;omega⟩,hpe2.trans hf,hP⟩,hb⟩
end Go.Proofs.YtjdjliiolchciaaGreatDoor
