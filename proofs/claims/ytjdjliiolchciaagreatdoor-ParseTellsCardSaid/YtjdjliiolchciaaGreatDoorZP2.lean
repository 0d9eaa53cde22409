import Derived.Test.YtjdjliiolchciaaGreatDoorZP1
namespace Go.Proofs.YtjdjliiolchciaaGreatDoor
open Go.RowKit Go.Bw Go.Bw.Fl
set_option linter.unusedVariables false
set_option linter.unusedSimpArgs false
theorem YX (p:Addr) (w:World):(Instr.fieldAt 49 (.pointer (some p)) 2).run Tryz.prog w= .ok (.pointer (some (p.add 3))) w:=eT (i:=2) (sz:=0) FZ rfl (by kernel_rfl) p w
theorem zX:bB Tryz.prog 134:=⟨_,Tryz.func134,by kernel_rfl,rfl⟩
theorem Tv:bB Tryz.prog 135:=⟨_,Tryz.func135,by kernel_rfl,rfl⟩
theorem TE:bB Tryz.prog 185:=⟨_,Tryz.func185,by kernel_rfl,rfl⟩
theorem afA:bB Tryz.prog 202:=⟨_,Tryz.func202,by kernel_rfl,rfl⟩
structure EC where
 k:Int
 nm:ao
 v:c7
 A:Option Addr
 n:Nat
 c:Nat
def EC.cells (x:EC):List Value:= [.int .i64 x.k,str x.nm,.int .i64 x.v.k,.int .i64 x.v.n,.float .f64 x.v.f,str x.v.s,.slice x.A x.n x.c]
def EC.enc (x:EC):Value:= .agg x.cells.toArray
def eU (B:Nat) (e:b6) (v:Value) (w:World):Prop:=∃(x:EC) (S:Nat→Prop),v=x.enc∧aY w S e x.cells∧∀k,S k→B≤k∧k<w.heap.size
theorem rQ (w:World) (S:Nat→Prop) (k:Int) (nm:ao) (v:c7):aY w S (.mk k nm v []) (EC.cells ⟨k,nm,v,none,0,0⟩):=UZ w S k nm v
def D2 (S:Nat→Prop) (w w':World) (k:Nat):Prop:=S k∨(w.heap.size≤k∧k<w'.heap.size)
theorem Tn (k:Int) (nm:ao) (x y:EC) (ex ey:b6) (S:Nat→Prop) (w:World) (hx:aY w S ex x.cells) (hy:aY w S ey y.cells):bx Tryz.prog 185 [.int .i64 k,str nm,x.enc,y.enc] w fun v w'=>(∃(z:EC) (S':Nat→Prop),v=z.enc∧aY w' S' (kT k nm ex ey) z.cells∧∀k,S' k→D2 S w w' k)∧Below w.heap.size w w':=by
 have hb:=Below.refl w.heap.size w;have lN:=hx;have lO:=hy;refine enter Tryz.func185 rfl rfl rfl<|am fun aR=>gp rfl rfl ?_
 rintro au dJ dH ab aM;have:=aM.size;have hb:=aZ hb aM;have hx:=lN.below hb;have hy:=lO.below hb;have:=ab.lt;refine gp rfl rfl ?_;rintro cV mU mK aq cT;have:=cT.size;have hb:=aZ hb cT;have hx:=lN.below hb;have hy:=lO.below hb;have ab:=ak.below ab cT;have:=aq.lt;refine bT (z:=fy) (by kernel_rfl) rfl ?_;rintro dq ks jH aE ck;have:=ck.size;have hb:=aZ hb ck;have hx:=lN.below hb;have hy:=lO.below hb;have ab:=ak.below ab ck;have aq:=ak.below aq ck;have:=aE.lt;refine al aR<|am fun dC=>ai rfl<|ai rfl<|aG (cr b5 (by kernel_rfl) rfl (by exact fun j u hu=>ab.at hu)) rfl<|aG (cr b5 (by kernel_rfl) rfl (by exact fun j u hu=>aq.at hu)) rfl<|cz (sz:=7) (vs:= [_,_]) j5 (by kernel_rfl) rfl rfl rfl rfl rfl rfl ?_
 rintro cp fA fw aI aV;have:=aV.size;have hb:=aZ hb aV;have hx:=lN.below hb;have hy:=lO.below hb;have aE:=ak.below aE aV;have:=aI.lt;refine ae (cC (z:=gd) (pl:=gf) (cs:= [_,_,_,_,_,_,_]) b5 (by kernel_rfl) (by kernel_rfl) rfl rfl rfl) rfl<|ba (by kernel_rfl) rfl rfl aE rfl rfl ?_
 rintro du aE aF;have:=aF.size;have hb:=cf hb aF hb.size (by omega);have hx:=lN.below hb;have hy:=lO.below hb;have aI:=aI.over aF (by omega);refine al dC<|aJ<|bQ (rs:= [.cell 8 28]) (vs:= [_]) rfl (.cell rfl (bP b5 (by kernel_rfl) (fun j u hu=>aE.at hu)) .nil) ?_
 exact ⟨_,rfl,⟨⟨k,nm,ch,some ⟨cp,0,none⟩,2,2⟩,fun k=>S k∨k=cp,rfl,aY.node (kids:= [ex,ey]) rfl (aI.rd 2 7 rfl) (.inr rfl) ((tX hx hy).mono fun _ h=> .inl h),fun k hk=>by rcases hk with h|h;(· exact .inl h);(· exact .inr (by have:=aI.lt;omega))⟩,hb⟩
theorem adk (s:ao) (ha:∀j,j<s.length→(s.getD j 0).toNat<128) (hs:s.length≤65536) (x y:EC) (ex ey:b6) (S:Nat→Prop) (w:World) (hS:∀k,S k→k<w.heap.size) (hx:aY w S ex x.cells) (hy:aY w S ey y.cells):bx Tryz.prog 194 [str s,x.enc,y.enc] w fun v w'=>(∃(z:EC) (S':Nat→Prop),v=z.enc∧aY w' S' (hZ s ex ey) z.cells∧∀k,S' k→D2 S w w' k)∧Below w.heap.size w w':=by
 have hb:=Below.refl w.heap.size w;have lN:=hx;have lO:=hy;refine enter Tryz.func194 rfl rfl rfl<|am fun aR=>gp rfl rfl ?_
 rintro au dJ dH ab aM;have:=aM.size;have hb:=aZ hb aM;have hx:=lN.below hb;have hy:=lO.below hb;have:=ab.lt;refine gp rfl rfl ?_;rintro cV mU mK aq cT;have:=cT.size;have hb:=aZ hb cT;have hx:=lN.below hb;have hy:=lO.below hb;have ab:=ak.below ab cT;have:=aq.lt;refine bT (z:=fy) (by kernel_rfl) rfl ?_;rintro dq ks jH aE ck;have:=ck.size;have hb:=aZ hb ck;have hx:=lN.below hb;have hy:=lO.below hb;have ab:=ak.below ab ck;have aq:=ak.below aq ck;have:=aE.lt;refine al aR<|av fun _ dC=>jg (n:=6) (fun w'=>Below w.heap.size w w'∧ak w' au 28 x.cells∧ak w' cV 28 y.cells∧∃cs,ak w' dq 28 cs) #[aj,aj,aj,aj,aj,aj] (by kernel_rfl) rfl (by kernel_rfl)<|jf ?_
 rintro Ab ga;have:=ga.size;have hb:=aZ hb ga;have hx:=lN.below hb;have hy:=lO.below hb;have ab:=ak.below ab ga;have aq:=ak.below aq ga;have aE:=ak.below aE ga;refine bC (i:=0) #[ah,aj,aj,aj,aj,aj] rfl (by kernel_rfl) bF rfl (fun wq hq=>bU (dN rfl)) ⟨hb,ab,aq,_,aE⟩<|bC (i:=2) #[ah,aj,ah,aj,aj,aj] rfl (by kernel_rfl) bF rfl (fun wq hq=>cr b5 (by kernel_rfl) rfl (by obtain ⟨hq,ab,aq,_,aE⟩:=hq;exact fun j u hu=>ab.at hu)) ⟨hb,ab,aq,_,aE⟩<|bC (i:=3) #[ah,aj,ah,ah,aj,aj] rfl (by kernel_rfl) bF rfl (fun wq hq=>cr b5 (by kernel_rfl) rfl (by obtain ⟨hq,ab,aq,_,aE⟩:=hq;exact fun j u hu=>aq.at hu)) ⟨hb,ab,aq,_,aE⟩<|cM (rs:= [1]) (by kernel_rfl) rfl<|cO #[ah,ah,ah,ah,aj,aj] rfl rfl (fun _ dW=>?_) ?_
 ·
  refine aD afA rfl rfl (VP s ha hs _) rfl ?_;rintro _ cB ⟨rfl,aw⟩;have:=aw.size;have hb:=aZ hb aw;have hx:=lN.below hb;have hy:=lO.below hb;have ab:=ak.below ab aw;have aq:=ak.below aq aw;have aE:=ak.below aE aw;refine ay<|cN dW ⟨hb,ab,aq,_,aE⟩<|cM (rs:= [4]) (by kernel_rfl) rfl<|cO #[ah,ah,ah,ah,ah,aj] rfl rfl (fun _ dT=>?_) ?_
  ·
   refine aD TE rfl rfl (Tn 3 (ip s) x y ex ey S _ hx hy) rfl ?_;rintro _ cU ⟨⟨z,Sz,rfl,hz,aT⟩,aL⟩;have:=aL.size;have hb:=aZ hb aL;have hx:=lN.below hb;have hy:=lO.below hb;have ab:=ak.below ab aL;have aq:=ak.below aq aL;have aE:=ak.below aE aL;refine ay<|cN dT ⟨hb,ab,aq,_,aE⟩<|cM (rs:= [5]) (by kernel_rfl) rfl<|cO #[ah,ah,ah,ah,ah,ah] rfl rfl (fun _ eh=>?_) ?_
   ·
    have aT:∀k,Sz k→(S k∨(cB.heap.size≤k∧k<cU.heap.size)):=aT;refine ba (by kernel_rfl) rfl rfl aE rfl rfl ?_;rintro du aE aF;have:=aF.size;have hb:=cf hb aF hb.size (by omega);have hx:=lN.below hb;have hy:=lO.below hb;have ab:=ab.over aF (by omega);have aq:=aq.over aF (by omega);have hz:=aY.kp hz aF (fun h_=>by have bh:=aT _ h_;first|omega|(rcases bh with dK|dK;(have kg:=hS _ dK;omega);omega));refine ay<|cN eh ⟨hb,ab,aq,_,aE⟩<|fB (by kernel_rfl)<|ax dC<|aJ<|bQ (rs:= [.cell 6 28]) (vs:= [_]) rfl (.cell rfl (bP b5 (by kernel_rfl) (fun j u hu=>aE.at hu)) .nil) ?_
    exact ⟨_,rfl,⟨z,Sz,rfl,hz,fun k hk=>by rcases aT k hk with h|h;(· exact .inl h);(· exact .inr (by omega))⟩,hb⟩
   exact cP
  exact cP
 exact cP
theorem Q5 (p en:Nat) (s:ao) (a:Int) (r ts:List Tok) (hrt:r.length≤ts.length) (hs:s.length≤140737488355328) (g b:Nat) (w:World) (hP:be w p en r g b):gC Tryz.prog 205 [str s,.int .i64 a] w (iR w p en g b ts (nf s a r) (eU w.heap.size)) (iD w p en g b (nf s a r)):=by
 have hpl:=hP.lt;have hb:=Kp.refl p w;refine enter Tryz.func205 rfl rfl rfl<|am fun aR=>bT (z:=fy) (by kernel_rfl) rfl ?_
 rintro au dJ dH ab aM;have:=aM.size;have hP:=hP.below aM;replace aM:=Below.kp (p:=p) aM;have hb:=hb.trans aM;have:=ab.lt;refine al aR<|am fun bt=>ai rfl<|aD FR rfl rfl (D5 s hs _ hP.lb) rfl ?_
 rintro _ cB ⟨⟨u,n,ok,rfl,hr⟩,aw⟩;have:=aw.size;have hP:=be.below hP aw;have ab:=ak.below ab aw;replace aw:=Below.kp (p:=p) aw;have hb:=hb.trans aw;refine ai rfl<|ae (cu rfl rfl) rfl<|ae (cu rfl rfl) rfl<|ae (cu rfl rfl) rfl<|bT (z:=mO) (by kernel_rfl) rfl ?_
 rintro gG tV oF bL ep;have:=ep.size;have hP:=hP.below ep;have ab:=ab.below ep;replace ep:=Below.kp (p:=p) ep;have hb:=hb.trans ep;have:=bL.lt;refine ba (by kernel_rfl) rfl rfl bL rfl rfl ?_;rintro du bL aF;have:=aF.size;have hb:=bp hb aF (by omega);have hP:=be.over hP aF (by omega);have ab:=ab.over aF (by omega);refine an rfl<|an rfl<|al bt<|av fun _ eh=>av fun _ fd=>?_
 obtain ⟨hlit,hno⟩:=Fv hr;refine cR (X:=Bool) (fun q=> [(0,str s),(1,.int .i64 a),(4,.pointer (some ⟨au,0,none⟩)),(5,.pointer (some ⟨gG,0,none⟩)),(21,.bool q)]) (fun q wr=>q=decide (¬(ok=true∧n=s.length))∧Kp p w wr∧be wr p en r g b∧ak wr gG 25 u.cells∧ak wr au 28 (EC.cells ⟨0,[],ch,none,0,0⟩)) (fun _ P1=>?_) ?_
 ·
  refine aQ<|ai rfl<|ae (jd rfl) rfl<|ai rfl<|dy rfl rfl rfl (fun jU=>?_) (fun jU=>?_)
  ·
   refine az rfl rfl jU rfl rfl<|az rfl rfl jU rfl rfl<|az rfl rfl jU rfl rfl<|ae (bo rfl jU rfl) rfl<|ay<|a7 P1 (decide (¬(ok=true∧n=s.length))) (by repeat first|exact aC|refine aA rfl (by first|rfl|exact a8 (by rw [Bool.eq_iff_iff];simp_all<;>omega)) ?_) ?_
   exact ⟨rfl,hb,hP,bL,ab⟩
  refine ai rfl<|ap rfl rfl jU<|ai rfl<|ap rfl rfl jU<|ae (ez bI (by omega) rfl) rfl<|ap rfl rfl jU<|ae (fG rfl rfl) rfl<|ae (bj rfl jU rfl) rfl<|ay<|a7 P1 (decide (¬(ok=true∧n=s.length))) (by repeat first|exact aC|refine aA rfl (by first|rfl|exact a8 (by rw [Bool.eq_iff_iff];simp_all<;>omega)) ?_) ?_
  exact ⟨rfl,hb,hP,bL,ab⟩
 rintro q wr rf;replace rf:q=decide (¬(ok=true∧n=s.length))∧Kp p w wr∧be wr p en r g b∧ak wr gG 25 u.cells∧ak wr au 28 (EC.cells ⟨0,[],ch,none,0,0⟩):=rf;obtain ⟨hq,hb,hP,bL,ab⟩:=rf;show Wq _ _ _ _ [(0,str s),(1,.int .i64 a),(4,.pointer (some ⟨au,0,none⟩)),(5,.pointer (some ⟨gG,0,none⟩)),(21,.bool q)] _;have:=hb.size;have:=bL.lt;have:=ab.lt;refine ax fd<|aO rfl (fun vy=>?_) (fun vy=>?_)
 ·
  have vz:=vy;have hq0:=of_decide_eq_true (hq.symm.trans vz);have hf:nf s a r= .err a 2:=by simp only [nf,hlit,if_neg hq0]
  refine aQ<|ai rfl<|ae (cC (z:=tI) (pl:= [(0,1),(1,1)]) (cs:= [_,_]) kU (by kernel_rfl) (by kernel_rfl) rfl rfl rfl) rfl<|ae (pP kU (by intro _ h;cases h) rfl) rfl<|sO rfl<|cJ<|eH ?_
  exact dY ⟨_,_,hf,rfl,⟨_,hP⟩,hb⟩
 have vz:=vy;have hq0:=Classical.not_not.1 (of_decide_eq_false (hq.symm.trans vz));have hf:nf s a r= .ok (.mk 1 [] u []) r:=by simp only [nf,hlit,if_pos hq0]
 refine aU<|ax eh<|am fun k8=>aG (cr ek (by kernel_rfl) rfl (by exact fun j u hu=>bL.at hu)) rfl ?_
 refine ae (cC (z:=gd) (pl:=gf) (cs:= [_,_,_,_,_,_,_]) b5 (by kernel_rfl) (by kernel_rfl) rfl rfl rfl) rfl<|ba (by kernel_rfl) rfl rfl ab rfl rfl ?_
 rintro ff ab bc;have:=bc.size;have hb:=bp hb bc (by omega);have hP:=be.over hP bc (by omega);refine al k8<|aJ<|bQ (rs:= [.cell 4 28]) (vs:= [_]) rfl (.cell rfl (bP b5 (by kernel_rfl) (fun j u hu=>ab.at hu)) .nil) ?_
 exact eY ⟨⟨_,_,hf,⟨⟨1,[],u,none,0,0⟩,fun _=>False,rfl,rQ _ _ 1 [] u,fun _ h=>h.elim⟩,hP,hrt⟩,hb⟩
structure iv {α:Type} (w0:World) (p en g b m:Nat) (f:FuncId) (l c:Array Value) (F:List Tok→cn α) (V:Nat→α→Value→World→Prop):Prop where
 txt:bB Tryz.prog f
 does:∀(w:World) (ts:List Tok),Kp p w0 w→be w p en ts g b→ts.length<m→gC Tryz.prog f (l.toList++ []++c.toList) w (iR w p en g b ts (F ts) (V w.heap.size)) (iD w p en g b (F ts))
theorem iv.kp {α:Type} {w0 w:World} {p en g b m:Nat} {f:FuncId} {l c:Array Value} {F:List Tok→cn α} {V:Nat→α→Value→World→Prop} (h:iv w0 p en g b m f l c F V) (hk:Kp p w0 w):iv w p en g b m f l c F V:=⟨h.txt,fun w' ts h1 h2 h3=>h.does w' ts (hk.trans h1) h2 h3⟩
theorem z8:bB Tryz.prog 169:=⟨_,Tryz.func169,by kernel_rfl,rfl⟩
theorem pR.mono {f:FuncId} {args:List Value} {w:World} {R R':World→Prop} (h:pR Tryz.prog f args w R) (hr:∀w',R w'→R' w'):pR Tryz.prog f args w R':=fun u=>(h u).mono fun e u' w' ⟨h1,h2,h3⟩=>⟨h1,h2,hr w' h3⟩
theorem RJ {p en g b gx:Nat} {w:World} (hP:∃r,be w p en r g (b+1)) (hb0:b<50) (hx:p<gx) (hB:ak w gx 167 [.pointer (some (Em p))]):pR Tryz.prog 169 [.pointer (some ⟨gx,0,none⟩)] w fun w'=>(∃r,be w' p en r g b)∧Kp p w w':=by
 obtain ⟨r,hP⟩:=hP;exact pR.mono (RI p en r g b gx w hP hb0 hx hB) fun w' h=>⟨⟨r,h.1⟩,h.2⟩
theorem RL {p en g b gx:Nat} {w:World} (hP:∃r,be w p en r (g+1) b) (hb0:g<50) (hx:p<gx) (hB:ak w gx 167 [.pointer (some (E0 p))]):pR Tryz.prog 169 [.pointer (some ⟨gx,0,none⟩)] w fun w'=>(∃r,be w' p en r g b)∧Kp p w w':=by
 obtain ⟨r,hP⟩:=hP;exact pR.mono (RK p en r g b gx w hP hb0 hx hB) fun w' h=>⟨⟨r,h.1⟩,h.2⟩
theorem Oq (p en:Nat) (ts:List Tok) (g b m:Nat) (f:FuncId) (l c:Array Value) (knot:Nat→Pe) (hm:ts.length≤m) (w:World) (hP:be w p en ts g b) (hD:iv w p en g (b+1) m f l c (knot (b+1)) eU):gC Tryz.prog 198 [bH p,.func (.func f) l c] w (iR w p en g b ts (lS en b knot ts) (eU w.heap.size)) (iD w p en g b (lS en b knot ts)):=by
 have hpl:=hP.lt;have hb:=Kp.refl p w;refine IV Tryz.func198 rfl rfl rfl<|fg fun _ aR=>aQ<|bT (z:=fy) (by kernel_rfl) rfl ?_
 rintro au dJ dH ab aM;have:=aM.size;have hP:=hP.below aM;replace aM:=Below.kp (p:=p) aM;have hb:=hb.trans aM;have:=ab.lt;refine ay<|e9 aR<|fg fun _ bt=>jg (n:=8) (fun w'=>Kp p w w'∧ak w' au 28 (EC.cells ⟨0,[],ch,none,0,0⟩)) #[aj,aj,aj,aj,aj,aj,aj,aj] (by kernel_rfl) rfl (by kernel_rfl)<|jf ?_
 rintro Ab ga;have:=ga.size;have hP:=hP.below ga;have ab:=ab.below ga;replace ga:=Below.kp (p:=p) ga;have hb:=hb.trans ga;refine bC (i:=0) #[ah,aj,aj,aj,aj,aj,aj,aj] rfl (by kernel_rfl) (fun _ _ _ h=>kO rfl rfl h) rfl (fun wq hq=>bU (dN rfl)) ⟨hb,ab⟩<|bC (i:=1) #[ah,ah,aj,aj,aj,aj,aj,aj] rfl (by kernel_rfl) (fun _ _ _ h=>kO rfl rfl h) rfl (fun wq hq=>bU (cI rfl)) ⟨hb,ab⟩<|bC (i:=2) #[ah,ah,ah,aj,aj,aj,aj,aj] rfl (by kernel_rfl) (fun _ _ _ h=>kO rfl rfl h) rfl (fun wq hq=>bU (aP (YX _) rfl)) ⟨hb,ab⟩<|bC (i:=3) #[ah,ah,ah,ah,aj,aj,aj,aj] rfl (by kernel_rfl) (fun _ _ _ h=>kO rfl rfl h) rfl (fun wq hq=>bU (dN rfl)) ⟨hb,ab⟩<|cM (rs:= [4]) (by kernel_rfl) rfl<|qB #[ah,ah,ah,ah,ah,aj,aj,aj] rfl rfl (fun _ eX=>?_) ?_
 ·
  refine dQ zX rfl rfl (zU p en [40] ts g b _ hP) rfl (fun v_ cB cc=>?_) (fun c_ cB cg=>?_)
  rotate_left
  ·
   obtain ⟨pV,p3,jt,rfl,jw,aw⟩:=cg;have gK:=aw.size;have hb:=hb.trans aw;refine cJ<|cJ<|uc ?_
   exact dY ⟨_,_,by simp only [lS,jt],rfl,jw,hb⟩
  obtain ⟨⟨t,r,hF,rfl,hP,hrl⟩,aw⟩:=cc;have gK:=aw.size;have ab:=ab.kp aw (by omega);have hb:=hb.trans aw;refine ay<|qA eX ⟨hb,ab⟩<|bC (i:=5) #[ah,ah,ah,ah,ah,ah,aj,aj] rfl (by kernel_rfl) (fun _ _ _ h=>kO rfl rfl h) rfl (fun wq hq=>bU (ni fe rfl b0 rfl rfl)) ⟨hb,ab⟩<|cM (rs:= [6]) (by kernel_rfl) rfl<|qB #[ah,ah,ah,ah,ah,ah,ah,aj] rfl rfl (fun _ dT=>?_) ?_
  ·
   refine dQ Tv rfl rfl (agR p en r g b t.a _ hP) rfl (fun v_ cU cc=>?_) (fun c_ cU cg=>?_)
   rotate_left
   ·
    obtain ⟨pW,p4,kF,rfl,lg,aL⟩:=cg;have i7:=aL.size;have hb:=hb.trans aL;refine cJ<|cJ<|uc ?_
    obtain ⟨h50,bM,kn⟩:=kF;subst bM;subst kn;exact dY ⟨_,_,by simp only [lS,hF,if_pos h50],rfl,lg,hb⟩
   obtain ⟨⟨gx,rfl,hBx,hgx,hP,hb50⟩,aL⟩:=cc;have i7:=aL.size;have ab:=ab.kp aL (by omega);have hb:=hb.trans aL;have hlx:=hBx.lt;refine ay<|qA dT ⟨hb,ab⟩<|cM (rs:= [7]) (by kernel_rfl) rfl<|qB #[ah,ah,ah,ah,ah,ah,ah,ah] rfl rfl (fun _ eh=>?_) ?_
   ·
    refine Gn rfl rfl<|ay<|qA eh ⟨hb,ab⟩<|fB (by kernel_rfl)<|e9 bt<|fg fun _ fd=>?_
    have hnb:¬50≤b:=by omega
    have htl:r.length<m:=by
     unfold eO at hF
     split at hF
     · rename_i hi;injection hF with h1 h2;have:=List.length_pos_iff.2 (eB hi);rw [←h2,List.length_tail];omega
     · cases hF
    refine aQ<|ai rfl<|dQ hD.txt rfl rfl (hD.does _ r hb hP (by omega)) rfl (fun v_ eP cc=>?_) (fun c_ eP cg=>?_)
    rotate_left
    ·
     obtain ⟨Od,OZ,BX,rfl,CC,a6⟩:=cg;have rD:=a6.size;have hBx:=hBx.kp a6 (by omega);have hb:=hb.trans a6;refine cJ<|Ed z8 (RJ CC hb50 (by omega) hBx) (fun w_d hS=>?_)
     exact dY ⟨_,_,by simp only [lS,hF,if_neg hnb,BX],rfl,hS.1,hb.trans hS.2⟩
    obtain ⟨⟨x,r2,hF2,⟨z,Sz,rfl,hz,aT⟩,hP,hrl2⟩,a6⟩:=cc;have rD:=a6.size;have ab:=ab.kp a6 (by omega);have hBx:=hBx.kp a6 (by omega);have hb:=hb.trans a6;refine bT (z:=fy) (by kernel_rfl) rfl ?_;rintro fJ Ae qf cq gc;have:=gc.size;have hP:=hP.below gc;have ab:=ab.below gc;have hBx:=hBx.below gc;have hz:=hz.below gc;replace gc:=Below.kp (p:=p) gc;have hb:=hb.trans gc;have:=cq.lt;refine ba (by kernel_rfl) rfl rfl cq rfl rfl ?_;rintro du cq aF;have:=aF.size;have hb:=bp hb aF (by omega);have hP:=be.over hP aF (by omega);have ab:=ab.over aF (by omega);have hBx:=hBx.over aF (by omega);have hz:=aY.kp hz aF (fun h_=>by have bh:=aT _ h_;omega);refine ay<|e9 fd<|fg fun _ dG=>aQ<|ai rfl<|dQ zX rfl rfl (zU p en [41] r2 g (b+1) _ hP) rfl (fun v_ fj cc=>?_) (fun c_ fj cg=>?_)
    rotate_left
    ·
     obtain ⟨vu,wN,nO,rfl,nW,bk⟩:=cg;have mM:=bk.size;have hBx:=hBx.kp bk (by omega);have hb:=hb.trans bk;refine cJ<|Ed z8 (RJ nW hb50 (by omega) hBx) (fun w_d hS=>?_)
     exact dY ⟨_,_,by simp only [lS,hF,if_neg hnb,hF2,nO],rfl,hS.1,hb.trans hS.2⟩
    obtain ⟨⟨t3,r3,hF3,rfl,hP,hrl3⟩,bk⟩:=cc;have mM:=bk.size;have ab:=ab.kp bk (by omega);have hBx:=hBx.kp bk (by omega);have hz:=hz.kp bk (fun h_=>by have bh:=aT _ h_;omega);have cq:=cq.kp bk (by omega);have hb:=hb.trans bk;refine ay<|e9 dG<|fg fun _ mC=>?_
    refine aQ ?_;refine aG (cr b5 (by kernel_rfl) rfl (by exact fun j u hu=>cq.at hu)) rfl ?_;refine ba (by kernel_rfl) rfl rfl ab rfl rfl ?_;rintro ff ab bc;have:=bc.size;have hb:=bp hb bc (by omega);have hP:=be.over hP bc (by omega);have hBx:=hBx.over bc (by omega);have hz:=aY.kp hz bc (fun h_=>by have bh:=aT _ h_;omega);refine ay<|e9 mC<|aJ<|Oa z8 (RI p en r3 g b gx _ hP hb50 (by omega) hBx) (fun w_d hS=>?_)
    obtain ⟨hP,tD⟩:=hS;have:=tD.size;have ab:=ab.kp tD (by omega);have hz:=aY.kp hz tD (fun h_=>by have bh:=aT _ h_;omega);have hb:=hb.trans tD;refine bQ (rs:= [.cell 4 28]) (vs:= [_]) rfl (.cell rfl (bP b5 (by kernel_rfl) (fun j u hu=>ab.at hu)) .nil) ?_;exact eY ⟨⟨x,r3,by simp only [lS,hF,if_neg hnb,hF2,hF3],⟨z,Sz,rfl,hz,fun k hk=>by have:=aT k hk;omega⟩,hP,by omega⟩,hb⟩
   exact cP
  exact cP
 exact cP
theorem I1 (p:Addr) (w:World):(Instr.fieldAt 28 (.pointer (some p)) 0).run Tryz.prog w= .ok (.pointer (some (p.add 0))) w:=eT (i:=0) (sz:=0) b5 rfl (by kernel_rfl) p w
theorem EL (p:Addr) (w:World):(Instr.fieldAt 28 (.pointer (some p)) 1).run Tryz.prog w= .ok (.pointer (some (p.add 1))) w:=eT (i:=1) (sz:=0) b5 rfl (by kernel_rfl) p w
structure Gb (w0:World) (p:Nat) (f:FuncId) (l c:Array Value) (M:ao→b6→b6→b6) (signs:List (ao)):Prop where
 txt:bB Tryz.prog f
 does:∀(w:World) (s:ao) (x y:EC) (ex ey:b6) (S:Nat→Prop),Kp p w0 w→s∈signs→(∀k,S k→k<w.heap.size)→aY w S ex x.cells→aY w S ey y.cells→bx Tryz.prog f (l.toList++ [str s,x.enc,y.enc]++c.toList) w fun v w'=>(∃(z:EC) (S':Nat→Prop),v=z.enc∧aY w' S' (M s ex ey) z.cells∧∀k,S' k→D2 S w w' k)∧Below w.heap.size w w'
theorem qi {en:Nat} {xs:List (ao)} {ts:List Tok} (h:bv en xs ts=true):(aN en ts).t∈xs:=(of_decide_eq_true h).2
theorem uW (p en:Nat) (ts:List Tok) (g b m:Nat) (f:FuncId) (l c:Array Value) (F:Pe) (f2:FuncId) (l2 c2:Array Value) (M:ao→b6→b6→b6) (A:Option Addr) (cap:Nat) (signs:List (ao)) (hs:signs.length≤1000) (hm:ts.length<m) (w:World) (hP:be w p en ts g b) (hD:iv w p en g b m f l c F eU) (hM:Gb w p f2 l2 c2 M signs) (hR:Rd w 1 A signs.length (b9 signs)) (hRp:∀q,A=some q→q.block≠p):gC Tryz.prog 190 [bH p,.func (.func f) l c,.func (.func f2) l2 c2,.slice A signs.length cap] w (iR w p en g b ts (jK en F M signs ts) (eU w.heap.size)) (iD w p en g b (jK en F M signs ts)):=by
 have hpl:=hP.lt;have hb:=Kp.refl p w;refine enter Tryz.func190 rfl rfl rfl<|am fun aR=>bT (z:=fy) (by kernel_rfl) rfl ?_
 rintro au dJ dH ab aM;have:=aM.size;have hP:=hP.below aM;replace aM:=Below.kp (p:=p) aM;have hb:=hb.trans aM;have:=ab.lt;refine al aR<|am fun bt=>ai rfl<|dQ hD.txt rfl rfl (hD.does _ ts hb hP hm) rfl (fun v_ cB cc=>?_) (fun c_ cB cg=>?_)
 rotate_left
 ·
  obtain ⟨pV,p3,jt,rfl,jw,aw⟩:=cg;have gK:=aw.size;have hb:=hb.trans aw;refine cJ<|eH ?_
  exact dY ⟨_,_,by simp only [jK,jt],rfl,jw,hb⟩
 obtain ⟨⟨x,r,hF,⟨z,Sz,rfl,hz,aT⟩,hP,hrl⟩,aw⟩:=cc;have gK:=aw.size;have ab:=ab.kp aw (by omega);have hb:=hb.trans aw;refine bT (z:=fy) (by kernel_rfl) rfl ?_;rintro dq ks jH aE ck;have:=ck.size;have hP:=hP.below ck;have ab:=ab.below ck;have hz:=hz.below ck;replace ck:=Below.kp (p:=p) ck;have hb:=hb.trans ck;have:=aE.lt;refine ba (by kernel_rfl) rfl rfl aE rfl rfl ?_;rintro du aE aF;have:=aF.size;have hb:=bp hb aF (by omega);have hP:=be.over hP aF (by omega);have ab:=ab.over aF (by omega);have hz:=aY.kp hz aF (fun h_=>by have bh:=aT _ h_;omega);refine al bt<|av fun _ dV=>b4<|d9 (X:=EC×(Nat→Prop)×b6×List Tok×Nat) (fun (x,S,e,r,n)=> [(0,bH p),(1,.func (.func f) l c),(2,.func (.func f2) l2 c2),(3,.slice A signs.length cap),(8,.pointer (some ⟨au,0,none⟩)),(9,.pointer (some ⟨dq,0,none⟩))]) (fun (x,S,e,r,n) wr=>jK en F M signs ts=jJ en F M signs n e r∧r.length≤n∧r.length≤ts.length∧Kp p w wr∧be wr p en r g b∧aY wr S e x.cells∧(∀k,S k→w.heap.size≤k∧k<wr.heap.size∧k≠dq∧k≠au)∧ak wr dq 28 x.cells∧(∃y:EC,ak wr au 28 y.cells)) (fun (x,S,e,r,n)=>r.length) (⟨z,Sz,x,r,r.length⟩) ?_ ?_ ?_
 · exact by repeat first|exact aC|refine aA rfl (by first|rfl|exact aH (by omega)) ?_
 · exact ⟨by simp only [jK,hF],Nat.le_refl _,hrl,hb,hP,hz,fun k hk=>by have:=aT k hk;omega,aE,⟨⟨0,[],ch,none,0,0⟩,ab⟩⟩
 rintro ⟨x,S,e,r,n⟩ wr lI _ si;replace lI:jK en F M signs ts=jJ en F M signs n e r∧r.length≤n∧r.length≤ts.length∧Kp p w wr∧be wr p en r g b∧aY wr S e x.cells∧(∀k,S k→w.heap.size≤k∧k<wr.heap.size∧k≠dq∧k≠au)∧ak wr dq 28 x.cells∧(∃y:EC,ak wr au 28 y.cells):=lI;obtain ⟨hF,hn,hrl,hb,hP,hx,dt,aE,⟨y0,ab⟩⟩:=lI;show Wc _ _ _ _ _ [(0,bH p),(1,.func (.func f) l c),(2,.func (.func f2) l2 c2),(3,.slice A signs.length cap),(8,.pointer (some ⟨au,0,none⟩)),(9,.pointer (some ⟨dq,0,none⟩))] _;have:=hb.size;have:=aE.lt;have:=ab.lt;refine av fun _ fZ=>am fun dT=>ai rfl<|ae (cI rfl) rfl<|ae (aP (fH _) rfl) rfl<|ai rfl<|aD j4 rfl rfl (jY p en r g b A cap signs hs _ hP (hR.kp hb hRp)) rfl ?_
 rintro _ cU ⟨rfl,aL⟩;have:=aL.size;have hP:=be.below hP aL;have hx:=aY.below hx aL;have aE:=ak.below aE aL;have ab:=ak.below ab aL;replace aL:=Below.kp (p:=p) aL;have hb:=hb.trans aL;refine al dT<|aO rfl (fun dD=>?_) (fun dD=>?_)
 ·
  have kx:=dD;have hi:bv en signs r=true:=kx;have hne:r≠ []:=eB hi;have hr0:=List.length_pos_iff.2 hne;have hrt:r.tail.length=r.length - 1:=List.length_tail;obtain ⟨n,rfl⟩:∃k,n=k+1:=⟨n - 1,by omega⟩;refine aU<|ax fZ<|b4<|am fun dG=>ai rfl<|aD jM rfl rfl (jL p en r g b hne _ hP) rfl ?_
  rintro _ eP ⟨⟨rfl,hP⟩,a6⟩;have:=a6.size;have hx:=aY.kp hx a6 (fun h_=>by have bh:=dt _ h_;omega);have aE:=ak.kp aE a6 (by omega);have ab:=ak.kp ab a6 (by omega);have hb:=hb.trans a6;refine ae (ni fe rfl di rfl rfl) rfl<|an rfl<|al dG<|jg (n:=7) (fun w'=>Kp p w w'∧∃y,ak w' dq 28 y) #[aj,aj,aj,aj,aj,aj,aj] (by kernel_rfl) rfl (by kernel_rfl)<|jf ?_
  rintro agF ma;have:=ma.size;have hP:=hP.below ma;have hx:=hx.below ma;have aE:=aE.below ma;have ab:=ab.below ma;replace ma:=Below.kp (p:=p) ma;have hb:=hb.trans ma;refine bC (i:=0) #[ah,aj,aj,aj,aj,aj,aj] rfl (by kernel_rfl) bF rfl (fun wq hq=>bU (dN rfl)) ⟨hb,_,aE⟩<|bC (i:=1) #[ah,ah,aj,aj,aj,aj,aj] rfl (by kernel_rfl) bF rfl (fun wq hq=>bU (dN rfl)) ⟨hb,_,aE⟩<|bC (i:=3) #[ah,ah,aj,ah,aj,aj,aj] rfl (by kernel_rfl) bF rfl (fun wq hq=>bU (dN rfl)) ⟨hb,_,aE⟩<|cM (rs:= [2,4]) (by kernel_rfl) rfl<|cO #[ah,ah,ah,ah,aj,aj,aj] rfl rfl (fun _ ju=>?_) ?_
  ·
   refine aG (cr b5 (by kernel_rfl) rfl (by exact fun j u hu=>aE.at hu)) rfl<|ay<|cN ju ⟨hb,_,aE⟩<|cM (rs:= [4]) (by kernel_rfl) rfl<|cO #[ah,ah,ah,ah,ah,aj,aj] rfl rfl (fun _ fu=>?_) ?_
   ·
    refine dQ hD.txt rfl rfl (hD.does _ r.tail hb hP (by omega)) rfl (fun v_ fj cc=>?_) (fun c_ fj cg=>?_)
    rotate_left
    ·
     obtain ⟨vu,wN,nO,rfl,nW,bk⟩:=cg;have mM:=bk.size;have hb:=hb.trans bk;refine cJ<|jh<|cJ<|jh<|cJ<|eH ?_
     exact dY ⟨_,_,by rw [hF];simp only [jJ,if_pos hi,nO],rfl,nW,hb⟩
    obtain ⟨⟨y,r2,hF2,⟨zy,Sy,rfl,hy,fp⟩,hP,hrl2⟩,bk⟩:=cc;have mM:=bk.size;have hx:=hx.kp bk (fun h_=>by have bh:=dt _ h_;omega);have aE:=aE.kp bk (by omega);have ab:=ab.kp bk (by omega);have hb:=hb.trans bk;refine ay<|cN fu ⟨hb,_,aE⟩<|cM (rs:= [5]) (by kernel_rfl) rfl<|cO #[ah,ah,ah,ah,ah,ah,aj] rfl rfl (fun _ iJ=>?_) ?_
    ·
     refine dQ hM.txt rfl rfl (tZ (X:=fun _ _=>False) (hM.does _ (aN en r).t x zy e y (fun k=>S k∨Sy k) hb (qi hi) (fun k hk=>by rcases hk with h|h;(· have:=dt k h;omega);(· have:=fp k h;omega)) (hx.mono fun _ h=> .inl h) (hy.mono fun _ h=> .inr h))) rfl (fun v_ gj cc=>?_) (fun c_ gj cg=>?_)
     rotate_left
     ·
      exact cg.elim
     obtain ⟨⟨z,Sz,rfl,hz,aT⟩,bD⟩:=cc;have ya:=bD.size;have hP:=be.below hP bD;have aE:=ak.below aE bD;have ab:=ak.below ab bD;replace bD:=Below.kp (p:=p) bD;have hb:=hb.trans bD
     have aT:∀k,Sz k→w.heap.size≤k∧k<gj.heap.size∧k≠dq∧k≠au:=fun k hk=>by
      rcases aT k hk with (h|h)|h
      · have:=dt k h;omega
      · have:=fp k h;omega
      · omega
     refine ay<|cN iJ ⟨hb,_,aE⟩<|cM (rs:= [6]) (by kernel_rfl) rfl<|cO #[ah,ah,ah,ah,ah,ah,ah] rfl rfl (fun _ gP=>?_) ?_
     ·
      refine ba (by kernel_rfl) rfl rfl aE rfl rfl ?_;rintro ff aE bc;have abT:=bc.size;have hb:=bp hb bc (by omega);have hP:=be.over hP bc (by omega);have ab:=ab.over bc (by omega);have hz:=aY.kp hz bc (fun h_=>by have bh:=aT _ h_;omega);refine ay<|cN gP ⟨hb,_,aE⟩<|fB (by kernel_rfl)<|cD<|fun a_ bM=>si _ _ (⟨z,Sz,M (aN en r).t e y,r2,n⟩) (by simp;omega) (by repeat first|exact aC|refine aA rfl (by first|rfl|exact aH (by omega)) ?_) ?_ a_ bM
      exact ⟨by rw [hF];simp only [jJ,if_pos hi,hF2],by omega,by omega,hb,hP,hz,fun k hk=>by have:=aT k hk;omega,aE,⟨_,ab⟩⟩
     exact cP
    exact cP
   exact cP
  refine cO #[ah,ah,aj,ah,ah,aj,aj] rfl rfl (fun _ kG=>?_) ?_
  ·
   refine dQ hD.txt rfl rfl (hD.does _ r.tail hb hP (by omega)) rfl (fun v_ fj cc=>?_) (fun c_ fj cg=>?_)
   rotate_left
   ·
    obtain ⟨vu,wN,nO,rfl,nW,bk⟩:=cg;have mM:=bk.size;have hb:=hb.trans bk;refine cJ<|jh<|cJ<|jh<|cJ<|eH ?_
    exact dY ⟨_,_,by rw [hF];simp only [jJ,if_pos hi,nO],rfl,nW,hb⟩
   obtain ⟨⟨y,r2,hF2,⟨zy,Sy,rfl,hy,fp⟩,hP,hrl2⟩,bk⟩:=cc;have mM:=bk.size;have hx:=hx.kp bk (fun h_=>by have bh:=dt _ h_;omega);have aE:=aE.kp bk (by omega);have ab:=ab.kp bk (by omega);have hb:=hb.trans bk;refine ay<|cN kG ⟨hb,_,aE⟩<|cM (rs:= [2]) (by kernel_rfl) rfl<|cO #[ah,ah,ah,ah,ah,aj,aj] rfl rfl (fun _ gI=>?_) ?_
   ·
    refine aG (cr b5 (by kernel_rfl) rfl (by exact fun j u hu=>aE.at hu)) rfl<|ay<|cN gI ⟨hb,_,aE⟩<|cM (rs:= [5]) (by kernel_rfl) rfl<|cO #[ah,ah,ah,ah,ah,ah,aj] rfl rfl (fun _ kH=>?_) ?_
    ·
     refine dQ hM.txt rfl rfl (tZ (X:=fun _ _=>False) (hM.does _ (aN en r).t x zy e y (fun k=>S k∨Sy k) hb (qi hi) (fun k hk=>by rcases hk with h|h;(· have:=dt k h;omega);(· have:=fp k h;omega)) (hx.mono fun _ h=> .inl h) (hy.mono fun _ h=> .inr h))) rfl (fun v_ gj cc=>?_) (fun c_ gj cg=>?_)
     rotate_left
     ·
      exact cg.elim
     obtain ⟨⟨z,Sz,rfl,hz,aT⟩,bD⟩:=cc;have ya:=bD.size;have hP:=be.below hP bD;have aE:=ak.below aE bD;have ab:=ak.below ab bD;replace bD:=Below.kp (p:=p) bD;have hb:=hb.trans bD
     have aT:∀k,Sz k→w.heap.size≤k∧k<gj.heap.size∧k≠dq∧k≠au:=fun k hk=>by
      rcases aT k hk with (h|h)|h
      · have:=dt k h;omega
      · have:=fp k h;omega
      · omega
     refine ay<|cN kH ⟨hb,_,aE⟩<|cM (rs:= [6]) (by kernel_rfl) rfl<|cO #[ah,ah,ah,ah,ah,ah,ah] rfl rfl (fun _ k9=>?_) ?_
     ·
      refine ba (by kernel_rfl) rfl rfl aE rfl rfl ?_;rintro ff aE bc;have abT:=bc.size;have hb:=bp hb bc (by omega);have hP:=be.over hP bc (by omega);have ab:=ab.over bc (by omega);have hz:=aY.kp hz bc (fun h_=>by have bh:=aT _ h_;omega);refine ay<|cN k9 ⟨hb,_,aE⟩<|fB (by kernel_rfl)<|cD<|fun a_ bM=>si _ _ (⟨z,Sz,M (aN en r).t e y,r2,n⟩) (by simp;omega) (by repeat first|exact aC|refine aA rfl (by first|rfl|exact aH (by omega)) ?_) ?_ a_ bM
      exact ⟨by rw [hF];simp only [jJ,if_pos hi,hF2],by omega,by omega,hb,hP,hz,fun k hk=>by have:=aT k hk;omega,aE,⟨_,ab⟩⟩
     exact cP
    exact cP
   exact cP
  exact cP
 have kx:=dD;have hi:bv en signs r=false:=kx;refine d2<|cj<|cj<|d3<|ax dV<|am fun nP=>?_
 refine aG (cr b5 (by kernel_rfl) rfl (by exact fun j u hu=>aE.at hu)) rfl ?_;refine ba (by kernel_rfl) rfl rfl ab rfl rfl ?_;rintro gB ab bz;have:=bz.size;have hb:=bp hb bz (by omega);have hP:=be.over hP bz (by omega);have hx:=aY.kp hx bz (fun h_=>by have bh:=dt _ h_;omega);refine al nP<|aJ<|bQ (rs:= [.cell 8 28]) (vs:= [_]) rfl (.cell rfl (bP b5 (by kernel_rfl) (fun j u hu=>ab.at hu)) .nil) ?_
 exact eY ⟨⟨e,r,by rw [hF];cases n<;>simp [jJ,hi],⟨x,S,rfl,hx,fun k hk=>by have:=dt k hk;omega⟩,hP,hrl⟩,hb⟩
theorem Yf {en:Nat} {s:ao} {r:List Tok} (h:bv en [s] r=true):ik en s r=((ik en s r.tail).1+1,(ik en s r.tail).2):=by
 cases r with
 |nil=>exact absurd rfl (eB h)
 |cons t r=>exact if_pos h
theorem Yg {en:Nat} {s:ao} {r:List Tok} (h:bv en [s] r=false):ik en s r=(0,r):=by
 cases r with
 |nil=>rfl
 |cons t r=>exact if_neg (by rw [h];decide)
theorem Tl (p en:Nat) (ts:List Tok) (g b m:Nat) (sign:ao) (f:FuncId) (l c:Array Value) (F:Pe) (k:Int) (nm:ao) (hm:ts.length<m) (w:World) (hP:be w p en ts g b) (hD:iv w p en g b m f l c F eU):gC Tryz.prog 187 [bH p,str sign,.func (.func f) l c,EC.enc ⟨k,nm,ch,none,0,0⟩] w (iR w p en g b ts (i8 en sign F k nm ts) (eU w.heap.size)) (iD w p en g b (i8 en sign F k nm ts)):=by
 have hpl:=hP.lt;have hl65:ts.length≤65536:=let ⟨_,_,_,h,_⟩:=hP.ex;h;have hb:=Kp.refl p w;refine enter Tryz.func187 rfl rfl rfl<|am fun aR=>gp rfl rfl ?_
 rintro au dJ dH ab aM;have:=aM.size;have hP:=hP.below aM;replace aM:=Below.kp (p:=p) aM;have hb:=hb.trans aM;have:=ab.lt;refine bT (z:=fy) (by kernel_rfl) rfl ?_;rintro cV mU mK aq cT;have:=cT.size;have hP:=hP.below cT;have ab:=ab.below cT;replace cT:=Below.kp (p:=p) cT;have hb:=hb.trans cT;have:=aq.lt;refine al aR<|am fun b8=>an rfl<|al b8<|av fun _ fi=>b4<|d9 (X:=List Tok×Nat) (fun (r,n)=> [(0,bH p),(1,str sign),(2,.func (.func f) l c),(7,.pointer (some ⟨au,0,none⟩)),(8,.pointer (some ⟨cV,0,none⟩)),(9,.int .i64 (n:Int))]) (fun (r,n) wr=>ik en sign ts=((ik en sign r).1+n,(ik en sign r).2)∧n+r.length=ts.length∧Kp p w wr∧be wr p en r g b∧ak wr au 28 (EC.cells ⟨k,nm,ch,none,0,0⟩)∧ak wr cV 28 (EC.cells ⟨0,[],ch,none,0,0⟩)) (fun (r,n)=>r.length) (⟨ts,0⟩) ?_ ?_ ?_
 · exact by repeat first|exact aC|refine aA rfl (by first|rfl|exact aH (by omega)) ?_
 · exact ⟨rfl,by simp,hb,hP,ab,aq⟩
 rintro ⟨r,n⟩ wr xx _ K0;replace xx:ik en sign ts=((ik en sign r).1+n,(ik en sign r).2)∧n+r.length=ts.length∧Kp p w wr∧be wr p en r g b∧ak wr au 28 (EC.cells ⟨k,nm,ch,none,0,0⟩)∧ak wr cV 28 (EC.cells ⟨0,[],ch,none,0,0⟩):=xx;obtain ⟨hF,hn,hb,hP,ab,aq⟩:=xx;show Wc _ _ _ _ _ [(0,bH p),(1,str sign),(2,.func (.func f) l c),(7,.pointer (some ⟨au,0,none⟩)),(8,.pointer (some ⟨cV,0,none⟩)),(9,.int .i64 (n:Int))] _;have:=hb.size;have:=ab.lt;have:=aq.lt;refine av fun _ dW=>am fun fZ=>ai rfl<|ae (cI rfl) rfl<|ae (aP (fH _) rfl) rfl<|ai rfl<|cz (sz:=1) (vs:= [_]) dl (by kernel_rfl) rfl rfl rfl rfl rfl rfl ?_
 rintro cp fA fw aI aV;have:=aV.size;have hP:=hP.below aV;have ab:=ab.below aV;have aq:=aq.below aV;replace aV:=Below.kp (p:=p) aV;have hb:=hb.trans aV;have:=aI.lt;refine aD j4 rfl rfl (jY p en r g b _ 1 [sign] (by simp) _ hP (aI.rd 1 1 rfl)) rfl ?_;rintro _ cB ⟨rfl,aw⟩;have:=aw.size;have hP:=be.below hP aw;have ab:=ak.below ab aw;have aq:=ak.below aq aw;replace aw:=Below.kp (p:=p) aw;have hb:=hb.trans aw;refine al fZ<|aO rfl (fun dD=>?_) (fun dD=>?_)
 ·
  have kx:=dD;have hi:bv en [sign] r=true:=kx;have hne:r≠ []:=eB hi;have hr0:=List.length_pos_iff.2 hne;have hrt:r.tail.length=r.length - 1:=List.length_tail;refine aU<|ax dW<|av fun _ dG=>b4<|aQ<|ai rfl<|aD jM rfl rfl (jL p en r g b hne _ hP) rfl ?_
  rintro _ cU ⟨⟨rfl,hP⟩,aL⟩;have:=aL.size;have ab:=ak.kp ab aL (by omega);have aq:=ak.kp aq aL (by omega);have hb:=hb.trans aL;refine ay<|cD<|ax dG<|aQ<|ai rfl<|ae (ct rfl rfl (by omega) (by omega)) rfl<|an rfl<|ay<|fun a_ bM=>K0 _ _ (⟨r.tail,n+1⟩) (by simp;omega) (by repeat first|exact aC|refine aA rfl (by first|rfl|exact aH (by omega)) ?_) ?_ a_ bM
  exact ⟨by rw [hF,Yf hi];simp only [Prod.mk.injEq,and_true];omega,by omega,hb,hP,ab,aq⟩
 have kx:=dD;have hi:bv en [sign] r=false:=kx;rw [Yg hi] at hF;refine d2<|cj<|cj<|d3<|ax fi<|am fun fT=>ai rfl<|dQ hD.txt rfl rfl (hD.does _ r hb hP (by omega)) rfl (fun v_ eP cc=>?_) (fun c_ eP cg=>?_)
 rotate_left
 ·
  obtain ⟨Od,OZ,BX,rfl,CC,a6⟩:=cg;have rD:=a6.size;have hb:=hb.trans a6;refine cJ<|eH ?_
  exact dY ⟨_,_,by simp only [i8,hF,BX],rfl,CC,hb⟩
 obtain ⟨⟨x,r2,hF2,⟨z,Sz,rfl,hz,aT⟩,hP,hrl⟩,a6⟩:=cc;have rD:=a6.size;have ab:=ab.kp a6 (by omega);have aq:=aq.kp a6 (by omega);have hb:=hb.trans a6;refine bT (z:=fy) (by kernel_rfl) rfl ?_;rintro nN F0 Fb fY fE;have:=fE.size;have hP:=hP.below fE;have ab:=ab.below fE;have aq:=aq.below fE;have hz:=hz.below fE;replace fE:=Below.kp (p:=p) fE;have hb:=hb.trans fE;have:=fY.lt;refine ba (by kernel_rfl) rfl rfl fY rfl rfl ?_;rintro du fY aF;have:=aF.size;have hb:=bp hb aF (by omega);have hP:=be.over hP aF (by omega);have ab:=ab.over aF (by omega);have aq:=aq.over aF (by omega);have hz:=aY.kp hz aF (fun h_=>by have bh:=aT _ h_;omega);refine al fT<|av fun _ fu=>am fun fD=>ai rfl<|ai rfl<|al fD<|b4<|d9 (X:=Nat×EC×(Nat→Prop)×b6) (fun (i,x1,S,e)=> [(7,.pointer (some ⟨au,0,none⟩)),(8,.pointer (some ⟨cV,0,none⟩)),(10,.pointer (some ⟨nN,0,none⟩)),(23,.int .i64 (n:Int)),(24,.int .i64 (i:Int))]) (fun (i,x1,S,e) wr=>i≤n∧ku k nm (n - i) e=ku k nm n x∧Kp p w wr∧be wr p en r2 g b∧ak wr au 28 (EC.cells ⟨k,nm,ch,none,0,0⟩)∧ak wr cV 28 (EC.cells ⟨0,[],ch,none,0,0⟩)∧ak wr nN 28 x1.cells∧aY wr S e x1.cells∧(∀k,S k→w.heap.size≤k∧k<wr.heap.size∧k≠nN∧k≠au∧k≠cV)) (fun (i,x1,S,e)=>n - i) (⟨0,z,Sz,x⟩) ?_ ?_ ?_
 · exact by repeat first|exact aC|refine aA rfl (by first|rfl|exact aH (by omega)) ?_
 · exact ⟨by omega,rfl,hb,hP,ab,aq,fY,hz,fun k hk=>by have:=aT k hk;omega⟩
 rintro ⟨i,x1,S,e⟩ wr lH _ KV;replace lH:i≤n∧ku k nm (n - i) e=ku k nm n x∧Kp p w wr∧be wr p en r2 g b∧ak wr au 28 (EC.cells ⟨k,nm,ch,none,0,0⟩)∧ak wr cV 28 (EC.cells ⟨0,[],ch,none,0,0⟩)∧ak wr nN 28 x1.cells∧aY wr S e x1.cells∧(∀k,S k→w.heap.size≤k∧k<wr.heap.size∧k≠nN∧k≠au∧k≠cV):=lH;obtain ⟨hin,hw1,hb,hP,ab,aq,fY,hx,dt⟩:=lH;show Wc _ _ _ _ _ [(7,.pointer (some ⟨au,0,none⟩)),(8,.pointer (some ⟨cV,0,none⟩)),(10,.pointer (some ⟨nN,0,none⟩)),(23,.int .i64 (n:Int)),(24,.int .i64 (i:Int))] _;have:=hb.size;have:=ab.lt;have:=aq.lt;have:=fY.lt;refine am fun im=>ae (dL rfl rfl) rfl<|al im<|av fun _ iW=>aO rfl (fun qE=>?_) (fun qE=>?_)
 ·
  have Az:=qE;simp only [DZ] at qE;have hlt:i<n:=by have:=qE;omega
  refine aU<|ax iW<|av fun _ kj=>b4<|aQ<|ae (aP (I1 _) rfl) rfl<|aG (aS b0 rfl (by exact ab.at (j:=0) rfl)) rfl<|ae (aP (EL _) rfl) rfl<|aG (aS di rfl (by exact ab.at (j:=1) rfl)) rfl<|aG (cr b5 (by kernel_rfl) rfl (by exact fun j u hu=>fY.at hu)) rfl<|cz (sz:=7) (vs:= [_]) j5 (by kernel_rfl) rfl rfl rfl rfl rfl rfl ?_
  rintro cK jB jG aK bA;have:=bA.size;have hP:=hP.below bA;have hx:=hx.below bA;have ab:=ab.below bA;have aq:=aq.below bA;have fY:=fY.below bA;replace bA:=Below.kp (p:=p) bA;have hb:=hb.trans bA;have:=aK.lt;refine ae (cC (z:=gd) (pl:=gf) (cs:= [_,_,_,_,_,_,_]) b5 (by kernel_rfl) (by kernel_rfl) rfl rfl rfl) rfl<|ba (by kernel_rfl) rfl rfl fY rfl rfl ?_
  rintro ff fY bc;have:=bc.size;have hb:=bp hb bc (by omega);have hP:=be.over hP bc (by omega);have hx:=aY.kp hx bc (fun h_=>by have bh:=dt _ h_;omega);have ab:=ab.over bc (by omega);have aq:=aq.over bc (by omega);have aK:=aK.over bc (by omega);refine ay<|cD<|ax kj<|aQ<|ae (ct rfl rfl (by omega) (by omega)) rfl<|ai rfl<|ay<|fun a_ bM=>KV _ _ (⟨i+1,⟨k,nm,ch,some ⟨cK,0,none⟩,1,1⟩,fun k=>S k∨k=cK,.mk k nm ch [e]⟩) (by show n - (i+1)<n - i;omega) (by repeat first|exact aC|refine aA rfl (by first|rfl|exact aH (by omega)) ?_) ?_ a_ bM
  exact ⟨by omega,by rw [←hw1,show n - i=(n - (i+1))+1 by omega];rfl,hb,hP,ab,aq,fY,aY.node (kids:= [e]) rfl (aK.rd 1 7 rfl) (.inr rfl) ((eQ.one hx).mono fun _ h=> .inl h),fun k hk=>by rcases hk with h|h;(· have:=dt k h;omega);(· have:=aK.lt;omega)⟩
 have Az:=qE;simp only [DZ] at qE;have hlt:i=n:=by have:=qE;omega
 refine d2<|cj<|cj<|d3<|ax fu<|am fun gZ=>?_
 refine aG (cr b5 (by kernel_rfl) rfl (by exact fun j u hu=>fY.at hu)) rfl ?_;refine ba (by kernel_rfl) rfl rfl aq rfl rfl ?_;rintro gB aq bz;have:=bz.size;have hb:=bp hb bz (by omega);have hP:=be.over hP bz (by omega);have hx:=aY.kp hx bz (fun h_=>by have bh:=dt _ h_;omega);refine al gZ<|aJ<|bQ (rs:= [.cell 8 28]) (vs:= [_]) rfl (.cell rfl (bP b5 (by kernel_rfl) (fun j u hu=>aq.at hu)) .nil) ?_
 exact eY ⟨⟨e,r2,by subst hlt;simp only [i8,hF,hF2,Nat.zero_add];rw [←hw1];simp [ku],⟨x1,S,rfl,hx,fun k hk=>by have:=dt k hk;omega⟩,hP,by omega⟩,hb⟩
theorem zx:One Tryz.prog 192:=⟨_,Tryz.underlying192,rfl,by kernel_rfl⟩
theorem Ms:One Tryz.prog 204:=⟨_,Tryz.underlying204,rfl,by kernel_rfl⟩
theorem nc:One Tryz.prog 45:=⟨_,Tryz.underlying45,rfl,by kernel_rfl⟩
theorem TF:bB Tryz.prog 187:=⟨_,Tryz.func187,by kernel_rfl,rfl⟩
theorem u3:bB Tryz.prog 190:=⟨_,Tryz.func190,by kernel_rfl,rfl⟩
theorem TH:bB Tryz.prog 198:=⟨_,Tryz.func198,by kernel_rfl,rfl⟩
theorem T3:bB Tryz.prog 167:=⟨_,Tryz.func167,by kernel_rfl,rfl⟩
theorem agi:bB Tryz.prog 188:=⟨_,Tryz.func188,by kernel_rfl,rfl⟩
theorem FX:bB Tryz.prog 183:=⟨_,Tryz.func183,by kernel_rfl,rfl⟩
theorem agj:bB Tryz.prog 184:=⟨_,Tryz.func184,by kernel_rfl,rfl⟩
theorem agk:bB Tryz.prog 186:=⟨_,Tryz.func186,by kernel_rfl,rfl⟩
theorem agl:bB Tryz.prog 189:=⟨_,Tryz.func189,by kernel_rfl,rfl⟩
abbrev ei (k:Nat):Value:= .pointer (some ⟨k,0,none⟩)
theorem acn (p en:Nat) (ts:List Tok) (g b n:Nat) (knot:Nat→Pe) (hm:ts.length≤n) (w:World) (hP:be w p en ts g b) (hD:∀b',iv w p en g b' n 167 #[bH p] #[] (knot b') eU):gC Tryz.prog 188 [bH p] w (iR w p en g b ts (ir en b knot ts) (eU w.heap.size)) (iD w p en g b (ir en b knot ts)):=by
 have hpl:=hP.lt;have hb:=Kp.refl p w;refine enter Tryz.func188 rfl rfl rfl<|am fun aR=>bT (z:=fy) (by kernel_rfl) rfl ?_
 rintro au dJ dH ab aM;have:=aM.size;have hP:=hP.below aM;replace aM:=Below.kp (p:=p) aM;have hb:=hb.trans aM;have:=ab.lt;refine al aR<|av fun _ bt=>b4<|am fun b8=>ai rfl<|ae (cI rfl) rfl<|ae (aP (fH _) rfl) rfl<|cz (sz:=1) (vs:= [_]) dl (by kernel_rfl) rfl rfl rfl rfl rfl rfl ?_
 rintro cp fA fw aI aV;have:=aV.size;have hP:=hP.below aV;have ab:=ab.below aV;replace aV:=Below.kp (p:=p) aV;have hb:=hb.trans aV;have:=aI.lt;refine aD j4 rfl rfl (jY p en ts g b _ 1 [[40]] (by simp) _ hP (aI.rd 1 1 rfl)) rfl ?_;rintro _ cB ⟨rfl,aw⟩;have:=aw.size;have hP:=be.below hP aw;have ab:=ak.below ab aw;replace aw:=Below.kp (p:=p) aw;have hb:=hb.trans aw;refine an rfl<|al b8<|aO rfl (fun lq=>?_) (fun lq=>?_)
 ·
  have vw:=lq;have h1:bv en [[40]] ts=true:=vw;refine am fun dU=>ai rfl<|ai rfl<|ae (nj rfl rfl) rfl<|dQ TH rfl rfl (Oq p en ts g b n 167 #[bH p] #[] knot hm _ hP ((hD (b+1)).kp hb)) rfl (fun v_ cU cc=>?_) (fun c_ cU cg=>?_)
  rotate_left
  ·
   obtain ⟨pW,p4,kF,rfl,lg,aL⟩:=cg;have i7:=aL.size;have hb:=hb.trans aL;refine cJ<|jh<|cJ<|eH ?_
   exact dY ⟨_,_,by simp [ir,h1,kF],rfl,lg,hb⟩
  obtain ⟨⟨x,r,hF,⟨z,Sz,rfl,hz,aT⟩,hP,hrl⟩,aL⟩:=cc;have i7:=aL.size;have ab:=ab.kp aL (by omega);have hb:=hb.trans aL;refine ba (by kernel_rfl) rfl rfl ab rfl rfl ?_;rintro du ab aF;have:=aF.size;have hb:=bp hb aF (by omega);have hP:=be.over hP aF (by omega);have hz:=aY.kp hz aF (fun h_=>by have bh:=aT _ h_;omega);refine al dU<|aJ<|co (aX ?_)
  refine bQ (rs:= [.cell 2 28]) (vs:= [_]) rfl (.cell rfl (bP b5 (by kernel_rfl) (fun j u hu=>ab.at hu)) .nil) ?_;exact eY ⟨⟨x,r,by simp [ir,h1,hF],⟨z,Sz,rfl,hz,fun k hk=>by have:=aT k hk;omega⟩,hP,hrl⟩,hb⟩
 have vw:=lq;have h1:bv en [[40]] ts=false:=vw;refine am fun mB=>ai rfl<|ae (cI rfl) rfl<|ae (aP (fH _) rfl) rfl<|cz (sz:=1) (vs:= [_]) dl (by kernel_rfl) rfl rfl rfl rfl rfl rfl ?_
 rintro cK jB jG aK bA;have:=bA.size;have hP:=hP.below bA;have ab:=ab.below bA;replace bA:=Below.kp (p:=p) bA;have hb:=hb.trans bA;have:=aK.lt;refine aD j4 rfl rfl (jY p en ts g b _ 1 [[37]] (by simp) _ hP (aK.rd 1 1 rfl)) rfl ?_;rintro _ eP ⟨rfl,a6⟩;have:=a6.size;have hP:=be.below hP a6;have ab:=ak.below ab a6;replace a6:=Below.kp (p:=p) a6;have hb:=hb.trans a6;refine an rfl<|al mB<|aO rfl (fun lZ=>?_) (fun lZ=>?_)
 ·
  have sT:=lZ;have h2:bv en [[37]] ts=true:=sT;refine am fun gu=>ai rfl<|aD jM rfl rfl (jL p en ts g b (eB h2) _ hP) rfl ?_
  rintro _ fj ⟨⟨rfl,hP⟩,bk⟩;have:=bk.size;have ab:=ak.kp ab bk (by omega);have hb:=hb.trans bk;refine al gu<|am fun fu=>ae (cC (z:=gd) (pl:=gf) (cs:= [_,_,_,_,_,_,_]) b5 (by kernel_rfl) (by kernel_rfl) rfl rfl rfl) rfl<|ba (by kernel_rfl) rfl rfl ab rfl rfl ?_
  rintro ff ab bc;have:=bc.size;have hb:=bp hb bc (by omega);have hP:=be.over hP bc (by omega);refine al fu<|aJ<|co (aX ?_)
  refine bQ (rs:= [.cell 2 28]) (vs:= [_]) rfl (.cell rfl (bP b5 (by kernel_rfl) (fun j u hu=>ab.at hu)) .nil) ?_;exact eY ⟨⟨_,ts.tail,by simp [ir,h1,h2],⟨⟨5,[],ch,none,0,0⟩,fun _=>False,rfl,rQ _ _ 5 [] ch,fun _ h=>h.elim⟩,hP,by rw [List.length_tail];omega⟩,hb⟩
 have sT:=lZ;have h2:bv en [[37]] ts=false:=sT;refine aU<|cD<|ax bt<|am fun iJ=>ai rfl<|dQ TO rfl rfl (QL p en 1 (by decide) ts g b _ hP) rfl (fun v_ gj cc=>?_) (fun c_ gj cg=>?_)
 rotate_left
 ·
  obtain ⟨Oe,O0,BY,rfl,CD,bD⟩:=cg;have ya:=bD.size;have hb:=hb.trans bD;refine cJ<|eH ?_
  exact dY ⟨_,_,by simp [ir,h1,h2,BY],rfl,CD,hb⟩
 obtain ⟨⟨t,r,hF,rfl,hP,hrl⟩,bD⟩:=cc;have ya:=bD.size;have ab:=ab.kp bD (by omega);have hb:=hb.trans bD;refine ae (ni fe rfl di rfl rfl) rfl<|ae (cC (z:=gd) (pl:=gf) (cs:= [_,_,_,_,_,_,_]) b5 (by kernel_rfl) (by kernel_rfl) rfl rfl rfl) rfl<|ba (by kernel_rfl) rfl rfl ab rfl rfl ?_
 rintro gB ab bz;have:=bz.size;have hb:=bp hb bz (by omega);have hP:=be.over hP bz (by omega);refine al iJ<|aJ<|bQ (rs:= [.cell 2 28]) (vs:= [_]) rfl (.cell rfl (bP b5 (by kernel_rfl) (fun j u hu=>ab.at hu)) .nil) ?_
 exact eY ⟨⟨_,r,by simp [ir,h1,h2,hF],⟨⟨4,t.t,ch,none,0,0⟩,fun _=>False,rfl,rQ _ _ 4 t.t ch,fun _ h=>h.elim⟩,hP,hrl⟩,hb⟩
theorem acm {p en g n:Nat} {knot:Nat→Pe} {w:World} (b:Nat) (hD:∀b',iv w p en g b' n 167 #[bH p] #[] (knot b') eU):iv w p en g b (n+1) 188 #[bH p] #[] (ir en b knot) eU:=
 ⟨agi,fun w' ts hk hP hm=>acn p en ts g b n knot (by omega) w' hP fun b'=>(hD b').kp hk⟩
theorem Fw (k:Int) (w:World):bx Tryz.prog 183 [.int .i64 k] w fun v w'=>(∃gk,v= .func (.func 184) #[] #[ei gk]∧ak w' gk 3 [.int .i64 k]∧w.heap.size≤gk)∧Below w.heap.size w w':=by
 have hb:=Below.refl w.heap.size w;refine enter Tryz.func183 rfl rfl rfl<|am fun aR=>gp rfl rfl ?_
 rintro au dJ dH ab aM;have:=aM.size;have hb:=aZ hb aM;have:=ab.lt;refine an rfl<|al aR<|am fun b8=>ae (nj rfl rfl) rfl<|an rfl<|al b8<|aJ<|bN rfl rfl ?_
 exact ⟨_,rfl,⟨_,rfl,ab,by omega⟩,hb⟩
theorem acK (k:Int) (gk:Nat) (s:ao) (x y:EC) (ex ey:b6) (S:Nat→Prop) (w:World) (hB:ak w gk 3 [.int .i64 k]) (hS:∀k,S k→k<w.heap.size) (hx:aY w S ex x.cells) (hy:aY w S ey y.cells):bx Tryz.prog 184 [str s,x.enc,y.enc,ei gk] w fun v w'=>(∃(z:EC) (S':Nat→Prop),v=z.enc∧aY w' S' (kT k [] ex ey) z.cells∧∀k,S' k→D2 S w w' k)∧Below w.heap.size w w':=by
 have hb:=Below.refl w.heap.size w;have uG:=hB;have lN:=hx;have lO:=hy;refine enter Tryz.func184 rfl rfl rfl<|am fun aR=>gp rfl rfl ?_
 rintro au dJ dH ab aM;have:=aM.size;have hb:=aZ hb aM;have hB:=uG.below hb;have hx:=lN.below hb;have hy:=lO.below hb;have:=ab.lt;refine gp rfl rfl ?_;rintro cV mU mK aq cT;have:=cT.size;have hb:=aZ hb cT;have hB:=uG.below hb;have hx:=lN.below hb;have hy:=lO.below hb;have ab:=ak.below ab cT;have:=aq.lt;refine bT (z:=fy) (by kernel_rfl) rfl ?_;rintro dq ks jH aE ck;have:=ck.size;have hb:=aZ hb ck;have hB:=uG.below hb;have hx:=lN.below hb;have hy:=lO.below hb;have ab:=ak.below ab ck;have aq:=ak.below aq ck;have:=aE.lt;refine al aR<|am fun dC=>aG (aS b0 rfl (by exact hB.at (j:=0) rfl)) rfl<|aG (cr b5 (by kernel_rfl) rfl (by exact fun j u hu=>ab.at hu)) rfl<|aG (cr b5 (by kernel_rfl) rfl (by exact fun j u hu=>aq.at hu)) rfl<|aD TE rfl rfl (Tn k [] x y ex ey S _ hx hy) rfl ?_
 rintro _ cB ⟨⟨z,Sz,rfl,hz,aT⟩,aw⟩;have:=aw.size;have hb:=aZ hb aw;have hB:=uG.below hb;have hx:=lN.below hb;have hy:=lO.below hb;have aE:=ak.below aE aw;have aT:∀k,Sz k→(S k∨(ks.heap.size≤k∧k<cB.heap.size)):=aT;refine ba (by kernel_rfl) rfl rfl aE rfl rfl ?_;rintro du aE aF;have:=aF.size;have hb:=cf hb aF hb.size (by omega);have hB:=uG.below hb;have hx:=lN.below hb;have hy:=lO.below hb;have hz:=aY.kp hz aF (fun h_=>by have bh:=aT _ h_;first|omega|(rcases bh with dK|dK;(have kg:=hS _ dK;omega);omega));refine al dC<|aJ<|bQ (rs:= [.cell 7 28]) (vs:= [_]) rfl (.cell rfl (bP b5 (by kernel_rfl) (fun j u hu=>aE.at hu)) .nil) ?_
 exact ⟨_,rfl,⟨z,Sz,rfl,hz,fun k hk=>by rcases aT k hk with h|h;(· exact .inl h);(· exact .inr (by omega))⟩,hb⟩
theorem Fx (k:Int) {p gk:Nat} {w:World} (hg:gk≠p) (hB:ak w gk 3 [.int .i64 k]) (signs:List (ao)):Gb w p 184 #[] #[ei gk] (fun _=>kT k []) signs:=
 ⟨agj,fun w' s x y ex ey S hk _ hS hx hy=>acK k gk s x y ex ey S w' (hB.kp hk hg) hS hx hy⟩
theorem acL (p en:Nat) (ts:List Tok) (g b n g1:Nat) (knot:Nat→Pe) (hm:ts.length<n+1) (w:World) (hP:be w p en ts g b) (hg1:g1≠p) (hB:ak w g1 45 [bH p]) (hD:∀b',iv w p en g b' n 167 #[bH p] #[] (knot b') eU):gC Tryz.prog 186 [ei g1] w (iR w p en g b ts (i8 en [33] (ir en b knot) 6 [] ts) (eU w.heap.size)) (iD w p en g b (i8 en [33] (ir en b knot) 6 [] ts)):=by
 have hpl:=hP.lt;have pA:=hB.lt;have hb:=Kp.refl p w;refine enter Tryz.func186 rfl rfl rfl<|am fun aR=>bT (z:=fy) (by kernel_rfl) rfl ?_
 rintro au dJ dH ab aM;have:=aM.size;have hP:=hP.below aM;have hB:=hB.below aM;replace aM:=Below.kp (p:=p) aM;have hb:=hb.trans aM;have:=ab.lt;refine al aR<|am fun bt=>aG (aS nc rfl (by exact hB.at (j:=0) rfl)) rfl<|aG (aS nc rfl (by exact hB.at (j:=0) rfl)) rfl<|ae (nj rfl rfl) rfl<|ae (cC (z:=gd) (pl:=gf) (cs:= [_,_,_,_,_,_,_]) b5 (by kernel_rfl) (by kernel_rfl) rfl rfl rfl) rfl<|dQ TF rfl rfl (Tl p en ts g b (n+1) [33] 188 #[bH p] #[] (ir en b knot) 6 [] hm _ hP ((acm b hD).kp hb)) rfl (fun v_ cB cc=>?_) (fun c_ cB cg=>?_)
 rotate_left
 ·
  obtain ⟨pV,p3,jt,rfl,jw,aw⟩:=cg;have gK:=aw.size;have hb:=hb.trans aw;refine cJ<|eH ?_
  exact dY ⟨_,_,jt,rfl,jw,hb⟩
 obtain ⟨⟨x,r,hF,⟨z,Sz,rfl,hz,aT⟩,hP,hrl⟩,aw⟩:=cc;have gK:=aw.size;have ab:=ab.kp aw (by omega);have hb:=hb.trans aw;refine ba (by kernel_rfl) rfl rfl ab rfl rfl ?_;rintro du ab aF;have:=aF.size;have hb:=bp hb aF (by omega);have hP:=be.over hP aF (by omega);have hz:=aY.kp hz aF (fun h_=>by have bh:=aT _ h_;omega);refine al bt<|aJ<|bQ (rs:= [.cell 1 28]) (vs:= [_]) rfl (.cell rfl (bP b5 (by kernel_rfl) (fun j u hu=>ab.at hu)) .nil) ?_
 exact eY ⟨⟨x,r,hF,⟨z,Sz,rfl,hz,fun k hk=>by have:=aT k hk;omega⟩,hP,hrl⟩,hb⟩
theorem Q6 {p en g n g1:Nat} {knot:Nat→Pe} {w:World} (b:Nat) (hg1:g1≠p) (hB:ak w g1 45 [bH p]) (hD:∀b',iv w p en g b' n 167 #[bH p] #[] (knot b') eU):iv w p en g b (n+1) 186 #[] #[ei g1] (i8 en [33] (ir en b knot) 6 []) eU:=
 ⟨agk,fun w' ts hk hP hm=>acL p en ts g b n g1 knot hm w' hP hg1 (hB.kp hk hg1) fun b'=>(hD b').kp hk⟩
def Db (en b:Nat) (knot:Nat→Pe):Pe:=jK en (i8 en [33] (ir en b knot) 6 []) (fun _=>kT 7 []) [[38]]
theorem acB (p en:Nat) (ts:List Tok) (g b n g1 g4 g3:Nat) (knot:Nat→Pe) (hm:ts.length<n+1) (w:World) (hP:be w p en ts g b) (hg1:g1≠p) (hg4:g4≠p) (hg3:g3≠p) (hB1:ak w g1 45 [bH p]) (hB4:ak w g4 192 [.func (.func 186) #[] #[ei g1]]) (hB3:ak w g3 204 [.func (.func 183) #[] #[]]) (hD:∀b',iv w p en g b' n 167 #[bH p] #[] (knot b') eU):gC Tryz.prog 189 [ei g1,ei g4,ei g3] w (iR w p en g b ts (Db en b knot ts) (eU w.heap.size)) (iD w p en g b (Db en b knot ts)):=by
 have hpl:=hP.lt;have pA:=hB1.lt;have QA:=hB3.lt;have ah1:=hB4.lt;have hb:=Kp.refl p w;refine enter Tryz.func189 rfl rfl rfl<|am fun aR=>bT (z:=fy) (by kernel_rfl) rfl ?_
 rintro au dJ dH ab aM;have:=aM.size;have hP:=hP.below aM;have hB1:=hB1.below aM;have hB4:=hB4.below aM;have hB3:=hB3.below aM;replace aM:=Below.kp (p:=p) aM;have hb:=hb.trans aM;have:=ab.lt;refine al aR<|av fun _ bt=>jg (n:=7) (fun w'=>Kp p w w'∧ak w' g1 45 [bH p]∧ak w' g4 192 [.func (.func 186) #[] #[ei g1]]∧ak w' g3 204 [.func (.func 183) #[] #[]]∧∃cs,ak w' au 28 cs) #[aj,aj,aj,aj,aj,aj,aj] (by kernel_rfl) rfl (by kernel_rfl)<|jf ?_
 rintro Ab ga;have:=ga.size;have hP:=hP.below ga;have hB1:=hB1.below ga;have hB4:=hB4.below ga;have hB3:=hB3.below ga;have ab:=ab.below ga;replace ga:=Below.kp (p:=p) ga;have hb:=hb.trans ga;refine bC (i:=0) #[ah,aj,aj,aj,aj,aj,aj] rfl (by kernel_rfl) bF rfl (fun wq hq=>aS nc rfl (by obtain ⟨hq,hB1,hB4,hB3,_,ab⟩:=hq;exact hB1.at (j:=0) rfl)) ⟨hb,hB1,hB4,hB3,_,ab⟩<|bC (i:=1) #[ah,ah,aj,aj,aj,aj,aj] rfl (by kernel_rfl) bF rfl (fun wq hq=>aS zx rfl (by obtain ⟨hq,hB1,hB4,hB3,_,ab⟩:=hq;exact hB4.at (j:=0) rfl)) ⟨hb,hB1,hB4,hB3,_,ab⟩<|bC (i:=2) #[ah,ah,ah,aj,aj,aj,aj] rfl (by kernel_rfl) bF rfl (fun wq hq=>aS Ms rfl (by obtain ⟨hq,hB1,hB4,hB3,_,ab⟩:=hq;exact hB3.at (j:=0) rfl)) ⟨hb,hB1,hB4,hB3,_,ab⟩<|cM (rs:= [3,4]) (by kernel_rfl) rfl<|cO #[ah,ah,ah,ah,aj,aj,aj] rfl rfl (fun _ dV=>?_) ?_
 ·
  refine dQ FX rfl rfl (tZ (X:=fun _ _=>False) (Fw 7 _)) rfl (fun v_ cB cc=>?_) (fun c_ cB cg=>?_)
  rotate_left
  ·
   exact cg.elim
  obtain ⟨⟨gk,rfl,hBk,hgk⟩,aw⟩:=cc;have gK:=aw.size;have hP:=be.below hP aw;have hB1:=ak.below hB1 aw;have hB4:=ak.below hB4 aw;have hB3:=ak.below hB3 aw;have ab:=ak.below ab aw;replace aw:=Below.kp (p:=p) aw;have hb:=hb.trans aw;refine ay<|cN dV ⟨hb,hB1,hB4,hB3,_,ab⟩<|cM (rs:= [4]) (by kernel_rfl) rfl<|cO #[ah,ah,ah,ah,ah,aj,aj] rfl rfl (fun _ dW=>?_) ?_
  ·
   refine cz (sz:=1) (vs:= [_]) dl (by kernel_rfl) rfl rfl rfl rfl rfl rfl ?_;rintro cp fA fw aI aV;have LD:=aV.size;have hP:=hP.below aV;have hB1:=hB1.below aV;have hB4:=hB4.below aV;have hB3:=hB3.below aV;have ab:=ab.below aV;have hBk:=hBk.below aV;replace aV:=Below.kp (p:=p) aV;have hb:=hb.trans aV;have Ll:=aI.lt;refine ay<|cN dW ⟨hb,hB1,hB4,hB3,_,ab⟩<|cM (rs:= [5]) (by kernel_rfl) rfl<|cO #[ah,ah,ah,ah,ah,ah,aj] rfl rfl (fun _ dT=>?_) ?_
   ·
    refine dQ u3 rfl rfl (uW p en ts g b (n+1) 186 #[] #[ei g1] (i8 en [33] (ir en b knot) 6 []) 184 #[] #[ei gk] (fun _=>kT 7 []) _ 1 [[38]] (by simp) hm _ hP (Q6 b hg1 hB1 fun b'=>(hD b').kp hb) (Fx 7 (by omega) hBk _) (aI.rd 1 1 rfl) (fun q e=>by cases e;show cp≠p;omega)) rfl (fun v_ cU cc=>?_) (fun c_ cU cg=>?_)
    rotate_left
    ·
     obtain ⟨pW,p4,kF,rfl,lg,aL⟩:=cg;have i7:=aL.size;have hb:=hb.trans aL;refine cJ<|cJ<|eH ?_
     exact dY ⟨_,_,kF,rfl,lg,hb⟩
    obtain ⟨⟨x,r,hF,⟨z,Sz,rfl,hz,aT⟩,hP,hrl⟩,aL⟩:=cc;have i7:=aL.size;have hB1:=hB1.kp aL (by omega);have hB4:=hB4.kp aL (by omega);have hB3:=hB3.kp aL (by omega);have ab:=ab.kp aL (by omega);have hb:=hb.trans aL;refine ay<|cN dT ⟨hb,hB1,hB4,hB3,_,ab⟩<|cM (rs:= [6]) (by kernel_rfl) rfl<|cO #[ah,ah,ah,ah,ah,ah,ah] rfl rfl (fun _ eh=>?_) ?_
    ·
     refine ba (by kernel_rfl) rfl rfl ab rfl rfl ?_;rintro du ab aF;have abS:=aF.size;have hb:=bp hb aF (by omega);have hP:=be.over hP aF (by omega);have hB1:=hB1.over aF (by omega);have hB4:=hB4.over aF (by omega);have hB3:=hB3.over aF (by omega);have hz:=aY.kp hz aF (fun h_=>by have bh:=aT _ h_;omega);refine ay<|cN eh ⟨hb,hB1,hB4,hB3,_,ab⟩<|fB (by kernel_rfl)<|ax bt<|aJ<|bQ (rs:= [.cell 3 28]) (vs:= [_]) rfl (.cell rfl (bP b5 (by kernel_rfl) (fun j u hu=>ab.at hu)) .nil) ?_
     exact eY ⟨⟨x,r,hF,⟨z,Sz,rfl,hz,fun k hk=>by have:=aT k hk;omega⟩,hP,hrl⟩,hb⟩
    exact cP
   exact cP
  exact cP
 refine cO #[ah,ah,ah,aj,ah,aj,aj] rfl rfl (fun _ fd=>?_) ?_
 ·
  refine cz (sz:=1) (vs:= [_]) dl (by kernel_rfl) rfl rfl rfl rfl rfl rfl ?_;rintro cp fA fw aI aV;have LD:=aV.size;have hP:=hP.below aV;have hB1:=hB1.below aV;have hB4:=hB4.below aV;have hB3:=hB3.below aV;have ab:=ab.below aV;replace aV:=Below.kp (p:=p) aV;have hb:=hb.trans aV;have Ll:=aI.lt;refine ay<|cN fd ⟨hb,hB1,hB4,hB3,_,ab⟩<|cM (rs:= [3]) (by kernel_rfl) rfl<|cO #[ah,ah,ah,ah,ah,aj,aj] rfl rfl (fun _ gH=>?_) ?_
  ·
   refine dQ FX rfl rfl (tZ (X:=fun _ _=>False) (Fw 7 _)) rfl (fun v_ cB cc=>?_) (fun c_ cB cg=>?_)
   rotate_left
   ·
    exact cg.elim
   obtain ⟨⟨gk,rfl,hBk,hgk⟩,aw⟩:=cc;have gK:=aw.size;have hP:=be.below hP aw;have hB1:=ak.below hB1 aw;have hB4:=ak.below hB4 aw;have hB3:=ak.below hB3 aw;have ab:=ak.below ab aw;have aI:=ak.below aI aw;replace aw:=Below.kp (p:=p) aw;have hb:=hb.trans aw;refine ay<|cN gH ⟨hb,hB1,hB4,hB3,_,ab⟩<|cM (rs:= [5]) (by kernel_rfl) rfl<|cO #[ah,ah,ah,ah,ah,ah,aj] rfl rfl (fun _ dG=>?_) ?_
   ·
    refine dQ u3 rfl rfl (uW p en ts g b (n+1) 186 #[] #[ei g1] (i8 en [33] (ir en b knot) 6 []) 184 #[] #[ei gk] (fun _=>kT 7 []) _ 1 [[38]] (by simp) hm _ hP (Q6 b hg1 hB1 fun b'=>(hD b').kp hb) (Fx 7 (by omega) hBk _) (aI.rd 1 1 rfl) (fun q e=>by cases e;show cp≠p;omega)) rfl (fun v_ cU cc=>?_) (fun c_ cU cg=>?_)
    rotate_left
    ·
     obtain ⟨pW,p4,kF,rfl,lg,aL⟩:=cg;have i7:=aL.size;have hb:=hb.trans aL;refine cJ<|cJ<|eH ?_
     exact dY ⟨_,_,kF,rfl,lg,hb⟩
    obtain ⟨⟨x,r,hF,⟨z,Sz,rfl,hz,aT⟩,hP,hrl⟩,aL⟩:=cc;have i7:=aL.size;have hB1:=hB1.kp aL (by omega);have hB4:=hB4.kp aL (by omega);have hB3:=hB3.kp aL (by omega);have ab:=ab.kp aL (by omega);have hb:=hb.trans aL;refine ay<|cN dG ⟨hb,hB1,hB4,hB3,_,ab⟩<|cM (rs:= [6]) (by kernel_rfl) rfl<|cO #[ah,ah,ah,ah,ah,ah,ah] rfl rfl (fun _ eM=>?_) ?_
    ·
     refine ba (by kernel_rfl) rfl rfl ab rfl rfl ?_;rintro du ab aF;have abS:=aF.size;have hb:=bp hb aF (by omega);have hP:=be.over hP aF (by omega);have hB1:=hB1.over aF (by omega);have hB4:=hB4.over aF (by omega);have hB3:=hB3.over aF (by omega);have hz:=aY.kp hz aF (fun h_=>by have bh:=aT _ h_;omega);refine ay<|cN eM ⟨hb,hB1,hB4,hB3,_,ab⟩<|fB (by kernel_rfl)<|ax bt<|aJ<|bQ (rs:= [.cell 3 28]) (vs:= [_]) rfl (.cell rfl (bP b5 (by kernel_rfl) (fun j u hu=>ab.at hu)) .nil) ?_
     exact eY ⟨⟨x,r,hF,⟨z,Sz,rfl,hz,fun k hk=>by have:=aT k hk;omega⟩,hP,hrl⟩,hb⟩
    exact cP
   exact cP
  exact cP
 exact cP
theorem QS {p en g n g1 g4 g3:Nat} {knot:Nat→Pe} {w:World} (b:Nat) (hg1:g1≠p) (hg4:g4≠p) (hg3:g3≠p) (hB1:ak w g1 45 [bH p]) (hB4:ak w g4 192 [.func (.func 186) #[] #[ei g1]]) (hB3:ak w g3 204 [.func (.func 183) #[] #[]]) (hD:∀b',iv w p en g b' n 167 #[bH p] #[] (knot b') eU):iv w p en g b (n+1) 189 #[] #[ei g1,ei g4,ei g3] (Db en b knot) eU:=
 ⟨agl,fun w' ts hk hP hm=>acB p en ts g b n g1 g4 g3 knot hm w' hP hg1 hg4 hg3 (hB1.kp hk hg1) (hB4.kp hk hg4) (hB3.kp hk hg3) fun b'=>(hD b').kp hk⟩
theorem acp (p en:Nat) (ts:List Tok) (g b n:Nat) (knot:Nat→Pe) (hm:ts.length<n+1) (w:World) (hP:be w p en ts g b) (hD:∀b',iv w p en g b' n 167 #[bH p] #[] (knot b') eU):gC Tryz.prog 167 [bH p] w (iR w p en g b ts (Mx en b knot ts) (eU w.heap.size)) (iD w p en g b (Mx en b knot ts)):=by
 have hpl:=hP.lt;have hb:=Kp.refl p w;refine enter Tryz.func167 rfl rfl rfl<|am fun aR=>gp rfl rfl ?_
 rintro au dJ dH ab aM;have:=aM.size;have hP:=hP.below aM;replace aM:=Below.kp (p:=p) aM;have hb:=hb.trans aM;have:=ab.lt;refine bT (z:=fy) (by kernel_rfl) rfl ?_;rintro cV mU mK aq cT;have:=cT.size;have hP:=hP.below cT;have ab:=ab.below cT;replace cT:=Below.kp (p:=p) cT;have hb:=hb.trans cT;have:=aq.lt;refine al aR<|am fun b8=>bT (z:= .nilFunc) (by kernel_rfl) rfl ?_
 rintro dq ks jH aE ck;have:=ck.size;have hP:=hP.below ck;have ab:=ab.below ck;have aq:=aq.below ck;replace ck:=Below.kp (p:=p) ck;have hb:=hb.trans ck;have:=aE.lt;refine mZ Ms rfl rfl rfl aE ?_;rintro du aE aF;have:=aF.size;have hb:=bp hb aF (by omega);have hP:=be.over hP aF (by omega);have ab:=ab.over aF (by omega);have aq:=aq.over aF (by omega);refine al b8<|am fun fi=>ae (nj rfl rfl) rfl<|bT (z:= .nilFunc) (by kernel_rfl) rfl ?_
 rintro kE Ad rx bZ gv;have:=gv.size;have hP:=hP.below gv;have ab:=ab.below gv;have aq:=aq.below gv;have aE:=aE.below gv;replace gv:=Below.kp (p:=p) gv;have hb:=hb.trans gv;have:=bZ.lt;refine mZ zx rfl rfl rfl bZ ?_;rintro ff bZ bc;have:=bc.size;have hb:=bp hb bc (by omega);have hP:=be.over hP bc (by omega);have ab:=ab.over bc (by omega);have aq:=aq.over bc (by omega);have aE:=aE.over bc (by omega);refine al fi<|am fun dW=>ae (nj rfl rfl) rfl<|an rfl<|al dW<|av fun _ dU=>jg (n:=7) (fun w'=>Kp p w w'∧ak w' au 45 [bH p]∧ak w' kE 192 [.func (.func 186) #[] #[ei au]]∧ak w' dq 204 [.func (.func 183) #[] #[]]∧∃cs,ak w' cV 28 cs) #[aj,aj,aj,aj,aj,aj,aj] (by kernel_rfl) rfl (by kernel_rfl)<|jf ?_
 rintro agF ma;have:=ma.size;have hP:=hP.below ma;have ab:=ab.below ma;have aq:=aq.below ma;have aE:=aE.below ma;have bZ:=bZ.below ma;replace ma:=Below.kp (p:=p) ma;have hb:=hb.trans ma;refine bC (i:=0) #[ah,aj,aj,aj,aj,aj,aj] rfl (by kernel_rfl) bF rfl (fun wq hq=>aS nc rfl (by obtain ⟨hq,ab,bZ,aE,_,aq⟩:=hq;exact ab.at (j:=0) rfl)) ⟨hb,ab,bZ,aE,_,aq⟩<|bC (i:=1) #[ah,ah,aj,aj,aj,aj,aj] rfl (by kernel_rfl) bF rfl (fun wq hq=>bU (dN rfl)) ⟨hb,ab,bZ,aE,_,aq⟩<|bC (i:=2) #[ah,ah,ah,aj,aj,aj,aj] rfl (by kernel_rfl) bF rfl (fun wq hq=>aS Ms rfl (by obtain ⟨hq,ab,bZ,aE,_,aq⟩:=hq;exact aE.at (j:=0) rfl)) ⟨hb,ab,bZ,aE,_,aq⟩<|cM (rs:= [3,4]) (by kernel_rfl) rfl<|cO #[ah,ah,ah,ah,aj,aj,aj] rfl rfl (fun _ gH=>?_) ?_
 ·
  refine dQ FX rfl rfl (tZ (X:=fun _ _=>False) (Fw 8 _)) rfl (fun v_ cB cc=>?_) (fun c_ cB cg=>?_)
  rotate_left
  ·
   exact cg.elim
  obtain ⟨⟨gk,rfl,hBk,hgk⟩,aw⟩:=cc;have gK:=aw.size;have hP:=be.below hP aw;have ab:=ak.below ab aw;have aq:=ak.below aq aw;have aE:=ak.below aE aw;have bZ:=ak.below bZ aw;replace aw:=Below.kp (p:=p) aw;have hb:=hb.trans aw;refine ay<|cN gH ⟨hb,ab,bZ,aE,_,aq⟩<|cM (rs:= [4]) (by kernel_rfl) rfl<|cO #[ah,ah,ah,ah,ah,aj,aj] rfl rfl (fun _ dG=>?_) ?_
  ·
   refine cz (sz:=1) (vs:= [_]) dl (by kernel_rfl) rfl rfl rfl rfl rfl rfl ?_;rintro cp fA fw aI aV;have LD:=aV.size;have hP:=hP.below aV;have ab:=ab.below aV;have aq:=aq.below aV;have aE:=aE.below aV;have bZ:=bZ.below aV;have hBk:=hBk.below aV;replace aV:=Below.kp (p:=p) aV;have hb:=hb.trans aV;have Ll:=aI.lt;refine ay<|cN dG ⟨hb,ab,bZ,aE,_,aq⟩<|cM (rs:= [5]) (by kernel_rfl) rfl<|cO #[ah,ah,ah,ah,ah,ah,aj] rfl rfl (fun _ eM=>?_) ?_
   ·
    refine dQ u3 rfl rfl (uW p en ts g b (n+1) 189 #[] #[ei au,ei kE,ei dq] (Db en b knot) 184 #[] #[ei gk] (fun _=>kT 8 []) _ 1 [[124]] (by simp) hm _ hP (QS b (by omega) (by omega) (by omega) ab bZ aE fun b'=>(hD b').kp hb) (Fx 8 (by omega) hBk _) (aI.rd 1 1 rfl) (fun q e=>by cases e;show cp≠p;omega)) rfl (fun v_ cU cc=>?_) (fun c_ cU cg=>?_)
    rotate_left
    ·
     obtain ⟨pW,p4,kF,rfl,lg,aL⟩:=cg;have i7:=aL.size;have hb:=hb.trans aL;refine cJ<|cJ<|eH ?_
     exact dY ⟨_,_,kF,rfl,lg,hb⟩
    obtain ⟨⟨x,r,hF,⟨z,Sz,rfl,hz,aT⟩,hP,hrl⟩,aL⟩:=cc;have i7:=aL.size;have ab:=ab.kp aL (by omega);have aq:=aq.kp aL (by omega);have aE:=aE.kp aL (by omega);have bZ:=bZ.kp aL (by omega);have hb:=hb.trans aL;refine ay<|cN eM ⟨hb,ab,bZ,aE,_,aq⟩<|cM (rs:= [6]) (by kernel_rfl) rfl<|cO #[ah,ah,ah,ah,ah,ah,ah] rfl rfl (fun _ kh=>?_) ?_
    ·
     refine ba (by kernel_rfl) rfl rfl aq rfl rfl ?_;rintro gB aq bz;have abV:=bz.size;have hb:=bp hb bz (by omega);have hP:=be.over hP bz (by omega);have ab:=ab.over bz (by omega);have aE:=aE.over bz (by omega);have bZ:=bZ.over bz (by omega);have hz:=aY.kp hz bz (fun h_=>by have bh:=aT _ h_;omega);refine ay<|cN kh ⟨hb,ab,bZ,aE,_,aq⟩<|fB (by kernel_rfl)<|ax dU<|aJ<|bQ (rs:= [.cell 2 28]) (vs:= [_]) rfl (.cell rfl (bP b5 (by kernel_rfl) (fun j u hu=>aq.at hu)) .nil) ?_
     exact eY ⟨⟨x,r,hF,⟨z,Sz,rfl,hz,fun k hk=>by have:=aT k hk;omega⟩,hP,hrl⟩,hb⟩
    exact cP
   exact cP
  exact cP
 refine cO #[ah,ah,ah,aj,ah,aj,aj] rfl rfl (fun _ gr=>?_) ?_
 ·
  refine cz (sz:=1) (vs:= [_]) dl (by kernel_rfl) rfl rfl rfl rfl rfl rfl ?_;rintro cp fA fw aI aV;have LD:=aV.size;have hP:=hP.below aV;have ab:=ab.below aV;have aq:=aq.below aV;have aE:=aE.below aV;have bZ:=bZ.below aV;replace aV:=Below.kp (p:=p) aV;have hb:=hb.trans aV;have Ll:=aI.lt;refine ay<|cN gr ⟨hb,ab,bZ,aE,_,aq⟩<|cM (rs:= [3]) (by kernel_rfl) rfl<|cO #[ah,ah,ah,ah,ah,aj,aj] rfl rfl (fun _ gu=>?_) ?_
  ·
   refine dQ FX rfl rfl (tZ (X:=fun _ _=>False) (Fw 8 _)) rfl (fun v_ cB cc=>?_) (fun c_ cB cg=>?_)
   rotate_left
   ·
    exact cg.elim
   obtain ⟨⟨gk,rfl,hBk,hgk⟩,aw⟩:=cc;have gK:=aw.size;have hP:=be.below hP aw;have ab:=ak.below ab aw;have aq:=ak.below aq aw;have aE:=ak.below aE aw;have bZ:=ak.below bZ aw;have aI:=ak.below aI aw;replace aw:=Below.kp (p:=p) aw;have hb:=hb.trans aw;refine ay<|cN gu ⟨hb,ab,bZ,aE,_,aq⟩<|cM (rs:= [5]) (by kernel_rfl) rfl<|cO #[ah,ah,ah,ah,ah,ah,aj] rfl rfl (fun _ ki=>?_) ?_
   ·
    refine dQ u3 rfl rfl (uW p en ts g b (n+1) 189 #[] #[ei au,ei kE,ei dq] (Db en b knot) 184 #[] #[ei gk] (fun _=>kT 8 []) _ 1 [[124]] (by simp) hm _ hP (QS b (by omega) (by omega) (by omega) ab bZ aE fun b'=>(hD b').kp hb) (Fx 8 (by omega) hBk _) (aI.rd 1 1 rfl) (fun q e=>by cases e;show cp≠p;omega)) rfl (fun v_ cU cc=>?_) (fun c_ cU cg=>?_)
    rotate_left
    ·
     obtain ⟨pW,p4,kF,rfl,lg,aL⟩:=cg;have i7:=aL.size;have hb:=hb.trans aL;refine cJ<|cJ<|eH ?_
     exact dY ⟨_,_,kF,rfl,lg,hb⟩
    obtain ⟨⟨x,r,hF,⟨z,Sz,rfl,hz,aT⟩,hP,hrl⟩,aL⟩:=cc;have i7:=aL.size;have ab:=ab.kp aL (by omega);have aq:=aq.kp aL (by omega);have aE:=aE.kp aL (by omega);have bZ:=bZ.kp aL (by omega);have hb:=hb.trans aL;refine ay<|cN ki ⟨hb,ab,bZ,aE,_,aq⟩<|cM (rs:= [6]) (by kernel_rfl) rfl<|cO #[ah,ah,ah,ah,ah,ah,ah] rfl rfl (fun _ fD=>?_) ?_
    ·
     refine ba (by kernel_rfl) rfl rfl aq rfl rfl ?_;rintro gB aq bz;have abV:=bz.size;have hb:=bp hb bz (by omega);have hP:=be.over hP bz (by omega);have ab:=ab.over bz (by omega);have aE:=aE.over bz (by omega);have bZ:=bZ.over bz (by omega);have hz:=aY.kp hz bz (fun h_=>by have bh:=aT _ h_;omega);refine ay<|cN fD ⟨hb,ab,bZ,aE,_,aq⟩<|fB (by kernel_rfl)<|ax dU<|aJ<|bQ (rs:= [.cell 2 28]) (vs:= [_]) rfl (.cell rfl (bP b5 (by kernel_rfl) (fun j u hu=>aq.at hu)) .nil) ?_
     exact eY ⟨⟨x,r,hF,⟨z,Sz,rfl,hz,fun k hk=>by have:=aT k hk;omega⟩,hP,hrl⟩,hb⟩
    exact cP
   exact cP
  exact cP
 exact cP
theorem QP (p en g:Nat):∀(n b:Nat) (w:World),iv w p en g b n 167 #[bH p] #[] (lT en n b) eU
 |0,b,w=>⟨T3,fun w' ts hk hP hm=>absurd hm (Nat.not_lt_zero _)⟩
 |n+1,b,w=>⟨T3,fun w' ts hk hP hm=>acp p en ts g b n (lT en n) hm w' hP fun b'=>QP p en g n b' w'⟩
theorem TJ:bB Tryz.prog 205:=⟨_,Tryz.func205,by kernel_rfl,rfl⟩
theorem T2:bB Tryz.prog 168:=⟨_,Tryz.func168,by kernel_rfl,rfl⟩
theorem oI {en k:Nat} {ts:List Tok} (h:(aN en ts).k=k) (hk:k≠0):ts≠ []:=fun e=>by subst e;exact hk h.symm
theorem be.next_len {w:World} {p en:Nat} {ts:List Tok} {g b:Nat} (h:be w p en ts g b):(aN en ts).t.length≤65536:=by
 cases ts with
 |nil=>exact Nat.zero_le _
 |cons t r=>exact h.tk _ (List.mem_cons_self ..)
theorem WR (p en:Nat) (ts:List Tok) (g b n:Nat) (knot:Nat→Pe) (hm:ts.length≤n) (w:World) (hP:be w p en ts g b) (hD:∀b',iv w p en g b' n 168 #[bH p] #[] (knot b') eU):gC Tryz.prog 200 [bH p] w (iR w p en g b ts (fL en b knot ts) (eU w.heap.size)) (iD w p en g b (fL en b knot ts)):=by
 have hpl:=hP.lt;have htl:=hP.next_len;have hb:=Kp.refl p w;refine enter Tryz.func200 rfl rfl rfl<|am fun aR=>bT (z:=fy) (by kernel_rfl) rfl ?_
 rintro au dJ dH ab aM;have:=aM.size;have hP:=hP.below aM;replace aM:=Below.kp (p:=p) aM;have hb:=hb.trans aM;have:=ab.lt;refine al aR<|am fun bt=>ai rfl<|ae (cI rfl) rfl<|ae (aP (fH _) rfl) rfl<|aD qt rfl rfl (st p en ts g b _ hP) rfl ?_
 rintro _ cB ⟨rfl,aw⟩;have:=aw.size;have hP:=be.below hP aw;have ab:=ak.below ab aw;replace aw:=Below.kp (p:=p) aw;have hb:=hb.trans aw;refine bT (z:=fx) (by kernel_rfl) rfl ?_;rintro kE Ad rx bZ gv;have:=gv.size;have hP:=hP.below gv;have ab:=ab.below gv;replace gv:=Below.kp (p:=p) gv;have hb:=hb.trans gv;have:=bZ.lt;refine ba (by kernel_rfl) rfl rfl bZ rfl rfl ?_;rintro du bZ aF;have:=aF.size;have hb:=bp hb aF (by omega);have hP:=be.over hP aF (by omega);have ab:=ab.over aF (by omega);refine al bt<|am fun dW=>an rfl<|al dW<|av fun _ dT=>b4<|am fun dU=>ae (aP (wQ _) rfl) rfl<|aG (aS b0 rfl (by exact bZ.at (j:=0) rfl)) rfl<|ae (bX rfl rfl) rfl<|an rfl<|al dU<|aO rfl (fun dD=>?_) (fun dD=>?_)
 ·
  have kx:=dD;simp only [DZ] at dD;have hk:(aN en ts).k=1:=by have:=dD;omega
  have hne:ts≠ []:=oI hk (by decide);refine am fun dG=>ai rfl<|aD jM rfl rfl (jL p en ts g b hne _ hP) rfl ?_
  rintro _ cU ⟨⟨rfl,hP⟩,aL⟩;have:=aL.size;have ab:=ak.kp ab aL (by omega);have hb:=hb.trans aL;refine ae (ni fe rfl di rfl rfl) rfl<|ae (cC (z:=gd) (pl:=gf) (cs:= [_,_,_,_,_,_,_]) b5 (by kernel_rfl) (by kernel_rfl) rfl rfl rfl) rfl<|ba (by kernel_rfl) rfl rfl ab rfl rfl ?_
  rintro ff ab bc;have:=bc.size;have hb:=bp hb bc (by omega);have hP:=be.over hP bc (by omega);refine al dG<|aJ<|co (aX ?_)
  refine bQ (rs:= [.cell 2 28]) (vs:= [_]) rfl (.cell rfl (bP b5 (by kernel_rfl) (fun j u hu=>ab.at hu)) .nil) ?_;exact eY ⟨⟨_,ts.tail,by simp [fL,hk],⟨⟨2,(aN en ts).t,ch,none,0,0⟩,fun _=>False,rfl,rQ _ _ 2 _ ch,fun _ h=>h.elim⟩,hP,by rw [List.length_tail];omega⟩,hb⟩
 have kx:=dD;simp only [DZ] at dD;have hk:(aN en ts).k≠1:=by have:=dD;omega
 refine am fun gr=>ai rfl<|ae (cI rfl) rfl<|ae (aP (fH _) rfl) rfl<|cz (sz:=1) (vs:= [_]) dl (by kernel_rfl) rfl rfl rfl rfl rfl rfl ?_
 rintro cp fA fw aI aV;have:=aV.size;have hP:=hP.below aV;have ab:=ab.below aV;have bZ:=bZ.below aV;replace aV:=Below.kp (p:=p) aV;have hb:=hb.trans aV;have:=aI.lt;refine aD j4 rfl rfl (jY p en ts g b _ 1 [[40]] (by simp) _ hP (aI.rd 1 1 rfl)) rfl ?_;rintro _ eP ⟨rfl,a6⟩;have:=a6.size;have hP:=be.below hP a6;have ab:=ak.below ab a6;have bZ:=ak.below bZ a6;replace a6:=Below.kp (p:=p) a6;have hb:=hb.trans a6;refine an rfl<|al gr<|aO rfl (fun ui=>?_) (fun ui=>?_)
 ·
  have Es:=ui;have h1:bv en [[40]] ts=true:=Es;refine am fun k8=>ai rfl<|ai rfl<|ae (nj rfl rfl) rfl<|dQ TH rfl rfl (Oq p en ts g b n 168 #[bH p] #[] knot hm _ hP ((hD (b+1)).kp hb)) rfl (fun v_ fj cc=>?_) (fun c_ fj cg=>?_)
  rotate_left
  ·
   obtain ⟨vu,wN,nO,rfl,nW,bk⟩:=cg;have mM:=bk.size;have hb:=hb.trans bk;refine cJ<|jh<|cJ<|eH ?_
   exact dY ⟨_,_,by simp [fL,hk,h1,nO],rfl,nW,hb⟩
  obtain ⟨⟨x,r,hF,⟨z,Sz,rfl,hz,aT⟩,hP,hrl⟩,bk⟩:=cc;have mM:=bk.size;have ab:=ab.kp bk (by omega);have hb:=hb.trans bk;refine ba (by kernel_rfl) rfl rfl ab rfl rfl ?_;rintro gB ab bz;have:=bz.size;have hb:=bp hb bz (by omega);have hP:=be.over hP bz (by omega);have hz:=aY.kp hz bz (fun h_=>by have bh:=aT _ h_;omega);refine al k8<|aJ<|co (aX ?_)
  refine bQ (rs:= [.cell 2 28]) (vs:= [_]) rfl (.cell rfl (bP b5 (by kernel_rfl) (fun j u hu=>ab.at hu)) .nil) ?_;exact eY ⟨⟨x,r,by simp [fL,hk,h1,hF],⟨z,Sz,rfl,hz,fun k hk=>by have:=aT k hk;omega⟩,hP,hrl⟩,hb⟩
 have Es:=ui;have h1:bv en [[40]] ts=false:=Es;refine av fun _ iW=>cR (X:=Bool) (fun q=> [(0,bH p),(2,.pointer (some ⟨au,0,none⟩)),(3,.pointer (some ⟨kE,0,none⟩)),(4,str []),(27,.bool q)]) (fun q wr=>q=decide ((aN en ts).k=4∨bv en [gi,gV,gU,tU] ts=true)∧Kp p w wr∧be wr p en ts g b∧ak wr kE 65 [.int .i64 ((aN en ts).k:Int),str (aN en ts).t,.int .i64 ((aN en ts).a:Int)]∧ak wr au 28 (EC.cells ⟨0,[],ch,none,0,0⟩)) (fun _ xK=>?_) ?_
 ·
  refine aQ<|ae (aP (wQ _) rfl) rfl<|aG (aS b0 rfl (by exact bZ.at (j:=0) rfl)) rfl<|ae (bX rfl rfl) rfl<|ai rfl<|dy rfl rfl rfl (fun fX=>?_) (fun fX=>?_)
  ·
   refine az rfl rfl fX rfl rfl<|az rfl rfl fX rfl rfl<|az rfl rfl fX rfl rfl<|az rfl rfl fX rfl rfl<|ae (bo rfl fX rfl) rfl<|an rfl<|ay<|a7 xK (decide ((aN en ts).k=4∨bv en [gi,gV,gU,tU] ts=true)) (by repeat first|exact aC|refine aA rfl (by first|rfl|exact a8 (by rw [Bool.eq_iff_iff];simp_all<;>omega)) ?_) ?_
   exact ⟨rfl,hb,hP,bZ,ab⟩
  refine ai rfl<|ap rfl rfl fX<|ae (cI rfl) rfl<|ap rfl rfl fX<|ae (aP (fH _) rfl) rfl<|ap rfl rfl fX<|cz (sz:=1) (vs:= [_,_,_,_]) dl (by kernel_rfl) rfl rfl rfl rfl rfl rfl ?_
  rintro cK jB jG aK bA;have:=bA.size;have hP:=hP.below bA;have ab:=ab.below bA;have bZ:=bZ.below bA;replace bA:=Below.kp (p:=p) bA;have hb:=hb.trans bA;have:=aK.lt;refine ap rfl rfl fX<|aD j4 rfl rfl (jY p en ts g b _ 4 [gi,gV,gU,tU] (by simp) _ hP (aK.rd 4 1 rfl)) rfl ?_
  rintro _ gj ⟨rfl,bD⟩;have:=bD.size;have hP:=be.below hP bD;have ab:=ak.below ab bD;have bZ:=ak.below bZ bD;replace bD:=Below.kp (p:=p) bD;have hb:=hb.trans bD;refine ae (bj rfl fX rfl) rfl<|an rfl<|ay<|a7 xK (decide ((aN en ts).k=4∨bv en [gi,gV,gU,tU] ts=true)) (by repeat first|exact aC|refine aA rfl (by first|rfl|exact a8 (by rw [Bool.eq_iff_iff];simp_all<;>omega)) ?_) ?_
  exact ⟨rfl,hb,hP,bZ,ab⟩
 rintro q wr J8;replace J8:q=decide ((aN en ts).k=4∨bv en [gi,gV,gU,tU] ts=true)∧Kp p w wr∧be wr p en ts g b∧ak wr kE 65 [.int .i64 ((aN en ts).k:Int),str (aN en ts).t,.int .i64 ((aN en ts).a:Int)]∧ak wr au 28 (EC.cells ⟨0,[],ch,none,0,0⟩):=J8;obtain ⟨hq,hb,hP,bZ,ab⟩:=J8;show Wq _ _ _ _ [(0,bH p),(2,.pointer (some ⟨au,0,none⟩)),(3,.pointer (some ⟨kE,0,none⟩)),(4,str []),(27,.bool q)] _;have:=hb.size;have:=bZ.lt;have:=ab.lt;refine ax iW<|aO rfl (fun Hk=>?_) (fun Hk=>?_)
 ·
  have Hl:=Hk;have h2:=of_decide_eq_true (hq.symm.trans Hl)
  have hne:ts≠ []:=by
   rcases h2 with h2|h2
   · exact oI h2 (by decide)
   · exact eB h2
  refine av fun _ mF=>jg (n:=7) (fun w'=>Kp p w w'∧ak w' kE 65 [.int .i64 ((aN en ts).k:Int),str (aN en ts).t,.int .i64 ((aN en ts).a:Int)]∧∃cs,ak w' au 28 cs) #[aj,aj,aj,aj,aj,aj,aj] (by kernel_rfl) rfl (by kernel_rfl)<|jf ?_
  rintro ain xZ;have:=xZ.size;have hP:=hP.below xZ;have bZ:=bZ.below xZ;have ab:=ab.below xZ;replace xZ:=Below.kp (p:=p) xZ;have hb:=hb.trans xZ;refine bC (i:=0) #[ah,aj,aj,aj,aj,aj,aj] rfl (by kernel_rfl) bF rfl (fun wq hq=>bU (dN rfl)) ⟨hb,bZ,_,ab⟩<|bC (i:=3) #[ah,aj,aj,ah,aj,aj,aj] rfl (by kernel_rfl) bF rfl (fun wq hq=>bU (aP (qQ _) rfl)) ⟨hb,bZ,_,ab⟩<|bC (i:=4) #[ah,aj,aj,ah,ah,aj,aj] rfl (by kernel_rfl) bF rfl (fun wq hq=>aS b0 rfl (by obtain ⟨hq,bZ,_,ab⟩:=hq;exact bZ.at (j:=2) rfl)) ⟨hb,bZ,_,ab⟩<|cM (rs:= [1]) (by kernel_rfl) rfl<|cO #[ah,ah,aj,ah,ah,aj,aj] rfl rfl (fun _ kK=>?_) ?_
  ·
   refine aD jM rfl rfl (jL p en ts g b hne _ hP) rfl ?_;rintro _ lW ⟨⟨rfl,hP⟩,cm⟩;have:=cm.size;have bZ:=ak.kp bZ cm (by omega);have ab:=ak.kp ab cm (by omega);have hb:=hb.trans cm;refine ay<|cN kK ⟨hb,bZ,_,ab⟩<|bC (i:=2) #[ah,ah,ah,ah,ah,aj,aj] rfl (by kernel_rfl) bF rfl (fun wq hq=>bU (ni fe rfl di rfl rfl)) ⟨hb,bZ,_,ab⟩<|cM (rs:= [5]) (by kernel_rfl) rfl<|cO #[ah,ah,ah,ah,ah,ah,aj] rfl rfl (fun _ nR=>?_) ?_
   ·
    refine dQ TJ rfl rfl (Q5 p en (aN en ts).t (aN en ts).a ts.tail ts (by rw [List.length_tail];omega) (by omega) g b _ hP) rfl (fun v_ lX cc=>?_) (fun c_ lX cg=>?_)
    rotate_left
    ·
     obtain ⟨WN,YA,Jo,rfl,Lc,cy⟩:=cg;have CR:=cy.size;have hb:=hb.trans cy;refine cJ<|cJ<|jh<|cJ<|eH ?_
     exact dY ⟨_,_,by simp only [fL,if_neg hk,h1,if_pos h2,Jo];rfl,rfl,Lc,hb⟩
    obtain ⟨⟨x,r,hF,⟨z,Sz,rfl,hz,aT⟩,hP,hrl⟩,cy⟩:=cc;have CR:=cy.size;have bZ:=bZ.kp cy (by omega);have ab:=ab.kp cy (by omega);have hb:=hb.trans cy;refine ay<|cN nR ⟨hb,bZ,_,ab⟩<|cM (rs:= [6]) (by kernel_rfl) rfl<|cO #[ah,ah,ah,ah,ah,ah,ah] rfl rfl (fun _ jv=>?_) ?_
    ·
     refine ba (by kernel_rfl) rfl rfl ab rfl rfl ?_;rintro j7 ab cd;have:=cd.size;have hb:=bp hb cd (by omega);have hP:=be.over hP cd (by omega);have bZ:=bZ.over cd (by omega);have hz:=aY.kp hz cd (fun h_=>by have bh:=aT _ h_;omega);refine ay<|cN jv ⟨hb,bZ,_,ab⟩<|fB (by kernel_rfl)<|ax mF<|aJ<|co (aX ?_)
     refine bQ (rs:= [.cell 2 28]) (vs:= [_]) rfl (.cell rfl (bP b5 (by kernel_rfl) (fun j u hu=>ab.at hu)) .nil) ?_;exact eY ⟨⟨x,r,by simp only [fL,if_neg hk,h1,if_pos h2,hF];rfl,⟨z,Sz,rfl,hz,fun k hk=>by have:=aT k hk;omega⟩,hP,hrl⟩,hb⟩
    exact cP
   exact cP
  exact cP
 have Hl:=Hk;have h2:=of_decide_eq_false (hq.symm.trans Hl);refine am fun Cm=>ai rfl<|ae (cI rfl) rfl<|ae (aP (fH _) rfl) rfl<|cz (sz:=1) (vs:= [_]) dl (by kernel_rfl) rfl rfl rfl rfl rfl rfl ?_
 rintro eA pO f4 bn c8;have:=c8.size;have hP:=hP.below c8;have bZ:=bZ.below c8;have ab:=ab.below c8;replace c8:=Below.kp (p:=p) c8;have hb:=hb.trans c8;have:=bn.lt;refine aD j4 rfl rfl (jY p en ts g b _ 1 [[45]] (by simp) _ hP (bn.rd 1 1 rfl)) rfl ?_;rintro _ mh ⟨rfl,cA⟩;have:=cA.size;have hP:=be.below hP cA;have bZ:=ak.below bZ cA;have ab:=ak.below ab cA;replace cA:=Below.kp (p:=p) cA;have hb:=hb.trans cA;refine an rfl<|al Cm<|cR (X:=ao×List Tok) (fun (sg,r)=> [(0,bH p),(2,.pointer (some ⟨au,0,none⟩)),(3,.pointer (some ⟨kE,0,none⟩)),(4,str sg)]) (fun (sg,r) wr=>fL en b knot ts=oe en sg r∧r.length≤ts.length∧sg.length≤65536∧Kp p w wr∧be wr p en r g b∧ak wr kE 65 [.int .i64 ((aN en ts).k:Int),str (aN en ts).t,.int .i64 ((aN en ts).a:Int)]∧ak wr au 28 (EC.cells ⟨0,[],ch,none,0,0⟩)) (fun _ Qk=>?_) ?_
 ·
  refine aO rfl (fun HI=>?_) (fun HI=>?_)
  ·
   have HJ:=HI;have h3:bv en [[45]] ts=true:=HJ;have hne:=eB h3;obtain ⟨sg,hsg⟩:∃sg,sg=(aN en ts).t:=⟨_,rfl⟩;obtain ⟨r,nX⟩:∃r,r=ts.tail:=⟨_,rfl⟩;have hrt:r.length≤ts.length:=by rw [nX,List.length_tail];omega
   have hpn:fL en b knot ts=oe en (aN en ts).t ts.tail:=by simp only [fL,if_neg hk,h1,if_neg h2,h3];rfl
   refine aQ<|ai rfl<|aD jM rfl rfl (jL p en ts g b hne _ hP) rfl ?_
   rintro _ qw ⟨⟨rfl,hP⟩,cL⟩;have:=cL.size;have bZ:=ak.kp bZ cL (by omega);have ab:=ak.kp ab cL (by omega);have hb:=hb.trans cL;refine ae (ni fe rfl di rfl rfl) rfl<|an rfl<|ay<|a7 Qk (⟨sg,r⟩) (by repeat first|exact aC|refine aA rfl (by first|rfl|(rw [hsg];first|done|rfl)) ?_) ?_
   exact ⟨by rw [hpn,hsg,nX],hrt,by rw [hsg];first|omega|exact Nat.zero_le _,hb,by rw [nX];exact hP,bZ,ab⟩
  have HJ:=HI;have h3:bv en [[45]] ts=false:=HJ;obtain ⟨sg,hsg⟩:∃sg:ao,sg= []:=⟨_,rfl⟩;obtain ⟨r,nX⟩:∃r,r=ts:=⟨_,rfl⟩;have hrt:r.length≤ts.length:=by rw [nX];omega
  have hpn:fL en b knot ts=oe en [] ts:=by simp only [fL,if_neg hk,h1,if_neg h2,h3];rfl
  refine aU<|a7 Qk (⟨sg,r⟩) (by repeat first|exact aC|refine aA rfl (by first|rfl|(rw [hsg];first|done|rfl)) ?_) ?_
  exact ⟨by rw [hpn,hsg,nX],hrt,by rw [hsg];first|omega|exact Nat.zero_le _,hb,by rw [nX];exact hP,bZ,ab⟩
 rintro ⟨sg,r⟩ wr Ki;replace Ki:fL en b knot ts=oe en sg r∧r.length≤ts.length∧sg.length≤65536∧Kp p w wr∧be wr p en r g b∧ak wr kE 65 [.int .i64 ((aN en ts).k:Int),str (aN en ts).t,.int .i64 ((aN en ts).a:Int)]∧ak wr au 28 (EC.cells ⟨0,[],ch,none,0,0⟩):=Ki;obtain ⟨hN,hrl,hsl,hb,hP,bZ,ab⟩:=Ki;show Wq _ _ _ _ [(0,bH p),(2,.pointer (some ⟨au,0,none⟩)),(3,.pointer (some ⟨kE,0,none⟩)),(4,str sg)] _;have:=hb.size;have:=bZ.lt;have:=ab.lt;refine cD<|ax dT<|av fun _ oC=>?_
 have hrl65:=hP.next_len;refine aQ<|ai rfl<|ae (cI rfl) rfl<|ae (aP (fH _) rfl) rfl<|aD qt rfl rfl (st p en r g b _ hP) rfl ?_
 rintro _ sD ⟨rfl,dr⟩;have:=dr.size;have hP:=be.below hP dr;have bZ:=ak.below bZ dr;have ab:=ak.below ab dr;replace dr:=Below.kp (p:=p) dr;have hb:=hb.trans dr;refine ba (by kernel_rfl) rfl rfl bZ rfl rfl ?_;rintro kW bZ cx;have:=cx.size;have hb:=bp hb cx (by omega);have hP:=be.over hP cx (by omega);have ab:=ab.over cx (by omega);refine al oC<|av fun _ tx=>av fun _ mH=>cR (X:=Bool) (fun q=> [(0,bH p),(2,.pointer (some ⟨au,0,none⟩)),(3,.pointer (some ⟨kE,0,none⟩)),(4,str sg),(67,.bool q)]) (fun q wr=>q=decide ((aN en r).k≠3∧bv en [qv] r=false)∧Kp p w wr∧be wr p en r g b∧ak wr kE 65 [.int .i64 ((aN en r).k:Int),str (aN en r).t,.int .i64 ((aN en r).a:Int)]∧ak wr au 28 (EC.cells ⟨0,[],ch,none,0,0⟩)) (fun _ Qq=>?_) ?_
 ·
  refine aQ<|ae (aP (wQ _) rfl) rfl<|aG (aS b0 rfl (by exact bZ.at (j:=0) rfl)) rfl<|ae (fG rfl rfl) rfl<|ai rfl<|cG rfl rfl rfl (fun kD=>?_) (fun kD=>?_)
  ·
   refine ai rfl<|ap rfl rfl kD<|ae (cI rfl) rfl<|ap rfl rfl kD<|ae (aP (fH _) rfl) rfl<|ap rfl rfl kD<|cz (sz:=1) (vs:= [_]) dl (by kernel_rfl) rfl rfl rfl rfl rfl rfl ?_
   rintro eW sA l8 bu d4;have:=d4.size;have hP:=hP.below d4;have bZ:=bZ.below d4;have ab:=ab.below d4;replace d4:=Below.kp (p:=p) d4;have hb:=hb.trans d4;have:=bu.lt;refine ap rfl rfl kD<|aD j4 rfl rfl (jY p en r g b _ 1 [qv] (by simp) _ hP (bu.rd 1 1 rfl)) rfl ?_
   rintro _ sB ⟨rfl,cY⟩;have:=cY.size;have hP:=be.below hP cY;have bZ:=ak.below bZ cY;have ab:=ak.below ab cY;replace cY:=Below.kp (p:=p) cY;have hb:=hb.trans cY;refine ap rfl rfl kD<|ae (jd rfl) rfl<|ae (bo rfl kD rfl) rfl<|ay<|a7 Qq (decide ((aN en r).k≠3∧bv en [qv] r=false)) (by repeat first|exact aC|refine aA rfl (by first|rfl|exact a8 (by rw [Bool.eq_iff_iff];simp_all<;>omega)) ?_) ?_
   exact ⟨rfl,hb,hP,bZ,ab⟩
  refine az rfl rfl kD rfl rfl<|az rfl rfl kD rfl rfl<|az rfl rfl kD rfl rfl<|az rfl rfl kD rfl rfl<|az rfl rfl kD rfl rfl<|ae (bj rfl kD rfl) rfl<|ay<|a7 Qq (decide ((aN en r).k≠3∧bv en [qv] r=false)) (by repeat first|exact aC|refine aA rfl (by first|rfl|exact a8 (by rw [Bool.eq_iff_iff];simp_all<;>omega)) ?_) ?_
  exact ⟨rfl,hb,hP,bZ,ab⟩
 rintro q wr xz;replace xz:q=decide ((aN en r).k≠3∧bv en [qv] r=false)∧Kp p w wr∧be wr p en r g b∧ak wr kE 65 [.int .i64 ((aN en r).k:Int),str (aN en r).t,.int .i64 ((aN en r).a:Int)]∧ak wr au 28 (EC.cells ⟨0,[],ch,none,0,0⟩):=xz;obtain ⟨hq2,hb,hP,bZ,ab⟩:=xz;show Wq _ _ _ _ [(0,bH p),(2,.pointer (some ⟨au,0,none⟩)),(3,.pointer (some ⟨kE,0,none⟩)),(4,str sg),(67,.bool q)] _;have:=hb.size;have:=bZ.lt;have:=ab.lt;refine ax mH<|aO rfl (fun HO=>?_) (fun HO=>?_)
 ·
  have HP:=HO;have h4:=of_decide_eq_true (hq2.symm.trans HP);refine aQ<|ai rfl<|dQ z6 rfl rfl (y8 p en r g b _ hP) rfl (fun v_ oQ cc=>?_) (fun c_ oQ cg=>?_)
  rotate_left
  ·
   obtain ⟨ahp,ahE,Zo,rfl,aaF,bE⟩:=cg;have:=bE.size;have hb:=hb.trans bE;refine cJ<|eH ?_
   cases Zo;exact dY ⟨_,_,by rw [hN];exact if_pos h4,rfl,aaF,hb⟩
  exact cc.elim
 have HP:=HO;have h4:=of_decide_eq_false (hq2.symm.trans HP)
 have hne:r≠ []:=by
  by_cases e:(aN en r).k=3
  · exact oI e (by decide)
  · cases e2:bv en [qv] r with
    |true=>exact eB e2
    |false=>exact absurd ⟨e,e2⟩ h4
 refine aU<|ax tx<|av fun _ oA=>jg (n:=9) (fun w'=>Kp p w w'∧ak w' kE 65 [.int .i64 ((aN en r).k:Int),str (aN en r).t,.int .i64 ((aN en r).a:Int)]∧∃cs,ak w' au 28 cs) #[aj,aj,aj,aj,aj,aj,aj,aj,aj] (by kernel_rfl) rfl (by kernel_rfl)<|jf ?_
 rintro Uh nY;have:=nY.size;have hP:=hP.below nY;have bZ:=bZ.below nY;have ab:=ab.below nY;replace nY:=Below.kp (p:=p) nY;have hb:=hb.trans nY;refine bC (i:=0) #[ah,aj,aj,aj,aj,aj,aj,aj,aj] rfl (by kernel_rfl) bF rfl (fun wq hq=>bU (dN rfl)) ⟨hb,bZ,_,ab⟩<|bC (i:=1) #[ah,ah,aj,aj,aj,aj,aj,aj,aj] rfl (by kernel_rfl) bF rfl (fun wq hq=>bU (dN rfl)) ⟨hb,bZ,_,ab⟩<|bC (i:=5) #[ah,ah,aj,aj,aj,ah,aj,aj,aj] rfl (by kernel_rfl) bF rfl (fun wq hq=>bU (aP (qQ _) rfl)) ⟨hb,bZ,_,ab⟩<|bC (i:=6) #[ah,ah,aj,aj,aj,ah,ah,aj,aj] rfl (by kernel_rfl) bF rfl (fun wq hq=>aS b0 rfl (by obtain ⟨hq,bZ,_,ab⟩:=hq;exact bZ.at (j:=2) rfl)) ⟨hb,bZ,_,ab⟩<|cM (rs:= [2]) (by kernel_rfl) rfl<|cO #[ah,ah,ah,aj,aj,ah,ah,aj,aj] rfl rfl (fun _ B2=>?_) ?_
 ·
  refine aD jM rfl rfl (jL p en r g b hne _ hP) rfl ?_;rintro _ u6 ⟨⟨rfl,hP⟩,eN⟩;have:=eN.size;have bZ:=ak.kp bZ eN (by omega);have ab:=ak.kp ab eN (by omega);have hb:=hb.trans eN;refine ay<|cN B2 ⟨hb,bZ,_,ab⟩<|bC (i:=3) #[ah,ah,ah,ah,aj,ah,ah,aj,aj] rfl (by kernel_rfl) bF rfl (fun wq hq=>bU (ni fe rfl di rfl rfl)) ⟨hb,bZ,_,ab⟩<|bC (i:=4) #[ah,ah,ah,ah,ah,ah,ah,aj,aj] rfl (by kernel_rfl) bF rfl (fun wq hq=>bU (eu rfl rfl (by omega))) ⟨hb,bZ,_,ab⟩<|cM (rs:= [7]) (by kernel_rfl) rfl<|cO #[ah,ah,ah,ah,ah,ah,ah,ah,aj] rfl rfl (fun _ Zx=>?_) ?_
  ·
   refine dQ TJ rfl rfl (Q5 p en (sg++(aN en r).t) (aN en r).a r.tail ts (by rw [List.length_tail];omega) (by rw [List.length_append];omega) g b _ hP) rfl (fun v_ sC cc=>?_) (fun c_ sC cg=>?_)
   rotate_left
   ·
    obtain ⟨Oc,OY,BW,rfl,CB,fk⟩:=cg;have CQ:=fk.size;have hb:=hb.trans fk;refine cJ<|cJ<|eH ?_
    exact dY ⟨_,_,by rw [hN];simp only [oe,if_neg h4,BW],rfl,CB,hb⟩
   obtain ⟨⟨x,r2,hF,⟨z,Sz,rfl,hz,aT⟩,hP,hrl2⟩,fk⟩:=cc;have CQ:=fk.size;have bZ:=bZ.kp fk (by omega);have ab:=ab.kp fk (by omega);have hb:=hb.trans fk;refine ay<|cN Zx ⟨hb,bZ,_,ab⟩<|cM (rs:= [8]) (by kernel_rfl) rfl<|cO #[ah,ah,ah,ah,ah,ah,ah,ah,ah] rfl rfl (fun _ tq=>?_) ?_
   ·
    refine ba (by kernel_rfl) rfl rfl ab rfl rfl ?_;rintro mV ab cS;have:=cS.size;have hb:=bp hb cS (by omega);have hP:=be.over hP cS (by omega);have bZ:=bZ.over cS (by omega);have hz:=aY.kp hz cS (fun h_=>by have bh:=aT _ h_;omega);refine ay<|cN tq ⟨hb,bZ,_,ab⟩<|fB (by kernel_rfl)<|ax oA<|aJ<|bQ (rs:= [.cell 2 28]) (vs:= [_]) rfl (.cell rfl (bP b5 (by kernel_rfl) (fun j u hu=>ab.at hu)) .nil) ?_
    exact eY ⟨⟨x,r2,by rw [hN];simp only [oe,if_neg h4,hF],⟨z,Sz,rfl,hz,fun k hk=>by have:=aT k hk;omega⟩,hP,hrl2⟩,hb⟩
   exact cP
  exact cP
 exact cP
end Go.Proofs.YtjdjliiolchciaaGreatDoor
