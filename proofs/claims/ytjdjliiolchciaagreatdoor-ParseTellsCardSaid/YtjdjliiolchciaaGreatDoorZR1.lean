import Derived.Test.YtjdjliiolchciaaGreatDoorZM
import Derived.Test.YtjdjliiolchciaaGreatDoorZPsY
namespace Go.Proofs.YtjdjliiolchciaaGreatDoor
open Go.RowKit Go.Bw Go.Bw.Fl
set_option linter.unusedVariables false
set_option linter.unusedSimpArgs false
abbrev Sg:=cn Unit
def bR {α:Type} (σ:Sg) (F:List Tok→cn α):cn α:=match σ with
 | .ok _ ts=>F ts
 | .err a e=> .err a e
def dZ {α:Type} (x:α):Sg→cn α
 | .ok _ r=> .ok x r
 | .err a e=> .err a e
def eI {α β:Type} (X:cn α) (G:α→List Tok→cn β):cn β:=match X with
 | .ok x r=>G x r
 | .err a e=> .err a e
def cE:Sg→Nat
 | .ok _ ts=>ts.length
 | .err _ _=>0
def eZ (en:Nat) (xs:List (ao)):Sg→Bool
 | .ok _ ts=>bv en xs ts
 | .err _ _=>false
def mN (en k:Nat):Sg→Bool
 | .ok _ ts=>decide ((aN en ts).k=k)
 | .err _ _=>false
def pK (a e:Int):Sg→Sg
 | .ok _ _=> .err a e
 | .err a e=> .err a e
def uC (en:Nat):Sg→Sg
 | .ok _ ts=> .err (aN en ts).a 2
 | .err a e=> .err a e
def uX (en:Nat) (s:ao):Sg→Sg
 | .ok u ts=>if bv en [s] ts=true then .ok u ts.tail else .err (aN en ts).a 2
 | .err a e=> .err a e
theorem WX {α β:Type} (σ:Sg) (F:List Tok→cn α) (G:α→List Tok→cn β):bR σ (fun ts=>eI (F ts) G)=eI (bR σ F) G:=by cases σ<;>rfl
theorem WW {α β:Type} (x:α) (σ:Sg) (G:α→List Tok→cn β):eI (dZ x σ) G=bR σ (G x):=by cases σ<;>rfl
theorem ij {α β:Type} {σ σ':Sg} {F:List Tok→cn α} {x:α} (h:bR σ F=dZ x σ') (G:α→List Tok→cn β):bR σ (fun ts=>eI (F ts) G)=bR σ' (G x):=by rw [WX,h,WW]
theorem WY {α:Type} (x:α) (σ:Sg):bR σ (fun ts=> .ok x ts)=dZ x σ:=by cases σ<;>rfl
theorem Mj {α:Type} (en:Nat) (s:ao) (σ:Sg) (x:α):bR σ (fun r2=>eI (eO en s r2) fun _ r3=> .ok x r3)=dZ x (uX en s σ):=by
 cases σ with
 |err a e=>rfl
 |ok u ts=>
  show eI (eO en s ts) _=dZ x (if bv en [s] ts=true then .ok u ts.tail else .err (aN en ts).a 2);unfold eO
  split<;>rfl
theorem oN {en:Nat} {xs:List (ao)} {σ:Sg} (h:eZ en xs σ=true):∃ts,σ= .ok () ts∧bv en xs ts=true:=by
 cases σ with
 |ok u ts=>exact ⟨ts,rfl,h⟩
 |err a e=>cases h
theorem LX {en k:Nat} {σ:Sg} (h:mN en k σ=true):∃ts,σ= .ok () ts∧(aN en ts).k=k:=by
 cases σ with
 |ok u ts=>exact ⟨ts,rfl,of_decide_eq_true h⟩
 |err a e=>cases h
theorem rJ {α:Type} {σ σ':Sg} {F:List Tok→cn α} {x:α} (h:bR σ F=dZ x σ') (hF:∀ts x r,F ts= .ok x r→r.length≤ts.length):cE σ'≤cE σ:=by
 cases σ' with
 |err a e=>exact Nat.zero_le _
 |ok u r=>
  cases σ with
  |err a e=>cases h
  |ok u ts=>exact hF ts x r h
theorem yo {F:Pe} (h:iE F):∀ts x r,F ts= .ok x r→r.length≤ts.length:=fun ts x r e=>by have:=h ts x r e;omega
theorem MV {F:List Tok→cn bS} (h:mY F):∀ts x r,F ts= .ok x r→r.length≤ts.length:=fun ts x r e=>by have:=(h ts x r e).1;omega
theorem Re {en:Nat} {F:Pe} {M:ao→b6→b6→b6} {signs:List (ao)} (hT:iE F):∀(n m:Nat) (x:b6) (ts:List Tok),ts.length≤n→ts.length≤m→jJ en F M signs n x ts=jJ en F M signs m x ts
 |0,0,x,ts,_,_=>rfl
 |0,m+1,x,ts,hn,_=>by
  have:ts= []:=List.length_eq_zero_iff.1 (by omega);subst this;simp only [jJ];rw [if_neg (by unfold bv;rw [decide_eq_true_eq];rintro ⟨h|h,_⟩<;>cases h)]
 |n+1,0,x,ts,_,hm=>by
  have:ts= []:=List.length_eq_zero_iff.1 (by omega);subst this;simp only [jJ];rw [if_neg (by unfold bv;rw [decide_eq_true_eq];rintro ⟨h|h,_⟩<;>cases h)]
 |n+1,m+1,x,ts,hn,hm=>by
  simp only [jJ]
  split
  · rename_i hi
    have hl:=kN hi
    cases hs:F ts.tail with
    |err a e=>rfl
    |ok y r=>
     have h1:=hT _ _ _ hs;have:=yV y;exact Re hT n m _ _ (by omega) (by omega)
  · rfl
def tK (en:Nat) (F:Pe) (M:ao→b6→b6→b6) (signs:List (ao)) (x:b6) (ts:List Tok):cn b6:=jJ en F M signs ts.length x ts
theorem RN (en:Nat) (F:Pe) (M:ao→b6→b6→b6) (signs:List (ao)):jK en F M signs=fun ts=>eI (F ts) (tK en F M signs):=by kernel_rfl
theorem Ri {en:Nat} {F:Pe} {M:ao→b6→b6→b6} {signs:List (ao)} (hT:iE F) {ts:List Tok} (x:b6) (h:bv en signs ts=true):tK en F M signs x ts=eI (F ts.tail) fun y r=>tK en F M signs (M (aN en ts).t x y) r:=by
 have hl:=kN h;unfold tK;rw [←hl];simp only [jJ];rw [if_pos h]
 cases hs:F ts.tail with
 |err a e=>rfl
 |ok y r=>
  have h1:=hT _ _ _ hs;have:=yV y;exact Re hT _ _ _ _ (by omega) (Nat.le_refl _)
theorem Rh {en:Nat} {F:Pe} {M:ao→b6→b6→b6} {signs:List (ao)} {σ:Sg} (x:b6) (h:eZ en signs σ=false):bR σ (tK en F M signs x)=dZ x σ:=by
 cases σ with
 |err a e=>rfl
 |ok u ts=>
  show jJ en F M signs ts.length x ts= .ok x ts
  cases hl:ts.length with
  |zero=>rfl
  |succ n=>simp only [jJ];rw [if_neg (by rw [show bv en signs ts=false from h];decide)]
def l1 (en:Nat) (s:ao):Sg→Nat×Sg
 | .ok u ts=>((ik en s ts).1,.ok u (ik en s ts).2)
 | .err a e=>(0,.err a e)
theorem OL {en:Nat} {s:ao} {ts:List Tok} (h:bv en [s] ts=true):l1 en s (.ok () ts)=((l1 en s (.ok () ts.tail)).1+1,(l1 en s (.ok () ts.tail)).2):=by
 cases ts with
 |nil=>exact absurd rfl (eB h)
 |cons t r=>
  show ((ik en s (t :: r)).1,cn.ok () (ik en s (t :: r)).2)=_;simp only [ik];rw [if_pos h];rfl
theorem OK {en:Nat} {s:ao} {σ:Sg} (h:eZ en [s] σ=false):l1 en s σ=(0,σ):=by
 cases σ with
 |err a e=>rfl
 |ok u ts=>
  show ((ik en s ts).1,cn.ok u (ik en s ts).2)=_
  cases ts with
  |nil=>rfl
  |cons t r=>simp only [ik];rw [if_neg (by rw [show bv en [s] (t :: r)=false from h];decide)]
theorem Tk {en:Nat} {sign:ao} {F:Pe} {k:Int} {nm:ao} {σ σ':Sg} {x:b6} (h:bR (l1 en sign σ).2 F=dZ x σ'):bR σ (i8 en sign F k nm)=dZ (ku k nm (l1 en sign σ).1 x) σ':=by
 cases σ with
 |err a e=>
  cases σ' with
  |ok u r=>cases h
  |err a' e'=>exact h
 |ok u ts=>
  have h1:F (ik en sign ts).2=dZ x σ':=h;show i8 en sign F k nm ts=dZ (ku k nm (ik en sign ts).1 x) σ';unfold i8;rw [h1]
  cases σ'<;>rfl
theorem y7 (p:Addr) (w:World):(Instr.fieldAt 58 (.pointer (some p)) 0).run Tryz.prog w= .ok (.pointer (some (p.add 0))) w:=eT (i:=0) (sz:=0) yy rfl (by kernel_rfl) p w
theorem YY (p:Addr) (w:World):(Instr.fieldAt 58 (.pointer (some p)) 1).run Tryz.prog w= .ok (.pointer (some (p.add 1))) w:=eT (i:=1) (sz:=0) yy rfl (by kernel_rfl) p w
theorem Pn (p:Addr) (w:World):(Instr.fieldAt 58 (.pointer (some p)) 2).run Tryz.prog w= .ok (.pointer (some (p.add 2))) w:=eT (i:=2) (sz:=0) yy rfl (by kernel_rfl) p w
theorem nB (p:Addr) (w:World):(Instr.fieldAt 58 (.pointer (some p)) 3).run Tryz.prog w= .ok (.pointer (some (p.add 3))) w:=eT (i:=3) (sz:=0) yy rfl (by kernel_rfl) p w
theorem EN (p:Addr) (w:World):(Instr.fieldAt 74 (.pointer (some p)) 0).run Tryz.prog w= .ok (.pointer (some (p.add 0))) w:=eT (i:=0) (sz:=0) ig rfl (by kernel_rfl) p w
theorem l5 (p:Addr) (w:World):(Instr.fieldAt 74 (.pointer (some p)) 1).run Tryz.prog w= .ok (.pointer (some (p.add 1))) w:=eT (i:=1) (sz:=0) ig rfl (by kernel_rfl) p w
theorem p5 (p:Addr) (w:World):(Instr.fieldAt 74 (.pointer (some p)) 2).run Tryz.prog w= .ok (.pointer (some (p.add 2))) w:=eT (i:=2) (sz:=0) ig rfl (by kernel_rfl) p w
theorem zC:One Tryz.prog 53:=⟨_,tQ,rfl,by kernel_rfl⟩
theorem S5:(Tryz.prog.info? 74).map (·.size)=some 3:=by kernel_rfl
theorem yr:bB Tryz.prog 16:=⟨_,Tryz.func16,by kernel_rfl,rfl⟩
theorem lj:bB Tryz.prog 31:=⟨_,Tryz.func31,by kernel_rfl,rfl⟩
theorem iP:bB Tryz.prog 32:=⟨_,Tryz.func32,by kernel_rfl,rfl⟩
theorem u4:bB Tryz.prog 33:=⟨_,Tryz.func33,by kernel_rfl,rfl⟩
theorem sw:bB Tryz.prog 35:=⟨_,Tryz.func35,by kernel_rfl,rfl⟩
theorem z7:bB Tryz.prog 57:=⟨_,Tryz.func57,by kernel_rfl,rfl⟩
theorem yu:bB Tryz.prog 58:=⟨_,Tryz.func58,by kernel_rfl,rfl⟩
structure ka (w:World) (p en:Nat) (ts:List Tok) (g b:Nat) (a e:Int):Prop where
 ex:∃A c,ts.length≤c∧ts.length≤65536∧ak w p 58 [.slice A ts.length c,.int .i64 (en:Int),.int .i64 a,.int .i64 e,.int .i64 (g:Int),.int .i64 (b:Int)]∧Rd w 3 A ts.length (ts.flatMap Tok.cells)∧∀q,A=some q→q.block<p
 tk:∀t∈ts,t.t.length≤65536∧(t.k=2→t.t∈jy)
theorem ka.over {w w':World} {p k en:Nat} {ts:List Tok} {g b:Nat} {a e:Int} (h:ka w p en ts g b a e) (hg:w.grownBy w' (some k)) (hk:p<k):ka w' p en ts g b a e:=by
 obtain ⟨A,c,h1,h2,h3,h4,h5⟩:=h.ex;exact ⟨⟨A,c,h1,h2,h3.over hg (by omega),h4.kp hg (fun q e=>by have:=h5 q e;omega),h5⟩,h.tk⟩
theorem ka.below {w w':World} {p en:Nat} {ts:List Tok} {g b:Nat} {a e:Int} (h:ka w p en ts g b a e) (hk:Below w.heap.size w w'):ka w' p en ts g b a e:=by
 obtain ⟨A,c,h1,h2,h3,h4,h5⟩:=h.ex;exact ⟨⟨A,c,h1,h2,h3.below hk,h4.below hk,h5⟩,h.tk⟩
theorem ka.lt {w:World} {p en:Nat} {ts:List Tok} {g b:Nat} {a e:Int} (h:ka w p en ts g b a e):p<w.heap.size:=by
 obtain ⟨A,c,h1,h2,h3,h4,h5⟩:=h.ex;exact h3.lt
def RO (w:World) (p en g b:Nat) (σ:Sg):Prop:=∃ts a e,ka w p en ts g b a e∧((σ= .ok () ts∧a=0∧e=0)∨(σ= .err a e∧e≠0))
theorem RO.over {w w':World} {p k en g b:Nat} {σ:Sg} (h:RO w p en g b σ) (hg:w.grownBy w' (some k)) (hk:p<k):RO w' p en g b σ:=by
 obtain ⟨ts,a,e,h1,h2⟩:=h;exact ⟨ts,a,e,h1.over hg hk,h2⟩
theorem RO.below {w w':World} {p en g b:Nat} {σ:Sg} (h:RO w p en g b σ) (hk:Below w.heap.size w w'):RO w' p en g b σ:=by
 obtain ⟨ts,a,e,h1,h2⟩:=h;exact ⟨ts,a,e,h1.below hk,h2⟩
theorem RO.lt {w:World} {p en g b:Nat} {σ:Sg} (h:RO w p en g b σ):p<w.heap.size:=by
 obtain ⟨ts,a,e,h1,h2⟩:=h;exact h1.lt
theorem RO.live {w:World} {p en g b:Nat} {ts:List Tok} (h:RO w p en g b (.ok () ts)):ka w p en ts g b 0 0:=by
 obtain ⟨ts',a,e,h1,h2⟩:=h
 rcases h2 with ⟨h2,h3,h4⟩|⟨h2,_⟩
 · injection h2 with _ h5;subst h3 h4 h5;exact h1
 · cases h2
theorem RO.sz {w:World} {p en g b:Nat} {σ:Sg} (h:RO w p en g b σ):cE σ≤65536:=by
 obtain ⟨ts,a,e,h1,h2⟩:=h;obtain ⟨_,_,_,h3,_⟩:=h1.ex
 rcases h2 with ⟨h2,_⟩|⟨h2,_⟩
 · rw [h2];exact h3
 · rw [h2];exact Nat.zero_le _
theorem RO.mk {w:World} {p en g b:Nat} {ts:List Tok} (h:ka w p en ts g b 0 0):RO w p en g b (.ok () ts):=⟨ts,0,0,h,.inl ⟨rfl,rfl,rfl⟩⟩
theorem u0 (p en:Nat) (ts:List Tok) (g b:Nat) (a e:Int) (w:World) (hP:ka w p en ts g b a e):bx Tryz.prog 33 [bH p] w fun v w'=>v= .agg #[.int .i64 ((aN en ts).k:Int),str (aN en ts).t,.int .i64 ((aN en ts).a:Int)]∧Below w.heap.size w w':=by
 obtain ⟨A,c,h1,h2,hPb,hPr,h5⟩:=hP.ex;have hb:=Below.refl w.heap.size w;have mI:=hPb;have xO:=hPr;refine enter Tryz.func33 rfl rfl rfl<|am fun aR=>bT (z:=fx) (by kernel_rfl) rfl ?_
 rintro au dJ dH ab aM;have:=aM.size;have hb:=aZ hb aM;have hPb:=mI.below hb;have hPr:=xO.below hb;have:=ab.lt;refine al aR<|av fun _ bt=>am fun b8=>ai rfl<|ae (cI rfl) rfl<|ae (aP (y7 _) rfl) rfl<|aG (aS zC rfl (by exact hPb.at (j:=0) rfl)) rfl<|ae (iC tQ (by omega) rfl) rfl<|ae (bX rfl rfl) rfl<|al b8<|aO rfl (fun lq=>?_) (fun lq=>?_)
 ·
  have vw:=lq;simp only [DZ] at lq;have hnil:ts= []:=List.length_eq_zero_iff.1 (by have:=lq;omega);refine am fun dU=>ai rfl<|ae (cI rfl) rfl<|ae (aP (YY _) rfl) rfl<|aG (aS b0 rfl (by exact hPb.at (j:=1) rfl)) rfl ?_
  refine ae (cC (z:=mb) (pl:= [(0,1),(1,1),(2,1)]) (cs:= [_,_,_]) ig (by kernel_rfl) (by kernel_rfl) rfl rfl rfl) rfl<|ba (by kernel_rfl) rfl rfl ab rfl rfl ?_
  rintro du ab aF;have:=aF.size;have hb:=cf hb aF hb.size (by omega);have hPb:=mI.below hb;have hPr:=xO.below hb;refine al dU<|aJ<|aX<|bQ (rs:= [.cell 2 74]) (vs:= [_]) rfl (.cell rfl (bP ig (by kernel_rfl) (fun j u hu=>ab.at hu)) .nil) ?_
  exact ⟨_,rfl,by rw [hnil];rfl,hb⟩
 have vw:=lq;simp only [DZ] at lq
 obtain ⟨t,r,hcons⟩:∃t r,ts=t :: r:=by
  cases hts:ts with
  |nil=>have:=lq;rw [hts] at this;exact absurd rfl this
  |cons t r=>exact ⟨t,r,rfl⟩
 have hlen:0<ts.length:=by rw [hcons];simp
 obtain ⟨p_,hpe,hcell⟩:=Rd.tok hPr hlen;subst hpe;have ht0:ts[0]=t:=by simp [hcons]
 rw [ht0] at hcell;refine aU<|ax bt<|am fun dG=>ai rfl<|ae (cI rfl) rfl<|ae (aP (y7 _) rfl) rfl<|aG (aS zC rfl (by exact hPb.at (j:=0) rfl)) rfl ?_
 refine ae (f8 tQ S5 rfl rfl (by omega) (by omega)) rfl ?_;refine aG (cr ig (by kernel_rfl) rfl (by exact fun j u hu=>hcell j u hu)) rfl ?_;refine ba (by kernel_rfl) rfl rfl ab rfl rfl ?_;rintro ff ab bc;have:=bc.size;have hb:=cf hb bc hb.size (by omega);have hPb:=mI.below hb;have hPr:=xO.below hb;refine al dG<|aJ<|bQ (rs:= [.cell 2 74]) (vs:= [_]) rfl (.cell rfl (bP ig (by kernel_rfl) (fun j u hu=>ab.at hu)) .nil) ?_
 exact ⟨_,rfl,by rw [hcons];rfl,hb⟩
theorem sv (p en g b:Nat) (a e:Int) (he:e≠0) (σ:Sg) (w:World) (hP:RO w p en g b σ):bx Tryz.prog 35 [bH p,.int .i64 a,.int .i64 e] w fun v w'=>RO w' p en g b (pK a e σ)∧Kp p w w':=by
 have hpl:=hP.lt;obtain ⟨ts,a0,e0,hS,hσ⟩:=hP;obtain ⟨A,c,h1,h2,hPb,hPr,h5⟩:=hS.ex;have htk:=hS.tk;have hb:=Kp.refl p w;refine enter Tryz.func35 rfl rfl rfl<|am fun aR=>ai rfl<|ae (cI rfl) rfl<|ae (aP (nB _) rfl) rfl<|aG (aS iq rfl (by exact hPb.at (j:=3) rfl)) rfl<|ae (bX rfl rfl) rfl<|al aR<|aO rfl (fun dR=>?_) (fun dR=>?_)
 ·
  have nr:=dR;simp only [DZ] at dR;have he0:e0=0:=by have:=dR;omega
  have hσe:pK a e σ= .err a e:=by rcases hσ with ⟨h,_⟩|⟨_,h⟩;(· rw [h];rfl);(· exact absurd he0 h)
  refine am fun eX=>ai rfl<|ai rfl<|ae (cI rfl) rfl<|ae (aP (nB _) rfl) rfl<|fV iq rfl rfl rfl hPb (by show 3<6;decide) ?_
  rintro du tC aF;have:=aF.size;have hb:=bp hb aF (by omega);have hPb:=tC;refine al eX ?_;have hPr:=hPr.kp aF (fun q e=>by have:=h5 q e;omega);refine aQ<|ai rfl<|ai rfl<|ae (cI rfl) rfl<|ae (aP (Pn _) rfl) rfl<|fV b0 rfl rfl rfl hPb (by show 2<6;decide) ?_
  rintro ff xW bc;have:=bc.size;have hb:=bp hb bc (by omega);have hPb:=xW;refine ay<|o4 rfl ?_
  exact ⟨_,rfl,⟨ts,a,e,⟨⟨A,c,h1,h2,hPb,hPr.kp bc (fun q e=>by have:=h5 q e;omega),h5⟩,htk⟩,.inr ⟨hσe,he⟩⟩,hb⟩
 have nr:=dR;simp only [DZ] at dR;have he0:e0≠0:=fun h=>by have:=dR;omega
 have hσe:pK a e σ=σ:=by rcases hσ with ⟨_,_,h⟩|⟨h,_⟩;(· exact absurd h he0);(· rw [h];rfl)
 refine aU<|o4 rfl ?_
 exact ⟨_,rfl,by rw [hσe];exact ⟨ts,a0,e0,hS,hσ⟩,hb⟩
theorem zN (p en g b:Nat) (σ:Sg) (A:Option Addr) (c:Nat) (xs:List (ao)) (hx:xs.length≤1000) (w:World) (hP:RO w p en g b σ) (hR:Rd w 1 A xs.length (b9 xs)):bx Tryz.prog 57 [bH p,.slice A xs.length c] w fun v w'=>v= .bool (eZ en xs σ)∧Below w.heap.size w w':=by
 obtain ⟨ts,a0,e0,hS,hσ⟩:=hP;obtain ⟨t,htk⟩:∃t,t=aN en ts:=⟨_,rfl⟩
 have hq:eZ en xs σ=decide (e0=0∧(t.k=2∨t.k=5)∧t.t∈xs):=by
  rcases hσ with ⟨h,_,h0⟩|⟨h,h0⟩
  · rw [h,h0];show bv en xs ts=_;unfold bv;rw [←htk];simp
  · rw [h];show false=_;rw [eq_comm,decide_eq_false_iff_not];exact fun h=>h0 h.1
 obtain ⟨A0,c0,h1,h2,hPb,hPr,h5⟩:=hS.ex;have hb:=Below.refl w.heap.size w;have mJ:=hS;have dX:=hR;have mI:=hPb;refine enter Tryz.func57 rfl rfl rfl<|am fun aR=>an rfl<|al aR<|am fun bt=>ai rfl<|aD u4 rfl rfl (u0 p en ts g b a0 e0 _ hS) rfl ?_
 rintro _ cB ⟨rfl,aw⟩;have:=aw.size;have hb:=aZ hb aw;have hS:=mJ.below hb;have hR:=dX.below hb;have hPb:=mI.below hb;refine bT (z:=fx) (by kernel_rfl) rfl ?_;rintro dq ks jH aE ck;have:=ck.size;have hb:=aZ hb ck;have hS:=mJ.below hb;have hR:=dX.below hb;have hPb:=mI.below hb;have:=aE.lt;rw [←htk];refine ba (by kernel_rfl) rfl rfl aE rfl rfl ?_;rintro du aE aF;have:=aF.size;have hb:=cf hb aF hb.size (by omega);have hS:=mJ.below hb;have hR:=dX.below hb;have hPb:=mI.below hb;refine al bt<|am fun dV=>ai rfl<|ae (cI rfl) rfl<|ae (aP (nB _) rfl) rfl<|aG (aS iq rfl (by exact hPb.at (j:=3) rfl)) rfl<|ae (bX rfl rfl) rfl<|ai rfl<|cG rfl rfl rfl (fun f9=>?_) (fun f9=>?_)
 ·
  refine ae (aP (EN _) rfl) rfl<|ap rfl rfl f9<|aG (aS b0 rfl (by exact aE.at (j:=0) rfl)) rfl<|ap rfl rfl f9<|ae (bX rfl rfl) rfl<|ap rfl rfl f9<|ai rfl<|dy rfl rfl rfl (fun jU=>?_) (fun jU=>?_)
  ·
   refine az rfl rfl jU rfl rfl<|az rfl rfl jU rfl rfl<|ap rfl rfl f9<|ae (bo rfl jU rfl) rfl<|ae (bo rfl f9 rfl) rfl<|ai rfl<|ap rfl rfl rfl<|ai rfl<|ap rfl rfl rfl<|ae (aP (l5 _) rfl) rfl<|ap rfl rfl rfl<|aG (aS di rfl (by exact aE.at (j:=1) rfl)) rfl<|ap rfl rfl rfl<|aD FU rfl rfl (D4 A c xs t.t (by omega) _ hR) rfl ?_
   rintro _ cU ⟨rfl,aL⟩;have i7:=aL.size;have hb:=aZ hb aL;have hS:=mJ.below hb;have hR:=dX.below hb;have hPb:=mI.below hb;refine ae (bo rfl rfl rfl) rfl<|an rfl<|al dV<|aJ<|bN rfl rfl ?_
   exact ⟨_,rfl,a8 (by rw [hq,Bool.eq_iff_iff];simp_all<;>omega),hb⟩
  refine ae (aP (EN _) rfl) rfl<|ap rfl rfl jU<|aG (aS b0 rfl (by exact aE.at (j:=0) rfl)) rfl<|ap rfl rfl jU<|ae (bX rfl rfl) rfl<|ap rfl rfl f9<|ae (bj rfl jU rfl) rfl<|ae (bo rfl f9 rfl) rfl<|ai rfl<|cG rfl rfl rfl (fun mq=>?_) (fun mq=>?_)
  ·
   refine ai rfl<|ap rfl rfl mq<|ae (aP (l5 _) rfl) rfl<|ap rfl rfl mq<|aG (aS di rfl (by exact aE.at (j:=1) rfl)) rfl<|ap rfl rfl mq<|aD FU rfl rfl (D4 A c xs t.t (by omega) _ hR) rfl ?_
   rintro _ cU ⟨rfl,aL⟩;have i7:=aL.size;have hb:=aZ hb aL;have hS:=mJ.below hb;have hR:=dX.below hb;have hPb:=mI.below hb;refine ae (bo rfl mq rfl) rfl<|an rfl<|al dV<|aJ<|bN rfl rfl ?_
   exact ⟨_,rfl,a8 (by rw [hq,Bool.eq_iff_iff];simp_all<;>omega),hb⟩
  refine az rfl rfl mq rfl rfl<|az rfl rfl mq rfl rfl<|az rfl rfl mq rfl rfl<|ae (bj rfl mq rfl) rfl<|an rfl<|al dV<|aJ<|bN rfl rfl ?_
  exact ⟨_,rfl,a8 (by rw [hq,Bool.eq_iff_iff];simp_all<;>omega),hb⟩
 refine az rfl rfl f9 rfl rfl<|az rfl rfl f9 rfl rfl<|az rfl rfl f9 rfl rfl<|bY rfl rfl rfl<|bY rfl rfl rfl<|bY rfl rfl rfl<|az rfl rfl f9 rfl rfl<|ae (bj rfl f9 rfl) rfl<|ai rfl<|az rfl rfl rfl rfl rfl<|az rfl rfl rfl rfl rfl<|az rfl rfl rfl rfl rfl<|az rfl rfl rfl rfl rfl<|ae (bj rfl rfl rfl) rfl<|an rfl<|al dV<|aJ<|bN rfl rfl ?_
 exact ⟨_,rfl,a8 (by rw [hq,Bool.eq_iff_iff];simp_all<;>omega),hb⟩
theorem lh (p en g b:Nat) (σ:Sg) (s:ao) (w:World) (hP:RO w p en g b σ):bx Tryz.prog 31 [bH p,str s] w fun v w'=>v= .bool (eZ en [s] σ)∧Below w.heap.size w w':=by
 have hb:=Below.refl w.heap.size w;have jF:=hP;refine enter Tryz.func31 rfl rfl rfl<|am fun aR=>an rfl<|al aR<|am fun bt=>ai rfl<|ai rfl<|cz (sz:=1) (vs:= [_]) dl (by kernel_rfl) rfl rfl rfl rfl rfl rfl ?_
 rintro cp fA fw aI aV;have:=aV.size;have hb:=aZ hb aV;have hP:=jF.below hb;have:=aI.lt;refine aD z7 rfl rfl (zN p en g b σ _ 1 [s] (by simp) _ hP (aI.rd 1 1 rfl)) rfl ?_;rintro _ cB ⟨rfl,aw⟩;have:=aw.size;have hb:=aZ hb aw;have hP:=jF.below hb;refine an rfl<|al bt<|aJ<|bN rfl rfl ?_
 exact ⟨_,rfl,rfl,hb⟩
theorem yk (p en g b k:Nat) (σ:Sg) (w:World) (hP:RO w p en g b σ):bx Tryz.prog 58 [bH p,.int .i64 (k:Int)] w fun v w'=>v= .bool (mN en k σ)∧Below w.heap.size w w':=by
 obtain ⟨ts,a0,e0,hS,hσ⟩:=hP;obtain ⟨t,htk⟩:∃t,t=aN en ts:=⟨_,rfl⟩
 have hq:mN en k σ=decide (e0=0∧t.k=k):=by
  rcases hσ with ⟨h,_,h0⟩|⟨h,h0⟩
  · rw [h,h0];show decide ((aN en ts).k=k)=_;rw [←htk];simp
  · rw [h];show false=_;rw [eq_comm,decide_eq_false_iff_not];exact fun h=>h0 h.1
 obtain ⟨A0,c0,h1,h2,hPb,hPr,h5⟩:=hS.ex;have hb:=Below.refl w.heap.size w;have mJ:=hS;have mI:=hPb;refine enter Tryz.func58 rfl rfl rfl<|am fun aR=>an rfl<|al aR<|am fun bt=>ai rfl<|aD u4 rfl rfl (u0 p en ts g b a0 e0 _ hS) rfl ?_
 rintro _ cB ⟨rfl,aw⟩;have:=aw.size;have hb:=aZ hb aw;have hS:=mJ.below hb;have hPb:=mI.below hb;refine bT (z:=fx) (by kernel_rfl) rfl ?_;rintro dq ks jH aE ck;have:=ck.size;have hb:=aZ hb ck;have hS:=mJ.below hb;have hPb:=mI.below hb;have:=aE.lt;rw [←htk];refine ba (by kernel_rfl) rfl rfl aE rfl rfl ?_;rintro du aE aF;have:=aF.size;have hb:=cf hb aF hb.size (by omega);have hS:=mJ.below hb;have hPb:=mI.below hb;refine al bt<|am fun dV=>ai rfl<|ae (cI rfl) rfl<|ae (aP (nB _) rfl) rfl<|aG (aS iq rfl (by exact hPb.at (j:=3) rfl)) rfl<|ae (bX rfl rfl) rfl<|ai rfl<|cG rfl rfl rfl (fun f9=>?_) (fun f9=>?_)
 ·
  refine ae (aP (EN _) rfl) rfl<|ap rfl rfl f9<|aG (aS b0 rfl (by exact aE.at (j:=0) rfl)) rfl<|ap rfl rfl f9<|ai rfl<|ap rfl rfl f9<|ae (bX rfl rfl) rfl<|ae (bo rfl f9 rfl) rfl<|an rfl<|al dV<|aJ<|bN rfl rfl ?_
  exact ⟨_,rfl,a8 (by rw [hq,Bool.eq_iff_iff];simp_all<;>omega),hb⟩
 refine az rfl rfl f9 rfl rfl<|az rfl rfl f9 rfl rfl<|az rfl rfl f9 rfl rfl<|ae (bj rfl f9 rfl) rfl<|an rfl<|al dV<|aJ<|bN rfl rfl ?_
 exact ⟨_,rfl,a8 (by rw [hq,Bool.eq_iff_iff];simp_all<;>omega),hb⟩
theorem ka.take {w:World} {p en:Nat} {ts:List Tok} {g b:Nat} {A:Option Addr} {c:Nat} {a e:Int} (h:ts≠ []) (hc:ts.length≤c) (h2:ts.length≤65536) (hB:ak w p 58 [.slice (if c=1 then A else A.map (·.add 3)) (ts.length - 1) (c - 1),.int .i64 (en:Int),.int .i64 a,.int .i64 e,.int .i64 (g:Int),.int .i64 (b:Int)]) (hR:Rd w 3 A ts.length (ts.flatMap Tok.cells)) (hA:∀q,A=some q→q.block<p) (hT:∀t∈ts,t.t.length≤65536∧(t.k=2→t.t∈jy)):ka w p en ts.tail g b a e:=by
 have hl:ts.tail.length=ts.length - 1:=List.length_tail;refine ⟨⟨_,c - 1,by omega,by omega,by rw [hl];exact hB,?_,?_⟩,fun t h=>hT t (List.mem_of_mem_tail h)⟩
 · have h1:1≤ts.length:=by cases ts with|nil=>exact absurd rfl h|cons=>simp
   have h3:=hR.drop (m:=1) h1 hc
   have e:(ts.flatMap Tok.cells).drop (1 * 3)=ts.tail.flatMap Tok.cells:=by
    cases ts with
    |nil=>exact absurd rfl h
    |cons t r=>rfl
   rw [e,show (1:Nat) * 3=3 from rfl] at h3;rw [hl];exact h3
 · intro q hq
   split at hq
   · exact hA q hq
   · cases A with
     |none=>cases hq
     |some a=>cases hq;rw [Eg];exact hA a rfl
theorem iO (p en:Nat) (ts:List Tok) (g b:Nat) (hne:ts≠ []) (w:World) (hP:RO w p en g b (.ok () ts)):bx Tryz.prog 32 [bH p] w fun v w'=>(v= .agg #[.int .i64 ((aN en ts).k:Int),str (aN en ts).t,.int .i64 ((aN en ts).a:Int)]∧RO w' p en g b (.ok () ts.tail))∧Kp p w w':=by
 have hpl:=hP.lt;have hS:=hP.live;obtain ⟨t,htk⟩:∃t,t=aN en ts:=⟨_,rfl⟩;have hlen:0<ts.length:=List.length_pos_iff.2 hne;have hb:=Kp.refl p w;refine enter Tryz.func32 rfl rfl rfl<|am fun aR=>bT (z:=fx) (by kernel_rfl) rfl ?_
 rintro au dJ dH ab aM;have:=aM.size;have hS:=hS.below aM;replace aM:=Below.kp (p:=p) aM;have hb:=hb.trans aM;have:=ab.lt;refine al aR<|am fun bt=>ai rfl<|aD u4 rfl rfl (u0 p en ts g b 0 0 _ hS) rfl ?_
 rintro _ cB ⟨rfl,aw⟩;have:=aw.size;have hS:=ka.below hS aw;have ab:=ak.below ab aw;replace aw:=Below.kp (p:=p) aw;have hb:=hb.trans aw;refine bT (z:=fx) (by kernel_rfl) rfl ?_;rintro dq ks jH aE ck;have:=ck.size;have hS:=hS.below ck;have ab:=ab.below ck;replace ck:=Below.kp (p:=p) ck;have hb:=hb.trans ck;have:=aE.lt;refine ba (by kernel_rfl) rfl rfl aE rfl rfl ?_;rintro du aE aF;have:=aF.size;have hb:=bp hb aF (by omega);have hS:=ka.over hS aF (by omega);have ab:=ab.over aF (by omega);refine al bt<|av fun _ dV=>av fun _ eX=>?_
 obtain ⟨A,c,h1,h2,hPb,hPr,h5⟩:=hS.ex;refine aQ<|ai rfl<|ae (cI rfl) rfl<|ae (aP (nB _) rfl) rfl<|aG (aS iq rfl (by exact hPb.at (j:=3) rfl)) rfl<|ae (bX rfl rfl) rfl<|ai rfl<|cG rfl rfl rfl (fun jo=>?_) (fun jo=>?_)
 ·
  refine ai rfl<|ap rfl rfl jo<|ae (cI rfl) rfl<|ap rfl rfl jo<|ae (aP (y7 _) rfl) rfl<|ap rfl rfl jo<|aG (aS zC rfl (by exact hPb.at (j:=0) rfl)) rfl<|ap rfl rfl jo<|ae (iC tQ (by omega) rfl) rfl<|ap rfl rfl jo<|ae (ed rfl rfl) rfl<|ae (bo rfl jo rfl) rfl<|al eX<|aO rfl (fun En=>?_) (fun En=>?_)
  ·
   refine aQ<|ai rfl<|ai rfl<|ae (cI rfl) rfl<|ae (aP (y7 _) rfl) rfl<|aG (aS zC rfl (by exact hPb.at (j:=0) rfl)) rfl<|ae (UC tQ S5 rfl rfl (by omega) (by omega)) rfl<|ae (cI rfl) rfl<|ae (aP (y7 _) rfl) rfl<|fV zC rfl rfl rfl hPb (by show 0<6;decide) ?_
   rintro ff xW bc;have:=bc.size;have hb:=bp hb bc (by omega);have ab:=ab.over bc (by omega);have aE:=aE.over bc (by omega);have hPb:=xW;refine al dV<|av fun _ gP=>?_
   have hS:=ka.take hne h1 h2 hPb (hPr.kp bc (fun q e=>by have:=h5 q e;omega)) h5 hS.tk;clear hPb;refine aQ<|aG (cr ig (by kernel_rfl) rfl (by exact fun j u hu=>aE.at hu)) rfl ?_
   refine ba (by kernel_rfl) rfl rfl ab rfl rfl ?_;rintro gB ab bz;have:=bz.size;have hb:=bp hb bz (by omega);have hS:=ka.over hS bz (by omega);refine al gP<|aJ<|bQ (rs:= [.cell 2 74]) (vs:= [_]) rfl (.cell rfl (bP ig (by kernel_rfl) (fun j u hu=>ab.at hu)) .nil) ?_
   exact ⟨_,rfl,⟨rfl,RO.mk hS⟩,hb⟩
  have ahv:=En;simp only [DZ] at En
  (have h:=En;omega)
 exact absurd jo (by decide)
theorem yj (p en g b:Nat) (σ:Sg) (w:World) (hP:RO w p en g b σ):bx Tryz.prog 16 [bH p] w fun v w'=>RO w' p en g b (uC en σ)∧Kp p w w':=by
 have hpl:=hP.lt;obtain ⟨ts,a0,e0,hS,hσ⟩:=hP;have hσe:pK (aN en ts).a 2 σ=uC en σ:=by rcases hσ with ⟨h,_⟩|⟨h,_⟩<;>rw [h]<;>rfl
 have hb:=Kp.refl p w;refine enter Tryz.func16 rfl rfl rfl<|am fun aR=>ai rfl<|aD u4 rfl rfl (u0 p en ts g b a0 e0 _ hS) rfl ?_
 rintro _ cB ⟨rfl,aw⟩;have:=aw.size;have hS:=ka.below hS aw;replace aw:=Below.kp (p:=p) aw;have hb:=hb.trans aw;refine bT (z:=fx) (by kernel_rfl) rfl ?_;rintro cV mU mK aq cT;have:=cT.size;have hS:=hS.below cT;replace cT:=Below.kp (p:=p) cT;have hb:=hb.trans cT;have:=aq.lt;refine ba (by kernel_rfl) rfl rfl aq rfl rfl ?_;rintro du aq aF;have:=aF.size;have hb:=bp hb aF (by omega);have hS:=ka.over hS aF (by omega);refine al aR<|aQ<|ai rfl<|ae (aP (p5 _) rfl) rfl<|aG (aS b0 rfl (by exact aq.at (j:=2) rfl)) rfl<|aD sw rfl rfl (sv p en g b (aN en ts).a 2 (by decide) σ _ ⟨ts,a0,e0,hS,hσ⟩) rfl ?_
 rintro _ cU ⟨hP,aL⟩;have:=aL.size;have hb:=hb.trans aL;refine ay<|o4 rfl ?_
 exact ⟨_,rfl,by rw [←hσe];exact hP,hb⟩
theorem Dk (p en g b:Nat) (s:ao) (σ:Sg) (w:World) (hP:RO w p en g b σ):bx Tryz.prog 77 [bH p,str s] w fun v w'=>RO w' p en g b (uX en s σ)∧Kp p w w':=by
 have hpl:=hP.lt;have hb:=Kp.refl p w;refine enter Tryz.func77 rfl rfl rfl<|am fun aR=>ai rfl<|ai rfl<|aD lj rfl rfl (lh p en g b σ s _ hP) rfl ?_
 rintro _ cB ⟨rfl,aw⟩;have:=aw.size;have hP:=RO.below hP aw;replace aw:=Below.kp (p:=p) aw;have hb:=hb.trans aw;refine al aR<|aO rfl (fun GG=>?_) (fun GG=>?_)
 ·
  have GH:=GG;obtain ⟨ts,rfl,hi⟩:=oN GH;refine aQ<|ai rfl<|aD iP rfl rfl (iO p en ts g b (eB hi) _ hP) rfl ?_
  rintro _ cU ⟨⟨rfl,hP⟩,aL⟩;have:=aL.size;have hb:=hb.trans aL;refine ay<|o4 rfl ?_
  exact ⟨_,rfl,by show RO _ p en g b (if bv en [s] ts=true then _ else _);rw [if_pos hi];exact hP,hb⟩
 have GH:=GG;refine aQ<|ai rfl<|aD yr rfl rfl (yj p en g b σ _ hP) rfl ?_
 rintro _ eP ⟨hP,a6⟩;have:=a6.size;have hb:=hb.trans a6;refine ay<|o4 rfl ?_
 exact ⟨_,rfl,by
 have h0:=GH
 cases σ with
 |err a e=>exact hP
 |ok u ts=>show RO _ p en g b (if bv en [s] ts=true then _ else _);rw [if_neg (by rw [show bv en [s] ts=false from h0];decide)];exact hP,hb⟩
theorem NS (s:ao) (hs:s.length≤140737488355328) (w:World):bx Tryz.prog 51 [str s] w fun v w'=>(∃u n ok,v= .tuple #[c7.enc u,.int .i64 (n:Nat),.bool ok]∧yF (dI pf de s) u n ok)∧Below w.heap.size w w':=
 (NR s hs w).mono fun v w' ⟨h1,h2⟩=>⟨by
  subst h1
  cases h:dI pf de s with
  |none=>exact ⟨ch,0,false,rfl,.inr ⟨rfl,rfl,rfl,rfl⟩⟩
  |some r=>exact ⟨r.1,r.2,true,rfl,.inl ⟨rfl,rfl⟩⟩,h2⟩
theorem MM (p en g b:Nat) (a:Int) (σ:Sg) (w:World) (hP:RO w p en g b σ):bx Tryz.prog 34 [bH p,.int .i64 a] w fun v w'=>(∃k σ',v= .int .i64 k∧bR σ (gy en a)=dZ k σ'∧RO w' p en g b σ')∧Kp p w w':=by
 have hpl:=hP.lt;have hb:=Kp.refl p w;refine enter Tryz.func34 rfl rfl rfl<|am fun aR=>an rfl<|al aR<|av fun _ bt=>am fun b8=>ai rfl<|aD yu rfl rfl (yk p en g b 3 σ _ hP) rfl ?_
 rintro _ cB ⟨rfl,aw⟩;have:=aw.size;have hP:=RO.below hP aw;replace aw:=Below.kp (p:=p) aw;have hb:=hb.trans aw;refine ae (jd rfl) rfl<|al b8<|aO rfl (fun d7=>?_) (fun d7=>?_)
 ·
  have hk:mN en 3 σ=false:=by simpa using d7
  have hf:bR σ (gy en a)=dZ (0:Int) (uC en σ):=by
   cases σ with
   |err a e=>rfl
   |ok u ts=>show gy en a ts=_;unfold gy mQ;rw [if_neg (of_decide_eq_false hk)];rfl
  refine am fun dW=>ai rfl<|aD yr rfl rfl (yj p en g b σ _ hP) rfl ?_
  rintro _ cU ⟨hP,aL⟩;have:=aL.size;have hb:=hb.trans aL;refine al dW<|am fun dU=>an rfl<|al dU<|aJ<|aX<|bN rfl rfl ?_
  exact ⟨_,rfl,⟨0,_,rfl,hf,hP⟩,hb⟩
 obtain ⟨ts,rfl,hk⟩:=LX (en:=en) (k:=3) (σ:=σ) (by simpa using d7);have hne:=oI hk (by decide)
 have htl:(aN en ts).t.length≤65536:=by
  obtain ⟨t0,r0,rfl⟩:∃t r,ts=t :: r:=by cases ts with|nil=>exact absurd rfl hne|cons t r=>exact ⟨t,r,rfl⟩
  exact (hP.live.tk t0 (List.mem_cons_self ..)).1
 obtain ⟨t,htk⟩:∃t,t=aN en ts:=⟨_,rfl⟩;have hpk:gy en a ts=match uT t.t with|some v=>if v.k=2 then .ok v.n ts.tail else .err a 2|none=> .err a 2:=by rw [htk];unfold gy mQ;rw [if_pos hk];rfl
 rw [←htk] at htl;refine aU<|ax bt<|am fun fd=>ai rfl<|aD iP rfl rfl (iO p en ts g b hne _ hP) rfl ?_
 rintro _ eP ⟨⟨rfl,hP⟩,a6⟩;have:=a6.size;have hb:=hb.trans a6;refine bT (z:=fx) (by kernel_rfl) rfl ?_;rintro gG tV oF bL ep;have:=ep.size;have hP:=hP.below ep;replace ep:=Below.kp (p:=p) ep;have hb:=hb.trans ep;have:=bL.lt;rw [←htk];refine ba (by kernel_rfl) rfl rfl bL rfl rfl ?_;rintro du bL aF;have:=aF.size;have hb:=bp hb aF (by omega);have hP:=RO.over hP aF (by omega);refine al fd<|am fun dG=>ae (aP (l5 _) rfl) rfl<|aG (aS di rfl (by exact bL.at (j:=1) rfl)) rfl<|aD FT rfl rfl (NS t.t (by omega) _) rfl ?_
 rintro _ fj ⟨⟨u,n,ok,rfl,hr⟩,bk⟩;have:=bk.size;have hP:=RO.below hP bk;have bL:=ak.below bL bk;replace bk:=Below.kp (p:=p) bk;have hb:=hb.trans bk;refine ai rfl<|ae (cu rfl rfl) rfl<|ae (cu rfl rfl) rfl<|ae (cu rfl rfl) rfl<|bT (z:=mO) (by kernel_rfl) rfl ?_
 rintro nN F0 Fb fY fE;have:=fE.size;have hP:=hP.below fE;have bL:=bL.below fE;replace fE:=Below.kp (p:=p) fE;have hb:=hb.trans fE;have:=fY.lt;refine ba (by kernel_rfl) rfl rfl fY rfl rfl ?_;rintro ff fY bc;have:=bc.size;have hb:=bp hb bc (by omega);have hP:=RO.over hP bc (by omega);have bL:=bL.over bc (by omega);refine an rfl<|an rfl<|al dG<|av fun _ fD=>av fun _ iJ=>?_
 obtain ⟨hlit,hno⟩:=Fv hr;refine cR (X:=Bool) (fun q=> [(0,bH p),(1,.int .i64 a),(6,.pointer (some ⟨nN,0,none⟩)),(32,.bool q)]) (fun q wr=>q=decide (¬(u.k=2∧n=t.t.length))∧Kp p w wr∧RO wr p en g b (.ok () ts.tail)∧ak wr nN 25 u.cells) (fun _ Qb=>?_) ?_
 ·
  refine aQ<|ae (aP (Pl _) rfl) rfl<|aG (aS b0 rfl (by exact fY.at (j:=0) rfl)) rfl<|ae (fG rfl rfl) rfl<|ai rfl<|dy rfl rfl rfl (fun qU=>?_) (fun qU=>?_)
  ·
   have o9:=qU;simp only [DZ] at qU;refine az rfl rfl o9 rfl rfl<|az rfl rfl o9 rfl rfl<|az rfl rfl o9 rfl rfl<|az rfl rfl o9 rfl rfl<|ae (bo rfl o9 rfl) rfl<|ay<|a7 Qb (decide (¬(u.k=2∧n=t.t.length))) (by repeat first|exact aC|refine aA rfl (by first|rfl|exact a8 (by rw [Bool.eq_iff_iff];simp<;>omega)) ?_) ?_
   exact ⟨rfl,hb,hP,fY⟩
  have o9:=qU;simp only [DZ] at qU;refine ai rfl<|ap rfl rfl o9<|ae (aP (l5 _) rfl) rfl<|ap rfl rfl o9<|aG (aS di rfl (by exact bL.at (j:=1) rfl)) rfl<|ap rfl rfl o9<|ae (ez bI (by omega) rfl) rfl<|ap rfl rfl o9<|ae (fG rfl rfl) rfl<|ae (bj rfl o9 rfl) rfl<|ay<|a7 Qb (decide (¬(u.k=2∧n=t.t.length))) (by repeat first|exact aC|refine aA rfl (by first|rfl|exact a8 (by rw [Bool.eq_iff_iff];simp<;>omega)) ?_) ?_
  exact ⟨rfl,hb,hP,fY⟩
 rintro q wr J5;replace J5:q=decide (¬(u.k=2∧n=t.t.length))∧Kp p w wr∧RO wr p en g b (.ok () ts.tail)∧ak wr nN 25 u.cells:=J5;obtain ⟨hq,hb,hP,fY⟩:=J5;show Wq _ _ _ _ [(0,bH p),(1,.int .i64 a),(6,.pointer (some ⟨nN,0,none⟩)),(32,.bool q)] _;have:=hb.size;have:=fY.lt;refine ax iJ<|aO rfl (fun G2=>?_) (fun G2=>?_)
 ·
  have G3:=G2;have hq0:=of_decide_eq_true (hq.symm.trans G3)
  have hf:gy en a ts= .err a 2:=by
   rw [hpk];by_cases hz:ok=true∧n=t.t.length
   · rw [hlit,if_pos hz];exact if_neg (fun e=>hq0 ⟨e,hz.2⟩)
   · rw [hlit,if_neg hz]
  refine aQ<|ai rfl<|ai rfl<|aD sw rfl rfl (sv p en g b a 2 (by decide) _ _ hP) rfl ?_
  rintro _ gj ⟨hP,bD⟩;have:=bD.size;have fY:=ak.kp fY bD (by omega);have hb:=hb.trans bD;refine al fD<|am fun kl=>ae (aP (I0 _) rfl) rfl<|aG (aS Mt rfl (by exact fY.at (j:=1) rfl)) rfl<|an rfl<|al kl<|aJ<|bN rfl rfl ?_
  exact ⟨_,rfl,⟨u.n,.err a 2,rfl,hf,hP⟩,hb⟩
 have G3:=G2;have hq0:=Classical.not_not.1 (of_decide_eq_false (hq.symm.trans G3))
 have hok:ok=true:=by
  cases ok with
  |true=>rfl
  |false=>have:=hno rfl;rw [this] at hq0;exact absurd hq0.1 (by decide)
 have hf:gy en a ts= .ok u.n ts.tail:=by
  rw [hpk,hlit,if_pos (⟨hok,hq0.2⟩:ok=true∧n=t.t.length)];exact if_pos hq0.1
 refine aU<|ax fD<|am fun lM=>ae (aP (I0 _) rfl) rfl<|aG (aS Mt rfl (by exact fY.at (j:=1) rfl)) rfl<|an rfl<|al lM<|aJ<|bN rfl rfl ?_
 exact ⟨_,rfl,⟨u.n,.ok () ts.tail,rfl,hf,hP⟩,hb⟩
theorem A5 (p:Addr) (w:World):(Instr.fieldAt 58 (.pointer (some p)) 5).run Tryz.prog w= .ok (.pointer (some (p.add 5))) w:=eT (i:=5) (sz:=0) yy rfl (by kernel_rfl) p w
theorem Du:bB Tryz.prog 141:=⟨_,Tryz.func141,by kernel_rfl,rfl⟩
theorem zY:bB Tryz.prog 142:=⟨_,Tryz.func142,by kernel_rfl,rfl⟩
theorem TC:bB Tryz.prog 172:=⟨_,Tryz.func172,by kernel_rfl,rfl⟩
theorem Dw:bB Tryz.prog 77:=⟨_,Tryz.func77,by kernel_rfl,rfl⟩
def qz {α:Type} (p en:Nat) (f:FuncId) (args:List Value) (n g b:Nat) (F:List Tok→cn α) (V:Nat→α→Value→World→Prop):Prop:=∀(w:World) (σ:Sg),RO w p en g b σ→cE σ<n→bx Tryz.prog f (bH p :: args) w fun v w'=>(∃x σ',V w.heap.size x v w'∧bR σ F=dZ x σ'∧RO w' p en g b σ')∧Kp p w w'
theorem RO.open {w:World} {p en g b:Nat} {σ:Sg} (h:RO w p en g b σ):∃A c n a e,ak w p 58 [.slice A n c,.int .i64 (en:Int),.int .i64 a,.int .i64 e,.int .i64 (g:Int),.int .i64 (b:Int)]∧((e=0∧∃ts,σ= .ok () ts)∨(e≠0∧σ= .err a e))∧∀(g' b':Nat) (w':World),ak w' p 58 [.slice A n c,.int .i64 (en:Int),.int .i64 a,.int .i64 e,.int .i64 (g':Int),.int .i64 (b':Int)]→w.grownBy w' (some p)→RO w' p en g' b' σ:=by
 obtain ⟨ts,a,e,hS,hσ⟩:=h;obtain ⟨A,c,h1,h2,hPb,hPr,h5⟩:=hS.ex;refine ⟨A,c,ts.length,a,e,hPb,?_,fun g' b' w' hB hg=>⟨ts,a,e,⟨⟨A,c,h1,h2,hB,hPr.kp hg (fun q e=>by have:=h5 q e;omega),h5⟩,hS.tk⟩,hσ⟩⟩
 rcases hσ with ⟨h,_,h0⟩|⟨h,h0⟩
 · exact .inl ⟨h0,ts,h⟩
 · exact .inr ⟨h0,h⟩
theorem adn (en b:Nat) (one:Nat→Pe):lS en b one=fun ts=>eI (eO en [40] ts) fun t r=>if 50≤b then .err t.a 6 else eI (one (b+1) r) fun x r2=>eI (eO en [41] r2) fun _ r3=> .ok x r3:=by kernel_rfl
theorem ado {en b:Nat} {one:Nat→Pe} {ts:List Tok} (h:bv en [[40]] ts=true):lS en b one ts=if 50≤b then .err (aN en ts).a 6 else bR (.ok () ts.tail) fun r=>eI (one (b+1) r) fun x r2=>eI (eO en [41] r2) fun _ r3=> .ok x r3:=by
 rw [adn];show eI (eO en [40] ts) _=_;unfold eO;rw [if_pos h];rfl
theorem R3 (p en g b n:Nat) (md:Bool) (fI:FuncId) (hI:(md=true∧fI=141)∨(md=false∧fI=142)) (one:Nat→Pe) (hT:∀b,iE (one b)) (hD:∀b',qz p en fI [.int .i64 0] n g b' (one b') eU) (ts:List Tok) (hi:bv en [[40]] ts=true) (hn:ts.length≤n) (w:World) (hP:RO w p en g b (.ok () ts)):
 bx Tryz.prog 172 [bH p,.bool md] w fun v w'=>(∃x σ',eU w.heap.size x v w'∧bR (.ok () ts) (lS en b one)=dZ x σ'∧RO w' p en g b σ')∧Kp p w w':=by
 have hpl:=hP.lt
 have hne:=eB hi
 have hl:=kN hi
 have hbe:bR (.ok () ts) (lS en b one)=if 50≤b then .err (aN en ts).a 6 else bR (.ok () ts.tail) fun r=>eI (one (b+1) r) fun x r2=>eI (eO en [41] r2) fun _ r3=> .ok x r3:=ado hi
 have hb:=Kp.refl p w
 refine enter Tryz.func172 rfl rfl rfl<|am fun aR=>bT (z:=fy) (by kernel_rfl) rfl ?_
 rintro au dJ dH ab aM
 have:=aM.size
 have hP:=hP.below aM
 replace aM:=Below.kp (p:=p) aM
 have hb:=hb.trans aM
 have:=ab.lt
 refine al aR<|am fun bt=>ai rfl<|aD iP rfl rfl (iO p en ts g b hne _ hP) rfl ?_
 rintro _ cB ⟨⟨rfl,hP⟩,aw⟩
 have:=aw.size
 have ab:=ak.kp ab aw (by omega)
 have hb:=hb.trans aw
 refine bT (z:=fx) (by kernel_rfl) rfl ?_
 rintro dq ks jH aE ck
 have:=ck.size
 have hP:=hP.below ck
 have ab:=ab.below ck
 replace ck:=Below.kp (p:=p) ck
 have hb:=hb.trans ck
 have:=aE.lt
 refine ba (by kernel_rfl) rfl rfl aE rfl rfl ?_
 rintro du aE aF
 have:=aF.size
 have hb:=bp hb aF (by omega)
 have hP:=RO.over hP aF (by omega)
 have ab:=ab.over aF (by omega)
 refine al bt<|av fun _ dV=>av fun _ eX=>?_
 obtain ⟨A,c,nn,a0,e0,hPb,_,hback⟩:=hP.open
 refine aQ<|ai rfl<|ae (cI rfl) rfl<|ae (aP (A5 _) rfl) rfl<|aG (aS b0 rfl (by exact hPb.at (j:=5) rfl)) rfl<|ae (f7 rfl rfl) rfl<|al eX<|aO rfl (fun iF=>?_) (fun iF=>?_)
 ·
  have sQ:=iF;simp only [DZ] at iF;have h50:50≤b:=by have:=iF;omega
  refine am fun eL=>ai rfl<|ae (aP (p5 _) rfl) rfl<|aG (aS b0 rfl (by exact aE.at (j:=2) rfl)) rfl<|aD sw rfl rfl (sv p en g b (aN en ts).a 6 (by decide) _ _ hP) rfl ?_
  rintro _ cU ⟨hP,aL⟩;have:=aL.size;have ab:=ak.kp ab aL (by omega);have hb:=hb.trans aL;refine al eL<|am fun eM=>ae (cC (z:=gd) (pl:=gf) (cs:= [_,_,_,_,_,_,_]) b5 (by kernel_rfl) (by kernel_rfl) rfl rfl rfl) rfl<|ba (by kernel_rfl) rfl rfl ab rfl rfl ?_
  rintro ff ab bc;have:=bc.size;have hb:=bp hb bc (by omega);have hP:=RO.over hP bc (by omega);refine al eM<|aJ<|aX<|bQ (rs:= [.cell 4 28]) (vs:= [_]) rfl (.cell rfl (bP b5 (by kernel_rfl) (fun j u hu=>ab.at hu)) .nil) ?_
  exact ⟨_,rfl,⟨eC,_,⟨dE,fun _=>False,rfl,kQ _ _,fun k h=>h.elim⟩,by rw [hbe,if_pos h50];rfl,hP⟩,hb⟩
 have sQ:=iF
 simp only [DZ] at iF
 have h50:¬50≤b:=by have:=iF;omega
 refine aU<|ax dV<|am fun kh=>ai rfl<|ae (cI rfl) rfl<|ae (aP (A5 _) rfl) rfl<|aG (aS b0 rfl (by exact hPb.at (j:=5) rfl)) rfl<|ae (bW (ct rfl rfl (by omega) (by omega)) (aH (show _=((b+1:Nat):Int) by omega))) rfl<|ae (cI rfl) rfl<|ae (aP (A5 _) rfl) rfl<|fV b0 rfl rfl rfl hPb (by show 5<6;decide) ?_
 rintro gB Lv bz
 have:=bz.size
 have hb:=bp hb bz (by omega)
 have ab:=ab.over bz (by omega)
 have hPb:=Lv
 refine al kh<|av fun _ iJ=>?_
 have hP:RO gB p en g (b+1) (.ok () ts.tail):=hback g (b+1) _ hPb bz
 clear hPb
 refine aQ<|ae (cC (z:=gd) (pl:=gf) (cs:= [_,_,_,_,_,_,_]) b5 (by kernel_rfl) (by kernel_rfl) rfl rfl rfl) rfl<|bT (z:=fy) (by kernel_rfl) rfl ?_
 rintro xd agJ aaO k7 pB
 have:=pB.size
 have hP:=hP.below pB
 have ab:=ab.below pB
 replace pB:=Below.kp (p:=p) pB
 have hb:=hb.trans pB
 have:=k7.lt
 refine ba (by kernel_rfl) rfl rfl k7 rfl rfl ?_
 rintro j7 k7 cd
 have:=cd.size
 have hb:=bp hb cd (by omega)
 have hP:=RO.over hP cd (by omega)
 have ab:=ab.over cd (by omega)
 refine al iJ<|av fun _ kG=>am fun im=>ai rfl<|al im<|cR (X:=b6×EC×(Nat→Prop)×Sg) (fun (x,z,Sz,σ1)=> [(0,bH p),(4,.pointer (some ⟨au,0,none⟩)),(6,.pointer (some ⟨xd,0,none⟩))]) (fun (x,z,Sz,σ1) wr=>bR (.ok () ts.tail) (one (b+1))=dZ x σ1∧Kp p w wr∧RO wr p en g (b+1) σ1∧aY wr Sz x z.cells∧(∀k,Sz k→w.heap.size≤k∧k<wr.heap.size∧k≠au∧k≠xd)∧ak wr xd 28 z.cells∧(∃y_:EC,ak wr au 28 y_.cells)) (fun _ zi=>?_) ?_
 ·
  refine aO rfl (fun qE=>?_) (fun qE=>?_)
  ·
   have Az:=qE;have hIe:fI=141:=by rcases hI with h|h;(· exact h.2);(· rw [Az] at h;exact absurd h.1 (by decide))
   subst hIe;refine aQ<|ai rfl<|aD Du rfl rfl (hD (b+1) _ _ hP (show ts.tail.length<n by omega)) rfl ?_
   rintro _ eP ⟨⟨x,σ1,⟨z,Sz,rfl,hz,aT⟩,h1,hP⟩,a6⟩;have:=a6.size;have ab:=ak.kp ab a6 (by omega);have k7:=ak.kp k7 a6 (by omega);have hb:=hb.trans a6;refine ba (by kernel_rfl) rfl rfl k7 rfl rfl ?_;rintro kW k7 cx;have:=cx.size;have hb:=bp hb cx (by omega);have hP:=RO.over hP cx (by omega);have ab:=ab.over cx (by omega);have hz:=aY.kp hz cx (fun h_=>by have bh:=aT _ h_;omega);refine ay<|a7 zi (⟨x,z,Sz,σ1⟩) (by repeat first|exact aC|refine aA rfl (by first|rfl|exact aH (by omega)) ?_) ?_
   exact ⟨h1,hb,hP,hz,fun k hk=>by have:=aT k hk;omega,k7,⟨dE,ab⟩⟩
  have Az:=qE;have hIe:fI=142:=by rcases hI with h|h;(· rw [Az] at h;exact absurd h.1 (by decide));(· exact h.2)
  subst hIe;refine aQ<|ai rfl<|aD zY rfl rfl (hD (b+1) _ _ hP (show ts.tail.length<n by omega)) rfl ?_
  rintro _ fj ⟨⟨x,σ1,⟨z,Sz,rfl,hz,aT⟩,h1,hP⟩,bk⟩;have:=bk.size;have ab:=ak.kp ab bk (by omega);have k7:=ak.kp k7 bk (by omega);have hb:=hb.trans bk;refine ba (by kernel_rfl) rfl rfl k7 rfl rfl ?_;rintro mV k7 cS;have:=cS.size;have hb:=bp hb cS (by omega);have hP:=RO.over hP cS (by omega);have ab:=ab.over cS (by omega);have hz:=aY.kp hz cS (fun h_=>by have bh:=aT _ h_;omega);refine ay<|a7 zi (⟨x,z,Sz,σ1⟩) (by repeat first|exact aC|refine aA rfl (by first|rfl|exact aH (by omega)) ?_) ?_
  exact ⟨h1,hb,hP,hz,fun k hk=>by have:=aT k hk;omega,k7,⟨dE,ab⟩⟩
 rintro ⟨x,z,Sz,σ1⟩ wr xt
 replace xt:bR (.ok () ts.tail) (one (b+1))=dZ x σ1∧Kp p w wr∧RO wr p en g (b+1) σ1∧aY wr Sz x z.cells∧(∀k,Sz k→w.heap.size≤k∧k<wr.heap.size∧k≠au∧k≠xd)∧ak wr xd 28 z.cells∧(∃y_:EC,ak wr au 28 y_.cells):=xt
 obtain ⟨h1,hb,hP,hz,aT,k7,⟨_,ab⟩⟩:=xt
 show Wq _ _ _ _ [(0,bH p),(4,.pointer (some ⟨au,0,none⟩)),(6,.pointer (some ⟨xd,0,none⟩))] _
 have:=hb.size
 have:=k7.lt
 have:=ab.lt
 refine ax kG<|am fun iK=>ai rfl<|aD Dw rfl rfl (Dk p en g (b+1) [41] σ1 _ hP) rfl ?_
 rintro _ gj ⟨hP,bD⟩
 have:=bD.size
 have hz:=aY.kp hz bD (fun h_=>by have bh:=aT _ h_;omega)
 have k7:=ak.kp k7 bD (by omega)
 have ab:=ak.kp ab bD (by omega)
 have hb:=hb.trans bD
 refine al iK<|av fun _ oB=>?_
 obtain ⟨A2,c2,nn2,a2,e2,hPb2,_,hback2⟩:=hP.open
 refine aQ<|ai rfl<|ae (cI rfl) rfl<|ae (aP (A5 _) rfl) rfl<|aG (aS b0 rfl (by exact hPb2.at (j:=5) rfl)) rfl<|ae (bW (iQ rfl rfl (by omega) (by omega)) (aH (show _=(b:Int) by omega))) rfl<|ae (cI rfl) rfl<|ae (aP (A5 _) rfl) rfl<|fV b0 rfl rfl rfl hPb2 (by show 5<6;decide) ?_
 rintro mW abH df
 have:=df.size
 have hb:=bp hb df (by omega)
 have hz:=aY.kp hz df (fun h_=>by have bh:=aT _ h_;omega)
 have k7:=k7.over df (by omega)
 have ab:=ab.over df (by omega)
 have hPb2:=abH
 refine al oB<|av fun _ mF=>?_
 have hP:RO mW p en g b (uX en [41] σ1):=hback2 g b _ hPb2 df
 refine aQ<|aG (cr b5 (by kernel_rfl) rfl (by exact fun j u hu=>k7.at hu)) rfl ?_
 refine ba (by kernel_rfl) rfl rfl ab rfl rfl ?_
 rintro mi ab cF
 have:=cF.size
 have hb:=bp hb cF (by omega)
 have hP:=RO.over hP cF (by omega)
 have hz:=aY.kp hz cF (fun h_=>by have bh:=aT _ h_;omega)
 refine al mF<|aJ<|bQ (rs:= [.cell 4 28]) (vs:= [_]) rfl (.cell rfl (bP b5 (by kernel_rfl) (fun j u hu=>ab.at hu)) .nil) ?_
 exact ⟨_,rfl,⟨x,_,⟨z,Sz,rfl,hz,fun k hk=>by have:=aT k hk;omega⟩,by rw [hbe,if_neg h50,ij h1,Mj],hP⟩,hb⟩
theorem RM {en b:Nat} {knot:Nat→Pe} {ts:List Tok} (h1:bv en [[40]] ts=false) (h2:bv en [[37]] ts=false):ir en b knot ts=eI (mQ en 1 ts) fun t r=> .ok (.mk 4 t.t ch []) r:=by
 unfold ir;rw [if_neg (by rw [h1];decide),if_neg (by rw [h2];decide)];kernel_rfl
abbrev va (p en g b n lv:Nat) (F:Pe):Prop:=qz p en 141 [.int .i64 (lv:Int)] n g b F eU
theorem acr (p en g b n:Nat) (hK:∀b',va p en g b' n 0 (lT en n b')):va p en g b (n+1) 3 (ir en b (lT en n)):=by
 intro w σ hP hn;have hpl:=hP.lt;have hb:=Kp.refl p w;refine enter Tryz.func141 rfl rfl rfl<|am fun aR=>bT (z:=fy) (by kernel_rfl) rfl ?_
 rintro au dJ dH ab aM;have:=aM.size;have hP:=hP.below aM;replace aM:=Below.kp (p:=p) aM;have hb:=hb.trans aM;have:=ab.lt;refine al aR<|av fun _ bt=>av fun _ b8=>?_
 obtain ⟨A,c,nn,a0,e0,hPb,hσ,_⟩:=hP.open;refine aQ<|ai rfl<|ae (cI rfl) rfl<|ae (aP (nB _) rfl) rfl<|aG (aS iq rfl (by exact hPb.at (j:=3) rfl)) rfl<|ae (fG rfl rfl) rfl<|al b8<|aO rfl (fun dA=>?_) (fun dA=>?_)
 ·
  have lp:=dA;simp only [DZ] at dA;obtain ⟨he0,hσe⟩:e0≠0∧σ= .err a0 e0:=by rcases hσ with h|h;(· exact absurd h.1 dA);(· exact h)
  subst hσe;refine am fun dT=>ae (cC (z:=gd) (pl:=gf) (cs:= [_,_,_,_,_,_,_]) b5 (by kernel_rfl) (by kernel_rfl) rfl rfl rfl) rfl<|ba (by kernel_rfl) rfl rfl ab rfl rfl ?_
  rintro du ab aF;have:=aF.size;have hb:=bp hb aF (by omega);have hP:=RO.over hP aF (by omega);refine al dT<|aJ<|aX<|bQ (rs:= [.cell 4 28]) (vs:= [_]) rfl (.cell rfl (bP b5 (by kernel_rfl) (fun j u hu=>ab.at hu)) .nil) ?_
  exact ⟨_,rfl,⟨eC,.err a0 e0,⟨dE,fun _=>False,rfl,kQ _ _,fun k h=>h.elim⟩,rfl,hP⟩,hb⟩
 have lp:=dA;simp only [DZ] at dA;obtain ⟨ts,hσe⟩:∃ts,σ= .ok () ts:=by rcases hσ with h|h;(· exact h.2);(· exact absurd (by have:=dA;omega) h.1)
 subst hσe;have hn2:ts.length<n+1:=hn;clear hPb;refine aU<|ax bt<|am fun eh=>cz (sz:=1) (vs:= [_,_,_]) dl (by kernel_rfl) rfl rfl rfl rfl rfl rfl ?_
 rintro cp fA fw aI aV;have:=aV.size;have hP:=hP.below aV;have ab:=ab.below aV;replace aV:=Below.kp (p:=p) aV;have hb:=hb.trans aV;have:=aI.lt;refine an rfl<|al eh<|am fun gH=>cz (sz:=1) (vs:= [_,_,_]) Aa (by kernel_rfl) rfl rfl rfl rfl rfl rfl ?_
 rintro cK jB jG aK bA;have:=bA.size;have hP:=hP.below bA;have ab:=ab.below bA;replace bA:=Below.kp (p:=p) bA;have hb:=hb.trans bA;have:=aK.lt;refine an rfl<|al gH<|av fun _ fC=>am fun eM=>ai rfl<|ae (dL rfl rfl) rfl<|al eM<|aO rfl (fun gD=>?_) (fun gD=>?_)
 ·
  exact absurd gD (by decide)
 refine aU<|ax fC<|av fun _ fT=>am fun gu=>ai rfl<|ae (bX rfl rfl) rfl<|al gu<|aO rfl (fun AF=>?_) (fun AF=>?_)
 ·
  exact absurd AF (by decide)
 refine aU<|ax fT<|av fun _ fD=>am fun iJ=>ai rfl<|aD lj rfl rfl (lh p en g b (.ok () ts) [40] _ hP) rfl ?_
 rintro _ mh ⟨rfl,cA⟩;have:=cA.size;have hP:=RO.below hP cA;have ab:=ak.below ab cA;replace cA:=Below.kp (p:=p) cA;have hb:=hb.trans cA;refine al iJ<|aO rfl (fun Is=>?_) (fun Is=>?_)
 ·
  have Iu:=Is;have hi:bv en [[40]] ts=true:=Iu;refine am fun im=>ai rfl<|aD TC rfl rfl (R3 p en g b n true _ (.inl ⟨rfl,rfl⟩) (lT en n) (CU en n) hK ts hi (by omega) _ hP) rfl ?_
  rintro _ qw ⟨⟨x,σ1,⟨z,Sz,rfl,hz,aT⟩,h1,hP⟩,cL⟩;have:=cL.size;have ab:=ak.kp ab cL (by omega);have hb:=hb.trans cL;refine ba (by kernel_rfl) rfl rfl ab rfl rfl ?_;rintro rO ab dw;have:=dw.size;have hb:=bp hb dw (by omega);have hP:=RO.over hP dw (by omega);have hz:=aY.kp hz dw (fun h_=>by have bh:=aT _ h_;omega);refine al im<|aJ<|aX<|bQ (rs:= [.cell 4 28]) (vs:= [_]) rfl (.cell rfl (bP b5 (by kernel_rfl) (fun j u hu=>ab.at hu)) .nil) ?_
  exact ⟨_,rfl,⟨x,σ1,⟨z,Sz,rfl,hz,fun k hk=>by have:=aT k hk;omega⟩,by rw [←h1];show ir en b (lT en n) ts=lS en b (lT en n) ts;unfold ir;rw [if_pos hi],hP⟩,hb⟩
 have Iu:=Is;have hi:bv en [[40]] ts=false:=Iu;refine aU<|ax fD<|av fun _ kH=>am fun kj=>ai rfl<|aD lj rfl rfl (lh p en g b (.ok () ts) [37] _ hP) rfl ?_
 rintro _ sD ⟨rfl,dr⟩;have:=dr.size;have hP:=RO.below hP dr;have ab:=ak.below ab dr;replace dr:=Below.kp (p:=p) dr;have hb:=hb.trans dr;refine al kj<|aO rfl (fun IA=>?_) (fun IA=>?_)
 ·
  have IB:=IA;have hj:bv en [[37]] ts=true:=IB;refine am fun lL=>ai rfl<|aD iP rfl rfl (iO p en ts g b (eB hj) _ hP) rfl ?_
  rintro _ sB ⟨⟨rfl,hP⟩,cY⟩;have:=cY.size;have ab:=ak.kp ab cY (by omega);have hb:=hb.trans cY;refine al lL<|am fun mD=>ae (cC (z:=gd) (pl:=gf) (cs:= [_,_,_,_,_,_,_]) b5 (by kernel_rfl) (by kernel_rfl) rfl rfl rfl) rfl<|ba (by kernel_rfl) rfl rfl ab rfl rfl ?_
  rintro oj ab bO;have:=bO.size;have hb:=bp hb bO (by omega);have hP:=RO.over hP bO (by omega);refine al mD<|aJ<|aX<|bQ (rs:= [.cell 4 28]) (vs:= [_]) rfl (.cell rfl (bP b5 (by kernel_rfl) (fun j u hu=>ab.at hu)) .nil) ?_
  exact ⟨_,rfl,⟨.mk 5 [] ch [],.ok () ts.tail,⟨⟨5,[],ch,none,0,0⟩,fun _=>False,rfl,rQ _ _ _ _ _,fun k h=>h.elim⟩,by show ir en b (lT en n) ts=_;unfold ir;rw [if_neg (by rw [hi];decide),if_pos hj];rfl,hP⟩,hb⟩
 have IB:=IA;have hj:bv en [[37]] ts=false:=IB;refine aU<|ax kH<|av fun _ mE=>am fun gZ=>ai rfl<|aD yu rfl rfl (yk p en g b 1 (.ok () ts) _ hP) rfl ?_
 rintro _ oQ ⟨rfl,bE⟩;have:=bE.size;have hP:=RO.below hP bE;have ab:=ak.below ab bE;replace bE:=Below.kp (p:=p) bE;have hb:=hb.trans bE;refine ae (jd rfl) rfl<|al gZ<|aO rfl (fun IG=>?_) (fun IG=>?_)
 ·
  have hk:¬(aN en ts).k=1:=of_decide_eq_false (show mN en 1 (.ok () ts)=false by simpa using IG);have Lw:ir en b (lT en n) ts= .err (aN en ts).a 2:=by rw [RM hi hj];unfold mQ;rw [if_neg hk];rfl
  refine am fun lM=>ai rfl<|aD yr rfl rfl (yj p en g b (.ok () ts) _ hP) rfl ?_
  rintro _ u6 ⟨hP,eN⟩;have:=eN.size;have ab:=ak.kp ab eN (by omega);have hb:=hb.trans eN;refine al lM<|am fun kJ=>ae (cC (z:=gd) (pl:=gf) (cs:= [_,_,_,_,_,_,_]) b5 (by kernel_rfl) (by kernel_rfl) rfl rfl rfl) rfl<|ba (by kernel_rfl) rfl rfl ab rfl rfl ?_
  rintro DS ab gJ;have:=gJ.size;have hb:=bp hb gJ (by omega);have hP:=RO.over hP gJ (by omega);refine al kJ<|aJ<|aX<|bQ (rs:= [.cell 4 28]) (vs:= [_]) rfl (.cell rfl (bP b5 (by kernel_rfl) (fun j u hu=>ab.at hu)) .nil) ?_
  exact ⟨_,rfl,⟨eC,uC en (.ok () ts),⟨dE,fun _=>False,rfl,kQ _ _,fun k h=>h.elim⟩,Lw,hP⟩,hb⟩
 have hk:(aN en ts).k=1:=of_decide_eq_true (show mN en 1 (.ok () ts)=true by simpa using IG);have Lw:ir en b (lT en n) ts= .ok (.mk 4 (aN en ts).t ch []) ts.tail:=by rw [RM hi hj];unfold mQ;rw [if_pos hk];rfl
 refine aU<|ax mE<|am fun kK=>ai rfl<|aD iP rfl rfl (iO p en ts g b (oI hk (by decide)) _ hP) rfl ?_
 rintro _ sC ⟨⟨rfl,hP⟩,fk⟩;have:=fk.size;have ab:=ak.kp ab fk (by omega);have hb:=hb.trans fk;refine bT (z:=fx) (by kernel_rfl) rfl ?_;rintro EZ Un Qy cv fF;have:=fF.size;have hP:=hP.below fF;have ab:=ab.below fF;replace fF:=Below.kp (p:=p) fF;have hb:=hb.trans fF;have:=cv.lt;refine ba (by kernel_rfl) rfl rfl cv rfl rfl ?_;rintro Uo cv l9;have:=l9.size;have hb:=bp hb l9 (by omega);have hP:=RO.over hP l9 (by omega);have ab:=ab.over l9 (by omega);refine al kK<|am fun rm=>ae (aP (l5 _) rfl) rfl<|aG (aS di rfl (by exact cv.at (j:=1) rfl)) rfl ?_
 refine ae (cC (z:=gd) (pl:=gf) (cs:= [_,_,_,_,_,_,_]) b5 (by kernel_rfl) (by kernel_rfl) rfl rfl rfl) rfl<|ba (by kernel_rfl) rfl rfl ab rfl rfl ?_
 rintro Up ab sl;have:=sl.size;have hb:=bp hb sl (by omega);have hP:=RO.over hP sl (by omega);refine al rm<|aJ<|bQ (rs:= [.cell 4 28]) (vs:= [_]) rfl (.cell rfl (bP b5 (by kernel_rfl) (fun j u hu=>ab.at hu)) .nil) ?_
 exact ⟨_,rfl,⟨_,.ok () ts.tail,⟨⟨4,(aN en ts).t,ch,none,0,0⟩,fun _=>False,rfl,rQ _ _ _ _ _,fun k h=>h.elim⟩,Lw,hP⟩,hb⟩
theorem acq (p en g b n:Nat) (F:Pe) (h3:va p en g b n 3 F):va p en g b n 2 (i8 en [33] F 6 []):=by
 intro w σ hP hn;have hpl:=hP.lt;have h65:=hP.sz;have hb:=Kp.refl p w;refine enter Tryz.func141 rfl rfl rfl<|am fun aR=>bT (z:=fy) (by kernel_rfl) rfl ?_
 rintro au dJ dH ab aM;have:=aM.size;have hP:=hP.below aM;replace aM:=Below.kp (p:=p) aM;have hb:=hb.trans aM;have:=ab.lt;refine al aR<|av fun _ bt=>av fun _ b8=>?_
 obtain ⟨A,c,nn,a0,e0,hPb,hσ,_⟩:=hP.open;refine aQ<|ai rfl<|ae (cI rfl) rfl<|ae (aP (nB _) rfl) rfl<|aG (aS iq rfl (by exact hPb.at (j:=3) rfl)) rfl<|ae (fG rfl rfl) rfl<|al b8<|aO rfl (fun dA=>?_) (fun dA=>?_)
 ·
  have lp:=dA;simp only [DZ] at dA;obtain ⟨he0,hσe⟩:e0≠0∧σ= .err a0 e0:=by rcases hσ with h|h;(· exact absurd h.1 dA);(· exact h)
  subst hσe;refine am fun dT=>ae (cC (z:=gd) (pl:=gf) (cs:= [_,_,_,_,_,_,_]) b5 (by kernel_rfl) (by kernel_rfl) rfl rfl rfl) rfl<|ba (by kernel_rfl) rfl rfl ab rfl rfl ?_
  rintro du ab aF;have:=aF.size;have hb:=bp hb aF (by omega);have hP:=RO.over hP aF (by omega);refine al dT<|aJ<|aX<|bQ (rs:= [.cell 4 28]) (vs:= [_]) rfl (.cell rfl (bP b5 (by kernel_rfl) (fun j u hu=>ab.at hu)) .nil) ?_
  exact ⟨_,rfl,⟨eC,.err a0 e0,⟨dE,fun _=>False,rfl,kQ _ _,fun k h=>h.elim⟩,rfl,hP⟩,hb⟩
 clear hPb;refine aU<|ax bt<|am fun eh=>cz (sz:=1) (vs:= [_,_,_]) dl (by kernel_rfl) rfl rfl rfl rfl rfl rfl ?_
 rintro cp fA fw aI aV;have:=aV.size;have hP:=hP.below aV;have ab:=ab.below aV;replace aV:=Below.kp (p:=p) aV;have hb:=hb.trans aV;have:=aI.lt;refine an rfl<|al eh<|am fun gH=>cz (sz:=1) (vs:= [_,_,_]) Aa (by kernel_rfl) rfl rfl rfl rfl rfl rfl ?_
 rintro cK jB jG aK bA;have:=bA.size;have hP:=hP.below bA;have ab:=ab.below bA;replace bA:=Below.kp (p:=p) bA;have hb:=hb.trans bA;have:=aK.lt;refine an rfl<|al gH<|av fun _ fC=>am fun eM=>ai rfl<|ae (dL rfl rfl) rfl<|al eM<|aO rfl (fun gD=>?_) (fun gD=>?_)
 ·
  exact absurd gD (by decide)
 refine aU<|ax fC<|av fun _ fT=>am fun gu=>ai rfl<|ae (bX rfl rfl) rfl<|al gu<|aO rfl (fun AF=>?_) (fun AF=>?_)
 ·
  refine am fun fD=>an rfl<|al fD<|av fun _ k8=>b4<|d9 (X:=Sg×Nat) (fun (τ,m)=> [(0,bH p),(4,.pointer (some ⟨au,0,none⟩)),(9,.int .i64 (m:Int))]) (fun (τ,m) wr=>l1 en [33] σ=((l1 en [33] τ).1+m,(l1 en [33] τ).2)∧m+cE τ=cE σ∧Kp p w wr∧RO wr p en g b τ∧(∃y_:EC,ak wr au 28 y_.cells)) (fun (τ,m)=>cE τ) (⟨σ,0⟩) ?_ ?_ ?_
  · exact by repeat first|exact aC|refine aA rfl (by first|rfl|exact aH (by omega)) ?_
  · exact ⟨by rw [Nat.add_zero],by omega,hb,hP,⟨dE,ab⟩⟩
  rintro ⟨τ,m⟩ wr lH _ KV;replace lH:l1 en [33] σ=((l1 en [33] τ).1+m,(l1 en [33] τ).2)∧m+cE τ=cE σ∧Kp p w wr∧RO wr p en g b τ∧(∃y_:EC,ak wr au 28 y_.cells):=lH;obtain ⟨hF,hm,hb,hP,⟨_,ab⟩⟩:=lH;show Wc _ _ _ _ _ [(0,bH p),(4,.pointer (some ⟨au,0,none⟩)),(9,.int .i64 (m:Int))] _;have:=hb.size;have:=ab.lt;refine av fun _ im=>am fun gI=>ai rfl<|aD lj rfl rfl (lh p en g b τ [33] _ hP) rfl ?_
  rintro _ gj ⟨rfl,bD⟩;have:=bD.size;have hP:=RO.below hP bD;have ab:=ak.below ab bD;replace bD:=Below.kp (p:=p) bD;have hb:=hb.trans bD;refine al gI<|aO rfl (fun HU=>?_) (fun HU=>?_)
  ·
   have HV:=HU;obtain ⟨ts,rfl,hi⟩:=oN HV;have hl:=kN hi;refine aU<|ax im<|b4<|am fun k9=>ai rfl<|aD iP rfl rfl (iO p en ts g b (eB hi) _ hP) rfl ?_
   rintro _ lW ⟨⟨rfl,hP⟩,cm⟩;have:=cm.size;have ab:=ak.kp ab cm (by omega);have hb:=hb.trans cm;refine al k9<|aQ<|ai rfl<|ae (ct rfl rfl (by omega) (by omega)) rfl<|an rfl<|ay<|cD<|fun a_ bM=>KV _ _ (⟨.ok () ts.tail,m+1⟩) (by show ts.tail.length<ts.length;omega) (by repeat first|exact aC|refine aA rfl (by first|rfl|exact aH (by omega)) ?_) ?_ a_ bM
   exact ⟨by rw [hF,OL hi,Nat.add_assoc,Nat.add_comm 1 m],by show m+1+ts.tail.length=_;rw [←hm];show _=m+ts.length;omega,hb,hP,⟨_,ab⟩⟩
  have HV:=HU;have hi:eZ en [[33]] τ=false:=HV;rw [OK hi,Nat.zero_add] at hF;refine d2<|cj<|cj<|d3<|ax k8<|am fun mD=>ai rfl<|aD Du rfl rfl (h3 _ τ hP (by omega)) rfl ?_
  rintro _ lX ⟨⟨x,σ1,⟨z,Sz,rfl,hz,aT⟩,h1,hP⟩,cy⟩;have:=cy.size;have ab:=ak.kp ab cy (by omega);have hb:=hb.trans cy;refine bT (z:=fy) (by kernel_rfl) rfl ?_;rintro p8 Um Qx fh kM;have:=kM.size;have hP:=hP.below kM;have ab:=ab.below kM;have hz:=hz.below kM;replace kM:=Below.kp (p:=p) kM;have hb:=hb.trans kM;have:=fh.lt;refine ba (by kernel_rfl) rfl rfl fh rfl rfl ?_;rintro mV fh cS;have:=cS.size;have hb:=bp hb cS (by omega);have hP:=RO.over hP cS (by omega);have ab:=ab.over cS (by omega);have hz:=aY.kp hz cS (fun h_=>by have bh:=aT _ h_;omega);refine al mD<|av fun _ kl=>am fun pn=>an rfl<|al pn<|b4<|d9 (X:=Nat×EC×(Nat→Prop)×b6) (fun (i,x1,S,e)=> [(4,.pointer (some ⟨au,0,none⟩)),(9,.int .i64 (m:Int)),(10,.pointer (some ⟨p8,0,none⟩)),(11,.int .i64 (i:Int))]) (fun (i,x1,S,e) wr=>i≤m∧ku 6 [] (m - i) e=ku 6 [] m x∧Kp p w wr∧RO wr p en g b σ1∧(∃y_:EC,ak wr au 28 y_.cells)∧ak wr p8 28 x1.cells∧aY wr S e x1.cells∧(∀k,S k→w.heap.size≤k∧k<wr.heap.size∧k≠p8∧k≠au)) (fun (i,x1,S,e)=>m - i) (⟨0,z,Sz,x⟩) ?_ ?_ ?_
  · exact by repeat first|exact aC|refine aA rfl (by first|rfl|exact aH (by omega)) ?_
  · exact ⟨by omega,rfl,hb,hP,⟨_,ab⟩,fh,hz,fun k hk=>by have:=aT k hk;omega⟩
  rintro ⟨i,x1,S,e⟩ wr ri _ KX;replace ri:i≤m∧ku 6 [] (m - i) e=ku 6 [] m x∧Kp p w wr∧RO wr p en g b σ1∧(∃y_:EC,ak wr au 28 y_.cells)∧ak wr p8 28 x1.cells∧aY wr S e x1.cells∧(∀k,S k→w.heap.size≤k∧k<wr.heap.size∧k≠p8∧k≠au):=ri;obtain ⟨him,hw1,hb,hP,⟨_,ab⟩,fh,hx,dt⟩:=ri;show Wc _ _ _ _ _ [(4,.pointer (some ⟨au,0,none⟩)),(9,.int .i64 (m:Int)),(10,.pointer (some ⟨p8,0,none⟩)),(11,.int .i64 (i:Int))] _;have:=hb.size;have:=ab.lt;have:=fh.lt;refine av fun _ mF=>am fun kI=>ai rfl<|ai rfl<|ae (dL rfl rfl) rfl<|al kI<|aO rfl (fun sY=>?_) (fun sY=>?_)
  ·
   have XM:=sY;simp only [DZ] at sY;have hlt:i<m:=by have:=sY;omega
   refine aU<|ax mF<|av fun _ nQ=>b4<|aQ<|aG (cr b5 (by kernel_rfl) rfl (by exact fun j u hu=>fh.at hu)) rfl<|cz (sz:=7) (vs:= [_]) j5 (by kernel_rfl) rfl rfl rfl rfl rfl rfl ?_
   rintro eW sA l8 bu d4;have:=d4.size;have hP:=hP.below d4;have hx:=hx.below d4;have ab:=ab.below d4;have fh:=fh.below d4;replace d4:=Below.kp (p:=p) d4;have hb:=hb.trans d4;have:=bu.lt;refine ae (cC (z:=gd) (pl:=gf) (cs:= [_,_,_,_,_,_,_]) b5 (by kernel_rfl) (by kernel_rfl) rfl rfl rfl) rfl<|ba (by kernel_rfl) rfl rfl fh rfl rfl ?_
   rintro mW fh df;have:=df.size;have hb:=bp hb df (by omega);have hP:=RO.over hP df (by omega);have hx:=aY.kp hx df (fun h_=>by have bh:=dt _ h_;omega);have ab:=ab.over df (by omega);have bu:=bu.over df (by omega);refine ay<|cD<|ax nQ<|aQ<|ai rfl<|ae (ct rfl rfl (by omega) (by omega)) rfl<|an rfl<|ay<|fun a_ bM=>KX _ _ (⟨i+1,⟨6,[],ch,some ⟨eW,0,none⟩,1,1⟩,fun k=>S k∨k=eW,.mk 6 [] ch [e]⟩) (by show m - (i+1)<m - i;omega) (by repeat first|exact aC|refine aA rfl (by first|rfl|exact aH (by omega)) ?_) ?_ a_ bM
   exact ⟨by omega,by rw [←hw1,show m - i=(m - (i+1))+1 by omega];rfl,hb,hP,⟨_,ab⟩,fh,aY.node (kids:= [e]) rfl (bu.rd 1 7 rfl) (.inr rfl) ((eQ.one hx).mono fun _ h=> .inl h),fun k hk=>by rcases hk with h|h;(· have:=dt k h;omega);(· have:=bu.lt;omega)⟩
  have XM:=sY;simp only [DZ] at sY;have hlt:i=m:=by have:=sY;omega
  refine d2<|cj<|cj<|d3<|ax kl<|am fun nS=>?_
  refine aG (cr b5 (by kernel_rfl) rfl (by exact fun j u hu=>fh.at hu)) rfl ?_;refine ba (by kernel_rfl) rfl rfl ab rfl rfl ?_;rintro mi ab cF;have:=cF.size;have hb:=bp hb cF (by omega);have hP:=RO.over hP cF (by omega);have hx:=aY.kp hx cF (fun h_=>by have bh:=dt _ h_;omega);refine al nS<|aJ<|aX<|bQ (rs:= [.cell 4 28]) (vs:= [_]) rfl (.cell rfl (bP b5 (by kernel_rfl) (fun j u hu=>ab.at hu)) .nil) ?_
  exact ⟨_,rfl,⟨e,σ1,⟨x1,S,rfl,hx,fun k hk=>by have:=dt k hk;omega⟩,by
 subst hlt
 have h2:=Tk (k:=6) (nm:= []) (sign:= [33]) (en:=en) (σ:=σ) (F:=F) (σ':=σ1) (x:=x) (by rw [hF];exact h1)
 rw [h2,hF]
 rw [Nat.sub_self] at hw1
 show dZ (ku 6 [] i x) σ1=dZ e σ1
 rw [←hw1];rfl,hP⟩,hb⟩
 exact absurd AF (by decide)
theorem QN (p en g b n lv:Nat) (F:Pe) (hT:iE F) (sg:ao) (kk:Int) (hlv:(lv=0∧sg= [124]∧kk=8)∨(lv=1∧sg= [38]∧kk=7)) (h3:va p en g b n (lv+1) F):va p en g b n lv (jK en F (fun _=>kT kk []) [sg]):=by
 intro w σ hP hn;have hpl:=hP.lt;have hlv2:lv<2:=by omega
 have hsg:([[124],[38],[33]]:List (ao)).getD lv []=sg:=by rcases hlv with ⟨rfl,rfl,_⟩|⟨rfl,rfl,_⟩<;>rfl
 have hkk:([.int .i64 8,.int .i64 7,.int .i64 6]:List Value)[lv]? =some (.int .i64 kk):=by rcases hlv with ⟨rfl,_,rfl⟩|⟨rfl,_,rfl⟩<;>rfl
 have hT0:iE (jK en F (fun _=>kT kk []) [sg]):=qj hT fun _ a b=>AP kk [] a b;have hb:=Kp.refl p w;refine enter Tryz.func141 rfl rfl rfl<|am fun aR=>bT (z:=fy) (by kernel_rfl) rfl ?_
 rintro au dJ dH ab aM;have:=aM.size;have hP:=hP.below aM;replace aM:=Below.kp (p:=p) aM;have hb:=hb.trans aM;have:=ab.lt;refine al aR<|av fun _ bt=>av fun _ b8=>?_
 obtain ⟨A,c,nn,a0,e0,hPb,hσ,_⟩:=hP.open;refine aQ<|ai rfl<|ae (cI rfl) rfl<|ae (aP (nB _) rfl) rfl<|aG (aS iq rfl (by exact hPb.at (j:=3) rfl)) rfl<|ae (fG rfl rfl) rfl<|al b8<|aO rfl (fun dA=>?_) (fun dA=>?_)
 ·
  have lp:=dA;simp only [DZ] at dA;obtain ⟨he0,hσe⟩:e0≠0∧σ= .err a0 e0:=by rcases hσ with h|h;(· exact absurd h.1 dA);(· exact h)
  subst hσe;refine am fun dT=>ae (cC (z:=gd) (pl:=gf) (cs:= [_,_,_,_,_,_,_]) b5 (by kernel_rfl) (by kernel_rfl) rfl rfl rfl) rfl<|ba (by kernel_rfl) rfl rfl ab rfl rfl ?_
  rintro du ab aF;have:=aF.size;have hb:=bp hb aF (by omega);have hP:=RO.over hP aF (by omega);refine al dT<|aJ<|aX<|bQ (rs:= [.cell 4 28]) (vs:= [_]) rfl (.cell rfl (bP b5 (by kernel_rfl) (fun j u hu=>ab.at hu)) .nil) ?_
  exact ⟨_,rfl,⟨eC,.err a0 e0,⟨dE,fun _=>False,rfl,kQ _ _,fun k h=>h.elim⟩,rfl,hP⟩,hb⟩
 clear hPb;refine aU<|ax bt<|am fun eh=>cz (sz:=1) (vs:= [_,_,_]) dl (by kernel_rfl) rfl rfl rfl rfl rfl rfl ?_
 rintro cp fA fw aI aV;have:=aV.size;have hP:=hP.below aV;have ab:=ab.below aV;replace aV:=Below.kp (p:=p) aV;have hb:=hb.trans aV;have:=aI.lt;refine an rfl<|al eh<|am fun gH=>cz (sz:=1) (vs:= [_,_,_]) Aa (by kernel_rfl) rfl rfl rfl rfl rfl rfl ?_
 rintro cK jB jG aK bA;have:=bA.size;have hP:=hP.below bA;have ab:=ab.below bA;have aI:=aI.below bA;replace bA:=Below.kp (p:=p) bA;have hb:=hb.trans bA;have:=aK.lt;refine an rfl<|al gH<|av fun _ fC=>am fun eM=>ai rfl<|ae (dL rfl rfl) rfl<|al eM<|aO rfl (fun gD=>?_) (fun gD=>?_)
 ·
  refine am fun fT=>ai rfl<|ai rfl<|ae (bW (ct rfl rfl (by omega) (by omega)) (aH (show _=((lv+1:Nat):Int) by omega))) rfl<|aD Du rfl rfl (h3 _ σ hP hn) rfl ?_
  rintro _ cB ⟨⟨x,σ1,⟨z,Sz,rfl,hz,aT⟩,h1,hP⟩,aw⟩;have:=aw.size;have ab:=ak.kp ab aw (by omega);have aI:=ak.kp aI aw (by omega);have aK:=ak.kp aK aw (by omega);have hb:=hb.trans aw;refine bT (z:=fy) (by kernel_rfl) rfl ?_;rintro xc agI zp fS tG;have:=tG.size;have hP:=hP.below tG;have ab:=ab.below tG;have aI:=aI.below tG;have aK:=aK.below tG;have hz:=hz.below tG;replace tG:=Below.kp (p:=p) tG;have hb:=hb.trans tG;have:=fS.lt;refine ba (by kernel_rfl) rfl rfl fS rfl rfl ?_;rintro ff fS bc;have:=bc.size;have hb:=bp hb bc (by omega);have hP:=RO.over hP bc (by omega);have ab:=ab.over bc (by omega);have aI:=aI.over bc (by omega);have aK:=aK.over bc (by omega);have hz:=aY.kp hz bc (fun h_=>by have bh:=aT _ h_;omega);refine al fT<|av fun _ iJ=>b4<|d9 (X:=EC×(Nat→Prop)×b6×Sg) (fun (x,S,e,τ)=> [(0,bH p),(1,.int .i64 (lv:Int)),(4,.pointer (some ⟨au,0,none⟩)),(5,.slice (some ⟨cp,0,none⟩) 3 3),(6,.slice (some ⟨cK,0,none⟩) 3 3),(7,.pointer (some ⟨xc,0,none⟩))]) (fun (x,S,e,τ) wr=>bR σ (jK en F (fun _=>kT kk []) [sg])=bR τ (tK en F (fun _=>kT kk []) [sg] e)∧cE τ≤cE σ∧Kp p w wr∧RO wr p en g b τ∧aY wr S e x.cells∧(∀k,S k→w.heap.size≤k∧k<wr.heap.size∧k≠xc∧k≠au)∧ak wr xc 28 x.cells∧(∃y_:EC,ak wr au 28 y_.cells)∧ak wr cp 9 (b9 [[124],[38],[33]])∧ak wr cK 3 [.int .i64 8,.int .i64 7,.int .i64 6]) (fun (x,S,e,τ)=>cE τ) (⟨z,Sz,x,σ1⟩) ?_ ?_ ?_
  · exact by repeat first|exact aC|refine aA rfl (by first|rfl|exact aH (by omega)) ?_
  · exact ⟨by rw [RN];exact ij h1 _,rJ h1 (yo hT),hb,hP,hz,fun k hk=>by have:=aT k hk;omega,fS,⟨dE,ab⟩,aI,aK⟩
  rintro ⟨x,S,e,τ⟩ wr xq _ aat;replace xq:bR σ (jK en F (fun _=>kT kk []) [sg])=bR τ (tK en F (fun _=>kT kk []) [sg] e)∧cE τ≤cE σ∧Kp p w wr∧RO wr p en g b τ∧aY wr S e x.cells∧(∀k,S k→w.heap.size≤k∧k<wr.heap.size∧k≠xc∧k≠au)∧ak wr xc 28 x.cells∧(∃y_:EC,ak wr au 28 y_.cells)∧ak wr cp 9 (b9 [[124],[38],[33]])∧ak wr cK 3 [.int .i64 8,.int .i64 7,.int .i64 6]:=xq;obtain ⟨hF,hle,hb,hP,hx,dt,fS,⟨_,ab⟩,aI,aK⟩:=xq;show Wc _ _ _ _ _ [(0,bH p),(1,.int .i64 (lv:Int)),(4,.pointer (some ⟨au,0,none⟩)),(5,.slice (some ⟨cp,0,none⟩) 3 3),(6,.slice (some ⟨cK,0,none⟩) 3 3),(7,.pointer (some ⟨xc,0,none⟩))] _;have:=hb.size;have:=fS.lt;have:=ab.lt;have:=aI.lt;have:=aK.lt;refine av fun _ kG=>am fun im=>ai rfl<|ai rfl<|ai rfl<|ae (f8 dl pL rfl rfl (by omega) (by omega)) rfl<|aG (aS di rfl (by exact (show _=some (str sg) by rw [←hsg];exact yc (l:= [[124],[38],[33]]) aI (show lv<3 by omega)))) rfl<|aD lj rfl rfl (lh p en g b τ sg _ hP) rfl ?_
  rintro _ cU ⟨rfl,aL⟩;have:=aL.size;have hP:=RO.below hP aL;have hx:=aY.below hx aL;have fS:=ak.below fS aL;have ab:=ak.below ab aL;have aI:=ak.below aI aL;have aK:=ak.below aK aL;replace aL:=Below.kp (p:=p) aL;have hb:=hb.trans aL;refine al im<|aO rfl (fun vO=>?_) (fun vO=>?_)
  ·
   have vP:=vO;obtain ⟨ts,rfl,hi⟩:=oN vP;have hl:=kN hi;have hts:ts.length≤cE σ:=hle;refine aU<|ax kG<|b4<|am fun lL=>ai rfl<|aD iP rfl rfl (iO p en ts g b (eB hi) _ hP) rfl ?_
   rintro _ eP ⟨⟨rfl,hP⟩,a6⟩;have:=a6.size;have hx:=aY.kp hx a6 (fun h_=>by have bh:=dt _ h_;omega);have fS:=ak.kp fS a6 (by omega);have ab:=ak.kp ab a6 (by omega);have aI:=ak.kp aI a6 (by omega);have aK:=ak.kp aK a6 (by omega);have hb:=hb.trans a6;refine al lL<|am fun mD=>ai rfl<|ai rfl<|ae (bW (ct rfl rfl (by omega) (by omega)) (aH (show _=((lv+1:Nat):Int) by omega))) rfl<|aD Du rfl rfl (h3 _ (.ok () ts.tail) hP (show ts.tail.length<n by omega)) rfl ?_
   rintro _ fj ⟨⟨y,σ2,⟨zy,Sy,rfl,hy,fp⟩,h2,hP⟩,bk⟩;have:=bk.size;have hx:=aY.kp hx bk (fun h_=>by have bh:=dt _ h_;omega);have fS:=ak.kp fS bk (by omega);have ab:=ak.kp ab bk (by omega);have aI:=ak.kp aI bk (by omega);have aK:=ak.kp aK bk (by omega);have hb:=hb.trans bk;refine bT (z:=fy) (by kernel_rfl) rfl ?_;rintro mz F1 Lg fc io;have:=io.size;have hP:=hP.below io;have hx:=hx.below io;have fS:=fS.below io;have ab:=ab.below io;have aI:=aI.below io;have aK:=aK.below io;have hy:=hy.below io;replace io:=Below.kp (p:=p) io;have hb:=hb.trans io;have:=fc.lt;refine ba (by kernel_rfl) rfl rfl fc rfl rfl ?_;rintro gB fc bz;have:=bz.size;have hb:=bp hb bz (by omega);have hP:=RO.over hP bz (by omega);have hx:=aY.kp hx bz (fun h_=>by have bh:=dt _ h_;omega);have fS:=fS.over bz (by omega);have ab:=ab.over bz (by omega);have aI:=aI.over bz (by omega);have aK:=aK.over bz (by omega);have hy:=aY.kp hy bz (fun h_=>by have bh:=fp _ h_;omega);refine al mD<|jg (n:=9) (fun w'=>Kp p w w'∧RO w' p en g b σ2∧aY w' S e x.cells∧aY w' Sy y zy.cells∧(∃AL,ak w' xc 28 AL)∧ak w' mz 28 zy.cells∧(∃y_:EC,ak w' au 28 y_.cells)∧ak w' cp 9 (b9 [[124],[38],[33]])∧ak w' cK 3 [.int .i64 8,.int .i64 7,.int .i64 6]) #[aj,aj,aj,aj,aj,aj,aj,aj,aj] (by kernel_rfl) rfl (by kernel_rfl)<|jf ?_
   rintro Ac fo;have:=fo.size;have hP:=hP.below fo;have hx:=hx.below fo;have fS:=fS.below fo;have ab:=ab.below fo;have aI:=aI.below fo;have aK:=aK.below fo;have hy:=hy.below fo;have fc:=fc.below fo;replace fo:=Below.kp (p:=p) fo;have hb:=hb.trans fo;refine bC (i:=0) #[ah,aj,aj,aj,aj,aj,aj,aj,aj] rfl (by kernel_rfl) bF rfl (fun wq hq=>bU (dN rfl)) ⟨hb,hP,hx,hy,⟨_,fS⟩,fc,⟨_,ab⟩,aI,aK⟩<|bC (i:=1) #[ah,ah,aj,aj,aj,aj,aj,aj,aj] rfl (by kernel_rfl) bF rfl (fun wq hq=>bU (dN rfl)) ⟨hb,hP,hx,hy,⟨_,fS⟩,fc,⟨_,ab⟩,aI,aK⟩<|bC (i:=2) #[ah,ah,ah,aj,aj,aj,aj,aj,aj] rfl (by kernel_rfl) bF rfl (fun wq hq=>bU (f8 Aa SZ rfl rfl (by omega) (by omega))) ⟨hb,hP,hx,hy,⟨_,fS⟩,fc,⟨_,ab⟩,aI,aK⟩<|bC (i:=3) #[ah,ah,ah,ah,aj,aj,aj,aj,aj] rfl (by kernel_rfl) bF rfl (fun wq hq=>aS b0 rfl (by obtain ⟨hq,hP,hx,hy,⟨_,fS⟩,fc,⟨_,ab⟩,aI,aK⟩:=hq;exact by rw [Int.toNat_natCast,Nat.mul_one];exact aK.at hkk)) ⟨hb,hP,hx,hy,⟨_,fS⟩,fc,⟨_,ab⟩,aI,aK⟩<|bC (i:=5) #[ah,ah,ah,ah,aj,ah,aj,aj,aj] rfl (by kernel_rfl) bF rfl (fun wq hq=>cr b5 (by kernel_rfl) rfl (by obtain ⟨hq,hP,hx,hy,⟨_,fS⟩,fc,⟨_,ab⟩,aI,aK⟩:=hq;exact fun j u hu=>fc.at hu)) ⟨hb,hP,hx,hy,⟨_,fS⟩,fc,⟨_,ab⟩,aI,aK⟩<|cM (rs:= [4]) (by kernel_rfl) rfl<|cO #[ah,ah,ah,ah,ah,ah,aj,aj,aj] rfl rfl (fun _ kJ=>?_) ?_
   ·
    refine aG (cr b5 (by kernel_rfl) rfl (by exact fun j u hu=>fS.at hu)) rfl<|ay<|cN kJ ⟨hb,hP,hx,hy,⟨_,fS⟩,fc,⟨_,ab⟩,aI,aK⟩<|cM (rs:= [6]) (by kernel_rfl) rfl<|cO #[ah,ah,ah,ah,ah,ah,ah,aj,aj] rfl rfl (fun _ kK=>?_) ?_
    ·
     refine cz (sz:=7) (vs:= [_,_]) j5 (by kernel_rfl) rfl rfl rfl rfl rfl rfl ?_;rintro eA pO f4 bn c8;have:=c8.size;have hP:=hP.below c8;have hx:=hx.below c8;have fS:=fS.below c8;have ab:=ab.below c8;have aI:=aI.below c8;have aK:=aK.below c8;have hy:=hy.below c8;have fc:=fc.below c8;replace c8:=Below.kp (p:=p) c8;have hb:=hb.trans c8;have:=bn.lt;refine ay<|cN kK ⟨hb,hP,hx,hy,⟨_,fS⟩,fc,⟨_,ab⟩,aI,aK⟩<|bC (i:=7) #[ah,ah,ah,ah,ah,ah,ah,ah,aj] rfl (by kernel_rfl) bF rfl (fun wq hq=>bU (cC (z:=gd) (pl:=gf) (cs:= [_,_,_,_,_,_,_]) b5 (by kernel_rfl) (by kernel_rfl) rfl rfl rfl)) ⟨hb,hP,hx,hy,⟨_,fS⟩,fc,⟨_,ab⟩,aI,aK⟩<|cM (rs:= [8]) (by kernel_rfl) rfl<|cO #[ah,ah,ah,ah,ah,ah,ah,ah,ah] rfl rfl (fun _ nR=>?_) ?_
     ·
      refine ba (by kernel_rfl) rfl rfl fS rfl rfl ?_;rintro j7 fS cd;have:=cd.size;have hb:=bp hb cd (by omega);have hP:=RO.over hP cd (by omega);have hx:=aY.kp hx cd (fun h_=>by have bh:=dt _ h_;omega);have ab:=ab.over cd (by omega);have aI:=aI.over cd (by omega);have aK:=aK.over cd (by omega);have hy:=aY.kp hy cd (fun h_=>by have bh:=fp _ h_;omega);have fc:=fc.over cd (by omega);have bn:=bn.over cd (by omega);refine ay<|cN nR ⟨hb,hP,hx,hy,⟨_,fS⟩,fc,⟨_,ab⟩,aI,aK⟩<|fB (by kernel_rfl)<|cD<|fun a_ bM=>aat _ _ (⟨⟨kk,[],ch,some ⟨eA,0,none⟩,2,2⟩,fun k=>(S k∨Sy k)∨k=eA,kT kk [] e y,σ2⟩) (by show cE σ2<ts.length;have:=rJ h2 (yo hT);have h4:cE (.ok () ts.tail)=ts.tail.length:=rfl;omega) (by repeat first|exact aC|refine aA rfl (by first|rfl|exact aH (by omega)) ?_) ?_ a_ bM
      exact ⟨by rw [hF];show tK en F (fun _=>kT kk []) [sg] e ts=_;rw [Ri hT e hi];exact ij h2 _,by have:=rJ h2 (yo hT);have h4:cE (.ok () ts.tail)=ts.tail.length:=rfl;have h5:cE (.ok () ts)=ts.length:=rfl;omega,hb,hP,aY.node (kids:= [e,y]) rfl (bn.rd 2 7 rfl) (.inr rfl) ((tX (hx.mono fun _ h=> .inl h) (hy.mono fun _ h=> .inr h)).mono fun _ h=> .inl h),fun k hk=>by rcases hk with (h|h)|h;(· have:=dt k h;omega);(· have:=fp k h;omega);(· have:=bn.lt;omega),fS,⟨_,ab⟩,aI,aK⟩
     exact cP
    exact cP
   exact cP
  have vP:=vO;have hi:eZ en [sg] τ=false:=vP;refine d2<|cj<|cj<|d3<|ax iJ<|am fun rm=>?_
  refine aG (cr b5 (by kernel_rfl) rfl (by exact fun j u hu=>fS.at hu)) rfl ?_;refine ba (by kernel_rfl) rfl rfl ab rfl rfl ?_;rintro kW ab cx;have:=cx.size;have hb:=bp hb cx (by omega);have hP:=RO.over hP cx (by omega);have hx:=aY.kp hx cx (fun h_=>by have bh:=dt _ h_;omega);refine al rm<|aJ<|aX<|bQ (rs:= [.cell 4 28]) (vs:= [_]) rfl (.cell rfl (bP b5 (by kernel_rfl) (fun j u hu=>ab.at hu)) .nil) ?_
  exact ⟨_,rfl,⟨e,τ,⟨x,S,rfl,hx,fun k hk=>by have:=dt k hk;omega⟩,by rw [hF];exact Rh e hi,hP⟩,hb⟩
 have uh:=gD;simp only [DZ] at gD
 (have h:=gD;omega)
theorem QO (p en g:Nat):∀n b,va p en g b n 0 (lT en n b)
 |0,b=>fun w σ hP hn=>absurd hn (Nat.not_lt_zero _)
 |n+1,b=>by
  have hK:=QO p en g n;have hT:=CU en n;exact QN p en g b (n+1) 0 _ (qj (zW (LY hT)) fun _ a b=>AP 7 [] a b) [124] 8 (.inl ⟨rfl,rfl,rfl⟩) (QN p en g b (n+1) 1 _ (zW (LY hT)) [38] 7 (.inr ⟨rfl,rfl,rfl⟩) (acq p en g b (n+1) _ (acr p en g b n hK)))
def agU:ao:= [97,110,100]
def agV:ao:= [111,114]
def lP (s:ao):ao:=if s=jO then agU else if s=j6 then agV else s
theorem zM (s:ao) (w:World):bx Tryz.prog 174 [str s] w fun v w'=>v=str (lP s)∧Below w.heap.size w w':=by
 have hb:=Below.refl w.heap.size w;refine enter Tryz.func174 rfl rfl rfl<|am fun aR=>an rfl<|al aR<|av fun _ bt=>am fun b8=>ai rfl<|al b8<|b4<|am fun fi=>ae (fl rfl rfl) rfl<|an rfl<|al fi<|aO rfl (fun eV=>?_) (fun eV=>?_)
 ·
  have ky:=eV;simp only [DZ] at eV;have h0:s=jO:=by have:=eV;simpa [jO] using this
  refine am fun fZ=>an rfl<|al fZ<|aJ<|co (aX ?_)
  refine bN rfl rfl ?_;exact ⟨_,rfl,by unfold lP;rw [if_pos h0];rfl,hb⟩
 have ky:=eV;simp only [DZ] at eV;have h0:s≠jO:=by have:=eV;simpa [jO] using this
 refine am fun dU=>ae (fl rfl rfl) rfl<|an rfl<|al dU<|aO rfl (fun ns=>?_) (fun ns=>?_)
 ·
  have yP:=ns;simp only [DZ] at ns;have h1:s=j6:=by have:=ns;simpa [j6] using this
  refine am fun gH=>an rfl<|al gH<|aJ<|co (aX ?_)
  refine bN rfl rfl ?_;exact ⟨_,rfl,by unfold lP;rw [if_neg h0,if_pos h1];rfl,hb⟩
 have yP:=ns;simp only [DZ] at ns;have h1:s≠j6:=by have:=ns;simpa [j6] using this
 refine aU<|cD<|ax bt<|am fun dG=>ai rfl<|an rfl<|al dG<|aJ<|bN rfl rfl ?_
 exact ⟨_,rfl,by unfold lP;rw [if_neg h0,if_neg h1],hb⟩
def DU:List (ao):= [gi,gV,gU,tU]
def rH (en:Nat) (σ:Sg):Bool:=mN en 4 σ||eZ en DU σ
def lY (en:Nat) (sg:ao) (σ:Sg):Bool:= !mN en 3 σ&& !eZ en [qv] σ&&(decide (sg= [45])|| !rH en σ)
noncomputable def oK (en:Nat) (sg:ao) (ts:List Tok):cn b6:=if lY en sg (.ok () ts)=true then .err (aN en ts).a 2 else nf (sg++(aN en ts).t) (aN en ts).a ts.tail
theorem ac9 (en:Nat) (ts:List Tok):oe en [45] ts=oK en [45] ts:=by
 unfold oe oK lY;simp only [mN,eZ,decide_true,Bool.true_or,Bool.and_true];by_cases h:(aN en ts).k≠3∧bv en [qv] ts=false
 · rw [if_pos h,if_pos (by simp [h.1,h.2])]
 · rw [if_neg h,if_neg (by simp at h ⊢;exact h)]
theorem Oi {en b:Nat} {knot:Nat→Pe} {ts:List Tok} (h1:bv en [[40]] ts=false) (h2:¬(aN en ts).k=1):fL en b knot ts=if bv en [[45]] ts=true then oK en [45] ts.tail else oK en [] ts:=by
 unfold fL;rw [if_neg h2,if_neg (by rw [h1];decide)];by_cases hp:(aN en ts).k=4∨bv en [gi,gV,gU,tU] ts=true
 · rw [if_pos hp]
   have h45:bv en [[45]] ts=false:=by
    unfold bv;rw [decide_eq_false_iff_not];rintro ⟨h3,h4⟩
    rcases hp with hp|hp
    · omega
    · have h5:=(of_decide_eq_true hp).2
      rw [List.mem_singleton.1 h4] at h5;exact absurd h5 (by decide)
   rw [if_neg (by rw [h45];decide)];unfold oK lY rH
   rw [if_neg (by
    simp only [mN,eZ,DU]
    rcases hp with hp|hp
    · simp [hp]
    · simp [hp])];rfl
 · rw [if_neg hp]
   by_cases h45:bv en [[45]] ts=true
   · rw [if_pos h45,if_pos h45]
     have:(aN en ts).t= [45]:=List.mem_singleton.1 (qi h45);rw [this,ac9]
   · rw [if_neg h45,if_neg h45]
     unfold oe oK lY rH;have hp1:¬(aN en ts).k=4:=fun e=>hp (.inl e);have hp2:bv en [gi,gV,gU,tU] ts=false:=by simpa using fun e=>hp (.inr e)
     by_cases h:(aN en ts).k≠3∧bv en [qv] ts=false
     · rw [if_pos h,if_pos (by simp [mN,eZ,DU,h.1,h.2,hp1,hp2])]
     · rw [if_neg h,if_neg (by
        simp only [mN,eZ,DU,hp2]
        simp [hp1]
        simpa using h)]
theorem adM (p en g b n:Nat) (knot:Nat→Pe) (hT:∀b,iE (knot b)) (hK:∀b',qz p en 142 [.int .i64 0] n g b' (knot b') eU):qz p en 173 [] (n+1) g b (fL en b knot) eU:=by
 intro w σ hP hn;have hpl:=hP.lt;have hb:=Kp.refl p w;refine enter Tryz.func173 rfl rfl rfl<|am fun aR=>bT (z:=fy) (by kernel_rfl) rfl ?_
 rintro au dJ dH ab aM;have:=aM.size;have hP:=hP.below aM;replace aM:=Below.kp (p:=p) aM;have hb:=hb.trans aM;have:=ab.lt;refine al aR<|av fun _ bt=>am fun b8=>ai rfl<|aD lj rfl rfl (lh p en g b σ [40] _ hP) rfl ?_
 rintro _ cB ⟨rfl,aw⟩;have:=aw.size;have hP:=RO.below hP aw;have ab:=ak.below ab aw;replace aw:=Below.kp (p:=p) aw;have hb:=hb.trans aw;refine al b8<|aO rfl (fun dR=>?_) (fun dR=>?_)
 ·
  have nr:=dR;obtain ⟨ts,rfl,hi⟩:=oN nr;have hn2:ts.length<n+1:=hn;refine am fun eX=>ai rfl<|aD TC rfl rfl (R3 p en g b n false _ (.inr ⟨rfl,rfl⟩) knot hT hK ts hi (by omega) _ hP) rfl ?_
  rintro _ cU ⟨⟨x,σ1,⟨z,Sz,rfl,hz,aT⟩,h1,hP⟩,aL⟩;have:=aL.size;have ab:=ak.kp ab aL (by omega);have hb:=hb.trans aL;refine ba (by kernel_rfl) rfl rfl ab rfl rfl ?_;rintro du ab aF;have:=aF.size;have hb:=bp hb aF (by omega);have hP:=RO.over hP aF (by omega);have hz:=aY.kp hz aF (fun h_=>by have bh:=aT _ h_;omega);refine al eX<|aJ<|aX<|bQ (rs:= [.cell 2 28]) (vs:= [_]) rfl (.cell rfl (bP b5 (by kernel_rfl) (fun j u hu=>ab.at hu)) .nil) ?_
  exact ⟨_,rfl,⟨x,σ1,⟨z,Sz,rfl,hz,fun k hk=>by have:=aT k hk;omega⟩,by rw [←h1];show fL en b knot ts=lS en b knot ts;unfold fL;rw [if_neg (fun e=>by have h:=(of_decide_eq_true hi).1;omega),if_pos hi],hP⟩,hb⟩
 have nr:=dR;have hi:eZ en [[40]] σ=false:=nr;refine aU<|ax bt<|av fun _ dT=>am fun dU=>ai rfl<|aD yu rfl rfl (yk p en g b 1 σ _ hP) rfl ?_
 rintro _ eP ⟨rfl,a6⟩;have:=a6.size;have hP:=RO.below hP a6;have ab:=ak.below ab a6;replace a6:=Below.kp (p:=p) a6;have hb:=hb.trans a6;refine al dU<|aO rfl (fun ns=>?_) (fun ns=>?_)
 ·
  have yP:=ns;obtain ⟨ts,rfl,hk⟩:=LX yP;refine am fun gH=>ai rfl<|aD iP rfl rfl (iO p en ts g b (oI hk (by decide)) _ hP) rfl ?_
  rintro _ fj ⟨⟨rfl,hP⟩,bk⟩;have:=bk.size;have ab:=ak.kp ab bk (by omega);have hb:=hb.trans bk;refine bT (z:=fx) (by kernel_rfl) rfl ?_;rintro EY Nt CG dF mL;have:=mL.size;have hP:=hP.below mL;have ab:=ab.below mL;replace mL:=Below.kp (p:=p) mL;have hb:=hb.trans mL;have:=dF.lt;refine ba (by kernel_rfl) rfl rfl dF rfl rfl ?_;rintro ff dF bc;have:=bc.size;have hb:=bp hb bc (by omega);have hP:=RO.over hP bc (by omega);have ab:=ab.over bc (by omega);refine al gH<|am fun eM=>ae (aP (l5 _) rfl) rfl<|aG (aS di rfl (by exact dF.at (j:=1) rfl)) rfl ?_
  refine ae (cC (z:=gd) (pl:=gf) (cs:= [_,_,_,_,_,_,_]) b5 (by kernel_rfl) (by kernel_rfl) rfl rfl rfl) rfl<|ba (by kernel_rfl) rfl rfl ab rfl rfl ?_
  rintro gB ab bz;have:=bz.size;have hb:=bp hb bz (by omega);have hP:=RO.over hP bz (by omega);refine al eM<|aJ<|aX<|bQ (rs:= [.cell 2 28]) (vs:= [_]) rfl (.cell rfl (bP b5 (by kernel_rfl) (fun j u hu=>ab.at hu)) .nil) ?_
  exact ⟨_,rfl,⟨_,.ok () ts.tail,⟨⟨2,(aN en ts).t,ch,none,0,0⟩,fun _=>False,rfl,rQ _ _ _ _ _,fun k h=>h.elim⟩,by show fL en b knot ts=_;unfold fL;rw [if_pos hk];rfl,hP⟩,hb⟩
 have yP:=ns;have hk:mN en 1 σ=false:=yP;refine aU<|ax dT<|am fun fT=>an rfl<|al fT<|av fun _ ju=>am fun ki=>ai rfl<|aD lj rfl rfl (lh p en g b σ [45] _ hP) rfl ?_
 rintro _ gj ⟨rfl,bD⟩;have:=bD.size;have hP:=RO.below hP bD;have ab:=ak.below ab bD;replace bD:=Below.kp (p:=p) bD;have hb:=hb.trans bD;refine al ki<|cR (X:=Sg×ao) (fun (τ,sg)=> [(0,bH p),(2,.pointer (some ⟨au,0,none⟩)),(4,str sg)]) (fun (τ,sg) wr=>bR σ (fL en b knot)=bR τ (oK en sg)∧sg.length≤1∧Kp p w wr∧RO wr p en g b τ∧(∃y_:EC,ak wr au 28 y_.cells)) (fun _ ru=>?_) ?_
 ·
  refine aO rfl (fun jj=>?_) (fun jj=>?_)
  ·
   have yR:=jj;obtain ⟨ts,rfl,hj⟩:=oN yR;obtain ⟨τ,hτ⟩:∃τ:Sg,τ= .ok () ts.tail:=⟨_,rfl⟩;obtain ⟨sg,hsg⟩:∃s:ao,s= [45]:=⟨_,rfl⟩;have he:bR (.ok () ts) (fL en b knot)=bR τ (oK en sg):=by rw [hτ,hsg];show fL en b knot ts=_;rw [Oi hi (of_decide_eq_false hk),if_pos hj];rfl
   have hsl:sg.length≤1:=by rw [hsg];decide
   refine am fun gP=>ai rfl<|aD iP rfl rfl (iO p en ts g b (eB hj) _ hP) rfl ?_
   rintro _ lW ⟨⟨rfl,hP⟩,cm⟩;have:=cm.size;have ab:=ak.kp ab cm (by omega);have hb:=hb.trans cm;refine al gP<|aQ<|an rfl<|ay<|a7 ru (⟨τ,sg⟩) (by repeat first|exact aC|refine aA rfl (by first|rfl|exact d5 hsg.symm) ?_) ?_
   exact ⟨he,hsl,hb,by rw [hτ];exact hP,⟨dE,ab⟩⟩
  have yR:=jj;have hj:eZ en [[45]] σ=false:=yR;obtain ⟨τ,hτ⟩:∃τ:Sg,τ=σ:=⟨_,rfl⟩;obtain ⟨sg,hsg⟩:∃s:ao,s= []:=⟨_,rfl⟩;have hsl:sg.length≤1:=by rw [hsg];decide
  have he:bR σ (fL en b knot)=bR τ (oK en sg):=by
   rw [hτ,hsg]
   cases σ with
   |err a e=>rfl
   |ok u ts=>show fL en b knot ts=_;rw [Oi hi (of_decide_eq_false hk),if_neg (by rw [show bv en [[45]] ts=false from hj];decide)];rfl
  refine aU<|a7 ru (⟨τ,sg⟩) (by repeat first|exact aC|refine aA rfl (by first|rfl|exact d5 hsg.symm) ?_) ?_
  exact ⟨he,hsl,hb,by rw [hτ];exact hP,⟨dE,ab⟩⟩
 rintro ⟨τ,sg⟩ wr xr;replace xr:bR σ (fL en b knot)=bR τ (oK en sg)∧sg.length≤1∧Kp p w wr∧RO wr p en g b τ∧(∃y_:EC,ak wr au 28 y_.cells):=xr;obtain ⟨he,hsl,hb,hP,⟨_,ab⟩⟩:=xr;show Wq _ _ _ _ [(0,bH p),(2,.pointer (some ⟨au,0,none⟩)),(4,str sg)] _;have:=hb.size;have:=ab.lt;refine ax ju<|av fun _ kH=>cR (X:=Bool) (fun pq=> [(0,bH p),(2,.pointer (some ⟨au,0,none⟩)),(4,str sg),(5,.bool pq)]) (fun pq wr=>pq=rH en τ∧Kp p w wr∧RO wr p en g b τ∧(∃y_:EC,ak wr au 28 y_.cells)) (fun _ Qc=>?_) ?_
 ·
  refine aQ<|ai rfl<|aD yu rfl rfl (yk p en g b 4 τ _ hP) rfl ?_
  rintro _ lX ⟨rfl,cy⟩;have:=cy.size;have hP:=RO.below hP cy;have ab:=ak.below ab cy;replace cy:=Below.kp (p:=p) cy;have hb:=hb.trans cy;refine ai rfl<|dy rfl rfl rfl (fun fX=>?_) (fun fX=>?_)
  ·
   have iI:=fX;refine az rfl rfl iI rfl rfl<|az rfl rfl iI rfl rfl<|ae (bo rfl iI rfl) rfl<|an rfl<|ay<|a7 Qc (rH en τ) (by repeat first|exact aC|refine aA rfl (by first|rfl|exact a8 (by unfold rH;simp_all)) ?_) ?_
   exact ⟨rfl,hb,hP,⟨_,ab⟩⟩
  have iI:=fX;refine ai rfl<|ap rfl rfl iI<|cz (sz:=1) (vs:= [_,_,_,_]) dl (by kernel_rfl) rfl rfl rfl rfl rfl rfl ?_
  rintro cp fA fw aI aV;have:=aV.size;have hP:=hP.below aV;have ab:=ab.below aV;replace aV:=Below.kp (p:=p) aV;have hb:=hb.trans aV;have:=aI.lt;refine ap rfl rfl iI<|aD z7 rfl rfl (zN p en g b τ _ 4 DU (by decide) _ hP (aI.rd 4 1 rfl)) rfl ?_
  rintro _ mh ⟨rfl,cA⟩;have:=cA.size;have hP:=RO.below hP cA;have ab:=ak.below ab cA;replace cA:=Below.kp (p:=p) cA;have hb:=hb.trans cA;refine ae (bj rfl iI rfl) rfl<|an rfl<|ay<|a7 Qc (rH en τ) (by repeat first|exact aC|refine aA rfl (by first|rfl|exact a8 (by unfold rH;simp_all)) ?_) ?_
  exact ⟨rfl,hb,hP,⟨_,ab⟩⟩
 rintro pq wr rh;replace rh:pq=rH en τ∧Kp p w wr∧RO wr p en g b τ∧(∃y_:EC,ak wr au 28 y_.cells):=rh;obtain ⟨hpq,hb,hP,⟨_,ab⟩⟩:=rh;show Wq _ _ _ _ [(0,bH p),(2,.pointer (some ⟨au,0,none⟩)),(4,str sg),(5,.bool pq)] _;have:=hb.size;have:=ab.lt;refine ax kH<|av fun _ m6=>av fun _ po=>cR (X:=Bool) (fun bq=> [(0,bH p),(2,.pointer (some ⟨au,0,none⟩)),(4,str sg),(47,.bool bq)]) (fun bq wr=>bq=lY en sg τ∧Kp p w wr∧RO wr p en g b τ∧(∃y_:EC,ak wr au 28 y_.cells)) (fun _ E8=>?_) ?_
 ·
  refine aQ<|ai rfl<|aD yu rfl rfl (yk p en g b 3 τ _ hP) rfl ?_
  rintro _ qw ⟨rfl,cL⟩;have:=cL.size;have hP:=RO.below hP cL;have ab:=ak.below ab cL;replace cL:=Below.kp (p:=p) cL;have hb:=hb.trans cL;refine ae (jd rfl) rfl<|ai rfl<|cG rfl rfl rfl (fun wX=>?_) (fun wX=>?_)
  ·
   refine ai rfl<|ap rfl rfl wX<|aD lj rfl rfl (lh p en g b τ qv _ hP) rfl ?_
   rintro _ sD ⟨rfl,dr⟩;have:=dr.size;have hP:=RO.below hP dr;have ab:=ak.below ab dr;replace dr:=Below.kp (p:=p) dr;have hb:=hb.trans dr;refine ap rfl rfl wX<|ae (jd rfl) rfl<|ae (bo rfl wX rfl) rfl<|ai rfl<|cG rfl rfl rfl (fun kf=>?_) (fun kf=>?_)
   ·
    refine ai rfl<|ap rfl rfl kf<|ae (fl rfl rfl) rfl<|ap rfl rfl kf<|ai rfl<|dy rfl rfl rfl (fun BC=>?_) (fun BC=>?_)
    ·
     refine az rfl rfl BC rfl rfl<|ap rfl rfl kf<|ae (bo rfl BC rfl) rfl<|ae (bo rfl kf rfl) rfl<|ay<|a7 E8 (lY en sg τ) (by repeat first|exact aC|refine aA rfl (by first|rfl|exact a8 (by unfold lY;simp_all)) ?_) ?_
     exact ⟨rfl,hb,hP,⟨_,ab⟩⟩
    refine ai rfl<|ap rfl rfl BC<|ae (jd rfl) rfl<|ap rfl rfl kf<|ae (bj rfl BC rfl) rfl<|ae (bo rfl kf rfl) rfl<|ay<|a7 E8 (lY en sg τ) (by repeat first|exact aC|refine aA rfl (by first|rfl|exact a8 (by unfold lY;simp_all)) ?_) ?_
    exact ⟨rfl,hb,hP,⟨_,ab⟩⟩
   refine az rfl rfl kf rfl rfl<|az rfl rfl kf rfl rfl<|bY rfl rfl rfl<|bY rfl rfl rfl<|az rfl rfl kf rfl rfl<|ae (bj rfl kf rfl) rfl<|ay<|a7 E8 (lY en sg τ) (by repeat first|exact aC|refine aA rfl (by first|rfl|exact a8 (by unfold lY;simp_all)) ?_) ?_
   exact ⟨rfl,hb,hP,⟨_,ab⟩⟩
  refine az rfl rfl wX rfl rfl<|az rfl rfl wX rfl rfl<|ae (bj rfl wX rfl) rfl<|ai rfl<|az rfl rfl rfl rfl rfl<|az rfl rfl rfl rfl rfl<|az rfl rfl rfl rfl rfl<|bY rfl rfl rfl<|bY rfl rfl rfl<|az rfl rfl rfl rfl rfl<|ae (bj rfl rfl rfl) rfl<|ay<|a7 E8 (lY en sg τ) (by repeat first|exact aC|refine aA rfl (by first|rfl|exact a8 (by unfold lY;simp_all)) ?_) ?_
  exact ⟨rfl,hb,hP,⟨_,ab⟩⟩
 rintro bq wr Kk;replace Kk:bq=lY en sg τ∧Kp p w wr∧RO wr p en g b τ∧(∃y_:EC,ak wr au 28 y_.cells):=Kk;obtain ⟨hbq,hb,hP,⟨_,ab⟩⟩:=Kk;show Wq _ _ _ _ [(0,bH p),(2,.pointer (some ⟨au,0,none⟩)),(4,str sg),(47,.bool bq)] _;have:=hb.size;have:=ab.lt;refine ax po<|aO rfl (fun qI=>?_) (fun qI=>?_)
 ·
  have AG:=qI;have hbad:lY en sg τ=true:=hbq.symm.trans AG
  have hf:bR σ (fL en b knot)=dZ eC (uC en τ):=by
   rw [he]
   cases τ with
   |err a e=>rfl
   |ok u ts=>show oK en sg ts=_;unfold oK;rw [if_pos hbad];rfl
  refine am fun rq=>ai rfl<|aD yr rfl rfl (yj p en g b τ _ hP) rfl ?_
  rintro _ sB ⟨hP,cY⟩;have:=cY.size;have ab:=ak.kp ab cY (by omega);have hb:=hb.trans cY;refine al rq<|am fun mH=>ae (cC (z:=gd) (pl:=gf) (cs:= [_,_,_,_,_,_,_]) b5 (by kernel_rfl) (by kernel_rfl) rfl rfl rfl) rfl<|ba (by kernel_rfl) rfl rfl ab rfl rfl ?_
  rintro j7 ab cd;have:=cd.size;have hb:=bp hb cd (by omega);have hP:=RO.over hP cd (by omega);refine al mH<|aJ<|aX<|bQ (rs:= [.cell 2 28]) (vs:= [_]) rfl (.cell rfl (bP b5 (by kernel_rfl) (fun j u hu=>ab.at hu)) .nil) ?_
  exact ⟨_,rfl,⟨eC,_,⟨dE,fun _=>False,rfl,kQ _ _,fun k h=>h.elim⟩,hf,hP⟩,hb⟩
 have AG:=qI;have hbad:lY en sg τ=false:=hbq.symm.trans AG
 obtain ⟨ts,hτ⟩:∃ts,τ= .ok () ts:=by
  cases τ with
  |err a e=>exact absurd hbad (by unfold lY rH;simp [mN,eZ])
  |ok u ts=>exact ⟨ts,rfl⟩
 subst hτ;have hne:ts≠ []:=fun e=>by subst e;exact absurd hbad (by unfold lY rH;simp [mN,eZ,bv,aN])
 have htl:(aN en ts).t.length≤65536:=by
  obtain ⟨t0,r0,rfl⟩:∃t r,ts=t :: r:=by cases ts with|nil=>exact absurd rfl hne|cons t r=>exact ⟨t,r,rfl⟩
  exact (hP.live.tk t0 (List.mem_cons_self ..)).1
 obtain ⟨t,htk⟩:∃t,t=aN en ts:=⟨_,rfl⟩;rw [←htk] at htl;have hstl:(sg++t.t).length≤65537:=by rw [List.length_append];omega
 have hpn:bR σ (fL en b knot)=nf (sg++t.t) t.a ts.tail:=by rw [he,htk];show oK en sg ts=_;unfold oK;rw [if_neg (by rw [hbad];decide)]
 refine aU<|ax m6<|am fun sh=>ai rfl<|aD iP rfl rfl (iO p en ts g b hne _ hP) rfl ?_
 rintro _ oQ ⟨⟨rfl,hP⟩,bE⟩;have:=bE.size;have ab:=ak.kp ab bE (by omega);have hb:=hb.trans bE;refine bT (z:=fx) (by kernel_rfl) rfl ?_;rintro p8 Um Qx fh kM;have:=kM.size;have hP:=hP.below kM;have ab:=ab.below kM;replace kM:=Below.kp (p:=p) kM;have hb:=hb.trans kM;have:=fh.lt;rw [←htk];refine ba (by kernel_rfl) rfl rfl fh rfl rfl ?_;rintro kW fh cx;have:=cx.size;have hb:=bp hb cx (by omega);have hP:=RO.over hP cx (by omega);have ab:=ab.over cx (by omega);refine al sh<|am fun xG=>ai rfl<|ae (aP (l5 _) rfl) rfl<|aG (aS di rfl (by exact fh.at (j:=1) rfl)) rfl<|ae (eu rfl rfl (by omega)) rfl<|aD FT rfl rfl (NS (sg++t.t) (by rw [List.length_append];omega) _) rfl ?_
 rintro _ u6 ⟨⟨u,m,ok,rfl,hr⟩,eN⟩;have:=eN.size;have hP:=RO.below hP eN;have ab:=ak.below ab eN;have fh:=ak.below fh eN;replace eN:=Below.kp (p:=p) eN;have hb:=hb.trans eN;refine ai rfl<|ae (cu rfl rfl) rfl<|ae (cu rfl rfl) rfl<|ae (cu rfl rfl) rfl<|bT (z:=mO) (by kernel_rfl) rfl ?_
 rintro EX aiw ahY rb x6;have:=x6.size;have hP:=hP.below x6;have ab:=ab.below x6;have fh:=fh.below x6;replace x6:=Below.kp (p:=p) x6;have hb:=hb.trans x6;have:=rb.lt;refine ba (by kernel_rfl) rfl rfl rb rfl rfl ?_;rintro mV rb cS;have:=cS.size;have hb:=bp hb cS (by omega);have hP:=RO.over hP cS (by omega);have ab:=ab.over cS (by omega);have fh:=fh.over cS (by omega);refine an rfl<|an rfl<|al xG<|av fun _ oA=>av fun _ B0=>?_
 obtain ⟨hlit,hno⟩:=Fv hr;refine cR (X:=Bool) (fun q=> [(0,bH p),(2,.pointer (some ⟨au,0,none⟩)),(6,.pointer (some ⟨p8,0,none⟩)),(7,.pointer (some ⟨EX,0,none⟩)),(72,.bool q)]) (fun q wr=>q=decide (¬(ok=true∧m=(sg++t.t).length))∧Kp p w wr∧RO wr p en g b (.ok () ts.tail)∧(∃y_:EC,ak wr au 28 y_.cells)∧ak wr p8 74 [.int .i64 (t.k:Int),str t.t,.int .i64 (t.a:Int)]∧ak wr EX 25 u.cells) (fun _ PR=>?_) ?_
 ·
  refine aQ<|ai rfl<|ae (jd rfl) rfl<|ai rfl<|dy rfl rfl rfl (fun nE=>?_) (fun nE=>?_)
  ·
   refine az rfl rfl nE rfl rfl<|az rfl rfl nE rfl rfl<|az rfl rfl nE rfl rfl<|az rfl rfl nE rfl rfl<|az rfl rfl nE rfl rfl<|az rfl rfl nE rfl rfl<|ae (bo rfl nE rfl) rfl<|ay<|a7 PR (decide (¬(ok=true∧m=(sg++t.t).length))) (by repeat first|exact aC|refine aA rfl (by first|rfl|exact a8 (by rw [Bool.eq_iff_iff];simp<;>simp_all<;>omega)) ?_) ?_
   exact ⟨rfl,hb,hP,⟨_,ab⟩,fh,rb⟩
  refine ai rfl<|ap rfl rfl nE<|ai rfl<|ap rfl rfl nE<|ae (aP (l5 _) rfl) rfl<|ap rfl rfl nE<|aG (aS di rfl (by exact fh.at (j:=1) rfl)) rfl<|ap rfl rfl nE<|ae (eu rfl rfl (by omega)) rfl<|ap rfl rfl nE<|ae (ez bI (by omega) rfl) rfl<|ap rfl rfl nE<|ae (fG rfl rfl) rfl<|ae (bj rfl nE rfl) rfl<|ay<|a7 PR (decide (¬(ok=true∧m=(sg++t.t).length))) (by repeat first|exact aC|refine aA rfl (by first|rfl|exact a8 (by rw [Bool.eq_iff_iff];simp<;>simp_all<;>omega)) ?_) ?_
  exact ⟨rfl,hb,hP,⟨_,ab⟩,fh,rb⟩
 rintro q wr Jw;replace Jw:q=decide (¬(ok=true∧m=(sg++t.t).length))∧Kp p w wr∧RO wr p en g b (.ok () ts.tail)∧(∃y_:EC,ak wr au 28 y_.cells)∧ak wr p8 74 [.int .i64 (t.k:Int),str t.t,.int .i64 (t.a:Int)]∧ak wr EX 25 u.cells:=Jw;obtain ⟨hq,hb,hP,⟨_,ab⟩,fh,rb⟩:=Jw;show Wq _ _ _ _ [(0,bH p),(2,.pointer (some ⟨au,0,none⟩)),(6,.pointer (some ⟨p8,0,none⟩)),(7,.pointer (some ⟨EX,0,none⟩)),(72,.bool q)] _;have:=hb.size;have:=ab.lt;have:=fh.lt;have:=rb.lt;refine ax B0<|aO rfl (fun qJ=>?_) (fun qJ=>?_)
 ·
  have AH:=qJ;have hq0:=of_decide_eq_true (hq.symm.trans AH);have hf:bR σ (fL en b knot)=dZ (.mk 1 [] u []) (.err (t.a:Int) 2):=by rw [hpn];unfold nf;rw [hlit,if_neg hq0];rfl
  refine aQ<|ai rfl<|ae (aP (p5 _) rfl) rfl<|aG (aS b0 rfl (by exact fh.at (j:=2) rfl)) rfl<|aD sw rfl rfl (sv p en g b t.a 2 (by decide) _ _ hP) rfl ?_
  rintro _ sC ⟨hP,fk⟩;have:=fk.size;have ab:=ak.kp ab fk (by omega);have rb:=ak.kp rb fk (by omega);have hb:=hb.trans fk;refine al oA<|am fun B8=>aG (cr ek (by kernel_rfl) rfl (by exact fun j u hu=>rb.at hu)) rfl ?_
  refine ae (cC (z:=gd) (pl:=gf) (cs:= [_,_,_,_,_,_,_]) b5 (by kernel_rfl) (by kernel_rfl) rfl rfl rfl) rfl<|ba (by kernel_rfl) rfl rfl ab rfl rfl ?_
  rintro mW ab df;have LL:=df.size;have hb:=bp hb df (by omega);have hP:=RO.over hP df (by omega);refine al B8<|aJ<|bQ (rs:= [.cell 2 28]) (vs:= [_]) rfl (.cell rfl (bP b5 (by kernel_rfl) (fun j u hu=>ab.at hu)) .nil) ?_
  exact ⟨_,rfl,⟨_,_,⟨⟨1,[],u,none,0,0⟩,fun _=>False,rfl,rQ _ _ _ _ _,fun k h=>h.elim⟩,hf,hP⟩,hb⟩
 have AH:=qJ;have hq0:=Classical.not_not.1 (of_decide_eq_false (hq.symm.trans AH));have hf:bR σ (fL en b knot)=dZ (.mk 1 [] u []) (.ok () ts.tail):=by rw [hpn];unfold nf;rw [hlit,if_pos hq0];rfl
 refine aU<|ax oA<|am fun xC=>aG (cr ek (by kernel_rfl) rfl (by exact fun j u hu=>rb.at hu)) rfl ?_
 refine ae (cC (z:=gd) (pl:=gf) (cs:= [_,_,_,_,_,_,_]) b5 (by kernel_rfl) (by kernel_rfl) rfl rfl rfl) rfl<|ba (by kernel_rfl) rfl rfl ab rfl rfl ?_
 rintro mW ab df;have LL:=df.size;have hb:=bp hb df (by omega);have hP:=RO.over hP df (by omega);refine al xC<|aJ<|bQ (rs:= [.cell 2 28]) (vs:= [_]) rfl (.cell rfl (bP b5 (by kernel_rfl) (fun j u hu=>ab.at hu)) .nil) ?_
 exact ⟨_,rfl,⟨_,_,⟨⟨1,[],u,none,0,0⟩,fun _=>False,rfl,rQ _ _ _ _ _,fun k h=>h.elim⟩,hf,hP⟩,hb⟩
end Go.Proofs.YtjdjliiolchciaaGreatDoor
