import Derived.Test.YtjdjliiolchciaaGreatDoorZP5
import Derived.Test.YtjdjliiolchciaaGreatDoorZK
namespace Go.Proofs.YtjdjliiolchciaaGreatDoor
open Go.RowKit Go.Bw Go.Bw.Fl
set_option linter.unusedVariables false
set_option linter.unusedSimpArgs false
mutual
def gR:b6→Prop
 | .mk _ _ v kids=>v.Ok∧Mo kids
def Mo:List b6→Prop
 | []=>True
 |x :: r=>gR x∧Mo r
end
mutual
def oc:bS→Prop
 | .mk _ _ _ l w _ _ kids=>gR l∧gR w∧su kids
def su:List bS→Prop
 | []=>True
 |x :: r=>oc x∧su r
end
theorem FA:ch.Ok:=⟨by decide,by decide,by decide⟩
theorem Mm (k:Int) (nm:ao):gR (.mk k nm ch []):=⟨FA,trivial⟩
theorem Ry {k:Int} {nm:ao} {x:b6} (h:gR x):gR (.mk k nm ch [x]):=⟨FA,h,trivial⟩
theorem Mn {k:Int} {nm:ao} {x y:b6} (h:gR x) (h2:gR y):gR (kT k nm x y):=⟨FA,h,h2,trivial⟩
theorem RB {x:bS} (h:oc x):∀{l:List bS},su l→su (l++ [x])
 | [],_=>⟨h,trivial⟩
 |y :: r,h2=>⟨h2.1,RB h h2.2⟩
theorem Rz:∀{l:List b6} {i:Nat} (hi:i<l.length),Mo l→gR l[i]
 |y :: r,0,hi,h=>h.1
 |y :: r,i+1,hi,h=>Rz (l:=r) (i:=i) (by simpa using hi) h.2
theorem RA:∀{l:List bS} {i:Nat} (hi:i<l.length),su l→oc l[i]
 |y :: r,0,hi,h=>h.1
 |y :: r,i+1,hi,h=>RA (l:=r) (i:=i) (by simpa using hi) h.2
def pU {α:Type} (P:α→Prop) (F:cn α):Prop:=∀x r,F= .ok x r→P x
theorem fU {α:Type} {P:α→Prop} {a e:Int}:pU P (.err a e:cn α):=fun x r h=>by cases h
theorem j8 {α:Type} {P:α→Prop} {x:α} {r:List Tok} (h:P x):pU P (.ok x r:cn α):=fun y r2 h2=>by injection h2 with h3;subst h3;exact h
def m0 (F:Pe):Prop:=∀ts,pU gR (F ts)
theorem Rg {en:Nat} {F:Pe} {M:ao→b6→b6→b6} {signs:List (ao)} (hF:m0 F) (hM:∀s a b,gR a→gR b→gR (M s a b)):∀(n:Nat) (x:b6) (ts:List Tok),gR x→pU gR (jJ en F M signs n x ts)
 |0,x,ts,h=>by simp only [jJ];exact j8 h
 |n+1,x,ts,h=>by
  simp only [jJ]
  split
  · cases hs:F ts.tail with
    |err a e=>exact fU
    |ok z r2=>exact Rg hF hM n _ _ (hM _ _ _ h (hF _ _ _ hs))
  · exact j8 h
theorem zt {en:Nat} {F:Pe} {M:ao→b6→b6→b6} {signs:List (ao)} (hF:m0 F) (hM:∀s a b,gR a→gR b→gR (M s a b)):m0 (jK en F M signs):=fun ts=>by
 simp only [jK]
 cases hs:F ts with
 |err a e=>exact fU
 |ok z r2=>exact Rg hF hM _ _ _ (hF _ _ _ hs)
theorem Uw (k:Int) (nm:ao):∀(n:Nat) (x:b6),gR x→gR (ku k nm n x)
 |0,x,h=>h
 |n+1,x,h=>Uw k nm n _ (Ry h)
theorem Tm {en:Nat} {F:Pe} {sign:ao} {k:Int} {nm:ao} (hF:m0 F):m0 (i8 en sign F k nm):=fun ts=>by
 simp only [i8]
 cases hs:F (ik en sign ts).2 with
 |err a e=>exact fU
 |ok z r2=>exact j8 (Uw _ _ _ _ (hF _ _ _ hs))
theorem Ou {en b:Nat} {one:Nat→Pe} (h1:∀b,m0 (one b)):m0 (lS en b one):=fun ts=>by
 simp only [lS]
 cases ht:eO en [40] ts with
 |err a e=>exact fU
 |ok t r1=>
  dsimp only
  split
  · exact fU
  · cases ho:one (b+1) r1 with
    |err a e=>exact fU
    |ok y r2=>
     dsimp only
     cases h2:eO en [41] r2 with
     |err a e=>exact fU
     |ok t3 r3=>exact j8 (h1 _ _ _ _ ho)
theorem aco {en b:Nat} {knot:Nat→Pe} (h1:∀b,m0 (knot b)):m0 (ir en b knot):=fun ts=>by
 simp only [ir]
 split
 · exact Ou h1 ts
 · split
   · exact j8 (Mm _ _)
   · cases hk:mQ en 1 ts with
     |err a e=>exact fU
     |ok t r1=>exact j8 (Mm _ _)
theorem QQ (en:Nat):∀n b,m0 (lT en n b)
 |0,b=>fun ts=>fU
 |n+1,b=>zt (zt (Tm (aco (QQ en n))) fun _ a b h h2=>Mn h h2) fun _ a b h h2=>Mn h h2
theorem Q4 {s:ao} {a:Int} {r:List Tok}:pU gR (nf s a r):=by
 unfold nf uT
 cases hr:dI pf de s with
 |none=>exact fU
 |some q=>
  obtain ⟨v,n⟩:=q;have:=R7 hr;dsimp only;by_cases hn:n=s.length
  · rw [if_pos hn];exact j8 ⟨this,trivial⟩
  · rw [if_neg hn];exact fU
theorem Rx {en:Nat} {s:ao} {ts:List Tok}:pU gR (oe en s ts):=by
 unfold oe
 split
 · exact fU
 · exact Q4
theorem WS {en b:Nat} {knot:Nat→Pe} (h1:∀b,m0 (knot b)):m0 (fL en b knot):=fun ts=>by
 unfold fL
 split
 · exact j8 (Mm _ _)
 · split
   · exact Ou h1 ts
   · split
     · exact Q4
     · split
       · exact Rx
       · exact Rx
theorem Da (s:ao) (a b:b6) (h:gR a) (h2:gR b):gR (hZ s a b):=Mn h h2
theorem aeW {en b:Nat} {knot:Nat→Pe} (h1:∀b,m0 (knot b)):m0 (kq en b knot):=fun ts=>by
 have hS:m0 (lU en b knot):=zt (zt (WS h1) Da) Da;simp only [kq]
 cases hs:lU en b knot ts with
 |err a e=>exact fU
 |ok y r1=>
  have h2:=hS _ _ _ hs;dsimp only
  split
  · cases hs2:lU en b knot r1.tail with
    |err a e=>exact fU
    |ok z r2=>exact j8 (Da _ _ _ h2 (hS _ _ _ hs2))
  · split
    · cases ht2:eO en gi r1.tail with
      |err a e=>exact fU
      |ok t r2=>exact j8 (Ry h2)
    · exact j8 h2
theorem Pj (en:Nat):∀n b,m0 (pE en n b)
 |0,b=>fun ts=>fU
 |n+1,b=>zt (zt (Tm (aeW (Pj en n))) Da) Da
theorem qk:gR eC:=⟨FA,trivial⟩
theorem Pr {en n:Nat} {k:Int} {var:ao} {lab:b6} {ts:List Tok} (hl:gR lab):pU oc (kS en n k var lab ts):=by
 unfold kS
 split
 · cases he:pE en n 0 ts.tail with
   |err a e=>exact fU
   |ok y r2=>exact j8 ⟨hl,Pj en n 0 _ _ _ he,trivial⟩
 · exact j8 ⟨hl,qk,trivial⟩
theorem Pp {en n:Nat} {k:Int} {var:ao} {ts:List Tok}:pU oc (j1 en n k var ts):=by
 unfold j1
 split
 · cases he:lT en n 0 ts.tail with
   |err a e=>exact fU
   |ok y r2=>exact Pr (QQ en n 0 _ _ _ he)
 · exact Pr qk
theorem Pv {en n:Nat} {k:Int} {ts:List Tok}:pU oc (gh en n k ts):=by
 unfold gh
 split
 · exact Pp
 · exact Pp
def ub (F:List Tok→cn bS):Prop:=∀ts,pU oc (F ts)
theorem aes (d:Int) {x:bS} (h:oc x):oc (x.setDir d):=by obtain ⟨k,var,dir,l,w,mn,mx,kids⟩:=x;exact h
theorem adD {en m g:Nat} {knot:Nat→List Tok→cn bS} (h1:∀g,ub (knot g)):ub (gS en m g knot):=fun ts=>by
 unfold gS
 split
 · exact fU
 · split
   · cases hf:gh en m 1 ts.tail with
     |err a e=>exact fU
     |ok y r2=>
      dsimp only
      cases h2:eO en [41] r2 with
      |err a e=>exact fU
      |ok t3 r3=>exact j8 (Pv _ _ hf)
   · split
     · split
       · exact fU
       · cases hf:knot (g+1) ts.tail with
         |err a e=>exact fU
         |ok y r2=>
          dsimp only
          cases h2:eO en [93] r2 with
          |err a e=>exact fU
          |ok t3 r3=>exact j8 (h1 _ _ _ _ hf)
     · split
       · exact j8 ⟨qk,qk,trivial⟩
       · cases hf:gh en m 2 ts.tail with
         |err a e=>exact fU
         |ok y r2=>
          dsimp only
          split
          · exact fU
          · split
            · exact j8 (aes _ (Pv _ _ hf))
            · exact fU
theorem ace {en m g:Nat} {knot:Nat→List Tok→cn bS} (h1:∀g,ub (knot g)):ub (fz en m g knot):=fun ts=>by
 unfold fz
 cases hp:gS en m g knot ts with
 |err a e=>exact fU
 |ok y r1=>
  have h2:=adD h1 _ _ _ hp;dsimp only
  cases ht:iN en r1 with
  |err a e=>exact fU
  |ok o r2=>
   cases o with
   |none=>exact j8 h2
   |some q=>obtain ⟨mn,mx⟩:=q;exact j8 ⟨qk,qk,h2,trivial⟩
theorem Sr {go:List Tok→Option (List Tok)} {one:List Tok→cn bS} (h1:ub one):∀(n:Nat) (l:List bS) (ts:List Tok),su l→pU su (gz go one n l ts)
 |0,l,ts,h=>by simp only [gz];exact j8 h
 |n+1,l,ts,h=>by
  simp only [gz]
  cases hg:go ts with
  |none=>exact j8 h
  |some ts'=>
   dsimp only
   cases ho:one ts' with
   |err a e=>exact fU
   |ok y r1=>exact Sr h1 n _ _ (RB (h1 _ _ _ ho) h)
theorem aeG (k:Int) {l:List bS} (h:su l):oc (oi k l):=by
 cases l with
 |nil=>exact ⟨qk,qk,trivial⟩
 |cons a r=>
  cases r with
  |nil=>exact h.1
  |cons b r=>exact ⟨qk,qk,h⟩
theorem Sv {k:Int} {go:List Tok→Option (List Tok)} {one:List Tok→cn bS} (h1:ub one):ub (tN k go one):=fun ts=>by
 unfold tN
 cases ho:one ts with
 |err a e=>exact fU
 |ok y r1=>
  dsimp only
  cases hr:gz go one r1.length [y] r1 with
  |err a e=>exact fU
  |ok l2 r2=>exact j8 (aeG k (Sr h1 _ [y] _ (show su [y] from ⟨h1 _ _ _ ho,trivial⟩) _ _ hr))
theorem RW (en m:Nat):∀n g,ub (pF en m n g)
 |0,g=>fun ts=>fU
 |n+1,g=>Sv (Sv (ace (RW en m n)))
theorem adK (en:Nat) (ts:List Tok):pU (fun q=>oc q.pat) (me en ts):=by
 unfold me
 cases hs:gw en (j2 en ts).2 with
 |err a e=>exact fU
 |ok sk r1=>
  dsimp only
  cases hp:pF en (ts.length+1) (ts.length+1) 0 r1 with
  |err a e=>exact fU
  |ok x r2=>
   dsimp only
   split
   · exact fU
   · exact j8 (RW en _ _ _ _ _ _ hp)
theorem Fz:oc oJ:=⟨qk,qk,trivial⟩
theorem adr (s:ao):oc (kr s).1.pat:=by
 unfold kr
 split
 · exact Fz
 · split
   · exact Fz
   · rename_i l _
     unfold pH
     cases hq:me s.length l with
     |err a e=>exact Fz
     |ok q r=>
      dsimp only
      split
      · exact Fz
      · exact adK _ _ _ _ hq
theorem Pm (p:Addr) (w:World):(Instr.fieldAt 28 (.pointer (some p)) 2).run Tryz.prog w= .ok (.pointer (some (p.add 2))) w:=eT (i:=2) (sz:=3) b5 rfl (by kernel_rfl) p w
theorem I2 (p:Addr) (w:World):(Instr.fieldAt 31 (.pointer (some p)) 0).run Tryz.prog w= .ok (.pointer (some (p.add 0))) w:=eT (i:=0) (sz:=0) dc rfl (by kernel_rfl) p w
theorem wP (p:Addr) (w:World):(Instr.fieldAt 31 (.pointer (some p)) 5).run Tryz.prog w= .ok (.pointer (some (p.add 17))) w:=eT (i:=5) (sz:=0) dc rfl (by kernel_rfl) p w
theorem qO (p:Addr) (w:World):(Instr.fieldAt 31 (.pointer (some p)) 6).run Tryz.prog w= .ok (.pointer (some (p.add 18))) w:=eT (i:=6) (sz:=0) dc rfl (by kernel_rfl) p w
theorem TG:bB Tryz.prog 18:=⟨_,Tryz.func18,by kernel_rfl,rfl⟩
theorem Nb:bB Tryz.prog 38:=⟨_,Tryz.func38,by kernel_rfl,rfl⟩
theorem Nd:bB Tryz.prog 5:=⟨_,Tryz.func5,by kernel_rfl,rfl⟩
theorem afP:bB Tryz.prog 61:=⟨_,Tryz.func61,by kernel_rfl,rfl⟩
theorem Gc {s:ao} {q:sM} {a e:Int} (h:kr s=(q,a,e)) (hs:s.length≤70368744177664) (w:World) (hX:Lx w):bx Tryz.prog 5 [str s] w fun v w'=>(∃(z:PC) (S:Nat→Prop),v= .tuple #[.agg (ic q.mode q.sel q.kk z).toArray,.int .i64 a,.int .i64 e]∧bi w' S q.pat z.cells∧∀k,S k→w.heap.size≤k∧k<w'.heap.size)∧Below w.heap.size w w':=
 (Vh s hs w hX).mono fun v w' ⟨⟨q',a',e',z,S,h1,h2,h3,h4⟩,h5⟩=>⟨by
  rw [h] at h1;cases h1
  exact ⟨z,S,h2,h3,h4⟩,h5⟩
theorem MR {a b:ao} (h:str a=str b):a=b:=by
 unfold str at h;simpa using h
theorem EC.val (x:EC) {j:Nat} {u:Value} (h:x.v.cells[j]? =some u):x.cells[2+j]? =some u:=by
 show ([Value.int .i64 x.k,str x.nm]++(x.v.cells++ [.slice x.A x.n x.c]))[2+j]? =_;have hj:j<x.v.cells.length:=(List.getElem?_eq_some_iff.1 h).1;rw [List.getElem?_append_right (by simp),List.getElem?_append_left (by simpa using hj),←h]
 congr 1;simp
theorem aY.see {w:World} {S:Nat→Prop} {k:Int} {nm:ao} {v:c7} {kids:List b6} {z:EC} (h:aY w S (.mk k nm v kids) z.cells):z.k=k∧z.nm=nm∧z.v=v∧∃A c,z.cells[6]? =some (.slice A kids.length c)∧kids.length≤65537∧(∀q,A=some q→S q.block)∧∀(i:Nat) (hi:i<kids.length),∃(p:Addr) (z':EC),A=some p∧aY w S kids[i] z'.cells∧∀(j:Nat) (u:Value),z'.cells[j]? =some u→w.cell? ((p.add (i * 7)).add j)=some u:=by
 unfold aY at h;obtain ⟨A,c,kcs,h1,hR,hS,hL,hk65⟩:=h;obtain ⟨zk,znm,zv,zA,zn,zc⟩:=z;obtain ⟨vk,vn,vf,vs⟩:=v;obtain ⟨wk,wn,wf,ws⟩:=zv;simp only [EC.cells,List.cons.injEq,Value.int.injEq,Value.float.injEq,true_and,and_true] at h1;obtain ⟨e1,e2,e3,e4,e5,e6,e7⟩:=h1;have e2:=MR e2;have e6:=MR e6;subst e1 e2 e3 e4 e5 e6;exact ⟨rfl,rfl,rfl,A,c,by rw [←e7];rfl,hk65,hS,fun i hi=>Gg hR hL hi⟩
theorem bi.see {w:World} {S:Nat→Prop} {k:Int} {var:ao} {dir:Int} {l wh:b6} {mn mx:Int} {kids:List bS} {z:PC} (h:bi w S (.mk k var dir l wh mn mx kids) z.cells):z.k=k∧z.var=var∧z.dir=dir∧z.mn=mn∧z.mx=mx∧aY w S l z.l.cells∧aY w S wh z.wh.cells∧∃A c,z.cells[19]? =some (.slice A kids.length c)∧kids.length≤65537∧(∀q,A=some q→S q.block)∧∀(i:Nat) (hi:i<kids.length),∃(p:Addr) (z':PC),A=some p∧bi w S kids[i] z'.cells∧∀(j:Nat) (u:Value),z'.cells[j]? =some u→w.cell? ((p.add (i * 20)).add j)=some u:=by
 unfold bi at h;obtain ⟨lc,wc,A,c,kcs,h1,hEl,hEw,hR,hS,hL,hk65⟩:=h;obtain ⟨zk,zvar,zdir,zl,zwh,zmn,zmx,zA,zn,zc⟩:=z;have e0:str zvar=str var:=by have:=congrArg (·[1]?) h1;simpa [PC.cells] using this
 have e1:zk=k:=by have:=congrArg (·[0]?) h1;simpa [PC.cells] using this
 have e2:zdir=dir:=by have:=congrArg (·[2]?) h1;simpa [PC.cells] using this
 have el:zl.cells=lc.cells:=by have:=congrArg (fun l=>(l.drop 3).take 7) h1;simpa [PC.cells,EC.cells] using this
 have ew:zwh.cells=wc.cells:=by have:=congrArg (fun l=>(l.drop 10).take 7) h1;simpa [PC.cells,EC.cells] using this
 have e3:zmn=mn:=by have:=congrArg (·[17]?) h1;simpa [PC.cells,EC.cells] using this
 have e4:zmx=mx:=by have:=congrArg (·[18]?) h1;simpa [PC.cells,EC.cells] using this
 have e5:(PC.cells ⟨zk,zvar,zdir,zl,zwh,zmn,zmx,zA,zn,zc⟩)[19]? =some (.slice A kids.length c):=by rw [h1];rfl
 exact ⟨e1,MR e0,e2,e3,e4,by rw [el];exact hEl,by rw [ew];exact hEw,A,c,e5,hk65,hS,fun i hi=>An hR hL hi⟩
theorem NW (n:Nat):∀(e:b6) (x y:EC) (S T:Nat→Prop) (w:World),dB e≤n→gR e→aY w S e x.cells→aY w T e y.cells→bx Tryz.prog 38 [x.enc,y.enc] w fun v w'=>v= .bool true∧Below w.heap.size w w':=by
 induction n using Nat.strongRecOn with
 |ind n ih=>
 intro e x y S T w hn hok hE hF;obtain ⟨k,nm,v,kids⟩:=e;obtain ⟨h1,h2,h3,A,c,hcA,hk65,_,hkA⟩:=aY.see hE;obtain ⟨g1,g2,g3,B,d,hcB,_,_,hkB⟩:=aY.see hF;have hdn:ly kids+1≤n:=hn;have hvo:v.Ok:=hok.1;have hb:=Below.refl w.heap.size w;refine enter Tryz.func38 rfl rfl rfl<|am fun aR=>gp rfl rfl ?_
 rintro au dJ dH ab aM;have:=aM.size;have hb:=aZ hb aM;have:=ab.lt;refine gp rfl rfl ?_;rintro cV mU mK aq cT;have:=cT.size;have hb:=aZ hb cT;have ab:=ak.below ab cT;have:=aq.lt;refine an rfl<|al aR<|am fun dC=>ae (aP (Pm _) rfl) rfl<|aG (cr ek (by kernel_rfl) rfl (by exact fun j u hu=>by rw [jR];exact ab.at (x.val hu))) rfl<|ae (aP (Pm _) rfl) rfl<|aG (cr ek (by kernel_rfl) rfl (by exact fun j u hu=>by rw [jR];exact aq.at (y.val hu))) rfl<|aD afP rfl rfl (Vu x.v y.v (by rw [h3];exact hvo) (by rw [g3];exact hvo) _) rfl ?_
 rintro _ cB ⟨rfl,aw⟩;have:=aw.size;have hb:=aZ hb aw;have ab:=ak.below ab aw;have aq:=ak.below aq aw;refine an rfl<|al dC<|av fun _ dU=>am fun eh=>ae (aP (I1 _) rfl) rfl<|aG (aS b0 rfl (by exact ab.at (j:=0) rfl)) rfl<|ae (aP (I1 _) rfl) rfl<|aG (aS b0 rfl (by exact aq.at (j:=0) rfl)) rfl<|ae (fG rfl rfl) rfl<|ai rfl<|dy rfl rfl rfl (fun lE=>?_) (fun lE=>?_)
 ·
  exact absurd lE (by rw [h1,g1];simp)
 refine ae (aP (EL _) rfl) rfl<|ap rfl rfl lE<|aG (aS di rfl (by exact ab.at (j:=1) rfl)) rfl<|ap rfl rfl lE<|ae (aP (EL _) rfl) rfl<|ap rfl rfl lE<|aG (aS di rfl (by exact aq.at (j:=1) rfl)) rfl<|ap rfl rfl lE<|ae (yA rfl rfl) rfl<|ae (bj rfl lE rfl) rfl<|ai rfl<|dy rfl rfl rfl (fun uE=>?_) (fun uE=>?_)
 ·
  exact absurd uE (by rw [h2,g2];simp)
 refine ai rfl<|ap rfl rfl uE<|ae (jd rfl) rfl<|ae (bj rfl uE rfl) rfl<|ai rfl<|dy rfl rfl rfl (fun tb=>?_) (fun tb=>?_)
 ·
  exact absurd tb (by rw [h3,g3,ael];simp)
 refine ae (aP (uA _) rfl) rfl<|ap rfl rfl tb<|aG (aS uY rfl (by exact ab.at (j:=6) hcA)) rfl<|ap rfl rfl tb<|ae (iC j5 (by omega) rfl) rfl<|ap rfl rfl tb<|ae (aP (uA _) rfl) rfl<|ap rfl rfl tb<|aG (aS uY rfl (by exact aq.at (j:=6) hcB)) rfl<|ap rfl rfl tb<|ae (iC j5 (by omega) rfl) rfl<|ap rfl rfl tb<|ae (fG rfl rfl) rfl<|ae (bj rfl tb rfl) rfl<|al eh<|aO rfl (fun Ow=>?_) (fun Ow=>?_)
 ·
  exact absurd Ow (by simp)
 refine aU<|ax dU<|av fun _ iK=>am fun lf=>an rfl<|al lf<|b4<|d9 (X:=Nat) (fun i=> [(2,.pointer (some ⟨au,0,none⟩)),(3,.pointer (some ⟨cV,0,none⟩)),(6,.int .i64 (i:Int))]) (fun i wr=>i≤kids.length∧Below w.heap.size w wr∧ak wr au 28 x.cells∧ak wr cV 28 y.cells) (fun i=>kids.length - i) (0) ?_ ?_ ?_
 · exact by repeat first|exact aC|refine aA rfl (by first|rfl|exact aH (by omega)) ?_
 · exact ⟨by omega,hb,ab,aq⟩
 rintro i wr rg _ KW;replace rg:i≤kids.length∧Below w.heap.size w wr∧ak wr au 28 x.cells∧ak wr cV 28 y.cells:=rg;obtain ⟨hi,hb,ab,aq⟩:=rg;show Wc _ _ _ _ _ [(2,.pointer (some ⟨au,0,none⟩)),(3,.pointer (some ⟨cV,0,none⟩)),(6,.int .i64 (i:Int))] _;have:=hb.size;have:=ab.lt;have:=aq.lt;refine av fun _ gZ=>am fun kl=>ai rfl<|ae (aP (uA _) rfl) rfl<|aG (aS uY rfl (by exact ab.at (j:=6) hcA)) rfl<|ae (iC j5 (by omega) rfl) rfl<|ae (dL rfl rfl) rfl<|al kl<|aO rfl (fun Et=>?_) (fun Et=>?_)
 ·
  have ahz:=Et;simp only [DZ] at Et;have hil:i<kids.length:=by have:=Et;omega
  have hdk:=EB hil;have hok2:=Rz hil hok.2;obtain ⟨p,z1,rfl,hz1,hc1⟩:=hkA i hil;obtain ⟨q,z2,rfl,hz2,hc2⟩:=hkB i hil;refine aU<|ax gZ<|av fun _ kJ=>b4<|av fun _ pp=>jg (n:=12) (fun w'=>Below w.heap.size w w'∧ak w' au 28 x.cells∧ak w' cV 28 y.cells) #[aj,aj,aj,aj,aj,aj,aj,aj,aj,aj,aj,aj] (by kernel_rfl) rfl (by kernel_rfl)<|jf ?_
  rintro agH nZ;have:=nZ.size;have hb:=aZ hb nZ;have ab:=ak.below ab nZ;have aq:=ak.below aq nZ;refine bC (i:=0) #[ah,aj,aj,aj,aj,aj,aj,aj,aj,aj,aj,aj] rfl (by kernel_rfl) bF rfl (fun wq hq=>bU (aP (uA _) rfl)) ⟨hb,ab,aq⟩<|bC (i:=1) #[ah,ah,aj,aj,aj,aj,aj,aj,aj,aj,aj,aj] rfl (by kernel_rfl) bF rfl (fun wq hq=>aS uY rfl (by obtain ⟨hq,ab,aq⟩:=hq;exact ab.at (j:=6) hcA)) ⟨hb,ab,aq⟩<|bC (i:=2) #[ah,ah,ah,aj,aj,aj,aj,aj,aj,aj,aj,aj] rfl (by kernel_rfl) bF rfl (fun wq hq=>bU (dN rfl)) ⟨hb,ab,aq⟩<|bC (i:=3) #[ah,ah,ah,ah,aj,aj,aj,aj,aj,aj,aj,aj] rfl (by kernel_rfl) bF rfl (fun wq hq=>bU (f8 j5 FN rfl rfl (by omega) (by omega))) ⟨hb,ab,aq⟩<|bC (i:=4) #[ah,ah,ah,ah,ah,aj,aj,aj,aj,aj,aj,aj] rfl (by kernel_rfl) bF rfl (fun wq hq=>cr b5 (by kernel_rfl) rfl (by obtain ⟨hq,ab,aq⟩:=hq;exact fun j u hu=>by rw [Int.toNat_natCast];exact ou hq (hc1 j u hu))) ⟨hb,ab,aq⟩<|bC (i:=5) #[ah,ah,ah,ah,ah,ah,aj,aj,aj,aj,aj,aj] rfl (by kernel_rfl) bF rfl (fun wq hq=>bU (aP (uA _) rfl)) ⟨hb,ab,aq⟩<|bC (i:=6) #[ah,ah,ah,ah,ah,ah,ah,aj,aj,aj,aj,aj] rfl (by kernel_rfl) bF rfl (fun wq hq=>aS uY rfl (by obtain ⟨hq,ab,aq⟩:=hq;exact aq.at (j:=6) hcB)) ⟨hb,ab,aq⟩<|bC (i:=7) #[ah,ah,ah,ah,ah,ah,ah,ah,aj,aj,aj,aj] rfl (by kernel_rfl) bF rfl (fun wq hq=>bU (dN rfl)) ⟨hb,ab,aq⟩<|bC (i:=8) #[ah,ah,ah,ah,ah,ah,ah,ah,ah,aj,aj,aj] rfl (by kernel_rfl) bF rfl (fun wq hq=>bU (f8 j5 FN rfl rfl (by omega) (by omega))) ⟨hb,ab,aq⟩<|bC (i:=9) #[ah,ah,ah,ah,ah,ah,ah,ah,ah,ah,aj,aj] rfl (by kernel_rfl) bF rfl (fun wq hq=>cr b5 (by kernel_rfl) rfl (by obtain ⟨hq,ab,aq⟩:=hq;exact fun j u hu=>by rw [Int.toNat_natCast];exact ou hq (hc2 j u hu))) ⟨hb,ab,aq⟩<|cM (rs:= [10]) (by kernel_rfl) rfl<|cO #[ah,ah,ah,ah,ah,ah,ah,ah,ah,ah,ah,aj] rfl rfl (fun _ pu=>?_) ?_
  ·
   refine aD Nb rfl rfl (ih (n - 1) (by omega) kids[i] z1 z2 S T _ (by omega) hok2 (aY.below hz1 hb) (aY.below hz2 hb)) rfl ?_;rintro _ cU ⟨rfl,aL⟩;have:=aL.size;have hb:=aZ hb aL;have ab:=ak.below ab aL;have aq:=ak.below aq aL;refine ay<|cN pu ⟨hb,ab,aq⟩<|bC (i:=11) #[ah,ah,ah,ah,ah,ah,ah,ah,ah,ah,ah,ah] rfl (by kernel_rfl) bF rfl (fun wq hq=>bU (it rfl)) ⟨hb,ab,aq⟩<|fB (by kernel_rfl)<|ax pp<|am fun ro=>ai rfl<|ae (jd rfl) rfl<|al ro<|aO rfl (fun OE=>?_) (fun OE=>?_)
   ·
    exact absurd OE (by simp)
   refine aU<|cD<|ax kJ<|aQ<|ai rfl<|ae (ct rfl rfl (by omega) (by omega)) rfl<|an rfl<|ay<|fun a_ bM=>KW _ _ (i+1) (by omega) (by repeat first|exact aC|refine aA rfl (by first|rfl|exact aH (by omega)) ?_) ?_ a_ bM
   exact ⟨by omega,hb,ab,aq⟩
  exact cP
 refine d2<|cj<|cj<|d3<|ax iK<|am fun oC=>an rfl<|al oC<|aJ<|bN rfl rfl ?_
 exact ⟨_,rfl,rfl,hb⟩
theorem VI (n:Nat):∀(e:bS) (x y:PC) (S T:Nat→Prop) (w:World),fa e≤n→oc e→bi w S e x.cells→bi w T e y.cells→bx Tryz.prog 18 [x.enc,y.enc] w fun v w'=>v= .bool true∧Below w.heap.size w w':=by
 induction n using Nat.strongRecOn with
 |ind n ih=>
 intro e x y S T w hn hok hE hF;obtain ⟨k,var,dir,l,wh,mn,mx,kids⟩:=e;obtain ⟨h1,h2,h3,h4,h5,hEl,hEw,A,c,hcA,hk65,_,hkA⟩:=bi.see hE;obtain ⟨g1,g2,g3,g4,g5,hFl,hFw,B,d,hcB,_,_,hkB⟩:=bi.see hF;have hdn:iG kids+1≤n:=hn;obtain ⟨hok1,hok2,hok3⟩:gR l∧gR wh∧su kids:=hok;have hb:=Below.refl w.heap.size w;refine enter Tryz.func18 rfl rfl rfl<|am fun aR=>gp rfl rfl ?_
 rintro au dJ dH ab aM;have:=aM.size;have hb:=aZ hb aM;have:=ab.lt;refine gp rfl rfl ?_;rintro cV mU mK aq cT;have:=cT.size;have hb:=aZ hb cT;have ab:=ak.below ab cT;have:=aq.lt;refine an rfl<|al aR<|am fun dC=>ae (aP (y5 _) rfl) rfl<|aG (cr b5 (by kernel_rfl) rfl (by exact fun j u hu=>by rw [jR];exact ab.at (x.lab hu))) rfl<|ae (aP (y5 _) rfl) rfl<|aG (cr b5 (by kernel_rfl) rfl (by exact fun j u hu=>by rw [jR];exact aq.at (y.lab hu))) rfl<|aD Nb rfl rfl (NW (dB l) l x.l y.l S T _ (Nat.le_refl _) hok1 (aY.below hEl hb) (aY.below hFl hb)) rfl ?_
 rintro _ cB ⟨rfl,aw⟩;have:=aw.size;have hb:=aZ hb aw;have ab:=ak.below ab aw;have aq:=ak.below aq aw;refine an rfl<|al dC<|am fun dU=>ae (aP (wO _) rfl) rfl<|aG (cr b5 (by kernel_rfl) rfl (by exact fun j u hu=>by rw [jR];exact ab.at (x.whr hu))) rfl<|ae (aP (wO _) rfl) rfl<|aG (cr b5 (by kernel_rfl) rfl (by exact fun j u hu=>by rw [jR];exact aq.at (y.whr hu))) rfl<|aD Nb rfl rfl (NW (dB wh) wh x.wh y.wh S T _ (Nat.le_refl _) hok2 (aY.below hEw hb) (aY.below hFw hb)) rfl ?_
 rintro _ cU ⟨rfl,aL⟩;have:=aL.size;have hb:=aZ hb aL;have ab:=ak.below ab aL;have aq:=ak.below aq aL;refine an rfl<|al dU<|av fun _ fC=>am fun eM=>ae (aP (I2 _) rfl) rfl<|aG (aS b0 rfl (by exact ab.at (j:=0) rfl)) rfl<|ae (aP (I2 _) rfl) rfl<|aG (aS b0 rfl (by exact aq.at (j:=0) rfl)) rfl<|ae (fG rfl rfl) rfl<|ai rfl<|dy rfl rfl rfl (fun qT=>?_) (fun qT=>?_)
 ·
  exact absurd qT (by rw [h1,g1];simp)
 refine ae (aP (EM _) rfl) rfl<|ap rfl rfl qT<|aG (aS di rfl (by exact ab.at (j:=1) rfl)) rfl<|ap rfl rfl qT<|ae (aP (EM _) rfl) rfl<|ap rfl rfl qT<|aG (aS di rfl (by exact aq.at (j:=1) rfl)) rfl<|ap rfl rfl qT<|ae (yA rfl rfl) rfl<|ae (bj rfl qT rfl) rfl<|ai rfl<|dy rfl rfl rfl (fun mq=>?_) (fun mq=>?_)
 ·
  exact absurd mq (by rw [h2,g2];simp)
 refine ae (aP (y4 _) rfl) rfl<|ap rfl rfl mq<|aG (aS b0 rfl (by exact ab.at (j:=2) rfl)) rfl<|ap rfl rfl mq<|ae (aP (y4 _) rfl) rfl<|ap rfl rfl mq<|aG (aS b0 rfl (by exact aq.at (j:=2) rfl)) rfl<|ap rfl rfl mq<|ae (fG rfl rfl) rfl<|ae (bj rfl mq rfl) rfl<|ai rfl<|dy rfl rfl rfl (fun nJ=>?_) (fun nJ=>?_)
 ·
  exact absurd nJ (by rw [h3,g3];simp)
 refine ae (aP (wP _) rfl) rfl<|ap rfl rfl nJ<|aG (aS b0 rfl (by exact ab.at (j:=17) rfl)) rfl<|ap rfl rfl nJ<|ae (aP (wP _) rfl) rfl<|ap rfl rfl nJ<|aG (aS b0 rfl (by exact aq.at (j:=17) rfl)) rfl<|ap rfl rfl nJ<|ae (fG rfl rfl) rfl<|ae (bj rfl nJ rfl) rfl<|ai rfl<|dy rfl rfl rfl (fun jE=>?_) (fun jE=>?_)
 ·
  exact absurd jE (by rw [h4,g4];simp)
 refine ae (aP (qO _) rfl) rfl<|ap rfl rfl jE<|aG (aS b0 rfl (by exact ab.at (j:=18) rfl)) rfl<|ap rfl rfl jE<|ae (aP (qO _) rfl) rfl<|ap rfl rfl jE<|aG (aS b0 rfl (by exact aq.at (j:=18) rfl)) rfl<|ap rfl rfl jE<|ae (fG rfl rfl) rfl<|ae (bj rfl jE rfl) rfl<|ai rfl<|dy rfl rfl rfl (fun ke=>?_) (fun ke=>?_)
 ·
  exact absurd ke (by rw [h5,g5];simp)
 refine ai rfl<|ap rfl rfl ke<|ae (jd rfl) rfl<|ae (bj rfl ke rfl) rfl<|ai rfl<|dy rfl rfl rfl (fun kf=>?_) (fun kf=>?_)
 ·
  exact absurd kf (by simp)
 refine ai rfl<|ap rfl rfl kf<|ae (jd rfl) rfl<|ae (bj rfl kf rfl) rfl<|ai rfl<|dy rfl rfl rfl (fun ow=>?_) (fun ow=>?_)
 ·
  exact absurd ow (by simp)
 refine ae (aP (m3 _) rfl) rfl<|ap rfl rfl ow<|aG (aS m9 rfl (by exact ab.at (j:=19) hcA)) rfl<|ap rfl rfl ow<|ae (iC fO (by omega) rfl) rfl<|ap rfl rfl ow<|ae (aP (m3 _) rfl) rfl<|ap rfl rfl ow<|aG (aS m9 rfl (by exact aq.at (j:=19) hcB)) rfl<|ap rfl rfl ow<|ae (iC fO (by omega) rfl) rfl<|ap rfl rfl ow<|ae (fG rfl rfl) rfl<|ae (bj rfl ow rfl) rfl<|al eM<|aO rfl (fun Ox=>?_) (fun Ox=>?_)
 ·
  exact absurd Ox (by simp)
 refine aU<|ax fC<|av fun _ mG=>am fun rp=>an rfl<|al rp<|b4<|d9 (X:=Nat) (fun i=> [(2,.pointer (some ⟨au,0,none⟩)),(3,.pointer (some ⟨cV,0,none⟩)),(7,.int .i64 (i:Int))]) (fun i wr=>i≤kids.length∧Below w.heap.size w wr∧ak wr au 31 x.cells∧ak wr cV 31 y.cells) (fun i=>kids.length - i) (0) ?_ ?_ ?_
 · exact by repeat first|exact aC|refine aA rfl (by first|rfl|exact aH (by omega)) ?_
 · exact ⟨by omega,hb,ab,aq⟩
 rintro i wr xy _ aaD;replace xy:i≤kids.length∧Below w.heap.size w wr∧ak wr au 31 x.cells∧ak wr cV 31 y.cells:=xy;obtain ⟨hi,hb,ab,aq⟩:=xy;show Wc _ _ _ _ _ [(2,.pointer (some ⟨au,0,none⟩)),(3,.pointer (some ⟨cV,0,none⟩)),(7,.int .i64 (i:Int))] _;have:=hb.size;have:=ab.lt;have:=aq.lt;refine av fun _ mH=>am fun qa=>ai rfl<|ae (aP (m3 _) rfl) rfl<|aG (aS m9 rfl (by exact ab.at (j:=19) hcA)) rfl<|ae (iC fO (by omega) rfl) rfl<|ae (dL rfl rfl) rfl<|al qa<|aO rfl (fun Eu=>?_) (fun Eu=>?_)
 ·
  have ahA:=Eu;simp only [DZ] at Eu;have hil:i<kids.length:=by have:=Eu;omega
  have hdk:=AN hil;have hokk:=RA hil hok3;obtain ⟨p,z1,rfl,hz1,hc1⟩:=hkA i hil;obtain ⟨q,z2,rfl,hz2,hc2⟩:=hkB i hil;refine aU<|ax mH<|av fun _ tA=>b4<|av fun _ px=>jg (n:=12) (fun w'=>Below w.heap.size w w'∧ak w' au 31 x.cells∧ak w' cV 31 y.cells) #[aj,aj,aj,aj,aj,aj,aj,aj,aj,aj,aj,aj] (by kernel_rfl) rfl (by kernel_rfl)<|jf ?_
  rintro aim Fk;have:=Fk.size;have hb:=aZ hb Fk;have ab:=ak.below ab Fk;have aq:=ak.below aq Fk;refine bC (i:=0) #[ah,aj,aj,aj,aj,aj,aj,aj,aj,aj,aj,aj] rfl (by kernel_rfl) bF rfl (fun wq hq=>bU (aP (m3 _) rfl)) ⟨hb,ab,aq⟩<|bC (i:=1) #[ah,ah,aj,aj,aj,aj,aj,aj,aj,aj,aj,aj] rfl (by kernel_rfl) bF rfl (fun wq hq=>aS m9 rfl (by obtain ⟨hq,ab,aq⟩:=hq;exact ab.at (j:=19) hcA)) ⟨hb,ab,aq⟩<|bC (i:=2) #[ah,ah,ah,aj,aj,aj,aj,aj,aj,aj,aj,aj] rfl (by kernel_rfl) bF rfl (fun wq hq=>bU (dN rfl)) ⟨hb,ab,aq⟩<|bC (i:=3) #[ah,ah,ah,ah,aj,aj,aj,aj,aj,aj,aj,aj] rfl (by kernel_rfl) bF rfl (fun wq hq=>bU (f8 fO rI rfl rfl (by omega) (by omega))) ⟨hb,ab,aq⟩<|bC (i:=4) #[ah,ah,ah,ah,ah,aj,aj,aj,aj,aj,aj,aj] rfl (by kernel_rfl) bF rfl (fun wq hq=>cr dc (by kernel_rfl) rfl (by obtain ⟨hq,ab,aq⟩:=hq;exact fun j u hu=>by rw [Int.toNat_natCast];exact ou hq (hc1 j u hu))) ⟨hb,ab,aq⟩<|bC (i:=5) #[ah,ah,ah,ah,ah,ah,aj,aj,aj,aj,aj,aj] rfl (by kernel_rfl) bF rfl (fun wq hq=>bU (aP (m3 _) rfl)) ⟨hb,ab,aq⟩<|bC (i:=6) #[ah,ah,ah,ah,ah,ah,ah,aj,aj,aj,aj,aj] rfl (by kernel_rfl) bF rfl (fun wq hq=>aS m9 rfl (by obtain ⟨hq,ab,aq⟩:=hq;exact aq.at (j:=19) hcB)) ⟨hb,ab,aq⟩<|bC (i:=7) #[ah,ah,ah,ah,ah,ah,ah,ah,aj,aj,aj,aj] rfl (by kernel_rfl) bF rfl (fun wq hq=>bU (dN rfl)) ⟨hb,ab,aq⟩<|bC (i:=8) #[ah,ah,ah,ah,ah,ah,ah,ah,ah,aj,aj,aj] rfl (by kernel_rfl) bF rfl (fun wq hq=>bU (f8 fO rI rfl rfl (by omega) (by omega))) ⟨hb,ab,aq⟩<|bC (i:=9) #[ah,ah,ah,ah,ah,ah,ah,ah,ah,ah,aj,aj] rfl (by kernel_rfl) bF rfl (fun wq hq=>cr dc (by kernel_rfl) rfl (by obtain ⟨hq,ab,aq⟩:=hq;exact fun j u hu=>by rw [Int.toNat_natCast];exact ou hq (hc2 j u hu))) ⟨hb,ab,aq⟩<|cM (rs:= [10]) (by kernel_rfl) rfl<|cO #[ah,ah,ah,ah,ah,ah,ah,ah,ah,ah,ah,aj] rfl rfl (fun _ B0=>?_) ?_
  ·
   refine aD TG rfl rfl (ih (n - 1) (by omega) kids[i] z1 z2 S T _ (by omega) hokk (bi.below hz1 hb) (bi.below hz2 hb)) rfl ?_;rintro _ eP ⟨rfl,a6⟩;have:=a6.size;have hb:=aZ hb a6;have ab:=ak.below ab a6;have aq:=ak.below aq a6;refine ay<|cN B0 ⟨hb,ab,aq⟩<|bC (i:=11) #[ah,ah,ah,ah,ah,ah,ah,ah,ah,ah,ah,ah] rfl (by kernel_rfl) bF rfl (fun wq hq=>bU (it rfl)) ⟨hb,ab,aq⟩<|fB (by kernel_rfl)<|ax px<|am fun B1=>ai rfl<|ae (jd rfl) rfl<|al B1<|aO rfl (fun OC=>?_) (fun OC=>?_)
   ·
    exact absurd OC (by simp)
   refine aU<|cD<|ax tA<|aQ<|ai rfl<|ae (ct rfl rfl (by omega) (by omega)) rfl<|an rfl<|ay<|fun a_ bM=>aaD _ _ (i+1) (by omega) (by repeat first|exact aC|refine aA rfl (by first|rfl|exact aH (by omega)) ?_) ?_ a_ bM
   exact ⟨by omega,hb,ab,aq⟩
  exact cP
 refine d2<|cj<|cj<|d3<|ax mG<|am fun tq=>an rfl<|al tq<|aJ<|bN rfl rfl ?_
 exact ⟨_,rfl,rfl,hb⟩
theorem VJ (m s k:Int) (e:bS) (x y:PC) (S T:Nat→Prop) (w:World) (hok:oc e) (hE:bi w S e x.cells) (hF:bi w T e y.cells):bx Tryz.prog 7 [.agg (ic m s k x).toArray,.agg (ic m s k y).toArray] w fun v w'=>v= .bool true∧Below w.heap.size w w':=by
 have hb:=Below.refl w.heap.size w;refine enter Tryz.func7 rfl rfl rfl<|am fun aR=>gp rfl rfl ?_
 rintro au dJ dH ab aM;have:=aM.size;have hb:=aZ hb aM;have:=ab.lt;refine gp rfl rfl ?_;rintro cV mU mK aq cT;have:=cT.size;have hb:=aZ hb cT;have ab:=ak.below ab cT;have:=aq.lt;refine an rfl<|al aR<|am fun dC=>ae (aP (uB _) rfl) rfl<|aG (cr dc (by kernel_rfl) rfl (by exact fun j u hu=>by rw [jR];exact ab.at (zK _ _ _ _ hu))) rfl<|ae (aP (uB _) rfl) rfl<|aG (cr dc (by kernel_rfl) rfl (by exact fun j u hu=>by rw [jR];exact aq.at (zK _ _ _ _ hu))) rfl<|aD TG rfl rfl (VI (fa e) e x y S T _ (Nat.le_refl _) hok (bi.below hE hb) (bi.below hF hb)) rfl ?_
 rintro _ cB ⟨rfl,aw⟩;have:=aw.size;have hb:=aZ hb aw;have ab:=ak.below ab aw;have aq:=ak.below aq aw;refine an rfl<|al dC<|am fun dU=>ai rfl<|ai rfl<|cG rfl rfl rfl (fun jo=>?_) (fun jo=>?_)
 ·
  refine ae (aP (y6 _) rfl) rfl<|ap rfl rfl jo<|aG (aS b0 rfl (by exact ab.at (j:=0) rfl)) rfl<|ap rfl rfl jo<|ae (aP (y6 _) rfl) rfl<|ap rfl rfl jo<|aG (aS b0 rfl (by exact aq.at (j:=0) rfl)) rfl<|ap rfl rfl jo<|ae (bX rfl rfl) rfl<|ae (bo rfl jo rfl) rfl<|ai rfl<|cG rfl rfl rfl (fun iH=>?_) (fun iH=>?_)
  ·
   refine ae (aP (s1 _) rfl) rfl<|ap rfl rfl iH<|aG (aS b0 rfl (by exact ab.at (j:=1) rfl)) rfl<|ap rfl rfl iH<|ae (aP (s1 _) rfl) rfl<|ap rfl rfl iH<|aG (aS b0 rfl (by exact aq.at (j:=1) rfl)) rfl<|ap rfl rfl iH<|ae (bX rfl rfl) rfl<|ae (bo rfl iH rfl) rfl<|ai rfl<|cG rfl rfl rfl (fun kC=>?_) (fun kC=>?_)
   ·
    refine ae (aP (r6 _) rfl) rfl<|ap rfl rfl kC<|aG (aS b0 rfl (by exact ab.at (j:=2) rfl)) rfl<|ap rfl rfl kC<|ae (aP (r6 _) rfl) rfl<|ap rfl rfl kC<|aG (aS b0 rfl (by exact aq.at (j:=2) rfl)) rfl<|ap rfl rfl kC<|ae (bX rfl rfl) rfl<|ae (bo rfl kC rfl) rfl<|an rfl<|al dU<|aJ<|bN rfl rfl ?_
    exact ⟨_,rfl,a8 (by simp),hb⟩
   exact absurd kC (by simp)
  exact absurd iH (by simp)
 have Zf:=jo;exact absurd Zf (by simp)
def aev:ao:= [84,82,65,73,76,32,83,72,79,82,84,69,83,84,32,50,32,40,97,41,45,91,58,75,93,45,62,123,49,44,50,125,40,98,32,87,72,69,82,69,32,112,32,62,32,51,41]
def aex:ao:= [40,97,41,45,91]
def aeu:bS:= .mk 3 [] 0 eC eC 0 0 [.mk 1 [97] 0 eC eC 0 0 [],.mk 5 [] 0 eC eC 1 2 [.mk 2 [] 4 (.mk 4 [75] ch []) eC 0 0 []],.mk 1 [98] 0 eC (.mk 3 [62] ch [.mk 2 [112] ch [],.mk 1 [] ⟨2,3,0,[]⟩ []]) 0 0 []]
theorem aew:kr aev=(⟨1,3,2,aeu⟩,0,0):=by kernel_rfl
theorem aey:kr aex=(lQ,5,2):=by kernel_rfl
theorem adE (w:World) (hX:Lx w):bx Tryz.prog 4 [] w fun v w'=>v= .bool true∧Below w.heap.size w w':=by
 have hb:=Below.refl w.heap.size w;have eo:=hX;refine enter Tryz.func4 rfl rfl rfl<|am fun aR=>an rfl<|al aR<|am fun bt=>aD Nd rfl rfl (Gc aew (by decide) _ hX) rfl ?_
 rintro _ cB ⟨⟨z,Sz,rfl,hz,aT⟩,aw⟩;have:=aw.size;have hb:=aZ hb aw;have hX:=eo.below hb;refine ai rfl<|ae (cu rfl rfl) rfl<|ae (cu rfl rfl) rfl<|ae (cu rfl rfl) rfl<|bT (z:=sr) (by kernel_rfl) rfl ?_
 rintro EY Nt CG dF mL;have:=mL.size;have hb:=aZ hb mL;have hX:=eo.below hb;have hz:=bi.below hz mL;have:=dF.lt;refine ba (by kernel_rfl) rfl rfl dF rfl rfl ?_;rintro du dF aF;have:=aF.size;have hb:=cf hb aF hb.size (by omega);have hX:=eo.below hb;have hz:=bi.kp hz aF (fun h_=>by have bh:=aT _ h_;first|omega|(rcases bh with dK|dK;(have kg:=hS _ dK;omega);omega));refine an rfl<|an rfl<|al bt<|am fun dU=>aD Nd rfl rfl (Gc aey (by decide) _ hX) rfl ?_
 rintro _ cU ⟨⟨z2,S2,rfl,hz2,x8⟩,aL⟩;have:=aL.size;have hb:=aZ hb aL;have hX:=eo.below hb;have hz:=bi.below hz aL;have dF:=ak.below dF aL;refine ai rfl<|ae (cu rfl rfl) rfl<|ae (cu rfl rfl) rfl<|ae (cu rfl rfl) rfl<|bT (z:=sr) (by kernel_rfl) rfl ?_
 rintro nN F0 Fb fY fE;have:=fE.size;have hb:=aZ hb fE;have hX:=eo.below hb;have hz:=bi.below hz fE;have dF:=ak.below dF fE;have:=fY.lt;refine ba (by kernel_rfl) rfl rfl fY rfl rfl ?_;rintro ff fY bc;have:=bc.size;have hb:=cf hb bc hb.size (by omega);have hX:=eo.below hb;have hz:=bi.kp hz bc (fun h_=>by have bh:=aT _ h_;first|omega|(rcases bh with dK|dK;(have kg:=hS _ dK;omega);omega));have dF:=dF.over bc (by omega);refine an rfl<|an rfl<|al dU<|am fun mC=>ae (aP (uB _) rfl) rfl<|aG (cr dc (by kernel_rfl) rfl (by exact fun j u hu=>by rw [jR];exact dF.at (zK _ _ _ _ hu))) rfl<|bT (z:=hY) (by kernel_rfl) rfl ?_
 rintro Jj Nr xR p9 rC;have:=rC.size;have hb:=aZ hb rC;have hX:=eo.below hb;have hz:=bi.below hz rC;have dF:=ak.below dF rC;have:=p9.lt;refine ba (by kernel_rfl) rfl rfl p9 rfl rfl ?_;rintro gB p9 bz;have:=bz.size;have hb:=cf hb bz hb.size (by omega);have hX:=eo.below hb;have hz:=bi.kp hz bz (fun h_=>by have bh:=aT _ h_;first|omega|(rcases bh with dK|dK;(have kg:=hS _ dK;omega);omega));have dF:=dF.over bz (by omega);refine al mC<|av fun _ gu=>av fun _ ju=>?_
 obtain ⟨hz0,_,_,_,_,_,_,A,c,hcA,_,_,hkA⟩:=bi.see hz;obtain ⟨p,z1,rfl,hz1,hc1⟩:=hkA 1 (by decide);obtain ⟨p',z3,hp',hz3,hc3⟩:=hkA 2 (by decide)
 cases hp'
 obtain ⟨_,_,_,_,hmx,_,_,A1,c1,hcA1,_,_,hkA1⟩:=bi.see hz1;obtain ⟨p1,z4,rfl,hz4,hc4⟩:=hkA1 0 (by decide);obtain ⟨_,_,hdir,_⟩:=bi.see hz4;obtain ⟨_,_,_,_,_,_,hwh,_⟩:=bi.see hz3;obtain ⟨_,hnm,_⟩:=aY.see hwh;refine aQ<|ae (aP (m3 _) rfl) rfl<|aG (aS m9 rfl (by exact p9.at (j:=19) hcA)) rfl<|ae (iC fO (by omega) rfl) rfl<|ae (fG rfl rfl) rfl<|ai rfl<|dy rfl rfl rfl (fun kZ=>?_) (fun kZ=>?_)
 ·
  exact absurd kZ (by decide)
 have fW:=kZ;simp only [DZ] at kZ;refine ae (aP (m3 _) rfl) rfl<|ap rfl rfl fW<|aG (aS m9 rfl (by exact p9.at (j:=19) hcA)) rfl<|ap rfl rfl fW<|ae (f8 fO rI rfl rfl (by omega) (by omega)) rfl<|ap rfl rfl fW<|ae (aP (m3 _) rfl) rfl<|ap rfl rfl fW<|aG (aS m9 rfl (by exact hc1 19 _ hcA1)) rfl<|ap rfl rfl fW<|ae (iC fO (by omega) rfl) rfl<|ap rfl rfl fW<|ae (fG rfl rfl) rfl<|ae (bj rfl fW rfl) rfl<|al ju<|aO rfl (fun Ep=>?_) (fun Ep=>?_)
 ·
  exact absurd Ep (by decide)
 have ahx:=Ep;simp only [DZ] at Ep;refine aU<|ax gu<|am fun lL=>ai rfl<|ae (bX rfl rfl) rfl<|ai rfl<|cG rfl rfl rfl (fun m5=>?_) (fun m5=>?_)
 ·
  have l6:=m5;simp only [DZ] at m5;refine ai rfl<|ap rfl rfl l6<|ae (bX rfl rfl) rfl<|ae (bo rfl l6 rfl) rfl<|ai rfl<|cG rfl rfl rfl (fun jE=>?_) (fun jE=>?_)
  ·
   have nK:=jE;simp only [DZ] at jE;refine ae (aP (y6 _) rfl) rfl<|ap rfl rfl nK<|aG (aS b0 rfl (by exact dF.at (j:=0) rfl)) rfl<|ap rfl rfl nK<|ae (bX rfl rfl) rfl<|ae (bo rfl nK rfl) rfl<|ai rfl<|cG rfl rfl rfl (fun EU=>?_) (fun EU=>?_)
   ·
    have Je:=EU;simp only [DZ] at EU;refine ae (aP (s1 _) rfl) rfl<|ap rfl rfl Je<|aG (aS b0 rfl (by exact dF.at (j:=1) rfl)) rfl<|ap rfl rfl Je<|ae (bX rfl rfl) rfl<|ae (bo rfl Je rfl) rfl<|ai rfl<|cG rfl rfl rfl (fun sa=>?_) (fun sa=>?_)
    ·
     have tc:=sa;simp only [DZ] at sa;refine ae (aP (r6 _) rfl) rfl<|ap rfl rfl tc<|aG (aS b0 rfl (by exact dF.at (j:=2) rfl)) rfl<|ap rfl rfl tc<|ae (bX rfl rfl) rfl<|ae (bo rfl tc rfl) rfl<|ai rfl<|cG rfl rfl rfl (fun ow=>?_) (fun ow=>?_)
     ·
      have Jh:=ow;simp only [DZ] at ow;refine ae (aP (I2 _) rfl) rfl<|ap rfl rfl Jh<|aG (aS b0 rfl (by exact p9.at (j:=0) rfl)) rfl<|ap rfl rfl Jh<|ae (bX rfl rfl) rfl<|ae (bo rfl Jh rfl) rfl<|ai rfl<|cG rfl rfl rfl (fun ox=>?_) (fun ox=>?_)
      ·
       have iU:=ox;simp only [DZ] at ox;refine ae (aP (m3 _) rfl) rfl<|ap rfl rfl iU<|aG (aS m9 rfl (by exact p9.at (j:=19) hcA)) rfl<|ap rfl rfl iU<|ae (f8 fO rI rfl rfl (by omega) (by omega)) rfl<|ap rfl rfl iU<|ae (aP (qO _) rfl) rfl<|ap rfl rfl iU<|aG (aS b0 rfl (by exact hc1 18 _ rfl)) rfl<|ap rfl rfl iU<|ae (bX rfl rfl) rfl<|ae (bo rfl iU rfl) rfl<|ai rfl<|cG rfl rfl rfl (fun EV=>?_) (fun EV=>?_)
       ·
        have tf:=EV;simp only [DZ] at EV;refine ae (aP (m3 _) rfl) rfl<|ap rfl rfl tf<|aG (aS m9 rfl (by exact p9.at (j:=19) hcA)) rfl<|ap rfl rfl tf<|ae (f8 fO rI rfl rfl (by omega) (by omega)) rfl<|ap rfl rfl tf<|ae (aP (m3 _) rfl) rfl<|ap rfl rfl tf<|aG (aS m9 rfl (by exact hc1 19 _ hcA1)) rfl<|ap rfl rfl tf<|ae (f8 fO rI rfl rfl (by omega) (by omega)) rfl<|ap rfl rfl tf<|ae (aP (y4 _) rfl) rfl<|ap rfl rfl tf<|aG (aS b0 rfl (by exact hc4 2 _ rfl)) rfl<|ap rfl rfl tf<|ae (bX rfl rfl) rfl<|ae (bo rfl tf rfl) rfl<|ai rfl<|cG rfl rfl rfl (fun EW=>?_) (fun EW=>?_)
        ·
         have w9:=EW;simp only [DZ] at EW;refine ae (aP (m3 _) rfl) rfl<|ap rfl rfl w9<|aG (aS m9 rfl (by exact p9.at (j:=19) hcA)) rfl<|ap rfl rfl w9<|ae (f8 fO rI rfl rfl (by omega) (by omega)) rfl<|ap rfl rfl w9<|ae (aP (wO _) rfl) rfl<|ap rfl rfl w9<|ae (aP (EL _) rfl) rfl<|ap rfl rfl w9<|aG (aS di rfl (by exact hc3 11 (str z3.wh.nm) rfl)) rfl<|ap rfl rfl w9<|ae (fl rfl rfl) rfl<|ae (bo rfl w9 rfl) rfl<|ai rfl<|cG rfl rfl rfl (fun r9=>?_) (fun r9=>?_)
         ·
          refine ai rfl<|ap rfl rfl r9<|ae (bX rfl rfl) rfl<|ae (bo rfl r9 rfl) rfl<|ai rfl<|cG rfl rfl rfl (fun ER=>?_) (fun ER=>?_)
          ·
           refine ai rfl<|ap rfl rfl ER<|ae (bX rfl rfl) rfl<|ae (bo rfl ER rfl) rfl<|an rfl<|al lL<|aJ<|bN rfl rfl ?_
           exact ⟨_,rfl,rfl,hb⟩
          exact absurd ER (by decide)
         exact absurd r9 (by rw [hnm];decide)
        exact absurd EW (by rw [hdir];decide)
       exact absurd EV (by rw [hmx];decide)
      exact absurd ox (by rw [hz0];decide)
     exact absurd ow (by decide)
    exact absurd sa (by decide)
   exact absurd EU (by decide)
  exact absurd jE (by decide)
 exact absurd m5 (by decide)
end Go.Proofs.YtjdjliiolchciaaGreatDoor
