import Derived.Test.YtjdjliiolchciaaGreatDoorZT
namespace Go.Proofs.YtjdjliiolchciaaGreatDoor
open Go.RowKit Go.Bw Go.Bw.Fl
set_option linter.unusedVariables false
set_option linter.unusedSimpArgs false
inductive b6
 |mk (k:Int) (nm:ao) (v:c7) (kids:List b6)
inductive bS
 |mk (k:Int) (var:ao) (dir:Int) (label wh:b6) (mn mx:Int) (kids:List bS)
structure sM where
 mode:Int
 sel:Int
 kk:Int
 pat:bS
def eC:b6:= .mk 0 [] ch []
def oJ:bS:= .mk 0 [] 0 eC eC 0 0 []
inductive cn (α:Type)
 |ok (x:α) (r:List Tok)
 |err (a e:Int)
def aN (en:Nat):List Tok→Tok
 | []=>⟨0,[],en⟩
 |t :: _=>t
def bv (en:Nat) (xs:List (ao)) (ts:List Tok):Bool:=decide (((aN en ts).k=2∨(aN en ts).k=5)∧(aN en ts).t∈xs)
def mQ (en k:Nat) (ts:List Tok):cn Tok:=if (aN en ts).k=k then .ok (aN en ts) ts.tail else .err (aN en ts).a 2
def eO (en:Nat) (s:ao) (ts:List Tok):cn Tok:=if bv en [s] ts=true then .ok (aN en ts) ts.tail else .err (aN en ts).a 2
noncomputable def uT (s:ao):Option c7:=match dI pf de s with
 |some (v,n)=>if n=s.length then some v else none
 |none=>none
noncomputable def gy (en:Nat) (at_:Int) (ts:List Tok):cn Int:=match mQ en 3 ts with
 | .err a e=> .err a e
 | .ok t r=>match uT t.t with
  |some v=>if v.k=2 then .ok v.n r else .err at_ 2
  |none=> .err at_ 2
abbrev Pe:=List Tok→cn b6
def kT (k:Int) (nm:ao) (a b:b6):b6:= .mk k nm ch [a,b]
def jJ (en:Nat) (side:Pe) (made:ao→b6→b6→b6) (signs:List (ao)):Nat→b6→List Tok→cn b6
 |0,x,ts=> .ok x ts
 |n+1,x,ts=>if bv en signs ts=true then match side ts.tail with
  | .ok y r=>jJ en side made signs n (made (aN en ts).t x y) r
  | .err a e=> .err a e
  else .ok x ts
def jK (en:Nat) (side:Pe) (made:ao→b6→b6→b6) (signs:List (ao)) (ts:List Tok):cn b6:=match side ts with
 | .ok x r=>jJ en side made signs r.length x r
 | .err a e=> .err a e
def ik (en:Nat) (s:ao):List Tok→Nat×List Tok
 | []=>(0,[])
 |t :: r=>if bv en [s] (t :: r)=true then ((ik en s r).1+1,(ik en s r).2) else (0,t :: r)
def ku (k:Int) (nm:ao):Nat→b6→b6
 |0,x=>x
 |n+1,x=>ku k nm n (.mk k nm ch [x])
def i8 (en:Nat) (sign:ao) (side:Pe) (k:Int) (nm:ao) (ts:List Tok):cn b6:=match side (ik en sign ts).2 with
 | .ok x r=> .ok (ku k nm (ik en sign ts).1 x) r
 | .err a e=> .err a e
def lS (en b:Nat) (one:Nat→Pe) (ts:List Tok):cn b6:=match eO en [40] ts with
 | .err a e=> .err a e
 | .ok t r=>if 50≤b then .err t.a 6 else match one (b+1) r with
  | .err a e=> .err a e
  | .ok x r2=>match eO en [41] r2 with
   | .err a e=> .err a e
   | .ok _ r3=> .ok x r3
def ir (en b:Nat) (knot:Nat→Pe) (ts:List Tok):cn b6:=
 if bv en [[40]] ts=true then lS en b knot ts
 else if bv en [[37]] ts=true then .ok (.mk 5 [] ch []) ts.tail
 else match mQ en 1 ts with
  | .err a e=> .err a e
  | .ok t r=> .ok (.mk 4 t.t ch []) r
def Mx (en b:Nat) (knot:Nat→Pe):Pe:=jK en (jK en (i8 en [33] (ir en b knot) 6 []) (fun _=>kT 7 []) [[38]]) (fun _=>kT 8 []) [[124]]
def lT (en:Nat):Nat→Nat→Pe
 |0,_=>fun _=> .err 0 0
 |n+1,b=>Mx en b (lT en n)
def ip (s:ao):ao:=s.map fun c=>if 65≤c.toNat∧c.toNat≤90 then c+32 else c
def hZ (s:ao) (a b:b6):b6:=kT 3 (ip s) a b
noncomputable def nf (s:ao) (at_:Int) (r:List Tok):cn b6:=match uT s with
 |some v=> .ok (.mk 1 [] v []) r
 |none=> .err at_ 2
def gA:ao:= [78,79,84]
def j6:ao:= [79,82]
def jO:ao:= [65,78,68]
def pN:ao:= [73,83]
def tU:ao:= [110,97,110]
def qv:ao:= [105,110,102]
noncomputable def oe (en:Nat) (sign:ao) (ts:List Tok):cn b6:=
 if (aN en ts).k≠3∧bv en [qv] ts=false then .err (aN en ts).a 2 else nf (sign++(aN en ts).t) (aN en ts).a ts.tail
noncomputable def fL (en b:Nat) (knot:Nat→Pe) (ts:List Tok):cn b6:=
 if (aN en ts).k=1 then .ok (.mk 2 (aN en ts).t ch []) ts.tail
 else if bv en [[40]] ts=true then lS en b knot ts
 else if (aN en ts).k=4∨bv en [gi,gV,gU,tU] ts=true then nf (aN en ts).t (aN en ts).a ts.tail
 else if bv en [[45]] ts=true then oe en (aN en ts).t ts.tail else oe en [] ts
noncomputable def Dc (en b:Nat) (knot:Nat→Pe):Pe:=jK en (fL en b knot) hZ [[42]]
noncomputable def lU (en b:Nat) (knot:Nat→Pe):Pe:=jK en (Dc en b knot) hZ [[43],[45]]
def iT:List (ao):= [[61],[60,62],[60],[60,61],[62],[62,61]]
def DP:ao:= [105,115,110,117,108,108]
noncomputable def kq (en b:Nat) (knot:Nat→Pe) (ts:List Tok):cn b6:=match lU en b knot ts with
 | .err a e=> .err a e
 | .ok x r=>if bv en iT r=true then match lU en b knot r.tail with
  | .err a e=> .err a e
  | .ok y r2=> .ok (hZ (aN en r).t x y) r2
  else if bv en [pN] r=true then match eO en gi r.tail with
   | .err a e=> .err a e
   | .ok _ r2=> .ok (.mk 3 DP ch [x]) r2
  else .ok x r
noncomputable def Mw (en b:Nat) (knot:Nat→Pe):Pe:=jK en (jK en (i8 en gA (kq en b knot) 3 [110,111,116]) hZ [jO]) hZ [j6]
noncomputable def pE (en:Nat):Nat→Nat→Pe
 |0,_=>fun _=> .err 0 0
 |n+1,b=>Mw en b (pE en n)
def u5:ao:= [87,72,69,82,69]
noncomputable def kS (en n:Nat) (k:Int) (var:ao) (label:b6) (ts:List Tok):cn bS:=
 if bv en [u5] ts=true then match pE en n 0 ts.tail with
  | .err a e=> .err a e
  | .ok x r=> .ok (.mk k var 0 label x 0 0 []) r
 else .ok (.mk k var 0 label eC 0 0 []) ts
noncomputable def j1 (en n:Nat) (k:Int) (var:ao) (ts:List Tok):cn bS:=
 if bv en [[58]] ts=true then match lT en n 0 ts.tail with
  | .err a e=> .err a e
  | .ok x r=>kS en n k var x r
 else kS en n k var eC ts
noncomputable def gh (en n:Nat) (k:Int) (ts:List Tok):cn bS:=
 if (aN en ts).k=1 then j1 en n k (aN en ts).t ts.tail else j1 en n k [] ts
def nA (o:ao):List (ao×Int):=
 if o= [45,91] then [([93,45,62],4),([93,45],7)] else if o= [60,45,91] then [([93,45],1),([93,45,62],5)]
 else if o= [126,91] then [([93,126],2),([93,126,62],6)] else if o= [60,126,91] then [([93,126],3)] else []
def mf (s:ao):Int:=
 if s= [45,62] then 4 else if s= [60,45] then 1 else if s= [126] then 2 else if s= [60,45,62] then 5 else if s= [60,126] then 3 else if s= [126,62] then 6 else if s= [45] then 7 else 0
def iS (en:Nat) (ts:List Tok):Bool:=bv en [[40],[91]] ts||decide ((aN en ts).k=5∧(nA (aN en ts).t≠ []∨0<mf (aN en ts).t))
def jS (o c:ao):Option Int:=((nA o).find? (fun p=>p.1==c)).map (·.2)
def bS.setDir (d:Int):bS→bS
 | .mk k var _ l w mn mx kids=> .mk k var d l w mn mx kids
noncomputable def gS (en n g:Nat) (knot:Nat→List Tok→cn bS) (ts:List Tok):cn bS:=
 if iS en ts=false then .err (aN en ts).a 2
 else if (aN en ts).t= [40] then match gh en n 1 ts.tail with
  | .err a e=> .err a e
  | .ok x r=>match eO en [41] r with
   | .err a e=> .err a e
   | .ok _ r2=> .ok x r2
 else if (aN en ts).t= [91] then if 50≤g then .err (aN en ts).a 6 else match knot (g+1) ts.tail with
  | .err a e=> .err a e
  | .ok x r=>match eO en [93] r with
   | .err a e=> .err a e
   | .ok _ r2=> .ok x r2
 else if 0<mf (aN en ts).t then .ok (.mk 2 [] (mf (aN en ts).t) eC eC 0 0 []) ts.tail
 else match gh en n 2 ts.tail with
  | .err a e=> .err a e
  | .ok x r=>match jS (aN en ts).t (aN en r).t with
   |none=> .err (aN en r).a 2
   |some d=>if (aN en r).k=5 then .ok (x.setDir d) r.tail else .err (aN en r).a 2
def yp (at_:Int) (mn mx:Int) (r:List Tok):cn (Option (Int×Int)):=
 if (0≤mx∧mx<mn)∨mx=0 then .err at_ 2 else if 20<max mn mx then .err at_ 6 else .ok (some (mn,mx)) r
noncomputable def iN (en:Nat) (ts:List Tok):cn (Option (Int×Int)):=
 if bv en [[42],[43],[63],[123]] ts=false then .ok none ts
 else if (aN en ts).t= [42] then .ok (some (0,-1)) ts.tail
 else if (aN en ts).t= [43] then .ok (some (1,-1)) ts.tail
 else if (aN en ts).t= [63] then .ok (some (0,1)) ts.tail
 else match gy en (aN en ts).a ts.tail with
  | .err a e=> .err a e
  | .ok mn r=>
   match (if bv en [[44]] r=true then (if bv en [[125]] r.tail=true then cn.ok (-1) r.tail else gy en (aN en ts).a r.tail) else cn.ok mn r) with
   | .err a e=> .err a e
   | .ok mx r2=>match eO en [125] r2 with
    | .err a e=> .err a e
    | .ok _ r3=>yp (aN en ts).a mn mx r3
noncomputable def fz (en n g:Nat) (knot:Nat→List Tok→cn bS) (ts:List Tok):cn bS:=match gS en n g knot ts with
 | .err a e=> .err a e
 | .ok x r=>match iN en r with
  | .err a e=> .err a e
  | .ok none r2=> .ok x r2
  | .ok (some (mn,mx)) r2=> .ok (.mk 5 [] 0 eC eC mn mx [x]) r2
def oi (k:Int):List bS→bS
 | [x]=>x
 |l=> .mk k [] 0 eC eC 0 0 l
def gz (go:List Tok→Option (List Tok)) (one:List Tok→cn bS):Nat→List bS→List Tok→cn (List bS)
 |0,l,ts=> .ok l ts
 |n+1,l,ts=>match go ts with
  |none=> .ok l ts
  |some ts'=>match one ts' with
   | .err a e=> .err a e
   | .ok x r=>gz go one n (l++ [x]) r
def tN (k:Int) (go:List Tok→Option (List Tok)) (one:List Tok→cn bS) (ts:List Tok):cn bS:=match one ts with
 | .err a e=> .err a e
 | .ok x r=>match gz go one r.length [x] r with
  | .err a e=> .err a e
  | .ok l r2=> .ok (oi k l) r2
noncomputable def kR (en n g:Nat) (knot:Nat→List Tok→cn bS):List Tok→cn bS:=tN 3 (fun ts=>if iS en ts=true then some ts else none) (fz en n g knot)
noncomputable def pG (en n g:Nat) (knot:Nat→List Tok→cn bS):List Tok→cn bS:=tN 4 (fun ts=>if bv en [[124]] ts=true then some ts.tail else none) (kR en n g knot)
noncomputable def pF (en m:Nat):Nat→Nat→List Tok→cn bS
 |0,_=>fun _=> .err 0 0
 |n+1,g=>pG en m g (pF en m n)
def kP:List (ao):= [[87,65,76,75],[84,82,65,73,76],[65,67,89,67,76,73,67],[83,73,77,80,76,69]]
def Mf (s:ao):Int:=((kP.findIdx (· ==s):Nat):Int)
def tS:ao:= [65,76,76]
def tT:ao:= [65,78,89]
def mT:ao:= [83,72,79,82,84,69,83,84]
def j2 (en:Nat) (ts:List Tok):Int×List Tok:=if bv en kP ts=true then (Mf (aN en ts).t,ts.tail) else (0,ts)
noncomputable def gw (en:Nat) (ts:List Tok):cn (Int×Int):=
 if bv en [tS] ts=true then (if bv en [mT] ts.tail=true then .ok (2,0) ts.tail.tail else .ok (0,0) ts.tail)
 else if bv en [tT] ts=true then .ok (1,0) ts.tail
 else if bv en [mT] ts=true then match gy en (aN en ts.tail).a ts.tail with
  | .err a e=> .err a e
  | .ok k r=>if k<1 then .err (aN en ts.tail).a 2 else if 1000<k then .err (aN en ts.tail).a 6 else .ok (3,k) r
 else .ok (0,0) ts
noncomputable def me (en:Nat) (ts:List Tok):cn sM:=match gw en (j2 en ts).2 with
 | .err a e=> .err a e
 | .ok sk r=>match pF en (ts.length+1) (ts.length+1) 0 r with
  | .err a e=> .err a e
  | .ok x r2=>if 0<r2.length then .err (aN en r2).a 2 else .ok ⟨(j2 en ts).1,sk.1,sk.2,x⟩ r2
mutual
def dB:b6→Nat
 | .mk _ _ _ kids=>ly kids+1
def ly:List b6→Nat
 | []=>0
 |x :: r=>max (dB x) (ly r)
end
mutual
def fa:bS→Nat
 | .mk _ _ _ _ _ _ _ kids=>iG kids+1
def iG:List bS→Nat
 | []=>0
 |x :: r=>max (fa x) (iG r)
end
mutual
def j3:bS→Bool
 | .mk _ _ _ l w _ _ kids=>decide (50<dB l)||decide (50<dB w)||pM kids
def pM:List bS→Bool
 | []=>false
 |x :: r=>j3 x||pM r
end
def lQ:sM:=⟨0,0,0,oJ⟩
noncomputable def pH (en:Nat) (ts:List Tok):sM×Int×Int:=match me en ts with
 | .err a e=>(lQ,a,e)
 | .ok q _=>if 50<fa q.pat∨j3 q.pat=true then (lQ,0,6) else (q,0,0)
noncomputable def kr (s:ao):sM×Int×Int:=if 65536<s.length then (lQ,0,6) else match eJ s 0 with
 | .error i=>(lQ,(i:Int),2)
 | .ok l=>pH s.length l
theorem Pl (p:Addr) (w:World):(Instr.fieldAt 25 (.pointer (some p)) 0).run Tryz.prog w= .ok (.pointer (some (p.add 0))) w:=eT (i:=0) (sz:=0) ek rfl (by kernel_rfl) p w
theorem I0 (p:Addr) (w:World):(Instr.fieldAt 25 (.pointer (some p)) 1).run Tryz.prog w= .ok (.pointer (some (p.add 1))) w:=eT (i:=1) (sz:=0) ek rfl (by kernel_rfl) p w
theorem AZ (p:Addr) (w:World):(Instr.fieldAt 47 (.pointer (some p)) 0).run Tryz.prog w= .ok (.pointer (some (p.add 0))) w:=eT (i:=0) (sz:=0) Tryz.underlying47 rfl (by kernel_rfl) p w
theorem YV (p:Addr) (w:World):(Instr.fieldAt 47 (.pointer (some p)) 1).run Tryz.prog w= .ok (.pointer (some (p.add 1))) w:=eT (i:=1) (sz:=0) Tryz.underlying47 rfl (by kernel_rfl) p w
theorem fH (p:Addr) (w:World):(Instr.fieldAt 49 (.pointer (some p)) 0).run Tryz.prog w= .ok (.pointer (some (p.add 0))) w:=eT (i:=0) (sz:=1) FZ rfl (by kernel_rfl) p w
theorem Mt:One Tryz.prog 2:=⟨_,Dz,rfl,by kernel_rfl⟩
theorem C7:One Tryz.prog 39:=⟨_,yx,rfl,by kernel_rfl⟩
theorem S0:(Tryz.prog.info? 65).map (·.size)=some 3:=by kernel_rfl
theorem j4:bB Tryz.prog 21:=⟨_,Tryz.func21,by kernel_rfl,rfl⟩
theorem jM:bB Tryz.prog 23:=⟨_,Tryz.func23,by kernel_rfl,rfl⟩
theorem qt:bB Tryz.prog 24:=⟨_,Tryz.func24,by kernel_rfl,rfl⟩
theorem z6:bB Tryz.prog 27:=⟨_,Tryz.func27,by kernel_rfl,rfl⟩
theorem TO:bB Tryz.prog 47:=⟨_,Tryz.func47,by kernel_rfl,rfl⟩
theorem Nq {w w':World} {p g:Nat} {nm:String} {cs:Array Value} (h:World.var? Tryz.prog w nm=some cs) (hk:Kp p w w') (hg:Tryz.prog.globalNamed nm=some g) (hn:g≠p):World.var? Tryz.prog w' nm=some cs:=by
 unfold World.var? at h ⊢;rw [hg] at h ⊢;simp only [Option.bind_some] at h ⊢
 have hl:g<w.heap.size:=by
  rcases Nat.lt_or_ge g w.heap.size with h1|h1
  · exact h1
  · rw [Array.getElem?_eq_none h1] at h;cases h
 rw [hk.block g hl (fun e=>hn (Option.some.inj e))];exact h
theorem PD : Tryz.prog.globalNamed "internal/strconv.uint64pow10" = some 6 := by kernel_rfl
theorem PF : Tryz.prog.globalNamed "strconv.ErrSyntax" = some 4 := by kernel_rfl
theorem PE : Tryz.prog.globalNamed "strconv.ErrRange" = some 5 := by kernel_rfl
def Gl (p:Nat):Prop:=6<p∧4<p∧5<p
theorem Lb.kp {w w':World} {p:Nat} (h:Lb w) (hk:Kp p w w') (hg:Gl p):Lb w':=
 ⟨Nq h.tab hk PD (Nat.ne_of_lt hg.1),h.syn.elim fun tp h1=>h1.elim fun q h2=>⟨tp,q,Nq h2 hk PF (Nat.ne_of_lt hg.2.1)⟩,h.rng.elim fun tp h1=>h1.elim fun q h2=>⟨tp,q,Nq h2 hk PE (Nat.ne_of_lt hg.2.2)⟩⟩
theorem Gl.mono {p q:Nat} (h:Gl p) (hq:p≤q):Gl q:=⟨by have:=h.1;omega,by have:=h.2.1;omega,by have:=h.2.2;omega⟩
theorem Lb.gl {w:World} (h:Lb w):Gl w.heap.size:=by
 have key:∀{nm:String} {g:Nat} {cs:Array Value},World.var? Tryz.prog w nm=some cs→Tryz.prog.globalNamed nm=some g→g<w.heap.size:=fun {nm g cs} hv hg=>by
  unfold World.var? at hv;rw [hg] at hv;simp only [Option.bind_some] at hv
  rcases Nat.lt_or_ge g w.heap.size with h1|h1
  · exact h1
  · rw [Array.getElem?_eq_none h1] at hv;cases hv
 obtain ⟨_,_,h2⟩:=h.syn;obtain ⟨_,_,h3⟩:=h.rng;exact ⟨key h.tab PD,key h2 PF,key h3 PE⟩
structure be (w:World) (p en:Nat) (ts:List Tok) (g b:Nat):Prop where
 ex:∃A c,ts.length≤c∧ts.length≤65536∧ak w p 49 [.slice A ts.length c,.int .i64 (en:Int),.int .i64 (g:Int),.int .i64 (b:Int)]∧Rd w 3 A ts.length (ts.flatMap Tok.cells)∧∀q,A=some q→q.block<p
 lb:Lb w
 gl:Gl p
 tk:∀t∈ts,t.t.length≤65536
theorem be.over {w w':World} {p k en:Nat} {ts:List Tok} {g b:Nat} (h:be w p en ts g b) (hg:w.grownBy w' (some k)) (hk:p<k):be w' p en ts g b:=by
 obtain ⟨A,c,h1,h2,h3,h4,h5⟩:=h.ex;exact ⟨⟨A,c,h1,h2,h3.over hg (by omega),h4.kp hg (fun q e=>by have:=h5 q e;omega),h5⟩,h.lb.kp hg (h.gl.mono (by omega)),h.gl,h.tk⟩
theorem be.below {w w':World} {p en:Nat} {ts:List Tok} {g b:Nat} (h:be w p en ts g b) (hk:Below w.heap.size w w'):be w' p en ts g b:=by
 obtain ⟨A,c,h1,h2,h3,h4,h5⟩:=h.ex;exact ⟨⟨A,c,h1,h2,h3.below hk,h4.below hk,h5⟩,h.lb.below hk,h.gl,h.tk⟩
theorem be.lt {w:World} {p en:Nat} {ts:List Tok} {g b:Nat} (h:be w p en ts g b):p<w.heap.size:=by
 obtain ⟨A,c,h1,h2,h3,h4,h5⟩:=h.ex;exact h3.lt
abbrev bH (p:Nat):Value:= .pointer (some ⟨p,0,none⟩)
def Nv (a e:Int):List PanicEntry:= [{v:= .iface 43 (.agg #[.int .i64 a,.int .i64 e]),recovered:=false}]
theorem eY {R:Value→World→Prop} {X:List PanicEntry→World→Prop} {v:Value} {w:World} (h:R v w):D3 R X (.returned v) w:=h
theorem dY {R:Value→World→Prop} {X:List PanicEntry→World→Prop} {c:List PanicEntry} {w:World} (h:X c w):D3 R X (.panicked c) w:=h
theorem Ml (p en:Nat) (ts:List Tok) (g b:Nat) (w:World) (hP:be w p en ts g b):bx Tryz.prog 24 [bH p] w fun v w'=>v=(aN en ts).enc∧Below w.heap.size w w':=by
 obtain ⟨A,c,h1,h2,hPb,hPr,h5⟩:=hP.ex;have hb:=Below.refl w.heap.size w;have mI:=hPb;have xO:=hPr;refine enter Tryz.func24 rfl rfl rfl<|am fun aR=>bT (z:=fx) (by kernel_rfl) rfl ?_
 rintro au dJ dH ab aM;have:=aM.size;have hb:=aZ hb aM;have hPb:=mI.below hb;have hPr:=xO.below hb;have:=ab.lt;refine al aR<|av fun _ bt=>am fun b8=>ai rfl<|ae (cI rfl) rfl<|ae (aP (AZ _) rfl) rfl<|aG (aS C7 rfl (by exact hPb.at (j:=0) rfl)) rfl<|ae (iC yx (by omega) rfl) rfl<|ae (bX rfl rfl) rfl<|al b8<|aO rfl (fun lq=>?_) (fun lq=>?_)
 ·
  have vw:=lq;simp only [DZ] at lq;have hnil:ts= []:=List.length_eq_zero_iff.1 (by have:=lq;omega);refine am fun dU=>ai rfl<|ae (cI rfl) rfl<|ae (aP (YV _) rfl) rfl<|aG (aS b0 rfl (by exact hPb.at (j:=1) rfl)) rfl ?_
  refine ae (cC (z:=mb) (pl:= [(0,1),(1,1),(2,1)]) (cs:= [_,_,_]) fe (by kernel_rfl) (by kernel_rfl) rfl rfl rfl) rfl<|ba (by kernel_rfl) rfl rfl ab rfl rfl ?_
  rintro du ab aF;have:=aF.size;have hb:=cf hb aF hb.size (by omega);have hPb:=mI.below hb;have hPr:=xO.below hb;refine al dU<|aJ<|aX<|bQ (rs:= [.cell 2 65]) (vs:= [_]) rfl (.cell rfl (bP fe (by kernel_rfl) (fun j u hu=>ab.at hu)) .nil) ?_
  exact ⟨_,rfl,by rw [hnil];rfl,hb⟩
 have vw:=lq;simp only [DZ] at lq
 obtain ⟨t,r,hcons⟩:∃t r,ts=t :: r:=by
  cases hts:ts with
  |nil=>have:=lq;rw [hts] at this;exact absurd rfl this
  |cons t r=>exact ⟨t,r,rfl⟩
 have hlen:0<ts.length:=by rw [hcons];simp
 obtain ⟨p_,hpe,hcell⟩:=Rd.tok hPr hlen;subst hpe;have ht0:ts[0]=t:=by simp [hcons]
 rw [ht0] at hcell;refine aU<|ax bt<|am fun dG=>ai rfl<|ae (cI rfl) rfl<|ae (aP (AZ _) rfl) rfl<|aG (aS C7 rfl (by exact hPb.at (j:=0) rfl)) rfl ?_
 refine ae (f8 yx S0 rfl rfl (by omega) (by omega)) rfl ?_;refine aG (cr fe (by kernel_rfl) rfl (by exact fun j u hu=>hcell j u hu)) rfl ?_;refine ba (by kernel_rfl) rfl rfl ab rfl rfl ?_;rintro ff ab bc;have:=bc.size;have hb:=cf hb bc hb.size (by omega);have hPb:=mI.below hb;have hPr:=xO.below hb;refine al dG<|aJ<|bQ (rs:= [.cell 2 65]) (vs:= [_]) rfl (.cell rfl (bP fe (by kernel_rfl) (fun j u hu=>ab.at hu)) .nil) ?_
 exact ⟨_,rfl,by rw [hcons];rfl,hb⟩
theorem eB {en:Nat} {xs:List (ao)} {ts:List Tok} (h:bv en xs ts=true):ts≠ []:=fun e=>by
 subst e;have:=of_decide_eq_true h
 rcases this.1 with h|h<;>cases h
theorem jY (p en:Nat) (ts:List Tok) (g b:Nat) (A:Option Addr) (c:Nat) (xs:List (ao)) (hx:xs.length≤1000) (w:World) (hP:be w p en ts g b) (hR:Rd w 1 A xs.length (b9 xs)):bx Tryz.prog 21 [bH p,.slice A xs.length c] w fun v w'=>v= .bool (bv en xs ts)∧Below w.heap.size w w':=by
 obtain ⟨t,htk⟩:∃t,t=aN en ts:=⟨_,rfl⟩;have hb:=Below.refl w.heap.size w;have jF:=hP;have dX:=hR;refine enter Tryz.func21 rfl rfl rfl<|am fun aR=>an rfl<|al aR<|am fun bt=>ai rfl<|aD qt rfl rfl (Ml p en ts g b _ hP) rfl ?_
 rintro _ cB ⟨rfl,aw⟩;have:=aw.size;have hb:=aZ hb aw;have hP:=jF.below hb;have hR:=dX.below hb;refine bT (z:=fx) (by kernel_rfl) rfl ?_;rintro dq ks jH aE ck;have:=ck.size;have hb:=aZ hb ck;have hP:=jF.below hb;have hR:=dX.below hb;have:=aE.lt;rw [←htk];refine ba (by kernel_rfl) rfl rfl aE rfl rfl ?_;rintro du aE aF;have:=aF.size;have hb:=cf hb aF hb.size (by omega);have hP:=jF.below hb;have hR:=dX.below hb;refine al bt<|am fun dV=>ae (aP (wQ _) rfl) rfl<|aG (aS b0 rfl (by exact aE.at (j:=0) rfl)) rfl<|ae (bX rfl rfl) rfl<|ai rfl<|dy rfl rfl rfl (fun kB=>?_) (fun kB=>?_)
 ·
  refine az rfl rfl kB rfl rfl<|az rfl rfl kB rfl rfl<|ae (bo rfl kB rfl) rfl<|ai rfl<|ap rfl rfl rfl<|ai rfl<|ap rfl rfl rfl<|ae (aP (r8 _) rfl) rfl<|ap rfl rfl rfl<|aG (aS di rfl (by exact aE.at (j:=1) rfl)) rfl<|ap rfl rfl rfl<|aD Nc rfl rfl (Gh A c xs t.t (by omega) _ hR) rfl ?_
  rintro _ cU ⟨rfl,aL⟩;have i7:=aL.size;have hb:=aZ hb aL;have hP:=jF.below hb;have hR:=dX.below hb;refine ae (bo rfl rfl rfl) rfl<|an rfl<|al dV<|aJ<|bN rfl rfl ?_
  exact ⟨_,rfl,a8 (by unfold bv;rw [←htk,Bool.eq_iff_iff];simp_all<;>omega),hb⟩
 refine ae (aP (wQ _) rfl) rfl<|ap rfl rfl kB<|aG (aS b0 rfl (by exact aE.at (j:=0) rfl)) rfl<|ap rfl rfl kB<|ae (bX rfl rfl) rfl<|ae (bj rfl kB rfl) rfl<|ai rfl<|cG rfl rfl rfl (fun s9=>?_) (fun s9=>?_)
 ·
  refine ai rfl<|ap rfl rfl s9<|ae (aP (r8 _) rfl) rfl<|ap rfl rfl s9<|aG (aS di rfl (by exact aE.at (j:=1) rfl)) rfl<|ap rfl rfl s9<|aD Nc rfl rfl (Gh A c xs t.t (by omega) _ hR) rfl ?_
  rintro _ cU ⟨rfl,aL⟩;have i7:=aL.size;have hb:=aZ hb aL;have hP:=jF.below hb;have hR:=dX.below hb;refine ae (bo rfl s9 rfl) rfl<|an rfl<|al dV<|aJ<|bN rfl rfl ?_
  exact ⟨_,rfl,a8 (by unfold bv;rw [←htk,Bool.eq_iff_iff];simp_all<;>omega),hb⟩
 refine az rfl rfl s9 rfl rfl<|az rfl rfl s9 rfl rfl<|az rfl rfl s9 rfl rfl<|ae (bj rfl s9 rfl) rfl<|an rfl<|al dV<|aJ<|bN rfl rfl ?_
 exact ⟨_,rfl,a8 (by unfold bv;rw [←htk,Bool.eq_iff_iff];simp_all<;>omega),hb⟩
theorem be.take {w:World} {p en:Nat} {ts:List Tok} {g b:Nat} {A:Option Addr} {c:Nat} (h:ts≠ []) (hc:ts.length≤c) (h2:ts.length≤65536) (hB:ak w p 49 [.slice (if c=1 then A else A.map (·.add 3)) (ts.length - 1) (c - 1),.int .i64 (en:Int),.int .i64 (g:Int),.int .i64 (b:Int)]) (hR:Rd w 3 A ts.length (ts.flatMap Tok.cells)) (hA:∀q,A=some q→q.block<p) (hL:Lb w) (hG:Gl p) (hT:∀t∈ts,t.t.length≤65536):be w p en ts.tail g b:=by
 have hl:ts.tail.length=ts.length - 1:=List.length_tail;refine ⟨⟨_,c - 1,by omega,by omega,by rw [hl];exact hB,?_,?_⟩,hL,hG,fun t h=>hT t (List.mem_of_mem_tail h)⟩
 · have h1:1≤ts.length:=by cases ts with|nil=>exact absurd rfl h|cons=>simp
   have h3:=hR.drop (m:=1) h1 hc
   have e:(ts.flatMap Tok.cells).drop (1 * 3)=ts.tail.flatMap Tok.cells:=by
    cases ts with
    |nil=>exact absurd rfl h
    |cons t r=>rfl
   rw [e,show (1:Nat) * 3=3 from rfl] at h3;rw [hl];exact h3
 · intro q hq
   split at hq
   · exact hA q hq
   · cases A with
     |none=>cases hq
     |some a=>cases hq;rw [Eg];exact hA a rfl
theorem aeQ (p en:Nat) (ts:List Tok) (g b:Nat) (hne:ts≠ []) (w:World) (hP:be w p en ts g b):bx Tryz.prog 23 [bH p] w fun v w'=>(v=(aN en ts).enc∧be w' p en ts.tail g b)∧Kp p w w':=by
 have hpl:=hP.lt;obtain ⟨t,htk⟩:∃t,t=aN en ts:=⟨_,rfl⟩;have hlen:0<ts.length:=List.length_pos_iff.2 hne;have hb:=Kp.refl p w;refine enter Tryz.func23 rfl rfl rfl<|am fun aR=>bT (z:=fx) (by kernel_rfl) rfl ?_
 rintro au dJ dH ab aM;have:=aM.size;have hP:=hP.below aM;replace aM:=Below.kp (p:=p) aM;have hb:=hb.trans aM;have:=ab.lt;refine al aR<|am fun bt=>ai rfl<|ae (cI rfl) rfl<|ae (aP (fH _) rfl) rfl<|aD qt rfl rfl (Ml p en ts g b _ hP) rfl ?_
 rintro _ cB ⟨rfl,aw⟩;have:=aw.size;have hP:=be.below hP aw;have ab:=ak.below ab aw;replace aw:=Below.kp (p:=p) aw;have hb:=hb.trans aw;refine bT (z:=fx) (by kernel_rfl) rfl ?_;rintro kE Ad rx bZ gv;have:=gv.size;have hP:=hP.below gv;have ab:=ab.below gv;replace gv:=Below.kp (p:=p) gv;have hb:=hb.trans gv;have:=bZ.lt;refine ba (by kernel_rfl) rfl rfl bZ rfl rfl ?_;rintro du bZ aF;have:=aF.size;have hb:=bp hb aF (by omega);have hP:=be.over hP aF (by omega);have ab:=ab.over aF (by omega);refine al bt<|av fun _ dW=>?_
 obtain ⟨A,c,h1,h2,hPb,hPr,h5⟩:=hP.ex;refine aQ<|ai rfl<|ai rfl<|ae (cI rfl) rfl<|ae (aP (fH _) rfl) rfl<|ae (aP (AZ _) rfl) rfl<|aG (aS C7 rfl (by exact hPb.at (j:=0) rfl)) rfl<|ae (UC yx S0 rfl rfl (by omega) (by omega)) rfl<|ae (cI rfl) rfl<|ae (aP (fH _) rfl) rfl<|ae (aP (AZ _) rfl) rfl<|fV C7 rfl rfl rfl hPb (by show 0<4;decide) ?_
 rintro ff xW bc;have:=bc.size;have hb:=bp hb bc (by omega);have ab:=ab.over bc (by omega);have bZ:=bZ.over bc (by omega);have hPb:=xW;refine al dW<|av fun _ eM=>?_
 have hP:=be.take hne h1 h2 hPb (hPr.kp bc (fun q e=>by have:=h5 q e;omega)) h5 (hP.lb.kp bc hP.gl) hP.gl hP.tk;clear hPb;refine aQ<|aG (cr fe (by kernel_rfl) rfl (by exact fun j u hu=>bZ.at hu)) rfl ?_
 refine ba (by kernel_rfl) rfl rfl ab rfl rfl ?_;rintro gB ab bz;have:=bz.size;have hb:=bp hb bz (by omega);have hP:=be.over hP bz (by omega);refine al eM<|aJ<|bQ (rs:= [.cell 2 65]) (vs:= [_]) rfl (.cell rfl (bP fe (by kernel_rfl) (fun j u hu=>ab.at hu)) .nil) ?_
 exact ⟨_,rfl,⟨rfl,hP⟩,hb⟩
abbrev Tb (t:Tok):Value:= .agg #[.int .i64 (t.k:Int),str t.t,.int .i64 (t.a:Int)]
theorem st (p en:Nat) (ts:List Tok) (g b:Nat) (w:World) (hP:be w p en ts g b):bx Tryz.prog 24 [bH p] w fun v w'=>v= .agg #[.int .i64 ((aN en ts).k:Int),str (aN en ts).t,.int .i64 ((aN en ts).a:Int)]∧Below w.heap.size w w':=Ml p en ts g b w hP
theorem jL (p en:Nat) (ts:List Tok) (g b:Nat) (hne:ts≠ []) (w:World) (hP:be w p en ts g b):bx Tryz.prog 23 [bH p] w fun v w'=>(v= .agg #[.int .i64 ((aN en ts).k:Int),str (aN en ts).t,.int .i64 ((aN en ts).a:Int)]∧be w' p en ts.tail g b)∧Kp p w w':=aeQ p en ts g b hne w hP
def iR {α:Type} (w:World) (p en g b:Nat) (ts:List Tok) (F:cn α) (V:α→Value→World→Prop) (v:Value) (w':World):Prop:=(∃x r,F= .ok x r∧V x v w'∧be w' p en r g b∧r.length≤ts.length)∧Kp p w w'
def iD {α:Type} (w:World) (p en g b:Nat) (F:cn α) (c:List PanicEntry) (w':World):Prop:=∃a e,F= .err a e∧c=Nv a e∧(∃r,be w' p en r g b)∧Kp p w w'
theorem y8 (p en:Nat) (ts:List Tok) (g b:Nat) (w:World) (hP:be w p en ts g b):gC Tryz.prog 27 [bH p] w (fun _ _=>False) (iD w p en g b (cn.err (aN en ts).a 2:cn Unit)):=by
 have hpl:=hP.lt;have hb:=Kp.refl p w;refine enter Tryz.func27 rfl rfl rfl<|aQ<|ai rfl<|ae (cI rfl) rfl<|ae (aP (fH _) rfl) rfl<|aD qt rfl rfl (st p en ts g b _ hP) rfl ?_
 rintro _ cB ⟨rfl,aw⟩;have:=aw.size;have hP:=be.below hP aw;replace aw:=Below.kp (p:=p) aw;have hb:=hb.trans aw;refine ae (ni fe rfl b0 rfl rfl) rfl<|ae (cC (z:=tI) (pl:= [(0,1),(1,1)]) (cs:= [_,_]) kU (by kernel_rfl) (by kernel_rfl) rfl rfl rfl) rfl<|ae (pP kU (by intro _ h;cases h) rfl) rfl<|sO rfl<|eH ?_
 exact dY ⟨_,_,rfl,rfl,⟨_,hP⟩,hb⟩
theorem QL (p en k:Nat) (hk:k≠0) (ts:List Tok) (g b:Nat) (w:World) (hP:be w p en ts g b):gC Tryz.prog 47 [bH p,.int .i64 (k:Int)] w (iR w p en g b ts (mQ en k ts) fun t v _=>v=Tb t) (iD w p en g b (mQ en k ts)):=by
 have hpl:=hP.lt;have hb:=Kp.refl p w;refine enter Tryz.func47 rfl rfl rfl<|am fun aR=>bT (z:=fx) (by kernel_rfl) rfl ?_
 rintro au dJ dH ab aM;have:=aM.size;have hP:=hP.below aM;replace aM:=Below.kp (p:=p) aM;have hb:=hb.trans aM;have:=ab.lt;refine al aR<|av fun _ bt=>am fun b8=>ai rfl<|ae (cI rfl) rfl<|ae (aP (fH _) rfl) rfl<|aD qt rfl rfl (st p en ts g b _ hP) rfl ?_
 rintro _ cB ⟨rfl,aw⟩;have:=aw.size;have hP:=be.below hP aw;have ab:=ak.below ab aw;replace aw:=Below.kp (p:=p) aw;have hb:=hb.trans aw;refine ae (ni fe rfl b0 rfl rfl) rfl<|ai rfl<|ae (fG rfl rfl) rfl<|al b8<|aO rfl (fun kX=>?_) (fun kX=>?_)
 ·
  have Gw:=kX;simp only [DZ] at kX;have hf:mQ en k ts= .err (aN en ts).a 2:=if_neg (by have:=kX;omega);refine aQ<|ai rfl<|dQ z6 rfl rfl (y8 p en ts g b _ hP) rfl (fun v_ cU cc=>?_) (fun c_ cU cg=>?_)
  rotate_left
  ·
   obtain ⟨pW,p4,kF,rfl,lg,aL⟩:=cg;have:=aL.size;have hb:=hb.trans aL;refine cJ<|eH ?_
   cases kF;exact dY ⟨_,_,hf,rfl,lg,hb⟩
  exact cc.elim
 have Gw:=kX;simp only [DZ] at kX;have hk2:(aN en ts).k=k:=by have:=kX;omega
 have hf:mQ en k ts= .ok (aN en ts) ts.tail:=if_pos hk2;have hne:ts≠ []:=fun e=>by subst e;exact hk hk2.symm
 refine aU<|ax bt<|am fun eL=>ai rfl<|aD jM rfl rfl (jL p en ts g b hne _ hP) rfl ?_
 rintro _ eP ⟨⟨rfl,hP⟩,a6⟩;have:=a6.size;have ab:=ak.kp ab a6 (by omega);have hb:=hb.trans a6;refine ba (by kernel_rfl) rfl rfl ab rfl rfl ?_;rintro du ab aF;have:=aF.size;have hb:=bp hb aF (by omega);have hP:=be.over hP aF (by omega);refine al eL<|aJ<|bQ (rs:= [.cell 4 65]) (vs:= [_]) rfl (.cell rfl (bP fe (by kernel_rfl) (fun j u hu=>ab.at hu)) .nil) ?_
 exact eY ⟨⟨_,_,hf,rfl,hP,by rw [List.length_tail];omega⟩,hb⟩
theorem zU (p en:Nat) (s:ao) (ts:List Tok) (g b:Nat) (w:World) (hP:be w p en ts g b):gC Tryz.prog 134 [bH p,str s] w (iR w p en g b ts (eO en s ts) fun t v _=>v=Tb t) (iD w p en g b (eO en s ts)):=by
 have hpl:=hP.lt;have hb:=Kp.refl p w;refine enter Tryz.func134 rfl rfl rfl<|am fun aR=>bT (z:=fx) (by kernel_rfl) rfl ?_
 rintro au dJ dH ab aM;have:=aM.size;have hP:=hP.below aM;replace aM:=Below.kp (p:=p) aM;have hb:=hb.trans aM;have:=ab.lt;refine al aR<|av fun _ bt=>am fun b8=>ai rfl<|ae (cI rfl) rfl<|ae (aP (fH _) rfl) rfl<|ai rfl<|cz (sz:=1) (vs:= [_]) dl (by kernel_rfl) rfl rfl rfl rfl rfl rfl ?_
 rintro cp fA fw aI aV;have:=aV.size;have hP:=hP.below aV;have ab:=ab.below aV;replace aV:=Below.kp (p:=p) aV;have hb:=hb.trans aV;have:=aI.lt;refine aD j4 rfl rfl (jY p en ts g b _ 1 [s] (by simp) _ hP (aI.rd 1 1 rfl)) rfl ?_;rintro _ cB ⟨rfl,aw⟩;have:=aw.size;have hP:=be.below hP aw;have ab:=ak.below ab aw;replace aw:=Below.kp (p:=p) aw;have hb:=hb.trans aw;refine ae (jd rfl) rfl<|al b8<|aO rfl (fun kX=>?_) (fun kX=>?_)
 ·
  have hf:eO en s ts= .err (aN en ts).a 2:=if_neg (by have:=kX;simpa using this);refine aQ<|ai rfl<|dQ z6 rfl rfl (y8 p en ts g b _ hP) rfl (fun v_ cU cc=>?_) (fun c_ cU cg=>?_)
  rotate_left
  ·
   obtain ⟨pW,p4,kF,rfl,lg,aL⟩:=cg;have:=aL.size;have hb:=hb.trans aL;refine cJ<|eH ?_
   cases kF;exact dY ⟨_,_,hf,rfl,lg,hb⟩
  exact cc.elim
 have hi:bv en [s] ts=true:=by have:=kX;simpa using this
 have hf:eO en s ts= .ok (aN en ts) ts.tail:=if_pos hi;have hne:ts≠ []:=eB hi;refine aU<|ax bt<|am fun eL=>ai rfl<|aD jM rfl rfl (jL p en ts g b hne _ hP) rfl ?_
 rintro _ eP ⟨⟨rfl,hP⟩,a6⟩;have:=a6.size;have ab:=ak.kp ab a6 (by omega);have hb:=hb.trans a6;refine ba (by kernel_rfl) rfl rfl ab rfl rfl ?_;rintro du ab aF;have:=aF.size;have hb:=bp hb aF (by omega);have hP:=be.over hP aF (by omega);refine al eL<|aJ<|bQ (rs:= [.cell 4 65]) (vs:= [_]) rfl (.cell rfl (bP fe (by kernel_rfl) (fun j u hu=>ab.at hu)) .nil) ?_
 exact eY ⟨⟨_,_,hf,rfl,hP,by rw [List.length_tail];omega⟩,hb⟩
theorem Fv {s:ao} {u:c7} {n:Nat} {ok:Bool} (h:yF (dI pf de s) u n ok):(uT s=if ok=true∧n=s.length then some u else none)∧(ok=false→u=ch):=by
 unfold uT
 rcases h with ⟨h1,h2⟩|⟨h1,h2,h3,h4⟩
 · rw [h2,h1];exact ⟨by simp,fun h=>by cases h⟩
 · rw [h2,h1];exact ⟨by simp,fun _=>h3⟩
theorem Nx (p en:Nat) (a:Int) (ts:List Tok) (g b:Nat) (w:World) (hP:be w p en ts g b):gC Tryz.prog 25 [bH p,.int .i64 a] w (iR w p en g b ts (gy en a ts) fun k v _=>v= .int .i64 k) (iD w p en g b (gy en a ts)):=by
 have hpl:=hP.lt;have htk0:=hP.tk;have hb:=Kp.refl p w;refine enter Tryz.func25 rfl rfl rfl<|am fun aR=>an rfl<|al aR<|am fun bt=>ai rfl<|dQ TO rfl rfl (QL p en 3 (by decide) ts g b _ hP) rfl (fun v_ cB cc=>?_) (fun c_ cB cg=>?_)
 rotate_left
 ·
  obtain ⟨pV,p3,jt,rfl,jw,aw⟩:=cg;have gK:=aw.size;have hb:=hb.trans aw;refine cJ<|eH ?_
  exact dY ⟨_,_,by unfold gy;rw [jt],rfl,jw,hb⟩
 obtain ⟨⟨t,r,hF,rfl,hP,hrl⟩,aw⟩:=cc;have gK:=aw.size;have hb:=hb.trans aw;refine bT (z:=fx) (by kernel_rfl) rfl ?_;rintro dq ks jH aE ck;have:=ck.size;have hP:=hP.below ck;replace ck:=Below.kp (p:=p) ck;have hb:=hb.trans ck;have:=aE.lt
 have htl:t.t.length≤65536:=by
  have h1:t=aN en ts∧r=ts.tail∧(aN en ts).k=3:=by
   unfold mQ at hF
   split at hF
   · rename_i hk;injection hF with h1 h2;exact ⟨h1.symm,h2.symm,hk⟩
   · cases hF
  rw [h1.1]
  cases ts with
  |nil=>exact Nat.zero_le _
  |cons x y=>exact htk0 x (List.mem_cons_self ..)
 refine ba (by kernel_rfl) rfl rfl aE rfl rfl ?_;rintro du aE aF;have:=aF.size;have hb:=bp hb aF (by omega);have hP:=be.over hP aF (by omega);refine al bt<|am fun dV=>ae (aP (r8 _) rfl) rfl<|aG (aS di rfl (by exact aE.at (j:=1) rfl)) rfl<|aD FR rfl rfl (D5 t.t (by omega) _ hP.lb) rfl ?_
 rintro _ cU ⟨⟨u,n,ok,rfl,hr⟩,aL⟩;have:=aL.size;have hP:=be.below hP aL;have aE:=ak.below aE aL;replace aL:=Below.kp (p:=p) aL;have hb:=hb.trans aL;refine ai rfl<|ae (cu rfl rfl) rfl<|ae (cu rfl rfl) rfl<|ae (cu rfl rfl) rfl<|bT (z:=mO) (by kernel_rfl) rfl ?_
 rintro fJ Ae qf cq gc;have:=gc.size;have hP:=hP.below gc;have aE:=aE.below gc;replace gc:=Below.kp (p:=p) gc;have hb:=hb.trans gc;have:=cq.lt;refine ba (by kernel_rfl) rfl rfl cq rfl rfl ?_;rintro ff cq bc;have:=bc.size;have hb:=bp hb bc (by omega);have hP:=be.over hP bc (by omega);have aE:=aE.over bc (by omega);refine an rfl<|an rfl<|al dV<|av fun _ dG=>av fun _ fC=>?_
 obtain ⟨hlit,hno⟩:=Fv hr;refine cR (X:=Bool) (fun q=> [(0,bH p),(1,.int .i64 a),(6,.pointer (some ⟨fJ,0,none⟩)),(27,.bool q)]) (fun q wr=>q=decide (¬(u.k=2∧n=t.t.length))∧Kp p w wr∧be wr p en r g b∧ak wr fJ 25 u.cells) (fun _ Cy=>?_) ?_
 ·
  refine aQ<|ae (aP (Pl _) rfl) rfl<|aG (aS b0 rfl (by exact cq.at (j:=0) rfl)) rfl<|ae (fG rfl rfl) rfl<|ai rfl<|dy rfl rfl rfl (fun m4=>?_) (fun m4=>?_)
  ·
   have kc:=m4;simp only [DZ] at m4;refine az rfl rfl kc rfl rfl<|az rfl rfl kc rfl rfl<|az rfl rfl kc rfl rfl<|az rfl rfl kc rfl rfl<|ae (bo rfl kc rfl) rfl<|ay<|a7 Cy (decide (¬(u.k=2∧n=t.t.length))) (by repeat first|exact aC|refine aA rfl (by first|rfl|exact a8 (by rw [Bool.eq_iff_iff];simp<;>omega)) ?_) ?_
   exact ⟨rfl,hb,hP,cq⟩
  have kc:=m4;simp only [DZ] at m4;refine ai rfl<|ap rfl rfl kc<|ae (aP (r8 _) rfl) rfl<|ap rfl rfl kc<|aG (aS di rfl (by exact aE.at (j:=1) rfl)) rfl<|ap rfl rfl kc<|ae (ez bI (by omega) rfl) rfl<|ap rfl rfl kc<|ae (fG rfl rfl) rfl<|ae (bj rfl kc rfl) rfl<|ay<|a7 Cy (decide (¬(u.k=2∧n=t.t.length))) (by repeat first|exact aC|refine aA rfl (by first|rfl|exact a8 (by rw [Bool.eq_iff_iff];simp<;>omega)) ?_) ?_
  exact ⟨rfl,hb,hP,cq⟩
 rintro q wr lH;replace lH:q=decide (¬(u.k=2∧n=t.t.length))∧Kp p w wr∧be wr p en r g b∧ak wr fJ 25 u.cells:=lH;obtain ⟨hq,hb,hP,cq⟩:=lH;show Wq _ _ _ _ [(0,bH p),(1,.int .i64 a),(6,.pointer (some ⟨fJ,0,none⟩)),(27,.bool q)] _;have:=hb.size;have:=cq.lt;refine ax fC<|aO rfl (fun nq=>?_) (fun nq=>?_)
 ·
  have sS:=nq;have hq0:=of_decide_eq_true (hq.symm.trans sS)
  have hf:gy en a ts= .err a 2:=by
   by_cases hz:ok=true∧n=t.t.length
   · simp only [gy,hF,hlit,if_pos hz];exact if_neg (fun e=>hq0 ⟨e,hz.2⟩)
   · simp only [gy,hF,hlit,if_neg hz]
  refine aQ<|ai rfl<|ae (cC (z:=tI) (pl:= [(0,1),(1,1)]) (cs:= [_,_]) kU (by kernel_rfl) (by kernel_rfl) rfl rfl rfl) rfl<|ae (pP kU (by intro _ h;cases h) rfl) rfl<|sO rfl<|cJ<|eH ?_
  exact dY ⟨_,_,hf,rfl,⟨_,hP⟩,hb⟩
 have sS:=nq;have hq0:=Classical.not_not.1 (of_decide_eq_false (hq.symm.trans sS))
 have hok:ok=true:=by
  cases ok with
  |true=>rfl
  |false=>have:=hno rfl;rw [this] at hq0;exact absurd hq0.1 (by decide)
 have hf:gy en a ts= .ok u.n r:=by
  simp only [gy,hF,hlit,if_pos (⟨hok,hq0.2⟩:ok=true∧n=t.t.length)];exact if_pos hq0.1
 refine aU<|ax dG<|am fun kj=>ae (aP (I0 _) rfl) rfl<|aG (aS Mt rfl (by exact cq.at (j:=1) rfl)) rfl<|an rfl<|al kj<|aJ<|bN rfl rfl ?_
 exact eY ⟨⟨_,_,hf,rfl,hP,hrl⟩,hb⟩
theorem zw:One Tryz.prog 167:=⟨_,Tryz.underlying167,rfl,by kernel_rfl⟩
mutual
def aY (w:World) (S:Nat→Prop):b6→List Value→Prop
 | .mk k nm v kids,cs=>∃A c kcs,cs= [.int .i64 k,str nm,.int .i64 v.k,.int .i64 v.n,.float .f64 v.f,str v.s,.slice A kids.length c]∧Rd w 7 A kids.length kcs∧(∀q,A=some q→S q.block)∧eQ w S kids kcs∧kids.length≤65537
def eQ (w:World) (S:Nat→Prop):List b6→List Value→Prop
 | [],xs=>xs= []
 |e :: r,xs=>∃c ys,xs=c++ys∧aY w S e c∧eQ w S r ys
end
structure gn (w w':World) (S:Nat→Prop):Prop where
 rd:∀sz A n xs,Rd w sz A n xs→(∀q:Addr,A=some q→S q.block)→Rd w' sz A n xs
mutual
theorem aY.lift {w w':World} {S S':Nat→Prop} (hk:gn w w' S) (hS:∀k,S k→S' k):∀{e:b6} {cs:List Value},aY w S e cs→aY w' S' e cs
 | .mk k nm v kids,cs,h=>by
  unfold aY at h ⊢;obtain ⟨A,c,kcs,h1,h2,h3,h4,h5⟩:=h;exact ⟨A,c,kcs,h1,hk.rd _ _ _ _ h2 h3,fun q e=>hS _ (h3 q e),eQ.lift hk hS h4,h5⟩
theorem eQ.lift {w w':World} {S S':Nat→Prop} (hk:gn w w' S) (hS:∀k,S k→S' k):∀{l:List b6} {cs:List Value},eQ w S l cs→eQ w' S' l cs
 | [],cs,h=>by unfold eQ at h ⊢;exact h
 |e :: r,cs,h=>by
  unfold eQ at h ⊢;obtain ⟨c,ys,h1,h2,h3⟩:=h;exact ⟨c,ys,h1,aY.lift hk hS h2,eQ.lift hk hS h3⟩
end
theorem gn.refl (w:World) (S:Nat→Prop):gn w w S:=⟨fun _ _ _ _ h _=>h⟩
theorem gn.below {w w':World} (hb:Below w.heap.size w w') (S:Nat→Prop):gn w w' S:=⟨fun _ _ _ _ h _=>h.below hb⟩
theorem gn.kp {w w':World} {p:Nat} {S:Nat→Prop} (hk:Kp p w w') (hp:¬S p):gn w w' S:=⟨fun _ _ _ _ h h2=>h.kp hk (fun q e=>fun h3=>hp (h3 ▸ h2 q e))⟩
section
variable {w w':World} {S:Nat→Prop} {p:Nat} {e:b6} {l:List b6} {cs:List Value}
theorem aY.mono {S':Nat→Prop} (h:aY w S e cs) (hS:∀k,S k→S' k):aY w S' e cs:=aY.lift (gn.refl _ _) hS h
theorem aY.below (h:aY w S e cs) (hb:Below w.heap.size w w'):aY w' S e cs:=aY.lift (gn.below hb _) (fun _ h=>h) h
theorem aY.kp (h:aY w S e cs) (hk:Kp p w w') (hp:¬S p):aY w' S e cs:=aY.lift (gn.kp hk hp) (fun _ h=>h) h
theorem eQ.mono {S':Nat→Prop} (h:eQ w S l cs) (hS:∀k,S k→S' k):eQ w S' l cs:=eQ.lift (gn.refl _ _) hS h
theorem eQ.below (h:eQ w S l cs) (hb:Below w.heap.size w w'):eQ w' S l cs:=eQ.lift (gn.below hb _) (fun _ h=>h) h
end
theorem UZ (w:World) (S:Nat→Prop) (k:Int) (nm:ao) (v:c7):aY w S (.mk k nm v []) [.int .i64 k,str nm,.int .i64 v.k,.int .i64 v.n,.float .f64 v.f,str v.s,.slice none 0 0]:=by
 unfold aY eQ;exact ⟨none,0,[],rfl,Rd.nil _ _ _,fun q e=>(by cases e),rfl,Nat.zero_le _⟩
theorem aY.node {w:World} {S:Nat→Prop} {gk n c:Nat} {k:Int} {nm:ao} {v:c7} {kids:List b6} {kcs:List Value} (hn:n=kids.length) (hR:Rd w 7 (some ⟨gk,0,none⟩) kids.length kcs) (hg:S gk) (hL:eQ w S kids kcs) (hk:kids.length≤65537:=by simp):
 aY w S (.mk k nm v kids) [.int .i64 k,str nm,.int .i64 v.k,.int .i64 v.n,.float .f64 v.f,str v.s,.slice (some ⟨gk,0,none⟩) n c]:=by
 subst hn
 unfold aY
 exact ⟨_,c,kcs,rfl,hR,fun q e=>(by cases e;exact hg),hL,hk⟩
theorem eQ.one {w:World} {S:Nat→Prop} {e:b6} {cs:List Value} (h:aY w S e cs):eQ w S [e] cs:=by
 unfold eQ eQ;exact ⟨cs,[],by simp,h,rfl⟩
theorem tX {w:World} {S:Nat→Prop} {e f:b6} {cs ds:List Value} (h:aY w S e cs) (h2:aY w S f ds):eQ w S [e,f] (cs++ds):=by
 unfold eQ eQ eQ;exact ⟨cs,ds,rfl,h,ds,[],by simp,h2,rfl⟩
def Em (p:Nat):Addr:=(⟨p,0,none⟩:Addr).add 3
def E0 (p:Nat):Addr:=(⟨p,0,none⟩:Addr).add 2
def N4 (w:World) (p en g b n:Nat) (a:Int) (c:List PanicEntry) (w':World):Prop:=∃a' e,(50≤n∧a'=a∧e=6)∧c=Nv a' e∧(∃r,be w' p en r g b)∧Kp p w w'
theorem agR (p en:Nat) (ts:List Tok) (g b:Nat) (a:Int) (w:World) (hP:be w p en ts g b):gC Tryz.prog 135 [.pointer (some (Em p)),.int .i64 a] w (fun v w'=>(∃gx,v= .func (.func 169) #[] #[.pointer (some ⟨gx,0,none⟩)]∧ak w' gx 167 [.pointer (some (Em p))]∧w.heap.size≤gx∧be w' p en ts g (b+1)∧b<50)∧Kp p w w') (N4 w p en g b b a):=by
 have hpl:=hP.lt;have hb:=Kp.refl p w;refine enter Tryz.func135 rfl rfl rfl<|am fun aR=>gp rfl rfl ?_
 rintro au dJ dH ab aM;have:=aM.size;have hP:=hP.below aM;replace aM:=Below.kp (p:=p) aM;have hb:=hb.trans aM;have:=ab.lt;refine an rfl<|al aR<|av fun _ b8=>av fun _ dC=>?_
 obtain ⟨A,c,h1,h2,hPb,hPr,h5⟩:=hP.ex;refine aQ<|aG (aS zw rfl (by exact ab.at (j:=0) rfl)) rfl<|ae (cI rfl) rfl<|aG (aS b0 rfl (by exact hPb.at (j:=3) rfl)) rfl<|ae (f7 rfl rfl) rfl<|al dC<|aO rfl (fun dA=>?_) (fun dA=>?_)
 ·
  have lp:=dA;simp only [DZ] at dA;refine aQ<|ai rfl<|ae (cC (z:=tI) (pl:= [(0,1),(1,1)]) (cs:= [_,_]) kU (by kernel_rfl) (by kernel_rfl) rfl rfl rfl) rfl<|ae (pP kU (by intro _ h;cases h) rfl) rfl<|sO rfl<|cJ<|eH ?_
  exact dY ⟨_,_,⟨by have:=dA;omega,rfl,rfl⟩,rfl,⟨_,hP⟩,hb⟩
 have lp:=dA;simp only [DZ] at dA;refine aU<|ax b8<|am fun fd=>aG (aS zw rfl (by exact ab.at (j:=0) rfl)) rfl<|ae (cI rfl) rfl<|aG (aS b0 rfl (by exact hPb.at (j:=3) rfl)) rfl<|ae (bW (ct rfl rfl (by omega) (by omega)) (aH (show _=((b+1:Nat):Int) by omega))) rfl<|ae (cI rfl) rfl<|fV b0 rfl rfl rfl hPb (by show 3<4;decide) ?_
 rintro du tC aF;have:=aF.size;have hb:=bp hb aF (by omega);have ab:=ab.over aF (by omega);have hPb:=tC;refine al fd<|av fun _ eM=>?_
 have hP:be du p en ts g (b+1):=⟨⟨A,c,h1,h2,hPb,hPr.kp aF (fun q e=>by have:=h5 q e;omega),h5⟩,hP.lb.kp aF hP.gl,hP.gl,hP.tk⟩;refine aQ<|ae (nj rfl rfl) rfl<|an rfl<|al eM<|aJ<|bN rfl rfl ?_
 exact eY ⟨⟨_,rfl,ab,by omega,hP,by have:=dA;omega⟩,hb⟩
theorem agS (p en:Nat) (ts:List Tok) (g b:Nat) (a:Int) (w:World) (hP:be w p en ts g b):gC Tryz.prog 135 [.pointer (some (E0 p)),.int .i64 a] w (fun v w'=>(∃gx,v= .func (.func 169) #[] #[.pointer (some ⟨gx,0,none⟩)]∧ak w' gx 167 [.pointer (some (E0 p))]∧w.heap.size≤gx∧be w' p en ts (g+1) b∧g<50)∧Kp p w w') (N4 w p en g b g a):=by
 have hpl:=hP.lt;have hb:=Kp.refl p w;refine enter Tryz.func135 rfl rfl rfl<|am fun aR=>gp rfl rfl ?_
 rintro au dJ dH ab aM;have:=aM.size;have hP:=hP.below aM;replace aM:=Below.kp (p:=p) aM;have hb:=hb.trans aM;have:=ab.lt;refine an rfl<|al aR<|av fun _ b8=>av fun _ dC=>?_
 obtain ⟨A,c,h1,h2,hPb,hPr,h5⟩:=hP.ex;refine aQ<|aG (aS zw rfl (by exact ab.at (j:=0) rfl)) rfl<|ae (cI rfl) rfl<|aG (aS b0 rfl (by exact hPb.at (j:=2) rfl)) rfl<|ae (f7 rfl rfl) rfl<|al dC<|aO rfl (fun dA=>?_) (fun dA=>?_)
 ·
  have lp:=dA;simp only [DZ] at dA;refine aQ<|ai rfl<|ae (cC (z:=tI) (pl:= [(0,1),(1,1)]) (cs:= [_,_]) kU (by kernel_rfl) (by kernel_rfl) rfl rfl rfl) rfl<|ae (pP kU (by intro _ h;cases h) rfl) rfl<|sO rfl<|cJ<|eH ?_
  exact dY ⟨_,_,⟨by have:=dA;omega,rfl,rfl⟩,rfl,⟨_,hP⟩,hb⟩
 have lp:=dA;simp only [DZ] at dA;refine aU<|ax b8<|am fun fd=>aG (aS zw rfl (by exact ab.at (j:=0) rfl)) rfl<|ae (cI rfl) rfl<|aG (aS b0 rfl (by exact hPb.at (j:=2) rfl)) rfl<|ae (bW (ct rfl rfl (by omega) (by omega)) (aH (show _=((g+1:Nat):Int) by omega))) rfl<|ae (cI rfl) rfl<|fV b0 rfl rfl rfl hPb (by show 2<4;decide) ?_
 rintro du tC aF;have:=aF.size;have hb:=bp hb aF (by omega);have ab:=ab.over aF (by omega);have hPb:=tC;refine al fd<|av fun _ eM=>?_
 have hP:be du p en ts (g+1) b:=⟨⟨A,c,h1,h2,hPb,hPr.kp aF (fun q e=>by have:=h5 q e;omega),h5⟩,hP.lb.kp aF hP.gl,hP.gl,hP.tk⟩;refine aQ<|ae (nj rfl rfl) rfl<|an rfl<|al eM<|aJ<|bN rfl rfl ?_
 exact eY ⟨⟨_,rfl,ab,by omega,hP,by have:=dA;omega⟩,hb⟩
theorem RI (p en:Nat) (ts:List Tok) (g b gx:Nat) (w:World) (hP:be w p en ts g (b+1)) (hb0:b<50) (hx:p<gx) (hB:ak w gx 167 [.pointer (some (Em p))]):pR Tryz.prog 169 [.pointer (some ⟨gx,0,none⟩)] w fun w'=>be w' p en ts g b∧Kp p w w':=by
 have hpl:=hP.lt;obtain ⟨A,c,h1,h2,hPb,hPr,h5⟩:=hP.ex;have hb:=Kp.refl p w;refine O5 Tryz.func169 rfl rfl rfl<|aQ<|aG (aS zw rfl (by exact hB.at (j:=0) rfl)) rfl<|ae (cI rfl) rfl<|aG (aS b0 rfl (by exact hPb.at (j:=3) rfl)) rfl<|ae (bW (iQ rfl rfl (by omega) (by omega)) (aH (show _=(b:Int) by omega))) rfl<|ae (cI rfl) rfl<|fV b0 rfl rfl rfl hPb (by show 3<4;decide) ?_
 rintro du tC aF;have:=aF.size;have hb:=bp hb aF (by omega);have hPb:=tC;refine ay<|o4 rfl ?_
 exact ⟨_,rfl,⟨⟨A,c,h1,h2,hPb,hPr.kp aF (fun q e=>by have:=h5 q e;omega),h5⟩,hP.lb.kp aF hP.gl,hP.gl,hP.tk⟩,hb⟩
theorem RK (p en:Nat) (ts:List Tok) (g b gx:Nat) (w:World) (hP:be w p en ts (g+1) b) (hb0:g<50) (hx:p<gx) (hB:ak w gx 167 [.pointer (some (E0 p))]):pR Tryz.prog 169 [.pointer (some ⟨gx,0,none⟩)] w fun w'=>be w' p en ts g b∧Kp p w w':=by
 have hpl:=hP.lt;obtain ⟨A,c,h1,h2,hPb,hPr,h5⟩:=hP.ex;have hb:=Kp.refl p w;refine O5 Tryz.func169 rfl rfl rfl<|aQ<|aG (aS zw rfl (by exact hB.at (j:=0) rfl)) rfl<|ae (cI rfl) rfl<|aG (aS b0 rfl (by exact hPb.at (j:=2) rfl)) rfl<|ae (bW (iQ rfl rfl (by omega) (by omega)) (aH (show _=(g:Int) by omega))) rfl<|ae (cI rfl) rfl<|fV b0 rfl rfl rfl hPb (by show 2<4;decide) ?_
 rintro du tC aF;have:=aF.size;have hb:=bp hb aF (by omega);have hPb:=tC;refine ay<|o4 rfl ?_
 exact ⟨_,rfl,⟨⟨A,c,h1,h2,hPb,hPr.kp aF (fun q e=>by have:=h5 q e;omega),h5⟩,hP.lb.kp aF hP.gl,hP.gl,hP.tk⟩,hb⟩
end Go.Proofs.YtjdjliiolchciaaGreatDoor
namespace Go.Proofs.YtjdjliiolchciaaGreatDoor
open Go.RowKit Go.Bw Go.Bw.Fl
set_option linter.unusedVariables false
set_option linter.unusedSimpArgs false
theorem afB:bB Tryz.prog 206:=⟨_,Tryz.func206,by kernel_rfl,rfl⟩
theorem TK:bB Tryz.prog 207:=⟨_,Tryz.func207,by kernel_rfl,rfl⟩
def pC (c:UInt8):UInt8:=if 65≤c.toNat∧c.toNat≤90 then c+32 else c
theorem Mc {s:ao} {i:Nat} (h:i<s.length):ip (s.take (i+1))=ip (s.take i)++ [pC (s.getD i 0)]:=by
 unfold ip;rw [S7 0 h,List.map_append];rfl
theorem C0 {s:ao} {k i:Nat} (hk:k≤i) (hi:i≤s.length) (h:∀j,k≤j→j<i→pC (s.getD j 0)=s.getD j 0):ip (s.take i)=ip (s.take k)++(s.take i).drop k:=by
 induction i with
 |zero=>rw [show k=0 by omega];simp
 |succ i ih=>
  by_cases e:k=i+1
  · subst e;rw [List.drop_eq_nil_of_le (by rw [List.length_take];omega),List.append_nil]
  · rw [Mc (by omega),ih (by omega) (by omega) (fun j h1 h2=>h j h1 (by omega)),h i (by omega) (by omega),S7 0 (by omega:i<s.length),List.drop_append_of_le_length (by rw [List.length_take];omega),List.append_assoc]
theorem acM {c:UInt8} (h:65≤c.toNat∧c.toNat≤90):pC c=c+32∧(c+32).toNat=c.toNat+32:=by
 refine ⟨if_pos h,?_⟩;rw [UInt8.toNat_add];show (c.toNat+32) % 256=_;omega
theorem Q7 {c:UInt8} (h:¬(65≤c.toNat∧c.toNat≤90)):pC c=c:=if_neg h
theorem acN {s:ao} (h:∀j,j<s.length→pC (s.getD j 0)=s.getD j 0):ip s=s:=by
 have:=C0 (s:=s) (k:=0) (i:=s.length) (by omega) (Nat.le_refl _) (fun j _ hj=>h j hj);rw [List.take_length] at this;rw [this];simp [ip]
theorem VP (s:ao) (ha:∀j,j<s.length→(s.getD j 0).toNat<128) (hs:s.length≤65536) (w:World):bx Tryz.prog 202 [str s] w fun v w'=>v=str (ip s)∧Below w.heap.size w w':=by
 have hb:=Below.refl w.heap.size w;refine enter Tryz.func202 rfl rfl rfl<|am fun aR=>an rfl<|al aR<|am fun bt=>an rfl<|an rfl<|al bt<|av fun _ fi=>am fun dV=>an rfl<|al dV<|b4<|d9 (X:=Nat×Bool) (fun (i,q)=> [(0,str s),(3,.bool true),(4,.bool q),(5,.int .i64 (i:Int))]) (fun (i,q) wr=>i≤s.length∧(q=false→∀j,j<i→pC (s.getD j 0)=s.getD j 0)∧Below w.heap.size w wr) (fun (i,q)=>s.length - i) (⟨0,false⟩) ?_ ?_ ?_
 · exact by repeat first|exact aC|refine aA rfl (by first|rfl|exact aH (by omega)) ?_
 · exact ⟨by omega,fun _ j h=>by omega,hb⟩
 rintro ⟨i,q⟩ wr jW _ nV;replace jW:i≤s.length∧(q=false→∀j,j<i→pC (s.getD j 0)=s.getD j 0)∧Below w.heap.size w wr:=jW;obtain ⟨hi,hq,hb⟩:=jW;show Wc _ _ _ _ _ [(0,str s),(3,.bool true),(4,.bool q),(5,.int .i64 (i:Int))] _;have:=hb.size;refine av fun _ dT=>am fun dU=>ai rfl<|ai rfl<|ae (ez bI (by omega) rfl) rfl<|ae (dL rfl rfl) rfl<|al dU<|aO rfl (fun dD=>?_) (fun dD=>?_)
 ·
  have kx:=dD;simp only [DZ] at dD;have hil:i<s.length:=by have:=dD;omega
  obtain ⟨c,hc⟩:∃c,c=s.getD i 0:=⟨_,rfl⟩;have hca:=ha i hil;rw [←hc] at hca;refine aU<|ax dT<|av fun _ dG=>b4<|am fun fC=>ai rfl<|ai rfl<|ae (bW (fP bI rfl rfl (by omega) (by omega)) (aH (show _=(c.toNat:Int) by rw [hc,Int.toNat_natCast]))) rfl<|an rfl<|al fC<|av fun _ fT=>am fun gu=>ai rfl<|ae (f7 rfl rfl) rfl<|al gu<|aO rfl (fun gE=>?_) (fun gE=>?_)
  ·
   have rU:=gE;simp only [DZ] at gE
   (have:=gE;omega)
  refine aU<|ax fT<|cR (X:=Bool) (fun q2=> [(0,str s),(3,.bool true),(4,.bool q2),(5,.int .i64 (i:Int))]) (fun q2 wr=>q2=(q||decide (65≤c.toNat∧c.toNat≤90))∧Below w.heap.size w wr) (fun _ K4=>?_) ?_
  ·
   refine aQ<|ai rfl<|ai rfl<|dy rfl rfl rfl (fun kZ=>?_) (fun kZ=>?_)
   ·
    have fW:=kZ;refine az rfl rfl fW rfl rfl<|az rfl rfl fW rfl rfl<|bY rfl rfl rfl<|bY rfl rfl rfl<|az rfl rfl fW rfl rfl<|ae (bo rfl fW rfl) rfl<|an rfl<|ay<|a7 K4 (q||decide (65≤c.toNat∧c.toNat≤90)) (by repeat first|exact aC|refine aA rfl (by first|rfl|exact a8 (by rw [Bool.eq_iff_iff];simp_all<;>omega)) ?_) ?_
    exact ⟨rfl,hb⟩
   have fW:=kZ;refine ai rfl<|ap rfl rfl fW<|ae (iu rfl rfl) rfl<|ap rfl rfl fW<|ai rfl<|cG rfl rfl rfl (fun qV=>?_) (fun qV=>?_)
   ·
    refine ai rfl<|ap rfl rfl qV<|ae (iu rfl rfl) rfl<|ap rfl rfl fW<|ae (bo rfl qV rfl) rfl<|ae (bj rfl fW rfl) rfl<|an rfl<|ay<|a7 K4 (q||decide (65≤c.toNat∧c.toNat≤90)) (by repeat first|exact aC|refine aA rfl (by first|rfl|exact a8 (by rw [Bool.eq_iff_iff];simp_all<;>omega)) ?_) ?_
    exact ⟨rfl,hb⟩
   refine az rfl rfl qV rfl rfl<|ap rfl rfl fW<|ae (bj rfl qV rfl) rfl<|ae (bj rfl fW rfl) rfl<|an rfl<|ay<|a7 K4 (q||decide (65≤c.toNat∧c.toNat≤90)) (by repeat first|exact aC|refine aA rfl (by first|rfl|exact a8 (by rw [Bool.eq_iff_iff];simp_all<;>omega)) ?_) ?_
   exact ⟨rfl,hb⟩
  rintro q2 wr rg;replace rg:q2=(q||decide (65≤c.toNat∧c.toNat≤90))∧Below w.heap.size w wr:=rg;obtain ⟨hq2,hb⟩:=rg;show Wq _ _ _ _ [(0,str s),(3,.bool true),(4,.bool q2),(5,.int .i64 (i:Int))] _;have:=hb.size
  have hq3:q2=false→∀j,j<i+1→pC (s.getD j 0)=s.getD j 0:=fun h j hj=>by
   rw [hq2,Bool.or_eq_false_iff,decide_eq_false_iff_not] at h;by_cases e:j=i
   · rw [e,←hc];exact Q7 h.2
   · exact hq h.1 j (by omega)
  refine cD<|ax dG<|aQ<|ai rfl<|ae (ct rfl rfl (by omega) (by omega)) rfl<|an rfl<|ay<|fun a_ bM=>nV _ _ (⟨i+1,q2⟩) (by simp;omega) (by repeat first|exact aC|refine aA rfl (by first|rfl|exact aH (by omega)) ?_) ?_ a_ bM
  exact ⟨by omega,hq3,hb⟩
 have kx:=dD;simp only [DZ] at dD;refine d2<|cj<|cj<|d3<|ax fi<|av fun _ m6=>am fun po=>ai rfl<|al po<|aO rfl (fun OD=>?_) (fun OD=>?_)
 ·
  refine av fun _ kI=>am fun kJ=>ai rfl<|ae (jd rfl) rfl<|al kJ<|aO rfl (fun OF=>?_) (fun OF=>?_)
  ·
   refine am fun nQ=>ai rfl<|an rfl<|al nQ<|aJ<|aX (aX ?_)
   refine bN rfl rfl ?_;exact ⟨_,rfl,d5 (acN fun j hj=>hq (by simpa using OF) j (by have:=dD;omega)).symm,hb⟩
  refine aU<|ax kI<|am fun jv=>bT (z:=Q2) (by kernel_rfl) rfl ?_
  rintro dO Ns Lj br gb;have:=gb.size;have hb:=aZ hb gb;have:=br.lt;refine al jv<|am fun pt=>an rfl<|al pt<|am fun nS=>ai rfl<|ae (ez bI (by omega) rfl) rfl<|aD afB rfl rfl (U2 w.heap.size dO s.length _ (by omega) br hb.size (by omega)) rfl ?_
  rintro _ w2 ⟨rfl,hI,hs2⟩;refine al nS<|av fun _ ro=>av fun _ tv=>?_
  have hb:=hb.trans hs2;refine aQ<|an rfl<|al tv<|b4<|d9 (X:=Nat×Nat×ao) (fun (k,i,l)=> [(0,str s),(7,.pointer (some ⟨dO,0,none⟩)),(8,.int .i64 (k:Int)),(9,.int .i64 (i:Int))]) (fun (k,i,l) wr=>k≤i∧i≤s.length∧l=ip (s.take k)∧(∀j,k≤j→j<i→pC (s.getD j 0)=s.getD j 0)∧Below w.heap.size w wr∧Lib.IsBuilder 116 5 w.heap.size dO (Lib.byteCells l) wr) (fun (k,i,l)=>s.length - i) (⟨0,0,[]⟩) ?_ ?_ ?_
  · exact by repeat first|exact aC|refine aA rfl (by first|rfl|exact aH (by omega)) ?_
  · exact ⟨by omega,by omega,by simp [ip],fun j h1 h2=>by omega,hb,hI⟩
  rintro ⟨k,i,l⟩ wr xw _ K1;replace xw:k≤i∧i≤s.length∧l=ip (s.take k)∧(∀j,k≤j→j<i→pC (s.getD j 0)=s.getD j 0)∧Below w.heap.size w wr∧Lib.IsBuilder 116 5 w.heap.size dO (Lib.byteCells l) wr:=xw;obtain ⟨hki,hi,hl,hsame,hb,hI⟩:=xw;show Wc _ _ _ _ _ [(0,str s),(7,.pointer (some ⟨dO,0,none⟩)),(8,.int .i64 (k:Int)),(9,.int .i64 (i:Int))] _;have:=hb.size;refine av fun _ nU=>am fun Co=>ai rfl<|ai rfl<|ae (ez bI (by omega) rfl) rfl<|ae (dL rfl rfl) rfl<|al Co<|aO rfl (fun lw=>?_) (fun lw=>?_)
  ·
   have wb:=lw;simp only [DZ] at lw;have hil:i<s.length:=by have:=lw;omega
   obtain ⟨c,hc⟩:∃c,c=s.getD i 0:=⟨_,rfl⟩;have hll:l.length=k:=by rw [hl];unfold ip;rw [List.length_map,List.length_take];omega
   refine aU<|ax nU<|av fun _ tx=>b4<|am fun mH=>ai rfl<|ai rfl<|ae (bW (fP bI rfl rfl (by omega) (by omega)) (aH (show _=(c.toNat:Int) by rw [hc,Int.toNat_natCast]))) rfl<|an rfl<|al mH<|av fun _ rr=>cR (X:=Bool) (fun q=> [(0,str s),(7,.pointer (some ⟨dO,0,none⟩)),(8,.int .i64 (k:Int)),(9,.int .i64 (i:Int)),(10,.int .u8 (c.toNat:Int)),(52,.bool q)]) (fun q wr=>q=decide (65≤c.toNat∧c.toNat≤90)∧Below w.heap.size w wr∧Lib.IsBuilder 116 5 w.heap.size dO (Lib.byteCells l) wr) (fun _ Qt=>?_) ?_
   ·
    refine aQ<|ai rfl<|ae (iu rfl rfl) rfl<|ai rfl<|cG rfl rfl rfl (fun BP=>?_) (fun BP=>?_)
    ·
     have BQ:=BP;simp only [DZ] at BP;refine ai rfl<|ap rfl rfl BQ<|ae (iu rfl rfl) rfl<|ae (bo rfl BQ rfl) rfl<|ay<|a7 Qt (decide (65≤c.toNat∧c.toNat≤90)) (by repeat first|exact aC|refine aA rfl (by first|rfl|exact a8 (by rw [Bool.eq_iff_iff];simp<;>omega)) ?_) ?_
     exact ⟨rfl,hb,hI⟩
    have BQ:=BP;simp only [DZ] at BP;refine az rfl rfl BQ rfl rfl<|ae (bj rfl BQ rfl) rfl<|ay<|a7 Qt (decide (65≤c.toNat∧c.toNat≤90)) (by repeat first|exact aC|refine aA rfl (by first|rfl|exact a8 (by rw [Bool.eq_iff_iff];simp<;>omega)) ?_) ?_
    exact ⟨rfl,hb,hI⟩
   rintro q wr xz;replace xz:q=decide (65≤c.toNat∧c.toNat≤90)∧Below w.heap.size w wr∧Lib.IsBuilder 116 5 w.heap.size dO (Lib.byteCells l) wr:=xz;obtain ⟨hq,hb,hI⟩:=xz;show Wq _ _ _ _ [(0,str s),(7,.pointer (some ⟨dO,0,none⟩)),(8,.int .i64 (k:Int)),(9,.int .i64 (i:Int)),(10,.int .u8 (c.toNat:Int)),(52,.bool q)] _;have:=hb.size;refine ax rr<|aO rfl (fun H4=>?_) (fun H4=>?_)
   ·
    have H5:=H4;have hup:=of_decide_eq_true (hq.symm.trans H5);obtain ⟨hlc,hl32⟩:=acM hup;refine am fun Zu=>ai rfl<|ae (bW (yz rfl rfl) (aH (show _=((c+32).toNat:Int) by rw [wrap_u8 _ (by omega) (by omega)];omega))) rfl<|an rfl<|al Zu<|av fun _ zb=>am fun Zv=>ai rfl<|ai rfl<|ae (dL rfl rfl) rfl<|al Zv<|aO rfl (fun wt=>?_) (fun wt=>?_)
    ·
     have XO:=wt;simp only [DZ] at wt;have hx6:=wt;refine aQ<|ai rfl<|ai rfl<|ai rfl<|ae (bW (sF bI rfl rfl rfl (by omega) (by omega) (by omega)) (d5 (show _=(s.take i).drop k by rw [Int.toNat_natCast,Int.toNat_natCast]))) rfl<|aD TK rfl rfl (Ob w.heap.size dO l ((s.take i).drop k) _ hI (by rw [List.length_drop,List.length_take];omega) hb.size) rfl ?_
     rintro _ w3 ⟨rfl,hI3,hs4⟩;refine al zb<|av fun _ xA=>?_
     have hb:=hb.trans hs4;obtain ⟨l3,hl3⟩:∃l3,l3=l++(s.take i).drop k:=⟨_,rfl⟩;rw [←hl3] at hI3;have hl4:l3=ip (s.take i):=by rw [hl3,hl];exact (C0 hki hi hsame).symm
     have hl3l:l3.length=i:=by rw [hl4];unfold ip;rw [List.length_map,List.length_take];omega
     refine aQ<|ai rfl<|aD FV rfl rfl (Ee w.heap.size dO l3 (c+32) _ hI3 (by omega) hb.size) rfl ?_
     rintro _ w4 ⟨rfl,hI2,hs5⟩;refine al xA ?_;have hb:=hb.trans hs5;obtain ⟨k2,hk2e⟩:∃k2,k2=i+1:=⟨_,rfl⟩;obtain ⟨l2,hl2e⟩:∃l2,l2=l3++ [c+32]:=⟨_,rfl⟩;rw [←hl2e] at hI2;have hk2:k2≤i+1:=by omega
     have hl2:l2=ip (s.take k2):=by rw [hl2e,hk2e,Mc hil,←hl4,←hc,hlc]
     have hs3:∀j,k2≤j→j<i+1→pC (s.getD j 0)=s.getD j 0:=fun j h1 h2=>by omega
     refine aQ<|ai rfl<|ae (ct rfl rfl (by omega) (by omega)) rfl<|an rfl<|ay<|cD<|ax tx<|aQ<|ai rfl<|ae (ct rfl rfl (by omega) (by omega)) rfl<|an rfl<|ay<|fun a_ bM=>K1 _ _ (⟨k2,i+1,l2⟩) (by show s.length - (i+1)<s.length - i;omega) (by repeat first|exact aC|refine aA rfl (by first|rfl|exact aH (by omega)) ?_) ?_ a_ bM
     exact ⟨hk2,by omega,hl2,hs3,hb,hI2⟩
    have XO:=wt;simp only [DZ] at wt;have hki2:k=i:=by have:=wt;omega
    have hI3:=hI;have hs4:=Below.refl w.heap.size wr;have hd:(s.take i).drop k= []:=List.drop_eq_nil_of_le (by rw [List.length_take];omega);rw [show l=l++(s.take i).drop k by rw [hd,List.append_nil]] at hI3;refine aU<|ax zb<|av fun _ B8=>?_
    have hb:=hb.trans hs4;obtain ⟨l3,hl3⟩:∃l3,l3=l++(s.take i).drop k:=⟨_,rfl⟩;rw [←hl3] at hI3;have hl4:l3=ip (s.take i):=by rw [hl3,hl];exact (C0 hki hi hsame).symm
    have hl3l:l3.length=i:=by rw [hl4];unfold ip;rw [List.length_map,List.length_take];omega
    refine aQ<|ai rfl<|aD FV rfl rfl (Ee w.heap.size dO l3 (c+32) _ hI3 (by omega) hb.size) rfl ?_
    rintro _ w4 ⟨rfl,hI2,hs5⟩;refine al B8 ?_;have hb:=hb.trans hs5;obtain ⟨k2,hk2e⟩:∃k2,k2=i+1:=⟨_,rfl⟩;obtain ⟨l2,hl2e⟩:∃l2,l2=l3++ [c+32]:=⟨_,rfl⟩;rw [←hl2e] at hI2;have hk2:k2≤i+1:=by omega
    have hl2:l2=ip (s.take k2):=by rw [hl2e,hk2e,Mc hil,←hl4,←hc,hlc]
    have hs3:∀j,k2≤j→j<i+1→pC (s.getD j 0)=s.getD j 0:=fun j h1 h2=>by omega
    refine aQ<|ai rfl<|ae (ct rfl rfl (by omega) (by omega)) rfl<|an rfl<|ay<|cD<|ax tx<|aQ<|ai rfl<|ae (ct rfl rfl (by omega) (by omega)) rfl<|an rfl<|ay<|fun a_ bM=>K1 _ _ (⟨k2,i+1,l2⟩) (by show s.length - (i+1)<s.length - i;omega) (by repeat first|exact aC|refine aA rfl (by first|rfl|exact aH (by omega)) ?_) ?_ a_ bM
    exact ⟨hk2,by omega,hl2,hs3,hb,hI2⟩
   have H5:=H4;have hup:=of_decide_eq_false (hq.symm.trans H5);obtain ⟨k2,hk2e⟩:∃k2,k2=k:=⟨_,rfl⟩;obtain ⟨l2,hl2e⟩:∃l2,l2=l:=⟨_,rfl⟩;have hk2:k2≤i+1:=by omega
   have hl2:l2=ip (s.take k2):=by rw [hl2e,hk2e,hl]
   have hI2:=hI;rw [←hl2e] at hI2;have hs3:∀j,k2≤j→j<i+1→pC (s.getD j 0)=s.getD j 0:=fun j h1 h2=>by (by_cases e:j=i);(· rw [e,←hc];exact Q7 hup);(· exact hsame j (by omega) (by omega))
   refine aU<|cD<|ax tx<|aQ<|ai rfl<|ae (ct rfl rfl (by omega) (by omega)) rfl<|an rfl<|ay<|fun a_ bM=>K1 _ _ (⟨k2,i+1,l2⟩) (by show s.length - (i+1)<s.length - i;omega) (by repeat first|exact aC|refine aA rfl (by first|rfl|exact aH (by omega)) ?_) ?_ a_ bM
   exact ⟨hk2,by omega,hl2,hs3,hb,hI2⟩
  have wb:=lw;simp only [DZ] at lw;have hie:i=s.length:=by have:=lw;omega
  have hll:l.length=k:=by rw [hl];unfold ip;rw [List.length_map,List.length_take];omega
  refine d2<|cj<|cj<|d3<|ax ro<|av fun _ zd=>am fun Cb=>ai rfl<|ai rfl<|ae (ez bI (by omega) rfl) rfl<|ae (dL rfl rfl) rfl<|al Cb<|aO rfl (fun wF=>?_) (fun wF=>?_)
  ·
   have X0:=wF;simp only [DZ] at wF;have hx7:=wF;refine aQ<|ai rfl<|ai rfl<|ae (bW (tW bI rfl rfl (by omega) (by omega)) (d5 (show _=s.drop k by rw [Int.toNat_natCast]))) rfl<|aD TK rfl rfl (Ob w.heap.size dO l (s.drop k) _ hI (by rw [List.length_drop];omega) hb.size) rfl ?_
   rintro _ w3 ⟨rfl,hI4,hs4⟩;refine al zd<|av fun _ Cd=>?_
   have hb:=hb.trans hs4;have hfin:l++s.drop k=ip s:=by have h9:=C0 hki hi hsame;rw [hie,List.take_length] at h9;rw [hl];exact h9.symm
   rw [hfin] at hI4;refine aQ<|aD Nh rfl rfl (F8 w.heap.size dO (ip s) _ hI4 hb.size) rfl ?_
   rintro _ w5 ⟨rfl,hs6⟩;refine an rfl<|al Cd<|aJ<|aX<|bN rfl rfl ?_
   exact ⟨_,rfl,rfl,hb.trans hs6⟩
  have X0:=wF;simp only [DZ] at wF;have hki2:k=i:=by have:=wF;omega
  have hI4:=hI;have hs4:=Below.refl w.heap.size wr;have hd:s.drop k= []:=List.drop_eq_nil_of_le (by omega);rw [show l=l++s.drop k by rw [hd,List.append_nil]] at hI4;refine aU<|ax zd<|av fun _ xD=>?_
  have hb:=hb.trans hs4;have hfin:l++s.drop k=ip s:=by have h9:=C0 hki hi hsame;rw [hie,List.take_length] at h9;rw [hl];exact h9.symm
  rw [hfin] at hI4;refine aQ<|aD Nh rfl rfl (F8 w.heap.size dO (ip s) _ hI4 hb.size) rfl ?_
  rintro _ w5 ⟨rfl,hs6⟩;refine an rfl<|al xD<|aJ<|aX<|bN rfl rfl ?_
  exact ⟨_,rfl,rfl,hb.trans hs6⟩
 have Xk:=OD;exact absurd Xk (by decide)
end Go.Proofs.YtjdjliiolchciaaGreatDoor
