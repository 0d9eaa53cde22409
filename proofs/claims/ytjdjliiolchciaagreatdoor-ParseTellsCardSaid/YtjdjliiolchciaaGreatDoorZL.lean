import Derived.Test.YtjdjliiolchciaaGreatDoorZG
namespace Go.Proofs.YtjdjliiolchciaaGreatDoor
open Go.RowKit Go.Bw Go.Bw.Fl
set_option linter.unusedVariables false
set_option linter.unusedSimpArgs false
def jy:List (ao):= [[87,65,76,75],[84,82,65,73,76],[65,67,89,67,76,73,67],[83,73,77,80,76,69],[65,76,76],[65,78,89],[83,72,79,82,84,69,83,84],[87,72,69,82,69],[79,82],[65,78,68],[78,79,84],[73,83],[110,117,108,108],[116,114,117,101],[102,97,108,115,101],[105,110,102],[110,97,110]]
def mR:List (ao):= [[60,45,91],[60,126,91],[93,45,62],[93,126,62],[60,45,62],[45,91],[126,91],[93,45],[93,126],[45,62],[60,45],[60,126],[126,62],[60,61],[62,61],[60,62],[40],[41],[91],[93],[123],[125],[44],[58],[124],[38],[33],[37],[42],[43],[63],[61],[60],[62],[45],[126]]
def dx (c:UInt8):Bool:=decide (c.toNat=95∨(48≤c.toNat∧c.toNat≤57)∨(97≤bits .or .u8 (c.toNat:Int) 32∧bits .or .u8 (c.toNat:Int) 32≤122))
def dj (s:ao):Nat:=(s.takeWhile dx).length
theorem acb (c:UInt8) (h:dx c=true):c.toNat<123:=by
 have key:∀n:Fin 256,dx (UInt8.ofNat n.val)=true→n.val<123:=by decide +kernel
 have h2:=key ⟨c.toNat,UInt8.toNat_lt c⟩;rw [show UInt8.ofNat c.toNat=c from UInt8.ofNat_toNat] at h2;exact h2 h
theorem QW (s:ao):dj s≤s.length:=(List.takeWhile_sublist _).length_le
theorem QX {s:ao} {i:Nat} (hi:i≤s.length) (h:∀j,j<i→dx (s.getD j 0)=true) (hn:i<s.length→dx (s.getD i 0)=false):dj s=i:=by
 induction s generalizing i with
 |nil=>simp at hi;subst hi;rfl
 |cons c r ih=>
  cases i with
  |zero=>
   have:=hn (by simp);simp [List.getD] at this;simp [dj,List.takeWhile_cons,this]
  |succ i=>
   have h0:=h 0 (by omega);simp [List.getD] at h0;have hih:=ih (i:=i) (by simpa using hi) (fun j hj=>by have:=h (j+1) (by omega);simpa [List.getD] using this) (fun hlt=>by have:=hn (by simpa using hlt);simpa [List.getD] using this);unfold dj at hih ⊢;rw [List.takeWhile_cons,h0];simp [hih]
theorem QU (s:ao):∀c,c∈s.take (dj s)→dx c=true:=by
 intro c hc;have e:s.take (dj s)=s.takeWhile dx:=(List.prefix_iff_eq_take.1 (List.takeWhile_prefix dx)).symm;rw [e] at hc;exact List.all_eq_true.1 List.all_takeWhile c hc
def jc (s:ao):Bool:=decide (s≠ []∧s.length≤40∧¬(48≤(s.getD 0 0).toNat∧(s.getD 0 0).toNat≤57))
noncomputable def rdN (s:ao):Nat:=((dI pf de s).map (·.2)).getD 0
noncomputable def dP (s:ao):Nat×Nat:=
 if (s.getD 0 0).toNat=39∨(48≤(s.getD 0 0).toNat∧(s.getD 0 0).toNat≤57) then
  (if (s.getD 0 0).toNat=39∧0<rdN s then (4,rdN s)
   else if 0<max (rdN s) (rdN (45 :: s) - 1)∧(s.getD 0 0).toNat≠39 then (3,max (rdN s) (rdN (45 :: s) - 1)) else (0,0))
 else if 0<dj s then (if s.take (dj s)∈jy then (2,dj s) else if jc (s.take (dj s))=true then (1,dj s) else (0,0))
 else match mR.find? (fun x=>Lib.hasPrefix s x) with
  |some x=>(5,x.length)
  |none=>(0,0)
structure Tok where
 k:Nat
 t:ao
 a:Nat
def Tok.cells (t:Tok):List Value:= [.int .i64 (t.k:Int),str t.t,.int .i64 (t.a:Int)]
def Tok.enc (t:Tok):Value:= .agg t.cells.toArray
def blank (c:UInt8):Bool:=decide (c∈([32,9,13,10]:ao))
noncomputable def sq (s:ao) (at_:Nat):Nat→Except Nat (List Tok)
 |0=> .ok []
 |f+1=>match s with
  | []=> .ok []
  |c :: r=>if blank c=true then sq r (at_+1) f
   else if (dP (c :: r)).1=0∨(dP (c :: r)).2=0 then .error at_
   else (sq ((c :: r).drop (dP (c :: r)).2) (at_+(dP (c :: r)).2) f).map fun l=>⟨(dP (c :: r)).1,(c :: r).take (dP (c :: r)).2,at_⟩ :: l
theorem zL (s:ao):rdN s≤s.length:=by
 unfold rdN
 cases h:dI pf de s with
 |none=>simp
 |some r=>have:=Di (v:=r.1) (n:=r.2) h;simpa using this.2
theorem I3 {s x:ao} (h:mR.find? (fun x=>Lib.hasPrefix s x)=some x):Lib.hasPrefix s x=true∧0<x.length∧x.length≤3:=by
 refine ⟨List.find?_some h,?_⟩;have hm:=List.mem_of_find?_eq_some h;have key:∀y,y∈mR→0<y.length∧y.length≤3:=by decide
 exact key x hm
theorem Ds (s:ao) (hs:s≠ []):(dP s).2≤s.length∧((dP s).1=0↔(dP s).2=0)∧(dP s).1≤5:=by
 have h1:=zL s;have h2:=zL (45 :: s);simp only [List.length_cons] at h2;have h3:=QW s;unfold dP
 split
 · split
   · simp only;omega
   · split
     · simp only;omega
     · simp
 · split
   · split
     · simp only;omega
     · split
       · simp only;omega
       · simp
   · split
     · rename_i x hx
       obtain ⟨hp,h0,_⟩:=I3 hx;have:=Df hp;simp only;omega
     · simp
theorem L3:∀(f g:Nat) (s:ao) (i:Nat),s.length≤f→f≤g→sq s i g=sq s i f
 |0,0,s,i,_,_=>rfl
 |0,g+1,s,i,h,_=>by
  have:s= []:=List.length_eq_zero_iff.1 (by omega);subst this;rfl
 |f+1,0,s,i,_,h=>by omega
 |f+1,g+1,s,i,hs,hg=>by
  cases s with
  |nil=>rfl
  |cons c r=>
   simp only [List.length_cons] at hs;rw [sq,sq]
   split
   · exact L3 f g r (i+1) (by omega) (by omega)
   · split
     · rfl
     · rw [L3 f g _ _ (by simp only [List.length_drop,List.length_cons];omega) (by omega)]
noncomputable def eJ (s:ao) (i:Nat):Except Nat (List Tok):=sq s i s.length
theorem L7 (i:Nat):eJ [] i= .ok []:=rfl
theorem L5 {c:UInt8} {r:ao} (i:Nat) (h:blank c=true):eJ (c :: r) i=eJ r (i+1):=by
 unfold eJ;rw [List.length_cons,sq,if_pos h]
theorem L4 {c:UInt8} {r:ao} (i:Nat) (h:blank c=false) (h0:(dP (c :: r)).1=0):eJ (c :: r) i= .error i:=by
 unfold eJ;rw [List.length_cons,sq,if_neg (by rw [h];simp),if_pos (.inl h0)]
theorem L8 {c:UInt8} {r:ao} (i:Nat) (h:blank c=false) (h0:(dP (c :: r)).1≠0):eJ (c :: r) i=(eJ ((c :: r).drop (dP (c :: r)).2) (i+(dP (c :: r)).2)).map fun l=>⟨(dP (c :: r)).1,(c :: r).take (dP (c :: r)).2,i⟩ :: l:=by
 have hl:=Ds (c :: r) (by simp);unfold eJ;rw [List.length_cons,sq,if_neg (by rw [h];simp),if_neg (by omega),L3 _ r.length _ _ (Nat.le_refl _) (by simp only [List.length_drop,List.length_cons];omega)]
theorem TL:bB Tryz.prog 22:=⟨_,Tryz.func22,by kernel_rfl,rfl⟩
theorem acG (s:ao) (hs:s.length≤140737488355328) (w:World):bx Tryz.prog 40 [str s] w fun v w'=>v= .int .i64 (dj s:Nat)∧Below w.heap.size w w':=by
 have hb:=Below.refl w.heap.size w;refine enter Tryz.func40 rfl rfl rfl<|am fun aR=>an rfl<|al aR<|am fun bt=>an rfl<|al bt<|av fun _ dC=>b4<|d9 (X:=Nat) (fun i=> [(0,str s),(3,.int .i64 (i:Int))]) (fun i wr=>i≤s.length∧(∀j,j<i→dx (s.getD j 0)=true)∧Below w.heap.size w wr) (fun i=>s.length - i) (0) ?_ ?_ ?_
 · exact by repeat first|exact aC|refine aA rfl (by first|rfl|exact aH (by omega)) ?_
 · exact ⟨by omega,fun j h=>by omega,hb⟩
 rintro i wr xv _ KY;replace xv:i≤s.length∧(∀j,j<i→dx (s.getD j 0)=true)∧Below w.heap.size w wr:=xv;obtain ⟨hi,hall,hb⟩:=xv;show Wc _ _ _ _ _ [(0,str s),(3,.int .i64 (i:Int))] _;have:=hb.size;refine av fun _ eX=>av fun _ dW=>?_;obtain ⟨c,hc⟩:∃c,c=s.getD i 0:=⟨_,rfl⟩;refine cR (X:=Bool×UInt8) (fun (q,c)=> [(0,str s),(3,.int .i64 (i:Int)),(39,.bool q)]) (fun (q,c) wr=>q=decide (i<s.length∧dx c=true)∧c=s.getD i 0∧Below w.heap.size w wr) (fun _ rt=>?_) ?_
 ·
  refine aQ<|ai rfl<|ai rfl<|ae (ez bI (by omega) rfl) rfl<|ae (dL rfl rfl) rfl<|ai rfl<|cG rfl rfl rfl (fun ov=>?_) (fun ov=>?_)
  ·
   have eF:=ov;simp only [DZ] at ov;refine ai rfl<|ap rfl rfl eF<|ai rfl<|ap rfl rfl eF<|ae (bW (fP bI rfl rfl (by omega) (by omega)) (aH (show _=(c.toNat:Int) by rw [hc,Int.toNat_natCast]))) rfl<|ap rfl rfl eF<|ae (bX rfl rfl) rfl<|ap rfl rfl eF<|ai rfl<|dy rfl rfl rfl (fun Bq=>?_) (fun Bq=>?_)
   ·
    have nH:=Bq;simp only [DZ] at Bq;refine az rfl rfl nH rfl rfl<|az rfl rfl nH rfl rfl<|az rfl rfl nH rfl rfl<|az rfl rfl nH rfl rfl<|bY rfl rfl rfl<|bY rfl rfl rfl<|bY rfl rfl rfl<|bY rfl rfl rfl<|az rfl rfl nH rfl rfl<|ap rfl rfl eF<|ae (bo rfl nH rfl) rfl<|ap rfl rfl eF<|ai rfl<|az rfl rfl rfl rfl rfl<|az rfl rfl rfl rfl rfl<|az rfl rfl rfl rfl rfl<|az rfl rfl rfl rfl rfl<|az rfl rfl rfl rfl rfl<|az rfl rfl rfl rfl rfl<|bY rfl rfl rfl<|bY rfl rfl rfl<|bY rfl rfl rfl<|bY rfl rfl rfl<|bY rfl rfl rfl<|az rfl rfl rfl rfl rfl<|ap rfl rfl eF<|ae (bo rfl rfl rfl) rfl<|ae (bo rfl eF rfl) rfl<|ay<|a7 rt (⟨decide (i<s.length∧dx (s.getD i 0)=true),s.getD i 0⟩) (by repeat first|exact aC|refine aA rfl (by first|rfl|exact a8 (by rw [←hc,Bool.eq_iff_iff];unfold dx;simp;omega)) ?_) ?_
    exact ⟨rfl,rfl,hb⟩
   have nH:=Bq;simp only [DZ] at Bq;refine ai rfl<|ap rfl rfl nH<|ai rfl<|ap rfl rfl nH<|ae (bW (fP bI rfl rfl (by omega) (by omega)) (aH (show _=(c.toNat:Int) by rw [hc,Int.toNat_natCast]))) rfl<|ap rfl rfl nH<|ae (f7 rfl rfl) rfl<|ap rfl rfl nH<|ai rfl<|cG rfl rfl rfl (fun kZ=>?_) (fun kZ=>?_)
   ·
    have fW:=kZ;simp only [DZ] at kZ;refine ai rfl<|ap rfl rfl fW<|ai rfl<|ap rfl rfl fW<|ae (bW (fP bI rfl rfl (by omega) (by omega)) (aH (show _=(c.toNat:Int) by rw [hc,Int.toNat_natCast]))) rfl<|ap rfl rfl fW<|ae (iu rfl rfl) rfl<|ap rfl rfl nH<|ae (bo rfl fW rfl) rfl<|ap rfl rfl eF<|ae (bj rfl nH rfl) rfl<|ap rfl rfl eF<|ai rfl<|dy rfl rfl rfl (fun fR=>?_) (fun fR=>?_)
    ·
     have gF:=fR;simp only [DZ] at fR;refine az rfl rfl gF rfl rfl<|az rfl rfl gF rfl rfl<|az rfl rfl gF rfl rfl<|az rfl rfl gF rfl rfl<|az rfl rfl gF rfl rfl<|bY rfl rfl rfl<|bY rfl rfl rfl<|bY rfl rfl rfl<|bY rfl rfl rfl<|bY rfl rfl rfl<|az rfl rfl gF rfl rfl<|ap rfl rfl eF<|ae (bo rfl gF rfl) rfl<|ae (bo rfl eF rfl) rfl<|ay<|a7 rt (⟨decide (i<s.length∧dx (s.getD i 0)=true),s.getD i 0⟩) (by repeat first|exact aC|refine aA rfl (by first|rfl|exact a8 (by rw [←hc,Bool.eq_iff_iff];unfold dx;simp;omega)) ?_) ?_
     exact ⟨rfl,rfl,hb⟩
    have gF:=fR;simp only [DZ] at fR;refine ai rfl<|ap rfl rfl gF<|ai rfl<|ap rfl rfl gF<|ae (bW (fP bI rfl rfl (by omega) (by omega)) (aH (show _=(c.toNat:Int) by rw [hc,Int.toNat_natCast]))) rfl<|ap rfl rfl gF<|ae (yB rfl rfl) rfl<|ap rfl rfl gF<|ae (f7 rfl rfl) rfl<|ap rfl rfl gF<|ai rfl<|cG rfl rfl rfl (fun Bz=>?_) (fun Bz=>?_)
    ·
     have qX:=Bz;simp only [DZ] at Bz;refine ai rfl<|ap rfl rfl qX<|ai rfl<|ap rfl rfl qX<|ae (bW (fP bI rfl rfl (by omega) (by omega)) (aH (show _=(c.toNat:Int) by rw [hc,Int.toNat_natCast]))) rfl<|ap rfl rfl qX<|ae (yB rfl rfl) rfl<|ap rfl rfl qX<|ae (iu rfl rfl) rfl<|ap rfl rfl gF<|ae (bo rfl qX rfl) rfl<|ap rfl rfl eF<|ae (bj rfl gF rfl) rfl<|ae (bo rfl eF rfl) rfl<|ay<|a7 rt (⟨decide (i<s.length∧dx (s.getD i 0)=true),s.getD i 0⟩) (by repeat first|exact aC|refine aA rfl (by first|rfl|exact a8 (by rw [←hc,Bool.eq_iff_iff];unfold dx;simp;omega)) ?_) ?_
     exact ⟨rfl,rfl,hb⟩
    have qX:=Bz;simp only [DZ] at Bz;refine az rfl rfl qX rfl rfl<|az rfl rfl qX rfl rfl<|az rfl rfl qX rfl rfl<|az rfl rfl qX rfl rfl<|ap rfl rfl gF<|ae (bj rfl qX rfl) rfl<|ap rfl rfl eF<|ae (bj rfl gF rfl) rfl<|ae (bo rfl eF rfl) rfl<|ay<|a7 rt (⟨decide (i<s.length∧dx (s.getD i 0)=true),s.getD i 0⟩) (by repeat first|exact aC|refine aA rfl (by first|rfl|exact a8 (by rw [←hc,Bool.eq_iff_iff];unfold dx;simp;omega)) ?_) ?_
    exact ⟨rfl,rfl,hb⟩
   have fW:=kZ;simp only [DZ] at kZ;refine az rfl rfl fW rfl rfl<|az rfl rfl fW rfl rfl<|az rfl rfl fW rfl rfl<|ap rfl rfl nH<|ae (bj rfl fW rfl) rfl<|ap rfl rfl eF<|ae (bj rfl nH rfl) rfl<|ap rfl rfl eF<|ai rfl<|ap rfl rfl rfl<|ai rfl<|ap rfl rfl rfl<|ai rfl<|ap rfl rfl rfl<|ae (bW (fP bI rfl rfl (by omega) (by omega)) (aH (show _=(c.toNat:Int) by rw [hc,Int.toNat_natCast]))) rfl<|ap rfl rfl rfl<|ae (yB rfl rfl) rfl<|ap rfl rfl rfl<|ae (f7 rfl rfl) rfl<|ap rfl rfl rfl<|ai rfl<|cG rfl rfl rfl (fun q3=>?_) (fun q3=>?_)
   ·
    have mr:=q3;simp only [DZ] at q3;refine ai rfl<|ap rfl rfl mr<|ai rfl<|ap rfl rfl mr<|ae (bW (fP bI rfl rfl (by omega) (by omega)) (aH (show _=(c.toNat:Int) by rw [hc,Int.toNat_natCast]))) rfl<|ap rfl rfl mr<|ae (yB rfl rfl) rfl<|ap rfl rfl mr<|ae (iu rfl rfl) rfl<|ap rfl rfl rfl<|ae (bo rfl mr rfl) rfl<|ap rfl rfl eF<|ae (bj rfl rfl rfl) rfl<|ae (bo rfl eF rfl) rfl<|ay<|a7 rt (⟨decide (i<s.length∧dx (s.getD i 0)=true),s.getD i 0⟩) (by repeat first|exact aC|refine aA rfl (by first|rfl|exact a8 (by rw [←hc,Bool.eq_iff_iff];unfold dx;simp;omega)) ?_) ?_
    exact ⟨rfl,rfl,hb⟩
   have mr:=q3;simp only [DZ] at q3;refine az rfl rfl mr rfl rfl<|az rfl rfl mr rfl rfl<|az rfl rfl mr rfl rfl<|az rfl rfl mr rfl rfl<|ap rfl rfl rfl<|ae (bj rfl mr rfl) rfl<|ap rfl rfl eF<|ae (bj rfl rfl rfl) rfl<|ae (bo rfl eF rfl) rfl<|ay<|a7 rt (⟨decide (i<s.length∧dx (s.getD i 0)=true),s.getD i 0⟩) (by repeat first|exact aC|refine aA rfl (by first|rfl|exact a8 (by rw [←hc,Bool.eq_iff_iff];unfold dx;simp;omega)) ?_) ?_
   exact ⟨rfl,rfl,hb⟩
  have eF:=ov;simp only [DZ] at ov;refine az rfl rfl eF rfl rfl<|az rfl rfl eF rfl rfl<|az rfl rfl eF rfl rfl<|az rfl rfl eF rfl rfl<|bY rfl rfl rfl<|bY rfl rfl rfl<|bY rfl rfl rfl<|bY rfl rfl rfl<|bY rfl rfl rfl<|bY rfl rfl rfl<|bY rfl rfl rfl<|bY rfl rfl rfl<|bY rfl rfl rfl<|bY rfl rfl rfl<|az rfl rfl eF rfl rfl<|az rfl rfl eF rfl rfl<|bY rfl rfl rfl<|bY rfl rfl rfl<|bY rfl rfl rfl<|bY rfl rfl rfl<|bY rfl rfl rfl<|bY rfl rfl rfl<|bY rfl rfl rfl<|bY rfl rfl rfl<|bY rfl rfl rfl<|bY rfl rfl rfl<|bY rfl rfl rfl<|bY rfl rfl rfl<|az rfl rfl eF rfl rfl<|ae (bj rfl eF rfl) rfl<|ay<|a7 rt (⟨decide (i<s.length∧dx (s.getD i 0)=true),s.getD i 0⟩) (by repeat first|exact aC|refine aA rfl (by first|rfl|exact a8 (by rw [←hc,Bool.eq_iff_iff];unfold dx;simp;omega)) ?_) ?_
  exact ⟨rfl,rfl,hb⟩
 rintro ⟨q,c⟩ wr xy;replace xy:q=decide (i<s.length∧dx c=true)∧c=s.getD i 0∧Below w.heap.size w wr:=xy;obtain ⟨hq,hc,hb⟩:=xy;show Wq _ _ _ _ [(0,str s),(3,.int .i64 (i:Int)),(39,.bool q)] _;have:=hb.size;refine ax dW ?_;have hq2:=hq;refine aO rfl (fun GI=>?_) (fun GI=>?_)
 ·
  have GJ:=GI;have hq2:i<s.length∧dx c=true:=by have h:=GJ;rw [hq] at h;exact of_decide_eq_true h
  refine aU<|ax eX<|b4<|aQ<|ai rfl<|ae (ct rfl rfl (by omega) (by omega)) rfl<|an rfl<|ay<|cD<|fun a_ bM=>KY _ _ (i+1) (by omega) (by repeat first|exact aC|refine aA rfl (by first|rfl|exact aH (by omega)) ?_) ?_ a_ bM
  exact ⟨by omega,fun j hj=>by (by_cases e:j=i);(· rw [e,←hc];exact hq2.2);(· exact hall j (by omega)),hb⟩
 have GJ:=GI;have hq2:¬(i<s.length∧dx c=true):=by have h:=GJ;rw [hq] at h;exact of_decide_eq_false h
 refine d2<|cj<|cj<|d3<|ax dC<|am fun tz=>ai rfl<|an rfl<|al tz<|aJ<|bN rfl rfl ?_
 exact ⟨_,rfl,aH (by rw [QX hi hall (fun h=>by rw [←hc];cases hl:dx c with|false=>rfl|true=>exact absurd ⟨h,hl⟩ hq2)]),hb⟩
def b9 (l:List (ao)):List Value:=l.map str
theorem Do {l:List (ao)} {i:Nat} {v:Value} (hi:i<l.length) (h:(b9 l)[i]? =some v):v=str (l.getD i []):=by
 simp [b9,List.getElem?_eq_getElem hi] at h;simp [List.getD,List.getElem?_eq_getElem hi,←h]
theorem VH (A:Option Addr) (c:Nat) (l:List (ao)) (x:ao) (hl:l.length≤281474976710656) (w:World) (hR:Rd w 1 A l.length (b9 l)):bx Tryz.prog 22 [.slice A l.length c,str x] w fun v w'=>(∃z,v= .int .i64 z∧(0≤z↔x∈l))∧Below w.heap.size w w':=by
 have hb:=Below.refl w.heap.size w;have dX:=hR;refine enter Tryz.func22 rfl rfl rfl<|am fun aR=>an rfl<|al aR<|av fun _ bt=>am fun b8=>ai rfl<|ae (iC dl (by omega) rfl) rfl<|ai rfl<|al b8<|b4<|d9 (X:=Nat) (fun i=> [(0,.slice A l.length c),(1,str x),(7,.int .i64 (l.length:Int)),(8,.int .i64 (i:Int))]) (fun i wr=>i≤l.length∧(∀j,j<i→l.getD j []≠x)∧Below w.heap.size w wr) (fun i=>l.length - i) (0) ?_ ?_ ?_
 · exact by repeat first|exact aC|refine aA rfl (by first|rfl|exact aH (by omega)) ?_
 · exact ⟨by omega,fun j h=>by omega,hb⟩
 rintro i wr lI _ si;replace lI:i≤l.length∧(∀j,j<i→l.getD j []≠x)∧Below w.heap.size w wr:=lI;obtain ⟨hi,hall,hb⟩:=lI;show Wc _ _ _ _ _ [(0,.slice A l.length c),(1,str x),(7,.int .i64 (l.length:Int)),(8,.int .i64 (i:Int))] _;have hR:=dX.below hb;have:=hb.size;refine am fun fZ=>ae (dL rfl rfl) rfl<|al fZ<|av fun _ dU=>aO rfl (fun eK=>?_) (fun eK=>?_)
 ·
  have sP:=eK;simp only [DZ] at eK;have hil:i<l.length:=by have:=eK;omega
  obtain ⟨p_,v_,hpe,hve,hcell⟩:=hR.one (i:=i) hil;subst hpe;obtain rfl:=Do hil hve;refine aU<|ax dU<|av fun _ fd=>b4<|am fun eL=>ai rfl<|an rfl<|al eL<|am fun dG=>ai rfl<|ai rfl<|ai rfl<|ae (f8 dl pL rfl rfl (by omega) (by omega)) rfl<|aG (aS di rfl (by exact vv hcell)) rfl<|ae (fl rfl rfl) rfl<|al dG<|aO rfl (fun nu=>?_) (fun nu=>?_)
  ·
   have heq:x=l.getD i []:=by have h:=nu;simpa using h
   refine am fun ju=>ai rfl<|an rfl<|al ju<|aJ<|co (aX (aX (co (aX ?_))))
   refine bN rfl rfl ?_;exact ⟨_,rfl,⟨_,rfl,⟨fun _=>by rw [heq];simp [List.getD,List.getElem?_eq_getElem hil],fun _=>by omega⟩⟩,hb⟩
  have hne:l.getD i []≠x:=fun e=>by have h:=nu;rw [e] at h;simp at h
  refine aU<|cD<|ax fd<|aQ<|ae (ct rfl rfl (by omega) (by omega)) rfl<|ai rfl<|ay<|fun a_ bM=>si _ _ (i+1) (by omega) (by repeat first|exact aC|refine aA rfl (by first|rfl|exact aH (by omega)) ?_) ?_ a_ bM
  exact ⟨by omega,fun j hj=>by (by_cases e:j=i);(· rw [e];exact hne);(· exact hall j (by omega)),hb⟩
 have sP:=eK;simp only [DZ] at eK;refine d2<|cj<|cj<|d3<|ax bt<|am fun k8=>an rfl<|al k8<|aJ<|bN rfl rfl ?_
 exact ⟨_,rfl,⟨_,rfl,⟨fun h=>by omega,fun h=>by
 obtain ⟨j,hj,e⟩:=List.mem_iff_getElem.1 h
 exact absurd (by simp [List.getD,List.getElem?_eq_getElem hj,e]) (hall j (by have:=eK;omega))⟩⟩,hb⟩
theorem Gh (A:Option Addr) (c:Nat) (l:List (ao)) (x:ao) (hl:l.length≤281474976710656) (w:World) (hR:Rd w 1 A l.length (b9 l)):bx Tryz.prog 42 [.slice A l.length c,str x] w fun v w'=>v= .bool (decide (x∈l))∧Below w.heap.size w w':=by
 have hb:=Below.refl w.heap.size w;refine enter Tryz.func42 rfl rfl rfl<|am fun aR=>an rfl<|al aR<|am fun bt=>ai rfl<|ai rfl<|aD TL rfl rfl (VH A c l x hl _ hR) rfl ?_
 rintro _ cB ⟨⟨z,rfl,hz⟩,aw⟩;have:=aw.size;have hb:=aZ hb aw;refine ae (f7 rfl rfl) rfl<|an rfl<|al bt<|aJ<|bN rfl rfl ?_
 exact ⟨_,rfl,a8 (by rw [Bool.eq_iff_iff,decide_eq_true_eq,decide_eq_true_eq];exact hz),hb⟩
theorem ae7 (g:Nat) (s x:ao) (w:World) (hB:ak w g 9 [str s]):bx Tryz.prog 45 [str x,.pointer (some ⟨g,0,none⟩)] w fun v w'=>v= .bool (Lib.hasPrefix s x)∧Below w.heap.size w w':=by
 have hcell:w.cell? ⟨g,0,none⟩=some (str s):=hB.cell 0;have hb:=Below.refl w.heap.size w;have uG:=hB;refine enter Tryz.func45 rfl rfl rfl<|am fun aR=>an rfl<|al aR<|am fun bt=>aG (aS di rfl (by exact (hB.cell 0))) rfl<|ai rfl<|aD FS rfl rfl (DY s x _) rfl ?_
 rintro _ w_ ⟨rfl,bV⟩;have bV:=bV.symm;subst bV;refine an rfl<|al bt<|aJ<|bN rfl rfl ?_
 exact ⟨_,rfl,rfl,hb⟩
def U0 (l:List (ao)) (s:ao) (z:Int):Prop:=(z= -1∧l.find? (fun x=>Lib.hasPrefix s x)=none)∨∃k:Nat,z=k∧k<l.length∧l.find? (fun x=>Lib.hasPrefix s x)=some (l.getD k [])
theorem Y5 {l:List (ao)} {p:ao→Bool}:∀{i:Nat},i<l.length→(∀j,j<i→p (l.getD j [])=false)→p (l.getD i [])=true→l.find? p=some (l.getD i []):=by
 induction l with
 |nil=>intro i h;simp at h
 |cons a r ih=>
  intro i hi h0 h1;rw [List.find?_cons]
  cases i with
  |zero=>rw [show (a :: r).getD 0 []=a from rfl] at h1 ⊢;rw [h1]
  |succ i=>
   have:=h0 0 (by omega);rw [show (a :: r).getD 0 []=a from rfl] at this;rw [this];exact ih (by simpa using hi) (fun j hj=>h0 (j+1) (by omega)) h1
theorem Y6 {l:List (ao)} {p:ao→Bool} (h:∀j,j<l.length→p (l.getD j [])=false):l.find? p=none:=by
 rw [List.find?_eq_none];intro x hx;obtain ⟨j,hj,e⟩:=List.mem_iff_getElem.1 hx;have:=h j hj;rw [show l.getD j []=x by simp [List.getD,List.getElem?_eq_getElem hj,e]] at this;rw [this];simp
theorem agh:bB Tryz.prog 45:=⟨_,Tryz.func45,by kernel_rfl,rfl⟩
theorem VG (A:Option Addr) (c:Nat) (l:List (ao)) (g:Nat) (s:ao) (hl:l.length≤281474976710656) (w:World) (hR:Rd w 1 A l.length (b9 l)) (hB:ak w g 9 [str s]):bx Tryz.prog 44 [.slice A l.length c,.func (.func 45) #[] #[.pointer (some ⟨g,0,none⟩)]] w fun v w'=>(∃z,v= .int .i64 z∧U0 l s z)∧Below w.heap.size w w':=by
 have hb:=Below.refl w.heap.size w;have dX:=hR;have uG:=hB;refine enter Tryz.func44 rfl rfl rfl<|am fun aR=>an rfl<|al aR<|av fun _ bt=>am fun b8=>ai rfl<|ae (iC dl (by omega) rfl) rfl<|ai rfl<|al b8<|b4<|d9 (X:=Nat) (fun i=> [(0,.slice A l.length c),(1,.func (.func 45) #[] #[.pointer (some ⟨g,0,none⟩)]),(7,.int .i64 (l.length:Int)),(8,.int .i64 (i:Int))]) (fun i wr=>i≤l.length∧(∀j,j<i→Lib.hasPrefix s (l.getD j [])=false)∧Below w.heap.size w wr) (fun i=>l.length - i) (0) ?_ ?_ ?_
 · exact by repeat first|exact aC|refine aA rfl (by first|rfl|exact aH (by omega)) ?_
 · exact ⟨by omega,fun j h=>by omega,hb⟩
 rintro i wr lI _ si;replace lI:i≤l.length∧(∀j,j<i→Lib.hasPrefix s (l.getD j [])=false)∧Below w.heap.size w wr:=lI;obtain ⟨hi,hall,hb⟩:=lI;show Wc _ _ _ _ _ [(0,.slice A l.length c),(1,.func (.func 45) #[] #[.pointer (some ⟨g,0,none⟩)]),(7,.int .i64 (l.length:Int)),(8,.int .i64 (i:Int))] _;have hR:=dX.below hb;have hB:=uG.below hb;have:=hb.size;refine am fun fZ=>ae (dL rfl rfl) rfl<|al fZ<|av fun _ dU=>aO rfl (fun eK=>?_) (fun eK=>?_)
 ·
  have sP:=eK;simp only [DZ] at eK;have hil:i<l.length:=by have:=eK;omega
  obtain ⟨p_,v_,hpe,hve,hcell⟩:=hR.one (i:=i) hil;subst hpe;obtain rfl:=Do hil hve;refine aU<|ax dU<|av fun _ fd=>b4<|am fun eL=>ai rfl<|an rfl<|al eL<|am fun dG=>ai rfl<|ai rfl<|ai rfl<|ae (f8 dl pL rfl rfl (by omega) (by omega)) rfl<|aG (aS di rfl (by exact vv hcell)) rfl<|aD agh rfl rfl (ae7 g s (l.getD i []) _ hB) rfl ?_
  rintro _ cB ⟨rfl,aw⟩;have hb:=aZ hb aw;refine al dG<|aO rfl (fun nu=>?_) (fun nu=>?_)
  ·
   have vH:=nu;refine am fun ju=>ai rfl<|an rfl<|al ju<|aJ<|co (aX (aX (co (aX ?_))))
   refine bN rfl rfl ?_;exact ⟨_,rfl,⟨_,rfl,.inr ⟨i,rfl,hil,Y5 hil hall vH⟩⟩,hb⟩
  have vH:=nu;refine aU<|cD<|ax fd<|aQ<|ae (ct rfl rfl (by omega) (by omega)) rfl<|ai rfl<|ay<|fun a_ bM=>si _ _ (i+1) (by omega) (by repeat first|exact aC|refine aA rfl (by first|rfl|exact aH (by omega)) ?_) ?_ a_ bM
  exact ⟨by omega,fun j hj=>by (by_cases e:j=i);(· rw [e];exact vH);(· exact hall j (by omega)),hb⟩
 have sP:=eK;simp only [DZ] at eK;refine d2<|cj<|cj<|d3<|ax bt<|am fun k8=>an rfl<|al k8<|aJ<|bN rfl rfl ?_
 exact ⟨_,rfl,⟨_,rfl,.inl ⟨rfl,Y6 fun j hj=>hall j (by have:=eK;omega)⟩⟩,hb⟩
theorem aca {c:UInt8} (h:dx c=true):c.toNat=95∨(48≤c.toNat∧c.toNat≤57)∨(65≤c.toNat∧c.toNat≤90)∨(97≤c.toNat∧c.toNat≤122):=by
 have key:∀n:Fin 256,dx (UInt8.ofNat n.val)=true→n.val=95∨(48≤n.val∧n.val≤57)∨(65≤n.val∧n.val≤90)∨(97≤n.val∧n.val≤122):=by decide +kernel
 have h2:=key ⟨c.toNat,UInt8.toNat_lt c⟩;rw [show UInt8.ofNat c.toNat=c from UInt8.ofNat_toNat] at h2;exact h2 h
theorem WK (s:ao) (hl:∀c,c∈s→dx c=true) (hs:s.length≤140737488355328) (w:World):bx Tryz.prog 43 [str s] w fun v w'=>v= .bool (jc s)∧Below w.heap.size w w':=by
 have hlow:∀c,c∈s→c.toNat<128:=fun c hc=>by have:=acb c (hl c hc);omega
 have hb:=Below.refl w.heap.size w;refine enter Tryz.func43 rfl rfl rfl<|am fun aR=>an rfl<|al aR<|av fun _ bt=>am fun b8=>ai rfl<|WH bI rfl rfl ?_
 rintro dq ks jH CK ck;have:=ck.size;have hb:=aZ hb ck;have lJ:=CK;have:=lJ.lt;refine al b8<|b4<|d9 (X:=Nat) (fun i=> [(0,str s),(7,.pointer (some ⟨dq,0,none⟩))]) (fun i wr=>i≤s.length∧(0<i→¬(48≤(s.getD 0 0).toNat∧(s.getD 0 0).toNat≤57))∧Below w.heap.size w wr∧pS wr dq s i) (fun i=>s.length - i) (0) ?_ ?_ ?_
 · exact by repeat first|exact aC|refine aA rfl (by first|rfl|exact aH (by omega)) ?_
 · exact ⟨by omega,fun h=>by omega,hb,lJ⟩
 rintro i wr xx _ K0;replace xx:i≤s.length∧(0<i→¬(48≤(s.getD 0 0).toNat∧(s.getD 0 0).toNat≤57))∧Below w.heap.size w wr∧pS wr dq s i:=xx;obtain ⟨hi,hd,hb,lJ⟩:=xx;show Wc _ _ _ _ _ [(0,str s),(7,.pointer (some ⟨dq,0,none⟩))] _;have:=hb.size;refine am fun dW=>WF rfl lJ (hlow) rfl (fun ahR=>?_) (fun aaU=>?_)
 ·
  refine ae (cu rfl rfl) rfl<|al dW<|av fun _ dU=>oU rfl rfl<|d2<|cj<|cj<|d3<|ax bt<|am fun eh=>ai rfl<|ae (yA rfl rfl) rfl<|ai rfl<|cG rfl rfl rfl (fun mp=>?_) (fun mp=>?_)
  ·
   have jT:=mp;simp only [DZ] at mp;refine ai rfl<|ap rfl rfl jT<|ae (ez bI (by omega) rfl) rfl<|ap rfl rfl jT<|ae (iu rfl rfl) rfl<|ae (bo rfl jT rfl) rfl<|an rfl<|al eh<|aJ<|bN rfl rfl ?_
   exact ⟨_,rfl,a8 (by
 have hne:s≠ []:=by have h:=jT;simpa using h
 have hpos:=List.length_pos_iff.2 hne
 have:=hd (by omega)
 unfold jc
 rw [decide_eq_decide]
 exact ⟨fun h=>⟨hne,by omega,this⟩,fun h=>by have:=h.2.1;omega⟩),hb⟩
  have jT:=mp;simp only [DZ] at mp;refine az rfl rfl jT rfl rfl<|az rfl rfl jT rfl rfl<|ae (bj rfl jT rfl) rfl<|an rfl<|al eh<|aJ<|bN rfl rfl ?_
  exact ⟨_,rfl,a8 (by
 have he:s= []:=by have h:=jT;simpa using h
 subst he;rfl),hb⟩
 rintro F2 CL rv;have:=rv.size;have hb:=cf hb rv hb.size (by omega);have lJ:=CL;refine ae (cu rfl rfl) rfl<|al dW<|av fun _ ju=>yI rfl rfl<|aU<|ax ju<|b4<|av fun _ ki=>?_
 obtain ⟨c,hc⟩:∃c,c=(s.getD i 0).toNat:=⟨_,rfl⟩;have hcl:c=95∨(48≤c∧c≤57)∨(65≤c∧c≤90)∨(97≤c∧c≤122):=by rw [hc];exact aca (hl _ (by simp [List.getD,List.getElem?_eq_getElem aaU]))
 refine aQ<|ae (cu rfl rfl) rfl<|ae (bW (cu rfl rfl) (aH (show _=(c:Int) by rw [hc]))) rfl<|an rfl<|an rfl<|al ki<|av fun _ gP=>cR (X:=Bool) (fun q=> [(0,str s),(3,.int .i64 (i:Int)),(4,.int .i32 (c:Int)),(5,.bool q),(7,.pointer (some ⟨dq,0,none⟩))]) (fun q wr=>q=decide ((65≤c∧c≤90)∨(97≤c∧c≤122)∨c=95)∧Below w.heap.size w wr∧pS wr dq s (i+1)) (fun _ xJ=>?_) ?_
 ·
  refine aQ<|ai rfl<|ae (f7 rfl rfl) rfl<|ai rfl<|cG rfl rfl rfl (fun Br=>?_) (fun Br=>?_)
  ·
   have Bs:=Br;simp only [DZ] at Br;refine ai rfl<|ap rfl rfl Bs<|ae (iu rfl rfl) rfl<|ae (bo rfl Bs rfl) rfl<|ai rfl<|dy rfl rfl rfl (fun fX=>?_) (fun fX=>?_)
   ·
    have iI:=fX;simp only [DZ] at fX;refine az rfl rfl iI rfl rfl<|az rfl rfl iI rfl rfl<|bY rfl rfl rfl<|bY rfl rfl rfl<|az rfl rfl iI rfl rfl<|ae (bo rfl iI rfl) rfl<|ai rfl<|az rfl rfl rfl rfl rfl<|az rfl rfl rfl rfl rfl<|ae (bo rfl rfl rfl) rfl<|an rfl<|ay<|a7 xJ (decide ((65≤c∧c≤90)∨(97≤c∧c≤122)∨c=95)) (by repeat first|exact aC|refine aA rfl (by first|rfl|exact a8 (by rw [Bool.eq_iff_iff];simp;omega)) ?_) ?_
    exact ⟨rfl,hb,lJ⟩
   have iI:=fX;simp only [DZ] at fX;refine ai rfl<|ap rfl rfl iI<|ae (f7 rfl rfl) rfl<|ap rfl rfl iI<|ai rfl<|cG rfl rfl rfl (fun BA=>?_) (fun BA=>?_)
   ·
    have BB:=BA;simp only [DZ] at BA;refine ai rfl<|ap rfl rfl BB<|ae (iu rfl rfl) rfl<|ap rfl rfl iI<|ae (bo rfl BB rfl) rfl<|ae (bj rfl iI rfl) rfl<|ai rfl<|dy rfl rfl rfl (fun qZ=>?_) (fun qZ=>?_)
    ·
     have pc:=qZ;simp only [DZ] at qZ;refine az rfl rfl pc rfl rfl<|ae (bo rfl pc rfl) rfl<|an rfl<|ay<|a7 xJ (decide ((65≤c∧c≤90)∨(97≤c∧c≤122)∨c=95)) (by repeat first|exact aC|refine aA rfl (by first|rfl|exact a8 (by rw [Bool.eq_iff_iff];simp;omega)) ?_) ?_
     exact ⟨rfl,hb,lJ⟩
    have pc:=qZ;simp only [DZ] at qZ;refine ai rfl<|ap rfl rfl pc<|ae (bX rfl rfl) rfl<|ae (bj rfl pc rfl) rfl<|an rfl<|ay<|a7 xJ (decide ((65≤c∧c≤90)∨(97≤c∧c≤122)∨c=95)) (by repeat first|exact aC|refine aA rfl (by first|rfl|exact a8 (by rw [Bool.eq_iff_iff];simp;omega)) ?_) ?_
    exact ⟨rfl,hb,lJ⟩
   have BB:=BA;simp only [DZ] at BA;refine az rfl rfl BB rfl rfl<|ap rfl rfl iI<|ae (bj rfl BB rfl) rfl<|ae (bj rfl iI rfl) rfl<|ai rfl<|ap rfl rfl rfl<|ai rfl<|ap rfl rfl rfl<|ae (bX rfl rfl) rfl<|ae (bj rfl rfl rfl) rfl<|an rfl<|ay<|a7 xJ (decide ((65≤c∧c≤90)∨(97≤c∧c≤122)∨c=95)) (by repeat first|exact aC|refine aA rfl (by first|rfl|exact a8 (by rw [Bool.eq_iff_iff];simp;omega)) ?_) ?_
   exact ⟨rfl,hb,lJ⟩
  have Bs:=Br;simp only [DZ] at Br;refine az rfl rfl Bs rfl rfl<|ae (bj rfl Bs rfl) rfl<|ai rfl<|ap rfl rfl rfl<|ai rfl<|ap rfl rfl rfl<|ae (f7 rfl rfl) rfl<|ap rfl rfl rfl<|ai rfl<|cG rfl rfl rfl (fun ox=>?_) (fun ox=>?_)
  ·
   have iU:=ox;simp only [DZ] at ox;refine ai rfl<|ap rfl rfl iU<|ae (iu rfl rfl) rfl<|ap rfl rfl rfl<|ae (bo rfl iU rfl) rfl<|ae (bj rfl rfl rfl) rfl<|ai rfl<|dy rfl rfl rfl (fun BJ=>?_) (fun BJ=>?_)
   ·
    have BK:=BJ;simp only [DZ] at BJ;refine az rfl rfl BK rfl rfl<|ae (bo rfl BK rfl) rfl<|an rfl<|ay<|a7 xJ (decide ((65≤c∧c≤90)∨(97≤c∧c≤122)∨c=95)) (by repeat first|exact aC|refine aA rfl (by first|rfl|exact a8 (by rw [Bool.eq_iff_iff];simp;omega)) ?_) ?_
    exact ⟨rfl,hb,lJ⟩
   have BK:=BJ;simp only [DZ] at BJ;refine ai rfl<|ap rfl rfl BK<|ae (bX rfl rfl) rfl<|ae (bj rfl BK rfl) rfl<|an rfl<|ay<|a7 xJ (decide ((65≤c∧c≤90)∨(97≤c∧c≤122)∨c=95)) (by repeat first|exact aC|refine aA rfl (by first|rfl|exact a8 (by rw [Bool.eq_iff_iff];simp;omega)) ?_) ?_
   exact ⟨rfl,hb,lJ⟩
  have iU:=ox;simp only [DZ] at ox;refine az rfl rfl iU rfl rfl<|ap rfl rfl rfl<|ae (bj rfl iU rfl) rfl<|ae (bj rfl rfl rfl) rfl<|ai rfl<|ap rfl rfl rfl<|ai rfl<|ap rfl rfl rfl<|ae (bX rfl rfl) rfl<|ae (bj rfl rfl rfl) rfl<|an rfl<|ay<|a7 xJ (decide ((65≤c∧c≤90)∨(97≤c∧c≤122)∨c=95)) (by repeat first|exact aC|refine aA rfl (by first|rfl|exact a8 (by rw [Bool.eq_iff_iff];simp;omega)) ?_) ?_
  exact ⟨rfl,hb,lJ⟩
 rintro q wr Kq;replace Kq:q=decide ((65≤c∧c≤90)∨(97≤c∧c≤122)∨c=95)∧Below w.heap.size w wr∧pS wr dq s (i+1):=Kq;obtain ⟨hq,hb,lJ⟩:=Kq;show Wq _ _ _ _ [(0,str s),(3,.int .i64 (i:Int)),(4,.int .i32 (c:Int)),(5,.bool q),(7,.pointer (some ⟨dq,0,none⟩))] _;have:=hb.size;refine ax gP<|av fun _ Cq=>cR (X:=Bool) (fun q2=> [(0,str s),(7,.pointer (some ⟨dq,0,none⟩)),(43,.bool q2)]) (fun q2 wr=>q2=decide (¬((65≤c∧c≤90)∨(97≤c∧c≤122)∨c=95)∧(i=0∨c<48∨57<c))∧Below w.heap.size w wr∧pS wr dq s (i+1)) (fun _ E9=>?_) ?_
 ·
  refine aQ<|ai rfl<|ae (jd rfl) rfl<|ai rfl<|cG rfl rfl rfl (fun nC=>?_) (fun nC=>?_)
  ·
   have jm:=nC;simp only [DZ] at nC;refine ai rfl<|ap rfl rfl jm<|ae (bX rfl rfl) rfl<|ap rfl rfl jm<|ai rfl<|dy rfl rfl rfl (fun kA=>?_) (fun kA=>?_)
   ·
    have nD:=kA;simp only [DZ] at kA;refine az rfl rfl nD rfl rfl<|ap rfl rfl jm<|ae (bo rfl nD rfl) rfl<|ap rfl rfl jm<|ai rfl<|az rfl rfl rfl rfl rfl<|az rfl rfl rfl rfl rfl<|ap rfl rfl jm<|ae (bo rfl rfl rfl) rfl<|ae (bo rfl jm rfl) rfl<|ay<|a7 E9 (decide (¬((65≤c∧c≤90)∨(97≤c∧c≤122)∨c=95)∧(i=0∨c<48∨57<c))) (by repeat first|exact aC|refine aA rfl (by first|rfl|exact a8 (by have h1:=hq;rw [nC] at h1;have h2:=h1.symm;simp only [decide_eq_true_eq,decide_eq_false_iff_not] at h2;rw [Bool.eq_iff_iff];simp;omega)) ?_) ?_
    exact ⟨rfl,hb,lJ⟩
   have nD:=kA;simp only [DZ] at kA;refine ai rfl<|ap rfl rfl nD<|ae (dL rfl rfl) rfl<|ap rfl rfl jm<|ae (bj rfl nD rfl) rfl<|ap rfl rfl jm<|ai rfl<|dy rfl rfl rfl (fun A8=>?_) (fun A8=>?_)
   ·
    have A9:=A8;simp only [DZ] at A8;refine az rfl rfl A9 rfl rfl<|ap rfl rfl jm<|ae (bo rfl A9 rfl) rfl<|ae (bo rfl jm rfl) rfl<|ay<|a7 E9 (decide (¬((65≤c∧c≤90)∨(97≤c∧c≤122)∨c=95)∧(i=0∨c<48∨57<c))) (by repeat first|exact aC|refine aA rfl (by first|rfl|exact a8 (by have h1:=hq;rw [nC] at h1;have h2:=h1.symm;simp only [decide_eq_true_eq,decide_eq_false_iff_not] at h2;rw [Bool.eq_iff_iff];simp;omega)) ?_) ?_
    exact ⟨rfl,hb,lJ⟩
   have A9:=A8;simp only [DZ] at A8;refine ai rfl<|ap rfl rfl A9<|ae (ed rfl rfl) rfl<|ap rfl rfl jm<|ae (bj rfl A9 rfl) rfl<|ae (bo rfl jm rfl) rfl<|ay<|a7 E9 (decide (¬((65≤c∧c≤90)∨(97≤c∧c≤122)∨c=95)∧(i=0∨c<48∨57<c))) (by repeat first|exact aC|refine aA rfl (by first|rfl|exact a8 (by have h1:=hq;rw [nC] at h1;have h2:=h1.symm;simp only [decide_eq_true_eq,decide_eq_false_iff_not] at h2;rw [Bool.eq_iff_iff];simp;omega)) ?_) ?_
   exact ⟨rfl,hb,lJ⟩
  have jm:=nC;simp only [DZ] at nC;refine az rfl rfl jm rfl rfl<|az rfl rfl jm rfl rfl<|bY rfl rfl rfl<|bY rfl rfl rfl<|az rfl rfl jm rfl rfl<|az rfl rfl jm rfl rfl<|bY rfl rfl rfl<|bY rfl rfl rfl<|az rfl rfl jm rfl rfl<|ae (bj rfl jm rfl) rfl<|ay<|a7 E9 (decide (¬((65≤c∧c≤90)∨(97≤c∧c≤122)∨c=95)∧(i=0∨c<48∨57<c))) (by repeat first|exact aC|refine aA rfl (by first|rfl|exact a8 (by have h1:=hq;rw [nC] at h1;have h2:=h1.symm;simp only [decide_eq_true_eq,decide_eq_false_iff_not] at h2;rw [Bool.eq_iff_iff];simp;omega)) ?_) ?_
  exact ⟨rfl,hb,lJ⟩
 rintro q2 wr rc;replace rc:q2=decide (¬((65≤c∧c≤90)∨(97≤c∧c≤122)∨c=95)∧(i=0∨c<48∨57<c))∧Below w.heap.size w wr∧pS wr dq s (i+1):=rc;obtain ⟨hq2,hb,lJ⟩:=rc;show Wq _ _ _ _ [(0,str s),(7,.pointer (some ⟨dq,0,none⟩)),(43,.bool q2)] _;have:=hb.size;refine ax Cq<|aO rfl (fun GQ=>?_) (fun GQ=>?_)
 ·
  have GR:=GQ;have hbad:¬((65≤c∧c≤90)∨(97≤c∧c≤122)∨c=95)∧(i=0∨c<48∨57<c):=by have h:=GR;rw [hq2] at h;exact of_decide_eq_true h
  refine am fun B7=>an rfl<|al B7<|aJ<|co (aX (co (aX ?_)))
  refine bN rfl rfl ?_;exact ⟨_,rfl,a8 (by unfold jc;rw [eq_comm,decide_eq_false_iff_not];rintro ⟨_,_,h⟩;have hi0:i=0:=(by omega);rw [hi0] at hc;omega),hb⟩
 have GR:=GQ;have hgood:¬(¬((65≤c∧c≤90)∨(97≤c∧c≤122)∨c=95)∧(i=0∨c<48∨57<c)):=by have h:=GR;rw [hq2] at h;exact of_decide_eq_false h
 refine aU<|cD<|fun a_ bM=>K0 _ _ (i+1) (by omega) (by repeat first|exact aC|refine aA rfl (by first|rfl|exact aH (by omega)) ?_) ?_ a_ bM
 exact ⟨by omega,fun _=>(by by_cases e:i=0;(· rw [e] at hc;omega);(· exact hd (by omega))),hb,lJ⟩
theorem C8:One Tryz.prog 67:=⟨_,dl,rfl,by kernel_rfl⟩
theorem afG:bB Tryz.prog 40:=⟨_,Tryz.func40,by kernel_rfl,rfl⟩
theorem FR:bB Tryz.prog 41:=⟨_,Tryz.func41,by kernel_rfl,rfl⟩
theorem Nc:bB Tryz.prog 42:=⟨_,Tryz.func42,by kernel_rfl,rfl⟩
theorem afH:bB Tryz.prog 43:=⟨_,Tryz.func43,by kernel_rfl,rfl⟩
theorem afI:bB Tryz.prog 44:=⟨_,Tryz.func44,by kernel_rfl,rfl⟩
def yH (w:World) (g:Nat) (v:Value):Prop:=w.cell? ⟨g,0,none⟩=some v
theorem yH.below {w w':World} {g:Nat} {v:Value} (h:yH w g v) (hb:Below w.heap.size w w'):yH w' g v:=ou hb h
structure Lx (w:World):Prop where
 lb:Lb w
 keys:∃A c,yH w 0 (.slice A 17 c)∧Rd w 1 A 17 (b9 jy)
 signs:∃A c,yH w 1 (.slice A 36 c)∧Rd w 1 A 36 (b9 mR)
theorem Lx.below {w w':World} (h:Lx w) (hb:Below w.heap.size w w'):Lx w':=
 ⟨h.lb.below hb,h.keys.elim fun A h1=>h1.elim fun c h2=>⟨A,c,h2.1.below hb,h2.2.below hb⟩,h.signs.elim fun A h1=>h1.elim fun c h2=>⟨A,c,h2.1.below hb,h2.2.below hb⟩⟩
theorem yF.rdN {s:ao} {u:c7} {n:Nat} {ok:Bool} (h:yF (dI pf de s) u n ok):rdN s=n:=by
 unfold Go.Proofs.YtjdjliiolchciaaGreatDoor.rdN
 rcases h with ⟨_,h⟩|⟨_,h,_,h2⟩
 · rw [h];rfl
 · rw [h,h2];rfl
noncomputable def Dr (s:ao):Value:=(Tok.mk (dP s).1 (s.take (dP s).2) 0).enc
theorem Dt {s:ao} {k n:Nat} (h:dP s=(k,n)):Value.agg #[.int .i64 (k:Int),str (s.take n),.int .i64 0]=Dr s:=by unfold Dr;rw [h];rfl
theorem M2 {s:ao} (h:dP s=(0,0)):Value.agg #[.int .i64 0,str [],.int .i64 0]=Dr s:=by unfold Dr;rw [h];rfl
theorem MZ {s:ao} (h:(s.getD 0 0).toNat=39) (h0:0<rdN s):dP s=(4,rdN s):=by unfold dP;rw [if_pos (.inl h),if_pos ⟨h,h0⟩]
theorem MY {s:ao} (h:(s.getD 0 0).toNat=39∨(48≤(s.getD 0 0).toNat∧(s.getD 0 0).toNat≤57)) (h0:¬((s.getD 0 0).toNat=39∧0<rdN s)) (h1:0<max (rdN s) (rdN (45 :: s) - 1)∧(s.getD 0 0).toNat≠39):dP s=(3,max (rdN s) (rdN (45 :: s) - 1)):=by unfold dP;rw [if_pos h,if_neg h0,if_pos h1]
theorem Tc {s:ao} (h:(s.getD 0 0).toNat=39∨(48≤(s.getD 0 0).toNat∧(s.getD 0 0).toNat≤57)) (h0:¬((s.getD 0 0).toNat=39∧0<rdN s)) (h1:¬(0<max (rdN s) (rdN (45 :: s) - 1)∧(s.getD 0 0).toNat≠39)):dP s=(0,0):=by unfold dP;rw [if_pos h,if_neg h0,if_neg h1]
theorem MX {s:ao} (h:¬((s.getD 0 0).toNat=39∨(48≤(s.getD 0 0).toNat∧(s.getD 0 0).toNat≤57))) (h0:0<dj s) (h1:s.take (dj s)∈jy):dP s=(2,dj s):=by unfold dP;rw [if_neg h,if_pos h0,if_pos h1]
theorem M1 {s:ao} (h:¬((s.getD 0 0).toNat=39∨(48≤(s.getD 0 0).toNat∧(s.getD 0 0).toNat≤57))) (h0:0<dj s) (h1:¬s.take (dj s)∈jy) (h2:jc (s.take (dj s))=true):dP s=(1,dj s):=by unfold dP;rw [if_neg h,if_pos h0,if_neg h1,if_pos h2]
theorem Te {s:ao} (h:¬((s.getD 0 0).toNat=39∨(48≤(s.getD 0 0).toNat∧(s.getD 0 0).toNat≤57))) (h0:0<dj s) (h1:¬s.take (dj s)∈jy) (h2:¬jc (s.take (dj s))=true):dP s=(0,0):=by unfold dP;rw [if_neg h,if_pos h0,if_neg h1,if_neg h2]
theorem M0 {s x:ao} (h:¬((s.getD 0 0).toNat=39∨(48≤(s.getD 0 0).toNat∧(s.getD 0 0).toNat≤57))) (h0:¬0<dj s) (h1:mR.find? (fun x=>Lib.hasPrefix s x)=some x):dP s=(5,x.length):=by unfold dP;rw [if_neg h,if_neg h0,h1]
theorem Td {s:ao} (h:¬((s.getD 0 0).toNat=39∨(48≤(s.getD 0 0).toNat∧(s.getD 0 0).toNat≤57))) (h0:¬0<dj s) (h1:mR.find? (fun x=>Lib.hasPrefix s x)=none):dP s=(0,0):=by unfold dP;rw [if_neg h,if_neg h0,h1]
theorem aeD {s x:ao} (h:Lib.hasPrefix s x=true):x=s.take x.length:=List.prefix_iff_eq_take.1 ((og _ _).1 h)
theorem ae8 (s:ao) (hne:s≠ []) (hs:s.length≤70368744177664) (w:World) (hX:Lx w):bx Tryz.prog 20 [str s] w fun v w'=>v=Dr s∧Below w.heap.size w w':=by
 have hL:=hX.lb;obtain ⟨A1,c1,hk1,hrk⟩:=hX.keys;obtain ⟨A2,c2,hk2,hrs⟩:=hX.signs;obtain ⟨c,hc⟩:∃c,c=s.getD 0 0:=⟨_,rfl⟩;have hpos:0<s.length:=List.length_pos_iff.2 hne;have hlen:=QW s;have hd1:=zL s;have hd2:=zL (45 :: s);simp only [List.length_cons] at hd2;have hb:=Below.refl w.heap.size w;have ce:=hL;have iM:=hk1;have iY:=hrk;have iX:=hk2;have iZ:=hrs;refine enter Tryz.func20 rfl rfl rfl<|am fun aR=>gp rfl rfl ?_
 rintro au dJ dH ab aM;have:=aM.size;have hb:=aZ hb aM;have hL:=ce.below hb;have hk1:=iM.below hb;have hrk:=iY.below hb;have hk2:=iX.below hb;have hrs:=iZ.below hb;have:=ab.lt;refine bT (z:=fx) (by kernel_rfl) rfl ?_;rintro cV mU mK aq cT;have:=cT.size;have hb:=aZ hb cT;have hL:=ce.below hb;have hk1:=iM.below hb;have hrk:=iY.below hb;have hk2:=iX.below hb;have hrs:=iZ.below hb;have ab:=ak.below ab cT;have:=aq.lt;refine al aR<|am fun b8=>aG (aS di rfl (by exact ab.cell 0)) rfl<|ae (bW (fP bI rfl rfl (by omega) (by omega)) (aH (show _=(c.toNat:Int) by rw [hc];rfl))) rfl<|an rfl<|al b8<|av fun _ eX=>am fun dW=>aG (aS di rfl (by exact ab.cell 0)) rfl<|aD afG rfl rfl (acG s (by omega) _) rfl ?_
 rintro _ cB ⟨rfl,aw⟩;have:=aw.size;have hb:=aZ hb aw;have hL:=ce.below hb;have hk1:=iM.below hb;have hrk:=iY.below hb;have hk2:=iX.below hb;have hrs:=iZ.below hb;have ab:=ak.below ab aw;have aq:=ak.below aq aw;refine an rfl<|al dW<|b4<|av fun _ eh=>cR (X:=Bool) (fun q=> [(1,.pointer (some ⟨au,0,none⟩)),(2,.pointer (some ⟨cV,0,none⟩)),(3,.int .u8 (c.toNat:Int)),(4,.int .i64 (dj s:Nat)),(16,.bool q)]) (fun q wr=>q=decide (c.toNat=39∨(48≤c.toNat∧c.toNat≤57))∧Below w.heap.size w wr∧ak wr au 9 [str s]∧ak wr cV 65 [.int .i64 0,str [],.int .i64 0]) (fun _ zg=>?_) ?_
 ·
  refine aQ<|ai rfl<|ae (bX rfl rfl) rfl<|ai rfl<|dy rfl rfl rfl (fun eS=>?_) (fun eS=>?_)
  ·
   have gq:=eS;simp only [DZ] at eS;refine az rfl rfl gq rfl rfl<|az rfl rfl gq rfl rfl<|bY rfl rfl rfl<|bY rfl rfl rfl<|az rfl rfl gq rfl rfl<|ae (bo rfl gq rfl) rfl<|an rfl<|ay<|a7 zg (decide (c.toNat=39∨(48≤c.toNat∧c.toNat≤57))) (by repeat first|exact aC|refine aA rfl (by first|rfl|exact a8 (by rw [Bool.eq_iff_iff];simp;omega)) ?_) ?_
   exact ⟨rfl,hb,ab,aq⟩
  have gq:=eS;simp only [DZ] at eS;refine ai rfl<|ap rfl rfl gq<|ae (f7 rfl rfl) rfl<|ap rfl rfl gq<|ai rfl<|cG rfl rfl rfl (fun jp=>?_) (fun jp=>?_)
  ·
   have jq:=jp;simp only [DZ] at jp;refine ai rfl<|ap rfl rfl jq<|ae (iu rfl rfl) rfl<|ap rfl rfl gq<|ae (bo rfl jq rfl) rfl<|ae (bj rfl gq rfl) rfl<|an rfl<|ay<|a7 zg (decide (c.toNat=39∨(48≤c.toNat∧c.toNat≤57))) (by repeat first|exact aC|refine aA rfl (by first|rfl|exact a8 (by rw [Bool.eq_iff_iff];simp;omega)) ?_) ?_
   exact ⟨rfl,hb,ab,aq⟩
  have jq:=jp;simp only [DZ] at jp;refine az rfl rfl jq rfl rfl<|ap rfl rfl gq<|ae (bj rfl jq rfl) rfl<|ae (bj rfl gq rfl) rfl<|an rfl<|ay<|a7 zg (decide (c.toNat=39∨(48≤c.toNat∧c.toNat≤57))) (by repeat first|exact aC|refine aA rfl (by first|rfl|exact a8 (by rw [Bool.eq_iff_iff];simp;omega)) ?_) ?_
  exact ⟨rfl,hb,ab,aq⟩
 rintro q wr lH;replace lH:q=decide (c.toNat=39∨(48≤c.toNat∧c.toNat≤57))∧Below w.heap.size w wr∧ak wr au 9 [str s]∧ak wr cV 65 [.int .i64 0,str [],.int .i64 0]:=lH;obtain ⟨hq,hb,ab,aq⟩:=lH;show Wq _ _ _ _ [(1,.pointer (some ⟨au,0,none⟩)),(2,.pointer (some ⟨cV,0,none⟩)),(3,.int .u8 (c.toNat:Int)),(4,.int .i64 (dj s:Nat)),(16,.bool q)] _;have hL:=ce.below hb;have hk1:=iM.below hb;have hrk:=iY.below hb;have hk2:=iX.below hb;have hrs:=iZ.below hb;have:=hb.size;have:=ab.lt;have:=aq.lt;refine ax eh<|aO rfl (fun nq=>?_) (fun nq=>?_)
 ·
  have sS:=nq;have hq0:c.toNat=39∨(48≤c.toNat∧c.toNat≤57):=by have h:=sS;rw [hq] at h;exact of_decide_eq_true h
  refine am fun gI=>aG (aS di rfl (by exact ab.cell 0)) rfl<|aD FR rfl rfl (D5 s (by omega) _ hL) rfl ?_
  rintro _ cU ⟨⟨u,n,ok,rfl,hr⟩,aL⟩;have:=aL.size;have hb:=aZ hb aL;have hL:=ce.below hb;have hk1:=iM.below hb;have hrk:=iY.below hb;have hk2:=iX.below hb;have hrs:=iZ.below hb;have ab:=ak.below ab aL;have aq:=ak.below aq aL;refine ai rfl<|ae (cu rfl rfl) rfl<|ae (cu rfl rfl) rfl<|ae (cu rfl rfl) rfl<|bT (z:=mO) (by kernel_rfl) rfl ?_
  rintro xe agL aaP mA qg;have:=qg.size;have hb:=aZ hb qg;have hL:=ce.below hb;have hk1:=iM.below hb;have hrk:=iY.below hb;have hk2:=iX.below hb;have hrs:=iZ.below hb;have ab:=ak.below ab qg;have aq:=ak.below aq qg;have:=mA.lt;refine ba (by kernel_rfl) rfl rfl mA rfl rfl ?_;rintro du mA aF;have:=aF.size;have hb:=cf hb aF hb.size (by omega);have hL:=ce.below hb;have hk1:=iM.below hb;have hrk:=iY.below hb;have hk2:=iX.below hb;have hrs:=iZ.below hb;have ab:=ab.over aF (by omega);have aq:=aq.over aF (by omega);refine an rfl<|an rfl<|al gI<|av fun _ mD=>av fun _ oB=>?_
  have hn:=hr.rdN;refine cR (X:=Bool) (fun q1=> [(1,.pointer (some ⟨au,0,none⟩)),(2,.pointer (some ⟨cV,0,none⟩)),(3,.int .u8 (c.toNat:Int)),(4,.int .i64 (dj s:Nat)),(6,.int .i64 (rdN s:Nat)),(38,.bool q1)]) (fun q1 wr=>q1=decide (c.toNat=39∧0<rdN s)∧Below w.heap.size w wr∧ak wr au 9 [str s]∧ak wr cV 65 [.int .i64 0,str [],.int .i64 0]) (fun _ E7=>?_) ?_
  ·
   refine aQ<|ai rfl<|ae (bX rfl rfl) rfl<|ai rfl<|cG rfl rfl rfl (fun jE=>?_) (fun jE=>?_)
   ·
    have nK:=jE;simp only [DZ] at jE;refine ai rfl<|ap rfl rfl nK<|ae (ed rfl rfl) rfl<|ae (bo rfl nK rfl) rfl<|ay<|a7 E7 (decide (c.toNat=39∧0<rdN s)) (by repeat first|exact aC|refine aA rfl (by first|rfl|exact aH (by rw [hr.rdN])|exact a8 (by rw [hr.rdN,Bool.eq_iff_iff];simp;omega)) ?_) ?_
    exact ⟨rfl,hb,ab,aq⟩
   have nK:=jE;simp only [DZ] at jE;refine az rfl rfl nK rfl rfl<|ae (bj rfl nK rfl) rfl<|ay<|a7 E7 (decide (c.toNat=39∧0<rdN s)) (by repeat first|exact aC|refine aA rfl (by first|rfl|exact aH (by rw [hr.rdN])|exact a8 (by rw [hr.rdN,Bool.eq_iff_iff];simp;omega)) ?_) ?_
   exact ⟨rfl,hb,ab,aq⟩
  rintro q1 wr xu;replace xu:q1=decide (c.toNat=39∧0<rdN s)∧Below w.heap.size w wr∧ak wr au 9 [str s]∧ak wr cV 65 [.int .i64 0,str [],.int .i64 0]:=xu;obtain ⟨hq1,hb,ab,aq⟩:=xu;show Wq _ _ _ _ [(1,.pointer (some ⟨au,0,none⟩)),(2,.pointer (some ⟨cV,0,none⟩)),(3,.int .u8 (c.toNat:Int)),(4,.int .i64 (dj s:Nat)),(6,.int .i64 (rdN s:Nat)),(38,.bool q1)] _;have hL:=ce.below hb;have hk1:=iM.below hb;have hrk:=iY.below hb;have hk2:=iX.below hb;have hrs:=iZ.below hb;have:=hb.size;have:=ab.lt;have:=aq.lt;refine ax oB<|aO rfl (fun G6=>?_) (fun G6=>?_)
  ·
   have G7:=G6;have hq3:c.toNat=39∧0<rdN s:=by have h:=G7;rw [hq1] at h;exact of_decide_eq_true h
   refine am fun kK=>aG (aS di rfl (by exact ab.cell 0)) rfl<|ai rfl<|ae (bW (pQ bI rfl rfl (by omega) (by omega)) (d5 (show _=s.take (rdN s) by rw [Int.toNat_natCast]))) rfl<|ae (cC (z:=mb) (pl:= [(0,1),(1,1),(2,1)]) (cs:= [_,_,_]) fe (by kernel_rfl) (by kernel_rfl) rfl rfl rfl) rfl<|ba (by kernel_rfl) rfl rfl aq rfl rfl ?_
   rintro ff aq bc;have:=bc.size;have hb:=cf hb bc hb.size (by omega);have hL:=ce.below hb;have hk1:=iM.below hb;have hrk:=iY.below hb;have hk2:=iX.below hb;have hrs:=iZ.below hb;refine al kK<|aJ<|aX (co (aX ?_))
   refine bQ (rs:= [.cell 2 65]) (vs:= [_]) rfl (.cell rfl (bP fe (by kernel_rfl) (fun j u hu=>aq.at hu)) .nil) ?_;exact ⟨_,rfl,Dt (MZ (by rw [←hc];exact hq3.1) hq3.2),hb⟩
  have G7:=G6;have hq3:¬(c.toNat=39∧0<rdN s):=by have h:=G7;rw [hq1] at h;exact of_decide_eq_false h
  refine aU<|ax mD<|am fun jv=>aG (aS di rfl (by exact ab.cell 0)) rfl<|ae (bW (eu rfl rfl (by simp;omega)) (d5 (show _=45 :: s by rfl))) rfl<|aD FR rfl rfl (D5 (45 :: s) (by show s.length+1≤_;omega) _ hL) rfl ?_
  rintro _ eP ⟨⟨u2,m,ok2,rfl,hr2⟩,a6⟩;have:=a6.size;have hb:=aZ hb a6;have hL:=ce.below hb;have hk1:=iM.below hb;have hrk:=iY.below hb;have hk2:=iX.below hb;have hrs:=iZ.below hb;have ab:=ak.below ab a6;have aq:=ak.below aq a6;refine ai rfl<|ae (cu rfl rfl) rfl<|ae (cu rfl rfl) rfl<|ae (cu rfl rfl) rfl<|bT (z:=mO) (by kernel_rfl) rfl ?_
  rintro Jk agO aaR oz uO;have:=uO.size;have hb:=aZ hb uO;have hL:=ce.below hb;have hk1:=iM.below hb;have hrk:=iY.below hb;have hk2:=iX.below hb;have hrs:=iZ.below hb;have ab:=ak.below ab uO;have aq:=ak.below aq uO;have:=oz.lt;refine ba (by kernel_rfl) rfl rfl oz rfl rfl ?_;rintro gB oz bz;have:=bz.size;have hb:=cf hb bz hb.size (by omega);have hL:=ce.below hb;have hk1:=iM.below hb;have hrk:=iY.below hb;have hk2:=iX.below hb;have hrs:=iZ.below hb;have ab:=ab.over bz (by omega);have aq:=aq.over bz (by omega);have Fh:=hr2.rdN;refine an rfl<|an rfl<|al jv<|av fun _ xF=>cR (X:=Bool) (fun q4=> [(1,.pointer (some ⟨au,0,none⟩)),(2,.pointer (some ⟨cV,0,none⟩)),(3,.int .u8 (c.toNat:Int)),(4,.int .i64 (dj s:Nat)),(6,.int .i64 (rdN s:Nat)),(9,.int .i64 (rdN (45 :: s):Nat)),(58,.bool q4)]) (fun q4 wr=>q4=decide (0<max (rdN s) (rdN (45 :: s) - 1)∧c.toNat≠39)∧Below w.heap.size w wr∧ak wr au 9 [str s]∧ak wr cV 65 [.int .i64 0,str [],.int .i64 0]) (fun _ Qm=>?_) ?_
  ·
   refine aQ<|ai rfl<|ai rfl<|ae (iQ rfl rfl (by omega) (by omega)) rfl<|ae (qy rfl rfl) rfl<|ae (ed rfl rfl) rfl<|ai rfl<|cG rfl rfl rfl (fun BL=>?_) (fun BL=>?_)
   ·
    have BM:=BL;simp only [DZ] at BL;refine ai rfl<|ap rfl rfl BM<|ae (fG rfl rfl) rfl<|ae (bo rfl BM rfl) rfl<|ay<|a7 Qm (decide (0<max (rdN s) (rdN (45 :: s) - 1)∧c.toNat≠39)) (by repeat first|exact aC|refine aA rfl (by first|rfl|exact aH (by rw [hr2.rdN])|exact a8 (by rw [hr2.rdN,Bool.eq_iff_iff];simp;omega)) ?_) ?_
    exact ⟨rfl,hb,ab,aq⟩
   have BM:=BL;simp only [DZ] at BL;refine az rfl rfl BM rfl rfl<|ae (bj rfl BM rfl) rfl<|ay<|a7 Qm (decide (0<max (rdN s) (rdN (45 :: s) - 1)∧c.toNat≠39)) (by repeat first|exact aC|refine aA rfl (by first|rfl|exact aH (by rw [hr2.rdN])|exact a8 (by rw [hr2.rdN,Bool.eq_iff_iff];simp;omega)) ?_) ?_
   exact ⟨rfl,hb,ab,aq⟩
  rintro q4 wr rk;replace rk:q4=decide (0<max (rdN s) (rdN (45 :: s) - 1)∧c.toNat≠39)∧Below w.heap.size w wr∧ak wr au 9 [str s]∧ak wr cV 65 [.int .i64 0,str [],.int .i64 0]:=rk;obtain ⟨hq4,hb,ab,aq⟩:=rk;show Wq _ _ _ _ [(1,.pointer (some ⟨au,0,none⟩)),(2,.pointer (some ⟨cV,0,none⟩)),(3,.int .u8 (c.toNat:Int)),(4,.int .i64 (dj s:Nat)),(6,.int .i64 (rdN s:Nat)),(9,.int .i64 (rdN (45 :: s):Nat)),(58,.bool q4)] _;have hL:=ce.below hb;have hk1:=iM.below hb;have hrk:=iY.below hb;have hk2:=iX.below hb;have hrs:=iZ.below hb;have:=hb.size;have:=ab.lt;have:=aq.lt;refine ax xF<|aO rfl (fun oW=>?_) (fun oW=>?_)
  ·
   have AE:=oW;have hq5:0<max (rdN s) (rdN (45 :: s) - 1)∧c.toNat≠39:=by have h:=AE;rw [hq4] at h;exact of_decide_eq_true h
   refine am fun rr=>aG (aS di rfl (by exact ab.cell 0)) rfl<|ai rfl<|ai rfl<|ae (iQ rfl rfl (by omega) (by omega)) rfl<|ae (bW (qy rfl rfl) (aH (show _=((max (rdN s) (rdN (45 :: s) - 1):Nat):Int) by omega))) rfl<|ae (bW (pQ bI rfl rfl (by omega) (by omega)) (d5 (show _=s.take (max (rdN s) (rdN (45 :: s) - 1)) by rw [Int.toNat_natCast]))) rfl<|ae (cC (z:=mb) (pl:= [(0,1),(1,1),(2,1)]) (cs:= [_,_,_]) fe (by kernel_rfl) (by kernel_rfl) rfl rfl rfl) rfl<|ba (by kernel_rfl) rfl rfl aq rfl rfl ?_
   rintro j7 aq cd;have:=cd.size;have hb:=cf hb cd hb.size (by omega);have hL:=ce.below hb;have hk1:=iM.below hb;have hrk:=iY.below hb;have hk2:=iX.below hb;have hrs:=iZ.below hb;refine al rr<|aJ<|co (aX ?_)
   refine bQ (rs:= [.cell 2 65]) (vs:= [_]) rfl (.cell rfl (bP fe (by kernel_rfl) (fun j u hu=>aq.at hu)) .nil) ?_;exact ⟨_,rfl,Dt (MY (by rw [←hc];exact hq0) (by rw [←hc];exact hq3) (by rw [←hc];exact hq5)),hb⟩
  have AE:=oW;have hq5:¬(0<max (rdN s) (rdN (45 :: s) - 1)∧c.toNat≠39):=by have h:=AE;rw [hq4] at h;exact of_decide_eq_false h
  refine aU<|cD<|ax eX<|am fun Cr=>ae (cC (z:=mb) (pl:= [(0,1),(1,1),(2,1)]) (cs:= [_,_,_]) fe (by kernel_rfl) (by kernel_rfl) rfl rfl rfl) rfl<|ba (by kernel_rfl) rfl rfl aq rfl rfl ?_
  rintro mi aq cF;have zq:=cF.size;have hb:=cf hb cF hb.size (by omega);have hL:=ce.below hb;have hk1:=iM.below hb;have hrk:=iY.below hb;have hk2:=iX.below hb;have hrs:=iZ.below hb;refine al Cr<|aJ<|bQ (rs:= [.cell 2 65]) (vs:= [_]) rfl (.cell rfl (bP fe (by kernel_rfl) (fun j u hu=>aq.at hu)) .nil) ?_
  exact ⟨_,rfl,M2 (Tc (by rw [←hc];exact hq0) (by rw [←hc];exact hq3) (by rw [←hc];exact hq5)),hb⟩
 have sS:=nq;have hq0:¬(c.toNat=39∨(48≤c.toNat∧c.toNat≤57)):=by have h:=sS;rw [hq] at h;exact of_decide_eq_false h
 refine av fun _ qb=>cR (X:=Bool) (fun q6=> [(1,.pointer (some ⟨au,0,none⟩)),(2,.pointer (some ⟨cV,0,none⟩)),(3,.int .u8 (c.toNat:Int)),(4,.int .i64 (dj s:Nat)),(66,.bool q6)]) (fun q6 wr=>q6=decide (0<dj s∧s.take (dj s)∈jy)∧Below w.heap.size w wr∧ak wr au 9 [str s]∧ak wr cV 65 [.int .i64 0,str [],.int .i64 0]) (fun _ PQ=>?_) ?_
 ·
  refine jg (n:=10) (fun w'=>Below w.heap.size w w'∧ak w' au 9 [str s]∧ak w' cV 65 [.int .i64 0,str [],.int .i64 0]) #[aj,aj,aj,aj,aj,aj,aj,aj,aj,aj] (by kernel_rfl) rfl (by kernel_rfl)<|jf ?_
  rintro Ac fo;have:=fo.size;have hb:=aZ hb fo;have hL:=ce.below hb;have hk1:=iM.below hb;have hrk:=iY.below hb;have hk2:=iX.below hb;have hrs:=iZ.below hb;have ab:=ak.below ab fo;have aq:=ak.below aq fo;refine bC (i:=0) #[ah,aj,aj,aj,aj,aj,aj,aj,aj,aj] rfl (by kernel_rfl) bF rfl (fun wq hq=>bU (dN rfl)) ⟨hb,ab,aq⟩<|bC (i:=1) #[ah,ah,aj,aj,aj,aj,aj,aj,aj,aj] rfl (by kernel_rfl) bF rfl (fun wq hq=>bU (ed rfl rfl)) ⟨hb,ab,aq⟩<|bC (i:=2) #[ah,ah,ah,aj,aj,aj,aj,aj,aj,aj] rfl (by kernel_rfl) bF rfl (fun wq hq=>bU (dN rfl)) ⟨hb,ab,aq⟩<|N5 (s:=69) rfl (fun o6=>?_) (fun o6=>?_)
  ·
   refine rT (i:=3) #[ah,ah,ah,ah,aj,aj,aj,aj,aj,aj] rfl rfl rfl o6 (by kernel_rfl) bF rfl (fun wq hq=>aS C8 rfl (by obtain ⟨hq,ab,aq⟩:=hq;exact iM.below hq)) ⟨hb,ab,aq⟩<|rT (i:=4) #[ah,ah,ah,ah,ah,aj,aj,aj,aj,aj] rfl rfl rfl o6 (by kernel_rfl) bF rfl (fun wq hq=>aS di rfl (by obtain ⟨hq,ab,aq⟩:=hq;first|exact ab.at rfl|exact aq.at rfl|exact ab.cell 0|exact aq.cell 0|assumption)) ⟨hb,ab,aq⟩<|rT (i:=5) #[ah,ah,ah,ah,ah,ah,aj,aj,aj,aj] rfl rfl rfl o6 (by kernel_rfl) bF rfl (fun wq hq=>bU (dN rfl)) ⟨hb,ab,aq⟩<|rT (i:=6) #[ah,ah,ah,ah,ah,ah,ah,aj,aj,aj] rfl rfl rfl o6 (by kernel_rfl) bF rfl (fun wq hq=>bU (bW (pQ bI rfl rfl (by omega) (by omega)) (d5 (show _=s.take (dj s) by rw [Int.toNat_natCast])))) ⟨hb,ab,aq⟩<|cM (rs:= [7]) (by kernel_rfl) rfl<|cO #[ah,ah,ah,ah,ah,ah,ah,ah,aj,aj] rfl rfl (fun _ tm=>?_) ?_
   ·
    refine ap rfl rfl o6<|aD Nc rfl rfl (Gh A1 c1 jy (s.take (dj s)) (by decide) _ hrk) rfl ?_
    rintro _ fj ⟨rfl,bk⟩;have:=bk.size;have hb:=aZ hb bk;have hL:=ce.below hb;have hk1:=iM.below hb;have hrk:=iY.below hb;have hk2:=iX.below hb;have hrs:=iZ.below hb;have ab:=ak.below ab bk;have aq:=ak.below aq bk;refine ay<|cN tm ⟨hb,ab,aq⟩<|bC (i:=8) #[ah,ah,ah,ah,ah,ah,ah,ah,ah,aj] rfl (by kernel_rfl) bF rfl (fun wq hq=>bU (bo rfl o6 rfl)) ⟨hb,ab,aq⟩<|bC (i:=9) #[ah,ah,ah,ah,ah,ah,ah,ah,ah,ah] rfl (by kernel_rfl) bF rfl (fun wq hq=>bU (it rfl)) ⟨hb,ab,aq⟩<|fB (by kernel_rfl)<|a7 PQ (decide (0<dj s∧s.take (dj s)∈jy)) (by repeat first|exact aC|refine aA rfl (by first|rfl|exact a8 (by rw [Bool.eq_iff_iff];simp_all)) ?_) ?_
    exact ⟨rfl,hb,ab,aq⟩
   exact cP
  refine oT (i:=3) #[ah,ah,ah,ah,aj,aj,aj,aj,aj,aj] rfl rfl rfl o6 (by kernel_rfl) bF rfl ⟨hb,ab,aq⟩<|oT (i:=4) #[ah,ah,ah,ah,ah,aj,aj,aj,aj,aj] rfl rfl rfl o6 (by kernel_rfl) bF rfl ⟨hb,ab,aq⟩<|oT (i:=5) #[ah,ah,ah,ah,ah,ah,aj,aj,aj,aj] rfl rfl rfl o6 (by kernel_rfl) bF rfl ⟨hb,ab,aq⟩<|oT (i:=6) #[ah,ah,ah,ah,ah,ah,ah,aj,aj,aj] rfl rfl rfl o6 (by kernel_rfl) bF rfl ⟨hb,ab,aq⟩<|oT (i:=7) #[ah,ah,ah,ah,ah,ah,ah,ah,aj,aj] rfl rfl rfl o6 (by kernel_rfl) bF rfl ⟨hb,ab,aq⟩<|bC (i:=8) #[ah,ah,ah,ah,ah,ah,ah,ah,ah,aj] rfl (by kernel_rfl) bF rfl (fun wq hq=>bU (bj rfl o6 rfl)) ⟨hb,ab,aq⟩<|bC (i:=9) #[ah,ah,ah,ah,ah,ah,ah,ah,ah,ah] rfl (by kernel_rfl) bF rfl (fun wq hq=>bU (it rfl)) ⟨hb,ab,aq⟩<|fB (by kernel_rfl)<|a7 PQ (decide (0<dj s∧s.take (dj s)∈jy)) (by repeat first|exact aC|refine aA rfl (by first|rfl|exact a8 (by rw [Bool.eq_iff_iff];simp_all)) ?_) ?_
  exact ⟨rfl,hb,ab,aq⟩
 rintro q6 wr xj;replace xj:q6=decide (0<dj s∧s.take (dj s)∈jy)∧Below w.heap.size w wr∧ak wr au 9 [str s]∧ak wr cV 65 [.int .i64 0,str [],.int .i64 0]:=xj;obtain ⟨hq6,hb,ab,aq⟩:=xj;show Wq _ _ _ _ [(1,.pointer (some ⟨au,0,none⟩)),(2,.pointer (some ⟨cV,0,none⟩)),(3,.int .u8 (c.toNat:Int)),(4,.int .i64 (dj s:Nat)),(66,.bool q6)] _;have hL:=ce.below hb;have hk1:=iM.below hb;have hrk:=iY.below hb;have hk2:=iX.below hb;have hrs:=iZ.below hb;have:=hb.size;have:=ab.lt;have:=aq.lt;refine ax qb<|aO rfl (fun Hs=>?_) (fun Hs=>?_)
 ·
  have Ht:=Hs;have hq7:0<dj s∧s.take (dj s)∈jy:=by have h:=Ht;rw [hq6] at h;exact of_decide_eq_true h
  refine am fun se=>aG (aS di rfl (by exact ab.cell 0)) rfl<|ai rfl<|ae (bW (pQ bI rfl rfl (by omega) (by omega)) (d5 (show _=s.take (dj s) by rw [Int.toNat_natCast]))) rfl<|ae (cC (z:=mb) (pl:= [(0,1),(1,1),(2,1)]) (cs:= [_,_,_]) fe (by kernel_rfl) (by kernel_rfl) rfl rfl rfl) rfl<|ba (by kernel_rfl) rfl rfl aq rfl rfl ?_
  rintro kW aq cx;have:=cx.size;have hb:=cf hb cx hb.size (by omega);have hL:=ce.below hb;have hk1:=iM.below hb;have hrk:=iY.below hb;have hk2:=iX.below hb;have hrs:=iZ.below hb;refine al se<|aJ<|co (aX ?_)
  refine bQ (rs:= [.cell 2 65]) (vs:= [_]) rfl (.cell rfl (bP fe (by kernel_rfl) (fun j u hu=>aq.at hu)) .nil) ?_;exact ⟨_,rfl,Dt (MX (by rw [←hc];exact hq0) hq7.1 hq7.2),hb⟩
 have Ht:=Hs;have hq7:¬(0<dj s∧s.take (dj s)∈jy):=by have h:=Ht;rw [hq6] at h;exact of_decide_eq_false h
 refine av fun _ B6=>cR (X:=Bool) (fun q8=> [(1,.pointer (some ⟨au,0,none⟩)),(2,.pointer (some ⟨cV,0,none⟩)),(3,.int .u8 (c.toNat:Int)),(4,.int .i64 (dj s:Nat)),(80,.bool q8)]) (fun q8 wr=>q8=decide (0<dj s∧jc (s.take (dj s))=true)∧Below w.heap.size w wr∧ak wr au 9 [str s]∧ak wr cV 65 [.int .i64 0,str [],.int .i64 0]) (fun _ PW=>?_) ?_
 ·
  refine aQ<|ai rfl<|ae (ed rfl rfl) rfl<|ai rfl<|cG rfl rfl rfl (fun lC=>?_) (fun lC=>?_)
  ·
   refine aG (aS di rfl (by exact ab.cell 0)) rfl<|ap rfl rfl lC<|ai rfl<|ap rfl rfl lC<|ae (bW (pQ bI rfl rfl (by omega) (by omega)) (d5 (show _=s.take (dj s) by rw [Int.toNat_natCast]))) rfl<|ap rfl rfl lC<|aD afH rfl rfl (WK (s.take (dj s)) (QU s) (Nat.le_trans (List.length_take_le _ _) (by omega)) _) rfl ?_
   rintro _ gj ⟨rfl,bD⟩;have:=bD.size;have hb:=aZ hb bD;have hL:=ce.below hb;have hk1:=iM.below hb;have hrk:=iY.below hb;have hk2:=iX.below hb;have hrs:=iZ.below hb;have ab:=ak.below ab bD;have aq:=ak.below aq bD;refine ae (bo rfl lC rfl) rfl<|an rfl<|ay<|a7 PW (decide (0<dj s∧jc (s.take (dj s))=true)) (by repeat first|exact aC|refine aA rfl (by first|rfl|exact a8 (by rw [Bool.eq_iff_iff];simp_all)) ?_) ?_
   exact ⟨rfl,hb,ab,aq⟩
  refine az rfl rfl lC rfl rfl<|az rfl rfl lC rfl rfl<|az rfl rfl lC rfl rfl<|ae (bj rfl lC rfl) rfl<|an rfl<|ay<|a7 PW (decide (0<dj s∧jc (s.take (dj s))=true)) (by repeat first|exact aC|refine aA rfl (by first|rfl|exact a8 (by rw [Bool.eq_iff_iff];simp_all)) ?_) ?_
  exact ⟨rfl,hb,ab,aq⟩
 rintro q8 wr Jz;replace Jz:q8=decide (0<dj s∧jc (s.take (dj s))=true)∧Below w.heap.size w wr∧ak wr au 9 [str s]∧ak wr cV 65 [.int .i64 0,str [],.int .i64 0]:=Jz;obtain ⟨hq8,hb,ab,aq⟩:=Jz;show Wq _ _ _ _ [(1,.pointer (some ⟨au,0,none⟩)),(2,.pointer (some ⟨cV,0,none⟩)),(3,.int .u8 (c.toNat:Int)),(4,.int .i64 (dj s:Nat)),(80,.bool q8)] _;have hL:=ce.below hb;have hk1:=iM.below hb;have hrk:=iY.below hb;have hk2:=iX.below hb;have hrs:=iZ.below hb;have:=hb.size;have:=ab.lt;have:=aq.lt;refine ax B6<|aO rfl (fun HS=>?_) (fun HS=>?_)
 ·
  have HT:=HS;have hq9:0<dj s∧jc (s.take (dj s))=true:=by have h:=HT;rw [hq8] at h;exact of_decide_eq_true h
  refine am fun Cb=>aG (aS di rfl (by exact ab.cell 0)) rfl<|ai rfl<|ae (bW (pQ bI rfl rfl (by omega) (by omega)) (d5 (show _=s.take (dj s) by rw [Int.toNat_natCast]))) rfl<|ae (cC (z:=mb) (pl:= [(0,1),(1,1),(2,1)]) (cs:= [_,_,_]) fe (by kernel_rfl) (by kernel_rfl) rfl rfl rfl) rfl<|ba (by kernel_rfl) rfl rfl aq rfl rfl ?_
  rintro mV aq cS;have:=cS.size;have hb:=cf hb cS hb.size (by omega);have hL:=ce.below hb;have hk1:=iM.below hb;have hrk:=iY.below hb;have hk2:=iX.below hb;have hrs:=iZ.below hb;refine al Cb<|aJ<|co (aX ?_)
  refine bQ (rs:= [.cell 2 65]) (vs:= [_]) rfl (.cell rfl (bP fe (by kernel_rfl) (fun j u hu=>aq.at hu)) .nil) ?_;exact ⟨_,rfl,Dt (M1 (by rw [←hc];exact hq0) hq9.1 (fun h=>hq7 ⟨hq9.1,h⟩) hq9.2),hb⟩
 have HT:=HS;have hq9:¬(0<dj s∧jc (s.take (dj s))=true):=by have h:=HT;rw [hq8] at h;exact of_decide_eq_false h
 refine am fun tt=>ai rfl<|ae (bX rfl rfl) rfl<|an rfl<|al tt<|aO rfl (fun rV=>?_) (fun rV=>?_)
 ·
  have XJ:=rV;simp only [DZ] at rV;refine am fun Cd=>aG (aS C8 rfl (by exact hk2)) rfl<|ae (nj rfl rfl) rfl<|aD afI rfl rfl (VG A2 c2 mR au s (by decide) _ hrs ab) rfl ?_
  rintro _ lW ⟨⟨z,rfl,hz⟩,cm⟩;have:=cm.size;have hb:=aZ hb cm;have hL:=ce.below hb;have hk1:=iM.below hb;have hrk:=iY.below hb;have hk2:=iX.below hb;have hrs:=iZ.below hb;have aq:=ak.below aq cm;refine an rfl<|al Cd<|am fun KD=>ai rfl<|ae (f7 rfl rfl) rfl<|al KD<|aO rfl (fun wv=>?_) (fun wv=>?_)
  ·
   have XQ:=wv;simp only [DZ] at wv
   obtain ⟨k,rfl,hk36,hfind⟩:∃k:Nat,z=k∧k<36∧mR.find? (fun x=>Lib.hasPrefix s x)=some (mR.getD k []):=by
    rcases hz with ⟨h,_⟩|h
    · have:=wv;omega
    · exact h
   obtain ⟨p_,v_,hpe,hve,hcell⟩:=hrs.one (i:=k) hk36;subst hpe;obtain rfl:=Do (l:=mR) hk36 hve;refine am fun KE=>aG (aS C8 rfl (by exact hk2)) rfl<|ai rfl<|ae (f8 dl pL rfl rfl (by omega) (by omega)) rfl ?_
   refine aG (aS di rfl (by exact vv hcell)) rfl ?_;refine ae (cC (z:=mb) (pl:= [(0,1),(1,1),(2,1)]) (cs:= [_,_,_]) fe (by kernel_rfl) (by kernel_rfl) rfl rfl rfl) rfl ?_;refine ba (by kernel_rfl) rfl rfl aq rfl rfl ?_;rintro mW aq df;have:=df.size;have hb:=cf hb df hb.size (by omega);have hL:=ce.below hb;have hk1:=iM.below hb;have hrk:=iY.below hb;have hk2:=iX.below hb;have hrs:=iZ.below hb;refine al KE<|aJ<|co (aX ?_)
   refine bQ (rs:= [.cell 2 65]) (vs:= [_]) rfl (.cell rfl (bP fe (by kernel_rfl) (fun j u hu=>aq.at hu)) .nil) ?_;exact ⟨_,rfl,by rw [←Dt (M0 (by rw [←hc];exact hq0) (by have:=rV;omega) hfind),←aeD (I3 hfind).1];rfl,hb⟩
  have XQ:=wv;simp only [DZ] at wv;refine aU<|cD<|ax eX<|am fun ZH=>ae (cC (z:=mb) (pl:= [(0,1),(1,1),(2,1)]) (cs:= [_,_,_]) fe (by kernel_rfl) (by kernel_rfl) rfl rfl rfl) rfl<|ba (by kernel_rfl) rfl rfl aq rfl rfl ?_
  rintro mi aq cF;have zq:=cF.size;have hb:=cf hb cF hb.size (by omega);have hL:=ce.below hb;have hk1:=iM.below hb;have hrk:=iY.below hb;have hk2:=iX.below hb;have hrs:=iZ.below hb;refine al ZH<|aJ<|bQ (rs:= [.cell 2 65]) (vs:= [_]) rfl (.cell rfl (bP fe (by kernel_rfl) (fun j u hu=>aq.at hu)) .nil) ?_
  exact ⟨_,rfl,M2 (Td (by rw [←hc];exact hq0) (by have:=rV;omega) (by rcases hz with h|⟨k,h,_⟩;(· exact h.2);(· have:=wv;omega))),hb⟩
 have XJ:=rV;simp only [DZ] at rV;refine aU<|cD<|ax eX<|am fun tu=>ae (cC (z:=mb) (pl:= [(0,1),(1,1),(2,1)]) (cs:= [_,_,_]) fe (by kernel_rfl) (by kernel_rfl) rfl rfl rfl) rfl<|ba (by kernel_rfl) rfl rfl aq rfl rfl ?_
 rintro mi aq cF;have zq:=cF.size;have hb:=cf hb cF hb.size (by omega);have hL:=ce.below hb;have hk1:=iM.below hb;have hrk:=iY.below hb;have hk2:=iX.below hb;have hrs:=iZ.below hb;refine al tu<|aJ<|bQ (rs:= [.cell 2 65]) (vs:= [_]) rfl (.cell rfl (bP fe (by kernel_rfl) (fun j u hu=>aq.at hu)) .nil) ?_
 exact ⟨_,rfl,M2 (Te (by rw [←hc];exact hq0) (by have:=rV;omega) (fun h=>hq7 ⟨by have:=rV;omega,h⟩) (fun h=>hq9 ⟨by have:=rV;omega,h⟩)),hb⟩
theorem wQ (p:Addr) (w:World):(Instr.fieldAt 65 (.pointer (some p)) 0).run Tryz.prog w= .ok (.pointer (some (p.add 0))) w:=eT (i:=0) (sz:=0) fe rfl (by kernel_rfl) p w
theorem r8 (p:Addr) (w:World):(Instr.fieldAt 65 (.pointer (some p)) 1).run Tryz.prog w= .ok (.pointer (some (p.add 1))) w:=eT (i:=1) (sz:=0) fe rfl (by kernel_rfl) p w
theorem qQ (p:Addr) (w:World):(Instr.fieldAt 65 (.pointer (some p)) 2).run Tryz.prog w= .ok (.pointer (some (p.add 2))) w:=eT (i:=2) (sz:=0) fe rfl (by kernel_rfl) p w
theorem b0:One Tryz.prog 3:=⟨_,mg,rfl,by kernel_rfl⟩
theorem afC:bB Tryz.prog 20:=⟨_,Tryz.func20,by kernel_rfl,rfl⟩
theorem LO (c:UInt8):∀l:ao,(0≤Lib.indexByte l c↔c∈l)∧-1≤Lib.indexByte l c
 | []=>by simp [Lib.indexByte]
 |b :: r=>by
  have ih:=LO c r;rw [Lib.indexByte];by_cases h:b=c
  · subst h;simp
  · have h1:(b==c)=false:=by simpa using h
    rw [h1,if_neg (by simp)];by_cases h2:Lib.indexByte r c= -1
    · rw [h2,if_pos (by simp)]
      rw [h2] at ih;refine ⟨⟨fun h=>by omega,fun hm=>?_⟩,by omega⟩
      rcases List.mem_cons.1 hm with e|e
      · exact absurd e.symm h
      · exact ih.1.2 e
    · rw [if_neg (by simpa using h2)]
      refine ⟨⟨fun _=>List.mem_cons_of_mem _ (ih.1.1 (by omega)),fun _=>by omega⟩,by omega⟩
theorem ae9 (s:ao) (hne:s≠ []) (hs:s.length≤70368744177664) (w:World) (hX:Lx w):bx Tryz.prog 20 [str s] w fun v w'=>(∃k n:Nat,v= .agg #[.int .i64 (k:Int),str (s.take n),.int .i64 0]∧dP s=(k,n))∧Below w.heap.size w w':=
 (ae8 s hne hs w hX).mono fun v w' ⟨h1,h2⟩=>⟨⟨(dP s).1,(dP s).2,h1,rfl⟩,h2⟩
def D1 (s:ao) (v:Value) (w':World):Prop:=
 (65536<s.length∧v= .tuple #[.slice none 0 0,.int .i64 0,.int .i64 6])∨
 (s.length≤65536∧∃i:Nat,eJ s 0= .error i∧v= .tuple #[.slice none 0 0,.int .i64 (i:Int),.int .i64 2])∨
 (s.length≤65536∧∃l A c,eJ s 0= .ok l∧v= .tuple #[.slice A l.length c,.int .i64 0,.int .i64 0]∧l.length≤65536∧l.length≤c∧Rd w' 3 A l.length (l.flatMap Tok.cells)∧∀q,A=some q→q.block<w'.heap.size)
theorem Rb {s:ao}:eJ s 0=(eJ (s.drop 0) 0).map ([]++ ·):=by
 rw [List.drop_zero]
 cases eJ s 0<;>rfl
theorem Q9 {s:ao} {i:Nat} {l:List Tok} (h:eJ s 0=(eJ (s.drop i) i).map (l++ ·)) (hi:i<s.length) (hb:blank (s.getD i 0)=true):eJ s 0=(eJ (s.drop (i+1)) (i+1)).map (l++ ·):=by
 rw [h,drop_at hi,L5 i hb]
theorem Q8 {s:ao} {i:Nat} {l:List Tok} (h:eJ s 0=(eJ (s.drop i) i).map (l++ ·)) (hi:i<s.length) (hb:blank (s.getD i 0)=false) (h0:(dP (s.drop i)).1=0):eJ s 0= .error i:=by
 rw [drop_at hi] at h0;rw [h,drop_at hi,L4 i hb h0];rfl
theorem Rc {s:ao} {i k n:Nat} {l:List Tok} (h:eJ s 0=(eJ (s.drop i) i).map (l++ ·)) (hi:i<s.length) (hb:blank (s.getD i 0)=false) (h1:dP (s.drop i)=(k,n)) (h0:k≠0):eJ s 0=(eJ (s.drop (i+n)) (i+n)).map ((l++ [⟨k,(s.drop i).take n,i⟩])++ ·):=by
 have h2:=h1;rw [drop_at hi] at h2;rw [h]
 conv=>lhs;rw [drop_at hi]
 rw [L8 i hb (by rw [h2];exact h0),h2,←drop_at hi,List.drop_drop]
 cases eJ (s.drop (i+n)) (i+n) with
 |error e=>rfl
 |ok r=>simp [Except.map]
theorem Ra {s:ao} {i:Nat} {l:List Tok} (h:eJ s 0=(eJ (s.drop i) i).map (l++ ·)) (hi:¬i<s.length):eJ s 0= .ok l:=by
 rw [h,List.drop_eq_nil_of_le (by omega),L7];simp [Except.map]
theorem QZ {s:ao} {w':World} (h:65536<s.length):D1 s (.tuple #[.slice none 0 0,.int .i64 0,.int .i64 6]) w':= .inl ⟨h,rfl⟩
theorem Va (s:ao) (hs:s.length≤70368744177664) (w:World) (hX:Lx w):bx Tryz.prog 8 [str s] w fun v w'=>D1 s v w'∧Below w.heap.size w w':=by
 have h44:([32,9,13,10]:ao).length=4:=rfl;have hb:=Below.refl w.heap.size w;have eo:=hX;refine enter Tryz.func8 rfl rfl rfl<|am fun aR=>an rfl<|an rfl<|an rfl<|al aR<|av fun _ dC=>am fun fi=>ai rfl<|ae (ez bI (by omega) rfl) rfl<|ae (ed rfl rfl) rfl<|al fi<|aO rfl (fun dA=>?_) (fun dA=>?_)
 ·
  have lp:=dA;simp only [DZ] at dA;refine am fun dT=>an rfl<|an rfl<|an rfl<|al dT<|aJ<|aX<|oh rfl rfl rfl rfl ?_
  exact ⟨_,rfl,QZ (by have:=dA;omega),hb⟩
 have lp:=dA;simp only [DZ] at dA;have hsl:s.length≤65536:=by have:=dA;omega
 refine aU<|ax dC<|am fun eL=>an rfl<|al eL<|av fun _ mB=>am fun dG=>an rfl<|al dG<|b4<|d9 (X:=Nat×List Tok×Value) (fun (i,l,v)=> [(0,str s),(5,v),(6,.int .i64 (i:Int))]) (fun (i,l,v) wr=>i≤s.length∧l.length≤i∧eJ s 0=(eJ (s.drop i) i).map (l++ ·)∧Below w.heap.size w wr∧wr.ownsRow w.heap.size 65 3 v l.length (l.flatMap Tok.cells)) (fun (i,l,v)=>s.length - i) (⟨0,[],.slice none 0 0⟩) ?_ ?_ ?_
 · exact by repeat first|exact aC|refine aA rfl (by first|rfl|exact aH (by omega)) ?_
 · exact ⟨by omega,Nat.le_refl _,Rb,hb,World.ownsRow_nil _ _ _ _⟩
 rintro ⟨i,l,v⟩ wr xo _ PN;replace xo:i≤s.length∧l.length≤i∧eJ s 0=(eJ (s.drop i) i).map (l++ ·)∧Below w.heap.size w wr∧wr.ownsRow w.heap.size 65 3 v l.length (l.flatMap Tok.cells):=xo;obtain ⟨hi,hll,hlx,hb,hO⟩:=xo;show Wc _ _ _ _ _ [(0,str s),(5,v),(6,.int .i64 (i:Int))] _;have hX:=eo.below hb;have:=hb.size;refine av fun _ kh=>am fun gr=>ai rfl<|ai rfl<|ae (ez bI (by omega) rfl) rfl<|ae (dL rfl rfl) rfl<|al gr<|aO rfl (fun gE=>?_) (fun gE=>?_)
 ·
  have rU:=gE;simp only [DZ] at gE;have hil:i<s.length:=by have:=gE;omega
  obtain ⟨c,hc⟩:∃c,c=s.getD i 0:=⟨_,rfl⟩;refine aU<|ax kh<|b4<|av fun _ fD=>am fun iJ=>ai rfl<|ai rfl<|ae (bW (fP bI rfl rfl (by omega) (by omega)) (aH (show _=(c.toNat:Int) by rw [hc,Int.toNat_natCast]))) rfl<|aD TI rfl rfl (NH [32,9,13,10] c _) rfl ?_
  rintro _ w_ ⟨⟨z,rfl,hz⟩,bV⟩;have bV:=bV.symm;subst bV;refine ae (f7 rfl rfl) rfl<|al iJ<|aO rfl (fun nv=>?_) (fun nv=>?_)
  ·
   have Hf:=nv;simp only [DZ] at nv;have hbl:blank (s.getD i 0)=true:=by unfold blank;rw [←hc,decide_eq_true_eq,←(LO c _).1,←hz];exact nv
   have rA:=Q9 hlx hil hbl;obtain ⟨j_,kL⟩:∃j,j=i+1:=⟨_,rfl⟩;rw [←kL] at rA;have xU:j_≤s.length:=by omega
   have pA:l.length≤j_:=by omega
   have xL:=hO;obtain ⟨l_,rz⟩:∃l',l'=l:=⟨_,rfl⟩;subst rz;obtain ⟨v_,cc⟩:∃v',v'=v:=⟨_,rfl⟩;subst cc;refine am fun kH=>ai rfl<|ae (ct rfl rfl (by omega) (by omega)) rfl<|an rfl<|al kH<|d2<|cj<|d3<|fun a_ bM=>PN _ _ (⟨j_,l_,v_⟩) (by show s.length - j_<s.length - i;omega) (by repeat first|exact aC|refine aA rfl (by first|rfl|exact aH (by omega)) ?_) ?_ a_ bM
   exact ⟨xU,pA,rA,hb,xL⟩
  have Hf:=nv;simp only [DZ] at nv;have hbl:blank (s.getD i 0)=false:=by unfold blank;rw [←hc,decide_eq_false_iff_not,←(LO c _).1,←hz];have:=nv;omega
  have hO0:=hO;refine aU<|ax fD<|am fun lK=>ai rfl<|ai rfl<|ae (bW (tW bI rfl rfl (by omega) (by omega)) (d5 (show _=s.drop i by rw [Int.toNat_natCast]))) rfl<|aD afC rfl rfl (ae9 (s.drop i) (by rw [drop_at hil];simp) (by rw [List.length_drop];omega) _ hX) rfl ?_
  rintro _ cU ⟨⟨k,n,rfl,htok⟩,aL⟩;have:=aL.size;have hb:=aZ hb aL;have hX:=eo.below hb;have hO:=mc hO aL;refine bT (z:=fx) (by kernel_rfl) rfl ?_;rintro mz F1 Lg fc io;have:=io.size;have hb:=aZ hb io;have hX:=eo.below hb;have hO:=mc hO io;have:=fc.lt
  have uJ:v.ownBlock=none∨v.ownBlock≠some mz:=by
   cases hv:v.ownBlock with
   |none=>exact .inl rfl
   |some kk=>exact .inr (fun e=>by have:=jz hO0 kk hv;cases e;omega)
  have Lf:some mz≠v.ownBlock:=by rcases uJ with h|h;(· rw [h];simp);(· exact fun e=>h e.symm)
  refine ba (by kernel_rfl) rfl rfl fc rfl rfl ?_;rintro du fc aF;have:=aF.size;have hb:=cf hb aF hb.size (by omega);have hX:=eo.below hb;have hO:=World.ownsRow.kept hO aF (by exact uJ);refine al lK<|av fun _ mE=>am fun gZ=>ae (aP (wQ _) rfl) rfl<|aG (aS b0 rfl (by exact fc.at (j:=0) rfl)) rfl<|ae (bX rfl rfl) rfl<|al gZ<|aO rfl (fun m2=>?_) (fun m2=>?_)
  ·
   have HB:=m2;simp only [DZ] at m2;have herr:=Q8 hlx hil hbl (by rw [htok];have:=m2;show k=0;omega);refine am fun lM=>ai rfl<|an rfl<|an rfl<|an rfl<|al lM<|aJ<|aX (co (aX (co (aX ?_))))
   refine oh rfl rfl rfl rfl ?_;exact ⟨_,rfl,.inr (.inl ⟨hsl,i,herr,rfl⟩),hb⟩
  have HB:=m2;simp only [DZ] at m2;have hk0:k≠0:=by have:=m2;omega
  have htl:=Ds (s.drop i) (by rw [drop_at hil];simp);rw [htok,List.length_drop] at htl;simp only at htl;have hn0:0<n:=by have:=htl.2.1;omega
  have hlx2:=Rc hlx hil hbl htok hk0;refine aU<|ax mE<|am fun kK=>ai rfl<|ae (aP (qQ _) rfl) rfl<|fV b0 rfl rfl rfl fc (show 2<3 from by decide) ?_
  rintro ff fc bc;have:=bc.size;have hb:=cf hb bc hb.size (by omega);have hX:=eo.below hb;have hO:=World.ownsRow.kept hO bc (by exact uJ);refine al kK<|am fun nR=>ai rfl<|aG (cr fe (by kernel_rfl) rfl (by exact fun j u hu=>fc.at hu)) rfl<|cz (sz:=3) (vs:= [_]) yx (by kernel_rfl) rfl rfl rfl rfl rfl rfl ?_
  rintro eA pO f4 bn c8;have:=c8.size;have hb:=aZ hb c8;have hX:=eo.below hb;have hO:=mc hO c8;have fc:=ak.below fc c8;have:=bn.lt;refine vr (z:=fx) (sz:=3) (bytes:=32) yx (by kernel_rfl) rfl (by decide) _ rfl hO rfl (bn.rd 1 3 rfl) (fun u hu=>by have h2:u∈ [Value.int .i64 (k:Int),str ((s.drop i).take n),.int .i64 (i:Int)]:=hu;simp only [List.mem_cons,List.not_mem_nil,or_false] at h2;rcases h2 with rfl|rfl|rfl<;>rfl) (by simp only [maxLen];omega) (by omega) (by exact hb.size) rfl ?_;rintro No sA Lo l8 Le;have:=l8.size;have hb:=hb.grown l8 hb.size (fun k_ ry=>by have:=(jz hO k_ ry).1;omega);have hX:=eo.below hb;have fc:=ak.grown fc l8 (by exact Lf);have hO:=Lo;refine an rfl<|al nR<|aQ<|ai rfl<|ae (aP (r8 _) rfl) rfl<|aG (aS di rfl (by exact fc.at (j:=1) rfl)) rfl<|ae (bW (ez bI (by rw [List.length_take,List.length_drop];omega) rfl) (aH (show _=(n:Int) by rw [List.length_take,List.length_drop];omega))) rfl<|ae (ct rfl rfl (by omega) (by omega)) rfl ?_
  have rA:=hlx2;obtain ⟨j_,kL⟩:∃j,j=i+n:=⟨_,rfl⟩;obtain ⟨l_,rz⟩:∃l',l'=l++ [⟨k,(s.drop i).take n,i⟩]:=⟨_,rfl⟩;rw [←kL,←rz] at rA;have xU:j_≤s.length:=by omega
  have pA:l_.length≤j_:=by rw [rz,List.length_append];show l.length+1≤_;omega
  obtain ⟨v_,cc⟩:∃v',v'=No:=⟨_,rfl⟩;subst cc;have xL:World.ownsRow sA w.heap.size 65 3 v_ l_.length (l_.flatMap Tok.cells):=by rw [rz,List.length_append,List.flatMap_append];exact hO
  refine an rfl<|ay<|cD<|fun a_ bM=>PN _ _ (⟨j_,l_,v_⟩) (by show s.length - j_<s.length - i;omega) (by repeat first|exact aC|refine aA rfl (by first|rfl|exact aH (by omega)) ?_) ?_ a_ bM
  exact ⟨xU,pA,rA,hb,xL⟩
 have rU:=gE;simp only [DZ] at gE;refine d2<|cj<|cj<|d3<|ax mB<|am fun tw=>?_
 obtain ⟨A_,c_,rfl,Ln,_⟩:=uZ hO;refine ai rfl<|an rfl<|an rfl<|an rfl<|al tw<|aJ<|oh rfl rfl rfl rfl ?_
 exact ⟨_,rfl,.inr (.inr ⟨hsl,l,A_,c_,Ra hlx (by have:=gE;omega),rfl,by omega,Ln,vi hO,fun q e=>by subst e;exact (jz hO q.block rfl).2⟩),hb⟩
end Go.Proofs.YtjdjliiolchciaaGreatDoor
