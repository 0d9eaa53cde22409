import Derived.Test.YtjmlknjbhbfneaaGreatDoorZLB
namespace Go.Bw
open Go.RowKit
set_option linter.unusedVariables false
set_option linter.unusedSimpArgs false
structure Kq (S:Nat→Prop) (w w':World):Prop where
 os:w'.os=w.os
 tape:w'.tape=w.tape
 output:w'.output=w.output
 size:w.heap.size≤w'.heap.size
 block:∀k,k<w.heap.size→¬S k→w'.heap[k]? =w.heap[k]?
section
variable {S:Nat→Prop} {w0 w w' a b c:World}
theorem Kq.refl (S:Nat→Prop) (w:World):Kq S w w:=⟨rfl,rfl,rfl,Nat.le_refl _,fun _ _ _=>rfl⟩
theorem Kq.trans (h:Kq S a b) (k:Kq S b c):Kq S a c:=
 ⟨k.os.trans h.os,k.tape.trans h.tape,k.output.trans h.output,Nat.le_trans h.size k.size,fun i hi hn=>(k.block i (Nat.lt_of_lt_of_le hi h.size) hn).trans (h.block i hi hn)⟩
theorem fg {p:Nat} (h:Kp p w w') (hS:S p):Kq S w w':=⟨h.os,h.tape,h.output,h.size,fun k hk hn=>h.block k hk (fun e=>by cases e;exact hn hS)⟩
theorem sZ {r:Option Nat} (hb:Kq S w0 w) (hg:w.grownBy w' r) (h:∀k,r=some k→w0.heap.size≤k∨S k):Kq S w0 w':=
 ⟨hg.os.trans hb.os,hg.tape.trans hb.tape,hg.output.trans hb.output,Nat.le_trans hb.size hg.size,fun i hi hn=>(hg.block i (Nat.lt_of_lt_of_le hi hb.size) (fun e=>by rcases h i e.symm with h|h;(· omega);(· exact hn h))).trans (hb.block i hi hn)⟩
theorem gZ {g:Nat} (hb:Kq S w0 w) (hg:w.grownBy w' (some g)) (hB:w0.heap.size≤g∨S g):Kq S w0 w':=sZ hb hg (fun k hk=>by cases hk;exact hB)
theorem Kq.weak {S':Nat→Prop} (h:Kq S w w') (hS:∀k,S k→S' k):Kq S' w w':=⟨h.os,h.tape,h.output,h.size,fun k hk hn=>h.block k hk (fun h2=>hn (hS k h2))⟩
theorem Kq.below {B:Nat} (h:Kq S w w') (hB:∀k,k<B→¬S k) (hs:B≤w.heap.size):Below B w w':=⟨h.os,h.tape,h.output,h.size,fun k hk=>h.block k (by omega) (hB k hk)⟩
theorem Rd.same {sz n:Nat} {A:Option Addr} {xs:List Value} (h:Rd w sz A n xs) (hk:∀q,A=some q→q.block<w.heap.size→w'.heap[q.block]? =w.heap[q.block]?):Rd w' sz A n xs:=
 ⟨h.1,fun h0=>let ⟨q,e,hc⟩:=h.2 h0;⟨q,e,fun j u hu=>by
  have h1:=hc j u hu
  have hb:=zZ h1
  rw [Ek] at hb
  rw [←h1];exact World.cell?_of_block (by rw [Ek];exact hk q e hb)⟩⟩
theorem fP {base:Nat} {e:TypeId} {sz n:Nat} {v:Value} {xs:List Value} (h:w.ownsRow base e sz v n xs) (hk:∀k,v.ownBlock=some k→k<w.heap.size→w'.heap[k]? =w.heap[k]?):w'.ownsRow base e sz v n xs:=by
 refine ⟨h.1,?_⟩
 rcases h.2 with hn|⟨g,cap,cur,rfl,hb,hgg,rest⟩
 · exact .inl hn
 · exact .inr ⟨g,cap,cur,rfl,hb,(hk g rfl (Array.getElem?_eq_some_iff.1 hgg).1).trans hgg,rest⟩
end
def rj:Nat→List (al)→List (al×Value)
 |_,[]=> []
 |i,x :: r=>(x,.int .i64 (i:Int)) :: rj (i+1) r
def f7 (l:List (al)):List (al×Value):=rj 0 l
def o6 (x:al):Nat→List (al)→Option Nat
 |_,[]=>none
 |i,y :: r=>if y=x then some i else o6 x (i+1) r
def idx (x:al) (l:List (al)):Option Nat:=o6 x 0 l
theorem RL:∀(i:Nat) (l:List (al)),(rj i l).length=l.length
 |_,[]=>rfl
 |i,x :: r=>by show (rj (i+1) r).length+1=_;rw [RL];rfl
theorem zh (l:List (al)):(f7 l).length=l.length:=RL 0 l
theorem RM (x:al):∀(i:Nat) (l:List (al)),rj i (l++ [x])=rj i l++ [(x,.int .i64 ((i+l.length:Nat):Int))]
 |i,[]=>rfl
 |i,y :: r=>by
  show _ :: rj (i+1) (r++ [x])=_ :: (rj (i+1) r++_);rw [RM x (i+1) r,List.length_cons,show i+1+r.length=i+(r.length+1) by omega]
theorem adW (l:List (al)) (x:al):f7 (l++ [x])=f7 l++ [(x,.int .i64 (l.length:Int))]:=by unfold f7;rw [RM,Nat.zero_add]
theorem RA (x:al):∀(i:Nat) (l:List (al)),fa (rj i l) x=(o6 x i l).map fun k=> .int .i64 (k:Int)
 |_,[]=>rfl
 |i,y :: r=>by
  have ih:=RA x (i+1) r;unfold fa at ih ⊢;unfold rj o6;by_cases h:y=x
  · subst h;simp
  · have h1:(y==x)=false:=by simpa using h
    rw [if_neg h,←ih,List.find?_cons];simp only [h1]
theorem Rz (l:List (al)) (x:al):fa (f7 l) x=(idx x l).map fun k=> .int .i64 (k:Int):=RA x 0 l
theorem Ry:∀{kv:List (al×Value)} {x:al},fa kv x=none→mB kv x=none
 | [],_,_=>rfl
 |(k,v) :: r,x,h=>by
  unfold fa at h;rw [List.find?_cons] at h;unfold mB;by_cases e:k=x
  · subst e;simp at h
  · have h1:(k==x)=false:=by simpa using e
    simp only [h1] at h;rw [if_neg (fun h=>e h.symm),Ry (by unfold fa;exact h)];rfl
theorem QU (x:al):∀(i:Nat) (l:List (al)),o6 x i l=none↔x ∉ l
 |_,[]=>by simp [o6]
 |i,y :: r=>by
  unfold o6;by_cases h:y=x
  · subst h;simp
  · rw [if_neg h,QU x (i+1) r,List.mem_cons];exact ⟨fun h1 h2=>h2.elim (fun e=>h e.symm) h1,fun h1 h2=>h1 (.inr h2)⟩
theorem QY {x:al} {l:List (al)}:idx x l=none↔x ∉ l:=QU x 0 l
theorem QV {x:al}:∀{i k:Nat} {l:List (al)},o6 x i l=some k→i≤k∧l[k - i]? =some x
 |_,_,[],h=>by cases h
 |i,k,y :: r,h=>by
  unfold o6 at h;by_cases e:y=x
  · rw [if_pos e] at h;cases h;subst e;simp
  · rw [if_neg e] at h
    obtain ⟨h1,h2⟩:=QV h;obtain ⟨m,hm⟩:∃m,k - i=m+1:=⟨k - i - 1,by omega⟩;exact ⟨by omega,by rw [hm,List.getElem?_cons_succ,show m=k - (i+1) by omega];exact h2⟩
theorem QZ {x:al} {k:Nat} {l:List (al)} (h:idx x l=some k):l[k]? =some x:=(QV h).2
theorem QX {x:al} {k:Nat} {l:List (al)} (h:idx x l=some k):k<l.length:=(List.getElem?_eq_some_iff.1 (QZ h)).1
end Go.Bw
namespace Go.Proofs.YtjmlknjbhbfneaaGreatDoor
open Go.RowKit Go.Bw Go.Bw.Fl
set_option linter.unusedVariables false
set_option linter.unusedSimpArgs false
structure eY (p:Nat) (w:World):Prop where
 lb:Lb w
 gl:Gl p
theorem eY.below {p:Nat} {w w':World} (h:eY p w) (hb:Below w.heap.size w w'):eY p w':=⟨h.lb.below hb,h.gl⟩
theorem eY.kp {p:Nat} {w w':World} (h:eY p w) (hb:Kp p w w'):eY p w':=⟨h.lb.kp hb h.gl,h.gl⟩
theorem eY.over {p g:Nat} {w w':World} (h:eY p w) (hb:w.grownBy w' (some g)) (hg:p≤g):eY p w':=⟨h.lb.kp hb (h.gl.mono hg),h.gl⟩
theorem ML {a b c:Value} (ha:a.oneCell'=true) (hb:b.oneCell'=true) (hc:c.oneCell'=true):∀u∈ [a,b,c],u.oneCell'=true:=fun u hu=>by
 simp only [List.mem_cons,List.not_mem_nil,or_false] at hu
 rcases hu with rfl|rfl|rfl<;>assumption
theorem DO {a b c d e f:Value} (ha:a.oneCell'=true) (hb:b.oneCell'=true) (hc:c.oneCell'=true) (hd:d.oneCell'=true) (he:e.oneCell'=true) (hf:f.oneCell'=true):∀u∈ [a,b,c,d,e,f],u.oneCell'=true:=fun u hu=>by
 simp only [List.mem_cons,List.not_mem_nil,or_false] at hu
 rcases hu with rfl|rfl|rfl|rfl|rfl|rfl<;>assumption
theorem tD {e b:Int} (hb:b≠0):cP e b≠0:=by
 unfold cP;split
 · exact hb
 · rename_i h;intro h2;exact h (.inl h2)
theorem FJ {kv:List (al×Value)} {nm:al} {most e:Int} (h:jF kv nm most e=0):e=0∧fa kv nm=none∧(kv.length:Int)<most:=by
 unfold jF at h
 split at h
 · exact absurd h (tD (by decide))
 · rename_i h1
   split at h
   · exact absurd h (tD (by decide))
   · rename_i h2;exact ⟨h,by simpa using h2,by omega⟩
theorem FG {l:List (al)} {x:al} (h:fa (f7 l) x=none):mput (f7 l) x (.int .i64 ((f7 l).length:Int))=f7 (l++ [x]):=by
 rw [LZ _ (Ry h),adW,zh]
theorem Rc (s:al) (e:Int):(iD s e).2.1.length≤s.length∧(iD s e).1.length≤s.length:=by
 have h:=Ra s.length [] s e (Nat.le_refl _);unfold iD;exact ⟨h.1,by have:=h.2;simp only [List.length_nil] at this;omega⟩
noncomputable def mC (s:al) (e:Int) (g:GV):GV×Int:=
 let L:=iD (a7 s) (cE s e)
 let P:=kt L.2.1 L.2.2
 (⟨g.ns++ [⟨wd s,gB L.1,P.1⟩],g.es⟩,jF (f7 (cK g)) (wd s) 1000 P.2)
def rK (t:al):al×Bool×Bool:=
 if Lib.hasPrefix t [45,62,32]=true then (t.drop 3,true,true) else if Lib.hasPrefix t [45,45,32]=true then (t.drop 3,false,true) else (t,false,false)
def iG (o:Option Nat) (e:Int):Int:=if o.isSome=true then e else cP e 3
def cZ (s:al):al×Bool×Bool:=rK (a7 (a7 s)++ [32])
def ga (s:al):al:=Lib.trimRightB (bF (cZ s).1) 32
def og (s:al) (e:Int):Int:=cE (ga s) (if (cZ s).2.2=true then cE (a7 s) (cE s e) else cP (cE (a7 s) (cE s e)) 2)
noncomputable def jO (s:al) (e:Int) (g:GV):GV×Int:=
 let f:=idx (wd (a7 s)) (cK g)
 let t:=idx (wd (ga s)) (cK g)
 let L:=iD (a7 (ga s)) (iG t (iG f (og s e)))
 let P:=kt L.2.1 L.2.2
 (⟨g.ns,g.es++ [⟨wd s,((f.getD 0:Nat):Int),((t.getD 0:Nat):Int),(cZ s).2.1,gB L.1,P.1⟩]⟩,jF (f7 (dy g)) (wd s) 1000 P.2)
def LS (C L:Nat) (V1 V2:Value) (k:Nat):Prop:=C≤k∧k<L∧V1.ownBlock≠some k∧V2.ownBlock≠some k
def rB (C:Nat) (w:World) (T sz:Nat) (V:Value) (n:Nat) (Q:Nat→List Value→Prop) (css:List (List Value)):Prop:=
 css.length=n∧(∀c∈css,c.length=sz)∧w.ownsRow C T sz V n css.flatten∧∀i,i<n→Q i (css.getD i [])
structure cu (C L:Nat) (w:World) (x m1 m2:Nat) (V1 V2:Value) (g:GV):Prop where
 xC:x<C
 m1C:m1<C
 m2C:m2<C
 x1:x≠m1
 x2:x≠m2
 m12:m1≠m2
 CL:C≤L
 Lw:L≤w.heap.size
 hx:aq w x 50 [V1,V2,.map (some m1),.map (some m2)]
 h1:Mp w m1 (f7 (cK g))
 h2:Mp w m2 (f7 (dy g))
 r1:∃css,rB C w 43 3 V1 g.ns.length (fun i cs=>lI (LS C L V1 V2) w cs (g.ns.getD i ct)) css
 r2:∃css,rB C w 46 6 V2 g.es.length (fun i cs=>lG (LS C L V1 V2) w cs (g.es.getD i bU)) css
 ap:po V1 V2
 v1:∀k,V1.ownBlock=some k→C≤k∧k<L
 v2:∀k,V2.ownBlock=some k→C≤k∧k<L
 oks:∀d∈g.ns,∀p∈d.ps,p.2.Ok
 oke:∀d∈g.es,∀p∈d.ps,p.2.Ok
 ln:g.ns.length≤1000
 le:g.es.length≤1000
theorem cY.keep {S S':Nat→Prop} {w w':World} {A B:Option Addr} {c e:Nat} {d:ND} (h:cY S w A c B e d) (hk:∀k,S k→w'.heap[k]? =w.heap[k]?) (hS:∀k,S k→S' k):cY S' w' A c B e d:=
 ⟨h.lc,h.pc,h.rl.same fun q e _=>hk _ (h.sl q e),h.rp.same fun q e _=>hk _ (h.sp q e),fun q e=>hS _ (h.sl q e),fun q e=>hS _ (h.sp q e)⟩
theorem lI.keep {S S':Nat→Prop} {w w':World} {cs:List Value} {d:ND} (h:lI S w cs d) (hk:∀k,S k→w'.heap[k]? =w.heap[k]?) (hS:∀k,S k→S' k):lI S' w' cs d:=let ⟨A,c,B,e,h1,h2⟩:=h;⟨A,c,B,e,h1,h2.keep hk hS⟩
theorem lG.keep {S S':Nat→Prop} {w w':World} {cs:List Value} {d:ED} (h:lG S w cs d) (hk:∀k,S k→w'.heap[k]? =w.heap[k]?) (hS:∀k,S k→S' k):lG S' w' cs d:=let ⟨A,c,B,e,h1,h2⟩:=h;⟨A,c,B,e,h1,h2.keep hk hS⟩
section
variable {C L x m1 m2:Nat} {w w':World} {V1 V2:Value} {g:GV}
theorem cu.keep (h:cu C L w x m1 m2 V1 V2 g) (hs:w.heap.size≤w'.heap.size) (hk:∀k,k<L→(C≤k∨k=x∨k=m1∨k=m2)→w'.heap[k]? =w.heap[k]?):cu C L w' x m1 m2 V1 V2 g:=
 {h with
  Lw:=Nat.le_trans h.Lw hs
  hx:=(hk x (by have:=h.xC;have:=h.CL;omega) (.inr (.inl rfl))).trans h.hx
  h1:=(hk m1 (by have:=h.m1C;have:=h.CL;omega) (.inr (.inr (.inl rfl)))).trans h.h1
  h2:=(hk m2 (by have:=h.m2C;have:=h.CL;omega) (.inr (.inr (.inr rfl)))).trans h.h2
  r1:=let ⟨css,a,b,c,d⟩:=h.r1;⟨css,a,b,fP c fun k e _=>hk k (h.v1 k e).2 (.inl (h.v1 k e).1),fun i hi=>(d i hi).keep (fun k hS=>hk k hS.2.1 (.inl hS.1)) (fun _ h=>h)⟩
  r2:=let ⟨css,a,b,c,d⟩:=h.r2;⟨css,a,b,fP c fun k e _=>hk k (h.v2 k e).2 (.inl (h.v2 k e).1),fun i hi=>(d i hi).keep (fun k hS=>hk k hS.2.1 (.inl hS.1)) (fun _ h=>h)⟩}
theorem cu.other {q:Nat} (h:cu C L w x m1 m2 V1 V2 g) (hg:w.grownBy w' (some q)) (hq:q<C) (hx:q≠x) (h1:q≠m1) (h2:q≠m2):cu C L w' x m1 m2 V1 V2 g:=h.keep hg.size fun k hk hc=>hg.block k (by have:=h.Lw;omega) (fun e=>by
 cases e
 rcases hc with e|e|e|e
 · omega
 · exact hx e
 · exact h1 e
 · exact h2 e)
theorem cu.below (h:cu C L w x m1 m2 V1 V2 g) (hb:Below w.heap.size w w'):cu C L w' x m1 m2 V1 V2 g:=h.keep hb.size fun k hk _=>hb.block k (by have:=h.Lw;omega)
theorem cu.kp {p:Nat} (h:cu C L w x m1 m2 V1 V2 g) (hb:Kp p w w') (hp:L≤p:=by omega):cu C L w' x m1 m2 V1 V2 g:=h.keep hb.size fun k hk _=>hb.block k (by have:=h.Lw;omega) (fun e=>by cases e;omega)
theorem cu.over {q:Nat} (h:cu C L w x m1 m2 V1 V2 g) (hb:w.grownBy w' (some q)) (hp:L≤q):cu C L w' x m1 m2 V1 V2 g:=h.kp hb hp
theorem cY.own {S:Nat→Prop} {w:World} {nm:al} {ls:List (al)} {ps:List Pr} {Al Ap:Option Addr} {n m cl cp b1 b2:Nat} (hOl:w.ownsRow b1 9 1 (.slice Al n cl) n (strs ls)) (hn:ls.length=n) (hOp:w.ownsRow b2 105 5 (.slice Ap m cp) m (c8 ps)) (hm:ps.length=m)
 (hSl:∀k,(Value.slice Al n cl).ownBlock=some k→S k) (hSp:∀k,(Value.slice Ap m cp).ownBlock=some k→S k):cY S w Al cl Ap cp ⟨nm,ls,ps⟩:=by
 subst hn;subst hm
 have key:∀{b:Nat} {T sz n:Nat} {A:Option Addr} {c:Nat} {xs:List Value},w.ownsRow b T sz (.slice A n c) n xs→n≤c:=fun h=>by
  obtain ⟨_,_,e,h1,_⟩:=eT h;injection e with e1 e2 e3;rw [e3];exact h1
 exact ⟨key hOl,key hOp,fC hOl,fC hOp,fun q e=>hSl _ (by rw [e];rfl),fun q e=>hSp _ (by rw [e];rfl)⟩
def SN (p x m:Nat) (V:Value) (k:Nat):Prop:=k=p∨k=x∨k=m∨V.ownBlock=some k
def LQ (p x m1 m2:Nat) (V1 V2:Value) (k:Nat):Prop:=k=p∨k=x∨k=m1∨k=m2∨V1.ownBlock=some k∨V2.ownBlock=some k
theorem cu.lq {p:Nat} (h:cu C L w x m1 m2 V1 V2 g) (hp:L≤p) {k:Nat} (hk:k<C) (hx:k≠x) (h1:k≠m1) (h2:k≠m2):¬LQ p x m1 m2 V1 V2 k:=fun hq=>by
 have:=h.CL
 rcases hq with e|e|e|e|e|e
 · omega
 · exact hx e
 · exact h1 e
 · exact h2 e
 · have:=(h.v1 k e).1;omega
 · have:=(h.v2 k e).1;omega
theorem qZ {α:Type} (l:List α) (a z:α) (i:Nat):(l++ [a]).getD i z=if i<l.length then l.getD i z else if i=l.length then a else z:=by
 simp only [List.getD_eq_getElem?_getD,List.getElem?_append]
 split
 · rfl
 · rename_i h
   split
   · rename_i h2;subst h2;simp
   · rename_i h2
     obtain ⟨m,hm⟩:∃m,i - l.length=m+1:=⟨i - l.length - 1,by omega⟩;rw [hm];simp
theorem rB.snoc {T sz n:Nat} {V V':Value} {Q Q':Nat→List Value→Prop} {css:List (List Value)} {cs:List Value} (h:rB C w T sz V n Q css) (hc:cs.length=sz) (hO:w'.ownsRow C T sz V' (n+1) (css.flatten++cs)) (hQ:∀i cs,i<n→Q i cs→Q' i cs) (hn:Q' n cs):rB C w' T sz V' (n+1) Q' (css++ [cs]):=by
 obtain ⟨a,b,c,d⟩:=h;refine ⟨by simp [a],fun x hx=>?_,by rw [List.flatten_append];simpa using hO,fun i hi=>?_⟩
 · rcases List.mem_append.1 hx with h|h
   · exact b x h
   · simp at h;rw [h];exact hc
 · rw [qZ,a]
   by_cases h1:i<n
   · rw [if_pos h1];exact hQ i _ h1 (d i h1)
   · have h2:i=n:=by omega
     rw [if_neg h1,if_pos h2,h2];exact hn
theorem NB (h:cu C L w x m1 m2 V1 V2 g) {S:Nat→Prop} {css:List (List Value)} {V1' Vl Vp:Value} {d:ND} (hcs:rB C w 43 3 V1 g.ns.length (fun i cs=>lI (LS C L V1 V2) w cs (g.ns.getD i ct)) css)
 (hb:Kq S w w') (hS:∀k,S k→k<L→k=x∨k=m1∨V1.ownBlock=some k) (hX:aq w' x 50 [V1',V2,.map (some m1),.map (some m2)]) (hM:Mp w' m1 (f7 (cK g++ [d.n])))
 (hO:w'.ownsRow C 43 3 V1' (g.ns.length+1) (css.flatten++ [str d.n,Vl,Vp])) (ha:V1'.ownBlock=V1.ownBlock∨∃k,V1'.ownBlock=some k∧w.heap.size≤k) (hnew:lI (LS C w'.heap.size V1' V2) w' [str d.n,Vl,Vp] d)
 (hok:∀p∈d.ps,p.2.Ok) (hlen:g.ns.length<1000):cu C w'.heap.size w' x m1 m2 V1' V2 ⟨g.ns++ [d],g.es⟩:=by
 have hCL:=h.CL;have hLw:=h.Lw;have hxC:=h.xC;have h1C:=h.m1C;have h2C:=h.m2C;have hsz:=hb.size
 have hkeep:∀k,C≤k→k<L→V1.ownBlock≠some k→w'.heap[k]? =w.heap[k]? :=fun k h1 h2 h3=>hb.block k (by omega) (fun hs=>by
  rcases hS k hs h2 with e|e|e
  · omega
  · omega
  · exact h3 e)
 have hS':∀k,LS C L V1 V2 k→LS C w'.heap.size V1' V2 k:=fun k ⟨a,b,c,d⟩=>⟨a,by omega,fun e=>by
  rcases ha with h3|⟨k0,h3,h4⟩
  · rw [h3] at e;exact c e
  · rw [h3] at e;cases e;omega,d⟩
 have hkl:∀k,LS C L V1 V2 k→w'.heap[k]? =w.heap[k]? :=fun k hk=>hkeep k hk.1 hk.2.1 hk.2.2.1
 have hv2:∀k,V2.ownBlock=some k→V1.ownBlock≠some k:=fun k hk e=>h.ap k e hk
 refine {xC:=hxC,m1C:=h1C,m2C:=h2C,x1:=h.x1,x2:=h.x2,m12:=h.m12,CL:=by omega,Lw:=Nat.le_refl _,hx:=hX,h1:=by simpa [cK] using hM,h2:=?_,r1:=⟨css++ [[str d.n,Vl,Vp]],?_⟩,r2:=?_,ap:=?_,v1:=?_,v2:=fun k hk=>⟨(h.v2 k hk).1,by have:=(h.v2 k hk).2;omega⟩,oks:=?_,oke:=h.oke,ln:=by simp;omega,le:=h.le}
 · exact (hb.block m2 (by omega) (fun hs=>by
    rcases hS m2 hs (by omega) with e|e|e
    · exact h.x2 e.symm
    · exact h.m12 e.symm
    · have:=(h.v1 m2 e).1;omega)).trans h.h2
 · have h5:=rB.snoc (Q':=fun i cs=>lI (LS C w'.heap.size V1' V2) w' cs ((g.ns++ [d]).getD i ct)) hcs rfl hO (fun i cs hi hq=>by
    rw [qZ,if_pos hi];exact hq.keep hkl hS') (by rw [qZ,if_neg (by omega),if_pos rfl];exact hnew)
   simpa using h5
 · obtain ⟨css2,a,b,c,e⟩:=h.r2
   exact ⟨css2,a,b,fP c fun k e _=>hkeep k (h.v2 k e).1 (h.v2 k e).2 (hv2 k e),fun i hi=>(e i hi).keep hkl hS'⟩
 · intro k hk e
   rcases ha with h3|⟨k0,h3,h4⟩
   · rw [h3] at hk;exact h.ap k hk e
   · rw [h3] at hk;cases hk;have:=(h.v2 _ e).2;omega
 · intro k hk
   exact ⟨(bz hO k hk).1,(bz hO k hk).2⟩
 · intro x hx
   rcases List.mem_append.1 hx with h6|h6
   · exact h.oks x h6
   · simp at h6;rw [h6];exact hok
theorem NA (h:cu C L w x m1 m2 V1 V2 g) {S:Nat→Prop} {css:List (List Value)} {V2':Value} {d:ED} {cs:List Value} (hcl:cs.length=6) (hcs:rB C w 46 6 V2 g.es.length (fun i cs=>lG (LS C L V1 V2) w cs (g.es.getD i bU)) css)
 (hb:Kq S w w') (hS:∀k,S k→k<L→k=x∨k=m2∨V2.ownBlock=some k) (hX:aq w' x 50 [V1,V2',.map (some m1),.map (some m2)]) (hM:Mp w' m2 (f7 (dy g++ [d.n])))
 (hO:w'.ownsRow C 46 6 V2' (g.es.length+1) (css.flatten++cs)) (ha:V2'.ownBlock=V2.ownBlock∨∃k,V2'.ownBlock=some k∧w.heap.size≤k) (hnew:lG (LS C w'.heap.size V1 V2') w' cs d)
 (hok:∀p∈d.ps,p.2.Ok) (hlen:g.es.length<1000):cu C w'.heap.size w' x m1 m2 V1 V2' ⟨g.ns,g.es++ [d]⟩:=by
 have hCL:=h.CL;have hLw:=h.Lw;have hxC:=h.xC;have h1C:=h.m1C;have h2C:=h.m2C;have hsz:=hb.size
 have hkeep:∀k,C≤k→k<L→V2.ownBlock≠some k→w'.heap[k]? =w.heap[k]? :=fun k h1 h2 h3=>hb.block k (by omega) (fun hs=>by
  rcases hS k hs h2 with e|e|e
  · omega
  · omega
  · exact h3 e)
 have hS':∀k,LS C L V1 V2 k→LS C w'.heap.size V1 V2' k:=fun k ⟨a,b,c,d⟩=>⟨a,by omega,c,fun e=>by
  rcases ha with h3|⟨k0,h3,h4⟩
  · rw [h3] at e;exact d e
  · rw [h3] at e;cases e;omega⟩
 have hkl:∀k,LS C L V1 V2 k→w'.heap[k]? =w.heap[k]? :=fun k hk=>hkeep k hk.1 hk.2.1 hk.2.2.2
 have hv1:∀k,V1.ownBlock=some k→V2.ownBlock≠some k:=fun k hk e=>h.ap k hk e
 refine {xC:=hxC,m1C:=h1C,m2C:=h2C,x1:=h.x1,x2:=h.x2,m12:=h.m12,CL:=by omega,Lw:=Nat.le_refl _,hx:=hX,h2:=by simpa [dy] using hM,h1:=?_,r2:=⟨css++ [cs],?_⟩,r1:=?_,ap:=?_,v2:=?_,v1:=fun k hk=>⟨(h.v1 k hk).1,by have:=(h.v1 k hk).2;omega⟩,oke:=?_,oks:=h.oks,le:=by simp;omega,ln:=h.ln}
 · exact (hb.block m1 (by omega) (fun hs=>by
    rcases hS m1 hs (by omega) with e|e|e
    · exact h.x1 e.symm
    · exact h.m12 e
    · have:=(h.v2 m1 e).1;omega)).trans h.h1
 · obtain ⟨css2,a,b,c,e⟩:=h.r1
   exact ⟨css2,a,b,fP c fun k e _=>hkeep k (h.v1 k e).1 (h.v1 k e).2 (hv1 k e),fun i hi=>(e i hi).keep hkl hS'⟩
 · have h5:=rB.snoc (Q':=fun i cs=>lG (LS C w'.heap.size V1 V2') w' cs ((g.es++ [d]).getD i bU)) hcs hcl hO (fun i cs hi hq=>by
    rw [qZ,if_pos hi];exact hq.keep hkl hS') (by rw [qZ,if_neg (by omega),if_pos rfl];exact hnew)
   simpa using h5
 · intro k hk e
   rcases ha with h3|⟨k0,h3,h4⟩
   · rw [h3] at e;exact h.ap k hk e
   · rw [h3] at e;cases e;have:=(h.v1 _ hk).2;omega
 · intro k hk
   exact ⟨(bz hO k hk).1,(bz hO k hk).2⟩
 · intro x hx
   rcases List.mem_append.1 hx with h6|h6
   · exact h.oke x h6
   · simp at h6;rw [h6];exact hok
end
end Go.Proofs.YtjmlknjbhbfneaaGreatDoor
namespace Go.Proofs.YtjmlknjbhbfneaaGreatDoor
open Go.RowKit Go.Bw Go.Bw.Fl
set_option linter.unusedVariables false
set_option linter.unusedSimpArgs false
theorem wk (p:Addr) (w:World):(Instr.fieldAt 50 (.pointer (some p)) 0).run Tryz.prog w= .ok (.pointer (some (p.add 0))) w:=fd (i:=0) (sz:=1) Gu rfl (by kernel_rfl) p w
theorem TM:bC Tryz.prog 32:=⟨_,Tryz.func32,by kernel_rfl,rfl⟩
theorem TN:bC Tryz.prog 33:=⟨_,Tryz.func33,by kernel_rfl,rfl⟩
theorem T1:bC Tryz.prog 34:=⟨_,Tryz.func34,by kernel_rfl,rfl⟩
theorem adY (C L p x m1 m2:Nat) (V1 V2:Value) (g:GV) (s:al) (e:Int) (w:World) (hP:aq w p 56 [str s,.int .i64 e]) (hD:cu C L w x m1 m2 V1 V2 g) (hp:L≤p) (hs:s.length≤4294967296) (hL:Lb w) (hG:Gl p):
 be Tryz.prog 15 [.pointer (some ⟨x,0,none⟩),.pointer (some ⟨p,0,none⟩)] w fun v w'=>(v= .tuple #[]∧(∃s',aq w' p 56 [str s',.int .i64 (mC s e g).2])∧((mC s e g).2=0→∃V1',cu C w'.heap.size w' x m1 m2 V1' V2 (mC s e g).1))∧Kq (LQ p x m1 m2 V1 V2) w w':=by
 have hpl:=hP.lt
 have hLG:eY p w:=⟨hL,hG⟩
 have hSp:SN p x m1 V1 p:= .inl rfl
 have hSx:SN p x m1 V1 x:= .inr (.inl rfl)
 have hSm:SN p x m1 V1 m1:= .inr (.inr (.inl rfl))
 have hSv:∀k,V1.ownBlock=some k→SN p x m1 V1 k:=fun k h=> .inr (.inr (.inr h))
 have hx1:=hD.x1;have hxC:=hD.xC;have hmC:=hD.m1C;have hCL:=hD.CL;have hLw:=hD.Lw;have hln:=hD.ln
 have hwd:=lF s
 obtain ⟨nm,hnm⟩:∃nm,nm=wd s:=⟨_,rfl⟩
 obtain ⟨s1,hs1⟩:∃s1,s1=a7 s:=⟨_,rfl⟩
 obtain ⟨e1,he1⟩:∃e1,e1=cE s e:=⟨_,rfl⟩
 have hlb2:=(Rc s1 e1).1
 obtain ⟨Lo,hLo⟩:∃Lo,Lo=iD s1 e1:=⟨_,rfl⟩
 obtain ⟨jt,hPo⟩:∃jt,jt=kt Lo.2.1 Lo.2.2:=⟨_,rfl⟩
 have hstep:mC s e g=(⟨g.ns++ [⟨nm,gB Lo.1,jt.1⟩],g.es⟩,jF (f7 (cK g)) nm 1000 jt.2):=by rw [hPo,hLo,hs1,he1,hnm];rfl
 rw [←hLo] at hlb2
 rw [←hs1] at hwd
 have hb:=Kq.refl (SN p x m1 V1) w
 refine enter Tryz.func15 rfl rfl rfl<|ao fun aZ=>ai rfl<|aS zB rfl rfl (zF p s e _ hP (by omega)) rfl ?_
 rintro _ cq ⟨⟨rfl,hP⟩,bm⟩
 have:=bm.size
 have hD:=cu.kp hD bm
 have hLG:=eY.kp hLG bm
 have hb:=hb.trans (fg bm (by assumption))
 rw [←hnm,←hs1,←he1] at *
 refine ah (fe (z:=Rp) (pl:= [(0,1),(1,1),(2,1)]) (cs:= [_,_,_]) tg (by kernel_rfl) (by kernel_rfl) rfl rfl rfl) rfl<|el (z:=oo) (by kernel_rfl) rfl ?_
 rintro c7 DW y0 aD f6
 have:=f6.size
 have hP:=hP.below f6
 have hD:=hD.below f6
 have hLG:=hLG.below f6
 replace f6:=Below.kp (p:=p) f6
 have hb:=hb.trans (fg f6 (by assumption))
 have:=aD.lt
 refine cH (by kernel_rfl) rfl rfl aD rfl rfl ?_
 rintro d3 aD bI
 have:=bI.size
 have hb:=gZ hb bI (by left;omega)
 have hP:=hP.over bI (by omega)
 have hD:=cu.over hD bI (by omega)
 have hLG:=eY.over hLG bI (by omega)
 refine an aZ<|ao fun ex=>ai rfl<|aS TM rfl rfl (Re p s1 e1 _ hP (by omega)) rfl ?_
 rintro Vl ft ⟨⟨hOl,hP⟩,bp⟩
 have:=bp.size
 have hD:=cu.kp hD bp
 have hLG:=eY.kp hLG bp
 have aD:=aq.kp aD bp (by omega)
 have hb:=hb.trans (fg bp (by assumption))
 refine ai rfl ?_
 obtain ⟨Al,cl,hVl,hcl,_⟩:=eT hOl
 subst hVl
 rw [←hLo] at *
 refine aS TN rfl rfl (Sq p Lo.2.1 Lo.2.2 _ hP (by omega) hLG.lb hG) rfl ?_
 rintro Vp gu ⟨⟨hOp,hP,hok⟩,bG⟩
 have:=bG.size
 have hD:=cu.kp hD bG
 have aD:=aq.kp aD bG (by omega)
 have hOl:=ro hOl bG (by omega)
 have hb:=hb.trans (fg bG (by assumption))
 refine ah (aJ (AS _) rfl) rfl ?_
 obtain ⟨Ap,cp,hVp,hcp,_⟩:=eT hOp
 subst hVp
 have aca:=qE (p:=c7) hOl (by omega)
 have acb:=qE (p:=c7) hOp (by omega)
 refine fJ mD rfl rfl rfl aD (by simp) ?_
 rintro ky aD cd
 have:=cd.size
 have hb:=gZ hb cd (by left;omega)
 have hP:=hP.over cd (by omega)
 have hD:=cu.over hD cd (by omega)
 have hOl:=World.ownsRow.kept hOl cd (by assumption)
 have hOp:=World.ownsRow.kept hOp cd (by assumption)
 refine ah (aJ (AT _) rfl) rfl<|fJ rm rfl rfl rfl aD (by simp) ?_
 rintro oA aD di
 have:=di.size
 have hb:=gZ hb di (by left;omega)
 have hP:=hP.over di (by omega)
 have hD:=cu.over hD di (by omega)
 have hOl:=World.ownsRow.kept hOl di (by assumption)
 have hOp:=World.ownsRow.kept hOp di (by assumption)
 refine an ex<|ax fun _ eQ=>?_
 rw [←hPo] at *
 obtain ⟨css,hcs⟩:=hD.r1
 have hD2:=hD
 have hO:=hcs.2.2.1
 have hX:=hD.hx
 have hM:=hD.h1
 have hL2:=hD.Lw
 have hv1:=hD.v1
 have hb2:=Kq.refl (SN p x m1 V1) oA
 refine gG (n:=8) (fun w'=>Kq (SN p x m1 V1) oA w'∧aq w' x 50 [V1,V2,.map (some m1),.map (some m2)]∧aq w' c7 43 [str nm,.slice Al Lo.1.length cl,.slice Ap jt.1.length cp]) #[ac,ac,ac,ac,ac,ac,ac,ac] (by kernel_rfl) rfl (by kernel_rfl)<|gF ?_
 rintro ai6 o5
 have:=o5.size
 have hP:=hP.below o5
 have aD:=aD.below o5
 have hOl:=cR hOl o5
 have hOp:=cR hOp o5
 have hX:=hX.below o5
 have hO:=cR hO o5
 have hM:=hM.below o5
 replace o5:=Below.kp (p:=p) o5
 have hb:=hb.trans (fg o5 (by assumption))
 have hb2:=hb2.trans (fg o5 (by assumption))
 refine aT (i:=0) #[ab,ac,ac,ac,ac,ac,ac,ac] rfl (by kernel_rfl) aO rfl (fun wq hq=>a8 (bl rfl)) ⟨hb2,hX,aD⟩<|aT (i:=1) #[ab,ab,ac,ac,ac,ac,ac,ac] rfl (by kernel_rfl) aO rfl (fun wq hq=>a8 (bl rfl)) ⟨hb2,hX,aD⟩<|aT (i:=2) #[ab,ab,ab,ac,ac,ac,ac,ac] rfl (by kernel_rfl) aO rfl (fun wq hq=>a8 (cM rfl)) ⟨hb2,hX,aD⟩<|aT (i:=3) #[ab,ab,ab,ab,ac,ac,ac,ac] rfl (by kernel_rfl) aO rfl (fun wq hq=>a8 (aJ (Pe _) rfl)) ⟨hb2,hX,aD⟩<|aT (i:=4) #[ab,ab,ab,ab,ab,ac,ac,ac] rfl (by kernel_rfl) aO rfl (fun wq hq=>aI xT rfl (by obtain ⟨hq,hX,aD⟩:=hq;exact hX.at (j:=2) rfl)) ⟨hb2,hX,aD⟩<|aT (i:=5) #[ab,ab,ab,ab,ab,ab,ac,ac] rfl (by kernel_rfl) aO rfl (fun wq hq=>a8 (aJ (r6 _) rfl)) ⟨hb2,hX,aD⟩<|aT (i:=6) #[ab,ab,ab,ab,ab,ab,ab,ac] rfl (by kernel_rfl) aO rfl (fun wq hq=>aI bQ rfl (by obtain ⟨hq,hX,aD⟩:=hq;exact aD.at (j:=0) rfl)) ⟨hb2,hX,aD⟩<|bM (rs:= [7]) (by kernel_rfl) rfl<|bv #[ab,ab,ab,ab,ab,ab,ab,ab] rfl rfl (fun _ fZ=>?_) ?_
 ·
  refine aS T1 rfl rfl (RH p m1 [] jt.2 (f7 (cK g)) nm 1000 _ hP hM (by omega)) rfl ?_;rintro _ hZ ⟨⟨rfl,hP,hM⟩,w1_,kY,kZ⟩;have C9:=kY.size;have acN:=kZ.size;have hX:=(hX.kp kY (by omega)).over kZ hx1;have aD:=(aD.kp kY (by omega)).over kZ (by omega);have hO:=fP hO (fun k hk hkl=>(kZ.block k (by omega) (fun h=>by have:=(hv1 k hk).1;cases h;omega)).trans (kY.block k hkl (fun h=>by have:=(hv1 k hk).2;cases h;omega)));have hOl:=World.ownsRow.kept (ro hOl kY (by omega)) kZ (qE hOl (by omega));have hOp:=World.ownsRow.kept (ro hOp kY (by omega)) kZ (qE hOp (by omega));have hb:=gZ (hb.trans (fg kY hSp)) kZ (.inr hSm);have hb2:=gZ (hb2.trans (fg kY hSp)) kZ (.inr hSm);refine ay<|bu fZ ⟨hb2,hX,aD⟩<|eE (by kernel_rfl)<|aw eQ<|gG (n:=13) (fun w'=>Kq (SN p x m1 V1) oA w'∧aq w' c7 43 [str nm,.slice Al Lo.1.length cl,.slice Ap jt.1.length cp]) #[ac,ac,ac,ac,ac,ac,ac,ac,ac,ac,ac,ac,ac] (by kernel_rfl) rfl (by kernel_rfl)<|gF ?_
  rintro M8 jm;have:=jm.size;have hP:=hP.below jm;have aD:=aD.below jm;have hOl:=cR hOl jm;have hOp:=cR hOp jm;have hX:=hX.below jm;have hO:=cR hO jm;have hM:=hM.below jm;replace jm:=Below.kp (p:=p) jm;have hb:=hb.trans (fg jm (by assumption));have hb2:=hb2.trans (fg jm (by assumption));refine aT (i:=0) #[ab,ac,ac,ac,ac,ac,ac,ac,ac,ac,ac,ac,ac] rfl (by kernel_rfl) aO rfl (fun wq hq=>a8 (bl rfl)) ⟨hb2,aD⟩<|aT (i:=1) #[ab,ab,ac,ac,ac,ac,ac,ac,ac,ac,ac,ac,ac] rfl (by kernel_rfl) aO rfl (fun wq hq=>a8 (bl rfl)) ⟨hb2,aD⟩<|aT (i:=2) #[ab,ab,ab,ac,ac,ac,ac,ac,ac,ac,ac,ac,ac] rfl (by kernel_rfl) aO rfl (fun wq hq=>a8 (cM rfl)) ⟨hb2,aD⟩<|aT (i:=3) #[ab,ab,ab,ab,ac,ac,ac,ac,ac,ac,ac,ac,ac] rfl (by kernel_rfl) aO rfl (fun wq hq=>a8 (aJ (wk _) rfl)) ⟨hb2,aD⟩<|aT (i:=4) #[ab,ab,ab,ab,ab,ac,ac,ac,ac,ac,ac,ac,ac] rfl (by kernel_rfl) aO rfl (fun wq hq=>a8 (aJ (gw _) rfl)) ⟨hb2,aD⟩<|aT (i:=6) #[ab,ab,ab,ab,ab,ac,ab,ac,ac,ac,ac,ac,ac] rfl (by kernel_rfl) aO rfl (fun wq hq=>dM tg (by kernel_rfl) rfl (by obtain ⟨hq,aD⟩:=hq;exact fun j u hu=>aD.at hu)) ⟨hb2,aD⟩<|bM (rs:= [5,7]) (by kernel_rfl) rfl<|bv #[ab,ab,ab,ab,ab,ab,ab,ac,ac,ac,ac,ac,ac] rfl rfl (fun _ gK=>?_) ?_
  ·
   refine aW (aI fG rfl (by exact hX.at (j:=0) rfl)) rfl<|ay<|bu gK ⟨hb2,aD⟩<|bM (rs:= [7]) (by kernel_rfl) rfl<|bv #[ab,ab,ab,ab,ab,ab,ab,ab,ac,ac,ac,ac,ac] rfl rfl (fun _ jW=>?_) ?_
   ·
    refine dX (sz:=3) (vs:= [_]) dJ (by kernel_rfl) rfl rfl rfl rfl rfl rfl ?_;rintro ix qL oX ew cm;have LC:=cm.size;have hP:=hP.below cm;have aD:=aD.below cm;have hOl:=cR hOl cm;have hOp:=cR hOp cm;have hX:=hX.below cm;have hO:=cR hO cm;have hM:=hM.below cm;replace cm:=Below.kp (p:=p) cm;have hb:=hb.trans (fg cm (by assumption));have hb2:=hb2.trans (fg cm (by assumption));have Lm:=ew.lt;refine ay<|bu jW ⟨hb2,aD⟩<|bM (rs:= [8]) (by kernel_rfl) rfl<|bv #[ab,ab,ab,ab,ab,ab,ab,ab,ab,ac,ac,ac,ac] rfl rfl (fun _ jh=>?_) ?_
    ·
     have hB3:aq _ ix 43 [str nm,.slice Al Lo.1.length cl,.slice Ap jt.1.length cp]:=ew;have hgl:=bz hOl;have hgp:=bz hOp;refine dK (z:=Rk) (sz:=3) (bytes:=64) dJ (by kernel_rfl) rfl (by decide) C rfl hO rfl (hB3.rd 1 3 rfl) (ML rfl rfl rfl) (by simp only [maxLen];omega) (by omega) (by omega) rfl ?_;rintro V1' kw hO2 dg jl;have qA:=dg.size;have hP:=hP.grown dg (fun h=>by have:=(hv1 _ h.symm).2;omega);have hX:=hX.grown dg (fun h=>by have:=(hv1 _ h.symm).1;omega);have hM:=hM.grown dg (fun h=>by have:=(hv1 _ h.symm).1;omega);have aD:=aD.grown dg (fun h=>by have:=(hv1 _ h.symm).2;omega);have hOl:=fP hOl (fun k hk hkl=>dg.block k hkl (fun h=>by have h1:=(hgl k hk).1;have:=(hv1 _ h.symm).2;omega));have hOp:=fP hOp (fun k hk hkl=>dg.block k hkl (fun h=>by have h1:=(hgp k hk).1;have:=(hv1 _ h.symm).2;omega));have hb:=sZ hb dg (fun k hk=> .inr (hSv k hk));have hb2:=sZ hb2 dg (fun k hk=> .inr (hSv k hk));obtain ⟨A1,c1,hV1e,hc1,_⟩:=eT hO2;have hv1n:∀k,V1'.ownBlock=some k→k≠x:=fun k hk h=>by rcases jl with h2|h2;(· rw [h2] at hk;have:=(hv1 k hk).1;omega);(· rw [h2] at hk;cases hk;omega)
     subst hV1e;refine ay<|bu jh ⟨hb2,aD⟩<|aT (i:=9) #[ab,ab,ab,ab,ab,ab,ab,ab,ab,ab,ac,ac,ac] rfl (by kernel_rfl) aO rfl (fun wq hq=>a8 (cM rfl)) ⟨hb2,aD⟩<|aT (i:=10) #[ab,ab,ab,ab,ab,ab,ab,ab,ab,ab,ab,ac,ac] rfl (by kernel_rfl) aO rfl (fun wq hq=>a8 (aJ (wk _) rfl)) ⟨hb2,aD⟩<|aT (i:=11) #[ab,ab,ab,ab,ab,ab,ab,ab,ab,ab,ab,ab,ac] rfl (by kernel_rfl) aO rfl (fun wq hq=>a8 (aJ (gw _) rfl)) ⟨hb2,aD⟩<|bM (rs:= [12]) (by kernel_rfl) rfl<|bv #[ab,ab,ab,ab,ab,ab,ab,ab,ab,ab,ab,ab,ab] rfl rfl (fun _ ji=>?_) ?_
     ·
      have hgl2:=bz hOl;have hgp2:=bz hOp;refine fJ (fG) rfl rfl rfl hX (by simp) ?_;rintro tm hX dD;have acV:=dD.size;have hP:=hP.over dD (by omega);have hM:=hM.over dD (fun h=>hx1 h.symm);have aD:=aD.over dD (by omega);have hO2:=fP hO2 (fun k hk hkl=>dD.block k hkl (fun h=>hv1n k hk (Option.some.inj h)));have hOl:=fP hOl (fun k hk hkl=>dD.block k hkl (fun h=>by have h1:=(hgl k hk).1;cases h;omega));have hOp:=fP hOp (fun k hk hkl=>dD.block k hkl (fun h=>by have h1:=(hgp k hk).1;cases h;omega));have hb:=gZ hb dD (.inr hSx);have hb2:=gZ hb2 dD (.inr hSx);refine ay<|bu ji ⟨hb2,aD⟩<|eE (by kernel_rfl)<|lh rfl ?_
      exact ⟨_,rfl,⟨rfl,⟨[],by rw [hstep];exact hP⟩,fun h0=>by
 rw [hstep] at h0 ⊢
 obtain ⟨_,hml,hlt⟩:=FJ h0
 rw [zh] at hlt
 have hlt2:g.ns.length<1000:=by have e0:(cK g).length=g.ns.length:=(by unfold cK;rw [List.length_map]);omega
 rw [FG hml] at hM
 refine ⟨_,NB hD2 hcs hb2 (fun k hk hkL=>by rcases hk with h|h|h|h;(· omega);(· exact .inl h);(· exact .inr (.inl h));(· exact .inr (.inr h))) hX hM hO2 ?_ ⟨Al,cl,Ap,cp,by rw [tc],cY.own hOl (tc _) hOp rfl (fun k hk=>?_) (fun k hk=>?_)⟩ hok hlt2⟩
 · rcases jl with h2|h2
   · exact .inl h2
   · exact .inr ⟨_,h2,by omega⟩
 · have h1:=hgl k hk;have h3:=bz hOl k hk
   exact ⟨by omega,h3.2,fun h=>by rcases jl with h2|h2;(· rw [h2] at h;have:=(hv1 k h).2;omega);(· rw [h2] at h;cases h;omega),fun h=>by have:=(hD2.v2 k h).2;omega⟩
 · have h1:=hgp k hk;have h3:=bz hOp k hk
   exact ⟨by omega,h3.2,fun h=>by rcases jl with h2|h2;(· rw [h2] at h;have:=(hv1 k h).2;omega);(· rw [h2] at h;cases h;omega),fun h=>by have:=(hD2.v2 k h).2;omega⟩⟩,hb.weak (fun k hk=>by rcases hk with h|h|h|h;(· exact .inl h);(· exact .inr (.inl h));(· exact .inr (.inr (.inl h)));(· exact .inr (.inr (.inr (.inr (.inl h))))))⟩
     exact bN
    exact bN
   exact bN
  refine bv #[ab,ab,ab,ab,ab,ac,ab,ab,ac,ac,ac,ac,ac] rfl rfl (fun _ fx=>?_) ?_
  ·
   refine dX (sz:=3) (vs:= [_]) dJ (by kernel_rfl) rfl rfl rfl rfl rfl rfl ?_;rintro ix qL oX ew cm;have LC:=cm.size;have hP:=hP.below cm;have aD:=aD.below cm;have hOl:=cR hOl cm;have hOp:=cR hOp cm;have hX:=hX.below cm;have hO:=cR hO cm;have hM:=hM.below cm;replace cm:=Below.kp (p:=p) cm;have hb:=hb.trans (fg cm (by assumption));have hb2:=hb2.trans (fg cm (by assumption));have Lm:=ew.lt;refine ay<|bu fx ⟨hb2,aD⟩<|bM (rs:= [5]) (by kernel_rfl) rfl<|bv #[ab,ab,ab,ab,ab,ab,ab,ab,ac,ac,ac,ac,ac] rfl rfl (fun _ nX=>?_) ?_
   ·
    refine aW (aI fG rfl (by exact hX.at (j:=0) rfl)) rfl<|ay<|bu nX ⟨hb2,aD⟩<|bM (rs:= [8]) (by kernel_rfl) rfl<|bv #[ab,ab,ab,ab,ab,ab,ab,ab,ab,ac,ac,ac,ac] rfl rfl (fun _ f5=>?_) ?_
    ·
     have hB3:aq _ ix 43 [str nm,.slice Al Lo.1.length cl,.slice Ap jt.1.length cp]:=ew;have hgl:=bz hOl;have hgp:=bz hOp;refine dK (z:=Rk) (sz:=3) (bytes:=64) dJ (by kernel_rfl) rfl (by decide) C rfl hO rfl (hB3.rd 1 3 rfl) (ML rfl rfl rfl) (by simp only [maxLen];omega) (by omega) (by omega) rfl ?_;rintro V1' kw hO2 dg jl;have qA:=dg.size;have hP:=hP.grown dg (fun h=>by have:=(hv1 _ h.symm).2;omega);have hX:=hX.grown dg (fun h=>by have:=(hv1 _ h.symm).1;omega);have hM:=hM.grown dg (fun h=>by have:=(hv1 _ h.symm).1;omega);have aD:=aD.grown dg (fun h=>by have:=(hv1 _ h.symm).2;omega);have hOl:=fP hOl (fun k hk hkl=>dg.block k hkl (fun h=>by have h1:=(hgl k hk).1;have:=(hv1 _ h.symm).2;omega));have hOp:=fP hOp (fun k hk hkl=>dg.block k hkl (fun h=>by have h1:=(hgp k hk).1;have:=(hv1 _ h.symm).2;omega));have hb:=sZ hb dg (fun k hk=> .inr (hSv k hk));have hb2:=sZ hb2 dg (fun k hk=> .inr (hSv k hk));obtain ⟨A1,c1,hV1e,hc1,_⟩:=eT hO2;have hv1n:∀k,V1'.ownBlock=some k→k≠x:=fun k hk h=>by rcases jl with h2|h2;(· rw [h2] at hk;have:=(hv1 k hk).1;omega);(· rw [h2] at hk;cases hk;omega)
     subst hV1e;refine ay<|bu f5 ⟨hb2,aD⟩<|aT (i:=9) #[ab,ab,ab,ab,ab,ab,ab,ab,ab,ab,ac,ac,ac] rfl (by kernel_rfl) aO rfl (fun wq hq=>a8 (cM rfl)) ⟨hb2,aD⟩<|aT (i:=10) #[ab,ab,ab,ab,ab,ab,ab,ab,ab,ab,ab,ac,ac] rfl (by kernel_rfl) aO rfl (fun wq hq=>a8 (aJ (wk _) rfl)) ⟨hb2,aD⟩<|aT (i:=11) #[ab,ab,ab,ab,ab,ab,ab,ab,ab,ab,ab,ab,ac] rfl (by kernel_rfl) aO rfl (fun wq hq=>a8 (aJ (gw _) rfl)) ⟨hb2,aD⟩<|bM (rs:= [12]) (by kernel_rfl) rfl<|bv #[ab,ab,ab,ab,ab,ab,ab,ab,ab,ab,ab,ab,ab] rfl rfl (fun _ gd=>?_) ?_
     ·
      have hgl2:=bz hOl;have hgp2:=bz hOp;refine fJ (fG) rfl rfl rfl hX (by simp) ?_;rintro tm hX dD;have acV:=dD.size;have hP:=hP.over dD (by omega);have hM:=hM.over dD (fun h=>hx1 h.symm);have aD:=aD.over dD (by omega);have hO2:=fP hO2 (fun k hk hkl=>dD.block k hkl (fun h=>hv1n k hk (Option.some.inj h)));have hOl:=fP hOl (fun k hk hkl=>dD.block k hkl (fun h=>by have h1:=(hgl k hk).1;cases h;omega));have hOp:=fP hOp (fun k hk hkl=>dD.block k hkl (fun h=>by have h1:=(hgp k hk).1;cases h;omega));have hb:=gZ hb dD (.inr hSx);have hb2:=gZ hb2 dD (.inr hSx);refine ay<|bu gd ⟨hb2,aD⟩<|eE (by kernel_rfl)<|lh rfl ?_
      exact ⟨_,rfl,⟨rfl,⟨[],by rw [hstep];exact hP⟩,fun h0=>by
 rw [hstep] at h0 ⊢
 obtain ⟨_,hml,hlt⟩:=FJ h0
 rw [zh] at hlt
 have hlt2:g.ns.length<1000:=by have e0:(cK g).length=g.ns.length:=(by unfold cK;rw [List.length_map]);omega
 rw [FG hml] at hM
 refine ⟨_,NB hD2 hcs hb2 (fun k hk hkL=>by rcases hk with h|h|h|h;(· omega);(· exact .inl h);(· exact .inr (.inl h));(· exact .inr (.inr h))) hX hM hO2 ?_ ⟨Al,cl,Ap,cp,by rw [tc],cY.own hOl (tc _) hOp rfl (fun k hk=>?_) (fun k hk=>?_)⟩ hok hlt2⟩
 · rcases jl with h2|h2
   · exact .inl h2
   · exact .inr ⟨_,h2,by omega⟩
 · have h1:=hgl k hk;have h3:=bz hOl k hk
   exact ⟨by omega,h3.2,fun h=>by rcases jl with h2|h2;(· rw [h2] at h;have:=(hv1 k h).2;omega);(· rw [h2] at h;cases h;omega),fun h=>by have:=(hD2.v2 k h).2;omega⟩
 · have h1:=hgp k hk;have h3:=bz hOp k hk
   exact ⟨by omega,h3.2,fun h=>by rcases jl with h2|h2;(· rw [h2] at h;have:=(hv1 k h).2;omega);(· rw [h2] at h;cases h;omega),fun h=>by have:=(hD2.v2 k h).2;omega⟩⟩,hb.weak (fun k hk=>by rcases hk with h|h|h|h;(· exact .inl h);(· exact .inr (.inl h));(· exact .inr (.inr (.inl h)));(· exact .inr (.inr (.inr (.inr (.inl h))))))⟩
     exact bN
    exact bN
   exact bN
  exact bN
 exact bN
theorem Pd (p:Addr) (w:World):(Instr.fieldAt 46 (.pointer (some p)) 3).run Tryz.prog w= .ok (.pointer (some (p.add 3))) w:=fd (i:=3) (sz:=0) mI rfl (by kernel_rfl) p w
theorem ZO (p:Addr) (w:World):(Instr.fieldAt 50 (.pointer (some p)) 2).run Tryz.prog w= .ok (.pointer (some (p.add 3))) w:=fd (i:=2) (sz:=0) Gu rfl (by kernel_rfl) p w
theorem RZ:One Tryz.prog 4:=⟨_,DU,rfl,by kernel_rfl⟩
theorem agR:bC Tryz.prog 37:=⟨_,Tryz.func37,by kernel_rfl,rfl⟩
theorem TO:bC Tryz.prog 38:=⟨_,Tryz.func38,by kernel_rfl,rfl⟩
theorem agc (s:al) (c:UInt8):(Lib.trimRightB s c).length≤s.length:=by
 unfold Lib.trimRightB;rw [List.length_reverse];exact Nat.le_trans (List.dropWhile_suffix _).sublist.length_le (by rw [List.length_reverse];exact Nat.le_refl _)
theorem Oe (t:al):(rK t).1.length≤t.length:=by
 unfold rK
 split
 · simp
 · split<;>simp
theorem af6 (s:al):(ga s).length≤s.length+1:=by
 have h1:=agc (bF (cZ s).1) 32;have h2:=mP (cZ s).1;have h3:=Oe (a7 (a7 s)++ [32]);have h4:=lF (a7 s);have h5:=lF s;rw [List.length_append] at h3;simp only [List.length_cons,List.length_nil] at h3;show (Lib.trimRightB (bF (cZ s).1) 32).length≤_;have h6:(cZ s).1.length≤(a7 (a7 s)).length+(0+1):=h3;omega
theorem Ps (p x m1:Nat) (s:al) (e:Int) (l:List (al)) (nm:al) (xs:List Value) (w:World) (hP:aq w p 56 [str s,.int .i64 e]) (hX:aq w x 50 xs) (hx2:xs[2]? =some (.map (some m1))) (hM:Mp w m1 (f7 l)):
 be Tryz.prog 38 [.pointer (some ⟨x,0,none⟩),.pointer (some ⟨p,0,none⟩),str nm] w fun v w'=>(v= .int .i64 (((idx nm l).getD 0:Nat):Int)∧aq w' p 56 [str s,.int .i64 (iG (idx nm l) e)])∧Kp p w w':=
 (ZV p x m1 s e (f7 l) nm xs w hP hX hx2 hM).mono fun v w' ⟨⟨h1,h2⟩,h3⟩=>by
  rw [Rz] at h1 h2;refine ⟨⟨?_,?_⟩,h3⟩
  · rw [h1];cases idx nm l<;>rfl
  · unfold iG;simpa using h2
theorem Xf {t:al} (h:Lib.hasPrefix t [45,62,32]=true):rK t=(Lib.trimPrefix t [45,62,32],true,true):=by unfold rK Lib.trimPrefix;rw [if_pos h,if_pos h];rfl
theorem Xe {t:al} (h:Lib.hasPrefix t [45,62,32]=false):rK t=(Lib.trimPrefix (Lib.trimPrefix t [45,62,32]) [45,45,32],false,Lib.hasPrefix (Lib.trimPrefix t [45,62,32]) [45,45,32]):=by
 have h1:Lib.trimPrefix t [45,62,32]=t:=by unfold Lib.trimPrefix;rw [if_neg (by rw [h];simp)]
 rw [h1];unfold rK;rw [if_neg (by rw [h];simp)]
 cases h2:Lib.hasPrefix t [45,45,32] with
 |true=>rw [if_pos rfl];unfold Lib.trimPrefix;rw [if_pos h2];rfl
 |false=>rw [if_neg (by simp)];unfold Lib.trimPrefix;rw [if_neg (by rw [h2];simp)]
set_option maxHeartbeats 800000 in
theorem Zv (C L p x m1 m2:Nat) (V1 V2:Value) (g:GV) (s:al) (e:Int) (w:World) (hP:aq w p 56 [str s,.int .i64 e]) (hD:cu C L w x m1 m2 V1 V2 g) (hp:L≤p) (hs:s.length≤4294967295) (hL:Lb w) (hG:Gl p):
 be Tryz.prog 16 [.pointer (some ⟨x,0,none⟩),.pointer (some ⟨p,0,none⟩)] w fun v w'=>(v= .tuple #[]∧(∃s',aq w' p 56 [str s',.int .i64 (jO s e g).2])∧((jO s e g).2=0→∃V2',cu C w'.heap.size w' x m1 m2 V1 V2' (jO s e g).1))∧Kq (LQ p x m1 m2 V1 V2) w w':=by
 have hpl:=hP.lt
 have hLG:eY p w:=⟨hL,hG⟩
 have hSp:SN p x m2 V2 p:= .inl rfl
 have hSx:SN p x m2 V2 x:= .inr (.inl rfl)
 have hSm:SN p x m2 V2 m2:= .inr (.inr (.inl rfl))
 have hSv:∀k,V2.ownBlock=some k→SN p x m2 V2 k:=fun k h=> .inr (.inr (.inr h))
 have hx2:=hD.x2;have hxC:=hD.xC;have hmC:=hD.m2C;have hCL:=hD.CL;have hLw:=hD.Lw;have hln:=hD.le
 have hwd:=lF s
 have hwd2:=lF (a7 s)
 have hts:=af6 s
 have hwd5:=lF (ga s)
 have h1len:([32]:al).length=1:=rfl
 obtain ⟨e6,he6⟩:∃e6,e6=iG (idx (wd (ga s)) (cK g)) (iG (idx (wd (a7 s)) (cK g)) (og s e)):=⟨_,rfl⟩
 have hlb2:=(Rc (a7 (ga s)) e6).1
 obtain ⟨Lo,hLo⟩:∃Lo,Lo=iD (a7 (ga s)) e6:=⟨_,rfl⟩
 obtain ⟨jt,hPo⟩:∃jt,jt=kt Lo.2.1 Lo.2.2:=⟨_,rfl⟩
 have hstep:jO s e g=(⟨g.ns,g.es++ [⟨wd s,(((idx (wd (a7 s)) (cK g)).getD 0:Nat):Int),(((idx (wd (ga s)) (cK g)).getD 0:Nat):Int),(cZ s).2.1,gB Lo.1,jt.1⟩]⟩,jF (f7 (dy g)) (wd s) 1000 jt.2):=by rw [hPo,hLo,he6];rfl
 rw [←hLo] at hlb2
 have hb:=Kq.refl (SN p x m2 V2) w
 refine enter Tryz.func16 rfl rfl rfl<|ao fun aZ=>ai rfl<|aS zB rfl rfl (zF p s e _ hP (by omega)) rfl ?_
 rintro _ cq ⟨⟨rfl,hP⟩,bm⟩
 have:=bm.size
 have hD:=cu.kp hD bm
 have hLG:=eY.kp hLG bm
 have hb:=hb.trans (fg bm (by assumption))
 refine ah (fe (z:=Rl) (pl:=Rm) (cs:= [_,_,_,_,_,_]) mI (by kernel_rfl) (by kernel_rfl) rfl rfl rfl) rfl<|el (z:=mA) (by kernel_rfl) rfl ?_
 rintro c7 DW y0 aD f6
 have:=f6.size
 have hP:=hP.below f6
 have hD:=hD.below f6
 have hLG:=hLG.below f6
 replace f6:=Below.kp (p:=p) f6
 have hb:=hb.trans (fg f6 (by assumption))
 have:=aD.lt
 refine cH (by kernel_rfl) rfl rfl aD rfl rfl ?_
 rintro d3 aD bI
 have:=bI.size
 have hb:=gZ hb bI (by left;omega)
 have hP:=hP.over bI (by omega)
 have hD:=cu.over hD bI (by omega)
 have hLG:=eY.over hLG bI (by omega)
 refine an aZ<|ao fun ex=>ai rfl<|aS zB rfl rfl (zF p (a7 s) (cE s e) _ hP (by omega)) rfl ?_
 rintro _ ft ⟨⟨rfl,hP⟩,bp⟩
 have:=bp.size
 have hD:=cu.kp hD bp
 have hLG:=eY.kp hLG bp
 have aD:=aq.kp aD bp (by omega)
 have hb:=hb.trans (fg bp (by assumption))
 refine am rfl<|an ex<|ao fun eZ=>am rfl<|am rfl<|an eZ<|ax fun _ eQ=>ao fun eR=>ai rfl<|ai rfl<|ah (cM rfl) rfl<|ah (aJ (iO _) rfl) rfl<|aW (aI bQ rfl (by exact hP.at (j:=0) rfl)) rfl<|ah (dx rfl rfl (by rw [h1len];omega)) rfl<|aS MT rfl rfl (GM (a7 (a7 s)++ [32]) [45,62,32] _) rfl ?_
 rintro _ w_ ⟨rfl,bf⟩
 have bf:=bf.symm;subst bf
 refine ai rfl<|ah (bP rfl rfl) rfl<|ah (bP rfl rfl) rfl<|ah (cM rfl) rfl<|ah (aJ (iO _) rfl) rfl<|fJ bQ rfl rfl rfl hP (by simp) ?_
 rintro ky CT cd
 have:=cd.size
 have hb:=gZ hb cd (by right;assumption)
 have hD:=cu.over hD cd (by omega)
 have hLG:=eY.over hLG cd (by omega)
 have aD:=aD.over cd (by omega)
 have hP:=CT
 refine am rfl<|an eR<|ao fun eG=>ai rfl<|ah (fI rfl) rfl<|an eG<|b9 (X:=Bool) (fun fl=> [(0,.pointer (some ⟨x,0,none⟩)),(1,.pointer (some ⟨p,0,none⟩)),(4,.pointer (some ⟨c7,0,none⟩)),(5,str (wd (a7 s))),(6,.bool (cZ s).2.1),(7,.bool fl)]) (fun fl wr=>((cZ s).2.1||fl)=(cZ s).2.2∧Kq (SN p x m2 V2) w wr∧aq wr p 56 [str (cZ s).1,.int .i64 (cE (a7 s) (cE s e))]∧aq wr c7 46 [str (wd s),.int .i64 0,.int .i64 0,.bool false,.slice none 0 0,.slice none 0 0]∧cu C L wr x m1 m2 V1 V2 g∧eY p wr) (fun _ CJ=>?_) ?_
 ·
  refine aH rfl (fun uV=>?_) (fun uV=>?_)
  ·
   have Xs:=uV;simp only [DZ] at uV;have har:cZ s=_:=Xe (by simpa using uV);refine aR<|ai rfl<|ai rfl<|ah (cM rfl) rfl<|ah (aJ (iO _) rfl) rfl<|aW (aI bQ rfl (by exact hP.at (j:=0) rfl)) rfl<|aS MT rfl rfl (GM (Lib.trimPrefix (a7 (a7 s)++ [32]) [45,62,32]) [45,45,32] _) rfl ?_
   rintro _ w_ ⟨rfl,bf⟩;have bf:=bf.symm;subst bf;refine ai rfl<|ah (bP rfl rfl) rfl<|ah (bP rfl rfl) rfl<|ah (cM rfl) rfl<|ah (aJ (iO _) rfl) rfl<|fJ bQ rfl rfl rfl hP (by simp) ?_
   rintro oA acH di;have:=di.size;have hb:=gZ hb di (by right;assumption);have hD:=cu.over hD di (by omega);have hLG:=eY.over hLG di (by omega);have aD:=aD.over di (by omega);have hP:=acH;refine am rfl<|ay<|aY CJ ((cZ s).2.2&& !(cZ s).2.1) (by repeat first|exact aB|refine au rfl (by first|rfl|exact aP (by rw [har];simp_all)) ?_) ?_
   exact ⟨by rw [har];simp,hb,by rw [har];exact hP,aD,hD,hLG⟩
  have Xs:=uV;simp only [DZ] at uV;have har:cZ s=_:=Xf (by simpa using uV);refine aU<|aY CJ ((cZ s).2.2&& !(cZ s).2.1) (by repeat first|exact aB|refine au rfl (by first|rfl|exact aP (by rw [har];simp_all)) ?_) ?_
  exact ⟨by rw [har];simp,hb,by rw [har];exact hP,aD,hD,hLG⟩
 rintro fl wr wY
 replace wY:((cZ s).2.1||fl)=(cZ s).2.2∧Kq (SN p x m2 V2) w wr∧aq wr p 56 [str (cZ s).1,.int .i64 (cE (a7 s) (cE s e))]∧aq wr c7 46 [str (wd s),.int .i64 0,.int .i64 0,.bool false,.slice none 0 0,.slice none 0 0]∧cu C L wr x m1 m2 V1 V2 g∧eY p wr:=wY
 obtain ⟨hfl,hb,hP,aD,hD,hLG⟩:=wY
 show Wq _ _ _ _ [(0,.pointer (some ⟨x,0,none⟩)),(1,.pointer (some ⟨p,0,none⟩)),(4,.pointer (some ⟨c7,0,none⟩)),(5,str (wd (a7 s))),(6,.bool (cZ s).2.1),(7,.bool fl)] _
 have:=hb.size
 have:=hP.lt
 have:=aD.lt
 refine aw eQ<|ax fun _ mh=>ax fun _ jj=>b9 (X:=Bool) (fun q=> [(0,.pointer (some ⟨x,0,none⟩)),(1,.pointer (some ⟨p,0,none⟩)),(4,.pointer (some ⟨c7,0,none⟩)),(5,str (wd (a7 s))),(6,.bool (cZ s).2.1),(44,.bool q)]) (fun q wn=>q= !(cZ s).2.2∧Kq (SN p x m2 V2) w wn∧aq wn p 56 [str (cZ s).1,.int .i64 (cE (a7 s) (cE s e))]∧aq wn c7 46 [str (wd s),.int .i64 0,.int .i64 0,.bool false,.slice none 0 0,.slice none 0 0]∧cu C L wn x m1 m2 V1 V2 g∧eY p wn) (fun _ Qk=>?_) ?_
 ·
  refine aR<|ai rfl<|ah (fI rfl) rfl<|ai rfl<|cw rfl rfl rfl (fun l7=>?_) (fun l7=>?_)
  ·
   have fY:=l7;simp only [DZ] at l7;refine ai rfl<|aE rfl rfl fY<|ah (fI rfl) rfl<|ah (bi rfl fY rfl) rfl<|ay<|aY Qk (!(cZ s).2.2) (by repeat first|exact aB|refine au rfl (by first|rfl|exact aP (by rw [←hfl];simp_all)) ?_) ?_
   exact ⟨rfl,hb,hP,aD,hD,hLG⟩
  have fY:=l7;simp only [DZ] at l7;refine aA rfl rfl fY rfl rfl<|ah (bg rfl fY rfl) rfl<|ay<|aY Qk (!(cZ s).2.2) (by repeat first|exact aB|refine au rfl (by first|rfl|exact aP (by rw [←hfl];simp_all)) ?_) ?_
  exact ⟨rfl,hb,hP,aD,hD,hLG⟩
 rintro q wn xb
 replace xb:q= !(cZ s).2.2∧Kq (SN p x m2 V2) w wn∧aq wn p 56 [str (cZ s).1,.int .i64 (cE (a7 s) (cE s e))]∧aq wn c7 46 [str (wd s),.int .i64 0,.int .i64 0,.bool false,.slice none 0 0,.slice none 0 0]∧cu C L wn x m1 m2 V1 V2 g∧eY p wn:=xb
 obtain ⟨hq,hb,hP,aD,hD,hLG⟩:=xb
 show Wq _ _ _ _ [(0,.pointer (some ⟨x,0,none⟩)),(1,.pointer (some ⟨p,0,none⟩)),(4,.pointer (some ⟨c7,0,none⟩)),(5,str (wd (a7 s))),(6,.bool (cZ s).2.1),(44,.bool q)] _
 have:=hb.size
 have:=hP.lt
 have:=aD.lt
 refine aw jj<|b9 (X:=Unit) (fun u_=> [(0,.pointer (some ⟨x,0,none⟩)),(1,.pointer (some ⟨p,0,none⟩)),(4,.pointer (some ⟨c7,0,none⟩)),(5,str (wd (a7 s))),(6,.bool (cZ s).2.1)]) (fun u_ wo=>Kq (SN p x m2 V2) w wo∧aq wo p 56 [str (cZ s).1,.int .i64 (if (cZ s).2.2=true then cE (a7 s) (cE s e) else cP (cE (a7 s) (cE s e)) 2)]∧aq wo c7 46 [str (wd s),.int .i64 0,.int .i64 0,.bool false,.slice none 0 0,.slice none 0 0]∧cu C L wo x m1 m2 V1 V2 g∧eY p wo) (fun _ CM=>?_) ?_
 ·
  refine aH rfl (fun vd=>?_) (fun vd=>?_)
  ·
   have XJ:=vd;refine aR<|ai rfl<|aS tf rfl rfl (rM p (cZ s).1 (cE (a7 s) (cE s e)) 2 _ hP) rfl ?_
   rintro _ nq ⟨⟨rfl,hP⟩,dE⟩;have:=dE.size;have aD:=aq.kp aD dE (by omega);have hD:=cu.kp hD dE;have hLG:=eY.kp hLG dE;have hb:=hb.trans (fg dE (by assumption));refine ay<|aY CM (()) (by repeat first|exact aB|refine au rfl (by first|rfl|exact int_eq (by omega)) ?_) ?_
   exact ⟨hb,by first|(rw [if_pos (by simpa [hq] using vd)];exact hP)|(rw [if_neg (by simpa [hq] using vd)];exact hP),aD,hD,hLG⟩
  have XJ:=vd;refine aU<|aY CM (()) (by repeat first|exact aB|refine au rfl (by first|rfl|exact int_eq (by omega)) ?_) ?_
  exact ⟨hb,by first|(rw [if_pos (by simpa [hq] using vd)];exact hP)|(rw [if_neg (by simpa [hq] using vd)];exact hP),aD,hD,hLG⟩
 rintro u_ wo Kd
 replace Kd:Kq (SN p x m2 V2) w wo∧aq wo p 56 [str (cZ s).1,.int .i64 (if (cZ s).2.2=true then cE (a7 s) (cE s e) else cP (cE (a7 s) (cE s e)) 2)]∧aq wo c7 46 [str (wd s),.int .i64 0,.int .i64 0,.bool false,.slice none 0 0,.slice none 0 0]∧cu C L wo x m1 m2 V1 V2 g∧eY p wo:=Kd
 obtain ⟨hb,hP,aD,hD,hLG⟩:=Kd
 show Wq _ _ _ _ [(0,.pointer (some ⟨x,0,none⟩)),(1,.pointer (some ⟨p,0,none⟩)),(4,.pointer (some ⟨c7,0,none⟩)),(5,str (wd (a7 s))),(6,.bool (cZ s).2.1)] _
 have:=hb.size
 have:=hP.lt
 have:=aD.lt
 refine aw mh<|ao fun mm=>ai rfl<|aS Gg rfl rfl (Er p (cZ s).1 _ _ hP) rfl ?_
 rintro _ gD ⟨⟨rfl,hP⟩,fk⟩
 have:=fk.size
 have aD:=aq.kp aD fk (by omega)
 have hD:=cu.kp hD fk
 have hLG:=eY.kp hLG fk
 have hb:=hb.trans (fg fk (by assumption))
 refine an mm<|ao fun jk=>ai rfl<|ai rfl<|ah (cM rfl) rfl<|ah (aJ (iO _) rfl) rfl<|aW (aI bQ rfl (by exact hP.at (j:=0) rfl)) rfl<|aS agR rfl rfl (VX (bF (cZ s).1) (by have h1:=mP (cZ s).1;have h2:=Oe (a7 (a7 s)++ [32]);rw [List.length_append] at h2;have h3:(cZ s).1.length≤_:=h2;omega) _) rfl ?_
 rintro _ w_ ⟨rfl,bf⟩
 have bf:=bf.symm;subst bf
 refine ah (cM rfl) rfl<|ah (aJ (iO _) rfl) rfl<|fJ bQ rfl rfl rfl hP (by simp) ?_
 rintro tm Lu dD
 have:=dD.size
 have hb:=gZ hb dD (by right;assumption)
 have aD:=aD.over dD (by omega)
 have hD:=cu.over hD dD (by omega)
 have hLG:=eY.over hLG dD (by omega)
 have hP:=Lu
 refine an jk<|ao fun mp=>ai rfl<|aS zB rfl rfl (zF p (ga s) _ _ hP (by omega)) rfl ?_
 rintro _ GA ⟨⟨rfl,hP⟩,jZ⟩
 have:=jZ.size
 have aD:=aq.kp aD jZ (by omega)
 have hD:=cu.kp hD jZ
 have hLG:=eY.kp hLG jZ
 have hb:=hb.trans (fg jZ (by assumption))
 refine am rfl<|an mp<|ao fun ki=>ai rfl<|ai rfl<|ai rfl<|ai rfl<|aS TO rfl rfl (Ps p x m1 (a7 (ga s)) (og s e) (cK g) (wd (a7 s)) _ _ hP hD.hx rfl hD.h1) rfl ?_
 rintro _ Un ⟨⟨rfl,hP⟩,my⟩
 have:=my.size
 have aD:=aq.kp aD my (by omega)
 have hD:=cu.kp hD my
 have hLG:=eY.kp hLG my
 have hb:=hb.trans (fg my (by assumption))
 refine ai rfl<|ai rfl<|ai rfl<|aS TO rfl rfl (Ps p x m1 (a7 (ga s)) (iG (idx (wd (a7 s)) (cK g)) (og s e)) (cK g) (wd (ga s)) _ _ hP hD.hx rfl hD.h1) rfl ?_
 rintro _ ahF ⟨⟨rfl,hP⟩,qz⟩
 have:=qz.size
 have aD:=aq.kp aD qz (by omega)
 have hD:=cu.kp hD qz
 have hLG:=eY.kp hLG qz
 have hb:=hb.trans (fg qz (by assumption))
 refine ah (aJ (Pd _) rfl) rfl<|fJ RZ rfl rfl rfl aD (by simp) ?_
 rintro uK aD eH
 have:=eH.size
 have hb:=gZ hb eH (by left;omega)
 have hP:=hP.over eH (by omega)
 have hD:=cu.over hD eH (by omega)
 have hLG:=eY.over hLG eH (by omega)
 refine ah (aJ (AU _) rfl) rfl<|fJ f8 rfl rfl rfl aD (by simp) ?_
 rintro zE aD fN
 have:=fN.size
 have hb:=gZ hb fN (by left;omega)
 have hP:=hP.over fN (by omega)
 have hD:=cu.over hD fN (by omega)
 have hLG:=eY.over hLG fN (by omega)
 refine ah (aJ (AV _) rfl) rfl<|fJ f8 rfl rfl rfl aD (by simp) ?_
 rintro Nb aD lz
 have:=lz.size
 have hb:=gZ hb lz (by left;omega)
 have hP:=hP.over lz (by omega)
 have hD:=cu.over hD lz (by omega)
 have hLG:=eY.over hLG lz (by omega)
 refine an ki<|ao fun Cx=>ai rfl<|aS TM rfl rfl (Re p (a7 (ga s)) e6 _ (by rw [he6];exact hP) (by omega)) rfl ?_
 rintro Vl Uk ⟨⟨hOl,hP⟩,mw⟩
 have:=mw.size
 have aD:=aq.kp aD mw (by omega)
 have hD:=cu.kp hD mw
 have hLG:=eY.kp hLG mw
 have hb:=hb.trans (fg mw (by assumption))
 refine ai rfl ?_
 obtain ⟨Al,cl,hVl,hcl,_⟩:=eT hOl
 subst hVl
 rw [←hLo] at *
 refine aS TN rfl rfl (Sq p Lo.2.1 Lo.2.2 _ hP (by omega) hLG.lb hG) rfl ?_
 rintro Vp Ul ⟨⟨hOp,hP,hok⟩,mx⟩
 have:=mx.size
 have aD:=aq.kp aD mx (by omega)
 have hD:=cu.kp hD mx
 have hOl:=ro hOl mx (by omega)
 have hb:=hb.trans (fg mx (by assumption))
 refine ah (aJ (AW _) rfl) rfl ?_
 obtain ⟨Ap,cp,hVp,hcp,_⟩:=eT hOp
 subst hVp
 have aca:=qE (p:=c7) hOl (by omega)
 have acb:=qE (p:=c7) hOp (by omega)
 refine fJ mD rfl rfl rfl aD (by simp) ?_
 rintro Uu aD oZ
 have:=oZ.size
 have hb:=gZ hb oZ (by left;omega)
 have hP:=hP.over oZ (by omega)
 have hD:=cu.over hD oZ (by omega)
 have hOl:=World.ownsRow.kept hOl oZ (by assumption)
 have hOp:=World.ownsRow.kept hOp oZ (by assumption)
 refine ah (aJ (AX _) rfl) rfl<|fJ rm rfl rfl rfl aD (by simp) ?_
 rintro DX aD sU
 have:=sU.size
 have hb:=gZ hb sU (by left;omega)
 have hP:=hP.over sU (by omega)
 have hD:=cu.over hD sU (by omega)
 have hOl:=World.ownsRow.kept hOl sU (by assumption)
 have hOp:=World.ownsRow.kept hOp sU (by assumption)
 refine an Cx<|ax fun _ sO=>?_
 rw [←hPo] at *
 obtain ⟨css,hcs⟩:=hD.r2
 have hD2:=hD
 have hO:=hcs.2.2.1
 have hX:=hD.hx
 have hM:=hD.h2
 have hL2:=hD.Lw
 have hv1:=hD.v2
 obtain ⟨fi,hfi⟩:∃fi,fi=(((idx (wd (a7 s)) (cK g)).getD 0:Nat):Int):=⟨_,rfl⟩
 obtain ⟨ti,hti⟩:∃ti,ti=(((idx (wd (ga s)) (cK g)).getD 0:Nat):Int):=⟨_,rfl⟩
 have aD:aq DX c7 46 [str (wd s),.int .i64 fi,.int .i64 ti,.bool (cZ s).2.1,.slice Al Lo.1.length cl,.slice Ap jt.1.length cp]:=by rw [hfi,hti];exact aD
 have hb2:=Kq.refl (SN p x m2 V2) DX
 refine gG (n:=8) (fun w'=>Kq (SN p x m2 V2) DX w'∧aq w' x 50 [V1,V2,.map (some m1),.map (some m2)]∧aq w' c7 46 [str (wd s),.int .i64 fi,.int .i64 ti,.bool (cZ s).2.1,.slice Al Lo.1.length cl,.slice Ap jt.1.length cp]) #[ac,ac,ac,ac,ac,ac,ac,ac] (by kernel_rfl) rfl (by kernel_rfl)<|gF ?_
 rintro ai4 o4
 have:=o4.size
 have hP:=hP.below o4
 have aD:=aD.below o4
 have hOl:=cR hOl o4
 have hOp:=cR hOp o4
 have hX:=hX.below o4
 have hO:=cR hO o4
 have hM:=hM.below o4
 replace o4:=Below.kp (p:=p) o4
 have hb:=hb.trans (fg o4 (by assumption))
 have hb2:=hb2.trans (fg o4 (by assumption))
 refine aT (i:=0) #[ab,ac,ac,ac,ac,ac,ac,ac] rfl (by kernel_rfl) aO rfl (fun wq hq=>a8 (bl rfl)) ⟨hb2,hX,aD⟩<|aT (i:=1) #[ab,ab,ac,ac,ac,ac,ac,ac] rfl (by kernel_rfl) aO rfl (fun wq hq=>a8 (bl rfl)) ⟨hb2,hX,aD⟩<|aT (i:=2) #[ab,ab,ab,ac,ac,ac,ac,ac] rfl (by kernel_rfl) aO rfl (fun wq hq=>a8 (cM rfl)) ⟨hb2,hX,aD⟩<|aT (i:=3) #[ab,ab,ab,ab,ac,ac,ac,ac] rfl (by kernel_rfl) aO rfl (fun wq hq=>a8 (aJ (ZO _) rfl)) ⟨hb2,hX,aD⟩<|aT (i:=4) #[ab,ab,ab,ab,ab,ac,ac,ac] rfl (by kernel_rfl) aO rfl (fun wq hq=>aI xT rfl (by obtain ⟨hq,hX,aD⟩:=hq;exact hX.at (j:=3) rfl)) ⟨hb2,hX,aD⟩<|aT (i:=5) #[ab,ab,ab,ab,ab,ab,ac,ac] rfl (by kernel_rfl) aO rfl (fun wq hq=>a8 (aJ (wj _) rfl)) ⟨hb2,hX,aD⟩<|aT (i:=6) #[ab,ab,ab,ab,ab,ab,ab,ac] rfl (by kernel_rfl) aO rfl (fun wq hq=>aI bQ rfl (by obtain ⟨hq,hX,aD⟩:=hq;exact aD.at (j:=0) rfl)) ⟨hb2,hX,aD⟩<|bM (rs:= [7]) (by kernel_rfl) rfl<|bv #[ab,ab,ab,ab,ab,ab,ab,ab] rfl rfl (fun _ Cb=>?_) ?_
 ·
  refine aS T1 rfl rfl (RH p m2 [] jt.2 (f7 (dy g)) (wd s) 1000 _ hP hM (by omega)) rfl ?_;rintro _ Um ⟨⟨rfl,hP,hM⟩,w1_,kY,kZ⟩;have C9:=kY.size;have acN:=kZ.size;have hX:=(hX.kp kY (by omega)).over kZ hx2;have aD:=(aD.kp kY (by omega)).over kZ (by omega);have hO:=fP hO (fun k hk hkl=>(kZ.block k (by omega) (fun h=>by have:=(hv1 k hk).1;cases h;omega)).trans (kY.block k hkl (fun h=>by have:=(hv1 k hk).2;cases h;omega)));have hOl:=World.ownsRow.kept (ro hOl kY (by omega)) kZ (qE hOl (by omega));have hOp:=World.ownsRow.kept (ro hOp kY (by omega)) kZ (qE hOp (by omega));have hb:=gZ (hb.trans (fg kY hSp)) kZ (.inr hSm);have hb2:=gZ (hb2.trans (fg kY hSp)) kZ (.inr hSm);refine ay<|bu Cb ⟨hb2,hX,aD⟩<|eE (by kernel_rfl)<|aw sO<|gG (n:=13) (fun w'=>Kq (SN p x m2 V2) DX w'∧aq w' c7 46 [str (wd s),.int .i64 fi,.int .i64 ti,.bool (cZ s).2.1,.slice Al Lo.1.length cl,.slice Ap jt.1.length cp]) #[ac,ac,ac,ac,ac,ac,ac,ac,ac,ac,ac,ac,ac] (by kernel_rfl) rfl (by kernel_rfl)<|gF ?_
  rintro iI ci;have:=ci.size;have hP:=hP.below ci;have aD:=aD.below ci;have hOl:=cR hOl ci;have hOp:=cR hOp ci;have hX:=hX.below ci;have hO:=cR hO ci;have hM:=hM.below ci;replace ci:=Below.kp (p:=p) ci;have hb:=hb.trans (fg ci (by assumption));have hb2:=hb2.trans (fg ci (by assumption));refine aT (i:=0) #[ab,ac,ac,ac,ac,ac,ac,ac,ac,ac,ac,ac,ac] rfl (by kernel_rfl) aO rfl (fun wq hq=>a8 (bl rfl)) ⟨hb2,aD⟩<|aT (i:=1) #[ab,ab,ac,ac,ac,ac,ac,ac,ac,ac,ac,ac,ac] rfl (by kernel_rfl) aO rfl (fun wq hq=>a8 (bl rfl)) ⟨hb2,aD⟩<|aT (i:=2) #[ab,ab,ab,ac,ac,ac,ac,ac,ac,ac,ac,ac,ac] rfl (by kernel_rfl) aO rfl (fun wq hq=>a8 (cM rfl)) ⟨hb2,aD⟩<|aT (i:=3) #[ab,ab,ab,ab,ac,ac,ac,ac,ac,ac,ac,ac,ac] rfl (by kernel_rfl) aO rfl (fun wq hq=>a8 (aJ (wk _) rfl)) ⟨hb2,aD⟩<|aT (i:=4) #[ab,ab,ab,ab,ab,ac,ac,ac,ac,ac,ac,ac,ac] rfl (by kernel_rfl) aO rfl (fun wq hq=>a8 (aJ (jy _) rfl)) ⟨hb2,aD⟩<|aT (i:=6) #[ab,ab,ab,ab,ab,ac,ab,ac,ac,ac,ac,ac,ac] rfl (by kernel_rfl) aO rfl (fun wq hq=>dM mI (by kernel_rfl) rfl (by obtain ⟨hq,aD⟩:=hq;exact fun j u hu=>aD.at hu)) ⟨hb2,aD⟩<|bM (rs:= [5,7]) (by kernel_rfl) rfl<|bv #[ab,ab,ab,ab,ab,ab,ab,ac,ac,ac,ac,ac,ac] rfl rfl (fun _ nU=>?_) ?_
  ·
   refine aW (aI gL rfl (by exact hX.at (j:=1) rfl)) rfl<|ay<|bu nU ⟨hb2,aD⟩<|bM (rs:= [7]) (by kernel_rfl) rfl<|bv #[ab,ab,ab,ab,ab,ab,ab,ab,ac,ac,ac,ac,ac] rfl rfl (fun _ m6=>?_) ?_
   ·
    refine dX (sz:=6) (vs:= [_]) d4 (by kernel_rfl) rfl rfl rfl rfl rfl rfl ?_;rintro ix qL oX ew cm;have LC:=cm.size;have hP:=hP.below cm;have aD:=aD.below cm;have hOl:=cR hOl cm;have hOp:=cR hOp cm;have hX:=hX.below cm;have hO:=cR hO cm;have hM:=hM.below cm;replace cm:=Below.kp (p:=p) cm;have hb:=hb.trans (fg cm (by assumption));have hb2:=hb2.trans (fg cm (by assumption));have Lm:=ew.lt;refine ay<|bu m6 ⟨hb2,aD⟩<|bM (rs:= [8]) (by kernel_rfl) rfl<|bv #[ab,ab,ab,ab,ab,ab,ab,ab,ab,ac,ac,ac,ac] rfl rfl (fun _ sG=>?_) ?_
    ·
     have hB3:aq _ ix 46 [str (wd s),.int .i64 fi,.int .i64 ti,.bool (cZ s).2.1,.slice Al Lo.1.length cl,.slice Ap jt.1.length cp]:=ew;have hgl:=bz hOl;have hgp:=bz hOp;refine dK (z:=Rn) (sz:=6) (bytes:=88) d4 (by kernel_rfl) rfl (by decide) C rfl hO rfl (hB3.rd 1 6 rfl) (DO rfl rfl rfl rfl rfl rfl) (by simp only [maxLen];omega) (by omega) (by omega) rfl ?_;rintro V2' kw hO2 dg jl;have qA:=dg.size;have hP:=hP.grown dg (fun h=>by have:=(hv1 _ h.symm).2;omega);have hX:=hX.grown dg (fun h=>by have:=(hv1 _ h.symm).1;omega);have hM:=hM.grown dg (fun h=>by have:=(hv1 _ h.symm).1;omega);have aD:=aD.grown dg (fun h=>by have:=(hv1 _ h.symm).2;omega);have hOl:=fP hOl (fun k hk hkl=>dg.block k hkl (fun h=>by have h1:=(hgl k hk).1;have:=(hv1 _ h.symm).2;omega));have hOp:=fP hOp (fun k hk hkl=>dg.block k hkl (fun h=>by have h1:=(hgp k hk).1;have:=(hv1 _ h.symm).2;omega));have hb:=sZ hb dg (fun k hk=> .inr (hSv k hk));have hb2:=sZ hb2 dg (fun k hk=> .inr (hSv k hk));obtain ⟨A1,c1,hV1e,hc1,_⟩:=eT hO2;have hv1n:∀k,V2'.ownBlock=some k→k≠x:=fun k hk h=>by rcases jl with h2|h2;(· rw [h2] at hk;have:=(hv1 k hk).1;omega);(· rw [h2] at hk;cases hk;omega)
     subst hV1e;refine ay<|bu sG ⟨hb2,aD⟩<|aT (i:=9) #[ab,ab,ab,ab,ab,ab,ab,ab,ab,ab,ac,ac,ac] rfl (by kernel_rfl) aO rfl (fun wq hq=>a8 (cM rfl)) ⟨hb2,aD⟩<|aT (i:=10) #[ab,ab,ab,ab,ab,ab,ab,ab,ab,ab,ab,ac,ac] rfl (by kernel_rfl) aO rfl (fun wq hq=>a8 (aJ (wk _) rfl)) ⟨hb2,aD⟩<|aT (i:=11) #[ab,ab,ab,ab,ab,ab,ab,ab,ab,ab,ab,ab,ac] rfl (by kernel_rfl) aO rfl (fun wq hq=>a8 (aJ (jy _) rfl)) ⟨hb2,aD⟩<|bM (rs:= [12]) (by kernel_rfl) rfl<|bv #[ab,ab,ab,ab,ab,ab,ab,ab,ab,ab,ab,ab,ab] rfl rfl (fun _ Cf=>?_) ?_
     ·
      refine fJ (gL) rfl rfl rfl hX (by simp) ?_;rintro ahL hX jX;have acW:=jX.size;have hP:=hP.over jX (by omega);have hM:=hM.over jX (fun h=>hx2 h.symm);have aD:=aD.over jX (by omega);have hO2:=fP hO2 (fun k hk hkl=>jX.block k hkl (fun h=>hv1n k hk (Option.some.inj h)));have hOl:=fP hOl (fun k hk hkl=>jX.block k hkl (fun h=>by have h1:=(hgl k hk).1;cases h;omega));have hOp:=fP hOp (fun k hk hkl=>jX.block k hkl (fun h=>by have h1:=(hgp k hk).1;cases h;omega));have hb:=gZ hb jX (.inr hSx);have hb2:=gZ hb2 jX (.inr hSx);refine ay<|bu Cf ⟨hb2,aD⟩<|eE (by kernel_rfl)<|lh rfl ?_
      exact ⟨_,rfl,⟨rfl,⟨[],by rw [hstep];exact hP⟩,fun h0=>by
 rw [hstep] at h0 ⊢
 obtain ⟨_,hml,hlt⟩:=FJ h0
 rw [zh] at hlt
 have hlt2:g.es.length<1000:=by have e0:(dy g).length=g.es.length:=(by unfold dy;rw [List.length_map]);omega
 rw [FG hml] at hM
 rw [←hfi,←hti]
 refine ⟨_,NA hD2 rfl hcs hb2 (fun k hk hkL=>by rcases hk with h|h|h|h;(· omega);(· exact .inl h);(· exact .inr (.inl h));(· exact .inr (.inr h))) hX hM hO2 ?_ ⟨Al,cl,Ap,cp,by rw [tc],cY.own hOl (tc _) hOp rfl (fun k hk=>?_) (fun k hk=>?_)⟩ hok hlt2⟩
 · rcases jl with h2|h2
   · exact .inl h2
   · exact .inr ⟨_,h2,by omega⟩
 · have h1:=hgl k hk;have h3:=bz hOl k hk
   exact ⟨by omega,h3.2,fun h=>by have:=(hD2.v1 k h).2;omega,fun h=>by rcases jl with h2|h2;(· rw [h2] at h;have:=(hv1 k h).2;omega);(· rw [h2] at h;cases h;omega)⟩
 · have h1:=hgp k hk;have h3:=bz hOp k hk
   exact ⟨by omega,h3.2,fun h=>by have:=(hD2.v1 k h).2;omega,fun h=>by rcases jl with h2|h2;(· rw [h2] at h;have:=(hv1 k h).2;omega);(· rw [h2] at h;cases h;omega)⟩⟩,hb.weak (fun k hk=>by rcases hk with h|h|h|h;(· exact .inl h);(· exact .inr (.inl h));(· exact .inr (.inr (.inr (.inl h))));(· exact .inr (.inr (.inr (.inr (.inr h))))))⟩
     exact bN
    exact bN
   exact bN
  refine bv #[ab,ab,ab,ab,ab,ac,ab,ab,ac,ac,ac,ac,ac] rfl rfl (fun _ Ku=>?_) ?_
  ·
   refine dX (sz:=6) (vs:= [_]) d4 (by kernel_rfl) rfl rfl rfl rfl rfl rfl ?_;rintro ix qL oX ew cm;have LC:=cm.size;have hP:=hP.below cm;have aD:=aD.below cm;have hOl:=cR hOl cm;have hOp:=cR hOp cm;have hX:=hX.below cm;have hO:=cR hO cm;have hM:=hM.below cm;replace cm:=Below.kp (p:=p) cm;have hb:=hb.trans (fg cm (by assumption));have hb2:=hb2.trans (fg cm (by assumption));have Lm:=ew.lt;refine ay<|bu Ku ⟨hb2,aD⟩<|bM (rs:= [5]) (by kernel_rfl) rfl<|bv #[ab,ab,ab,ab,ab,ab,ab,ab,ac,ac,ac,ac,ac] rfl rfl (fun _ sH=>?_) ?_
   ·
    refine aW (aI gL rfl (by exact hX.at (j:=1) rfl)) rfl<|ay<|bu sH ⟨hb2,aD⟩<|bM (rs:= [8]) (by kernel_rfl) rfl<|bv #[ab,ab,ab,ab,ab,ab,ab,ab,ab,ac,ac,ac,ac] rfl rfl (fun _ xm=>?_) ?_
    ·
     have hB3:aq _ ix 46 [str (wd s),.int .i64 fi,.int .i64 ti,.bool (cZ s).2.1,.slice Al Lo.1.length cl,.slice Ap jt.1.length cp]:=ew;have hgl:=bz hOl;have hgp:=bz hOp;refine dK (z:=Rn) (sz:=6) (bytes:=88) d4 (by kernel_rfl) rfl (by decide) C rfl hO rfl (hB3.rd 1 6 rfl) (DO rfl rfl rfl rfl rfl rfl) (by simp only [maxLen];omega) (by omega) (by omega) rfl ?_;rintro V2' kw hO2 dg jl;have qA:=dg.size;have hP:=hP.grown dg (fun h=>by have:=(hv1 _ h.symm).2;omega);have hX:=hX.grown dg (fun h=>by have:=(hv1 _ h.symm).1;omega);have hM:=hM.grown dg (fun h=>by have:=(hv1 _ h.symm).1;omega);have aD:=aD.grown dg (fun h=>by have:=(hv1 _ h.symm).2;omega);have hOl:=fP hOl (fun k hk hkl=>dg.block k hkl (fun h=>by have h1:=(hgl k hk).1;have:=(hv1 _ h.symm).2;omega));have hOp:=fP hOp (fun k hk hkl=>dg.block k hkl (fun h=>by have h1:=(hgp k hk).1;have:=(hv1 _ h.symm).2;omega));have hb:=sZ hb dg (fun k hk=> .inr (hSv k hk));have hb2:=sZ hb2 dg (fun k hk=> .inr (hSv k hk));obtain ⟨A1,c1,hV1e,hc1,_⟩:=eT hO2;have hv1n:∀k,V2'.ownBlock=some k→k≠x:=fun k hk h=>by rcases jl with h2|h2;(· rw [h2] at hk;have:=(hv1 k hk).1;omega);(· rw [h2] at hk;cases hk;omega)
     subst hV1e;refine ay<|bu xm ⟨hb2,aD⟩<|aT (i:=9) #[ab,ab,ab,ab,ab,ab,ab,ab,ab,ab,ac,ac,ac] rfl (by kernel_rfl) aO rfl (fun wq hq=>a8 (cM rfl)) ⟨hb2,aD⟩<|aT (i:=10) #[ab,ab,ab,ab,ab,ab,ab,ab,ab,ab,ab,ac,ac] rfl (by kernel_rfl) aO rfl (fun wq hq=>a8 (aJ (wk _) rfl)) ⟨hb2,aD⟩<|aT (i:=11) #[ab,ab,ab,ab,ab,ab,ab,ab,ab,ab,ab,ab,ac] rfl (by kernel_rfl) aO rfl (fun wq hq=>a8 (aJ (jy _) rfl)) ⟨hb2,aD⟩<|bM (rs:= [12]) (by kernel_rfl) rfl<|bv #[ab,ab,ab,ab,ab,ab,ab,ab,ab,ab,ab,ab,ab] rfl rfl (fun _ Ci=>?_) ?_
     ·
      refine fJ (gL) rfl rfl rfl hX (by simp) ?_;rintro ahL hX jX;have acW:=jX.size;have hP:=hP.over jX (by omega);have hM:=hM.over jX (fun h=>hx2 h.symm);have aD:=aD.over jX (by omega);have hO2:=fP hO2 (fun k hk hkl=>jX.block k hkl (fun h=>hv1n k hk (Option.some.inj h)));have hOl:=fP hOl (fun k hk hkl=>jX.block k hkl (fun h=>by have h1:=(hgl k hk).1;cases h;omega));have hOp:=fP hOp (fun k hk hkl=>jX.block k hkl (fun h=>by have h1:=(hgp k hk).1;cases h;omega));have hb:=gZ hb jX (.inr hSx);have hb2:=gZ hb2 jX (.inr hSx);refine ay<|bu Ci ⟨hb2,aD⟩<|eE (by kernel_rfl)<|lh rfl ?_
      exact ⟨_,rfl,⟨rfl,⟨[],by rw [hstep];exact hP⟩,fun h0=>by
 rw [hstep] at h0 ⊢
 obtain ⟨_,hml,hlt⟩:=FJ h0
 rw [zh] at hlt
 have hlt2:g.es.length<1000:=by have e0:(dy g).length=g.es.length:=(by unfold dy;rw [List.length_map]);omega
 rw [FG hml] at hM
 rw [←hfi,←hti]
 refine ⟨_,NA hD2 rfl hcs hb2 (fun k hk hkL=>by rcases hk with h|h|h|h;(· omega);(· exact .inl h);(· exact .inr (.inl h));(· exact .inr (.inr h))) hX hM hO2 ?_ ⟨Al,cl,Ap,cp,by rw [tc],cY.own hOl (tc _) hOp rfl (fun k hk=>?_) (fun k hk=>?_)⟩ hok hlt2⟩
 · rcases jl with h2|h2
   · exact .inl h2
   · exact .inr ⟨_,h2,by omega⟩
 · have h1:=hgl k hk;have h3:=bz hOl k hk
   exact ⟨by omega,h3.2,fun h=>by have:=(hD2.v1 k h).2;omega,fun h=>by rcases jl with h2|h2;(· rw [h2] at h;have:=(hv1 k h).2;omega);(· rw [h2] at h;cases h;omega)⟩
 · have h1:=hgp k hk;have h3:=bz hOp k hk
   exact ⟨by omega,h3.2,fun h=>by have:=(hD2.v1 k h).2;omega,fun h=>by rcases jl with h2|h2;(· rw [h2] at h;have:=(hv1 k h).2;omega);(· rw [h2] at h;cases h;omega)⟩⟩,hb.weak (fun k hk=>by rcases hk with h|h|h|h;(· exact .inl h);(· exact .inr (.inl h));(· exact .inr (.inr (.inr (.inl h))));(· exact .inr (.inr (.inr (.inr (.inr h))))))⟩
     exact bN
    exact bN
   exact bN
  exact bN
 exact bN
end Go.Proofs.YtjmlknjbhbfneaaGreatDoor
