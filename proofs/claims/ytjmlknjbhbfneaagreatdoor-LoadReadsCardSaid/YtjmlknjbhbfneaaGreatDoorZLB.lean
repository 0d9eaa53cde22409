import Derived.Test.YtjmlknjbhbfneaaGreatDoorZLA
import Derived.Lib.AppendZerosOnto
import Derived.Lib.Overlaps
namespace Go.Bw
open Go.RowKit
set_option linter.unusedVariables false
set_option linter.unusedSimpArgs false
section
variable {P:Program} {N:Nat} {D:List Deferred} {env env':Env} {a:Act} {w w':World} {Q:Exit→Act→World→Prop}
variable {ops:Array Oper} {rest:List Oper} {d:Nat} {op:Op} {ty:TypeId} {pos:String} {af:Array Edge}
theorem afs (w:World) (dT sT ty elem:TypeId) (sz g o dLen dCap:Nat) (a:Addr) (sLen sCap k:Nat) (cur:Array Value) (t:TypeId) (cs:List Value)
 (hu:P.underlying dT=some (.slice elem)) (hs:(P.info? elem).map (·.size)=some sz) (hg:w.heap[g]? =some (.cells cur t (0,0))) (hn:k=Nat.min sLen dLen) (hcl:cs.length=k * sz)
 (hsrc:∀j v,cs[j]? =some v→w.cell? (a.add j)=some v) (hfit:o+cs.length≤cur.size) (h1:∀v∈cs,v.oneCell'=true):
 (Builtin.copy_ #[dT,sT] ty #[.slice (some ⟨g,o,none⟩) dLen dCap,.slice (some a) sLen sCap]).run P w=
  .ok (goInt k) (w.setRow g (cur.toList.take o++cs++cur.toList.drop (o+cs.length)).toArray):=by
 have hl:=run_loadCells_list (P:=P) w a cs hsrc
 rw [hcl] at hl
 have hst:=run_storeCells_at P g o t cs 0 cur w hg (by simpa using hfit) h1
 cases hq:P.info? elem with
 |none=>simp [hq] at hs
 |some i=>
  have hi:i.size=sz:=by simpa [hq] using hs
  simp [Builtin.copy_,run_underlying hu,Builtin.lenOf,Builtin.firstCells,sizeOf,typeInfo,hq,hi,←hn,hl,hst]
theorem Ei {x y:Operand} {t s e f:TypeId} {sz g o dn dc m sc k:Nat} {A:Addr} {cur cs:List Value} (ht:P.underlying t=some (.slice e)) (hs:(P.info? e).map (·.size)=some sz) (hx:ev env x=some (.slice (some ((⟨g,0,none⟩:Addr).add o)) dn dc)) (hy:ev env y=some (.slice (some A) m sc))
 (hB:aq w g f cur) (hk:k=Nat.min m dn) (hcl:cs.length=k * sz) (hsrc:∀(j:Nat) (u:Value),cs[j]? =some u→w.cell? (A.add j)=some u) (hfit:o+cs.length≤cur.length) (h1:∀v∈cs,v.oneCell'=true) (hd:Nat.blt d N=true)
 (h:∀w',aq w' g f (cur.take o++cs++cur.drop (o+cs.length))→w.grownBy w' (some g)→Wl P ops Q rest N D ((d,.int .i64 k) :: env) w'):
 Wl P ops Q (⟨some d,.call ⟨.builtin .copy,#[x,y],#[t,s]⟩,ty,pos,af,none⟩ :: rest) N D env w:=by
 have hrun:=afs (P:=P) w t s ty e sz g o dn dc A m sc k cur.toArray f cs ht hs hB hk hcl hsrc (by simpa using hfit) h1
 refine iM (v:= .int .i64 k) (w':=w.setRow g (cur.take o++cs++cur.drop (o+cs.length)).toArray) (fun a ha dst pos af g'=>?_) hd (h _ hB.setRow ⟨rfl,rfl,rfl,by simp,fun j _ hne=>setRow_other w g j _ (fun e=>hne (by rw [e]))⟩)
 rw [pu] at hx
 simp [execOp,resolve,Go.invoke,Go.builtin,ha.eval hx,ha.eval hy,hrun,goInt]
theorem WV {x y:Operand} {t tn e:TypeId} {z:Value} {sz bytes:Nat} {kq kn:IntKind} (ht:P.underlying t=some (.slice e)) (htn:P.underlying tn=some (.int kn)) (hi:(P.info? e).map (fun i=>(i.zero,i.size,i.bytes))=some (some z,sz,bytes)) (hz:z.cells.size=sz)
 {A:Addr} {n c k:Nat} {olds:List Value} (hx:ev env x=some (.slice (some A) n c)) (hy:ev env y=some (.int kq k)) (hcl:olds.length=n * sz) (hold:∀(j:Nat) (u:Value),olds[j]? =some u→w.cell? (A.add j)=some u)
 (h0:0<k) (hs:0<sz) (hg:c<n+k) (h63:n+k≤maxLen) (h48:k * bytes≤281474976710656) (hfit:Builtin.nextslicecap (n+k) c * bytes≤281474976710656) (hd:Nat.blt d N=true)
 (h:∀(G:Nat) w',n+k≤G→G≤maxLen→aq w' w.heap.size e (olds++(Builtin.zeroCells z.cells k).toList++(Builtin.zeroCells z.cells (G - (n+k))).toList)→Below w.heap.size w w'→Wl P ops Q rest N D ((d,.slice (some ⟨w.heap.size,0,none⟩) (n+k) G) :: env) w'):
 Wl P ops Q (⟨some d,.call ⟨.builtin .append,#[x,y],#[t,tn]⟩,ty,pos,af,none⟩ :: rest) N D env w:=by
 obtain ⟨i,hi0,hi1⟩:=Option.map_eq_some_iff.1 hi
 simp only [Prod.mk.injEq] at hi1
 obtain ⟨hz0,hs0,hb0⟩:=hi1
 have ho:(Builtin.firstCells i.size n (.slice (some A) n c)).run P w.drew= .ok olds.toArray w.drew:=by
  rw [hs0];exact run_firstCells_some w.drew sz n A n c olds hcl hold
 have hr:=Lib.run_append_grow_zeros (P:=P) w t tn ty e i z kq kn ht htn hi0 hz0 (some A) n c olds ho k h0 (by rw [hs0];exact hs) hg (by simp only [maxLen] at h63;omega) (by rw [hb0];exact h48) (by rw [hb0];exact hfit)
 refine iM (v:= .slice (some ⟨w.heap.size,0,none⟩) (n+k) (grownCap w (n+k) c e)) (w':=w.drew.alloc (.cells (olds.toArray++Builtin.zeroCells z.cells k++Builtin.zeroCells z.cells (grownCap w (n+k) c e - (n+k))) e)) (fun a ha dst pos af g'=>by simp [execOp,resolve,Go.invoke,Go.builtin,ha.eval hx,ha.eval hy,hr]) hd (h (grownCap w (n+k) c e) _ (grownCap_ge _ _ _ _) (grownCap_le_maxLen _ _ _ _ h63) ?_ (((Below.refl _ _).drew).alloc (Nat.le_refl _) _))
 have h2:=aq.new w.drew e (olds++(Builtin.zeroCells z.cells k).toList++(Builtin.zeroCells z.cells (grownCap w (n+k) c e - (n+k))).toList)
 have e1:(olds++(Builtin.zeroCells z.cells k).toList++(Builtin.zeroCells z.cells (grownCap w (n+k) c e - (n+k))).toList).toArray=olds.toArray++Builtin.zeroCells z.cells k++Builtin.zeroCells z.cells (grownCap w (n+k) c e - (n+k)):=by apply Array.toList_inj.1;simp
 rw [e1] at h2;exact h2
end
end Go.Bw
namespace Go.Proofs.YtjmlknjbhbfneaaGreatDoor
open Go.RowKit Go.Bw Go.Bw.Fl
set_option linter.unusedVariables false
set_option linter.unusedSimpArgs false
theorem TV:bC Tryz.prog 60:=⟨_,Tryz.func60,by kernel_rfl,rfl⟩
theorem ag0:bC Tryz.prog 61:=⟨_,Tryz.func61,by kernel_rfl,rfl⟩
theorem Sk (q:Pr) (s:al) (w:World):be Tryz.prog 60 [.agg (f9 q).toArray,str s] w fun v w'=>v= .int .i64 (Lib.compareBytes q.1 s)∧Below w.heap.size w w':=by
 have hb:=Below.refl w.heap.size w;refine enter Tryz.func60 rfl rfl rfl<|ao fun aZ=>jL rfl rfl ?_
 rintro aX js iB aj cF;have:=cF.size;have hb:=az hb cF;have:=aj.lt;refine am rfl<|an aZ<|ao fun bX=>ah (aJ (yM _) rfl) rfl<|aW (aI bQ rfl (by exact aj.at (j:=0) rfl)) rfl<|ai rfl<|aS ag0 rfl rfl (UM q.1 s _) rfl ?_
 rintro _ w_ ⟨rfl,bf⟩;have bf:=bf.symm;subst bf;refine am rfl<|an bX<|aK<|bj rfl rfl ?_
 exact ⟨_,rfl,rfl,hb⟩
def gS (ps:List Pr) (s:al) (i:Nat):Int:=Lib.compareBytes (ps.getD i cA).1 s
def NW (ps:List Pr):Prop:=∀(s:al) (i j:Nat),i≤j→j<ps.length→gS ps s j<0→gS ps s i<0
def D6 (ps:List Pr) (s:al) (i:Nat) (b:Bool):Prop:=i≤ps.length∧(∀k,k<i→gS ps s k<0)∧(∀k,i≤k→k<ps.length→¬gS ps s k<0)∧b=(decide (i<ps.length)&&decide (gS ps s i=0))
theorem half (i j:Nat) (h:i+j≤9223372036854775807):(IntKind.i64.wrap ((IntKind.u64.wrap ((i:Int)+(j:Int))) / 2 ^ (1:Int).toNat))=(((i+j) / 2:Nat):Int):=by
 rw [IntKind.wrap_u64,IntKind.wrap_i64];have e:(2:Int) ^ (1:Int).toNat=2:=rfl;rw [e];omega
theorem UL (A:Option Addr) (c:Nat) (ps:List Pr) (s:al) (w:World) (hR:Rd w 5 A ps.length (c8 ps)) (hU:NW ps) (hl:ps.length≤1099511627776):be Tryz.prog 59 [.slice A ps.length c,str s,.func (.func 60) #[] #[]] w fun v w'=>(∃i b,v= .tuple #[.int .i64 (i:Nat),.bool b]∧D6 ps s i b)∧Below w.heap.size w w':=by
 have hb:=Below.refl w.heap.size w;have bh:=hR;refine enter Tryz.func59 rfl rfl rfl<|ao fun aZ=>am rfl<|am rfl<|an aZ<|ao fun bX=>ai rfl<|ah (cG ef (by omega) rfl) rfl<|am rfl<|an bX<|ao fun gp=>ai rfl<|am rfl<|am rfl<|an gp<|ax fun _ eO=>br<|cU (X:=Nat×Nat) (fun (i,j)=> [(0,.slice A ps.length c),(1,str s),(2,.func (.func 60) #[] #[]),(8,.int .i64 (ps.length:Int)),(9,.int .i64 (i:Int)),(10,.int .i64 (j:Int))]) (fun (i,j) wr=>i≤j∧j≤ps.length∧(∀k,k<i→gS ps s k<0)∧(∀k,j≤k→k<ps.length→¬gS ps s k<0)∧Below w.heap.size w wr) (fun (i,j)=>j - i) (⟨0,ps.length⟩) ?_ ?_ ?_
 · exact by repeat first|exact aB|refine au rfl (by first|rfl|exact int_eq (by omega)) ?_
 · exact ⟨by omega,Nat.le_refl _,fun _ h=>by omega,fun _ h1 h2=>by omega,hb⟩
 rintro ⟨i,j⟩ wr Jv _ abJ;replace Jv:i≤j∧j≤ps.length∧(∀k,k<i→gS ps s k<0)∧(∀k,j≤k→k<ps.length→¬gS ps s k<0)∧Below w.heap.size w wr:=Jv;obtain ⟨hij,hj,hlo,hhi,hb⟩:=Jv;show Wc _ _ _ _ _ [(0,.slice A ps.length c),(1,str s),(2,.func (.func 60) #[] #[]),(8,.int .i64 (ps.length:Int)),(9,.int .i64 (i:Int)),(10,.int .i64 (j:Int))] _;have hR:=bh.below hb;have:=hb.size;refine ax fun _ fj=>ao fun gY=>ai rfl<|ai rfl<|ah (cg rfl rfl) rfl<|an gY<|aH rfl (fun lN=>?_) (fun lN=>?_)
 ·
  have rP:=lN;simp only [DZ] at lN;have hlt:i<j:=by have:=lN;omega
  refine aU<|aw fj<|br<|ao fun fZ=>ai rfl<|ai rfl<|ah (bH rfl rfl (by omega) (by omega)) rfl<|ah (ja jp Gq rfl) rfl<|ah (D3 rfl rfl (by decide) (by decide)) rfl<|ah (bt (ja Gq jp rfl) (int_eq (half i j (by omega)))) rfl<|am rfl<|an fZ<|ao fun gK=>ai rfl<|ai rfl<|ai rfl ?_
  have hml:(i+j) / 2<ps.length:=by omega
  obtain ⟨p_,hpe,hcell⟩:=rr f9 (l:=ps) (by omega) nj hR hml cA;subst hpe;refine ah (cx ef j5 rfl rfl (by omega) (by omega)) rfl<|aW (dM pj (by kernel_rfl) rfl (by exact oH hcell)) rfl<|ai rfl<|aS TV rfl rfl (Sk (ps.getD ((i+j) / 2) cA) s _) rfl ?_
  rintro _ cq ⟨rfl,bm⟩;have:=bm.size;have hb:=az hb bm;have hR:=bh.below hb;refine ah (cg rfl rfl) rfl<|an gK<|b9 (X:=Nat×Nat) (fun (i',j')=> [(0,.slice (some p_) ps.length c),(1,str s),(2,.func (.func 60) #[] #[]),(8,.int .i64 (ps.length:Int)),(9,.int .i64 (i':Int)),(10,.int .i64 (j':Int))]) (fun (i',j') wm=>(i'≤j'∧j' - i'<j - i)∧j'≤ps.length∧(∀k,k<i'→gS ps s k<0)∧(∀k,j'≤k→k<ps.length→¬gS ps s k<0)∧Below w.heap.size w wm) (fun _ Qi=>?_) ?_
  ·
   refine aH rfl (fun u9=>?_) (fun u9=>?_)
   ·
    have XG:=u9;simp only [DZ] at u9;obtain ⟨i',hi'⟩:∃i',i'=(i+j) / 2+1:=⟨_,rfl⟩;obtain ⟨j',hj'⟩:∃j',j'=j:=⟨_,rfl⟩;have hcm:gS ps s ((i+j) / 2)<0:=u9;have h3:∀k,k<i'→gS ps s k<0:=fun k hk=>hU s k ((i+j) / 2) (by omega) hml hcm;have h4:∀k,j'≤k→k<ps.length→¬gS ps s k<0:=by rw [hj'];exact hhi
    refine aR<|ai rfl<|ah (bH rfl rfl (by omega) (by omega)) rfl<|am rfl<|ay<|aY Qi (⟨i',j'⟩) (by repeat first|exact aB|refine au rfl (by first|rfl|exact int_eq (by omega)) ?_) ?_
    exact ⟨⟨(show i'≤j' by omega),(show j' - i'<j - i by omega)⟩,(show j'≤ps.length by omega),h3,h4,hb⟩
   have XG:=u9;simp only [DZ] at u9;obtain ⟨i',hi'⟩:∃i',i'=i:=⟨_,rfl⟩;obtain ⟨j',hj'⟩:∃j',j'=(i+j) / 2:=⟨_,rfl⟩;have hcm:¬gS ps s ((i+j) / 2)<0:=by have h:0≤gS ps s ((i+j) / 2):=u9;omega
   have h3:∀k,k<i'→gS ps s k<0:=by rw [hi'];exact hlo
   have h4:∀k,j'≤k→k<ps.length→¬gS ps s k<0:=fun k h1 h2 h5=>hcm (hU s ((i+j) / 2) k (by omega) h2 h5);refine aR<|ai rfl<|am rfl<|ay<|aY Qi (⟨i',j'⟩) (by repeat first|exact aB|refine au rfl (by first|rfl|exact int_eq (by omega)) ?_) ?_
   exact ⟨⟨(show i'≤j' by omega),(show j' - i'<j - i by omega)⟩,(show j'≤ps.length by omega),h3,h4,hb⟩
  rintro ⟨i',j'⟩ wm wY;replace wY:(i'≤j'∧j' - i'<j - i)∧j'≤ps.length∧(∀k,k<i'→gS ps s k<0)∧(∀k,j'≤k→k<ps.length→¬gS ps s k<0)∧Below w.heap.size w wm:=wY;obtain ⟨⟨h1,hdc⟩,h2,h3,h4,hb⟩:=wY;show Wq _ _ _ _ [(0,.slice (some p_) ps.length c),(1,str s),(2,.func (.func 60) #[] #[]),(8,.int .i64 (ps.length:Int)),(9,.int .i64 (i':Int)),(10,.int .i64 (j':Int))] _;have hR:=bh.below hb;have:=hb.size;refine bS<|fun a_ bn=>abJ _ _ (⟨i',j'⟩) (by show j' - i'<j - i;omega) (by repeat first|exact aB|refine au rfl (by first|rfl|exact int_eq (by omega)) ?_) ?_ a_ bn
  exact ⟨h1,h2,h3,h4,hb⟩
 have rP:=lN;simp only [DZ] at lN;have hij2:i=j:=by have:=lN;omega
 refine cN<|bD<|bD<|cO<|aw eO<|ao fun mh=>ai rfl<|ai rfl<|ai rfl<|ah (cg rfl rfl) rfl<|ai rfl<|cw rfl rfl rfl (fun l7=>?_) (fun l7=>?_)
 ·
  have fY:=l7;simp only [DZ] at l7;refine ai rfl<|aE rfl rfl fY<|ai rfl<|aE rfl rfl fY<|ai rfl<|aE rfl rfl fY ?_
  have hil:i<ps.length:=by omega
  obtain ⟨lC,hpe2,hcell2⟩:=rr f9 (l:=ps) (by omega) nj hR hil cA;subst hpe2;refine ah (cx ef j5 rfl rfl (by omega) (by omega)) rfl<|aE rfl rfl fY<|aW (dM pj (by kernel_rfl) rfl (by exact oH hcell2)) rfl<|aE rfl rfl fY<|ai rfl<|aE rfl rfl fY<|aS TV rfl rfl (Sk (ps.getD i cA) s _) rfl ?_
  rintro _ ft ⟨rfl,bp⟩;have:=bp.size;have hb:=az hb bp;have hR:=bh.below hb;refine aE rfl rfl fY<|ah (bA rfl rfl) rfl<|ah (bi rfl fY rfl) rfl<|am rfl<|am rfl<|an mh<|aK<|dv rfl rfl rfl ?_
  exact ⟨_,rfl,⟨i,_,rfl,by omega,hlo,by rw [hij2];exact hhi,by first|(rw [decide_eq_true (by omega:i<ps.length),Bool.true_and,Bool.eq_iff_iff];simp [gS];done)|(rw [decide_eq_false (by omega:¬i<ps.length)];rfl)⟩,hb⟩
 have fY:=l7;simp only [DZ] at l7;refine aA rfl rfl fY rfl rfl<|aA rfl rfl fY rfl rfl<|aA rfl rfl fY rfl rfl<|aA rfl rfl fY rfl rfl<|aA rfl rfl fY rfl rfl<|aA rfl rfl fY rfl rfl<|aA rfl rfl fY rfl rfl<|ah (bg rfl fY rfl) rfl<|am rfl<|am rfl<|an mh<|aK<|dv rfl rfl rfl ?_
 exact ⟨_,rfl,⟨i,_,rfl,by omega,hlo,by rw [hij2];exact hhi,by first|(rw [decide_eq_true (by omega:i<ps.length),Bool.true_and,Bool.eq_iff_iff];simp [gS];done)|(rw [decide_eq_false (by omega:¬i<ps.length)];rfl)⟩,hb⟩
end Go.Proofs.YtjmlknjbhbfneaaGreatDoor
namespace Go.Bw
open Go.RowKit
set_option linter.unusedVariables false
set_option linter.unusedSimpArgs false
section
variable {P:Program} {N:Nat} {D:List Deferred} {env env':Env} {a:Act} {w w':World} {Q:Exit→Act→World→Prop}
variable {ops:Array Oper} {rest:List Oper} {d:Nat} {op:Op} {ty:TypeId} {pos:String} {af:Array Edge}
theorem x4 {g c n sz k:Nat} {m:Int} (hm:m=(k:Int)) (h:c≠k):Value.slice (if c=m.toNat then (some (⟨g,0,none⟩:Addr)) else (some (⟨g,0,none⟩:Addr)).map (·.add (m.toNat * sz))) (n - m.toNat) (c - m.toNat)= .slice (some ((⟨g,0,none⟩:Addr).add (k * sz))) (n - k) (c - k):=by
 subst hm;rw [Int.toNat_natCast,if_neg h];rfl
theorem W4 {x y z:Operand} {f:FuncId} {t e r:TypeId} {sz g h o la ca lb cb:Nat} {tA tB:TypeId} {cs cur:List Value} (hr0:pp P f (Extern.SlicesOverlaps.overlaps #[t,t] #[r])) (ht:P.underlying t=some (.slice e)) (hs:(P.info? e).map (·.size)=some sz)
 (hx:ev env x=some (.func (.func f) #[] #[])) (hy:ev env y=some (.slice (some ⟨g,0,none⟩) la ca)) (hz:ev env z=some (.slice (some ((⟨h,0,none⟩:Addr).add o)) lb cb)) (hA:aq w g tA cs) (hB:aq w h tB cur) (hne:g≠h) (hk:cur.length≠0) {ts:Array TypeId} (hd:Nat.blt d N=true)
 (hh:Wl P ops Q rest N D ((d,.bool false) :: env) w):Wl P ops Q (⟨some d,.call ⟨.value x,#[y,z],ts⟩,ty,pos,af,none⟩ :: rest) N D env w:=by
 have e1:(⟨h,0,none⟩:Addr).add o=⟨h,o,none⟩:=pu h o
 have hrun:=Lib.run_overlaps_apart (P:=P) w t r e ht sz (fun w=>run_sizeOf hs w) ⟨g,0,none⟩ ⟨h,o,none⟩ la ca lb cb hne tA tB cs.length cur.length (by simp [World.shape?,show w.heap[g]? =_ from hA]) (by simp [World.shape?,show w.heap[h]? =_ from hB]) hk (by simp [World.frozen?,show w.heap[g]? =_ from hA]) (by simp [World.frozen?,show w.heap[g]? =_ from hA])
 refine aW (v:= .bool false) (fun a ha dst pos af g'=>?_) hd hh
 have hc:=hr0 #[.slice (some ⟨g,0,none⟩) la ca,.slice (some ⟨h,o,none⟩) lb cb] w
 rw [e1] at hz
 simp [execOp,resolve,Go.invoke,Deferred.ofValue,ha.eval hx,ha.eval hy,ha.eval hz,hc,hrun]
end
end Go.Bw
namespace Go.Proofs.YtjmlknjbhbfneaaGreatDoor
open Go.RowKit Go.Bw Go.Bw.Fl
set_option linter.unusedVariables false
set_option linter.unusedSimpArgs false
theorem ZB:pp Tryz.prog 98 (Extern.SlicesOverlaps.overlaps #[41,41] #[4]):=fun args w=>run_callFunc_extern Tryz.func98 (by kernel_rfl) (by kernel_rfl) (by kernel_rfl) (by kernel_rfl) args w
theorem zn (q:Pr):∀u∈f9 q,u.oneCell'=true:=fun u hu=>by
 unfold f9 bW.cells at hu;simp only [List.mem_cons,List.not_mem_nil,or_false] at hu
 rcases hu with rfl|rfl|rfl|rfl|rfl<;>rfl
theorem Sl (ps:List Pr):∀u∈c8 ps,u.oneCell'=true:=fun u hu=>by
 unfold c8 at hu;obtain ⟨q,_,h⟩:=List.mem_flatMap.1 hu;exact zn q u h
def eS (ps:List Pr) (i:Nat) (q:Pr):List Pr:=ps.take i++q :: ps.drop i
theorem Db {ps:List Pr} {i:Nat} (h:i≤ps.length) (q:Pr):(eS ps i q).length=ps.length+1:=by
 unfold eS;rw [List.length_append,List.length_cons,List.length_take,List.length_drop];omega
theorem Mh (ps:List Pr) (i:Nat):(c8 ps).take (i * 5)=c8 (ps.take i):=by
 have h:=congrArg c8 (List.take_append_drop i ps);have h2:c8 (ps.take i++ps.drop i)=c8 (ps.take i)++c8 (ps.drop i):=by unfold c8;rw [List.flatMap_append]
 rw [h2] at h
 rcases Nat.le_total i ps.length with hi|hi
 · rw [←h,show i * 5=(c8 (ps.take i)).length by rw [nk,List.length_take];omega,List.take_left]
 · rw [List.take_of_length_le (by rw [nk];omega),List.take_of_length_le hi]
theorem FR (ps:List Pr) (i:Nat):(c8 ps).drop (i * 5)=c8 (ps.drop i):=by
 have h:=congrArg c8 (List.take_append_drop i ps);have h2:c8 (ps.take i++ps.drop i)=c8 (ps.take i)++c8 (ps.drop i):=by unfold c8;rw [List.flatMap_append]
 rw [h2] at h
 rcases Nat.le_total i ps.length with hi|hi
 · rw [←h,show i * 5=(c8 (ps.take i)).length by rw [nk,List.length_take];omega,List.drop_left]
 · rw [List.drop_eq_nil_of_le (by rw [nk];omega),List.drop_eq_nil_of_le hi];rfl
theorem Mg (ps:List Pr) (i:Nat) (q:Pr):c8 (eS ps i q)=(c8 ps).take (i * 5)++f9 q++(c8 ps).drop (i * 5):=by
 rw [Mh,FR];unfold eS c8;rw [List.flatMap_append,List.flatMap_cons,List.append_assoc]
theorem F6 {α:Type} {A B:List α} {n:Nat} (h:A.length=n):(A++B).take n=A:=by subst h;exact List.take_left
theorem Zn {α:Type} {A B:List α} {n:Nat} (h:A.length=n):(A++B).drop n=B:=by subst h;exact List.drop_left
theorem ac8 {L O X T R R2:List Value} {a b m:Nat} (hO:O.length=a) (hX:X.length=b) (hT:T.length=m) (hL:L.take a=O):((L.take a++X++R).take (a+b)++T++R2).take (a+b+m)=O++X++T:=by
 rw [hL,F6 (A:=O++X) (by rw [List.length_append];omega),F6 (by simp;omega)]
theorem ac9 {C T X:List Value} {a b m:Nat} (hC:a+b+m≤C.length) (hX:X.length=b) (hT:T.length=m):((C.take (a+b)++T++C.drop (a+b+T.length)).take a++X++(C.take (a+b)++T++C.drop (a+b+T.length)).drop (a+X.length)).take (a+b+m)=C.take a++X++T:=by
 have h1:(C.take (a+b)).length=a+b:=by rw [List.length_take];omega
 have h2:(C.take (a+b)++T++C.drop (a+b+T.length)).take a=C.take a:=by
  rw [List.append_assoc,List.take_append_of_le_length (by omega),List.take_take,Nat.min_eq_left (by omega)]
 have h3:(C.take (a+b)++T++C.drop (a+b+T.length)).drop (a+X.length)=T++C.drop (a+b+T.length):=by
  rw [List.append_assoc,Zn (by omega)]
 have h4:(C.take a).length=a:=by rw [List.length_take];omega
 rw [h2,h3,←List.append_assoc,F6 (A:=C.take a++X++T) (by simp;omega)]
theorem Vg (base g c:Nat) (cur:List Value) (ps:List Pr) (i:Nat) (q:Pr) (gb:Nat) (w:World) (hP:aq w g 105 cur) (hcl:cur.length=c * 5) (hnc:ps.length≤c) (hcm:c≤maxLen) (htk:cur.take (ps.length * 5)=c8 ps) (hB:aq w gb 105 (f9 q)) (hgb:gb≠g) (hi:i≤ps.length) (hl:ps.length≤4294967296) (hbg:base≤g):
 be Tryz.prog 62 [.slice (some ⟨g,0,none⟩) ps.length c,.int .i64 (i:Int),.slice (some ⟨gb,0,none⟩) 1 1] w fun u w'=>w'.ownsRow base 105 5 u (ps.length+1) (c8 (eS ps i q))∧Kp g w w':=by
 have hgl:=hP.lt
 have hgbl:=hB.lt
 have hcm2:c≤9223372036854775807:=hcm
 have hpl:=nk ps
 have hcell:∀(j:Nat) (u:Value),(c8 ps)[j]? =some u→cur[j]? =some u:=fun j u hu=>by
  rw [←htk,List.getElem?_take] at hu
  split at hu
  · exact hu
  · cases hu
 have hO:w.ownsRow base 105 5 (.slice (some ⟨g,0,none⟩) ps.length c) ps.length (c8 ps):=⟨hpl,.inr ⟨g,c,cur.toArray,rfl,hbg,hP,hnc,hcm,by simpa using hcl,by simpa using htk⟩⟩
 have hb:=Kp.refl g w
 refine enter Tryz.func62 rfl rfl rfl<|ao fun aZ=>am rfl<|an aZ<|ao fun bJ=>ai rfl<|ai rfl<|ah (nr ef j5 rfl rfl (by omega) (by omega)) rfl<|an bJ<|ao fun e7=>ai rfl<|ah (cG ef (by omega) rfl) rfl<|am rfl<|an e7<|ax fun _ d7=>ao fun eO=>ai rfl<|ah (bA rfl rfl) rfl<|an eO<|aH rfl (fun jv=>?_) (fun jv=>?_)
 ·
  have z6:=jv;simp only [DZ] at jv;omega
 have z6:=jv
 simp only [DZ] at jv
 refine aU<|aw d7<|ao fun gY=>ai rfl<|ah (cG ef (by omega) rfl) rfl<|am rfl<|an gY<|ax fun _ iV=>ao fun fZ=>ai rfl<|ai rfl<|ah (bA rfl rfl) rfl<|an fZ<|aH rfl (fun fL=>?_) (fun fL=>?_)
 ·
  have u7:=fL;simp only [DZ] at fL;refine ao fun md=>ai rfl<|ai rfl<|dK (z:=LP) (sz:=5) (bytes:=56) ef (by kernel_rfl) rfl (by decide) base rfl hO rfl (hB.rd 1 5 rfl) (zn q) (by simp only [maxLen];omega) (by omega) (by omega) rfl ?_
  rintro ry mJ hO2 ey ug;refine am rfl<|an md<|aK<|aQ<|bj rfl rfl ?_
  exact ⟨_,rfl,by have he:i=ps.length:=(by have:=fL;omega);rw [Mg,he,←hpl,List.take_length,List.drop_length,List.append_nil];exact hO2,ey⟩
 have u7:=fL
 simp only [DZ] at fL
 have hin:i<ps.length:=by have:=fL;omega
 refine aU<|aw iV<|ax fun _ jW=>ao fun iW=>ai rfl<|ai rfl<|ah (bH rfl rfl (by omega) (by omega)) rfl<|ai rfl<|ah (UB ef (by omega) rfl) rfl<|ah (eW rfl rfl) rfl<|an iW<|aH rfl (fun mQ=>?_) (fun mQ=>?_)
 ·
  have HT:=mQ;simp only [DZ] at mQ;have hno:c<ps.length+1:=by have:=mQ;omega
  refine ao fun mg=>ai rfl<|ai rfl<|ah (GJ ef j5 rfl rfl (by omega) (by omega)) rfl<|ai rfl<|ai rfl<|ah (bH rfl rfl (by omega) (by omega)) rfl<|ai rfl<|ah (bt (gk rfl rfl (by omega) (by omega)) (int_eq (show _=((ps.length+1 - i:Nat):Int) by omega))) rfl<|WV (z:=LP) (sz:=5) (bytes:=56) (n:=i) (k:=ps.length+1 - i) (A:=⟨g,0,none⟩) (c:=c) (kq:= .i64) (olds:=c8 (ps.take i)) ef jp (by kernel_rfl) rfl rfl rfl (by rw [nk,List.length_take];omega) (fun j u hu=>hP.at (hcell j u (by rw [←Mh,List.getElem?_take] at hu;split at hu;(· exact hu);(· cases hu)))) (by omega) (by decide) (by omega) (by simp only [maxLen];omega) (by omega) (growslice_fits (by omega) (by omega)) rfl ?_
  rintro G oz hG hGm hN du;have hP:=hP.below du;have hB:=hB.below du;have:=du.size;have hb:=hb.trans (Below.kp (p:=g) du);obtain ⟨L0,hL0⟩:∃L0,L0=c8 (ps.take i)++(Builtin.zeroCells (Value.agg #[str [],.int .i64 0,.int .i64 0,.float .f64 0,str []]).cells (ps.length+1 - i)).toList++(Builtin.zeroCells (Value.agg #[str [],.int .i64 0,.int .i64 0,.float .f64 0,str []]).cells (G - (i+(ps.length+1 - i)))).toList:=⟨_,rfl⟩;rw [←hL0] at hN;have hLl:L0.length=G * 5:=by rw [hL0];simp [Builtin.zeroCells,Value.cells,nk];omega
  refine am rfl<|an mg<|ao fun mi=>ai rfl<|ai rfl<|ah (bt (nr ef j5 rfl rfl (by omega) (by omega)) (x4 (k:=i) rfl (by omega))) rfl<|ai rfl<|Ei (sz:=5) (k:=1) (cs:=f9 q) (cur:=L0) (g:=w.heap.size) (o:=i * 5) ef (by kernel_rfl) rfl rfl hN (show 1=Nat.min 1 _ from (Nat.min_eq_left (by omega)).symm) rfl (fun j u hu=>hB.at hu) (by rw [hLl,nj];omega) (zn q) rfl ?_
  rintro tk hN5 e8;have hP:=hP.over e8 (by omega);have:=e8.size;have hb:=mz hb e8 (.inl (Nat.le_refl _));refine an mi<|ax fun _ mj=>gG (n:=9) (fun w'=>Kp g w w') #[ac,ac,ac,ac,ac,ac,ac,ac,ac] (by kernel_rfl) rfl (by kernel_rfl)<|gF ?_
  rintro ai3 y3;have:=y3.size;have hP:=hP.below y3;replace y3:=Below.kp (p:=g) y3;have hb:=hb.trans y3;have hN6:=hN5.kp y3 (by omega);refine aT (i:=0) #[ab,ac,ac,ac,ac,ac,ac,ac,ac] rfl (by kernel_rfl) aO rfl (fun wq hq=>a8 (bl rfl)) hb<|aT (i:=1) #[ab,ab,ac,ac,ac,ac,ac,ac,ac] rfl (by kernel_rfl) aO rfl (fun wq hq=>a8 (bl rfl)) hb<|aT (i:=2) #[ab,ab,ab,ac,ac,ac,ac,ac,ac] rfl (by kernel_rfl) aO rfl (fun wq hq=>a8 (bl rfl)) hb<|aT (i:=3) #[ab,ab,ab,ab,ac,ac,ac,ac,ac] rfl (by kernel_rfl) aO rfl (fun wq hq=>a8 (bH rfl rfl (by omega) (by omega))) hb<|aT (i:=4) #[ab,ab,ab,ab,ab,ac,ac,ac,ac] rfl (by kernel_rfl) aO rfl (fun wq hq=>a8 (bt (nr ef j5 rfl rfl (by omega) (by omega)) (x4 (k:=i+1) (by omega) (by omega)))) hb<|aT (i:=5) #[ab,ab,ab,ab,ab,ab,ac,ac,ac] rfl (by kernel_rfl) aO rfl (fun wq hq=>a8 (bl rfl)) hb<|aT (i:=6) #[ab,ab,ab,ab,ab,ab,ab,ac,ac] rfl (by kernel_rfl) aO rfl (fun wq hq=>a8 (bl rfl)) hb<|aT (i:=7) #[ab,ab,ab,ab,ab,ab,ab,ab,ac] rfl (by kernel_rfl) aO rfl (fun wq hq=>a8 (bt (nr ef j5 rfl rfl (by omega) (by omega)) (x4 (k:=i) rfl (by omega)))) hb<|bM (rs:= [8]) (by kernel_rfl) rfl<|bv #[ab,ab,ab,ab,ab,ab,ab,ab,ab] rfl rfl (fun _ jk=>?_) ?_
  ·
   refine Ei (sz:=5) (k:=ps.length - i) (cs:=(c8 ps).drop (i * 5)) (g:=w.heap.size) (o:=(i+1) * 5) ef (by kernel_rfl) rfl rfl hN6 (by show ps.length - i=min (ps.length - i) _;omega) (by rw [FR,nk,List.length_drop]) (fun j u hu=>by rw [lL];exact hP.at (hcell _ u (by rw [List.getElem?_drop] at hu;exact hu))) (by simp [nk,nj,hLl];omega) (fun u hu=>Sl ps u (List.mem_of_mem_drop hu)) rfl ?_;rintro Ui hN7 sR;have hb:=mz hb sR (.inl (Nat.le_refl _));refine ay<|bu jk hb<|eE (by kernel_rfl)<|aw mj<|ao fun mo=>ai rfl<|am rfl<|an mo<|aK<|aQ<|bj rfl rfl ?_
   exact ⟨_,rfl,by
 have e1:i+(ps.length+1 - i)=ps.length+1:=by omega
 have hO1:(c8 (ps.take i)).length=i * 5:=by rw [nk,List.length_take];omega
 have hTl:((c8 ps).drop (i * 5)).length=(ps.length - i) * 5:=by rw [FR,nk,List.length_drop]
 have hLt:L0.take (i * 5)=c8 (ps.take i):=by rw [hL0,List.append_assoc,F6 hO1]
 have e5:(i+1) * 5=i * 5+5:=by omega
 have e6:(ps.length+1) * 5=i * 5+5+(ps.length - i) * 5:=by omega
 rw [e1]
 refine ⟨by rw [nk,Db hi],.inr ⟨w.heap.size,G,_,rfl,by omega,hN7,by omega,hGm,?_,?_⟩⟩
 · simp [nj,hLl,hTl];omega
 · rw [Mg,Mh,e5,e6];exact ac8 hO1 rfl hTl hLt,hb⟩
  exact bN
 have HT:=mQ
 simp only [DZ] at mQ
 refine aU<|aw jW<|ao fun xu=>ai rfl<|ai rfl<|ai rfl<|ah (bH rfl rfl (by omega) (by omega)) rfl<|ah (GJ ef j5 rfl rfl (by omega) (by omega)) rfl<|am rfl<|an xu<|ax fun _ kX=>ao fun ki=>ai rfl<|ai rfl<|ai rfl<|ai rfl<|ah (bH rfl rfl (by omega) (by omega)) rfl<|ah (bt (nr ef j5 rfl rfl (by omega) (by omega)) (x4 (k:=i+1) (by omega) (by omega))) rfl<|W4 ZB ef (sz:=5) (by kernel_rfl) rfl rfl rfl hB hP hgb (by omega) rfl<|ah (fI rfl) rfl<|an ki<|aH rfl (fun nH=>?_) (fun nH=>?_)
 ·
  have Ev:=nH;simp only [DZ] at nH;refine ax fun _ sM=>gG (n:=9) (fun w'=>Kp g w w') #[ac,ac,ac,ac,ac,ac,ac,ac,ac] (by kernel_rfl) rfl (by kernel_rfl)<|gF ?_
  rintro ahB qy;have:=qy.size;have hP:=hP.below qy;have hB:=hB.below qy;replace qy:=Below.kp (p:=g) qy;have hb:=hb.trans qy;have hTl:((c8 ps).drop (i * 5)).length=(ps.length - i) * 5:=by rw [FR,nk,List.length_drop]
  refine aT (i:=0) #[ab,ac,ac,ac,ac,ac,ac,ac,ac] rfl (by kernel_rfl) aO rfl (fun wq hq=>a8 (bl rfl)) hb<|aT (i:=1) #[ab,ab,ac,ac,ac,ac,ac,ac,ac] rfl (by kernel_rfl) aO rfl (fun wq hq=>a8 (bl rfl)) hb<|aT (i:=2) #[ab,ab,ab,ac,ac,ac,ac,ac,ac] rfl (by kernel_rfl) aO rfl (fun wq hq=>a8 (bl rfl)) hb<|aT (i:=3) #[ab,ab,ab,ab,ac,ac,ac,ac,ac] rfl (by kernel_rfl) aO rfl (fun wq hq=>a8 (bH rfl rfl (by omega) (by omega))) hb<|aT (i:=4) #[ab,ab,ab,ab,ab,ac,ac,ac,ac] rfl (by kernel_rfl) aO rfl (fun wq hq=>a8 (bt (nr ef j5 rfl rfl (by omega) (by omega)) (x4 (k:=i+1) (by omega) (by omega)))) hb<|aT (i:=5) #[ab,ab,ab,ab,ab,ab,ac,ac,ac] rfl (by kernel_rfl) aO rfl (fun wq hq=>a8 (bl rfl)) hb<|aT (i:=6) #[ab,ab,ab,ab,ab,ab,ab,ac,ac] rfl (by kernel_rfl) aO rfl (fun wq hq=>a8 (bl rfl)) hb<|aT (i:=7) #[ab,ab,ab,ab,ab,ab,ab,ab,ac] rfl (by kernel_rfl) aO rfl (fun wq hq=>a8 (bt (nr ef j5 rfl rfl (by omega) (by omega)) (x4 (k:=i) rfl (by omega)))) hb<|bM (rs:= [8]) (by kernel_rfl) rfl<|bv #[ab,ab,ab,ab,ab,ab,ab,ab,ab] rfl rfl (fun _ mq=>?_) ?_
  ·
   refine Ei (sz:=5) (k:=ps.length - i) (cs:=(c8 ps).drop (i * 5)) (g:=g) (o:=(i+1) * 5) ef (by kernel_rfl) rfl rfl hP (by show ps.length - i=min _ _;omega) hTl (fun j u hu=>by rw [lL];exact hP.at (hcell _ u (by rw [List.getElem?_drop] at hu;exact hu))) (by rw [hTl,hcl];omega) (fun u hu=>Sl ps u (List.mem_of_mem_drop hu)) rfl ?_;rintro ahA hP7 Ff;have hB:=hB.over Ff hgb;have:=Ff.size;have hb:=mz hb Ff (.inr rfl);refine ay<|bu mq hb<|eE (by kernel_rfl)<|aw sM<|ao fun B7=>ai rfl<|ai rfl<|ah (bt (nr ef j5 rfl rfl (by omega) (by omega)) (x4 (k:=i) rfl (by omega))) rfl<|ai rfl<|Ei (sz:=5) (k:=1) (cs:=f9 q) (g:=g) (o:=i * 5) ef (by kernel_rfl) rfl rfl hP7 (show 1=Nat.min 1 _ from (Nat.min_eq_left (by omega)).symm) rfl (fun j u hu=>hB.at hu) (by simp [nj,hTl,hcl];omega) (zn q) rfl ?_
   rintro yh hP8 qv;have hb:=mz hb qv (.inr rfl);refine an B7<|ao fun Kt=>ai rfl<|am rfl<|an Kt<|aK<|aQ<|bj rfl rfl ?_
   exact ⟨_,rfl,by
 have e0:((ps.length:Int)+((1:Nat):Int)).toNat=ps.length+1:=by omega
 have e5:(i+1) * 5=i * 5+5:=by omega
 have e6:(ps.length+1) * 5=i * 5+5+(ps.length - i) * 5:=by omega
 have hct:cur.take (i * 5)=(c8 ps).take (i * 5):=by rw [←htk,List.take_take,Nat.min_eq_left (by omega)]
 rw [e5] at hP8
 rw [e0]
 refine ⟨by rw [nk,Db hi],.inr ⟨g,c,_,rfl,hbg,hP8,by omega,hcm,?_,?_⟩⟩
 · simp [nj,hTl,hcl];omega
 · rw [Mg,e6,←hct];exact ac9 (by omega) rfl hTl,hb⟩
  exact bN
 have Ev:=nH
 simp only [DZ] at nH
 cases Ev
theorem Ve (base:Nat) (q:Pr) (gb:Nat) (w:World) (hB:aq w gb 105 (f9 q)) (hbase:base≤w.heap.size):
 be Tryz.prog 62 [.slice none 0 0,.int .i64 0,.slice (some ⟨gb,0,none⟩) 1 1] w fun u w'=>w'.ownsRow base 105 5 u 1 (c8 [q])∧w.grownBy w' none:=by
 refine enter Tryz.func62 rfl rfl rfl<|ao fun aZ=>am rfl<|an aZ<|ao fun bJ=>ai rfl<|ai rfl<|ah (nr ef j5 rfl rfl (by omega) (by omega)) rfl<|an bJ<|ao fun e7=>ai rfl<|ah (cG ef (by omega) rfl) rfl<|am rfl<|an e7<|ax fun _ d7=>ao fun eO=>ai rfl<|ah (bA rfl rfl) rfl<|an eO<|aH rfl (fun jv=>?_) (fun jv=>?_)
 ·
  have z6:=jv;simp only [DZ] at jv;exact absurd jv (by decide)
 have z6:=jv
 simp only [DZ] at jv
 refine aU<|aw d7<|ao fun gY=>ai rfl<|ah (cG ef (by omega) rfl) rfl<|am rfl<|an gY<|ax fun _ iV=>ao fun fZ=>ai rfl<|ai rfl<|ah (bA rfl rfl) rfl<|an fZ<|aH rfl (fun fL=>?_) (fun fL=>?_)
 ·
  have u7:=fL;simp only [DZ] at fL;refine ao fun md=>ai rfl<|ai rfl<|dK (z:=LP) (sz:=5) (bytes:=56) ef (by kernel_rfl) rfl (by decide) base rfl (s7 w base 105 5) rfl (hB.rd 1 5 rfl) (zn q) (by simp only [maxLen];omega) (by omega) hbase rfl ?_
  rintro ry mJ hO2 ey ug;refine am rfl<|an md<|aK<|aQ<|bj rfl rfl ?_
  exact ⟨_,rfl,hO2,ey⟩
 have u7:=fL
 simp only [DZ] at fL
 exact absurd fL (by decide)
theorem Vf (base:Nat) (v:Value) (ps:List Pr) (i:Nat) (q:Pr) (gb:Nat) (w:World) (hO:w.ownsRow base 105 5 v ps.length (c8 ps)) (hB:aq w gb 105 (f9 q)) (hgb:v.ownBlock≠some gb) (hi:i≤ps.length) (hl:ps.length≤4294967296) (hbase:base≤w.heap.size):
 be Tryz.prog 62 [v,.int .i64 (i:Int),.slice (some ⟨gb,0,none⟩) 1 1] w fun u w'=>w'.ownsRow base 105 5 u (ps.length+1) (c8 (eS ps i q))∧w.grownBy w' v.ownBlock:=by
 rcases hO.2 with ⟨rfl,h0⟩|⟨g,c,cur,rfl,hg,hh,hnc,hcm,hcs,htk⟩
 · have hn:ps= []:=List.eq_nil_of_length_eq_zero h0
   subst hn
   obtain rfl:i=0:=by simpa using hi
   exact Ve base q gb w hB hbase
 · exact Vg base g c cur.toList ps i q gb w hh (by simpa using hcs) hnc hcm htk hB (fun e=>hgb (by rw [e];rfl)) hi hl hg
theorem agY:bC Tryz.prog 58:=⟨_,Tryz.func58,by kernel_rfl,rfl⟩
theorem agZ:bC Tryz.prog 59:=⟨_,Tryz.func59,by kernel_rfl,rfl⟩
def tx (ps:List Pr):Prop:=∀i j,i≤j→j<ps.length→Op.bytesLess (ps.getD j cA).1 (ps.getD i cA).1=false
theorem tx.up {ps:List Pr} (h:tx ps):NW ps:=fun s i j hij hj hc=>by
 unfold gS at hc ⊢;rw [yG] at hc ⊢;have h1:=h i j hij hj
 rcases uR (ps.getD i cA).1 (ps.getD j cA).1 with h2|h2|h2
 · exact rN _ _ _ h2 hc
 · rw [h2];exact hc
 · rw [h1] at h2;cases h2
def eI (ps:List Pr) (s:al):Nat:=(ps.takeWhile fun q=>decide (Lib.compareBytes q.1 s<0)).length
theorem Gb {α:Type} (f:α→Bool) (z:α):∀(l:List α) (i:Nat),i≤l.length→(∀k,k<i→f (l.getD k z)=true)→(i<l.length→f (l.getD i z)=false)→(l.takeWhile f).length=i
 | [],i,hi,_,_=>by
  have h0:i=0:=(by simpa using hi);rw [h0];rfl
 |a :: r,0,_,_,h=>by
  have:f a=false:=by simpa using h (by simp)
  rw [List.takeWhile_cons,this];rfl
 |a :: r,i+1,hi,h1,h2=>by
  have h0:f a=true:=by simpa using h1 0 (by omega)
  have ih:=Gb f z r i (by simpa using hi) (fun k hk=>by simpa using h1 (k+1) (by omega)) (fun hl=>by simpa using h2 (by simpa using hl));rw [List.takeWhile_cons,h0];simp [ih]
theorem D6.lb {ps:List Pr} {s:al} {i:Nat} {b:Bool} (h:D6 ps s i b):i=eI ps s∧b=(decide (eI ps s<ps.length)&&decide ((ps.getD (eI ps s) cA).1=s)):=by
 obtain ⟨h1,h2,h3,h4⟩:=h;have e:eI ps s=i:=Gb _ cA ps i h1 (fun k hk=>decide_eq_true (h2 k hk)) (fun hl=>decide_eq_false (h3 i (Nat.le_refl _) hl));refine ⟨e.symm,?_⟩;rw [e,h4]
 congr 1
 rw [decide_eq_decide];unfold gS;exact Ox _ _
theorem LN (ps:List Pr) (s:al):eI ps s≤ps.length:=(List.takeWhile_prefix _).length_le
theorem Q1 (ps:List Pr) (i:Nat) (q:Pr) (hi:i≤ps.length) (k:Nat):(eS ps i q).getD k cA=if k<i then ps.getD k cA else if k=i then q else ps.getD (k - 1) cA:=by
 have hl:(ps.take i).length=i:=by rw [List.length_take];omega
 unfold eS;simp only [List.getD_eq_getElem?_getD];rw [List.getElem?_append,hl]
 split
 · rename_i h;rw [List.getElem?_take,if_pos h]
 · rename_i h
   split
   · rename_i h2;rw [h2,Nat.sub_self];rfl
   · rename_i h2
     obtain ⟨m,hm⟩:∃m,k - i=m+1:=⟨k - i - 1,by omega⟩;rw [hm,List.getElem?_cons_succ,List.getElem?_drop,show i+m=k - 1 by omega]
theorem Vr {ps:List Pr} (h:tx ps) {i:Nat} {b:Bool} (q:Pr) (hb:D6 ps q.1 i b):tx (eS ps i q):=fun x y hxy hy=>by
 obtain ⟨h1,h2,h3,_⟩:=hb;rw [Db h1] at hy;have g1:∀k,k<i→Op.bytesLess (ps.getD k cA).1 q.1=true:=fun k hk=>(yG _ _).1 (h2 k hk)
 have g2:∀k,i≤k→k<ps.length→Op.bytesLess (ps.getD k cA).1 q.1=false:=fun k hk hl=>by
  cases e:Op.bytesLess (ps.getD k cA).1 q.1 with
  |false=>rfl
  |true=>exact absurd ((yG _ _).2 e) (h3 k hk hl)
 have as':∀{u v:al},Op.bytesLess u v=true→Op.bytesLess v u=false:=fun {u v} hu=>by
  cases e:Op.bytesLess v u with
  |false=>rfl
  |true=>have:=rN _ _ _ hu e;rw [tE] at this;cases this
 rw [Q1 ps i q h1,Q1 ps i q h1];by_cases a1:y<i
 · rw [if_pos a1,if_pos (by omega)];exact h x y hxy (by omega)
 · rw [if_neg a1]
   by_cases a2:y=i
   · rw [if_pos a2]
     by_cases a3:x<i
     · rw [if_pos a3];exact as' (g1 x a3)
     · rw [if_neg a3,if_pos (by omega)];exact tE _
   · rw [if_neg a2]
     by_cases a3:x<i
     · rw [if_pos a3];exact h x (y - 1) (by omega) (by omega)
     · rw [if_neg a3]
       by_cases a4:x=i
       · rw [if_pos a4];exact g2 (y - 1) (by omega) (by omega)
       · rw [if_neg a4];exact h (x - 1) (y - 1) (by omega) (by omega)
noncomputable def rq:Nat→List Pr→al→Int→List Pr×Int
 |0,o,_,e=>(o,e)
 |n+1,o,s,e=>if s= [] then (o,e) else
  rq n (eS o (eI o (cS s e).1.1) (cS s e).1) (cS s e).2.1 (if (decide (eI o (cS s e).1.1<o.length)&&decide ((o.getD (eI o (cS s e).1.1) cA).1=(cS s e).1.1))=true then cP (cS s e).2.2 3 else (cS s e).2.2)
noncomputable def kt (s:al) (e:Int):List Pr×Int:=rq s.length [] s e
theorem Ml:∀(n:Nat) (o:List Pr) (e:Int),rq n o [] e=(o,e)
 |0,_,_=>rfl
 |n+1,o,e=>by show (if _ then _ else _)=_;rw [if_pos rfl]
theorem ahc:bC Tryz.prog 62:=⟨_,Tryz.func62,by kernel_rfl,rfl⟩
theorem ac5 {o:List Pr} (h:∀q∈o,q.2.Ok) (i:Nat) {p:Pr} (hp:p.2.Ok):∀q∈eS o i p,q.2.Ok:=fun q hq=>by
 unfold eS at hq;rw [List.mem_append,List.mem_cons] at hq
 rcases hq with hq|rfl|hq
 · exact h q (List.mem_of_mem_take hq)
 · exact hp
 · exact h q (List.mem_of_mem_drop hq)
theorem Sq (p:Nat) (s:al) (e:Int) (w:World) (hP:aq w p 56 [str s,.int .i64 e]) (hs:s.length≤4294967296) (hL:Lb w) (hG:Gl p):be Tryz.prog 33 [.pointer (some ⟨p,0,none⟩)] w fun v w'=>(w'.ownsRow w.heap.size 105 5 v (kt s e).1.length (c8 (kt s e).1)∧aq w' p 56 [str [],.int .i64 (kt s e).2]∧(∀q∈(kt s e).1,q.2.Ok))∧Kp p w w':=by
 have hpl:=hP.lt;have hb:=Kp.refl p w;refine enter Tryz.func33 rfl rfl rfl<|ao fun aZ=>am rfl<|an aZ<|ax fun _ bJ=>br<|cU (X:=Nat×Value×List Pr×al×Int) (fun (n,v,o,t,f)=> [(0,.pointer (some ⟨p,0,none⟩)),(2,v)]) (fun (n,v,o,t,f) wr=>t.length≤n∧o.length+t.length≤s.length∧rq n o t f=kt s e∧tx o∧(∀q∈o,q.2.Ok)∧Kp p w wr∧aq wr p 56 [str t,.int .i64 f]∧wr.ownsRow w.heap.size 105 5 v o.length (c8 o)) (fun (n,v,o,t,f)=>t.length) (⟨s.length,.slice none 0 0,[],s,e⟩) ?_ ?_ ?_
 · exact by repeat first|exact aB|refine au rfl (by first|rfl|exact int_eq (by omega)) ?_
 · exact ⟨Nat.le_refl _,by simp,rfl,fun i j _ hj=>by simp at hj,(fun q hq=>by cases hq),hb,hP,s7 _ _ _ _⟩
 rintro ⟨n,v,o,t,f⟩ wr wZ _ K0;replace wZ:t.length≤n∧o.length+t.length≤s.length∧rq n o t f=kt s e∧tx o∧(∀q∈o,q.2.Ok)∧Kp p w wr∧aq wr p 56 [str t,.int .i64 f]∧wr.ownsRow w.heap.size 105 5 v o.length (c8 o):=wZ;obtain ⟨hn,hol,hgo,hNF,hok,hb,hP,hO⟩:=wZ;show Wc _ _ _ _ _ [(0,.pointer (some ⟨p,0,none⟩)),(2,v)] _;have:=hb.size;have:=hP.lt;refine ax fun _ ex=>ao fun e7=>ai rfl<|ah (cM rfl) rfl<|ah (aJ (iO _) rfl) rfl<|aW (aI bQ rfl (by exact hP.at (j:=0) rfl)) rfl<|ah (qO rfl rfl) rfl<|an e7<|aH rfl (fun dH=>?_) (fun dH=>?_)
 ·
  have kD:=dH;simp only [DZ] at dH;have htn:t≠ []:=dH;have h0:=List.length_pos_iff.2 htn;have hpol:=aeA htn f;have sQ:v.ownBlock=none∨v.ownBlock≠some p:=qE hO hpl;have hap3:=Ds hO;have hLr:Lb wr:=hL.kp hb hG;refine aU<|aw ex<|br<|ao fun eR=>ai rfl<|aS agY rfl rfl (aeD p t f _ hP (by omega) hLr) rfl ?_
  rintro _ cq ⟨⟨rfl,hP⟩,bm⟩;have:=bm.size;have hO:=ro hO bm (by omega);have hb:=hb.trans bm;have hap4:=Ds hO;refine el (z:=Di) (by kernel_rfl) rfl ?_;rintro lp Ur Lk ei lA;have:=lA.size;have hP:=hP.below lA;have hO:=cR hO lA;replace lA:=Below.kp (p:=p) lA;have hb:=hb.trans lA;have:=ei.lt;have hapx:=hap4 _ Lk;refine cH (by kernel_rfl) rfl rfl ei rfl rfl ?_;rintro d3 ei bI;have:=bI.size;have hb:=mz hb bI (by omega);have hP:=hP.over bI (by omega);have hO:=World.ownsRow.kept hO bI (by assumption);refine an eR<|ao fun dL=>ai rfl<|ah (aJ (yM _) rfl) rfl<|aW (aI bQ rfl (by exact ei.at (j:=0) rfl)) rfl ?_
  obtain ⟨Ao,co,hve,hoc,_⟩:=eT hO;subst hve;refine aS agZ rfl rfl (UL Ao co o (cS t f).1.1 _ (fC hO) hNF.up (by omega)) rfl ?_;rintro _ ft ⟨⟨ib,bb,rfl,hbs⟩,bp⟩;have:=bp.size;have hP:=aq.below hP bp;have hO:=cR hO bp;have ei:=aq.below ei bp;replace bp:=Below.kp (p:=p) bp;have hb:=hb.trans bp;refine ai rfl<|ah (bP rfl rfl) rfl<|ah (bP rfl rfl) rfl<|am rfl<|am rfl<|an dL<|ax fun _ eG=>ax fun _ gK=>?_
  obtain ⟨rfl,hbb⟩:=hbs.lb;refine aR<|ai rfl<|an gK<|b9 (X:=Unit) (fun u_=> [(0,.pointer (some ⟨p,0,none⟩)),(2,.slice Ao o.length co),(3,.pointer (some ⟨lp,0,none⟩)),(4,.int .i64 (eI o (cS t f).1.1:Nat))]) (fun u_ wm=>Kp p w wm∧aq wm p 56 [str (cS t f).2.1,.int .i64 (if (decide (eI o (cS t f).1.1<o.length)&&decide ((o.getD (eI o (cS t f).1.1) cA).1=(cS t f).1.1))=true then cP (cS t f).2.2 3 else (cS t f).2.2)]∧wm.ownsRow w.heap.size 105 5 (.slice Ao o.length co) o.length (c8 o)∧aq wm lp 105 (f9 (cS t f).1)) (fun _ CJ=>?_) ?_
  ·
   refine aH rfl (fun jd=>?_) (fun jd=>?_)
   ·
    have rS:=jd;refine aR<|ai rfl<|aS tf rfl rfl (rM p (cS t f).2.1 (cS t f).2.2 3 _ hP) rfl ?_
    rintro _ gu ⟨⟨rfl,hP⟩,bG⟩;have:=bG.size;have hO:=ro hO bG (by omega);have ei:=aq.kp ei bG (by omega);have hb:=hb.trans bG;refine ay<|aY CJ (()) (by repeat first|exact aB|refine au rfl (by first|rfl|exact int_eq (by omega)) ?_) ?_
    exact ⟨hb,by rw [←hbb];first|(rw [if_pos rS];exact hP)|(rw [if_neg (by rw [rS];simp)];exact hP),hO,ei⟩
   have rS:=jd;refine aU<|aY CJ (()) (by repeat first|exact aB|refine au rfl (by first|rfl|exact int_eq (by omega)) ?_) ?_
   exact ⟨hb,by rw [←hbb];first|(rw [if_pos rS];exact hP)|(rw [if_neg (by rw [rS];simp)];exact hP),hO,ei⟩
  rintro u_ wm J2;replace J2:Kp p w wm∧aq wm p 56 [str (cS t f).2.1,.int .i64 (if (decide (eI o (cS t f).1.1<o.length)&&decide ((o.getD (eI o (cS t f).1.1) cA).1=(cS t f).1.1))=true then cP (cS t f).2.2 3 else (cS t f).2.2)]∧wm.ownsRow w.heap.size 105 5 (.slice Ao o.length co) o.length (c8 o)∧aq wm lp 105 (f9 (cS t f).1):=J2;obtain ⟨hb,hP,hO,ei⟩:=J2;show Wq _ _ _ _ [(0,.pointer (some ⟨p,0,none⟩)),(2,.slice Ao o.length co),(3,.pointer (some ⟨lp,0,none⟩)),(4,.int .i64 (eI o (cS t f).1.1:Nat))] _;have:=hb.size;have:=hP.lt;have:=ei.lt;refine aw eG<|aR<|ai rfl<|ai rfl<|aW (dM pj (by kernel_rfl) rfl (by exact fun j u hu=>ei.at hu)) rfl ?_
  have hap5:=Ds hO;refine dX (sz:=5) (vs:= [_]) ef (by kernel_rfl) rfl rfl rfl rfl rfl rfl ?_;rintro ix qL oX ew cm;have:=cm.size;have hP:=hP.below cm;have hO:=cR hO cm;replace cm:=Below.kp (p:=p) cm;have hb:=hb.trans cm;have:=ew.lt;refine aS ahc rfl rfl (Vf w.heap.size (.slice Ao o.length co) o (eI o (cS t f).1.1) (cS t f).1 ix _ hO ew (fun h=>by rcases hap5 ix oX with h2|h2;(· rw [h2] at h;cases h);(· exact h2 h)) (LN _ _) (by omega) hb.size) rfl ?_;rintro vI hZ ⟨hO2,QE⟩;have hP:=hP.grown QE (fun h=>by have:=(bz hO _ h.symm).1;omega);have hb:=LI hb QE (fun k_ ba=> .inl (bz hO k_ ba).1);have hO:=hO2;refine am rfl<|ay<|bS<|fun a_ bn=>K0 _ _ (⟨n - 1,vI,eS o (eI o (cS t f).1.1) (cS t f).1,(cS t f).2.1,if (decide (eI o (cS t f).1.1<o.length)&&decide ((o.getD (eI o (cS t f).1.1) cA).1=(cS t f).1.1))=true then cP (cS t f).2.2 3 else (cS t f).2.2⟩) (by show (cS t f).2.1.length<t.length;omega) (by repeat first|exact aB|refine au rfl (by first|rfl|exact int_eq (by omega)) ?_) ?_ a_ bn
  exact ⟨(show (cS t f).2.1.length≤n - 1 by omega),(show (eS o _ _).length+(cS t f).2.1.length≤s.length by rw [Db (LN _ _)];omega),by rw [←hgo];obtain ⟨m,rfl⟩:∃m,n=m+1:=⟨n - 1,by omega⟩;show _=(if _ then _ else _);rw [if_neg htn];rfl,Vr hNF _ hbs,ac5 hok _ (aeB t f),hb,hP,by rw [Db (LN _ _)];exact hO⟩
 have kD:=dH;simp only [DZ] at dH;have htn:t= []:=by have h:=dH;simpa using h
 subst htn;have hdone:kt s e=(o,f):=by rw [←hgo,Ml]
 refine cN<|bD<|bD<|cO<|aw bJ<|ao fun nY=>ai rfl<|am rfl<|an nY<|aK<|bj rfl rfl ?_
 exact ⟨_,rfl,by rw [hdone];exact ⟨hO,hP,hok⟩,hb⟩
def jF (kv:List (al×Value)) (nm:al) (most:Int) (e:Int):Int:=
 if most≤(kv.length:Int) then cP (if (fa kv nm).isSome=true then cP e 3 else e) 6 else if (fa kv nm).isSome=true then cP e 3 else e
theorem RH (p m:Nat) (s:al) (e:Int) (kv:List (al×Value)) (nm:al) (most:Int) (w:World) (hP:aq w p 56 [str s,.int .i64 e]) (hM:Mp w m kv) (hmp:m≠p):be Tryz.prog 34 [.pointer (some ⟨p,0,none⟩),.map (some m),str nm,.int .i64 most] w fun v w'=>(v= .tuple #[]∧aq w' p 56 [str s,.int .i64 (jF kv nm most e)]∧Mp w' m (mput kv nm (.int .i64 kv.length)))∧∃w1,Kp p w w1∧w1.grownBy w' (some m):=by
 have hpl:=hP.lt;have hb:=Kp.refl p w;refine enter Tryz.func34 rfl rfl rfl<|ax fun _ aZ=>ao fun aaL=>ai rfl<|ai rfl<|aW (LJ (z:=(.int .i64 0)) rx bq (by kernel_rfl) rfl rfl (by exact hM)) rfl<|ai rfl<|ah (bP rfl rfl) rfl<|ah (bP rfl rfl) rfl<|am rfl<|am rfl<|an aaL<|ao fun d7=>ai rfl<|an d7<|b9 (X:=Unit) (fun u_=> [(0,.pointer (some ⟨p,0,none⟩)),(1,.map (some m)),(2,str nm),(3,.int .i64 most)]) (fun u_ wr=>Kp p w wr∧aq wr p 56 [str s,.int .i64 (if (fa kv nm).isSome=true then cP e 3 else e)]) (fun _ P1=>?_) ?_
 ·
  refine aH rfl (fun dR=>?_) (fun dR=>?_)
  ·
   have nz:=dR;refine aR<|ai rfl<|aS tf rfl rfl (rM p s e 3 _ hP) rfl ?_
   rintro _ cq ⟨⟨rfl,hP⟩,bm⟩;have:=bm.size;have hb:=hb.trans bm;refine ay<|aY P1 (()) (by repeat first|exact aB|refine au rfl (by first|rfl|exact int_eq (by omega)) ?_) ?_
   exact ⟨hb,by first|(rw [if_pos nz];exact hP)|(rw [if_neg (by rw [nz];simp)];exact hP)⟩
  have nz:=dR;refine aU<|aY P1 (()) (by repeat first|exact aB|refine au rfl (by first|rfl|exact int_eq (by omega)) ?_) ?_
  exact ⟨hb,by first|(rw [if_pos nz];exact hP)|(rw [if_neg (by rw [nz];simp)];exact hP)⟩
 rintro u_ wr mb;replace mb:Kp p w wr∧aq wr p 56 [str s,.int .i64 (if (fa kv nm).isSome=true then cP e 3 else e)]:=mb;obtain ⟨hb,hP⟩:=mb;show Wq _ _ _ _ [(0,.pointer (some ⟨p,0,none⟩)),(1,.map (some m)),(2,str nm),(3,.int .i64 most)] _;have:=hb.size;have:=hP.lt;refine aw aZ<|ax fun _ dL=>ao fun gJ=>ai rfl<|aW (FB rx rfl (by exact (hM.kp hb hmp))) rfl<|ai rfl<|ah (jb rfl rfl) rfl<|an gJ<|b9 (X:=Unit) (fun u_=> [(0,.pointer (some ⟨p,0,none⟩)),(1,.map (some m)),(2,str nm),(3,.int .i64 most)]) (fun u_ wr=>Kp p w wr∧aq wr p 56 [str s,.int .i64 (jF kv nm most e)]) (fun _ CI=>?_) ?_
 ·
  refine aH rfl (fun fL=>?_) (fun fL=>?_)
  ·
   have u7:=fL;simp only [DZ] at fL;refine aR<|ai rfl<|aS tf rfl rfl (rM p s (if (fa kv nm).isSome=true then cP e 3 else e) 6 _ hP) rfl ?_
   rintro _ ft ⟨⟨rfl,hP⟩,bp⟩;have:=bp.size;have hb:=hb.trans bp;refine ay<|aY CI (()) (by repeat first|exact aB|refine au rfl (by first|rfl|exact int_eq (by omega)) ?_) ?_
   exact ⟨hb,by unfold jF;first|(rw [if_pos fL];exact hP)|(rw [if_neg (by omega)];exact hP)⟩
  have u7:=fL;simp only [DZ] at fL;refine aU<|aY CI (()) (by repeat first|exact aB|refine au rfl (by first|rfl|exact int_eq (by omega)) ?_) ?_
  exact ⟨hb,by unfold jF;first|(rw [if_pos fL];exact hP)|(rw [if_neg (by omega)];exact hP)⟩
 rintro u_ wr wU;replace wU:Kp p w wr∧aq wr p 56 [str s,.int .i64 (jF kv nm most e)]:=wU;obtain ⟨hb,hP⟩:=wU;show Wq _ _ _ _ [(0,.pointer (some ⟨p,0,none⟩)),(1,.map (some m)),(2,str nm),(3,.int .i64 most)] _;have:=hb.size;have:=hP.lt;refine aw dL<|aR<|ai rfl<|ai rfl<|ai rfl<|aW (FB rx rfl (by exact (hM.kp hb hmp))) rfl<|GZ rx bq rfl rfl rfl (hM.kp hb hmp) ?_
 rintro aji hM2 QG;have hP2:=hP.grown QG (fun h=>hmp (Option.some.inj h).symm);refine ay<|lh rfl ?_
 exact ⟨_,rfl,⟨rfl,hP2,hM2⟩,_,hb,QG⟩
end Go.Proofs.YtjmlknjbhbfneaaGreatDoor
