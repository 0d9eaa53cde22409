import Derived.Test.YtjmlknjbhbfneaaGreatDoorZGC
import Derived.Test.YtjmlknjbhbfneaaGreatDoorZSU
namespace Go.Proofs.YtjmlknjbhbfneaaGreatDoor
open Go.RowKit Go.Bw Go.Bw.Fl
set_option linter.unusedVariables false
set_option linter.unusedSimpArgs false
theorem agU:bC Tryz.prog 50:=⟨_,Tryz.func50,by kernel_rfl,rfl⟩
def rv (ps qs:List Pr) (i:Nat):Bool:=uE (ps.getD i cA).2 (qs.getD i cA).2&&decide ((ps.getD i cA).1=(qs.getD i cA).1)
def xZ (ps qs:List Pr):Bool:=decide (ps.length=qs.length)&&fU ps.length (rv ps qs)
def ou (a b:ND):Bool:=decide (a.ls=b.ls)&&xZ a.ps b.ps&&decide (a.n=b.n)
def uD (a b:ED):Bool:=ou ⟨a.n,a.ls,a.ps⟩ ⟨b.n,b.ls,b.ps⟩&&decide (a.fr=b.fr)&&decide (a.tw=b.tw)&&(a.dir==b.dir)
def ov (g h:GV) (i:Nat):Bool:=ou (g.ns.getD i ct) (h.ns.getD i ct)
def j4 (g h:GV) (i:Nat):Bool:=uD (g.es.getD i bU) (h.es.getD i bU)
def xY (g h:GV):Bool:=decide (g.ns.length=h.ns.length)&&decide (g.es.length=h.es.length)&&fU g.ns.length (ov g h)&&fU g.es.length (j4 g h)
theorem O9 {α:Type} (z:α):∀{l m:List α},l.length=m.length→(∀i,i<l.length→l.getD i z=m.getD i z)→l=m
 | [],[],_,_=>rfl
 |a :: l,b :: m,hl,h=>by
  have h0:=h 0 (by simp);have h1:=O9 z (l:=l) (m:=m) (by simpa using hl) (fun i hi=>by have:=h (i+1) (by simpa using hi);simpa using this);rw [h1];simpa using h0
theorem px (a b:al):(a != b)= !decide (a=b):=by rw [Bool.eq_iff_iff];simp
theorem NO (A:Option Addr) (c:Nat) (l:List (al)) (B:Option Addr) (e:Nat) (m:List (al)) (w:World) (hl:Rd w 1 A l.length (strs l)) (hm:Rd w 1 B m.length (strs m)) (h1:l.length≤1099511627776) (h2:m.length≤1099511627776):
 be Tryz.prog 22 [.slice A l.length c,.slice B m.length e] w fun v w'=>v= .bool (decide (l=m))∧Below w.heap.size w w':=by
 have hb:=Below.refl w.heap.size w
 have QN:=hl
 have QO:=hm
 refine enter Tryz.func22 rfl rfl rfl<|ao fun aZ=>am rfl<|an aZ<|ax fun _ bJ=>ao fun bX=>ai rfl<|ah (cG bK (by omega) rfl) rfl<|ai rfl<|ah (cG bK (by omega) rfl) rfl<|ah (ig rfl rfl) rfl<|an bX<|aH rfl (fun fh=>?_) (fun fh=>?_)
 ·
  have ny:=fh;simp only [DZ] at fh;refine ao fun d7=>am rfl<|an d7<|aK<|aQ<|bj rfl rfl ?_
  exact ⟨_,rfl,aP (by rw [eq_comm,decide_eq_false_iff_not];intro h;rw [h] at fh;exact fh rfl),hb⟩
 have ny:=fh
 simp only [DZ] at fh
 have hlen:l.length=m.length:=by have:=fh;omega
 refine aU<|aw bJ<|ax fun _ eQ=>ao fun eR=>am rfl<|an eR<|br<|cU (X:=Nat) (fun i=> [(0,.slice A l.length c),(1,.slice B m.length e),(5,.int .i64 (i:Int))]) (fun i wr=>i≤l.length∧(∀j,j<i→l.getD j []=m.getD j [])∧Below w.heap.size w wr) (fun i=>l.length - i) (0) ?_ ?_ ?_
 · exact by repeat first|exact aB|refine au rfl (by first|rfl|exact int_eq (by omega)) ?_
 · exact ⟨by omega,fun _ h=>by omega,hb⟩
 rintro i wr mb _ CA
 replace mb:i≤l.length∧(∀j,j<i→l.getD j []=m.getD j [])∧Below w.heap.size w wr:=mb
 obtain ⟨hi,hall,hb⟩:=mb
 show Wc _ _ _ _ _ [(0,.slice A l.length c),(1,.slice B m.length e),(5,.int .i64 (i:Int))] _
 have hl:=QN.below hb
 have hm:=QO.below hb
 have:=hb.size
 refine ax fun _ dL=>ao fun gJ=>ai rfl<|ai rfl<|ah (cG bK (by omega) rfl) rfl<|ah (cg rfl rfl) rfl<|an gJ<|aH rfl (fun fK=>?_) (fun fK=>?_)
 ·
  have rR:=fK;simp only [DZ] at fK;have hil:i<l.length:=by have:=fK;omega
  obtain ⟨p_,v_,hpe,hve,hcell⟩:=hl.one (i:=i) hil;obtain rfl:=i6 hil hve;obtain ⟨lC,M4,hpe2,hve2,hcell2⟩:=hm.one (i:=i) (by omega);obtain rfl:=i6 (by omega) hve2;subst hpe;subst hpe2;refine aU<|aw dL<|ax fun _ jg=>br<|ax fun _ md=>ju (by kernel_rfl) (by kernel_rfl)<|aC (bl rfl) rfl<|aC (bl rfl) rfl<|aC (cx bK eo rfl rfl (by omega) (by omega)) rfl<|cr (fun wq hq=>aI bQ rfl (by have hl:=hl.below hq;have hm:=hm.below hq;exact ip hq (gH hcell))) rfl<|aC (bl rfl) rfl<|aC (bl rfl) rfl<|aC (cx bK eo rfl rfl (by omega) (by omega)) rfl<|cr (fun wq hq=>aI bQ rfl (by have hl:=hl.below hq;have hm:=hm.below hq;exact ip hq (gH hcell2))) rfl<|aC (qO rfl rfl) rfl<|dZ fun Gy iY=>?_
  have:=iY.size;have hb:=az hb iY;have hl:=QN.below hb;have hm:=QO.below hb;refine aw md<|aH rfl (fun vh=>?_) (fun vh=>?_)
  ·
   have XS:=vh;simp only [DZ] at vh;refine ao fun xq=>am rfl<|an xq<|aK<|bE (aQ (aQ (bE (aQ ?_))))
   refine bj rfl rfl ?_;exact ⟨_,rfl,aP (by rw [eq_comm,decide_eq_false_iff_not];intro h;exact vh (by rw [h])),hb⟩
  have XS:=vh;simp only [DZ] at vh;refine aU<|bS<|aw jg<|aR<|ai rfl<|ah (bH rfl rfl (by omega) (by omega)) rfl<|am rfl<|ay<|fun a_ bn=>CA _ _ (i+1) (by omega) (by repeat first|exact aB|refine au rfl (by first|rfl|exact int_eq (by omega)) ?_) ?_ a_ bn
  exact ⟨by omega,fun j hj=>(by by_cases e:j=i;(· rw [e];exact vh);(· exact hall j (by omega))),hb⟩
 have rR:=fK
 simp only [DZ] at fK
 refine cN<|bD<|bD<|cO<|aw eQ<|ao fun nY=>am rfl<|an nY<|aK<|bj rfl rfl ?_
 exact ⟨_,rfl,aP (by rw [eq_comm,decide_eq_true_eq];exact O9 [] hlen fun j hj=>hall j (by have:=fK;omega)),hb⟩
theorem SZ (A:Option Addr) (c:Nat) (ps:List Pr) (B:Option Addr) (e:Nat) (qs:List Pr) (w:World) (hp:Rd w 5 A ps.length (c8 ps)) (hq0:Rd w 5 B qs.length (c8 qs)) (h1:ps.length≤1099511627776) (h2:qs.length≤1099511627776) (hpo:∀p∈ps,p.2.Ok) (hqo:∀p∈qs,p.2.Ok):
 be Tryz.prog 23 [.slice A ps.length c,.slice B qs.length e] w fun v w'=>v= .bool (xZ ps qs)∧Below w.heap.size w w':=by
 have hb:=Below.refl w.heap.size w
 have CU:=hp
 have CV:=hq0
 refine enter Tryz.func23 rfl rfl rfl<|ao fun aZ=>am rfl<|an aZ<|ax fun _ bJ=>ao fun bX=>ai rfl<|ah (cG ef (by omega) rfl) rfl<|ai rfl<|ah (cG ef (by omega) rfl) rfl<|ah (ig rfl rfl) rfl<|an bX<|aH rfl (fun fh=>?_) (fun fh=>?_)
 ·
  have ny:=fh;simp only [DZ] at fh;refine ao fun d7=>am rfl<|an d7<|aK<|aQ<|bj rfl rfl ?_
  exact ⟨_,rfl,aP (by unfold xZ;rw [decide_eq_false (by have:=fh;omega)];rfl),hb⟩
 have ny:=fh
 simp only [DZ] at fh
 have hlen:ps.length=qs.length:=by have:=fh;omega
 refine aU<|aw bJ<|ax fun _ eQ=>ao fun eR=>am rfl<|an eR<|br<|cU (X:=Nat) (fun i=> [(0,.slice A ps.length c),(1,.slice B qs.length e),(5,.int .i64 (i:Int))]) (fun i wr=>i≤ps.length∧(∀j,j<i→rv ps qs j=true)∧Below w.heap.size w wr) (fun i=>ps.length - i) (0) ?_ ?_ ?_
 · exact by repeat first|exact aB|refine au rfl (by first|rfl|exact int_eq (by omega)) ?_
 · exact ⟨by omega,fun _ h=>by omega,hb⟩
 rintro i wr mb _ CA
 replace mb:i≤ps.length∧(∀j,j<i→rv ps qs j=true)∧Below w.heap.size w wr:=mb
 obtain ⟨hi,hall,hb⟩:=mb
 show Wc _ _ _ _ _ [(0,.slice A ps.length c),(1,.slice B qs.length e),(5,.int .i64 (i:Int))] _
 have hp:=CU.below hb
 have hq0:=CV.below hb
 have:=hb.size
 refine ax fun _ dL=>ao fun gJ=>ai rfl<|ai rfl<|ah (cG ef (by omega) rfl) rfl<|ah (cg rfl rfl) rfl<|an gJ<|aH rfl (fun fK=>?_) (fun fK=>?_)
 ·
  have rR:=fK;simp only [DZ] at fK;have hil:i<ps.length:=by have:=fK;omega
  have hoi:=FM hpo hil;have hoj:=FM hqo (i:=i) (by omega);obtain ⟨p_,hpe,hcell⟩:=rr f9 (l:=ps) (by omega) nj hp hil cA;obtain ⟨lC,hpe2,hcell2⟩:=rr f9 (l:=qs) (by omega) nj hq0 (i:=i) (by omega) cA;subst hpe;subst hpe2;refine aU<|aw dL<|ax fun _ jg=>br<|ax fun _ md=>ju (by kernel_rfl) (by kernel_rfl)<|aC (bl rfl) rfl<|aC (bl rfl) rfl<|aC (cx ef j5 rfl rfl (by omega) (by omega)) rfl<|aC (aJ (AR _) rfl) rfl<|cr (fun wq hq=>dM de (by kernel_rfl) rfl (by have hp:=hp.below hq;have hq0:=hq0.below hq;exact show ∀(j:Nat) (u:Value),(ps.getD i cA).2.cells[j]? =some u→_ from fun j u hu=>ip hq (by rw [lL,Int.toNat_natCast];have h2:=hcell (1+j) u (by rw [Nat.add_comm];exact hu);rw [lL] at h2 ⊢;exact h2))) rfl<|aC (bl rfl) rfl<|aC (bl rfl) rfl<|aC (cx ef j5 rfl rfl (by omega) (by omega)) rfl<|aC (aJ (AR _) rfl) rfl<|cr (fun wq hq=>dM de (by kernel_rfl) rfl (by have hp:=hp.below hq;have hq0:=hq0.below hq;exact show ∀(j:Nat) (u:Value),(qs.getD i cA).2.cells[j]? =some u→_ from fun j u hu=>ip hq (by rw [lL,Int.toNat_natCast];have h2:=hcell2 (1+j) u (by rw [Nat.add_comm];exact hu);rw [lL] at h2 ⊢;exact h2))) rfl<|uQ agU rfl rfl (fun wq hq=>by have hp:=hp.below hq;have hq0:=hq0.below hq;exact VF (ps.getD i cA).2 (qs.getD i cA).2 hoi hoj _) rfl<|aC (cX rfl) rfl<|dZ fun Gy iY=>?_
  have:=iY.size;have hb:=az hb iY;have hp:=CU.below hb;have hq0:=CV.below hb;refine aw md<|ax fun _ fx=>?_
  obtain ⟨p3_,hpe3,hcell3⟩:=rr f9 (l:=ps) (by omega) nj hp hil cA
  cases hpe3
  obtain ⟨p4_,hpe4,hcell4⟩:=rr f9 (l:=qs) (by omega) nj hq0 (i:=i) (by omega) cA
  cases hpe4
  refine b9 (X:=Bool) (fun q=> [(0,.slice (some p_) ps.length c),(1,.slice (some lC) qs.length e),(5,.int .i64 (i:Int)),(43,.bool q)]) (fun q wr=>q=(!rv ps qs i)∧Below w.heap.size w wr) (fun _ Qj=>?_) ?_
  ·
   refine ju (by kernel_rfl) (by kernel_rfl)<|aC (bl rfl) rfl<|aC (fI rfl) rfl<|aC (bl rfl) rfl<|G6 rfl rfl rfl (fun BB=>?_) (fun BB=>?_)
   ·
    have iu:=BB;simp only [DZ] at BB;refine aL rfl rfl iu rfl rfl<|aL rfl rfl iu rfl rfl<|aL rfl rfl iu rfl rfl<|aL rfl rfl iu rfl rfl<|aL rfl rfl iu rfl rfl<|aL rfl rfl iu rfl rfl<|aL rfl rfl iu rfl rfl<|aL rfl rfl iu rfl rfl<|aL rfl rfl iu rfl rfl<|aL rfl rfl iu rfl rfl<|aC (bi rfl iu rfl) rfl<|dZ fun Gz jD=>?_
    have acQ:=jD.size;have hb:=az hb jD;have hp:=CU.below hb;have hq0:=CV.below hb;refine aY Qj (!rv ps qs i) (by repeat first|exact aB|refine au rfl (by first|rfl|exact aP (by unfold rv;simp_all [px])) ?_) ?_;exact ⟨rfl,hb⟩
   have iu:=BB;simp only [DZ] at BB;refine aC (bl rfl) rfl<|bB rfl rfl iu<|aC (bl rfl) rfl<|bB rfl rfl iu<|aC (cx ef j5 rfl rfl (by omega) (by omega)) rfl<|bB rfl rfl iu<|aC (aJ (yM _) rfl) rfl<|bB rfl rfl iu<|cr (fun wq hq=>aI bQ rfl (by have hp:=hp.below hq;have hq0:=hq0.below hq;exact ip hq (by rw [Int.toNat_natCast];exact hcell3 0 _ rfl))) rfl<|bB rfl rfl iu<|aC (bl rfl) rfl<|bB rfl rfl iu<|aC (bl rfl) rfl<|bB rfl rfl iu<|aC (cx ef j5 rfl rfl (by omega) (by omega)) rfl<|bB rfl rfl iu<|aC (aJ (yM _) rfl) rfl<|bB rfl rfl iu<|cr (fun wq hq=>aI bQ rfl (by have hp:=hp.below hq;have hq0:=hq0.below hq;exact ip hq (by rw [Int.toNat_natCast];exact hcell4 0 _ rfl))) rfl<|bB rfl rfl iu<|aC (qO rfl rfl) rfl<|aC (bg rfl iu rfl) rfl<|dZ fun Gz jD=>?_
   have acQ:=jD.size;have hb:=az hb jD;have hp:=CU.below hb;have hq0:=CV.below hb;refine aY Qj (!rv ps qs i) (by repeat first|exact aB|refine au rfl (by first|rfl|exact aP (by unfold rv;simp_all [px])) ?_) ?_;exact ⟨rfl,hb⟩
  rintro q wr xc;replace xc:q=(!rv ps qs i)∧Below w.heap.size w wr:=xc;obtain ⟨hq3,hb⟩:=xc;show Wq _ _ _ _ [(0,.slice (some p_) ps.length c),(1,.slice (some lC) qs.length e),(5,.int .i64 (i:Int)),(43,.bool q)] _;have hp:=CU.below hb;have hq0:=CV.below hb;have:=hb.size;refine aw fx<|aH rfl (fun vp=>?_) (fun vp=>?_)
  ·
   have vq:=vp;refine ao fun n7=>am rfl<|an n7<|aK<|bE (aQ (aQ (bE (aQ ?_))))
   refine bj rfl rfl ?_;exact ⟨_,rfl,aP (by unfold xZ;rw [zW hil (by have h:=vq;rw [hq3] at h;simpa using h)];simp),hb⟩
  have vq:=vp;refine aU<|bS<|aw jg<|aR<|ai rfl<|ah (bH rfl rfl (by omega) (by omega)) rfl<|am rfl<|ay<|fun a_ bn=>CA _ _ (i+1) (by omega) (by repeat first|exact aB|refine au rfl (by first|rfl|exact int_eq (by omega)) ?_) ?_ a_ bn
  exact ⟨by omega,fun j hj=>(by by_cases e:j=i;(· rw [e];have h:=vq;rw [hq3] at h;simpa using h);(· exact hall j (by omega))),hb⟩
 have rR:=fK
 simp only [DZ] at fK
 refine cN<|bD<|bD<|cO<|aw eQ<|ao fun kW=>am rfl<|an kW<|aK<|bj rfl rfl ?_
 exact ⟨_,rfl,aP (by unfold xZ;rw [decide_eq_true hlen,tz (fun j hj=>hall j (by have:=fK;omega))];rfl),hb⟩
theorem TI:bC Tryz.prog 22:=⟨_,Tryz.func22,by kernel_rfl,rfl⟩
theorem TJ:bC Tryz.prog 23:=⟨_,Tryz.func23,by kernel_rfl,rfl⟩
theorem Tl {d:ND} {n:Nat} (h:jG d≤n):d.ls.length≤n∧d.ps.length≤n:=by
 have h1:=td d.ls;have h2:=uG d.ps;unfold jG at h;omega
theorem Ti {d:ED} {n:Nat} (h:ow d≤n):d.ls.length≤n∧d.ps.length≤n:=by
 have h1:=td d.ls;have h2:=uG d.ps;unfold ow at h;omega
theorem yr (a b:Bool):(a != b)= !(a==b):=rfl
theorem yt (a b:Int):(a != b)= !decide (a=b):=by rw [Bool.eq_iff_iff];simp
set_option maxHeartbeats 4000000 in
theorem U7 (S:Nat→Prop) (A:Option Addr) (c:Nat) (B:Option Addr) (e:Nat) (g:GV) (S':Nat→Prop) (A':Option Addr) (c':Nat) (B':Option Addr) (e':Nat) (h:GV) (w:World) (hG:oE S w A c B e g) (hH:oE S' w A' c' B' e' h) (hsz:dO g≤1099511627776) (hsz':dO h≤1099511627776):
 be Tryz.prog 10 [.agg #[.slice A g.ns.length c,.slice B g.es.length e],.agg #[.slice A' h.ns.length c',.slice B' h.es.length e']] w fun v w'=>v= .bool (xY g h)∧Below w.heap.size w w':=by
 have hnl:=ya g
 have hel:=x9 g
 have hnl':=ya h
 have hel':=x9 h
 have hb:=Below.refl w.heap.size w
 have bk:=hG
 have kh:=hH
 refine enter Tryz.func10 rfl rfl rfl<|ao fun aZ=>jL rfl rfl ?_
 rintro aX js iB aj cF
 have:=cF.size
 have hb:=az hb cF
 have hG:=bk.below hb
 have hH:=kh.below hb
 have:=aj.lt
 refine jL rfl rfl ?_
 rintro cQ M9 Lf aF m7
 have:=m7.size
 have hb:=az hb m7
 have hG:=bk.below hb
 have hH:=kh.below hb
 have aj:=aq.below aj m7
 have:=aF.lt
 refine am rfl<|an aZ<|ax fun _ cT=>ax fun _ ex=>b9 (X:=Bool) (fun q=> [(2,.pointer (some ⟨aX,0,none⟩)),(3,.pointer (some ⟨cQ,0,none⟩)),(28,.bool q)]) (fun q wr=>q=(!(decide (g.ns.length=h.ns.length)&&decide (g.es.length=h.es.length)))∧Below w.heap.size w wr∧aq wr aX 27 [.slice A g.ns.length c,.slice B g.es.length e]∧aq wr cQ 27 [.slice A' h.ns.length c',.slice B' h.es.length e']) (fun _ uc=>?_) ?_
 ·
  refine aR<|ah (aJ (gw _) rfl) rfl<|aW (aI fG rfl (by exact aj.at (j:=0) rfl)) rfl<|ah (cG dJ (by omega) rfl) rfl<|ah (aJ (gw _) rfl) rfl<|aW (aI fG rfl (by exact aF.at (j:=0) rfl)) rfl<|ah (cG dJ (by omega) rfl) rfl<|ah (ig rfl rfl) rfl<|ai rfl<|dP rfl rfl rfl (fun qU=>?_) (fun qU=>?_)
  ·
   have jz:=qU;simp only [DZ] at qU;refine aA rfl rfl jz rfl rfl<|aA rfl rfl jz rfl rfl<|aA rfl rfl jz rfl rfl<|aA rfl rfl jz rfl rfl<|aA rfl rfl jz rfl rfl<|aA rfl rfl jz rfl rfl<|ah (bi rfl jz rfl) rfl<|ay<|aY uc (!(decide (g.ns.length=h.ns.length)&&decide (g.es.length=h.es.length))) (by repeat first|exact aB|refine au rfl (by first|rfl|exact aP (by rw [Bool.eq_iff_iff];simp;omega)) ?_) ?_
   exact ⟨rfl,hb,aj,aF⟩
  have jz:=qU;simp only [DZ] at qU;refine ah (aJ (jy _) rfl) rfl<|aE rfl rfl jz<|aW (aI gL rfl (by exact aj.at (j:=1) rfl)) rfl<|aE rfl rfl jz<|ah (cG d4 (by omega) rfl) rfl<|aE rfl rfl jz<|ah (aJ (jy _) rfl) rfl<|aE rfl rfl jz<|aW (aI gL rfl (by exact aF.at (j:=1) rfl)) rfl<|aE rfl rfl jz<|ah (cG d4 (by omega) rfl) rfl<|aE rfl rfl jz<|ah (ig rfl rfl) rfl<|ah (bg rfl jz rfl) rfl<|ay<|aY uc (!(decide (g.ns.length=h.ns.length)&&decide (g.es.length=h.es.length))) (by repeat first|exact aB|refine au rfl (by first|rfl|exact aP (by rw [Bool.eq_iff_iff];simp;omega)) ?_) ?_
  exact ⟨rfl,hb,aj,aF⟩
 rintro q wr JU
 replace JU:q=(!(decide (g.ns.length=h.ns.length)&&decide (g.es.length=h.es.length)))∧Below w.heap.size w wr∧aq wr aX 27 [.slice A g.ns.length c,.slice B g.es.length e]∧aq wr cQ 27 [.slice A' h.ns.length c',.slice B' h.es.length e']:=JU
 obtain ⟨hq1,hb,aj,aF⟩:=JU
 show Wq _ _ _ _ [(2,.pointer (some ⟨aX,0,none⟩)),(3,.pointer (some ⟨cQ,0,none⟩)),(28,.bool q)] _
 have hG:=bk.below hb
 have hH:=kh.below hb
 have:=hb.size
 have:=aj.lt
 have:=aF.lt
 refine aw ex<|aH rfl (fun Hf=>?_) (fun Hf=>?_)
 ·
  have Hg:=Hf;have hno:(decide (g.ns.length=h.ns.length)&&decide (g.es.length=h.es.length))=false:=by have h3:=Hg;rw [hq1,Bool.not_eq_true'] at h3;exact h3
  refine ao fun eG=>am rfl<|an eG<|aK<|aQ<|bj rfl rfl ?_
  exact ⟨_,rfl,aP (by unfold xY;rw [hno];rfl),hb⟩
 have Hg:=Hf
 have hyes:(decide (g.ns.length=h.ns.length)&&decide (g.es.length=h.es.length))=true:=by have h3:=Hg;rw [hq1,Bool.not_eq_false'] at h3;exact h3
 have hln:g.ns.length=h.ns.length:=by have:=hyes;simp only [Bool.and_eq_true,decide_eq_true_eq] at this;exact this.1
 have hle:g.es.length=h.es.length:=by have:=hyes;simp only [Bool.and_eq_true,decide_eq_true_eq] at this;exact this.2
 refine aU<|aw cT<|ax fun _ nW=>ao fun jW=>am rfl<|an jW<|br<|cU (X:=Nat) (fun i=> [(2,.pointer (some ⟨aX,0,none⟩)),(3,.pointer (some ⟨cQ,0,none⟩)),(5,.int .i64 (i:Int))]) (fun i wr=>i≤g.ns.length∧(∀j,j<i→ov g h j=true)∧Below w.heap.size w wr∧aq wr aX 27 [.slice A g.ns.length c,.slice B g.es.length e]∧aq wr cQ 27 [.slice A' h.ns.length c',.slice B' h.es.length e']) (fun i=>g.ns.length - i) (0) ?_ ?_ ?_
 · exact by repeat first|exact aB|refine au rfl (by first|rfl|exact int_eq (by omega)) ?_
 · exact ⟨by omega,fun _ h=>by omega,hb,aj,aF⟩
 rintro i wr wW _ abV
 replace wW:i≤g.ns.length∧(∀j,j<i→ov g h j=true)∧Below w.heap.size w wr∧aq wr aX 27 [.slice A g.ns.length c,.slice B g.es.length e]∧aq wr cQ 27 [.slice A' h.ns.length c',.slice B' h.es.length e']:=wW
 obtain ⟨hi,hall,hb,aj,aF⟩:=wW
 show Wc _ _ _ _ _ [(2,.pointer (some ⟨aX,0,none⟩)),(3,.pointer (some ⟨cQ,0,none⟩)),(5,.int .i64 (i:Int))] _
 have hG:=bk.below hb
 have hH:=kh.below hb
 have:=hb.size
 have:=aj.lt
 have:=aF.lt
 refine ax fun _ me=>ao fun mf=>ai rfl<|ah (aJ (gw _) rfl) rfl<|aW (aI fG rfl (by exact aj.at (j:=0) rfl)) rfl<|ah (cG dJ (by omega) rfl) rfl<|ah (cg rfl rfl) rfl<|an mf<|aH rfl (fun io=>?_) (fun io=>?_)
 ·
  have Am:=io;simp only [DZ] at io;have hil:i<g.ns.length:=by have:=io;omega
  have hil':i<h.ns.length:=by omega
  obtain ⟨p_,rZ,hpe,hcl,hcell,hQ⟩:=hG.rn i hil;obtain ⟨A1,c1,B1,e1,rfl,hN⟩:=hQ;obtain ⟨lC,Zc,hpe2,hcl2,hcell2,hQ2⟩:=hH.rn i hil';obtain ⟨A2,c2,B2,e2,rfl,hN2⟩:=hQ2;have hz1:=Tl (Nat.le_trans (uF hil) hsz);have hz2:=Tl (Nat.le_trans (uF hil') hsz');have hokn:=uy (f:=fun d:ND=>d.ps) hG.oks ct hil;have hokm:=uy (f:=fun d:ND=>d.ps) hH.oks ct hil';subst hpe;subst hpe2;refine aU<|aw me<|ax fun _ f5=>br<|ax fun _ lu=>?_
  have hbR:=Below.refl wr.heap.size wr;have fy:=hN;have oW:=hN2;refine ju (by kernel_rfl) (by kernel_rfl)<|aC (aJ (gw _) rfl) rfl<|cr (fun wq hq=>aI fG rfl (by have hG:=hG.below hq;have hH:=hH.below hq;have hN:=hN.below hq;have hN2:=hN2.below hq;have aj:=aq.below aj hq;have aF:=aq.below aF hq;exact aj.at (j:=0) rfl)) rfl<|aC (bl rfl) rfl<|aC (cx dJ pd rfl rfl (by omega) (by omega)) rfl<|aC (aJ (AS _) rfl) rfl<|cr (fun wq hq=>aI mD rfl (by have hG:=hG.below hq;have hH:=hH.below hq;have hN:=hN.below hq;have hN2:=hN2.below hq;have aj:=aq.below aj hq;have aF:=aq.below aF hq;exact ip (hbR.trans (hq.mono hbR.size)) (by rw [Int.toNat_natCast];exact hcell 1 _ rfl))) rfl<|aC (aJ (gw _) rfl) rfl<|cr (fun wq hq=>aI fG rfl (by have hG:=hG.below hq;have hH:=hH.below hq;have hN:=hN.below hq;have hN2:=hN2.below hq;have aj:=aq.below aj hq;have aF:=aq.below aF hq;exact aF.at (j:=0) rfl)) rfl<|aC (bl rfl) rfl<|aC (cx dJ pd rfl rfl (by omega) (by omega)) rfl<|aC (aJ (AS _) rfl) rfl<|cr (fun wq hq=>aI mD rfl (by have hG:=hG.below hq;have hH:=hH.below hq;have hN:=hN.below hq;have hN2:=hN2.below hq;have aj:=aq.below aj hq;have aF:=aq.below aF hq;exact ip (hbR.trans (hq.mono hbR.size)) (by rw [Int.toNat_natCast];exact hcell2 1 _ rfl))) rfl<|uQ TI rfl rfl (fun wq hq=>by have hG:=hG.below hq;have hH:=hH.below hq;have hN:=hN.below hq;have hN2:=hN2.below hq;have aj:=aq.below aj hq;have aF:=aq.below aF hq;exact NO A1 c1 (g.ns.getD i ct).ls A2 c2 (h.ns.getD i ct).ls _ hN.rl hN2.rl hz1.1 hz2.1) rfl<|aC (cX rfl) rfl<|dZ fun Gy iY=>?_
  have:=iY.size;have hb:=az hb iY;have hG:=bk.below hb;have hH:=kh.below hb;have hbR:=az hbR iY;have hN:=fy.below hbR;have hN2:=oW.below hbR;have aj:=aq.below aj iY;have aF:=aq.below aF iY;refine aw lu<|ax fun _ qo=>ju (by kernel_rfl) (by kernel_rfl)<|aC (aJ (gw _) rfl) rfl<|cr (fun wq hq=>aI fG rfl (by have hG:=hG.below hq;have hH:=hH.below hq;have hN:=hN.below hq;have hN2:=hN2.below hq;have aj:=aq.below aj hq;have aF:=aq.below aF hq;exact aj.at (j:=0) rfl)) rfl<|aC (bl rfl) rfl<|aC (cx dJ pd rfl rfl (by omega) (by omega)) rfl<|aC (aJ (AT _) rfl) rfl<|cr (fun wq hq=>aI rm rfl (by have hG:=hG.below hq;have hH:=hH.below hq;have hN:=hN.below hq;have hN2:=hN2.below hq;have aj:=aq.below aj hq;have aF:=aq.below aF hq;exact ip (hbR.trans (hq.mono hbR.size)) (by rw [Int.toNat_natCast];exact hcell 2 _ rfl))) rfl<|aC (aJ (gw _) rfl) rfl<|cr (fun wq hq=>aI fG rfl (by have hG:=hG.below hq;have hH:=hH.below hq;have hN:=hN.below hq;have hN2:=hN2.below hq;have aj:=aq.below aj hq;have aF:=aq.below aF hq;exact aF.at (j:=0) rfl)) rfl<|aC (bl rfl) rfl<|aC (cx dJ pd rfl rfl (by omega) (by omega)) rfl<|aC (aJ (AT _) rfl) rfl<|cr (fun wq hq=>aI rm rfl (by have hG:=hG.below hq;have hH:=hH.below hq;have hN:=hN.below hq;have hN2:=hN2.below hq;have aj:=aq.below aj hq;have aF:=aq.below aF hq;exact ip (hbR.trans (hq.mono hbR.size)) (by rw [Int.toNat_natCast];exact hcell2 2 _ rfl))) rfl<|uQ TJ rfl rfl (fun wq hq=>by have hG:=hG.below hq;have hH:=hH.below hq;have hN:=hN.below hq;have hN2:=hN2.below hq;have aj:=aq.below aj hq;have aF:=aq.below aF hq;exact SZ B1 e1 (g.ns.getD i ct).ps B2 e2 (h.ns.getD i ct).ps _ hN.rp hN2.rp hz1.2 hz2.2 hokn hokm) rfl<|aC (cX rfl) rfl<|dZ fun Gz jD=>?_
  have:=jD.size;have hb:=az hb jD;have hG:=bk.below hb;have hH:=kh.below hb;have hbR:=az hbR jD;have hN:=fy.below hbR;have hN2:=oW.below hbR;have aj:=aq.below aj jD;have aF:=aq.below aF jD;refine aw qo<|ax fun _ qq=>b9 (X:=Bool) (fun q=> [(2,.pointer (some ⟨aX,0,none⟩)),(3,.pointer (some ⟨cQ,0,none⟩)),(5,.int .i64 (i:Int)),(82,.bool q)]) (fun q wm=>q=(!ov g h i)∧Below w.heap.size w wm∧aq wm aX 27 [.slice (some p_) g.ns.length c,.slice B g.es.length e]∧aq wm cQ 27 [.slice (some lC) h.ns.length c',.slice B' h.es.length e']) (fun _ Le=>?_) ?_
  ·
   refine ju (by kernel_rfl) (by kernel_rfl)<|aC (bl rfl) rfl<|aC (fI rfl) rfl<|aC (bl rfl) rfl<|G6 rfl rfl rfl (fun p6=>?_) (fun p6=>?_)
   ·
    have qX:=p6;simp only [DZ] at p6;refine aL rfl rfl qX rfl rfl<|aC (bi rfl qX rfl) rfl<|aC (bl rfl) rfl<|aL rfl rfl rfl rfl rfl<|aL rfl rfl rfl rfl rfl<|aL rfl rfl rfl rfl rfl<|aL rfl rfl rfl rfl rfl<|aL rfl rfl rfl rfl rfl<|aL rfl rfl rfl rfl rfl<|aL rfl rfl rfl rfl rfl<|aL rfl rfl rfl rfl rfl<|aL rfl rfl rfl rfl rfl<|aL rfl rfl rfl rfl rfl<|aL rfl rfl rfl rfl rfl<|aL rfl rfl rfl rfl rfl<|aL rfl rfl rfl rfl rfl<|aC (bi rfl rfl rfl) rfl<|dZ fun Uj k6=>?_
    have QS:=k6.size;have hb:=az hb k6;have hG:=bk.below hb;have hH:=kh.below hb;have hbR:=az hbR k6;have hN:=fy.below hbR;have hN2:=oW.below hbR;have aj:=aq.below aj k6;have aF:=aq.below aF k6;refine aY Le (!ov g h i) (by repeat first|exact aB|refine au rfl (by first|rfl|exact aP (by unfold ov ou;clear hcell hcell2 hG hH hall hb aj aF;simp_all [px])) ?_) ?_;exact ⟨rfl,hb,aj,aF⟩
   have qX:=p6;simp only [DZ] at p6;refine aC (bl rfl) rfl<|bB rfl rfl qX<|aC (fI rfl) rfl<|aC (bg rfl qX rfl) rfl<|aC (bl rfl) rfl<|G6 rfl rfl rfl (fun BY=>?_) (fun BY=>?_)
   ·
    have gm:=BY;simp only [DZ] at BY;refine aL rfl rfl gm rfl rfl<|aL rfl rfl gm rfl rfl<|aL rfl rfl gm rfl rfl<|aL rfl rfl gm rfl rfl<|aL rfl rfl gm rfl rfl<|aL rfl rfl gm rfl rfl<|aL rfl rfl gm rfl rfl<|aL rfl rfl gm rfl rfl<|aL rfl rfl gm rfl rfl<|aL rfl rfl gm rfl rfl<|aL rfl rfl gm rfl rfl<|aL rfl rfl gm rfl rfl<|aC (bi rfl gm rfl) rfl<|dZ fun Uj k6=>?_
    have QS:=k6.size;have hb:=az hb k6;have hG:=bk.below hb;have hH:=kh.below hb;have hbR:=az hbR k6;have hN:=fy.below hbR;have hN2:=oW.below hbR;have aj:=aq.below aj k6;have aF:=aq.below aF k6;refine aY Le (!ov g h i) (by repeat first|exact aB|refine au rfl (by first|rfl|exact aP (by unfold ov ou;clear hcell hcell2 hG hH hall hb aj aF;simp_all [px])) ?_) ?_;exact ⟨rfl,hb,aj,aF⟩
   have gm:=BY;simp only [DZ] at BY;refine aC (aJ (gw _) rfl) rfl<|bB rfl rfl gm<|cr (fun wq hq=>aI fG rfl (by have hG:=hG.below hq;have hH:=hH.below hq;have hN:=hN.below hq;have hN2:=hN2.below hq;have aj:=aq.below aj hq;have aF:=aq.below aF hq;exact aj.at (j:=0) rfl)) rfl<|bB rfl rfl gm<|aC (bl rfl) rfl<|bB rfl rfl gm<|aC (cx dJ pd rfl rfl (by omega) (by omega)) rfl<|bB rfl rfl gm<|aC (aJ (r6 _) rfl) rfl<|bB rfl rfl gm<|cr (fun wq hq=>aI bQ rfl (by have hG:=hG.below hq;have hH:=hH.below hq;have hN:=hN.below hq;have hN2:=hN2.below hq;have aj:=aq.below aj hq;have aF:=aq.below aF hq;exact ip (hbR.trans (hq.mono hbR.size)) (by rw [Int.toNat_natCast];exact hcell 0 _ rfl))) rfl<|bB rfl rfl gm<|aC (aJ (gw _) rfl) rfl<|bB rfl rfl gm<|cr (fun wq hq=>aI fG rfl (by have hG:=hG.below hq;have hH:=hH.below hq;have hN:=hN.below hq;have hN2:=hN2.below hq;have aj:=aq.below aj hq;have aF:=aq.below aF hq;exact aF.at (j:=0) rfl)) rfl<|bB rfl rfl gm<|aC (bl rfl) rfl<|bB rfl rfl gm<|aC (cx dJ pd rfl rfl (by omega) (by omega)) rfl<|bB rfl rfl gm<|aC (aJ (r6 _) rfl) rfl<|bB rfl rfl gm<|cr (fun wq hq=>aI bQ rfl (by have hG:=hG.below hq;have hH:=hH.below hq;have hN:=hN.below hq;have hN2:=hN2.below hq;have aj:=aq.below aj hq;have aF:=aq.below aF hq;exact ip (hbR.trans (hq.mono hbR.size)) (by rw [Int.toNat_natCast];exact hcell2 0 _ rfl))) rfl<|bB rfl rfl gm<|aC (qO rfl rfl) rfl<|aC (bg rfl gm rfl) rfl<|dZ fun Uj k6=>?_
   have QS:=k6.size;have hb:=az hb k6;have hG:=bk.below hb;have hH:=kh.below hb;have hbR:=az hbR k6;have hN:=fy.below hbR;have hN2:=oW.below hbR;have aj:=aq.below aj k6;have aF:=aq.below aF k6;refine aY Le (!ov g h i) (by repeat first|exact aB|refine au rfl (by first|rfl|exact aP (by unfold ov ou;clear hcell hcell2 hG hH hall hb aj aF;simp_all [px])) ?_) ?_;exact ⟨rfl,hb,aj,aF⟩
  rintro q wm Jh;replace Jh:q=(!ov g h i)∧Below w.heap.size w wm∧aq wm aX 27 [.slice (some p_) g.ns.length c,.slice B g.es.length e]∧aq wm cQ 27 [.slice (some lC) h.ns.length c',.slice B' h.es.length e']:=Jh;obtain ⟨hq,hb,aj,aF⟩:=Jh;show Wq _ _ _ _ [(2,.pointer (some ⟨aX,0,none⟩)),(3,.pointer (some ⟨cQ,0,none⟩)),(5,.int .i64 (i:Int)),(82,.bool q)] _;have hG:=bk.below hb;have hH:=kh.below hb;have:=hb.size;have:=aj.lt;have:=aF.lt;refine aw qq<|aH rfl (fun HP=>?_) (fun HP=>?_)
  ·
   have HQ:=HP;refine ao fun Ca=>am rfl<|an Ca<|aK<|bE (aQ (aQ (bE (aQ ?_))))
   refine bj rfl rfl ?_;exact ⟨_,rfl,aP (by unfold xY;rw [zW hil (by have h:=HQ;rw [hq] at h;simpa using h)];simp),hb⟩
  have HQ:=HP;refine aU<|bS<|aw f5<|aR<|ai rfl<|ah (bH rfl rfl (by omega) (by omega)) rfl<|am rfl<|ay<|fun a_ bn=>abV _ _ (i+1) (by omega) (by repeat first|exact aB|refine au rfl (by first|rfl|exact int_eq (by omega)) ?_) ?_ a_ bn
  exact ⟨by omega,fun j hj=>(by by_cases e:j=i;(· rw [e];have h:=HQ;rw [hq] at h;simpa using h);(· exact hall j (by omega))),hb,aj,aF⟩
 have Am:=io
 simp only [DZ] at io
 have hie:i=g.ns.length:=by have:=io;omega
 have hna:fU g.ns.length (ov g h)=true:=tz (fun j hj=>hall j (by omega))
 refine cN<|bD<|bD<|cO<|aw nW<|ax fun _ Cd=>ao fun Ce=>am rfl<|an Ce<|br<|cU (X:=Nat) (fun i=> [(2,.pointer (some ⟨aX,0,none⟩)),(3,.pointer (some ⟨cQ,0,none⟩)),(8,.int .i64 (i:Int))]) (fun i wr=>i≤g.es.length∧(∀j,j<i→j4 g h j=true)∧Below w.heap.size w wr∧aq wr aX 27 [.slice A g.ns.length c,.slice B g.es.length e]∧aq wr cQ 27 [.slice A' h.ns.length c',.slice B' h.es.length e']) (fun i=>g.es.length - i) (0) ?_ ?_ ?_
 · exact by repeat first|exact aB|refine au rfl (by first|rfl|exact int_eq (by omega)) ?_
 · exact ⟨by omega,fun _ h=>by omega,hb,aj,aF⟩
 rintro i wr wM _ abH
 replace wM:i≤g.es.length∧(∀j,j<i→j4 g h j=true)∧Below w.heap.size w wr∧aq wr aX 27 [.slice A g.ns.length c,.slice B g.es.length e]∧aq wr cQ 27 [.slice A' h.ns.length c',.slice B' h.es.length e']:=wM
 obtain ⟨hi,hall,hb,aj,aF⟩:=wM
 show Wc _ _ _ _ _ [(2,.pointer (some ⟨aX,0,none⟩)),(3,.pointer (some ⟨cQ,0,none⟩)),(8,.int .i64 (i:Int))] _
 have hG:=bk.below hb
 have hH:=kh.below hb
 have:=hb.size
 have:=aj.lt
 have:=aF.lt
 refine ax fun _ nU=>ao fun xk=>ai rfl<|ah (aJ (jy _) rfl) rfl<|aW (aI gL rfl (by exact aj.at (j:=1) rfl)) rfl<|ah (cG d4 (by omega) rfl) rfl<|ah (cg rfl rfl) rfl<|an xk<|aH rfl (fun vw=>?_) (fun vw=>?_)
 ·
  have X6:=vw;simp only [DZ] at vw;have hil:i<g.es.length:=by have:=vw;omega
  have hil':i<h.es.length:=by omega
  obtain ⟨p_,rZ,hpe,hcl,hcell,hQ⟩:=hG.re i hil;obtain ⟨A1,c1,B1,e1,rfl,hN⟩:=hQ;obtain ⟨lC,Zc,hpe2,hcl2,hcell2,hQ2⟩:=hH.re i hil';obtain ⟨A2,c2,B2,e2,rfl,hN2⟩:=hQ2;have hz1:=Ti (Nat.le_trans (F5 hil) hsz);have hz2:=Ti (Nat.le_trans (F5 hil') hsz');have hokn:=uy (f:=fun d:ED=>d.ps) hG.oke bU hil;have hokm:=uy (f:=fun d:ED=>d.ps) hH.oke bU hil';subst hpe;subst hpe2;refine aU<|aw nU<|ax fun _ qk=>br<|ax fun _ Cf=>?_
  have hbR:=Below.refl wr.heap.size wr;have fy:=hN;have oW:=hN2;refine aR<|ah (aJ (jy _) rfl) rfl<|aW (aI gL rfl (by exact aj.at (j:=1) rfl)) rfl<|ai rfl<|ah (cx d4 x7 rfl rfl (by omega) (by omega)) rfl<|aW (dM mI (by kernel_rfl) rfl (by exact oH hcell)) rfl<|el (z:=mA) (by kernel_rfl) rfl ?_
  rintro aip ajv aiC iz C7;have:=C7.size;have hb:=az hb C7;have hG:=bk.below hb;have hH:=kh.below hb;have hbR:=az hbR C7;have hN:=fy.below hbR;have hN2:=oW.below hbR;have aj:=aq.below aj C7;have aF:=aq.below aF C7;have:=iz.lt;refine cH (by kernel_rfl) rfl rfl iz rfl rfl ?_;rintro d3 iz bI;have:=bI.size;have hb:=bY hb bI hb.size (by omega);have hG:=bk.below hb;have hH:=kh.below hb;have hbR:=bY hbR bI hbR.size (by omega);have hN:=fy.below hbR;have hN2:=oW.below hbR;have aj:=aj.over bI (by omega);have aF:=aF.over bI (by omega);refine an Cf<|ao fun Kv=>ah (aJ (jy _) rfl) rfl<|aW (aI gL rfl (by exact aF.at (j:=1) rfl)) rfl<|ai rfl<|ah (cx d4 x7 rfl rfl (by omega) (by omega)) rfl<|aW (dM mI (by kernel_rfl) rfl (by exact fun j u hu=>ip hbR (oH hcell2 j u hu))) rfl<|el (z:=mA) (by kernel_rfl) rfl ?_
  rintro aiq ajw aiD jU y9;have:=y9.size;have hb:=az hb y9;have hG:=bk.below hb;have hH:=kh.below hb;have hbR:=az hbR y9;have hN:=fy.below hbR;have hN2:=oW.below hbR;have aj:=aq.below aj y9;have aF:=aq.below aF y9;have iz:=aq.below iz y9;have:=jU.lt;refine cH (by kernel_rfl) rfl rfl jU rfl rfl ?_;rintro ky jU cd;have:=cd.size;have hb:=bY hb cd hb.size (by omega);have hG:=bk.below hb;have hH:=kh.below hb;have hbR:=bY hbR cd hbR.size (by omega);have hN:=fy.below hbR;have hN2:=oW.below hbR;have aj:=aj.over cd (by omega);have aF:=aF.over cd (by omega);have iz:=iz.over cd (by omega);refine an Kv<|ao fun Ck=>ah (aJ (AW _) rfl) rfl<|aW (aI mD rfl (by exact iz.at (j:=4) rfl)) rfl<|ah (aJ (AW _) rfl) rfl<|aW (aI mD rfl (by exact jU.at (j:=4) rfl)) rfl<|aS TI rfl rfl (NO A1 c1 (g.es.getD i bU).ls A2 c2 (h.es.getD i bU).ls _ hN.rl hN2.rl hz1.1 hz2.1) rfl ?_
  rintro _ gu ⟨rfl,bG⟩;have:=bG.size;have hb:=az hb bG;have hG:=bk.below hb;have hH:=kh.below hb;have hbR:=az hbR bG;have hN:=fy.below hbR;have hN2:=oW.below hbR;have aj:=aq.below aj bG;have aF:=aq.below aF bG;have iz:=aq.below iz bG;have jU:=aq.below jU bG;refine am rfl<|an Ck<|ao fun aat=>ah (aJ (AX _) rfl) rfl<|aW (aI rm rfl (by exact iz.at (j:=5) rfl)) rfl<|ah (aJ (AX _) rfl) rfl<|aW (aI rm rfl (by exact jU.at (j:=5) rfl)) rfl<|aS TJ rfl rfl (SZ B1 e1 (g.es.getD i bU).ps B2 e2 (h.es.getD i bU).ps _ hN.rp hN2.rp hz1.2 hz2.2 hokn hokm) rfl ?_
  rintro _ hZ ⟨rfl,ck⟩;have:=ck.size;have hb:=az hb ck;have hG:=bk.below hb;have hH:=kh.below hb;have hbR:=az hbR ck;have hN:=fy.below hbR;have hN2:=oW.below hbR;have aj:=aq.below aj ck;have aF:=aq.below aF ck;have iz:=aq.below iz ck;have jU:=aq.below jU ck;refine am rfl<|an aat<|ax fun _ aaw=>b9 (X:=Bool) (fun q=> [(2,.pointer (some ⟨aX,0,none⟩)),(3,.pointer (some ⟨cQ,0,none⟩)),(8,.int .i64 (i:Int)),(143,.bool q)]) (fun q wm=>q=(!j4 g h i)∧Below w.heap.size w wm∧aq wm aX 27 [.slice A g.ns.length c,.slice (some p_) g.es.length e]∧aq wm cQ 27 [.slice A' h.ns.length c',.slice (some lC) h.es.length e']) (fun _ yW=>?_) ?_
  ·
   refine aR<|ai rfl<|ah (fI rfl) rfl<|ai rfl<|dP rfl rfl rfl (fun Bi=>?_) (fun Bi=>?_)
   ·
    have Bj:=Bi;simp only [DZ] at Bi;refine aA rfl rfl Bj rfl rfl<|ah (bi rfl Bj rfl) rfl<|ai rfl<|aA rfl rfl rfl rfl rfl<|aA rfl rfl rfl rfl rfl<|aA rfl rfl rfl rfl rfl<|aA rfl rfl rfl rfl rfl<|aA rfl rfl rfl rfl rfl<|ah (bi rfl rfl rfl) rfl<|ai rfl<|aA rfl rfl rfl rfl rfl<|aA rfl rfl rfl rfl rfl<|aA rfl rfl rfl rfl rfl<|aA rfl rfl rfl rfl rfl<|aA rfl rfl rfl rfl rfl<|ah (bi rfl rfl rfl) rfl<|ai rfl<|aA rfl rfl rfl rfl rfl<|aA rfl rfl rfl rfl rfl<|aA rfl rfl rfl rfl rfl<|aA rfl rfl rfl rfl rfl<|aA rfl rfl rfl rfl rfl<|ah (bi rfl rfl rfl) rfl<|ai rfl<|aA rfl rfl rfl rfl rfl<|aA rfl rfl rfl rfl rfl<|aA rfl rfl rfl rfl rfl<|aA rfl rfl rfl rfl rfl<|aA rfl rfl rfl rfl rfl<|ah (bi rfl rfl rfl) rfl<|ay<|aY yW (!j4 g h i) (by repeat first|exact aB|refine au rfl (by first|rfl|exact aP (by unfold j4 uD ou;clear hcell hcell2 hG hH hN hN2 hall hbR hb aj aF iz jU;simp_all [px,yt,yr])) ?_) ?_
    exact ⟨rfl,hb,aj,aF⟩
   have Bj:=Bi;simp only [DZ] at Bi;refine ai rfl<|aE rfl rfl Bj<|ah (fI rfl) rfl<|ah (bg rfl Bj rfl) rfl<|ai rfl<|dP rfl rfl rfl (fun Bm=>?_) (fun Bm=>?_)
   ·
    have pN:=Bm;simp only [DZ] at Bm;refine aA rfl rfl pN rfl rfl<|aA rfl rfl pN rfl rfl<|aA rfl rfl pN rfl rfl<|aA rfl rfl pN rfl rfl<|ah (bi rfl pN rfl) rfl<|ai rfl<|aA rfl rfl rfl rfl rfl<|aA rfl rfl rfl rfl rfl<|aA rfl rfl rfl rfl rfl<|aA rfl rfl rfl rfl rfl<|aA rfl rfl rfl rfl rfl<|ah (bi rfl rfl rfl) rfl<|ai rfl<|aA rfl rfl rfl rfl rfl<|aA rfl rfl rfl rfl rfl<|aA rfl rfl rfl rfl rfl<|aA rfl rfl rfl rfl rfl<|aA rfl rfl rfl rfl rfl<|ah (bi rfl rfl rfl) rfl<|ai rfl<|aA rfl rfl rfl rfl rfl<|aA rfl rfl rfl rfl rfl<|aA rfl rfl rfl rfl rfl<|aA rfl rfl rfl rfl rfl<|aA rfl rfl rfl rfl rfl<|ah (bi rfl rfl rfl) rfl<|ay<|aY yW (!j4 g h i) (by repeat first|exact aB|refine au rfl (by first|rfl|exact aP (by unfold j4 uD ou;clear hcell hcell2 hG hH hN hN2 hall hbR hb aj aF iz jU;simp_all [px,yt,yr])) ?_) ?_
    exact ⟨rfl,hb,aj,aF⟩
   have pN:=Bm;simp only [DZ] at Bm;refine ah (aJ (wj _) rfl) rfl<|aE rfl rfl pN<|aW (aI bQ rfl (by exact iz.at (j:=0) rfl)) rfl<|aE rfl rfl pN<|ah (aJ (wj _) rfl) rfl<|aE rfl rfl pN<|aW (aI bQ rfl (by exact jU.at (j:=0) rfl)) rfl<|aE rfl rfl pN<|ah (qO rfl rfl) rfl<|ah (bg rfl pN rfl) rfl<|ai rfl<|dP rfl rfl rfl (fun pP=>?_) (fun pP=>?_)
   ·
    have kM:=pP;simp only [DZ] at pP;refine aA rfl rfl kM rfl rfl<|aA rfl rfl kM rfl rfl<|aA rfl rfl kM rfl rfl<|aA rfl rfl kM rfl rfl<|ah (bi rfl kM rfl) rfl<|ai rfl<|aA rfl rfl rfl rfl rfl<|aA rfl rfl rfl rfl rfl<|aA rfl rfl rfl rfl rfl<|aA rfl rfl rfl rfl rfl<|aA rfl rfl rfl rfl rfl<|ah (bi rfl rfl rfl) rfl<|ai rfl<|aA rfl rfl rfl rfl rfl<|aA rfl rfl rfl rfl rfl<|aA rfl rfl rfl rfl rfl<|aA rfl rfl rfl rfl rfl<|aA rfl rfl rfl rfl rfl<|ah (bi rfl rfl rfl) rfl<|ay<|aY yW (!j4 g h i) (by repeat first|exact aB|refine au rfl (by first|rfl|exact aP (by unfold j4 uD ou;clear hcell hcell2 hG hH hN hN2 hall hbR hb aj aF iz jU;simp_all [px,yt,yr])) ?_) ?_
    exact ⟨rfl,hb,aj,aF⟩
   have kM:=pP;simp only [DZ] at pP;refine ah (aJ (AU _) rfl) rfl<|aE rfl rfl kM<|aW (aI f8 rfl (by exact iz.at (j:=1) rfl)) rfl<|aE rfl rfl kM<|ah (aJ (AU _) rfl) rfl<|aE rfl rfl kM<|aW (aI f8 rfl (by exact jU.at (j:=1) rfl)) rfl<|aE rfl rfl kM<|ah (ig rfl rfl) rfl<|ah (bg rfl kM rfl) rfl<|ai rfl<|dP rfl rfl rfl (fun Bq=>?_) (fun Bq=>?_)
   ·
    have pR:=Bq;simp only [DZ] at Bq;refine aA rfl rfl pR rfl rfl<|aA rfl rfl pR rfl rfl<|aA rfl rfl pR rfl rfl<|aA rfl rfl pR rfl rfl<|ah (bi rfl pR rfl) rfl<|ai rfl<|aA rfl rfl rfl rfl rfl<|aA rfl rfl rfl rfl rfl<|aA rfl rfl rfl rfl rfl<|aA rfl rfl rfl rfl rfl<|aA rfl rfl rfl rfl rfl<|ah (bi rfl rfl rfl) rfl<|ay<|aY yW (!j4 g h i) (by repeat first|exact aB|refine au rfl (by first|rfl|exact aP (by unfold j4 uD ou;clear hcell hcell2 hG hH hN hN2 hall hbR hb aj aF iz jU;simp_all [px,yt,yr])) ?_) ?_
    exact ⟨rfl,hb,aj,aF⟩
   have pR:=Bq;simp only [DZ] at Bq;refine ah (aJ (AV _) rfl) rfl<|aE rfl rfl pR<|aW (aI f8 rfl (by exact iz.at (j:=2) rfl)) rfl<|aE rfl rfl pR<|ah (aJ (AV _) rfl) rfl<|aE rfl rfl pR<|aW (aI f8 rfl (by exact jU.at (j:=2) rfl)) rfl<|aE rfl rfl pR<|ah (ig rfl rfl) rfl<|ah (bg rfl pR rfl) rfl<|ai rfl<|dP rfl rfl rfl (fun Bu=>?_) (fun Bu=>?_)
   ·
    have pT:=Bu;simp only [DZ] at Bu;refine aA rfl rfl pT rfl rfl<|aA rfl rfl pT rfl rfl<|aA rfl rfl pT rfl rfl<|aA rfl rfl pT rfl rfl<|ah (bi rfl pT rfl) rfl<|ay<|aY yW (!j4 g h i) (by repeat first|exact aB|refine au rfl (by first|rfl|exact aP (by unfold j4 uD ou;clear hcell hcell2 hG hH hN hN2 hall hbR hb aj aF iz jU;simp_all [px,yt,yr])) ?_) ?_
    exact ⟨rfl,hb,aj,aF⟩
   have pT:=Bu;simp only [DZ] at Bu;refine ah (aJ (IV _) rfl) rfl<|aE rfl rfl pT<|aW (aI L6 rfl (by exact iz.at (j:=3) rfl)) rfl<|aE rfl rfl pT<|ah (aJ (IV _) rfl) rfl<|aE rfl rfl pT<|aW (aI L6 rfl (by exact jU.at (j:=3) rfl)) rfl<|aE rfl rfl pT<|ah (ah6 DU rfl rfl) rfl<|ah (bg rfl pT rfl) rfl<|ay<|aY yW (!j4 g h i) (by repeat first|exact aB|refine au rfl (by first|rfl|exact aP (by unfold j4 uD ou;clear hcell hcell2 hG hH hN hN2 hall hbR hb aj aF iz jU;simp_all [px,yt,yr])) ?_) ?_
   exact ⟨rfl,hb,aj,aF⟩
  rintro q wm JP;replace JP:q=(!j4 g h i)∧Below w.heap.size w wm∧aq wm aX 27 [.slice A g.ns.length c,.slice (some p_) g.es.length e]∧aq wm cQ 27 [.slice A' h.ns.length c',.slice (some lC) h.es.length e']:=JP;obtain ⟨hq,hb,aj,aF⟩:=JP;show Wq _ _ _ _ [(2,.pointer (some ⟨aX,0,none⟩)),(3,.pointer (some ⟨cQ,0,none⟩)),(8,.int .i64 (i:Int)),(143,.bool q)] _;have hG:=bk.below hb;have hH:=kh.below hb;have:=hb.size;have:=aj.lt;have:=aF.lt;refine aw aaw<|aH rfl (fun Ie=>?_) (fun Ie=>?_)
  ·
   have If:=Ie;refine ao fun aaT=>am rfl<|an aaT<|aK<|bE (aQ (aQ (bE (aQ ?_))))
   refine bj rfl rfl ?_;exact ⟨_,rfl,aP (by unfold xY;rw [zW hil (by have h:=If;rw [hq] at h;simpa using h)];simp),hb⟩
  have If:=Ie;refine aU<|bS<|aw qk<|aR<|ai rfl<|ah (bH rfl rfl (by omega) (by omega)) rfl<|am rfl<|ay<|fun a_ bn=>abH _ _ (i+1) (by omega) (by repeat first|exact aB|refine au rfl (by first|rfl|exact int_eq (by omega)) ?_) ?_ a_ bn
  exact ⟨by omega,fun j hj=>(by by_cases e:j=i;(· rw [e];have h:=If;rw [hq] at h;simpa using h);(· exact hall j (by omega))),hb,aj,aF⟩
 have X6:=vw
 simp only [DZ] at vw
 refine cN<|bD<|bD<|cO<|aw Cd<|ao fun KS=>am rfl<|an KS<|aK<|bj rfl rfl ?_
 exact ⟨_,rfl,aP (by unfold xY;rw [hyes,hna,tz (fun j hj=>hall j (by have:=vw;omega))];rfl),hb⟩
end Go.Proofs.YtjmlknjbhbfneaaGreatDoor
