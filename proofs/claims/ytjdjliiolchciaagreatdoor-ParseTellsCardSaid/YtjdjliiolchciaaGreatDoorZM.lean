import Derived.Test.YtjdjliiolchciaaGreatDoorZL
import Derived.Test.YtjdjliiolchciaaGreatDoorZQ
namespace Go.Proofs.YtjdjliiolchciaaGreatDoor
open Go.RowKit Go.Bw Go.Bw.Fl
set_option linter.unusedVariables false
set_option linter.unusedSimpArgs false
theorem D4 (A:Option Addr) (c:Nat) (l:List (ao)) (x:ao) (hl:l.length≤281474976710656) (w:World) (hR:Rd w 1 A l.length (b9 l)):bx Tryz.prog 53 [.slice A l.length c,str x] w fun v w'=>v= .bool (decide (x∈l))∧Below w.heap.size w w':=by
 have hb:=Below.refl w.heap.size w;have dX:=hR;refine enter Tryz.func53 rfl rfl rfl<|am fun aR=>an rfl<|al aR<|av fun _ bt=>am fun b8=>an rfl<|al b8<|b4<|d9 (X:=Nat) (fun i=> [(0,.slice A l.length c),(1,str x),(5,.int .i64 (i:Int))]) (fun i wr=>i≤l.length∧(∀j,j<i→l.getD j []≠x)∧Below w.heap.size w wr) (fun i=>l.length - i) (0) ?_ ?_ ?_
 · exact by repeat first|exact aC|refine aA rfl (by first|rfl|exact aH (by omega)) ?_
 · exact ⟨by omega,fun j h=>by omega,hb⟩
 rintro i wr xv _ KY;replace xv:i≤l.length∧(∀j,j<i→l.getD j []≠x)∧Below w.heap.size w wr:=xv;obtain ⟨hi,hall,hb⟩:=xv;show Wc _ _ _ _ _ [(0,.slice A l.length c),(1,str x),(5,.int .i64 (i:Int))] _;have hR:=dX.below hb;have:=hb.size;refine av fun _ eX=>am fun dW=>ai rfl<|ai rfl<|ae (iC dl (by omega) rfl) rfl<|ae (dL rfl rfl) rfl<|al dW<|aO rfl (fun iF=>?_) (fun iF=>?_)
 ·
  have sQ:=iF;simp only [DZ] at iF;have hil:i<l.length:=by have:=iF;omega
  obtain ⟨p_,v_,hpe,hve,hcell⟩:=hR.one (i:=i) hil;subst hpe;obtain rfl:=Do hil hve;refine aU<|ax eX<|av fun _ eL=>b4<|am fun gH=>ai rfl<|ai rfl<|ae (f8 dl pL rfl rfl (by omega) (by omega)) rfl<|aG (aS di rfl (by exact vv hcell)) rfl<|ai rfl<|ae (fl rfl rfl) rfl<|al gH<|aO rfl (fun gD=>?_) (fun gD=>?_)
  ·
   have uh:=gD;simp only [DZ] at gD;have heq:l.getD i []=x:=gD;refine am fun fT=>an rfl<|al fT<|aJ<|co (aX (aX (co (aX ?_))))
   refine bN rfl rfl ?_;exact ⟨_,rfl,a8 (by rw [eq_comm,decide_eq_true_eq,←heq];simp [List.getD,List.getElem?_eq_getElem hil]),hb⟩
  have uh:=gD;simp only [DZ] at gD;have hne:l.getD i []≠x:=gD;refine aU<|cD<|ax eL<|aQ<|ai rfl<|ae (ct rfl rfl (by omega) (by omega)) rfl<|an rfl<|ay<|fun a_ bM=>KY _ _ (i+1) (by omega) (by repeat first|exact aC|refine aA rfl (by first|rfl|exact aH (by omega)) ?_) ?_ a_ bM
  exact ⟨by omega,fun j hj=>by (by_cases e:j=i);(· rw [e];exact hne);(· exact hall j (by omega)),hb⟩
 have sQ:=iF;simp only [DZ] at iF;refine d2<|cj<|cj<|d3<|ax bt<|am fun fD=>an rfl<|al fD<|aJ<|bN rfl rfl ?_
 exact ⟨_,rfl,a8 (by
 rw [eq_comm,decide_eq_false_iff_not]
 intro h
 obtain ⟨j,hj,e⟩:=List.mem_iff_getElem.1 h
 exact absurd (by simp [List.getD,List.getElem?_eq_getElem hj,e]) (hall j (by have:=iF;omega))),hb⟩
theorem jI (c:UInt8):dx c=decide (c.toNat=95∨(48≤c.toNat∧c.toNat≤57)∨(65≤c.toNat∧c.toNat≤90)∨(97≤c.toNat∧c.toNat≤122)):=by
 have key:∀n:Fin 256,dx (UInt8.ofNat n.val)=decide (n.val=95∨(48≤n.val∧n.val≤57)∨(65≤n.val∧n.val≤90)∨(97≤n.val∧n.val≤122)):=by decide +kernel
 have h2:=key ⟨c.toNat,UInt8.toNat_lt c⟩;rw [show UInt8.ofNat c.toNat=c from UInt8.ofNat_toNat] at h2;exact h2
theorem Vr (c:UInt8) (w:World):bx Tryz.prog 52 [.int .u8 (c.toNat:Int)] w fun v w'=>v= .bool (dx c)∧Below w.heap.size w w':=by
 have hcl:=UInt8.toNat_lt c;have hb:=Below.refl w.heap.size w;refine enter Tryz.func52 rfl rfl rfl<|am fun aR=>an rfl<|al aR<|av fun _ bt=>cR (X:=Bool) (fun q=> [(2,.bool q)]) (fun q wr=>q=dx c∧Below w.heap.size w wr) (fun _ qd=>?_) ?_
 ·
  refine aQ<|ai rfl<|ae (bX rfl rfl) rfl<|ai rfl<|dy rfl rfl rfl (fun BH=>?_) (fun BH=>?_)
  ·
   have q9:=BH;simp only [DZ] at BH;refine az rfl rfl q9 rfl rfl<|az rfl rfl q9 rfl rfl<|bY rfl rfl rfl<|bY rfl rfl rfl<|az rfl rfl q9 rfl rfl<|ae (bo rfl q9 rfl) rfl<|ai rfl<|az rfl rfl rfl rfl rfl<|az rfl rfl rfl rfl rfl<|az rfl rfl rfl rfl rfl<|bY rfl rfl rfl<|bY rfl rfl rfl<|az rfl rfl rfl rfl rfl<|ae (bo rfl rfl rfl) rfl<|ai rfl<|az rfl rfl rfl rfl rfl<|az rfl rfl rfl rfl rfl<|az rfl rfl rfl rfl rfl<|bY rfl rfl rfl<|bY rfl rfl rfl<|az rfl rfl rfl rfl rfl<|ae (bo rfl rfl rfl) rfl<|an rfl<|ay<|a7 qd (dx c) (aA rfl (by exact a8 (by rw [jI,Bool.eq_iff_iff];simp<;>omega)) (aC)) ?_
   exact ⟨rfl,hb⟩
  have q9:=BH;simp only [DZ] at BH;refine ai rfl<|ap rfl rfl q9<|ae (f7 rfl rfl) rfl<|ap rfl rfl q9<|ai rfl<|cG rfl rfl rfl (fun eS=>?_) (fun eS=>?_)
  ·
   have gq:=eS;simp only [DZ] at eS;refine ai rfl<|ap rfl rfl gq<|ae (iu rfl rfl) rfl<|ap rfl rfl q9<|ae (bo rfl gq rfl) rfl<|ae (bj rfl q9 rfl) rfl<|ai rfl<|dy rfl rfl rfl (fun jp=>?_) (fun jp=>?_)
   ·
    have jq:=jp;simp only [DZ] at jp;refine az rfl rfl jq rfl rfl<|az rfl rfl jq rfl rfl<|bY rfl rfl rfl<|bY rfl rfl rfl<|az rfl rfl jq rfl rfl<|ae (bo rfl jq rfl) rfl<|ai rfl<|az rfl rfl rfl rfl rfl<|az rfl rfl rfl rfl rfl<|az rfl rfl rfl rfl rfl<|bY rfl rfl rfl<|bY rfl rfl rfl<|az rfl rfl rfl rfl rfl<|ae (bo rfl rfl rfl) rfl<|an rfl<|ay<|a7 qd (dx c) (aA rfl (by exact a8 (by rw [jI,Bool.eq_iff_iff];simp<;>omega)) (aC)) ?_
    exact ⟨rfl,hb⟩
   have jq:=jp;simp only [DZ] at jp;refine ai rfl<|ap rfl rfl jq<|ae (f7 rfl rfl) rfl<|ap rfl rfl jq<|ai rfl<|cG rfl rfl rfl (fun kZ=>?_) (fun kZ=>?_)
   ·
    have fW:=kZ;simp only [DZ] at kZ;refine ai rfl<|ap rfl rfl fW<|ae (iu rfl rfl) rfl<|ap rfl rfl jq<|ae (bo rfl fW rfl) rfl<|ae (bj rfl jq rfl) rfl<|ai rfl<|dy rfl rfl rfl (fun qV=>?_) (fun qV=>?_)
    ·
     have qW:=qV;simp only [DZ] at qV;refine az rfl rfl qW rfl rfl<|az rfl rfl qW rfl rfl<|bY rfl rfl rfl<|bY rfl rfl rfl<|az rfl rfl qW rfl rfl<|ae (bo rfl qW rfl) rfl<|an rfl<|ay<|a7 qd (dx c) (aA rfl (by exact a8 (by rw [jI,Bool.eq_iff_iff];simp<;>omega)) (aC)) ?_
     exact ⟨rfl,hb⟩
    have qW:=qV;simp only [DZ] at qV;refine ai rfl<|ap rfl rfl qW<|ae (f7 rfl rfl) rfl<|ap rfl rfl qW<|ai rfl<|cG rfl rfl rfl (fun Bx=>?_) (fun Bx=>?_)
    ·
     have By:=Bx;simp only [DZ] at Bx;refine ai rfl<|ap rfl rfl By<|ae (iu rfl rfl) rfl<|ap rfl rfl qW<|ae (bo rfl By rfl) rfl<|ae (bj rfl qW rfl) rfl<|an rfl<|ay<|a7 qd (dx c) (aA rfl (by exact a8 (by rw [jI,Bool.eq_iff_iff];simp<;>omega)) (aC)) ?_
     exact ⟨rfl,hb⟩
    have By:=Bx;simp only [DZ] at Bx;refine az rfl rfl By rfl rfl<|ap rfl rfl qW<|ae (bj rfl By rfl) rfl<|ae (bj rfl qW rfl) rfl<|an rfl<|ay<|a7 qd (dx c) (aA rfl (by exact a8 (by rw [jI,Bool.eq_iff_iff];simp<;>omega)) (aC)) ?_
    exact ⟨rfl,hb⟩
   have fW:=kZ;simp only [DZ] at kZ;refine az rfl rfl fW rfl rfl<|ap rfl rfl jq<|ae (bj rfl fW rfl) rfl<|ae (bj rfl jq rfl) rfl<|ai rfl<|ap rfl rfl rfl<|ai rfl<|ap rfl rfl rfl<|ae (f7 rfl rfl) rfl<|ap rfl rfl rfl<|ai rfl<|cG rfl rfl rfl (fun ke=>?_) (fun ke=>?_)
   ·
    have jV:=ke;simp only [DZ] at ke;refine ai rfl<|ap rfl rfl jV<|ae (iu rfl rfl) rfl<|ap rfl rfl rfl<|ae (bo rfl jV rfl) rfl<|ae (bj rfl rfl rfl) rfl<|an rfl<|ay<|a7 qd (dx c) (aA rfl (by exact a8 (by rw [jI,Bool.eq_iff_iff];simp<;>omega)) (aC)) ?_
    exact ⟨rfl,hb⟩
   have jV:=ke;simp only [DZ] at ke;refine az rfl rfl jV rfl rfl<|ap rfl rfl rfl<|ae (bj rfl jV rfl) rfl<|ae (bj rfl rfl rfl) rfl<|an rfl<|ay<|a7 qd (dx c) (aA rfl (by exact a8 (by rw [jI,Bool.eq_iff_iff];simp<;>omega)) (aC)) ?_
   exact ⟨rfl,hb⟩
  have gq:=eS;simp only [DZ] at eS;refine az rfl rfl gq rfl rfl<|ap rfl rfl q9<|ae (bj rfl gq rfl) rfl<|ae (bj rfl q9 rfl) rfl<|ai rfl<|ap rfl rfl rfl<|ai rfl<|ap rfl rfl rfl<|ae (f7 rfl rfl) rfl<|ap rfl rfl rfl<|ai rfl<|cG rfl rfl rfl (fun js=>?_) (fun js=>?_)
  ·
   have nL:=js;simp only [DZ] at js;refine ai rfl<|ap rfl rfl nL<|ae (iu rfl rfl) rfl<|ap rfl rfl rfl<|ae (bo rfl nL rfl) rfl<|ae (bj rfl rfl rfl) rfl<|ai rfl<|dy rfl rfl rfl (fun BI=>?_) (fun BI=>?_)
   ·
    have q5:=BI;simp only [DZ] at BI;refine az rfl rfl q5 rfl rfl<|az rfl rfl q5 rfl rfl<|bY rfl rfl rfl<|bY rfl rfl rfl<|az rfl rfl q5 rfl rfl<|ae (bo rfl q5 rfl) rfl<|an rfl<|ay<|a7 qd (dx c) (aA rfl (by exact a8 (by rw [jI,Bool.eq_iff_iff];simp<;>omega)) (aC)) ?_
    exact ⟨rfl,hb⟩
   have q5:=BI;simp only [DZ] at BI;refine ai rfl<|ap rfl rfl q5<|ae (f7 rfl rfl) rfl<|ap rfl rfl q5<|ai rfl<|cG rfl rfl rfl (fun q7=>?_) (fun q7=>?_)
   ·
    have lG:=q7;simp only [DZ] at q7;refine ai rfl<|ap rfl rfl lG<|ae (iu rfl rfl) rfl<|ap rfl rfl q5<|ae (bo rfl lG rfl) rfl<|ae (bj rfl q5 rfl) rfl<|an rfl<|ay<|a7 qd (dx c) (aA rfl (by exact a8 (by rw [jI,Bool.eq_iff_iff];simp<;>omega)) (aC)) ?_
    exact ⟨rfl,hb⟩
   have lG:=q7;simp only [DZ] at q7;refine az rfl rfl lG rfl rfl<|ap rfl rfl q5<|ae (bj rfl lG rfl) rfl<|ae (bj rfl q5 rfl) rfl<|an rfl<|ay<|a7 qd (dx c) (aA rfl (by exact a8 (by rw [jI,Bool.eq_iff_iff];simp<;>omega)) (aC)) ?_
   exact ⟨rfl,hb⟩
  have nL:=js;simp only [DZ] at js;refine az rfl rfl nL rfl rfl<|ap rfl rfl rfl<|ae (bj rfl nL rfl) rfl<|ae (bj rfl rfl rfl) rfl<|ai rfl<|ap rfl rfl rfl<|ai rfl<|ap rfl rfl rfl<|ae (f7 rfl rfl) rfl<|ap rfl rfl rfl<|ai rfl<|cG rfl rfl rfl (fun nC=>?_) (fun nC=>?_)
  ·
   have jm:=nC;simp only [DZ] at nC;refine ai rfl<|ap rfl rfl jm<|ae (iu rfl rfl) rfl<|ap rfl rfl rfl<|ae (bo rfl jm rfl) rfl<|ae (bj rfl rfl rfl) rfl<|an rfl<|ay<|a7 qd (dx c) (aA rfl (by exact a8 (by rw [jI,Bool.eq_iff_iff];simp<;>omega)) (aC)) ?_
   exact ⟨rfl,hb⟩
  have jm:=nC;simp only [DZ] at nC;refine az rfl rfl jm rfl rfl<|ap rfl rfl rfl<|ae (bj rfl jm rfl) rfl<|ae (bj rfl rfl rfl) rfl<|an rfl<|ay<|a7 qd (dx c) (aA rfl (by exact a8 (by rw [jI,Bool.eq_iff_iff];simp<;>omega)) (aC)) ?_
  exact ⟨rfl,hb⟩
 rintro q wr xi;replace xi:q=dx c∧Below w.heap.size w wr:=xi;obtain ⟨hq,hb⟩:=xi;show Wq _ _ _ _ [(2,.bool q)] _;have:=hb.size;refine ax bt<|aJ<|bN rfl rfl ?_
 exact ⟨_,rfl,a8 hq,hb⟩
def Af (s:ao):Bool:=jc s&&s.all dx
theorem agT {s:ao} (h:∀c,c∈s→dx c=true):Af s=jc s:=by
 unfold Af;rw [List.all_eq_true.2 h,Bool.and_true]
theorem VA (s:ao) (hs:s.length≤281474976710656) (w:World):bx Tryz.prog 55 [str s] w fun v w'=>v= .bool (Af s)∧Below w.heap.size w w':=by
 have hb:=Below.refl w.heap.size w;refine enter Tryz.func55 rfl rfl rfl<|am fun aR=>an rfl<|al aR<|av fun _ bt=>av fun _ b8=>cR (X:=Bool) (fun q=> [(0,str s),(21,.bool q)]) (fun q wr=>q=(!jc s)∧Below w.heap.size w wr) (fun _ tB=>?_) ?_
 ·
  refine aQ<|ai rfl<|ae (fl rfl rfl) rfl<|ai rfl<|dy rfl rfl rfl (fun nM=>?_) (fun nM=>?_)
  ·
   refine az rfl rfl nM rfl rfl<|az rfl rfl nM rfl rfl<|ae (bo rfl nM rfl) rfl<|ai rfl<|az rfl rfl rfl rfl rfl<|az rfl rfl rfl rfl rfl<|az rfl rfl rfl rfl rfl<|az rfl rfl rfl rfl rfl<|bY rfl rfl rfl<|bY rfl rfl rfl<|bY rfl rfl rfl<|az rfl rfl rfl rfl rfl<|ae (bo rfl rfl rfl) rfl<|ay<|a7 tB (!jc s) (by repeat first|exact aC|refine aA rfl (by first|rfl|exact a8 (by unfold jc;rw [Bool.eq_iff_iff];simp_all<;>omega)) ?_) ?_
   exact ⟨rfl,hb⟩
  have mw:=nM;simp only [DZ] at nM;have hl0:0<s.length:=List.length_pos_iff.2 nM;refine ai rfl<|ap rfl rfl mw<|ae (ez bI (by omega) rfl) rfl<|ap rfl rfl mw<|ae (ed rfl rfl) rfl<|ae (bj rfl mw rfl) rfl<|ai rfl<|dy rfl rfl rfl (fun eS=>?_) (fun eS=>?_)
  ·
   refine az rfl rfl eS rfl rfl<|az rfl rfl eS rfl rfl<|az rfl rfl eS rfl rfl<|bY rfl rfl rfl<|bY rfl rfl rfl<|bY rfl rfl rfl<|az rfl rfl eS rfl rfl<|ae (bo rfl eS rfl) rfl<|ay<|a7 tB (!jc s) (by repeat first|exact aC|refine aA rfl (by first|rfl|exact a8 (by unfold jc;rw [Bool.eq_iff_iff];simp_all<;>omega)) ?_) ?_
   exact ⟨rfl,hb⟩
  refine ai rfl<|ap rfl rfl eS<|ae (bW (fP bI rfl rfl (by omega) (by omega)) ((show Value.int .u8 ((s.getD (0:Int).toNat 0).toNat:Int)= .int .u8 ((s.getD 0 0).toNat:Int) from rfl))) rfl<|ap rfl rfl eS<|ae (f7 rfl rfl) rfl<|ap rfl rfl eS<|ai rfl<|cG rfl rfl rfl (fun jp=>?_) (fun jp=>?_)
  ·
   refine ai rfl<|ap rfl rfl jp<|ae (bW (fP bI rfl rfl (by omega) (by omega)) ((show Value.int .u8 ((s.getD (0:Int).toNat 0).toNat:Int)= .int .u8 ((s.getD 0 0).toNat:Int) from rfl))) rfl<|ap rfl rfl jp<|ae (iu rfl rfl) rfl<|ap rfl rfl eS<|ae (bo rfl jp rfl) rfl<|ae (bj rfl eS rfl) rfl<|ay<|a7 tB (!jc s) (by repeat first|exact aC|refine aA rfl (by first|rfl|exact a8 (by unfold jc;rw [Bool.eq_iff_iff];simp_all<;>omega)) ?_) ?_
   exact ⟨rfl,hb⟩
  refine az rfl rfl jp rfl rfl<|az rfl rfl jp rfl rfl<|ap rfl rfl eS<|ae (bj rfl jp rfl) rfl<|ae (bj rfl eS rfl) rfl<|ay<|a7 tB (!jc s) (by repeat first|exact aC|refine aA rfl (by first|rfl|exact a8 (by unfold jc;rw [Bool.eq_iff_iff];simp_all<;>omega)) ?_) ?_
  exact ⟨rfl,hb⟩
 rintro q wr xq;replace xq:q=(!jc s)∧Below w.heap.size w wr:=xq;obtain ⟨hq,hb⟩:=xq;show Wq _ _ _ _ [(0,str s),(21,.bool q)] _;have:=hb.size;refine ax b8<|aO rfl (fun GB=>?_) (fun GB=>?_)
 ·
  have GC:=GB;have hw:jc s=false:=by have h:=hq.symm.trans GC;simpa using h
  refine am fun im=>an rfl<|al im<|aJ<|aX<|bN rfl rfl ?_
  exact ⟨_,rfl,a8 (by unfold Af;rw [hw];rfl),hb⟩
 have GC:=GB;have hw:jc s=true:=by have h:=hq.symm.trans GC;simpa using h
 refine aU<|ax bt<|av fun _ iW=>am fun kH=>an rfl<|al kH<|b4<|d9 (X:=Nat) (fun i=> [(0,str s),(3,.int .i64 (i:Int))]) (fun i wr=>i≤s.length∧(∀j,j<i→dx (s.getD j 0)=true)∧Below w.heap.size w wr) (fun i=>s.length - i) (0) ?_ ?_ ?_
 · exact by repeat first|exact aC|refine aA rfl (by first|rfl|exact aH (by omega)) ?_
 · exact ⟨by omega,fun j h=>by omega,hb⟩
 rintro i wr J4 _ aav;replace J4:i≤s.length∧(∀j,j<i→dx (s.getD j 0)=true)∧Below w.heap.size w wr:=J4;obtain ⟨hi,hall,hb⟩:=J4;show Wc _ _ _ _ _ [(0,str s),(3,.int .i64 (i:Int))] _;have:=hb.size;refine av fun _ lK=>am fun lL=>ai rfl<|ai rfl<|ae (ez bI (by omega) rfl) rfl<|ae (dL rfl rfl) rfl<|al lL<|aO rfl (fun vL=>?_) (fun vL=>?_)
 ·
  have Xc:=vL;simp only [DZ] at vL;have hil:i<s.length:=by have:=vL;omega
  obtain ⟨c,hc⟩:∃c,c=(s.getD i 0).toNat:=⟨_,rfl⟩;refine aU<|ax lK<|av fun _ gZ=>b4<|am fun kl=>ai rfl<|ai rfl<|ae (bW (fP bI rfl rfl (by omega) (by omega)) (aH (show _=(c:Int) by rw [hc,Int.toNat_natCast]))) rfl<|an rfl<|al kl<|av fun _ mF=>cR (X:=Bool) (fun q=> [(0,str s),(3,.int .i64 (i:Int)),(56,.bool q)]) (fun q wr=>q=(!dx (s.getD i 0))∧Below w.heap.size w wr) (fun _ qe=>?_) ?_
  ·
   refine aQ<|ai rfl<|ae (fG rfl rfl) rfl<|ai rfl<|cG rfl rfl rfl (fun ke=>?_) (fun ke=>?_)
   ·
    have jV:=ke;simp only [DZ] at ke;refine ai rfl<|ap rfl rfl jV<|ae (dL rfl rfl) rfl<|ap rfl rfl jV<|ai rfl<|dy rfl rfl rfl (fun sa=>?_) (fun sa=>?_)
    ·
     have tc:=sa;simp only [DZ] at sa;refine az rfl rfl tc rfl rfl<|ap rfl rfl jV<|ae (bo rfl tc rfl) rfl<|ae (bo rfl jV rfl) rfl<|ai rfl<|ap rfl rfl rfl<|ai rfl<|ap rfl rfl rfl<|ae (dL rfl rfl) rfl<|ap rfl rfl rfl<|ai rfl<|dy rfl rfl rfl (fun q3=>?_) (fun q3=>?_)
     ·
      have mr:=q3;simp only [DZ] at q3;refine az rfl rfl mr rfl rfl<|ap rfl rfl rfl<|ae (bo rfl mr rfl) rfl<|ae (bo rfl rfl rfl) rfl<|ai rfl<|ap rfl rfl rfl<|ai rfl<|ap rfl rfl rfl<|ae (dL rfl rfl) rfl<|ap rfl rfl rfl<|ai rfl<|dy rfl rfl rfl (fun BD=>?_) (fun BD=>?_)
      ·
       have BE:=BD;simp only [DZ] at BD;refine az rfl rfl BE rfl rfl<|ap rfl rfl rfl<|ae (bo rfl BE rfl) rfl<|ae (bo rfl rfl rfl) rfl<|ay<|a7 qe (!dx (s.getD i 0)) (by repeat first|exact aC|refine aA rfl (by first|rfl|exact a8 (by rw [jI,←hc,Bool.eq_iff_iff];simp<;>omega)) ?_) ?_
       exact ⟨rfl,hb⟩
      have BE:=BD;simp only [DZ] at BD;refine ai rfl<|ap rfl rfl BE<|ae (ed rfl rfl) rfl<|ap rfl rfl rfl<|ae (bj rfl BE rfl) rfl<|ae (bo rfl rfl rfl) rfl<|ay<|a7 qe (!dx (s.getD i 0)) (by repeat first|exact aC|refine aA rfl (by first|rfl|exact a8 (by rw [jI,←hc,Bool.eq_iff_iff];simp<;>omega)) ?_) ?_
      exact ⟨rfl,hb⟩
     have mr:=q3;simp only [DZ] at q3;refine ai rfl<|ap rfl rfl mr<|ae (ed rfl rfl) rfl<|ap rfl rfl rfl<|ae (bj rfl mr rfl) rfl<|ae (bo rfl rfl rfl) rfl<|ai rfl<|cG rfl rfl rfl (fun pg=>?_) (fun pg=>?_)
     ·
      have mu:=pg;simp only [DZ] at pg;refine ai rfl<|ap rfl rfl mu<|ae (dL rfl rfl) rfl<|ap rfl rfl mu<|ai rfl<|dy rfl rfl rfl (fun tg=>?_) (fun tg=>?_)
      ·
       have BO:=tg;simp only [DZ] at tg;refine az rfl rfl BO rfl rfl<|ap rfl rfl mu<|ae (bo rfl BO rfl) rfl<|ae (bo rfl mu rfl) rfl<|ay<|a7 qe (!dx (s.getD i 0)) (by repeat first|exact aC|refine aA rfl (by first|rfl|exact a8 (by rw [jI,←hc,Bool.eq_iff_iff];simp<;>omega)) ?_) ?_
       exact ⟨rfl,hb⟩
      have BO:=tg;simp only [DZ] at tg;refine ai rfl<|ap rfl rfl BO<|ae (ed rfl rfl) rfl<|ap rfl rfl mu<|ae (bj rfl BO rfl) rfl<|ae (bo rfl mu rfl) rfl<|ay<|a7 qe (!dx (s.getD i 0)) (by repeat first|exact aC|refine aA rfl (by first|rfl|exact a8 (by rw [jI,←hc,Bool.eq_iff_iff];simp<;>omega)) ?_) ?_
      exact ⟨rfl,hb⟩
     have mu:=pg;simp only [DZ] at pg;refine az rfl rfl mu rfl rfl<|az rfl rfl mu rfl rfl<|bY rfl rfl rfl<|bY rfl rfl rfl<|az rfl rfl mu rfl rfl<|ae (bj rfl mu rfl) rfl<|ay<|a7 qe (!dx (s.getD i 0)) (by repeat first|exact aC|refine aA rfl (by first|rfl|exact a8 (by rw [jI,←hc,Bool.eq_iff_iff];simp<;>omega)) ?_) ?_
     exact ⟨rfl,hb⟩
    have tc:=sa;simp only [DZ] at sa;refine ai rfl<|ap rfl rfl tc<|ae (ed rfl rfl) rfl<|ap rfl rfl jV<|ae (bj rfl tc rfl) rfl<|ae (bo rfl jV rfl) rfl<|ai rfl<|cG rfl rfl rfl (fun r9=>?_) (fun r9=>?_)
    ·
     have qR:=r9;simp only [DZ] at r9;refine ai rfl<|ap rfl rfl qR<|ae (dL rfl rfl) rfl<|ap rfl rfl qR<|ai rfl<|dy rfl rfl rfl (fun mo=>?_) (fun mo=>?_)
     ·
      have jn:=mo;simp only [DZ] at mo;refine az rfl rfl jn rfl rfl<|ap rfl rfl qR<|ae (bo rfl jn rfl) rfl<|ae (bo rfl qR rfl) rfl<|ai rfl<|ap rfl rfl rfl<|ai rfl<|ap rfl rfl rfl<|ae (dL rfl rfl) rfl<|ap rfl rfl rfl<|ai rfl<|dy rfl rfl rfl (fun Ba=>?_) (fun Ba=>?_)
      ·
       have Bb:=Ba;simp only [DZ] at Ba;refine az rfl rfl Bb rfl rfl<|ap rfl rfl rfl<|ae (bo rfl Bb rfl) rfl<|ae (bo rfl rfl rfl) rfl<|ay<|a7 qe (!dx (s.getD i 0)) (by repeat first|exact aC|refine aA rfl (by first|rfl|exact a8 (by rw [jI,←hc,Bool.eq_iff_iff];simp<;>omega)) ?_) ?_
       exact ⟨rfl,hb⟩
      have Bb:=Ba;simp only [DZ] at Ba;refine ai rfl<|ap rfl rfl Bb<|ae (ed rfl rfl) rfl<|ap rfl rfl rfl<|ae (bj rfl Bb rfl) rfl<|ae (bo rfl rfl rfl) rfl<|ay<|a7 qe (!dx (s.getD i 0)) (by repeat first|exact aC|refine aA rfl (by first|rfl|exact a8 (by rw [jI,←hc,Bool.eq_iff_iff];simp<;>omega)) ?_) ?_
      exact ⟨rfl,hb⟩
     have jn:=mo;simp only [DZ] at mo;refine ai rfl<|ap rfl rfl jn<|ae (ed rfl rfl) rfl<|ap rfl rfl qR<|ae (bj rfl jn rfl) rfl<|ae (bo rfl qR rfl) rfl<|ai rfl<|cG rfl rfl rfl (fun Bc=>?_) (fun Bc=>?_)
     ·
      have qS:=Bc;simp only [DZ] at Bc;refine ai rfl<|ap rfl rfl qS<|ae (dL rfl rfl) rfl<|ap rfl rfl qS<|ai rfl<|dy rfl rfl rfl (fun Bd=>?_) (fun Bd=>?_)
      ·
       have Be:=Bd;simp only [DZ] at Bd;refine az rfl rfl Be rfl rfl<|ap rfl rfl qS<|ae (bo rfl Be rfl) rfl<|ae (bo rfl qS rfl) rfl<|ay<|a7 qe (!dx (s.getD i 0)) (by repeat first|exact aC|refine aA rfl (by first|rfl|exact a8 (by rw [jI,←hc,Bool.eq_iff_iff];simp<;>omega)) ?_) ?_
       exact ⟨rfl,hb⟩
      have Be:=Bd;simp only [DZ] at Bd;refine ai rfl<|ap rfl rfl Be<|ae (ed rfl rfl) rfl<|ap rfl rfl qS<|ae (bj rfl Be rfl) rfl<|ae (bo rfl qS rfl) rfl<|ay<|a7 qe (!dx (s.getD i 0)) (by repeat first|exact aC|refine aA rfl (by first|rfl|exact a8 (by rw [jI,←hc,Bool.eq_iff_iff];simp<;>omega)) ?_) ?_
      exact ⟨rfl,hb⟩
     have qS:=Bc;simp only [DZ] at Bc;refine az rfl rfl qS rfl rfl<|az rfl rfl qS rfl rfl<|bY rfl rfl rfl<|bY rfl rfl rfl<|az rfl rfl qS rfl rfl<|ae (bj rfl qS rfl) rfl<|ay<|a7 qe (!dx (s.getD i 0)) (by repeat first|exact aC|refine aA rfl (by first|rfl|exact a8 (by rw [jI,←hc,Bool.eq_iff_iff];simp<;>omega)) ?_) ?_
     exact ⟨rfl,hb⟩
    have qR:=r9;simp only [DZ] at r9;refine az rfl rfl qR rfl rfl<|az rfl rfl qR rfl rfl<|bY rfl rfl rfl<|bY rfl rfl rfl<|az rfl rfl qR rfl rfl<|ae (bj rfl qR rfl) rfl<|ai rfl<|az rfl rfl rfl rfl rfl<|az rfl rfl rfl rfl rfl<|az rfl rfl rfl rfl rfl<|bY rfl rfl rfl<|bY rfl rfl rfl<|az rfl rfl rfl rfl rfl<|ae (bj rfl rfl rfl) rfl<|ay<|a7 qe (!dx (s.getD i 0)) (by repeat first|exact aC|refine aA rfl (by first|rfl|exact a8 (by rw [jI,←hc,Bool.eq_iff_iff];simp<;>omega)) ?_) ?_
    exact ⟨rfl,hb⟩
   have jV:=ke;simp only [DZ] at ke;refine az rfl rfl jV rfl rfl<|az rfl rfl jV rfl rfl<|bY rfl rfl rfl<|bY rfl rfl rfl<|az rfl rfl jV rfl rfl<|ae (bj rfl jV rfl) rfl<|ai rfl<|az rfl rfl rfl rfl rfl<|az rfl rfl rfl rfl rfl<|az rfl rfl rfl rfl rfl<|bY rfl rfl rfl<|bY rfl rfl rfl<|az rfl rfl rfl rfl rfl<|ae (bj rfl rfl rfl) rfl<|ai rfl<|az rfl rfl rfl rfl rfl<|az rfl rfl rfl rfl rfl<|az rfl rfl rfl rfl rfl<|bY rfl rfl rfl<|bY rfl rfl rfl<|az rfl rfl rfl rfl rfl<|ae (bj rfl rfl rfl) rfl<|ay<|a7 qe (!dx (s.getD i 0)) (by repeat first|exact aC|refine aA rfl (by first|rfl|exact a8 (by rw [jI,←hc,Bool.eq_iff_iff];simp<;>omega)) ?_) ?_
   exact ⟨rfl,hb⟩
  rintro q wr xm;replace xm:q=(!dx (s.getD i 0))∧Below w.heap.size w wr:=xm;obtain ⟨hq,hb⟩:=xm;show Wq _ _ _ _ [(0,str s),(3,.int .i64 (i:Int)),(56,.bool q)] _;have:=hb.size;refine ax mF<|aO rfl (fun Hb=>?_) (fun Hb=>?_)
  ·
   have Hc:=Hb;have hlet:dx (s.getD i 0)=false:=by have h:=hq.symm.trans Hc;simpa using h
   refine am fun xD=>an rfl<|al xD<|aJ<|co (aX (aX (co (aX ?_))))
   refine bN rfl rfl ?_;exact ⟨_,rfl,a8 (by unfold Af;rw [eq_comm,Bool.and_eq_false_iff];right;rw [List.all_eq_false];exact ⟨_,BT hil,by rw [hlet];simp⟩),hb⟩
  have Hc:=Hb;have hlet:dx (s.getD i 0)=true:=by have h:=hq.symm.trans Hc;simpa using h
  refine aU<|cD<|ax gZ<|aQ<|ai rfl<|ae (ct rfl rfl (by omega) (by omega)) rfl<|an rfl<|ay<|fun a_ bM=>aav _ _ (i+1) (by omega) (by repeat first|exact aC|refine aA rfl (by first|rfl|exact aH (by omega)) ?_) ?_ a_ bM
  exact ⟨by omega,fun j hj=>by (by_cases e:j=i);(· rw [e];exact hlet);(· exact hall j (by omega)),hb⟩
 have Xc:=vL;simp only [DZ] at vL;refine d2<|cj<|cj<|d3<|ax iW<|am fun Cf=>an rfl<|al Cf<|aJ<|bN rfl rfl ?_
 exact ⟨_,rfl,a8 (by
 unfold Af;rw [hw,eq_comm,Bool.true_and,List.all_eq_true]
 intro c hc
 obtain ⟨j,hj,e⟩:=List.mem_iff_getElem.1 hc
 have:=hall j (by have:=vL;omega)
 simpa [List.getD,List.getElem?_eq_getElem hj,e] using this),hb⟩
def li:List (ao):= [[40],[41],[91],[93],[123],[125],[44],[58],[124],[38],[33],[37],[42],[43],[63],[61],[60],[62],[45],[126],[45,91],[126,91],[93,45],[93,126],[45,62],[60,45],[60,126],[126,62],[60,61],[62,61],[60,62],[60,45,91],[60,126,91],[93,45,62],[93,126,62],[60,45,62]]
theorem Vk (w:World):bx Tryz.prog 54 [] w fun v w'=>(∃A,v= .slice A jy.length 17∧Rd w' 1 A jy.length (b9 jy))∧Below w.heap.size w w':=by
 have hb:=Below.refl w.heap.size w;refine enter Tryz.func54 rfl rfl rfl<|am fun aR=>an rfl<|al aR<|am fun bt=>cz (sz:=1) (vs:= [_,_,_,_,_,_,_,_,_,_,_,_,_,_,_,_,_]) dl (by kernel_rfl) rfl rfl rfl rfl rfl rfl ?_
 rintro cp fA fw aI aV;have:=aV.size;have hb:=aZ hb aV;have:=aI.lt;refine an rfl<|al bt<|aJ<|bN rfl rfl ?_
 exact ⟨_,rfl,⟨_,rfl,aI.rd 17 1 rfl⟩,hb⟩
theorem Vv (w:World):bx Tryz.prog 56 [] w fun v w'=>(∃A,v= .slice A li.length 36∧Rd w' 1 A li.length (b9 li))∧Below w.heap.size w w':=by
 have hb:=Below.refl w.heap.size w;refine enter Tryz.func56 rfl rfl rfl<|am fun aR=>an rfl<|al aR<|am fun bt=>cz (sz:=1) (vs:= [_,_,_,_,_,_,_,_,_,_,_,_,_,_,_,_,_,_,_,_,_,_,_,_,_,_,_,_,_,_,_,_,_,_,_,_]) dl (by kernel_rfl) rfl rfl rfl rfl rfl rfl ?_
 rintro cp fA fw aI aV;have:=aV.size;have hb:=aZ hb aV;have:=aI.lt;refine an rfl<|al bt<|aJ<|bN rfl rfl ?_
 exact ⟨_,rfl,⟨_,rfl,aI.rd 36 1 rfl⟩,hb⟩
theorem FT:bB Tryz.prog 51:=⟨_,Tryz.func51,by kernel_rfl,rfl⟩
theorem afL:bB Tryz.prog 52:=⟨_,Tryz.func52,by kernel_rfl,rfl⟩
theorem FU:bB Tryz.prog 53:=⟨_,Tryz.func53,by kernel_rfl,rfl⟩
theorem afM:bB Tryz.prog 54:=⟨_,Tryz.func54,by kernel_rfl,rfl⟩
theorem afN:bB Tryz.prog 55:=⟨_,Tryz.func55,by kernel_rfl,rfl⟩
theorem afO:bB Tryz.prog 56:=⟨_,Tryz.func56,by kernel_rfl,rfl⟩
def S3:List (ao):=mR.take 5
def S2:List (ao):=(mR.drop 5).take 11
def S1:List (ao):=mR.drop 16
theorem SW:mR=S3++(S2++S1):=rfl
theorem SJ:∀x,x∈S3→x.length=3:=by decide
theorem SH:∀x,x∈S2→x.length=2:=by decide
theorem SF:∀x,x∈S1→x.length=1:=by decide
theorem SI:(∀x,x∈S3→x∈li)∧(∀x,x∈li→x.length=3→x∈S3):=by decide
theorem SG:(∀x,x∈S2→x∈li)∧(∀x,x∈li→x.length=2→x∈S2):=by decide
theorem SE:(∀x,x∈S1→x∈li)∧(∀x,x∈li→x.length=1→x∈S1):=by decide
theorem y9 {S:List (ao)} {k:Nat} (hS:∀x,x∈S→x.length=k) (s:ao) (hR:(∀x,x∈S→x∈li)∧(∀x,x∈li→x.length=k→x∈S)):
 (k≤s.length∧s.take k∈li→S.find? (fun x=>Lib.hasPrefix s x)=some (s.take k))∧(¬(k≤s.length∧s.take k∈li)→S.find? (fun x=>Lib.hasPrefix s x)=none):=by
 have key:∀x,S.find? (fun x=>Lib.hasPrefix s x)=some x→k≤s.length∧s.take k∈li∧x=s.take k:=fun x h=>by
  have h1:=List.find?_some h;have h2:=List.mem_of_find?_eq_some h;have h3:=hS x h2;have h4:=List.prefix_iff_eq_take.1 ((og s x).1 h1);rw [h3] at h4;have h5:=((og s x).1 h1).length_le;exact ⟨by omega,by rw [←h4];exact hR.1 x h2,h4⟩
 constructor
 · rintro ⟨h1,h2⟩
   cases h:S.find? (fun x=>Lib.hasPrefix s x) with
   |none=>
    have h3:=List.find?_eq_none.1 h _ (hR.2 _ h2 (by rw [List.length_take];omega));exact absurd ((og s _).2 (List.take_prefix k s)) h3
   |some x=>rw [(key x h).2.2]
 · intro hn
   cases h:S.find? (fun x=>Lib.hasPrefix s x) with
   |none=>rfl
   |some x=>exact absurd ⟨(key x h).1,(key x h).2.1⟩ hn
def vp (s:ao) (m:Nat):Prop:=m≤s.length∧s.take m∈li
theorem aeB {s:ao} {n:Nat} (h3:n≤3) (h0:0<n) (h:vp s n) (hn:∀m,n<m→m≤3→¬vp s m):mR.find? (fun x=>Lib.hasPrefix s x)=some (s.take n):=by
 rw [SW,List.find?_append,List.find?_append];have k3:=y9 SJ s SI;have k2:=y9 SH s SG;have k1:=y9 SF s SE
 rcases (show n=3∨n=2∨n=1 by omega) with e|e|e
 · subst e;rw [k3.1 h];rfl
 · subst e;rw [k3.2 (hn 3 (by omega) (by omega)),k2.1 h];rfl
 · subst e;rw [k3.2 (hn 3 (by omega) (by omega)),k2.2 (hn 2 (by omega) (by omega)),k1.1 h];rfl
theorem aeC {s:ao} (hn:∀m,0<m→m≤3→¬vp s m):mR.find? (fun x=>Lib.hasPrefix s x)=none:=by
 rw [SW,List.find?_append,List.find?_append,(y9 SJ s SI).2 (hn 3 (by omega) (by omega)),(y9 SH s SG).2 (hn 2 (by omega) (by omega)),(y9 SF s SE).2 (hn 1 (by omega) (by omega))];rfl
theorem Yo {s:ao} (hne:s≠ []) (h:48≤(s.getD 0 0).toNat∧(s.getD 0 0).toNat≤57):0<rdN s:=by
 cases s with
 |nil=>exact absurd rfl hne
 |cons c r=>
  have h:48≤c.toNat∧c.toNat≤57:=h
  have he:Lib.itoa ((c.toNat - 48:Nat):Int)= [c]:=by
   rw [Lib.itoa_nonneg,Lib.decDigits_one (by omega),show 48+(c.toNat - 48)=c.toNat by omega];exact congrArg (· :: []) UInt8.ofNat_toNat
  have h1:=Mu (n:=((c.toNat - 48:Nat):Int)) (by omega) (by omega);rw [he] at h1;obtain ⟨u,m,h2,h3⟩:=Sa h1 r;unfold rdN;rw [show c :: r= [c]++r from rfl,h2];exact h3
theorem NT (s:ao) (hs:s.length≤140737488355328) (w:World):bx Tryz.prog 51 [str s] w fun v w'=>(∃u n ok,v= .tuple #[c7.enc u,.int .i64 (n:Nat),.bool ok]∧yF (dI pf de s) u n ok)∧Below w.heap.size w w':=
 (NR s hs w).mono fun v w' ⟨h1,h2⟩=>⟨by
  subst h1
  cases h:dI pf de s with
  |none=>exact ⟨ch,0,false,rfl,.inr ⟨rfl,rfl,rfl,rfl⟩⟩
  |some r=>exact ⟨r.1,r.2,true,rfl,.inl ⟨rfl,rfl⟩⟩,h2⟩
def oS (s:ao) (a:Nat) (v:Value):Prop:=∃k n,dP (s.drop a)=(k,n)∧((k≠0∧v= .agg #[.int .i64 (k:Int),str ((s.drop a).take n),.int .i64 (a:Int)])∨(k=0∧v= .agg #[.int .i64 0,str [],.int .i64 0]))
theorem oS.no {s:ao} {a:Nat} (h:dP (s.drop a)=(0,0)):oS s a (.agg #[.int .i64 0,str [],.int .i64 0]):=⟨0,0,h,.inr ⟨rfl,rfl⟩⟩
theorem Am {s t:ao} {a k n:Nat} {z:Int} (h:dP (s.drop a)=(k,n)) (hk:k≠0) (ht:t=(s.drop a).take n) (hz:z=(k:Int)):oS s a (.agg #[.int .i64 z,str t,.int .i64 (a:Int)]):=⟨k,n,h,.inl ⟨hk,by rw [ht,hz]⟩⟩
theorem AU (s:ao) (a n:Nat):(s.take (a+n)).drop a=(s.drop a).take n:=by
 rw [List.drop_take];congr 1;omega
theorem Vy (s:ao) (a:Nat) (ha:a<s.length) (hs:s.length≤70368744177664) (w:World):bx Tryz.prog 30 [str s,.int .i64 (a:Int)] w fun v w'=>oS s a v∧Below w.heap.size w w':=by
 obtain ⟨x,hx⟩:∃x,x=s.drop a:=⟨_,rfl⟩;have hxl:x.length=s.length - a:=by rw [hx,List.length_drop]
 have hxne:x≠ []:=by rw [hx,drop_at ha];simp
 have hx0:∀d,x.getD d 0=s.getD (a+d) 0:=fun d=>by rw [hx];simp [List.getD,List.getElem?_drop]
 obtain ⟨c,hc⟩:∃c,c=x.getD 0 0:=⟨_,rfl⟩;have hb:=Below.refl w.heap.size w;refine enter Tryz.func30 rfl rfl rfl<|am fun aR=>bT (z:=fx) (by kernel_rfl) rfl ?_
 rintro au dJ dH ab aM;have:=aM.size;have hb:=aZ hb aM;have:=ab.lt;refine al aR<|am fun bt=>ai rfl<|ai rfl<|ae (bW (fP bI rfl rfl (by omega) (by omega)) (aH (show _=(c.toNat:Int) by rw [hc,hx0,Int.toNat_natCast];rfl))) rfl<|an rfl<|al bt<|av fun _ eX=>av fun _ dW=>cR (X:=Bool) (fun q=> [(0,str s),(1,.int .i64 (a:Int)),(4,.pointer (some ⟨au,0,none⟩)),(5,.int .u8 (c.toNat:Int)),(29,.bool q)]) (fun q wr=>q=decide (c.toNat=39∨(48≤c.toNat∧c.toNat≤57))∧Below w.heap.size w wr∧ak wr au 74 (Tok.cells ⟨0,[],0⟩)) (fun _ rt=>?_) ?_
 ·
  refine aQ<|ai rfl<|ae (bX rfl rfl) rfl<|ai rfl<|dy rfl rfl rfl (fun f9=>?_) (fun f9=>?_)
  ·
   have o7:=f9;simp only [DZ] at f9;refine az rfl rfl o7 rfl rfl<|az rfl rfl o7 rfl rfl<|bY rfl rfl rfl<|bY rfl rfl rfl<|az rfl rfl o7 rfl rfl<|ae (bo rfl o7 rfl) rfl<|ay<|a7 rt (decide (c.toNat=39∨(48≤c.toNat∧c.toNat≤57))) (by repeat first|exact aC|refine aA rfl (by first|rfl|exact a8 (by rw [Bool.eq_iff_iff];simp<;>omega)) ?_) ?_
   exact ⟨rfl,hb,ab⟩
  have o7:=f9;simp only [DZ] at f9;refine ai rfl<|ap rfl rfl o7<|ae (f7 rfl rfl) rfl<|ap rfl rfl o7<|ai rfl<|cG rfl rfl rfl (fun jU=>?_) (fun jU=>?_)
  ·
   have Bn:=jU;simp only [DZ] at jU;refine ai rfl<|ap rfl rfl Bn<|ae (iu rfl rfl) rfl<|ap rfl rfl o7<|ae (bo rfl Bn rfl) rfl<|ae (bj rfl o7 rfl) rfl<|ay<|a7 rt (decide (c.toNat=39∨(48≤c.toNat∧c.toNat≤57))) (by repeat first|exact aC|refine aA rfl (by first|rfl|exact a8 (by rw [Bool.eq_iff_iff];simp<;>omega)) ?_) ?_
   exact ⟨rfl,hb,ab⟩
  have Bn:=jU;simp only [DZ] at jU;refine az rfl rfl Bn rfl rfl<|ap rfl rfl o7<|ae (bj rfl Bn rfl) rfl<|ae (bj rfl o7 rfl) rfl<|ay<|a7 rt (decide (c.toNat=39∨(48≤c.toNat∧c.toNat≤57))) (by repeat first|exact aC|refine aA rfl (by first|rfl|exact a8 (by rw [Bool.eq_iff_iff];simp<;>omega)) ?_) ?_
  exact ⟨rfl,hb,ab⟩
 rintro q wr rf;replace rf:q=decide (c.toNat=39∨(48≤c.toNat∧c.toNat≤57))∧Below w.heap.size w wr∧ak wr au 74 (Tok.cells ⟨0,[],0⟩):=rf;obtain ⟨hq,hb,ab⟩:=rf;show Wq _ _ _ _ [(0,str s),(1,.int .i64 (a:Int)),(4,.pointer (some ⟨au,0,none⟩)),(5,.int .u8 (c.toNat:Int)),(29,.bool q)] _;have:=hb.size;have:=ab.lt;refine ax dW<|aO rfl (fun vy=>?_) (fun vy=>?_)
 ·
  have vz:=vy;have hq0:=of_decide_eq_true (hq.symm.trans vz);have hqt:(x.getD 0 0).toNat=39∨(48≤(x.getD 0 0).toNat∧(x.getD 0 0).toNat≤57):=by rw [←hc];exact hq0
  refine am fun fu=>ai rfl<|ai rfl<|ae (bW (tW bI rfl rfl (by omega) (by omega)) (d5 (show _=x by rw [hx,Int.toNat_natCast]))) rfl<|aD FT rfl rfl (NT x (by omega) _) rfl ?_
  rintro _ cB ⟨⟨u,n,ok,rfl,hr⟩,aw⟩;have:=aw.size;have hb:=aZ hb aw;have ab:=ak.below ab aw;refine ai rfl<|ae (cu rfl rfl) rfl<|ae (cu rfl rfl) rfl<|ae (cu rfl rfl) rfl<|bT (z:=mO) (by kernel_rfl) rfl ?_
  rintro BS Ul uK Jn x4;have:=x4.size;have hb:=aZ hb x4;have ab:=ak.below ab x4;have:=Jn.lt;refine ba (by kernel_rfl) rfl rfl Jn rfl rfl ?_;rintro du Jn aF;have:=aF.size;have hb:=cf hb aF hb.size (by omega);have ab:=ab.over aF (by omega);refine an rfl<|an rfl<|al fu<|av fun _ nP=>av fun _ lK=>?_
  have hrd:=hr.rdN;have hrl:=zL x
  have hok:ok=true↔0<n:=by
   rcases hr with h|h
   · have:=Di h.2;simp [h.1];omega
   · simp [h.1,h.2.2.2]
  refine cR (X:=Bool) (fun q1=> [(0,str s),(1,.int .i64 (a:Int)),(4,.pointer (some ⟨au,0,none⟩)),(5,.int .u8 (c.toNat:Int)),(7,.int .i64 (n:Int)),(42,.bool q1)]) (fun q1 wr=>q1=decide (c.toNat=39∧0<n)∧Below w.heap.size w wr∧ak wr au 74 (Tok.cells ⟨0,[],0⟩)) (fun _ Qd=>?_) ?_
  ·
   refine aQ<|ai rfl<|ae (bX rfl rfl) rfl<|ai rfl<|cG rfl rfl rfl (fun m5=>?_) (fun m5=>?_)
   ·
    have l6:=m5;simp only [DZ] at m5;refine ai rfl<|ae (bo rfl l6 rfl) rfl<|ay<|a7 Qd (decide (c.toNat=39∧0<n)) (by repeat first|exact aC|refine aA rfl (by first|rfl|exact a8 (by rw [Bool.eq_iff_iff,decide_eq_true_eq];first|(rw [hok];omega)|(simp only [Bool.false_eq_true,false_iff];omega))) ?_) ?_
    exact ⟨rfl,hb,ab⟩
   have l6:=m5;simp only [DZ] at m5;refine ae (bj rfl l6 rfl) rfl<|ay<|a7 Qd (decide (c.toNat=39∧0<n)) (by repeat first|exact aC|refine aA rfl (by first|rfl|exact a8 (by rw [Bool.eq_iff_iff,decide_eq_true_eq];first|(rw [hok];omega)|(simp only [Bool.false_eq_true,false_iff];omega))) ?_) ?_
   exact ⟨rfl,hb,ab⟩
  rintro q1 wr rh;replace rh:q1=decide (c.toNat=39∧0<n)∧Below w.heap.size w wr∧ak wr au 74 (Tok.cells ⟨0,[],0⟩):=rh;obtain ⟨hq1,hb,ab⟩:=rh;show Wq _ _ _ _ [(0,str s),(1,.int .i64 (a:Int)),(4,.pointer (some ⟨au,0,none⟩)),(5,.int .u8 (c.toNat:Int)),(7,.int .i64 (n:Int)),(42,.bool q1)] _;have:=hb.size;have:=ab.lt;refine ax lK<|aO rfl (fun G4=>?_) (fun G4=>?_)
  ·
   have G5:=G4;have hq1:=of_decide_eq_true (hq1.symm.trans G5);have htok:dP x=(4,n):=by rw [MZ (by rw [←hc];exact hq1.1) (by rw [hrd];exact hq1.2),hrd]
   refine am fun po=>ai rfl<|ai rfl<|ai rfl<|ai rfl<|ae (ct rfl rfl (by omega) (by omega)) rfl<|ae (bW (sF bI rfl rfl rfl (by omega) (by omega) (by omega)) (d5 (show _=x.take n by rw [hx,show ((a:Int)+(n:Int)).toNat=a+n by omega,Int.toNat_natCast,AU]))) rfl<|ai rfl<|ae (cC (z:=mb) (pl:= [(0,1),(1,1),(2,1)]) (cs:= [_,_,_]) ig (by kernel_rfl) (by kernel_rfl) rfl rfl rfl) rfl<|ba (by kernel_rfl) rfl rfl ab rfl rfl ?_
   rintro ff ab bc;have:=bc.size;have hb:=cf hb bc hb.size (by omega);refine al po<|aJ<|aX (aX ?_)
   refine bQ (rs:= [.cell 4 74]) (vs:= [_]) rfl (.cell rfl (bP ig (by kernel_rfl) (fun j u hu=>ab.at hu)) .nil) ?_;exact ⟨_,rfl,Am (n:=n) (by rw [←hx];exact htok) (by decide) (by rw [←hx]) rfl,hb⟩
  have G5:=G4;have hq1:=of_decide_eq_false (hq1.symm.trans G5);have hno4:¬((x.getD 0 0).toNat=39∧0<rdN x):=by rw [←hc,hrd];exact hq1
  refine aU<|ax nP<|av fun _ nR=>am fun rm=>ai rfl<|ae (bX rfl rfl) rfl<|al rm<|aO rfl (fun qH=>?_) (fun qH=>?_)
  ·
   have AD:=qH;simp only [DZ] at qH;have htok:dP x=(0,0):=Tc hqt hno4 (fun h=>h.2 (by rw [←hc];have:=qH;omega));refine am fun m7=>ae (cC (z:=mb) (pl:= [(0,1),(1,1),(2,1)]) (cs:= [_,_,_]) ig (by kernel_rfl) (by kernel_rfl) rfl rfl rfl) rfl<|ba (by kernel_rfl) rfl rfl ab rfl rfl ?_
   rintro gB ab bz;have:=bz.size;have hb:=cf hb bz hb.size (by omega);refine al m7<|aJ<|aX (aX ?_)
   refine bQ (rs:= [.cell 4 74]) (vs:= [_]) rfl (.cell rfl (bP ig (by kernel_rfl) (fun j u hu=>ab.at hu)) .nil) ?_;exact ⟨_,rfl,oS.no (by rw [←hx];exact htok),hb⟩
  have AD:=qH;simp only [DZ] at qH;have hcd:48≤c.toNat∧c.toNat≤57:=by have:=qH;omega
  have hrd0:=Yo hxne (by rw [←hc];exact hcd);refine aU<|ax nR<|am fun pu=>ai rfl<|ai rfl<|ae (bW (tW bI rfl rfl (by omega) (by omega)) (d5 (show _=x by rw [hx,Int.toNat_natCast]))) rfl<|ae (eu rfl rfl (by simp only [List.length_cons,List.length_append,List.length_nil];omega)) rfl<|aD FT rfl rfl (NT (45 :: x) (by rw [List.length_cons];omega) _) rfl ?_
  rintro _ cU ⟨⟨u2,n2,ok2,rfl,hr2⟩,aL⟩;have:=aL.size;have hb:=aZ hb aL;have ab:=ak.below ab aL;refine ai rfl<|ae (cu rfl rfl) rfl<|ae (cu rfl rfl) rfl<|ae (cu rfl rfl) rfl<|bT (z:=mO) (by kernel_rfl) rfl ?_
  rintro uF agP aaS iA qh;have:=qh.size;have hb:=aZ hb qh;have ab:=ak.below ab qh;have:=iA.lt;refine ba (by kernel_rfl) rfl rfl iA rfl rfl ?_;rintro j7 iA cd;have:=cd.size;have hb:=cf hb cd hb.size (by omega);have ab:=ab.over cd (by omega);refine an rfl<|an rfl<|al pu<|av fun _ rq=>?_
  have hrd2:=hr2.rdN;have hrl2:=zL (45 :: x);rw [List.length_cons] at hrl2;obtain ⟨n3,hn3⟩:∃n3,n3=max n (n2 - 1):=⟨_,rfl⟩;have hn30:0<n3:=by omega
  have htok:dP x=(3,n3):=by rw [MY hqt hno4 ⟨by rw [hrd,hrd2,←hn3];exact hn30,by rw [←hc];omega⟩,hrd,hrd2,←hn3]
  refine aQ<|ai rfl<|ai rfl<|ae (iQ rfl rfl (by omega) (by omega)) rfl<|ae (bW (qy rfl rfl) (aH (show _=(n3:Int) by omega))) rfl<|an rfl<|al rq<|am fun oD=>ai rfl<|ai rfl<|ai rfl<|ai rfl<|ae (ct rfl rfl (by omega) (by omega)) rfl<|ae (bW (sF bI rfl rfl rfl (by omega) (by omega) (by omega)) (d5 (show _=x.take n3 by rw [hx,show ((a:Int)+(n3:Int)).toNat=a+n3 by omega,Int.toNat_natCast,AU]))) rfl<|ai rfl<|ae (cC (z:=mb) (pl:= [(0,1),(1,1),(2,1)]) (cs:= [_,_,_]) ig (by kernel_rfl) (by kernel_rfl) rfl rfl rfl) rfl<|ba (by kernel_rfl) rfl rfl ab rfl rfl ?_
  rintro kW ab cx;have:=cx.size;have hb:=cf hb cx hb.size (by omega);refine al oD<|aJ<|aX<|bQ (rs:= [.cell 4 74]) (vs:= [_]) rfl (.cell rfl (bP ig (by kernel_rfl) (fun j u hu=>ab.at hu)) .nil) ?_
  exact ⟨_,rfl,Am (n:=n3) (by rw [←hx];exact htok) (by decide) (by rw [←hx]) rfl,hb⟩
 have vz:=vy;have hq0:=of_decide_eq_false (hq.symm.trans vz);have hqt:¬((x.getD 0 0).toNat=39∨(48≤(x.getD 0 0).toNat∧(x.getD 0 0).toNat≤57)):=by rw [←hc];exact hq0
 refine aU<|ax eX<|am fun Cq=>ai rfl<|an rfl<|al Cq<|av fun _ qb=>b4<|d9 (X:=Nat) (fun d=> [(0,str s),(1,.int .i64 (a:Int)),(4,.pointer (some ⟨au,0,none⟩)),(12,.int .i64 ((a+d:Nat):Int))]) (fun d wr=>a+d≤s.length∧(∀j,j<d→dx (x.getD j 0)=true)∧Below w.heap.size w wr∧ak wr au 74 (Tok.cells ⟨0,[],0⟩)) (fun d=>s.length - d) (0) ?_ ?_ ?_
 · exact by repeat first|exact aC|refine aA rfl (by first|rfl|exact aH (by omega)) ?_
 · exact ⟨by omega,fun j h=>by omega,hb,ab⟩
 rintro d wr Jp _ aah;replace Jp:a+d≤s.length∧(∀j,j<d→dx (x.getD j 0)=true)∧Below w.heap.size w wr∧ak wr au 74 (Tok.cells ⟨0,[],0⟩):=Jp;obtain ⟨hd,hall,hb,ab⟩:=Jp;show Wc _ _ _ _ _ [(0,str s),(1,.int .i64 (a:Int)),(4,.pointer (some ⟨au,0,none⟩)),(12,.int .i64 ((a+d:Nat):Int))] _;have:=hb.size;have:=ab.lt;refine av fun _ pm=>av fun _ oA=>cR (X:=Bool) (fun q=> [(0,str s),(1,.int .i64 (a:Int)),(4,.pointer (some ⟨au,0,none⟩)),(12,.int .i64 ((a+d:Nat):Int)),(85,.bool q)]) (fun q wr=>q=decide (a+d<s.length∧dx (x.getD d 0)=true)∧Below w.heap.size w wr∧ak wr au 74 (Tok.cells ⟨0,[],0⟩)) (fun _ Cu=>?_) ?_
 ·
  refine aQ<|ai rfl<|ai rfl<|ae (ez bI (by omega) rfl) rfl<|ae (dL rfl rfl) rfl<|ai rfl<|cG rfl rfl rfl (fun mo=>?_) (fun mo=>?_)
  ·
   have jn:=mo;simp only [DZ] at mo;refine ai rfl<|ap rfl rfl jn<|ai rfl<|ap rfl rfl jn<|ae (bW (fP bI rfl rfl (by omega) (by omega)) (aH (show _=((x.getD d 0).toNat:Int) by rw [hx0,Int.toNat_natCast]))) rfl<|ap rfl rfl jn<|aD afL rfl rfl (Vr _ _) rfl ?_
   rintro _ eP ⟨rfl,a6⟩;have:=a6.size;have hb:=aZ hb a6;have ab:=ak.below ab a6;refine ae (bo rfl jn rfl) rfl<|ay<|a7 Cu (decide (a+d<s.length∧dx (x.getD d 0)=true)) (by repeat first|exact aC|refine aA rfl (by first|rfl|exact a8 (by rw [Bool.eq_iff_iff];simp<;>omega)) ?_) ?_
   exact ⟨rfl,hb,ab⟩
  have jn:=mo;simp only [DZ] at mo;refine az rfl rfl jn rfl rfl<|az rfl rfl jn rfl rfl<|az rfl rfl jn rfl rfl<|ae (bj rfl jn rfl) rfl<|ay<|a7 Cu (decide (a+d<s.length∧dx (x.getD d 0)=true)) (by repeat first|exact aC|refine aA rfl (by first|rfl|exact a8 (by rw [Bool.eq_iff_iff];simp<;>omega)) ?_) ?_
  exact ⟨rfl,hb,ab⟩
 rintro q wr xk;replace xk:q=decide (a+d<s.length∧dx (x.getD d 0)=true)∧Below w.heap.size w wr∧ak wr au 74 (Tok.cells ⟨0,[],0⟩):=xk;obtain ⟨hq3,hb,ab⟩:=xk;show Wq _ _ _ _ [(0,str s),(1,.int .i64 (a:Int)),(4,.pointer (some ⟨au,0,none⟩)),(12,.int .i64 ((a+d:Nat):Int)),(85,.bool q)] _;have:=hb.size;have:=ab.lt;refine ax oA<|aO rfl (fun Hu=>?_) (fun Hu=>?_)
 ·
  have Hv:=Hu;have hq3:=of_decide_eq_true (hq3.symm.trans Hv);refine aU<|ax pm<|b4<|aQ<|ai rfl<|ae (ct rfl rfl (by omega) (by omega)) rfl<|an rfl<|ay<|cD<|fun a_ bM=>aah _ _ (d+1) (by omega) (by repeat first|exact aC|refine aA rfl (by first|rfl|exact aH (by omega)) ?_) ?_ a_ bM
  exact ⟨by omega,fun j hj=>by (by_cases e:j=d);(· rw [e];exact hq3.2);(· exact hall j (by omega)),hb,ab⟩
 have Hv:=Hu;have hq3:=of_decide_eq_false (hq3.symm.trans Hv);have hlet:dj x=d:=QX (by omega) hall (fun h=>by cases hl:dx (x.getD d 0) with|false=>rfl|true=>exact absurd ⟨by omega,hl⟩ hq3);refine d2<|cj<|cj<|d3<|ax qb<|av fun _ B6=>am fun xB=>ai rfl<|ai rfl<|ae (ed rfl rfl) rfl<|al xB<|aO rfl (fun v8=>?_) (fun v8=>?_)
 ·
  have XA:=v8;simp only [DZ] at v8;have hd0:0<d:=by have:=v8;omega
  have hl0:0<dj x:=by omega
  refine am fun xC=>ai rfl<|ai rfl<|ai rfl<|ae (bW (sF bI rfl rfl rfl (by omega) (by omega) (by omega)) (d5 (show _=x.take d by rw [hx,Int.toNat_natCast,Int.toNat_natCast,AU]))) rfl<|an rfl<|al xC<|am fun Ca=>aD afM rfl rfl (Vk _) rfl ?_
  rintro _ fj ⟨⟨A,rfl,hRk⟩,bk⟩;have:=bk.size;have hb:=aZ hb bk;have ab:=ak.below ab bk;refine ai rfl<|aD FU rfl rfl (D4 A 17 jy (x.take d) (by decide) _ hRk) rfl ?_
  rintro _ gj ⟨rfl,bD⟩;have:=bD.size;have hb:=aZ hb bD;have ab:=ak.below ab bD;refine an rfl<|al Ca<|av fun _ Ky=>am fun Kz=>ai rfl<|al Kz<|aO rfl (fun Ic=>?_) (fun Ic=>?_)
  ·
   have htok:=MX hqt hl0 (by rw [hlet];simpa using Ic);rw [hlet] at htok;refine am fun tt=>ai rfl<|ai rfl<|ae (cC (z:=mb) (pl:= [(0,1),(1,1),(2,1)]) (cs:= [_,_,_]) ig (by kernel_rfl) (by kernel_rfl) rfl rfl rfl) rfl<|ba (by kernel_rfl) rfl rfl ab rfl rfl ?_
   rintro mV ab cS;have:=cS.size;have hb:=cf hb cS hb.size (by omega);refine al tt<|aJ<|aX (aX ?_)
   refine bQ (rs:= [.cell 4 74]) (vs:= [_]) rfl (.cell rfl (bP ig (by kernel_rfl) (fun j u hu=>ab.at hu)) .nil) ?_;exact ⟨_,rfl,Am (n:=d) (by rw [←hx];exact htok) (by decide) (by rw [←hx]) rfl,hb⟩
  have hnk:¬x.take (dj x)∈jy:=by rw [hlet];simpa using Ic
  refine aU<|ax Ky<|am fun KC=>ai rfl<|aD afN rfl rfl (VA (x.take d) (by have:=List.length_take_le' d x;omega) _) rfl ?_
  rintro _ lW ⟨rfl,cm⟩;have:=cm.size;have hb:=aZ hb cm;have ab:=ak.below ab cm;refine an rfl<|al KC<|av fun _ xD=>av fun _ ZF=>?_
  have hwl:=agT (QU x);rw [hlet] at hwl;refine aQ<|ai rfl<|al ZF<|aO rfl (fun Io=>?_) (fun Io=>?_)
  ·
   have Ip:=Io;have htok:=M1 hqt hl0 hnk (by rw [hlet,←hwl];exact Ip);rw [hlet] at htok;refine am fun Ce=>ai rfl<|ai rfl<|ae (cC (z:=mb) (pl:= [(0,1),(1,1),(2,1)]) (cs:= [_,_,_]) ig (by kernel_rfl) (by kernel_rfl) rfl rfl rfl) rfl<|ba (by kernel_rfl) rfl rfl ab rfl rfl ?_
   rintro mW ab df;have:=df.size;have hb:=cf hb df hb.size (by omega);refine al Ce<|aJ<|aX (aX ?_)
   refine bQ (rs:= [.cell 4 74]) (vs:= [_]) rfl (.cell rfl (bP ig (by kernel_rfl) (fun j u hu=>ab.at hu)) .nil) ?_;exact ⟨_,rfl,Am (n:=d) (by rw [←hx];exact htok) (by decide) (by rw [←hx]) rfl,hb⟩
  have Ip:=Io;have htok:=Te hqt hl0 hnk (by rw [hlet,←hwl,Ip];simp);refine aU<|ax xD<|am fun zf=>ae (cC (z:=mb) (pl:= [(0,1),(1,1),(2,1)]) (cs:= [_,_,_]) ig (by kernel_rfl) (by kernel_rfl) rfl rfl rfl) rfl<|ba (by kernel_rfl) rfl rfl ab rfl rfl ?_
  rintro mi ab cF;have:=cF.size;have hb:=cf hb cF hb.size (by omega);refine al zf<|aJ<|aX<|bQ (rs:= [.cell 4 74]) (vs:= [_]) rfl (.cell rfl (bP ig (by kernel_rfl) (fun j u hu=>ab.at hu)) .nil) ?_
  exact ⟨_,rfl,oS.no (by rw [←hx];exact htok),hb⟩
 have XA:=v8;simp only [DZ] at v8;have hd0:d=0:=by have:=v8;omega
 have hl0:¬0<dj x:=by omega
 refine aU<|ax B6<|av fun _ KF=>am fun Cg=>an rfl<|al Cg<|b4<|d9 (X:=Nat) (fun n=> [(0,str s),(1,.int .i64 (a:Int)),(4,.pointer (some ⟨au,0,none⟩)),(16,.int .i64 (n:Int))]) (fun n wr=>n≤3∧(∀m,n<m→m≤3→¬vp x m)∧Below w.heap.size w wr∧ak wr au 74 (Tok.cells ⟨0,[],0⟩)) (fun n=>n) (3) ?_ ?_ ?_
 · exact by repeat first|exact aC|refine aA rfl (by first|rfl|exact aH (by omega)) ?_
 · exact ⟨by omega,fun m h1 h2=>by omega,hb,ab⟩
 rintro n wr JI _ aam;replace JI:n≤3∧(∀m,n<m→m≤3→¬vp x m)∧Below w.heap.size w wr∧ak wr au 74 (Tok.cells ⟨0,[],0⟩):=JI;obtain ⟨hn3,hno,hb,ab⟩:=JI;show Wc _ _ _ _ _ [(0,str s),(1,.int .i64 (a:Int)),(4,.pointer (some ⟨au,0,none⟩)),(16,.int .i64 (n:Int))] _;have:=hb.size;have:=ab.lt;refine av fun _ ZI=>am fun ZJ=>ai rfl<|ae (ed rfl rfl) rfl<|al ZJ<|aO rfl (fun wH=>?_) (fun wH=>?_)
 ·
  have X2:=wH;simp only [DZ] at wH;have hn0:0<n:=by have:=wH;omega
  refine aU<|ax ZI<|av fun _ KG=>b4<|av fun _ Ck=>cR (X:=Bool) (fun q=> [(0,str s),(1,.int .i64 (a:Int)),(4,.pointer (some ⟨au,0,none⟩)),(16,.int .i64 (n:Int)),(128,.bool q)]) (fun q wr=>q=decide (n≤x.length∧x.take n∈li)∧Below w.heap.size w wr∧ak wr au 74 (Tok.cells ⟨0,[],0⟩)) (fun _ P3=>?_) ?_
  ·
   refine jg (n:=16) (fun w'=>Below w.heap.size w w'∧ak w' au 74 (Tok.cells ⟨0,[],0⟩)) #[aj,aj,aj,aj,aj,aj,aj,aj,aj,aj,aj,aj,aj,aj,aj,aj] (by kernel_rfl) rfl (by kernel_rfl)<|jf ?_
   rintro ail Ly;have:=Ly.size;have hb:=aZ hb Ly;have ab:=ak.below ab Ly;refine bC (i:=0) #[ah,aj,aj,aj,aj,aj,aj,aj,aj,aj,aj,aj,aj,aj,aj,aj] rfl (by kernel_rfl) bF rfl (fun wq hq=>bU (dN rfl)) ⟨hb,ab⟩<|bC (i:=1) #[ah,ah,aj,aj,aj,aj,aj,aj,aj,aj,aj,aj,aj,aj,aj,aj] rfl (by kernel_rfl) bF rfl (fun wq hq=>bU (dN rfl)) ⟨hb,ab⟩<|bC (i:=2) #[ah,ah,ah,aj,aj,aj,aj,aj,aj,aj,aj,aj,aj,aj,aj,aj] rfl (by kernel_rfl) bF rfl (fun wq hq=>bU (ct rfl rfl (by omega) (by omega))) ⟨hb,ab⟩<|bC (i:=3) #[ah,ah,ah,ah,aj,aj,aj,aj,aj,aj,aj,aj,aj,aj,aj,aj] rfl (by kernel_rfl) bF rfl (fun wq hq=>bU (dN rfl)) ⟨hb,ab⟩<|bC (i:=4) #[ah,ah,ah,ah,ah,aj,aj,aj,aj,aj,aj,aj,aj,aj,aj,aj] rfl (by kernel_rfl) bF rfl (fun wq hq=>bU (ez bI (by omega) rfl)) ⟨hb,ab⟩<|bC (i:=5) #[ah,ah,ah,ah,ah,ah,aj,aj,aj,aj,aj,aj,aj,aj,aj,aj] rfl (by kernel_rfl) bF rfl (fun wq hq=>bU (iu rfl rfl)) ⟨hb,ab⟩<|bC (i:=6) #[ah,ah,ah,ah,ah,ah,ah,aj,aj,aj,aj,aj,aj,aj,aj,aj] rfl (by kernel_rfl) bF rfl (fun wq hq=>bU (dN rfl)) ⟨hb,ab⟩<|N5 (s:=119) rfl (fun Bj=>?_) (fun Bj=>?_)
   ·
    have lD:=Bj;simp only [DZ] at Bj;refine rT (i:=8) #[ah,ah,ah,ah,ah,ah,ah,aj,ah,aj,aj,aj,aj,aj,aj,aj] rfl rfl rfl lD (by kernel_rfl) bF rfl (fun wq hq=>bU (dN rfl)) ⟨hb,ab⟩<|rT (i:=9) #[ah,ah,ah,ah,ah,ah,ah,aj,ah,ah,aj,aj,aj,aj,aj,aj] rfl rfl rfl lD (by kernel_rfl) bF rfl (fun wq hq=>bU (dN rfl)) ⟨hb,ab⟩<|rT (i:=10) #[ah,ah,ah,ah,ah,ah,ah,aj,ah,ah,ah,aj,aj,aj,aj,aj] rfl rfl rfl lD (by kernel_rfl) bF rfl (fun wq hq=>bU (dN rfl)) ⟨hb,ab⟩<|rT (i:=11) #[ah,ah,ah,ah,ah,ah,ah,aj,ah,ah,ah,ah,aj,aj,aj,aj] rfl rfl rfl lD (by kernel_rfl) bF rfl (fun wq hq=>bU (dN rfl)) ⟨hb,ab⟩<|rT (i:=12) #[ah,ah,ah,ah,ah,ah,ah,aj,ah,ah,ah,ah,ah,aj,aj,aj] rfl rfl rfl lD (by kernel_rfl) bF rfl (fun wq hq=>bU (ct rfl rfl (by omega) (by omega))) ⟨hb,ab⟩<|rT (i:=13) #[ah,ah,ah,ah,ah,ah,ah,aj,ah,ah,ah,ah,ah,ah,aj,aj] rfl rfl rfl lD (by kernel_rfl) bF rfl (fun wq hq=>bU (bW (sF bI rfl rfl rfl (by omega) (by omega) (by omega)) (d5 (show _=x.take n by rw [hx,show ((a:Int)+(n:Int)).toNat=a+n by omega,Int.toNat_natCast,AU])))) ⟨hb,ab⟩<|cM (rs:= [7]) (by kernel_rfl) rfl<|cO #[ah,ah,ah,ah,ah,ah,ah,ah,ah,ah,ah,ah,ah,ah,aj,aj] rfl rfl (fun _ KK=>?_) ?_
    ·
     refine ap rfl rfl lD<|aD afO rfl rfl (Vv _) rfl ?_
     rintro _ lX ⟨⟨A,rfl,hRs⟩,cy⟩;have:=cy.size;have hb:=aZ hb cy;have ab:=ak.below ab cy;refine ay<|cN KK ⟨hb,ab⟩<|cM (rs:= [14]) (by kernel_rfl) rfl<|cO #[ah,ah,ah,ah,ah,ah,ah,ah,ah,ah,ah,ah,ah,ah,ah,aj] rfl rfl (fun _ ZT=>?_) ?_
     ·
      refine ap rfl rfl lD<|aD FU rfl rfl (D4 A 36 li (x.take n) (by decide) _ hRs) rfl ?_
      rintro _ mh ⟨rfl,cA⟩;have:=cA.size;have hb:=aZ hb cA;have ab:=ak.below ab cA;refine ay<|cN ZT ⟨hb,ab⟩<|bC (i:=15) #[ah,ah,ah,ah,ah,ah,ah,ah,ah,ah,ah,ah,ah,ah,ah,ah] rfl (by kernel_rfl) bF rfl (fun wq hq=>bU (bo rfl lD rfl)) ⟨hb,ab⟩<|fB (by kernel_rfl)<|a7 P3 (decide (n≤x.length∧x.take n∈li)) (by repeat first|exact aC|refine aA rfl (by first|rfl|exact a8 (by rw [Bool.eq_iff_iff];simp<;>omega)) ?_) ?_
      exact ⟨rfl,hb,ab⟩
     exact cP
    exact cP
   have lD:=Bj;simp only [DZ] at Bj;refine oT (i:=7) #[ah,ah,ah,ah,ah,ah,ah,ah,aj,aj,aj,aj,aj,aj,aj,aj] rfl rfl rfl lD (by kernel_rfl) bF rfl ⟨hb,ab⟩<|oT (i:=8) #[ah,ah,ah,ah,ah,ah,ah,ah,ah,aj,aj,aj,aj,aj,aj,aj] rfl rfl rfl lD (by kernel_rfl) bF rfl ⟨hb,ab⟩<|oT (i:=9) #[ah,ah,ah,ah,ah,ah,ah,ah,ah,ah,aj,aj,aj,aj,aj,aj] rfl rfl rfl lD (by kernel_rfl) bF rfl ⟨hb,ab⟩<|oT (i:=10) #[ah,ah,ah,ah,ah,ah,ah,ah,ah,ah,ah,aj,aj,aj,aj,aj] rfl rfl rfl lD (by kernel_rfl) bF rfl ⟨hb,ab⟩<|oT (i:=11) #[ah,ah,ah,ah,ah,ah,ah,ah,ah,ah,ah,ah,aj,aj,aj,aj] rfl rfl rfl lD (by kernel_rfl) bF rfl ⟨hb,ab⟩<|oT (i:=12) #[ah,ah,ah,ah,ah,ah,ah,ah,ah,ah,ah,ah,ah,aj,aj,aj] rfl rfl rfl lD (by kernel_rfl) bF rfl ⟨hb,ab⟩<|oT (i:=13) #[ah,ah,ah,ah,ah,ah,ah,ah,ah,ah,ah,ah,ah,ah,aj,aj] rfl rfl rfl lD (by kernel_rfl) bF rfl ⟨hb,ab⟩<|oT (i:=14) #[ah,ah,ah,ah,ah,ah,ah,ah,ah,ah,ah,ah,ah,ah,ah,aj] rfl rfl rfl lD (by kernel_rfl) bF rfl ⟨hb,ab⟩<|bC (i:=15) #[ah,ah,ah,ah,ah,ah,ah,ah,ah,ah,ah,ah,ah,ah,ah,ah] rfl (by kernel_rfl) bF rfl (fun wq hq=>bU (bj rfl lD rfl)) ⟨hb,ab⟩<|fB (by kernel_rfl)<|a7 P3 (decide (n≤x.length∧x.take n∈li)) (by repeat first|exact aC|refine aA rfl (by first|rfl|exact a8 (by rw [Bool.eq_iff_iff];simp<;>omega)) ?_) ?_
   exact ⟨rfl,hb,ab⟩
  rintro q wr JT;replace JT:q=decide (n≤x.length∧x.take n∈li)∧Below w.heap.size w wr∧ak wr au 74 (Tok.cells ⟨0,[],0⟩):=JT;obtain ⟨hq5,hb,ab⟩:=JT;show Wq _ _ _ _ [(0,str s),(1,.int .i64 (a:Int)),(4,.pointer (some ⟨au,0,none⟩)),(16,.int .i64 (n:Int)),(128,.bool q)] _;have:=hb.size;have:=ab.lt;refine ax Ck<|aO rfl (fun IE=>?_) (fun IE=>?_)
  ·
   have IF:=IE;have hq6:=of_decide_eq_true (hq5.symm.trans IF);have hq5:vp x n:=hq6;have htok:=M0 hqt hl0 (aeB hn3 hn0 hq5 hno);rw [List.length_take,Nat.min_eq_left hq5.1] at htok;refine av fun _ ZX=>?_;have hnx:=hq5.1;refine aQ<|ai rfl<|ai rfl<|ai rfl<|ai rfl<|ae (ct rfl rfl (by omega) (by omega)) rfl<|ae (bW (sF bI rfl rfl rfl (by omega) (by omega) (by omega)) (d5 (show _=x.take n by rw [hx,show ((a:Int)+(n:Int)).toNat=a+n by omega,Int.toNat_natCast,AU]))) rfl<|ai rfl<|ae (cC (z:=mb) (pl:= [(0,1),(1,1),(2,1)]) (cs:= [_,_,_]) ig (by kernel_rfl) (by kernel_rfl) rfl rfl rfl) rfl<|ba (by kernel_rfl) rfl rfl ab rfl rfl ?_
   rintro rO ab dw;have:=dw.size;have hb:=cf hb dw hb.size (by omega);refine al ZX<|aJ<|co (aX (aX (co (aX ?_))))
   refine bQ (rs:= [.cell 4 74]) (vs:= [_]) rfl (.cell rfl (bP ig (by kernel_rfl) (fun j u hu=>ab.at hu)) .nil) ?_;exact ⟨_,rfl,Am (n:=n) (by rw [←hx];exact htok) (by decide) (by rw [←hx]) rfl,hb⟩
  have IF:=IE;have hq6:=of_decide_eq_false (hq5.symm.trans IF);have hq5:¬vp x n:=hq6;refine aU<|cD<|ax KG<|aQ<|ai rfl<|ae (iQ rfl rfl (by omega) (by omega)) rfl<|an rfl<|ay<|fun a_ bM=>aam _ _ (n - 1) (by omega) (by repeat first|exact aC|refine aA rfl (by first|rfl|exact aH (by omega)) ?_) ?_ a_ bM
  exact ⟨by omega,fun m h1 h2=>by (by_cases e:m=n);(· rw [e];exact hq5);(· exact hno m (by omega) h2),hb,ab⟩
 have X2:=wH;simp only [DZ] at wH;have htok:=Td hqt hl0 (aeC fun m h1 h2=>hno m (by have:=wH;omega) h2);refine d2<|cj<|cj<|d3<|ax KF<|am fun Z1=>ae (cC (z:=mb) (pl:= [(0,1),(1,1),(2,1)]) (cs:= [_,_,_]) ig (by kernel_rfl) (by kernel_rfl) rfl rfl rfl) rfl<|ba (by kernel_rfl) rfl rfl ab rfl rfl ?_
 rintro oj ab bO;have:=bO.size;have hb:=cf hb bO hb.size (by omega);refine al Z1<|aJ<|bQ (rs:= [.cell 4 74]) (vs:= [_]) rfl (.cell rfl (bP ig (by kernel_rfl) (fun j u hu=>ab.at hu)) .nil) ?_
 exact ⟨_,rfl,oS.no (by rw [←hx];exact htok),hb⟩
end Go.Proofs.YtjdjliiolchciaaGreatDoor
