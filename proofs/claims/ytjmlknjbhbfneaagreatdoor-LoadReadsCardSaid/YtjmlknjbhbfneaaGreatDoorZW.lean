import Derived.Test.YtjmlknjbhbfneaaGreatDoorZL
import Derived.Test.YtjmlknjbhbfneaaGreatDoorZQ
namespace Go.Proofs.YtjmlknjbhbfneaaGreatDoor
open Go.RowKit Go.Bw Go.Bw.Fl
set_option linter.unusedVariables false
set_option linter.unusedSimpArgs false
theorem GQ (A:Option Addr) (c:Nat) (l:List (al)) (x:al) (hl:l.length≤281474976710656) (w:World) (hR:Rd w 1 A l.length (strs l)):be Tryz.prog 79 [.slice A l.length c,str x] w fun v w'=>v= .bool (decide (x∈l))∧Below w.heap.size w w':=by
 have hb:=Below.refl w.heap.size w;have bh:=hR;refine enter Tryz.func79 rfl rfl rfl<|ao fun aZ=>am rfl<|an aZ<|ax fun _ bJ=>ao fun bX=>am rfl<|an bX<|br<|cU (X:=Nat) (fun i=> [(0,.slice A l.length c),(1,str x),(5,.int .i64 (i:Int))]) (fun i wr=>i≤l.length∧(∀j,j<i→l.getD j []≠x)∧Below w.heap.size w wr) (fun i=>l.length - i) (0) ?_ ?_ ?_
 · exact by repeat first|exact aB|refine au rfl (by first|rfl|exact int_eq (by omega)) ?_
 · exact ⟨by omega,fun j h=>by omega,hb⟩
 rintro i wr xd _ K2;replace xd:i≤l.length∧(∀j,j<i→l.getD j []≠x)∧Below w.heap.size w wr:=xd;obtain ⟨hi,hall,hb⟩:=xd;show Wc _ _ _ _ _ [(0,.slice A l.length c),(1,str x),(5,.int .i64 (i:Int))] _;have hR:=bh.below hb;have:=hb.size;refine ax fun _ gp=>ao fun ek=>ai rfl<|ai rfl<|ah (cG bK (by omega) rfl) rfl<|ah (cg rfl rfl) rfl<|an ek<|aH rfl (fun dR=>?_) (fun dR=>?_)
 ·
  have nz:=dR;simp only [DZ] at dR;have hil:i<l.length:=by have:=dR;omega
  obtain ⟨p_,v_,hpe,hve,hcell⟩:=hR.one (i:=i) hil;subst hpe;obtain rfl:=i6 hil hve;refine aU<|aw gp<|ax fun _ fj=>br<|ao fun gY=>ai rfl<|ai rfl<|ah (cx bK eo rfl rfl (by omega) (by omega)) rfl<|aW (aI bQ rfl (by exact gH hcell)) rfl<|ai rfl<|ah (fu rfl rfl) rfl<|an gY<|aH rfl (fun nB=>?_) (fun nB=>?_)
  ·
   have HC:=nB;simp only [DZ] at nB;have heq:l.getD i []=x:=nB;refine ao fun jf=>am rfl<|an jf<|aK<|bE (aQ (aQ (bE (aQ ?_))))
   refine bj rfl rfl ?_;exact ⟨_,rfl,aP (by rw [eq_comm,decide_eq_true_eq,←heq];simp [List.getD,List.getElem?_eq_getElem hil]),hb⟩
  have HC:=nB;simp only [DZ] at nB;have hne:l.getD i []≠x:=nB;refine aU<|bS<|aw fj<|aR<|ai rfl<|ah (bH rfl rfl (by omega) (by omega)) rfl<|am rfl<|ay<|fun a_ bn=>K2 _ _ (i+1) (by omega) (by repeat first|exact aB|refine au rfl (by first|rfl|exact int_eq (by omega)) ?_) ?_ a_ bn
  exact ⟨by omega,fun j hj=>by (by_cases e:j=i);(· rw [e];exact hne);(· exact hall j (by omega)),hb⟩
 have nz:=dR;simp only [DZ] at dR;refine cN<|bD<|bD<|cO<|aw bJ<|ao fun gK=>am rfl<|an gK<|aK<|bj rfl rfl ?_
 exact ⟨_,rfl,aP (by
 rw [eq_comm,decide_eq_false_iff_not]
 intro h
 obtain ⟨j,hj,e⟩:=List.mem_iff_getElem.1 h
 exact absurd (by simp [List.getD,List.getElem?_eq_getElem hj,e]) (hall j (by have:=dR;omega))),hb⟩
theorem o7 (c:UInt8):isLet c=decide (c.toNat=95∨(48≤c.toNat∧c.toNat≤57)∨(65≤c.toNat∧c.toNat≤90)∨(97≤c.toNat∧c.toNat≤122)):=by
 have key:∀n:Fin 256,isLet (UInt8.ofNat n.val)=decide (n.val=95∨(48≤n.val∧n.val≤57)∨(65≤n.val∧n.val≤90)∨(97≤n.val∧n.val≤122)):=by decide +kernel
 have h2:=key ⟨c.toNat,UInt8.toNat_lt c⟩;rw [show UInt8.ofNat c.toNat=c from UInt8.ofNat_toNat] at h2;exact h2
theorem yl (s:al) (hs:s.length≤281474976710656) (w:World):be Tryz.prog 46 [str s] w fun v w'=>v= .bool (bO s)∧Below w.heap.size w w':=by
 have hb:=Below.refl w.heap.size w;refine enter Tryz.func46 rfl rfl rfl<|ao fun aZ=>am rfl<|an aZ<|ax fun _ bJ=>ax fun _ bX=>b9 (X:=Bool) (fun q=> [(0,str s),(21,.bool q)]) (fun q wr=>q=(!mK s)∧Below w.heap.size w wr) (fun _ oe=>?_) ?_
 ·
  refine aR<|ai rfl<|ah (fu rfl rfl) rfl<|ai rfl<|dP rfl rfl rfl (fun gy=>?_) (fun gy=>?_)
  ·
   have dU:=gy;simp only [DZ] at gy;refine aA rfl rfl dU rfl rfl<|aA rfl rfl dU rfl rfl<|ah (bi rfl dU rfl) rfl<|ai rfl<|aA rfl rfl rfl rfl rfl<|aA rfl rfl rfl rfl rfl<|aA rfl rfl rfl rfl rfl<|aA rfl rfl rfl rfl rfl<|cC rfl rfl rfl<|cC rfl rfl rfl<|cC rfl rfl rfl<|aA rfl rfl rfl rfl rfl<|ah (bi rfl rfl rfl) rfl<|ay<|aY oe (!mK s) (by repeat first|exact aB|refine au rfl (by first|rfl|exact aP (by unfold mK;rw [Bool.eq_iff_iff];simp_all<;>omega)) ?_) ?_
   exact ⟨rfl,hb⟩
  have dU:=gy;simp only [DZ] at gy;have hl0:0<s.length:=List.length_pos_iff.2 gy;refine ai rfl<|aE rfl rfl dU<|ah (dF bq (by omega) rfl) rfl<|aE rfl rfl dU<|ah (eW rfl rfl) rfl<|ah (bg rfl dU rfl) rfl<|ai rfl<|dP rfl rfl rfl (fun iQ=>?_) (fun iQ=>?_)
  ·
   have gI:=iQ;simp only [DZ] at iQ;refine aA rfl rfl gI rfl rfl<|aA rfl rfl gI rfl rfl<|aA rfl rfl gI rfl rfl<|cC rfl rfl rfl<|cC rfl rfl rfl<|cC rfl rfl rfl<|aA rfl rfl gI rfl rfl<|ah (bi rfl gI rfl) rfl<|ay<|aY oe (!mK s) (by repeat first|exact aB|refine au rfl (by first|rfl|exact aP (by unfold mK;rw [Bool.eq_iff_iff];simp_all<;>omega)) ?_) ?_
   exact ⟨rfl,hb⟩
  have gI:=iQ;simp only [DZ] at iQ;refine ai rfl<|aE rfl rfl gI<|ah (bt (eK bq rfl rfl (by omega) (by omega)) ((show Value.int .u8 ((s.getD (0:Int).toNat 0).toNat:Int)= .int .u8 ((s.getD 0 0).toNat:Int) from rfl))) rfl<|aE rfl rfl gI<|ah (jb rfl rfl) rfl<|aE rfl rfl gI<|ai rfl<|cw rfl rfl rfl (fun pV=>?_) (fun pV=>?_)
  ·
   have l1:=pV;simp only [DZ] at pV;refine ai rfl<|aE rfl rfl l1<|ah (bt (eK bq rfl rfl (by omega) (by omega)) ((show Value.int .u8 ((s.getD (0:Int).toNat 0).toNat:Int)= .int .u8 ((s.getD 0 0).toNat:Int) from rfl))) rfl<|aE rfl rfl l1<|ah (oB rfl rfl) rfl<|aE rfl rfl gI<|ah (bi rfl l1 rfl) rfl<|ah (bg rfl gI rfl) rfl<|ay<|aY oe (!mK s) (by repeat first|exact aB|refine au rfl (by first|rfl|exact aP (by unfold mK;rw [Bool.eq_iff_iff];simp_all<;>omega)) ?_) ?_
   exact ⟨rfl,hb⟩
  have l1:=pV;simp only [DZ] at pV;refine aA rfl rfl l1 rfl rfl<|aA rfl rfl l1 rfl rfl<|aE rfl rfl gI<|ah (bg rfl l1 rfl) rfl<|ah (bg rfl gI rfl) rfl<|ay<|aY oe (!mK s) (by repeat first|exact aB|refine au rfl (by first|rfl|exact aP (by unfold mK;rw [Bool.eq_iff_iff];simp_all<;>omega)) ?_) ?_
  exact ⟨rfl,hb⟩
 rintro q wr J1;replace J1:q=(!mK s)∧Below w.heap.size w wr:=J1;obtain ⟨hq,hb⟩:=J1;show Wq _ _ _ _ [(0,str s),(21,.bool q)] _;have:=hb.size;refine aw bX<|aH rfl (fun Hh=>?_) (fun Hh=>?_)
 ·
  have Hi:=Hh;have hw:mK s=false:=by have h:=hq.symm.trans Hi;simpa using h
  refine ao fun kV=>am rfl<|an kV<|aK<|aQ<|bj rfl rfl ?_
  exact ⟨_,rfl,aP (by unfold bO;rw [hw];rfl),hb⟩
 have Hi:=Hh;have hw:mK s=true:=by have h:=hq.symm.trans Hi;simpa using h
 refine aU<|aw bJ<|ax fun _ mf=>ao fun xq=>am rfl<|an xq<|br<|cU (X:=Nat) (fun i=> [(0,str s),(3,.int .i64 (i:Int))]) (fun i wr=>i≤s.length∧(∀j,j<i→isLet (s.getD j 0)=true)∧Below w.heap.size w wr) (fun i=>s.length - i) (0) ?_ ?_ ?_
 · exact by repeat first|exact aB|refine au rfl (by first|rfl|exact int_eq (by omega)) ?_
 · exact ⟨by omega,fun j h=>by omega,hb⟩
 rintro i wr J6 _ abW;replace J6:i≤s.length∧(∀j,j<i→isLet (s.getD j 0)=true)∧Below w.heap.size w wr:=J6;obtain ⟨hi,hall,hb⟩:=J6;show Wc _ _ _ _ _ [(0,str s),(3,.int .i64 (i:Int))] _;have:=hb.size;refine ax fun _ nX=>ao fun nY=>ai rfl<|ai rfl<|ah (dF bq (by omega) rfl) rfl<|ah (cg rfl rfl) rfl<|an nY<|aH rfl (fun va=>?_) (fun va=>?_)
 ·
  have XH:=va;simp only [DZ] at va;have hil:i<s.length:=by have:=va;omega
  obtain ⟨c,hc⟩:∃c,c=(s.getD i 0).toNat:=⟨_,rfl⟩;refine aU<|aw nX<|ax fun _ gd=>br<|ao fun iX=>ai rfl<|ai rfl<|ah (bt (eK bq rfl rfl (by omega) (by omega)) (int_eq (show _=(c:Int) by rw [hc,Int.toNat_natCast]))) rfl<|am rfl<|an iX<|ax fun _ xr=>b9 (X:=Bool) (fun q=> [(0,str s),(3,.int .i64 (i:Int)),(56,.bool q)]) (fun q wr=>q=(!isLet (s.getD i 0))∧Below w.heap.size w wr) (fun _ mr=>?_) ?_
  ·
   refine aR<|ai rfl<|ah (ig rfl rfl) rfl<|ai rfl<|cw rfl rfl rfl (fun BH=>?_) (fun BH=>?_)
   ·
    have p3:=BH;simp only [DZ] at BH;refine ai rfl<|aE rfl rfl p3<|ah (cg rfl rfl) rfl<|aE rfl rfl p3<|ai rfl<|dP rfl rfl rfl (fun p4=>?_) (fun p4=>?_)
    ·
     have l9:=p4;simp only [DZ] at p4;refine aA rfl rfl l9 rfl rfl<|aE rfl rfl p3<|ah (bi rfl l9 rfl) rfl<|ah (bi rfl p3 rfl) rfl<|ai rfl<|aE rfl rfl rfl<|ai rfl<|aE rfl rfl rfl<|ah (cg rfl rfl) rfl<|aE rfl rfl rfl<|ai rfl<|dP rfl rfl rfl (fun BN=>?_) (fun BN=>?_)
     ·
      have BO:=BN;simp only [DZ] at BN;refine aA rfl rfl BO rfl rfl<|aE rfl rfl rfl<|ah (bi rfl BO rfl) rfl<|ah (bi rfl rfl rfl) rfl<|ai rfl<|aE rfl rfl rfl<|ai rfl<|aE rfl rfl rfl<|ah (cg rfl rfl) rfl<|aE rfl rfl rfl<|ai rfl<|dP rfl rfl rfl (fun BR=>?_) (fun BR=>?_)
      ·
       have BS:=BR;simp only [DZ] at BR;refine aA rfl rfl BS rfl rfl<|aE rfl rfl rfl<|ah (bi rfl BS rfl) rfl<|ah (bi rfl rfl rfl) rfl<|ay<|aY mr (!isLet (s.getD i 0)) (by repeat first|exact aB|refine au rfl (by first|rfl|exact aP (by rw [o7,←hc,Bool.eq_iff_iff];simp<;>omega)) ?_) ?_
       exact ⟨rfl,hb⟩
      have BS:=BR;simp only [DZ] at BR;refine ai rfl<|aE rfl rfl BS<|ah (eW rfl rfl) rfl<|aE rfl rfl rfl<|ah (bg rfl BS rfl) rfl<|ah (bi rfl rfl rfl) rfl<|ay<|aY mr (!isLet (s.getD i 0)) (by repeat first|exact aB|refine au rfl (by first|rfl|exact aP (by rw [o7,←hc,Bool.eq_iff_iff];simp<;>omega)) ?_) ?_
      exact ⟨rfl,hb⟩
     have BO:=BN;simp only [DZ] at BN;refine ai rfl<|aE rfl rfl BO<|ah (eW rfl rfl) rfl<|aE rfl rfl rfl<|ah (bg rfl BO rfl) rfl<|ah (bi rfl rfl rfl) rfl<|ai rfl<|cw rfl rfl rfl (fun BZ=>?_) (fun BZ=>?_)
     ·
      have p8:=BZ;simp only [DZ] at BZ;refine ai rfl<|aE rfl rfl p8<|ah (cg rfl rfl) rfl<|aE rfl rfl p8<|ai rfl<|dP rfl rfl rfl (fun qa=>?_) (fun qa=>?_)
      ·
       have sA:=qa;simp only [DZ] at qa;refine aA rfl rfl sA rfl rfl<|aE rfl rfl p8<|ah (bi rfl sA rfl) rfl<|ah (bi rfl p8 rfl) rfl<|ay<|aY mr (!isLet (s.getD i 0)) (by repeat first|exact aB|refine au rfl (by first|rfl|exact aP (by rw [o7,←hc,Bool.eq_iff_iff];simp<;>omega)) ?_) ?_
       exact ⟨rfl,hb⟩
      have sA:=qa;simp only [DZ] at qa;refine ai rfl<|aE rfl rfl sA<|ah (eW rfl rfl) rfl<|aE rfl rfl p8<|ah (bg rfl sA rfl) rfl<|ah (bi rfl p8 rfl) rfl<|ay<|aY mr (!isLet (s.getD i 0)) (by repeat first|exact aB|refine au rfl (by first|rfl|exact aP (by rw [o7,←hc,Bool.eq_iff_iff];simp<;>omega)) ?_) ?_
      exact ⟨rfl,hb⟩
     have p8:=BZ;simp only [DZ] at BZ;refine aA rfl rfl p8 rfl rfl<|aA rfl rfl p8 rfl rfl<|cC rfl rfl rfl<|cC rfl rfl rfl<|aA rfl rfl p8 rfl rfl<|ah (bg rfl p8 rfl) rfl<|ay<|aY mr (!isLet (s.getD i 0)) (by repeat first|exact aB|refine au rfl (by first|rfl|exact aP (by rw [o7,←hc,Bool.eq_iff_iff];simp<;>omega)) ?_) ?_
     exact ⟨rfl,hb⟩
    have l9:=p4;simp only [DZ] at p4;refine ai rfl<|aE rfl rfl l9<|ah (eW rfl rfl) rfl<|aE rfl rfl p3<|ah (bg rfl l9 rfl) rfl<|ah (bi rfl p3 rfl) rfl<|ai rfl<|cw rfl rfl rfl (fun A6=>?_) (fun A6=>?_)
    ·
     have pI:=A6;simp only [DZ] at A6;refine ai rfl<|aE rfl rfl pI<|ah (cg rfl rfl) rfl<|aE rfl rfl pI<|ai rfl<|dP rfl rfl rfl (fun pJ=>?_) (fun pJ=>?_)
     ·
      have lV:=pJ;simp only [DZ] at pJ;refine aA rfl rfl lV rfl rfl<|aE rfl rfl pI<|ah (bi rfl lV rfl) rfl<|ah (bi rfl pI rfl) rfl<|ai rfl<|aE rfl rfl rfl<|ai rfl<|aE rfl rfl rfl<|ah (cg rfl rfl) rfl<|aE rfl rfl rfl<|ai rfl<|dP rfl rfl rfl (fun A9=>?_) (fun A9=>?_)
      ·
       have Ba:=A9;simp only [DZ] at A9;refine aA rfl rfl Ba rfl rfl<|aE rfl rfl rfl<|ah (bi rfl Ba rfl) rfl<|ah (bi rfl rfl rfl) rfl<|ay<|aY mr (!isLet (s.getD i 0)) (by repeat first|exact aB|refine au rfl (by first|rfl|exact aP (by rw [o7,←hc,Bool.eq_iff_iff];simp<;>omega)) ?_) ?_
       exact ⟨rfl,hb⟩
      have Ba:=A9;simp only [DZ] at A9;refine ai rfl<|aE rfl rfl Ba<|ah (eW rfl rfl) rfl<|aE rfl rfl rfl<|ah (bg rfl Ba rfl) rfl<|ah (bi rfl rfl rfl) rfl<|ay<|aY mr (!isLet (s.getD i 0)) (by repeat first|exact aB|refine au rfl (by first|rfl|exact aP (by rw [o7,←hc,Bool.eq_iff_iff];simp<;>omega)) ?_) ?_
      exact ⟨rfl,hb⟩
     have lV:=pJ;simp only [DZ] at pJ;refine ai rfl<|aE rfl rfl lV<|ah (eW rfl rfl) rfl<|aE rfl rfl pI<|ah (bg rfl lV rfl) rfl<|ah (bi rfl pI rfl) rfl<|ai rfl<|cw rfl rfl rfl (fun Bc=>?_) (fun Bc=>?_)
     ·
      have pL:=Bc;simp only [DZ] at Bc;refine ai rfl<|aE rfl rfl pL<|ah (cg rfl rfl) rfl<|aE rfl rfl pL<|ai rfl<|dP rfl rfl rfl (fun Bd=>?_) (fun Bd=>?_)
      ·
       have Bf:=Bd;simp only [DZ] at Bd;refine aA rfl rfl Bf rfl rfl<|aE rfl rfl pL<|ah (bi rfl Bf rfl) rfl<|ah (bi rfl pL rfl) rfl<|ay<|aY mr (!isLet (s.getD i 0)) (by repeat first|exact aB|refine au rfl (by first|rfl|exact aP (by rw [o7,←hc,Bool.eq_iff_iff];simp<;>omega)) ?_) ?_
       exact ⟨rfl,hb⟩
      have Bf:=Bd;simp only [DZ] at Bd;refine ai rfl<|aE rfl rfl Bf<|ah (eW rfl rfl) rfl<|aE rfl rfl pL<|ah (bg rfl Bf rfl) rfl<|ah (bi rfl pL rfl) rfl<|ay<|aY mr (!isLet (s.getD i 0)) (by repeat first|exact aB|refine au rfl (by first|rfl|exact aP (by rw [o7,←hc,Bool.eq_iff_iff];simp<;>omega)) ?_) ?_
      exact ⟨rfl,hb⟩
     have pL:=Bc;simp only [DZ] at Bc;refine aA rfl rfl pL rfl rfl<|aA rfl rfl pL rfl rfl<|cC rfl rfl rfl<|cC rfl rfl rfl<|aA rfl rfl pL rfl rfl<|ah (bg rfl pL rfl) rfl<|ay<|aY mr (!isLet (s.getD i 0)) (by repeat first|exact aB|refine au rfl (by first|rfl|exact aP (by rw [o7,←hc,Bool.eq_iff_iff];simp<;>omega)) ?_) ?_
     exact ⟨rfl,hb⟩
    have pI:=A6;simp only [DZ] at A6;refine aA rfl rfl pI rfl rfl<|aA rfl rfl pI rfl rfl<|cC rfl rfl rfl<|cC rfl rfl rfl<|aA rfl rfl pI rfl rfl<|ah (bg rfl pI rfl) rfl<|ai rfl<|aA rfl rfl rfl rfl rfl<|aA rfl rfl rfl rfl rfl<|aA rfl rfl rfl rfl rfl<|cC rfl rfl rfl<|cC rfl rfl rfl<|aA rfl rfl rfl rfl rfl<|ah (bg rfl rfl rfl) rfl<|ay<|aY mr (!isLet (s.getD i 0)) (by repeat first|exact aB|refine au rfl (by first|rfl|exact aP (by rw [o7,←hc,Bool.eq_iff_iff];simp<;>omega)) ?_) ?_
    exact ⟨rfl,hb⟩
   have p3:=BH;simp only [DZ] at BH;refine aA rfl rfl p3 rfl rfl<|aA rfl rfl p3 rfl rfl<|cC rfl rfl rfl<|cC rfl rfl rfl<|aA rfl rfl p3 rfl rfl<|ah (bg rfl p3 rfl) rfl<|ai rfl<|aA rfl rfl rfl rfl rfl<|aA rfl rfl rfl rfl rfl<|aA rfl rfl rfl rfl rfl<|cC rfl rfl rfl<|cC rfl rfl rfl<|aA rfl rfl rfl rfl rfl<|ah (bg rfl rfl rfl) rfl<|ai rfl<|aA rfl rfl rfl rfl rfl<|aA rfl rfl rfl rfl rfl<|aA rfl rfl rfl rfl rfl<|cC rfl rfl rfl<|cC rfl rfl rfl<|aA rfl rfl rfl rfl rfl<|ah (bg rfl rfl rfl) rfl<|ay<|aY mr (!isLet (s.getD i 0)) (by repeat first|exact aB|refine au rfl (by first|rfl|exact aP (by rw [o7,←hc,Bool.eq_iff_iff];simp<;>omega)) ?_) ?_
   exact ⟨rfl,hb⟩
  rintro q wr wO;replace wO:q=(!isLet (s.getD i 0))∧Below w.heap.size w wr:=wO;obtain ⟨hq,hb⟩:=wO;show Wq _ _ _ _ [(0,str s),(3,.int .i64 (i:Int)),(56,.bool q)] _;have:=hb.size;refine aw xr<|aH rfl (fun HR=>?_) (fun HR=>?_)
  ·
   have HS:=HR;have hlet:isLet (s.getD i 0)=false:=by have h:=hq.symm.trans HS;simpa using h
   refine ao fun Kz=>am rfl<|an Kz<|aK<|bE (aQ (aQ (bE (aQ ?_))))
   refine bj rfl rfl ?_;exact ⟨_,rfl,aP (by unfold bO;rw [eq_comm,Bool.and_eq_false_iff];right;rw [List.all_eq_false];exact ⟨_,B4 hil,by rw [hlet];simp⟩),hb⟩
  have HS:=HR;have hlet:isLet (s.getD i 0)=true:=by have h:=hq.symm.trans HS;simpa using h
  refine aU<|bS<|aw gd<|aR<|ai rfl<|ah (bH rfl rfl (by omega) (by omega)) rfl<|am rfl<|ay<|fun a_ bn=>abW _ _ (i+1) (by omega) (by repeat first|exact aB|refine au rfl (by first|rfl|exact int_eq (by omega)) ?_) ?_ a_ bn
  exact ⟨by omega,fun j hj=>by (by_cases e:j=i);(· rw [e];exact hlet);(· exact hall j (by omega)),hb⟩
 have XH:=va;simp only [DZ] at va;refine cN<|bD<|bD<|cO<|aw mf<|ao fun Co=>am rfl<|an Co<|aK<|bj rfl rfl ?_
 exact ⟨_,rfl,aP (by
 unfold bO;rw [hw,eq_comm,Bool.true_and,List.all_eq_true]
 intro c hc
 obtain ⟨j,hj,e⟩:=List.mem_iff_getElem.1 hc
 have:=hall j (by have:=va;omega)
 simpa [List.getD,List.getElem?_eq_getElem hj,e] using this),hb⟩
end Go.Proofs.YtjmlknjbhbfneaaGreatDoor
