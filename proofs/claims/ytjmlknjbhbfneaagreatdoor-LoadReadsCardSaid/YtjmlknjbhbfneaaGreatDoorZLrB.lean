import Derived.Test.YtjmlknjbhbfneaaGreatDoorZLrA
namespace Go.Proofs.YtjmlknjbhbfneaaGreatDoor
open Go.RowKit Go.Bw Go.Bw.Fl
set_option linter.unusedVariables false
set_option linter.unusedSimpArgs false
theorem MV:bC Tryz.prog 79:=⟨_,Tryz.func79,by kernel_rfl,rfl⟩
def EqAt (s:al) (k:Int):Prop:=(k= -1∧(61:UInt8) ∉ s)∨∃i:Nat,k=(i:Int)∧i<s.length∧s.getD i 0=61∧(61:UInt8) ∉ s.take i
theorem RN {s:al} {i:Nat} (h:∀j,j<i→s.getD j 0≠61) (hi:i≤s.length):(61:UInt8) ∉ s.take i:=fun hm=>by
 obtain ⟨j,hj,he⟩:=List.getElem_of_mem hm;rw [List.length_take] at hj;rw [List.getElem_take] at he;exact h j (by omega) (by rw [getD_at 0 (by omega),he])
theorem VL (s:al) (hs:s.length≤4294967296) (w:World):be Tryz.prog 81 [str s] w fun v w'=>(∃k,v= .int .i64 k∧EqAt s k)∧Below w.heap.size w w':=by
 have hb:=Below.refl w.heap.size w;refine enter Tryz.func81 rfl rfl rfl<|ao fun aZ=>am rfl<|an aZ<|ax fun _ bJ=>ao fun bX=>am rfl<|an bX<|br<|cU (X:=Nat) (fun i=> [(0,str s),(3,.int .i64 (i:Int))]) (fun i wr=>i≤s.length∧(∀j,j<i→s.getD j 0≠61)∧Below w.heap.size w wr) (fun i=>s.length - i) (0) ?_ ?_ ?_
 · exact by repeat first|exact aB|refine au rfl (by first|rfl|exact int_eq (by omega)) ?_
 · exact ⟨by omega,fun j h=>by omega,hb⟩
 rintro i wr xd _ K2;replace xd:i≤s.length∧(∀j,j<i→s.getD j 0≠61)∧Below w.heap.size w wr:=xd;obtain ⟨hi,hall,hb⟩:=xd;show Wc _ _ _ _ _ [(0,str s),(3,.int .i64 (i:Int))] _;have:=hb.size;refine ax fun _ gp=>ao fun ek=>ai rfl<|ai rfl<|ah (dF bq (by omega) rfl) rfl<|ah (cg rfl rfl) rfl<|an ek<|aH rfl (fun dR=>?_) (fun dR=>?_)
 ·
  have nz:=dR;simp only [DZ] at dR;have hil:i<s.length:=by have:=dR;omega
  refine aU<|aw gp<|ax fun _ fj=>br<|ao fun gY=>ai rfl<|ai rfl<|ah (bt (eK bq rfl rfl (by omega) (by omega)) (int_eq (show _=(((s.getD i 0).toNat:Nat):Int) by rw [Int.toNat_natCast]))) rfl<|ah (bA rfl rfl) rfl<|an gY<|aH rfl (fun im=>?_) (fun im=>?_)
  ·
   have yx:=im;simp only [DZ] at im;have hc1:s.getD i 0=61:=UInt8.toNat_inj.1 (by have:=im;show (s.getD i 0).toNat=61;omega);refine ao fun kT=>ai rfl<|am rfl<|an kT<|aK<|bE (aQ (aQ (bE (aQ ?_))))
   refine bj rfl rfl ?_;exact ⟨_,rfl,⟨_,rfl,.inr ⟨i,rfl,hil,hc1,RN hall hi⟩⟩,hb⟩
  have yx:=im;simp only [DZ] at im;have hc1:s.getD i 0≠61:=fun h=>im (by rw [h];rfl);refine aU<|bS<|aw fj<|aR<|ai rfl<|ah (bH rfl rfl (by omega) (by omega)) rfl<|am rfl<|ay<|fun a_ bn=>K2 _ _ (i+1) (by omega) (by repeat first|exact aB|refine au rfl (by first|rfl|exact int_eq (by omega)) ?_) ?_ a_ bn
  exact ⟨by omega,fun j hj=>by (by_cases e:j=i);(· rw [e];exact hc1);(· exact hall j (by omega)),hb⟩
 have nz:=dR;simp only [DZ] at dR;have hie:i=s.length:=by have:=dR;omega
 have hno:=RN hall hi;rw [hie,List.take_length] at hno;refine cN<|bD<|bD<|cO<|aw bJ<|ao fun eG=>am rfl<|an eG<|aK<|bj rfl rfl ?_
 exact ⟨_,rfl,⟨_,rfl,.inl ⟨rfl,hno⟩⟩,hb⟩
def mE (a b:Int):Int:=if a=0∨(b≠0∧b<a) then b else a
theorem Ed (a b:Int) (w:World):be Tryz.prog 48 [.int .i64 a,.int .i64 b] w fun v w'=>v= .int .i64 (mE a b)∧Below w.heap.size w w':=by
 have hb:=Below.refl w.heap.size w;refine enter Tryz.func48 rfl rfl rfl<|ao fun aZ=>am rfl<|an aZ<|ax fun _ bJ=>ax fun _ bX=>b9 (X:=Bool) (fun q=> [(0,.int .i64 a),(1,.int .i64 b),(15,.bool q)]) (fun q wr=>q=decide (a=0∨(b≠0∧b<a))∧Below w.heap.size w wr) (fun _ oe=>?_) ?_
 ·
  refine aR<|ai rfl<|ah (bA rfl rfl) rfl<|ai rfl<|dP rfl rfl rfl (fun gy=>?_) (fun gy=>?_)
  ·
   have dU:=gy;simp only [DZ] at gy;refine aA rfl rfl dU rfl rfl<|aA rfl rfl dU rfl rfl<|cC rfl rfl rfl<|cC rfl rfl rfl<|cC rfl rfl rfl<|aA rfl rfl dU rfl rfl<|ah (bi rfl dU rfl) rfl<|ay<|aY oe (decide (a=0∨(b≠0∧b<a))) (by repeat first|exact aB|refine au rfl (by first|rfl|exact aP (by rw [Bool.eq_iff_iff];simp_all<;>omega)|exact aP (by rw [Bool.eq_iff_iff];simp_all;done)) ?_) ?_
   exact ⟨rfl,hb⟩
  have dU:=gy;simp only [DZ] at gy;refine ai rfl<|aE rfl rfl dU<|ah (ig rfl rfl) rfl<|aE rfl rfl dU<|ai rfl<|cw rfl rfl rfl (fun qT=>?_) (fun qT=>?_)
  ·
   have oO:=qT;simp only [DZ] at qT;refine ai rfl<|aE rfl rfl oO<|ai rfl<|aE rfl rfl oO<|ah (cg rfl rfl) rfl<|aE rfl rfl dU<|ah (bi rfl oO rfl) rfl<|ah (bg rfl dU rfl) rfl<|ay<|aY oe (decide (a=0∨(b≠0∧b<a))) (by repeat first|exact aB|refine au rfl (by first|rfl|exact aP (by rw [Bool.eq_iff_iff];simp_all<;>omega)|exact aP (by rw [Bool.eq_iff_iff];simp_all;done)) ?_) ?_
   exact ⟨rfl,hb⟩
  have oO:=qT;simp only [DZ] at qT;refine aA rfl rfl oO rfl rfl<|aA rfl rfl oO rfl rfl<|aE rfl rfl dU<|ah (bg rfl oO rfl) rfl<|ah (bg rfl dU rfl) rfl<|ay<|aY oe (decide (a=0∨(b≠0∧b<a))) (by repeat first|exact aB|refine au rfl (by first|rfl|exact aP (by rw [Bool.eq_iff_iff];simp_all<;>omega)|exact aP (by rw [Bool.eq_iff_iff];simp_all;done)) ?_) ?_
  exact ⟨rfl,hb⟩
 rintro q wr JQ;replace JQ:q=decide (a=0∨(b≠0∧b<a))∧Below w.heap.size w wr:=JQ;obtain ⟨hq,hb⟩:=JQ;show Wq _ _ _ _ [(0,.int .i64 a),(1,.int .i64 b),(15,.bool q)] _;have:=hb.size;refine aw bX<|aH rfl (fun Hd=>?_) (fun Hd=>?_)
 ·
  have He:=Hd;have hc:=of_decide_eq_true (hq.symm.trans He);refine ao fun jf=>ai rfl<|am rfl<|an jf<|aK<|aQ<|bj rfl rfl ?_
  exact ⟨_,rfl,int_eq (by unfold mE;rw [if_pos hc]),hb⟩
 have He:=Hd;have hc:=of_decide_eq_false (hq.symm.trans He);refine aU<|aw bJ<|ao fun kU=>ai rfl<|am rfl<|an kU<|aK<|bj rfl rfl ?_
 exact ⟨_,rfl,int_eq (by unfold mE;rw [if_neg hc]),hb⟩
theorem zj (l:List (al)):∀u∈strs l,u.oneCell'=true:=fun u hu=>by obtain ⟨x,_,rfl⟩:=List.mem_map.1 hu;rfl
theorem MI (l:List (al)) (k:Nat):(strs l).take k=strs (l.take k):=by unfold strs;rw [List.map_take]
theorem F2 (l:List (al)) (k:Nat):(strs l).drop k=strs (l.drop k):=by unfold strs;rw [List.map_drop]
theorem x5 (a b:List (al)):strs (a++b)=strs a++strs b:=by unfold strs;rw [List.map_append]
def wK (l:List (al)) (x:al):Nat:=(l.takeWhile fun y=>Op.bytesLess y x).length
def fR (l:List (al)) (x:al):List (al):=if x∈l then l else l.take (wK l x)++x :: l.drop (wK l x)
theorem ahz (l:List (al)) (x:al):wK l x≤l.length:=(List.takeWhile_prefix _).length_le
theorem Uy (l:List (al)) (x:al):(fR l x).length≤l.length+1:=by
 unfold fR
 split
 · omega
 · have:=ahz l x
   simp;omega
theorem NK (A:Option Addr) (c n:Nat) (l:List (al)) (x:al) (hn:l.length=n) (hl:n≤1099511627776) (hc:n≤c) (w:World) (hR:Rd w 1 A n (strs l)) (hA:∀q,A=some q→q.block<w.heap.size):
 be Tryz.prog 80 [.slice A n c,str x] w fun v w'=>(∃A' c',v= .slice A' (fR l x).length c'∧(fR l x).length≤c'∧Rd w' 1 A' (fR l x).length (strs (fR l x))∧(∀q,A'=some q→A=some q∨w.heap.size≤q.block)∧∀q,A'=some q→q.block<w'.heap.size)∧Below w.heap.size w w':=by
 subst hn
 have hb:=Below.refl w.heap.size w
 have bh:=hR
 refine enter Tryz.func80 rfl rfl rfl<|ao fun aZ=>am rfl<|an aZ<|ax fun _ bJ=>ao fun bX=>ai rfl<|ai rfl<|aS MV rfl rfl (GQ A c l x (by omega) _ hR) rfl ?_
 rintro _ cq ⟨rfl,bm⟩
 have:=bm.size
 have hb:=az hb bm
 have hR:=bh.below hb
 refine an bX<|aH rfl (fun d1=>?_) (fun d1=>?_)
 ·
  have j8:=d1;simp only [DZ] at d1;have hin:x∈l:=of_decide_eq_true j8;have hwv:fR l x=l:=if_pos hin;refine ao fun ek=>ai rfl<|am rfl<|an ek<|aK<|aQ<|bj rfl rfl ?_
  exact ⟨_,rfl,⟨A,c,by rw [hwv],by rw [hwv];exact hc,by rw [hwv];exact hR,fun q h=> .inl h,fun q h=>Nat.lt_of_lt_of_le (hA q h) hb.size⟩,hb⟩
 have j8:=d1
 simp only [DZ] at d1
 have hin:x ∉ l:=of_decide_eq_false j8
 refine aU<|aw bJ<|ao fun eO=>am rfl<|an eO<|ax fun _ eR=>br<|cU (X:=Nat) (fun k=> [(0,.slice A l.length c),(1,str x),(5,.int .i64 (k:Int))]) (fun k wr=>k≤l.length∧(∀j,j<k→Op.bytesLess (l.getD j []) x=true)∧Below w.heap.size w wr) (fun k=>l.length - k) (0) ?_ ?_ ?_
 · exact by repeat first|exact aB|refine au rfl (by first|rfl|exact int_eq (by omega)) ?_
 · exact ⟨by omega,fun j h=>by omega,hb⟩
 rintro k wr wQ _ abK
 replace wQ:k≤l.length∧(∀j,j<k→Op.bytesLess (l.getD j []) x=true)∧Below w.heap.size w wr:=wQ
 obtain ⟨hk,hall,hb⟩:=wQ
 show Wc _ _ _ _ _ [(0,.slice A l.length c),(1,str x),(5,.int .i64 (k:Int))] _
 have hR:=bh.below hb
 have:=hb.size
 refine ax fun _ iA=>ax fun _ dL=>b9 (X:=Bool) (fun q=> [(0,.slice A l.length c),(1,str x),(5,.int .i64 (k:Int)),(21,.bool q)]) (fun q wr=>q=(decide (k<l.length)&&Op.bytesLess (l.getD k []) x)∧Below w.heap.size w wr) (fun _ CF=>?_) ?_
 ·
  refine aR<|ai rfl<|ai rfl<|ah (cG bK (by omega) rfl) rfl<|ah (cg rfl rfl) rfl<|ai rfl<|cw rfl rfl rfl (fun kd=>?_) (fun kd=>?_)
  ·
   have gx:=kd;simp only [DZ] at kd;have hkl:k<l.length:=by have:=kd;omega
   obtain ⟨p_,v_,hpe,hve,hcell⟩:=hR.one (i:=k) hkl;obtain rfl:=i6 hkl hve;refine ai rfl<|aE rfl rfl gx<|ai rfl<|aE rfl rfl gx<|ah (cx (sz:=1) (p:=p_) bK (by kernel_rfl) (by rw [hpe];rfl) rfl (by omega) (by omega)) rfl<|aE rfl rfl gx<|aW (aI bQ rfl (by exact gH hcell)) rfl<|aE rfl rfl gx<|ai rfl<|aE rfl rfl gx<|ah (ah3 rfl rfl) rfl<|ah (bi rfl gx rfl) rfl<|ay<|aY CF (decide (k<l.length)&&Op.bytesLess (l.getD k []) x) (by repeat first|exact aB|refine au rfl (by first|rfl|exact aP (by rw [decide_eq_true hkl,Bool.true_and])|exact aP (by rw [decide_eq_false (by omega)];rfl)) ?_) ?_
   exact ⟨rfl,hb⟩
  have gx:=kd;simp only [DZ] at kd;refine aA rfl rfl gx rfl rfl<|aA rfl rfl gx rfl rfl<|aA rfl rfl gx rfl rfl<|aA rfl rfl gx rfl rfl<|aA rfl rfl gx rfl rfl<|ah (bg rfl gx rfl) rfl<|ay<|aY CF (decide (k<l.length)&&Op.bytesLess (l.getD k []) x) (by repeat first|exact aB|refine au rfl (by first|rfl|exact aP (by rw [decide_eq_true hkl,Bool.true_and])|exact aP (by rw [decide_eq_false (by omega)];rfl)) ?_) ?_
  exact ⟨rfl,hb⟩
 rintro q wr wW
 replace wW:q=(decide (k<l.length)&&Op.bytesLess (l.getD k []) x)∧Below w.heap.size w wr:=wW
 obtain ⟨hq,hb⟩:=wW
 show Wq _ _ _ _ [(0,.slice A l.length c),(1,str x),(5,.int .i64 (k:Int)),(21,.bool q)] _
 have hR:=bh.below hb
 have:=hb.size
 refine aw dL<|aH rfl (fun HH=>?_) (fun HH=>?_)
 ·
  have HI:=HH;have hq1:k<l.length∧Op.bytesLess (l.getD k []) x=true:=by have h:=hq.symm.trans HI;rw [Bool.and_eq_true,decide_eq_true_eq] at h;exact h
  refine aU<|aw iA<|br<|aR<|ai rfl<|ah (bH rfl rfl (by omega) (by omega)) rfl<|am rfl<|ay<|bS<|fun a_ bn=>abK _ _ (k+1) (by omega) (by repeat first|exact aB|refine au rfl (by first|rfl|exact int_eq (by omega)) ?_) ?_ a_ bn
  exact ⟨by omega,fun j hj=>by (by_cases e:j=k);(· rw [e];exact hq1.2);(· exact hall j (by omega)),hb⟩
 have HI:=HH
 have hq1:¬(k<l.length∧Op.bytesLess (l.getD k []) x=true):=by have h:=hq.symm.trans HI;rintro ⟨h1,h2⟩;rw [decide_eq_true h1,h2] at h;cases h
 have hwk:wK l x=k:=Gb _ [] l k hk hall (fun h=>by cases e:Op.bytesLess (l.getD k []) x with|false=>rfl|true=>exact absurd ⟨h,e⟩ hq1)
 have hwv:fR l x=l.take k++ [x]++l.drop k:=by unfold fR;rw [if_neg hin,hwk];simp
 refine cN<|bD<|bD<|cO<|aw eR<|ax fun _ fx=>gG (n:=13) (fun w'=>Below w.heap.size w w') #[ac,ac,ac,ac,ac,ac,ac,ac,ac,ac,ac,ac,ac] (by kernel_rfl) rfl (by kernel_rfl)<|gF ?_
 rintro Gz jD
 have:=jD.size
 have hb:=az hb jD
 have hR:=bh.below hb
 refine aT (i:=1) #[ac,ab,ac,ac,ac,ac,ac,ac,ac,ac,ac,ac,ac] rfl (by kernel_rfl) aO rfl (fun wq hq=>a8 (bl rfl)) hb<|aT (i:=2) #[ac,ab,ab,ac,ac,ac,ac,ac,ac,ac,ac,ac,ac] rfl (by kernel_rfl) aO rfl (fun wq hq=>a8 (bl rfl)) hb<|aT (i:=3) #[ac,ab,ab,ab,ac,ac,ac,ac,ac,ac,ac,ac,ac] rfl (by kernel_rfl) aO rfl (fun wq hq=>a8 (GJ bK eo rfl rfl (by omega) (by omega))) hb<|aT (i:=5) #[ac,ab,ab,ab,ac,ab,ac,ac,ac,ac,ac,ac,ac] rfl (by kernel_rfl) aO rfl (fun wq hq=>a8 (bl rfl)) hb<|aT (i:=8) #[ac,ab,ab,ab,ac,ab,ac,ac,ab,ac,ac,ac,ac] rfl (by kernel_rfl) aO rfl (fun wq hq=>a8 (bl rfl)) hb<|aT (i:=9) #[ac,ab,ab,ab,ac,ab,ac,ac,ab,ab,ac,ac,ac] rfl (by kernel_rfl) aO rfl (fun wq hq=>a8 (bl rfl)) hb<|aT (i:=10) #[ac,ab,ab,ab,ac,ab,ac,ac,ab,ab,ab,ac,ac] rfl (by kernel_rfl) aO rfl (fun wq hq=>a8 (nr bK eo rfl rfl (by omega) (by omega))) hb<|bM (rs:= [0,6]) (by kernel_rfl) rfl<|bv #[ab,ab,ab,ab,ac,ab,ac,ac,ab,ab,ab,ac,ac] rfl rfl (fun _ jj=>?_) ?_
 ·
  refine jM bK (by kernel_rfl) rfl ?_;rintro gc kw dg cD dW;have qA:=dW.size;have hb:=az hb dW;have hR:=bh.below hb;have xH:=cD.lt;refine ay<|bu jj hb<|bM (rs:= [4,6]) (by kernel_rfl) rfl<|bv #[ab,ab,ab,ab,ab,ab,ac,ac,ab,ab,ab,ac,ac] rfl rfl (fun _ iX=>?_) ?_
  ·
   have hO:=cD.own (base:=w.heap.size) (n:=0) (sz:=1) (by omega) rfl (by decide);refine dK (z:=(str [])) (sz:=1) (bytes:=16) bK (by kernel_rfl) rfl (by decide) _ rfl hO rfl (hR.take (by omega)) (fun u hu=>zj l u (List.mem_of_mem_take hu)) (by simp only [maxLen];omega) (by omega) (by exact hb.size) rfl ?_;rintro ry mJ oi ey ug;have sY:=ey.size;have hb:=hb.grown ey hb.size (fun k_ ba=>by have:=(bz hO k_ ba).1;omega);have hR:=bh.below hb;have hO:=oi;refine ay<|bu iX hb<|bM (rs:= [6]) (by kernel_rfl) rfl<|bv #[ab,ab,ab,ab,ab,ab,ab,ac,ab,ab,ab,ac,ac] rfl rfl (fun _ mi=>?_) ?_
   ·
    refine dX (sz:=1) (vs:= [_]) bK (by kernel_rfl) rfl rfl rfl rfl rfl rfl ?_;rintro PF np ed m4 rb;have rg:=rb.size;have hb:=az hb rb;have hR:=bh.below hb;have hO:=cR hO rb;have QM:=m4.lt;refine ay<|bu mi hb<|bM (rs:= [7]) (by kernel_rfl) rfl<|bv #[ab,ab,ab,ab,ab,ab,ab,ab,ab,ab,ab,ac,ac] rfl rfl (fun _ n5=>?_) ?_
    ·
     refine dK (z:=(str [])) (sz:=1) (bytes:=16) bK (by kernel_rfl) rfl (by decide) _ rfl hO rfl (m4.rd 1 1 rfl) (s6 _) (by simp only [maxLen];omega) (by omega) (by exact hb.size) rfl ?_;rintro Uf oz CR kk QC;have qB:=kk.size;have hb:=hb.grown kk hb.size (fun k_ ba=>by have:=(bz hO k_ ba).1;omega);have hR:=bh.below hb;have hO:=CR;refine ay<|bu n5 hb<|bM (rs:= [11]) (by kernel_rfl) rfl<|bv #[ab,ab,ab,ab,ab,ab,ab,ab,ab,ab,ab,ab,ac] rfl rfl (fun _ qn=>?_) ?_
     ·
      refine dK (z:=(str [])) (sz:=1) (bytes:=16) bK (by kernel_rfl) rfl (by decide) _ rfl hO rfl (hR.drop (by omega) hc) (fun u hu=>zj l u (List.mem_of_mem_drop hu)) (by simp only [maxLen];omega) (by omega) (by exact hb.size) rfl ?_;rintro yg tk oj e8 yY;have Fs:=e8.size;have hb:=hb.grown e8 hb.size (fun k_ ba=>by have:=(bz hO k_ ba).1;omega);have hR:=bh.below hb;have hO:=oj;refine ay<|bu qn hb ?_
      have hO:=ot (xs':=strs (fR l x)) (n':=(fR l x).length) hO (by rw [hwv,x5,x5,←MI,←F2,Int.toNat_natCast,Nat.mul_one];rfl) (by rw [hwv];simp;omega);obtain ⟨Ao,co,hve,hco,_⟩:=eT hO;subst hve;refine aT (i:=12) #[ab,ab,ab,ab,ab,ab,ab,ab,ab,ab,ab,ab,ab] rfl (by kernel_rfl) aO rfl (fun wq hq=>a8 (cX rfl)) hb<|eE (by kernel_rfl)<|aw fx<|aK<|bj rfl rfl ?_
      exact ⟨_,rfl,⟨Ao,co,rfl,hco,fC hO,fun q h=> .inr (bz hO _ (by rw [h];rfl)).1,fun q h=>(bz hO _ (by rw [h];rfl)).2⟩,hb⟩
     exact bN
    exact bN
   exact bN
  refine bv #[ab,ab,ab,ab,ac,ab,ab,ac,ab,ab,ab,ac,ac] rfl rfl (fun _ ml=>?_) ?_
  ·
   refine dX (sz:=1) (vs:= [_]) bK (by kernel_rfl) rfl rfl rfl rfl rfl rfl ?_;rintro PF np ed m4 rb;have rg:=rb.size;have hb:=az hb rb;have hR:=bh.below hb;have cD:=aq.below cD rb;have QM:=m4.lt;refine ay<|bu ml hb<|bM (rs:= [4]) (by kernel_rfl) rfl<|bv #[ab,ab,ab,ab,ab,ab,ab,ac,ab,ab,ab,ac,ac] rfl rfl (fun _ n7=>?_) ?_
   ·
    have hO:=cD.own (base:=w.heap.size) (n:=0) (sz:=1) (by omega) rfl (by decide);refine dK (z:=(str [])) (sz:=1) (bytes:=16) bK (by kernel_rfl) rfl (by decide) _ rfl hO rfl (hR.take (by omega)) (fun u hu=>zj l u (List.mem_of_mem_take hu)) (by simp only [maxLen];omega) (by omega) (by exact hb.size) rfl ?_;rintro ry mJ oi ey ug;have sY:=ey.size;have hb:=hb.grown ey hb.size (fun k_ ba=>by have:=(bz hO k_ ba).1;omega);have hR:=bh.below hb;have m4:=aq.grown m4 ey (by first|assumption|(simp [Value.ownBlock];omega));have hO:=oi;refine ay<|bu n7 hb<|bM (rs:= [7]) (by kernel_rfl) rfl<|bv #[ab,ab,ab,ab,ab,ab,ab,ab,ab,ab,ab,ac,ac] rfl rfl (fun _ sJ=>?_) ?_
    ·
     refine dK (z:=(str [])) (sz:=1) (bytes:=16) bK (by kernel_rfl) rfl (by decide) _ rfl hO rfl (m4.rd 1 1 rfl) (s6 _) (by simp only [maxLen];omega) (by omega) (by exact hb.size) rfl ?_;rintro Uf oz CR kk QC;have qB:=kk.size;have hb:=hb.grown kk hb.size (fun k_ ba=>by have:=(bz hO k_ ba).1;omega);have hR:=bh.below hb;have hO:=CR;refine ay<|bu sJ hb<|bM (rs:= [11]) (by kernel_rfl) rfl<|bv #[ab,ab,ab,ab,ab,ab,ab,ab,ab,ab,ab,ab,ac] rfl rfl (fun _ xt=>?_) ?_
     ·
      refine dK (z:=(str [])) (sz:=1) (bytes:=16) bK (by kernel_rfl) rfl (by decide) _ rfl hO rfl (hR.drop (by omega) hc) (fun u hu=>zj l u (List.mem_of_mem_drop hu)) (by simp only [maxLen];omega) (by omega) (by exact hb.size) rfl ?_;rintro yg tk oj e8 yY;have Fs:=e8.size;have hb:=hb.grown e8 hb.size (fun k_ ba=>by have:=(bz hO k_ ba).1;omega);have hR:=bh.below hb;have hO:=oj;refine ay<|bu xt hb ?_
      have hO:=ot (xs':=strs (fR l x)) (n':=(fR l x).length) hO (by rw [hwv,x5,x5,←MI,←F2,Int.toNat_natCast,Nat.mul_one];rfl) (by rw [hwv];simp;omega);obtain ⟨Ao,co,hve,hco,_⟩:=eT hO;subst hve;refine aT (i:=12) #[ab,ab,ab,ab,ab,ab,ab,ab,ab,ab,ab,ab,ab] rfl (by kernel_rfl) aO rfl (fun wq hq=>a8 (cX rfl)) hb<|eE (by kernel_rfl)<|aw fx<|aK<|bj rfl rfl ?_
      exact ⟨_,rfl,⟨Ao,co,rfl,hco,fC hO,fun q h=> .inr (bz hO _ (by rw [h];rfl)).1,fun q h=>(bz hO _ (by rw [h];rfl)).2⟩,hb⟩
     exact bN
    exact bN
   exact bN
  exact bN
 refine bv #[ac,ab,ab,ab,ac,ab,ab,ac,ab,ab,ab,ac,ac] rfl rfl (fun _ mn=>?_) ?_
 ·
  refine dX (sz:=1) (vs:= [_]) bK (by kernel_rfl) rfl rfl rfl rfl rfl rfl ?_;rintro PF np ed m4 rb;have rg:=rb.size;have hb:=az hb rb;have hR:=bh.below hb;have QM:=m4.lt;refine ay<|bu mn hb<|bM (rs:= [0]) (by kernel_rfl) rfl<|bv #[ab,ab,ab,ab,ac,ab,ab,ac,ab,ab,ab,ac,ac] rfl rfl (fun _ oS=>?_) ?_
  ·
   refine jM bK (by kernel_rfl) rfl ?_;rintro gc kw dg cD dW;have qA:=dW.size;have hb:=az hb dW;have hR:=bh.below hb;have m4:=aq.below m4 dW;have xH:=cD.lt;refine ay<|bu oS hb<|bM (rs:= [4]) (by kernel_rfl) rfl<|bv #[ab,ab,ab,ab,ab,ab,ab,ac,ab,ab,ab,ac,ac] rfl rfl (fun _ xu=>?_) ?_
   ·
    have hO:=cD.own (base:=w.heap.size) (n:=0) (sz:=1) (by omega) rfl (by decide);refine dK (z:=(str [])) (sz:=1) (bytes:=16) bK (by kernel_rfl) rfl (by decide) _ rfl hO rfl (hR.take (by omega)) (fun u hu=>zj l u (List.mem_of_mem_take hu)) (by simp only [maxLen];omega) (by omega) (by exact hb.size) rfl ?_;rintro ry mJ oi ey ug;have sY:=ey.size;have hb:=hb.grown ey hb.size (fun k_ ba=>by have:=(bz hO k_ ba).1;omega);have hR:=bh.below hb;have m4:=aq.grown m4 ey (by first|assumption|(simp [Value.ownBlock];omega));have hO:=oi;refine ay<|bu xu hb<|bM (rs:= [7]) (by kernel_rfl) rfl<|bv #[ab,ab,ab,ab,ab,ab,ab,ab,ab,ab,ab,ac,ac] rfl rfl (fun _ n8=>?_) ?_
    ·
     refine dK (z:=(str [])) (sz:=1) (bytes:=16) bK (by kernel_rfl) rfl (by decide) _ rfl hO rfl (m4.rd 1 1 rfl) (s6 _) (by simp only [maxLen];omega) (by omega) (by exact hb.size) rfl ?_;rintro Uf oz CR kk QC;have qB:=kk.size;have hb:=hb.grown kk hb.size (fun k_ ba=>by have:=(bz hO k_ ba).1;omega);have hR:=bh.below hb;have hO:=CR;refine ay<|bu n8 hb<|bM (rs:= [11]) (by kernel_rfl) rfl<|bv #[ab,ab,ab,ab,ab,ab,ab,ab,ab,ab,ab,ab,ac] rfl rfl (fun _ mp=>?_) ?_
     ·
      refine dK (z:=(str [])) (sz:=1) (bytes:=16) bK (by kernel_rfl) rfl (by decide) _ rfl hO rfl (hR.drop (by omega) hc) (fun u hu=>zj l u (List.mem_of_mem_drop hu)) (by simp only [maxLen];omega) (by omega) (by exact hb.size) rfl ?_;rintro yg tk oj e8 yY;have Fs:=e8.size;have hb:=hb.grown e8 hb.size (fun k_ ba=>by have:=(bz hO k_ ba).1;omega);have hR:=bh.below hb;have hO:=oj;refine ay<|bu mp hb ?_
      have hO:=ot (xs':=strs (fR l x)) (n':=(fR l x).length) hO (by rw [hwv,x5,x5,←MI,←F2,Int.toNat_natCast,Nat.mul_one];rfl) (by rw [hwv];simp;omega);obtain ⟨Ao,co,hve,hco,_⟩:=eT hO;subst hve;refine aT (i:=12) #[ab,ab,ab,ab,ab,ab,ab,ab,ab,ab,ab,ab,ab] rfl (by kernel_rfl) aO rfl (fun wq hq=>a8 (cX rfl)) hb<|eE (by kernel_rfl)<|aw fx<|aK<|bj rfl rfl ?_
      exact ⟨_,rfl,⟨Ao,co,rfl,hco,fC hO,fun q h=> .inr (bz hO _ (by rw [h];rfl)).1,fun q h=>(bz hO _ (by rw [h];rfl)).2⟩,hb⟩
     exact bN
    exact bN
   exact bN
  exact bN
 exact bN
end Go.Proofs.YtjmlknjbhbfneaaGreatDoor
