import Derived.Test.YtjmlknjbhbfneaaGreatDoorZLS
namespace Go.Proofs.YtjmlknjbhbfneaaGreatDoor
open Go.RowKit Go.Bw Go.Bw.Fl
set_option linter.unusedVariables false
set_option linter.unusedSimpArgs false
theorem TR:bC Tryz.prog 44:=⟨_,Tryz.func44,by kernel_rfl,rfl⟩
theorem NI (s:al) (hs:s.length≤140737488355328) (w:World):be Tryz.prog 44 [str s] w fun v w'=>(∃u n ok,v= .tuple #[bW.enc u,.int .i64 (n:Nat),.bool ok]∧zR (bZ pf bL s) u n ok)∧Below w.heap.size w w':=
 (VC s hs w).mono fun v w' ⟨h1,h2⟩=>⟨by
  subst h1
  cases h:bZ pf bL s with
  |none=>exact ⟨dh,0,false,rfl,.inr ⟨rfl,rfl,rfl,rfl⟩⟩
  |some r=>exact ⟨r.1,r.2,true,rfl,.inl ⟨rfl,rfl⟩⟩,h2⟩
theorem age {c:UInt8} {r:al} (h1:c≠32) (h2:c≠35):bF (c :: r)=c :: r:=by
 unfold bF;have e:Lib.trimLeftB (c :: r) 32=c :: r:=by unfold Lib.trimLeftB;rw [List.dropWhile_cons_of_neg (by simpa using h1)]
 rw [e,FP,if_neg (by simpa using h2)]
theorem ZS (r:al):cJ (32 :: r)=cJ r:=by
 rw [←mS (32 :: r),←mS r]
 congr 1
theorem ZT (r:al):cJ (35 :: r)=some []:=oN (by
 unfold bF
 have e:Lib.trimLeftB (35 :: r) 32=35 :: r:=rfl
 rw [e,FP];rfl)
theorem Jd (s:al) (a k:Nat):(s.drop a).getD k 0=s.getD (a+k) 0:=by simp [List.getD,List.getElem?_drop]
structure pq (s:al) (a e:Nat):Prop where
 le:a≤e
 len:e≤s.length
 in_:∀j,a≤j→j<e→(s.getD j 0).toNat≠32∧(s.getD j 0).toNat≠61
 out:e<s.length→(s.getD e 0).toNat=32∨(s.getD e 0).toNat=61
theorem pq.fld {s:al} {a e:Nat} (h:pq s a e):mT (s.drop a)=e - a:=by
 have h1:=h.le;have h2:=h.len;unfold mT;refine Gb _ 0 _ _ (by rw [List.length_drop];omega) (fun k hk=>?_) (fun hk=>?_)
 · obtain ⟨h3,h4⟩:=h.in_ (a+k) (by omega) (by omega)
   rw [Jd];have h5:s.getD (a+k) 0≠32:=fun h=>h3 (by rw [h];rfl);have h6:s.getD (a+k) 0≠61:=fun h=>h4 (by rw [h];rfl);simp only [bne_iff_ne,Bool.and_eq_true];exact ⟨h5,h6⟩
 · rw [List.length_drop] at hk
   rw [Jd,show a+(e - a)=e by omega]
   rcases h.out (by omega) with h3|h3
   · rw [show s.getD e 0=32 from UInt8.toNat_inj.1 h3];rfl
   · rw [show s.getD e 0=61 from UInt8.toNat_inj.1 h3];rfl
theorem pq.at {s:al} {a e:Nat} (h:pq s a e):(s.drop a)[e - a]? =s[e]? :=by
 have h1:=h.le;rw [List.getElem?_drop,show a+(e - a)=e by omega]
theorem pq.no {s:al} {a e:Nat} (h:pq s a e) (h2:¬(e<s.length∧(s.getD e 0).toNat=61)):ff (s.drop a)=some (e - a):=by
 unfold ff;rw [h.fld,if_neg];rw [h.at];intro h3;obtain ⟨h4,h5⟩:=List.getElem?_eq_some_iff.1 h3;exact h2 ⟨h4,by rw [getD_at 0 h4,h5];rfl⟩
theorem pq.yes {s:al} {a e:Nat} (h:pq s a e) (h2:e<s.length) (h3:(s.getD e 0).toNat=61):ff (s.drop a)=match bZ pf bL (s.drop (e+1)) with
 |none=>none
 |some r=>if e+1+r.2<s.length∧s.getD (e+1+r.2) 0≠32 then none else some (e+1+r.2 - a):=by
 have h1:=h.le
 have h4:s.getD e 0=61:=UInt8.toNat_inj.1 h3
 unfold ff
 rw [h.fld,if_pos (by rw [h.at,List.getElem?_eq_getElem h2,←h4,getD_at 0 h2]),List.drop_drop,show a+(e - a+1)=e+1 by omega]
 cases bZ pf bL (s.drop (e+1)) with
 |none=>rfl
 |some r=>
  dsimp only;rw [Jd,show a+(e - a+1+r.2)=e+1+r.2 by omega,List.length_drop,show e - a+1+r.2=e+1+r.2 - a by omega];simp only [show (e+1+r.2 - a<s.length - a)=(e+1+r.2<s.length) from propext (by omega)]
theorem pq.bad {s:al} {a e n:Nat} {u:bW} {ok:Bool} (h:pq s a e) (h2:e<s.length) (h3:(s.getD e 0).toNat=61) (hr:zR (bZ pf bL (s.drop (e+1))) u n ok):
 ff (s.drop a)=if ok=false∨(e+1+n<s.length∧(s.getD (e+1+n) 0).toNat≠32) then none else some (e+1+n - a):=by
 rw [h.yes h2 h3]
 rcases hr with ⟨rfl,h4⟩|⟨rfl,h4,_⟩
 · rw [h4]
   dsimp only
   have e1:(s.getD (e+1+n) 0≠32)=((s.getD (e+1+n) 0).toNat≠32):=propext ⟨fun h5 h6=>h5 (UInt8.toNat_inj.1 h6),fun h5 h6=>h5 (by rw [h6];rfl)⟩
   simp only [e1,Bool.true_eq_false,false_or]
 · rw [h4,if_pos (.inl rfl)]
theorem ot {w:World} {base e sz n n':Nat} {v:Value} {xs xs':List Value} (h:w.ownsRow base e sz v n xs) (hx:xs'=xs) (hn:n'=n):w.ownsRow base e sz v n' xs':=by subst hx;subst hn;exact h
theorem Ma {base g n:Nat} {v:Value} (h:∀k,v.ownBlock=some k→base≤k∧k<n) (hg:n≤g):v.ownBlock=none∨v.ownBlock≠some g:= .inr fun e=>by have:=(h g e).2;omega
theorem Vw (s:al) (hs:s.length≤4294967296) (w:World):be Tryz.prog 20 [str s] w fun v w'=>(∃A c l ok,v= .tuple #[.slice A l.length c,.bool ok]∧(cJ s=if ok=true then some l else none)∧l.length≤c∧l.length≤s.length∧Rd w' 1 A l.length (strs l))∧Below w.heap.size w w':=by
 have hb:=Below.refl w.heap.size w;refine enter Tryz.func20 rfl rfl rfl<|ao fun aZ=>am rfl<|am rfl<|an aZ<|ao fun bX=>jM bK (by kernel_rfl) rfl ?_
 rintro ix qL oX ew cm;have:=cm.size;have hb:=az hb cm;have:=ew.lt;have hO:=ew.own (base:=w.heap.size) (n:=0) (sz:=1) (by omega) rfl (by decide);refine am rfl<|an bX<|ao fun e7=>am rfl<|an e7<|ax fun _ ek=>br<|cU (X:=Nat×Value×List (al)) (fun (a,v,o)=> [(0,str s),(4,v),(5,.int .i64 (a:Int))]) (fun (a,v,o) wr=>a≤s.length∧o.length≤a∧cJ s=(cJ (s.drop a)).map (o++ ·)∧Below w.heap.size w wr∧wr.ownsRow w.heap.size 9 1 v o.length (strs o)) (fun (a,v,o)=>s.length - a) (⟨0,.slice (some ⟨ix,0,none⟩) 0 0,[]⟩) ?_ ?_ ?_
 · exact by repeat first|exact aB|refine au rfl (by first|rfl|exact int_eq (by omega)) ?_
 · exact ⟨by omega,by simp,by simp,hb,hO⟩
 rintro ⟨a,v,o⟩ wr qd _ Cz;replace qd:a≤s.length∧o.length≤a∧cJ s=(cJ (s.drop a)).map (o++ ·)∧Below w.heap.size w wr∧wr.ownsRow w.heap.size 9 1 v o.length (strs o):=qd;obtain ⟨ha,hol,hf,hb,hO⟩:=qd;show Wc _ _ _ _ _ [(0,str s),(4,v),(5,.int .i64 (a:Int))] _;have:=hb.size;refine ax fun _ eO=>ao fun eQ=>ai rfl<|ai rfl<|ah (dF bq (by omega) rfl) rfl<|ah (cg rfl rfl) rfl<|an eQ<|aH rfl (fun nA=>?_) (fun nA=>?_)
 ·
  have z7:=nA;simp only [DZ] at nA;have hal:a<s.length:=by have:=nA;omega
  obtain ⟨ch,hch⟩:∃ch,ch=s.getD a 0:=⟨_,rfl⟩;have hdr:=drop_at hal;rw [←hch] at hdr;refine aU<|aw eO<|b9 (X:=Nat×Value×List (al)) (fun (a2,v2,o2)=> [(0,str s),(4,v2),(5,.int .i64 (a2:Int))]) (fun (a2,v2,o2) wf=>a<a2∧a2≤s.length∧o2.length≤a2∧cJ s=(cJ (s.drop a2)).map (o2++ ·)∧Below w.heap.size w wf∧wf.ownsRow w.heap.size 9 1 v2 o2.length (strs o2)) (fun _ CF=>?_) ?_
  ·
   refine br<|ax fun _ iV=>ao fun fZ=>ai rfl<|ai rfl<|ah (bt (eK bq rfl rfl (by omega) (by omega)) (int_eq (show _=((ch.toNat:Nat):Int) by rw [Int.toNat_natCast,hch]))) rfl<|ah (bA rfl rfl) rfl<|an fZ<|aH rfl (fun nC=>?_) (fun nC=>?_)
   ·
    have Ah:=nC;simp only [DZ] at nC;have h32:ch=32:=UInt8.toNat_inj.1 (by have:=nC;show ch.toNat=32;omega);refine ao fun kU=>ai rfl<|ah (bH rfl rfl (by omega) (by omega)) rfl ?_
    obtain ⟨a3,v3,o3,ha3,hv3,ho3⟩:∃(a3:Nat) (v3:Value) (o3:List (al)),a3=a+1∧v3=v∧o3=o:=⟨_,_,_,rfl,rfl,rfl⟩;have hz3:a<a3∧a3≤s.length∧o3.length≤a3∧cJ s=(cJ (s.drop a3)).map (o3++ ·):=⟨by omega,by omega,by rw [ho3];omega,by rw [ho3,ha3,hf,hdr,h32,ZS]⟩;refine am rfl<|an kU<|cN<|bD<|cO<|aY CF (⟨a3,v3,o3⟩) (by repeat first|exact aB|refine au rfl (by first|rfl|exact hv3.symm|exact int_eq (by omega)) ?_) ?_
    exact ⟨hz3.1,hz3.2.1,hz3.2.2.1,hz3.2.2.2,hb,by rw [hv3,ho3];exact hO⟩
   have Ah:=nC;simp only [DZ] at nC;have h32:ch≠32:=fun h=>by subst h;exact absurd rfl nC
   refine aU<|aw iV<|ax fun _ jW=>ao fun iW=>ai rfl<|ai rfl<|ah (bt (eK bq rfl rfl (by omega) (by omega)) (int_eq (show _=((ch.toNat:Nat):Int) by rw [Int.toNat_natCast,hch]))) rfl<|ah (bA rfl rfl) rfl<|an iW<|aH rfl (fun vi=>?_) (fun vi=>?_)
   ·
    have XT:=vi;simp only [DZ] at vi;have h35:ch=35:=UInt8.toNat_inj.1 (by have:=vi;show ch.toNat=35;omega);have hfo:cJ s=some o:=by rw [hf,hdr,h35,ZT];simp
    refine ao fun ji=>ai rfl<|am rfl<|am rfl<|an ji<|aK<|aQ (bE (aQ (aQ (bE (aQ ?_)))))
    refine dv rfl rfl rfl ?_;obtain ⟨Ao,co,hve,hco,_⟩:=eT hO;subst hve;exact ⟨_,rfl,⟨_,_,o,true,rfl,hfo,hco,by omega,fC hO⟩,hb⟩
   have XT:=vi;simp only [DZ] at vi;have h35:ch≠35:=fun h=>by subst h;exact absurd rfl vi
   have htr:bF (s.drop a)=s.drop a:=by rw [hdr];exact age h32 h35
   have hne:s.drop a≠ []:=by rw [hdr];simp
   refine aU<|aw jW<|ao fun nY=>ai rfl<|am rfl<|an nY<|ax fun _ ql=>br<|cU (X:=Nat) (fun e=> [(0,str s),(4,v),(5,.int .i64 (a:Int)),(6,.int .i64 (e:Int))]) (fun e wl=>a≤e∧e≤s.length∧(∀j,a≤j→j<e→(s.getD j 0).toNat≠32∧(s.getD j 0).toNat≠61)∧Below w.heap.size w wl∧wl.ownsRow w.heap.size 9 1 v o.length (strs o)) (fun e=>s.length - e) (a) ?_ ?_ ?_
   · exact by repeat first|exact aB|refine au rfl (by first|rfl|exact int_eq (by omega)) ?_
   · exact ⟨Nat.le_refl _,by omega,fun j h1 h2=>by omega,hb,hO⟩
   rintro e wl qg _ CC;replace qg:a≤e∧e≤s.length∧(∀j,a≤j→j<e→(s.getD j 0).toNat≠32∧(s.getD j 0).toNat≠61)∧Below w.heap.size w wl∧wl.ownsRow w.heap.size 9 1 v o.length (strs o):=qg;obtain ⟨hae,hel,hin,hb,hO⟩:=qg;show Wc _ _ _ _ _ [(0,str s),(4,v),(5,.int .i64 (a:Int)),(6,.int .i64 (e:Int))] _;have:=hb.size;obtain ⟨ce,hce⟩:∃ce,ce=(s.getD e 0).toNat:=⟨_,rfl⟩;refine ax fun _ gd=>ax fun _ iX=>b9 (X:=Bool) (fun q=> [(0,str s),(4,v),(5,.int .i64 (a:Int)),(6,.int .i64 (e:Int)),(42,.bool q)]) (fun q wg=>q=decide (e<s.length∧ce≠32∧ce≠61)∧Below w.heap.size w wg∧wg.ownsRow w.heap.size 9 1 v o.length (strs o)) (fun _ La=>?_) ?_
   ·
    refine aR<|ai rfl<|ai rfl<|ah (dF bq (by omega) rfl) rfl<|ah (cg rfl rfl) rfl<|ai rfl<|cw rfl rfl rfl (fun iw=>?_) (fun iw=>?_)
    ·
     have fE:=iw;simp only [DZ] at iw;refine ai rfl<|aE rfl rfl fE<|ai rfl<|aE rfl rfl fE<|ah (bt (eK bq rfl rfl (by omega) (by omega)) (int_eq (show _=(ce:Int) by rw [hce,Int.toNat_natCast]))) rfl<|aE rfl rfl fE<|ah (ig rfl rfl) rfl<|ah (bi rfl fE rfl) rfl<|ai rfl<|cw rfl rfl rfl (fun p4=>?_) (fun p4=>?_)
     ·
      have l9:=p4;simp only [DZ] at p4;refine ai rfl<|aE rfl rfl l9<|ai rfl<|aE rfl rfl l9<|ah (bt (eK bq rfl rfl (by omega) (by omega)) (int_eq (show _=(ce:Int) by rw [hce,Int.toNat_natCast]))) rfl<|aE rfl rfl l9<|ah (ig rfl rfl) rfl<|ah (bi rfl l9 rfl) rfl<|ay<|aY La (decide (e<s.length∧ce≠32∧ce≠61)) (by repeat first|exact aB|refine au rfl (by first|rfl|exact aP (by rw [Bool.eq_iff_iff];simp<;>omega)) ?_) ?_
      exact ⟨rfl,hb,hO⟩
     have l9:=p4;simp only [DZ] at p4;refine aA rfl rfl l9 rfl rfl<|aA rfl rfl l9 rfl rfl<|aA rfl rfl l9 rfl rfl<|ah (bg rfl l9 rfl) rfl<|ay<|aY La (decide (e<s.length∧ce≠32∧ce≠61)) (by repeat first|exact aB|refine au rfl (by first|rfl|exact aP (by rw [Bool.eq_iff_iff];simp<;>omega)) ?_) ?_
     exact ⟨rfl,hb,hO⟩
    have fE:=iw;simp only [DZ] at iw;refine aA rfl rfl fE rfl rfl<|aA rfl rfl fE rfl rfl<|aA rfl rfl fE rfl rfl<|ah (bg rfl fE rfl) rfl<|ai rfl<|aA rfl rfl rfl rfl rfl<|aA rfl rfl rfl rfl rfl<|aA rfl rfl rfl rfl rfl<|aA rfl rfl rfl rfl rfl<|ah (bg rfl rfl rfl) rfl<|ay<|aY La (decide (e<s.length∧ce≠32∧ce≠61)) (by repeat first|exact aB|refine au rfl (by first|rfl|exact aP (by rw [Bool.eq_iff_iff];simp<;>omega)) ?_) ?_
    exact ⟨rfl,hb,hO⟩
   rintro q wg Kj;replace Kj:q=decide (e<s.length∧ce≠32∧ce≠61)∧Below w.heap.size w wg∧wg.ownsRow w.heap.size 9 1 v o.length (strs o):=Kj;obtain ⟨hq,hb,hO⟩:=Kj;show Wq _ _ _ _ [(0,str s),(4,v),(5,.int .i64 (a:Int)),(6,.int .i64 (e:Int)),(42,.bool q)] _;have:=hb.size;refine aw iX<|aH rfl (fun H3=>?_) (fun H3=>?_)
   ·
    have H4:=H3;have hq1:=of_decide_eq_true (hq.symm.trans H4);refine aU<|aw gd<|br<|aR<|ai rfl<|ah (bH rfl rfl (by omega) (by omega)) rfl<|am rfl<|ay<|bS<|fun a_ bn=>CC _ _ (e+1) (by omega) (by repeat first|exact aB|refine au rfl (by first|rfl|exact int_eq (by omega)) ?_) ?_ a_ bn
    exact ⟨by omega,by omega,fun j h1 h2=>by (by_cases ej:j=e);(· rw [ej,←hce];exact hq1.2);(· exact hin j h1 (by omega)),hb,hO⟩
   have H4:=H3;have hq1:=of_decide_eq_false (hq.symm.trans H4);have hFE:pq s a e:=⟨hae,hel,hin,fun h=>by rw [←hce];omega⟩;refine cN<|bD<|bD<|cO<|aw ql<|ax fun _ kX=>ax fun _ ki=>b9 (X:=Bool) (fun q2=> [(0,str s),(4,v),(5,.int .i64 (a:Int)),(6,.int .i64 (e:Int)),(54,.bool q2)]) (fun q2 wg=>q2=decide (e<s.length∧ce=61)∧Below w.heap.size w wg∧wg.ownsRow w.heap.size 9 1 v o.length (strs o)) (fun _ Qv=>?_) ?_
   ·
    refine aR<|ai rfl<|ai rfl<|ah (dF bq (by omega) rfl) rfl<|ah (cg rfl rfl) rfl<|ai rfl<|cw rfl rfl rfl (fun sx=>?_) (fun sx=>?_)
    ·
     have nS:=sx;simp only [DZ] at sx;refine ai rfl<|aE rfl rfl nS<|ai rfl<|aE rfl rfl nS<|ah (bt (eK bq rfl rfl (by omega) (by omega)) (int_eq (show _=(ce:Int) by rw [hce,Int.toNat_natCast]))) rfl<|aE rfl rfl nS<|ah (bA rfl rfl) rfl<|ah (bi rfl nS rfl) rfl<|ay<|aY Qv (decide (e<s.length∧ce=61)) (by repeat first|exact aB|refine au rfl (by first|rfl|exact aP (by rw [Bool.eq_iff_iff];simp<;>omega)) ?_) ?_
     exact ⟨rfl,hb,hO⟩
    have nS:=sx;simp only [DZ] at sx;refine aA rfl rfl nS rfl rfl<|aA rfl rfl nS rfl rfl<|aA rfl rfl nS rfl rfl<|ah (bg rfl nS rfl) rfl<|ay<|aY Qv (decide (e<s.length∧ce=61)) (by repeat first|exact aB|refine au rfl (by first|rfl|exact aP (by rw [Bool.eq_iff_iff];simp<;>omega)) ?_) ?_
    exact ⟨rfl,hb,hO⟩
   rintro q2 wg xh;replace xh:q2=decide (e<s.length∧ce=61)∧Below w.heap.size w wg∧wg.ownsRow w.heap.size 9 1 v o.length (strs o):=xh;obtain ⟨hq2,hb,hO⟩:=xh;show Wq _ _ _ _ [(0,str s),(4,v),(5,.int .i64 (a:Int)),(6,.int .i64 (e:Int)),(54,.bool q2)] _;have:=hb.size;refine aw ki<|b9 (X:=Nat) (fun e2=> [(0,str s),(4,v),(5,.int .i64 (a:Int)),(6,.int .i64 (e2:Int))]) (fun e2 wh=>e2≤s.length∧ff (s.drop a)=some (e2 - a)∧Below w.heap.size w wh∧wh.ownsRow w.heap.size 9 1 v o.length (strs o)) (fun _ yX=>?_) ?_
   ·
    refine aH rfl (fun Ih=>?_) (fun Ih=>?_)
    ·
     have Ii:=Ih;have hc4:=of_decide_eq_true (hq2.symm.trans Ii);have hel2:=hc4.1;refine ao fun Cy=>ai rfl<|ai rfl<|ah (bH rfl rfl (by omega) (by omega)) rfl<|ah (bt (oC bq rfl rfl (by omega) (by omega)) (dw (show _=s.drop (e+1) by rw [show ((e:Int)+1).toNat=e+1 by omega]))) rfl<|aS TR rfl rfl (NI (s.drop (e+1)) (by rw [List.length_drop];omega) _) rfl ?_
     rintro _ cq ⟨⟨u,n,ok,rfl,hr⟩,bm⟩;have:=bm.size;have hb:=az hb bm;have hO:=cR hO bm;refine ai rfl<|ah (bP rfl rfl) rfl<|ah (bP rfl rfl) rfl<|ah (bP rfl rfl) rfl ?_
     have hvk:=bz hO;refine el (z:=nf) (by kernel_rfl) rfl ?_;rintro aio aju ack Jg Lz;have:=Lz.size;have hb:=az hb Lz;have hO:=cR hO Lz;have:=Jg.lt;have sQ:=Ma hvk ack;refine cH (by kernel_rfl) rfl rfl Jg rfl rfl ?_;rintro d3 Jg bI;have:=bI.size;have hb:=bY hb bI hb.size (by omega);have hO:=World.ownsRow.kept hO bI (by first|assumption|(simp [Value.ownBlock];omega));refine am rfl<|am rfl<|an Cy<|ax fun _ Cc=>?_
     have hbad:=hFE.bad hc4.1 (by rw [←hce];exact hc4.2) hr;obtain ⟨c9,hc9⟩:∃c9,c9=(s.getD (e+1+n) 0).toNat:=⟨_,rfl⟩;rw [←hc9] at hbad
     have hn:n≤s.length - (e+1):=by
      rcases hr with ⟨_,h⟩|⟨_,_,_,h⟩
      · have:=(rt h).2;rw [List.length_drop] at this;exact this
      · omega
     refine aR<|ai rfl<|ah (bH rfl rfl (by omega) (by omega)) rfl<|ai rfl<|ah (bH rfl rfl (by omega) (by omega)) rfl<|am rfl<|an Cc<|ax fun _ nU=>b9 (X:=Bool) (fun q3=> [(0,str s),(4,v),(5,.int .i64 (a:Int)),(6,.int .i64 ((e+1+n:Nat):Int)),(81,.bool q3)]) (fun q3 wg=>q3=decide (ok=false∨(e+1+n<s.length∧c9≠32))∧Below w.heap.size w wg∧wg.ownsRow w.heap.size 9 1 v o.length (strs o)) (fun _ K3=>?_) ?_
     ·
      refine aR<|ai rfl<|ah (fI rfl) rfl<|ai rfl<|dP rfl rfl rfl (fun Bb=>?_) (fun Bb=>?_)
      ·
       have kJ:=Bb;simp only [DZ] at Bb;have hok1:ok=false:=by simpa using kJ
       refine aA rfl rfl kJ rfl rfl<|aA rfl rfl kJ rfl rfl<|aA rfl rfl kJ rfl rfl<|aA rfl rfl kJ rfl rfl<|cC rfl rfl rfl<|cC rfl rfl rfl<|cC rfl rfl rfl<|cC rfl rfl rfl<|aA rfl rfl kJ rfl rfl<|ah (bi rfl kJ rfl) rfl<|ay<|aY K3 (decide (ok=false∨(e+1+n<s.length∧c9≠32))) (by repeat first|exact aB|refine au rfl (by first|rfl|exact int_eq (by omega)|exact aP (by rw [hok1,Bool.eq_iff_iff];simp<;>omega)) ?_) ?_
       exact ⟨rfl,hb,hO⟩
      have kJ:=Bb;simp only [DZ] at Bb;have hok1:ok=true:=by simpa using kJ
      refine ai rfl<|aE rfl rfl kJ<|ai rfl<|aE rfl rfl kJ<|ah (dF bq (by omega) rfl) rfl<|aE rfl rfl kJ<|ah (cg rfl rfl) rfl<|aE rfl rfl kJ<|ai rfl<|cw rfl rfl rfl (fun lY=>?_) (fun lY=>?_)
      ·
       have jS:=lY;simp only [DZ] at lY;refine ai rfl<|aE rfl rfl jS<|ai rfl<|aE rfl rfl jS<|ah (bt (eK bq rfl rfl (by omega) (by omega)) (int_eq (show _=(c9:Int) by rw [hc9,show ((e:Int)+1+(n:Int)).toNat=e+1+n by omega]))) rfl<|aE rfl rfl jS<|ah (ig rfl rfl) rfl<|aE rfl rfl kJ<|ah (bi rfl jS rfl) rfl<|ah (bg rfl kJ rfl) rfl<|ay<|aY K3 (decide (ok=false∨(e+1+n<s.length∧c9≠32))) (by repeat first|exact aB|refine au rfl (by first|rfl|exact int_eq (by omega)|exact aP (by rw [hok1,Bool.eq_iff_iff];simp<;>omega)) ?_) ?_
       exact ⟨rfl,hb,hO⟩
      have jS:=lY;simp only [DZ] at lY;refine aA rfl rfl jS rfl rfl<|aA rfl rfl jS rfl rfl<|aA rfl rfl jS rfl rfl<|aE rfl rfl kJ<|ah (bg rfl jS rfl) rfl<|ah (bg rfl kJ rfl) rfl<|ay<|aY K3 (decide (ok=false∨(e+1+n<s.length∧c9≠32))) (by repeat first|exact aB|refine au rfl (by first|rfl|exact int_eq (by omega)|exact aP (by rw [hok1,Bool.eq_iff_iff];simp<;>omega)) ?_) ?_
      exact ⟨rfl,hb,hO⟩
     rintro q3 wg Ju;replace Ju:q3=decide (ok=false∨(e+1+n<s.length∧c9≠32))∧Below w.heap.size w wg∧wg.ownsRow w.heap.size 9 1 v o.length (strs o):=Ju;obtain ⟨hq3,hb,hO⟩:=Ju;show Wq _ _ _ _ [(0,str s),(4,v),(5,.int .i64 (a:Int)),(6,.int .i64 ((e+1+n:Nat):Int)),(81,.bool q3)] _;have:=hb.size;refine aw nU<|aH rfl (fun Ip=>?_) (fun Ip=>?_)
     ·
      have Iq:=Ip;have hc5:=of_decide_eq_true (hq3.symm.trans Iq);have hfn:cJ s=none:=by rw [hf,r8 htr hne (by rw [hbad,if_pos hc5])];rfl
      refine ao fun Ck=>ai rfl<|am rfl<|am rfl<|an Ck<|aK<|aQ (aQ (bE (aQ (aQ (bE (aQ ?_))))))
      refine dv rfl rfl rfl ?_;obtain ⟨Ao,co,hve,hco,_⟩:=eT hO;subst hve;exact ⟨_,rfl,⟨_,_,o,false,rfl,hfn,hco,by omega,fC hO⟩,hb⟩
     have Iq:=Ip;have hc5:=of_decide_eq_false (hq3.symm.trans Iq);obtain ⟨e3,he3⟩:∃e3,e3=e+1+n:=⟨_,rfl⟩;have hfe:ff (s.drop a)=some (e3 - a):=by rw [he3,hbad,if_neg hc5]
     have hle3:e3≤s.length:=by omega
     refine aU<|aY yX (e3) (by repeat first|exact aB|refine au rfl (by first|rfl|exact int_eq (by omega)) ?_) ?_
     exact ⟨hle3,hfe,hb,hO⟩
    have Ii:=Ih;have hc4:=of_decide_eq_false (hq2.symm.trans Ii);obtain ⟨e3,he3⟩:∃e3,e3=e:=⟨_,rfl⟩;have hfe:ff (s.drop a)=some (e3 - a):=by rw [he3];exact hFE.no (by rw [←hce];exact hc4)
    have hle3:e3≤s.length:=by omega
    refine aU<|aY yX (e3) (by repeat first|exact aB|refine au rfl (by first|rfl|exact int_eq (by omega)) ?_) ?_
    exact ⟨hle3,hfe,hb,hO⟩
   rintro e2 wh Jx;replace Jx:e2≤s.length∧ff (s.drop a)=some (e2 - a)∧Below w.heap.size w wh∧wh.ownsRow w.heap.size 9 1 v o.length (strs o):=Jx;obtain ⟨hle2,hfe2,hb,hO⟩:=Jx;show Wq _ _ _ _ [(0,str s),(4,v),(5,.int .i64 (a:Int)),(6,.int .i64 (e2:Int))] _;have:=hb.size;refine aw kX<|ax fun _ sI=>?_
   have hpos:=yN hdr h32 hfe2;have hfc:=nQ htr hne hfe2 hpos;have hea:a<e2:=by omega
   refine aR<|ai rfl<|ai rfl<|ai rfl<|ai rfl<|ah (bt (D4 bq rfl rfl rfl (by omega) (by omega) (by omega)) (dw (show _=(s.drop a).take (e2 - a) by rw [Int.toNat_natCast,Int.toNat_natCast,List.drop_take]))) rfl<|dX (sz:=1) (vs:= [_]) bK (by kernel_rfl) rfl rfl rfl rfl rfl rfl ?_
   rintro Z8 tk e8 B5 uj;have:=uj.size;have hb:=az hb uj;have hO:=cR hO uj;have:=B5.lt;refine dK (z:=(str [])) (sz:=1) (bytes:=16) bK (by kernel_rfl) rfl (by decide) _ rfl hO rfl (B5.rd 1 1 rfl) (s6 _) (by simp only [maxLen];omega) (by omega) (by exact hb.size) rfl ?_;rintro M5 Ui Lr sR QD;have:=sR.size;have hb:=hb.grown sR hb.size (fun k_ ba=>by have:=(bz hO k_ ba).1;omega);have hO:=Lr;refine am rfl<|an sI<|aR<|ai rfl ?_
   obtain ⟨a3,v3,o3,ha3,hv3,ho3⟩:∃(a3:Nat) (v3:Value) (o3:List (al)),a3=e2∧v3=M5∧o3=o++ [(s.drop a).take (e2 - a)]:=⟨_,_,_,rfl,rfl,rfl⟩;have hz3:a<a3∧a3≤s.length∧o3.length≤a3∧cJ s=(cJ (s.drop a3)).map (o3++ ·):=⟨by omega,by omega,by rw [ho3,List.length_append];simp;omega,by rw [ho3,ha3,hf,hfc,List.drop_drop,show a+(e2 - a)=e2 by omega];cases cJ (s.drop e2)<;>simp⟩;have hO:=ot (xs':=strs (o++ [(s.drop a).take (e2 - a)])) (n':=(o++ [(s.drop a).take (e2 - a)]).length) hO (by rw [F4];rfl) (by simp);refine am rfl<|ay<|bS<|aY CF (⟨a3,v3,o3⟩) (by repeat first|exact aB|refine au rfl (by first|rfl|exact hv3.symm|exact int_eq (by omega)) ?_) ?_
   exact ⟨hz3.1,hz3.2.1,hz3.2.2.1,hz3.2.2.2,hb,by rw [hv3,ho3];exact hO⟩
  rintro ⟨a2,v2,o2⟩ wf wP;replace wP:a<a2∧a2≤s.length∧o2.length≤a2∧cJ s=(cJ (s.drop a2)).map (o2++ ·)∧Below w.heap.size w wf∧wf.ownsRow w.heap.size 9 1 v2 o2.length (strs o2):=wP;obtain ⟨h0,h1,h2,h3,hb,hO⟩:=wP;show Wq _ _ _ _ [(0,str s),(4,v2),(5,.int .i64 (a2:Int))] _;have:=hb.size;refine fun a_ bn=>Cz _ _ (⟨a2,v2,o2⟩) (by simp;omega) (by repeat first|exact aB|refine au rfl (by first|rfl|exact int_eq (by omega)) ?_) ?_ a_ bn;exact ⟨h1,h2,h3,hb,hO⟩
 have z7:=nA;simp only [DZ] at nA;have hae:a=s.length:=by have:=nA;omega
 have hfo:cJ s=some o:=by rw [hf,hae,List.drop_length,oN rfl];simp
 obtain ⟨Ao,co,hve,hco,_⟩:=eT hO;subst hve;refine cN<|bD<|bD<|cO<|aw ek<|ao fun xo=>ai rfl<|am rfl<|am rfl<|an xo<|aK<|dv rfl rfl rfl ?_
 exact ⟨_,rfl,⟨_,_,o,true,rfl,hfo,hco,by omega,fC hO⟩,hb⟩
end Go.Proofs.YtjmlknjbhbfneaaGreatDoor
