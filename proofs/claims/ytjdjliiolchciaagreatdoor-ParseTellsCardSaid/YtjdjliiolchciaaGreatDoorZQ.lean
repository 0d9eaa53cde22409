import Derived.Test.YtjdjliiolchciaaGreatDoorZK
namespace Go.Proofs.YtjdjliiolchciaaGreatDoor
open Go.RowKit Go.Bw Go.Bw.Fl
set_option linter.unusedVariables false
set_option linter.unusedSimpArgs false
theorem Yy:∀(l:ao),ii l→em 0 l<10 ^ l.length:=by
 have key:∀(l:ao) (n:Nat),ii l→em n l<(n+1) * 10 ^ l.length:=by
  intro l
  induction l with
  |nil=>intro n _;show n<(n+1) * 1;omega
  |cons c r ih=>
   intro n h;have h1:=h c (List.mem_cons_self ..);have h2:=ih (n * 10+(c.toNat - 48)) (fun x hx=>h x (List.mem_cons_of_mem _ hx));show em (n * 10+(c.toNat - 48)) r<_;refine Nat.lt_of_lt_of_le h2 ?_;rw [List.length_cons,Nat.pow_succ,show (n+1) * (10 ^ r.length * 10)=((n+1) * 10) * 10 ^ r.length by rw [Nat.mul_comm (10 ^ _) 10,Nat.mul_assoc]];exact Nat.mul_le_mul_right _ (by omega)
 intro l h;have:=key l 0 h
 rwa [Nat.zero_add,Nat.one_mul] at this
theorem Yx {l:ao} (h:ii l) (hl:l.length≤17):em 0 l<100000000000000000:=by
 have h1:=Yy l h;have h2:10 ^ l.length≤10 ^ 17:=Nat.pow_le_pow_right (by decide) hl;have h3:(10:Nat) ^ 17=100000000000000000:=by decide
 omega
theorem ii.take {l:ao} (h:ii l) (i:Nat):ii (l.take i):=fun c hc=>h c (List.mem_of_mem_take hc)
theorem ii.snoc {l:ao} {i:Nat} (h:ii (l.take i)) (hi:i<l.length) (h0:48≤(l.getD i 0).toNat) (h1:(l.getD i 0).toNat≤57):ii (l.take (i+1)):=fun c hc=>by
 rw [zS hi] at hc
 rcases List.mem_append.1 hc with h2|h2
 · exact h c h2
 · rw [List.mem_singleton.1 h2];exact ⟨h0,h1⟩
theorem BT {l:ao} {i:Nat} (hi:i<l.length):l.getD i 0∈l:=by simp [List.getD,List.getElem?_eq_getElem hi]
structure sG (s:ao) (most:Nat):Prop where
 ne:0<s.length
 lead:¬(1<s.length∧(s.getD 0 0).toNat=48)
 len:s.length≤17
 dig:ii s
 le:em 0 s≤most
def sL (s:ao) (most:Nat) (z:Int):Prop:=(z= -1∧¬sG s most)∨(sG s most∧z=(em 0 s:Nat))
theorem Sn (s:ao) (most:Nat) (hs:s.length≤9223372036854775807) (w:World):bx Tryz.prog 136 [str s,.int .i64 (most:Int)] w fun v w'=>(∃z,v= .int .i64 z∧sL s most z)∧Below w.heap.size w w':=by
 have hb:=Below.refl w.heap.size w;refine enter Tryz.func136 rfl rfl rfl<|am fun aR=>an rfl<|al aR<|av fun _ bt=>av fun _ b8=>cR (X:=Bool) (fun q=> [(0,str s),(1,.int .i64 (most:Int)),(23,.bool q)]) (fun q wr=>q=decide (s.length=0∨(1<s.length∧(s.getD 0 0).toNat=48)∨17<s.length)∧Below w.heap.size w wr) (fun _ tB=>?_) ?_
 ·
  refine aQ<|ai rfl<|ae (fl rfl rfl) rfl<|ai rfl<|dy rfl rfl rfl (fun nM=>?_) (fun nM=>?_)
  ·
   have mw:=nM;simp only [DZ] at nM;have hl0:s.length=0:=by rw [nM];rfl
   refine az rfl rfl mw rfl rfl<|az rfl rfl mw rfl rfl<|az rfl rfl mw rfl rfl<|bY rfl rfl rfl<|bY rfl rfl rfl<|bY rfl rfl rfl<|az rfl rfl mw rfl rfl<|ae (bo rfl mw rfl) rfl<|ai rfl<|az rfl rfl rfl rfl rfl<|az rfl rfl rfl rfl rfl<|az rfl rfl rfl rfl rfl<|ae (bo rfl rfl rfl) rfl<|ay<|a7 tB (decide (s.length=0∨(1<s.length∧(s.getD 0 0).toNat=48)∨17<s.length)) (by repeat first|exact aC|refine aA rfl (by first|rfl|exact a8 (by rw [Bool.eq_iff_iff];simp only [decide_eq_true_eq,beq_iff_eq,Bool.false_eq_true,eq_self,true_iff,false_iff,iff_true,iff_false];omega)) ?_) ?_
   exact ⟨rfl,hb⟩
  have mw:=nM;simp only [DZ] at nM;have hl0:¬s.length=0:=fun e=>nM (List.length_eq_zero_iff.1 e);refine ai rfl<|ap rfl rfl mw<|ae (ez bI (by omega) rfl) rfl<|ap rfl rfl mw<|ae (ed rfl rfl) rfl<|ap rfl rfl mw<|ai rfl<|cG rfl rfl rfl (fun mp=>?_) (fun mp=>?_)
  ·
   have jT:=mp;simp only [DZ] at mp;refine ai rfl<|ap rfl rfl jT<|ae (bW (fP bI rfl rfl (by omega) (by omega)) ((show Value.int .u8 ((s.getD (0:Int).toNat 0).toNat:Int)= .int .u8 ((s.getD 0 0).toNat:Int) from rfl))) rfl<|ap rfl rfl jT<|ae (bX rfl rfl) rfl<|ap rfl rfl mw<|ae (bo rfl jT rfl) rfl<|ae (bj rfl mw rfl) rfl<|ai rfl<|dy rfl rfl rfl (fun jp=>?_) (fun jp=>?_)
   ·
    have jq:=jp;simp only [DZ] at jp;refine az rfl rfl jq rfl rfl<|az rfl rfl jq rfl rfl<|ae (bo rfl jq rfl) rfl<|ay<|a7 tB (decide (s.length=0∨(1<s.length∧(s.getD 0 0).toNat=48)∨17<s.length)) (by repeat first|exact aC|refine aA rfl (by first|rfl|exact a8 (by rw [Bool.eq_iff_iff];simp only [decide_eq_true_eq,beq_iff_eq,Bool.false_eq_true,eq_self,true_iff,false_iff,iff_true,iff_false];omega)) ?_) ?_
    exact ⟨rfl,hb⟩
   have jq:=jp;simp only [DZ] at jp;refine ai rfl<|ap rfl rfl jq<|ae (ez bI (by omega) rfl) rfl<|ap rfl rfl jq<|ae (ed rfl rfl) rfl<|ae (bj rfl jq rfl) rfl<|ay<|a7 tB (decide (s.length=0∨(1<s.length∧(s.getD 0 0).toNat=48)∨17<s.length)) (by repeat first|exact aC|refine aA rfl (by first|rfl|exact a8 (by rw [Bool.eq_iff_iff];simp only [decide_eq_true_eq,beq_iff_eq,Bool.false_eq_true,eq_self,true_iff,false_iff,iff_true,iff_false];omega)) ?_) ?_
   exact ⟨rfl,hb⟩
  have jT:=mp;simp only [DZ] at mp;refine az rfl rfl jT rfl rfl<|az rfl rfl jT rfl rfl<|ap rfl rfl mw<|ae (bj rfl jT rfl) rfl<|ae (bj rfl mw rfl) rfl<|ai rfl<|ap rfl rfl rfl<|ai rfl<|ap rfl rfl rfl<|ae (ez bI (by omega) rfl) rfl<|ap rfl rfl rfl<|ae (ed rfl rfl) rfl<|ae (bj rfl rfl rfl) rfl<|ay<|a7 tB (decide (s.length=0∨(1<s.length∧(s.getD 0 0).toNat=48)∨17<s.length)) (by repeat first|exact aC|refine aA rfl (by first|rfl|exact a8 (by rw [Bool.eq_iff_iff];simp only [decide_eq_true_eq,beq_iff_eq,Bool.false_eq_true,eq_self,true_iff,false_iff,iff_true,iff_false];omega)) ?_) ?_
  exact ⟨rfl,hb⟩
 rintro q wr J2;replace J2:q=decide (s.length=0∨(1<s.length∧(s.getD 0 0).toNat=48)∨17<s.length)∧Below w.heap.size w wr:=J2;obtain ⟨hq,hb⟩:=J2;show Wq _ _ _ _ [(0,str s),(1,.int .i64 (most:Int)),(23,.bool q)] _;have:=hb.size;refine ax b8<|aO rfl (fun GD=>?_) (fun GD=>?_)
 ·
  have GF:=GD;have hbad:¬sG s most:=fun h=>by have h1:=h.ne;have h2:=h.lead;have h3:=h.len;have h4:=hq.symm.trans GF;simp only [decide_eq_true_eq] at h4;omega
  refine am fun k9=>an rfl<|al k9<|aJ<|aX<|bN rfl rfl ?_
  exact ⟨_,rfl,⟨_,rfl,.inl ⟨rfl,hbad⟩⟩,hb⟩
 have GF:=GD;have hgood:¬(s.length=0∨(1<s.length∧(s.getD 0 0).toNat=48)∨17<s.length):=of_decide_eq_false (hq.symm.trans GF);refine aU<|ax bt<|am fun lK=>an rfl<|al lK<|av fun _ iK=>am fun lf=>an rfl<|al lf<|b4<|d9 (X:=Nat) (fun i=> [(0,str s),(1,.int .i64 (most:Int)),(5,.int .i64 ((em 0 (s.take i):Nat):Int)),(6,.int .i64 (i:Int))]) (fun i wr=>i≤s.length∧ii (s.take i)∧Below w.heap.size w wr) (fun i=>s.length - i) (0) ?_ ?_ ?_
 · exact by repeat first|exact aC|refine aA rfl (by first|rfl|exact aH (by omega)) ?_
 · exact ⟨by omega,(fun c hc=>by cases hc),hb⟩
 rintro i wr rg _ KW;replace rg:i≤s.length∧ii (s.take i)∧Below w.heap.size w wr:=rg;obtain ⟨hi,hd,hb⟩:=rg;show Wc _ _ _ _ _ [(0,str s),(1,.int .i64 (most:Int)),(5,.int .i64 ((em 0 (s.take i):Nat):Int)),(6,.int .i64 (i:Int))] _;have:=hb.size;refine av fun _ gZ=>am fun kl=>ai rfl<|ai rfl<|ae (ez bI (by omega) rfl) rfl<|ae (dL rfl rfl) rfl<|al kl<|aO rfl (fun AB=>?_) (fun AB=>?_)
 ·
  have Xd:=AB;simp only [DZ] at AB;have hil:i<s.length:=by omega
  have hdv:=Yx hd (by rw [List.length_take];omega);refine aU<|ax gZ<|av fun _ kI=>b4<|av fun _ kJ=>av fun _ pp=>cR (X:=Bool) (fun q=> [(0,str s),(1,.int .i64 (most:Int)),(5,.int .i64 ((em 0 (s.take i):Nat):Int)),(6,.int .i64 (i:Int)),(39,.bool q)]) (fun q wr=>q=decide ((s.getD i 0).toNat<48∨57<(s.getD i 0).toNat)∧Below w.heap.size w wr) (fun _ zj=>?_) ?_
  ·
   refine aQ<|ai rfl<|ai rfl<|ae (bW (fP bI rfl rfl (by omega) (by omega)) ((show Value.int .u8 ((s.getD (i:Int).toNat 0).toNat:Int)= .int .u8 ((s.getD i 0).toNat:Int) from rfl))) rfl<|ae (dL rfl rfl) rfl<|ai rfl<|dy rfl rfl rfl (fun kf=>?_) (fun kf=>?_)
   ·
    have td:=kf;simp only [DZ] at kf;refine az rfl rfl td rfl rfl<|az rfl rfl td rfl rfl<|az rfl rfl td rfl rfl<|ae (bo rfl td rfl) rfl<|ay<|a7 zj (decide ((s.getD i 0).toNat<48∨57<(s.getD i 0).toNat)) (by repeat first|exact aC|refine aA rfl (by first|rfl|exact a8 (by rw [Bool.eq_iff_iff];simp only [decide_eq_true_eq,beq_iff_eq,Bool.false_eq_true,eq_self,true_iff,false_iff,iff_true,iff_false];omega)) ?_) ?_
    exact ⟨rfl,hb⟩
   have td:=kf;simp only [DZ] at kf;refine ai rfl<|ap rfl rfl td<|ai rfl<|ap rfl rfl td<|ae (bW (fP bI rfl rfl (by omega) (by omega)) ((show Value.int .u8 ((s.getD (i:Int).toNat 0).toNat:Int)= .int .u8 ((s.getD i 0).toNat:Int) from rfl))) rfl<|ap rfl rfl td<|ae (ed rfl rfl) rfl<|ae (bj rfl td rfl) rfl<|ay<|a7 zj (decide ((s.getD i 0).toNat<48∨57<(s.getD i 0).toNat)) (by repeat first|exact aC|refine aA rfl (by first|rfl|exact a8 (by rw [Bool.eq_iff_iff];simp only [decide_eq_true_eq,beq_iff_eq,Bool.false_eq_true,eq_self,true_iff,false_iff,iff_true,iff_false];omega)) ?_) ?_
   exact ⟨rfl,hb⟩
  rintro q wr Kf;replace Kf:q=decide ((s.getD i 0).toNat<48∨57<(s.getD i 0).toNat)∧Below w.heap.size w wr:=Kf;obtain ⟨hq2,hb⟩:=Kf;show Wq _ _ _ _ [(0,str s),(1,.int .i64 (most:Int)),(5,.int .i64 ((em 0 (s.take i):Nat):Int)),(6,.int .i64 (i:Int)),(39,.bool q)] _;have:=hb.size;refine ax pp<|aO rfl (fun Hq=>?_) (fun Hq=>?_)
  ·
   have Hr:=Hq;have hbad:¬sG s most:=fun h=>by have h1:=h.dig _ (BT hil);have h4:=hq2.symm.trans Hr;simp only [decide_eq_true_eq] at h4;omega
   refine am fun tw=>an rfl<|al tw<|aJ<|aX (co (aX (aX (co (aX ?_)))))
   refine bN rfl rfl ?_;exact ⟨_,rfl,⟨_,rfl,.inl ⟨rfl,hbad⟩⟩,hb⟩
  have Hr:=Hq;have hgd:¬((s.getD i 0).toNat<48∨57<(s.getD i 0).toNat):=of_decide_eq_false (hq2.symm.trans Hr);have hc0:48≤(s.getD i 0).toNat:=by omega
  have hc1:(s.getD i 0).toNat≤57:=by omega
  refine aU<|ax kJ<|aQ<|ai rfl<|ae (Uz rfl rfl (by omega) (by omega)) rfl<|ai rfl<|ai rfl<|ae (bW (fP bI rfl rfl (by omega) (by omega)) ((show Value.int .u8 ((s.getD (i:Int).toNat 0).toNat:Int)= .int .u8 ((s.getD i 0).toNat:Int) from rfl))) rfl<|ae (bW (yD rfl rfl) (aH (show _=(((s.getD i 0).toNat - 48:Nat):Int) by rw [wrap_u8 _ (by omega) (by omega)];omega))) rfl<|ae (bW (ll kV mg rfl) (aH (show _=(((s.getD i 0).toNat - 48:Nat):Int) by rw [wrap_i64 _ (by omega) (by omega)]))) rfl<|ae (ct rfl rfl (by omega) (by omega)) rfl<|an rfl<|ay<|cD<|ax kI<|aQ<|ai rfl<|ae (ct rfl rfl (by omega) (by omega)) rfl<|an rfl<|ay<|fun a_ bM=>KW _ _ (i+1) (by omega) (by repeat first|exact aC|refine aA rfl (by first|rfl|exact aH (by omega)|exact aH (by rw [IT hil];omega)) ?_) ?_ a_ bM
  exact ⟨by omega,ii.snoc hd hil hc0 hc1,hb⟩
 have Xd:=AB;simp only [DZ] at AB;have hie:s.take i=s:=List.take_of_length_le (by omega);refine d2<|cj<|cj<|d3<|ax iK<|av fun _ oD=>am fun tz=>ai rfl<|ai rfl<|ae (ed rfl rfl) rfl<|al tz<|aO rfl (fun v6=>?_) (fun v6=>?_)
 ·
  have Xw:=v6;simp only [DZ] at v6;have hbad:¬sG s most:=fun h=>by have h1:=h.le;have h4:=v6;rw [hie] at h4;omega
  refine am fun px=>an rfl<|al px<|aJ<|aX<|bN rfl rfl ?_
  exact ⟨_,rfl,⟨_,rfl,.inl ⟨rfl,hbad⟩⟩,hb⟩
 have Xw:=v6;simp only [DZ] at v6;have hok:sG s most:=⟨by omega,fun h=>hgood (.inr (.inl h)),by omega,by rw [hie] at hd;exact hd,by have h4:=v6;rw [hie] at h4;omega⟩;refine aU<|ax oD<|am fun KT=>ai rfl<|an rfl<|al KT<|aJ<|bN rfl rfl ?_
 exact ⟨_,rfl,⟨_,rfl,.inr ⟨hok,by rw [hie]⟩⟩,hb⟩
theorem aaN:∀(u:Nat),1≤u→((Lib.decDigits u).getD 0 0).toNat≠48:=by
 intro u
 induction u using Nat.strongRecOn with
 |ind u ih=>
  intro h;by_cases h1:u<10
  · rw [Lib.decDigits_one h1]
    show (UInt8.ofNat (48+u)).toNat≠48;rw [AQ h1];omega
  · have h2:=ih (u / 10) (by omega) (by omega)
    obtain ⟨_,_,h3⟩:=jD (u / 10);rw [Lib.decDigits,dif_neg h1]
    cases hd:Lib.decDigits (u / 10) with
    |nil=>exact absurd hd h3
    |cons c r=>rw [hd] at h2;exact h2
theorem X8 {u most:Nat} (h:u≤most) (hl:(Lib.decDigits u).length≤17):sG (Lib.decDigits u) most∧em 0 (Lib.decDigits u)=u:=by
 obtain ⟨h1,h2,h3⟩:=jD u;refine ⟨⟨List.length_pos_iff.2 h3,fun ⟨ha,hb⟩=>?_,hl,h1,by rw [h2];exact h⟩,h2⟩
 rcases Nat.eq_zero_or_pos u with h0|h0
 · subst h0;rw [Lib.decDigits_one (by decide)] at ha;simp at ha
 · exact aaN u h0 hb
theorem Ym:∀(n:Nat) (s:ao),s.length=n→ii s→0<s.length→¬(1<s.length∧(s.getD 0 0).toNat=48)→Lib.decDigits (em 0 s)=s:=by
 intro n
 induction n with
 |zero=>intro s h _ h0;omega
 |succ n ih=>
  intro s hn hd h0 hz;have hs:s=s.take n++ [s.getD n 0]:=by rw [←zS (by omega),←hn,List.take_length]
  have hlast:=hd _ (BT (l:=s) (i:=n) (by omega));have hv:em 0 s=em 0 (s.take n) * 10+((s.getD n 0).toNat - 48):=by rw [←IT (by omega),←hn,List.take_length]
  have hb:UInt8.ofNat (48+((s.getD n 0).toNat - 48))=s.getD n 0:=by rw [show 48+((s.getD n 0).toNat - 48)=(s.getD n 0).toNat by omega];exact UInt8.ofNat_toNat
  rcases Nat.eq_zero_or_pos n with h1|h1
  · subst h1
    have hv':em 0 s=(s.getD 0 0).toNat - 48:=by rw [hv];show 0 * 10+_=_;omega
    have hs':s= [s.getD 0 0]:=hs;rw [hv',Lib.decDigits_one (by omega),hb];exact hs'.symm
  · have hlt:(s.take n).length=n:=by rw [List.length_take];omega
    have h00:(s.take n).getD 0 0=s.getD 0 0:=by
     simp [List.getD,List.getElem?_take,h1]
    have hz0:(s.getD 0 0).toNat≠48:=fun e=>hz ⟨by omega,e⟩;have hih:=ih (s.take n) hlt (ii.take hd n) (by omega) (fun h=>hz0 (by rw [←h00];exact h.2))
    have hpos:1≤em 0 (s.take n):=by
     cases ht:s.take n with
     |nil=>rw [ht] at hlt;simp at hlt;omega
     |cons c r=>
      have hc:c=s.getD 0 0:=by rw [←h00,ht];rfl
      have hcd:=(ii.take hd n) c (by rw [ht];exact List.mem_cons_self ..);have:=AV r (0 * 10+(c.toNat - 48));show 1≤em (0 * 10+(c.toNat - 48)) r;rw [hc] at this hcd ⊢;omega
    rw [hv,Lib.decDigits,dif_neg (by omega)];rw [show (em 0 (s.take n) * 10+((s.getD n 0).toNat - 48)) / 10=em 0 (s.take n) by omega,show (em 0 (s.take n) * 10+((s.getD n 0).toNat - 48)) % 10=(s.getD n 0).toNat - 48 by omega,hih,hb];exact hs.symm
theorem sG.dec {s:ao} {most:Nat} (h:sG s most):Lib.decDigits (em 0 s)=s:=Ym _ s rfl h.dig h.ne h.lead
theorem FL (s:ao):s=fq (Lib.hasPrefix s [45])++Lib.trimPrefix s [45]:=by
 unfold Lib.trimPrefix;by_cases h:Lib.hasPrefix s [45]=true
 · rw [if_pos h]
   obtain ⟨r,rfl⟩:=(yh _ _).1 h;rw [h];rfl
 · rw [if_neg h]
   have h0:Lib.hasPrefix s [45]=false:=by simpa using h
   rw [h0];rfl
theorem Rv {s:ao} {f:Nat} (hf:Cn f) (ht:ec f=s) (h0:s≠ [110,97,110]) (h1:Lib.trimPrefix s [45]≠ [105,110,102]) (h2:Lib.trimPrefix s [45]≠ [48,112,48]):
 ∃M e,rung f<9218868437227405312∧rung f≠0∧Lib.trimPrefix s [45]=eD M e∧M=od (b7 (rung f))∧e=eE (rung f)+v2 (b7 (rung f)):=by
 subst ht
 by_cases c1:isNan f=true
 · exact absurd (yn c1) h0
 have c1':isNan f=false:=by simpa using c1
 by_cases c2:rung f=9218868437227405312
 · have ht:ec f=fq (dM f)++ [105,110,102]:=rK c1' c2
   obtain ⟨_,b⟩:=yq (n:=dM f) (x:= [105,110,102]) (by decide)
   rw [←ht] at b;exact absurd b h1
 have c6:rung f≤9218868437227405312:=by simpa [isNan,rung] using c1'
 have hr:rung f<9218868437227405312:=by omega
 by_cases c3:rung f=0
 · have ht:ec f=fq (dM f)++ [48,112,48]:=rL c1' c2 c3
   obtain ⟨_,b⟩:=yq (n:=dM f) (x:= [48,112,48]) (by decide)
   rw [←ht] at b;exact absurd b h2
 have ht:ec f=fq (dM f)++eD (od (b7 (rung f))) (eE (rung f)+v2 (b7 (rung f))):=by
  rw [qs c1' c2 c3];unfold eD;rw [Dn];simp
 obtain ⟨_,b⟩:=yq (n:=dM f) (x:=eD (od (b7 (rung f))) (eE (rung f)+v2 (b7 (rung f)))) (head_ne (rG _ _) (.inl (by decide)))
 rw [←ht] at b
 exact ⟨_,_,hr,c3,b,rfl,rfl⟩
structure vh (t:ao) (i:Nat):Prop where
 le:i≤t.length
 no:(112:UInt8) ∉ t.take i
 at_:i<t.length→t.getD i 0=112
theorem vh.snoc {t:ao} {i:Nat} (hi:i<t.length) (h:(112:UInt8) ∉ t.take i) (hn:t.getD i 0≠112):(112:UInt8) ∉ t.take (i+1):=fun hm=>by
 rw [zS hi] at hm
 rcases List.mem_append.1 hm with h2|h2
 · exact h h2
 · exact hn (List.mem_singleton.1 h2).symm
theorem vh.num {M:Nat} {e:Int} {i:Nat} (h:vh (eD M e) i):i=(Lib.decDigits M).length:=by
 have hl:(eD M e).length=(Lib.decDigits M).length+1+(Lib.itoa e).length:=by unfold eD;simp;omega
 rcases Nat.lt_trichotomy i (Lib.decDigits M).length with h1|h1|h1
 · exfalso
   have h2:=h.at_ (by omega);have h3:(eD M e).getD i 0=(Lib.decDigits M).getD i 0:=by unfold eD;simp [List.getD,List.getElem?_append_left h1]
   rw [h3] at h2;have h4:=BT h1;rw [h2] at h4;exact oJ h4
 · exact h1
 · exfalso
   refine h.no (List.mem_iff_getElem?.2 ⟨(Lib.decDigits M).length,?_⟩);rw [List.getElem?_take,if_pos h1];unfold eD;simp
theorem QH (e:Int):Lib.hasPrefix (Lib.itoa e) [45]=decide (e<0)∧Lib.trimPrefix (Lib.itoa e) [45]=Lib.decDigits e.natAbs:=by
 obtain ⟨a,_,b⟩:=jD e.natAbs;obtain ⟨c,r,hc,h1,h2⟩:=yX a b;have h:=yq (n:=decide (e<0)) (x:=Lib.decDigits e.natAbs) (head_ne ⟨c,r,hc,h1,h2⟩ (.inl (by decide)))
 have e2:fq (decide (e<0))++Lib.decDigits e.natAbs=Lib.itoa e:=by
  rw [Fq];unfold fq;by_cases hn:e<0
  · rw [if_pos (decide_eq_true hn),if_pos hn]
  · rw [if_neg (by simp [hn]),if_neg hn]
 rw [e2] at h;exact h
theorem sL.dec {u most:Nat} {z:Int} (h:sL (Lib.decDigits u) most z) (hu:u≤most) (hl:(Lib.decDigits u).length≤17):z=(u:Int):=by
 obtain ⟨h1,h2⟩:=X8 hu hl
 rcases h with ⟨_,h⟩|⟨_,h⟩
 · exact absurd h1 h
 · rw [h,h2]
theorem ada (m:Nat):od m≤m:=Nat.div_le_self _ _
theorem Sx {s:ao} {i:Nat} {f:Nat} (hf:Cn f) (ht:ec f=s) (h0:s≠ [110,97,110]) (h1:Lib.trimPrefix s [45]≠ [105,110,102]) (h2:Lib.trimPrefix s [45]≠ [48,112,48]) (hi:vh (Lib.trimPrefix s [45]) i):
 ∃M e,rung f<9218868437227405312∧rung f≠0∧Lib.trimPrefix s [45]=eD M e∧M=od (b7 (rung f))∧e=eE (rung f)+v2 (b7 (rung f))∧M % 2=1∧M≤9007199254740991∧-1074≤e∧e≤1024∧
  (Lib.trimPrefix s [45]).take i=Lib.decDigits M∧(Lib.trimPrefix s [45]).drop (i+1)=Lib.itoa e∧i+1<(Lib.trimPrefix s [45]).length:=by
 obtain ⟨M,e,g1,g2,g3,g4,g5⟩:=Rv hf ht h0 h1 h2
 rw [g3] at hi
 have hil:=hi.num
 have hm:=tJ g1
 have he:=rZ g1
 have hv:=sy g1 g2
 obtain ⟨_,o2⟩:=qm _ (rF g2)
 have ol:=ada (b7 (rung f))
 have hne:0<(Lib.itoa e).length:=by
  rw [Fq];have:=List.length_pos_iff.2 (jD e.natAbs).2.2;rw [List.length_append];omega
 refine ⟨M,e,g1,g2,g3,g4,g5,by rw [g4];exact o2,by omega,by omega,by omega,?_,?_,?_⟩
 · rw [g3,hil];unfold eD;rw [List.take_left]
 · rw [g3,hil];unfold eD;rw [←List.drop_drop,List.drop_left];rfl
 · rw [g3,hil];unfold eD;simp;omega
theorem OS {u:Nat} (h:u≤9007199254740991):(Lib.decDigits u).length≤17:=AM 16 u (by have h2:(10:Nat) ^ (16+1)=100000000000000000:=(by decide);omega)
section
variable {s:ao} {i:Nat} {z:Int} (h0:s≠ [110,97,110]) (h1:Lib.trimPrefix s [45]≠ [105,110,102]) (h2:Lib.trimPrefix s [45]≠ [48,112,48]) (hi:vh (Lib.trimPrefix s [45]) i)
include h0 h1 h2 hi
theorem ad4 (hz:sL ((Lib.trimPrefix s [45]).take i) 9007199254740991 z) (hb:z<1∨z % 2=0∨((Lib.trimPrefix s [45]).length:Int) - 1≤i):pf s=none:=De fun f hf ht=>by
 obtain ⟨M,e,g1,g2,g3,g4,g5,g6,g7,g8,g9,g10,g11,g12⟩:=Sx hf ht h0 h1 h2 hi;rw [g10] at hz;have:=hz.dec g7 (OS g7);omega
theorem ad5 (hz:sL (Lib.trimPrefix ((Lib.trimPrefix s [45]).drop (i+1)) [45]) 2000 z) (hb:z<0∨(Lib.hasPrefix ((Lib.trimPrefix s [45]).drop (i+1)) [45]=true∧z=0)):pf s=none:=De fun f hf ht=>by
 obtain ⟨M,e,g1,g2,g3,g4,g5,g6,g7,g8,g9,g10,g11,g12⟩:=Sx hf ht h0 h1 h2 hi;obtain ⟨c1,c2⟩:=QH e;rw [g11,c1] at hb;rw [g11,c2] at hz;have:=hz.dec (by omega) (OS (by omega));rw [decide_eq_true_eq] at hb;omega
omit h0 h1 h2 in
theorem ad8 {e:Nat} {m:Nat} (hz:sL ((Lib.trimPrefix s [45]).take i) 9007199254740991 (m:Int)) (hm:1≤m) (hlt:i+1<(Lib.trimPrefix s [45]).length) (he:sL (Lib.trimPrefix ((Lib.trimPrefix s [45]).drop (i+1)) [45]) 2000 (e:Int)) (hb:¬(Lib.hasPrefix ((Lib.trimPrefix s [45]).drop (i+1)) [45]=true∧(e:Int)=0)):
 Lib.trimPrefix s [45]=eD m (if Lib.hasPrefix ((Lib.trimPrefix s [45]).drop (i+1)) [45]=true then -(e:Int) else (e:Int))∧m≤9007199254740991∧e≤2000:=by
 rcases hz with ⟨a,_⟩|⟨ca,a⟩
 · omega
 rcases he with ⟨b,_⟩|⟨cb,b⟩
 · omega
 have ea:em 0 ((Lib.trimPrefix s [45]).take i)=m:=by omega
 have eb:em 0 (Lib.trimPrefix ((Lib.trimPrefix s [45]).drop (i+1)) [45])=e:=by omega
 have da:=ca.dec
 have db:=cb.dec
 rw [ea] at da
 rw [eb] at db
 have la:=ca.le
 have lb:=cb.le
 refine ⟨?_,by omega,by omega⟩
 have hd:Lib.itoa (if Lib.hasPrefix ((Lib.trimPrefix s [45]).drop (i+1)) [45]=true then -(e:Int) else (e:Int))=(Lib.trimPrefix s [45]).drop (i+1):=by
  have hsp:=FL ((Lib.trimPrefix s [45]).drop (i+1));rw [←db] at hsp;by_cases hp:Lib.hasPrefix ((Lib.trimPrefix s [45]).drop (i+1)) [45]=true
  · have hz0:¬(e:Int)=0:=fun h=>hb ⟨hp,h⟩
    rw [if_pos hp,itoa_neg (by omega),show (-(e:Int)).natAbs=e by omega];rw [hp] at hsp;exact hsp.symm
  · rw [if_neg hp,QI (by omega),show ((e:Int)).natAbs=e by omega]
    have hp0:Lib.hasPrefix ((Lib.trimPrefix s [45]).drop (i+1)) [45]=false:=by simpa using hp
    rw [hp0] at hsp;exact hsp.symm
 unfold eD
 rw [hd,da]
 have e1:(Lib.trimPrefix s [45]).drop i=(Lib.trimPrefix s [45]).getD i 0 :: (Lib.trimPrefix s [45]).drop (i+1):=drop_at (by omega)
 rw [hi.at_ (by omega)] at e1
 rw [←e1,List.take_append_drop]
end
structure Al (m:Nat) (E:Int) (j:Nat):Prop where
 j0:j=0∨(m * 2 ^ (j - 1)<4503599627370496∧-1074<E - ((j - 1:Nat):Int))
 end_:¬(m * 2 ^ j<4503599627370496∧-1074<E - (j:Int))
theorem MB (m j:Nat) (h:0<j):m * 2 ^ j=2 * (m * 2 ^ (j - 1)):=by
 obtain ⟨k,rfl⟩:∃k,j=k+1:=⟨j - 1,by omega⟩;rw [Nat.pow_succ,show k+1 - 1=k by omega,←Nat.mul_assoc];omega
theorem Al.lt {m j:Nat} {E:Int} (h:Al m E j) (hm:m≤9007199254740991):m * 2 ^ j<9007199254740992:=by
 rcases Nat.eq_zero_or_pos j with h0|h0
 · subst h0;omega
 · have:=MB m j h0
   rcases h.j0 with h1|h1
   · omega
   · omega
theorem ad6 {s:ao} {m j:Nat} {E:Int} (h0:s≠ [110,97,110]) (h1:Lib.trimPrefix s [45]≠ [105,110,102]) (h2:Lib.trimPrefix s [45]≠ [48,112,48]) (ht:Lib.trimPrefix s [45]=eD m E) (hE: -2000≤E∧E≤2000) (h:Al m E j) (hb:E - (j:Int)< -1074∨971<E - (j:Int)):pf s=none:=De fun f hf hx=>by
 obtain ⟨M,e,g1,g2,g3,g4,g5⟩:=Rv hf hx h0 h1 h2;have hm:=tJ g1;have he:=rZ g1;have hv:=sy g1 g2;obtain ⟨o1,o2⟩:=qm _ (rF g2);obtain ⟨rfl,rfl⟩:=Rt (ht.symm.trans g3) (by omega) (by omega) (by omega) (by omega)
 have ye: -1074≤E - (j:Int):=by
  rcases h.j0 with h3|h3<;>omega
 rcases hb with hb|hb
 · omega
 have h4:4503599627370496≤m * 2 ^ j:=by
  rcases Nat.lt_or_ge (m * 2 ^ j) 4503599627370496 with h5|h5
  · exact absurd ⟨h5,by omega⟩ h.end_
  · exact h5
 have h5:v2 (b7 (rung f))≤j:=by
  rcases Nat.lt_or_ge j (v2 (b7 (rung f))) with h6|h6
  · exfalso
    have h7:2 ^ (j+1)≤2 ^ v2 (b7 (rung f)):=Nat.pow_le_pow_right (by decide) h6;have h8:m * 2 ^ (j+1)≤m * 2 ^ v2 (b7 (rung f)):=Nat.mul_le_mul_left _ h7;rw [←g4] at o1;rw [←o1,Nat.pow_succ,←Nat.mul_assoc] at h8;omega
  · exact h6
 omega
def qp (q:Nat) (E:Int):Nat:=if q<4503599627370496 then q else (E+1075).toNat * 4503599627370496+(q - 4503599627370496)
theorem aeb {s:ao} {m j:Nat} {E:Int} (ht:Lib.trimPrefix s [45]=eD m E) (hm:m % 2=1) (hm1:m≤9007199254740991) (h:Al m E j) (hb0: -1074≤E - (j:Int)) (hb1:E - (j:Int)≤971):
 qp (m * 2 ^ j) (E - j)<9218868437227405312∧pf s=some ((if Lib.hasPrefix s [45]=true then 9223372036854775808 else 0)+qp (m * 2 ^ j) (E - j)):=by
 have hq:=h.lt hm1
 have hend:=h.end_
 have hun:=adb (o:=m) (t:=j) hm
 have hne:m * 2 ^ j≠0:=Nat.mul_ne_zero (by omega) (Nat.ne_of_gt (Nat.two_pow_pos j))
 generalize hq':m * 2 ^ j=q at *
 have hR:qp q (E - j)<9218868437227405312∧qp q (E - j)≠0∧b7 (qp q (E - j))=q∧eE (qp q (E - j))=E - j:=by
  unfold qp;by_cases hlt:q<4503599627370496
  · rw [if_pos hlt]
    have hE:E - (j:Int)= -1074:=by omega
    refine ⟨by omega,hne,by unfold b7;rw [if_pos hlt],by unfold eE;rw [if_pos hlt];omega⟩
  · rw [if_neg hlt]
    obtain ⟨k,hk⟩:∃k:Nat,k=(E - (j:Int)+1075).toNat:=⟨_,rfl⟩;rw [←hk];have hk1:1≤k:=by omega
    have hk2:k≤2046:=by omega
    have a1:¬(k * 4503599627370496+(q - 4503599627370496)<4503599627370496):=by omega
    have a2:(k * 4503599627370496+(q - 4503599627370496)) / 4503599627370496=k:=by omega
    have a3:(k * 4503599627370496+(q - 4503599627370496)) % 4503599627370496=q - 4503599627370496:=by omega
    refine ⟨by omega,by omega,by unfold b7;rw [if_neg a1,a3];omega,by unfold eE;rw [if_neg a1,a2];omega⟩
 obtain ⟨r1,r2,r3,r4⟩:=hR
 generalize qp q (E - j)=R at *
 refine ⟨r1,?_⟩
 have hw:(if Lib.hasPrefix s [45]=true then 9223372036854775808 else 0)+R=Ieee.double.word (Lib.hasPrefix s [45]) R:=by
  rw [DT];cases Lib.hasPrefix s [45]<;>simp
 have hn:dM ((if Lib.hasPrefix s [45]=true then 9223372036854775808 else 0)+R)=Lib.hasPrefix s [45]:=by rw [hw];exact QF (by omega)
 have hg:rung ((if Lib.hasPrefix s [45]=true then 9223372036854775808 else 0)+R)=R:=by rw [hw];exact SD (by omega)
 have hlt:(if Lib.hasPrefix s [45]=true then 9223372036854775808 else 0)+R<18446744073709551616:=by split<;>omega
 generalize (if Lib.hasPrefix s [45]=true then 9223372036854775808 else 0)+R=f at *
 have hnn:isNan f=false:=by
  unfold isNan;rw [decide_eq_false_iff_not];show ¬9218868437227405312<rung f;rw [hg];omega
 refine oL ⟨hlt,by unfold jk;rw [if_neg (by rw [hnn];simp)]⟩ ?_
 rw [qs hnn (by rw [hg];omega) (by rw [hg];exact r2),hg,r3,r4,hun.1,hun.2,Dn,hn]
 conv=>rhs;rw [FL s,ht]
 unfold eD
 rw [show E - (j:Int)+((j:Nat):Int)=E by omega]
 simp
theorem aea:pf [110,97,110]=some 9221120237041090561:=oL ⟨by decide,by decide⟩ (yn (by decide))
theorem ad9 {s:ao} (h:Lib.trimPrefix s [45]= [105,110,102]):pf s=some ((if Lib.hasPrefix s [45]=true then 9223372036854775808 else 0)+9218868437227405312):=by
 have hs:=FL s;rw [h] at hs
 cases hp:Lib.hasPrefix s [45]
 · rw [hp] at hs;exact oL ⟨by decide,by decide⟩ ((rK (by decide) (by decide)).trans hs.symm)
 · rw [hp] at hs;exact oL ⟨by decide,by decide⟩ ((rK (by decide) (by decide)).trans hs.symm)
theorem aec {s:ao} (h:Lib.trimPrefix s [45]= [48,112,48]):pf s=some (if Lib.hasPrefix s [45]=true then 9223372036854775808 else 0):=by
 have hs:=FL s;rw [h] at hs
 cases hp:Lib.hasPrefix s [45]
 · rw [hp] at hs;exact oL ⟨by decide,by decide⟩ ((rL (by decide) (by decide) (by decide)).trans hs.symm)
 · rw [hp] at hs;exact oL ⟨by decide,by decide⟩ ((rL (by decide) (by decide) (by decide)).trans hs.symm)
end Go.Proofs.YtjdjliiolchciaaGreatDoor
namespace Go.Proofs.YtjdjliiolchciaaGreatDoor
open Go.RowKit Go.Bw Go.Bw.Fl
set_option linter.unusedVariables false
set_option linter.unusedSimpArgs false
theorem Tw:bB Tryz.prog 136:=⟨_,Tryz.func136,by kernel_rfl,rfl⟩
theorem yg (s:ao):Lib.hasPrefix s [45]=decide (0<s.length∧(s.getD 0 0).toNat=45):=by
 rw [Bool.eq_iff_iff,yh,decide_eq_true_eq]
 constructor
 · rintro ⟨r,rfl⟩;exact ⟨by simp,rfl⟩
 · rintro ⟨h1,h2⟩
   cases s with
   |nil=>simp at h1
   |cons c r=>
    have hc:c=45:=UInt8.toNat_inj.1 h2;exact ⟨r,by rw [hc]⟩
theorem M4 {s:ao} (h:Lib.hasPrefix s [45]=true):Lib.trimPrefix s [45]=s.drop 1:=by unfold Lib.trimPrefix;rw [if_pos h];rfl
theorem M3 {s:ao} (h:Lib.hasPrefix s [45]=false):Lib.trimPrefix s [45]=s:=by unfold Lib.trimPrefix;rw [if_neg (by rw [h];simp)]
def gT (b:Bool):Nat:=if b=true then 9223372036854775808 else 0
theorem aet (b:Bool):gT b=0∨gT b=9223372036854775808:=by unfold gT;split<;>simp
theorem sL.bd {s:ao} {most:Nat} {z:Int} (h:sL s most z): -1≤z∧z≤most:=by
 rcases h with ⟨h,_⟩|⟨h,h2⟩
 · omega
 · have:=h.le;omega
theorem ae1 {z:Int}:z.tmod 2=0↔z % 2=0:=by rw [←Int.dvd_iff_tmod_eq_zero,←Int.dvd_iff_emod_eq_zero]
def O1 (dn:Bool) (e:Nat):Int:=if dn=true then -(e:Int) else (e:Int)
theorem ad7 {q:Nat} {E:Int} {b:Bool} {fld:Nat} (hq:q<9007199254740992) (hE0: -1074≤E) (hE1:E≤971) (hf:fld=if q<4503599627370496 then 0 else (E+1075).toNat):gT b+fld * 4503599627370496+q % 4503599627370496=gT b+qp q E∧fld≤2046:=by
 unfold qp;by_cases h:q<4503599627370496
 · rw [if_pos h] at hf ⊢;omega
 · rw [if_neg h] at hf ⊢;omega
theorem Vp (s:ao) (hs:s.length≤281474976710656) (w:World):bx Tryz.prog 101 [str s] w fun v w'=>v=zG s∧Below w.heap.size w w':=by
 obtain ⟨t,ht⟩:∃t,t=Lib.trimPrefix s [45]:=⟨_,rfl⟩;obtain ⟨b,hbn⟩:∃b,b=Lib.hasPrefix s [45]:=⟨_,rfl⟩;have htl:t.length≤s.length:=by rw [ht];exact zV s [45]
 have hsg:=aet b;have hb:=Below.refl w.heap.size w;refine enter Tryz.func101 rfl rfl rfl<|am fun aR=>an rfl<|an rfl<|al aR<|av fun _ b8=>am fun dC=>ai rfl<|ae (fl rfl rfl) rfl<|al dC<|aO rfl (fun d7=>?_) (fun d7=>?_)
 ·
  have oV:=d7;simp only [DZ] at d7;refine am fun dW=>ae (rP qN rfl rfl) rfl<|an rfl<|an rfl<|al dW<|aJ<|aX<|fm rfl rfl rfl ?_
  exact ⟨_,rfl,by rw [d7];exact (zI aea).symm,hb⟩
 have oV:=d7;simp only [DZ] at d7;have hn0:s≠ [110,97,110]:=d7;refine aU<|ax b8<|am fun eh=>an rfl<|al eh<|am fun eL=>ai rfl<|an rfl<|al eL<|av fun _ dG=>av fun _ fC=>cR (X:=Bool) (fun q=> [(0,str s),(4,.int .u64 0),(5,str s),(23,.bool q)]) (fun q wr=>q=b∧Below w.heap.size w wr) (fun _ Cy=>?_) ?_
 ·
  refine aQ<|ai rfl<|ae (ez bI (by omega) rfl) rfl<|ae (ed rfl rfl) rfl<|ai rfl<|cG rfl rfl rfl (fun m4=>?_) (fun m4=>?_)
  ·
   have kc:=m4;simp only [DZ] at m4;refine ai rfl<|ap rfl rfl kc<|ae (fP bI rfl rfl (by omega) (by omega)) rfl<|ap rfl rfl kc<|ae (bX rfl rfl) rfl<|ae (bo rfl kc rfl) rfl<|ay<|a7 Cy (b) (by repeat first|exact aC|refine aA rfl (by first|rfl|exact a8 (by rw [hbn,yg,Bool.eq_iff_iff];simp;omega)) ?_) ?_
   exact ⟨rfl,hb⟩
  have kc:=m4;simp only [DZ] at m4;refine az rfl rfl kc rfl rfl<|az rfl rfl kc rfl rfl<|ae (bj rfl kc rfl) rfl<|ay<|a7 Cy (b) (by repeat first|exact aC|refine aA rfl (by first|rfl|exact a8 (by rw [hbn,yg,Bool.eq_iff_iff];simp;omega)) ?_) ?_
  exact ⟨rfl,hb⟩
 rintro q wr J0;replace J0:q=b∧Below w.heap.size w wr:=J0;obtain ⟨hq,hb⟩:=J0;show Wq _ _ _ _ [(0,str s),(4,.int .u64 0),(5,str s),(23,.bool q)] _;have:=hb.size;refine ax fC<|cR (X:=Unit) (fun u_=> [(0,str s),(4,.int .u64 (gT b:Nat)),(5,str t)]) (fun u_ wr=>Below w.heap.size w wr) (fun _ uI=>?_) ?_
 ·
  refine aO rfl (fun lu=>?_) (fun lu=>?_)
  ·
   have vK:=lu;have hbt:Lib.hasPrefix s [45]=true:=hbn.symm.trans (hq.symm.trans vK);have hs1:=(yg s).symm.trans hbt;rw [decide_eq_true_eq] at hs1;have htt:=ht.trans (M4 hbt);have hbb:=hbn.trans hbt;refine am fun im=>an rfl<|al im<|aQ<|ai rfl<|ae (tW bI rfl rfl (by omega) (by omega)) rfl<|an rfl<|ay<|a7 uI (()) (by repeat first|exact aC|refine aA rfl (by first|rfl|exact d5 htt.symm|exact aH (by rw [hbb];rfl)) ?_) ?_
   exact hb
  have vK:=lu;have hbt:Lib.hasPrefix s [45]=false:=hbn.symm.trans (hq.symm.trans vK);have htt:=ht.trans (M3 hbt);have hbb:=hbn.trans hbt;refine aU<|a7 uI (()) (by repeat first|exact aC|refine aA rfl (by first|rfl|exact d5 htt.symm|exact aH (by rw [hbb];rfl)) ?_) ?_
  exact hb
 rintro u_ wr J3;replace J3:Below w.heap.size w wr:=J3;have hb:=J3;show Wq _ _ _ _ [(0,str s),(4,.int .u64 (gT b:Nat)),(5,str t)] _;have:=hb.size;refine ax dG<|av fun _ nP=>am fun lK=>ai rfl<|ae (fl rfl rfl) rfl<|al lK<|aO rfl (fun vQ=>?_) (fun vQ=>?_)
 ·
  have Xh:=vQ;simp only [DZ] at vQ;have hinf:=ad9 (ht.symm.trans vQ);refine am fun mD=>ai rfl<|ae (bW (yz rfl rfl) (aH (show _=((gT b+9218868437227405312:Nat):Int) by rw [wrap_u64 _ (by omega) (by omega)];omega))) rfl<|ae (rP qN rfl rfl) rfl<|an rfl<|an rfl<|al mD<|aJ<|aX<|fm rfl rfl rfl ?_
  exact ⟨_,rfl,by rw [zI hinf,←hbn,Int.toNat_natCast];rfl,hb⟩
 have Xh:=vQ;simp only [DZ] at vQ;have hn1:Lib.trimPrefix s [45]≠ [105,110,102]:=by rw [←ht];exact vQ
 refine aU<|ax nP<|av fun _ m6=>am fun po=>ai rfl<|ae (fl rfl rfl) rfl<|al po<|aO rfl (fun vZ=>?_) (fun vZ=>?_)
 ·
  have Xs:=vZ;simp only [DZ] at vZ;have hzero:=aec (ht.symm.trans vZ);refine am fun kJ=>ai rfl<|ae (rP qN rfl rfl) rfl<|an rfl<|an rfl<|al kJ<|aJ<|aX<|fm rfl rfl rfl ?_
  exact ⟨_,rfl,by rw [zI hzero,←hbn,Int.toNat_natCast];rfl,hb⟩
 have Xs:=vZ;simp only [DZ] at vZ;have hn2:Lib.trimPrefix s [45]≠ [48,112,48]:=by rw [←ht];exact vZ
 refine aU<|ax m6<|am fun nR=>an rfl<|al nR<|av fun _ jv=>b4<|d9 (X:=Nat) (fun i=> [(4,.int .u64 (gT b:Nat)),(5,str t),(6,.int .i64 (i:Int))]) (fun i wr=>i≤t.length∧(112:UInt8) ∉ t.take i∧Below w.heap.size w wr) (fun i=>t.length - i) (0) ?_ ?_ ?_
 · exact by repeat first|exact aC|refine aA rfl (by first|rfl|exact aH (by omega)) ?_
 · exact ⟨by omega,by simp,hb⟩
 rintro i wr Kb _ aaA;replace Kb:i≤t.length∧(112:UInt8) ∉ t.take i∧Below w.heap.size w wr:=Kb;obtain ⟨hi,hno,hb⟩:=Kb;show Wc _ _ _ _ _ [(4,.int .u64 (gT b:Nat)),(5,str t),(6,.int .i64 (i:Int))] _;have:=hb.size;refine av fun _ m7=>av fun _ nS=>cR (X:=Bool) (fun q=> [(4,.int .u64 (gT b:Nat)),(5,str t),(6,.int .i64 (i:Int)),(44,.bool q)]) (fun q wr=>q=decide (i<t.length∧(t.getD i 0).toNat≠112)∧Below w.heap.size w wr) (fun _ Qi=>?_) ?_
 ·
  refine aQ<|ai rfl<|ai rfl<|ae (ez bI (by omega) rfl) rfl<|ae (dL rfl rfl) rfl<|ai rfl<|cG rfl rfl rfl (fun js=>?_) (fun js=>?_)
  ·
   have nL:=js;simp only [DZ] at js;refine ai rfl<|ap rfl rfl nL<|ai rfl<|ap rfl rfl nL<|ae (fP bI rfl rfl (by omega) (by omega)) rfl<|ap rfl rfl nL<|ae (fG rfl rfl) rfl<|ae (bo rfl nL rfl) rfl<|ay<|a7 Qi (decide (i<t.length∧(t.getD i 0).toNat≠112)) (by repeat first|exact aC|refine aA rfl (by first|rfl|exact a8 (by rw [Bool.eq_iff_iff];simp [Int.toNat_natCast];omega)) ?_) ?_
   exact ⟨rfl,hb⟩
  have nL:=js;simp only [DZ] at js;refine az rfl rfl nL rfl rfl<|az rfl rfl nL rfl rfl<|az rfl rfl nL rfl rfl<|ae (bj rfl nL rfl) rfl<|ay<|a7 Qi (decide (i<t.length∧(t.getD i 0).toNat≠112)) (by repeat first|exact aC|refine aA rfl (by first|rfl|exact a8 (by rw [Bool.eq_iff_iff];simp [Int.toNat_natCast];omega)) ?_) ?_
  exact ⟨rfl,hb⟩
 rintro q wr Kl;replace Kl:q=decide (i<t.length∧(t.getD i 0).toNat≠112)∧Below w.heap.size w wr:=Kl;obtain ⟨hq,hb⟩:=Kl;show Wq _ _ _ _ [(4,.int .u64 (gT b:Nat)),(5,str t),(6,.int .i64 (i:Int)),(44,.bool q)] _;have:=hb.size;refine ax nS<|aO rfl (fun lw=>?_) (fun lw=>?_)
 ·
  have wb:=lw;have hq4:=of_decide_eq_true (hq.symm.trans wb);have hil:=hq4.1;have hnp:t.getD i 0≠112:=fun e=>hq4.2 (by rw [e];rfl);refine aU<|ax m7<|b4<|aQ<|ai rfl<|ae (ct rfl rfl (by omega) (by omega)) rfl<|an rfl<|ay<|cD<|fun a_ bM=>aaA _ _ (i+1) (by omega) (by repeat first|exact aC|refine aA rfl (by first|rfl|exact aH (by omega)) ?_) ?_ a_ bM
  exact ⟨by omega,vh.snoc hil hno hnp,hb⟩
 have wb:=lw;have hq4:=of_decide_eq_false (hq.symm.trans wb);have hPA:vh (Lib.trimPrefix s [45]) i:=by rw [←ht];exact ⟨hi,hno,fun h=>UInt8.toNat_inj.1 (Classical.byContradiction fun h2=>hq4 ⟨h,h2⟩)⟩
 refine d2<|cj<|cj<|d3<|ax jv<|am fun sh=>ai rfl<|ai rfl<|ae (pQ bI rfl rfl (by omega) (by omega)) rfl<|aD Tw rfl rfl (Sn (t.take i) 9007199254740991 (by have:=List.length_take_le i t;omega) _) rfl ?_
 rintro _ fj ⟨⟨z,rfl,hz⟩,bk⟩;have:=bk.size;have hb:=aZ hb bk;refine an rfl<|al sh<|av fun _ tA=>av fun _ px=>?_
 have hzb:=hz.bd;have hz':=hz;rw [ht] at hz';have hz2:=@ae1 z;refine cR (X:=Bool) (fun q=> [(4,.int .u64 (gT b:Nat)),(5,str t),(6,.int .i64 (i:Int)),(7,.int .i64 z),(64,.bool q)]) (fun q wr=>q=decide (z<1∨z % 2=0∨(t.length:Int) - 1≤i)∧Below w.heap.size w wr) (fun _ K8=>?_) ?_
 ·
  refine aQ<|ai rfl<|ae (dL rfl rfl) rfl<|ai rfl<|dy rfl rfl rfl (fun BR=>?_) (fun BR=>?_)
  ·
   have xa:=BR;simp only [DZ] at BR;refine az rfl rfl xa rfl rfl<|az rfl rfl xa rfl rfl<|ae (bo rfl xa rfl) rfl<|ai rfl<|az rfl rfl rfl rfl rfl<|az rfl rfl rfl rfl rfl<|az rfl rfl rfl rfl rfl<|az rfl rfl rfl rfl rfl<|az rfl rfl rfl rfl rfl<|ae (bo rfl rfl rfl) rfl<|ay<|a7 K8 (decide (z<1∨z % 2=0∨(t.length:Int) - 1≤i)) (by repeat first|exact aC|refine aA rfl (by first|rfl|exact a8 (by rw [Bool.eq_iff_iff];simp<;>omega)) ?_) ?_
   exact ⟨rfl,hb⟩
  have xa:=BR;simp only [DZ] at BR;refine ai rfl<|ap rfl rfl xa<|ae (u7 rfl rfl (by decide)) rfl<|ap rfl rfl xa<|ae (bX rfl rfl) rfl<|ae (bj rfl xa rfl) rfl<|ai rfl<|dy rfl rfl rfl (fun s5=>?_) (fun s5=>?_)
  ·
   have lB:=s5;simp only [DZ] at s5;refine az rfl rfl lB rfl rfl<|az rfl rfl lB rfl rfl<|az rfl rfl lB rfl rfl<|az rfl rfl lB rfl rfl<|ae (bo rfl lB rfl) rfl<|ay<|a7 K8 (decide (z<1∨z % 2=0∨(t.length:Int) - 1≤i)) (by repeat first|exact aC|refine aA rfl (by first|rfl|exact a8 (by rw [Bool.eq_iff_iff];simp<;>omega)) ?_) ?_
   exact ⟨rfl,hb⟩
  have lB:=s5;simp only [DZ] at s5;refine ai rfl<|ap rfl rfl lB<|ai rfl<|ap rfl rfl lB<|ae (ez bI (by omega) rfl) rfl<|ap rfl rfl lB<|ae (iQ rfl rfl (by omega) (by omega)) rfl<|ap rfl rfl lB<|ae (f7 rfl rfl) rfl<|ae (bj rfl lB rfl) rfl<|ay<|a7 K8 (decide (z<1∨z % 2=0∨(t.length:Int) - 1≤i)) (by repeat first|exact aC|refine aA rfl (by first|rfl|exact a8 (by rw [Bool.eq_iff_iff];simp<;>omega)) ?_) ?_
  exact ⟨rfl,hb⟩
 rintro q wr xj;replace xj:q=decide (z<1∨z % 2=0∨(t.length:Int) - 1≤i)∧Below w.heap.size w wr:=xj;obtain ⟨hq,hb⟩:=xj;show Wq _ _ _ _ [(4,.int .u64 (gT b:Nat)),(5,str t),(6,.int .i64 (i:Int)),(7,.int .i64 z),(64,.bool q)] _;have:=hb.size;refine ax px<|aO rfl (fun H6=>?_) (fun H6=>?_)
 ·
  have H7:=H6;have hq5:=of_decide_eq_true (hq.symm.trans H7);have hbad:=ad4 hn0 hn1 hn2 hPA hz' (by rw [←ht];exact hq5);refine am fun se=>an rfl<|an rfl<|al se<|aJ<|aX<|fm rfl rfl rfl ?_
  exact ⟨_,rfl,(zH hbad).symm,hb⟩
 have H7:=H6;have hq5:=of_decide_eq_false (hq.symm.trans H7);obtain ⟨m,hm⟩:∃m:Nat,z=(m:Int):=⟨z.toNat,by omega⟩;subst hm;have hil:i+1<t.length:=by omega
 obtain ⟨dn,hdn⟩:∃d,d=Lib.hasPrefix (t.drop (i+1)) [45]:=⟨_,rfl⟩;obtain ⟨r,hr⟩:∃r,r=Lib.trimPrefix (t.drop (i+1)) [45]:=⟨_,rfl⟩;have hrl:r.length≤t.length:=by rw [hr];have:=zV (t.drop (i+1)) [45];rw [List.length_drop] at this;omega
 have hdl:(t.drop (i+1)).length=t.length - (i+1):=List.length_drop;have hd0:(t.drop (i+1)).getD 0 0=t.getD (i+1) 0:=by simp [List.getD,List.getElem?_drop]
 refine aU<|ax tA<|am fun B4=>ai rfl<|ai rfl<|ae (ct rfl rfl (by omega) (by omega)) rfl<|ae (fP bI rfl rfl (by omega) (by omega)) rfl<|ae (bW (bX rfl rfl) (a8 (show _=dn by rw [hdn,yg,hdl,hd0,show ((i:Int)+1).toNat=i+1 by omega,Bool.eq_iff_iff];simp;omega))) rfl<|an rfl<|al B4<|am fun B9=>ai rfl<|ai rfl<|ae (ct rfl rfl (by omega) (by omega)) rfl<|ae (bW (tW bI rfl rfl (by omega) (by omega)) (d5 (show _=t.drop (i+1) by rw [show ((i:Int)+1).toNat=i+1 by omega]))) rfl<|an rfl<|al B9<|av fun _ sf=>am fun Ca=>ai rfl<|al Ca<|cR (X:=Unit) (fun u_=> [(4,.int .u64 (gT b:Nat)),(7,.int .i64 (m:Int)),(8,.bool dn),(9,str r)]) (fun u_ wr=>Below w.heap.size w wr) (fun _ PZ=>?_) ?_
 ·
  refine aO rfl (fun Im=>?_) (fun Im=>?_)
  ·
   have Ew:=Im;have htr:=hr.trans (M4 (hdn.symm.trans Ew));have hpos:=(yg _).symm.trans (hdn.symm.trans Ew);rw [decide_eq_true_eq] at hpos;refine aQ<|ai rfl<|ae (tW bI rfl rfl (by omega) (by omega)) rfl<|an rfl<|ay<|a7 PZ (()) (by repeat first|exact aC|refine aA rfl (by first|rfl|exact d5 htr.symm) ?_) ?_
   exact hb
  have Ew:=Im;have htr:=hr.trans (M3 (hdn.symm.trans Ew));refine aU<|a7 PZ (()) (by repeat first|exact aC|refine aA rfl (by first|rfl|exact d5 htr.symm) ?_) ?_
  exact hb
 rintro u_ wr xl;replace xl:Below w.heap.size w wr:=xl;have hb:=xl;show Wq _ _ _ _ [(4,.int .u64 (gT b:Nat)),(7,.int .i64 (m:Int)),(8,.bool dn),(9,str r)] _;have:=hb.size;refine ax sf<|am fun KB=>ai rfl<|aD Tw rfl rfl (Sn r 2000 (by omega) _) rfl ?_
 rintro _ gj ⟨⟨ze,rfl,hze⟩,bD⟩;have:=bD.size;have hb:=aZ hb bD;refine an rfl<|al KB<|av fun _ ZC=>av fun _ KC=>?_
 have hzeb:=hze.bd;have hze':=hze;rw [hr,ht] at hze';refine cR (X:=Bool) (fun q=> [(4,.int .u64 (gT b:Nat)),(7,.int .i64 (m:Int)),(8,.bool dn),(10,.int .i64 ze),(87,.bool q)]) (fun q wr=>q=decide (ze<0∨(dn=true∧ze=0))∧Below w.heap.size w wr) (fun _ K2=>?_) ?_
 ·
  refine aQ<|ai rfl<|ae (dL rfl rfl) rfl<|ai rfl<|dy rfl rfl rfl (fun s8=>?_) (fun s8=>?_)
  ·
   refine az rfl rfl s8 rfl rfl<|bY rfl rfl rfl<|bY rfl rfl rfl<|az rfl rfl s8 rfl rfl<|ae (bo rfl s8 rfl) rfl<|ay<|a7 K2 (decide (ze<0∨(dn=true∧ze=0))) (by repeat first|exact aC|refine aA rfl (by first|rfl|exact a8 (by rw [Bool.eq_iff_iff];simp_all<;>omega)) ?_) ?_
   exact ⟨rfl,hb⟩
  refine ai rfl<|ap rfl rfl s8<|ai rfl<|cG rfl rfl rfl (fun Ja=>?_) (fun Ja=>?_)
  ·
   have Bf:=Ja;refine ai rfl<|ap rfl rfl Bf<|ae (bX rfl rfl) rfl<|ap rfl rfl s8<|ae (bo rfl Bf rfl) rfl<|ae (bj rfl s8 rfl) rfl<|ay<|a7 K2 (decide (ze<0∨(dn=true∧ze=0))) (by repeat first|exact aC|refine aA rfl (by first|rfl|exact a8 (by rw [Bool.eq_iff_iff];simp_all<;>omega)) ?_) ?_
   exact ⟨rfl,hb⟩
  have Bf:=Ja;refine az rfl rfl Bf rfl rfl<|ap rfl rfl s8<|ae (bj rfl Bf rfl) rfl<|ae (bj rfl s8 rfl) rfl<|ay<|a7 K2 (decide (ze<0∨(dn=true∧ze=0))) (by repeat first|exact aC|refine aA rfl (by first|rfl|exact a8 (by rw [Bool.eq_iff_iff];simp_all<;>omega)) ?_) ?_
  exact ⟨rfl,hb⟩
 rintro q wr JH;replace JH:q=decide (ze<0∨(dn=true∧ze=0))∧Below w.heap.size w wr:=JH;obtain ⟨hq,hb⟩:=JH;show Wq _ _ _ _ [(4,.int .u64 (gT b:Nat)),(7,.int .i64 (m:Int)),(8,.bool dn),(10,.int .i64 ze),(87,.bool q)] _;have:=hb.size;refine ax KC<|aO rfl (fun Iy=>?_) (fun Iy=>?_)
 ·
  have Iz:=Iy;have hq7:=of_decide_eq_true (hq.symm.trans Iz);have hbad:=ad5 hn0 hn1 hn2 hPA hze' (by rw [←ht,←hdn];exact hq7);refine am fun tu=>an rfl<|an rfl<|al tu<|aJ<|aX<|fm rfl rfl rfl ?_
  exact ⟨_,rfl,(zH hbad).symm,hb⟩
 have Iz:=Iy;have hq7:=of_decide_eq_false (hq.symm.trans Iz);obtain ⟨e,he⟩:∃e:Nat,ze=(e:Int):=⟨ze.toNat,by omega⟩;subst he;have hgood:=ad8 (s:=s) hPA hz' (by omega) (by rw [←ht];exact hil) hze' (by rw [←ht,←hdn];exact fun h=>hq7 (.inr h));rw [←ht,←hdn] at hgood;obtain ⟨hnum,hml,hel⟩:=hgood;obtain ⟨E,hE⟩:∃E,E=O1 dn e:=⟨_,rfl⟩;have hEb: -2000≤E∧E≤2000:=by rw [hE];unfold O1;split<;>omega
 have hnum':Lib.trimPrefix s [45]=eD m E:=by rw [←ht,hE];exact hnum
 have hm2:m % 2=1:=by omega
 refine aU<|ax ZC<|av fun _ Ci=>am fun Cj=>ai rfl<|al Cj<|cR (X:=Unit) (fun u_=> [(4,.int .u64 (gT b:Nat)),(7,.int .i64 (m:Int)),(10,.int .i64 E)]) (fun u_ wr=>Below w.heap.size w wr) (fun _ P2=>?_) ?_
 ·
  refine aO rfl (fun IC=>?_) (fun IC=>?_)
  ·
   have ID:=IC;have hE2:E= -(e:Int):=by rw [hE,ID];rfl
   refine aQ<|ai rfl<|ae (NA rfl) rfl<|an rfl<|ay<|a7 P2 (()) (by repeat first|exact aC|refine aA rfl (by first|rfl|exact aH hE2.symm|exact aH (by rw [wrap_i64 _ (by omega) (by omega)];omega)) ?_) ?_
   exact hb
  have ID:=IC;have hE2:E=(e:Int):=by rw [hE,ID];rfl
  refine aU<|a7 P2 (()) (by repeat first|exact aC|refine aA rfl (by first|rfl|exact aH hE2.symm|exact aH (by rw [wrap_i64 _ (by omega) (by omega)];omega)) ?_) ?_
  exact hb
 rintro u_ wr JL;replace JL:Below w.heap.size w wr:=JL;have hb:=JL;show Wq _ _ _ _ [(4,.int .u64 (gT b:Nat)),(7,.int .i64 (m:Int)),(10,.int .i64 E)] _;have:=hb.size;refine ax Ci<|av fun _ ZM=>b4<|d9 (X:=Nat) (fun j=> [(4,.int .u64 (gT b:Nat)),(7,.int .i64 ((m * 2 ^ j:Nat):Int)),(10,.int .i64 (E - (j:Int)))]) (fun j wr=>(j=0∨(m * 2 ^ (j - 1)<4503599627370496∧-1074<E - ((j - 1:Nat):Int)))∧Below w.heap.size w wr) (fun j=>(E+1074 - j).toNat) (0) ?_ ?_ ?_
 · exact by repeat first|exact aC|refine aA rfl (by first|rfl|exact aH (by simp)) ?_
 · exact ⟨.inl rfl,hb⟩
 rintro j wr JM _ aan;replace JM:(j=0∨(m * 2 ^ (j - 1)<4503599627370496∧-1074<E - ((j - 1:Nat):Int)))∧Below w.heap.size w wr:=JM;obtain ⟨hj,hb⟩:=JM;show Wc _ _ _ _ _ [(4,.int .u64 (gT b:Nat)),(7,.int .i64 ((m * 2 ^ j:Nat):Int)),(10,.int .i64 (E - (j:Int)))] _;have:=hb.size;have hps:m * 2 ^ (j+1)=2 * (m * 2 ^ j):=MB m (j+1) (by omega);have hlow: -2000≤E - (j:Int):=by omega
 have hqm:m * 2 ^ j<9007199254740992:=by
  rcases Nat.eq_zero_or_pos j with h0|h0
  · rw [h0];omega
  · have h1:=MB m j h0
    rcases hj with h2|h2
    · omega
    · omega
 refine av fun _ ZN=>av fun _ ZO=>cR (X:=Bool) (fun q=> [(4,.int .u64 (gT b:Nat)),(7,.int .i64 ((m * 2 ^ j:Nat):Int)),(10,.int .i64 (E - (j:Int))),(96,.bool q)]) (fun q wr=>q=decide (m * 2 ^ j<4503599627370496∧-1074<E - (j:Int))∧Below w.heap.size w wr) (fun _ P5=>?_) ?_
 ·
  refine aQ<|ai rfl<|ae (dL rfl rfl) rfl<|ai rfl<|cG rfl rfl rfl (fun Bk=>?_) (fun Bk=>?_)
  ·
   have Bl:=Bk;simp only [DZ] at Bk;refine ai rfl<|ap rfl rfl Bl<|ae (ed rfl rfl) rfl<|ae (bo rfl Bl rfl) rfl<|ay<|a7 P5 (decide (m * 2 ^ j<4503599627370496∧-1074<E - (j:Int))) (by repeat first|exact aC|refine aA rfl (by first|rfl|exact a8 (by rw [Bool.eq_iff_iff];simp only [decide_eq_true_eq,Bool.false_eq_true,false_iff];omega)) ?_) ?_
   exact ⟨rfl,hb⟩
  have Bl:=Bk;simp only [DZ] at Bk;refine az rfl rfl Bl rfl rfl<|ae (bj rfl Bl rfl) rfl<|ay<|a7 P5 (decide (m * 2 ^ j<4503599627370496∧-1074<E - (j:Int))) (by repeat first|exact aC|refine aA rfl (by first|rfl|exact a8 (by rw [Bool.eq_iff_iff];simp only [decide_eq_true_eq,Bool.false_eq_true,false_iff];omega)) ?_) ?_
  exact ⟨rfl,hb⟩
 rintro q wr JR;replace JR:q=decide (m * 2 ^ j<4503599627370496∧-1074<E - (j:Int))∧Below w.heap.size w wr:=JR;obtain ⟨hq,hb⟩:=JR;show Wq _ _ _ _ [(4,.int .u64 (gT b:Nat)),(7,.int .i64 ((m * 2 ^ j:Nat):Int)),(10,.int .i64 (E - (j:Int))),(96,.bool q)] _;have:=hb.size;refine ax ZO<|aO rfl (fun IH=>?_) (fun IH=>?_)
 ·
  have II:=IH;have hq9:=of_decide_eq_true (hq.symm.trans II);refine aU<|ax ZN<|b4<|am fun xE=>ai rfl<|ae (Uz rfl rfl (by omega) (by omega)) rfl<|an rfl<|al xE<|aQ<|ai rfl<|ae (iQ rfl rfl (by omega) (by omega)) rfl<|an rfl<|ay<|cD<|fun a_ bM=>aan _ _ (j+1) (by omega) (by repeat first|exact aC|refine aA rfl (by first|rfl|exact aH (by rw [hps];omega)|exact aH (by omega)) ?_) ?_ a_ bM
  exact ⟨.inr hq9,hb⟩
 have II:=IH;have hLE:Al m E j:=⟨hj,of_decide_eq_false (hq.symm.trans II)⟩;refine d2<|cj<|cj<|d3<|ax ZM<|av fun _ KN=>av fun _ ZZ=>cR (X:=Bool) (fun q=> [(4,.int .u64 (gT b:Nat)),(7,.int .i64 ((m * 2 ^ j:Nat):Int)),(10,.int .i64 (E - (j:Int))),(106,.bool q)]) (fun q wr=>q=decide (E - (j:Int)< -1074∨971<E - (j:Int))∧Below w.heap.size w wr) (fun _ P6=>?_) ?_
 ·
  refine aQ<|ai rfl<|ae (dL rfl rfl) rfl<|ai rfl<|dy rfl rfl rfl (fun Bo=>?_) (fun Bo=>?_)
  ·
   have Bp:=Bo;simp only [DZ] at Bo;refine az rfl rfl Bp rfl rfl<|ae (bo rfl Bp rfl) rfl<|ay<|a7 P6 (decide (E - (j:Int)< -1074∨971<E - (j:Int))) (by repeat first|exact aC|refine aA rfl (by first|rfl|exact a8 (by rw [Bool.eq_iff_iff];simp only [decide_eq_true_eq,eq_self,true_iff];omega)) ?_) ?_
   exact ⟨rfl,hb⟩
  have Bp:=Bo;simp only [DZ] at Bo;refine ai rfl<|ap rfl rfl Bp<|ae (ed rfl rfl) rfl<|ae (bj rfl Bp rfl) rfl<|ay<|a7 P6 (decide (E - (j:Int)< -1074∨971<E - (j:Int))) (by repeat first|exact aC|refine aA rfl (by first|rfl|exact a8 (by rw [Bool.eq_iff_iff];simp only [decide_eq_true_eq,eq_self,true_iff];omega)) ?_) ?_
  exact ⟨rfl,hb⟩
 rintro q wr JU;replace JU:q=decide (E - (j:Int)< -1074∨971<E - (j:Int))∧Below w.heap.size w wr:=JU;obtain ⟨hq,hb⟩:=JU;show Wq _ _ _ _ [(4,.int .u64 (gT b:Nat)),(7,.int .i64 ((m * 2 ^ j:Nat):Int)),(10,.int .i64 (E - (j:Int))),(106,.bool q)] _;have:=hb.size;refine ax ZZ<|aO rfl (fun GK=>?_) (fun GK=>?_)
 ·
  have GL:=GK;have hbad:=ad6 hn0 hn1 hn2 hnum' hEb hLE (of_decide_eq_true (hq.symm.trans GL));refine am fun KP=>an rfl<|an rfl<|al KP<|aJ<|aX<|fm rfl rfl rfl ?_
  exact ⟨_,rfl,(zH hbad).symm,hb⟩
 have GL:=GK;have hq10:=of_decide_eq_false (hq.symm.trans GL);obtain ⟨hR,hok⟩:=aeb hnum' hm2 hml hLE (by omega) (by omega);rw [←hbn] at hok;have hok2:pf s=some (gT b+qp (m * 2 ^ j) (E - j)):=hok;obtain ⟨fld,hfld⟩:∃f:Nat,f=if m * 2 ^ j<4503599627370496 then 0 else (E - (j:Int)+1075).toNat:=⟨_,rfl⟩;obtain ⟨hbits,hfl⟩:=ad7 (b:=b) hqm (by omega) (by omega) hfld;refine aU<|ax KN<|am fun KQ=>ai rfl<|ae (ct rfl rfl (by omega) (by omega)) rfl<|ae (bW (ll mg oP rfl) (aH (show _=(((E - (j:Int)+1075).toNat:Nat):Int) by rw [wrap_u64 _ (by omega) (by omega)];omega))) rfl<|an rfl<|al KQ<|av fun _ Z3=>am fun KR=>ai rfl<|ae (dL rfl rfl) rfl<|al KR<|cR (X:=Unit) (fun u_=> [(4,.int .u64 (gT b:Nat)),(7,.int .i64 ((m * 2 ^ j:Nat):Int)),(11,.int .u64 (fld:Nat))]) (fun u_ wr=>Below w.heap.size w wr) (fun _ P9=>?_) ?_
 ·
  refine aO rfl (fun vE=>?_) (fun vE=>?_)
  ·
   have W4:=vE;simp only [DZ] at vE;have hf2:fld=0:=by rw [hfld,if_pos (by have:=vE;omega)]
   refine aQ<|an rfl<|ay<|a7 P9 (()) (by repeat first|exact aC|refine aA rfl (by first|rfl|exact aH (by first|(rw [hf2];done)|(rw [hf2];rfl))) ?_) ?_
   exact hb
  have W4:=vE;simp only [DZ] at vE;have hf2:fld=(E - (j:Int)+1075).toNat:=by rw [hfld,if_neg (by have:=vE;omega)]
  refine aU<|a7 P9 (()) (by repeat first|exact aC|refine aA rfl (by first|rfl|exact aH (by first|(rw [hf2];done)|(rw [hf2];rfl))) ?_) ?_
  exact hb
 rintro u_ wr JX;replace JX:Below w.heap.size w wr:=JX;have hb:=JX;show Wq _ _ _ _ [(4,.int .u64 (gT b:Nat)),(7,.int .i64 ((m * 2 ^ j:Nat):Int)),(11,.int .u64 (fld:Nat))] _;have:=hb.size;refine ax Z3<|am fun Z5=>ai rfl<|ai rfl<|ae (bW (NB rfl rfl (by decide) (by decide)) (aH (SS fld hfl))) rfl<|ae (bW (yz rfl rfl) (aH (show _=((gT b+fld * 4503599627370496:Nat):Int) by rw [wrap_u64 _ (by omega) (by omega)];omega))) rfl<|ai rfl<|ae (bW (ll mg oP rfl) (aH (show _=((m * 2 ^ j:Nat):Int) from wrap_u64 _ (by omega) (by omega)))) rfl<|ae (bW (Ag rfl rfl) (aH (Og _ (by omega)))) rfl<|ae (bW (yz rfl rfl) (aH (show _=((gT b+qp (m * 2 ^ j) (E - j):Nat):Int) by rw [←hbits,wrap_u64 _ (by omega) (by omega)];omega))) rfl<|ae (rP qN rfl rfl) rfl<|an rfl<|an rfl<|al Z5<|aJ<|fm rfl rfl rfl ?_
 exact ⟨_,rfl,by rw [zI hok2,Int.toNat_natCast],hb⟩
structure je (v:c7) (t:ao):Prop where
 ok:v.Ok
 right:iB v=true
 k4:v.k≠4
 text:qr v=t
theorem je.inj {u v:c7} {t:ao} (a:je u t) (b:je v t):u=v:=by
 have h1:=ME a.ok a.right;have h2:=ME b.ok b.right;rw [a.text] at h1;rw [b.text,h1] at h2;injection h2 with h2
 injection h2
theorem S9 {k n:Int} {f:Nat} {s:ao} (hr:iB ⟨k,n,f,s⟩=true):qr ⟨k,n,f,s⟩=if k=1 then (if (n==1)=true then [116,114,117,101] else [102,97,108,115,101]) else if k=2 then Lib.itoa n else if k=3 then ec f else if k=4 then lV s else [110,117,108,108]:=by
 unfold qr nh;rw [if_neg (by rw [hr];simp)];simp only
 split
 · rfl
 split
 · rfl
 split
 · rfl
 split<;>rfl
inductive Vd (v:c7) (t:ao):Prop
 |null (hv:v=ch) (ht:t=gi)
 |true (hv:v=rN Bool.true) (ht:t=gV)
 |false (hv:v=rN Bool.false) (ht:t=gU)
 |int (n:Int) (h0: -9223372036854775808≤n) (h1:n≤9223372036854775807) (hv:v=⟨2,n,0,[]⟩) (ht:t=Lib.itoa n)
 |float (f:Nat) (hf:Cn f) (hv:v=⟨3,0,f,[]⟩) (ht:t=ec f)
theorem je.is {v:c7} {t:ao} (a:je v t):Vd v t:=by
 obtain ⟨o,hr,h4,ht⟩:=a;obtain ⟨k,n,f,s⟩:=v;rw [S9 hr] at ht;have h:=hr;unfold iB at h;simp only at h h4;by_cases k0:k=0
 · subst k0
   rw [if_pos rfl] at h;obtain ⟨rfl,rfl,rfl⟩:=of_decide_eq_true h;exact .null rfl ht.symm
 rw [if_neg k0] at h;by_cases k1:k=1
 · subst k1
   rw [if_pos rfl] at h ht;obtain ⟨hn,rfl,rfl⟩:=of_decide_eq_true h
   rcases hn with rfl|rfl
   · exact .false rfl ht.symm
   · exact .true rfl ht.symm
 rw [if_neg k1] at h ht;by_cases k2:k=2
 · subst k2
   rw [if_pos rfl] at h ht;obtain ⟨rfl,rfl⟩:=of_decide_eq_true h;exact .int n o.n0 o.n1 rfl ht.symm
 rw [if_neg k2] at h ht;by_cases k3:k=3
 · subst k3
   rw [if_pos rfl] at h ht;obtain ⟨rfl,rfl,hc⟩:=of_decide_eq_true h;exact .float f ⟨o.f1,hc⟩ rfl ht.symm
 rw [if_neg k3,if_neg h4] at h
 cases h
theorem adi:je ch gi:=⟨⟨by decide,by decide,by decide⟩,rfl,by decide,rfl⟩
theorem adj:je (rN true) gV:=⟨⟨by decide,by decide,by decide⟩,rfl,by decide,rfl⟩
theorem adg:je (rN false) gU:=⟨⟨by decide,by decide,by decide⟩,rfl,by decide,rfl⟩
theorem Mu {n:Int} (h0: -9223372036854775808≤n) (h1:n≤9223372036854775807):je ⟨2,n,0,[]⟩ (Lib.itoa n):=⟨⟨h0,h1,by show (0:Nat)<_;decide⟩,rfl,by show (2:Int)≠4;decide,rfl⟩
theorem adh {f:Nat} (hf:Cn f):je ⟨3,0,f,[]⟩ (ec f):=by
 have hr:iB ⟨3,0,f,[]⟩=true:=(FG rfl).trans (decide_eq_true ⟨rfl,rfl,hf.one⟩);exact ⟨⟨by show (-9223372036854775808:Int)≤0;decide,by show (0:Int)≤_;decide,hf.lt⟩,hr,by show (3:Int)≠4;decide,by rw [S9 hr];rfl⟩
theorem Rn {D:ao} (h:ii D) (y:ao):D.length≤jZ (D++y):=by
 induction D with
 |nil=>simp
 |cons c r ih=>
  rw [List.cons_append,yf,if_pos (OV (h c (List.mem_cons_self ..)))];have:=ih fun x hx=>h x (List.mem_cons_of_mem _ hx);simp only [List.length_cons];omega
theorem QT (n:Bool) {D:ao} (h:ii D) (hne:D≠ []) (y:ao):lead (fq n++(D++y))=(fq n).length+jZ (D++y):=by
 cases n
 · show lead (D++y)=0+_
   obtain ⟨c,r,rfl,h2,h3⟩:=yX h hne;have hp:Lib.hasPrefix (c :: r++y) [45]=false:=tO rfl rfl (fun e=>by subst e;exact absurd h2 (by decide));rw [CX hp,Nat.zero_add]
 · show lead (45 :: (D++y))=1+_
   rw [CW];omega
theorem Ut (n:Bool) {D:ao} (h:ii D) (hne:D≠ []) (y:ao) (uq:ao→ao×Nat):
 dI pf uq (fq n++(D++y))=match il pf (fq n++(D++y)) with
  |some r=>some r
  |none=>jl (fq n++(D++y)) (min (lead (fq n++(D++y))) 20):=by
 obtain ⟨d,r,hD,h2,h3⟩:=yX h hne
 have hne:∃c r',fq n++(D++y)=c :: r'∧(c=45∧(∃r'',r'=d :: r'')∨(48≤c.toNat∧c.toNat≤57)):=by
  rw [hD]
  cases n
  · exact ⟨d,r++y,rfl,.inr ⟨h2,h3⟩⟩
  · exact ⟨45,_,rfl,.inl ⟨rfl,r++y,rfl⟩⟩
 obtain ⟨s,hs⟩:∃s,s=fq n++(D++y):=⟨_,rfl⟩
 rw [←hs] at hne ⊢
 obtain ⟨c,r',hcr,hc⟩:=hne
 have hno:∀(w x:ao) (d:UInt8),w=d :: x→d≠45→(d.toNat<48∨57<d.toNat)→Lib.hasPrefix s w=false:=fun w x d hw h45 hd=>by
  refine tO hcr hw (fun e=>?_);subst e
  rcases hc with ⟨h2,_⟩|h2
  · exact h45 h2
  · omega
 have hw3:gW.find? (fun x=>Lib.hasPrefix s x)=none:=by
  rw [List.find?_eq_none];intro x hx;simp only [gW,List.mem_cons,List.not_mem_nil,or_false] at hx
  rcases hx with rfl|rfl|rfl
  · rw [hno _ _ 110 rfl (by decide) (by decide)];simp
  · rw [hno _ _ 105 rfl (by decide) (by decide)];simp
  · have:Lib.hasPrefix s [45,105,110,102]=false:=by
     rcases hc with ⟨rfl,⟨r'',hd⟩⟩|h2
     · cases hq:Lib.hasPrefix s [45,105,110,102] with
       |false=>rfl
       |true=>
        rw [og] at hq;obtain ⟨t,ht⟩:=hq;rw [hcr,hd] at ht;injection ht with _ ht2
        injection ht2 with ht3 _
        subst ht3;exact absurd h3 (by decide)
     · exact tO hcr rfl (fun e=>by subst e;exact absurd h2.1 (by decide))
    rw [this];simp
 unfold dI
 rw [hno [39] [] 39 rfl (by decide) (by decide),hno gi _ 110 rfl (by decide) (by decide),hno gU _ 102 rfl (by decide) (by decide),hno gV _ 116 rfl (by decide) (by decide),hw3];rfl
theorem IR {α:Type} {f:Nat→Option α} {j:Nat} (hj:(f j).isSome=true):∀{M:Nat},j<M→∃i b,j≤i∧i<M∧o3 f M=some b∧f i=some b
 |0,h=>by omega
 |M+1,h=>by
  rw [o3]
  cases hf:f M with
  |some b=>exact ⟨M,b,by omega,by omega,rfl,hf⟩
  |none=>
   by_cases e:j=M
   · subst e;rw [hf] at hj;cases hj
   · obtain ⟨i,b,h1,h2,h3,h4⟩:=IR hj (M:=M) (by omega)
     exact ⟨i,b,h1,by omega,h3,h4⟩
theorem Y9 {s:ao} {u:c7} {m:Nat} (h:il pf s=some (u,m)):lead s<m:=by
 unfold il at h
 split at h
 · rename_i hp
   have hk:=A6 s hp;rw [wM] at h;obtain ⟨j,h1,h2,_⟩:=EF h;unfold p6 at h2
   cases hp:pf (s.take (d6 s+j+1)) with
   |none=>rw [hp] at h2;cases h2
   |some f=>
    rw [hp] at h2;injection h2 with h2
    injection h2 with h2 h3
    omega
 · cases h
theorem zs (n:Int):Lib.itoa n=fq (decide (n<0))++Lib.decDigits n.natAbs:=by
 unfold Lib.itoa fq;by_cases h:n<0
 · rw [if_pos h,if_pos (decide_eq_true h)];rfl
 · rw [if_neg h,if_neg (by simp [h]),show n.toNat=n.natAbs by omega];rfl
theorem adU {n:Int} (h0: -9223372036854775808≤n) (h1:n≤9223372036854775807) (x:ao):∃u m,dI pf de (Lib.itoa n++x)=some (u,m)∧(Lib.itoa n).length≤m:=by
 obtain ⟨ha,_,hb⟩:=jD n.natAbs;have hp:jA (Lib.itoa n)=some n:=by unfold jA;rw [Lib.parseIntB_64,yL h0 h1]
 have hlen:(Lib.itoa n).length≤20:=by
  rw [zs,List.length_append];have:=AS n.natAbs (by omega);have h2:(fq (decide (n<0))).length≤1:=by unfold fq;split<;>simp
  omega
 have hpos:0<(Lib.itoa n).length:=by rw [zs,List.length_append];have:=List.length_pos_iff.2 hb;omega
 have hs:Lib.itoa n++x=fq (decide (n<0))++(Lib.decDigits n.natAbs++x):=by rw [zs,List.append_assoc]
 have hl:(Lib.itoa n).length≤lead (Lib.itoa n++x):=by
  rw [hs,QT _ ha hb];have:=Rn ha x;rw [zs,List.length_append];omega
 have hw:=Ut (decide (n<0)) ha hb x de;rw [←hs] at hw;rw [hw]
 cases hf:il pf (Lib.itoa n++x) with
 |some r=>
  obtain ⟨u,m⟩:=r;have:=Y9 hf;exact ⟨u,m,rfl,by omega⟩
 |none=>
  simp only;rw [AT]
  have hit:rE (Lib.itoa n++x) ((Lib.itoa n).length - 1)=some (⟨2,n,0,[]⟩,(Lib.itoa n).length):=by
   unfold rE;rw [show (Lib.itoa n).length - 1+1=(Lib.itoa n).length by omega,List.take_left,hp];simp
  obtain ⟨i,b,h2,h3,h4,h5⟩:=IR (f:=rE (Lib.itoa n++x)) (j:=(Lib.itoa n).length - 1) (by rw [hit];rfl) (M:=min (lead (Lib.itoa n++x)) 20) (by omega);obtain ⟨u,m⟩:=b;refine ⟨u,m,h4,?_⟩;unfold rE at h5
  cases hq:jA ((Lib.itoa n++x).take (i+1)) with
  |none=>rw [hq] at h5;cases h5
  |some v=>
   rw [hq] at h5;simp only [Option.bind_some] at h5
   split at h5
   · injection h5 with h5
     injection h5 with h5 h6
     omega
   · cases h5
theorem Sb {t:ao} {f:Nat} {n:Bool} {M:Nat} {e:Int} (hp:pf t=some f) (ht:t=fq n++eD M e) (h0: -9999≤e) (h1:e≤9999) (x:ao):∃u m,dI pf de (t++x)=some (u,m)∧t.length≤m:=by
 obtain ⟨dm,_,dn⟩:=jD M;obtain ⟨D,ha,hb,hl,hi⟩:=LV e h0 h1;have hs:t++x=fq n++(Lib.decDigits M++(112 :: (Lib.itoa e++x))):=by rw [ht];unfold eD;simp
 have hd:jZ (Lib.decDigits M++(112 :: (Lib.itoa e++x)))=(Lib.decDigits M).length:=by rw [Mg 112 _ (by decide),C3 dm]
 have hlead:lead (t++x)=(fq n).length+(Lib.decDigits M).length:=by rw [hs,QT _ dm dn,hd]
 have hsd:(t++x).drop (lead (t++x))=112 :: (Lib.itoa e++x):=by
  rw [hlead,hs,←List.append_assoc,List.drop_left' (by rw [List.length_append])]
 have htl:t.length=lead (t++x)+1+(Lib.itoa e).length:=by rw [hlead,ht];unfold eD;simp;omega
 have hat:∀k,(t++x)[lead (t++x)+k]? =(112 :: (Lib.itoa e++x))[k]? :=fun k=>by rw [←hsd,List.getElem?_drop]
 have hP:(t++x)[lead (t++x)]? =some 112:=by have:=hat 0;simpa using this
 have hK:d6 (t++x)+D.length=t.length∧(t++x).drop (d6 (t++x))=D++x:=by
  have h2:=hat 1;simp only [List.getElem?_cons_succ] at h2;unfold d6
  rcases hi with hi|hi
  · rw [if_neg (by rw [h2,hi];exact OT ha (r:=x) hb (k:=45) (.inl (by decide)))]
    refine ⟨by rw [htl,hi],?_⟩;rw [←List.drop_drop,hsd,hi];rfl
  · rw [if_pos (by rw [h2,hi];rfl)]
    refine ⟨by rw [htl,hi,List.length_cons];omega,?_⟩;rw [←List.drop_drop,hsd,hi];rfl
 have hM:D.length≤kY (t++x):=by
  unfold kY;rw [hK.2];have:=Rn ha x;omega
 have hpos:0<D.length:=List.length_pos_iff.2 hb;have hw:=Ut n dm dn (112 :: (Lib.itoa e++x)) de;rw [←hs] at hw
 have hit:p6 pf (t++x) (d6 (t++x)) (D.length - 1)=some (⟨3,0,f,[]⟩,t.length):=by
  unfold p6;rw [show d6 (t++x)+(D.length - 1)+1=t.length by omega,List.take_left,hp];rfl
 obtain ⟨i,b,h2,h3,h4,h5⟩:=IR (f:=p6 pf (t++x) (d6 (t++x))) (j:=D.length - 1) (by rw [hit];rfl) (M:=kY (t++x)) (by omega);obtain ⟨u,m⟩:=b;have hfl:il pf (t++x)=some (u,m):=by unfold il;rw [if_pos hP,wM];exact h4
 refine ⟨u,m,by rw [hw,hfl],?_⟩;unfold p6 at h5
 cases hq:pf ((t++x).take (d6 (t++x)+i+1)) with
 |none=>rw [hq] at h5;cases h5
 |some g=>
  rw [hq] at h5;injection h5 with h5
  injection h5 with h5 h6
  omega
theorem adT {f:Nat} (hf:Cn f) (x:ao):∃u m,dI pf de (ec f++x)=some (u,m)∧(ec f).length≤m:=by
 have hp:=oL hf rfl;by_cases h1:isNan f=true
 · rw [yn h1];exact ⟨_,3,rfl,Nat.le_refl _⟩
 have h1':isNan f=false:=by simpa using h1
 by_cases h2:rung f=9218868437227405312
 · have ht:ec f=fq (dM f)++ [105,110,102]:=rK h1' h2
   cases hn:dM f
   · rw [hn] at ht
     have ht:ec f= [105,110,102]:=ht;rw [ht];exact ⟨_,3,rfl,Nat.le_refl _⟩
   · rw [hn] at ht
     have ht:ec f= [45,105,110,102]:=ht;rw [ht];exact ⟨_,4,rfl,Nat.le_refl _⟩
 have h6:rung f≤9218868437227405312:=by simpa [isNan,rung] using h1'
 have hr:rung f<9218868437227405312:=by omega
 by_cases h3:rung f=0
 · refine Sb (n:=dM f) (M:=0) (e:=0) hp ?_ (by decide) (by decide) x
   rw [rL h1' h2 h3]
   have:eD 0 0= [48,112,48]:=by
    have e0:Lib.decDigits 0= [48]:=Lib.decDigits_one (by decide);have e1:Lib.itoa 0=Lib.decDigits 0:=rfl;unfold eD;rw [e1,e0];rfl
   rw [this];rfl
 · have e1:=rZ hr
   have e2:=sy hr h3;refine Sb (n:=dM f) (M:=od (b7 (rung f))) (e:=eE (rung f)+v2 (b7 (rung f))) hp ?_ (by omega) (by omega) x;rw [qs h1' h2 h3];unfold eD;rw [Dn];simp
theorem Sa {v:c7} {t:ao} (h:je v t) (x:ao):∃u m,dI pf de (t++x)=some (u,m)∧t.length≤m:=by
 cases h.is with
 |null _ ht=>rw [ht];exact ⟨_,4,rfl,Nat.le_refl _⟩
 |true _ ht=>rw [ht];exact ⟨_,4,rfl,Nat.le_refl _⟩
 |false _ ht=>rw [ht];exact ⟨_,5,rfl,Nat.le_refl _⟩
 |int n h0 h1 _ ht=>rw [ht];exact adU h0 h1 x
 |float f hf _ ht=>rw [ht];exact adT hf x
theorem RF {v:c7} {t:ao} (h:je v t):t.length≤40∧0<t.length:=by
 have hr:=(ME h.ok h.right);rw [h.text] at hr;have h2:=Di hr;refine ⟨?_,h2.1⟩
 cases h.is with
 |null _ ht=>rw [ht];decide
 |true _ ht=>rw [ht];decide
 |false _ ht=>rw [ht];decide
 |int n h0 h1 _ ht=>
  rw [ht,zs,List.length_append];have:=AS n.natAbs (by omega);have h2:(fq (decide (n<0))).length≤1:=by unfold fq;split<;>simp
  omega
 |float f hf _ ht=>
  rw [ht];by_cases h1:isNan f=true
  · rw [yn h1];decide
  have h1':isNan f=false:=by simpa using h1
  have hsg:(fN f).length≤1:=by unfold fN;split<;>simp
  by_cases h2:rung f=9218868437227405312
  · rw [rK h1' h2,List.length_append];simp;omega
  have h6:rung f≤9218868437227405312:=by simpa [isNan,rung] using h1'
  have hr:rung f<9218868437227405312:=by omega
  by_cases h3:rung f=0
  · rw [rL h1' h2 h3,List.length_append];simp;omega
  rw [qs h1' h2 h3];have hm:=tJ hr;have h7:(Lib.decDigits (od (b7 (rung f)))).length≤19:=AS _ (Nat.le_trans (Nat.div_le_self _ _) (by omega));have e1:=rZ hr;have e2:=sy hr h3;obtain ⟨D,_,_,hl,hi⟩:=LV (eE (rung f)+v2 (b7 (rung f))) (by omega) (by omega)
  have hil:(Lib.itoa (eE (rung f)+v2 (b7 (rung f)))).length≤5:=by
   rcases hi with hi|hi<;>rw [hi]
   · omega
   · rw [List.length_cons];omega
  simp only [List.length_append,List.length_cons,List.length_nil];omega
theorem Se {s:ao} {u:c7} {m:Nat} (hq:Lib.hasPrefix s [39]=false) (h:dI pf de s=some (u,m)):je u (s.take m)∧0<m∧m≤min s.length 40:=by
 obtain ⟨h1,h2⟩:=adQ h;have h3:=Di h
 have h4:je u (s.take m):=⟨R7 h,h1,fun hk=>(by
  have ht:qr u=lV u.s:=by
   unfold qr nh
   rw [if_neg (by rw [h1];simp),if_neg (by omega),if_neg (by omega),if_neg (by omega),if_pos hk]
  rw [ht] at h2
  have h5:Lib.hasPrefix s [39]=true:=(og _ _).2 ((List.prefix_append [39] (u.s.flatMap qc++ [39])).trans (by
   rw [show ([39]:ao)++(u.s.flatMap qc++ [39])=lV u.s from rfl,h2];exact List.take_prefix _ _))
  rw [h5] at hq;cases hq),h2⟩
 have h5:=(RF h4).1;rw [List.length_take] at h5;exact ⟨h4,h3.1,by omega⟩
theorem adV {s:ao} {v:c7} {n:Nat} (hq:Lib.hasPrefix s [39]=false) (h:je v (s.take n)) (hn:n≤min s.length 40) (hm:∀m,n<m→m≤min s.length 40→∀u,¬je u (s.take m)):dI pf de s=some (v,n):=by
 obtain ⟨u,m,h1,h2⟩:=Sa h (s.drop n);rw [List.take_append_drop] at h1;rw [List.length_take] at h2;obtain ⟨h3,h4,h5⟩:=Se hq h1
 have e:m=n:=by
  rcases Nat.lt_or_ge n m with h6|h6
  · exact absurd h3 (hm m h6 h5 u)
  · omega
 subst e;rw [h1,h3.inj h]
theorem adX {s:ao} (hq:Lib.hasPrefix s [39]=false) (hm:∀m,0<m→m≤min s.length 40→∀u,¬je u (s.take m)):dI pf de s=none:=by
 cases h:dI pf de s with
 |none=>rfl
 |some r=>
  obtain ⟨u,m⟩:=r;obtain ⟨h3,h4,h5⟩:=Se hq h;exact absurd h3 (hm m h4 h5 u)
theorem afb:bB Tryz.prog 100:=⟨_,Tryz.func100,by kernel_rfl,rfl⟩
theorem afc:bB Tryz.prog 101:=⟨_,Tryz.func101,by kernel_rfl,rfl⟩
theorem afd:bB Tryz.prog 102:=⟨_,Tryz.func102,by kernel_rfl,rfl⟩
theorem afU:bB Tryz.prog 73:=⟨_,Tryz.func73,by kernel_rfl,rfl⟩
theorem Dv:bB Tryz.prog 74:=⟨_,Tryz.func74,by kernel_rfl,rfl⟩
theorem afV:bB Tryz.prog 75:=⟨_,Tryz.func75,by kernel_rfl,rfl⟩
def Ve (s:ao) (u:c7) (ok:Bool):Prop:=(ok=true∧je u s)∨(ok=false∧u=ch∧∀v,¬je v s)
theorem adv {s:ao} {f:Nat} (h:pf s=some f):je ⟨3,0,f,[]⟩ s:=by
 obtain ⟨h1,h2⟩:=Mz h;have:=adh h1
 rwa [h2] at this
theorem adu {s:ao} (h:pf s=none) {f:Nat} (hf:Cn f) (ht:s=ec f):False:=by
 rw [oL hf ht.symm] at h;cases h
theorem RG {s:ao} (h0:s≠gi) (h1:s≠gV) (h2:s≠gU) (h3:pf s=none) {v:c7} (h:je v s):∃n,-9223372036854775808≤n∧n≤9223372036854775807∧v=⟨2,n,0,[]⟩∧s=Lib.itoa n:=by
 cases h.is with
 |null _ ht=>exact absurd ht h0
 |true _ ht=>exact absurd ht h1
 |false _ ht=>exact absurd ht h2
 |int n a b hv ht=>exact ⟨n,a,b,hv,ht⟩
 |float f hf _ ht=>exact absurd ht (fun e=>adu h3 hf e)
def ja (s:ao):Nat:=if Lib.hasPrefix s [45]=true then 1 else 0
theorem Fp (n:Int):ja (Lib.itoa n)=(if n<0 then 1 else 0)∧(Lib.itoa n).drop (ja (Lib.itoa n))=Lib.decDigits n.natAbs:=by
 obtain ⟨h1,h2⟩:=QH n;unfold ja;rw [h1];by_cases hn:n<0
 · rw [if_pos (decide_eq_true hn),if_pos hn]
   refine ⟨rfl,?_⟩;rw [←h2,M4 (by rw [h1];exact decide_eq_true hn)]
 · rw [if_neg (by simp [hn]),if_neg hn]
   refine ⟨rfl,?_⟩;rw [←h2,M3 (by rw [h1];exact decide_eq_false hn)];rfl
theorem acf {n:Int} (h0: -9223372036854775808≤n) (h1:n≤9223372036854775807):(Lib.itoa n).length≤20∧0<(Lib.itoa n).length:=by
 have:=RF (Mu h0 h1);rw [zs,List.length_append] at this ⊢;have h3:=AS n.natAbs (by omega);have h2:(fq (decide (n<0))).length≤1:=by unfold fq;split<;>simp
 omega
def Acc (s:ao) (i:Nat) (z:Int):Prop:=∀n,-9223372036854775808≤n→n≤9223372036854775807→s=Lib.itoa n→z= -((em 0 ((s.take i).drop (ja s)):Nat):Int)∧em 0 ((s.take i).drop (ja s))≤n.natAbs
theorem UE (s:ao):Acc s 0 0:=fun n _ _ _=>by rw [List.take_zero,List.drop_nil];exact ⟨rfl,Nat.zero_le _⟩
theorem Acc.skip {s:ao} (h:Lib.hasPrefix s [45]=true):Acc s 1 0:=fun n _ _ _=>by
 have:ja s=1:=if_pos h;rw [this,List.drop_eq_nil_of_le (List.length_take_le 1 s)];exact ⟨rfl,Nat.zero_le _⟩
theorem aeP {s:ao} {i k:Nat} (hk:k≤i) (h:i<s.length):(s.take (i+1)).drop k=(s.take i).drop k++ [s.getD i 0]:=by
 rw [zS h,List.drop_append_of_le_length (by rw [List.length_take];omega)]
theorem UF {s:ao} {i:Nat} {z z':Int} (h:Acc s i z) (hi:i<s.length) (hk:ja s≤i) (hz:z≤0→-9223372036854775808≤z * 10 - ((s.getD i 0).toNat - 48:Nat)→z'=z * 10 - ((s.getD i 0).toNat - 48:Nat)):Acc s (i+1) z':=fun n h0 h1 hs=>by
 obtain ⟨e1,e2⟩:=h n h0 h1 hs;have e3:em 0 ((s.take (i+1)).drop (ja s))=em 0 ((s.take i).drop (ja s)) * 10+((s.getD i 0).toNat - 48):=by rw [aeP hk hi,yY];rfl
 have hall:em 0 (s.drop (ja s))=n.natAbs:=by
  rw [hs,(Fp n).2];exact (jD n.natAbs).2.1
 have hle:em 0 ((s.take (i+1)).drop (ja s))≤n.natAbs:=by
  rw [←hall];have e4:=yY (s.drop (i+1)) ((s.take (i+1)).drop (ja s)) 0
  have e5:(s.take (i+1)).drop (ja s)++s.drop (i+1)=s.drop (ja s):=by
   rw [←List.drop_append_of_le_length (by rw [List.length_take];omega),List.take_append_drop]
  rw [e5] at e4;rw [e4];exact AV _ _
 refine ⟨?_,hle⟩;rw [hz (by omega) (by omega),e3];omega
theorem Acc.bad {s:ao} {i:Nat} (hi:i<s.length) (hk:ja s≤i) (hd:(s.getD i 0).toNat<48∨57<(s.getD i 0).toNat) (n:Int):s≠Lib.itoa n:=fun hs=>by
 have h1:(s.drop (ja s)).getD (i - ja s) 0=s.getD i 0:=by
  simp only [List.getD,List.getElem?_drop];rw [show ja s+(i - ja s)=i by omega]
 have h2:ii (s.drop (ja s)):=by
  rw [hs,(Fp n).2];exact (jD n.natAbs).1
 have h3:=h2 _ (BT (i:=i - ja s) (by rw [List.length_drop];omega));rw [h1] at h3;omega
theorem Acc.done {s:ao} {z:Int} (h:Acc s s.length z) {n:Int} (h0: -9223372036854775808≤n) (h1:n≤9223372036854775807) (hs:s=Lib.itoa n):z= -(n.natAbs:Int)∧(ja s=1↔n<0):=by
 obtain ⟨e1,_⟩:=h n h0 h1 hs
 have hall:em 0 (s.drop (ja s))=n.natAbs:=by
  conv=>lhs;rw [hs,(Fp n).2]
  exact (jD n.natAbs).2.1
 rw [List.take_length,hall] at e1;refine ⟨e1,?_⟩;rw [hs,(Fp n).1];by_cases hn:n<0
 · rw [if_pos hn];simp [hn]
 · rw [if_neg hn];simp [hn]
theorem Ny (n:Int): -9223372036854775808≤IntKind.i64.wrap n∧IntKind.i64.wrap n≤9223372036854775807:=by rw [IntKind.wrap_i64];omega
theorem ag1 {z:Int} {d:Int} (hz: -9223372036854775808≤z∧z≤0) (hd:0≤d∧d≤255) (h: -9223372036854775808≤z * 10 - d):IntKind.i64.wrap (IntKind.i64.wrap (z * 10) - d)=z * 10 - d:=by
 rw [wrap_i64 (z * 10) (by omega) (by omega),wrap_i64 _ (by omega) (by omega)]
theorem Vq (s:ao) (hs:s.length≤281474976710656) (w:World):bx Tryz.prog 101 [str s] w fun v w'=>(∃(f:Nat) (e:Int),v= .tuple #[.float .f64 f,.int .i64 e]∧((e=0∧pf s=some f)∨(e=2∧pf s=none∧f=0)))∧Below w.heap.size w w':=
 (Vp s hs w).mono fun v w' ⟨h1,h2⟩=>⟨by
  subst h1
  cases h:pf s with
  |none=>exact ⟨0,2,zH h,.inr ⟨rfl,rfl,rfl⟩⟩
  |some f=>exact ⟨f,0,zI h,.inl ⟨rfl,rfl⟩⟩,h2⟩
def NC (dn:Bool) (z:Int):Int:=if dn=true then z else IntKind.i64.wrap (0 - z)
theorem VD (s:ao) (hs:s.length≤281474976710656) (w:World):bx Tryz.prog 75 [str s] w fun v w'=>(∃u ok,v= .tuple #[c7.enc u,.bool ok]∧Ve s u ok)∧Below w.heap.size w w':=by
 have hb:=Below.refl w.heap.size w;refine enter Tryz.func75 rfl rfl rfl<|am fun aR=>bT (z:=mO) (by kernel_rfl) rfl ?_
 rintro au dJ dH ab aM;have:=aM.size;have hb:=aZ hb aM;have:=ab.lt;refine an rfl<|al aR<|av fun _ b8=>am fun dC=>ai rfl<|ae (fl rfl rfl) rfl<|al dC<|aO rfl (fun d7=>?_) (fun d7=>?_)
 ·
  have oV:=d7;simp only [DZ] at d7;refine am fun dW=>aD Dv rfl rfl (C6 _) rfl ?_;rintro _ cB ⟨rfl,aw⟩;have:=aw.size;have hb:=aZ hb aw;have ab:=ak.below ab aw;refine ba (by kernel_rfl) rfl rfl ab rfl rfl ?_;rintro du ab aF;have:=aF.size;have hb:=cf hb aF hb.size (by omega);refine an rfl<|al dW<|aJ<|aX<|bQ (rs:= [.cell 2 25,.tmp 3]) (vs:= [_,_]) rfl (.cell rfl (bP ek (by kernel_rfl) (fun j u hu=>ab.at hu)) (.tmp rfl .nil)) ?_
  exact ⟨_,rfl,⟨_,_,rfl,.inl ⟨rfl,by rw [d7];exact adi⟩⟩,hb⟩
 have oV:=d7;simp only [DZ] at d7;have hn0:s≠gi:=d7;refine aU<|ax b8<|av fun _ dU=>av fun _ eh=>cR (X:=Bool) (fun q=> [(0,str s),(2,.pointer (some ⟨au,0,none⟩)),(3,.bool false),(19,.bool q)]) (fun q wr=>q=decide (s=gV∨s=gU)∧Below w.heap.size w wr∧ak wr au 25 ch.cells) (fun _ zg=>?_) ?_
 ·
  refine aQ<|ai rfl<|ae (fl rfl rfl) rfl<|ai rfl<|dy rfl rfl rfl (fun eS=>?_) (fun eS=>?_)
  ·
   refine az rfl rfl eS rfl rfl<|ae (bo rfl eS rfl) rfl<|ay<|a7 zg (decide (s=gV∨s=gU)) (by repeat first|exact aC|refine aA rfl (by first|rfl|exact a8 (by rw [Bool.eq_iff_iff];simp_all [gV,gU])) ?_) ?_
   exact ⟨rfl,hb,ab⟩
  refine ai rfl<|ap rfl rfl eS<|ae (fl rfl rfl) rfl<|ae (bj rfl eS rfl) rfl<|ay<|a7 zg (decide (s=gV∨s=gU)) (by repeat first|exact aC|refine aA rfl (by first|rfl|exact a8 (by rw [Bool.eq_iff_iff];simp_all [gV,gU])) ?_) ?_
  exact ⟨rfl,hb,ab⟩
 rintro q wr xp;replace xp:q=decide (s=gV∨s=gU)∧Below w.heap.size w wr∧ak wr au 25 ch.cells:=xp;obtain ⟨hq,hb,ab⟩:=xp;show Wq _ _ _ _ [(0,str s),(2,.pointer (some ⟨au,0,none⟩)),(3,.bool false),(19,.bool q)] _;have:=hb.size;have:=ab.lt;refine ax eh<|aO rfl (fun lZ=>?_) (fun lZ=>?_)
 ·
  have sT:=lZ;have hq1:=of_decide_eq_true (hq.symm.trans sT);refine am fun gu=>ai rfl<|ae (fl rfl rfl) rfl<|aD afb rfl rfl (VR _ _) rfl ?_
  rintro _ cU ⟨rfl,aL⟩;have:=aL.size;have hb:=aZ hb aL;have ab:=ak.below ab aL;refine ba (by kernel_rfl) rfl rfl ab rfl rfl ?_;rintro ff ab bc;have:=bc.size;have hb:=cf hb bc hb.size (by omega);refine an rfl<|al gu<|aJ<|aX<|bQ (rs:= [.cell 2 25,.tmp 3]) (vs:= [_,_]) rfl (.cell rfl (bP ek (by kernel_rfl) (fun j u hu=>ab.at hu)) (.tmp rfl .nil)) ?_
  exact ⟨_,rfl,⟨_,_,rfl,.inl ⟨rfl,by rcases hq1 with h|h<;>rw [h];exact adj;exact adg⟩⟩,hb⟩
 have sT:=lZ;have hq1:=of_decide_eq_false (hq.symm.trans sT);refine aU<|ax dU<|am fun iJ=>ai rfl<|aD afc rfl rfl (Vq s hs _) rfl ?_
 rintro _ eP ⟨⟨f,ee,rfl,hpf⟩,a6⟩;have:=a6.size;have hb:=aZ hb a6;have ab:=ak.below ab a6;refine ai rfl<|ae (cu rfl rfl) rfl<|ae (cu rfl rfl) rfl<|an rfl<|an rfl<|al iJ<|av fun _ kj=>am fun k9=>ai rfl<|ae (bX rfl rfl) rfl<|al k9<|aO rfl (fun qG=>?_) (fun qG=>?_)
 ·
  have AC:=qG;simp only [DZ] at qG;have hsome:pf s=some f:=by rcases hpf with h|h;exact h.2;(have:=qG;omega)
  refine am fun iK=>ai rfl<|ae (cC (z:=n6) (pl:=n9) (cs:= [_,_,_,_]) ek (by kernel_rfl) (by kernel_rfl) rfl rfl rfl) rfl<|ba (by kernel_rfl) rfl rfl ab rfl rfl ?_
  rintro gB ab bz;have:=bz.size;have hb:=cf hb bz hb.size (by omega);refine an rfl<|al iK<|aJ<|aX<|bQ (rs:= [.cell 2 25,.tmp 3]) (vs:= [_,_]) rfl (.cell rfl (bP ek (by kernel_rfl) (fun j u hu=>ab.at hu)) (.tmp rfl .nil)) ?_
  exact ⟨_,rfl,⟨_,_,rfl,.inl ⟨rfl,adv hsome⟩⟩,hb⟩
 have AC:=qG;simp only [DZ] at qG;have hnone:pf s=none:=by rcases hpf with h|h;(exact absurd h.1 qG);exact h.2.1
 refine aU<|ax kj<|am fun mE=>ae (cC (z:=n6) (pl:=n9) (cs:= [_,_,_,_]) ek (by kernel_rfl) (by kernel_rfl) rfl rfl rfl) rfl<|bT (z:=mO) (by kernel_rfl) rfl ?_
 rintro gY agN aaQ ej uN;have:=uN.size;have hb:=aZ hb uN;have ab:=ak.below ab uN;have:=ej.lt;refine ba (by kernel_rfl) rfl rfl ej rfl rfl ?_;rintro j7 ej cd;have:=cd.size;have hb:=cf hb cd hb.size (by omega);have ab:=ab.over cd (by omega);refine al mE<|av fun _ pn=>cR (X:=Bool) (fun dn=> [(0,str s),(2,.pointer (some ⟨au,0,none⟩)),(6,.pointer (some ⟨gY,0,none⟩)),(7,.bool dn)]) (fun dn wr=>dn=Lib.hasPrefix s [45]∧Below w.heap.size w wr∧ak wr au 25 ch.cells∧ak wr gY 25 (c7.cells ⟨2,0,0,[]⟩)) (fun _ Qf=>?_) ?_
 ·
  refine aQ<|ai rfl<|ae (ez bI (by omega) rfl) rfl<|ae (ed rfl rfl) rfl<|ai rfl<|cG rfl rfl rfl (fun qZ=>?_) (fun qZ=>?_)
  ·
   have pc:=qZ;simp only [DZ] at qZ;refine ai rfl<|ap rfl rfl pc<|ae (fP bI rfl rfl (by omega) (by omega)) rfl<|ap rfl rfl pc<|ae (bX rfl rfl) rfl<|ae (bo rfl pc rfl) rfl<|an rfl<|ay<|a7 Qf (Lib.hasPrefix s [45]) (by repeat first|exact aC|refine aA rfl (by first|rfl|exact a8 (by rw [yg,Bool.eq_iff_iff];simp<;>omega)) ?_) ?_
   exact ⟨rfl,hb,ab,ej⟩
  have pc:=qZ;simp only [DZ] at qZ;refine az rfl rfl pc rfl rfl<|az rfl rfl pc rfl rfl<|ae (bj rfl pc rfl) rfl<|an rfl<|ay<|a7 Qf (Lib.hasPrefix s [45]) (by repeat first|exact aC|refine aA rfl (by first|rfl|exact a8 (by rw [yg,Bool.eq_iff_iff];simp<;>omega)) ?_) ?_
  exact ⟨rfl,hb,ab,ej⟩
 rintro dn wr rj;replace rj:dn=Lib.hasPrefix s [45]∧Below w.heap.size w wr∧ak wr au 25 ch.cells∧ak wr gY 25 (c7.cells ⟨2,0,0,[]⟩):=rj;obtain ⟨hdn,hb,ab,ej⟩:=rj;show Wq _ _ _ _ [(0,str s),(2,.pointer (some ⟨au,0,none⟩)),(6,.pointer (some ⟨gY,0,none⟩)),(7,.bool dn)] _;have:=hb.size;have:=ab.lt;have:=ej.lt;refine ax pn<|av fun _ pt=>am fun m7=>an rfl<|al m7<|b4<|d9 (X:=Nat×Int) (fun (i,z)=> [(0,str s),(2,.pointer (some ⟨au,0,none⟩)),(6,.pointer (some ⟨gY,0,none⟩)),(7,.bool dn),(8,.int .i64 (i:Int))]) (fun (i,z) wr=>i≤s.length∧(i=0→z=0)∧-9223372036854775808≤z∧z≤9223372036854775807∧Acc s i z∧(s.length≤20→i≤20)∧Below w.heap.size w wr∧ak wr au 25 ch.cells∧ak wr gY 25 (c7.cells ⟨2,z,0,[]⟩)) (fun (i,z)=>s.length - i) (⟨0,0⟩) ?_ ?_ ?_
 · exact by repeat first|exact aC|refine aA rfl (by first|rfl|exact aH (by omega)) ?_
 · exact ⟨by omega,fun _=>rfl,by decide,by decide,UE s,fun _=>by omega,hb,ab,ej⟩
 rintro ⟨i,z⟩ wr Ke _ PP;replace Ke:i≤s.length∧(i=0→z=0)∧-9223372036854775808≤z∧z≤9223372036854775807∧Acc s i z∧(s.length≤20→i≤20)∧Below w.heap.size w wr∧ak wr au 25 ch.cells∧ak wr gY 25 (c7.cells ⟨2,z,0,[]⟩):=Ke;obtain ⟨hi,hi0,hz0,hz1,hA,h20,hb,ab,ej⟩:=Ke;show Wc _ _ _ _ _ [(0,str s),(2,.pointer (some ⟨au,0,none⟩)),(6,.pointer (some ⟨gY,0,none⟩)),(7,.bool dn),(8,.int .i64 (i:Int))] _;have:=hb.size;have:=ab.lt;have:=ej.lt;refine av fun _ rn=>av fun _ ro=>cR (X:=Bool) (fun q=> [(0,str s),(2,.pointer (some ⟨au,0,none⟩)),(6,.pointer (some ⟨gY,0,none⟩)),(7,.bool dn),(8,.int .i64 (i:Int)),(49,.bool q)]) (fun q wr=>q=decide (i<s.length∧s.length≤20)∧Below w.heap.size w wr∧ak wr au 25 ch.cells∧ak wr gY 25 (c7.cells ⟨2,z,0,[]⟩)) (fun _ Ql=>?_) ?_
 ·
  refine aQ<|ai rfl<|ai rfl<|ae (ez bI (by omega) rfl) rfl<|ae (dL rfl rfl) rfl<|ai rfl<|cG rfl rfl rfl (fun BF=>?_) (fun BF=>?_)
  ·
   have w6:=BF;simp only [DZ] at BF;refine ai rfl<|ap rfl rfl w6<|ae (ez bI (by omega) rfl) rfl<|ap rfl rfl w6<|ae (iu rfl rfl) rfl<|ae (bo rfl w6 rfl) rfl<|ay<|a7 Ql (decide (i<s.length∧s.length≤20)) (by repeat first|exact aC|refine aA rfl (by first|rfl|exact a8 (by rw [Bool.eq_iff_iff];simp<;>omega)) ?_) ?_
   exact ⟨rfl,hb,ab,ej⟩
  have w6:=BF;simp only [DZ] at BF;refine az rfl rfl w6 rfl rfl<|az rfl rfl w6 rfl rfl<|ae (bj rfl w6 rfl) rfl<|ay<|a7 Ql (decide (i<s.length∧s.length≤20)) (by repeat first|exact aC|refine aA rfl (by first|rfl|exact a8 (by rw [Bool.eq_iff_iff];simp<;>omega)) ?_) ?_
  exact ⟨rfl,hb,ab,ej⟩
 rintro q wr Km;replace Km:q=decide (i<s.length∧s.length≤20)∧Below w.heap.size w wr∧ak wr au 25 ch.cells∧ak wr gY 25 (c7.cells ⟨2,z,0,[]⟩):=Km;obtain ⟨hq,hb,ab,ej⟩:=Km;show Wq _ _ _ _ [(0,str s),(2,.pointer (some ⟨au,0,none⟩)),(6,.pointer (some ⟨gY,0,none⟩)),(7,.bool dn),(8,.int .i64 (i:Int)),(49,.bool q)] _;have:=hb.size;have:=ab.lt;have:=ej.lt;refine ax ro<|aO rfl (fun HM=>?_) (fun HM=>?_)
 ·
  have HN:=HM;have hq3:=of_decide_eq_true (hq.symm.trans HN);have hil:=hq3.1;refine aU<|ax rn<|av fun _ sh=>b4<|av fun _ oD=>av fun _ tz=>cR (X:=Bool) (fun q=> [(0,str s),(2,.pointer (some ⟨au,0,none⟩)),(6,.pointer (some ⟨gY,0,none⟩)),(7,.bool dn),(8,.int .i64 (i:Int)),(56,.bool q)]) (fun q wr=>q=decide (i=0∧dn=true)∧Below w.heap.size w wr∧ak wr au 25 ch.cells∧ak wr gY 25 (c7.cells ⟨2,z,0,[]⟩)) (fun _ Qs=>?_) ?_
  ·
   refine aQ<|ai rfl<|ae (bX rfl rfl) rfl<|ai rfl<|cG rfl rfl rfl (fun tg=>?_) (fun tg=>?_)
   ·
    refine ai rfl<|ae (bo rfl tg rfl) rfl<|ay<|a7 Qs (decide (i=0∧dn=true)) (by repeat first|exact aC|refine aA rfl (by first|rfl|exact a8 (by rw [Bool.eq_iff_iff];simp_all<;>omega)) ?_) ?_
    exact ⟨rfl,hb,ab,ej⟩
   refine ae (bj rfl tg rfl) rfl<|ay<|a7 Qs (decide (i=0∧dn=true)) (by repeat first|exact aC|refine aA rfl (by first|rfl|exact a8 (by rw [Bool.eq_iff_iff];simp_all<;>omega)) ?_) ?_
   exact ⟨rfl,hb,ab,ej⟩
  rintro q wr Ks;replace Ks:q=decide (i=0∧dn=true)∧Below w.heap.size w wr∧ak wr au 25 ch.cells∧ak wr gY 25 (c7.cells ⟨2,z,0,[]⟩):=Ks;obtain ⟨hq,hb,ab,ej⟩:=Ks;show Wq _ _ _ _ [(0,str s),(2,.pointer (some ⟨au,0,none⟩)),(6,.pointer (some ⟨gY,0,none⟩)),(7,.bool dn),(8,.int .i64 (i:Int)),(56,.bool q)] _;have:=hb.size;have:=ab.lt;have:=ej.lt;refine ax tz<|aO rfl (fun H2=>?_) (fun H2=>?_)
  ·
   have H3:=H2;have hq4:=of_decide_eq_true (hq.symm.trans H3);obtain ⟨hq40,hq41⟩:=hq4;have hzz:=hi0 hq40;obtain ⟨z_,x9⟩:∃z:Int,z=0:=⟨_,rfl⟩;have LB: -9223372036854775808≤z_:=by omega
   have LC:z_≤9223372036854775807:=by omega
   have Jm:Acc s (i+1) z_:=by rw [hq40,x9];exact Acc.skip (hdn.symm.trans hq41)
   rw [hzz,←x9] at ej;refine d2<|cj<|d3<|ax sh<|aQ<|ai rfl<|ae (ct rfl rfl (by omega) (by omega)) rfl<|an rfl<|ay<|fun a_ bM=>PP _ _ (⟨i+1,z_⟩) (by simp;omega) (by repeat first|exact aC|refine aA rfl (by first|rfl|exact aH (by omega)) ?_) ?_ a_ bM
   exact ⟨by omega,by omega,LB,LC,Jm,fun _=>by omega,hb,ab,ej⟩
  have H3:=H2;have hq4:=of_decide_eq_false (hq.symm.trans H3);have hk:ja s≤i:=by unfold ja;split;(rename_i h;rw [←hdn] at h;have:i≠0:=fun e=>hq4 ⟨e,h⟩;omega);omega
  obtain ⟨c,hc⟩:∃c,c=(s.getD i 0).toNat:=⟨_,rfl⟩;have hcl:c<256:=by rw [hc];exact UInt8.toNat_lt _
  refine aU<|ax oD<|av fun _ pm=>av fun _ oA=>cR (X:=Bool) (fun q=> [(0,str s),(2,.pointer (some ⟨au,0,none⟩)),(6,.pointer (some ⟨gY,0,none⟩)),(7,.bool dn),(8,.int .i64 (i:Int)),(66,.bool q)]) (fun q wr=>q=decide (c<48∨57<c)∧Below w.heap.size w wr∧ak wr au 25 ch.cells∧ak wr gY 25 (c7.cells ⟨2,z,0,[]⟩)) (fun _ Cu=>?_) ?_
  ·
   refine aQ<|ai rfl<|ai rfl<|ae (bW (fP bI rfl rfl (by omega) (by omega)) (aH (show _=(c:Int) by rw [hc,Int.toNat_natCast]))) rfl<|ae (dL rfl rfl) rfl<|ai rfl<|dy rfl rfl rfl (fun mo=>?_) (fun mo=>?_)
   ·
    have jn:=mo;simp only [DZ] at mo;refine az rfl rfl jn rfl rfl<|az rfl rfl jn rfl rfl<|az rfl rfl jn rfl rfl<|ae (bo rfl jn rfl) rfl<|ay<|a7 Cu (decide (c<48∨57<c)) (by repeat first|exact aC|refine aA rfl (by first|rfl|exact a8 (by rw [Bool.eq_iff_iff];simp<;>omega)) ?_) ?_
    exact ⟨rfl,hb,ab,ej⟩
   have jn:=mo;simp only [DZ] at mo;refine ai rfl<|ap rfl rfl jn<|ai rfl<|ap rfl rfl jn<|ae (bW (fP bI rfl rfl (by omega) (by omega)) (aH (show _=(c:Int) by rw [hc,Int.toNat_natCast]))) rfl<|ap rfl rfl jn<|ae (ed rfl rfl) rfl<|ae (bj rfl jn rfl) rfl<|ay<|a7 Cu (decide (c<48∨57<c)) (by repeat first|exact aC|refine aA rfl (by first|rfl|exact a8 (by rw [Bool.eq_iff_iff];simp<;>omega)) ?_) ?_
   exact ⟨rfl,hb,ab,ej⟩
  rintro q wr xk;replace xk:q=decide (c<48∨57<c)∧Below w.heap.size w wr∧ak wr au 25 ch.cells∧ak wr gY 25 (c7.cells ⟨2,z,0,[]⟩):=xk;obtain ⟨hq,hb,ab,ej⟩:=xk;show Wq _ _ _ _ [(0,str s),(2,.pointer (some ⟨au,0,none⟩)),(6,.pointer (some ⟨gY,0,none⟩)),(7,.bool dn),(8,.int .i64 (i:Int)),(66,.bool q)] _;have:=hb.size;have:=ab.lt;have:=ej.lt;refine ax oA<|aO rfl (fun H8=>?_) (fun H8=>?_)
  ·
   have H9:=H8;have hq5:=of_decide_eq_true (hq.symm.trans H9);refine am fun B3=>aD Dv rfl rfl (C6 _) rfl ?_;rintro _ fj ⟨rfl,bk⟩;have:=bk.size;have hb:=aZ hb bk;have ab:=ak.below ab bk;refine ba (by kernel_rfl) rfl rfl ab rfl rfl ?_;rintro kW ab cx;have:=cx.size;have hb:=cf hb cx hb.size (by omega);refine an rfl<|al B3<|aJ<|aX (co (aX (aX (co (aX ?_)))))
   refine bQ (rs:= [.cell 2 25,.tmp 3]) (vs:= [_,_]) rfl (.cell rfl (bP ek (by kernel_rfl) (fun j u hu=>ab.at hu)) (.tmp rfl .nil)) ?_;exact ⟨_,rfl,⟨_,_,rfl,.inr ⟨rfl,rfl,fun v h=>by obtain ⟨n,_,_,_,hsn⟩:=RG hn0 (fun e=>hq1 (.inl e)) (fun e=>hq1 (.inr e)) hnone h;exact Acc.bad hil hk (by rw [←hc];exact hq5) n hsn⟩⟩,hb⟩
  have H9:=H8;have hq5:=of_decide_eq_false (hq.symm.trans H9);obtain ⟨z_,x9⟩:∃z':Int,z'=IntKind.i64.wrap (IntKind.i64.wrap (z * 10) - ((c - 48:Nat):Int)):=⟨_,rfl⟩;have LB: -9223372036854775808≤z_:=by rw [x9];exact (Ny _).1
  have LC:z_≤9223372036854775807:=by rw [x9];exact (Ny _).2
  have Jm:Acc s (i+1) z_:=UF hA hil hk (fun h0 h1=>by rw [x9,hc];rw [←hc] at h1 ⊢;exact ag1 ⟨hz0,h0⟩ (by omega) h1);refine aU<|ax pm<|jg (n:=11) (fun w'=>Below w.heap.size w w'∧ak w' au 25 ch.cells∧∃y,ak w' gY 25 y) #[aj,aj,aj,aj,aj,aj,aj,aj,aj,aj,aj] (by kernel_rfl) rfl (by kernel_rfl)<|jf ?_
  rintro aij Fj;have:=Fj.size;have hb:=aZ hb Fj;have ab:=ak.below ab Fj;have ej:=ak.below ej Fj;refine bC (i:=0) #[ah,aj,aj,aj,aj,aj,aj,aj,aj,aj,aj] rfl (by kernel_rfl) bF rfl (fun wq hq=>bU (aP (lA _) rfl)) ⟨hb,ab,_,ej⟩<|bC (i:=3) #[ah,aj,aj,ah,aj,aj,aj,aj,aj,aj,aj] rfl (by kernel_rfl) bF rfl (fun wq hq=>bU (dN rfl)) ⟨hb,ab,_,ej⟩<|bC (i:=4) #[ah,aj,aj,ah,ah,aj,aj,aj,aj,aj,aj] rfl (by kernel_rfl) bF rfl (fun wq hq=>bU (dN rfl)) ⟨hb,ab,_,ej⟩<|bC (i:=5) #[ah,aj,aj,ah,ah,ah,aj,aj,aj,aj,aj] rfl (by kernel_rfl) bF rfl (fun wq hq=>bU (bW (fP bI rfl rfl (by omega) (by omega)) (aH (show _=(c:Int) by rw [hc,Int.toNat_natCast])))) ⟨hb,ab,_,ej⟩<|bC (i:=6) #[ah,aj,aj,ah,ah,ah,ah,aj,aj,aj,aj] rfl (by kernel_rfl) bF rfl (fun wq hq=>bU (bW (yD rfl rfl) (aH (show _=((c - 48:Nat):Int) by rw [wrap_u8 _ (by omega) (by omega)];omega)))) ⟨hb,ab,_,ej⟩<|bC (i:=7) #[ah,aj,aj,ah,ah,ah,ah,ah,aj,aj,aj] rfl (by kernel_rfl) bF rfl (fun wq hq=>bU (bW (ll kV Dz rfl) (aH (show _=((c - 48:Nat):Int) by rw [wrap_i64 _ (by omega) (by omega)])))) ⟨hb,ab,_,ej⟩<|cM (rs:= [1]) (by kernel_rfl) rfl<|cO #[ah,ah,aj,ah,ah,ah,ah,ah,aj,aj,aj] rfl rfl (fun _ xC=>?_) ?_
  ·
   refine aG (aS lR rfl (by exact ej.at (j:=1) rfl)) rfl<|ay<|cN xC ⟨hb,ab,_,ej⟩<|bC (i:=2) #[ah,ah,ah,ah,ah,ah,ah,ah,aj,aj,aj] rfl (by kernel_rfl) bF rfl (fun wq hq=>bU (Nz rfl rfl)) ⟨hb,ab,_,ej⟩<|bC (i:=8) #[ah,ah,ah,ah,ah,ah,ah,ah,ah,aj,aj] rfl (by kernel_rfl) bF rfl (fun wq hq=>bU (bW (yD rfl rfl) (aH (show _=z_ from x9.symm)))) ⟨hb,ab,_,ej⟩<|bC (i:=9) #[ah,ah,ah,ah,ah,ah,ah,ah,ah,ah,aj] rfl (by kernel_rfl) bF rfl (fun wq hq=>bU (aP (lA _) rfl)) ⟨hb,ab,_,ej⟩<|cM (rs:= [10]) (by kernel_rfl) rfl<|cO #[ah,ah,ah,ah,ah,ah,ah,ah,ah,ah,ah] rfl rfl (fun _ sf=>?_) ?_
   ·
    refine fV lR rfl rfl rfl ej (by show 1<4;decide) ?_;rintro mV ej cS;have:=cS.size;have hb:=cf hb cS hb.size (by omega);have ab:=ab.over cS (by omega);refine ay<|cN sf ⟨hb,ab,_,ej⟩<|fB (by kernel_rfl)<|cD<|ax sh<|aQ<|ai rfl<|ae (ct rfl rfl (by omega) (by omega)) rfl<|an rfl<|ay<|fun a_ bM=>PP _ _ (⟨i+1,z_⟩) (by simp;omega) (by repeat first|exact aC|refine aA rfl (by first|rfl|exact aH (by omega)) ?_) ?_ a_ bM
    exact ⟨by omega,by omega,LB,LC,Jm,fun _=>by omega,hb,ab,ej⟩
   exact cP
  exact cP
 have HN:=HM;have hq3:=of_decide_eq_false (hq.symm.trans HN);refine d2<|cj<|cj<|d3<|ax pt<|av fun _ zd=>am fun Cb=>ai rfl<|ae (jd rfl) rfl<|al Cb ?_
 obtain ⟨zz,hzz⟩:∃zz,zz=NC dn z:=⟨_,rfl⟩;have hzr: -9223372036854775808≤zz∧zz≤9223372036854775807:=by rw [hzz];unfold NC;split;exact ⟨hz0,hz1⟩;exact Ny _
 refine cR (X:=Unit) (fun u_=> [(0,str s),(2,.pointer (some ⟨au,0,none⟩)),(6,.pointer (some ⟨gY,0,none⟩))]) (fun u_ wr=>Below w.heap.size w wr∧ak wr au 25 ch.cells∧ak wr gY 25 (c7.cells ⟨2,zz,0,[]⟩)) (fun _ P0=>?_) ?_
 ·
  refine aO rfl (fun In=>?_) (fun In=>?_)
  ·
   have hdd:dn=false:=by simpa using In
   have hzd:zz=IntKind.i64.wrap (0 - z):=by rw [hzz,hdd];rfl
   refine aQ<|ae (aP (lA _) rfl) rfl<|aG (aS lR rfl (by exact ej.at (j:=1) rfl)) rfl<|ae (bW (NA rfl) (aH (show _=zz from hzd.symm))) rfl<|ae (aP (lA _) rfl) rfl<|fV lR rfl rfl rfl ej (by show 1<4;decide) ?_
   rintro mW ej df;have:=df.size;have hb:=cf hb df hb.size (by omega);have ab:=ab.over df (by omega);refine ay<|a7 P0 (()) (by repeat first|exact aC|refine aA rfl (by first|rfl|exact aH (by omega)) ?_) ?_
   exact ⟨hb,ab,ej⟩
  have hdd:dn=true:=by simpa using In
  have hzd:zz=z:=by rw [hzz,hdd];rfl
  rw [←hzd] at ej;refine aU<|a7 P0 (()) (by repeat first|exact aC|refine aA rfl (by first|rfl|exact aH (by omega)) ?_) ?_
  exact ⟨hb,ab,ej⟩
 rintro u_ wr JE;replace JE:Below w.heap.size w wr∧ak wr au 25 ch.cells∧ak wr gY 25 (c7.cells ⟨2,zz,0,[]⟩):=JE;obtain ⟨hb,ab,ej⟩:=JE;show Wq _ _ _ _ [(0,str s),(2,.pointer (some ⟨au,0,none⟩)),(6,.pointer (some ⟨gY,0,none⟩))] _;have:=hb.size;have:=ab.lt;have:=ej.lt
 have hfin:∀v,je v s→v=⟨2,zz,0,[]⟩∧s=Lib.itoa zz:=fun v h=>by
  obtain ⟨n,n0,n1,hv,hsn⟩:=RG hn0 (fun e=>hq1 (.inl e)) (fun e=>hq1 (.inr e)) hnone h;have hl:=acf n0 n1;rw [←hsn] at hl;have hie:i=s.length:=by have:=mt (fun h=>(⟨h,hl.1⟩:i<s.length∧s.length≤20)) hq3;omega
  rw [hie] at hA;obtain ⟨e1,e2⟩:=hA.done n0 n1 hsn
  have e3:zz=n:=by
   rw [hzz];unfold NC;unfold ja at e2;rw [←hdn] at e2
   cases dn
   · rw [if_neg (by decide)] at e2 ⊢
     rw [wrap_i64 _ (by omega) (by omega)];omega
   · rw [if_pos rfl] at e2 ⊢
     omega
  rw [e3];exact ⟨hv,hsn⟩
 have okz:(⟨2,zz,0,[]⟩:c7).Ok:=⟨hzr.1,hzr.2,by show (0:Nat)<_;decide⟩;refine ax zd<|am fun Cd=>aG (cr ek (by kernel_rfl) rfl (by exact fun j u hu=>ej.at hu)) rfl<|aD afd rfl rfl (Vw ⟨2,zz,0,[]⟩ okz (by simp) _) rfl ?_
 rintro _ gj ⟨rfl,bD⟩;have:=bD.size;have hb:=aZ hb bD;have ab:=ak.below ab bD;have ej:=ak.below ej bD;refine ai rfl<|ae (cu rfl rfl) rfl<|ae (cu rfl rfl) rfl<|an rfl<|an rfl<|al Cd<|av fun _ Cf=>am fun KE=>ai rfl<|ai rfl<|ae (yA rfl rfl) rfl<|al KE<|aO rfl (fun wG=>?_) (fun wG=>?_)
 ·
  have X1:=wG;simp only [DZ] at wG;refine am fun Cg=>aD Dv rfl rfl (C6 _) rfl ?_;rintro _ lW ⟨rfl,cm⟩;have:=cm.size;have hb:=aZ hb cm;have ab:=ak.below ab cm;refine ba (by kernel_rfl) rfl rfl ab rfl rfl ?_;rintro mi ab cF;have:=cF.size;have hb:=cf hb cF hb.size (by omega);refine an rfl<|al Cg<|aJ<|aX<|bQ (rs:= [.cell 2 25,.tmp 3]) (vs:= [_,_]) rfl (.cell rfl (bP ek (by kernel_rfl) (fun j u hu=>ab.at hu)) (.tmp rfl .nil)) ?_
  exact ⟨_,rfl,⟨_,_,rfl,.inr ⟨rfl,rfl,fun v h=>wG (hfin v h).2.symm⟩⟩,hb⟩
 have X1:=wG;simp only [DZ] at wG;refine aU<|ax Cf<|am fun tu=>aG (cr ek (by kernel_rfl) rfl (by exact fun j u hu=>ej.at hu)) rfl ?_
 refine ba (by kernel_rfl) rfl rfl ab rfl rfl ?_;rintro rO ab dw;have:=dw.size;have hb:=cf hb dw hb.size (by omega);refine an rfl<|al tu<|aJ<|bQ (rs:= [.cell 2 25,.tmp 3]) (vs:= [_,_]) rfl (.cell rfl (bP ek (by kernel_rfl) (fun j u hu=>ab.at hu)) (.tmp rfl .nil)) ?_
 exact ⟨_,rfl,⟨_,_,rfl,.inl ⟨rfl,by have h:=wG;have h2:=Mu hzr.1 hzr.2;rw [show Lib.itoa zz=s from h] at h2;exact h2⟩⟩,hb⟩
theorem VE (s:ao) (hs:s.length≤140737488355328) (w:World):bx Tryz.prog 73 [str s] w fun v w'=>v= .tuple #[str (de s).1,.int .i64 ((de s).2:Nat)]∧Below w.heap.size w w':=by
 have hb:=Below.refl w.heap.size w;refine enter Tryz.func73 rfl rfl rfl<|am fun aR=>an rfl<|an rfl<|al aR<|am fun b8=>an rfl<|al b8<|av fun _ fi=>am fun dV=>an rfl<|al dV<|b4<|d9 (X:=Nat×ao) (fun (i,l)=> [(0,str s),(4,str l),(5,.int .i64 (i:Int))]) (fun (i,l) wr=>1≤i∧i≤s.length+1∧l.length<i∧de s=cZ (s.drop i) i l∧Below w.heap.size w wr) (fun (i,l)=>s.length+1 - i) (⟨1,[]⟩) ?_ ?_ ?_
 · exact by repeat first|exact aC|refine aA rfl (by first|rfl|exact aH (by omega)) ?_
 · exact ⟨by omega,by omega,Nat.lt_succ_self 0,rfl,hb⟩
 rintro ⟨i,l⟩ wr jW _ nV;replace jW:1≤i∧i≤s.length+1∧l.length<i∧de s=cZ (s.drop i) i l∧Below w.heap.size w wr:=jW;obtain ⟨hi1,hi2,hl,hu,hb⟩:=jW;show Wc _ _ _ _ _ [(0,str s),(4,str l),(5,.int .i64 (i:Int))] _;have:=hb.size;refine av fun _ dT=>am fun dU=>ai rfl<|ai rfl<|ae (ez bI (by omega) rfl) rfl<|ae (dL rfl rfl) rfl<|al dU<|aO rfl (fun dD=>?_) (fun dD=>?_)
 ·
  have kx:=dD;simp only [DZ] at dD;have hil:i<s.length:=by have:=dD;omega
  obtain ⟨c,hc⟩:∃c,c=s.getD i 0:=⟨_,rfl⟩;refine aU<|ax dT<|av fun _ dG=>b4<|am fun fC=>ai rfl<|ai rfl<|ae (bW (fP bI rfl rfl (by omega) (by omega)) (aH (show _=(c.toNat:Int) by rw [hc,Int.toNat_natCast]))) rfl<|an rfl<|al fC<|av fun _ fT=>am fun gu=>ai rfl<|ae (bX rfl rfl) rfl<|al gu<|aO rfl (fun gE=>?_) (fun gE=>?_)
  ·
   have rU:=gE;simp only [DZ] at gE;have hcq:s.getD i 0=39:=by rw [←hc];exact oO (n:=39) gE (by decide)
   refine am fun fD=>ai rfl<|ai rfl<|ae (ct rfl rfl (by omega) (by omega)) rfl<|an rfl<|an rfl<|al fD<|aJ<|aX (co (aX (aX (co (aX ?_)))))
   refine fm rfl rfl rfl ?_;exact ⟨_,rfl,tR (hu.trans (Ud l hil hcq)) (by omega),hb⟩
  have rU:=gE;simp only [DZ] at gE;have hcq:s.getD i 0≠39:=by rw [←hc];exact qu (n:=39) gE (by decide)
  refine aU<|ax fT<|av fun _ gI=>am fun iW=>ai rfl<|ae (bX rfl rfl) rfl<|al iW<|aO rfl (fun nw=>?_) (fun nw=>?_)
  ·
   have Hh:=nw;simp only [DZ] at nw;have hun:=hu.trans (Ua l hil (by rw [←hc];exact oO (n:=10) nw (by decide)));refine am fun nP=>an rfl<|an rfl<|al nP<|aJ<|aX (co (aX (aX (co (aX ?_)))))
   refine fm rfl rfl rfl ?_;exact ⟨_,rfl,tR hun rfl,hb⟩
  have Hh:=nw;simp only [DZ] at nw;have hcf:s.getD i 0≠10:=by rw [←hc];exact qu (n:=10) nw (by decide)
  refine aU<|ax gI<|av fun _ iK=>am fun lf=>ai rfl<|ae (fG rfl rfl) rfl<|al lf<|aO rfl (fun nx=>?_) (fun nx=>?_)
  ·
   have HA:=nx;simp only [DZ] at nx;have hu2:=hu.trans (Uc l hil hcq hcf (by rw [←hc];exact qu (n:=92) nx (by decide)));obtain ⟨j_,kL⟩:∃j,j=i:=⟨_,rfl⟩;obtain ⟨e_,kn⟩:∃e,e=c:=⟨_,rfl⟩;rw [←hc,←kn,←kL] at hu2;refine am fun gZ=>ai rfl<|ai rfl<|ai rfl<|ai rfl<|ae (ct rfl rfl (by omega) (by omega)) rfl<|ae (bW (sF bI rfl rfl rfl (by omega) (by omega) (by omega)) (d5 (show _= [c] by rw [show ((i:Int)+1).toNat=i+1 by omega,Int.toNat_natCast,FC hil,hc]))) rfl<|ae (eu rfl rfl (by simp only [List.length_cons,List.length_append,List.length_nil];omega)) rfl<|an rfl<|al gZ<|d2<|cj<|d3<|ax dG<|aQ<|ai rfl<|ae (ct rfl rfl (by omega) (by omega)) rfl<|an rfl<|ay<|fun a_ bM=>nV _ _ (⟨j_+1,l++ [e_]⟩) (by simp;omega) (by repeat first|exact aC|refine aA rfl (by first|rfl|exact aH (by omega)|exact d5 (by rw [kn])) ?_) ?_ a_ bM
   exact ⟨by omega,by omega,by rw [List.length_append];simp;omega,hu2,hb⟩
  have HA:=nx;simp only [DZ] at nx;have hc9:s.getD i 0=92:=by rw [←hc];exact oO (n:=92) nx (by decide)
  refine aU<|ax iK<|am fun nQ=>ai rfl<|ae (ct rfl rfl (by omega) (by omega)) rfl<|an rfl<|al nQ<|av fun _ Cm=>am fun pt=>ai rfl<|ai rfl<|ae (ez bI (by omega) rfl) rfl<|ae (bX rfl rfl) rfl<|al pt<|aO rfl (fun ny=>?_) (fun ny=>?_)
  ·
   have sX:=ny;simp only [DZ] at ny;have hun:=hu.trans (Ub l hil hc9 (by have:=ny;omega));refine am fun ro=>an rfl<|an rfl<|al ro<|aJ<|aX (co (aX (aX (co (aX ?_)))))
   refine fm rfl rfl rfl ?_;exact ⟨_,rfl,tR hun rfl,hb⟩
  have sX:=ny;simp only [DZ] at ny;have hi3:i+1<s.length:=by have:=ny;omega
  obtain ⟨d,hd⟩:∃d,d=s.getD (i+1) 0:=⟨_,rfl⟩;have hes:=T9 l hi3 hc9;rw [←hd] at hes;obtain ⟨j_,kL⟩:∃j,j=i+1:=⟨_,rfl⟩;refine aU<|ax Cm<|am fun xF=>ai rfl<|ai rfl<|ae (bW (fP bI rfl rfl (by omega) (by omega)) (aH (show _=(d.toNat:Int) by rw [hd,show ((i:Int)+1).toNat=i+1 by omega]))) rfl<|al xF<|b4<|av fun _ oC=>am fun mG=>ae (bX rfl rfl) rfl<|an rfl<|al mG<|aO rfl (fun wl=>?_) (fun wl=>?_)
  ·
   have OG:=wl;simp only [DZ] at wl;have hdd:d=92:=oO (n:=92) wl (by decide);obtain ⟨e_,kn⟩:∃e,e=d:=⟨_,rfl⟩;have hu2:de s=cZ (s.drop (j_+1)) (j_+1) (l++ [e_]):=by rw [hdd] at hes;rw [kn,hdd,kL];exact hu.trans hes
   refine aU<|ax oC<|yI rfl OG<|aQ<|ai rfl<|ai rfl<|ai rfl<|ai rfl<|ae (ct rfl rfl (by omega) (by omega)) rfl<|ae (bW (sF bI rfl rfl rfl (by omega) (by omega) (by omega)) (d5 (show _= [d] by rw [show ((i:Int)+1).toNat=i+1 by omega,show ((i:Int)+1+1).toNat=i+1+1 by omega,FC hi3,hd]))) rfl<|ae (eu rfl rfl (by simp only [List.length_cons,List.length_append,List.length_nil];omega)) rfl<|an rfl<|ay<|cD<|cD<|ax dG<|aQ<|ai rfl<|ae (ct rfl rfl (by omega) (by omega)) rfl<|an rfl<|ay<|fun a_ bM=>nV _ _ (⟨j_+1,l++ [e_]⟩) (by simp;omega) (by repeat first|exact aC|refine aA rfl (by first|rfl|exact aH (by omega)|exact d5 (by rw [kn])) ?_) ?_ a_ bM
   exact ⟨by omega,by omega,by rw [List.length_append];simp;omega,hu2,hb⟩
  have OG:=wl;simp only [DZ] at wl;have hd1:d≠92:=qu (n:=92) wl (by decide);refine aQ<|ae (bX rfl rfl) rfl<|an rfl<|al oC<|aO rfl (fun ww=>?_) (fun ww=>?_)
  ·
   have XS:=ww;simp only [DZ] at ww;have hdd:d=39:=oO (n:=39) ww (by decide);obtain ⟨e_,kn⟩:∃e,e=d:=⟨_,rfl⟩;have hu2:de s=cZ (s.drop (j_+1)) (j_+1) (l++ [e_]):=by rw [hdd] at hes;rw [kn,hdd,kL];exact hu.trans hes
   refine aQ<|ai rfl<|ai rfl<|ai rfl<|ai rfl<|ae (ct rfl rfl (by omega) (by omega)) rfl<|ae (bW (sF bI rfl rfl rfl (by omega) (by omega) (by omega)) (d5 (show _= [d] by rw [show ((i:Int)+1).toNat=i+1 by omega,show ((i:Int)+1+1).toNat=i+1+1 by omega,FC hi3,hd]))) rfl<|ae (eu rfl rfl (by simp only [List.length_cons,List.length_append,List.length_nil];omega)) rfl<|an rfl<|ay<|cD<|cD<|ax dG<|aQ<|ai rfl<|ae (ct rfl rfl (by omega) (by omega)) rfl<|an rfl<|ay<|fun a_ bM=>nV _ _ (⟨j_+1,l++ [e_]⟩) (by simp;omega) (by repeat first|exact aC|refine aA rfl (by first|rfl|exact aH (by omega)|exact d5 (by rw [kn])) ?_) ?_ a_ bM
   exact ⟨by omega,by omega,by rw [List.length_append];simp;omega,hu2,hb⟩
  have XS:=ww;simp only [DZ] at ww;have hd2:d≠39:=qu (n:=39) ww (by decide);refine am fun B2=>ae (bX rfl rfl) rfl<|an rfl<|al B2<|aO rfl (fun wz=>?_) (fun wz=>?_)
  ·
   have XU:=wz;simp only [DZ] at wz;have hdd:d=110:=oO (n:=110) wz (by decide);obtain ⟨e_,kn⟩:∃e:UInt8,e=10:=⟨_,rfl⟩;have hu2:de s=cZ (s.drop (j_+1)) (j_+1) (l++ [e_]):=by rw [hdd] at hes;rw [kn,kL];exact hu.trans hes
   refine aQ<|ai rfl<|ae (eu rfl rfl (by simp only [List.length_cons,List.length_append,List.length_nil];omega)) rfl<|an rfl<|ay<|cD<|cD<|ax dG<|aQ<|ai rfl<|ae (ct rfl rfl (by omega) (by omega)) rfl<|an rfl<|ay<|fun a_ bM=>nV _ _ (⟨j_+1,l++ [e_]⟩) (by simp;omega) (by repeat first|exact aC|refine aA rfl (by first|rfl|exact aH (by omega)|exact d5 (by rw [kn])) ?_) ?_ a_ bM
   exact ⟨by omega,by omega,by rw [List.length_append];simp;omega,hu2,hb⟩
  have XU:=wz;simp only [DZ] at wz;have hd3:d≠110:=qu (n:=110) wz (by decide);refine am fun tr=>an rfl<|an rfl<|al tr<|aJ<|co (co (aX (aX (co (aX ?_)))))
  refine fm rfl rfl rfl ?_;exact ⟨_,rfl,tR (hu.trans (hes.trans (by unfold o5;rw [if_neg hd1,if_neg hd2,if_neg hd3]))) rfl,hb⟩
 have kx:=dD;simp only [DZ] at dD;refine d2<|cj<|cj<|d3<|ax fi<|am fun B5=>an rfl<|an rfl<|al B5<|aJ<|fm rfl rfl rfl ?_
 exact ⟨_,rfl,tR (hu.trans (T8 l (by have:=dD;omega))) rfl,hb⟩
theorem R0 {s:ao}:Lib.hasPrefix s [39]=decide (0<s.length∧(s.getD 0 0).toNat=39):=by
 rw [Bool.eq_iff_iff,yh,decide_eq_true_eq]
 constructor
 · rintro ⟨r,rfl⟩;exact ⟨by simp,rfl⟩
 · rintro ⟨h1,h2⟩
   cases s with
   |nil=>simp at h1
   |cons c r=>
    have hc:c=39:=UInt8.toNat_inj.1 h2;exact ⟨r,by rw [hc]⟩
theorem R8 {s:ao} (h:Lib.hasPrefix s [39]=true):dI pf de s=if (de s).2=0 then none else some (⟨4,0,0,(de s).1⟩,(de s).2):=by unfold dI;rw [if_pos h]
theorem NR (s:ao) (hs:s.length≤140737488355328) (w:World):bx Tryz.prog 51 [str s] w fun v w'=>v=MC (dI pf de s)∧Below w.heap.size w w':=by
 have hb:=Below.refl w.heap.size w;refine enter Tryz.func51 rfl rfl rfl<|am fun aR=>bT (z:=mO) (by kernel_rfl) rfl ?_
 rintro au dJ dH ab aM;have:=aM.size;have hb:=aZ hb aM;have:=ab.lt;refine an rfl<|an rfl<|al aR<|av fun _ dC=>av fun _ fi=>cR (X:=Bool) (fun q=> [(0,str s),(2,.pointer (some ⟨au,0,none⟩)),(3,.int .i64 0),(4,.bool false),(17,.bool q)]) (fun q wr=>q=Lib.hasPrefix s [39]∧Below w.heap.size w wr∧ak wr au 25 ch.cells) (fun _ Qj=>?_) ?_
 ·
  refine aQ<|ai rfl<|ae (ez bI (by omega) rfl) rfl<|ae (ed rfl rfl) rfl<|ai rfl<|cG rfl rfl rfl (fun kB=>?_) (fun kB=>?_)
  ·
   have gN:=kB;simp only [DZ] at kB;refine ai rfl<|ap rfl rfl gN<|ae (fP bI rfl rfl (by omega) (by omega)) rfl<|ap rfl rfl gN<|ae (bX rfl rfl) rfl<|ae (bo rfl gN rfl) rfl<|ay<|a7 Qj (Lib.hasPrefix s [39]) (by repeat first|exact aC|refine aA rfl (by first|rfl|exact a8 (by rw [R0,Bool.eq_iff_iff];simp<;>omega)) ?_) ?_
   exact ⟨rfl,hb,ab⟩
  have gN:=kB;simp only [DZ] at kB;refine az rfl rfl gN rfl rfl<|az rfl rfl gN rfl rfl<|ae (bj rfl gN rfl) rfl<|ay<|a7 Qj (Lib.hasPrefix s [39]) (by repeat first|exact aC|refine aA rfl (by first|rfl|exact a8 (by rw [R0,Bool.eq_iff_iff];simp<;>omega)) ?_) ?_
  exact ⟨rfl,hb,ab⟩
 rintro q wr xn;replace xn:q=Lib.hasPrefix s [39]∧Below w.heap.size w wr∧ak wr au 25 ch.cells:=xn;obtain ⟨hq,hb,ab⟩:=xn;show Wq _ _ _ _ [(0,str s),(2,.pointer (some ⟨au,0,none⟩)),(3,.int .i64 0),(4,.bool false),(17,.bool q)] _;have:=hb.size;have:=ab.lt;refine ax fi<|aO rfl (fun nl=>?_) (fun nl=>?_)
 ·
  have At:=nl;have hp:Lib.hasPrefix s [39]=true:=hq.symm.trans At;refine am fun eM=>ai rfl<|aD afU rfl rfl (VE s hs _) rfl ?_
  rintro _ cB ⟨rfl,aw⟩;have:=aw.size;have hb:=aZ hb aw;have ab:=ak.below ab aw;refine ai rfl<|ae (cu rfl rfl) rfl<|ae (cu rfl rfl) rfl<|an rfl<|an rfl<|al eM<|av fun _ fu=>am fun fD=>ai rfl<|ae (bX rfl rfl) rfl<|al fD<|aO rfl (fun ji=>?_) (fun ji=>?_)
  ·
   have Ay:=ji;simp only [DZ] at ji;refine am fun kG=>aD Dv rfl rfl (C6 _) rfl ?_;rintro _ cU ⟨rfl,aL⟩;have:=aL.size;have hb:=aZ hb aL;have ab:=ak.below ab aL;refine ba (by kernel_rfl) rfl rfl ab rfl rfl ?_;rintro du ab aF;have:=aF.size;have hb:=cf hb aF hb.size (by omega);refine an rfl<|an rfl<|al kG<|aJ<|aX (aX ?_)
   refine bQ (rs:= [.cell 2 25,.tmp 3,.tmp 4]) (vs:= [_,_,_]) rfl (.cell rfl (bP ek (by kernel_rfl) (fun j u hu=>ab.at hu)) (.tmp rfl (.tmp rfl .nil))) ?_;exact ⟨_,rfl,by rw [R8 hp,if_pos (by have:=ji;omega)];rfl,hb⟩
  have Ay:=ji;simp only [DZ] at ji;refine aU<|ax fu<|am fun kH=>ai rfl<|ae (cC (z:=n6) (pl:=n9) (cs:= [_,_,_,_]) ek (by kernel_rfl) (by kernel_rfl) rfl rfl rfl) rfl<|ai rfl<|ba (by kernel_rfl) rfl rfl ab rfl rfl ?_
  rintro ff ab bc;have:=bc.size;have hb:=cf hb bc hb.size (by omega);refine an rfl<|an rfl<|al kH<|aJ<|aX<|bQ (rs:= [.cell 2 25,.tmp 3,.tmp 4]) (vs:= [_,_,_]) rfl (.cell rfl (bP ek (by kernel_rfl) (fun j u hu=>ab.at hu)) (.tmp rfl (.tmp rfl .nil))) ?_
  exact ⟨_,rfl,by rw [R8 hp,if_neg (by have:=ji;omega)];rfl,hb⟩
 have At:=nl;have hp:Lib.hasPrefix s [39]=false:=hq.symm.trans At;refine aU<|ax dC<|av fun _ iK=>am fun lf=>ai rfl<|ae (ez bI (by omega) rfl) rfl<|ae (bW (Ah rfl rfl) (aH (show _=((min s.length 40:Nat):Int) by omega))) rfl<|an rfl<|al lf<|b4<|d9 (X:=Nat) (fun n=> [(0,str s),(2,.pointer (some ⟨au,0,none⟩)),(7,.int .i64 (n:Int))]) (fun n wr=>n≤min s.length 40∧(∀m,n<m→m≤min s.length 40→∀u,¬je u (s.take m))∧Below w.heap.size w wr∧ak wr au 25 ch.cells) (fun n=>n) (min s.length 40) ?_ ?_ ?_
 · exact by repeat first|exact aC|refine aA rfl (by first|rfl|exact aH (by omega)) ?_
 · exact ⟨Nat.le_refl _,fun m h1 h2=>by omega,hb,ab⟩
 rintro n wr rh _ aay;replace rh:n≤min s.length 40∧(∀m,n<m→m≤min s.length 40→∀u,¬je u (s.take m))∧Below w.heap.size w wr∧ak wr au 25 ch.cells:=rh;obtain ⟨hn,hno,hb,ab⟩:=rh;show Wc _ _ _ _ _ [(0,str s),(2,.pointer (some ⟨au,0,none⟩)),(7,.int .i64 (n:Int))] _;have:=hb.size;have:=ab.lt;refine av fun _ m6=>am fun po=>ai rfl<|ae (ed rfl rfl) rfl<|al po<|aO rfl (fun vT=>?_) (fun vT=>?_)
 ·
  have Xl:=vT;simp only [DZ] at vT;have hn0:0<n:=by have:=vT;omega
  refine aU<|ax m6<|av fun _ kJ=>b4<|am fun pp=>ai rfl<|ai rfl<|ae (bW (pQ bI rfl rfl (by omega) (by omega)) (d5 (show _=s.take n by rw [Int.toNat_natCast]))) rfl<|aD afV rfl rfl (VD (s.take n) (by have:=List.length_take_le' n s;omega) _) rfl ?_
  rintro _ eP ⟨⟨u,ok,rfl,hone⟩,a6⟩;have:=a6.size;have hb:=aZ hb a6;have ab:=ak.below ab a6;refine ai rfl<|ae (cu rfl rfl) rfl<|ae (cu rfl rfl) rfl<|bT (z:=mO) (by kernel_rfl) rfl ?_
  rintro ahO aiv ahX E3 LA;have:=LA.size;have hb:=aZ hb LA;have ab:=ak.below ab LA;have:=E3.lt;refine ba (by kernel_rfl) rfl rfl E3 rfl rfl ?_;rintro gB E3 bz;have:=bz.size;have hb:=cf hb bz hb.size (by omega);have ab:=ab.over bz (by omega);refine an rfl<|al pp<|am fun nS=>ai rfl<|al nS<|aO rfl (fun HG=>?_) (fun HG=>?_)
  ·
   have HH:=HG
   have hhit:dI pf de s=some (u,n):=by
    rcases hone with h|h
    · exact adV hp h.2 hn hno
    · have:=HH;rw [h.1] at this;cases this
   refine am fun rn=>aG (cr ek (by kernel_rfl) rfl (by exact fun j u hu=>E3.at hu)) rfl ?_;refine ai rfl<|ba (by kernel_rfl) rfl rfl ab rfl rfl ?_
   rintro j7 ab cd;have:=cd.size;have hb:=cf hb cd hb.size (by omega);refine an rfl<|an rfl<|al rn<|aJ<|co (aX (aX (co (aX ?_))))
   refine bQ (rs:= [.cell 2 25,.tmp 3,.tmp 4]) (vs:= [_,_,_]) rfl (.cell rfl (bP ek (by kernel_rfl) (fun j u hu=>ab.at hu)) (.tmp rfl (.tmp rfl .nil))) ?_;exact ⟨_,rfl,by rw [hhit];rfl,hb⟩
  have HH:=HG
  have hno2:∀m,n - 1<m→m≤min s.length 40→∀u,¬je u (s.take m):=fun m h1 h2 u'=>by
   by_cases e:m=n
   · rw [e]
     rcases hone with h|h
     · have:=HH;rw [h.1] at this;cases this
     · exact h.2.2 u'
   · exact hno m (by omega) h2 u'
  refine aU<|cD<|ax kJ<|aQ<|ai rfl<|ae (iQ rfl rfl (by omega) (by omega)) rfl<|an rfl<|ay<|fun a_ bM=>aay _ _ (n - 1) (by omega) (by repeat first|exact aC|refine aA rfl (by first|rfl|exact aH (by omega)) ?_) ?_ a_ bM
  exact ⟨by omega,hno2,hb,ab⟩
 have Xl:=vT;simp only [DZ] at vT;have hmiss:dI pf de s=none:=adX hp fun m h1 h2 u=>hno m (by have:=vT;omega) h2 u;refine d2<|cj<|cj<|d3<|ax iK<|am fun oC=>aD Dv rfl rfl (C6 _) rfl ?_
 rintro _ fj ⟨rfl,bk⟩;have:=bk.size;have hb:=aZ hb bk;have ab:=ak.below ab bk;refine ba (by kernel_rfl) rfl rfl ab rfl rfl ?_;rintro kW ab cx;have:=cx.size;have hb:=cf hb cx hb.size (by omega);refine an rfl<|an rfl<|al oC<|aJ<|bQ (rs:= [.cell 2 25,.tmp 3,.tmp 4]) (vs:= [_,_,_]) rfl (.cell rfl (bP ek (by kernel_rfl) (fun j u hu=>ab.at hu)) (.tmp rfl (.tmp rfl .nil))) ?_
 exact ⟨_,rfl,by rw [hmiss];rfl,hb⟩
end Go.Proofs.YtjdjliiolchciaaGreatDoor
