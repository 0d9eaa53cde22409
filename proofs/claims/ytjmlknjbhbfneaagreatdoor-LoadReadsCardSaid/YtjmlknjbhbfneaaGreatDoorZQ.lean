import Derived.Test.YtjmlknjbhbfneaaGreatDoorZK
namespace Go.Proofs.YtjmlknjbhbfneaaGreatDoor
open Go.RowKit Go.Bw Go.Bw.Fl
set_option linter.unusedVariables false
set_option linter.unusedSimpArgs false
theorem Zq:∀(l:al),fT l→dC 0 l<10 ^ l.length:=by
 have key:∀(l:al) (n:Nat),fT l→dC n l<(n+1) * 10 ^ l.length:=by
  intro l
  induction l with
  |nil=>intro n _;show n<(n+1) * 1;omega
  |cons c r ih=>
   intro n h;have h1:=h c (List.mem_cons_self ..);have h2:=ih (n * 10+(c.toNat - 48)) (fun x hx=>h x (List.mem_cons_of_mem _ hx));show dC (n * 10+(c.toNat - 48)) r<_;refine Nat.lt_of_lt_of_le h2 ?_;rw [List.length_cons,Nat.pow_succ,show (n+1) * (10 ^ r.length * 10)=((n+1) * 10) * 10 ^ r.length by rw [Nat.mul_comm (10 ^ _) 10,Nat.mul_assoc]];exact Nat.mul_le_mul_right _ (by omega)
 intro l h;have:=key l 0 h
 rwa [Nat.zero_add,Nat.one_mul] at this
theorem Zp {l:al} (h:fT l) (hl:l.length≤17):dC 0 l<100000000000000000:=by
 have h1:=Zq l h;have h2:10 ^ l.length≤10 ^ 17:=Nat.pow_le_pow_right (by decide) hl;have h3:(10:Nat) ^ 17=100000000000000000:=by decide
 omega
theorem fT.take {l:al} (h:fT l) (i:Nat):fT (l.take i):=fun c hc=>h c (List.mem_of_mem_take hc)
theorem fT.snoc {l:al} {i:Nat} (h:fT (l.take i)) (hi:i<l.length) (h0:48≤(l.getD i 0).toNat) (h1:(l.getD i 0).toNat≤57):fT (l.take (i+1)):=fun c hc=>by
 rw [zw hi] at hc
 rcases List.mem_append.1 hc with h2|h2
 · exact h c h2
 · rw [List.mem_singleton.1 h2];exact ⟨h0,h1⟩
theorem B4 {l:al} {i:Nat} (hi:i<l.length):l.getD i 0∈l:=by simp [List.getD,List.getElem?_eq_getElem hi]
structure rA (s:al) (most:Nat):Prop where
 ne:0<s.length
 lead:¬(1<s.length∧(s.getD 0 0).toNat=48)
 len:s.length≤17
 dig:fT s
 le:dC 0 s≤most
def rG (s:al) (most:Nat) (z:Int):Prop:=(z= -1∧¬rA s most)∨(rA s most∧z=(dC 0 s:Nat))
theorem SQ (s:al) (most:Nat) (hs:s.length≤9223372036854775807) (w:World):be Tryz.prog 151 [str s,.int .i64 (most:Int)] w fun v w'=>(∃z,v= .int .i64 z∧rG s most z)∧Below w.heap.size w w':=by
 have hb:=Below.refl w.heap.size w;refine enter Tryz.func151 rfl rfl rfl<|ao fun aZ=>am rfl<|an aZ<|ax fun _ bJ=>ax fun _ bX=>b9 (X:=Bool) (fun q=> [(0,str s),(1,.int .i64 (most:Int)),(23,.bool q)]) (fun q wr=>q=decide (s.length=0∨(1<s.length∧(s.getD 0 0).toNat=48)∨17<s.length)∧Below w.heap.size w wr) (fun _ oe=>?_) ?_
 ·
  refine aR<|ai rfl<|ah (fu rfl rfl) rfl<|ai rfl<|dP rfl rfl rfl (fun gy=>?_) (fun gy=>?_)
  ·
   have dU:=gy;simp only [DZ] at gy;have hl0:s.length=0:=by rw [gy];rfl
   refine aA rfl rfl dU rfl rfl<|aA rfl rfl dU rfl rfl<|aA rfl rfl dU rfl rfl<|cC rfl rfl rfl<|cC rfl rfl rfl<|cC rfl rfl rfl<|aA rfl rfl dU rfl rfl<|ah (bi rfl dU rfl) rfl<|ai rfl<|aA rfl rfl rfl rfl rfl<|aA rfl rfl rfl rfl rfl<|aA rfl rfl rfl rfl rfl<|ah (bi rfl rfl rfl) rfl<|ay<|aY oe (decide (s.length=0∨(1<s.length∧(s.getD 0 0).toNat=48)∨17<s.length)) (by repeat first|exact aB|refine au rfl (by first|rfl|exact aP (by rw [Bool.eq_iff_iff];simp only [decide_eq_true_eq,beq_iff_eq,Bool.false_eq_true,eq_self,true_iff,false_iff,iff_true,iff_false];omega)) ?_) ?_
   exact ⟨rfl,hb⟩
  have dU:=gy;simp only [DZ] at gy;have hl0:¬s.length=0:=fun e=>gy (List.length_eq_zero_iff.1 e);refine ai rfl<|aE rfl rfl dU<|ah (dF bq (by omega) rfl) rfl<|aE rfl rfl dU<|ah (eW rfl rfl) rfl<|aE rfl rfl dU<|ai rfl<|cw rfl rfl rfl (fun kL=>?_) (fun kL=>?_)
  ·
   have ir:=kL;simp only [DZ] at kL;refine ai rfl<|aE rfl rfl ir<|ah (bt (eK bq rfl rfl (by omega) (by omega)) ((show Value.int .u8 ((s.getD (0:Int).toNat 0).toNat:Int)= .int .u8 ((s.getD 0 0).toNat:Int) from rfl))) rfl<|aE rfl rfl ir<|ah (bA rfl rfl) rfl<|aE rfl rfl dU<|ah (bi rfl ir rfl) rfl<|ah (bg rfl dU rfl) rfl<|ai rfl<|dP rfl rfl rfl (fun pV=>?_) (fun pV=>?_)
   ·
    have l1:=pV;simp only [DZ] at pV;refine aA rfl rfl l1 rfl rfl<|aA rfl rfl l1 rfl rfl<|ah (bi rfl l1 rfl) rfl<|ay<|aY oe (decide (s.length=0∨(1<s.length∧(s.getD 0 0).toNat=48)∨17<s.length)) (by repeat first|exact aB|refine au rfl (by first|rfl|exact aP (by rw [Bool.eq_iff_iff];simp only [decide_eq_true_eq,beq_iff_eq,Bool.false_eq_true,eq_self,true_iff,false_iff,iff_true,iff_false];omega)) ?_) ?_
    exact ⟨rfl,hb⟩
   have l1:=pV;simp only [DZ] at pV;refine ai rfl<|aE rfl rfl l1<|ah (dF bq (by omega) rfl) rfl<|aE rfl rfl l1<|ah (eW rfl rfl) rfl<|ah (bg rfl l1 rfl) rfl<|ay<|aY oe (decide (s.length=0∨(1<s.length∧(s.getD 0 0).toNat=48)∨17<s.length)) (by repeat first|exact aB|refine au rfl (by first|rfl|exact aP (by rw [Bool.eq_iff_iff];simp only [decide_eq_true_eq,beq_iff_eq,Bool.false_eq_true,eq_self,true_iff,false_iff,iff_true,iff_false];omega)) ?_) ?_
   exact ⟨rfl,hb⟩
  have ir:=kL;simp only [DZ] at kL;refine aA rfl rfl ir rfl rfl<|aA rfl rfl ir rfl rfl<|aE rfl rfl dU<|ah (bg rfl ir rfl) rfl<|ah (bg rfl dU rfl) rfl<|ai rfl<|aE rfl rfl rfl<|ai rfl<|aE rfl rfl rfl<|ah (dF bq (by omega) rfl) rfl<|aE rfl rfl rfl<|ah (eW rfl rfl) rfl<|ah (bg rfl rfl rfl) rfl<|ay<|aY oe (decide (s.length=0∨(1<s.length∧(s.getD 0 0).toNat=48)∨17<s.length)) (by repeat first|exact aB|refine au rfl (by first|rfl|exact aP (by rw [Bool.eq_iff_iff];simp only [decide_eq_true_eq,beq_iff_eq,Bool.false_eq_true,eq_self,true_iff,false_iff,iff_true,iff_false];omega)) ?_) ?_
  exact ⟨rfl,hb⟩
 rintro q wr J3;replace J3:q=decide (s.length=0∨(1<s.length∧(s.getD 0 0).toNat=48)∨17<s.length)∧Below w.heap.size w wr:=J3;obtain ⟨hq,hb⟩:=J3;show Wq _ _ _ _ [(0,str s),(1,.int .i64 (most:Int)),(23,.bool q)] _;have:=hb.size;refine aw bX<|aH rfl (fun Hl=>?_) (fun Hl=>?_)
 ·
  have Hm:=Hl;have hbad:¬rA s most:=fun h=>by have h1:=h.ne;have h2:=h.lead;have h3:=h.len;have h4:=hq.symm.trans Hm;simp only [decide_eq_true_eq] at h4;omega
  refine ao fun fx=>am rfl<|an fx<|aK<|aQ<|bj rfl rfl ?_
  exact ⟨_,rfl,⟨_,rfl,.inl ⟨rfl,hbad⟩⟩,hb⟩
 have Hm:=Hl;have hgood:¬(s.length=0∨(1<s.length∧(s.getD 0 0).toNat=48)∨17<s.length):=of_decide_eq_false (hq.symm.trans Hm);refine aU<|aw bJ<|ao fun nX=>am rfl<|an nX<|ax fun _ f5=>ao fun lu=>am rfl<|an lu<|br<|cU (X:=Nat) (fun i=> [(0,str s),(1,.int .i64 (most:Int)),(5,.int .i64 ((dC 0 (s.take i):Nat):Int)),(6,.int .i64 (i:Int))]) (fun i wr=>i≤s.length∧fT (s.take i)∧Below w.heap.size w wr) (fun i=>s.length - i) (0) ?_ ?_ ?_
 · exact by repeat first|exact aB|refine au rfl (by first|rfl|exact int_eq (by omega)) ?_
 · exact ⟨by omega,(fun c hc=>by cases hc),hb⟩
 rintro i wr qg _ CC;replace qg:i≤s.length∧fT (s.take i)∧Below w.heap.size w wr:=qg;obtain ⟨hi,hd,hb⟩:=qg;show Wc _ _ _ _ _ [(0,str s),(1,.int .i64 (most:Int)),(5,.int .i64 ((dC 0 (s.take i):Nat):Int)),(6,.int .i64 (i:Int))] _;have:=hb.size;refine ax fun _ gd=>ao fun iX=>ai rfl<|ai rfl<|ah (dF bq (by omega) rfl) rfl<|ah (cg rfl rfl) rfl<|an iX<|aH rfl (fun nF=>?_) (fun nF=>?_)
 ·
  have HM:=nF;simp only [DZ] at nF;have hil:i<s.length:=by omega
  have hdv:=Zp hd (by rw [List.length_take];omega);refine aU<|aw gd<|ax fun _ qn=>br<|ax fun _ n6=>ax fun _ mj=>b9 (X:=Bool) (fun q=> [(0,str s),(1,.int .i64 (most:Int)),(5,.int .i64 ((dC 0 (s.take i):Nat):Int)),(6,.int .i64 (i:Int)),(39,.bool q)]) (fun q wr=>q=decide ((s.getD i 0).toNat<48∨57<(s.getD i 0).toNat)∧Below w.heap.size w wr) (fun _ CM=>?_) ?_
  ·
   refine aR<|ai rfl<|ai rfl<|ah (bt (eK bq rfl rfl (by omega) (by omega)) ((show Value.int .u8 ((s.getD (i:Int).toNat 0).toNat:Int)= .int .u8 ((s.getD i 0).toNat:Int) from rfl))) rfl<|ah (cg rfl rfl) rfl<|ai rfl<|dP rfl rfl rfl (fun sv=>?_) (fun sv=>?_)
   ·
    have m0:=sv;simp only [DZ] at sv;refine aA rfl rfl m0 rfl rfl<|aA rfl rfl m0 rfl rfl<|aA rfl rfl m0 rfl rfl<|ah (bi rfl m0 rfl) rfl<|ay<|aY CM (decide ((s.getD i 0).toNat<48∨57<(s.getD i 0).toNat)) (by repeat first|exact aB|refine au rfl (by first|rfl|exact aP (by rw [Bool.eq_iff_iff];simp only [decide_eq_true_eq,beq_iff_eq,Bool.false_eq_true,eq_self,true_iff,false_iff,iff_true,iff_false];omega)) ?_) ?_
    exact ⟨rfl,hb⟩
   have m0:=sv;simp only [DZ] at sv;refine ai rfl<|aE rfl rfl m0<|ai rfl<|aE rfl rfl m0<|ah (bt (eK bq rfl rfl (by omega) (by omega)) ((show Value.int .u8 ((s.getD (i:Int).toNat 0).toNat:Int)= .int .u8 ((s.getD i 0).toNat:Int) from rfl))) rfl<|aE rfl rfl m0<|ah (eW rfl rfl) rfl<|ah (bg rfl m0 rfl) rfl<|ay<|aY CM (decide ((s.getD i 0).toNat<48∨57<(s.getD i 0).toNat)) (by repeat first|exact aB|refine au rfl (by first|rfl|exact aP (by rw [Bool.eq_iff_iff];simp only [decide_eq_true_eq,beq_iff_eq,Bool.false_eq_true,eq_self,true_iff,false_iff,iff_true,iff_false];omega)) ?_) ?_
   exact ⟨rfl,hb⟩
  rintro q wr xe;replace xe:q=decide ((s.getD i 0).toNat<48∨57<(s.getD i 0).toNat)∧Below w.heap.size w wr:=xe;obtain ⟨hq2,hb⟩:=xe;show Wq _ _ _ _ [(0,str s),(1,.int .i64 (most:Int)),(5,.int .i64 ((dC 0 (s.take i):Nat):Int)),(6,.int .i64 (i:Int)),(39,.bool q)] _;have:=hb.size;refine aw mj<|aH rfl (fun HX=>?_) (fun HX=>?_)
  ·
   have HY:=HX;have hbad:¬rA s most:=fun h=>by have h1:=h.dig _ (B4 hil);have h4:=hq2.symm.trans HY;simp only [decide_eq_true_eq] at h4;omega
   refine ao fun n8=>am rfl<|an n8<|aK<|aQ (bE (aQ (aQ (bE (aQ ?_)))))
   refine bj rfl rfl ?_;exact ⟨_,rfl,⟨_,rfl,.inl ⟨rfl,hbad⟩⟩,hb⟩
  have HY:=HX;have hgd:¬((s.getD i 0).toNat<48∨57<(s.getD i 0).toNat):=of_decide_eq_false (hq2.symm.trans HY);have hc0:48≤(s.getD i 0).toNat:=by omega
  have hc1:(s.getD i 0).toNat≤57:=by omega
  refine aU<|aw n6<|aR<|ai rfl<|ah (D2 rfl rfl (by omega) (by omega)) rfl<|ai rfl<|ai rfl<|ah (bt (eK bq rfl rfl (by omega) (by omega)) ((show Value.int .u8 ((s.getD (i:Int).toNat 0).toNat:Int)= .int .u8 ((s.getD i 0).toNat:Int) from rfl))) rfl<|ah (bt (yj rfl rfl) (int_eq (show _=(((s.getD i 0).toNat - 48:Nat):Int) by rw [wrap_u8 _ (by omega) (by omega)];omega))) rfl<|ah (bt (ja fq jp rfl) (int_eq (show _=(((s.getD i 0).toNat - 48:Nat):Int) by rw [wrap_i64 _ (by omega) (by omega)]))) rfl<|ah (bH rfl rfl (by omega) (by omega)) rfl<|am rfl<|ay<|bS<|aw qn<|aR<|ai rfl<|ah (bH rfl rfl (by omega) (by omega)) rfl<|am rfl<|ay<|fun a_ bn=>CC _ _ (i+1) (by omega) (by repeat first|exact aB|refine au rfl (by first|rfl|exact int_eq (by omega)|exact int_eq (by rw [IN hil];omega)) ?_) ?_ a_ bn
  exact ⟨by omega,fT.snoc hd hil hc0 hc1,hb⟩
 have HM:=nF;simp only [DZ] at nF;have hie:s.take i=s:=List.take_of_length_le (by omega);refine cN<|bD<|bD<|cO<|aw f5<|ax fun _ lv=>ao fun qr=>ai rfl<|ai rfl<|ah (eW rfl rfl) rfl<|an qr<|aH rfl (fun vE=>?_) (fun vE=>?_)
 ·
  have Yo:=vE;simp only [DZ] at vE;have hbad:¬rA s most:=fun h=>by have h1:=h.le;have h4:=vE;rw [hie] at h4;omega
  refine ao fun sN=>am rfl<|an sN<|aK<|aQ<|bj rfl rfl ?_
  exact ⟨_,rfl,⟨_,rfl,.inl ⟨rfl,hbad⟩⟩,hb⟩
 have Yo:=vE;simp only [DZ] at vE;have hok:rA s most:=⟨by omega,fun h=>hgood (.inr (.inl h)),by omega,by rw [hie] at hd;exact hd,by have h4:=vE;rw [hie] at h4;omega⟩;refine aU<|aw lv<|ao fun xz=>ai rfl<|am rfl<|an xz<|aK<|bj rfl rfl ?_
 exact ⟨_,rfl,⟨_,rfl,.inr ⟨hok,by rw [hie]⟩⟩,hb⟩
theorem ace:∀(u:Nat),1≤u→((Lib.decDigits u).getD 0 0).toNat≠48:=by
 intro u
 induction u using Nat.strongRecOn with
 |ind u ih=>
  intro h;by_cases h1:u<10
  · rw [Lib.decDigits_one h1]
    show (UInt8.ofNat (48+u)).toNat≠48;rw [AN h1];omega
  · have h2:=ih (u / 10) (by omega) (by omega)
    obtain ⟨_,_,h3⟩:=gT (u / 10);rw [Lib.decDigits,dif_neg h1]
    cases hd:Lib.decDigits (u / 10) with
    |nil=>exact absurd hd h3
    |cons c r=>rw [hd] at h2;exact h2
theorem Y2 {u most:Nat} (h:u≤most) (hl:(Lib.decDigits u).length≤17):rA (Lib.decDigits u) most∧dC 0 (Lib.decDigits u)=u:=by
 obtain ⟨h1,h2,h3⟩:=gT u;refine ⟨⟨List.length_pos_iff.2 h3,fun ⟨ha,hb⟩=>?_,hl,h1,by rw [h2];exact h⟩,h2⟩
 rcases Nat.eq_zero_or_pos u with h0|h0
 · subst h0;rw [Lib.decDigits_one (by decide)] at ha;simp at ha
 · exact ace u h0 hb
theorem Ze:∀(n:Nat) (s:al),s.length=n→fT s→0<s.length→¬(1<s.length∧(s.getD 0 0).toNat=48)→Lib.decDigits (dC 0 s)=s:=by
 intro n
 induction n with
 |zero=>intro s h _ h0;omega
 |succ n ih=>
  intro s hn hd h0 hz;have hs:s=s.take n++ [s.getD n 0]:=by rw [←zw (by omega),←hn,List.take_length]
  have hlast:=hd _ (B4 (l:=s) (i:=n) (by omega));have hv:dC 0 s=dC 0 (s.take n) * 10+((s.getD n 0).toNat - 48):=by rw [←IN (by omega),←hn,List.take_length]
  have hb:UInt8.ofNat (48+((s.getD n 0).toNat - 48))=s.getD n 0:=by rw [show 48+((s.getD n 0).toNat - 48)=(s.getD n 0).toNat by omega];exact UInt8.ofNat_toNat
  rcases Nat.eq_zero_or_pos n with h1|h1
  · subst h1
    have hv':dC 0 s=(s.getD 0 0).toNat - 48:=by rw [hv];show 0 * 10+_=_;omega
    have hs':s= [s.getD 0 0]:=hs;rw [hv',Lib.decDigits_one (by omega),hb];exact hs'.symm
  · have hlt:(s.take n).length=n:=by rw [List.length_take];omega
    have h00:(s.take n).getD 0 0=s.getD 0 0:=by
     simp [List.getD,List.getElem?_take,h1]
    have hz0:(s.getD 0 0).toNat≠48:=fun e=>hz ⟨by omega,e⟩;have hih:=ih (s.take n) hlt (fT.take hd n) (by omega) (fun h=>hz0 (by rw [←h00];exact h.2))
    have hpos:1≤dC 0 (s.take n):=by
     cases ht:s.take n with
     |nil=>rw [ht] at hlt;simp at hlt;omega
     |cons c r=>
      have hc:c=s.getD 0 0:=by rw [←h00,ht];rfl
      have hcd:=(fT.take hd n) c (by rw [ht];exact List.mem_cons_self ..);have:=AP r (0 * 10+(c.toNat - 48));show 1≤dC (0 * 10+(c.toNat - 48)) r;rw [hc] at this hcd ⊢;omega
    rw [hv,Lib.decDigits,dif_neg (by omega)];rw [show (dC 0 (s.take n) * 10+((s.getD n 0).toNat - 48)) / 10=dC 0 (s.take n) by omega,show (dC 0 (s.take n) * 10+((s.getD n 0).toNat - 48)) % 10=(s.getD n 0).toNat - 48 by omega,hih,hb];exact hs.symm
theorem rA.dec {s:al} {most:Nat} (h:rA s most):Lib.decDigits (dC 0 s)=s:=Ze _ s rfl h.dig h.ne h.lead
theorem FZ (s:al):s=ep (Lib.hasPrefix s [45])++Lib.trimPrefix s [45]:=by
 unfold Lib.trimPrefix;by_cases h:Lib.hasPrefix s [45]=true
 · rw [if_pos h]
   obtain ⟨r,rfl⟩:=(qF _ _).1 h;rw [h];rfl
 · rw [if_neg h]
   have h0:Lib.hasPrefix s [45]=false:=by simpa using h
   rw [h0];rfl
theorem RV {s:al} {f:Nat} (hf:Cn f) (ht:dr f=s) (h0:s≠ [110,97,110]) (h1:Lib.trimPrefix s [45]≠ [105,110,102]) (h2:Lib.trimPrefix s [45]≠ [48,112,48]):
 ∃M e,rung f<9218868437227405312∧rung f≠0∧Lib.trimPrefix s [45]=dI M e∧M=od (bx (rung f))∧e=dG (rung f)+v2 (bx (rung f)):=by
 subst ht
 by_cases c1:isNan f=true
 · exact absurd (uH c1) h0
 have c1':isNan f=false:=by simpa using c1
 by_cases c2:rung f=9218868437227405312
 · have ht:dr f=ep (isNeg f)++ [105,110,102]:=pg c1' c2
   obtain ⟨_,b⟩:=yc (n:=isNeg f) (x:= [105,110,102]) (by decide)
   rw [←ht] at b;exact absurd b h1
 have c6:rung f≤9218868437227405312:=by simpa [isNan,rung] using c1'
 have hr:rung f<9218868437227405312:=by omega
 by_cases c3:rung f=0
 · have ht:dr f=ep (isNeg f)++ [48,112,48]:=ph c1' c2 c3
   obtain ⟨_,b⟩:=yc (n:=isNeg f) (x:= [48,112,48]) (by decide)
   rw [←ht] at b;exact absurd b h2
 have ht:dr f=ep (isNeg f)++dI (od (bx (rung f))) (dG (rung f)+v2 (bx (rung f))):=by
  rw [ox c1' c2 c3];unfold dI;rw [Dy];simp
 obtain ⟨_,b⟩:=yc (n:=isNeg f) (x:=dI (od (bx (rung f))) (dG (rung f)+v2 (bx (rung f)))) (head_ne (qD _ _) (.inl (by decide)))
 rw [←ht] at b
 exact ⟨_,_,hr,c3,b,rfl,rfl⟩
structure uM (t:al) (i:Nat):Prop where
 le:i≤t.length
 no:(112:UInt8) ∉ t.take i
 at_:i<t.length→t.getD i 0=112
theorem uM.snoc {t:al} {i:Nat} (hi:i<t.length) (h:(112:UInt8) ∉ t.take i) (hn:t.getD i 0≠112):(112:UInt8) ∉ t.take (i+1):=fun hm=>by
 rw [zw hi] at hm
 rcases List.mem_append.1 hm with h2|h2
 · exact h h2
 · exact hn (List.mem_singleton.1 h2).symm
theorem uM.num {M:Nat} {e:Int} {i:Nat} (h:uM (dI M e) i):i=(Lib.decDigits M).length:=by
 have hl:(dI M e).length=(Lib.decDigits M).length+1+(Lib.itoa e).length:=by unfold dI;simp;omega
 rcases Nat.lt_trichotomy i (Lib.decDigits M).length with h1|h1|h1
 · exfalso
   have h2:=h.at_ (by omega);have h3:(dI M e).getD i 0=(Lib.decDigits M).getD i 0:=by unfold dI;simp [List.getD,List.getElem?_append_left h1]
   rw [h3] at h2;have h4:=B4 h1;rw [h2] at h4;exact FK h4
 · exact h1
 · exfalso
   refine h.no (List.mem_iff_getElem?.2 ⟨(Lib.decDigits M).length,?_⟩);rw [List.getElem?_take,if_pos h1];unfold dI;simp
theorem Q5 (e:Int):Lib.hasPrefix (Lib.itoa e) [45]=decide (e<0)∧Lib.trimPrefix (Lib.itoa e) [45]=Lib.decDigits e.natAbs:=by
 obtain ⟨a,_,b⟩:=gT e.natAbs;obtain ⟨c,r,hc,h1,h2⟩:=yH a b;have h:=yc (n:=decide (e<0)) (x:=Lib.decDigits e.natAbs) (head_ne ⟨c,r,hc,h1,h2⟩ (.inl (by decide)))
 have e2:ep (decide (e<0))++Lib.decDigits e.natAbs=Lib.itoa e:=by
  rw [Fy];unfold ep;by_cases hn:e<0
  · rw [if_pos (decide_eq_true hn),if_pos hn]
  · rw [if_neg (by simp [hn]),if_neg hn]
 rw [e2] at h;exact h
theorem rG.dec {u most:Nat} {z:Int} (h:rG (Lib.decDigits u) most z) (hu:u≤most) (hl:(Lib.decDigits u).length≤17):z=(u:Int):=by
 obtain ⟨h1,h2⟩:=Y2 hu hl
 rcases h with ⟨_,h⟩|⟨_,h⟩
 · exact absurd h1 h
 · rw [h,h2]
theorem ad5 (m:Nat):od m≤m:=Nat.div_le_self _ _
theorem SU {s:al} {i:Nat} {f:Nat} (hf:Cn f) (ht:dr f=s) (h0:s≠ [110,97,110]) (h1:Lib.trimPrefix s [45]≠ [105,110,102]) (h2:Lib.trimPrefix s [45]≠ [48,112,48]) (hi:uM (Lib.trimPrefix s [45]) i):
 ∃M e,rung f<9218868437227405312∧rung f≠0∧Lib.trimPrefix s [45]=dI M e∧M=od (bx (rung f))∧e=dG (rung f)+v2 (bx (rung f))∧M % 2=1∧M≤9007199254740991∧-1074≤e∧e≤1024∧
  (Lib.trimPrefix s [45]).take i=Lib.decDigits M∧(Lib.trimPrefix s [45]).drop (i+1)=Lib.itoa e∧i+1<(Lib.trimPrefix s [45]).length:=by
 obtain ⟨M,e,g1,g2,g3,g4,g5⟩:=RV hf ht h0 h1 h2
 rw [g3] at hi
 have hil:=hi.num
 have hm:=ri g1
 have he:=pH g1
 have hv:=qK g1 g2
 obtain ⟨_,o2⟩:=pa _ (qC g2)
 have ol:=ad5 (bx (rung f))
 have hne:0<(Lib.itoa e).length:=by
  rw [Fy];have:=List.length_pos_iff.2 (gT e.natAbs).2.2;rw [List.length_append];omega
 refine ⟨M,e,g1,g2,g3,g4,g5,by rw [g4];exact o2,by omega,by omega,by omega,?_,?_,?_⟩
 · rw [g3,hil];unfold dI;rw [List.take_left]
 · rw [g3,hil];unfold dI;rw [←List.drop_drop,List.drop_left];rfl
 · rw [g3,hil];unfold dI;simp;omega
theorem OJ {u:Nat} (h:u≤9007199254740991):(Lib.decDigits u).length≤17:=AM 16 u (by have h2:(10:Nat) ^ (16+1)=100000000000000000:=(by decide);omega)
section
variable {s:al} {i:Nat} {z:Int} (h0:s≠ [110,97,110]) (h1:Lib.trimPrefix s [45]≠ [105,110,102]) (h2:Lib.trimPrefix s [45]≠ [48,112,48]) (hi:uM (Lib.trimPrefix s [45]) i)
include h0 h1 h2 hi
theorem afj (hz:rG ((Lib.trimPrefix s [45]).take i) 9007199254740991 z) (hb:z<1∨z % 2=0∨((Lib.trimPrefix s [45]).length:Int) - 1≤i):pf s=none:=Dt fun f hf ht=>by
 obtain ⟨M,e,g1,g2,g3,g4,g5,g6,g7,g8,g9,g10,g11,g12⟩:=SU hf ht h0 h1 h2 hi;rw [g10] at hz;have:=hz.dec g7 (OJ g7);omega
theorem afk (hz:rG (Lib.trimPrefix ((Lib.trimPrefix s [45]).drop (i+1)) [45]) 2000 z) (hb:z<0∨(Lib.hasPrefix ((Lib.trimPrefix s [45]).drop (i+1)) [45]=true∧z=0)):pf s=none:=Dt fun f hf ht=>by
 obtain ⟨M,e,g1,g2,g3,g4,g5,g6,g7,g8,g9,g10,g11,g12⟩:=SU hf ht h0 h1 h2 hi;obtain ⟨c1,c2⟩:=Q5 e;rw [g11,c1] at hb;rw [g11,c2] at hz;have:=hz.dec (by omega) (OJ (by omega));rw [decide_eq_true_eq] at hb;omega
omit h0 h1 h2 in
theorem afn {e:Nat} {m:Nat} (hz:rG ((Lib.trimPrefix s [45]).take i) 9007199254740991 (m:Int)) (hm:1≤m) (hlt:i+1<(Lib.trimPrefix s [45]).length) (he:rG (Lib.trimPrefix ((Lib.trimPrefix s [45]).drop (i+1)) [45]) 2000 (e:Int)) (hb:¬(Lib.hasPrefix ((Lib.trimPrefix s [45]).drop (i+1)) [45]=true∧(e:Int)=0)):
 Lib.trimPrefix s [45]=dI m (if Lib.hasPrefix ((Lib.trimPrefix s [45]).drop (i+1)) [45]=true then -(e:Int) else (e:Int))∧m≤9007199254740991∧e≤2000:=by
 rcases hz with ⟨a,_⟩|⟨ca,a⟩
 · omega
 rcases he with ⟨b,_⟩|⟨cb,b⟩
 · omega
 have ea:dC 0 ((Lib.trimPrefix s [45]).take i)=m:=by omega
 have eb:dC 0 (Lib.trimPrefix ((Lib.trimPrefix s [45]).drop (i+1)) [45])=e:=by omega
 have da:=ca.dec
 have db:=cb.dec
 rw [ea] at da
 rw [eb] at db
 have la:=ca.le
 have lb:=cb.le
 refine ⟨?_,by omega,by omega⟩
 have hd:Lib.itoa (if Lib.hasPrefix ((Lib.trimPrefix s [45]).drop (i+1)) [45]=true then -(e:Int) else (e:Int))=(Lib.trimPrefix s [45]).drop (i+1):=by
  have hsp:=FZ ((Lib.trimPrefix s [45]).drop (i+1));rw [←db] at hsp;by_cases hp:Lib.hasPrefix ((Lib.trimPrefix s [45]).drop (i+1)) [45]=true
  · have hz0:¬(e:Int)=0:=fun h=>hb ⟨hp,h⟩
    rw [if_pos hp,itoa_neg (by omega),show (-(e:Int)).natAbs=e by omega];rw [hp] at hsp;exact hsp.symm
  · rw [if_neg hp,Q6 (by omega),show ((e:Int)).natAbs=e by omega]
    have hp0:Lib.hasPrefix ((Lib.trimPrefix s [45]).drop (i+1)) [45]=false:=by simpa using hp
    rw [hp0] at hsp;exact hsp.symm
 unfold dI
 rw [hd,da]
 have e1:(Lib.trimPrefix s [45]).drop i=(Lib.trimPrefix s [45]).getD i 0 :: (Lib.trimPrefix s [45]).drop (i+1):=drop_at (by omega)
 rw [hi.at_ (by omega)] at e1
 rw [←e1,List.take_append_drop]
end
structure zN (m:Nat) (E:Int) (j:Nat):Prop where
 j0:j=0∨(m * 2 ^ (j - 1)<4503599627370496∧-1074<E - ((j - 1:Nat):Int))
 end_:¬(m * 2 ^ j<4503599627370496∧-1074<E - (j:Int))
theorem Md (m j:Nat) (h:0<j):m * 2 ^ j=2 * (m * 2 ^ (j - 1)):=by
 obtain ⟨k,rfl⟩:∃k,j=k+1:=⟨j - 1,by omega⟩;rw [Nat.pow_succ,show k+1 - 1=k by omega,←Nat.mul_assoc];omega
theorem zN.lt {m j:Nat} {E:Int} (h:zN m E j) (hm:m≤9007199254740991):m * 2 ^ j<9007199254740992:=by
 rcases Nat.eq_zero_or_pos j with h0|h0
 · subst h0;omega
 · have:=Md m j h0
   rcases h.j0 with h1|h1
   · omega
   · omega
theorem afl {s:al} {m j:Nat} {E:Int} (h0:s≠ [110,97,110]) (h1:Lib.trimPrefix s [45]≠ [105,110,102]) (h2:Lib.trimPrefix s [45]≠ [48,112,48]) (ht:Lib.trimPrefix s [45]=dI m E) (hE: -2000≤E∧E≤2000) (h:zN m E j) (hb:E - (j:Int)< -1074∨971<E - (j:Int)):pf s=none:=Dt fun f hf hx=>by
 obtain ⟨M,e,g1,g2,g3,g4,g5⟩:=RV hf hx h0 h1 h2;have hm:=ri g1;have he:=pH g1;have hv:=qK g1 g2;obtain ⟨o1,o2⟩:=pa _ (qC g2);obtain ⟨rfl,rfl⟩:=RT (ht.symm.trans g3) (by omega) (by omega) (by omega) (by omega)
 have low: -1074≤E - (j:Int):=by
  rcases h.j0 with h3|h3<;>omega
 rcases hb with hb|hb
 · omega
 have h4:4503599627370496≤m * 2 ^ j:=by
  rcases Nat.lt_or_ge (m * 2 ^ j) 4503599627370496 with h5|h5
  · exact absurd ⟨h5,by omega⟩ h.end_
  · exact h5
 have h5:v2 (bx (rung f))≤j:=by
  rcases Nat.lt_or_ge j (v2 (bx (rung f))) with h6|h6
  · exfalso
    have h7:2 ^ (j+1)≤2 ^ v2 (bx (rung f)):=Nat.pow_le_pow_right (by decide) h6;have h8:m * 2 ^ (j+1)≤m * 2 ^ v2 (bx (rung f)):=Nat.mul_le_mul_left _ h7;rw [←g4] at o1;rw [←o1,Nat.pow_succ,←Nat.mul_assoc] at h8;omega
  · exact h6
 omega
def pb (q:Nat) (E:Int):Nat:=if q<4503599627370496 then q else (E+1075).toNat * 4503599627370496+(q - 4503599627370496)
theorem afq {s:al} {m j:Nat} {E:Int} (ht:Lib.trimPrefix s [45]=dI m E) (hm:m % 2=1) (hm1:m≤9007199254740991) (h:zN m E j) (hb0: -1074≤E - (j:Int)) (hb1:E - (j:Int)≤971):
 pb (m * 2 ^ j) (E - j)<9218868437227405312∧pf s=some ((if Lib.hasPrefix s [45]=true then 9223372036854775808 else 0)+pb (m * 2 ^ j) (E - j)):=by
 have hq:=h.lt hm1
 have hend:=h.end_
 have hun:=ad6 (o:=m) (t:=j) hm
 have hne:m * 2 ^ j≠0:=Nat.mul_ne_zero (by omega) (Nat.ne_of_gt (Nat.two_pow_pos j))
 generalize hq':m * 2 ^ j=q at *
 have hR:pb q (E - j)<9218868437227405312∧pb q (E - j)≠0∧bx (pb q (E - j))=q∧dG (pb q (E - j))=E - j:=by
  unfold pb;by_cases hlt:q<4503599627370496
  · rw [if_pos hlt]
    have hE:E - (j:Int)= -1074:=by omega
    refine ⟨by omega,hne,by unfold bx;rw [if_pos hlt],by unfold dG;rw [if_pos hlt];omega⟩
  · rw [if_neg hlt]
    obtain ⟨k,hk⟩:∃k:Nat,k=(E - (j:Int)+1075).toNat:=⟨_,rfl⟩;rw [←hk];have hk1:1≤k:=by omega
    have hk2:k≤2046:=by omega
    have a1:¬(k * 4503599627370496+(q - 4503599627370496)<4503599627370496):=by omega
    have a2:(k * 4503599627370496+(q - 4503599627370496)) / 4503599627370496=k:=by omega
    have a3:(k * 4503599627370496+(q - 4503599627370496)) % 4503599627370496=q - 4503599627370496:=by omega
    refine ⟨by omega,by omega,by unfold bx;rw [if_neg a1,a3];omega,by unfold dG;rw [if_neg a1,a2];omega⟩
 obtain ⟨r1,r2,r3,r4⟩:=hR
 generalize pb q (E - j)=R at *
 refine ⟨r1,?_⟩
 have hw:(if Lib.hasPrefix s [45]=true then 9223372036854775808 else 0)+R=Ieee.double.word (Lib.hasPrefix s [45]) R:=by
  rw [D0];cases Lib.hasPrefix s [45]<;>simp
 have hn:isNeg ((if Lib.hasPrefix s [45]=true then 9223372036854775808 else 0)+R)=Lib.hasPrefix s [45]:=by rw [hw];exact Q3 (by omega)
 have hg:rung ((if Lib.hasPrefix s [45]=true then 9223372036854775808 else 0)+R)=R:=by rw [hw];exact SX (by omega)
 have hlt:(if Lib.hasPrefix s [45]=true then 9223372036854775808 else 0)+R<18446744073709551616:=by split<;>omega
 generalize (if Lib.hasPrefix s [45]=true then 9223372036854775808 else 0)+R=f at *
 have hnn:isNan f=false:=by
  unfold isNan;rw [decide_eq_false_iff_not];show ¬9218868437227405312<rung f;rw [hg];omega
 refine nh ⟨hlt,by unfold canon;rw [if_neg (by rw [hnn];simp)]⟩ ?_
 rw [ox hnn (by rw [hg];omega) (by rw [hg];exact r2),hg,r3,r4,hun.1,hun.2,Dy,hn]
 conv=>rhs;rw [FZ s,ht]
 unfold dI
 rw [show E - (j:Int)+((j:Nat):Int)=E by omega]
 simp
theorem afp:pf [110,97,110]=some 9221120237041090561:=nh ⟨by decide,by decide⟩ (uH (by decide))
theorem afo {s:al} (h:Lib.trimPrefix s [45]= [105,110,102]):pf s=some ((if Lib.hasPrefix s [45]=true then 9223372036854775808 else 0)+9218868437227405312):=by
 have hs:=FZ s;rw [h] at hs
 cases hp:Lib.hasPrefix s [45]
 · rw [hp] at hs;exact nh ⟨by decide,by decide⟩ ((pg (by decide) (by decide)).trans hs.symm)
 · rw [hp] at hs;exact nh ⟨by decide,by decide⟩ ((pg (by decide) (by decide)).trans hs.symm)
theorem afr {s:al} (h:Lib.trimPrefix s [45]= [48,112,48]):pf s=some (if Lib.hasPrefix s [45]=true then 9223372036854775808 else 0):=by
 have hs:=FZ s;rw [h] at hs
 cases hp:Lib.hasPrefix s [45]
 · rw [hp] at hs;exact nh ⟨by decide,by decide⟩ ((ph (by decide) (by decide) (by decide)).trans hs.symm)
 · rw [hp] at hs;exact nh ⟨by decide,by decide⟩ ((ph (by decide) (by decide) (by decide)).trans hs.symm)
end Go.Proofs.YtjmlknjbhbfneaaGreatDoor
namespace Go.Proofs.YtjmlknjbhbfneaaGreatDoor
open Go.RowKit Go.Bw Go.Bw.Fl
set_option linter.unusedVariables false
set_option linter.unusedSimpArgs false
theorem TC:bC Tryz.prog 151:=⟨_,Tryz.func151,by kernel_rfl,rfl⟩
theorem xU (s:al):Lib.hasPrefix s [45]=decide (0<s.length∧(s.getD 0 0).toNat=45):=by
 rw [Bool.eq_iff_iff,qF,decide_eq_true_eq]
 constructor
 · rintro ⟨r,rfl⟩;exact ⟨by simp,rfl⟩
 · rintro ⟨h1,h2⟩
   cases s with
   |nil=>simp at h1
   |cons c r=>
    have hc:c=45:=UInt8.toNat_inj.1 h2;exact ⟨r,by rw [hc]⟩
theorem MO {s:al} (h:Lib.hasPrefix s [45]=true):Lib.trimPrefix s [45]=s.drop 1:=by unfold Lib.trimPrefix;rw [if_pos h];rfl
theorem MN {s:al} (h:Lib.hasPrefix s [45]=false):Lib.trimPrefix s [45]=s:=by unfold Lib.trimPrefix;rw [if_neg (by rw [h];simp)]
def fH (b:Bool):Nat:=if b=true then 9223372036854775808 else 0
theorem afD (b:Bool):fH b=0∨fH b=9223372036854775808:=by unfold fH;split<;>simp
theorem rG.bd {s:al} {most:Nat} {z:Int} (h:rG s most z): -1≤z∧z≤most:=by
 rcases h with ⟨h,_⟩|⟨h,h2⟩
 · omega
 · have:=h.le;omega
theorem af2 {z:Int}:z.tmod 2=0↔z % 2=0:=by rw [←Int.dvd_iff_tmod_eq_zero,←Int.dvd_iff_emod_eq_zero]
def OZ (dn:Bool) (e:Nat):Int:=if dn=true then -(e:Int) else (e:Int)
theorem afm {q:Nat} {E:Int} {b:Bool} {fld:Nat} (hq:q<9007199254740992) (hE0: -1074≤E) (hE1:E≤971) (hf:fld=if q<4503599627370496 then 0 else (E+1075).toNat):fH b+fld * 4503599627370496+q % 4503599627370496=fH b+pb q E∧fld≤2046:=by
 unfold pb;by_cases h:q<4503599627370496
 · rw [if_pos h] at hf ⊢;omega
 · rw [if_neg h] at hf ⊢;omega
theorem VA (s:al) (hs:s.length≤281474976710656) (w:World):be Tryz.prog 109 [str s] w fun v w'=>v=zo s∧Below w.heap.size w w':=by
 obtain ⟨t,ht⟩:∃t,t=Lib.trimPrefix s [45]:=⟨_,rfl⟩;obtain ⟨b,hbn⟩:∃b,b=Lib.hasPrefix s [45]:=⟨_,rfl⟩;have htl:t.length≤s.length:=by rw [ht];exact zx s [45]
 have hsg:=afD b;have hb:=Below.refl w.heap.size w;refine enter Tryz.func109 rfl rfl rfl<|ao fun aZ=>am rfl<|am rfl<|an aZ<|ax fun _ bX=>ao fun cT=>ai rfl<|ah (fu rfl rfl) rfl<|an cT<|aH rfl (fun d1=>?_) (fun d1=>?_)
 ·
  have j8:=d1;simp only [DZ] at d1;refine ao fun ek=>ah (qN pG rfl rfl) rfl<|am rfl<|am rfl<|an ek<|aK<|aQ<|dv rfl rfl rfl ?_
  exact ⟨_,rfl,by rw [d1];exact (zq afp).symm,hb⟩
 have j8:=d1;simp only [DZ] at d1;have hn0:s≠ [110,97,110]:=d1;refine aU<|aw bX<|ao fun eQ=>am rfl<|an eQ<|ao fun fj=>ai rfl<|am rfl<|an fj<|ax fun _ dL=>ax fun _ gJ=>b9 (X:=Bool) (fun q=> [(0,str s),(4,.int .u64 0),(5,str s),(23,.bool q)]) (fun q wr=>q=b∧Below w.heap.size w wr) (fun _ ub=>?_) ?_
 ·
  refine aR<|ai rfl<|ah (dF bq (by omega) rfl) rfl<|ah (eW rfl rfl) rfl<|ai rfl<|cw rfl rfl rfl (fun kd=>?_) (fun kd=>?_)
  ·
   have gx:=kd;simp only [DZ] at kd;refine ai rfl<|aE rfl rfl gx<|ah (eK bq rfl rfl (by omega) (by omega)) rfl<|aE rfl rfl gx<|ah (bA rfl rfl) rfl<|ah (bi rfl gx rfl) rfl<|ay<|aY ub (b) (by repeat first|exact aB|refine au rfl (by first|rfl|exact aP (by rw [hbn,xU,Bool.eq_iff_iff];simp;omega)) ?_) ?_
   exact ⟨rfl,hb⟩
  have gx:=kd;simp only [DZ] at kd;refine aA rfl rfl gx rfl rfl<|aA rfl rfl gx rfl rfl<|ah (bg rfl gx rfl) rfl<|ay<|aY ub (b) (by repeat first|exact aB|refine au rfl (by first|rfl|exact aP (by rw [hbn,xU,Bool.eq_iff_iff];simp;omega)) ?_) ?_
  exact ⟨rfl,hb⟩
 rintro q wr J0;replace J0:q=b∧Below w.heap.size w wr:=J0;obtain ⟨hq,hb⟩:=J0;show Wq _ _ _ _ [(0,str s),(4,.int .u64 0),(5,str s),(23,.bool q)] _;have:=hb.size;refine aw gJ<|b9 (X:=Unit) (fun u_=> [(0,str s),(4,.int .u64 (fH b:Nat)),(5,str t)]) (fun u_ wr=>Below w.heap.size w wr) (fun _ CK=>?_) ?_
 ·
  refine aH rfl (fun nD=>?_) (fun nD=>?_)
  ·
   have Aj:=nD;have hbt:Lib.hasPrefix s [45]=true:=hbn.symm.trans (hq.symm.trans Aj);have hs1:=(xU s).symm.trans hbt;rw [decide_eq_true_eq] at hs1;have htt:=ht.trans (MO hbt);have hbb:=hbn.trans hbt;refine ao fun kV=>am rfl<|an kV<|aR<|ai rfl<|ah (oC bq rfl rfl (by omega) (by omega)) rfl<|am rfl<|ay<|aY CK (()) (by repeat first|exact aB|refine au rfl (by first|rfl|exact dw htt.symm|exact int_eq (by rw [hbb];rfl)) ?_) ?_
   exact hb
  have Aj:=nD;have hbt:Lib.hasPrefix s [45]=false:=hbn.symm.trans (hq.symm.trans Aj);have htt:=ht.trans (MN hbt);have hbb:=hbn.trans hbt;refine aU<|aY CK (()) (by repeat first|exact aB|refine au rfl (by first|rfl|exact dw htt.symm|exact int_eq (by rw [hbb];rfl)) ?_) ?_
  exact hb
 rintro u_ wr J5;replace J5:Below w.heap.size w wr:=J5;have hb:=J5;show Wq _ _ _ _ [(0,str s),(4,.int .u64 (fH b:Nat)),(5,str t)] _;have:=hb.size;refine aw dL<|ax fun _ mg=>ao fun nX=>ai rfl<|ah (fu rfl rfl) rfl<|an nX<|aH rfl (fun vk=>?_) (fun vk=>?_)
 ·
  have XX:=vk;simp only [DZ] at vk;have hinf:=afo (ht.symm.trans vk);refine ao fun ql=>ai rfl<|ah (bt (zG rfl rfl) (int_eq (show _=((fH b+9218868437227405312:Nat):Int) by rw [wrap_u64 _ (by omega) (by omega)];omega))) rfl<|ah (qN pG rfl rfl) rfl<|am rfl<|am rfl<|an ql<|aK<|aQ<|dv rfl rfl rfl ?_
  exact ⟨_,rfl,by rw [zq hinf,←hbn,Int.toNat_natCast];rfl,hb⟩
 have XX:=vk;simp only [DZ] at vk;have hn1:Lib.trimPrefix s [45]≠ [105,110,102]:=by rw [←ht];exact vk
 refine aU<|aw mg<|ax fun _ mi=>ao fun qm=>ai rfl<|ah (fu rfl rfl) rfl<|an qm<|aH rfl (fun vA=>?_) (fun vA=>?_)
 ·
  have Yg:=vA;simp only [DZ] at vA;have hzero:=afr (ht.symm.trans vA);refine ao fun n6=>ai rfl<|ah (qN pG rfl rfl) rfl<|am rfl<|am rfl<|an n6<|aK<|aQ<|dv rfl rfl rfl ?_
  exact ⟨_,rfl,by rw [zq hzero,←hbn,Int.toNat_natCast];rfl,hb⟩
 have Yg:=vA;simp only [DZ] at vA;have hn2:Lib.trimPrefix s [45]≠ [48,112,48]:=by rw [←ht];exact vA
 refine aU<|aw mi<|ao fun qp=>am rfl<|an qp<|ax fun _ mm=>br<|cU (X:=Nat) (fun i=> [(4,.int .u64 (fH b:Nat)),(5,str t),(6,.int .i64 (i:Int))]) (fun i wr=>i≤t.length∧(112:UInt8) ∉ t.take i∧Below w.heap.size w wr) (fun i=>t.length - i) (0) ?_ ?_ ?_
 · exact by repeat first|exact aB|refine au rfl (by first|rfl|exact int_eq (by omega)) ?_
 · exact ⟨by omega,by simp,hb⟩
 rintro i wr Kf _ ab2;replace Kf:i≤t.length∧(112:UInt8) ∉ t.take i∧Below w.heap.size w wr:=Kf;obtain ⟨hi,hno,hb⟩:=Kf;show Wc _ _ _ _ _ [(4,.int .u64 (fH b:Nat)),(5,str t),(6,.int .i64 (i:Int))] _;have:=hb.size;refine ax fun _ jk=>ax fun _ mn=>b9 (X:=Bool) (fun q=> [(4,.int .u64 (fH b:Nat)),(5,str t),(6,.int .i64 (i:Int)),(44,.bool q)]) (fun q wr=>q=decide (i<t.length∧(t.getD i 0).toNat≠112)∧Below w.heap.size w wr) (fun _ CN=>?_) ?_
 ·
  refine aR<|ai rfl<|ai rfl<|ah (dF bq (by omega) rfl) rfl<|ah (cg rfl rfl) rfl<|ai rfl<|cw rfl rfl rfl (fun je=>?_) (fun je=>?_)
  ·
   have eN:=je;simp only [DZ] at je;refine ai rfl<|aE rfl rfl eN<|ai rfl<|aE rfl rfl eN<|ah (eK bq rfl rfl (by omega) (by omega)) rfl<|aE rfl rfl eN<|ah (ig rfl rfl) rfl<|ah (bi rfl eN rfl) rfl<|ay<|aY CN (decide (i<t.length∧(t.getD i 0).toNat≠112)) (by repeat first|exact aB|refine au rfl (by first|rfl|exact aP (by rw [Bool.eq_iff_iff];simp [Int.toNat_natCast];omega)) ?_) ?_
   exact ⟨rfl,hb⟩
  have eN:=je;simp only [DZ] at je;refine aA rfl rfl eN rfl rfl<|aA rfl rfl eN rfl rfl<|aA rfl rfl eN rfl rfl<|ah (bg rfl eN rfl) rfl<|ay<|aY CN (decide (i<t.length∧(t.getD i 0).toNat≠112)) (by repeat first|exact aB|refine au rfl (by first|rfl|exact aP (by rw [Bool.eq_iff_iff];simp [Int.toNat_natCast];omega)) ?_) ?_
  exact ⟨rfl,hb⟩
 rintro q wr Km;replace Km:q=decide (i<t.length∧(t.getD i 0).toNat≠112)∧Below w.heap.size w wr:=Km;obtain ⟨hq,hb⟩:=Km;show Wq _ _ _ _ [(4,.int .u64 (fH b:Nat)),(5,str t),(6,.int .i64 (i:Int)),(44,.bool q)] _;have:=hb.size;refine aw mn<|aH rfl (fun pD=>?_) (fun pD=>?_)
 ·
  have Ax:=pD;have hq4:=of_decide_eq_true (hq.symm.trans Ax);have hil:=hq4.1;have hnp:t.getD i 0≠112:=fun e=>hq4.2 (by rw [e];rfl);refine aU<|aw jk<|br<|aR<|ai rfl<|ah (bH rfl rfl (by omega) (by omega)) rfl<|am rfl<|ay<|bS<|fun a_ bn=>ab2 _ _ (i+1) (by omega) (by repeat first|exact aB|refine au rfl (by first|rfl|exact int_eq (by omega)) ?_) ?_ a_ bn
  exact ⟨by omega,uM.snoc hil hno hnp,hb⟩
 have Ax:=pD;have hq4:=of_decide_eq_false (hq.symm.trans Ax);have hPA:uM (Lib.trimPrefix s [45]) i:=by rw [←ht];exact ⟨hi,hno,fun h=>UInt8.toNat_inj.1 (Classical.byContradiction fun h2=>hq4 ⟨h,h2⟩)⟩
 refine cN<|bD<|bD<|cO<|aw mm<|ao fun oU=>ai rfl<|ai rfl<|ah (rz bq rfl rfl (by omega) (by omega)) rfl<|aS TC rfl rfl (SQ (t.take i) 9007199254740991 (by have:=List.length_take_le i t;omega) _) rfl ?_
 rintro _ hZ ⟨⟨z,rfl,hz⟩,ck⟩;have:=ck.size;have hb:=az hb ck;refine am rfl<|an oU<|ax fun _ Cx=>ax fun _ sN=>?_
 have hzb:=hz.bd;have hz':=hz;rw [ht] at hz';have hz2:=@af2 z;refine b9 (X:=Bool) (fun q=> [(4,.int .u64 (fH b:Nat)),(5,str t),(6,.int .i64 (i:Int)),(7,.int .i64 z),(64,.bool q)]) (fun q wr=>q=decide (z<1∨z % 2=0∨(t.length:Int) - 1≤i)∧Below w.heap.size w wr) (fun _ yX=>?_) ?_
 ·
  refine aR<|ai rfl<|ah (cg rfl rfl) rfl<|ai rfl<|dP rfl rfl rfl (fun B0=>?_) (fun B0=>?_)
  ·
   have wI:=B0;simp only [DZ] at B0;refine aA rfl rfl wI rfl rfl<|aA rfl rfl wI rfl rfl<|ah (bi rfl wI rfl) rfl<|ai rfl<|aA rfl rfl rfl rfl rfl<|aA rfl rfl rfl rfl rfl<|aA rfl rfl rfl rfl rfl<|aA rfl rfl rfl rfl rfl<|aA rfl rfl rfl rfl rfl<|ah (bi rfl rfl rfl) rfl<|ay<|aY yX (decide (z<1∨z % 2=0∨(t.length:Int) - 1≤i)) (by repeat first|exact aB|refine au rfl (by first|rfl|exact aP (by rw [Bool.eq_iff_iff];simp<;>omega)) ?_) ?_
   exact ⟨rfl,hb⟩
  have wI:=B0;simp only [DZ] at B0;refine ai rfl<|aE rfl rfl wI<|ah (tt rfl rfl (by decide)) rfl<|aE rfl rfl wI<|ah (bA rfl rfl) rfl<|ah (bg rfl wI rfl) rfl<|ai rfl<|dP rfl rfl rfl (fun sb=>?_) (fun sb=>?_)
  ·
   have jR:=sb;simp only [DZ] at sb;refine aA rfl rfl jR rfl rfl<|aA rfl rfl jR rfl rfl<|aA rfl rfl jR rfl rfl<|aA rfl rfl jR rfl rfl<|ah (bi rfl jR rfl) rfl<|ay<|aY yX (decide (z<1∨z % 2=0∨(t.length:Int) - 1≤i)) (by repeat first|exact aB|refine au rfl (by first|rfl|exact aP (by rw [Bool.eq_iff_iff];simp<;>omega)) ?_) ?_
   exact ⟨rfl,hb⟩
  have jR:=sb;simp only [DZ] at sb;refine ai rfl<|aE rfl rfl jR<|ai rfl<|aE rfl rfl jR<|ah (dF bq (by omega) rfl) rfl<|aE rfl rfl jR<|ah (gk rfl rfl (by omega) (by omega)) rfl<|aE rfl rfl jR<|ah (jb rfl rfl) rfl<|ah (bg rfl jR rfl) rfl<|ay<|aY yX (decide (z<1∨z % 2=0∨(t.length:Int) - 1≤i)) (by repeat first|exact aB|refine au rfl (by first|rfl|exact aP (by rw [Bool.eq_iff_iff];simp<;>omega)) ?_) ?_
  exact ⟨rfl,hb⟩
 rintro q wr Jn;replace Jn:q=decide (z<1∨z % 2=0∨(t.length:Int) - 1≤i)∧Below w.heap.size w wr:=Jn;obtain ⟨hq,hb⟩:=Jn;show Wq _ _ _ _ [(4,.int .u64 (fH b:Nat)),(5,str t),(6,.int .i64 (i:Int)),(7,.int .i64 z),(64,.bool q)] _;have:=hb.size;refine aw sN<|aH rfl (fun Il=>?_) (fun Il=>?_)
 ·
  have Im:=Il;have hq5:=of_decide_eq_true (hq.symm.trans Im);have hbad:=afj hn0 hn1 hn2 hPA hz' (by rw [←ht];exact hq5);refine ao fun m6=>am rfl<|am rfl<|an m6<|aK<|aQ<|dv rfl rfl rfl ?_
  exact ⟨_,rfl,(zp hbad).symm,hb⟩
 have Im:=Il;have hq5:=of_decide_eq_false (hq.symm.trans Im);obtain ⟨m,hm⟩:∃m:Nat,z=(m:Int):=⟨z.toNat,by omega⟩;subst hm;have hil:i+1<t.length:=by omega
 obtain ⟨dn,hdn⟩:∃d,d=Lib.hasPrefix (t.drop (i+1)) [45]:=⟨_,rfl⟩;obtain ⟨r,hr⟩:∃r,r=Lib.trimPrefix (t.drop (i+1)) [45]:=⟨_,rfl⟩;have hrl:r.length≤t.length:=by rw [hr];have:=zx (t.drop (i+1)) [45];rw [List.length_drop] at this;omega
 have hdl:(t.drop (i+1)).length=t.length - (i+1):=List.length_drop;have hd0:(t.drop (i+1)).getD 0 0=t.getD (i+1) 0:=by simp [List.getD,List.getElem?_drop]
 refine aU<|aw Cx<|ao fun xl=>ai rfl<|ai rfl<|ah (bH rfl rfl (by omega) (by omega)) rfl<|ah (eK bq rfl rfl (by omega) (by omega)) rfl<|ah (bt (bA rfl rfl) (aP (show _=dn by rw [hdn,xU,hdl,hd0,show ((i:Int)+1).toNat=i+1 by omega,Bool.eq_iff_iff];simp;omega))) rfl<|am rfl<|an xl<|ao fun sH=>ai rfl<|ai rfl<|ah (bH rfl rfl (by omega) (by omega)) rfl<|ah (bt (oC bq rfl rfl (by omega) (by omega)) (dw (show _=t.drop (i+1) by rw [show ((i:Int)+1).toNat=i+1 by omega]))) rfl<|am rfl<|an sH<|ax fun _ q8=>ao fun Ci=>ai rfl<|an Ci<|b9 (X:=Unit) (fun u_=> [(4,.int .u64 (fH b:Nat)),(7,.int .i64 (m:Int)),(8,.bool dn),(9,str r)]) (fun u_ wr=>Below w.heap.size w wr) (fun _ P3=>?_) ?_
 ·
  refine aH rfl (fun Iw=>?_) (fun Iw=>?_)
  ·
   have Ex:=Iw;have htr:=hr.trans (MO (hdn.symm.trans Ex));have hpos:=(xU _).symm.trans (hdn.symm.trans Ex);rw [decide_eq_true_eq] at hpos;refine aR<|ai rfl<|ah (oC bq rfl rfl (by omega) (by omega)) rfl<|am rfl<|ay<|aY P3 (()) (by repeat first|exact aB|refine au rfl (by first|rfl|exact dw htr.symm) ?_) ?_
   exact hb
  have Ex:=Iw;have htr:=hr.trans (MN (hdn.symm.trans Ex));refine aU<|aY P3 (()) (by repeat first|exact aB|refine au rfl (by first|rfl|exact dw htr.symm) ?_) ?_
  exact hb
 rintro u_ wr wN;replace wN:Below w.heap.size w wr:=wN;have hb:=wN;show Wq _ _ _ _ [(4,.int .u64 (fH b:Nat)),(7,.int .i64 (m:Int)),(8,.bool dn),(9,str r)] _;have:=hb.size;refine aw q8<|ao fun xn=>ai rfl<|aS TC rfl rfl (SQ r 2000 (by omega) _) rfl ?_
 rintro _ nq ⟨⟨ze,rfl,hze⟩,dE⟩;have:=dE.size;have hb:=az hb dE;refine am rfl<|an xn<|ax fun _ aau=>ax fun _ Ky=>?_
 have hzeb:=hze.bd;have hze':=hze;rw [hr,ht] at hze';refine b9 (X:=Bool) (fun q=> [(4,.int .u64 (fH b:Nat)),(7,.int .i64 (m:Int)),(8,.bool dn),(10,.int .i64 ze),(87,.bool q)]) (fun q wr=>q=decide (ze<0∨(dn=true∧ze=0))∧Below w.heap.size w wr) (fun _ K4=>?_) ?_
 ·
  refine aR<|ai rfl<|ah (cg rfl rfl) rfl<|ai rfl<|dP rfl rfl rfl (fun Bg=>?_) (fun Bg=>?_)
  ·
   have sj:=Bg;simp only [DZ] at Bg;refine aA rfl rfl sj rfl rfl<|cC rfl rfl rfl<|cC rfl rfl rfl<|aA rfl rfl sj rfl rfl<|ah (bi rfl sj rfl) rfl<|ay<|aY K4 (decide (ze<0∨(dn=true∧ze=0))) (by repeat first|exact aB|refine au rfl (by first|rfl|exact aP (by rw [Bool.eq_iff_iff];simp_all<;>omega)) ?_) ?_
   exact ⟨rfl,hb⟩
  have sj:=Bg;simp only [DZ] at Bg;refine ai rfl<|aE rfl rfl sj<|ai rfl<|cw rfl rfl rfl (fun I6=>?_) (fun I6=>?_)
  ·
   have Bh:=I6;refine ai rfl<|aE rfl rfl Bh<|ah (bA rfl rfl) rfl<|aE rfl rfl sj<|ah (bi rfl Bh rfl) rfl<|ah (bg rfl sj rfl) rfl<|ay<|aY K4 (decide (ze<0∨(dn=true∧ze=0))) (by repeat first|exact aB|refine au rfl (by first|rfl|exact aP (by rw [Bool.eq_iff_iff];simp_all<;>omega)) ?_) ?_
   exact ⟨rfl,hb⟩
  have Bh:=I6;refine aA rfl rfl Bh rfl rfl<|aE rfl rfl sj<|ah (bg rfl Bh rfl) rfl<|ah (bg rfl sj rfl) rfl<|ay<|aY K4 (decide (ze<0∨(dn=true∧ze=0))) (by repeat first|exact aB|refine au rfl (by first|rfl|exact aP (by rw [Bool.eq_iff_iff];simp_all<;>omega)) ?_) ?_
  exact ⟨rfl,hb⟩
 rintro q wr JB;replace JB:q=decide (ze<0∨(dn=true∧ze=0))∧Below w.heap.size w wr:=JB;obtain ⟨hq,hb⟩:=JB;show Wq _ _ _ _ [(4,.int .u64 (fH b:Nat)),(7,.int .i64 (m:Int)),(8,.bool dn),(10,.int .i64 ze),(87,.bool q)] _;have:=hb.size;refine aw Ky<|aH rfl (fun IB=>?_) (fun IB=>?_)
 ·
  have IC:=IB;have hq7:=of_decide_eq_true (hq.symm.trans IC);have hbad:=afk hn0 hn1 hn2 hPA hze' (by rw [←ht,←hdn];exact hq7);refine ao fun xp=>am rfl<|am rfl<|an xp<|aK<|aQ<|dv rfl rfl rfl ?_
  exact ⟨_,rfl,(zp hbad).symm,hb⟩
 have IC:=IB;have hq7:=of_decide_eq_false (hq.symm.trans IC);obtain ⟨e,he⟩:∃e:Nat,ze=(e:Int):=⟨ze.toNat,by omega⟩;subst he;have hgood:=afn (s:=s) hPA hz' (by omega) (by rw [←ht];exact hil) hze' (by rw [←ht,←hdn];exact fun h=>hq7 (.inr h));rw [←ht,←hdn] at hgood;obtain ⟨hnum,hml,hel⟩:=hgood;obtain ⟨E,hE⟩:∃E,E=OZ dn e:=⟨_,rfl⟩;have hEb: -2000≤E∧E≤2000:=by rw [hE];unfold OZ;split<;>omega
 have hnum':Lib.trimPrefix s [45]=dI m E:=by rw [←ht,hE];exact hnum
 have hm2:m % 2=1:=by omega
 refine aU<|aw aau<|ax fun _ aay=>ao fun Cp=>ai rfl<|an Cp<|b9 (X:=Unit) (fun u_=> [(4,.int .u64 (fH b:Nat)),(7,.int .i64 (m:Int)),(10,.int .i64 E)]) (fun u_ wr=>Below w.heap.size w wr) (fun _ P9=>?_) ?_
 ·
  refine aH rfl (fun IF=>?_) (fun IF=>?_)
  ·
   have IG:=IF;have hE2:E= -(e:Int):=by rw [hE,IG];rfl
   refine aR<|ai rfl<|ah (Ni rfl) rfl<|am rfl<|ay<|aY P9 (()) (by repeat first|exact aB|refine au rfl (by first|rfl|exact int_eq hE2.symm|exact int_eq (by rw [wrap_i64 _ (by omega) (by omega)];omega)) ?_) ?_
   exact hb
  have IG:=IF;have hE2:E=(e:Int):=by rw [hE,IG];rfl
  refine aU<|aY P9 (()) (by repeat first|exact aB|refine au rfl (by first|rfl|exact int_eq hE2.symm|exact int_eq (by rw [wrap_i64 _ (by omega) (by omega)];omega)) ?_) ?_
  exact hb
 rintro u_ wr JE;replace JE:Below w.heap.size w wr:=JE;have hb:=JE;show Wq _ _ _ _ [(4,.int .u64 (fH b:Nat)),(7,.int .i64 (m:Int)),(10,.int .i64 E)] _;have:=hb.size;refine aw aay<|ax fun _ KI=>br<|cU (X:=Nat) (fun j=> [(4,.int .u64 (fH b:Nat)),(7,.int .i64 ((m * 2 ^ j:Nat):Int)),(10,.int .i64 (E - (j:Int)))]) (fun j wr=>(j=0∨(m * 2 ^ (j - 1)<4503599627370496∧-1074<E - ((j - 1:Nat):Int)))∧Below w.heap.size w wr) (fun j=>(E+1074 - j).toNat) (0) ?_ ?_ ?_
 · exact by repeat first|exact aB|refine au rfl (by first|rfl|exact int_eq (by simp)) ?_
 · exact ⟨.inl rfl,hb⟩
 rintro j wr JF _ abN;replace JF:(j=0∨(m * 2 ^ (j - 1)<4503599627370496∧-1074<E - ((j - 1:Nat):Int)))∧Below w.heap.size w wr:=JF;obtain ⟨hj,hb⟩:=JF;show Wc _ _ _ _ _ [(4,.int .u64 (fH b:Nat)),(7,.int .i64 ((m * 2 ^ j:Nat):Int)),(10,.int .i64 (E - (j:Int)))] _;have:=hb.size;have hps:m * 2 ^ (j+1)=2 * (m * 2 ^ j):=Md m (j+1) (by omega);have hlow: -2000≤E - (j:Int):=by omega
 have hqm:m * 2 ^ j<9007199254740992:=by
  rcases Nat.eq_zero_or_pos j with h0|h0
  · rw [h0];omega
  · have h1:=Md m j h0
    rcases hj with h2|h2
    · omega
    · omega
 refine ax fun _ aaB=>ax fun _ aaC=>b9 (X:=Bool) (fun q=> [(4,.int .u64 (fH b:Nat)),(7,.int .i64 ((m * 2 ^ j:Nat):Int)),(10,.int .i64 (E - (j:Int))),(96,.bool q)]) (fun q wr=>q=decide (m * 2 ^ j<4503599627370496∧-1074<E - (j:Int))∧Below w.heap.size w wr) (fun _ Qb=>?_) ?_
 ·
  refine aR<|ai rfl<|ah (cg rfl rfl) rfl<|ai rfl<|cw rfl rfl rfl (fun pP=>?_) (fun pP=>?_)
  ·
   have kM:=pP;simp only [DZ] at pP;refine ai rfl<|aE rfl rfl kM<|ah (eW rfl rfl) rfl<|ah (bi rfl kM rfl) rfl<|ay<|aY Qb (decide (m * 2 ^ j<4503599627370496∧-1074<E - (j:Int))) (by repeat first|exact aB|refine au rfl (by first|rfl|exact aP (by rw [Bool.eq_iff_iff];simp only [decide_eq_true_eq,Bool.false_eq_true,false_iff];omega)) ?_) ?_
   exact ⟨rfl,hb⟩
  have kM:=pP;simp only [DZ] at pP;refine aA rfl rfl kM rfl rfl<|ah (bg rfl kM rfl) rfl<|ay<|aY Qb (decide (m * 2 ^ j<4503599627370496∧-1074<E - (j:Int))) (by repeat first|exact aB|refine au rfl (by first|rfl|exact aP (by rw [Bool.eq_iff_iff];simp only [decide_eq_true_eq,Bool.false_eq_true,false_iff];omega)) ?_) ?_
  exact ⟨rfl,hb⟩
 rintro q wr JJ;replace JJ:q=decide (m * 2 ^ j<4503599627370496∧-1074<E - (j:Int))∧Below w.heap.size w wr:=JJ;obtain ⟨hq,hb⟩:=JJ;show Wq _ _ _ _ [(4,.int .u64 (fH b:Nat)),(7,.int .i64 ((m * 2 ^ j:Nat):Int)),(10,.int .i64 (E - (j:Int))),(96,.bool q)] _;have:=hb.size;refine aw aaC<|aH rfl (fun IH=>?_) (fun IH=>?_)
 ·
  have II:=IH;have hq9:=of_decide_eq_true (hq.symm.trans II);refine aU<|aw aaB<|br<|ao fun Cr=>ai rfl<|ah (D2 rfl rfl (by omega) (by omega)) rfl<|am rfl<|an Cr<|aR<|ai rfl<|ah (gk rfl rfl (by omega) (by omega)) rfl<|am rfl<|ay<|bS<|fun a_ bn=>abN _ _ (j+1) (by omega) (by repeat first|exact aB|refine au rfl (by first|rfl|exact int_eq (by rw [hps];omega)|exact int_eq (by omega)) ?_) ?_ a_ bn
  exact ⟨.inr hq9,hb⟩
 have II:=IH;have hLE:zN m E j:=⟨hj,of_decide_eq_false (hq.symm.trans II)⟩;refine cN<|bD<|bD<|cO<|aw KI<|ax fun _ aaM=>ax fun _ aaN=>b9 (X:=Bool) (fun q=> [(4,.int .u64 (fH b:Nat)),(7,.int .i64 ((m * 2 ^ j:Nat):Int)),(10,.int .i64 (E - (j:Int))),(106,.bool q)]) (fun q wr=>q=decide (E - (j:Int)< -1074∨971<E - (j:Int))∧Below w.heap.size w wr) (fun _ Qc=>?_) ?_
 ·
  refine aR<|ai rfl<|ah (cg rfl rfl) rfl<|ai rfl<|dP rfl rfl rfl (fun Bs=>?_) (fun Bs=>?_)
  ·
   have Bt:=Bs;simp only [DZ] at Bs;refine aA rfl rfl Bt rfl rfl<|ah (bi rfl Bt rfl) rfl<|ay<|aY Qc (decide (E - (j:Int)< -1074∨971<E - (j:Int))) (by repeat first|exact aB|refine au rfl (by first|rfl|exact aP (by rw [Bool.eq_iff_iff];simp only [decide_eq_true_eq,eq_self,true_iff];omega)) ?_) ?_
   exact ⟨rfl,hb⟩
  have Bt:=Bs;simp only [DZ] at Bs;refine ai rfl<|aE rfl rfl Bt<|ah (eW rfl rfl) rfl<|ah (bg rfl Bt rfl) rfl<|ay<|aY Qc (decide (E - (j:Int)< -1074∨971<E - (j:Int))) (by repeat first|exact aB|refine au rfl (by first|rfl|exact aP (by rw [Bool.eq_iff_iff];simp only [decide_eq_true_eq,eq_self,true_iff];omega)) ?_) ?_
  exact ⟨rfl,hb⟩
 rintro q wr JN;replace JN:q=decide (E - (j:Int)< -1074∨971<E - (j:Int))∧Below w.heap.size w wr:=JN;obtain ⟨hq,hb⟩:=JN;show Wq _ _ _ _ [(4,.int .u64 (fH b:Nat)),(7,.int .i64 ((m * 2 ^ j:Nat):Int)),(10,.int .i64 (E - (j:Int))),(106,.bool q)] _;have:=hb.size;refine aw aaN<|aH rfl (fun Hr=>?_) (fun Hr=>?_)
 ·
  have Hs:=Hr;have hbad:=afl hn0 hn1 hn2 hnum' hEb hLE (of_decide_eq_true (hq.symm.trans Hs));refine ao fun KO=>am rfl<|am rfl<|an KO<|aK<|aQ<|dv rfl rfl rfl ?_
  exact ⟨_,rfl,(zp hbad).symm,hb⟩
 have Hs:=Hr;have hq10:=of_decide_eq_false (hq.symm.trans Hs);obtain ⟨hR,hok⟩:=afq hnum' hm2 hml hLE (by omega) (by omega);rw [←hbn] at hok;have hok2:pf s=some (fH b+pb (m * 2 ^ j) (E - j)):=hok;obtain ⟨fld,hfld⟩:∃f:Nat,f=if m * 2 ^ j<4503599627370496 then 0 else (E - (j:Int)+1075).toNat:=⟨_,rfl⟩;obtain ⟨hbits,hfl⟩:=afm (b:=b) hqm (by omega) (by omega) hfld;refine aU<|aw aaM<|ao fun KP=>ai rfl<|ah (bH rfl rfl (by omega) (by omega)) rfl<|ah (bt (ja jp nn rfl) (int_eq (show _=(((E - (j:Int)+1075).toNat:Nat):Int) by rw [wrap_u64 _ (by omega) (by omega)];omega))) rfl<|am rfl<|an KP<|ax fun _ aaU=>ao fun KR=>ai rfl<|ah (cg rfl rfl) rfl<|an KR<|b9 (X:=Unit) (fun u_=> [(4,.int .u64 (fH b:Nat)),(7,.int .i64 ((m * 2 ^ j:Nat):Int)),(11,.int .u64 (fld:Nat))]) (fun u_ wr=>Below w.heap.size w wr) (fun _ Qe=>?_) ?_
 ·
  refine aH rfl (fun u1=>?_) (fun u1=>?_)
  ·
   have Xx:=u1;simp only [DZ] at u1;have hf2:fld=0:=by rw [hfld,if_pos (by have:=u1;omega)]
   refine aR<|am rfl<|ay<|aY Qe (()) (by repeat first|exact aB|refine au rfl (by first|rfl|exact int_eq (by first|(rw [hf2];done)|(rw [hf2];rfl))) ?_) ?_
   exact hb
  have Xx:=u1;simp only [DZ] at u1;have hf2:fld=(E - (j:Int)+1075).toNat:=by rw [hfld,if_neg (by have:=u1;omega)]
  refine aU<|aY Qe (()) (by repeat first|exact aB|refine au rfl (by first|rfl|exact int_eq (by first|(rw [hf2];done)|(rw [hf2];rfl))) ?_) ?_
  exact hb
 rintro u_ wr JS;replace JS:Below w.heap.size w wr:=JS;have hb:=JS;show Wq _ _ _ _ [(4,.int .u64 (fH b:Nat)),(7,.int .i64 ((m * 2 ^ j:Nat):Int)),(11,.int .u64 (fld:Nat))] _;have:=hb.size;refine aw aaU<|ao fun aaV=>ai rfl<|ai rfl<|ah (bt (Nl rfl rfl (by decide) (by decide)) (int_eq (S5 fld hfl))) rfl<|ah (bt (zG rfl rfl) (int_eq (show _=((fH b+fld * 4503599627370496:Nat):Int) by rw [wrap_u64 _ (by omega) (by omega)];omega))) rfl<|ai rfl<|ah (bt (ja jp nn rfl) (int_eq (show _=((m * 2 ^ j:Nat):Int) from wrap_u64 _ (by omega) (by omega)))) rfl<|ah (bt (zH rfl rfl) (int_eq (Ob _ (by omega)))) rfl<|ah (bt (zG rfl rfl) (int_eq (show _=((fH b+pb (m * 2 ^ j) (E - j):Nat):Int) by rw [←hbits,wrap_u64 _ (by omega) (by omega)];omega))) rfl<|ah (qN pG rfl rfl) rfl<|am rfl<|am rfl<|an aaV<|aK<|dv rfl rfl rfl ?_
 exact ⟨_,rfl,by rw [zq hok2,Int.toNat_natCast],hb⟩
structure gE (v:bW) (t:al):Prop where
 ok:v.Ok
 right:en v=true
 k4:v.k≠4
 text:ku v=t
theorem gE.inj {u v:bW} {t:al} (a:gE u t) (b:gE v t):u=v:=by
 have h1:=Mu a.ok a.right;have h2:=Mu b.ok b.right;rw [a.text] at h1;rw [b.text,h1] at h2;injection h2 with h2
 injection h2
theorem Tn {k n:Int} {f:Nat} {s:al} (hr:en ⟨k,n,f,s⟩=true):ku ⟨k,n,f,s⟩=if k=1 then (if (n==1)=true then [116,114,117,101] else [102,97,108,115,101]) else if k=2 then Lib.itoa n else if k=3 then dr f else if k=4 then gi s else [110,117,108,108]:=by
 unfold ku gj;rw [if_neg (by rw [hr];simp)];simp only
 split
 · rfl
 split
 · rfl
 split
 · rfl
 split<;>rfl
inductive Vs (v:bW) (t:al):Prop
 |null (hv:v=dh) (ht:t=lE)
 |true (hv:v=hY Bool.true) (ht:t=jr)
 |false (hv:v=hY Bool.false) (ht:t=jq)
 |int (n:Int) (h0: -9223372036854775808≤n) (h1:n≤9223372036854775807) (hv:v=⟨2,n,0,[]⟩) (ht:t=Lib.itoa n)
 |float (f:Nat) (hf:Cn f) (hv:v=⟨3,0,f,[]⟩) (ht:t=dr f)
theorem gE.is {v:bW} {t:al} (a:gE v t):Vs v t:=by
 obtain ⟨o,hr,h4,ht⟩:=a;obtain ⟨k,n,f,s⟩:=v;rw [Tn hr] at ht;have h:=hr;unfold en at h;simp only at h h4;by_cases k0:k=0
 · subst k0
   rw [if_pos rfl] at h;obtain ⟨rfl,rfl,rfl⟩:=of_decide_eq_true h;exact .null rfl ht.symm
 rw [if_neg k0] at h;by_cases k1:k=1
 · subst k1
   rw [if_pos rfl] at h ht;obtain ⟨hn,rfl,rfl⟩:=of_decide_eq_true h
   rcases hn with rfl|rfl
   · exact .false rfl ht.symm
   · exact .true rfl ht.symm
 rw [if_neg k1] at h ht;by_cases k2:k=2
 · subst k2
   rw [if_pos rfl] at h ht;obtain ⟨rfl,rfl⟩:=of_decide_eq_true h;exact .int n o.n0 o.n1 rfl ht.symm
 rw [if_neg k2] at h ht;by_cases k3:k=3
 · subst k3
   rw [if_pos rfl] at h ht;obtain ⟨rfl,rfl,hc⟩:=of_decide_eq_true h;exact .float f ⟨o.f1,hc⟩ rfl ht.symm
 rw [if_neg k3,if_neg h4] at h
 cases h
theorem aeg:gE dh lE:=⟨⟨by decide,by decide,by decide⟩,rfl,by decide,rfl⟩
theorem aeh:gE (hY true) jr:=⟨⟨by decide,by decide,by decide⟩,rfl,by decide,rfl⟩
theorem aee:gE (hY false) jq:=⟨⟨by decide,by decide,by decide⟩,rfl,by decide,rfl⟩
theorem R0 {n:Int} (h0: -9223372036854775808≤n) (h1:n≤9223372036854775807):gE ⟨2,n,0,[]⟩ (Lib.itoa n):=⟨⟨h0,h1,by show (0:Nat)<_;decide⟩,rfl,by show (2:Int)≠4;decide,rfl⟩
theorem aef {f:Nat} (hf:Cn f):gE ⟨3,0,f,[]⟩ (dr f):=by
 have hr:en ⟨3,0,f,[]⟩=true:=(uC rfl).trans (decide_eq_true ⟨rfl,rfl,hf.one⟩);exact ⟨⟨by show (-9223372036854775808:Int)≤0;decide,by show (0:Int)≤_;decide,hf.lt⟩,hr,by show (3:Int)≠4;decide,by rw [Tn hr];rfl⟩
theorem RE {D:al} (h:fT D) (y:al):D.length≤iE (D++y):=by
 induction D with
 |nil=>simp
 |cons c r ih=>
  rw [List.cons_append,xR,if_pos (OM (h c (List.mem_cons_self ..)))];have:=ih fun x hx=>h x (List.mem_cons_of_mem _ hx);simp only [List.length_cons];omega
theorem Ri (n:Bool) {D:al} (h:fT D) (hne:D≠ []) (y:al):lead (ep n++(D++y))=(ep n).length+iE (D++y):=by
 cases n
 · show lead (D++y)=0+_
   obtain ⟨c,r,rfl,h2,h3⟩:=yH h hne;have hp:Lib.hasPrefix (c :: r++y) [45]=false:=s8 rfl rfl (fun e=>by subst e;exact absurd h2 (by decide));rw [xO hp,Nat.zero_add]
 · show lead (45 :: (D++y))=1+_
   rw [xN];omega
theorem UA (n:Bool) {D:al} (h:fT D) (hne:D≠ []) (y:al) (uq:al→al×Nat):
 bZ pf uq (ep n++(D++y))=match fD pf (ep n++(D++y)) with
  |some r=>some r
  |none=>fV (ep n++(D++y)) (min (lead (ep n++(D++y))) 20):=by
 obtain ⟨d,r,hD,h2,h3⟩:=yH h hne
 have hne:∃c r',ep n++(D++y)=c :: r'∧(c=45∧(∃r'',r'=d :: r'')∨(48≤c.toNat∧c.toNat≤57)):=by
  rw [hD]
  cases n
  · exact ⟨d,r++y,rfl,.inr ⟨h2,h3⟩⟩
  · exact ⟨45,_,rfl,.inl ⟨rfl,r++y,rfl⟩⟩
 obtain ⟨s,hs⟩:∃s,s=ep n++(D++y):=⟨_,rfl⟩
 rw [←hs] at hne ⊢
 obtain ⟨c,r',hcr,hc⟩:=hne
 have hno:∀(w x:al) (d:UInt8),w=d :: x→d≠45→(d.toNat<48∨57<d.toNat)→Lib.hasPrefix s w=false:=fun w x d hw h45 hd=>by
  refine s8 hcr hw (fun e=>?_);subst e
  rcases hc with ⟨h2,_⟩|h2
  · exact h45 h2
  · omega
 have hw3:fS.find? (fun x=>Lib.hasPrefix s x)=none:=by
  rw [List.find?_eq_none];intro x hx;simp only [fS,List.mem_cons,List.not_mem_nil,or_false] at hx
  rcases hx with rfl|rfl|rfl
  · rw [hno _ _ 110 rfl (by decide) (by decide)];simp
  · rw [hno _ _ 105 rfl (by decide) (by decide)];simp
  · have:Lib.hasPrefix s [45,105,110,102]=false:=by
     rcases hc with ⟨rfl,⟨r'',hd⟩⟩|h2
     · cases hq:Lib.hasPrefix s [45,105,110,102] with
       |false=>rfl
       |true=>
        rw [ni] at hq;obtain ⟨t,ht⟩:=hq;rw [hcr,hd] at ht;injection ht with _ ht2
        injection ht2 with ht3 _
        subst ht3;exact absurd h3 (by decide)
     · exact s8 hcr rfl (fun e=>by subst e;exact absurd h2.1 (by decide))
    rw [this];simp
 unfold bZ
 rw [hno [39] [] 39 rfl (by decide) (by decide),hno lE _ 110 rfl (by decide) (by decide),hno jq _ 102 rfl (by decide) (by decide),hno jr _ 116 rfl (by decide) (by decide),hw3];rfl
theorem IK {α:Type} {f:Nat→Option α} {j:Nat} (hj:(f j).isSome=true):∀{M:Nat},j<M→∃i b,j≤i∧i<M∧kG f M=some b∧f i=some b
 |0,h=>by omega
 |M+1,h=>by
  rw [kG]
  cases hf:f M with
  |some b=>exact ⟨M,b,by omega,by omega,rfl,hf⟩
  |none=>
   by_cases e:j=M
   · subst e;rw [hf] at hj;cases hj
   · obtain ⟨i,b,h1,h2,h3,h4⟩:=IK hj (M:=M) (by omega)
     exact ⟨i,b,h1,by omega,h3,h4⟩
theorem Z0 {s:al} {u:bW} {m:Nat} (h:fD pf s=some (u,m)):lead s<m:=by
 unfold fD at h
 split at h
 · rename_i hp
   have hk:=yP s hp;rw [r5] at h;obtain ⟨j,h1,h2,_⟩:=EA h;unfold li at h2
   cases hp:pf (s.take (cV s+j+1)) with
   |none=>rw [hp] at h2;cases h2
   |some f=>
    rw [hp] at h2;injection h2 with h2
    injection h2 with h2 h3
    omega
 · cases h
theorem zd (n:Int):Lib.itoa n=ep (decide (n<0))++Lib.decDigits n.natAbs:=by
 unfold Lib.itoa ep;by_cases h:n<0
 · rw [if_pos h,if_pos (decide_eq_true h)];rfl
 · rw [if_neg h,if_neg (by simp [h]),show n.toNat=n.natAbs by omega];rfl
theorem ae5 {n:Int} (h0: -9223372036854775808≤n) (h1:n≤9223372036854775807) (x:al):∃u m,bZ pf bL (Lib.itoa n++x)=some (u,m)∧(Lib.itoa n).length≤m:=by
 obtain ⟨ha,_,hb⟩:=gT n.natAbs;have hp:gM (Lib.itoa n)=some n:=by unfold gM;rw [Lib.parseIntB_64,yq h0 h1]
 have hlen:(Lib.itoa n).length≤20:=by
  rw [zd,List.length_append];have:=tS n.natAbs (by omega);have h2:(ep (decide (n<0))).length≤1:=by unfold ep;split<;>simp
  omega
 have hpos:0<(Lib.itoa n).length:=by rw [zd,List.length_append];have:=List.length_pos_iff.2 hb;omega
 have hs:Lib.itoa n++x=ep (decide (n<0))++(Lib.decDigits n.natAbs++x):=by rw [zd,List.append_assoc]
 have hl:(Lib.itoa n).length≤lead (Lib.itoa n++x):=by
  rw [hs,Ri _ ha hb];have:=RE ha x;rw [zd,List.length_append];omega
 have hw:=UA (decide (n<0)) ha hb x bL;rw [←hs] at hw;rw [hw]
 cases hf:fD pf (Lib.itoa n++x) with
 |some r=>
  obtain ⟨u,m⟩:=r;have:=Z0 hf;exact ⟨u,m,rfl,by omega⟩
 |none=>
  simp only;rw [EB]
  have hit:rh (Lib.itoa n++x) ((Lib.itoa n).length - 1)=some (⟨2,n,0,[]⟩,(Lib.itoa n).length):=by
   unfold rh;rw [show (Lib.itoa n).length - 1+1=(Lib.itoa n).length by omega,List.take_left,hp];simp
  obtain ⟨i,b,h2,h3,h4,h5⟩:=IK (f:=rh (Lib.itoa n++x)) (j:=(Lib.itoa n).length - 1) (by rw [hit];rfl) (M:=min (lead (Lib.itoa n++x)) 20) (by omega);obtain ⟨u,m⟩:=b;refine ⟨u,m,h4,?_⟩;unfold rh at h5
  cases hq:gM ((Lib.itoa n++x).take (i+1)) with
  |none=>rw [hq] at h5;cases h5
  |some v=>
   rw [hq] at h5;simp only [Option.bind_some] at h5
   split at h5
   · injection h5 with h5
     injection h5 with h5 h6
     omega
   · cases h5
theorem SE {t:al} {f:Nat} {n:Bool} {M:Nat} {e:Int} (hp:pf t=some f) (ht:t=ep n++dI M e) (h0: -9999≤e) (h1:e≤9999) (x:al):∃u m,bZ pf bL (t++x)=some (u,m)∧t.length≤m:=by
 obtain ⟨dm,_,dn⟩:=gT M;obtain ⟨D,ha,hb,hl,hi⟩:=Fz e h0 h1;have hs:t++x=ep n++(Lib.decDigits M++(112 :: (Lib.itoa e++x))):=by rw [ht];unfold dI;simp
 have hd:iE (Lib.decDigits M++(112 :: (Lib.itoa e++x)))=(Lib.decDigits M).length:=by rw [zg 112 _ (by decide),Dm dm]
 have hlead:lead (t++x)=(ep n).length+(Lib.decDigits M).length:=by rw [hs,Ri _ dm dn,hd]
 have hsd:(t++x).drop (lead (t++x))=112 :: (Lib.itoa e++x):=by
  rw [hlead,hs,←List.append_assoc,List.drop_left' (by rw [List.length_append])]
 have htl:t.length=lead (t++x)+1+(Lib.itoa e).length:=by rw [hlead,ht];unfold dI;simp;omega
 have hat:∀k,(t++x)[lead (t++x)+k]? =(112 :: (Lib.itoa e++x))[k]? :=fun k=>by rw [←hsd,List.getElem?_drop]
 have hP:(t++x)[lead (t++x)]? =some 112:=by have:=hat 0;simpa using this
 have hK:cV (t++x)+D.length=t.length∧(t++x).drop (cV (t++x))=D++x:=by
  have h2:=hat 1;simp only [List.getElem?_cons_succ] at h2;unfold cV
  rcases hi with hi|hi
  · rw [if_neg (by rw [h2,hi];exact OK ha (r:=x) hb (k:=45) (.inl (by decide)))]
    refine ⟨by rw [htl,hi],?_⟩;rw [←List.drop_drop,hsd,hi];rfl
  · rw [if_pos (by rw [h2,hi];rfl)]
    refine ⟨by rw [htl,hi,List.length_cons];omega,?_⟩;rw [←List.drop_drop,hsd,hi];rfl
 have hM:D.length≤gU (t++x):=by
  unfold gU;rw [hK.2];have:=RE ha x;omega
 have hpos:0<D.length:=List.length_pos_iff.2 hb;have hw:=UA n dm dn (112 :: (Lib.itoa e++x)) bL;rw [←hs] at hw
 have hit:li pf (t++x) (cV (t++x)) (D.length - 1)=some (⟨3,0,f,[]⟩,t.length):=by
  unfold li;rw [show cV (t++x)+(D.length - 1)+1=t.length by omega,List.take_left,hp];rfl
 obtain ⟨i,b,h2,h3,h4,h5⟩:=IK (f:=li pf (t++x) (cV (t++x))) (j:=D.length - 1) (by rw [hit];rfl) (M:=gU (t++x)) (by omega);obtain ⟨u,m⟩:=b;have hfl:fD pf (t++x)=some (u,m):=by unfold fD;rw [if_pos hP,r5];exact h4
 refine ⟨u,m,by rw [hw,hfl],?_⟩;unfold li at h5
 cases hq:pf ((t++x).take (cV (t++x)+i+1)) with
 |none=>rw [hq] at h5;cases h5
 |some g=>
  rw [hq] at h5;injection h5 with h5
  injection h5 with h5 h6
  omega
theorem ae4 {f:Nat} (hf:Cn f) (x:al):∃u m,bZ pf bL (dr f++x)=some (u,m)∧(dr f).length≤m:=by
 have hp:=nh hf rfl;by_cases h1:isNan f=true
 · rw [uH h1];exact ⟨_,3,rfl,Nat.le_refl _⟩
 have h1':isNan f=false:=by simpa using h1
 by_cases h2:rung f=9218868437227405312
 · have ht:dr f=ep (isNeg f)++ [105,110,102]:=pg h1' h2
   cases hn:isNeg f
   · rw [hn] at ht
     have ht:dr f= [105,110,102]:=ht;rw [ht];exact ⟨_,3,rfl,Nat.le_refl _⟩
   · rw [hn] at ht
     have ht:dr f= [45,105,110,102]:=ht;rw [ht];exact ⟨_,4,rfl,Nat.le_refl _⟩
 have h6:rung f≤9218868437227405312:=by simpa [isNan,rung] using h1'
 have hr:rung f<9218868437227405312:=by omega
 by_cases h3:rung f=0
 · refine SE (n:=isNeg f) (M:=0) (e:=0) hp ?_ (by decide) (by decide) x
   rw [ph h1' h2 h3]
   have:dI 0 0= [48,112,48]:=by
    have e0:Lib.decDigits 0= [48]:=Lib.decDigits_one (by decide);have e1:Lib.itoa 0=Lib.decDigits 0:=rfl;unfold dI;rw [e1,e0];rfl
   rw [this];rfl
 · have e1:=pH hr
   have e2:=qK hr h3;refine SE (n:=isNeg f) (M:=od (bx (rung f))) (e:=dG (rung f)+v2 (bx (rung f))) hp ?_ (by omega) (by omega) x;rw [ox h1' h2 h3];unfold dI;rw [Dy];simp
theorem ae3 {v:bW} {t:al} (h:gE v t) (x:al):∃u m,bZ pf bL (t++x)=some (u,m)∧t.length≤m:=by
 cases h.is with
 |null _ ht=>rw [ht];exact ⟨_,4,rfl,Nat.le_refl _⟩
 |true _ ht=>rw [ht];exact ⟨_,4,rfl,Nat.le_refl _⟩
 |false _ ht=>rw [ht];exact ⟨_,5,rfl,Nat.le_refl _⟩
 |int n h0 h1 _ ht=>rw [ht];exact ae5 h0 h1 x
 |float f hf _ ht=>rw [ht];exact ae4 hf x
theorem R3 {v:bW} {t:al} (h:gE v t):t.length≤40∧0<t.length:=by
 have hr:=(Mu h.ok h.right);rw [h.text] at hr;have h2:=rt hr;refine ⟨?_,h2.1⟩
 cases h.is with
 |null _ ht=>rw [ht];decide
 |true _ ht=>rw [ht];decide
 |false _ ht=>rw [ht];decide
 |int n h0 h1 _ ht=>
  rw [ht,zd,List.length_append];have:=tS n.natAbs (by omega);have h2:(ep (decide (n<0))).length≤1:=by unfold ep;split<;>simp
  omega
 |float f hf _ ht=>
  rw [ht];by_cases h1:isNan f=true
  · rw [uH h1];decide
  have h1':isNan f=false:=by simpa using h1
  have hsg:(eB f).length≤1:=by unfold eB;split<;>simp
  by_cases h2:rung f=9218868437227405312
  · rw [pg h1' h2,List.length_append];simp;omega
  have h6:rung f≤9218868437227405312:=by simpa [isNan,rung] using h1'
  have hr:rung f<9218868437227405312:=by omega
  by_cases h3:rung f=0
  · rw [ph h1' h2 h3,List.length_append];simp;omega
  rw [ox h1' h2 h3];have hm:=ri hr;have h7:(Lib.decDigits (od (bx (rung f)))).length≤19:=tS _ (Nat.le_trans (Nat.div_le_self _ _) (by omega));have e1:=pH hr;have e2:=qK hr h3;obtain ⟨D,_,_,hl,hi⟩:=Fz (dG (rung f)+v2 (bx (rung f))) (by omega) (by omega)
  have hil:(Lib.itoa (dG (rung f)+v2 (bx (rung f)))).length≤5:=by
   rcases hi with hi|hi<;>rw [hi]
   · omega
   · rw [List.length_cons];omega
  simp only [List.length_append,List.length_cons,List.length_nil];omega
theorem SH {s:al} {u:bW} {m:Nat} (hq:Lib.hasPrefix s [39]=false) (h:bZ pf bL s=some (u,m)):gE u (s.take m)∧0<m∧m≤min s.length 40:=by
 obtain ⟨h1,h2⟩:=SC h;have h3:=rt h
 have h4:gE u (s.take m):=⟨Ms h,h1,fun hk=>(by
  have ht:ku u=gi u.s:=by
   unfold ku gj
   rw [if_neg (by rw [h1];simp),if_neg (by omega),if_neg (by omega),if_neg (by omega),if_pos hk]
  rw [ht] at h2
  have h5:Lib.hasPrefix s [39]=true:=(ni _ _).2 ((List.prefix_append [39] (u.s.flatMap qc++ [39])).trans (by
   rw [show ([39]:al)++(u.s.flatMap qc++ [39])=gi u.s from rfl,h2];exact List.take_prefix _ _))
  rw [h5] at hq;cases hq),h2⟩
 have h5:=(R3 h4).1;rw [List.length_take] at h5;exact ⟨h4,h3.1,by omega⟩
theorem ae6 {s:al} {v:bW} {n:Nat} (hq:Lib.hasPrefix s [39]=false) (h:gE v (s.take n)) (hn:n≤min s.length 40) (hm:∀m,n<m→m≤min s.length 40→∀u,¬gE u (s.take m)):bZ pf bL s=some (v,n):=by
 obtain ⟨u,m,h1,h2⟩:=ae3 h (s.drop n);rw [List.take_append_drop] at h1;rw [List.length_take] at h2;obtain ⟨h3,h4,h5⟩:=SH hq h1
 have e:m=n:=by
  rcases Nat.lt_or_ge n m with h6|h6
  · exact absurd h3 (hm m h6 h5 u)
  · omega
 subst e;rw [h1,h3.inj h]
theorem ae8 {s:al} (hq:Lib.hasPrefix s [39]=false) (hm:∀m,0<m→m≤min s.length 40→∀u,¬gE u (s.take m)):bZ pf bL s=none:=by
 cases h:bZ pf bL s with
 |none=>rfl
 |some r=>
  obtain ⟨u,m⟩:=r;obtain ⟨h3,h4,h5⟩:=SH hq h;exact absurd h3 (hm m h4 h5 u)
theorem agi:bC Tryz.prog 108:=⟨_,Tryz.func108,by kernel_rfl,rfl⟩
theorem agj:bC Tryz.prog 109:=⟨_,Tryz.func109,by kernel_rfl,rfl⟩
theorem agl:bC Tryz.prog 110:=⟨_,Tryz.func110,by kernel_rfl,rfl⟩
theorem ag2:bC Tryz.prog 76:=⟨_,Tryz.func76,by kernel_rfl,rfl⟩
theorem DT:bC Tryz.prog 77:=⟨_,Tryz.func77,by kernel_rfl,rfl⟩
theorem ag3:bC Tryz.prog 78:=⟨_,Tryz.func78,by kernel_rfl,rfl⟩
def Vt (s:al) (u:bW) (ok:Bool):Prop:=(ok=true∧gE u s)∨(ok=false∧u=dh∧∀v,¬gE v s)
theorem aer {s:al} {f:Nat} (h:pf s=some f):gE ⟨3,0,f,[]⟩ s:=by
 obtain ⟨h1,h2⟩:=Mb h;have:=aef h1
 rwa [h2] at this
theorem aeq {s:al} (h:pf s=none) {f:Nat} (hf:Cn f) (ht:s=dr f):False:=by
 rw [nh hf ht.symm] at h;cases h
theorem R4 {s:al} (h0:s≠lE) (h1:s≠jr) (h2:s≠jq) (h3:pf s=none) {v:bW} (h:gE v s):∃n,-9223372036854775808≤n∧n≤9223372036854775807∧v=⟨2,n,0,[]⟩∧s=Lib.itoa n:=by
 cases h.is with
 |null _ ht=>exact absurd ht h0
 |true _ ht=>exact absurd ht h1
 |false _ ht=>exact absurd ht h2
 |int n a b hv ht=>exact ⟨n,a,b,hv,ht⟩
 |float f hf _ ht=>exact absurd ht (fun e=>aeq h3 hf e)
def gA (s:al):Nat:=if Lib.hasPrefix s [45]=true then 1 else 0
theorem Fx (n:Int):gA (Lib.itoa n)=(if n<0 then 1 else 0)∧(Lib.itoa n).drop (gA (Lib.itoa n))=Lib.decDigits n.natAbs:=by
 obtain ⟨h1,h2⟩:=Q5 n;unfold gA;rw [h1];by_cases hn:n<0
 · rw [if_pos (decide_eq_true hn),if_pos hn]
   refine ⟨rfl,?_⟩;rw [←h2,MO (by rw [h1];exact decide_eq_true hn)]
 · rw [if_neg (by simp [hn]),if_neg hn]
   refine ⟨rfl,?_⟩;rw [←h2,MN (by rw [h1];exact decide_eq_false hn)];rfl
theorem adf {n:Int} (h0: -9223372036854775808≤n) (h1:n≤9223372036854775807):(Lib.itoa n).length≤20∧0<(Lib.itoa n).length:=by
 have:=R3 (R0 h0 h1);rw [zd,List.length_append] at this ⊢;have h3:=tS n.natAbs (by omega);have h2:(ep (decide (n<0))).length≤1:=by unfold ep;split<;>simp
 omega
def Acc (s:al) (i:Nat) (z:Int):Prop:=∀n,-9223372036854775808≤n→n≤9223372036854775807→s=Lib.itoa n→z= -((dC 0 ((s.take i).drop (gA s)):Nat):Int)∧dC 0 ((s.take i).drop (gA s))≤n.natAbs
theorem UI (s:al):Acc s 0 0:=fun n _ _ _=>by rw [List.take_zero,List.drop_nil];exact ⟨rfl,Nat.zero_le _⟩
theorem Acc.skip {s:al} (h:Lib.hasPrefix s [45]=true):Acc s 1 0:=fun n _ _ _=>by
 have:gA s=1:=if_pos h;rw [this,List.drop_eq_nil_of_le (List.length_take_le 1 s)];exact ⟨rfl,Nat.zero_le _⟩
theorem afZ {s:al} {i k:Nat} (hk:k≤i) (h:i<s.length):(s.take (i+1)).drop k=(s.take i).drop k++ [s.getD i 0]:=by
 rw [zw h,List.drop_append_of_le_length (by rw [List.length_take];omega)]
theorem UJ {s:al} {i:Nat} {z z':Int} (h:Acc s i z) (hi:i<s.length) (hk:gA s≤i) (hz:z≤0→-9223372036854775808≤z * 10 - ((s.getD i 0).toNat - 48:Nat)→z'=z * 10 - ((s.getD i 0).toNat - 48:Nat)):Acc s (i+1) z':=fun n h0 h1 hs=>by
 obtain ⟨e1,e2⟩:=h n h0 h1 hs;have e3:dC 0 ((s.take (i+1)).drop (gA s))=dC 0 ((s.take i).drop (gA s)) * 10+((s.getD i 0).toNat - 48):=by rw [afZ hk hi,yJ];rfl
 have hall:dC 0 (s.drop (gA s))=n.natAbs:=by
  rw [hs,(Fx n).2];exact (gT n.natAbs).2.1
 have hle:dC 0 ((s.take (i+1)).drop (gA s))≤n.natAbs:=by
  rw [←hall];have e4:=yJ (s.drop (i+1)) ((s.take (i+1)).drop (gA s)) 0
  have e5:(s.take (i+1)).drop (gA s)++s.drop (i+1)=s.drop (gA s):=by
   rw [←List.drop_append_of_le_length (by rw [List.length_take];omega),List.take_append_drop]
  rw [e5] at e4;rw [e4];exact AP _ _
 refine ⟨?_,hle⟩;rw [hz (by omega) (by omega),e3];omega
theorem Acc.bad {s:al} {i:Nat} (hi:i<s.length) (hk:gA s≤i) (hd:(s.getD i 0).toNat<48∨57<(s.getD i 0).toNat) (n:Int):s≠Lib.itoa n:=fun hs=>by
 have h1:(s.drop (gA s)).getD (i - gA s) 0=s.getD i 0:=by
  simp only [List.getD,List.getElem?_drop];rw [show gA s+(i - gA s)=i by omega]
 have h2:fT (s.drop (gA s)):=by
  rw [hs,(Fx n).2];exact (gT n.natAbs).1
 have h3:=h2 _ (B4 (i:=i - gA s) (by rw [List.length_drop];omega));rw [h1] at h3;omega
theorem Acc.done {s:al} {z:Int} (h:Acc s s.length z) {n:Int} (h0: -9223372036854775808≤n) (h1:n≤9223372036854775807) (hs:s=Lib.itoa n):z= -(n.natAbs:Int)∧(gA s=1↔n<0):=by
 obtain ⟨e1,_⟩:=h n h0 h1 hs
 have hall:dC 0 (s.drop (gA s))=n.natAbs:=by
  conv=>lhs;rw [hs,(Fx n).2]
  exact (gT n.natAbs).2.1
 rw [List.take_length,hall] at e1;refine ⟨e1,?_⟩;rw [hs,(Fx n).1];by_cases hn:n<0
 · rw [if_pos hn];simp [hn]
 · rw [if_neg hn];simp [hn]
theorem Ng (n:Int): -9223372036854775808≤IntKind.i64.wrap n∧IntKind.i64.wrap n≤9223372036854775807:=by rw [IntKind.wrap_i64];omega
theorem ahU {z:Int} {d:Int} (hz: -9223372036854775808≤z∧z≤0) (hd:0≤d∧d≤255) (h: -9223372036854775808≤z * 10 - d):IntKind.i64.wrap (IntKind.i64.wrap (z * 10) - d)=z * 10 - d:=by
 rw [wrap_i64 (z * 10) (by omega) (by omega),wrap_i64 _ (by omega) (by omega)]
theorem VB (s:al) (hs:s.length≤281474976710656) (w:World):be Tryz.prog 109 [str s] w fun v w'=>(∃(f:Nat) (e:Int),v= .tuple #[.float .f64 f,.int .i64 e]∧((e=0∧pf s=some f)∨(e=2∧pf s=none∧f=0)))∧Below w.heap.size w w':=
 (VA s hs w).mono fun v w' ⟨h1,h2⟩=>⟨by
  subst h1
  cases h:pf s with
  |none=>exact ⟨0,2,zp h,.inr ⟨rfl,rfl,rfl⟩⟩
  |some f=>exact ⟨f,0,zq h,.inl ⟨rfl,rfl⟩⟩,h2⟩
def Nn (dn:Bool) (z:Int):Int:=if dn=true then z else IntKind.i64.wrap (0 - z)
theorem VN (s:al) (hs:s.length≤281474976710656) (w:World):be Tryz.prog 78 [str s] w fun v w'=>(∃u ok,v= .tuple #[bW.enc u,.bool ok]∧Vt s u ok)∧Below w.heap.size w w':=by
 have hb:=Below.refl w.heap.size w;refine enter Tryz.func78 rfl rfl rfl<|ao fun aZ=>el (z:=nf) (by kernel_rfl) rfl ?_
 rintro aX js iB aj cF;have:=cF.size;have hb:=az hb cF;have:=aj.lt;refine am rfl<|an aZ<|ax fun _ bX=>ao fun cT=>ai rfl<|ah (fu rfl rfl) rfl<|an cT<|aH rfl (fun d1=>?_) (fun d1=>?_)
 ·
  have j8:=d1;simp only [DZ] at d1;refine ao fun ek=>aS DT rfl rfl (Dp _) rfl ?_;rintro _ cq ⟨rfl,bm⟩;have:=bm.size;have hb:=az hb bm;have aj:=aq.below aj bm;refine cH (by kernel_rfl) rfl rfl aj rfl rfl ?_;rintro d3 aj bI;have:=bI.size;have hb:=bY hb bI hb.size (by omega);refine am rfl<|an ek<|aK<|aQ<|fc (rs:= [.cell 2 96,.tmp 3]) (vs:= [_,_]) rfl (.cell rfl (e9 de (by kernel_rfl) (fun j u hu=>aj.at hu)) (.tmp rfl .nil)) ?_
  exact ⟨_,rfl,⟨_,_,rfl,.inl ⟨rfl,by rw [d1];exact aeg⟩⟩,hb⟩
 have j8:=d1;simp only [DZ] at d1;have hn0:s≠lE:=d1;refine aU<|aw bX<|ax fun _ eO=>ax fun _ eQ=>b9 (X:=Bool) (fun q=> [(0,str s),(2,.pointer (some ⟨aX,0,none⟩)),(3,.bool false),(19,.bool q)]) (fun q wr=>q=decide (s=jr∨s=jq)∧Below w.heap.size w wr∧aq wr aX 96 dh.cells) (fun _ P4=>?_) ?_
 ·
  refine aR<|ai rfl<|ah (fu rfl rfl) rfl<|ai rfl<|dP rfl rfl rfl (fun iQ=>?_) (fun iQ=>?_)
  ·
   have gI:=iQ;simp only [DZ] at iQ;refine aA rfl rfl gI rfl rfl<|ah (bi rfl gI rfl) rfl<|ay<|aY P4 (decide (s=jr∨s=jq)) (by repeat first|exact aB|refine au rfl (by first|rfl|exact aP (by rw [Bool.eq_iff_iff];simp_all [jr,jq])) ?_) ?_
   exact ⟨rfl,hb,aj⟩
  have gI:=iQ;simp only [DZ] at iQ;refine ai rfl<|aE rfl rfl gI<|ah (fu rfl rfl) rfl<|ah (bg rfl gI rfl) rfl<|ay<|aY P4 (decide (s=jr∨s=jq)) (by repeat first|exact aB|refine au rfl (by first|rfl|exact aP (by rw [Bool.eq_iff_iff];simp_all [jr,jq])) ?_) ?_
  exact ⟨rfl,hb,aj⟩
 rintro q wr wT;replace wT:q=decide (s=jr∨s=jq)∧Below w.heap.size w wr∧aq wr aX 96 dh.cells:=wT;obtain ⟨hq,hb,aj⟩:=wT;show Wq _ _ _ _ [(0,str s),(2,.pointer (some ⟨aX,0,none⟩)),(3,.bool false),(19,.bool q)] _;have:=hb.size;have:=aj.lt;refine aw eQ<|aH rfl (fun fK=>?_) (fun fK=>?_)
 ·
  have rR:=fK;have hq1:=of_decide_eq_true (hq.symm.trans rR);refine ao fun jg=>ai rfl<|ah (fu rfl rfl) rfl<|aS agi rfl rfl (VY _ _) rfl ?_
  rintro _ ft ⟨rfl,bp⟩;have:=bp.size;have hb:=az hb bp;have aj:=aq.below aj bp;refine cH (by kernel_rfl) rfl rfl aj rfl rfl ?_;rintro ky aj cd;have:=cd.size;have hb:=bY hb cd hb.size (by omega);refine am rfl<|an jg<|aK<|aQ<|fc (rs:= [.cell 2 96,.tmp 3]) (vs:= [_,_]) rfl (.cell rfl (e9 de (by kernel_rfl) (fun j u hu=>aj.at hu)) (.tmp rfl .nil)) ?_
  exact ⟨_,rfl,⟨_,_,rfl,.inl ⟨rfl,by rcases hq1 with h|h<;>rw [h];exact aeh;exact aee⟩⟩,hb⟩
 have rR:=fK;have hq1:=of_decide_eq_false (hq.symm.trans rR);refine aU<|aw eO<|ao fun nW=>ai rfl<|aS agj rfl rfl (VB s hs _) rfl ?_
 rintro _ gu ⟨⟨f,ee,rfl,hpf⟩,bG⟩;have:=bG.size;have hb:=az hb bG;have aj:=aq.below aj bG;refine ai rfl<|ah (bP rfl rfl) rfl<|ah (bP rfl rfl) rfl<|am rfl<|am rfl<|an nW<|ax fun _ ji=>ao fun fx=>ai rfl<|ah (bA rfl rfl) rfl<|an fx<|aH rfl (fun vj=>?_) (fun vj=>?_)
 ·
  have XW:=vj;simp only [DZ] at vj;have hsome:pf s=some f:=by rcases hpf with h|h;exact h.2;(have:=vj;omega)
  refine ao fun f5=>ai rfl<|ah (fe (z:=j2) (pl:=j3) (cs:= [_,_,_,_]) de (by kernel_rfl) (by kernel_rfl) rfl rfl rfl) rfl<|cH (by kernel_rfl) rfl rfl aj rfl rfl ?_
  rintro oA aj di;have:=di.size;have hb:=bY hb di hb.size (by omega);refine am rfl<|an f5<|aK<|aQ<|fc (rs:= [.cell 2 96,.tmp 3]) (vs:= [_,_]) rfl (.cell rfl (e9 de (by kernel_rfl) (fun j u hu=>aj.at hu)) (.tmp rfl .nil)) ?_
  exact ⟨_,rfl,⟨_,_,rfl,.inl ⟨rfl,aer hsome⟩⟩,hb⟩
 have XW:=vj;simp only [DZ] at vj;have hnone:pf s=none:=by rcases hpf with h|h;(exact absurd h.1 vj);exact h.2.1
 refine aU<|aw ji<|ao fun jj=>ah (fe (z:=j2) (pl:=j3) (cs:= [_,_,_,_]) de (by kernel_rfl) (by kernel_rfl) rfl rfl rfl) rfl<|el (z:=nf) (by kernel_rfl) rfl ?_
 rintro eF Na Lj cj jn;have:=jn.size;have hb:=az hb jn;have aj:=aq.below aj jn;have:=cj.lt;refine cH (by kernel_rfl) rfl rfl cj rfl rfl ?_;rintro tm cj dD;have:=dD.size;have hb:=bY hb dD hb.size (by omega);have aj:=aj.over dD (by omega);refine an jj<|ax fun _ nZ=>b9 (X:=Bool) (fun dn=> [(0,str s),(2,.pointer (some ⟨aX,0,none⟩)),(6,.pointer (some ⟨eF,0,none⟩)),(7,.bool dn)]) (fun dn wr=>dn=Lib.hasPrefix s [45]∧Below w.heap.size w wr∧aq wr aX 96 dh.cells∧aq wr eF 96 (bW.cells ⟨2,0,0,[]⟩)) (fun _ Ql=>?_) ?_
 ·
  refine aR<|ai rfl<|ah (dF bq (by omega) rfl) rfl<|ah (eW rfl rfl) rfl<|ai rfl<|cw rfl rfl rfl (fun iw=>?_) (fun iw=>?_)
  ·
   have fE:=iw;simp only [DZ] at iw;refine ai rfl<|aE rfl rfl fE<|ah (eK bq rfl rfl (by omega) (by omega)) rfl<|aE rfl rfl fE<|ah (bA rfl rfl) rfl<|ah (bi rfl fE rfl) rfl<|am rfl<|ay<|aY Ql (Lib.hasPrefix s [45]) (by repeat first|exact aB|refine au rfl (by first|rfl|exact aP (by rw [xU,Bool.eq_iff_iff];simp<;>omega)) ?_) ?_
   exact ⟨rfl,hb,aj,cj⟩
  have fE:=iw;simp only [DZ] at iw;refine aA rfl rfl fE rfl rfl<|aA rfl rfl fE rfl rfl<|ah (bg rfl fE rfl) rfl<|am rfl<|ay<|aY Ql (Lib.hasPrefix s [45]) (by repeat first|exact aB|refine au rfl (by first|rfl|exact aP (by rw [xU,Bool.eq_iff_iff];simp<;>omega)) ?_) ?_
  exact ⟨rfl,hb,aj,cj⟩
 rintro dn wr Ke;replace Ke:dn=Lib.hasPrefix s [45]∧Below w.heap.size w wr∧aq wr aX 96 dh.cells∧aq wr eF 96 (bW.cells ⟨2,0,0,[]⟩):=Ke;obtain ⟨hdn,hb,aj,cj⟩:=Ke;show Wq _ _ _ _ [(0,str s),(2,.pointer (some ⟨aX,0,none⟩)),(6,.pointer (some ⟨eF,0,none⟩)),(7,.bool dn)] _;have:=hb.size;have:=aj.lt;have:=cj.lt;refine aw nZ<|ax fun _ kW=>ao fun jk=>am rfl<|an jk<|br<|cU (X:=Nat×Int) (fun (i,z)=> [(0,str s),(2,.pointer (some ⟨aX,0,none⟩)),(6,.pointer (some ⟨eF,0,none⟩)),(7,.bool dn),(8,.int .i64 (i:Int))]) (fun (i,z) wr=>i≤s.length∧(i=0→z=0)∧-9223372036854775808≤z∧z≤9223372036854775807∧Acc s i z∧(s.length≤20→i≤20)∧Below w.heap.size w wr∧aq wr aX 96 dh.cells∧aq wr eF 96 (bW.cells ⟨2,z,0,[]⟩)) (fun (i,z)=>s.length - i) (⟨0,0⟩) ?_ ?_ ?_
 · exact by repeat first|exact aB|refine au rfl (by first|rfl|exact int_eq (by omega)) ?_
 · exact ⟨by omega,fun _=>rfl,by decide,by decide,UI s,fun _=>by omega,hb,aj,cj⟩
 rintro ⟨i,z⟩ wr Ki _ PT;replace Ki:i≤s.length∧(i=0→z=0)∧-9223372036854775808≤z∧z≤9223372036854775807∧Acc s i z∧(s.length≤20→i≤20)∧Below w.heap.size w wr∧aq wr aX 96 dh.cells∧aq wr eF 96 (bW.cells ⟨2,z,0,[]⟩):=Ki;obtain ⟨hi,hi0,hz0,hz1,hA,h20,hb,aj,cj⟩:=Ki;show Wc _ _ _ _ _ [(0,str s),(2,.pointer (some ⟨aX,0,none⟩)),(6,.pointer (some ⟨eF,0,none⟩)),(7,.bool dn),(8,.int .i64 (i:Int))] _;have:=hb.size;have:=aj.lt;have:=cj.lt;refine ax fun _ Cs=>ax fun _ xu=>b9 (X:=Bool) (fun q=> [(0,str s),(2,.pointer (some ⟨aX,0,none⟩)),(6,.pointer (some ⟨eF,0,none⟩)),(7,.bool dn),(8,.int .i64 (i:Int)),(49,.bool q)]) (fun q wr=>q=decide (i<s.length∧s.length≤20)∧Below w.heap.size w wr∧aq wr aX 96 dh.cells∧aq wr eF 96 (bW.cells ⟨2,z,0,[]⟩)) (fun _ Qs=>?_) ?_
 ·
  refine aR<|ai rfl<|ai rfl<|ah (dF bq (by omega) rfl) rfl<|ah (cg rfl rfl) rfl<|ai rfl<|cw rfl rfl rfl (fun BT=>?_) (fun BT=>?_)
  ·
   have wG:=BT;simp only [DZ] at BT;refine ai rfl<|aE rfl rfl wG<|ah (dF bq (by omega) rfl) rfl<|aE rfl rfl wG<|ah (oB rfl rfl) rfl<|ah (bi rfl wG rfl) rfl<|ay<|aY Qs (decide (i<s.length∧s.length≤20)) (by repeat first|exact aB|refine au rfl (by first|rfl|exact aP (by rw [Bool.eq_iff_iff];simp<;>omega)) ?_) ?_
   exact ⟨rfl,hb,aj,cj⟩
  have wG:=BT;simp only [DZ] at BT;refine aA rfl rfl wG rfl rfl<|aA rfl rfl wG rfl rfl<|ah (bg rfl wG rfl) rfl<|ay<|aY Qs (decide (i<s.length∧s.length≤20)) (by repeat first|exact aB|refine au rfl (by first|rfl|exact aP (by rw [Bool.eq_iff_iff];simp<;>omega)) ?_) ?_
  exact ⟨rfl,hb,aj,cj⟩
 rintro q wr Kn;replace Kn:q=decide (i<s.length∧s.length≤20)∧Below w.heap.size w wr∧aq wr aX 96 dh.cells∧aq wr eF 96 (bW.cells ⟨2,z,0,[]⟩):=Kn;obtain ⟨hq,hb,aj,cj⟩:=Kn;show Wq _ _ _ _ [(0,str s),(2,.pointer (some ⟨aX,0,none⟩)),(6,.pointer (some ⟨eF,0,none⟩)),(7,.bool dn),(8,.int .i64 (i:Int)),(49,.bool q)] _;have:=hb.size;have:=aj.lt;have:=cj.lt;refine aw xu<|aH rfl (fun H7=>?_) (fun H7=>?_)
 ·
  have H8:=H7;have hq3:=of_decide_eq_true (hq.symm.trans H8);have hil:=hq3.1;refine aU<|aw Cs<|ax fun _ oU=>br<|ax fun _ lv=>ax fun _ qr=>b9 (X:=Bool) (fun q=> [(0,str s),(2,.pointer (some ⟨aX,0,none⟩)),(6,.pointer (some ⟨eF,0,none⟩)),(7,.bool dn),(8,.int .i64 (i:Int)),(56,.bool q)]) (fun q wr=>q=decide (i=0∧dn=true)∧Below w.heap.size w wr∧aq wr aX 96 dh.cells∧aq wr eF 96 (bW.cells ⟨2,z,0,[]⟩)) (fun _ Qy=>?_) ?_
  ·
   refine aR<|ai rfl<|ah (bA rfl rfl) rfl<|ai rfl<|cw rfl rfl rfl (fun qa=>?_) (fun qa=>?_)
   ·
    have sA:=qa;simp only [DZ] at qa;refine ai rfl<|ah (bi rfl sA rfl) rfl<|ay<|aY Qy (decide (i=0∧dn=true)) (by repeat first|exact aB|refine au rfl (by first|rfl|exact aP (by rw [Bool.eq_iff_iff];simp_all<;>omega)) ?_) ?_
    exact ⟨rfl,hb,aj,cj⟩
   have sA:=qa;simp only [DZ] at qa;refine ah (bg rfl sA rfl) rfl<|ay<|aY Qy (decide (i=0∧dn=true)) (by repeat first|exact aB|refine au rfl (by first|rfl|exact aP (by rw [Bool.eq_iff_iff];simp_all<;>omega)) ?_) ?_
   exact ⟨rfl,hb,aj,cj⟩
  rintro q wr xj;replace xj:q=decide (i=0∧dn=true)∧Below w.heap.size w wr∧aq wr aX 96 dh.cells∧aq wr eF 96 (bW.cells ⟨2,z,0,[]⟩):=xj;obtain ⟨hq,hb,aj,cj⟩:=xj;show Wq _ _ _ _ [(0,str s),(2,.pointer (some ⟨aX,0,none⟩)),(6,.pointer (some ⟨eF,0,none⟩)),(7,.bool dn),(8,.int .i64 (i:Int)),(56,.bool q)] _;have:=hb.size;have:=aj.lt;have:=cj.lt;refine aw qr<|aH rfl (fun Ij=>?_) (fun Ij=>?_)
  ·
   have Ik:=Ij;have hq4:=of_decide_eq_true (hq.symm.trans Ik);obtain ⟨hq40,hq41⟩:=hq4;have hzz:=hi0 hq40;obtain ⟨z_,xK⟩:∃z:Int,z=0:=⟨_,rfl⟩;have LB: -9223372036854775808≤z_:=by omega
   have C9:z_≤9223372036854775807:=by omega
   have Jf:Acc s (i+1) z_:=by rw [hq40,xK];exact Acc.skip (hdn.symm.trans hq41)
   rw [hzz,←xK] at cj;refine cN<|bD<|cO<|aw oU<|aR<|ai rfl<|ah (bH rfl rfl (by omega) (by omega)) rfl<|am rfl<|ay<|fun a_ bn=>PT _ _ (⟨i+1,z_⟩) (by simp;omega) (by repeat first|exact aB|refine au rfl (by first|rfl|exact int_eq (by omega)) ?_) ?_ a_ bn
   exact ⟨by omega,by omega,LB,C9,Jf,fun _=>by omega,hb,aj,cj⟩
  have Ik:=Ij;have hq4:=of_decide_eq_false (hq.symm.trans Ik);have hk:gA s≤i:=by unfold gA;split;(rename_i h;rw [←hdn] at h;have:i≠0:=fun e=>hq4 ⟨e,h⟩;omega);omega
  obtain ⟨c,hc⟩:∃c,c=(s.getD i 0).toNat:=⟨_,rfl⟩;have hcl:c<256:=by rw [hc];exact UInt8.toNat_lt _
  refine aU<|aw lv<|ax fun _ kS=>ax fun _ B8=>b9 (X:=Bool) (fun q=> [(0,str s),(2,.pointer (some ⟨aX,0,none⟩)),(6,.pointer (some ⟨eF,0,none⟩)),(7,.bool dn),(8,.int .i64 (i:Int)),(66,.bool q)]) (fun q wr=>q=decide (c<48∨57<c)∧Below w.heap.size w wr∧aq wr aX 96 dh.cells∧aq wr eF 96 (bW.cells ⟨2,z,0,[]⟩)) (fun _ PV=>?_) ?_
  ·
   refine aR<|ai rfl<|ai rfl<|ah (bt (eK bq rfl rfl (by omega) (by omega)) (int_eq (show _=(c:Int) by rw [hc,Int.toNat_natCast]))) rfl<|ah (cg rfl rfl) rfl<|ai rfl<|dP rfl rfl rfl (fun pJ=>?_) (fun pJ=>?_)
   ·
    have lV:=pJ;simp only [DZ] at pJ;refine aA rfl rfl lV rfl rfl<|aA rfl rfl lV rfl rfl<|aA rfl rfl lV rfl rfl<|ah (bi rfl lV rfl) rfl<|ay<|aY PV (decide (c<48∨57<c)) (by repeat first|exact aB|refine au rfl (by first|rfl|exact aP (by rw [Bool.eq_iff_iff];simp<;>omega)) ?_) ?_
    exact ⟨rfl,hb,aj,cj⟩
   have lV:=pJ;simp only [DZ] at pJ;refine ai rfl<|aE rfl rfl lV<|ai rfl<|aE rfl rfl lV<|ah (bt (eK bq rfl rfl (by omega) (by omega)) (int_eq (show _=(c:Int) by rw [hc,Int.toNat_natCast]))) rfl<|aE rfl rfl lV<|ah (eW rfl rfl) rfl<|ah (bg rfl lV rfl) rfl<|ay<|aY PV (decide (c<48∨57<c)) (by repeat first|exact aB|refine au rfl (by first|rfl|exact aP (by rw [Bool.eq_iff_iff];simp<;>omega)) ?_) ?_
   exact ⟨rfl,hb,aj,cj⟩
  rintro q wr Jp;replace Jp:q=decide (c<48∨57<c)∧Below w.heap.size w wr∧aq wr aX 96 dh.cells∧aq wr eF 96 (bW.cells ⟨2,z,0,[]⟩):=Jp;obtain ⟨hq,hb,aj,cj⟩:=Jp;show Wq _ _ _ _ [(0,str s),(2,.pointer (some ⟨aX,0,none⟩)),(6,.pointer (some ⟨eF,0,none⟩)),(7,.bool dn),(8,.int .i64 (i:Int)),(66,.bool q)] _;have:=hb.size;have:=aj.lt;have:=cj.lt;refine aw B8<|aH rfl (fun In=>?_) (fun In=>?_)
  ·
   have Io:=In;have hq5:=of_decide_eq_true (hq.symm.trans Io);refine ao fun sG=>aS DT rfl rfl (Dp _) rfl ?_;rintro _ hZ ⟨rfl,ck⟩;have:=ck.size;have hb:=az hb ck;have aj:=aq.below aj ck;refine cH (by kernel_rfl) rfl rfl aj rfl rfl ?_;rintro uK aj eH;have:=eH.size;have hb:=bY hb eH hb.size (by omega);refine am rfl<|an sG<|aK<|aQ (bE (aQ (aQ (bE (aQ ?_)))))
   refine fc (rs:= [.cell 2 96,.tmp 3]) (vs:= [_,_]) rfl (.cell rfl (e9 de (by kernel_rfl) (fun j u hu=>aj.at hu)) (.tmp rfl .nil)) ?_;exact ⟨_,rfl,⟨_,_,rfl,.inr ⟨rfl,rfl,fun v h=>by obtain ⟨n,_,_,_,hsn⟩:=R4 hn0 (fun e=>hq1 (.inl e)) (fun e=>hq1 (.inr e)) hnone h;exact Acc.bad hil hk (by rw [←hc];exact hq5) n hsn⟩⟩,hb⟩
  have Io:=In;have hq5:=of_decide_eq_false (hq.symm.trans Io);obtain ⟨z_,xK⟩:∃z':Int,z'=IntKind.i64.wrap (IntKind.i64.wrap (z * 10) - ((c - 48:Nat):Int)):=⟨_,rfl⟩;have LB: -9223372036854775808≤z_:=by rw [xK];exact (Ng _).1
  have C9:z_≤9223372036854775807:=by rw [xK];exact (Ng _).2
  have Jf:Acc s (i+1) z_:=UJ hA hil hk (fun h0 h1=>by rw [xK,hc];rw [←hc] at h1 ⊢;exact ahU ⟨hz0,h0⟩ (by omega) h1);refine aU<|aw kS<|gG (n:=11) (fun w'=>Below w.heap.size w w'∧aq w' aX 96 dh.cells∧∃y,aq w' eF 96 y) #[ac,ac,ac,ac,ac,ac,ac,ac,ac,ac,ac] (by kernel_rfl) rfl (by kernel_rfl)<|gF ?_
  rintro ahB qy;have:=qy.size;have hb:=az hb qy;have aj:=aq.below aj qy;have cj:=aq.below cj qy;refine aT (i:=0) #[ab,ac,ac,ac,ac,ac,ac,ac,ac,ac,ac] rfl (by kernel_rfl) aO rfl (fun wq hq=>a8 (aJ (fv _) rfl)) ⟨hb,aj,_,cj⟩<|aT (i:=3) #[ab,ac,ac,ab,ac,ac,ac,ac,ac,ac,ac] rfl (by kernel_rfl) aO rfl (fun wq hq=>a8 (bl rfl)) ⟨hb,aj,_,cj⟩<|aT (i:=4) #[ab,ac,ac,ab,ab,ac,ac,ac,ac,ac,ac] rfl (by kernel_rfl) aO rfl (fun wq hq=>a8 (bl rfl)) ⟨hb,aj,_,cj⟩<|aT (i:=5) #[ab,ac,ac,ab,ab,ab,ac,ac,ac,ac,ac] rfl (by kernel_rfl) aO rfl (fun wq hq=>a8 (bt (eK bq rfl rfl (by omega) (by omega)) (int_eq (show _=(c:Int) by rw [hc,Int.toNat_natCast])))) ⟨hb,aj,_,cj⟩<|aT (i:=6) #[ab,ac,ac,ab,ab,ab,ab,ac,ac,ac,ac] rfl (by kernel_rfl) aO rfl (fun wq hq=>a8 (bt (yj rfl rfl) (int_eq (show _=((c - 48:Nat):Int) by rw [wrap_u8 _ (by omega) (by omega)];omega)))) ⟨hb,aj,_,cj⟩<|aT (i:=7) #[ab,ac,ac,ab,ab,ab,ab,ab,ac,ac,ac] rfl (by kernel_rfl) aO rfl (fun wq hq=>a8 (bt (ja fq Gr rfl) (int_eq (show _=((c - 48:Nat):Int) by rw [wrap_i64 _ (by omega) (by omega)])))) ⟨hb,aj,_,cj⟩<|bM (rs:= [1]) (by kernel_rfl) rfl<|bv #[ab,ab,ac,ab,ab,ab,ab,ab,ac,ac,ac] rfl rfl (fun _ Cg=>?_) ?_
  ·
   refine aW (aI fB rfl (by exact cj.at (j:=1) rfl)) rfl<|ay<|bu Cg ⟨hb,aj,_,cj⟩<|aT (i:=2) #[ab,ab,ab,ab,ab,ab,ab,ab,ac,ac,ac] rfl (by kernel_rfl) aO rfl (fun wq hq=>a8 (Nh rfl rfl)) ⟨hb,aj,_,cj⟩<|aT (i:=8) #[ab,ab,ab,ab,ab,ab,ab,ab,ab,ac,ac] rfl (by kernel_rfl) aO rfl (fun wq hq=>a8 (bt (yj rfl rfl) (int_eq (show _=z_ from xK.symm)))) ⟨hb,aj,_,cj⟩<|aT (i:=9) #[ab,ab,ab,ab,ab,ab,ab,ab,ab,ab,ac] rfl (by kernel_rfl) aO rfl (fun wq hq=>a8 (aJ (fv _) rfl)) ⟨hb,aj,_,cj⟩<|bM (rs:= [10]) (by kernel_rfl) rfl<|bv #[ab,ab,ab,ab,ab,ab,ab,ab,ab,ab,ab] rfl rfl (fun _ q8=>?_) ?_
   ·
    refine fJ fB rfl rfl rfl cj (by show 1<4;decide) ?_;rintro zE cj fN;have:=fN.size;have hb:=bY hb fN hb.size (by omega);have aj:=aj.over fN (by omega);refine ay<|bu q8 ⟨hb,aj,_,cj⟩<|eE (by kernel_rfl)<|bS<|aw oU<|aR<|ai rfl<|ah (bH rfl rfl (by omega) (by omega)) rfl<|am rfl<|ay<|fun a_ bn=>PT _ _ (⟨i+1,z_⟩) (by simp;omega) (by repeat first|exact aB|refine au rfl (by first|rfl|exact int_eq (by omega)) ?_) ?_ a_ bn
    exact ⟨by omega,by omega,LB,C9,Jf,fun _=>by omega,hb,aj,cj⟩
   exact bN
  exact bN
 have H8:=H7;have hq3:=of_decide_eq_false (hq.symm.trans H8);refine cN<|bD<|bD<|cO<|aw kW<|ax fun _ Cj=>ao fun Ck=>ai rfl<|ah (fI rfl) rfl<|an Ck ?_
 obtain ⟨zz,hzz⟩:∃zz,zz=Nn dn z:=⟨_,rfl⟩;have hzr: -9223372036854775808≤zz∧zz≤9223372036854775807:=by rw [hzz];unfold Nn;split;exact ⟨hz0,hz1⟩;exact Ng _
 refine b9 (X:=Unit) (fun u_=> [(0,str s),(2,.pointer (some ⟨aX,0,none⟩)),(6,.pointer (some ⟨eF,0,none⟩))]) (fun u_ wr=>Below w.heap.size w wr∧aq wr aX 96 dh.cells∧aq wr eF 96 (bW.cells ⟨2,zz,0,[]⟩)) (fun _ P5=>?_) ?_
 ·
  refine aH rfl (fun AD=>?_) (fun AD=>?_)
  ·
   have Ix:=AD;simp only [DZ] at AD;have hdd:dn=false:=by simpa using Ix
   have hzd:zz=IntKind.i64.wrap (0 - z):=by rw [hzz,hdd];rfl
   refine aR<|ah (aJ (fv _) rfl) rfl<|aW (aI fB rfl (by exact cj.at (j:=1) rfl)) rfl<|ah (bt (Ni rfl) (int_eq (show _=zz from hzd.symm))) rfl<|ah (aJ (fv _) rfl) rfl<|fJ fB rfl rfl rfl cj (by show 1<4;decide) ?_
   rintro Nb cj lz;have:=lz.size;have hb:=bY hb lz hb.size (by omega);have aj:=aj.over lz (by omega);refine ay<|aY P5 (()) (by repeat first|exact aB|refine au rfl (by first|rfl|exact int_eq (by omega)) ?_) ?_
   exact ⟨hb,aj,cj⟩
  have Ix:=AD;simp only [DZ] at AD;have hdd:dn=true:=by simpa using Ix
  have hzd:zz=z:=by rw [hzz,hdd];rfl
  rw [←hzd] at cj;refine aU<|aY P5 (()) (by repeat first|exact aB|refine au rfl (by first|rfl|exact int_eq (by omega)) ?_) ?_
  exact ⟨hb,aj,cj⟩
 rintro u_ wr Jz;replace Jz:Below w.heap.size w wr∧aq wr aX 96 dh.cells∧aq wr eF 96 (bW.cells ⟨2,zz,0,[]⟩):=Jz;obtain ⟨hb,aj,cj⟩:=Jz;show Wq _ _ _ _ [(0,str s),(2,.pointer (some ⟨aX,0,none⟩)),(6,.pointer (some ⟨eF,0,none⟩))] _;have:=hb.size;have:=aj.lt;have:=cj.lt
 have hfin:∀v,gE v s→v=⟨2,zz,0,[]⟩∧s=Lib.itoa zz:=fun v h=>by
  obtain ⟨n,n0,n1,hv,hsn⟩:=R4 hn0 (fun e=>hq1 (.inl e)) (fun e=>hq1 (.inr e)) hnone h;have hl:=adf n0 n1;rw [←hsn] at hl;have hie:i=s.length:=by have:=mt (fun h=>(⟨h,hl.1⟩:i<s.length∧s.length≤20)) hq3;omega
  rw [hie] at hA;obtain ⟨e1,e2⟩:=hA.done n0 n1 hsn
  have e3:zz=n:=by
   rw [hzz];unfold Nn;unfold gA at e2;rw [←hdn] at e2
   cases dn
   · rw [if_neg (by decide)] at e2 ⊢
     rw [wrap_i64 _ (by omega) (by omega)];omega
   · rw [if_pos rfl] at e2 ⊢
     omega
  rw [e3];exact ⟨hv,hsn⟩
 have okz:(⟨2,zz,0,[]⟩:bW).Ok:=⟨hzr.1,hzr.2,by show (0:Nat)<_;decide⟩;refine aw Cj<|ao fun Cl=>aW (dM de (by kernel_rfl) rfl (by exact fun j u hu=>cj.at hu)) rfl<|aS agl rfl rfl (VG ⟨2,zz,0,[]⟩ okz (by simp) _) rfl ?_
 rintro _ nq ⟨rfl,dE⟩;have:=dE.size;have hb:=az hb dE;have aj:=aq.below aj dE;have cj:=aq.below cj dE;refine ai rfl<|ah (bP rfl rfl) rfl<|ah (bP rfl rfl) rfl<|am rfl<|am rfl<|an Cl<|ax fun _ Co=>ao fun KC=>ai rfl<|ai rfl<|ah (qO rfl rfl) rfl<|an KC<|aH rfl (fun vY=>?_) (fun vY=>?_)
 ·
  have YR:=vY;simp only [DZ] at vY;refine ao fun KD=>aS DT rfl rfl (Dp _) rfl ?_;rintro _ gD ⟨rfl,fk⟩;have:=fk.size;have hb:=az hb fk;have aj:=aq.below aj fk;refine cH (by kernel_rfl) rfl rfl aj rfl rfl ?_;rintro Uu aj oZ;have:=oZ.size;have hb:=bY hb oZ hb.size (by omega);refine am rfl<|an KD<|aK<|aQ<|fc (rs:= [.cell 2 96,.tmp 3]) (vs:= [_,_]) rfl (.cell rfl (e9 de (by kernel_rfl) (fun j u hu=>aj.at hu)) (.tmp rfl .nil)) ?_
  exact ⟨_,rfl,⟨_,_,rfl,.inr ⟨rfl,rfl,fun v h=>vY (hfin v h).2.symm⟩⟩,hb⟩
 have YR:=vY;simp only [DZ] at vY;refine aU<|aw Co<|ao fun xp=>aW (dM de (by kernel_rfl) rfl (by exact fun j u hu=>cj.at hu)) rfl ?_
 refine cH (by kernel_rfl) rfl rfl aj rfl rfl ?_;rintro DX aj sU;have:=sU.size;have hb:=bY hb sU hb.size (by omega);refine am rfl<|an xp<|aK<|fc (rs:= [.cell 2 96,.tmp 3]) (vs:= [_,_]) rfl (.cell rfl (e9 de (by kernel_rfl) (fun j u hu=>aj.at hu)) (.tmp rfl .nil)) ?_
 exact ⟨_,rfl,⟨_,_,rfl,.inl ⟨rfl,by have h:=vY;have h2:=R0 hzr.1 hzr.2;rw [show Lib.itoa zz=s from h] at h2;exact h2⟩⟩,hb⟩
theorem VO (s:al) (hs:s.length≤140737488355328) (w:World):be Tryz.prog 76 [str s] w fun v w'=>v= .tuple #[str (bL s).1,.int .i64 ((bL s).2:Nat)]∧Below w.heap.size w w':=by
 have hb:=Below.refl w.heap.size w;refine enter Tryz.func76 rfl rfl rfl<|ao fun aZ=>am rfl<|am rfl<|an aZ<|ao fun bX=>am rfl<|an bX<|ax fun _ ex=>ao fun e7=>am rfl<|an e7<|br<|cU (X:=Nat×al) (fun (i,l)=> [(0,str s),(4,str l),(5,.int .i64 (i:Int))]) (fun (i,l) wr=>1≤i∧i≤s.length+1∧l.length<i∧bL s=bV (s.drop i) i l∧Below w.heap.size w wr) (fun (i,l)=>s.length+1 - i) (⟨1,[]⟩) ?_ ?_ ?_
 · exact by repeat first|exact aB|refine au rfl (by first|rfl|exact int_eq (by omega)) ?_
 · exact ⟨by omega,by omega,Nat.lt_succ_self 0,rfl,hb⟩
 rintro ⟨i,l⟩ wr wL _ xA;replace wL:1≤i∧i≤s.length+1∧l.length<i∧bL s=bV (s.drop i) i l∧Below w.heap.size w wr:=wL;obtain ⟨hi1,hi2,hl,hu,hb⟩:=wL;show Wc _ _ _ _ _ [(0,str s),(4,str l),(5,.int .i64 (i:Int))] _;have:=hb.size;refine ax fun _ d7=>ao fun eO=>ai rfl<|ai rfl<|ah (dF bq (by omega) rfl) rfl<|ah (cg rfl rfl) rfl<|an eO<|aH rfl (fun il=>?_) (fun il=>?_)
 ·
  have Hc:=il;simp only [DZ] at il;have hil:i<s.length:=by have:=il;omega
  obtain ⟨c,hc⟩:∃c,c=s.getD i 0:=⟨_,rfl⟩;refine aU<|aw d7<|ax fun _ dL=>br<|ao fun gJ=>ai rfl<|ai rfl<|ah (bt (eK bq rfl rfl (by omega) (by omega)) (int_eq (show _=(c.toNat:Int) by rw [hc,Int.toNat_natCast]))) rfl<|am rfl<|an gJ<|ax fun _ jf=>ao fun jg=>ai rfl<|ah (bA rfl rfl) rfl<|an jg<|aH rfl (fun lP=>?_) (fun lP=>?_)
  ·
   have HE:=lP;simp only [DZ] at lP;have hcq:s.getD i 0=39:=by rw [←hc];exact mH (n:=39) lP (by decide)
   refine ao fun gK=>ai rfl<|ai rfl<|ah (bH rfl rfl (by omega) (by omega)) rfl<|am rfl<|am rfl<|an gK<|aK<|aQ (bE (aQ (aQ (bE (aQ ?_)))))
   refine dv rfl rfl rfl ?_;exact ⟨_,rfl,th (hu.trans (Ud l hil hcq)) (by omega),hb⟩
  have HE:=lP;simp only [DZ] at lP;have hcq:s.getD i 0≠39:=by rw [←hc];exact pi (n:=39) lP (by decide)
  refine aU<|aw jf<|ax fun _ me=>ao fun mf=>ai rfl<|ah (bA rfl rfl) rfl<|an mf<|aH rfl (fun mQ=>?_) (fun mQ=>?_)
  ·
   have HT:=mQ;simp only [DZ] at mQ;have hun:=hu.trans (Ua l hil (by rw [←hc];exact mH (n:=10) mQ (by decide)));refine ao fun mg=>am rfl<|am rfl<|an mg<|aK<|aQ (bE (aQ (aQ (bE (aQ ?_)))))
   refine dv rfl rfl rfl ?_;exact ⟨_,rfl,th hun rfl,hb⟩
  have HT:=mQ;simp only [DZ] at mQ;have hcf:s.getD i 0≠10:=by rw [←hc];exact pi (n:=10) mQ (by decide)
  refine aU<|aw me<|ax fun _ f5=>ao fun lu=>ai rfl<|ah (ig rfl rfl) rfl<|an lu<|aH rfl (fun vz=>?_) (fun vz=>?_)
  ·
   have Yd:=vz;simp only [DZ] at vz;have hu2:=hu.trans (Uc l hil hcq hcf (by rw [←hc];exact pi (n:=92) vz (by decide)));obtain ⟨j_,oh⟩:∃j,j=i:=⟨_,rfl⟩;obtain ⟨e_,kj⟩:∃e,e=c:=⟨_,rfl⟩;rw [←hc,←kj,←oh] at hu2;refine ao fun gd=>ai rfl<|ai rfl<|ai rfl<|ai rfl<|ah (bH rfl rfl (by omega) (by omega)) rfl<|ah (bt (D4 bq rfl rfl rfl (by omega) (by omega) (by omega)) (dw (show _= [c] by rw [show ((i:Int)+1).toNat=i+1 by omega,Int.toNat_natCast,FO hil,hc]))) rfl<|ah (dx rfl rfl (by simp only [List.length_cons,List.length_append,List.length_nil];omega)) rfl<|am rfl<|an gd<|cN<|bD<|cO<|aw dL<|aR<|ai rfl<|ah (bH rfl rfl (by omega) (by omega)) rfl<|am rfl<|ay<|fun a_ bn=>xA _ _ (⟨j_+1,l++ [e_]⟩) (by simp;omega) (by repeat first|exact aB|refine au rfl (by first|rfl|exact int_eq (by omega)|exact dw (by rw [kj])) ?_) ?_ a_ bn
   exact ⟨by omega,by omega,by rw [List.length_append];simp;omega,hu2,hb⟩
  have Yd:=vz;simp only [DZ] at vz;have hc9:s.getD i 0=92:=by rw [←hc];exact mH (n:=92) vz (by decide)
  refine aU<|aw f5<|ao fun n7=>ai rfl<|ah (bH rfl rfl (by omega) (by omega)) rfl<|am rfl<|an n7<|ax fun _ xt=>ao fun kW=>ai rfl<|ai rfl<|ah (dF bq (by omega) rfl) rfl<|ah (bA rfl rfl) rfl<|an kW<|aH rfl (fun vK=>?_) (fun vK=>?_)
  ·
   have YB:=vK;simp only [DZ] at vK;have hun:=hu.trans (Ub l hil hc9 (by have:=vK;omega));refine ao fun xu=>am rfl<|am rfl<|an xu<|aK<|aQ (bE (aQ (aQ (bE (aQ ?_)))))
   refine dv rfl rfl rfl ?_;exact ⟨_,rfl,th hun rfl,hb⟩
  have YB:=vK;simp only [DZ] at vK;have hi3:i+1<s.length:=by have:=vK;omega
  obtain ⟨d,hd⟩:∃d,d=s.getD (i+1) 0:=⟨_,rfl⟩;have hes:=T9 l hi3 hc9;rw [←hd] at hes;obtain ⟨j_,oh⟩:∃j,j=i+1:=⟨_,rfl⟩;refine aU<|aw xt<|ao fun qq=>ai rfl<|ai rfl<|ah (bt (eK bq rfl rfl (by omega) (by omega)) (int_eq (show _=(d.toNat:Int) by rw [hd,show ((i:Int)+1).toNat=i+1 by omega]))) rfl<|an qq<|br<|ax fun _ kX=>ao fun ki=>ah (bA rfl rfl) rfl<|am rfl<|an ki<|aH rfl (fun vR=>?_) (fun vR=>?_)
  ·
   have On:=vR;simp only [DZ] at vR;have hdd:d=92:=mH (n:=92) vR (by decide);obtain ⟨e_,kj⟩:∃e,e=d:=⟨_,rfl⟩;have hu2:bL s=bV (s.drop (j_+1)) (j_+1) (l++ [e_]):=by rw [hdd] at hes;rw [kj,hdd,oh];exact hu.trans hes
   refine aU<|aw kX<|Eg rfl On<|aR<|ai rfl<|ai rfl<|ai rfl<|ai rfl<|ah (bH rfl rfl (by omega) (by omega)) rfl<|ah (bt (D4 bq rfl rfl rfl (by omega) (by omega) (by omega)) (dw (show _= [d] by rw [show ((i:Int)+1).toNat=i+1 by omega,show ((i:Int)+1+1).toNat=i+1+1 by omega,FO hi3,hd]))) rfl<|ah (dx rfl rfl (by simp only [List.length_cons,List.length_append,List.length_nil];omega)) rfl<|am rfl<|ay<|bS<|bS<|aw dL<|aR<|ai rfl<|ah (bH rfl rfl (by omega) (by omega)) rfl<|am rfl<|ay<|fun a_ bn=>xA _ _ (⟨j_+1,l++ [e_]⟩) (by simp;omega) (by repeat first|exact aB|refine au rfl (by first|rfl|exact int_eq (by omega)|exact dw (by rw [kj])) ?_) ?_ a_ bn
   exact ⟨by omega,by omega,by rw [List.length_append];simp;omega,hu2,hb⟩
  have On:=vR;simp only [DZ] at vR;have hd1:d≠92:=pi (n:=92) vR (by decide);refine aR<|ah (bA rfl rfl) rfl<|am rfl<|an kX<|aH rfl (fun vU=>?_) (fun vU=>?_)
  ·
   have YM:=vU;simp only [DZ] at vU;have hdd:d=39:=mH (n:=39) vU (by decide);obtain ⟨e_,kj⟩:∃e,e=d:=⟨_,rfl⟩;have hu2:bL s=bV (s.drop (j_+1)) (j_+1) (l++ [e_]):=by rw [hdd] at hes;rw [kj,hdd,oh];exact hu.trans hes
   refine aR<|ai rfl<|ai rfl<|ai rfl<|ai rfl<|ah (bH rfl rfl (by omega) (by omega)) rfl<|ah (bt (D4 bq rfl rfl rfl (by omega) (by omega) (by omega)) (dw (show _= [d] by rw [show ((i:Int)+1).toNat=i+1 by omega,show ((i:Int)+1+1).toNat=i+1+1 by omega,FO hi3,hd]))) rfl<|ah (dx rfl rfl (by simp only [List.length_cons,List.length_append,List.length_nil];omega)) rfl<|am rfl<|ay<|bS<|bS<|aw dL<|aR<|ai rfl<|ah (bH rfl rfl (by omega) (by omega)) rfl<|am rfl<|ay<|fun a_ bn=>xA _ _ (⟨j_+1,l++ [e_]⟩) (by simp;omega) (by repeat first|exact aB|refine au rfl (by first|rfl|exact int_eq (by omega)|exact dw (by rw [kj])) ?_) ?_ a_ bn
   exact ⟨by omega,by omega,by rw [List.length_append];simp;omega,hu2,hb⟩
  have YM:=vU;simp only [DZ] at vU;have hd2:d≠39:=pi (n:=39) vU (by decide);refine ao fun aam=>ah (bA rfl rfl) rfl<|am rfl<|an aam<|aH rfl (fun vW=>?_) (fun vW=>?_)
  ·
   have YN:=vW;simp only [DZ] at vW;have hdd:d=110:=mH (n:=110) vW (by decide);obtain ⟨e_,kj⟩:∃e:UInt8,e=10:=⟨_,rfl⟩;have hu2:bL s=bV (s.drop (j_+1)) (j_+1) (l++ [e_]):=by rw [hdd] at hes;rw [kj,oh];exact hu.trans hes
   refine aR<|ai rfl<|ah (dx rfl rfl (by simp only [List.length_cons,List.length_append,List.length_nil];omega)) rfl<|am rfl<|ay<|bS<|bS<|aw dL<|aR<|ai rfl<|ah (bH rfl rfl (by omega) (by omega)) rfl<|am rfl<|ay<|fun a_ bn=>xA _ _ (⟨j_+1,l++ [e_]⟩) (by simp;omega) (by repeat first|exact aB|refine au rfl (by first|rfl|exact int_eq (by omega)|exact dw (by rw [kj])) ?_) ?_ a_ bn
   exact ⟨by omega,by omega,by rw [List.length_append];simp;omega,hu2,hb⟩
  have YN:=vW;simp only [DZ] at vW;have hd3:d≠110:=pi (n:=110) vW (by decide);refine ao fun sF=>am rfl<|am rfl<|an sF<|aK<|bE (bE (aQ (aQ (bE (aQ ?_)))))
  refine dv rfl rfl rfl ?_;exact ⟨_,rfl,th (hu.trans (hes.trans (by unfold mR;rw [if_neg hd1,if_neg hd2,if_neg hd3]))) rfl,hb⟩
 have Hc:=il;simp only [DZ] at il;refine cN<|bD<|bD<|cO<|aw ex<|ao fun q7=>am rfl<|am rfl<|an q7<|aK<|dv rfl rfl rfl ?_
 exact ⟨_,rfl,th (hu.trans (T8 l (by have:=il;omega))) rfl,hb⟩
theorem Sw {s:al}:Lib.hasPrefix s [39]=decide (0<s.length∧(s.getD 0 0).toNat=39):=by
 rw [Bool.eq_iff_iff,qF,decide_eq_true_eq]
 constructor
 · rintro ⟨r,rfl⟩;exact ⟨by simp,rfl⟩
 · rintro ⟨h1,h2⟩
   cases s with
   |nil=>simp at h1
   |cons c r=>
    have hc:c=39:=UInt8.toNat_inj.1 h2;exact ⟨r,by rw [hc]⟩
theorem SB {s:al} (h:Lib.hasPrefix s [39]=true):bZ pf bL s=if (bL s).2=0 then none else some (⟨4,0,0,(bL s).1⟩,(bL s).2):=by unfold bZ;rw [if_pos h]
theorem VC (s:al) (hs:s.length≤140737488355328) (w:World):be Tryz.prog 44 [str s] w fun v w'=>v=Mq (bZ pf bL s)∧Below w.heap.size w w':=by
 have hb:=Below.refl w.heap.size w;refine enter Tryz.func44 rfl rfl rfl<|ao fun aZ=>el (z:=nf) (by kernel_rfl) rfl ?_
 rintro aX js iB aj cF;have:=cF.size;have hb:=az hb cF;have:=aj.lt;refine am rfl<|am rfl<|an aZ<|ax fun _ cT=>ax fun _ ex=>b9 (X:=Bool) (fun q=> [(0,str s),(2,.pointer (some ⟨aX,0,none⟩)),(3,.int .i64 0),(4,.bool false),(17,.bool q)]) (fun q wr=>q=Lib.hasPrefix s [39]∧Below w.heap.size w wr∧aq wr aX 96 dh.cells) (fun _ uc=>?_) ?_
 ·
  refine aR<|ai rfl<|ah (dF bq (by omega) rfl) rfl<|ah (eW rfl rfl) rfl<|ai rfl<|cw rfl rfl rfl (fun lX=>?_) (fun lX=>?_)
  ·
   have fX:=lX;simp only [DZ] at lX;refine ai rfl<|aE rfl rfl fX<|ah (eK bq rfl rfl (by omega) (by omega)) rfl<|aE rfl rfl fX<|ah (bA rfl rfl) rfl<|ah (bi rfl fX rfl) rfl<|ay<|aY uc (Lib.hasPrefix s [39]) (by repeat first|exact aB|refine au rfl (by first|rfl|exact aP (by rw [Sw,Bool.eq_iff_iff];simp<;>omega)) ?_) ?_
   exact ⟨rfl,hb,aj⟩
  have fX:=lX;simp only [DZ] at lX;refine aA rfl rfl fX rfl rfl<|aA rfl rfl fX rfl rfl<|ah (bg rfl fX rfl) rfl<|ay<|aY uc (Lib.hasPrefix s [39]) (by repeat first|exact aB|refine au rfl (by first|rfl|exact aP (by rw [Sw,Bool.eq_iff_iff];simp<;>omega)) ?_) ?_
  exact ⟨rfl,hb,aj⟩
 rintro q wr qe;replace qe:q=Lib.hasPrefix s [39]∧Below w.heap.size w wr∧aq wr aX 96 dh.cells:=qe;obtain ⟨hq,hb,aj⟩:=qe;show Wq _ _ _ _ [(0,str s),(2,.pointer (some ⟨aX,0,none⟩)),(3,.int .i64 0),(4,.bool false),(17,.bool q)] _;have:=hb.size;have:=aj.lt;refine aw ex<|aH rfl (fun lM=>?_) (fun lM=>?_)
 ·
  have rO:=lM;have hp:Lib.hasPrefix s [39]=true:=hq.symm.trans rO;refine ao fun iV=>ai rfl<|aS ag2 rfl rfl (VO s hs _) rfl ?_
  rintro _ cq ⟨rfl,bm⟩;have:=bm.size;have hb:=az hb bm;have aj:=aq.below aj bm;refine ai rfl<|ah (bP rfl rfl) rfl<|ah (bP rfl rfl) rfl<|am rfl<|am rfl<|an iV<|ax fun _ eG=>ao fun gK=>ai rfl<|ah (bA rfl rfl) rfl<|an gK<|aH rfl (fun jd=>?_) (fun jd=>?_)
  ·
   have rS:=jd;simp only [DZ] at jd;refine ao fun jh=>aS DT rfl rfl (Dp _) rfl ?_;rintro _ ft ⟨rfl,bp⟩;have:=bp.size;have hb:=az hb bp;have aj:=aq.below aj bp;refine cH (by kernel_rfl) rfl rfl aj rfl rfl ?_;rintro d3 aj bI;have:=bI.size;have hb:=bY hb bI hb.size (by omega);refine am rfl<|am rfl<|an jh<|aK<|aQ (aQ ?_)
   refine fc (rs:= [.cell 2 96,.tmp 3,.tmp 4]) (vs:= [_,_,_]) rfl (.cell rfl (e9 de (by kernel_rfl) (fun j u hu=>aj.at hu)) (.tmp rfl (.tmp rfl .nil))) ?_;exact ⟨_,rfl,by rw [SB hp,if_pos (by have:=jd;omega)];rfl,hb⟩
  have rS:=jd;simp only [DZ] at jd;refine aU<|aw eG<|ao fun xq=>ai rfl<|ah (fe (z:=j2) (pl:=j3) (cs:= [_,_,_,_]) de (by kernel_rfl) (by kernel_rfl) rfl rfl rfl) rfl<|ai rfl<|cH (by kernel_rfl) rfl rfl aj rfl rfl ?_
  rintro ky aj cd;have:=cd.size;have hb:=bY hb cd hb.size (by omega);refine am rfl<|am rfl<|an xq<|aK<|aQ<|fc (rs:= [.cell 2 96,.tmp 3,.tmp 4]) (vs:= [_,_,_]) rfl (.cell rfl (e9 de (by kernel_rfl) (fun j u hu=>aj.at hu)) (.tmp rfl (.tmp rfl .nil))) ?_
  exact ⟨_,rfl,by rw [SB hp,if_neg (by have:=jd;omega)];rfl,hb⟩
 have rO:=lM;have hp:Lib.hasPrefix s [39]=false:=hq.symm.trans rO;refine aU<|aw cT<|ax fun _ f5=>ao fun lu=>ai rfl<|ah (dF bq (by omega) rfl) rfl<|ah (bt (zI rfl rfl) (int_eq (show _=((min s.length 40:Nat):Int) by omega))) rfl<|am rfl<|an lu<|br<|cU (X:=Nat) (fun n=> [(0,str s),(2,.pointer (some ⟨aX,0,none⟩)),(7,.int .i64 (n:Int))]) (fun n wr=>n≤min s.length 40∧(∀m,n<m→m≤min s.length 40→∀u,¬gE u (s.take m))∧Below w.heap.size w wr∧aq wr aX 96 dh.cells) (fun n=>n) (min s.length 40) ?_ ?_ ?_
 · exact by repeat first|exact aB|refine au rfl (by first|rfl|exact int_eq (by omega)) ?_
 · exact ⟨Nat.le_refl _,fun m h1 h2=>by omega,hb,aj⟩
 rintro n wr w7 _ K1;replace w7:n≤min s.length 40∧(∀m,n<m→m≤min s.length 40→∀u,¬gE u (s.take m))∧Below w.heap.size w wr∧aq wr aX 96 dh.cells:=w7;obtain ⟨hn,hno,hb,aj⟩:=w7;show Wc _ _ _ _ _ [(0,str s),(2,.pointer (some ⟨aX,0,none⟩)),(7,.int .i64 (n:Int))] _;have:=hb.size;have:=aj.lt;refine ax fun _ mi=>ao fun qm=>ai rfl<|ah (eW rfl rfl) rfl<|an qm<|aH rfl (fun vn=>?_) (fun vn=>?_)
 ·
  have X0:=vn;simp only [DZ] at vn;have hn0:0<n:=by have:=vn;omega
  refine aU<|aw mi<|ax fun _ n6=>br<|ao fun mj=>ai rfl<|ai rfl<|ah (bt (rz bq rfl rfl (by omega) (by omega)) (dw (show _=s.take n by rw [Int.toNat_natCast]))) rfl<|aS ag3 rfl rfl (VN (s.take n) (by have:=List.length_take_le' n s;omega) _) rfl ?_
  rintro _ gu ⟨⟨u,ok,rfl,hone⟩,bG⟩;have:=bG.size;have hb:=az hb bG;have aj:=aq.below aj bG;refine ai rfl<|ah (bP rfl rfl) rfl<|ah (bP rfl rfl) rfl<|el (z:=nf) (by kernel_rfl) rfl ?_
  rintro ail ajq aiy E3 Ly;have:=Ly.size;have hb:=az hb Ly;have aj:=aq.below aj Ly;have:=E3.lt;refine cH (by kernel_rfl) rfl rfl E3 rfl rfl ?_;rintro oA E3 di;have:=di.size;have hb:=bY hb di hb.size (by omega);have aj:=aj.over di (by omega);refine am rfl<|an mj<|ao fun mn=>ai rfl<|an mn<|aH rfl (fun H1=>?_) (fun H1=>?_)
  ·
   have H2:=H1
   have hhit:bZ pf bL s=some (u,n):=by
    rcases hone with h|h
    · exact ae6 hp h.2 hn hno
    · have:=H2;rw [h.1] at this;cases this
   refine ao fun Cs=>aW (dM de (by kernel_rfl) rfl (by exact fun j u hu=>E3.at hu)) rfl ?_;refine ai rfl<|cH (by kernel_rfl) rfl rfl aj rfl rfl ?_
   rintro tm aj dD;have:=dD.size;have hb:=bY hb dD hb.size (by omega);refine am rfl<|am rfl<|an Cs<|aK<|bE (aQ (aQ (bE (aQ ?_))))
   refine fc (rs:= [.cell 2 96,.tmp 3,.tmp 4]) (vs:= [_,_,_]) rfl (.cell rfl (e9 de (by kernel_rfl) (fun j u hu=>aj.at hu)) (.tmp rfl (.tmp rfl .nil))) ?_;exact ⟨_,rfl,by rw [hhit];rfl,hb⟩
  have H2:=H1
  have hno2:∀m,n - 1<m→m≤min s.length 40→∀u,¬gE u (s.take m):=fun m h1 h2 u'=>by
   by_cases e:m=n
   · rw [e]
     rcases hone with h|h
     · have:=H2;rw [h.1] at this;cases this
     · exact h.2.2 u'
   · exact hno m (by omega) h2 u'
  refine aU<|bS<|aw n6<|aR<|ai rfl<|ah (gk rfl rfl (by omega) (by omega)) rfl<|am rfl<|ay<|fun a_ bn=>K1 _ _ (n - 1) (by omega) (by repeat first|exact aB|refine au rfl (by first|rfl|exact int_eq (by omega)) ?_) ?_ a_ bn
  exact ⟨by omega,hno2,hb,aj⟩
 have X0:=vn;simp only [DZ] at vn;have hmiss:bZ pf bL s=none:=ae8 hp fun m h1 h2 u=>hno m (by have:=vn;omega) h2 u;refine cN<|bD<|bD<|cO<|aw f5<|ao fun kX=>aS DT rfl rfl (Dp _) rfl ?_
 rintro _ hZ ⟨rfl,ck⟩;have:=ck.size;have hb:=az hb ck;have aj:=aq.below aj ck;refine cH (by kernel_rfl) rfl rfl aj rfl rfl ?_;rintro uK aj eH;have:=eH.size;have hb:=bY hb eH hb.size (by omega);refine am rfl<|am rfl<|an kX<|aK<|fc (rs:= [.cell 2 96,.tmp 3,.tmp 4]) (vs:= [_,_,_]) rfl (.cell rfl (e9 de (by kernel_rfl) (fun j u hu=>aj.at hu)) (.tmp rfl (.tmp rfl .nil))) ?_
 exact ⟨_,rfl,by rw [hmiss];rfl,hb⟩
end Go.Proofs.YtjmlknjbhbfneaaGreatDoor
