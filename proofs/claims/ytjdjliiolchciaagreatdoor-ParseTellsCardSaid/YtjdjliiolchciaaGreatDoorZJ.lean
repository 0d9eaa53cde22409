import Derived.Test.YtjdjliiolchciaaGreatDoorZG
import Derived.Test.YtjdjliiolchciaaGreatDoorZH
namespace Go.Proofs.YtjdjliiolchciaaGreatDoor
open Go.RowKit Go.Bw Go.Bw.Fl
set_option linter.unusedVariables false
set_option linter.unusedSimpArgs false
def qc (c:UInt8):ao:=if c=92 then [92,92] else if c=39 then [92,39] else if c=10 then [92,110] else [c]
def lV (s:ao):ao:=39 :: (s.flatMap qc++ [39])
theorem RZ (s:ao):(s.flatMap qc).length≤2 * s.length:=by
 induction s with
 |nil=>simp
 |cons c r ih=>
  rw [List.flatMap_cons,List.length_append,List.length_cons];have:(qc c).length≤2:=by unfold qc;split<;>(try split)<;>(try split)<;>simp
  omega
theorem Nn (x:ao):∀(s:ao) (i:Nat) (a:ao),cZ (s.flatMap qc++39 :: x) i a=(a++s,i+(s.flatMap qc).length+1)
 | [],i,a=>by
  show cZ (39 :: x) i a=_
  cases x with
  |nil=>rw [cZ,if_pos rfl];simp
  |cons d r=>rw [cZ,if_pos rfl];simp
 |c :: r,i,a=>by
  have key:∀(d e:UInt8),o5 d=some e→cZ (92 :: d :: (r.flatMap qc++39 :: x)) i a=(a++e :: r,i+(2+(r.flatMap qc).length)+1):=fun d e he=>by
   rw [cZ,if_neg (by decide),if_neg (by decide),if_pos rfl,he];show cZ (r.flatMap qc++39 :: x) (i+2) (a++ [e])=_;rw [Nn x r (i+2) (a++ [e])];simp;omega
  rw [List.flatMap_cons];by_cases h1:c=92
  · subst h1;exact (key 92 92 (by decide)).trans (by show _=(a++92 :: r,i+([92,92]++r.flatMap qc).length+1);simp;omega)
  · by_cases h2:c=39
    · subst h2;exact (key 39 39 (by decide)).trans (by show _=(a++39 :: r,i+([92,39]++r.flatMap qc).length+1);simp;omega)
    · by_cases h3:c=10
      · subst h3;exact (key 110 10 (by decide)).trans (by show _=(a++10 :: r,i+([92,110]++r.flatMap qc).length+1);simp;omega)
      · have hq:qc c= [c]:=by unfold qc;rw [if_neg h1,if_neg h2,if_neg h3]
        rw [hq];show cZ (c :: (r.flatMap qc++39 :: x)) i a=_;have hih:=Nn x r (i+1) (a++ [c])
        cases hd:r.flatMap qc++39 :: x with
        |nil=>simp at hd
        |cons d t=>
         rw [cZ,if_neg h2,if_neg h3,if_neg h1,←hd,hih];simp;omega
theorem agt (s x:ao):de (lV s++x)=(s,(lV s).length):=by
 have e:lV s++x=39 :: (s.flatMap qc++39 :: x):=by unfold lV;simp
 rw [e];show cZ (s.flatMap qc++39 :: x) 1 []=_;rw [Nn];unfold lV;simp;omega
theorem yX {l:ao} (h:ii l) (hne:l≠ []):∃c r,l=c :: r∧48≤c.toNat∧c.toNat≤57:=by
 cases l with
 |nil=>exact absurd rfl hne
 |cons c r=>exact ⟨c,r,rfl,h c (List.mem_cons_self ..)⟩
theorem OV {c:UInt8} (h:48≤c.toNat∧c.toNat≤57):pZ.contains c=true:=by
 have key:∀n:Fin 256,48≤n.val→n.val≤57→pZ.contains (UInt8.ofNat n.val)=true:=by decide +kernel
 have h2:=key ⟨c.toNat,UInt8.toNat_lt c⟩ h.1 h.2;rw [show UInt8.ofNat c.toNat=c from UInt8.ofNat_toNat] at h2;exact h2
theorem C3 {l:ao} (h:ii l):jZ l=l.length:=by
 induction l with
 |nil=>rfl
 |cons c r ih=>rw [yf,if_pos (OV (h c (List.mem_cons_self ..))),ih (fun x hx=>h x (List.mem_cons_of_mem _ hx)),List.length_cons]
theorem tO {s w:ao} {c d:UInt8} {r x:ao} (hs:s=c :: r) (hw:w=d :: x) (h:c≠d):Lib.hasPrefix s w=false:=by
 subst hs;subst hw
 cases hp:Lib.hasPrefix (c :: r) (d :: x) with
 |false=>rfl
 |true=>
  rw [og] at hp;obtain ⟨t,ht⟩:=hp
  cases ht;exact absurd rfl h
theorem AM:∀(k u:Nat),u<10 ^ (k+1)→(Lib.decDigits u).length≤k+1
 |0,u,h=>by
  rw [Lib.decDigits.eq_def u,dif_pos (by simpa using h)];simp
 |k+1,u,h=>by
  rw [Lib.decDigits.eq_def u]
  split
  · simp
  · have h2:u / 10<10 ^ (k+1):=by
     rw [Nat.div_lt_iff_lt_mul (by decide),←Nat.pow_succ];exact h
    have:=AM k (u / 10) h2;simp only [List.length_append,List.length_cons,List.length_nil];omega
theorem AS (u:Nat) (h:u≤9223372036854775808):(Lib.decDigits u).length≤19:=AM 18 u (by have h2:(10:Nat) ^ (18+1)=10000000000000000000:=(by decide);omega)
theorem adW {s:ao} {n:Int} (hs:s=Lib.itoa n) (h0: -9223372036854775808≤n) (h1:n≤9223372036854775807):dI pf de s=some (⟨2,n,0,[]⟩,s.length):=by
 have hp:jA s=some n:=by unfold jA;rw [Lib.parseIntB_64,hs,yL h0 h1]
 have hlen:s.length≤20:=by
  rw [hs];unfold Lib.itoa;by_cases h:n<0
  · rw [if_pos h]
    have:=AS n.natAbs (by omega);rw [List.length_cons];omega
  · rw [if_neg h]
    have:=ml n.toNat (by omega);omega
 have hne:∃c r,s=c :: r∧(c=45∧(∃d r',r=d :: r'∧48≤d.toNat∧d.toNat≤57)∧ii r∨(48≤c.toNat∧c.toNat≤57)∧ii s):=by
  rw [hs];unfold Lib.itoa;by_cases h:n<0
  · rw [if_pos h]
    obtain ⟨a,_,b⟩:=jD n.natAbs;exact ⟨45,_,rfl,.inl ⟨rfl,yX a b,a⟩⟩
  · rw [if_neg h]
    obtain ⟨a,_,b⟩:=jD n.toNat;obtain ⟨c,r,e,h2⟩:=yX a b;exact ⟨c,r,e,.inr ⟨h2,a⟩⟩
 obtain ⟨c,r,hcr,hc⟩:=hne
 have hlead:lead s=s.length:=by
  rcases hc with ⟨rfl,_,ha⟩|⟨h2,ha⟩
  · rw [hcr,CW,C3 ha];simp
  · rw [CX (by rw [hcr];exact tO rfl rfl (fun e=>by subst e;exact absurd h2.1 (by decide))),C3 ha]
 have hno:∀(w x:ao) (d:UInt8),w=d :: x→d≠45→(d.toNat<48∨57<d.toNat)→Lib.hasPrefix s w=false:=fun w x d hw h45 hd=>by
  refine tO hcr hw (fun e=>?_);subst e
  rcases hc with ⟨h2,_⟩|⟨h2,_⟩
  · exact h45 h2
  · omega
 have hw3:gW.find? (fun x=>Lib.hasPrefix s x)=none:=by
  rw [List.find?_eq_none];intro x hx;simp only [gW,List.mem_cons,List.not_mem_nil,or_false] at hx
  rcases hx with rfl|rfl|rfl
  · rw [hno _ _ 110 rfl (by decide) (by decide)];simp
  · rw [hno _ _ 105 rfl (by decide) (by decide)];simp
  · have:Lib.hasPrefix s [45,105,110,102]=false:=by
     rcases hc with ⟨rfl,⟨d,r',hd,h3⟩,_⟩|⟨h2,_⟩
     · cases hq:Lib.hasPrefix s [45,105,110,102] with
       |false=>rfl
       |true=>
        rw [og] at hq;obtain ⟨t,ht⟩:=hq;rw [hcr,hd] at ht;injection ht with _ ht2
        injection ht2 with ht3 _
        subst ht3;exact absurd h3.2 (by decide)
     · exact tO hcr rfl (fun e=>by subst e;exact absurd h2.1 (by decide))
    rw [this];simp
 have hfl:il pf s=none:=by
  unfold il;rw [hlead,List.getElem?_eq_none (Nat.le_refl _)];rfl
 have hdn:jl s (min (lead s) 20)=some (⟨2,n,0,[]⟩,s.length):=by
  have hpos:0<s.length:=by rw [hcr];simp
  rw [hlead,Nat.min_eq_left hlen];obtain ⟨j,hj⟩:∃j,s.length=j+1:=⟨s.length - 1,by omega⟩;rw [hj,jl,←hj,List.take_length,hp];simp [hs]
 unfold dI;rw [hno [39] [] 39 rfl (by decide) (by decide),hno gi _ 110 rfl (by decide) (by decide),hno gU _ 102 rfl (by decide) (by decide),hno gV _ 116 rfl (by decide) (by decide),hw3,hfl,hdn];rfl
theorem YD {d e:UInt8} (h:o5 d=some e):qc e= [92,d]:=by
 unfold o5 at h;by_cases h1:d=92
 · subst h1;rw [if_pos rfl] at h;cases h;rfl
 rw [if_neg h1] at h;by_cases h2:d=39
 · subst h2;rw [if_pos rfl] at h;cases h;rfl
 rw [if_neg h2] at h;by_cases h3:d=110
 · subst h3;rw [if_pos rfl] at h;cases h;rfl
 rw [if_neg h3] at h;cases h
theorem adH {c:UInt8} (h1:c≠39) (h2:c≠10) (h3:c≠92):qc c= [c]:=by unfold qc;rw [if_neg h3,if_neg h1,if_neg h2]
theorem Nk:∀(r:ao) (i:Nat) (a:ao),(cZ r i a).2≠0→∃u,(cZ r i a).1=a++u∧r.take ((cZ r i a).2 - i)=u.flatMap qc++ [39]
 | [],i,a,h=>absurd rfl h
 | [c],i,a,h=>by
  by_cases h1:c=39
  · subst h1
    rw [cZ,if_pos rfl];exact ⟨[],by simp,by rw [show i+1 - i=1 by omega];rfl⟩
  · rw [cZ,if_neg h1] at h;exact absurd rfl h
 |c :: d :: r,i,a,h=>by
  by_cases h1:c=39
  · subst h1
    rw [cZ,if_pos rfl];exact ⟨[],by simp,by rw [show i+1 - i=1 by omega];rfl⟩
  by_cases h2:c=10
  · rw [cZ,if_neg h1,if_pos h2] at h;exact absurd rfl h
  by_cases h3:c=92
  · subst h3
    rw [cZ,if_neg h1,if_neg h2,if_pos rfl] at h ⊢
    cases he:o5 d with
    |none=>rw [he] at h;exact absurd rfl h
    |some e=>
     rw [he] at h;have hl:=sx r (i+2) (a++ [e]) h;obtain ⟨u,g1,g2⟩:=Nk r (i+2) (a++ [e]) h;refine ⟨e :: u,?_,?_⟩
     · show (cZ r (i+2) (a++ [e])).1=_
       rw [g1];simp
     · show (92 :: d :: r).take ((cZ r (i+2) (a++ [e])).2 - i)=_
       rw [show (cZ r (i+2) (a++ [e])).2 - i=(cZ r (i+2) (a++ [e])).2 - (i+2)+1+1 by omega,List.take_succ_cons,List.take_succ_cons,g2,List.flatMap_cons,YD he];rfl
  · rw [cZ,if_neg h1,if_neg h2,if_neg h3] at h ⊢
    have hl:=sx (d :: r) (i+1) (a++ [c]) h;obtain ⟨u,g1,g2⟩:=Nk (d :: r) (i+1) (a++ [c]) h;refine ⟨c :: u,by rw [g1];simp,?_⟩;rw [show (cZ (d :: r) (i+1) (a++ [c])).2 - i=(cZ (d :: r) (i+1) (a++ [c])).2 - (i+1)+1 by omega,List.take_succ_cons,g2,List.flatMap_cons,adH h1 h2 h3];rfl
theorem adL {s:ao} (hp:Lib.hasPrefix s [39]=true) (h:(de s).2≠0):lV (de s).1=s.take (de s).2:=by
 obtain ⟨r,rfl⟩:=(yh _ _).1 hp;obtain ⟨u,g1,g2⟩:=Nk r 1 [] h;have hl:=sx r 1 [] h;have e:de (39 :: r)=cZ r 1 []:=rfl;rw [e,g1];rw [show (cZ r 1 []).2=(cZ r 1 []).2 - 1+1 by omega,List.take_succ_cons,g2];rfl
def qr (v:c7):ao:=(nh (lV v.s) v).1
theorem adQ {s:ao} {v:c7} {n:Nat} (h:dI pf de s=some (v,n)):iB v=true∧qr v=s.take n:=by
 have hn:∀{w:ao},Lib.hasPrefix s w=true→s.take w.length=w:=fun {w} hw=>by
  obtain ⟨t,rfl⟩:=(og _ _).1 hw;simp
 have hf:∀{t:ao} {f:Nat},pf t=some f→iB ⟨3,0,f,[]⟩=true∧qr ⟨3,0,f,[]⟩=t:=fun {t f} hp=>by
  obtain ⟨h1,h2⟩:=Mz hp;have hr:iB ⟨3,0,f,[]⟩=true:=decide_eq_true ⟨rfl,rfl,h1.one⟩;refine ⟨hr,?_⟩;unfold qr nh;rw [if_neg (by rw [hr];simp)];exact h2
 unfold dI at h
 split at h
 · rename_i hq
   split at h
   · cases h
   · rename_i h0
     cases h
     have hr:iB ⟨4,0,0,(de s).1⟩=true:=rfl;exact ⟨hr,by rw [←adL hq h0];rfl⟩
 split at h
 · rename_i hw;cases h;exact ⟨rfl,(hn hw).symm⟩
 split at h
 · rename_i hw;cases h;exact ⟨rfl,(hn hw).symm⟩
 split at h
 · rename_i hw;cases h;exact ⟨rfl,(hn hw).symm⟩
 split at h
 · rename_i x hx
   cases h
   have hm:=List.mem_of_find?_eq_some hx;have hp:=List.find?_some hx;rw [hn hp]
   have hex:∃f,pf x=some f:=by
    simp only [gW,List.mem_cons,List.not_mem_nil,or_false] at hm
    rcases hm with rfl|rfl|rfl
    · exact ⟨_,oL (f:=9221120237041090561) ⟨by decide,by decide⟩ (by kernel_rfl)⟩
    · exact ⟨_,oL (f:=9218868437227405312) ⟨by decide,by decide⟩ (by kernel_rfl)⟩
    · exact ⟨_,oL (f:=18442240474082181120) ⟨by decide,by decide⟩ (by kernel_rfl)⟩
   obtain ⟨f,hf'⟩:=hex;rw [hf'];exact hf hf'
 split at h
 · rename_i r hr
   cases h
   obtain ⟨_,j,f,_,h2,h3,_⟩:=EQ hr;injection h3 with h4 h5
   subst h4 h5;exact hf h2
 · obtain ⟨j,x,_,h1,h2,h3,_⟩:=EG h
   injection h3 with h4 h5
   subst h4 h5;exact ⟨rfl,h2⟩
theorem LV (e:Int) (h0: -9999≤e) (h1:e≤9999):∃D,ii D∧D≠ []∧D.length≤4∧(Lib.itoa e=D∨Lib.itoa e=45 :: D):=by
 unfold Lib.itoa;by_cases h:e<0
 · obtain ⟨a,_,b⟩:=jD e.natAbs
   exact ⟨_,a,b,AM 3 _ (by show _<10000;omega),.inr (if_pos h)⟩
 · obtain ⟨a,_,b⟩:=jD e.toNat
   exact ⟨_,a,b,AM 3 _ (by show _<10000;omega),.inl (if_neg h)⟩
theorem OT {D:ao} (h:ii D) {r:ao} (hne:D≠ []) {k:UInt8} (hk:k.toNat<48∨57<k.toNat):¬(D++r)[0]? =some k:=fun e=>by
 obtain ⟨c,x,rfl,h1,h2⟩:=yX h hne;simp only [List.cons_append,List.getElem?_cons_zero,Option.some.injEq] at e;subst e;omega
theorem Sd {s:ao} {f:Nat} {n:Bool} {M:Nat} {e:Int} (hp:pf s=some f) (hs:s=fq n++eD M e) (h0: -9999≤e) (h1:e≤9999):dI pf de s=some (⟨3,0,f,[]⟩,s.length):=by
 obtain ⟨dm,_,dn⟩:=jD M;obtain ⟨D,ha,hb,hl,hi⟩:=LV e h0 h1
 have hlead:lead s=(fq n).length+(Lib.decDigits M).length:=by
  have hd:jZ (eD M e)=(Lib.decDigits M).length:=by unfold eD;rw [Mg 112 _ (by decide),C3 dm]
  rw [hs]
  cases n
  · show lead (eD M e)=_
    obtain ⟨c,r,hc,h2,h3⟩:=rG M e;rw [CX (by rw [hc];exact tO rfl rfl (fun e=>by subst e;exact absurd h2 (by decide))),hd];simp [fq]
  · show lead (45 :: eD M e)=_
    rw [CW,hd];simp [fq];omega
 have hsd:s.drop (lead s)=112 :: Lib.itoa e:=by
  rw [hlead,hs];unfold eD;rw [←List.append_assoc,List.drop_left' (by rw [List.length_append])]
 have hslen:s.length=lead s+1+(Lib.itoa e).length:=by
  have:=congrArg List.length hsd;rw [List.length_drop,List.length_cons] at this;have:=L0 s;omega
 have hat:∀k,s[lead s+k]? =(112 :: Lib.itoa e)[k]? :=fun k=>by rw [←hsd,List.getElem?_drop]
 have hP:s[lead s]? =some 112:=by have:=hat 0;simpa using this
 have hK:d6 s+D.length=s.length∧s.drop (d6 s)=D:=by
  have h2:=hat 1;simp only [List.getElem?_cons_succ] at h2;unfold d6
  rcases hi with hi|hi
  · rw [if_neg (by rw [h2,hi];have:=OT ha (r:= []) hb (k:=45) (.inl (by decide));simpa using this)]
    refine ⟨by rw [hslen,hi],?_⟩;rw [←List.drop_drop,hsd,hi];rfl
  · rw [if_pos (by rw [h2,hi];rfl)]
    refine ⟨by rw [hslen,hi,List.length_cons];omega,?_⟩;rw [←List.drop_drop,hsd,hi];rfl
 have hM:kY s=D.length:=by unfold kY;rw [hK.2,C3 ha];omega
 have hpos:0<D.length:=List.length_pos_iff.2 hb
 have hfl:il pf s=some (⟨3,0,f,[]⟩,s.length):=by
  unfold il;rw [if_pos hP];have ht:pf (s.take (d6 s+kY s))=some f:=by rw [hM,hK.1,List.take_length];exact hp
  rw [OX (by rw [ht];rfl) (by omega),ht,hM,hK.1];rfl
 have hne:∃c r,s=c :: r∧(c=45∧(∃d r',r=d :: r'∧48≤d.toNat∧d.toNat≤57)∨(48≤c.toNat∧c.toNat≤57)):=by
  obtain ⟨c,r,hc,h2,h3⟩:=rG M e;rw [hs,hc]
  cases n
  · exact ⟨c,r,rfl,.inr ⟨h2,h3⟩⟩
  · exact ⟨45,_,rfl,.inl ⟨rfl,c,r,rfl,h2,h3⟩⟩
 obtain ⟨c,r,hcr,hc⟩:=hne
 have hno:∀(w x:ao) (d:UInt8),w=d :: x→d≠45→(d.toNat<48∨57<d.toNat)→Lib.hasPrefix s w=false:=fun w x d hw h45 hd=>by
  refine tO hcr hw (fun e=>?_);subst e
  rcases hc with ⟨h2,_⟩|h2
  · exact h45 h2
  · omega
 have hw3:gW.find? (fun x=>Lib.hasPrefix s x)=none:=by
  rw [List.find?_eq_none];intro x hx;simp only [gW,List.mem_cons,List.not_mem_nil,or_false] at hx
  rcases hx with rfl|rfl|rfl
  · rw [hno _ _ 110 rfl (by decide) (by decide)];simp
  · rw [hno _ _ 105 rfl (by decide) (by decide)];simp
  · have:Lib.hasPrefix s [45,105,110,102]=false:=by
     rcases hc with ⟨rfl,⟨d,r',hd,h3⟩⟩|h2
     · cases hq:Lib.hasPrefix s [45,105,110,102] with
       |false=>rfl
       |true=>
        rw [og] at hq;obtain ⟨t,ht⟩:=hq;rw [hcr,hd] at ht;injection ht with _ ht2
        injection ht2 with ht3 _
        subst ht3;exact absurd h3.2 (by decide)
     · exact tO hcr rfl (fun e=>by subst e;exact absurd h2.1 (by decide))
    rw [this];simp
 unfold dI;rw [hno [39] [] 39 rfl (by decide) (by decide),hno gi _ 110 rfl (by decide) (by decide),hno gU _ 102 rfl (by decide) (by decide),hno gV _ 116 rfl (by decide) (by decide),hw3,hfl];rfl
theorem adS {f:Nat} (hf:Cn f):dI pf de (ec f)=some (⟨3,0,f,[]⟩,(ec f).length):=by
 have hp:=oL hf rfl;by_cases h1:isNan f=true
 · have ht:=yn h1
   rw [ht] at hp ⊢;have:dI pf de [110,97,110]=some (⟨3,0,(pf [110,97,110]).getD 0,[]⟩,3):=rfl;rw [this,hp];rfl
 have h1':isNan f=false:=by simpa using h1
 by_cases h2:rung f=9218868437227405312
 · have ht:ec f=fq (dM f)++ [105,110,102]:=rK h1' h2
   cases hn:dM f
   · rw [hn] at ht
     have ht:ec f= [105,110,102]:=ht;rw [ht] at hp ⊢;have:dI pf de [105,110,102]=some (⟨3,0,(pf [105,110,102]).getD 0,[]⟩,3):=rfl;rw [this,hp];rfl
   · rw [hn] at ht
     have ht:ec f= [45,105,110,102]:=ht;rw [ht] at hp ⊢;have:dI pf de [45,105,110,102]=some (⟨3,0,(pf [45,105,110,102]).getD 0,[]⟩,4):=rfl;rw [this,hp];rfl
 have h6:rung f≤9218868437227405312:=by simpa [isNan,rung] using h1'
 have hr:rung f<9218868437227405312:=by omega
 by_cases h3:rung f=0
 · refine Sd (n:=dM f) (M:=0) (e:=0) hp ?_ (by decide) (by decide)
   rw [rL h1' h2 h3]
   have:eD 0 0= [48,112,48]:=by
    have e0:Lib.decDigits 0= [48]:=Lib.decDigits_one (by decide);have e1:Lib.itoa 0=Lib.decDigits 0:=rfl;unfold eD;rw [e1,e0];rfl
   rw [this];rfl
 · have e1:=rZ hr
   have e2:=sy hr h3;refine Sd (n:=dM f) (M:=od (b7 (rung f))) (e:=eE (rung f)+v2 (b7 (rung f))) hp ?_ (by omega) (by omega);rw [qs h1' h2 h3];unfold eD;rw [Dn];simp
theorem ME {x:c7} (o:x.Ok) (h:iB x=true):dI pf de (qr x)=some (x,(qr x).length):=by
 obtain ⟨k,n,f,s⟩:=x;have hr:=h;unfold iB at h;simp only at h
 have ht:qr ⟨k,n,f,s⟩=if k=1 then (if (n==1)=true then [116,114,117,101] else [102,97,108,115,101]) else if k=2 then Lib.itoa n else if k=3 then ec f else if k=4 then lV s else [110,117,108,108]:=by
  unfold qr nh;rw [if_neg (by rw [hr];simp)];simp only
  split
  · rfl
  split
  · rfl
  split
  · rfl
  split<;>rfl
 rw [ht];by_cases k0:k=0
 · subst k0
   rw [if_pos rfl] at h;obtain ⟨rfl,rfl,rfl⟩:=of_decide_eq_true h
   rfl
 rw [if_neg k0] at h;by_cases k1:k=1
 · subst k1
   rw [if_pos rfl] at h ⊢;obtain ⟨hn,rfl,rfl⟩:=of_decide_eq_true h
   rcases hn with rfl|rfl<;>rfl
 rw [if_neg k1] at h ⊢;by_cases k2:k=2
 · subst k2
   rw [if_pos rfl] at h ⊢;obtain ⟨rfl,rfl⟩:=of_decide_eq_true h;exact adW rfl o.n0 o.n1
 rw [if_neg k2] at h ⊢;by_cases k3:k=3
 · subst k3
   rw [if_pos rfl] at h ⊢;obtain ⟨rfl,rfl,hc⟩:=of_decide_eq_true h;exact adS ⟨o.f1,hc⟩
 rw [if_neg k3] at h ⊢;by_cases k4:k=4
 · subst k4
   rw [if_pos rfl] at h ⊢;obtain ⟨rfl,rfl⟩:=of_decide_eq_true h;have h0:de (lV s)=(s,(lV s).length):=by have:=agt s [];rwa [List.append_nil] at this
   have hp:Lib.hasPrefix (lV s) [39]=true:=(yh _ _).2 ⟨_,rfl⟩;unfold dI;rw [if_pos hp,h0,if_neg (by show ¬(lV s).length=0;unfold lV;simp)]
 · rw [if_neg k4] at h;cases h
end Go.Proofs.YtjdjliiolchciaaGreatDoor
