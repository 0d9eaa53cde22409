import Derived.Test.YtjmlknjbhbfneaaGreatDoorZG
import Derived.Test.YtjmlknjbhbfneaaGreatDoorZH
namespace Go.Proofs.YtjmlknjbhbfneaaGreatDoor
open Go.RowKit Go.Bw Go.Bw.Fl
set_option linter.unusedVariables false
set_option linter.unusedSimpArgs false
def qc (c:UInt8):al:=if c=92 then [92,92] else if c=39 then [92,39] else if c=10 then [92,110] else [c]
def gi (s:al):al:=39 :: (s.flatMap qc++ [39])
theorem Mo (s:al):(s.flatMap qc).length≤2 * s.length:=by
 induction s with
 |nil=>simp
 |cons c r ih=>
  rw [List.flatMap_cons,List.length_append,List.length_cons];have:(qc c).length≤2:=by unfold qc;split<;>(try split)<;>(try split)<;>simp
  omega
theorem M3 (x:al):∀(s:al) (i:Nat) (a:al),bV (s.flatMap qc++39 :: x) i a=(a++s,i+(s.flatMap qc).length+1)
 | [],i,a=>by
  show bV (39 :: x) i a=_
  cases x with
  |nil=>rw [bV,if_pos rfl];simp
  |cons d r=>rw [bV,if_pos rfl];simp
 |c :: r,i,a=>by
  have key:∀(d e:UInt8),mR d=some e→bV (92 :: d :: (r.flatMap qc++39 :: x)) i a=(a++e :: r,i+(2+(r.flatMap qc).length)+1):=fun d e he=>by
   rw [bV,if_neg (by decide),if_neg (by decide),if_pos rfl,he];show bV (r.flatMap qc++39 :: x) (i+2) (a++ [e])=_;rw [M3 x r (i+2) (a++ [e])];simp;omega
  rw [List.flatMap_cons];by_cases h1:c=92
  · subst h1;exact (key 92 92 (by decide)).trans (by show _=(a++92 :: r,i+([92,92]++r.flatMap qc).length+1);simp;omega)
  · by_cases h2:c=39
    · subst h2;exact (key 39 39 (by decide)).trans (by show _=(a++39 :: r,i+([92,39]++r.flatMap qc).length+1);simp;omega)
    · by_cases h3:c=10
      · subst h3;exact (key 110 10 (by decide)).trans (by show _=(a++10 :: r,i+([92,110]++r.flatMap qc).length+1);simp;omega)
      · have hq:qc c= [c]:=by unfold qc;rw [if_neg h1,if_neg h2,if_neg h3]
        rw [hq];show bV (c :: (r.flatMap qc++39 :: x)) i a=_;have hih:=M3 x r (i+1) (a++ [c])
        cases hd:r.flatMap qc++39 :: x with
        |nil=>simp at hd
        |cons d t=>
         rw [bV,if_neg h2,if_neg h3,if_neg h1,←hd,hih];simp;omega
theorem ahn (s x:al):bL (gi s++x)=(s,(gi s).length):=by
 have e:gi s++x=39 :: (s.flatMap qc++39 :: x):=by unfold gi;simp
 rw [e];show bV (s.flatMap qc++39 :: x) 1 []=_;rw [M3];unfold gi;simp;omega
theorem yH {l:al} (h:fT l) (hne:l≠ []):∃c r,l=c :: r∧48≤c.toNat∧c.toNat≤57:=by
 cases l with
 |nil=>exact absurd rfl hne
 |cons c r=>exact ⟨c,r,rfl,h c (List.mem_cons_self ..)⟩
theorem OM {c:UInt8} (h:48≤c.toNat∧c.toNat≤57):nN.contains c=true:=by
 have key:∀n:Fin 256,48≤n.val→n.val≤57→nN.contains (UInt8.ofNat n.val)=true:=by decide +kernel
 have h2:=key ⟨c.toNat,UInt8.toNat_lt c⟩ h.1 h.2;rw [show UInt8.ofNat c.toNat=c from UInt8.ofNat_toNat] at h2;exact h2
theorem Dm {l:al} (h:fT l):iE l=l.length:=by
 induction l with
 |nil=>rfl
 |cons c r ih=>rw [xR,if_pos (OM (h c (List.mem_cons_self ..))),ih (fun x hx=>h x (List.mem_cons_of_mem _ hx)),List.length_cons]
theorem s8 {s w:al} {c d:UInt8} {r x:al} (hs:s=c :: r) (hw:w=d :: x) (h:c≠d):Lib.hasPrefix s w=false:=by
 subst hs;subst hw
 cases hp:Lib.hasPrefix (c :: r) (d :: x) with
 |false=>rfl
 |true=>
  rw [ni] at hp;obtain ⟨t,ht⟩:=hp
  cases ht;exact absurd rfl h
theorem AM:∀(k u:Nat),u<10 ^ (k+1)→(Lib.decDigits u).length≤k+1
 |0,u,h=>by
  rw [Lib.decDigits.eq_def u,dif_pos (by simpa using h)];simp
 |k+1,u,h=>by
  rw [Lib.decDigits.eq_def u]
  split
  · simp
  · have h2:u / 10<10 ^ (k+1):=by
     rw [Nat.div_lt_iff_lt_mul (by decide),←Nat.pow_succ];exact h
    have:=AM k (u / 10) h2;simp only [List.length_append,List.length_cons,List.length_nil];omega
theorem tS (u:Nat) (h:u≤9223372036854775808):(Lib.decDigits u).length≤19:=AM 18 u (by have h2:(10:Nat) ^ (18+1)=10000000000000000000:=(by decide);omega)
theorem ae7 {s:al} {n:Int} (hs:s=Lib.itoa n) (h0: -9223372036854775808≤n) (h1:n≤9223372036854775807):bZ pf bL s=some (⟨2,n,0,[]⟩,s.length):=by
 have hp:gM s=some n:=by unfold gM;rw [Lib.parseIntB_64,hs,yq h0 h1]
 have hlen:s.length≤20:=by
  rw [hs];unfold Lib.itoa;by_cases h:n<0
  · rw [if_pos h]
    have:=tS n.natAbs (by omega);rw [List.length_cons];omega
  · rw [if_neg h]
    have:=kF n.toNat (by omega);omega
 have hne:∃c r,s=c :: r∧(c=45∧(∃d r',r=d :: r'∧48≤d.toNat∧d.toNat≤57)∧fT r∨(48≤c.toNat∧c.toNat≤57)∧fT s):=by
  rw [hs];unfold Lib.itoa;by_cases h:n<0
  · rw [if_pos h]
    obtain ⟨a,_,b⟩:=gT n.natAbs;exact ⟨45,_,rfl,.inl ⟨rfl,yH a b,a⟩⟩
  · rw [if_neg h]
    obtain ⟨a,_,b⟩:=gT n.toNat;obtain ⟨c,r,e,h2⟩:=yH a b;exact ⟨c,r,e,.inr ⟨h2,a⟩⟩
 obtain ⟨c,r,hcr,hc⟩:=hne
 have hlead:lead s=s.length:=by
  rcases hc with ⟨rfl,_,ha⟩|⟨h2,ha⟩
  · rw [hcr,xN,Dm ha];simp
  · rw [xO (by rw [hcr];exact s8 rfl rfl (fun e=>by subst e;exact absurd h2.1 (by decide))),Dm ha]
 have hno:∀(w x:al) (d:UInt8),w=d :: x→d≠45→(d.toNat<48∨57<d.toNat)→Lib.hasPrefix s w=false:=fun w x d hw h45 hd=>by
  refine s8 hcr hw (fun e=>?_);subst e
  rcases hc with ⟨h2,_⟩|⟨h2,_⟩
  · exact h45 h2
  · omega
 have hw3:fS.find? (fun x=>Lib.hasPrefix s x)=none:=by
  rw [List.find?_eq_none];intro x hx;simp only [fS,List.mem_cons,List.not_mem_nil,or_false] at hx
  rcases hx with rfl|rfl|rfl
  · rw [hno _ _ 110 rfl (by decide) (by decide)];simp
  · rw [hno _ _ 105 rfl (by decide) (by decide)];simp
  · have:Lib.hasPrefix s [45,105,110,102]=false:=by
     rcases hc with ⟨rfl,⟨d,r',hd,h3⟩,_⟩|⟨h2,_⟩
     · cases hq:Lib.hasPrefix s [45,105,110,102] with
       |false=>rfl
       |true=>
        rw [ni] at hq;obtain ⟨t,ht⟩:=hq;rw [hcr,hd] at ht;injection ht with _ ht2
        injection ht2 with ht3 _
        subst ht3;exact absurd h3.2 (by decide)
     · exact s8 hcr rfl (fun e=>by subst e;exact absurd h2.1 (by decide))
    rw [this];simp
 have hfl:fD pf s=none:=by
  unfold fD;rw [hlead,List.getElem?_eq_none (Nat.le_refl _)];rfl
 have hdn:fV s (min (lead s) 20)=some (⟨2,n,0,[]⟩,s.length):=by
  have hpos:0<s.length:=by rw [hcr];simp
  rw [hlead,Nat.min_eq_left hlen];obtain ⟨j,hj⟩:∃j,s.length=j+1:=⟨s.length - 1,by omega⟩;rw [hj,fV,←hj,List.take_length,hp];simp [hs]
 unfold bZ;rw [hno [39] [] 39 rfl (by decide) (by decide),hno lE _ 110 rfl (by decide) (by decide),hno jq _ 102 rfl (by decide) (by decide),hno jr _ 116 rfl (by decide) (by decide),hw3,hfl,hdn];rfl
theorem ZA {d e:UInt8} (h:mR d=some e):qc e= [92,d]:=by
 unfold mR at h;by_cases h1:d=92
 · subst h1;rw [if_pos rfl] at h;cases h;rfl
 rw [if_neg h1] at h;by_cases h2:d=39
 · subst h2;rw [if_pos rfl] at h;cases h;rfl
 rw [if_neg h2] at h;by_cases h3:d=110
 · subst h3;rw [if_pos rfl] at h;cases h;rfl
 rw [if_neg h3] at h;cases h
theorem Sv {c:UInt8} (h1:c≠39) (h2:c≠10) (h3:c≠92):qc c= [c]:=by unfold qc;rw [if_neg h3,if_neg h1,if_neg h2]
theorem M1:∀(r:al) (i:Nat) (a:al),(bV r i a).2≠0→∃u,(bV r i a).1=a++u∧r.take ((bV r i a).2 - i)=u.flatMap qc++ [39]
 | [],i,a,h=>absurd rfl h
 | [c],i,a,h=>by
  by_cases h1:c=39
  · subst h1
    rw [bV,if_pos rfl];exact ⟨[],by simp,by rw [show i+1 - i=1 by omega];rfl⟩
  · rw [bV,if_neg h1] at h;exact absurd rfl h
 |c :: d :: r,i,a,h=>by
  by_cases h1:c=39
  · subst h1
    rw [bV,if_pos rfl];exact ⟨[],by simp,by rw [show i+1 - i=1 by omega];rfl⟩
  by_cases h2:c=10
  · rw [bV,if_neg h1,if_pos h2] at h;exact absurd rfl h
  by_cases h3:c=92
  · subst h3
    rw [bV,if_neg h1,if_neg h2,if_pos rfl] at h ⊢
    cases he:mR d with
    |none=>rw [he] at h;exact absurd rfl h
    |some e=>
     rw [he] at h;have hl:=qJ r (i+2) (a++ [e]) h;obtain ⟨u,g1,g2⟩:=M1 r (i+2) (a++ [e]) h;refine ⟨e :: u,?_,?_⟩
     · show (bV r (i+2) (a++ [e])).1=_
       rw [g1];simp
     · show (92 :: d :: r).take ((bV r (i+2) (a++ [e])).2 - i)=_
       rw [show (bV r (i+2) (a++ [e])).2 - i=(bV r (i+2) (a++ [e])).2 - (i+2)+1+1 by omega,List.take_succ_cons,List.take_succ_cons,g2,List.flatMap_cons,ZA he];rfl
  · rw [bV,if_neg h1,if_neg h2,if_neg h3] at h ⊢
    have hl:=qJ (d :: r) (i+1) (a++ [c]) h;obtain ⟨u,g1,g2⟩:=M1 (d :: r) (i+1) (a++ [c]) h;refine ⟨c :: u,by rw [g1];simp,?_⟩;rw [show (bV (d :: r) (i+1) (a++ [c])).2 - i=(bV (d :: r) (i+1) (a++ [c])).2 - (i+1)+1 by omega,List.take_succ_cons,g2,List.flatMap_cons,Sv h1 h2 h3];rfl
theorem aeQ {s:al} (hp:Lib.hasPrefix s [39]=true) (h:(bL s).2≠0):gi (bL s).1=s.take (bL s).2:=by
 obtain ⟨r,rfl⟩:=(qF _ _).1 hp;obtain ⟨u,g1,g2⟩:=M1 r 1 [] h;have hl:=qJ r 1 [] h;have e:bL (39 :: r)=bV r 1 []:=rfl;rw [e,g1];rw [show (bV r 1 []).2=(bV r 1 []).2 - 1+1 by omega,List.take_succ_cons,g2];rfl
def ku (v:bW):al:=(gj (gi v.s) v).1
theorem SC {s:al} {v:bW} {n:Nat} (h:bZ pf bL s=some (v,n)):en v=true∧ku v=s.take n:=by
 have hn:∀{w:al},Lib.hasPrefix s w=true→s.take w.length=w:=fun {w} hw=>by
  obtain ⟨t,rfl⟩:=(ni _ _).1 hw;simp
 have hf:∀{t:al} {f:Nat},pf t=some f→en ⟨3,0,f,[]⟩=true∧ku ⟨3,0,f,[]⟩=t:=fun {t f} hp=>by
  obtain ⟨h1,h2⟩:=Mb hp;have hr:en ⟨3,0,f,[]⟩=true:=decide_eq_true ⟨rfl,rfl,h1.one⟩;refine ⟨hr,?_⟩;unfold ku gj;rw [if_neg (by rw [hr];simp)];exact h2
 unfold bZ at h
 split at h
 · rename_i hq
   split at h
   · cases h
   · rename_i h0
     cases h
     have hr:en ⟨4,0,0,(bL s).1⟩=true:=rfl;exact ⟨hr,by rw [←aeQ hq h0];rfl⟩
 split at h
 · rename_i hw;cases h;exact ⟨rfl,(hn hw).symm⟩
 split at h
 · rename_i hw;cases h;exact ⟨rfl,(hn hw).symm⟩
 split at h
 · rename_i hw;cases h;exact ⟨rfl,(hn hw).symm⟩
 split at h
 · rename_i x hx
   cases h
   have hm:=List.mem_of_find?_eq_some hx;have hp:=List.find?_some hx;rw [hn hp]
   have hex:∃f,pf x=some f:=by
    simp only [fS,List.mem_cons,List.not_mem_nil,or_false] at hm
    rcases hm with rfl|rfl|rfl
    · exact ⟨_,nh (f:=9221120237041090561) ⟨by decide,by decide⟩ (by kernel_rfl)⟩
    · exact ⟨_,nh (f:=9218868437227405312) ⟨by decide,by decide⟩ (by kernel_rfl)⟩
    · exact ⟨_,nh (f:=18442240474082181120) ⟨by decide,by decide⟩ (by kernel_rfl)⟩
   obtain ⟨f,hf'⟩:=hex;rw [hf'];exact hf hf'
 split at h
 · rename_i r hr
   cases h
   obtain ⟨_,j,f,_,h2,h3,_⟩:=ET hr;injection h3 with h4 h5
   subst h4 h5;exact hf h2
 · obtain ⟨j,x,_,h1,h2,h3,_⟩:=EC h
   injection h3 with h4 h5
   subst h4 h5;exact ⟨rfl,h2⟩
theorem Fz (e:Int) (h0: -9999≤e) (h1:e≤9999):∃D,fT D∧D≠ []∧D.length≤4∧(Lib.itoa e=D∨Lib.itoa e=45 :: D):=by
 unfold Lib.itoa;by_cases h:e<0
 · obtain ⟨a,_,b⟩:=gT e.natAbs
   exact ⟨_,a,b,AM 3 _ (by show _<10000;omega),.inr (if_pos h)⟩
 · obtain ⟨a,_,b⟩:=gT e.toNat
   exact ⟨_,a,b,AM 3 _ (by show _<10000;omega),.inl (if_neg h)⟩
theorem OK {D:al} (h:fT D) {r:al} (hne:D≠ []) {k:UInt8} (hk:k.toNat<48∨57<k.toNat):¬(D++r)[0]? =some k:=fun e=>by
 obtain ⟨c,x,rfl,h1,h2⟩:=yH h hne;simp only [List.cons_append,List.getElem?_cons_zero,Option.some.injEq] at e;subst e;omega
theorem SG {s:al} {f:Nat} {n:Bool} {M:Nat} {e:Int} (hp:pf s=some f) (hs:s=ep n++dI M e) (h0: -9999≤e) (h1:e≤9999):bZ pf bL s=some (⟨3,0,f,[]⟩,s.length):=by
 obtain ⟨dm,_,dn⟩:=gT M;obtain ⟨D,ha,hb,hl,hi⟩:=Fz e h0 h1
 have hlead:lead s=(ep n).length+(Lib.decDigits M).length:=by
  have hd:iE (dI M e)=(Lib.decDigits M).length:=by unfold dI;rw [zg 112 _ (by decide),Dm dm]
  rw [hs]
  cases n
  · show lead (dI M e)=_
    obtain ⟨c,r,hc,h2,h3⟩:=qD M e;rw [xO (by rw [hc];exact s8 rfl rfl (fun e=>by subst e;exact absurd h2 (by decide))),hd];simp [ep]
  · show lead (45 :: dI M e)=_
    rw [xN,hd];simp [ep];omega
 have hsd:s.drop (lead s)=112 :: Lib.itoa e:=by
  rw [hlead,hs];unfold dI;rw [←List.append_assoc,List.drop_left' (by rw [List.length_append])]
 have hslen:s.length=lead s+1+(Lib.itoa e).length:=by
  have:=congrArg List.length hsd;rw [List.length_drop,List.length_cons] at this;have:=Df s;omega
 have hat:∀k,s[lead s+k]? =(112 :: Lib.itoa e)[k]? :=fun k=>by rw [←hsd,List.getElem?_drop]
 have hP:s[lead s]? =some 112:=by have:=hat 0;simpa using this
 have hK:cV s+D.length=s.length∧s.drop (cV s)=D:=by
  have h2:=hat 1;simp only [List.getElem?_cons_succ] at h2;unfold cV
  rcases hi with hi|hi
  · rw [if_neg (by rw [h2,hi];have:=OK ha (r:= []) hb (k:=45) (.inl (by decide));simpa using this)]
    refine ⟨by rw [hslen,hi],?_⟩;rw [←List.drop_drop,hsd,hi];rfl
  · rw [if_pos (by rw [h2,hi];rfl)]
    refine ⟨by rw [hslen,hi,List.length_cons];omega,?_⟩;rw [←List.drop_drop,hsd,hi];rfl
 have hM:gU s=D.length:=by unfold gU;rw [hK.2,Dm ha];omega
 have hpos:0<D.length:=List.length_pos_iff.2 hb
 have hfl:fD pf s=some (⟨3,0,f,[]⟩,s.length):=by
  unfold fD;rw [if_pos hP];have ht:pf (s.take (cV s+gU s))=some f:=by rw [hM,hK.1,List.take_length];exact hp
  rw [OP (by rw [ht];rfl) (by omega),ht,hM,hK.1];rfl
 have hne:∃c r,s=c :: r∧(c=45∧(∃d r',r=d :: r'∧48≤d.toNat∧d.toNat≤57)∨(48≤c.toNat∧c.toNat≤57)):=by
  obtain ⟨c,r,hc,h2,h3⟩:=qD M e;rw [hs,hc]
  cases n
  · exact ⟨c,r,rfl,.inr ⟨h2,h3⟩⟩
  · exact ⟨45,_,rfl,.inl ⟨rfl,c,r,rfl,h2,h3⟩⟩
 obtain ⟨c,r,hcr,hc⟩:=hne
 have hno:∀(w x:al) (d:UInt8),w=d :: x→d≠45→(d.toNat<48∨57<d.toNat)→Lib.hasPrefix s w=false:=fun w x d hw h45 hd=>by
  refine s8 hcr hw (fun e=>?_);subst e
  rcases hc with ⟨h2,_⟩|h2
  · exact h45 h2
  · omega
 have hw3:fS.find? (fun x=>Lib.hasPrefix s x)=none:=by
  rw [List.find?_eq_none];intro x hx;simp only [fS,List.mem_cons,List.not_mem_nil,or_false] at hx
  rcases hx with rfl|rfl|rfl
  · rw [hno _ _ 110 rfl (by decide) (by decide)];simp
  · rw [hno _ _ 105 rfl (by decide) (by decide)];simp
  · have:Lib.hasPrefix s [45,105,110,102]=false:=by
     rcases hc with ⟨rfl,⟨d,r',hd,h3⟩⟩|h2
     · cases hq:Lib.hasPrefix s [45,105,110,102] with
       |false=>rfl
       |true=>
        rw [ni] at hq;obtain ⟨t,ht⟩:=hq;rw [hcr,hd] at ht;injection ht with _ ht2
        injection ht2 with ht3 _
        subst ht3;exact absurd h3.2 (by decide)
     · exact s8 hcr rfl (fun e=>by subst e;exact absurd h2.1 (by decide))
    rw [this];simp
 unfold bZ;rw [hno [39] [] 39 rfl (by decide) (by decide),hno lE _ 110 rfl (by decide) (by decide),hno jq _ 102 rfl (by decide) (by decide),hno jr _ 116 rfl (by decide) (by decide),hw3,hfl];rfl
theorem ae2 {f:Nat} (hf:Cn f):bZ pf bL (dr f)=some (⟨3,0,f,[]⟩,(dr f).length):=by
 have hp:=nh hf rfl;by_cases h1:isNan f=true
 · have ht:=uH h1
   rw [ht] at hp ⊢;have:bZ pf bL [110,97,110]=some (⟨3,0,(pf [110,97,110]).getD 0,[]⟩,3):=rfl;rw [this,hp];rfl
 have h1':isNan f=false:=by simpa using h1
 by_cases h2:rung f=9218868437227405312
 · have ht:dr f=ep (isNeg f)++ [105,110,102]:=pg h1' h2
   cases hn:isNeg f
   · rw [hn] at ht
     have ht:dr f= [105,110,102]:=ht;rw [ht] at hp ⊢;have:bZ pf bL [105,110,102]=some (⟨3,0,(pf [105,110,102]).getD 0,[]⟩,3):=rfl;rw [this,hp];rfl
   · rw [hn] at ht
     have ht:dr f= [45,105,110,102]:=ht;rw [ht] at hp ⊢;have:bZ pf bL [45,105,110,102]=some (⟨3,0,(pf [45,105,110,102]).getD 0,[]⟩,4):=rfl;rw [this,hp];rfl
 have h6:rung f≤9218868437227405312:=by simpa [isNan,rung] using h1'
 have hr:rung f<9218868437227405312:=by omega
 by_cases h3:rung f=0
 · refine SG (n:=isNeg f) (M:=0) (e:=0) hp ?_ (by decide) (by decide)
   rw [ph h1' h2 h3]
   have:dI 0 0= [48,112,48]:=by
    have e0:Lib.decDigits 0= [48]:=Lib.decDigits_one (by decide);have e1:Lib.itoa 0=Lib.decDigits 0:=rfl;unfold dI;rw [e1,e0];rfl
   rw [this];rfl
 · have e1:=pH hr
   have e2:=qK hr h3;refine SG (n:=isNeg f) (M:=od (bx (rung f))) (e:=dG (rung f)+v2 (bx (rung f))) hp ?_ (by omega) (by omega);rw [ox h1' h2 h3];unfold dI;rw [Dy];simp
theorem Mu {x:bW} (o:x.Ok) (h:en x=true):bZ pf bL (ku x)=some (x,(ku x).length):=by
 obtain ⟨k,n,f,s⟩:=x;have hr:=h;unfold en at h;simp only at h
 have ht:ku ⟨k,n,f,s⟩=if k=1 then (if (n==1)=true then [116,114,117,101] else [102,97,108,115,101]) else if k=2 then Lib.itoa n else if k=3 then dr f else if k=4 then gi s else [110,117,108,108]:=by
  unfold ku gj;rw [if_neg (by rw [hr];simp)];simp only
  split
  · rfl
  split
  · rfl
  split
  · rfl
  split<;>rfl
 rw [ht];by_cases k0:k=0
 · subst k0
   rw [if_pos rfl] at h;obtain ⟨rfl,rfl,rfl⟩:=of_decide_eq_true h
   rfl
 rw [if_neg k0] at h;by_cases k1:k=1
 · subst k1
   rw [if_pos rfl] at h ⊢;obtain ⟨hn,rfl,rfl⟩:=of_decide_eq_true h
   rcases hn with rfl|rfl<;>rfl
 rw [if_neg k1] at h ⊢;by_cases k2:k=2
 · subst k2
   rw [if_pos rfl] at h ⊢;obtain ⟨rfl,rfl⟩:=of_decide_eq_true h;exact ae7 rfl o.n0 o.n1
 rw [if_neg k2] at h ⊢;by_cases k3:k=3
 · subst k3
   rw [if_pos rfl] at h ⊢;obtain ⟨rfl,rfl,hc⟩:=of_decide_eq_true h;exact ae2 ⟨o.f1,hc⟩
 rw [if_neg k3] at h ⊢;by_cases k4:k=4
 · subst k4
   rw [if_pos rfl] at h ⊢;obtain ⟨rfl,rfl⟩:=of_decide_eq_true h;have h0:bL (gi s)=(s,(gi s).length):=by have:=ahn s [];rwa [List.append_nil] at this
   have hp:Lib.hasPrefix (gi s) [39]=true:=(qF _ _).2 ⟨_,rfl⟩;unfold bZ;rw [if_pos hp,h0,if_neg (by show ¬(gi s).length=0;unfold gi;simp)]
 · rw [if_neg k4] at h;cases h
theorem To {x:bW} (o:x.Ok) (h:en x=true):(ku x).length≤2 * x.s.length+60:=by
 obtain ⟨k,n,f,s⟩:=x;show (gj (gi s) ⟨k,n,f,s⟩).1.length≤2 * s.length+60
 have hf:(dr f).length≤60:=by
  by_cases h1:isNan f=true
  · rw [uH h1];decide
  have h1':isNan f=false:=by simpa using h1
  have hsg:(eB f).length≤1:=by unfold eB;split<;>simp
  by_cases h2:rung f=9218868437227405312
  · rw [pg h1' h2,List.length_append];simp;omega
  have h6:rung f≤9218868437227405312:=by simpa [isNan,rung] using h1'
  have hr:rung f<9218868437227405312:=by omega
  by_cases h3:rung f=0
  · rw [ph h1' h2 h3,List.length_append];simp;omega
  rw [ox h1' h2 h3];have hm:=ri hr;have h7:(Lib.decDigits (od (bx (rung f)))).length≤19:=tS _ (Nat.le_trans (Nat.div_le_self _ _) (by omega));have e1:=pH hr;have e2:=qK hr h3;obtain ⟨D,_,_,hl,hi⟩:=Fz (dG (rung f)+v2 (bx (rung f))) (by omega) (by omega)
  have hil:(Lib.itoa (dG (rung f)+v2 (bx (rung f)))).length≤5:=by
   rcases hi with hi|hi<;>rw [hi]
   · omega
   · rw [List.length_cons];omega
  simp only [List.length_append,List.length_cons,List.length_nil];omega
 have hq:(gi s).length≤2 * s.length+2:=by have:=Mo s;unfold gi;simp only [List.length_cons,List.length_append,List.length_nil];omega
 have hi:(Lib.itoa n).length≤20:=by
  have o0: -9223372036854775808≤n:=o.n0;have o1:n≤9223372036854775807:=o.n1;unfold Lib.itoa;by_cases h:n<0
  · rw [if_pos h];have:=tS n.natAbs (by omega);rw [List.length_cons];omega
  · rw [if_neg h];have:=tS n.toNat (by omega);omega
 unfold gj;simp only
 split
 · simp
 split
 · split<;>simp
 split
 · simp only;omega
 split
 · simp only;omega
 split
 · simp only;omega
 · simp
end Go.Proofs.YtjmlknjbhbfneaaGreatDoor
