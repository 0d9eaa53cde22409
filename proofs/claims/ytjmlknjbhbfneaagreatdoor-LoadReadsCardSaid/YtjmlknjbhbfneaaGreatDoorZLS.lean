import Derived.Test.YtjmlknjbhbfneaaGreatDoorZLE
import Derived.Test.YtjmlknjbhbfneaaGreatDoorZGC
import Derived.Sort.Walk0
namespace Go.Proofs.YtjmlknjbhbfneaaGreatDoor
open Go.RowKit Go.Bw Go.Bw.Fl
set_option linter.unusedVariables false
set_option linter.unusedSimpArgs false
def mT (s:al):Nat:=(s.takeWhile fun c=>c != 32&&c != 61).length
noncomputable def ff (s:al):Option Nat:=
 if s[mT s]? =some 61 then match bZ pf bL (s.drop (mT s+1)) with
  |none=>none
  |some r=>if mT s+1+r.2<s.length∧s.getD (mT s+1+r.2) 0≠32 then none else some (mT s+1+r.2)
 else some (mT s)
noncomputable def cJ (s:al):Option (List (al)):=
 if h:bF s= [] then some [] else match ff (bF s) with
  |none=>none
  |some k=>if hk:0<k then (cJ ((bF s).drop k)).map ((bF s).take k :: ·) else none
termination_by s.length
decreasing_by
 have h1:=mP s
 have h2:=List.length_pos_iff.2 h
 rw [List.length_drop];omega
theorem Tp (s:al):bF s= []∨∃c r,bF s=c :: r∧c≠32∧c≠35:=by
 unfold bF
 cases h:Lib.trimLeftB s 32 with
 |nil=>left;split<;>rfl
 |cons c r=>
  have hc:(c==32)=false:=by
   cases e:(c==32) with
   |false=>rfl
   |true=>
    unfold Lib.trimLeftB at h;have h2:List.head? (List.dropWhile (fun x=>x==32) s)=some c:=by rw [h];rfl
    have h3:=List.head?_dropWhile_not (fun x:UInt8=>x==32) s;rw [h2] at h3;simp at h3;exact absurd (by simpa using e) h3
  by_cases h35:c=35
  · left;subst h35;rw [if_pos (by simp [Lib.hasPrefix])]
  · right
    rw [if_neg (by simp [Lib.hasPrefix];exact fun h=>h35 h.symm)];exact ⟨c,r,rfl,by simpa using hc,h35⟩
theorem qQ (s:al):bF (bF s)=bF s:=by
 rcases Tp s with h|⟨c,r,h,h1,h2⟩
 · rw [h];rfl
 · rw [h]
   unfold bF
   have e:Lib.trimLeftB (c :: r) 32=c :: r:=by
    unfold Lib.trimLeftB;rw [List.dropWhile_cons_of_neg (by simpa using h1)]
   rw [e,if_neg (by simp [Lib.hasPrefix];exact fun h=>h2 h.symm)]
theorem zy {s:al} (ht:bF s=s) (hs:s≠ []):∃c r,s=c :: r∧c≠32∧c≠35:=by
 rcases Tp s with h|⟨c,r,h,h1,h2⟩
 · rw [ht] at h;exact absurd h hs
 · exact ⟨c,r,ht.symm.trans h,h1,h2⟩
theorem oN {s:al} (h:bF s= []):cJ s=some []:=by rw [cJ,dif_pos h]
theorem mS (s:al):cJ (bF s)=cJ s:=by
 rw [cJ,cJ];simp only [qQ]
theorem nQ {s:al} (ht:bF s=s) (hs:s≠ []) {k:Nat} (hk:ff s=some k) (h0:0<k):cJ s=(cJ (s.drop k)).map (s.take k :: ·):=by
 conv=>lhs;rw [cJ]
 rw [dif_neg (by rw [ht];exact hs)];simp only [ht,hk,dif_pos h0]
theorem r8 {s:al} (ht:bF s=s) (hs:s≠ []) (hk:ff s=none):cJ s=none:=by
 rw [cJ,dif_neg (by rw [ht];exact hs)];simp only [ht,hk]
theorem DY {w:al} (h:bO w=true):w≠ []∧w.length≤40∧∀c∈w,c≠32∧c≠61∧c≠58∧c≠35∧c≠10∧c≠39:=by
 unfold bO mK at h;rw [Bool.and_eq_true,decide_eq_true_eq] at h;obtain ⟨⟨h1,h2,_⟩,h3⟩:=h;refine ⟨h1,h2,fun c hc=>?_⟩;have h4:=List.all_eq_true.1 h3 c hc;refine ⟨?_,?_,?_,?_,?_,?_⟩<;>(intro e;subst e;exact absurd h4 (by decide))
theorem DR {α:Type} {p:α→Bool}:∀{a b:List α},(∀x∈a,p x=true)→(∀x,b.head? =some x→p x=false)→(a++b).takeWhile p=a
 | [],[],_,_=>rfl
 | [],x :: b,_,h=>by rw [List.nil_append,List.takeWhile_cons,h x rfl];rfl
 |x :: a,b,h1,h2=>by
  rw [List.cons_append,List.takeWhile_cons,h1 x (List.mem_cons_self ..),DR (fun y hy=>h1 y (List.mem_cons_of_mem _ hy)) h2];rfl
theorem zA {α:Type} (p:α→Bool) (s:List α):∃b,s=s.takeWhile p++b∧(∀x∈s.takeWhile p,p x=true)∧∀x,b.head? =some x→p x=false:=by
 refine ⟨s.dropWhile p,List.takeWhile_append_dropWhile.symm,fun x hx=>?_,fun x hx=>?_⟩
 · have:=List.all_takeWhile (p:=p) (l:=s)
   exact List.all_eq_true.1 this x hx
 · have:=List.head?_dropWhile_not p s
   rw [hx] at this;simpa using this
theorem pm (s:al):∃b,s=wd s++b∧(∀x∈wd s,x≠32)∧(∀x,b.head? =some x→x=32)∧a7 s=bF b:=by
 obtain ⟨b,h1,h2,h3⟩:=zA (fun c:UInt8=>c != 32) s;refine ⟨b,h1,fun x hx=>by simpa using h2 x hx,fun x hx=>by simpa using h3 x hx,?_⟩;unfold a7
 congr 1
 have h4:s.takeWhile (fun c:UInt8=>c != 32)++s.dropWhile (fun c:UInt8=>c != 32)=s:=List.takeWhile_append_dropWhile;exact List.append_cancel_left (h4.trans h1)
theorem r7 {f b:al} (hf:∀c∈f,c≠32∧c≠61) (hb:∀x,b.head? =some x→x=32):ff (f++b)=some f.length:=by
 have hl:mT (f++b)=f.length:=by
  unfold mT;rw [DR (fun c hc=>by have:=hf c hc;simp [this.1,this.2]) (fun x hx=>by rw [hb x hx];rfl)]
 unfold ff;rw [hl,if_neg];rw [List.getElem?_append_right (Nat.le_refl _),Nat.sub_self];intro h;have h2:b.head? =some 61:=by rw [List.head?_eq_getElem?];exact h
 exact absurd (hb 61 h2) (by decide)
theorem AZ {f u:al} (hf:∀c∈f,c≠32∧c≠61):ff (f++61 :: u)=match bZ pf bL u with|none=>none|some r=>if r.2<u.length∧u.getD r.2 0≠32 then none else some (f.length+1+r.2):=by
 have hl:mT (f++61 :: u)=f.length:=by
  unfold mT;rw [DR (fun c hc=>by have:=hf c hc;simp [this.1,this.2]) (fun x hx=>by simp at hx;rw [←hx];rfl)]
 have hd:(f++61 :: u).drop (f.length+1)=u:=by rw [List.drop_append];simp
 unfold ff;rw [hl,if_pos (by rw [List.getElem?_append_right (Nat.le_refl _),Nat.sub_self];rfl),hd]
 cases bZ pf bL u with
 |none=>rfl
 |some r=>
  have h1:(f++61 :: u).getD (f.length+1+r.2) 0=u.getD r.2 0:=by
   simp only [List.getD_eq_getElem?_getD];rw [List.getElem?_append_right (by omega),show f.length+1+r.2 - f.length=r.2+1 by omega,List.getElem?_cons_succ]
  have h2:(f.length+1+r.2<(f++61 :: u).length)=(r.2<u.length):=by
   rw [List.length_append,List.length_cons];apply propext;omega
  simp only [h1,h2]
noncomputable def lD (f:al):Option Pr:=
 if (61:UInt8)∈f∧bO (cy f).1=true then some ((cy f).1,((bZ pf bL (cy f).2).map (·.1)).getD dh) else none
noncomputable def iZ:List (al)→Option (List Pr)
 | []=>some []
 |f :: r=>match lD f,iZ r with|some p,some ps=>some (p :: ps)|_,_=>none
noncomputable def fp:List (al)→Option (List (al)×List Pr)
 | []=>some ([],[])
 |f :: r=>if Lib.hasPrefix f [58]=true then (if bO (f.drop 1)=true then (fp r).map fun x=>(f.drop 1 :: x.1,x.2) else none) else (iZ (f :: r)).map fun x=>([],x)
noncomputable def gN (s:al):Option (List Pr):=(cJ s).bind iZ
noncomputable def eU (s:al):Option (List (al)×List Pr):=(cJ s).bind fp
theorem AL {nm u:al} (h:(61:UInt8) ∉ nm):cy (nm++61 :: u)=(nm,u):=by
 have h1:=Fu (a:=nm) (b:=u) (c:=61) h;unfold cy;rw [h1,if_pos (by omega),Int.toNat_natCast,List.take_left,List.drop_append];simp
theorem OE {s:al} (h:(61:UInt8) ∉ s):cy s=(s,[]):=by
 unfold cy;rw [if_neg];intro h0;obtain ⟨o,ho⟩:∃o:Nat,Lib.indexByte s 61=(o:Int):=⟨(Lib.indexByte s 61).toNat,by omega⟩;exact h (List.mem_of_getElem? (Lib.indexByte_some ho).1)
theorem EH {s:al} (h:(61:UInt8)∈s):∃nm u,s=nm++61 :: u∧(61:UInt8) ∉ nm:=by
 obtain ⟨b,h1,h2,h3⟩:=zA (fun c:UInt8=>c != 61) s
 cases b with
 |nil=>
  rw [List.append_nil] at h1;rw [h1] at h;have:=h2 61 h;simp at this
 |cons c u=>
  have hc:c=61:=by simpa using h3 c rfl
  subst hc;exact ⟨_,u,h1,fun hm=>by have:=h2 61 hm;simp at this⟩
theorem SA:bZ pf bL []=none:=by
 cases h:bZ pf bL [] with
 |none=>rfl
 |some r=>have:=rt (n:=r.2) (v:=r.1) h;simp at this;omega
theorem GC {w:al} {c:UInt8} (hc:c∈w) (h:c=32∨c=61):bO w=false:=by
 cases e:bO w with
 |false=>rfl
 |true=>
  have h1:=(DY e).2.2 c hc
  rcases h with h|h
  · exact absurd h h1.1
  · exact absurd h h1.2.1
theorem Dv {s:al} {e:Int} {n:Nat} {ok:Bool} (h:iF (cy s).1 (cy s).2 n ok=true) (hr:((bZ pf bL (cy s).2).map (·.2)).getD 0=n) (ho:(bZ pf bL (cy s).2).isSome=ok):cS s e=(cA,[],cP e 2):=by
 unfold cS;dsimp only;rw [hr,ho,if_pos h]
theorem Mf {s:al} (ht:bF s=s) (hs:s≠ []):
 (∃p r,gN s=(gN r).map (p :: ·)∧(∀e,cS s e=(p,r,if p.2.k=0 then cP e 4 else e))∧bF r=r∧r.length<s.length)∨(gN s=none∧∀e,cS s e=(cA,[],cP e 2)):=by
 by_cases h61:(61:UInt8)∈s
 · obtain ⟨nm,u,hsu,hnm⟩:=EH h61
   have hcut:cy s=(nm,u):=by rw [hsu];exact AL hnm
   by_cases h32:(32:UInt8)∈nm
   · right
     have hw:=GC h32 (.inl rfl)
     refine ⟨?_,fun e=>?_⟩
     ·
      obtain ⟨b,h1,h2,h3,_⟩:=pm s
      have hn:∀c∈wd s,c≠32∧c≠61:=fun c hc=>⟨h2 c hc,fun e=>by
       subst e
       obtain ⟨x,y,hxy,hx⟩:∃x y,nm=x++32 :: y∧(32:UInt8) ∉ x:=by
        obtain ⟨b,g1,g2,g3⟩:=zA (fun c:UInt8=>c != 32) nm
        cases b with
        |nil=>rw [List.append_nil] at g1;rw [g1] at h32;have:=g2 32 h32;simp at this
        |cons c y=>
         have hc:c=32:=by simpa using g3 c rfl
         subst hc
         exact ⟨_,y,g1,fun hm=>by have:=g2 32 hm;simp at this⟩
       have hwd:wd s=x:=by
        rw [hsu,hxy];unfold wd
        rw [List.append_assoc,List.cons_append]
        exact DR (fun c hc=>by simp;intro e;subst e;exact hx hc) (fun z hz=>by simp at hz;rw [←hz];rfl)
       rw [hwd] at hc
       exact hnm (by rw [hxy];exact List.mem_append_left _ hc)⟩
      have hff:ff s=some (wd s).length:=by rw [h1];have:=r7 hn h3;rw [←h1] at this ⊢;exact this
      have h0:0<(wd s).length:=by
       obtain ⟨c,r,hc,hc2,_⟩:=zy ht hs;rw [hc];unfold wd;rw [List.takeWhile_cons];simp [hc2]
      unfold gN;rw [nQ ht hs hff h0]
      have hp:lD (s.take (wd s).length)=none:=by
       rw [F7];unfold lD;rw [if_neg];rintro ⟨a,_⟩;exact (hn 61 a).2 rfl
      cases cJ (s.drop (wd s).length) with
      |none=>rfl
      |some l=>show iZ (_ :: l)=none;unfold iZ;rw [hp]
     · exact Dv (by rw [hcut];unfold iF;rw [hw];rfl) rfl rfl
   · have hf:∀c∈nm,c≠32∧c≠61:=fun c hc=>⟨fun e=>h32 (e ▸ hc),fun e=>hnm (e ▸ hc)⟩
     have hff:ff s=_:=(congrArg ff hsu).trans (AZ hf)
     cases hr:bZ pf bL u with
     |none=>
      right
      rw [hr] at hff;refine ⟨by unfold gN;rw [r8 ht hs hff];rfl,fun e=>Dv (n:=0) (ok:=false) (by rw [hcut];unfold iF;simp) (by rw [hcut];show ((bZ pf bL u).map (·.2)).getD 0=0;rw [hr];rfl) (by rw [hcut];show (bZ pf bL u).isSome=false;rw [hr];rfl)⟩
     |some r=>
      obtain ⟨v,m⟩:=r;rw [hr] at hff;have hml:=(rt hr);by_cases hg:m<u.length∧u.getD m 0≠32
      · right
        have hff2:ff s=none:=by rw [hff];exact if_pos hg
        refine ⟨by unfold gN;rw [r8 ht hs hff2];rfl,fun e=>Dv (n:=m) (ok:=true) (by rw [hcut];unfold iF;simp only [decide_eq_true hg.1,decide_eq_true hg.2];simp) (by rw [hcut];show ((bZ pf bL u).map (·.2)).getD 0=m;rw [hr];rfl) (by rw [hcut];show (bZ pf bL u).isSome=true;rw [hr];rfl)⟩
      · have hff2:ff s=some (nm.length+1+m):=by rw [hff];exact if_neg hg
        have htk:s.take (nm.length+1+m)=nm++61 :: u.take m:=by
         rw [hsu,List.take_append,List.take_of_length_le (by omega)]
         congr 1
         rw [show nm.length+1+m - nm.length=m+1 by omega,List.take_succ_cons]
        have hdr:s.drop (nm.length+1+m)=u.drop m:=by
         rw [hsu,List.drop_append,List.drop_of_length_le (by omega),List.nil_append,show nm.length+1+m - nm.length=m+1 by omega,List.drop_succ_cons]
        have hfc:=nQ ht hs hff2 (by omega);rw [htk,hdr] at hfc;by_cases hw:bO nm=true
        · left
          have hp1:lD (nm++61 :: u.take m)=some (nm,v):=by
           unfold lD;rw [AL hnm,if_pos ⟨by simp,hw⟩,SD hr (Nat.le_refl _)];rfl
          refine ⟨(nm,v),bF (u.drop m),?_,fun e=>?_,qQ _,?_⟩
          · unfold gN
            rw [hfc,mS]
            cases cJ (u.drop m) with
            |none=>rfl
            |some l=>
             show iZ (_ :: l)=(iZ l).map _
             conv=>lhs;unfold iZ
             rw [hp1]
             cases iZ l<;>rfl
          · unfold cS
            dsimp only;rw [hcut];dsimp only;rw [hr]
            have hno:¬iF nm u m true=true:=by
             unfold iF;rw [hw];simp only [Bool.not_true,Bool.false_or,Bool.and_eq_true,decide_eq_true_eq];exact hg
            exact if_neg hno
          · have h1:=mP (u.drop m)
            rw [List.length_drop] at h1;rw [hsu,List.length_append,List.length_cons];omega
        · right
          have hw':bO nm=false:=by simpa using hw
          refine ⟨?_,fun e=>Dv (n:=m) (ok:=true) (by rw [hcut];unfold iF;rw [hw'];rfl) (by rw [hcut];show ((bZ pf bL u).map (·.2)).getD 0=m;rw [hr];rfl) (by rw [hcut];show (bZ pf bL u).isSome=true;rw [hr];rfl)⟩;unfold gN;rw [hfc]
          cases cJ (u.drop m) with
          |none=>rfl
          |some l=>
           show iZ (_ :: l)=none;unfold iZ
           have:lD (nm++61 :: u.take m)=none:=by
            unfold lD;rw [AL hnm,if_neg];rintro ⟨_,h⟩;exact hw h
           rw [this]
 · right
   have hcut:=OE h61
   have hn:∀c∈wd s,c≠32∧c≠61:=fun c hc=>⟨(by obtain ⟨b,h1,h2,_⟩:=pm s;exact h2 c hc),fun e=>h61 (by
    obtain ⟨b,h1,_⟩:=pm s
    rw [h1];exact List.mem_append_left _ (e ▸ hc))⟩
   obtain ⟨b,h1,h2,h3,_⟩:=pm s
   have hff:ff s=some (wd s).length:=by have:=r7 hn h3;rw [←h1] at this;exact this
   have h0:0<(wd s).length:=by
    obtain ⟨c,r,hc,hc2,_⟩:=zy ht hs;rw [hc];unfold wd;rw [List.takeWhile_cons];simp [hc2]
   refine ⟨?_,fun e=>Dv (n:=0) (ok:=false) (by rw [hcut];unfold iF;simp) (by rw [hcut];show ((bZ pf bL []).map (·.2)).getD 0=0;rw [SA];rfl) (by rw [hcut];show (bZ pf bL []).isSome=false;rw [SA];rfl)⟩
   unfold gN
   rw [nQ ht hs hff h0,F7]
   have hp:lD (wd s)=none:=by
    unfold lD;rw [if_neg];rintro ⟨a,_⟩;exact (hn 61 a).2 rfl
   cases cJ (s.drop (wd s).length) with
   |none=>rfl
   |some l=>show iZ (_ :: l)=none;unfold iZ;rw [hp]
def nt (e:Int):Prop:=e=0∨2≤e
theorem Ep {e:Int} (h:nt e):cP e 2=2:=by
 unfold cP
 rcases h with h|h
 · rw [if_pos (.inl h)]
 · split
   · rfl
   · rename_i h2;have:¬e=0∧¬2<e:=⟨fun h=>h2 (.inl h),fun h=>h2 (.inr h)⟩;omega
theorem nw {b:Int} (h:2≤b):cP 2 b=2:=by
 unfold cP;rw [if_neg];rintro (h2|h2)
 · cases h2
 · omega
theorem nt.bad {e b:Int} (h:nt e) (hb:2≤b):nt (cP e b):=by
 unfold cP;split
 · exact .inr hb
 · exact h
def mU (o:List Pr) (nm:al):Bool:=decide (eI o nm<o.length)&&decide ((o.getD (eI o nm) cA).1=nm)
def jE:List Pr→List Pr→List Pr
 |o,[]=>o
 |o,p :: r=>jE (eS o (eI o p.1) p) r
def gr (p:Pr) (e:Int):Int:=if p.2.k=0 then cP e 4 else e
def eP:List Pr→List Pr→Int→Int
 |_,[],e=>e
 |o,p :: r,e=>eP (eS o (eI o p.1) p) r (if mU o p.1=true then cP (gr p e) 3 else gr p e)
def eL:List (al)→List (al)→Int→Int
 |_,[],e=>e
 |o,w :: r,e=>eL (o++ [w]) r (if w∈o then cP e 3 else e)
theorem ad4 {e:Int} (p:Pr) (h:nt e):nt (gr p e):=by unfold gr;split;(· exact h.bad (by decide));(· exact h)
theorem Mj (m:Nat) (o:List Pr) {s:al} (hs:s≠ []) (e:Int):rq (m+1) o s e=rq m (eS o (eI o (cS s e).1.1) (cS s e).1) (cS s e).2.1 (if mU o (cS s e).1.1=true then cP (cS s e).2.2 3 else (cS s e).2.2):=by
 show (if _ then _ else _)=_;rw [if_neg hs];rfl
theorem Sn:∀(n:Nat) (s:al) (ps:List Pr),s.length≤n→bF s=s→gN s=some ps→∀(m:Nat) (o:List Pr) (e:Int),s.length≤m→rq m o s e=(jE o ps,eP o ps e)
 |n,s,ps,hn,ht,hps,m,o,e,hm=>by
  by_cases hs:s= []
  · subst hs
    rw [Ml];have:gN []=some []:=by unfold gN;rw [oN rfl];rfl
    rw [this] at hps;cases hps;rfl
  · have h0:=List.length_pos_iff.2 hs
    obtain ⟨m,rfl⟩:∃k,m=k+1:=⟨m - 1,by omega⟩;obtain ⟨n,rfl⟩:∃k,n=k+1:=⟨n - 1,by omega⟩
    rcases Mf ht hs with ⟨p,r,h1,h2,h3,h4⟩|⟨h1,_⟩
    · rw [h1] at hps
      obtain ⟨ps',h5,rfl⟩:=Option.map_eq_some_iff.1 hps;rw [Mj m o hs,h2];rw [Sn n r ps' (by omega) h3 h5 m _ _ (by omega)]
      rfl
    · rw [h1] at hps;cases hps
theorem Mm:∀(m:Nat) (o:List Pr) (s:al),(rq m o s 2).2=2
 |0,_,_=>rfl
 |m+1,o,s=>by
  by_cases hs:s= []
  · subst hs;rw [Ml]
  · rw [Mj m o hs]
    have h1:(cS s 2).2.2=2:=by
     unfold cS;dsimp only
     split
     · exact nw (b:=2) (by decide)
     · show (if _ then _ else _)=_;split
       · exact nw (b:=4) (by decide)
       · rfl
    rw [h1,nw (by decide),ite_self];exact Mm m _ _
theorem Sm:∀(n:Nat) (s:al),s.length≤n→bF s=s→gN s=none→∀(m:Nat) (o:List Pr) (e:Int),nt e→s.length≤m→(rq m o s e).2=2
 |n,s,hn,ht,hps,m,o,e,he,hm=>by
  by_cases hs:s= []
  · subst hs
    have:gN []=some []:=by unfold gN;rw [oN rfl];rfl
    rw [this] at hps;cases hps
  · have h0:=List.length_pos_iff.2 hs
    obtain ⟨m,rfl⟩:∃k,m=k+1:=⟨m - 1,by omega⟩;obtain ⟨n,rfl⟩:∃k,n=k+1:=⟨n - 1,by omega⟩;rw [Mj m o hs]
    rcases Mf ht hs with ⟨p,r,h1,h2,h3,h4⟩|⟨h1,h2⟩
    · rw [h1] at hps
      rw [h2];have h6:=ad4 p he;refine Sm n r (by omega) h3 (by cases h5:gN r with|none=>rfl|some q=>rw [h5] at hps;cases hps) m _ _ ?_ (by omega);dsimp only
      split
      · exact h6.bad (by decide)
      · exact h6
    · rw [h2]
      dsimp only;rw [Ep he,nw (by decide),ite_self];exact Mm m _ _
theorem aeH {s:al} {ps:List Pr} (ht:bF s=s) (h:gN s=some ps) (e:Int):kt s e=(jE [] ps,eP [] ps e):=Sn _ s ps (Nat.le_refl _) ht h _ [] e (Nat.le_refl _)
theorem aeG {s:al} (ht:bF s=s) (h:gN s=none) {e:Int} (he:nt e):(kt s e).2=2:=Sm _ s (Nat.le_refl _) ht h _ [] e he (Nat.le_refl _)
theorem Sp (s:al):(kt s 2).2=2:=Mm _ _ _
theorem L4 {s:al} (ht:bF s=s) (hc:Lib.hasPrefix s [58]=false):eU s=(gN s).map fun x=>([],x):=by
 unfold eU gN;by_cases hs:s= []
 · subst hs;rw [oN rfl];rfl
 · cases hk:ff s with
   |none=>rw [r8 ht hs hk];rfl
   |some k=>
    by_cases h0:0<k
    · rw [nQ ht hs hk h0]
      have h1:Lib.hasPrefix (s.take k) [58]=false:=zm k hc
      cases cJ (s.drop k) with
      |none=>rfl
      |some l=>
       show fp (_ :: l)=_;unfold fp;rw [if_neg (by rw [h1];simp)];rfl
    · conv=>lhs;rw [cJ]
      conv=>rhs;rw [cJ]
      rw [dif_neg (by rw [ht];exact hs)];simp only [ht,hk,dif_neg h0];rfl
theorem LK {s:al} (ht:bF s=s) (hc:Lib.hasPrefix s [58]=true):
 (bO (wd (s.drop 1))=true∧eU s=(eU (a7 (s.drop 1))).map fun x=>(wd (s.drop 1) :: x.1,x.2))∨(bO (wd (s.drop 1))=false∧eU s=none):=by
 obtain ⟨t,rfl⟩:=(qF s 58).1 hc
 have hs:(58 :: t:al)≠ []:=by simp
 show (bO (wd t)=true∧eU _=(eU (a7 t)).map _)∨(bO (wd t)=false∧_)
 obtain ⟨b,h1,h2,h3,h4⟩:=pm t
 by_cases h61:(61:UInt8)∈wd t
 · right
   refine ⟨GC h61 (.inr rfl),?_⟩
   obtain ⟨x,y,hxy,hx⟩:=EH h61
   have hf:∀c∈(58 :: x:al),c≠32∧c≠61:=fun c hc=>by
    rcases List.mem_cons.1 hc with rfl|hc
    · exact ⟨by decide,by decide⟩
    · exact ⟨h2 c (by rw [hxy];exact List.mem_append_left _ hc),fun e=>hx (e ▸ hc)⟩
   have he:(58 :: t:al)=(58 :: x)++61 :: (y++b):=by
    conv=>lhs;rw [h1,hxy]
    simp
   have hff:=(congrArg ff he).trans (AZ hf)
   unfold eU
   cases hk:ff (58 :: t) with
   |none=>rw [r8 ht hs hk];rfl
   |some k=>
    have hkl:(58 :: x:al).length+1≤k:=by
     rw [hk] at hff
     cases hr:bZ pf bL (y++b) with
     |none=>rw [hr] at hff;cases hff
     |some r=>
      rw [hr] at hff;dsimp only at hff
      split at hff
      · cases hff
      · cases hff;omega
    rw [nQ ht hs hk (by omega)]
    have hm:(61:UInt8)∈((58 :: t:al).take k).drop 1:=by
     rw [he,List.take_append,List.take_of_length_le (by omega)];obtain ⟨j,hj⟩:∃j,k - (58 :: x:al).length=j+1:=⟨k - (58 :: x:al).length - 1,by omega⟩;rw [hj];simp
    have hp:Lib.hasPrefix ((58 :: t:al).take k) [58]=true:=by
     rw [he,List.take_append,List.take_of_length_le (by omega)];simp [Lib.hasPrefix]
    cases cJ ((58 :: t:al).drop k) with
    |none=>rfl
    |some l=>
     show fp (_ :: l)=none;unfold fp;rw [if_pos hp,if_neg (by rw [GC hm (.inr rfl)];simp)]
 · have hf:∀c∈(58 :: wd t:al),c≠32∧c≠61:=fun c hc=>by
    rcases List.mem_cons.1 hc with rfl|hc
    · exact ⟨by decide,by decide⟩
    · exact ⟨h2 c hc,fun e=>h61 (e ▸ hc)⟩
   have he:(58 :: t:al)=(58 :: wd t)++b:=by
    conv=>lhs;rw [h1]
    rfl
   have hff:ff (58 :: t)=some (58 :: wd t:al).length:=(congrArg ff he).trans (r7 hf h3)
   have htk:(58 :: t:al).take (58 :: wd t:al).length=58 :: wd t:=by
    conv=>lhs;rw [he]
    exact List.take_left
   have hdr:(58 :: t:al).drop (58 :: wd t:al).length=b:=by
    conv=>lhs;rw [he]
    exact List.drop_left
   have hfc:=nQ ht hs hff (by simp);rw [htk,hdr,←mS b,←h4] at hfc;by_cases hw:bO (wd t)=true
   · left
     refine ⟨hw,?_⟩;unfold eU;rw [hfc]
     cases cJ (a7 t) with
     |none=>rfl
     |some l=>
      show fp (_ :: l)=(fp l).map _
      conv=>lhs;unfold fp
      rw [if_pos (by simp [Lib.hasPrefix]),if_pos (show bO ((58 :: wd t:al).drop 1)=true from hw)];rfl
   · right
     refine ⟨by simpa using hw,?_⟩;unfold eU;rw [hfc]
     cases cJ (a7 t) with
     |none=>rfl
     |some l=>
      show fp (_ :: l)=none;unfold fp;rw [if_pos (by simp [Lib.hasPrefix]),if_neg (show ¬bO ((58 :: wd t:al).drop 1)=true from hw)]
theorem LL (m:Nat) (o:List (al)) {s:al} (hc:Lib.hasPrefix s [58]=true) (e:Int):m9 (m+1) o s e=m9 m (o++ [wd (s.drop 1)]) (a7 (s.drop 1)) (if wd (s.drop 1)∈o then cP (cE (s.drop 1) e) 3 else cE (s.drop 1) e):=by
 show (if _ then _ else _)=_;rw [if_pos hc]
theorem LM:∀(m:Nat) (o:List (al)) (s:al),(m9 m o s 2).2.2=2
 |0,_,_=>rfl
 |m+1,o,s=>by
  cases hc:Lib.hasPrefix s [58] with
  |false=>rw [FD hc]
  |true=>
   rw [LL m o hc];have h1:cE (s.drop 1) 2=2:=by unfold cE;split;(· rfl);(· exact nw (by decide))
   rw [h1,nw (by decide),ite_self];exact LM m _ _
theorem ic (s:al):bF (a7 s)=a7 s:=by unfold a7;exact qQ _
theorem Rb:∀(n:Nat) (s:al) (ls:List (al)) (ps:List Pr),s.length≤n→bF s=s→eU s=some (ls,ps)→∀(m:Nat) (o:List (al)) (e:Int),s.length≤m→∃s',m9 m o s e=(o++ls,s',eL o ls e)∧gN s'=some ps∧bF s'=s'
 |n,s,ls,ps,hn,ht,hr,m,o,e,hm=>by
  cases hc:Lib.hasPrefix s [58] with
  |false=>
   rw [L4 ht hc] at hr;obtain ⟨q,h1,h2⟩:=Option.map_eq_some_iff.1 hr
   cases h2
   exact ⟨s,by rw [FD hc,List.append_nil];rfl,h1,ht⟩
  |true=>
   have h0:=AJ hc;obtain ⟨m,rfl⟩:∃k,m=k+1:=⟨m - 1,by omega⟩;obtain ⟨n,rfl⟩:∃k,n=k+1:=⟨n - 1,by omega⟩;have h1:=lF (s.drop 1);have h2:(s.drop 1).length=s.length - 1:=List.length_drop
   rcases LK ht hc with ⟨hw,h3⟩|⟨_,h3⟩
   · rw [h3] at hr
     obtain ⟨⟨ls',ps'⟩,h4,h5⟩:=Option.map_eq_some_iff.1 hr
     cases h5
     have hwe:cE (s.drop 1) e=e:=by unfold cE;rw [if_pos hw]
     obtain ⟨s',h6,h7⟩:=Rb n (a7 (s.drop 1)) ls' ps' (by omega) (ic _) h4 m (o++ [wd (s.drop 1)]) (if wd (s.drop 1)∈o then cP e 3 else e) (by omega);refine ⟨s',?_,h7⟩;rw [LL m o hc,hwe,h6];simp [eL]
   · rw [h3] at hr;cases hr
theorem Q9:∀(n:Nat) (s:al),s.length≤n→bF s=s→eU s=none→∀(m:Nat) (o:List (al)) (e:Int),nt e→s.length≤m→(kt (m9 m o s e).2.1 (m9 m o s e).2.2).2=2
 |n,s,hn,ht,hr,m,o,e,he,hm=>by
  cases hc:Lib.hasPrefix s [58] with
  |false=>
   rw [L4 ht hc] at hr;rw [FD hc];exact aeG ht (by cases h:gN s with|none=>rfl|some q=>rw [h] at hr;cases hr) he
  |true=>
   have h0:=AJ hc;obtain ⟨m,rfl⟩:∃k,m=k+1:=⟨m - 1,by omega⟩;obtain ⟨n,rfl⟩:∃k,n=k+1:=⟨n - 1,by omega⟩;have h1:=lF (s.drop 1);have h2:(s.drop 1).length=s.length - 1:=List.length_drop;rw [LL m o hc]
   rcases LK ht hc with ⟨hw,h3⟩|⟨hw,h3⟩
   · rw [h3] at hr
     have hwe:cE (s.drop 1) e=e:=by unfold cE;rw [if_pos hw]
     rw [hwe];refine Q9 n _ (by omega) (ic _) (by cases h:eU (a7 (s.drop 1)) with|none=>rfl|some q=>rw [h] at hr;cases hr) m _ _ ?_ (by omega)
     split
     · exact he.bad (by decide)
     · exact he
   · have hwe:cE (s.drop 1) e=2:=by unfold cE;rw [if_neg (by rw [hw];simp),Ep he]
     rw [hwe,nw (by decide),ite_self,LM];exact Sp _
theorem SK {s:al} {ls:List (al)} {ps:List Pr} (ht:bF s=s) (h:eU s=some (ls,ps)) (e:Int):(iD s e).1=ls∧kt (iD s e).2.1 (iD s e).2.2=(jE [] ps,eP [] ps (eL [] ls e)):=by
 obtain ⟨s',h1,h2,h3⟩:=Rb _ s ls ps (Nat.le_refl _) ht h s.length [] e (Nat.le_refl _);unfold iD;rw [h1];exact ⟨rfl,aeH h3 h2 _⟩
theorem SJ {s:al} (ht:bF s=s) (h:eU s=none) {e:Int} (he:nt e):(kt (iD s e).2.1 (iD s e).2.2).2=2:=Q9 _ s (Nat.le_refl _) ht h _ [] e he (Nat.le_refl _)
theorem SM (s:al):(kt (iD s 2).2.1 (iD s 2).2.2).2=2:=by
 unfold iD;rw [LM];exact Sp _
theorem FI (kv:List (al×Value)) (nm:al) (most:Int):jF kv nm most 2=2:=by
 unfold jF;rw [nw (by decide),ite_self,nw (by decide),ite_self]
theorem RP {s:al} {ls:List (al)} {ps:List Pr} (g:GV) (hw:bO (wd s)=true) (h:eU (a7 s)=some (ls,ps)):
 mC s 0 g=(⟨g.ns++ [⟨wd s,gB ls,jE [] ps⟩],g.es⟩,jF (f7 (cK g)) (wd s) 1000 (eP [] ps (eL [] ls 0))):=by
 have hwe:cE s 0=0:=by unfold cE;rw [if_pos hw]
 obtain ⟨h1,h2⟩:=SK (ic s) h 0
 unfold mC
 dsimp only
 rw [hwe,h1,h2]
theorem uw {s:al} (g:GV) (h:bO (wd s)=false∨eU (a7 s)=none):(mC s 0 g).2=2:=by
 unfold mC;dsimp only;by_cases hw:bO (wd s)=true
 · have hwe:cE s 0=0:=by unfold cE;rw [if_pos hw]
   rcases h with h|h
   · rw [hw] at h;cases h
   · rw [hwe,SJ (ic s) h (.inl rfl)];exact FI _ _ _
 · have hwe:cE s 0=2:=by unfold cE;rw [if_neg hw];rfl
   rw [hwe,SM];exact FI _ _ _
theorem S0 {e:Int} (o:Option Nat) (h:nt e):nt (iG o e):=by unfold iG;split;(· exact h);(· exact h.bad (by decide))
theorem S1 (o:Option Nat):iG o 2=2:=by unfold iG;split;(· rfl);(· exact nw (by decide))
theorem qM {s:al} (h:bO (wd s)=true) (e:Int):cE s e=e:=by unfold cE;rw [if_pos h]
theorem Nc {s:al} (h:bO (wd s)=false) {e:Int} (he:nt e):cE s e=2:=by unfold cE;rw [if_neg (by rw [h];simp),Ep he]
theorem GB (s:al):cE s 2=2:=by unfold cE;split;(· rfl);(· exact nw (by decide))
theorem Zu {s:al} {ls:List (al)} {ps:List Pr} (g:GV) (h1:bO (wd s)=true) (h2:bO (wd (a7 s))=true) (h3:(cZ s).2.2=true) (h4:bO (wd (ga s))=true) (h:eU (a7 (ga s))=some (ls,ps)):
 jO s 0 g=(⟨g.ns,g.es++ [⟨wd s,(((idx (wd (a7 s)) (cK g)).getD 0:Nat):Int),(((idx (wd (ga s)) (cK g)).getD 0:Nat):Int),(cZ s).2.1,gB ls,jE [] ps⟩]⟩,jF (f7 (dy g)) (wd s) 1000 (eP [] ps (eL [] ls (iG (idx (wd (ga s)) (cK g)) (iG (idx (wd (a7 s)) (cK g)) 0))))):=by
 have hh:og s 0=0:=by unfold og;rw [if_pos h3,qM h1,qM h2,qM h4]
 unfold jO
 dsimp only
 rw [hh]
 obtain ⟨h5,h6⟩:=SK (ic (ga s)) h (iG (idx (wd (ga s)) (cK g)) (iG (idx (wd (a7 s)) (cK g)) 0))
 rw [h5,h6]
theorem OW {s:al} (g:GV) (h:bO (wd s)=false∨bO (wd (a7 s))=false∨(cZ s).2.2=false∨bO (wd (ga s))=false∨eU (a7 (ga s))=none):(jO s 0 g).2=2:=by
 have key:og s 0=2→(jO s 0 g).2=2:=fun hh=>by
  unfold jO;dsimp only;rw [hh,S1,S1,SM];exact FI _ _ _
 cases h1:bO (wd s) with
 |false=>exact key (by unfold og;rw [Nc h1 (.inl rfl),GB,nw (by decide),ite_self,GB])
 |true=>
  cases h2:bO (wd (a7 s)) with
  |false=>exact key (by unfold og;rw [qM h1,Nc h2 (.inl rfl),nw (by decide),ite_self,GB])
  |true=>
   cases h3:(cZ s).2.2 with
   |false=>exact key (by unfold og;rw [if_neg (by rw [h3];simp),qM h1,qM h2,Ep (.inl rfl),GB])
   |true=>
    cases h4:bO (wd (ga s)) with
    |false=>exact key (by unfold og;rw [if_pos h3,qM h1,qM h2,Nc h4 (.inl rfl)])
    |true=>
     rcases h with h|h|h|h|h
     · rw [h1] at h;cases h
     · rw [h2] at h;cases h
     · rw [h3] at h;cases h
     · rw [h4] at h;cases h
     · have hh:og s 0=0:=by unfold og;rw [if_pos h3,qM h1,qM h2,qM h4]
       unfold jO;dsimp only;rw [hh,SJ (ic _) h (S0 _ (S0 _ (.inl rfl)))];exact FI _ _ _
theorem M2:∀(r:al) (i:Nat) (a:al),(bV r i a).2=0→(bV (r++ [32]) i a).2=0
 | [],i,a,_=>by simp [bV]
 | [c],i,a,h=>by
  unfold bV at h
  split at h
  · simp at h
  · rename_i h1
    show (bV (c :: 32 :: []) i a).2=0;unfold bV;rw [if_neg h1]
    split
    · rfl
    · split
      · rfl
      · simp [bV]
 |c :: d :: r,i,a,h=>by
  show (bV (c :: d :: (r++ [32])) i a).2=0;unfold bV at h ⊢
  split at h
  · simp at h
  · rename_i h1
    rw [if_neg h1]
    split at h
    · rename_i h2;rw [if_pos h2]
    · rename_i h2
      rw [if_neg h2]
      split at h
      · rename_i h3
        rw [if_pos h3]
        cases he:mR d with
        |none=>rfl
        |some e=>
         rw [he] at h;exact M2 r (i+2) (a++ [e]) h
      · rename_i h3
        rw [if_neg h3];exact M2 (d :: r) (i+1) (a++ [c]) h
theorem ae1 (u:al):bZ pf bL (u++ [32])=bZ pf bL u:=by
 cases hq:Lib.hasPrefix u [39] with
 |false=>exact aeZ pf bL u [] afP hq
 |true=>
  obtain ⟨t,rfl⟩:=(qF u 39).1 hq;have hq2:Lib.hasPrefix (39 :: t++ [32]) [39]=true:=by simp [Lib.hasPrefix]
  by_cases hz:(bL (39 :: t)).2=0
  · have h2:(bL (39 :: t++ [32])).2=0:=by
     unfold bL at hz ⊢;exact M2 t 1 [] hz
    unfold bZ;rw [if_pos hq2,if_pos hq,if_pos h2,if_pos hz]
  · have h2:=ahm (s:=39 :: t) [32] hz
    unfold bZ;rw [if_pos hq2,if_pos hq,h2]
theorem agb (x:al):Lib.trimLeftB (x++ [32]) 32=if Lib.trimLeftB x 32= [] then [] else Lib.trimLeftB x 32++ [32]:=by
 unfold Lib.trimLeftB
 induction x with
 |nil=>simp
 |cons c r ih=>
  by_cases h:c=32
  · subst h
    rw [List.cons_append,List.dropWhile_cons_of_pos (by simp),List.dropWhile_cons_of_pos (by simp)];exact ih
  · rw [List.cons_append,List.dropWhile_cons_of_neg (by simpa using h),List.dropWhile_cons_of_neg (by simpa using h),if_neg (by simp)];rfl
theorem FP (c:UInt8) (l:al):Lib.hasPrefix (c :: l) [35]=decide (c=35):=by
 rw [Bool.eq_iff_iff,decide_eq_true_eq,qF];exact ⟨fun ⟨r,h⟩=>by injection h,fun h=>⟨l,by rw [h]⟩⟩
theorem Ha (x:al):bF (x++ [32])=if bF x= [] then [] else bF x++ [32]:=by
 have h:=agb x;unfold bF;rw [h]
 cases hx:Lib.trimLeftB x 32 with
 |nil=>rw [if_pos rfl];rfl
 |cons c r=>
  have e1:=FP c r;have e2:=FP c (r++ [32]);have e3:(if (c :: r:al)= [] then [] else c :: r++ [32])=c :: (r++ [32]):=if_neg (by simp);rw [e3,e1,e2]
  cases hd:decide (c=35)<;>simp
theorem Ph {s:al} {k:Nat} (h:ff s=some k):k≤s.length:=by
 unfold ff at h;have h0:mT s≤s.length:=(List.takeWhile_prefix _).length_le
 split at h
 · split at h
   · cases h
   · rename_i r hr
     have h1:=(rt (n:=r.2) (v:=r.1) hr).2;rename_i h61 _;have h2:=(List.getElem?_eq_some_iff.1 h61).1;rw [List.length_drop] at h1
     split at h
     · cases h
     · cases h;omega
 · cases h;exact h0
theorem yN {s:al} {k:Nat} {c:UInt8} {r:al} (hs:s=c :: r) (hc:c≠32) (h:ff s=some k):0<k:=by
 unfold ff at h
 split at h
 · split at h
   · cases h
   · split at h
     · cases h
     · cases h;omega
 · rename_i h61
   cases h
   subst hs;unfold mT at h61 ⊢;by_cases h1:c=61
   · subst h1;simp at h61
   · rw [List.takeWhile_cons];simp [hc,h1]
theorem Pj (y:al):ff (y++ [32])=ff y:=by
 obtain ⟨b,h1,h2,h3⟩:=zA (fun c:UInt8=>c != 32&&c != 61) y;obtain ⟨f,hf⟩:∃f,f=y.takeWhile (fun c:UInt8=>c != 32&&c != 61):=⟨_,rfl⟩;rw [←hf] at h1 h2;have hfc:∀c∈f,c≠32∧c≠61:=fun c hc=>by have:=h2 c hc;simpa using this
 rw [h1]
 cases b with
 |nil=>rw [List.append_nil,r7 hfc (by simp),←List.append_nil f,r7 hfc (by simp),List.append_nil]
 |cons c u=>
  have hc:=h3 c rfl;by_cases h32:c=32
  · subst h32
    rw [List.append_assoc,r7 hfc (by simp),r7 hfc (by simp)]
  · have h61:c=61:=by simp [h32] at hc;exact hc
    subst h61;rw [List.append_assoc,List.cons_append,AZ hfc,AZ hfc,ae1]
    cases hr:bZ pf bL u with
    |none=>rfl
    |some r=>
     have hl:=(rt (n:=r.2) (v:=r.1) hr).2;dsimp only
     have e:(r.2<(u++ [32]).length∧(u++ [32]).getD r.2 0≠32)↔(r.2<u.length∧u.getD r.2 0≠32):=by
      simp only [List.getD_eq_getElem?_getD,List.length_append,List.length_cons,List.length_nil];by_cases h:r.2<u.length
      · rw [List.getElem?_append_left h];constructor<;>(intro ⟨_,q⟩;exact ⟨by omega,q⟩)
      · have he:r.2=u.length:=by omega
        rw [he,List.getElem?_append_right (Nat.le_refl _),Nat.sub_self];simp
     simp only [e]
theorem Pm:∀(n:Nat) (x:al),x.length≤n→cJ (x++ [32])=cJ x
 |n,x,hn=>by
  rw [←mS (x++ [32]),Ha,←mS x];by_cases hy:bF x= []
  · rw [if_pos hy,hy]
  · rw [if_neg hy]
    obtain ⟨y,hyx⟩:∃y,y=bF x:=⟨_,rfl⟩;have ht:bF y=y:=by rw [hyx,qQ]
    rw [←hyx] at hy ⊢;obtain ⟨c,r,hc,hc1,hc2⟩:=zy ht hy;have ht2:bF (y++ [32])=y++ [32]:=by rw [Ha,ht,if_neg hy]
    have hy2:y++ [32]≠ []:=by simp
    cases hk:ff y with
    |none=>rw [r8 ht hy hk,r8 ht2 hy2 (by rw [Pj];exact hk)]
    |some k=>
     have h0:=yN hc hc1 hk;have hle:=Ph hk;have hyl:y.length≤x.length:=by rw [hyx];exact mP x
     have hpos:=List.length_pos_iff.2 hy;obtain ⟨n,rfl⟩:∃m,n=m+1:=⟨n - 1,by omega⟩
     rw [nQ ht hy hk h0,nQ ht2 hy2 (by rw [Pj];exact hk) h0,List.take_append_of_le_length hle,List.drop_append_of_le_length hle,
      Pm n (y.drop k) (by rw [List.length_drop];omega)]
theorem Pk (x:al):∀k,cJ (x++List.replicate k 32)=cJ x
 |0=>by simp
 |k+1=>by rw [List.replicate_succ',←List.append_assoc,Pm _ _ (Nat.le_refl _),Pk x k]
theorem agd (x:al):∃k,x=Lib.trimRightB x 32++List.replicate k 32:=by
 unfold Lib.trimRightB
 have key:∀l:al,∃k,l=List.replicate k 32++l.dropWhile (· ==32):=fun l=>by
  induction l with
  |nil=>exact ⟨0,rfl⟩
  |cons c r ih=>
   by_cases h:c=32
   · subst h
     obtain ⟨k,hk⟩:=ih;refine ⟨k+1,?_⟩;rw [List.dropWhile_cons_of_pos (by simp),List.replicate_succ,List.cons_append,←hk]
   · exact ⟨0,by rw [List.dropWhile_cons_of_neg (by simpa using h)];rfl⟩
 obtain ⟨k,hk⟩:=key x.reverse;refine ⟨k,?_⟩;have:=congrArg List.reverse hk;rw [List.reverse_reverse,List.reverse_append,List.reverse_replicate] at this;exact this
theorem Nd (z:al) (k:Nat):wd (z++List.replicate k 32)=wd z:=by
 obtain ⟨b,h1,h2,h3,_⟩:=pm z
 conv=>lhs;rw [h1,List.append_assoc]
 unfold wd;refine DR (fun x hx=>by have:=h2 x hx;simpa using this) (fun x hx=>?_)
 cases b with
 |nil=>
  cases k with
  |zero=>simp at hx
  |succ k=>rw [List.nil_append,List.replicate_succ] at hx;simp at hx;rw [←hx];rfl
 |cons c r=>
  have:=h3 c rfl;simp at hx;subst hx;rw [this];rfl
theorem Zs (z:al) (k:Nat):(z++List.replicate k 32).dropWhile (· != 32)=z.dropWhile (· != 32)++List.replicate k 32:=by
 have h1:=Nd z k;have h2:wd (z++List.replicate k 32)++(z++List.replicate k 32).dropWhile (· != 32)=z++List.replicate k 32:=List.takeWhile_append_dropWhile;have h3:wd z++z.dropWhile (· != 32)=z:=List.takeWhile_append_dropWhile;rw [h1] at h2;have h4:wd z++(z++List.replicate k 32).dropWhile (· != 32)=wd z++(z.dropWhile (· != 32)++List.replicate k 32):=by rw [h2,←List.append_assoc,h3]
 exact List.append_cancel_left h4
theorem afe {x y:al} (h:cJ x=cJ y):eU x=eU y:=by unfold eU;rw [h]
theorem afd {z:al} (k:Nat):eU (a7 (z++List.replicate k 32))=eU (a7 z):=by
 refine afe ?_;unfold a7;rw [Zs,mS,mS,Pk]
def gQ:al:= [45,62]
def j1:al:= [45,45]
theorem Si {s:al} {a b:UInt8} (ha:a≠32) (hb:b≠32):Lib.hasPrefix (s++ [32]) [a,b,32]=decide (wd s= [a,b]):=by
 obtain ⟨t,h1,h2,h3,_⟩:=pm s;rw [Bool.eq_iff_iff,decide_eq_true_eq,ni]
 constructor
 · rintro ⟨r,hr⟩
   have hw:wd (s++ [32])=wd s:=Nd s 1;rw [←hw,←hr];unfold wd;simp [ha,hb]
 · intro hw
   rw [hw] at h1
   cases t with
   |nil=>exact ⟨[],by rw [h1];rfl⟩
   |cons c r=>
    have hc:=h3 c rfl;subst hc;exact ⟨r++ [32],by rw [h1];simp⟩
theorem G9 (s:al):(cZ s).2.1=decide (wd (a7 (a7 s))=gQ)∧(cZ s).2.2=(decide (wd (a7 (a7 s))=gQ)||decide (wd (a7 (a7 s))=j1)):=by
 have h1:=Si (s:=a7 (a7 s)) (a:=45) (b:=62) (by decide) (by decide);have h2:=Si (s:=a7 (a7 s)) (a:=45) (b:=45) (by decide) (by decide);unfold cZ rK;rw [h1,h2];unfold gQ j1;by_cases e1:wd (a7 (a7 s))= [45,62]
 · rw [if_pos (by simpa using e1)];simp [e1]
 · rw [if_neg (by simpa using e1)]
   by_cases e2:wd (a7 (a7 s))= [45,45]
   · rw [if_pos (by simpa using e2)];simp [e2]
   · rw [if_neg (by simpa using e2)];simp [e1,e2]
theorem Tq {s:al} (h:(cZ s).2.2=true):wd (ga s)=wd (a7 (a7 (a7 s)))∧eU (a7 (ga s))=eU (a7 (a7 (a7 (a7 s)))):=by
 obtain ⟨s2,hs2⟩:∃s2,s2=a7 (a7 s):=⟨_,rfl⟩
 have harr:(cZ s).1=(s2++ [32]).drop 3:=by
  unfold cZ at h ⊢;rw [←hs2] at h ⊢;unfold rK at h ⊢
  split
  · rfl
  · rename_i h1
    rw [if_neg h1] at h
    split
    · rfl
    · rename_i h2;rw [if_neg h2] at h;cases h
 have hw:∃a b,wd s2= [a,b]:=by
  have:=(G9 s).2;rw [h,←hs2] at this;have h3:=this.symm;rw [Bool.or_eq_true,decide_eq_true_eq,decide_eq_true_eq] at h3
  rcases h3 with h3|h3
  · exact ⟨_,_,h3⟩
  · exact ⟨_,_,h3⟩
 obtain ⟨a,b,hab⟩:=hw;obtain ⟨t,h1,h2,h3,h4⟩:=pm s2;rw [hab] at h1
 have hd:bF (cZ s).1=bF (t++ [32]):=by
  rw [harr,h1]
  cases t with
  |nil=>rfl
  |cons c r=>
   have hc:=h3 c rfl;subst hc;show bF (r++ [32])=bF (32 :: (r++ [32]));unfold bF
   have:Lib.trimLeftB (32 :: (r++ [32])) 32=Lib.trimLeftB (r++ [32]) 32:=by
    unfold Lib.trimLeftB;rw [List.dropWhile_cons_of_pos (by simp)]
   rw [this]
 have hz:ga s=Lib.trimRightB (if bF t= [] then [] else bF t++ [32]) 32:=by unfold ga;rw [hd,Ha]
 obtain ⟨z,hzt⟩:∃z,z=bF t:=⟨_,rfl⟩;rw [←hs2,h4,←hzt];rw [←hzt] at hz;by_cases hz0:z= []
 · rw [if_pos hz0] at hz
   rw [hz,hz0];exact ⟨rfl,rfl⟩
 · rw [if_neg hz0] at hz
   have hzr:ga s=Lib.trimRightB z 32:=by
    rw [hz];unfold Lib.trimRightB;rw [List.reverse_append,List.reverse_cons,List.reverse_nil,List.nil_append,List.singleton_append,List.dropWhile_cons_of_pos (by simp)]
   obtain ⟨k,hk⟩:=agd z;rw [←hzr] at hk;rw [hk];exact ⟨(Nd _ _).symm,(afd k).symm⟩
theorem OY {s:al} {ls:List (al)} {ps:List Pr} (g:GV) (h1:bO (wd s)=true) (h2:bO (wd (a7 s))=true) (h3:wd (a7 (a7 s))=gQ∨wd (a7 (a7 s))=j1) (h4:bO (wd (a7 (a7 (a7 s))))=true) (h:eU (a7 (a7 (a7 (a7 s))))=some (ls,ps)):
 jO s 0 g=(⟨g.ns,g.es++ [⟨wd s,(((idx (wd (a7 s)) (cK g)).getD 0:Nat):Int),(((idx (wd (a7 (a7 (a7 s)))) (cK g)).getD 0:Nat):Int),decide (wd (a7 (a7 s))=gQ),gB ls,jE [] ps⟩]⟩,jF (f7 (dy g)) (wd s) 1000 (eP [] ps (eL [] ls (iG (idx (wd (a7 (a7 (a7 s)))) (cK g)) (iG (idx (wd (a7 s)) (cK g)) 0))))):=by
 have ha:=G9 s
 have ha2:(cZ s).2.2=true:=by
  rw [ha.2,Bool.or_eq_true,decide_eq_true_eq,decide_eq_true_eq];exact h3
 obtain ⟨e1,e2⟩:=Tq ha2
 rw [Zu g h1 h2 ha2 (by rw [e1];exact h4) (by rw [e2];exact h),e1,ha.1]
theorem nO {s:al} (g:GV) (h:bO (wd s)=false∨bO (wd (a7 s))=false∨¬(wd (a7 (a7 s))=gQ∨wd (a7 (a7 s))=j1)∨bO (wd (a7 (a7 (a7 s))))=false∨eU (a7 (a7 (a7 (a7 s))))=none):(jO s 0 g).2=2:=by
 have ha:=G9 s;by_cases ha2:(cZ s).2.2=true
 · obtain ⟨e1,e2⟩:=Tq ha2
   refine OW g ?_;rw [e1,e2]
   rcases h with h|h|h|h|h
   · exact .inl h
   · exact .inr (.inl h)
   · exact absurd (by rw [ha.2,Bool.or_eq_true,decide_eq_true_eq,decide_eq_true_eq] at ha2;exact ha2) h
   · exact .inr (.inr (.inr (.inl h)))
   · exact .inr (.inr (.inr (.inr h)))
 · exact OW g (.inr (.inr (.inl (by simpa using ha2))))
theorem Rg {x y:al} (h:Op.bytesLess x y=true):decide (x≤y)=true:=by
 rw [decide_eq_true_eq];show ¬y<x;intro h2;have h3:Op.bytesLess y x=true:=by rw [bytesLess_eq];exact decide_eq_true h2
 have:=rN _ _ _ h h3;rw [tE] at this;cases this
def St (t:al):Prop:=∀x,t.head? =some x→x=32
theorem MF {b:UInt8} (h:b≠10) (r:al):dS (b :: r)=(b :: (dS r).headD []) :: (dS r).tail:=by show (if _ then _ else _)=_;rw [if_neg h]
theorem Rr (s:al) (r:List (al)) (i:Nat) (g:GV):km (s :: r) i g=if (dN s g).2=0 then km r (i+1) (dN s g).1 else (⟨[],[]⟩,(i:Int)+1,(dN s g).2):=rfl
theorem Td:∀{z:al},(10:UInt8) ∉ z→dS z= [z]
 | [],_=>rfl
 |b :: r,h=>by
  have h1:b≠10:=fun e=>h (by rw [e];exact List.mem_cons_self ..);have ih:=Td (z:=r) (fun hm=>h (List.mem_cons_of_mem _ hm));rw [MF h1,ih];rfl
theorem Tc:∀{l:al} (z:al),(10:UInt8) ∉ l→dS (l++10 :: z)=l :: dS z
 | [],z,_=>by show (if _ then _ else _)=_;rw [if_pos rfl]
 |b :: r,z,h=>by
  have h1:b≠10:=fun e=>h (by rw [e];exact List.mem_cons_self ..);have ih:=Tc (l:=r) z (fun hm=>h (List.mem_cons_of_mem _ hm));rw [List.cons_append];rw [MF h1,ih];rfl
theorem afO {s:al} (h:bF s= []) (g:GV):dN s g=(g,0):=by unfold dN;rw [if_pos h]
end Go.Proofs.YtjmlknjbhbfneaaGreatDoor
