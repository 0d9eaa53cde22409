import Derived.Test.YtjmlknjbhbfneaaGreatDoorZLT
namespace Go.Proofs.YtjmlknjbhbfneaaGreatDoor
open Go.RowKit Go.Bw Go.Bw.Fl
set_option linter.unusedVariables false
set_option linter.unusedSimpArgs false
theorem OR:∀(ls o:List (al)) (e:Int),eL o ls e=0→e=0∧(∀x∈o,∀y∈ls,x≠y)∧ls.Pairwise (·≠·)
 | [],o,e,h=>⟨h,(fun x _ y hy=>by cases hy),.nil⟩
 |w :: r,o,e,h=>by
  unfold eL at h;obtain ⟨h1,h2,h3⟩:=OR r _ _ h;by_cases hm:w∈o
  · rw [if_pos hm] at h1;exact absurd h1 (tD (by decide))
  · rw [if_neg hm] at h1
    refine ⟨h1,fun x hx y hy=>?_,List.pairwise_cons.2 ⟨fun y hy=>h2 w (by simp) y hy,h3⟩⟩
    rcases List.mem_cons.1 hy with rfl|hy
    · exact fun e=>hm (e ▸ hx)
    · exact h2 x (List.mem_append_left _ hx) y hy
def rI (o:List Pr):Prop:=o.Pairwise (fun p q=>Op.bytesLess p.1 q.1=true)
theorem Fw {o:List Pr} {p:Pr} (h:rI o) (hf:mU o p.1=false):rI (eS o (eI o p.1) p):=by
 obtain ⟨b,h1,h2,h3⟩:=zA (fun q:Pr=>decide (Lib.compareBytes q.1 p.1<0)) o;obtain ⟨a,ha⟩:∃a,a=o.takeWhile (fun q:Pr=>decide (Lib.compareBytes q.1 p.1<0)):=⟨_,rfl⟩;rw [←ha] at h1 h2;have hl:eI o p.1=a.length:=by unfold eI;rw [ha]
 have hlt:∀q∈a,Op.bytesLess q.1 p.1=true:=fun q hq=>(yG _ _).1 (of_decide_eq_true (h2 q hq))
 have hins:eS o (eI o p.1) p=a++p :: b:=by
  unfold eS;rw [hl]
  conv=>lhs;rw [h1]
  rw [List.take_left,List.drop_left]
 unfold rI at h;rw [h1,List.pairwise_append] at h
 have hgt:∀q∈b,Op.bytesLess p.1 q.1=true:=by
  cases b with
  |nil=>intro q hq;cases hq
  |cons c r=>
   have h4:=h3 c rfl
   have h5:Op.bytesLess c.1 p.1=false:=by
    cases e:Op.bytesLess c.1 p.1 with
    |false=>rfl
    |true=>rw [decide_eq_true ((yG _ _).2 e)] at h4;cases h4
   have h6:c.1≠p.1:=fun e=>by
    unfold mU at hf
    have h7:o.getD a.length cA=c:=by
     rw [h1];simp [List.getD_eq_getElem?_getD]
    rw [hl,h7,decide_eq_true e] at hf;have h8:a.length<o.length:=by rw [h1];simp
    rw [decide_eq_true h8] at hf;cases hf
   have h7:Op.bytesLess p.1 c.1=true:=by
    rcases uR c.1 p.1 with h|h|h
    · rw [h] at h5;cases h5
    · exact absurd h h6
    · exact h
   intro q hq
   rcases List.mem_cons.1 hq with rfl|hq
   · exact h7
   · exact rN _ _ _ h7 ((List.pairwise_cons.1 h.2.1).1 q hq)
 rw [hins];refine List.pairwise_append.2 ⟨h.1,List.pairwise_cons.2 ⟨hgt,h.2.1⟩,fun x hx y hy=>?_⟩
 rcases List.mem_cons.1 hy with rfl|hy
 · exact hlt x hx
 · exact h.2.2 x hx y hy
theorem ac6 {o:List Pr} {p q:Pr} {i:Nat} (h:q∈eS o i p):q∈o∨q=p:=by
 unfold eS at h;rw [List.mem_append,List.mem_cons] at h
 rcases h with h|h|h
 · exact .inl (List.mem_of_mem_take h)
 · exact .inr h
 · exact .inl (List.mem_of_mem_drop h)
theorem FL {p:Pr} {e:Int} (h:gr p e=0):e=0∧p.2.k≠0:=by
 unfold gr at h
 split at h
 · exact absurd h (tD (by decide))
 · rename_i h1;exact ⟨h,h1⟩
theorem OU:∀(ps o:List Pr) (e:Int),rI o→eP o ps e=0→e=0∧rI (jE o ps)∧(∀p∈ps,p.2.k≠0)∧∀q∈jE o ps,q∈o∨q∈ps
 | [],o,e,ho,h=>⟨h,ho,(fun p hp=>by cases hp),fun q hq=> .inl hq⟩
 |p :: r,o,e,ho,h=>by
  unfold eP at h
  have key:mU o p.1=false∧gr p e=0∧eP (eS o (eI o p.1) p) r 0=0:=by
   cases hf:mU o p.1 with
   |true=>
    rw [hf,if_pos rfl] at h
    exfalso
    have:∀(r o:List Pr) (e:Int),e≠0→eP o r e≠0:=by
     intro r
     induction r with
     |nil=>intro o e he;exact he
     |cons q r ih=>
      intro o e he;unfold eP;refine ih _ _ ?_;have hn:gr q e≠0:=fun h=>he (FL h).1
      split
      · exact tD (by decide)
      · exact hn
    exact this r _ _ (tD (by decide)) h
   |false=>
    rw [hf,if_neg (by simp)] at h;by_cases hz:gr p e=0
    · rw [hz] at h;exact ⟨rfl,hz,h⟩
    · exfalso
      have:∀(r o:List Pr) (e:Int),e≠0→eP o r e≠0:=by
       intro r
       induction r with
       |nil=>intro o e he;exact he
       |cons q r ih=>
        intro o e he;unfold eP;refine ih _ _ ?_;have hn:gr q e≠0:=fun h=>he (FL h).1
        split
        · exact tD (by decide)
        · exact hn
      exact this r _ _ hz h
  obtain ⟨hf,hz,hr⟩:=key;obtain ⟨_,h2,h3,h4⟩:=OU r _ 0 (Fw ho hf) hr;refine ⟨(FL hz).1,h2,fun q hq=>?_,fun q hq=>?_⟩
  · rcases List.mem_cons.1 hq with rfl|hq
    · exact (FL hz).2
    · exact h3 q hq
  · rcases h4 q hq with h5|h5
    · rcases ac6 h5 with h6|h6
      · exact .inl h6
      · exact .inr (by rw [h6];exact List.mem_cons_self ..)
    · exact .inr (List.mem_cons_of_mem _ h5)
theorem afJ {ls:List (al)} (h:ls.Pairwise (·≠·)):(gB ls).Pairwise (fun x y=>Op.bytesLess x y=true):=by
 have h1:(gB ls).Pairwise (fun x y=>decide (x≤y)=true):=by
  have:=List.pairwise_mergeSort (le:=fun x y:al=>decide (x≤y)) (fun a b c h1 h2=>by
   rw [decide_eq_true_eq] at h1 h2 ⊢
   intro hc
   have h1':¬b<a:=h1
   have h2':¬c<b:=h2
   have k1:Op.bytesLess c a=true:=by rw [bytesLess_eq];exact decide_eq_true hc
   rcases uR a b with e|e|e
   · exact h2' (by have:=rN _ _ _ k1 e;rw [bytesLess_eq] at this;exact of_decide_eq_true this)
   · subst e;exact h2' hc
   · exact h1' (by rw [bytesLess_eq] at e;exact of_decide_eq_true e)) (fun a b=>by
   rw [Bool.or_eq_true,decide_eq_true_eq,decide_eq_true_eq]
   rcases uR a b with e|e|e
   · exact .inl (of_decide_eq_true (Rg e))
   · subst e;exact .inl (fun hc=>by have:Op.bytesLess a a=true:=(by rw [bytesLess_eq];exact decide_eq_true hc);rw [tE] at this;cases this)
   · exact .inr (of_decide_eq_true (Rg e))) ls
  exact this
 have h2:(gB ls).Pairwise (·≠·):=List.Perm.pairwise (List.mergeSort_perm ls _).symm h (fun h e=>h e.symm);refine (h1.and h2).imp fun {x y} ⟨a,b⟩=>?_;rw [decide_eq_true_eq] at a;have a':¬y<x:=a
 rcases uR x y with e|e|e
 · exact e
 · exact absurd e b
 · exact absurd (by rw [bytesLess_eq] at e;exact of_decide_eq_true e) a'
theorem aeE {s:al} {p:Pr} {r:al} (h:∀e,cS s e=(p,r,if p.2.k=0 then cP e 4 else e)):p.1.length+p.2.s.length+1+r.length≤s.length:=by
 have h0:=h 0;unfold cS at h0;dsimp only at h0
 split at h0
 · have h3:=congrArg (fun x=>x.2.2) h0
   dsimp only at h3;have e2:cP 0 2=2:=rfl;have e4:cP 0 4=4:=rfl;rw [e2,e4] at h3
   split at h3<;>cases h3
 · rename_i hno
   have h1:=congrArg (fun x=>x.1) h0;have h2:=congrArg (fun x=>x.2.1) h0;dsimp only at h1 h2
   cases hr:bZ pf bL (cy s).2 with
   |none=>
    unfold iF at hno;rw [hr] at hno;simp at hno
   |some q=>
    obtain ⟨v,m⟩:=q;rw [hr] at h1 h2;have hml:=(rt hr).2;have hm0:=(rt hr).1;have hsl:=ae0 (SD hr (Nat.le_refl _));rw [List.length_take] at hsl;have hp1:p.1=(cy s).1:=by rw [←h1]
    have hp2:p.2=v:=by rw [←h1];rfl
    have hr2:r.length≤(cy s).2.length - m:=by
     rw [←h2];have:=mP ((cy s).2.drop m);rw [List.length_drop] at this;exact this
    have h61:(61:UInt8)∈s:=Classical.byContradiction fun hn=>by
     rw [OE hn] at hml;simp at hml;omega
    obtain ⟨nm,u,hsu,hnm⟩:=EH h61;have hc:cy s=(nm,u):=by rw [hsu];exact AL hnm
    rw [hc] at hp1 hr2 hml hsl;dsimp only at hp1 hr2 hml hsl;rw [hp1,hp2,hsu,List.length_append,List.length_cons];omega
theorem Sr:∀(n:Nat) (s:al) (ps:List Pr),s.length≤n→bF s=s→gN s=some ps→eV ps≤s.length
 |n,s,ps,hn,ht,hps=>by
  by_cases hs:s= []
  · subst hs
    have:gN []=some []:=by unfold gN;rw [oN rfl];rfl
    rw [this] at hps;cases hps;simp [eV]
  · have h0:=List.length_pos_iff.2 hs
    obtain ⟨n,rfl⟩:∃k,n=k+1:=⟨n - 1,by omega⟩
    rcases Mf ht hs with ⟨p,r,h1,h2,h3,h4⟩|⟨h1,_⟩
    · rw [h1] at hps
      obtain ⟨ps',h5,rfl⟩:=Option.map_eq_some_iff.1 hps;have h6:=Sr n r ps' (by omega) h3 h5;have h7:=aeE h2;have e:eV (p :: ps')=p.1.length+p.2.s.length+1+eV ps':=by simp [eV]
      omega
    · rw [h1] at hps;cases hps
theorem Mw:∀(n:Nat) (s:al) (ls:List (al)) (ps:List Pr),s.length≤n→bF s=s→eU s=some (ls,ps)→gP ls+eV ps≤s.length
 |n,s,ls,ps,hn,ht,hr=>by
  cases hc:Lib.hasPrefix s [58] with
  |false=>
   rw [L4 ht hc] at hr;obtain ⟨q,h1,h2⟩:=Option.map_eq_some_iff.1 hr
   cases h2
   have:=Sr _ s _ (Nat.le_refl _) ht h1
   simpa [gP] using this
  |true=>
   have h0:=AJ hc;obtain ⟨n,rfl⟩:∃k,n=k+1:=⟨n - 1,by omega⟩;have h1:=lF (s.drop 1);have h2:(s.drop 1).length=s.length - 1:=List.length_drop
   rcases LK ht hc with ⟨hw,h3⟩|⟨_,h3⟩
   · rw [h3] at hr
     obtain ⟨⟨ls',ps'⟩,h4,h5⟩:=Option.map_eq_some_iff.1 hr
     cases h5
     have h6:=Mw n (a7 (s.drop 1)) ls' ps' (by omega) (ic _) h4;obtain ⟨b,g1,_,_,g4⟩:=pm (s.drop 1);have g5:=congrArg List.length g1;rw [List.length_append] at g5;have g6:=mP b;rw [g4] at h6;have e:gP (wd (s.drop 1) :: ls')=(wd (s.drop 1)).length+1+gP ls':=by simp [gP]
     have h7:0<s.length:=h0;show gP (wd (s.drop 1) :: ls')+eV ps'≤s.length;rw [e];omega
   · rw [h3] at hr;cases hr
theorem Tk (ls:List (al)):gP (gB ls)=gP ls:=by
 unfold gP;exact List.Perm.sum_nat ((List.mergeSort_perm ls _).map _)
theorem afV (o:List Pr) (i:Nat) (p:Pr):eV (eS o i p)=eV o+(p.1.length+p.2.s.length+1):=by
 have h:=congrArg eV (List.take_append_drop i o);unfold eV at h ⊢;unfold eS;rw [List.map_append,List.sum_append] at h;rw [List.map_append,List.sum_append,List.map_cons,List.sum_cons];omega
theorem MJ:∀(ps o:List Pr),eV (jE o ps)=eV o+eV ps
 | [],o=>by simp [jE,eV]
 |p :: r,o=>by
  unfold jE;rw [MJ r,afV];have e:eV (p :: r)=p.1.length+p.2.s.length+1+eV r:=by simp [eV]
  omega
theorem Uv (s:al):(wd s).length+(a7 s).length≤s.length:=by
 obtain ⟨b,g1,_,_,g4⟩:=pm s;have g5:=congrArg List.length g1;rw [List.length_append] at g5;have g6:=mP b;rw [g4];omega
theorem Tf {s:al} {g:GV} (hs:(dN s g).2=0):dO (dN s g).1≤dO g+s.length+1:=by
 have hbl:=mP s;have hr1:=lF (bF s);unfold dN at hs ⊢
 split
 · show dO g≤_;omega
 · rename_i h1
   rw [if_neg h1] at hs
   split
   · rename_i h2
     rw [if_pos h2] at hs;obtain ⟨t,ht⟩:∃t,t=a7 (bF s):=⟨_,rfl⟩;rw [←ht] at hs hr1 ⊢;by_cases hw:bO (wd t)=true
     · cases hr:eU (a7 t) with
       |none=>rw [uw g (.inr hr)] at hs;cases hs
       |some q=>
        obtain ⟨ls,ps⟩:=q;rw [RP g hw hr];have h3:=Mw _ _ ls ps (Nat.le_refl _) (ic t) hr;have h4:=Uv t;have e:dO ⟨g.ns++ [⟨wd t,gB ls,jE [] ps⟩],g.es⟩=dO g+jG ⟨wd t,gB ls,jE [] ps⟩:=by unfold dO;simp;omega
        have e2:jG ⟨wd t,gB ls,jE [] ps⟩=(wd t).length+gP ls+eV ps+1:=by
         unfold jG;rw [Tk,MJ];simp [eV]
        show dO ⟨g.ns++ [⟨wd t,gB ls,jE [] ps⟩],g.es⟩≤_;rw [e,e2];omega
     · rw [uw g (.inl (by simpa using hw))] at hs;cases hs
   · rename_i h2
     rw [if_neg h2] at hs
     split
     · rename_i h3
       rw [if_pos h3] at hs;obtain ⟨t,ht⟩:∃t,t=a7 (bF s):=⟨_,rfl⟩;rw [←ht] at hs hr1 ⊢;by_cases hbad:bO (wd t)=false∨bO (wd (a7 t))=false∨¬(wd (a7 (a7 t))=gQ∨wd (a7 (a7 t))=j1)∨bO (wd (a7 (a7 (a7 t))))=false∨eU (a7 (a7 (a7 (a7 t))))=none
       · rw [nO g hbad] at hs;cases hs
       · have b1:bO (wd t)=true:=by cases e:bO (wd t) with|true=>rfl|false=>exact absurd (.inl e) hbad
         have b2:bO (wd (a7 t))=true:=by cases e:bO (wd (a7 t)) with|true=>rfl|false=>exact absurd (.inr (.inl e)) hbad
         have b3:wd (a7 (a7 t))=gQ∨wd (a7 (a7 t))=j1:=Classical.byContradiction fun h=>hbad (.inr (.inr (.inl h)));have b4:bO (wd (a7 (a7 (a7 t))))=true:=by cases e:bO (wd (a7 (a7 (a7 t)))) with|true=>rfl|false=>exact absurd (.inr (.inr (.inr (.inl e)))) hbad
         cases hr:eU (a7 (a7 (a7 (a7 t)))) with
         |none=>exact absurd (.inr (.inr (.inr (.inr hr)))) hbad
         |some q=>
          obtain ⟨ls,ps⟩:=q;rw [OY g b1 b2 b3 b4 hr];have h5:=Mw _ _ ls ps (Nat.le_refl _) (ic _) hr;have h4:=Uv t;have k1:=lF (a7 t);have k2:=lF (a7 (a7 t));have k3:=lF (a7 (a7 (a7 t)));have e:∀d:ED,dO ⟨g.ns,g.es++ [d]⟩=dO g+ow d:=fun d=>by unfold dO;simp;omega
          dsimp only;rw [e];unfold ow;rw [Tk,MJ];dsimp only;simp only [eV,List.map_nil,List.sum_nil] at h5 ⊢;omega
     · show dO g≤_;omega
theorem Rs:∀(l:List (al)) (i:Nat) (g:GV),dO (km l i g).1≤dO g+(l.map fun s=>s.length+1).sum
 | [],i,g=>by simp [km]
 |s :: r,i,g=>by
  rw [Rr];by_cases h1:(dN s g).2=0
  · rw [if_pos h1]
    have h2:=Rs r (i+1) (dN s g).1;have h3:=Tf h1;rw [List.map_cons,List.sum_cons];omega
  · rw [if_neg h1];simp [dO]
theorem Tb:∀(b:al),((dS b).map fun s=>s.length+1).sum=b.length+1
 | []=>rfl
 |c :: r=>by
  have ih:=Tb r;by_cases h:c=10
  · subst h
    have e:dS (10 :: r)= [] :: dS r:=by show (if _ then _ else _)=_;rw [if_pos rfl]
    rw [e,List.map_cons,List.sum_cons,ih];simp;omega
  · rw [MF h]
    rw [←Ta r] at ih;simp only [List.map_cons,List.sum_cons,List.length_cons] at ih ⊢;omega
theorem adE (b:al):dO (fA b).1≤b.length+1:=by
 have h:=Rs (dS b) 0 ⟨[],[]⟩;rw [Tb] at h;have e:dO ⟨[],[]⟩=0:=rfl;rw [e] at h;unfold fA;omega
end Go.Proofs.YtjmlknjbhbfneaaGreatDoor
