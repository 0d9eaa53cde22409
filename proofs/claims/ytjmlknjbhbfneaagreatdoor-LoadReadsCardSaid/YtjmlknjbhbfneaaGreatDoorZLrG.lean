import Derived.Test.YtjmlknjbhbfneaaGreatDoorZLrE
import Derived.Test.YtjmlknjbhbfneaaGreatDoorZLU
namespace Go.Proofs.YtjmlknjbhbfneaaGreatDoor
open Go.RowKit Go.Bw Go.Bw.Fl
set_option linter.unusedVariables false
set_option linter.unusedSimpArgs false
theorem xQ (e:Int):mE 0 e=e:=if_pos (.inl rfl)
theorem Dl (a b:Int):mE a b=mE b a:=by unfold mE;split<;>split<;>omega
theorem Dk (a b c:Int):mE (mE a b) c=mE a (mE b c):=by
 unfold mE
 repeat' split
 all_goals omega
theorem tC {e b:Int} (hb:b≠0):cP e b=mE e b:=by
 unfold cP mE;by_cases h:e=0∨b<e
 · rw [if_pos h,if_pos (h.imp id fun h=>⟨hb,h⟩)]
 · rw [if_neg h,if_neg (fun h2=>h (h2.imp id fun h=>h.2))]
theorem IP:∀(ls o:List (al)) (e:Int),eL o ls e=mE e (eL o ls 0)
 | [],o,e=>by show e=mE e 0;rw [Dl,xQ]
 |w :: r,o,e=>by
  show eL (o++ [w]) r _=mE e (eL (o++ [w]) r _);rw [IP r _ (if w∈o then cP e 3 else e),IP r _ (if w∈o then cP 0 3 else 0),←Dk]
  congr 1
  split
  · rw [tC (by decide),tC (by decide),xQ]
  · rw [Dl,xQ]
theorem RR (p:Pr) (e:Int):gr p e=mE e (gr p 0):=by
 unfold gr
 split
 · rw [tC (by decide),tC (by decide),xQ]
 · rw [Dl,xQ]
theorem yK:∀(ps o:List Pr) (e:Int),eP o ps e=mE e (eP o ps 0)
 | [],o,e=>by show e=mE e 0;rw [Dl,xQ]
 |p :: r,o,e=>by
  show eP (eS o (eI o p.1) p) r _=mE e (eP (eS o (eI o p.1) p) r _);rw [yK r _ (if mU o p.1=true then cP (gr p e) 3 else gr p e),yK r _ (if mU o p.1=true then cP (gr p 0) 3 else gr p 0),←Dk]
  congr 1
  split
  · rw [tC (by decide),tC (by decide),RR,Dk]
  · exact RR p e
theorem OT:∀(ps o:List Pr),eP o ps 3=3
 | [],_=>rfl
 |p :: r,o=>by
  show eP _ r _=3;have h1:gr p 3=3:=by unfold gr;split<;>rfl
  have h2:cP 3 3=3:=rfl;rw [h1,h2,ite_self];exact OT r _
theorem Rx {l:List (al)} {x y:al}:y∈fR l x↔y∈l∨y=x:=by
 unfold fR
 split
 · rename_i h
   exact ⟨.inl,fun h2=>by rcases h2 with h2|rfl<;>assumption⟩
 · rw [List.mem_append,List.mem_cons]
   conv=>rhs;rw [←List.take_append_drop (wK l x) l,List.mem_append]
   exact ⟨fun h=>by rcases h with h|h|h;(· exact .inl (.inl h));(· exact .inr h);(· exact .inl (.inr h)),fun h=>by rcases h with (h|h)|h;(· exact .inl h);(· exact .inr (.inr h));(· exact .inr (.inl h))⟩
theorem Q8:∀(ls s o:List (al)) (e:Int),(∀x,x∈s↔x∈o)→(e=0∨e=3)→(ls.foldl o9 (s,e)).2=eL o ls e∧(eL o ls e=0∨eL o ls e=3)
 | [],s,o,e,_,he=>⟨rfl,he⟩
 |w :: r,s,o,e,hm,he=>by
  rw [List.foldl_cons]
  have e1:o9 (s,e) w=(fR s w,if w∈o then cP e 3 else e):=by
   show (fR s w,if w∈s then (3:Int) else e)=_;have h3:cP e 3=3:=by rcases he with rfl|rfl<;>rfl
   rw [h3];by_cases h:w∈s
   · rw [if_pos h,if_pos ((hm w).1 h)]
   · rw [if_neg h,if_neg (fun h2=>h ((hm w).2 h2))]
  rw [e1];refine Q8 r _ (o++ [w]) _ (fun x=>?_) ?_
  · rw [Rx,List.mem_append,List.mem_singleton,hm]
  · split
    · rcases he with rfl|rfl<;>exact .inr rfl
    · exact he
theorem adk (ls:List (al)):(b7 ls).2=eL [] ls 0∧((b7 ls).2=0∨(b7 ls).2=3):=by
 have h:=Q8 ls [] [] 0 (fun _=>Iff.rfl) (.inl rfl);exact ⟨h.1,by unfold b7;rw [h.1];exact h.2⟩
theorem adl (ls:List (al)):(b7 ls).1=cz ls:=by
 have key:∀(ls s:List (al)) (e:Int),(ls.foldl o9 (s,e)).1=ls.foldl fR s:=fun ls=>by
  induction ls with
  |nil=>intro s e;rfl
  |cons w r ih=>intro s e;rw [List.foldl_cons,List.foldl_cons];exact ih _ _
 exact key ls [] 0
def Up (l:List (al)):Prop:=l.Pairwise fun x y=>Op.bytesLess x y=true
theorem ahN {l:List (al)} (h:Up l) (x:al):Up (fR l x):=by
 unfold fR
 split
 · exact h
 · rename_i hx
   obtain ⟨b,h1,h2,h3⟩:=zA (fun y=>Op.bytesLess y x) l;have hk:wK l x=(l.takeWhile fun y=>Op.bytesLess y x).length:=rfl;obtain ⟨a,ha⟩:∃a,a=l.takeWhile fun y=>Op.bytesLess y x:=⟨_,rfl⟩;rw [←ha] at h1 h2 hk;rw [hk];have e1:l.take a.length=a:=by rw [h1,List.take_left]
   have e2:l.drop a.length=b:=by (conv=>lhs;rw [h1]);exact List.drop_left
   rw [e1,e2];unfold Up at h ⊢;rw [h1,List.pairwise_append] at h;obtain ⟨g1,g2,g3⟩:=h
   have hb:∀y∈b,Op.bytesLess x y=true:=by
    cases b with
    |nil=>intro y hy;cases hy
    |cons c r=>
     have hc:Op.bytesLess x c=true:=by
      rcases uR x c with h|h|h
      · exact h
      · exact absurd (by rw [h1,h];simp) hx
      · rw [h3 c rfl] at h;cases h
     intro y hy
     rcases List.mem_cons.1 hy with rfl|hy
     · exact hc
     · exact rN _ _ _ hc ((List.pairwise_cons.1 g2).1 y hy)
   rw [List.pairwise_append,List.pairwise_cons];exact ⟨g1,⟨hb,g2⟩,fun y hy z hz=>by rcases List.mem_cons.1 hz with rfl|hz;(· exact h2 y hy);(· exact g3 y hy z hz)⟩
theorem R7 (ls:List (al)):Up (cz ls):=by
 have key:∀(ls s:List (al)),Up s→Up (ls.foldl fR s):=fun ls=>by
  induction ls with
  |nil=>intro s h;exact h
  |cons w r ih=>intro s h;exact ih _ (ahN h w)
 exact key ls [] .nil
theorem Rw {ls:List (al)} {x:al}:x∈cz ls↔x∈ls:=by
 have key:∀(ls s:List (al)),x∈ls.foldl fR s↔x∈s∨x∈ls:=fun ls=>by
  induction ls with
  |nil=>intro s;simp
  |cons w r ih=>intro s;rw [List.foldl_cons,ih,Rx,List.mem_cons,or_assoc]
 have:=key ls [];unfold cz;rw [this];simp
theorem SO {α:Type} {R:α→α→Prop} (irr:∀a,¬R a a) (tr:∀{a b c},R a b→R b c→R a c) {a b:List α} (ha:a.Pairwise R) (hb:b.Pairwise R) (hm:∀x,x∈a↔x∈b):a=b:=by
 have nd:∀{l:List α},l.Pairwise R→l.Nodup:=fun h=>h.imp (fun {x y} (h2:R x y) (e:x=y)=>by subst e;exact irr x h2);exact List.Perm.eq_of_pairwise (fun x y _ _ h1 h2=>absurd (tr h1 h2) (irr x)) ha hb ((List.perm_ext_iff_of_nodup (nd ha) (nd hb)).2 hm)
theorem adn {ls:List (al)} (h:eL [] ls 0=0):(b7 ls).1=gB ls:=by
 rw [adl];exact SO (R:=fun x y=>Op.bytesLess x y=true) (fun a h=>by rw [tE] at h;cases h) (fun h1 h2=>rN _ _ _ h1 h2) (R7 ls) (afJ (OR _ _ _ h).2.2) (fun x=>by rw [Rw];exact (List.mergeSort_perm ls _).mem_iff.symm)
theorem Se:∀(ps:List Pr) (s:List (al)),(ps.foldl uz (s,3)).2=3
 | [],_=>rfl
 |p :: r,s=>by
  rw [List.foldl_cons];have h1:ks s 3 p=3:=by unfold ks;split;(· rfl);(· exact if_neg (fun h=>by cases h.2))
  show (r.foldl uz (s++ [p.1],ks s 3 p)).2=3;rw [h1];exact Se r _
theorem Z5 {o:List Pr} {x:al} (h:mU o x=true):x∈o.map (·.1):=by
 unfold mU at h;rw [Bool.and_eq_true,decide_eq_true_eq,decide_eq_true_eq] at h;rw [getD_at cA h.1] at h;exact List.mem_map.2 ⟨_,List.getElem_mem h.1,h.2⟩
theorem PB {o:List Pr} {p:Pr} (hr:rI o) (h:mU o p.1=false):p.1 ∉ o.map (·.1):=fun hm=>by
 obtain ⟨q,hq,he⟩:=List.mem_map.1 hm;have h2:=Fw hr h;unfold eS rI at h2;rw [List.pairwise_append,List.pairwise_cons] at h2;rw [←List.take_append_drop (eI o p.1) o,List.mem_append] at hq
 have key:Op.bytesLess p.1 p.1=true:=by
  rcases hq with hq|hq
  · have:=h2.2.2 q hq p (List.mem_cons_self ..);rw [he] at this;exact this
  · have:=h2.2.1.1 q hq;rw [he] at this;exact this
 rw [tE] at key;cases key
theorem ac7 {o:List Pr} {p:Pr} {i:Nat} {x:al}:x∈(eS o i p).map (·.1)↔x∈o.map (·.1)∨x=p.1:=by
 unfold eS;rw [List.map_append,List.map_cons,List.mem_append,List.mem_cons]
 conv=>rhs;rw [←List.take_append_drop i o,List.map_append,List.mem_append]
 exact ⟨fun h=>by rcases h with h|h|h;(· exact .inl (.inl h));(· exact .inr h);(· exact .inl (.inr h)),fun h=>by rcases h with (h|h)|h;(· exact .inl h);(· exact .inr (.inr h));(· exact .inr (.inl h))⟩
theorem Sh:∀(ps o:List Pr) (s:List (al)) (e:Int),rI o→(∀x,x∈s↔x∈o.map (·.1))→(e=0∨e=3∨e=4)→(ps.foldl uz (s,e)).2=eP o ps e
 | [],_,_,_,_,_,_=>rfl
 |p :: r,o,s,e,hr,hm,he=>by
  rw [List.foldl_cons];show (r.foldl uz (s++ [p.1],ks s e p)).2=eP (eS o (eI o p.1) p) r _
  cases hf:mU o p.1 with
  |true=>
   have h1:ks s e p=3:=if_pos ((hm _).2 (Z5 hf))
   have h2:cP (gr p e) 3=3:=by
    unfold gr
    rcases he with rfl|rfl|rfl<;>split<;>rfl
   rw [h1,if_pos rfl,h2,Se,OT]
  |false=>
   have hn:=PB hr hf
   have h1:ks s e p=gr p e:=by
    unfold ks gr;rw [if_neg (fun h=>hn ((hm _).1 h))];by_cases hk:p.2.k=0
    · rw [if_pos hk]
      rcases he with rfl|rfl|rfl
      · rw [if_pos ⟨hk,rfl⟩];rfl
      · rw [if_neg (fun h=>by cases h.2)];rfl
      · rw [if_neg (fun h=>by cases h.2)];rfl
    · rw [if_neg hk,if_neg (fun h=>hk h.1)]
   rw [h1,if_neg (by simp)];refine Sh r _ _ _ (Fw hr hf) (fun x=>?_) ?_
   · rw [List.mem_append,List.mem_singleton,ac7,hm]
   · unfold gr;rcases he with rfl|rfl|rfl<;>split<;>first|exact .inl rfl|exact .inr (.inl rfl)|exact .inr (.inr rfl)
theorem N9:∀(ps o:List Pr) (q:Pr),q∈o∨q∈ps→q∈jE o ps
 | [],o,q,h=>by rcases h with h|h;(· exact h);(· cases h)
 |p :: r,o,q,h=>by
  show q∈jE (eS o (eI o p.1) p) r;refine N9 r _ q ?_;unfold eS;rw [List.mem_append,List.mem_cons]
  rcases h with h|h
  · rw [←List.take_append_drop (eI o p.1) o,List.mem_append] at h
    rcases h with h|h
    · exact .inl (.inl h)
    · exact .inl (.inr (.inr h))
  · rcases List.mem_cons.1 h with rfl|h
    · exact .inl (.inr (.inl rfl))
    · exact .inr h
theorem OS:∀(ps o:List Pr) (e:Int),rI o→eP o ps e=0→(∀x∈o,∀y∈ps,x.1≠y.1)∧ps.Pairwise (fun p q=>p.1≠q.1)
 | [],_,_,_,_=>⟨(fun x _ y hy=>by cases hy),.nil⟩
 |p :: r,o,e,hr,h=>by
  have h:eP (eS o (eI o p.1) p) r (if mU o p.1=true then cP (gr p e) 3 else gr p e)=0:=h
  cases hf:mU o p.1 with
  |true=>
   rw [hf,if_pos rfl,yK] at h
   exfalso
   have h2:cP (gr p e) 3≠0:=tD (by decide);unfold mE at h;split at h
   · rename_i h3;rcases h3 with h3|h3
     · exact h2 h3
     · exact h3.1 h
   · exact h2 h
  |false=>
   obtain ⟨h1,h2⟩:=OS r _ _ (Fw hr hf) h;have hn:=PB hr hf
   have hins:∀q,q∈o∨q=p→q∈eS o (eI o p.1) p:=fun q hq=>by
    unfold eS;rw [List.mem_append,List.mem_cons]
    rcases hq with hq|hq
    · rw [←List.take_append_drop (eI o p.1) o,List.mem_append] at hq
      rcases hq with hq|hq
      · exact .inl hq
      · exact .inr (.inr hq)
    · exact .inr (.inl hq)
   refine ⟨fun x hx y hy=>?_,List.pairwise_cons.2 ⟨fun y hy=>h1 p (hins p (.inr rfl)) y hy,h2⟩⟩
   rcases List.mem_cons.1 hy with rfl|hy
   · exact fun e=>hn (List.mem_map.2 ⟨x,hx,e⟩)
   · exact h1 x (hins x (.inl hx)) y hy
theorem aeI {ps:List Pr} (h:eP [] ps 0=0):uB ps=jE [] ps:=by
 obtain ⟨_,h1,_,h2⟩:=OU ps [] 0 .nil h;obtain ⟨_,h3⟩:=OS ps [] 0 .nil h;refine SO (R:=fun p q:Pr=>Op.bytesLess p.1 q.1=true) (fun a h=>by rw [tE] at h;cases h) (fun h1 h2=>rN _ _ _ h1 h2) ?_ h1 (fun x=>?_)
 · unfold uB
   rw [List.pairwise_flatMap];refine ⟨fun a _=>?_,(R7 _).imp fun {a b} hab x hx y hy=>?_⟩
   · have h4:=h3.filter (fun p=>decide (p.1=a))
     refine List.Pairwise.imp_of_mem (fun {x y} hx hy hne=>?_) h4;have e1:=of_decide_eq_true (List.mem_filter.1 hx).2;have e2:=of_decide_eq_true (List.mem_filter.1 hy).2;exact absurd (e1.trans e2.symm) hne
   · have e1:=of_decide_eq_true (List.mem_filter.1 hx).2
     have e2:=of_decide_eq_true (List.mem_filter.1 hy).2;show Op.bytesLess x.1 y.1=true;rw [e1,e2];exact hab
 · unfold uB
   rw [List.mem_flatMap];refine ⟨fun ⟨a,_,hx⟩=>N9 ps [] x (.inr (List.mem_filter.1 hx).1),fun hx=>?_⟩;have hp:x∈ps:=by rcases h2 x hx with h|h;(· cases h);(· exact h)
   exact ⟨x.1,Rw.2 (List.mem_map.2 ⟨x,hp,rfl⟩),List.mem_filter.2 ⟨hp,decide_eq_true rfl⟩⟩
theorem Mv (ls:List (al)) (ps:List Pr):(fQ (b7 ls).2 ps).2=eP [] ps (eL [] ls 0):=by
 have h:=adk ls;unfold fQ;rw [Sh ps [] [] _ .nil (fun x=>by simp) (by rcases h.2 with h|h;(· exact .inl h);(· exact .inr (.inl h))),h.1]
theorem LX {a b:Int} (h:mE a b=0):a=0∧b=0:=by
 unfold mE at h;split at h<;>omega
theorem SL {ls:List (al)} {ps:List Pr} (h:(fQ (b7 ls).2 ps).2=0):(b7 ls).1=gB ls∧uB ps=jE [] ps:=by
 rw [Mv,yK] at h;obtain ⟨h1,h2⟩:=LX h;exact ⟨adn h1,aeI h2⟩
end Go.Proofs.YtjmlknjbhbfneaaGreatDoor
