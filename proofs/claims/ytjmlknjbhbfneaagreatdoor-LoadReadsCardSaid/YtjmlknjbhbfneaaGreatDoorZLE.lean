import Derived.Test.YtjmlknjbhbfneaaGreatDoorZLD
import Derived.Test.YtjmlknjbhbfneaaGreatDoorZGB
import Derived.Shelf.Strings.SplitCore
import Derived.Test.YtjmlknjbhbfneaaGreatDoorZSU
namespace Go.Proofs.YtjmlknjbhbfneaaGreatDoor
open Go.RowKit Go.Bw Go.Bw.Fl
set_option linter.unusedVariables false
set_option linter.unusedSimpArgs false
theorem agS:bC Tryz.prog 39:=⟨_,Tryz.func39,by kernel_rfl,rfl⟩
def dS:al→List (al)
 | []=> [[]]
 |b :: r=>if b=10 then [] :: dS r else (b :: (dS r).headD []) :: (dS r).tail
theorem afM:∀(s:al),dS s≠ []
 | []=>by simp [dS]
 |b :: r=>by unfold dS;split<;>simp
theorem Ta (s:al):(dS s).headD [] :: (dS s).tail=dS s:=by
 cases h:dS s with
 |nil=>exact absurd h (afM s)
 |cons a r=>rfl
theorem Za {s:al} (h:Lib.indexByte s 10= -1):s.count 10=0:=by
 rw [List.count_eq_zero];intro hm;obtain ⟨k,hk,he⟩:=List.getElem_of_mem hm;exact Lib.indexByte_none h k (by rw [List.getElem?_eq_getElem hk,he])
theorem S9:∀(s:al),Lib.splitK [10] 0 (s.count 10) s=dS s
 | []=>by simp [Lib.splitK,dS]
 |b :: r=>by
  have ih:=S9 r;by_cases h:b=10
  · subst h
    have h1:Lib.index (10 :: r) [10]=0:=by rw [Lib.index_one];simp [Lib.indexByte]
    rw [List.count_cons_self];unfold dS;rw [if_pos rfl,←ih];show (if (Lib.index (10 :: r) [10]== -1)=true then _ else _)=_;rw [h1];simp
  · have h2:(b==10)=false:=by simpa using h
    rw [List.count_cons,h2];unfold dS;rw [if_neg h];simp only [Bool.false_eq_true,if_false,Nat.add_zero]
    cases hk:r.count 10 with
    |zero=>
     rw [hk] at ih;rw [←ih];rfl
    |succ j=>
     rw [hk] at ih;have hix:Lib.indexByte r 10≠-1:=fun e=>by rw [Za e] at hk;cases hk
     have hge:=Lib.indexByte_ge r 10;obtain ⟨i,hi⟩:∃i:Nat,Lib.indexByte r 10=(i:Int):=⟨(Lib.indexByte r 10).toNat,by omega⟩;have h3:Lib.index r [10]=(i:Int):=by rw [Lib.index_one,hi]
     have h4:Lib.index (b :: r) [10]=(i:Int)+1:=by
      rw [Lib.index_one];unfold Lib.indexByte;rw [h2,hi,if_neg (by simp),if_neg (by simp only [beq_iff_eq];omega)]
     have e3:Lib.splitK [10] 0 (j+1) r=r.take i :: Lib.splitK [10] 0 j (r.drop (i+1)):=by
      show (if (Lib.index r [10]== -1)=true then _ else _)=_;rw [h3,if_neg (by simp only [beq_iff_eq];omega)];simp
     have e4:Lib.splitK [10] 0 (j+1) (b :: r)=(b :: r.take i) :: Lib.splitK [10] 0 j (r.drop (i+1)):=by
      show (if (Lib.index (b :: r) [10]== -1)=true then _ else _)=_;rw [h4,if_neg (by simp only [beq_iff_eq];omega)];have e5:((i:Int)+1).toNat=i+1:=by omega
      rw [e5];simp
     rw [e4,←ih,e3];rfl
theorem MG (s:al):(dS s).length=s.count 10+1:=by
 induction s with
 |nil=>rfl
 |cons b r ih=>
  unfold dS;by_cases h:b=10
  · subst h;rw [if_pos rfl,List.length_cons,ih,List.count_cons_self]
  · rw [if_neg h,List.count_cons_of_ne h]
    have:(dS r).length≠0:=by omega
    simp [ih]
theorem afL (s:al):∀l∈dS s,l.length≤s.length:=by
 induction s with
 |nil=>intro l hl;simp [dS] at hl;simp [hl]
 |cons b r ih=>
  intro l hl;unfold dS at hl
  split at hl
  · rcases List.mem_cons.1 hl with rfl|h
    · simp
    · have:=ih l h;simp;omega
  · rw [←Ta r] at ih
    rcases List.mem_cons.1 hl with rfl|h
    · have:=ih _ (List.mem_cons_self ..);simp only [List.length_cons];omega
    · have:=ih l (List.mem_cons_of_mem _ h);simp;omega
theorem aad (s:al) (hs:s.length<4294967281) (w:World):be Tryz.prog 39 [str s,str [10],.int .i64 0,.int .i64 (-1)] w fun v w'=>(∃G,v= .slice (some ⟨G,0,none⟩) (dS s).length (dS s).length∧w.heap.size≤G∧aq w' G 9 (strs (dS s)))∧Below w.heap.size w w':=by
 have hsz:(⟨s.toArray⟩:ByteArray).size=s.length:=mG s;have hc1:Lib.countB ⟨s.toArray⟩ ⟨#[10]⟩=s.count 10:=by show Lib.count s [10]=_;rw [Lib.count_one]
 have hle:s.count 10≤s.length:=List.count_le_length
 have h0:=Any.strings_genSplit_core Wu (by kernel_rfl) ⟨s.toArray⟩ ⟨#[10]⟩ 0 (-1) (s.count 10+1) w (by rw [hsz];exact hs) (by decide) (by decide)
  (fun x c hx=>(Tryz.strings_Index_one x 10 _).mono fun e w' ⟨h1,h2⟩=>⟨by rw [h1];show _=Ending.returned (.int .i64 (Lib.index x.data.toList [10]));rw [Lib.index_one],h2⟩)
  ((Tryz.strings_Count_one ⟨s.toArray⟩ 10 w).mono fun e w' ⟨h1,h2⟩=>⟨by rw [h1,hc1];rfl,h2⟩) (by decide) (by decide) (by rw [hc1,hsz,if_pos (by decide)];omega)
 refine Calls.mono h0 fun e w' ⟨h1,h2⟩=>⟨_,h1,⟨w.heap.size,?_,Nat.le_refl _,?_⟩,?_⟩
 all_goals
  have hd:=Lib.splitB_data ⟨#[10]⟩ 0 (s.count 10) ⟨s.toArray⟩;have hd2:((Lib.splitB ⟨#[10]⟩ 0 (s.count 10) ⟨s.toArray⟩).map (·.data.toList))=dS s:=by rw [hd];exact S9 s
  have hl:(Lib.splitB ⟨#[10]⟩ 0 (s.count 10) ⟨s.toArray⟩).length=(dS s).length:=by rw [←hd2,List.length_map]
 · show Value.slice (some ⟨w.heap.size,0,none⟩) (Lib.splitB ⟨#[10]⟩ 0 (s.count 10+1 - 1) ⟨s.toArray⟩).length (s.count 10+1)=_
   rw [Nat.add_sub_cancel,hl,MG]
 · have e1:Lib.cellsOf (Lib.splitB ⟨#[10]⟩ 0 (s.count 10+1 - 1) ⟨s.toArray⟩) (s.count 10+1)=(strs (dS s)).toArray:=by
    rw [Nat.add_sub_cancel,←MG,←hl,Lib.cellsOf_full,←hd2]
    congr 1
    unfold strs;rw [List.map_map]
    apply List.map_congr_left
    intro x _;exact Tg x
   rw [h2,e1];exact aq.new _ _ _
 · rw [h2];exact zu _ _
theorem VS (s:al) (hs:s.length<4294967281) (w:World):be Tryz.prog 17 [str s,str [10]] w fun v w'=>(∃G,v= .slice (some ⟨G,0,none⟩) (dS s).length (dS s).length∧w.heap.size≤G∧aq w' G 9 (strs (dS s)))∧Below w.heap.size w w':=by
 have hb:=Below.refl w.heap.size w;refine enter Tryz.func17 rfl rfl rfl<|ao fun aZ=>am rfl<|an aZ<|ao fun bJ=>ai rfl<|ai rfl<|aS agS rfl rfl (aad s hs _) rfl ?_
 rintro _ cq ⟨⟨G,rfl,hG,hS⟩,bm⟩;have:=bm.size;have hb:=az hb bm;refine am rfl<|an bJ<|aK<|bj rfl rfl ?_
 exact ⟨_,rfl,⟨G,rfl,by omega,hS⟩,hb⟩
noncomputable def dN (s:al) (g:GV):GV×Int:=
 if bF s= [] then (g,0) else if wd (bF s)=i8 then mC (a7 (bF s)) 0 g else if wd (bF s)=jH then jO (a7 (bF s)) 0 g else (g,2)
noncomputable def km:List (al)→Nat→GV→GV×Int×Int
 | [],_,g=>(g,0,0)
 |s :: r,i,g=>if (dN s g).2=0 then km r (i+1) (dN s g).1 else (⟨[],[]⟩,(i:Int)+1,(dN s g).2)
noncomputable def fA (b:al):GV×Int×Int:=km (dS b) 0 ⟨[],[]⟩
theorem agF:bC Tryz.prog 17:=⟨_,Tryz.func17,by kernel_rfl,rfl⟩
theorem ahe:bC Tryz.prog 15:=⟨_,Tryz.func15,by kernel_rfl,rfl⟩
theorem ahd:bC Tryz.prog 16:=⟨_,Tryz.func16,by kernel_rfl,rfl⟩
section
variable {C L x m1 m2:Nat} {w w':World} {V1 V2:Value} {g:GV}
theorem cu.up (h:cu C L w x m1 m2 V1 V2 g):cu C w.heap.size w x m1 m2 V1 V2 g:=
 {h with
  CL:=Nat.le_trans h.CL h.Lw
  Lw:=Nat.le_refl _
  r1:=let ⟨css,a,b,c,d⟩:=h.r1;⟨css,a,b,c,fun i hi=>(d i hi).keep (fun _ _=>rfl) (fun k ⟨p,q,r,t⟩=>⟨p,Nat.lt_of_lt_of_le q h.Lw,r,t⟩)⟩
  r2:=let ⟨css,a,b,c,d⟩:=h.r2;⟨css,a,b,c,fun i hi=>(d i hi).keep (fun _ _=>rfl) (fun k ⟨p,q,r,t⟩=>⟨p,Nat.lt_of_lt_of_le q h.Lw,r,t⟩)⟩
  v1:=fun k hk=>⟨(h.v1 k hk).1,Nat.lt_of_lt_of_le (h.v1 k hk).2 h.Lw⟩
  v2:=fun k hk=>⟨(h.v2 k hk).1,Nat.lt_of_lt_of_le (h.v2 k hk).2 h.Lw⟩}
theorem cu.new {w:World} {C x m1 m2:Nat} (xC:x<C) (m1C:m1<C) (m2C:m2<C) (x1:x≠m1) (x2:x≠m2) (m12:m1≠m2) (hC:C≤w.heap.size) (hx:aq w x 50 [.slice none 0 0,.slice none 0 0,.map (some m1),.map (some m2)]) (h1:Mp w m1 []) (h2:Mp w m2 []):cu C C w x m1 m2 (.slice none 0 0) (.slice none 0 0) ⟨[],[]⟩:=
 {xC:=xC,m1C:=m1C,m2C:=m2C,x1:=x1,x2:=x2,m12:=m12,CL:=Nat.le_refl _,Lw:=hC,hx:=hx,h1:=h1,h2:=h2,r1:=⟨[],rfl,by simp,s7 _ _ _ _,fun i hi=>absurd hi (by simp)⟩,r2:=⟨[],rfl,by simp,s7 _ _ _ _,fun i hi=>absurd hi (by simp)⟩,ap:=po.nil _,v1:=(fun k hk=>by cases hk),v2:=(fun k hk=>by cases hk),oks:=by simp,oke:=by simp,ln:=by simp,le:=by simp}
theorem Mr {w:World} {sz:Nat}:∀{css:List (List Value)} {A:Option Addr} {n:Nat},css.length=n→(∀c∈css,c.length=sz)→0<sz→Rd w sz A n css.flatten→∀i,i<n→∃p,A=some p∧(css.getD i []).length=sz∧∀(j:Nat) (u:Value),(css.getD i [])[j]? =some u→w.cell? ((p.add (i * sz)).add j)=some u:=by
 intro css A n hn hc hs hR i hi;subst hn;have hl:(css.getD i []).length=sz:=by rw [getD_at [] hi];exact hc _ (List.getElem_mem hi)
 have hfl:∀(l:List (List Value)),(∀c∈l,c.length=sz)→∀(i j:Nat),i<l.length→j<sz→l.flatten[i * sz+j]? =(l.getD i [])[j]? :=by
  intro l
  induction l with
  |nil=>intro _ i j hi;simp at hi
  |cons a r ih=>
   intro hc i j hi hj;have ha:a.length=sz:=hc a (List.mem_cons_self ..)
   cases i with
   |zero=>rw [List.flatten_cons,Nat.zero_mul,Nat.zero_add,List.getElem?_append_left (by omega)];rfl
   |succ i=>
    rw [List.flatten_cons,Nat.add_mul,List.getElem?_append_right (by omega),ha,show i * sz+1 * sz+j - sz=i * sz+j by omega];exact ih (fun c h=>hc c (List.mem_cons_of_mem _ h)) i j (by simpa using hi) hj
 have h0:0<css.flatten.length:=by rw [hR.1];exact Nat.mul_pos (by omega) hs
 obtain ⟨p,hp,hcell⟩:=hR.2 h0;refine ⟨p,hp,hl,fun j u hu=>?_⟩;have hj:j<sz:=by have:=(List.getElem?_eq_some_iff.1 hu).1;omega
 rw [lL];exact hcell _ u (by rw [hfl css hc i j hi hj];exact hu)
theorem R9 {w:World} {b T sz n:Nat} {V:Value} {xs:List Value} (h:w.ownsRow b T sz V n xs):∃A c,V= .slice A n c∧n≤c:=let ⟨A,c,h1,h2,_⟩:=eT h;⟨A,c,h1,h2⟩
structure cB (B L:Nat) (w:World) (A:Option Addr) (c:Nat) (A':Option Addr) (c':Nat) (g:GV):Prop where
 gat:oE (fun k=>B≤k∧k<L) w A c A' c' g
 a1:∀q,A=some q→B≤q.block∧q.block<L
 a2:∀q,A'=some q→B≤q.block∧q.block<L
 sz:L≤w.heap.size
theorem lJ.keep {w w':World} {sz n:Nat} {A:Option Addr} {Q Q':Nat→List Value→Prop} (h:lJ w sz A n Q) (hk:∀q,A=some q→w'.heap[q.block]? =w.heap[q.block]?) (hQ:∀i cs,i<n→Q i cs→Q' i cs):lJ w' sz A n Q':=fun i hi=>
 let ⟨p,cs,h1,h2,h3,h4⟩:=h i hi
 ⟨p,cs,h1,h2,fun j u hu=>(World.cell?_of_block (by rw [Ek,Ek];exact hk p h1)).trans (h3 j u hu),hQ i cs hi h4⟩
theorem cB.keep {B L:Nat} {w w':World} {A A':Option Addr} {c c':Nat} {g:GV} (h:cB B L w A c A' c' g) (hs:w.heap.size≤w'.heap.size) (hk:∀k,B≤k→k<L→w'.heap[k]? =w.heap[k]?):cB B L w' A c A' c' g:=
 ⟨⟨h.gat.nc,h.gat.ec,h.gat.rn.keep (fun q e=>hk _ (h.a1 q e).1 (h.a1 q e).2) (fun _ _ _ hq=>hq.keep (fun k hk'=>hk k hk'.1 hk'.2) (fun _ h=>h)),h.gat.re.keep (fun q e=>hk _ (h.a2 q e).1 (h.a2 q e).2) (fun _ _ _ hq=>hq.keep (fun k hk'=>hk k hk'.1 hk'.2) (fun _ h=>h)),h.gat.oks,h.gat.oke⟩,h.a1,h.a2,Nat.le_trans h.sz hs⟩
theorem cB.below {B L:Nat} {w w':World} {A A':Option Addr} {c c':Nat} {g:GV} (h:cB B L w A c A' c' g) (hb:Below w.heap.size w w'):cB B L w' A c A' c' g:=h.keep hb.size fun k _ hk=>hb.block k (by have:=h.sz;omega)
theorem cB.over {B L q:Nat} {w w':World} {A A':Option Addr} {c c':Nat} {g:GV} (h:cB B L w A c A' c' g) (hg:w.grownBy w' (some q)) (hq:L≤q∨q<B):cB B L w' A c A' c' g:=h.keep hg.size fun k h1 h2=>hg.block k (by have:=h.sz;omega) (fun e=>by cases e;omega)
theorem cu.gin (h:cu C L w x m1 m2 V1 V2 g) {B:Nat} (hB:B≤C):∃A c A' c',V1= .slice A g.ns.length c∧V2= .slice A' g.es.length c'∧cB B L w A c A' c' g:=by
 obtain ⟨cs1,a1,b1,o1,e1⟩:=h.r1;obtain ⟨cs2,a2,b2,o2,e2⟩:=h.r2;obtain ⟨A,c,hV1,hc⟩:=R9 o1;obtain ⟨A',c',hV2,hc'⟩:=R9 o2;have R1:=fC (hV1 ▸ o1);have R2:=fC (hV2 ▸ o2);refine ⟨A,c,A',c',hV1,hV2,⟨hc,hc',fun i hi=>?_,fun i hi=>?_,h.oks,h.oke⟩,fun q e=>?_,fun q e=>?_,h.Lw⟩
 · obtain ⟨p,hp,hl,hcell⟩:=Mr a1 b1 (by decide) R1 i hi
   exact ⟨p,_,hp,hl,hcell,(e1 i hi).keep (fun _ _=>rfl) (fun k hk=>⟨Nat.le_trans hB hk.1,hk.2.1⟩)⟩
 · obtain ⟨p,hp,hl,hcell⟩:=Mr a2 b2 (by decide) R2 i hi
   exact ⟨p,_,hp,hl,hcell,(e2 i hi).keep (fun _ _=>rfl) (fun k hk=>⟨Nat.le_trans hB hk.1,hk.2.1⟩)⟩
 · have:=h.v1 q.block (by rw [hV1,e];rfl);exact ⟨Nat.le_trans hB this.1,this.2⟩
 · have:=h.v2 q.block (by rw [hV2,e];rfl);exact ⟨Nat.le_trans hB this.1,this.2⟩
end
def pE (x:Nat):List (al×Value):= [(i8,.func (.func 15) #[.pointer (some ⟨x,0,none⟩)] #[]),(jH,.func (.func 16) #[.pointer (some ⟨x,0,none⟩)] #[])]
theorem OO (x:Nat):fa (pE x) i8=some (.func (.func 15) #[.pointer (some ⟨x,0,none⟩)] #[]):=by simp [fa,pE]
theorem ON (x:Nat):fa (pE x) jH=some (.func (.func 16) #[.pointer (some ⟨x,0,none⟩)] #[]):=by
 have h:(i8==jH)=false:=by decide
 simp [fa,pE,h]
theorem Zg {x:Nat} {k:al} (h:(fa (pE x) k).isSome=false):k≠i8∧k≠jH:=
 ⟨(fun e=>by rw [e,OO] at h;cases h),(fun e=>by rw [e,ON] at h;cases h)⟩
theorem adu (C L p x m1 m2:Nat) (V1 V2:Value) (g:GV) (s:al) (w:World) (hne:bF s≠ []) (hP:aq w p 56 [str (a7 (bF s)),.int .i64 (cE (bF s) 0)]) (hD:cu C L w x m1 m2 V1 V2 g) (hp:L≤p) (hs:s.length≤4294967295) (hL:Lb w) (hG:Gl p) (hk:(fa (pE x) (wd (bF s))).isSome=true):
 ∃f l,(fa (pE x) (wd (bF s))).getD .nilFunc= .func (.func f) l #[]∧bC Tryz.prog f∧be Tryz.prog f (l.toList++ [.pointer (some ⟨p,0,none⟩)]++(#[]:Array Value).toList) w fun v w'=>(v= .tuple #[]∧(∃s',aq w' p 56 [str s',.int .i64 (dN s g).2])∧((dN s g).2=0→∃V1' V2',cu C w'.heap.size w' x m1 m2 V1' V2' (dN s g).1))∧Kq (LQ p x m1 m2 V1 V2) w w':=by
 have h1:=lF (bF s)
 have h2:=mP s
 by_cases e1:wd (bF s)=i8
 · have e0:cE (bF s) 0=0:=by unfold cE;rw [e1];decide
   have e3:dN s g=mC (a7 (bF s)) 0 g:=by unfold dN;rw [if_neg hne,if_pos e1]
   rw [e0] at hP
   refine ⟨15,#[.pointer (some ⟨x,0,none⟩)],by rw [e1,OO];rfl,ahe,(adY C L p x m1 m2 V1 V2 g (a7 (bF s)) 0 w hP hD hp (by omega) hL hG).mono fun v w' ⟨⟨a,b,c⟩,d⟩=>?_⟩
   rw [e3];exact ⟨⟨a,b,fun h=>let ⟨V,hV⟩:=c h;⟨V,V2,hV⟩⟩,d⟩
 · by_cases e2:wd (bF s)=jH
   · have e0:cE (bF s) 0=0:=by unfold cE;rw [e2];decide
     have e3:dN s g=jO (a7 (bF s)) 0 g:=by unfold dN;rw [if_neg hne,if_neg e1,if_pos e2]
     rw [e0] at hP
     refine ⟨16,#[.pointer (some ⟨x,0,none⟩)],by rw [e2,ON];rfl,ahd,(Zv C L p x m1 m2 V1 V2 g (a7 (bF s)) 0 w hP hD hp (by omega) hL hG).mono fun v w' ⟨⟨a,b,c⟩,d⟩=>?_⟩
     rw [e3];exact ⟨⟨a,b,fun h=>let ⟨V,hV⟩:=c h;⟨V1,V,hV⟩⟩,d⟩
   · exfalso
     have n1:(i8==wd (bF s))=false:=by simpa using fun e=>e1 e.symm
     have n2:(jH==wd (bF s))=false:=by simpa using fun e=>e2 e.symm
     unfold fa pE at hk
     rw [List.find?_cons] at hk
     simp only [n1] at hk
     rw [List.find?_cons] at hk
     simp only [n2] at hk
     simp at hk
theorem PH (B:Nat) (w:World):cB B w.heap.size w none 0 none 0 ⟨[],[]⟩:=⟨⟨Nat.le_refl _,Nat.le_refl _,fun i hi=>absurd hi (by simp),fun i hi=>absurd hi (by simp),by simp,by simp⟩,(fun q e=>by cases e),(fun q e=>by cases e),Nat.le_refl _⟩
theorem adD {l:List (al)} {i:Nat} (hi:i<l.length) (g:GV):km (l.drop i) i g=if (dN (l.getD i []) g).2=0 then km (l.drop (i+1)) (i+1) (dN (l.getD i []) g).1 else (⟨[],[]⟩,(i:Int)+1,(dN (l.getD i []) g).2):=by
 rw [List.drop_eq_getElem_cons hi,getD_at [] hi];rfl
theorem afS {l:List (al)} {i:Nat} (h:i<l.length):(strs l)[i]? =some (str (l.getD i [])):=by unfold strs;rw [List.getElem?_map,List.getElem?_eq_getElem h,getD_at [] h];rfl
theorem agf {a b c d u:Value} {j:Nat} (h: [a,b][j]? =some u): [a,b,c,d][j]? =some u:=by
 match j,h with
 |0,h=>exact h
 |1,h=>exact h
set_option maxHeartbeats 1000000 in
theorem GO (A:Option Addr) (c n:Nat) (b:al) (w:World) (hR:Rd w 1 A n (dq b)) (hn:b.length=n) (hb0:b.length<4294967281) (hL:Lb w):
 be Tryz.prog 8 [.slice A n c] w fun v w'=>(∃A1 c1 A2 c2,v= .tuple #[.agg #[.slice A1 (fA b).1.ns.length c1,.slice A2 (fA b).1.es.length c2],.int .i64 (fA b).2.1,.int .i64 (fA b).2.2]∧cB w.heap.size w'.heap.size w' A1 c1 A2 c2 (fA b).1)∧Below w.heap.size w w':=by
 have hgl:=hL.gl
 have hsl:=afL b
 have hsn:(dS b).length≤4294967281:=by rw [MG];have:=List.count_le_length (a:=(10:UInt8)) (l:=b);omega
 obtain ⟨ls,hls⟩:∃ls,ls=dS b:=⟨_,rfl⟩
 have hsn2:ls.length≤4294967281:=by rw [hls];exact hsn
 have hlv:fA b=km ls 0 ⟨[],[]⟩:=by rw [hls];rfl
 have hb:=Below.refl w.heap.size w
 have bh:=hR
 have bw:=hL
 refine enter Tryz.func8 rfl rfl rfl<|ao fun aZ=>el (z:=s3) (by kernel_rfl) rfl ?_
 rintro aX js iB aj cF
 have:=cF.size
 have hb:=az hb cF
 have hR:=bh.below hb
 have hL:=bw.below hb
 have:=aj.lt
 refine am rfl<|am rfl<|an aZ<|ao fun cT=>yp rfl ?_
 rintro lm Uq Fh CS um
 have:=um.size
 have hb:=az hb um
 have hR:=bh.below hb
 have hL:=bw.below hb
 have aj:=aq.below aj um
 have d8:=CS
 have:=d8.lt
 refine yp rfl ?_
 rintro gX ahJ acj acD un
 have:=un.size
 have hb:=az hb un
 have hR:=bh.below hb
 have hL:=bw.below hb
 have aj:=aq.below aj un
 have d8:=Mp.below d8 un
 have oV:=acD
 have:=oV.lt
 refine ah (fe (z:= [(.slice none 0 0),(.slice none 0 0),(.map none),(.map none)]) (pl:= [(0,2),(2,1),(3,1)]) (cs:= [_,_,_,_]) Gu (by kernel_rfl) (by kernel_rfl) rfl rfl rfl) rfl<|jL rfl rfl ?_
 rintro lp Ur Lk ei lA
 have:=lA.size
 have hb:=az hb lA
 have hR:=bh.below hb
 have hL:=bw.below hb
 have aj:=aq.below aj lA
 have d8:=Mp.below d8 lA
 have oV:=Mp.below oV lA
 have:=ei.lt
 refine am rfl<|an cT<|ao fun d7=>yp rfl ?_
 rintro qY Us QI acE om
 have:=om.size
 have hb:=az hb om
 have hR:=bh.below hb
 have hL:=bw.below hb
 have aj:=aq.below aj om
 have d8:=Mp.below d8 om
 have oV:=Mp.below oV om
 have ei:=aq.below ei om
 have ue:=acE
 have:=ue.lt
 refine ai rfl<|ah (GH rfl rfl) rfl<|zV Tryz.underlying52 bq rfl rfl rfl ue (by rfl) ?_
 rintro ahG act xG
 have:=xG.size
 have hb:=bY hb xG hb.size (by omega)
 have hR:=bh.below hb
 have hL:=bw.below hb
 have aj:=aj.over xG (by omega)
 have d8:=d8.over xG (by omega)
 have oV:=oV.over xG (by omega)
 have ei:=ei.over xG (by omega)
 have ue:=act
 refine ai rfl<|ah (GH rfl rfl) rfl<|zV Tryz.underlying52 bq rfl rfl rfl ue (by rfl) ?_
 rintro Uo acu sS
 have:=sS.size
 have hb:=bY hb sS hb.size (by omega)
 have hR:=bh.below hb
 have hL:=bw.below hb
 have aj:=aj.over sS (by omega)
 have d8:=d8.over sS (by omega)
 have oV:=oV.over sS (by omega)
 have ei:=ei.over sS (by omega)
 have ue:=acu
 refine ai rfl<|am rfl<|an d7<|ax fun _ gJ=>ao fun iV=>ai rfl<|aW (lB dB fq bq rfl (by exact hR)) rfl<|aS agF rfl rfl (VS b hb0 _) rfl ?_
 rintro _ cq ⟨⟨G,rfl,hGs,hBs⟩,bm⟩
 have:=bm.size
 have hb:=az hb bm
 have hR:=bh.below hb
 have hL:=bw.below hb
 have aj:=aq.below aj bm
 have d8:=Mp.below d8 bm
 have oV:=Mp.below oV bm
 have ei:=aq.below ei bm
 have ue:=Mp.below ue bm
 rw [←hls] at hBs ⊢
 have hGl:=hBs.lt
 refine ah (cG bK (by omega) rfl) rfl<|ai rfl<|an iV<|br ?_
 have hCk:w.heap.size≤cq.heap.size:=hb.size
 refine cU (X:=Nat×Value×Value×GV) (fun (i,V1,V2,g)=> [(2,.pointer (some ⟨aX,0,none⟩)),(5,.pointer (some ⟨lp,0,none⟩)),(6,.map (some qY)),(24,.slice (some ⟨G,0,none⟩) ls.length ls.length),(25,.int .i64 (ls.length:Int)),(26,.int .i64 (i:Int))]) (fun (i,V1,V2,g) wr=>i≤ls.length∧km (ls.drop i) i g=fA b∧Below w.heap.size w wr∧aq wr aX 27 [.slice none 0 0,.slice none 0 0]∧Mp wr qY (pE lp)∧aq wr G 9 (strs ls)∧cu cq.heap.size wr.heap.size wr lp lm gX V1 V2 g) (fun (i,V1,V2,g)=>ls.length - i) (⟨0,.slice none 0 0,.slice none 0 0,⟨[],[]⟩⟩) ?_ ?_ ?_
 · exact by repeat first|exact aB|refine au rfl (by first|rfl|exact int_eq (by omega)) ?_
 · exact ⟨Nat.zero_le _,by rw [hlv];rfl,hb,aj,ue,hBs,(cu.new (C:=cq.heap.size) (by omega) (by omega) (by omega) (by omega) (by omega) (by omega) (Nat.le_refl _) ei d8 oV).up⟩
 rintro ⟨i,V1,V2,g⟩ wr JV _ PS
 replace JV:i≤ls.length∧km (ls.drop i) i g=fA b∧Below w.heap.size w wr∧aq wr aX 27 [.slice none 0 0,.slice none 0 0]∧Mp wr qY (pE lp)∧aq wr G 9 (strs ls)∧cu cq.heap.size wr.heap.size wr lp lm gX V1 V2 g:=JV
 obtain ⟨hi,hgo,hb,aj,hMd,hBs,hD⟩:=JV
 show Wc _ _ _ _ _ [(2,.pointer (some ⟨aX,0,none⟩)),(5,.pointer (some ⟨lp,0,none⟩)),(6,.map (some qY)),(24,.slice (some ⟨G,0,none⟩) ls.length ls.length),(25,.int .i64 (ls.length:Int)),(26,.int .i64 (i:Int))] _
 have hR:=bh.below hb
 have hL:=bw.below hb
 have:=hb.size
 have:=aj.lt
 have:=hMd.lt
 have:=hBs.lt
 refine ao fun eG=>ah (cg rfl rfl) rfl<|an eG<|ax fun _ nW=>aH rfl (fun uU=>?_) (fun uU=>?_)
 ·
  have Xr:=uU;simp only [DZ] at uU;have hil:i<ls.length:=by have:=uU;omega
  have hLr:=hD.Lw;have hgd:=adD hil g;rw [hgo] at hgd;have hat:=afS hil;have hsb:(ls.getD i []).length≤4294967295:=by have h1:=hsl (ls.getD i []) (by rw [←hls,getD_at [] hil];exact List.getElem_mem hil);omega
  obtain ⟨s,hs⟩:∃s,s=ls.getD i []:=⟨_,rfl⟩;rw [←hs] at hgd hat hsb;have hbl:=mP s;refine aU<|aw nW<|ax fun _ iW=>br<|ao fun jh=>ai rfl<|ah (cx bK eo rfl rfl (by omega) (by omega)) rfl<|aW (aI bQ rfl (by exact gH (hBs.at hat))) rfl<|am rfl<|am rfl<|an jh<|ao fun fx=>ai rfl<|ah (fe (z:= [(str []),(.int .i64 0)]) (pl:= [(0,1),(1,1)]) (cs:= [_,_]) M0 (by kernel_rfl) (by kernel_rfl) rfl rfl rfl) rfl<|jL rfl rfl ?_
  rintro eF Na Lj cj jn;have:=jn.size;have hb:=az hb jn;have hR:=bh.below hb;have hL:=bw.below hb;have aj:=aq.below aj jn;have hMd:=Mp.below hMd jn;have hBs:=aq.below hBs jn;have hD:=cu.below hD jn;have:=cj.lt;refine am rfl<|an fx<|ax fun _ lu=>ao fun ql=>ai rfl<|aS Gg rfl rfl (Er eF s 0 _ cj) rfl ?_
  rintro _ ft ⟨⟨rfl,cj⟩,bp⟩;have:=bp.size;have hb:=hb.trans (Kp.below bp (by omega) hb.size);have hR:=bh.below hb;have hL:=bw.below hb;have aj:=aj.kp bp (by omega);have hMd:=hMd.kp bp (by omega);have hBs:=hBs.kp bp (by omega);have hD:=hD.kp bp;refine an ql<|ao fun gd=>ai rfl<|ah (cM rfl) rfl<|ah (aJ (iO _) rfl) rfl<|aW (aI bQ rfl (by exact cj.at (j:=0) rfl)) rfl<|ah (fu rfl rfl) rfl<|an gd<|aH rfl (fun nF=>?_) (fun nF=>?_)
  ·
   have HM:=nF;simp only [DZ] at nF;have hst:dN s g=(g,0):=by unfold dN;rw [if_pos (by simpa using nF)]
   obtain ⟨V1n,hV1n⟩:∃V,V=V1:=⟨_,rfl⟩;obtain ⟨V2n,hV2n⟩:∃V,V=V2:=⟨_,rfl⟩;obtain ⟨gn,hgnn⟩:∃x,x=g:=⟨_,rfl⟩;have hgn:km (ls.drop (i+1)) (i+1) gn=fA b:=by rw [hgd,hst,if_pos rfl,hgnn]
   have hDn:=hD;rw [←hV1n,←hV2n,←hgnn] at hDn;refine cN<|bD<|cO<|aw iW<|aR<|ah (bH rfl rfl (by omega) (by omega)) rfl<|ai rfl<|ay<|fun a_ bn=>PS _ _ (⟨i+1,V1n,V2n,gn⟩) (by simp;omega) (by repeat first|exact aB|refine au rfl (by first|rfl|exact int_eq (by omega)) ?_) ?_ a_ bn
   exact ⟨(show i+1≤ls.length by omega),hgn,hb,aj,hMd,hBs,hDn.up⟩
  have HM:=nF;simp only [DZ] at nF;have hne:bF s≠ []:=by simpa using nF
  refine aU<|aw lu<|ao fun mj=>ai rfl<|ai rfl<|aS zB rfl rfl (zF eF (bF s) 0 _ cj (by omega)) rfl ?_
  rintro _ gu ⟨⟨rfl,cj⟩,bG⟩;have:=bG.size;have hb:=hb.trans (Kp.below bG (by omega) hb.size);have hR:=bh.below hb;have hL:=bw.below hb;have aj:=aj.kp bG (by omega);have hMd:=hMd.kp bG (by omega);have hBs:=hBs.kp bG (by omega);have hD:=hD.kp bG;refine aW (LJ (z:= .nilFunc) Tryz.underlying52 bq (by kernel_rfl) rfl rfl (by exact hMd)) rfl<|ai rfl<|ah (bP rfl rfl) rfl<|ah (bP rfl rfl) rfl<|am rfl<|am rfl<|an mj<|ax fun _ mn=>ao fun mo=>ai rfl<|ah (fI rfl) rfl<|an mo<|aH rfl (fun vt=>?_) (fun vt=>?_)
  ·
   have X3:=vt;simp only [DZ] at vt;have hno:=Zg (by simpa using vt);have hst:dN s g=(g,2):=by unfold dN;rw [if_neg hne,if_neg hno.1,if_neg hno.2]
   rw [hst,if_neg (by simp)] at hgd;refine ao fun sK=>ah (fe (z:=Dh) (pl:= [(0,1),(1,1)]) (cs:= [_,_]) eJ (by kernel_rfl) (by kernel_rfl) rfl rfl rfl) rfl<|ai rfl<|ah (bH rfl rfl (by omega) (by omega)) rfl<|cH (by kernel_rfl) rfl rfl aj rfl rfl ?_
   rintro d3 aj bI;have:=bI.size;have hb:=bY hb bI hb.size (by omega);have hR:=bh.below hb;have hL:=bw.below hb;have hMd:=hMd.over bI (by omega);have hBs:=hBs.over bI (by omega);refine am rfl<|am rfl<|an sK<|aK<|aQ (bE (aQ (aQ (bE (aQ ?_)))))
   refine fc (rs:= [.cell 2 27,.tmp 3,.tmp 4]) (vs:= [_,_,_]) rfl (.cell rfl (e9 eJ (by kernel_rfl) (fun j u hu=>aj.at hu)) (.tmp rfl (.tmp rfl .nil))) ?_;exact ⟨_,rfl,⟨none,0,none,0,by rw [hgd];rfl,by rw [hgd];exact PH _ _⟩,hb⟩
  have X3:=vt;simp only [DZ] at vt;have hyes:(fa (pE lp) (wd (bF s))).isSome=true:=by simpa using vt
  refine aU<|aw mn<|ao fun kX=>ai rfl<|ai rfl ?_
  obtain ⟨f_,l_,hfe,hft,hdo⟩:=adu _ _ eF lp lm gX V1 V2 g s _ hne cj hD (by omega) hsb hL (hgl.mono (by omega)) hyes;rw [hfe];refine aS hft rfl rfl hdo rfl ?_;rintro _ hZ ⟨⟨rfl,⟨s',cj⟩,hD2⟩,CW⟩;have:=CW.size;have hlq:∀k,k<cq.heap.size→k≠lp→k≠lm→k≠gX→¬LQ eF lp lm gX V1 V2 k:=fun k a b c d=>hD.lq (by omega) a b c d;have hb:=hb.trans (CW.below (fun k hk=>hlq k (by omega) (by omega) (by omega) (by omega)) hb.size);have aj:aq hZ aX 27 _:=(CW.block aX aj.lt (hlq _ (by omega) (by omega) (by omega) (by omega))).trans aj;have hMd:Mp hZ qY _:=(CW.block qY hMd.lt (hlq _ (by omega) (by omega) (by omega) (by omega))).trans hMd;have hBs:aq hZ G 9 _:=(CW.block G hBs.lt (hlq _ (by omega) (by omega) (by omega) (by omega))).trans hBs;refine an kX<|ao fun xw=>ai rfl<|ah (cM rfl) rfl<|ah (aJ (AY _) rfl) rfl<|aW (aI Dr rfl (by exact cj.at (j:=1) rfl)) rfl<|ah (ig rfl rfl) rfl<|an xw<|aH rfl (fun nH=>?_) (fun nH=>?_)
  ·
   have Ev:=nH;simp only [DZ] at nH;have hst:¬(dN s g).2=0:=nH;rw [if_neg hst] at hgd;refine ax fun _ sM=>gG (n:=10) (fun w'=>Below w.heap.size w w'∧aq w' eF 56 [str s',.int .i64 (dN s g).2]) #[ac,ac,ac,ac,ac,ac,ac,ac,ac,ac] (by kernel_rfl) rfl (by kernel_rfl)<|gF ?_
   rintro iI ci;have:=ci.size;have hb:=az hb ci;have hR:=bh.below hb;have hL:=bw.below hb;have aj:=aq.below aj ci;have hMd:=Mp.below hMd ci;have hBs:=aq.below hBs ci;have cj:=aq.below cj ci;refine aT (i:=0) #[ab,ac,ac,ac,ac,ac,ac,ac,ac,ac] rfl (by kernel_rfl) aO rfl (fun wq hq=>a8 (fe (z:=Dh) (pl:= [(0,1),(1,1)]) (cs:= [_,_]) eJ (by kernel_rfl) (by kernel_rfl) rfl rfl rfl)) ⟨hb,cj⟩<|aT (i:=1) #[ab,ab,ac,ac,ac,ac,ac,ac,ac,ac] rfl (by kernel_rfl) aO rfl (fun wq hq=>a8 (bl rfl)) ⟨hb,cj⟩<|aT (i:=2) #[ab,ab,ab,ac,ac,ac,ac,ac,ac,ac] rfl (by kernel_rfl) aO rfl (fun wq hq=>a8 (bH rfl rfl (by omega) (by omega))) ⟨hb,cj⟩<|aT (i:=3) #[ab,ab,ab,ab,ac,ac,ac,ac,ac,ac] rfl (by kernel_rfl) aO rfl (fun wq hq=>a8 (bl rfl)) ⟨hb,cj⟩<|aT (i:=4) #[ab,ab,ab,ab,ab,ac,ac,ac,ac,ac] rfl (by kernel_rfl) aO rfl (fun wq hq=>a8 (cM rfl)) ⟨hb,cj⟩<|aT (i:=5) #[ab,ab,ab,ab,ab,ab,ac,ac,ac,ac] rfl (by kernel_rfl) aO rfl (fun wq hq=>a8 (aJ (AY _) rfl)) ⟨hb,cj⟩<|aT (i:=6) #[ab,ab,ab,ab,ab,ab,ab,ac,ac,ac] rfl (by kernel_rfl) aO rfl (fun wq hq=>aI Dr rfl (by obtain ⟨hq,cj⟩:=hq;exact cj.at (j:=1) rfl)) ⟨hb,cj⟩<|bM (rs:= [7]) (by kernel_rfl) rfl<|bv #[ab,ab,ab,ab,ab,ab,ab,ab,ac,ac] rfl rfl (fun _ qt=>?_) ?_
   ·
    refine cH (by kernel_rfl) rfl rfl aj rfl rfl ?_;rintro ky aj cd;have:=cd.size;have hb:=bY hb cd hb.size (by omega);have hR:=bh.below hb;have hL:=bw.below hb;have hMd:=hMd.over cd (by omega);have hBs:=hBs.over cd (by omega);have cj:=cj.over cd (by omega);refine ay<|bu qt ⟨hb,cj⟩<|aT (i:=8) #[ab,ab,ab,ab,ab,ab,ab,ab,ab,ac] rfl (by kernel_rfl) aO rfl (fun wq hq=>a8 (cX rfl)) ⟨hb,cj⟩<|aT (i:=9) #[ab,ab,ab,ab,ab,ab,ab,ab,ab,ab] rfl (by kernel_rfl) aO rfl (fun wq hq=>a8 (cX rfl)) ⟨hb,cj⟩<|eE (by kernel_rfl)<|aw sM<|aK<|bE (aQ (aQ (bE (aQ ?_))))
    refine fc (rs:= [.cell 2 27,.tmp 3,.tmp 4]) (vs:= [_,_,_]) rfl (.cell rfl (e9 eJ (by kernel_rfl) (fun j u hu=>aj.at hu)) (.tmp rfl (.tmp rfl .nil))) ?_;exact ⟨_,rfl,⟨none,0,none,0,by rw [hgd];rfl,by rw [hgd];exact PH _ _⟩,hb⟩
   exact bN
  have Ev:=nH;simp only [DZ] at nH;have hst:(dN s g).2=0:=by have h:=nH;simpa using h
  rw [if_pos hst] at hgd;obtain ⟨V1n,V2n,hDn⟩:=hD2 hst;obtain ⟨gn,hgnn⟩:∃x,x=(dN s g).1:=⟨_,rfl⟩;rw [←hgnn] at hDn hgd;have hgn:km (ls.drop (i+1)) (i+1) gn=fA b:=hgd.symm;refine aU<|bS<|aw iW<|aR<|ah (bH rfl rfl (by omega) (by omega)) rfl<|ai rfl<|ay<|fun a_ bn=>PS _ _ (⟨i+1,V1n,V2n,gn⟩) (by simp;omega) (by repeat first|exact aB|refine au rfl (by first|rfl|exact int_eq (by omega)) ?_) ?_ a_ bn
  exact ⟨(show i+1≤ls.length by omega),hgn,hb,aj,hMd,hBs,hDn.up⟩
 have Xr:=uU
 simp only [DZ] at uU
 have hie:i=ls.length:=by have:=uU;omega
 have hdone:fA b=(g,0,0):=by rw [←hgo,hie,List.drop_length];rfl
 refine cN<|bD<|bD<|cO<|aw gJ<|ax fun _ kS=>?_
 obtain ⟨A1,c1,A2,c2,hV1,hV2,_⟩:=hD.gin (B:=w.heap.size) hCk
 subst hV1
 subst hV2
 refine aR<|ai rfl<|ah (cM rfl) rfl<|ah (aJ (wk _) rfl) rfl ?_
 refine aW (dM eJ (by kernel_rfl) rfl (by exact (show ∀(j:Nat) (u:Value),[Value.slice A1 g.ns.length c1,.slice A2 g.es.length c2][j]? =some u→_ from fun j u hu=>by rw [lL,Nat.zero_add];exact hD.hx.at (agf hu)))) rfl ?_
 refine cH (by kernel_rfl) rfl rfl aj rfl rfl ?_
 rintro oA aj di
 have:=di.size
 have hb:=bY hb di hb.size (by omega)
 have hR:=bh.below hb
 have hL:=bw.below hb
 have hMd:=hMd.over di (by omega)
 have hBs:=hBs.over di (by omega)
 refine am rfl<|am rfl<|an kS<|aK<|fc (rs:= [.cell 2 27,.tmp 3,.tmp 4]) (vs:= [_,_,_]) rfl (.cell rfl (e9 eJ (by kernel_rfl) (fun j u hu=>aj.at hu)) (.tmp rfl (.tmp rfl .nil))) ?_
 exact ⟨_,rfl,by
 obtain ⟨A1',c1',A2',c2',h1,h2,hG⟩:=(hD.other di (by omega) (by omega) (by omega) (by omega)).up.gin (B:=w.heap.size) hCk
 rw [hdone];exact ⟨_,_,_,_,by rw [h1,h2];rfl,hG⟩,hb⟩
end Go.Proofs.YtjmlknjbhbfneaaGreatDoor
namespace Go.Proofs.YtjmlknjbhbfneaaGreatDoor
open Go.RowKit Go.Bw Go.Bw.Fl
set_option linter.unusedVariables false
set_option linter.unusedSimpArgs false
theorem ago:bC Tryz.prog 11:=⟨_,Tryz.func11,by kernel_rfl,rfl⟩
theorem MY:bC Tryz.prog 8:=⟨_,Tryz.func8,by kernel_rfl,rfl⟩
def F0:al:= [110,111,100,101,32,97,32,58,76,32,112,61,49,32,35,32,110,111,116,101,10,10,101,100,103,101,32,101,32,97,32,45,62,32,97,10]
def F1:al:= [110,111,100,101,32,97,10,110,111,100,101,32,97]
def gC:GV:=⟨[⟨[97],[[76]],[([112],⟨2,1,0,[]⟩)]⟩],[⟨[101],0,0,true,[],[]⟩]⟩
theorem adB:fA F0=(gC,0,0):=by kernel_rfl
theorem adC:fA F1=(⟨[],[]⟩,2,3):=by kernel_rfl
def agh:al:= [110,111,100,101,32,97,32,58,76,32,112,61,49,10,101,100,103,101,32,101,32,97,32,45,62,32,97,10]
theorem aev:Sj gC=agh:=by kernel_rfl
theorem aff:ru gC=0:=by kernel_rfl
end Go.Proofs.YtjmlknjbhbfneaaGreatDoor
namespace Go.Bw
open Go.RowKit
section
variable {P:Program} {N:Nat} {D:List Deferred} {env env':Env} {a:Act} {w w':World} {Q:Exit→Act→World→Prop}
variable {ops:Array Oper} {rest:List Oper} {d:Nat} {op:Op} {ty:TypeId} {pos:String} {af:Array Edge}
theorem N6 {x:Operand} {t e:TypeId} {l:al} {C:Array Value} {n:Nat} (ht:P.underlying t=some (.slice e)) (he:P.underlying e=some (.int .u8)) (hx:ev env x=some (.slice (some ⟨w.heap.size,0,none⟩) n n)) (hC:C=(dq l).toArray) (hn:n=l.length) (hd:Nat.blt d N=true)
 (h:∀G w',w.heap.size≤G→Rd w' 1 (some ⟨G,0,none⟩) n (dq l)→Below w.heap.size w w'→Wl P ops Q rest N D ((d,.slice (some ⟨G,0,none⟩) n n) :: env) w'):Wl P ops Q (⟨some d,.convert t t x,ty,pos,af,none⟩ :: rest) N D env (w.alloc (.cells C e)):=
 iM (adK ht he hx) hd (h _ _ (Nat.le_refl _) (by subst hC;subst hn;exact Go.Proofs.YtjmlknjbhbfneaaGreatDoor.rd_frozen w l e _) (zu _ _))
end
end Go.Bw
namespace Go.Proofs.YtjmlknjbhbfneaaGreatDoor
open Go.RowKit Go.Bw Go.Bw.Fl
set_option linter.unusedVariables false
set_option linter.unusedSimpArgs false
theorem afF (w:World) (hL:Lb w):be Tryz.prog 7 [] w fun v w'=>v= .bool true∧Below w.heap.size w w':=by
 have hn1:gC.ns.length=1:=rfl;have he1:gC.es.length=1:=rfl;have hb:=Below.refl w.heap.size w;have bw:=hL;refine enter Tryz.func7 rfl rfl rfl<|ao fun aZ=>am rfl<|an aZ<|ao fun bJ=>iM (LY (sz:=1) (vs:=dq F0) dB (by kernel_rfl) rfl rfl rfl rfl rfl) rfl<|N6 (l:=F0) dB fq rfl rfl rfl rfl ?_
 rintro G1 M9 Lf hR1 m7;have:=m7.size;have hb:=az hb m7;have hL:=bw.below hb;refine aS MY rfl rfl (GO _ _ _ F0 _ hR1 rfl (by decide) hL) rfl ?_;rintro _ cq ⟨⟨A1,c1,A2,c2,rfl,hG⟩,bm⟩;have:=bm.size;have hb:=az hb bm;have hL:=bw.below hb;rw [adB] at hG ⊢;dsimp only at hG ⊢;refine ai rfl<|ah (bP rfl rfl) rfl<|ah (bP rfl rfl) rfl<|ah (bP rfl rfl) rfl<|el (z:=s3) (by kernel_rfl) rfl ?_
 rintro lp Ur Lk ei lA;have:=lA.size;have hb:=az hb lA;have hL:=bw.below hb;have hG:=cB.below hG lA;have:=ei.lt;refine cH (by kernel_rfl) rfl rfl ei rfl rfl ?_;rintro d3 ei bI;have:=bI.size;have hb:=bY hb bI hb.size (by omega);have hL:=bw.below hb;have hG:=hG.over bI (by omega);refine am rfl<|am rfl<|an bJ<|ao fun eR=>iM (LY (sz:=1) (vs:=dq F1) dB (by kernel_rfl) rfl rfl rfl rfl rfl) rfl<|N6 (l:=F1) dB fq rfl rfl rfl rfl ?_
 rintro G2 Ut QJ hR2 uo;have:=uo.size;have hb:=az hb uo;have hL:=bw.below hb;have hG:=hG.below uo;have ei:=ei.below uo;refine aS MY rfl rfl (GO _ _ _ F1 _ hR2 rfl (by decide) hL) rfl ?_;rintro _ ft ⟨⟨A3,c3,A4,c4,rfl,hG2⟩,bp⟩;have:=bp.size;have hb:=az hb bp;have hL:=bw.below hb;have hG:=cB.below hG bp;have ei:=aq.below ei bp;rw [adC];dsimp only;refine ai rfl<|ah (bP rfl rfl) rfl<|ah (bP rfl rfl) rfl<|ah (bP rfl rfl) rfl<|el (z:=s3) (by kernel_rfl) rfl ?_
 rintro aaa Uo sS qb ul;have:=ul.size;have hb:=az hb ul;have hL:=bw.below hb;have hG:=cB.below hG ul;have ei:=aq.below ei ul;have:=qb.lt;refine cH (by kernel_rfl) rfl rfl qb rfl rfl ?_;rintro ky qb cd;have:=cd.size;have hb:=bY hb cd hb.size (by omega);have hL:=bw.below hb;have hG:=hG.over cd (by omega);have ei:=ei.over cd (by omega);refine am rfl<|am rfl<|an eR<|ao fun jg=>aW (dM eJ (by kernel_rfl) rfl (by exact fun j u hu=>ei.at hu)) rfl<|aS ago rfl rfl (U5 _ _ _ _ _ gC _ hG.gat (by decide) hL) rfl ?_
 rintro _ gu ⟨rfl,bG⟩;have:=bG.size;have hb:=az hb bG;have hL:=bw.below hb;have hG:=cB.below hG bG;have ei:=aq.below ei bG;rw [aff,if_pos rfl,aev];refine ai rfl<|ah (bP rfl rfl) rfl<|ah (bP rfl rfl) rfl<|am rfl<|am rfl<|an jg<|ao fun jh=>ai rfl<|ah (bA rfl rfl) rfl<|ai rfl<|cw rfl rfl rfl (fun pY=>?_) (fun pY=>?_)
 ·
  have qV:=pY;simp only [DZ] at pY;refine ai rfl<|aE rfl rfl qV<|ah (bA rfl rfl) rfl<|ah (bi rfl qV rfl) rfl<|ai rfl<|cw rfl rfl rfl (fun p1=>?_) (fun p1=>?_)
  ·
   have ke:=p1;simp only [DZ] at p1;refine ah (aJ (gw _) rfl) rfl<|aE rfl rfl ke<|aW (aI fG rfl (by exact ei.at (j:=0) rfl)) rfl<|aE rfl rfl ke<|ah (cG dJ (by omega) rfl) rfl<|aE rfl rfl ke<|ah (bA rfl rfl) rfl<|ah (bi rfl ke rfl) rfl<|ai rfl<|cw rfl rfl rfl (fun BD=>?_) (fun BD=>?_)
   ·
    have yT:=BD;simp only [DZ] at BD;refine ah (aJ (jy _) rfl) rfl<|aE rfl rfl yT<|aW (aI gL rfl (by exact ei.at (j:=1) rfl)) rfl<|aE rfl rfl yT<|ah (cG d4 (by omega) rfl) rfl<|aE rfl rfl yT<|ah (bA rfl rfl) rfl<|ah (bi rfl yT rfl) rfl<|ai rfl<|cw rfl rfl rfl (fun iw=>?_) (fun iw=>?_)
    ·
     have fE:=iw;simp only [DZ] at iw;refine ah (aJ (jy _) rfl) rfl<|aE rfl rfl fE<|aW (aI gL rfl (by exact ei.at (j:=1) rfl)) rfl<|aE rfl rfl fE ?_
     obtain ⟨pe_,aih,acL,ais,acf,Ae,ce,Be,ee,acd,_⟩:=hG.gat.re 0 (by decide);subst acL;subst acd;refine ah (cx d4 x7 rfl rfl (by omega) (by omega)) rfl<|aE rfl rfl fE<|ah (aJ (Pd _) rfl) rfl<|aE rfl rfl fE<|aW (aI RZ rfl (by exact acf 3 _ rfl)) rfl<|ah (bi rfl fE rfl) rfl<|ai rfl<|cw rfl rfl rfl (fun sv=>?_) (fun sv=>?_)
     ·
      have m0:=sv;refine ai rfl<|aE rfl rfl m0<|ah (bA rfl rfl) rfl<|ah (bi rfl m0 rfl) rfl<|ai rfl<|cw rfl rfl rfl (fun BK=>?_) (fun BK=>?_)
      ·
       have EY:=BK;simp only [DZ] at BK;refine ai rfl<|aE rfl rfl EY<|ah (bA rfl rfl) rfl<|ah (bi rfl EY rfl) rfl<|ai rfl<|cw rfl rfl rfl (fun je=>?_) (fun je=>?_)
       ·
        have eN:=je;simp only [DZ] at je;refine ai rfl<|aE rfl rfl eN<|ah (fu rfl rfl) rfl<|ah (bi rfl eN rfl) rfl<|ai rfl<|cw rfl rfl rfl (fun p6=>?_) (fun p6=>?_)
        ·
         have qX:=p6;simp only [DZ] at p6;refine ai rfl<|aE rfl rfl qX<|ah (bA rfl rfl) rfl<|ah (bi rfl qX rfl) rfl<|am rfl<|an jh<|aK<|bj rfl rfl ?_
         exact ⟨_,rfl,rfl,hb⟩
        have qX:=p6;simp only [DZ] at p6;exact absurd qX (by decide)
       have eN:=je;simp only [DZ] at je;exact absurd eN (by decide)
      have EY:=BK;simp only [DZ] at BK;exact absurd EY (by decide)
     have m0:=sv;exact absurd m0 (by decide)
    have fE:=iw;simp only [DZ] at iw;exact absurd fE (by decide)
   have yT:=BD;simp only [DZ] at BD;exact absurd yT (by decide)
  have ke:=p1;simp only [DZ] at p1;exact absurd ke (by decide)
 have qV:=pY;simp only [DZ] at pY;exact absurd qV (by decide)
end Go.Proofs.YtjmlknjbhbfneaaGreatDoor
