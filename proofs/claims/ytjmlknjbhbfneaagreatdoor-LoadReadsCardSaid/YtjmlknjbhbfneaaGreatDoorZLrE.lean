import Derived.Test.YtjmlknjbhbfneaaGreatDoorZLrD
namespace Go.Proofs.YtjmlknjbhbfneaaGreatDoor
open Go.RowKit Go.Bw Go.Bw.Fl
set_option linter.unusedVariables false
set_option linter.unusedSimpArgs false
theorem mF {w:World} {pl:Addr} {l:List (al)} (h:Rd w 1 (some pl) l.length (strs l)) {i:Nat} {k:Int} (hk:k.toNat=i) (hi:i<l.length):w.cell? (pl.add (k.toNat * 1))=some (str (l.getD i [])):=by
 obtain ⟨p_,v_,hpe,hve,hcell⟩:=h.one hi
 cases hpe
 rw [←i6 hi hve,hk,Nat.mul_one];exact hcell
theorem Sz {w:World} {A:Option Addr} {c m:Nat} {l:List (al)} (h:Rd w 1 A l.length (strs l)) (hm:m≤l.length) (hc:l.length≤c):Rd w 1 (if c=m then A else A.map (·.add (m * 1))) (l.drop m).length (strs (l.drop m)):=by
 have h1:=h.drop hm hc;rw [F2,Nat.mul_one] at h1;rw [List.length_drop,Nat.mul_one];exact h1
theorem Pv {sz:Nat}:∀(l:List (List Value)),(∀c∈l,c.length=sz)→∀(i j:Nat),i<l.length→j<sz→l.flatten[i * sz+j]? =(l.getD i [])[j]?
 | [],_,i,j,hi,_=>by simp at hi
 |a :: r,hc,0,j,_,hj=>by
  have ha:a.length=sz:=hc a (List.mem_cons_self ..);rw [List.flatten_cons,Nat.zero_mul,Nat.zero_add,List.getElem?_append_left (by omega)];rfl
 |a :: r,hc,i+1,j,hi,hj=>by
  have ha:a.length=sz:=hc a (List.mem_cons_self ..);rw [List.flatten_cons,Nat.add_mul,List.getElem?_append_right (by omega),ha,show i * sz+1 * sz+j - sz=i * sz+j by omega];exact Pv r (fun c h=>hc c (List.mem_cons_of_mem _ h)) i j (by simpa using hi) hj
theorem IY {sz:Nat}:∀(l:List (List Value)),(∀c∈l,c.length=sz)→l.flatten.length=l.length * sz
 | [],_=>by simp
 |a :: r,hc=>by
  rw [List.flatten_cons,List.length_append,hc a (List.mem_cons_self ..),IY r (fun c h=>hc c (List.mem_cons_of_mem _ h)),List.length_cons,Nat.add_mul];omega
theorem NN {w:World} {sz n:Nat} {A:Option Addr} {Q:Nat→List Value→Prop} (h:lJ w sz A n Q) (hs:0<sz):∃css:List (List Value),css.length=n∧(∀c∈css,c.length=sz)∧Rd w sz A n css.flatten∧∀i,i<n→Q i (css.getD i []):=by
 have key:∀i,∃cs:List Value,i<n→cs.length=sz∧Q i cs∧∃p,A=some p∧∀(j:Nat) (u:Value),cs[j]? =some u→w.cell? ((p.add (i * sz)).add j)=some u:=fun i=>by
  by_cases hi:i<n
  · obtain ⟨p,cs,h1,h2,h3,h4⟩:=h i hi
    exact ⟨cs,fun _=>⟨h2,h4,p,h1,h3⟩⟩
  · exact ⟨[],fun h2=>absurd h2 hi⟩
 obtain ⟨f,hf⟩:=Classical.axiomOfChoice key;have hg:∀i,i<n→((List.range n).map f).getD i []=f i:=fun i hi=>by simp [List.getD,hi]
 have hc:∀c∈(List.range n).map f,c.length=sz:=fun c hc=>by
  obtain ⟨i,hi,rfl⟩:=List.mem_map.1 hc;exact (hf i (List.mem_range.1 hi)).1
 refine ⟨(List.range n).map f,by simp,hc,⟨by rw [IY _ hc];simp,fun h0=>?_⟩,fun i hi=>by rw [hg i hi];exact (hf i hi).2.1⟩
 have hn:0<n:=by
  rcases Nat.eq_zero_or_pos n with e|e
  · subst e;simp at h0
  · exact e
 obtain ⟨p,hp,_⟩:=(hf 0 hn).2.2;refine ⟨p,hp,fun j u hu=>?_⟩;have hjl:=(List.getElem?_eq_some_iff.1 hu).1;rw [IY _ hc,List.length_map,List.length_range] at hjl;have hdm:=Nat.div_add_mod j sz;have hr:=Nat.mod_lt j hs;have hi:j / sz<n:=Nat.div_lt_of_lt_mul (by rw [Nat.mul_comm];exact hjl);have e:j=j / sz * sz+j % sz:=by rw [Nat.mul_comm];exact hdm.symm
 rw [e,Pv _ hc _ _ (by simpa using hi) hr,hg _ hi] at hu;obtain ⟨q,hq,hcell⟩:=(hf _ hi).2.2;rw [hp] at hq;cases hq;have:=hcell _ u hu;rw [lL,←e] at this;exact this
theorem NZ {P:Program} {ops:Array Oper} {Q:Exit→Act→World→Prop} {S:World→Prop} {fuel fuel':Nat} {l:Array Bool} {N:Nat} {D:List Deferred} {env:Env} {w:World} {X:Type} (l':Array Bool) (E:X→Env) (I:X→World→Prop) (h1:∀x w',I x w'→Wa P ops Q S fuel' l' N D (E x) w')
 (h2:(∀x w' env',Bw.Sub (E x) env'→I x w'→Wa P ops Q S fuel' l' N D env' w')→Wa P ops Q S fuel l N D env w):Wa P ops Q S fuel l N D env w:=h2 fun x w' _ hs hI a ha=>h1 x w' hI a (ha.sub hs)
def jJ (S:Nat→Prop) (w:World) (A:Option Addr) (c:Nat) (A':Option Addr) (c':Nat) (g:GV):Prop:=oE S w A c A' c' g∧(∀q,A=some q→S q.block)∧∀q,A'=some q→S q.block
section
variable {S S':Nat→Prop} {w w':World} {A A':Option Addr} {c c':Nat} {g:GV}
theorem jJ.keep (h:jJ S w A c A' c' g) (hk:∀k,S k→w'.heap[k]? =w.heap[k]?) (hS:∀k,S k→S' k):jJ S' w' A c A' c' g:=
 ⟨⟨h.1.nc,h.1.ec,h.1.rn.keep (fun q e=>hk _ (h.2.1 q e)) (fun _ _ _ hq=>hq.keep hk hS),h.1.re.keep (fun q e=>hk _ (h.2.2 q e)) (fun _ _ _ hq=>hq.keep hk hS),h.1.oks,h.1.oke⟩,fun q e=>hS _ (h.2.1 q e),fun q e=>hS _ (h.2.2 q e)⟩
theorem jJ.grown {row:Option Nat} (h:jJ S w A c A' c' g) (hg:w.grownBy w' row) (hn:∀k,S k→k<w.heap.size∧some k≠row):jJ S w' A c A' c' g:=h.keep (fun k hk=>hg.block k (hn k hk).1 (hn k hk).2) (fun _ h=>h)
theorem cY.grown {A B:Option Addr} {c e:Nat} {d:ND} {row:Option Nat} (h:cY S w A c B e d) (hg:w.grownBy w' row) (hn:∀k,S k→k<w.heap.size∧some k≠row):cY S w' A c B e d:=h.keep (fun k hk=>hg.block k (hn k hk).1 (hn k hk).2) (fun _ h=>h)
theorem jJ.of {B L:Nat} (h:cB B L w A c A' c' g):jJ (fun k=>B≤k∧k<L) w A c A' c' g:=⟨h.gat,h.a1,h.a2⟩
theorem cB.of {B L:Nat} (h:jJ (fun k=>B≤k∧k<L) w A c A' c' g) (hL:L≤w.heap.size):cB B L w A c A' c' g:=⟨h.1,h.2.1,h.2.2,hL⟩
theorem cB.up {B L:Nat} (h:cB B L w A c A' c' g):cB B w.heap.size w A c A' c' g:=cB.of ((jJ.of h).keep (fun _ _=>rfl) (fun k hk=>⟨hk.1,Nat.lt_of_lt_of_le hk.2 h.sz⟩)) (Nat.le_refl _)
theorem SS {w:World} {sz n:Nat} {V:Value} {T base:Nat} {css:List (List Value)} {cs:List Value} {Q:Nat→List Value→Prop} (hO:w.ownsRow base T sz V (n+1) (css.flatten++cs)) (hn:css.length=n) (hc:∀c∈css,c.length=sz) (hcs:cs.length=sz) (hs:0<sz) (hQ:∀i,i<n→Q i (css.getD i [])) (hnew:Q n cs):∃A c,V= .slice A (n+1) c∧n+1≤c∧lJ w sz A (n+1) Q:=by
 obtain ⟨A,c,rfl,h1,_⟩:=eT hO;refine ⟨A,c,rfl,h1,fun i hi=>?_⟩;have hR:=fC hO;have hfl:(css++ [cs]).flatten=css.flatten++cs:=by simp
 rw [←hfl] at hR;obtain ⟨p,hp,hl,hcell⟩:=Mr (by simp [hn]) (fun c hc'=>by rcases List.mem_append.1 hc' with h|h;(· exact hc c h);(· rw [List.mem_singleton.1 h];exact hcs)) hs hR i hi;refine ⟨p,_,hp,hl,hcell,?_⟩;rw [qZ,hn];by_cases h2:i<n
 · rw [if_pos h2];exact hQ i h2
 · have h3:i=n:=by omega
   rw [if_neg h2,if_pos h3,h3];exact hnew
end
theorem lg {css:List (List Value)} (h:∀c∈css,∀u∈c,u.oneCell'=true):∀u∈css.flatten,u.oneCell'=true:=fun u hu=>by
 obtain ⟨c,hc,h2⟩:=List.mem_flatten.1 hu;exact h c hc u h2
theorem lf {P:List Value→Prop} {css:List (List Value)} {n:Nat} (hn:css.length=n) (h:∀i,i<n→P (css.getD i [])):∀c∈css,P c:=fun c hc=>by
 obtain ⟨i,hi,rfl⟩:=List.getElem_of_mem hc;have:=h i (by omega);rw [getD_at [] hi] at this;exact this
theorem uv {S:Nat→Prop} {w:World} {cs:List Value} {d:ND} (h:lI S w cs d):∀u∈cs,u.oneCell'=true:=by
 obtain ⟨A,c,B,e,rfl,_⟩:=h;intro u hu;simp at hu;rcases hu with rfl|rfl|rfl<;>rfl
theorem tT {S:Nat→Prop} {w:World} {cs:List Value} {d:ED} (h:lG S w cs d):∀u∈cs,u.oneCell'=true:=by
 obtain ⟨A,c,B,e,rfl,_⟩:=h;intro u hu;simp at hu;rcases hu with rfl|rfl|rfl|rfl|rfl|rfl<;>rfl
def zQ (l:List (al)):Prop:=l.getD 0 []=i8∧1<l.length
def D8 (l:List (al)):Prop:=l.getD 0 []=jH∧5≤l.length
def tu (l:List (al)):Prop:=bO (l.getD 1 [])=true∧bO (l.getD 2 [])=true∧bO (l.getD 4 [])=true∧(l.getD 3 []=gQ∨l.getD 3 []=j1)
open Classical in
noncomputable def dl (b:Prop) (e k:Int):Int:=if b then mE e k else e
def NE (g:GV) (l:List (al)) (h:GV) (e:Int):Prop:=∃Lb Pb er,Ec (l.drop 2) Lb Pb er∧((bO (l.getD 1 [])=false∧e=2)∨(bO (l.getD 1 [])=true∧h=⟨g.ns++ [⟨l.getD 1 [],Lb,Pb⟩],g.es⟩∧e=dl (1000≤g.ns.length) (dl (l.getD 1 []∈cK g) er 3) 6))
def Nr (g:GV) (l:List (al)) (h:GV) (e:Int):Prop:=∃Lb Pb er,Ec (l.drop 5) Lb Pb er∧((¬tu l∧e=2)∨(tu l∧∃fr tw,yk (cK g) (l.getD 2 []) fr∧yk (cK g) (l.getD 4 []) tw∧h=⟨g.ns,g.es++ [⟨l.getD 1 [],fr,tw,decide (l.getD 3 []=gQ),Lb,Pb⟩]⟩∧e=dl (1000≤g.es.length) (dl (fr<0∨tw<0∨l.getD 1 []∈dy g) er 3) 6))
def zP (g:GV) (l:List (al)) (h:GV) (e:Int):Prop:=(zQ l∧NE g l h e)∨(¬zQ l∧D8 l∧Nr g l h e)∨(¬zQ l∧¬D8 l∧e=2)
theorem tb {b:Prop} (h:b) (e k:Int):dl b e k=mE e k:=if_pos h
theorem x3 {b:Prop} (h:¬b) (e k:Int):dl b e k=e:=if_neg h
theorem EP {l:List (al)} {x:al} {k:Int} (h:yk l x k):0≤k↔x∈l:=by
 rcases h with ⟨i,rfl,h1,h2,_⟩|⟨rfl,h1⟩
 · rw [getD_at [] h1] at h2
   exact ⟨fun _=>by rw [←h2];exact List.getElem_mem h1,fun _=>by omega⟩
 · refine ⟨fun h=>by omega,fun h=>?_⟩
   obtain ⟨j,hj,he⟩:=List.getElem_of_mem h;exact absurd (by rw [getD_at [] hj];exact he) (h1 j hj)
end Go.Proofs.YtjmlknjbhbfneaaGreatDoor
