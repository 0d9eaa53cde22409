import Derived.Test.YtjmlknjbhbfneaaGreatDoorZA
import Derived.ProofKit
import Derived.OpenShut
import Derived.ShutString
import Derived.ChangeOld
import Derived.SizedLaws
namespace Go.Bw
open Go.ChangeShapes Go.WideShapes Go.ChangeAt Go.RowKit
open Go.ChangeMaps (open_string shut_string)
set_option linter.unusedVariables false
set_option linter.unusedSimpArgs false
inductive iL {H:Type} (P:Program) (w:World):TypeId→List Value→DataW H→Prop
 |bool {t:TypeId} {b:Bool} (ht:P.underlying t=some .bool):iL P w t [.bool b] (.lit (.bool b))
 |int {t:TypeId} {k:IntKind} {n:Int} (ht:P.underlying t=some (.int k)) (hw:(Lit.int k n).wf=true):iL P w t [.int k n] (.lit (.int k n))
 |float {t:TypeId} {k:FloatKind} {b:Nat} (ht:P.underlying t=some (.float k)) (hw:(Lit.float k b).wf=true):iL P w t [.float k b] (.lit (.float k b))
 |str {t:TypeId} {l:List UInt8} (ht:P.underlying t=some .string) (hl:l.length≤maxLen):iL P w t [Go.Bw.str l] (.lit (.string l))
 |nil {t e:TypeId} (ht:P.underlying t=some (.slice e)):iL P w t [.slice none 0 0] .nil
 |slice {t e:TypeId} {a:Addr} {len cap:Nat} {elems spare:List (DataW H)} (ecs:Nat→List Value) (ht:P.underlying t=some (.slice e)) (hl:len≤cap) (hc:cap≤maxLen) (he:elems.length=len)
  (hlen:∀i,i<len→(ecs i).length=P.cellsOf e) (hcell:∀i,i<len→∀(j:Nat) (u:Value),(ecs i)[j]? =some u→w.cell? ((a.add (i * P.cellsOf e)).add j)=some u)
  (hs:∀(i:Nat) (d:DataW H),elems[i]? =some d→iL P w e (ecs i) d):iL P w t [.slice (some a) len cap] (.slice elems spare)
 |struct {t:TypeId} {fs:Array Field} {cs:List Value} {parts:List (DataW H)} (ht:P.underlying t=some (.struct fs)) (hl:cs.length=P.cellsOf t) (hp:parts.length=fs.size)
  (hs:∀(i:Nat) (f:Field) (d:DataW H),fs[i]? =some f→parts[i]? =some d→iL P w f.type ((cs.drop f.offset).take (P.cellsOf f.type)) d):iL P w t cs (.agg parts)
def plainType (P:Program) (S:List TypeId) (t:TypeId):Bool:=
 match P.underlying t with
 |some .bool|some (.int _)|some (.float _)|some .string=>true
 |some (.slice e)=>S.contains e
 |some (.struct fs)=>fs.toList.all fun f=>S.contains f.type
 |_=>false
section
variable {P:Program} {w:World} {H:Type} {enc:TypeId×Value→H} {base:Nat} {sp:Nat→Bool} {held:Bool}
theorem Ez {a:Addr} {n:Nat} {cs:List Value} (h:w.cells? base a n=some cs):cs.length=n∧∀(j:Nat) (u:Value),cs[j]? =some u→w.cell? (a.add j)=some u:=by
 unfold World.cells? at h
 split at h
 · have hl:=mapM_len h
   simp only [List.length_range] at hl;refine ⟨hl,fun j u hu=>?_⟩
   have hj:j<n:=by
    rcases Nat.lt_or_ge j n with h1|h1
    · exact h1
    · rw [List.getElem?_eq_none (by omega)] at hu;cases hu
   have:=mapM_get h j;simp only [List.getElem?_range hj] at this;rw [hu] at this;exact this
 · cases h
where
 mapM_len {α β:Type} {f:α→Option β}:∀{l:List α} {r:List β},l.mapM f=some r→r.length=l.length
  | [],r,h=>by simp at h;subst h;rfl
  |x :: l,r,h=>by
   simp only [List.mapM_cons,Option.bind_eq_bind,Option.bind_eq_some_iff,Option.pure_def,Option.some.injEq] at h;obtain ⟨y,_,ys,h2,rfl⟩:=h;simp [mapM_len h2]
 mapM_get {α β:Type} {f:α→Option β}:∀{l:List α} {r:List β},l.mapM f=some r→∀i:Nat,l[i]?.bind f=r[i]?
  | [],r,h,i=>by simp at h;subst h;simp
  |x :: l,r,h,i=>by
   simp only [List.mapM_cons,Option.bind_eq_bind,Option.bind_eq_some_iff,Option.pure_def,Option.some.injEq] at h;obtain ⟨y,h1,ys,h2,rfl⟩:=h
   cases i with
   |zero=>simpa using h1
   |succ i=>simpa using mapM_get h2 i
theorem MB (S:List TypeId) (hS:(S.all (plainType P S))=true):∀(fuel:Nat) (t:TypeId) (cs:List Value) (x:DataW H×List MemPlace),t∈S→DataW.trod enc P w base sp held fuel t cs=some x→iL P w t cs x.1
 |0,t,cs,x,_,h=>by simp [DataW.trod] at h
 |fuel+1,t,cs,x,htS,h=>by
  have hpl:=List.all_eq_true.1 hS t htS;unfold plainType at hpl
  cases hu:P.underlying t with
  |none=>rw [hu] at hpl;cases hpl
  |some dsc=>
   rw [hu] at hpl
   cases dsc with
   |bool=>
    obtain ⟨b,h1,h2⟩:=DataW.trod_bool hu h;subst h1 h2;exact .bool hu
   |int k=>
    obtain ⟨n,h1,h2,h3⟩:=DataW.trod_int hu h;subst h1 h2;exact .int hu h3
   |float k=>
    unfold DataW.trod at h;rw [hu] at h
    split at h<;>simp_all
    obtain ⟨⟨rfl,hw⟩,rfl⟩:=h;exact .float hu hw
   |string=>
    obtain ⟨s,h1,h2,h3⟩:=DataW.trod_string hu h;subst h1 h2;have: [Value.string s]= [Go.Bw.str s.data.toList]:=by rw [Tg]
    rw [this];exact .str hu (by rw [Lib.size_eq] at h3;exact h3)
   |slice e=>
    have heS:e∈S:=by simpa using hpl
    rcases DataW.trod_slice hu h with ⟨rfl,rfl⟩|⟨a,len,cap,elems,rest,n,hf,rfl,rfl,hb,hl,hm,hlen,hel,hsp,hns⟩
    · exact .nil hu
    · cases hf
      have key:∀i,i<len→∃cs0,w.cells? base (a.add (i * P.cellsOf e)) (P.cellsOf e)=some cs0∧DataW.trod enc P w base sp held fuel e cs0=elems[i]? :=fun i hi=>by
       have h1:=hel i hi;have h2:i<elems.length:=by omega
       rw [List.getElem?_eq_getElem h2] at h1 ⊢;obtain ⟨c0,h3,h4⟩:=Option.bind_eq_some_iff.1 h1;exact ⟨c0,h3,h4⟩
      refine .slice (fun i=>(w.cells? base (a.add (i * P.cellsOf e)) (P.cellsOf e)).getD []) hu hl hm (by simpa using hlen) (fun i hi=>?_) (fun i hi j u hju=>?_) (fun i d hd=>?_)
      · obtain ⟨c0,h3,_⟩:=key i hi
        simp only [h3,Option.getD_some];exact (Ez h3).1
      · obtain ⟨c0,h3,_⟩:=key i hi
        simp only [h3,Option.getD_some] at hju;exact (Ez h3).2 j u hju
      · simp only [List.getElem?_map,Option.map_eq_some_iff] at hd
        obtain ⟨y,hy,rfl⟩:=hd
        have hi:i<len:=by
         rcases Nat.lt_or_ge i elems.length with h1|h1
         · omega
         · rw [List.getElem?_eq_none h1] at hy;cases hy
        obtain ⟨c0,h3,h4⟩:=key i hi;simp only [h3,Option.getD_some];rw [hy] at h4;exact MB S hS fuel e c0 y heS h4
   |struct fs=>
    unfold DataW.trod at h;rw [hu] at h
    have h':(if cs.length=P.cellsOf t then (fs.toList.mapM fun f=>DataW.trod enc P w base sp held fuel f.type ((cs.drop f.offset).take (P.cellsOf f.type))).map fun xs=>((.agg (xs.map (·.1)),xs.flatMap (·.2)):DataW H×List MemPlace) else none)=some x:=by
     revert h
     cases cs with
     |nil=>exact id
     |cons c r=>cases r with
      |nil=>cases c<;>exact id
      |cons c2 r2=>exact id
    split at h'
    · rename_i hcl
      obtain ⟨xs,h1,rfl⟩:=Option.map_eq_some_iff.1 h';refine .struct hu hcl (by simp [Ez.mapM_len h1]) (fun i f d hf hd=>?_);simp only [List.getElem?_map,Option.map_eq_some_iff] at hd;obtain ⟨y,hy,rfl⟩:=hd;have h2:=Ez.mapM_get h1 i;rw [Array.getElem?_toList,hf,hy] at h2
      have hfS:f.type∈S:=by
       have:f∈fs.toList:=by
        have:=Array.mem_of_getElem? hf
        simpa using this
       simpa using List.all_eq_true.1 hpl f this
      exact MB S hS fuel f.type _ y hfS h2
    · cases h'
   |_=>cases hpl
def Fits (P:Program) (t:TypeId) (d:DataW H):Prop:=∀n∈d.weights P t,n≤reachBytes
theorem ZW {ts:List TypeId} {ds:List (DataW H)} (hsz:(DataW.weightsEach P ts ds).all (·≤reachBytes)=true) {j:Nat} {t:TypeId} {d:DataW H} (htj:ts[j]? =some t) (hdj:ds[j]? =some d):Fits P t d:=
 fun n hn=>by simpa using List.all_eq_true.1 hsz _ (DataW.weights_mem_each htj hdj n hn)
theorem Uw {e:TypeId}:∀{l:List (DataW H)} {i:Nat} {d:DataW H} {n:Nat},l[i]? =some d→n∈d.weights P e→n∈DataW.weightsAll P e l
 | [],i,d,n,h,_=>by simp at h
 |x :: l,0,d,n,h,hn=>by
  simp at h;subst h;unfold DataW.weightsAll;exact List.mem_append_left _ hn
 |x :: l,i+1,d,n,h,hn=>by
  unfold DataW.weightsAll;exact List.mem_append_right _ (Uw (by simpa using h) hn)
theorem Fits.elem {t e:TypeId} {elems spare:List (DataW H)} (ht:P.underlying t=some (.slice e)) (h:Fits P t (.slice elems spare)) {i:Nat} {d:DataW H} (hd:elems[i]? =some d):Fits P e d:=
 fun n hn=>h n (by
  unfold DataW.weights
  rw [ht]
  exact List.mem_cons_of_mem _ (List.mem_append_left _ (Uw hd hn)))
theorem Fits.len {t e:TypeId} {elems spare:List (DataW H)} (ht:P.underlying t=some (.slice e)) (h:Fits P t (.slice elems spare)):elems.length * P.bytesOf e≤140737488351232:=by
 have:=h ((elems.length+spare.length) * P.bytesOf e) (by
  unfold DataW.weights
  rw [ht]
  exact List.mem_cons_self)
 rw [Nat.add_mul] at this;simp only [reachBytes] at this;omega
theorem Fits.str {t:TypeId} {l:List UInt8} (h:Fits (H:=H) P t (.lit (.string l))):l.length≤140737488351232:=by
 have:=h l.length (by unfold DataW.weights;simp)
 simpa [reachBytes] using this
theorem aid {t:TypeId} {fs:Array Field} {parts:List (DataW H)} (ht:P.underlying t=some (.struct fs)) (h:Fits P t (.agg parts)) {i:Nat} {f:Field} {d:DataW H} (hf:fs[i]? =some f) (hd:parts[i]? =some d):Fits P f.type d:=
 fun n hn=>h n (by
  unfold DataW.weights
  rw [ht]
  exact DataW.weights_mem_each (j:=i) (by simp [hf]) hd n hn)
theorem iL.of {t:TypeId} {v:Value} {d:DataW H} {ps:List MemPlace} (S:List TypeId) (hS:(S.all (plainType P S))=true) (ht:t∈S) (h:DataW.Trod enc P w base sp held t v d ps):iL P w t v.cells.toList d:=
 let ⟨fuel,hf⟩:=h;MB S hS fuel t _ _ ht hf
theorem mH (n:Int) (h:(Lit.int IntKind.u8 n).wf=true):((UInt8.ofNat n.toNat).toNat:Int)=n:=by
 have:=bounds_u8 h;simp;omega
theorem iL.row {t e:TypeId} {cs:List Value} {d:DataW H} (ht:P.underlying t=some (.slice e)) (h:iL P w t cs d) (hf:Fits P t d):
 ∃(A:Option Addr) (n c:Nat) (ds:List (DataW H)) (ecs:Nat→List Value),cs= [.slice A n c]∧n=ds.length∧n≤c∧n * P.bytesOf e≤140737488351232∧(0<n→A.isSome=true)∧
  ∀i,i<n→∃d p,A=some p∧ds[i]? =some d∧(ecs i).length=P.cellsOf e∧(∀(j:Nat) (u:Value),(ecs i)[j]? =some u→w.cell? ((p.add (i * P.cellsOf e)).add j)=some u)∧iL P w e (ecs i) d∧Fits P e d:=by
 cases h with
 |nil=>exact ⟨none,0,0,[],fun _=> [],rfl,rfl,Nat.le_refl _,by simp,fun h=>absurd h (by omega),fun i hi=>absurd hi (by omega)⟩
 |@slice _ e' a len cap elems spare ecs ht' hl hm hlen h1 h2 h3=>
  rw [ht] at ht';cases ht';refine ⟨some a,len,cap,elems,ecs,rfl,hlen.symm,hl,by have:=hf.len ht;rwa [hlen] at this,fun _=>rfl,fun i hi=>?_⟩;have h4:elems[i]? =some elems[i]:=List.getElem?_eq_getElem (by omega);exact ⟨elems[i],a,rfl,h4,h1 i hi,h2 i hi,h3 i _ h4,hf.elem ht h4⟩
 |bool h=>rw [ht] at h;cases h
 |int h=>rw [ht] at h;cases h
 |float h=>rw [ht] at h;cases h
 |str h=>rw [ht] at h;cases h
 |struct h=>rw [ht] at h;cases h
theorem iL.int_inv {t:TypeId} {k:IntKind} {cs:List Value} {d:DataW H} (ht:P.underlying t=some (.int k)) (h:iL P w t cs d):∃n,cs= [.int k n]∧d= .lit (.int k n)∧(Lit.int k n).wf=true:=by
 cases h with
 |int h hw=>rw [ht] at h;cases h;exact ⟨_,rfl,rfl,hw⟩
 |bool h=>rw [ht] at h;cases h
 |float h=>rw [ht] at h;cases h
 |str h=>rw [ht] at h;cases h
 |nil h=>rw [ht] at h;cases h
 |slice _ h=>rw [ht] at h;cases h
 |struct h=>rw [ht] at h;cases h
theorem iL.row1 {α:Type} {t e:TypeId} {cs:List Value} {d:DataW H} (f:α→Value) (ht:P.underlying t=some (.slice e)) (hc:P.cellsOf e=1) (h:iL P w t cs d) (hf:Fits P t d) (good:α→Prop) (z:α)
 (hel:∀(c:List Value) (d:DataW H),iL P w e c d→Fits P e d→∃x,c= [f x]∧good x):
 ∃(A:Option Addr) (n c:Nat) (l:List α),cs= [.slice A n c]∧n=l.length∧n≤c∧n * P.bytesOf e≤140737488351232∧Rd w 1 A n (l.map f)∧∀x∈l,good x:=by
 obtain ⟨A,n,c,ds,ecs,rfl,hn,hnc,hb,hA,hi⟩:=h.row ht hf
 have key:∀i,∃x,i<n→(ecs i= [f x]∧good x):=fun i=>by
  by_cases hlt:i<n
  · obtain ⟨d,p,_,_,_,_,h1,h2⟩:=hi i hlt
    obtain ⟨x,h3,h4⟩:=hel _ _ h1 h2;exact ⟨x,fun _=>⟨h3,h4⟩⟩
  · exact ⟨z,fun h=>absurd h hlt⟩
 let g:Nat→α:=fun i=>Classical.choose (key i)
 have hg:∀i,i<n→ecs i= [f (g i)]∧good (g i):=fun i h=>Classical.choose_spec (key i) h
 refine ⟨A,n,c,(List.range n).map g,rfl,by simp,hnc,hb,⟨by simp,fun h0=>?_⟩,fun x hx=>?_⟩
 · have hn0:0<n:=by simpa using h0
   obtain ⟨d0,p,hA0,_⟩:=hi 0 hn0
   refine ⟨p,hA0,fun j u hu=>?_⟩
   have hj:j<n:=by
    rcases Nat.lt_or_ge j n with h|h
    · exact h
    · rw [List.getElem?_eq_none (by simpa using h)] at hu;cases hu
   simp only [List.map_map,List.getElem?_map,List.getElem?_range hj,Option.map_some,Function.comp,Option.some.injEq] at hu
   subst hu
   obtain ⟨d,p',hA',_,_,h2,_,_⟩:=hi j hj
   rw [hA0] at hA';cases hA'
   have:=h2 0 (f (g j)) (by rw [(hg j hj).1];rfl)
   rwa [hc,Nat.mul_one,lL,Nat.add_zero] at this
 · simp only [List.mem_map,List.mem_range] at hx
   obtain ⟨i,hlt,rfl⟩:=hx
   exact (hg i hlt).2
theorem Y4 {v:Value} {t e:TypeId} {r:Reach} {b0:Nat} (ht:P.underlying t=some (.slice e)) (hval:Value.okWide P w r b0 t v) {A:Option Addr} {n c:Nat} (h:v.cells.toList= [.slice A n c]):v= .slice A n c:=by
 obtain ⟨a,n',c',rfl⟩:=okWide_slice ht hval
 simpa [Value.cells] using h
theorem aei {t e:TypeId} {v:Value} {r:Reach} {b0:Nat} {d:DataW H} (ht:P.underlying t=some (.slice e)) (he:P.underlying e=some (.int .u8)) (hc:P.cellsOf e=1) (hby:P.bytesOf e=1)
 (hval:Value.okWide P w r b0 t v) (h:iL P w t v.cells.toList d) (hf:Fits P t d):∃(A:Option Addr) (n c:Nat) (l:List UInt8),v= .slice A n c∧n=l.length∧n≤c∧n≤140737488351232∧Rd w 1 A n (dq l):=by
 obtain ⟨A,n,c,l,h1,h2,h3,h4,h5,_⟩:=h.row1 (α:=UInt8) (fun b=> .int .u8 b.toNat) ht hc hf (fun _=>True) 0 (fun c d h _=>by
  obtain ⟨m,rfl,_,hw⟩:=h.int_inv he
  exact ⟨UInt8.ofNat m.toNat,by rw [mH m hw],trivial⟩)
 rw [hby,Nat.mul_one] at h4
 exact ⟨A,n,c,l,Y4 ht hval h1,h2,h3,h4,h5⟩
end
end Go.Bw
