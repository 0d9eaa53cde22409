import Derived.Calls
import Derived.Deep.LoopGhost
import Derived.Below
import Derived.Tactics
import Derived.WalkKit
import Derived.KernelRfl
import Derived.WalkLawsBesides
import Derived.WalkSpells
import Derived.Maps.AppendAt
import Derived.OwnWalk
import Derived.Laws.BytesArg
import Derived.Laws.OwnMore
import Derived.Laws.Bits64
import Derived.Laws.BitsLemmas
import Derived.Laws.Cover2
import Derived.Lib.Strings
import Derived.Laws.Cells
import Derived.Laws.Tables
import Derived.Lib.ConvBytes
import Derived.Deep.Draws
import Derived.Lib.SlBytesConst
import Derived.Deep.Quiet
import Derived.Laws.CopyOwn
import Derived.Laws.StructEq
import Derived.OrdersHeld
import Derived.Laws.IdiomRangeMap
import Derived.WideLaws
import Derived.Lib.OthersKept
import Derived.Defers
import Derived.Recover
import Derived.Deep.MidRow
namespace Go.Bw
open Go.RowKit
set_option linter.unusedVariables false
set_option linter.unusedSimpArgs false
theorem DA {p:Prop} [Decidable p]:(decide p=true)=p:=decide_eq_true_eq
theorem DB {p:Prop} [Decidable p]:decide p=false↔¬p:=decide_eq_false_iff_not
theorem DC {α:Type} [BEq α] [LawfulBEq α] {a b:α}:(a==b)=true↔a=b:=beq_iff_eq
theorem DD {α:Type} [BEq α] [LawfulBEq α] {a b:α}:(a==b)=false↔a≠b:=beq_eq_false_iff_ne
theorem DE {α:Type} [BEq α] [LawfulBEq α] {a b:α}:(a != b)=true↔a≠b:=bne_iff_ne
theorem DF {α:Type} [BEq α] [LawfulBEq α] {a b:α}:(a != b)=false↔a=b:=bne_eq_false_iff_eq
theorem DG (b:Bool):((!b)=true)=(b=false):=Bool.not_eq_true' b
theorem DH (b:Bool):((!b)=false)=(b=true):=Bool.not_eq_false' b
theorem DI {a b:Bool}:((!a)=b)↔(a= !b):=Bool.not_eq_eq_eq_not
theorem DJ:(!true)=false:=rfl
theorem DK:(!false)=true:=rfl
theorem DM {a b:Int}:¬a<b↔b≤a:=Int.not_lt
theorem DN {a b:Int}:¬a≤b↔b<a:=Int.not_le
theorem DZ:(∀(p:Prop) [Decidable p],(decide p=true)=p)∧(∀(p:Prop) [Decidable p],(decide p=false)=¬p)∧(∀(α:Type) [BEq α] [LawfulBEq α] (a b:α),((a==b)=true)=(a=b))∧
 (∀(α:Type) [BEq α] [LawfulBEq α] (a b:α),((a==b)=false)=¬(a=b))∧(∀(α:Type) [BEq α] [LawfulBEq α] (a b:α),((a != b)=true)=¬(a=b))∧(∀(α:Type) [BEq α] [LawfulBEq α] (a b:α),((a != b)=false)=(a=b))∧
 (∀b:Bool,((!b)=true)=(b=false))∧(∀b:Bool,((!b)=false)=(b=true))∧(∀a b:Bool,((!a)=b)=(a= !b))∧((!true)=false)∧((!false)=true)∧(∀(α:Type) (a b:α),(a≠b)=¬(a=b))∧(∀a b:Int,(¬a<b)=(b≤a))∧(∀a b:Int,(¬a≤b)=(b<a)):=
 ⟨fun _=>DA,fun _=>propext DB,fun _ _ _ _ _=>propext DC,fun _ _ _ _ _=>propext DD,fun _ _ _ _ _=>propext DE,fun _ _ _ _ _=>propext DF,DG,DH,fun _ _=>propext DI,DJ,DK,fun _ _ _=>rfl,fun _ _=>propext DM,fun _ _=>propext DN⟩
abbrev eR:=List (Nat×Value)
def lk:eR→Nat→Option Value
 | [],_=>none
 |(k,v) :: r,t=>bif Nat.beq k t then some v else lk r t
def ev (env:eR):Operand→Option Value
 | .tmp t=>lk env t
 | .const v=>some v
 | .global g=>some (.pointer (some ⟨g,0,none⟩))
 | .func f=>some (.func (.func f) #[] #[])
structure Ok (N:Nat) (D:List Deferred) (env:eR) (a:Act):Prop where
 size:a.tmps.size=N
 defers:a.defers=D
 get:∀t v,lk env t=some v→a.tmps[t]? =some v
section
variable {P:Program} {N:Nat} {D:List Deferred} {env env':eR} {a:Act} {w w':World} {Q:Exit→Act→World→Prop} {K:Act→World→Prop}
theorem Ok.eval (h:Ok N D env a) {x:Operand} {v:Value} (hx:ev env x=some v):a.eval x=v:=by
 cases x with
 |tmp t=>
  have:=h.get t v hx;simp [Act.eval,Array.getD_eq_getD_getElem?,this]
 |const v'=>exact Option.some.inj hx
 |global g=>exact Option.some.inj hx
 |func f=>exact Option.some.inj hx
theorem beq_eq {k t:Nat} (h:Nat.beq k t=true):k=t:=Nat.eq_of_beq_eq_true h
theorem L9 (d:Nat) (v:Value) (env:eR) (t:Nat):lk ((d,v) :: env) t=if d=t then some v else lk env t:=by
 unfold lk;by_cases h:d=t
 · subst h;simp
 · have:Nat.beq d t=false:=by cases e:Nat.beq d t with
    |false=>rfl
    |true=>exact absurd (beq_eq e) h
   rw [this,if_neg h];cases env<;>rfl
theorem Ok.put (h:Ok N D env a) {d:Nat} (hd:Nat.blt d N=true) (v:Value):Ok N D ((d,v) :: env) (a.put (some d) v):=by
 have hd':d<N:=Nat.le_of_ble_eq_true hd;refine ⟨by simp [Act.put,h.size],h.defers,fun t u ht=>?_⟩;rw [L9] at ht;show (a.tmps.setIfInBounds d v)[t]? =some u;rw [Array.getElem?_setIfInBounds];by_cases e:d=t
 · subst e
   rw [if_pos rfl] at ht ⊢;rw [if_pos (by rw [h.size];exact hd')];exact ht
 · rw [if_neg e] at ht ⊢
   exact h.get t u ht
def Sub (env' env:eR):Prop:=∀t v,lk env' t=some v→lk env t=some v
theorem aC:Sub [] env:=fun _ _ h=>by cases h
theorem VN {d:Nat} {v:Value} (h:lk env d=some v) (hs:Sub env' env):Sub ((d,v) :: env') env:=fun t u ht=>by
 rw [L9] at ht;by_cases e:d=t
 · subst e;rw [if_pos rfl] at ht;cases ht;exact h
 · rw [if_neg e] at ht;exact hs t u ht
theorem aA {d:Nat} {v v':Value} (h:lk env d=some v') (e:v'=v) (hs:Sub env' env):Sub ((d,v) :: env') env:=VN (e ▸ h) hs
theorem Ok.sub (h:Ok N D env a) (hs:Sub env' env):Ok N D env' a:=⟨h.size,h.defers,fun t v ht=>h.get t v (hs t v ht)⟩
def Wc (P:Program) (Q:Exit→Act→World→Prop) (c:Code) (N:Nat) (D:List Deferred) (env:eR) (w:World):Prop:=∀a,Ok N D env a→c.wp P Q a w
def Wl (P:Program) (ops:Array Oper) (Q:Exit→Act→World→Prop) (l:List Oper) (N:Nat) (D:List Deferred) (env:eR) (w:World):Prop:=∀a,Ok N D env a→wpList P ops Q l a w
def Wq (Q:Exit→Act→World→Prop) (e:Exit) (N:Nat) (D:List Deferred) (env:eR) (w:World):Prop:=∀a,Ok N D env a→Q e a w
theorem av {x y:Code} (h:∀K:Act→World→Prop,(∀(env:eR) (w:World),Wc P Q y N D env w→∀a,Ok N D env a→K a w)→Wc P (Exit.then K Q) x N D env w):Wc P Q (.seq x y) N D env w:=fun a ha=>
 wp_seq_k fun K hK=>h (fun a w=>K a w) (fun _ w hw a ha=>hK a w (hw a ha)) a ha
theorem aU (h:Wq Q .normal N D env w):Wc P Q .skip N D env w:=fun a ha=>wp_skip (h a ha)
theorem aJ (h:Wq Q .ret N D env w):Wc P Q .ret N D env w:=fun a ha=>wp_ret (h a ha)
theorem d2 {id:Nat} (h:Wq Q (.exit id) N D env w):Wc P Q (.exit id) N D env w:=fun a ha=>wp_exit (h a ha)
theorem b4 {id:Nat} {c:Code} (h:Wc P (Exit.inBlock id Q) c N D env w):Wc P Q (.block id c) N D env w:=fun a ha=>wp_block (h a ha)
theorem aO {c:Operand} {x y:Code} {t:Bool} (hc:ev env c=some (.bool t)) (ht:t=true→Wc P Q x N D env w) (hf:t=false→Wc P Q y N D env w):Wc P Q (.cond c x y) N D env w:=
 fun a ha=>wp_cond_split (ha.eval hc) (fun e=>ht e a ha) (fun e=>hf e a ha)
theorem Wz {c:Operand} {x y:Code} (hc:ev env c=some (.bool true)) (h:Wc P Q x N D env w):Wc P Q (.cond c x y) N D env w:=fun a ha=>wp_cond_true (ha.eval hc) (h a ha)
theorem Wx {c:Operand} {x y:Code} (hc:ev env c=some (.bool false)) (h:Wc P Q y N D env w):Wc P Q (.cond c x y) N D env w:=fun a ha=>wp_cond_false (ha.eval hc) (h a ha)
theorem yI {c:Operand} {x y:Code} {t:Bool} (hc:ev env c=some (.bool t)) (e:t=true) (h:Wc P Q x N D env w):Wc P Q (.cond c x y) N D env w:=by subst e;exact Wz hc h
theorem oU {c:Operand} {x y:Code} {t:Bool} (hc:ev env c=some (.bool t)) (e:t=false) (h:Wc P Q y N D env w):Wc P Q (.cond c x y) N D env w:=by subst e;exact Wx hc h
theorem aQ {id:Nat} {l:List Oper} (h:Wl P l.toArray Q l N D env w):Wc P Q (.region id l.toArray false) N D env w:=fun a ha=>wp_region_lit (h a ha)
theorem ax {y:Code} (hK:∀env w,Wc P Q y N D env w→∀a,Ok N D env a→K a w) (h:Wc P Q y N D env w):Wq (Exit.then K Q) .normal N D env w:=fun a ha=>hK env w h a ha
theorem aX (h:Wq Q .ret N D env w):Wq (Exit.then K Q) .ret N D env w:=h
theorem cj {i:Nat} (h:Wq Q (.exit i) N D env w):Wq (Exit.then K Q) (.exit i) N D env w:=h
theorem cJ {c:List PanicEntry} (h:Wq Q (.panic c) N D env w):Wq (Exit.then K Q) (.panic c) N D env w:=h
theorem co {i:Nat} (h:Wq Q .ret N D env w):Wq (Exit.inBlock i Q) .ret N D env w:=h
theorem cD {i:Nat} (h:Wq Q .normal N D env w):Wq (Exit.inBlock i Q) .normal N D env w:=h
theorem jh {i:Nat} {c:List PanicEntry} (h:Wq Q (.panic c) N D env w):Wq (Exit.inBlock i Q) (.panic c) N D env w:=h
theorem d3 {i:Nat} (h:Wq Q .normal N D env w):Wq (Exit.inBlock i Q) (.exit i) N D env w:=fun a ha=>by
 show (if i=i then _ else _);rw [if_pos rfl];exact h a ha
theorem WL {i j:Nat} (hn:Nat.beq j i=false) (h:Wq Q (.exit j) N D env w):Wq (Exit.inBlock i Q) (.exit j) N D env w:=fun a ha=>by
 show (if j=i then _ else _);rw [if_neg (fun e=>by subst e;simp at hn)];exact h a ha
theorem d9 {c:Code} {X:Type} (E:X→eR) (I:X→World→Prop) (m:X→Nat) (x0:X) (h0:Sub (E x0) env) (hI:I x0 w)
 (round:∀x w,I x w→∀K:Act→World→Prop,(∀env' w' x',m x'<m x→Sub (E x') env'→I x' w'→∀a,Ok N D env' a→K a w')→Wc P (Exit.then K Q) c N D (E x) w):Wc P Q (.loop c) N D env w:=fun a ha=>by
 refine wp_loop_ghost (fun n a w=>∃x,m x=n∧Ok N D (E x) a∧I x w) (m x0) ⟨x0,rfl,ha.sub h0,hI⟩ ?_
 rintro n a w ⟨x,rfl,hx,hi⟩
 exact round x w hi (fun a' w'=>∃n',n'<m x∧∃x',m x'=n'∧Ok N D (E x') a'∧I x' w') (fun env' w' x' hm hs hI' a' ha'=>⟨_,hm,x',rfl,ha'.sub hs,hI'⟩) a hx
def uw:Nat→List Value→eR
 |_,[]=> []
 |n,v :: l=>(n,v) :: uw (n+1) l
theorem CZ:∀(l:List Value) (n t:Nat) (v:Value),lk (uw n l) t=some v→n≤t∧l[t - n]? =some v
 | [],_,_,_,h=>by cases h
 |u :: l,n,t,v,h=>by
  rw [uw,L9] at h;by_cases e:n=t
  · subst e;rw [if_pos rfl] at h;simpa using h
  · rw [if_neg e] at h
    obtain ⟨h1,h2⟩:=CZ l (n+1) t v h;refine ⟨by omega,?_⟩;obtain ⟨k,rfl⟩:∃k,t=n+1+k:=⟨t - (n+1),by omega⟩;rw [show n+1+k - (n+1)=k by omega] at h2;rw [show n+1+k - n=k+1 by omega]
    simpa using h2
theorem enter {f:FuncId} {fn:Func} {c:Code} {l:List Value} {R:Ending→World→Prop} (hf:P.funcs[f]? =some fn) (hb:fn.body=some c) (hN:fn.ntmps=N) (hl:Nat.ble l.length N=true)
 (h:Wc P (bodyPost P fn R) c N [] (uw 0 l) w):Calls P f l.toArray w R:=by
 have hl':l.length≤N:=Nat.le_of_ble_eq_true hl
 refine calls_of_wp hf hb (h _ ⟨?_,rfl,fun t v ht=>?_⟩)
 · simp [hN];omega
 · obtain ⟨_,h2⟩:=CZ l 0 t v ht
   simp only [Nat.sub_zero] at h2
   obtain ⟨hlt,_⟩:=List.getElem?_eq_some_iff.1 h2
   simp only [Array.getElem?_append,List.size_toArray]
   rw [if_pos hlt]
   simpa using h2
theorem o4 {fn:Func} {R:Ending→World→Prop} (hr:fn.results= #[]) (h:R (.returned (.tuple #[])) w):Wq (bodyPost P fn R) .normal N [] env w:=fun _ ha=>⟨ha.defers,_,results_none hr _ _ _,h⟩
theorem Ok.getD (h:Ok N D env a) {t:Nat} {v:Value} (hx:lk env t=some v):a.tmps.getD t undef=v:=h.eval (x:= .tmp t) hx
theorem bN {fn:Func} {R:Ending→World→Prop} {t:Nat} {v:Value} (hr:fn.results= #[.tmp t]) (hx:lk env t=some v) (h:R (.returned v) w):Wq (bodyPost P fn R) .ret N [] env w:=
 fun _ ha=>⟨ha.defers,v,by rw [results_tmp hr,ha.getD hx],h⟩
theorem fm {fn:Func} {R:Ending→World→Prop} {t u:Nat} {x y:Value} (hr:fn.results= #[.tmp t,.tmp u]) (hx:lk env t=some x) (hy:lk env u=some y) (h:R (.returned (.tuple #[x,y])) w):Wq (bodyPost P fn R) .ret N [] env w:=
 fun _ ha=>⟨ha.defers,_,by rw [results_tmp2 hr,ha.getD hx,ha.getD hy],h⟩
theorem oh {fn:Func} {R:Ending→World→Prop} {t u s:Nat} {x y z:Value} (hr:fn.results= #[.tmp t,.tmp u,.tmp s]) (hx:lk env t=some x) (hy:lk env u=some y) (hz:lk env s=some z) (h:R (.returned (.tuple #[x,y,z])) w):Wq (bodyPost P fn R) .ret N [] env w:=
 fun _ ha=>⟨ha.defers,.tuple #[x,y,z],by have h1:=ha.getD hx;have h2:=ha.getD hy;have h3:=ha.getD hz;simp only [Array.getD_eq_getD_getElem?] at h1 h2 h3;simp [results,hr,h1,h2,h3],h⟩
theorem eH {fn:Func} {R:Ending→World→Prop} {c:List PanicEntry} (h:R (.panicked c) w):Wq (bodyPost P fn R) (.panic c) N [] env w:=fun _ ha=>⟨ha.defers,h⟩
section ops
variable {ops:Array Oper} {rest:List Oper} {d:Nat} {op:Op} {ty:TypeId} {pos:String} {af:Array Edge}
theorem ay (h:Wq Q .normal N D env w):Wl P ops Q [] N D env w:=h
theorem Gr {v:Value} (hd:Nat.blt d N=true) (hr:∀a,Ok N D env a→(execOp a.eval ⟨some d,op,ty,pos,af,none⟩).run P w= .ok (.value v) w') (h:Wl P ops Q rest N D ((d,v) :: env) w'):
 Wl P ops Q (⟨some d,op,ty,pos,af,none⟩ :: rest) N D env w:=fun a ha=>by
 unfold wpList
 simp only [Region.wanted,if_true]
 refine .inl ?_
 unfold Oper.wp
 rw [hr a ha,Oper.upon_value]
 exact h _ (ha.put hd v)
theorem WJ {dst:Option Tmp} (hd:dst=none) (hr:∀a,Ok N D env a→(execOp a.eval ⟨dst,op,ty,pos,af,none⟩).run P w= .ok .skip w') (h:Wl P ops Q rest N D env w'):
 Wl P ops Q (⟨dst,op,ty,pos,af,none⟩ :: rest) N D env w:=fun a ha=>by
 subst hd
 unfold wpList
 simp only [Region.wanted,if_true]
 refine .inl ?_
 unfold Oper.wp
 rw [hr a ha,Oper.upon_skip]
 exact h _ ha
theorem Gq {g:Nat} {b:Bool} {s:Nat} {dst:Option Tmp} (hs:(ops[g]?).bind (·.dst)=some s) (hb:lk env s=some (.bool b))
 (h:Wl P ops Q (⟨dst,op,ty,pos,af,none⟩ :: rest) N D env w):Wl P ops Q (⟨dst,op,ty,pos,af,some (g,b)⟩ :: rest) N D env w:=fun a ha=>by
 have h1:=h a ha
 unfold wpList at h1 ⊢
 have hy:yielded ops a.tmps g=some b:=by
  unfold yielded;rw [hs];show (match a.tmps[s]? with|some (.bool b)=>some b|_=>none)=some b;rw [ha.get s _ hb]
 simp only [Region.wanted,if_true] at h1
 simp only [Region.wanted,hy,beq_self_eq_true,if_true]
 exact h1
theorem Gp {g:Nat} {b c:Bool} {s:Nat} (hs:(ops[g]?).bind (·.dst)=some s) (hb:lk env s=some (.bool c)) (hne:(c==b)=false) (hd:Nat.blt d N=true)
 (h:Wl P ops Q rest N D ((d,undef) :: env) w):Wl P ops Q (⟨some d,op,ty,pos,af,some (g,b)⟩ :: rest) N D env w:=fun a ha=>by
 unfold wpList
 have hy:yielded ops a.tmps g=some c:=by
  unfold yielded;rw [hs];show (match a.tmps[s]? with|some (.bool b)=>some b|_=>none)=some c;rw [ha.get s _ hb]
 have:(some c==some b)=false:=by simpa using hne
 simp only [Region.wanted,hy,this]
 exact h _ (ha.put hd undef)
theorem ap {g:Nat} {b t:Bool} {s:Nat} {dst:Option Tmp} (hs:(ops[g]?).bind (·.dst)=some s) (hb:lk env s=some (.bool t)) (e:t=b)
 (h:Wl P ops Q (⟨dst,op,ty,pos,af,none⟩ :: rest) N D env w):Wl P ops Q (⟨dst,op,ty,pos,af,some (g,b)⟩ :: rest) N D env w:=by subst e;exact Gq hs hb h
theorem az {g:Nat} {b c c':Bool} {s:Nat} (hs:(ops[g]?).bind (·.dst)=some s) (hb:lk env s=some (.bool c)) (e:c=c') (hne:(c'==b)=false) (hd:Nat.blt d N=true)
 (h:Wl P ops Q rest N D ((d,undef) :: env) w):Wl P ops Q (⟨some d,op,ty,pos,af,some (g,b)⟩ :: rest) N D env w:=by subst e;exact Gp hs hb hne hd h
theorem bY {g:Nat} {b:Bool} {s:Nat} (hs:(ops[g]?).bind (·.dst)=some s) (hb:lk env s=some undef) (hd:Nat.blt d N=true)
 (h:Wl P ops Q rest N D ((d,undef) :: env) w):Wl P ops Q (⟨some d,op,ty,pos,af,some (g,b)⟩ :: rest) N D env w:=fun a ha=>by
 unfold wpList
 have hy:yielded ops a.tmps g=none:=by
  unfold yielded;rw [hs];show (match a.tmps[s]? with|some (.bool b)=>some b|_=>none)=none;rw [ha.get s _ hb]
  rfl
 have:((none:Option Bool)==some b)=false:=rfl
 simp only [Region.wanted,hy,this]
 exact h _ (ha.put hd undef)
theorem cG {g:Nat} {t:Bool} {s:Nat} (hs:(ops[g]?).bind (·.dst)=some s) (hb:lk env s=some (.bool t)) (hd:Nat.blt d N=true)
 (h1:t=true→Wl P ops Q (⟨some d,op,ty,pos,af,none⟩ :: rest) N D env w) (h2:t=false→Wl P ops Q rest N D ((d,undef) :: env) w):Wl P ops Q (⟨some d,op,ty,pos,af,some (g,true)⟩ :: rest) N D env w:=by
 cases t
 · exact Gp hs hb rfl hd (h2 rfl)
 · exact Gq hs hb (h1 rfl)
theorem dy {g:Nat} {t:Bool} {s:Nat} (hs:(ops[g]?).bind (·.dst)=some s) (hb:lk env s=some (.bool t)) (hd:Nat.blt d N=true)
 (h1:t=true→Wl P ops Q rest N D ((d,undef) :: env) w) (h2:t=false→Wl P ops Q (⟨some d,op,ty,pos,af,none⟩ :: rest) N D env w):Wl P ops Q (⟨some d,op,ty,pos,af,some (g,false)⟩ :: rest) N D env w:=by
 cases t
 · exact Gq hs hb (h2 rfl)
 · exact Gp hs hb rfl hd (h1 rfl)
end ops
end
end Go.Bw
namespace Go.Bw
open Go.RowKit
set_option linter.unusedVariables false
set_option linter.unusedSimpArgs false
def str (l:List UInt8):Value:= .string ⟨l.toArray⟩
theorem aeJ (s:ByteArray):Value.string s=str s.data.toList:=by simp [str]
def mm (env:eR):List Operand→Option (List Value)
 | []=>some []
 |x :: r=>match ev env x,mm env r with
  |some v,some l=>some (v :: l)
  |_,_=>none
section
variable {P:Program} {N:Nat} {D:List Deferred} {env env':eR} {a:Act} {w w':World} {Q:Exit→Act→World→Prop}
variable {ops:Array Oper} {rest:List Oper} {d:Nat} {op:Op} {ty:TypeId} {pos:String} {af:Array Edge}
theorem Pc (ha:Ok N D env a):∀{xs:List Operand} {vs:List Value},mm env xs=some vs→xs.map a.eval=vs
 | [],vs,h=>by cases h;rfl
 |x :: r,vs,h=>by
  unfold mm at h
  cases h1:ev env x with
  |none=>rw [h1] at h;cases h
  |some v=>
   cases h2:mm env r with
   |none=>rw [h1,h2] at h;cases h
   |some l=>
    rw [h1,h2] at h;cases h;rw [List.map_cons,ha.eval h1,Pc ha h2]
theorem AY (ha:Ok N D env a) {xs:Array Operand} {vs:List Value} (h:mm env xs.toList=some vs):xs.map a.eval=vs.toArray:=by
 have:=Pc ha h;rw [←this]
 apply Array.ext'
 simp
def ux (env:eR):List (Nat×Operand)→Option (List (Nat×Value))
 | []=>some []
 |(i,x) :: r=>match ev env x,ux env r with
  |some v,some l=>some ((i,v) :: l)
  |_,_=>none
theorem Pb (ha:Ok N D env a):∀{xs:List (Nat×Operand)} {vs:List (Nat×Value)},ux env xs=some vs→xs.map (fun (i,x)=>(i,a.eval x))=vs
 | [],vs,h=>by cases h;rfl
 |(i,x) :: r,vs,h=>by
  unfold ux at h
  cases h1:ev env x with
  |none=>rw [h1] at h;cases h
  |some v=>
   cases h2:ux env r with
   |none=>rw [h1,h2] at h;cases h
   |some l=>
    rw [h1,h2] at h;cases h;rw [List.map_cons,Pb ha h2];simp [ha.eval h1]
theorem Pa (ha:Ok N D env a) {xs:Array (Nat×Operand)} {vs:List (Nat×Value)} (h:ux env xs.toList=some vs):xs.map (fun (i,x)=>(i,a.eval x))=vs.toArray:=by
 have:=Pb ha h;rw [←this]
 apply Array.ext'
 simp
def Yl (P:Program) (N:Nat) (D:List Deferred) (env:eR) (op:Op) (ty:TypeId) (v:Value):Prop:=
 ∀a,Ok N D env a→∀(w:World) (dst:Option Tmp) (pos:String) (af:Array Edge) (g:Option (Nat×Bool)),(execOp a.eval ⟨dst,op,ty,pos,af,g⟩).run P w= .ok (.value v) w
def Ld (P:Program) (N:Nat) (D:List Deferred) (env:eR) (w:World) (op:Op) (ty:TypeId) (v:Value):Prop:=
 ∀a,Ok N D env a→∀(dst:Option Tmp) (pos:String) (af:Array Edge) (g:Option (Nat×Bool)),(execOp a.eval ⟨dst,op,ty,pos,af,g⟩).run P w= .ok (.value v) w
def Mk (P:Program) (N:Nat) (D:List Deferred) (env:eR) (w:World) (op:Op) (ty:TypeId) (v:Value) (w':World):Prop:=
 ∀a,Ok N D env a→∀(dst:Option Tmp) (pos:String) (af:Array Edge) (g:Option (Nat×Bool)),(execOp a.eval ⟨dst,op,ty,pos,af,g⟩).run P w= .ok (.value v) w'
def St (P:Program) (N:Nat) (D:List Deferred) (env:eR) (w:World) (op:Op) (ty:TypeId) (w':World):Prop:=
 ∀a,Ok N D env a→∀(dst:Option Tmp) (pos:String) (af:Array Edge) (g:Option (Nat×Bool)),(execOp a.eval ⟨dst,op,ty,pos,af,g⟩).run P w= .ok .skip w'
theorem ae {v:Value} (hy:Yl P N D env op ty v) (hd:Nat.blt d N=true) (h:Wl P ops Q rest N D ((d,v) :: env) w):Wl P ops Q (⟨some d,op,ty,pos,af,none⟩ :: rest) N D env w:=
 Gr hd (fun a ha=>hy a ha w _ _ _ _) h
theorem aG {v:Value} (hy:Ld P N D env w op ty v) (hd:Nat.blt d N=true) (h:Wl P ops Q rest N D ((d,v) :: env) w):Wl P ops Q (⟨some d,op,ty,pos,af,none⟩ :: rest) N D env w:=
 Gr hd (fun a ha=>hy a ha _ _ _ _) h
theorem oo {v:Value} (hy:Mk P N D env w op ty v w') (hd:Nat.blt d N=true) (h:Wl P ops Q rest N D ((d,v) :: env) w'):Wl P ops Q (⟨some d,op,ty,pos,af,none⟩ :: rest) N D env w:=
 Gr hd (fun a ha=>hy a ha _ _ _ _) h
theorem t6 (hy:St P N D env w op ty w') (h:Wl P ops Q rest N D env w'):Wl P ops Q (⟨none,op,ty,pos,af,none⟩ :: rest) N D env w:=
 WJ rfl (fun a ha=>hy a ha _ _ _ _) h
theorem dN {x:Operand} {v:Value} (hx:ev env x=some v):Yl P N D env (.move x) ty v:=fun a ha w dst pos af g=>by simp [execOp,ha.eval hx]
theorem it {x:Operand} {v:Value} (hx:ev env x=some v):Yl P N D env (.assign x) ty v:=fun a ha w dst pos af g=>by simp [execOp,ha.eval hx]
theorem UA {c x y:Operand} {t:Bool} {v:Value} (hc:ev env c=some (.bool t)) (hv:ev env (bif t then x else y)=some v):Yl P N D env (.pick c x y) ty v:=fun a ha w dst pos af g=>by
 cases t<;>simp [execOp,ha.eval hc,asBool]<;>exact ha.eval hv
theorem bo {c x y:Operand} {t:Bool} {v:Value} (hc:ev env c=some (.bool t)) (e:t=true) (hv:ev env x=some v):Yl P N D env (.pick c x y) ty v:=by subst e;exact UA hc hv
theorem bj {c x y:Operand} {t:Bool} {v:Value} (hc:ev env c=some (.bool t)) (e:t=false) (hv:ev env y=some v):Yl P N D env (.pick c x y) ty v:=by subst e;exact UA hc hv
theorem WD {x:Operand} {v:Value} (hx:ev env x=some v) (hd:Nat.blt d N=true) (h:Wl P ops Q rest N D ((d,v) :: env) w):Wl P ops Q (⟨some d,.move x,ty,pos,af,none⟩ :: rest) N D env w:=ae (dN hx) hd h
theorem WI {x:Operand} {v:Value} (hx:ev env x=some v) (hd:Nat.blt d N=true) (h:Wl P ops Q rest N D ((d,v) :: env) w):Wl P ops Q (⟨some d,.assign x,ty,pos,af,none⟩ :: rest) N D env w:=ae (it hx) hd h
theorem cI {x:Operand} {p:Addr} (hx:ev env x=some (.pointer (some p))):Yl P N D env (.nilCheck x) ty (.pointer (some p)):=fun a ha w dst pos af g=>by simp [execOp,ha.eval hx]
theorem yz {x y:Operand} {k:IntKind} {m n:Int} {t u:TypeId} (hx:ev env x=some (.int k m)) (hy:ev env y=some (.int k n)):Yl P N D env (.binOp .add t x y u) ty (.int k (k.wrap (m+n))):=
 fun a ha w dst pos af g=>by simp [execOp,ha.eval hx,ha.eval hy,eqGuard_add,binOp_add,Op.intArith]
theorem yD {x y:Operand} {k:IntKind} {m n:Int} {t u:TypeId} (hx:ev env x=some (.int k m)) (hy:ev env y=some (.int k n)):Yl P N D env (.binOp .sub t x y u) ty (.int k (k.wrap (m - n))):=
 fun a ha w dst pos af g=>by simp [execOp,ha.eval hx,ha.eval hy,eqGuard_sub,binOp_sub,Op.intArith]
theorem Nz {x y:Operand} {k:IntKind} {m n:Int} {t u:TypeId} (hx:ev env x=some (.int k m)) (hy:ev env y=some (.int k n)):Yl P N D env (.binOp .mul t x y u) ty (.int k (k.wrap (m * n))):=
 fun a ha w dst pos af g=>by simp [execOp,ha.eval hx,ha.eval hy,eqGuard_mul,binOp_mul,Op.intArith]
theorem Ag {x y:Operand} {k:IntKind} {m n:Int} {t u:TypeId} (hx:ev env x=some (.int k m)) (hy:ev env y=some (.int k n)):Yl P N D env (.binOp .and t x y u) ty (.int k (bits .and k m n)):=
 fun a ha w dst pos af g=>by simp [execOp,ha.eval hx,ha.eval hy,eqGuard_and,binOp_and,intBits_and]
theorem yB {x y:Operand} {k:IntKind} {m n:Int} {t u:TypeId} (hx:ev env x=some (.int k m)) (hy:ev env y=some (.int k n)):Yl P N D env (.binOp .or t x y u) ty (.int k (bits .or k m n)):=
 fun a ha w dst pos af g=>by simp [execOp,ha.eval hx,ha.eval hy,eqGuard_or,binOp_or,intBits_or]
theorem bX {x y:Operand} {k:IntKind} {m n:Int} {t u:TypeId} (hx:ev env x=some (.int k m)) (hy:ev env y=some (.int k n)):Yl P N D env (.binOp .eql t x y u) ty (.bool (m==n)):=
 fun a ha w dst pos af g=>by simp [execOp,ha.eval hx,ha.eval hy,eqGuard_at_int,binOp_eql]
theorem fG {x y:Operand} {k:IntKind} {m n:Int} {t u:TypeId} (hx:ev env x=some (.int k m)) (hy:ev env y=some (.int k n)):Yl P N D env (.binOp .neq t x y u) ty (.bool (m != n)):=
 fun a ha w dst pos af g=>by simp [execOp,ha.eval hx,ha.eval hy,eqGuard_at_int,binOp_neq]
theorem dL {x y:Operand} {k:IntKind} {m n:Int} {t u:TypeId} (hx:ev env x=some (.int k m)) (hy:ev env y=some (.int k n)):Yl P N D env (.binOp .lss t x y u) ty (.bool (decide (m<n))):=
 fun a ha w dst pos af g=>by simp [execOp,ha.eval hx,ha.eval hy,eqGuard_lss,binOp_lss]
theorem iu {x y:Operand} {k:IntKind} {m n:Int} {t u:TypeId} (hx:ev env x=some (.int k m)) (hy:ev env y=some (.int k n)):Yl P N D env (.binOp .leq t x y u) ty (.bool (decide (m≤n))):=
 fun a ha w dst pos af g=>by simp [execOp,ha.eval hx,ha.eval hy,eqGuard_leq,binOp_leq]
theorem ed {x y:Operand} {k:IntKind} {m n:Int} {t u:TypeId} (hx:ev env x=some (.int k m)) (hy:ev env y=some (.int k n)):Yl P N D env (.binOp .gtr t x y u) ty (.bool (decide (n<m))):=
 fun a ha w dst pos af g=>by simp [execOp,ha.eval hx,ha.eval hy,eqGuard_gtr,binOp_gtr]
theorem f7 {x y:Operand} {k:IntKind} {m n:Int} {t u:TypeId} (hx:ev env x=some (.int k m)) (hy:ev env y=some (.int k n)):Yl P N D env (.binOp .geq t x y u) ty (.bool (decide (n≤m))):=
 fun a ha w dst pos af g=>by simp [execOp,ha.eval hx,ha.eval hy,eqGuard_geq,binOp_geq]
theorem NB {x y:Operand} {k k':IntKind} {m n:Int} {t u:TypeId} (hx:ev env x=some (.int k m)) (hy:ev env y=some (.int k' n)) (h0:0≤n) (h1:n≤k.bits):Yl P N D env (.binOp .shl t x y u) ty (.int k (k.wrap (m * 2 ^ n.toNat))):=
 fun a ha w dst pos af g=>by simp [execOp,ha.eval hx,ha.eval hy,eqGuard_shl,binOp_shl,shift_shl k k' m n h0 h1]
theorem F7 {x y:Operand} {k k':IntKind} {m n:Int} {t u:TypeId} (hx:ev env x=some (.int k m)) (hy:ev env y=some (.int k' n)) (h0:0≤n) (h1:n≤k.bits):Yl P N D env (.binOp .shr t x y u) ty (.int k (m / 2 ^ n.toNat)):=
 fun a ha w dst pos af g=>by simp [execOp,ha.eval hx,ha.eval hy,eqGuard_shr,binOp_shr,shift_shr k k' m n h0 h1]
theorem yC {x y:Operand} {k:IntKind} {m n:Int} {t u:TypeId} (hx:ev env x=some (.int k m)) (hy:ev env y=some (.int k n)) (h0:n≠0):Yl P N D env (.binOp .quo t x y u) ty (.int k (k.wrap (m.tdiv n))):=
 fun a ha w dst pos af g=>by simp [execOp,ha.eval hx,ha.eval hy,eqGuard_quo,binOp_quo,Op.intDiv,h0]
theorem u7 {x y:Operand} {k:IntKind} {m n:Int} {t u:TypeId} (hx:ev env x=some (.int k m)) (hy:ev env y=some (.int k n)) (h0:n≠0):Yl P N D env (.binOp .rem t x y u) ty (.int k (m.tmod n)):=
 fun a ha w dst pos af g=>by simp [execOp,ha.eval hx,ha.eval hy,eqGuard_rem,binOp_rem,Op.intDiv,h0]
theorem wrap_i64 (n:Int) (h0: -9223372036854775808≤n) (h1:n≤9223372036854775807):IntKind.i64.wrap n=n:=by rw [IntKind.wrap_i64];omega
theorem wrap_u64 (n:Int) (h0:0≤n) (h1:n≤18446744073709551615):IntKind.u64.wrap n=n:=by rw [IntKind.wrap_u64];omega
theorem wrap_u8 (n:Int) (h0:0≤n) (h1:n≤255):IntKind.u8.wrap n=n:=by rw [IntKind.wrap_u8];omega
theorem bW {op:Op} {v v':Value} (h:Yl P N D env op ty v) (e:v=v'):Yl P N D env op ty v':=e ▸ h
theorem ct {x y:Operand} {m n:Int} {t u:TypeId} (hx:ev env x=some (.int .i64 m)) (hy:ev env y=some (.int .i64 n)) (h0: -9223372036854775808≤m+n) (h1:m+n≤9223372036854775807):Yl P N D env (.binOp .add t x y u) ty (.int .i64 (m+n)):=
 bW (yz hx hy) (by rw [wrap_i64 _ h0 h1])
theorem iQ {x y:Operand} {m n:Int} {t u:TypeId} (hx:ev env x=some (.int .i64 m)) (hy:ev env y=some (.int .i64 n)) (h0: -9223372036854775808≤m - n) (h1:m - n≤9223372036854775807):Yl P N D env (.binOp .sub t x y u) ty (.int .i64 (m - n)):=
 bW (yD hx hy) (by rw [wrap_i64 _ h0 h1])
theorem Uz {x y:Operand} {m n:Int} {t u:TypeId} (hx:ev env x=some (.int .i64 m)) (hy:ev env y=some (.int .i64 n)) (h0: -9223372036854775808≤m * n) (h1:m * n≤9223372036854775807):Yl P N D env (.binOp .mul t x y u) ty (.int .i64 (m * n)):=
 bW (Nz hx hy) (by rw [wrap_i64 _ h0 h1])
theorem ll {x:Operand} {k k':IntKind} {n:Int} {s t:TypeId} {u:TypeDesc} (hu:P.underlying s=some u) (ht:P.underlying t=some (.int k)) (hx:ev env x=some (.int k' n)):Yl P N D env (.convert s t x) ty (.int k (k.wrap n)):=fun a ha w dst pos af g=>by
 simp [execOp,ha.eval hx,convert,run_underlying hu,run_underlying ht,Conv.intToInt]
theorem ag6 {x:Operand} {k:FloatKind} {k':IntKind} {n:Int} {s t:TypeId} {u:TypeDesc} (hu:P.underlying s=some u) (ht:P.underlying t=some (.float k)) (hx:ev env x=some (.int k' n)):Yl P N D env (.convert s t x) ty (.float k (k.nearest n)):=fun a ha w dst pos af g=>by
 simp [execOp,ha.eval hx,convert,run_underlying hu,run_underlying ht,Conv.intToFloat]
theorem jd {x:Operand} {b:Bool} {t:TypeId} (hx:ev env x=some (.bool b)):Yl P N D env (.unOp .not t x) ty (.bool (!b)):=fun a ha w dst pos af g=>by simp [execOp,ha.eval hx,Op.unary]
theorem F4 {x y:Operand} {k:FloatKind} {m n:Nat} {t u:TypeId} (hx:ev env x=some (.float k m)) (hy:ev env y=some (.float k n)):Yl P N D env (.binOp .eql t x y u) ty (.bool (k.format.order m n==some .eq)):=
 fun a ha w dst pos af g=>by simp [execOp,ha.eval hx,ha.eval hy,eqGuard_at_float,binOp,Op.floatCmp]
theorem Ai {x y:Operand} {k:FloatKind} {m n:Nat} {t u:TypeId} (hx:ev env x=some (.float k m)) (hy:ev env y=some (.float k n)):Yl P N D env (.binOp .neq t x y u) ty (.bool (k.format.order m n != some .eq)):=
 fun a ha w dst pos af g=>by simp [execOp,ha.eval hx,ha.eval hy,eqGuard_at_float,binOp,Op.floatCmp]
theorem Uy {x y:Operand} {k:FloatKind} {m n:Nat} {t u:TypeId} (hx:ev env x=some (.float k m)) (hy:ev env y=some (.float k n)):Yl P N D env (.binOp .lss t x y u) ty (.bool (k.format.order m n==some .lt)):=
 fun a ha w dst pos af g=>by simp [execOp,ha.eval hx,ha.eval hy,eqGuard_at_float,binOp,Op.floatCmp]
theorem aha {x y:Operand} {k:FloatKind} {m n:Nat} {t u:TypeId} (hx:ev env x=some (.float k m)) (hy:ev env y=some (.float k n)):Yl P N D env (.binOp .gtr t x y u) ty (.bool (k.format.order m n==some .gt)):=
 fun a ha w dst pos af g=>by simp [execOp,ha.eval hx,ha.eval hy,eqGuard_at_float,binOp,Op.floatCmp]
theorem Ta (l:List UInt8):(⟨l.toArray⟩:ByteArray).toList=l:=by rw [Lib.toList_data]
theorem pJ (l:List UInt8):(⟨l.toArray⟩:ByteArray).size=l.length:=by rw [Lib.size_eq]
theorem fl {x y:Operand} {m n:List UInt8} {t u:TypeId} (hx:ev env x=some (str m)) (hy:ev env y=some (str n)):Yl P N D env (.binOp .eql t x y u) ty (.bool (m==n)):=fun a ha w dst pos af g=>by
 simp [execOp,ha.eval hx,ha.eval hy,str,eqGuard_at_string,binOp,Op.stringOp,Ta]
theorem yA {x y:Operand} {m n:List UInt8} {t u:TypeId} (hx:ev env x=some (str m)) (hy:ev env y=some (str n)):Yl P N D env (.binOp .neq t x y u) ty (.bool (m != n)):=fun a ha w dst pos af g=>by
 simp [execOp,ha.eval hx,ha.eval hy,str,eqGuard_at_string,binOp,Op.stringOp,Ta,bne]
theorem aeH (m n:List UInt8):(⟨m.toArray⟩:ByteArray)++⟨n.toArray⟩=⟨(m++n).toArray⟩:=by
 apply ByteArray.ext;simp
theorem eu {x y:Operand} {m n:List UInt8} {t u:TypeId} (hx:ev env x=some (str m)) (hy:ev env y=some (str n)) (hl:m.length+n.length≤9223372036854775807):Yl P N D env (.binOp .add t x y u) ty (str (m++n)):=fun a ha w dst pos af g=>by
 have h1:¬(((m.length+n.length:Nat):Int)>IntKind.i64.max):=by
  have:IntKind.i64.max=9223372036854775807:=by decide
  omega
 simp only [execOp,ha.eval hx,ha.eval hy,str,eqGuard_add,binOp,Op.stringOp,pJ,aeH,if_neg h1];simp
theorem ez {x:Operand} {l:List UInt8} {t:TypeId} (ht:P.underlying t=some .string) (hl:l.length≤9223372036854775807) (hx:ev env x=some (str l)):Yl P N D env (.call ⟨.builtin .len,#[x],#[t]⟩) ty (.int .i64 l.length):=fun a ha w dst pos af g=>by
 simp [execOp,resolve,invoke,builtin,Builtin.len_,ha.eval hx,str,run_underlying ht,pJ,goInt]
theorem iC {x:Operand} {A:Option Addr} {n c:Nat} {t e:TypeId} (ht:P.underlying t=some (.slice e)) (hl:n≤9223372036854775807) (hx:ev env x=some (.slice A n c)):Yl P N D env (.call ⟨.builtin .len,#[x],#[t]⟩) ty (.int .i64 n):=fun a ha w dst pos af g=>by
 simp [execOp,resolve,invoke,builtin,Builtin.len_,ha.eval hx,run_underlying ht,goInt]
theorem Ah {x y:Operand} {k:IntKind} {m n:Int} {t u:TypeId} (hx:ev env x=some (.int k m)) (hy:ev env y=some (.int k n)):Yl P N D env (.call ⟨.builtin .min,#[x,y],#[t,u]⟩) ty (.int k (min m n)):=fun a ha w dst pos af g=>by
 simp [execOp,resolve,invoke,builtin,Builtin.min_,Builtin.min2,ha.eval hx,ha.eval hy];omega
theorem qy {x y:Operand} {k:IntKind} {m n:Int} {t u:TypeId} (hx:ev env x=some (.int k m)) (hy:ev env y=some (.int k n)):Yl P N D env (.call ⟨.builtin .max,#[x,y],#[t,u]⟩) ty (.int k (max m n)):=fun a ha w dst pos af g=>by
 simp [execOp,resolve,invoke,builtin,Builtin.max_,Builtin.max2,ha.eval hx,ha.eval hy];omega
theorem fP {x i:Operand} {l:List UInt8} {k:IntKind} {n:Int} {t:TypeId} (ht:P.underlying t=some .string) (hx:ev env x=some (str l)) (hi:ev env i=some (.int k n)) (h0:0≤n) (h1:n<l.length):Yl P N D env (.index t x i) ty (.int .u8 (l.getD n.toNat 0).toNat):=fun a ha w dst pos af g=>by
 have hlt:n.toNat<l.length:=by omega
 have hg:(⟨l.toArray⟩:ByteArray)[n.toNat]? =some (l.getD n.toNat 0):=by
  have hs:n.toNat<(⟨l.toArray⟩:ByteArray).size:=by rw [pJ];exact hlt
  have h1:(⟨l.toArray⟩:ByteArray)[n.toNat]? =some ((⟨l.toArray⟩:ByteArray)[n.toNat]'hs):=by
   show (if h:n.toNat<(⟨l.toArray⟩:ByteArray).size then _ else _)=_;rw [dif_pos hs]
  rw [h1];have h2:l.getD n.toNat 0=l[n.toNat]:=by simp [List.getD,hlt]
  rw [h2];rfl
 simp [execOp,Instr.index,ha.eval hx,ha.eval hi,str,asIntOf,run_underlying ht,h0,hg]
theorem IZ (l:List UInt8) (a b:Nat):(⟨l.toArray⟩:ByteArray).extract a b=⟨((l.take b).drop a).toArray⟩:=by
 rw [Lib.extract_eq];simp [List.drop_take]
theorem run_sliceBound {k:IntKind} {i:Int} {y:Nat} {c:BoundsCode} (h0:0≤i) (h1:i≤y) (w:World):(Instr.sliceBound (.int k i) y c).run P w= .ok i.toNat w:=by
 simp [Instr.sliceBound,asIntOf,h0,h1]
theorem sF {x i j:Operand} {l:List UInt8} {k k':IntKind} {m n:Int} {t:TypeId} (ht:P.underlying t=some .string) (hx:ev env x=some (str l)) (hi:ev env i=some (.int k m)) (hj:ev env j=some (.int k' n)) (h0:0≤m) (h1:m≤n) (h2:n≤l.length):Yl P N D env (.slice t x (some i) (some j) none) ty (str ((l.take n.toNat).drop m.toNat)):=fun a ha w dst pos af g=>by
 have h3:m≤(n.toNat:Int):=by omega
 have h4:0≤n:=by omega
 simp [execOp,Instr.sliceAt,Instr.slice,Instr.sliceBounds,ha.eval hx,ha.eval hi,ha.eval hj,str,run_underlying ht,pJ,run_sliceBound h0 h3,run_sliceBound h4 h2,IZ]
theorem tW {x i:Operand} {l:List UInt8} {k:IntKind} {m:Int} {t:TypeId} (ht:P.underlying t=some .string) (hx:ev env x=some (str l)) (hi:ev env i=some (.int k m)) (h0:0≤m) (h1:m≤l.length):Yl P N D env (.slice t x (some i) none none) ty (str (l.drop m.toNat)):=fun a ha w dst pos af g=>by
 have h2:(l.take l.length).drop m.toNat=l.drop m.toNat:=by rw [List.take_length]
 simp [execOp,Instr.sliceAt,Instr.slice,Instr.sliceBounds,Instr.sliceBound,ha.eval hx,ha.eval hi,str,asIntOf,run_underlying ht,pJ,h0,h1,IZ,h2]
theorem pQ {x j:Operand} {l:List UInt8} {k:IntKind} {n:Int} {t:TypeId} (ht:P.underlying t=some .string) (hx:ev env x=some (str l)) (hj:ev env j=some (.int k n)) (h0:0≤n) (h2:n≤l.length):Yl P N D env (.slice t x none (some j) none) ty (str (l.take n.toNat)):=fun a ha w dst pos af g=>by
 simp [execOp,Instr.sliceAt,Instr.slice,Instr.sliceBounds,Instr.sliceBound,ha.eval hx,ha.eval hj,str,asIntOf,run_underlying ht,pJ,h0,h2,IZ]
theorem cu {x:Operand} {vs:Array Value} {i:Nat} {v:Value} (hx:ev env x=some (.tuple vs)) (hv:vs[i]? =some v):Yl P N D env (.extract x i) ty v:=fun a ha w dst pos af g=>by
 simp [execOp,ha.eval hx,Instr.extract,hv]
theorem nj {fn:Fn} {l c:Array Operand} {vl vc:List Value} (hl:mm env l.toList=some vl) (hc:mm env c.toList=some vc):Yl P N D env (.makeFunc fn l c) ty (.func fn vl.toArray vc.toArray):=fun a ha w dst pos af g=>by
 have h1:l.map a.eval=vl.toArray:=AY ha hl;have h2:c.map a.eval=vc.toArray:=AY ha hc;simp [execOp,Instr.makeFunc,h1,h2]
theorem aH {k:IntKind} {m n:Int} (h:m=n):Value.int k m=Value.int k n:=by rw [h]
theorem d5 {l m:List UInt8} (h:l=m):str l=str m:=by rw [h]
theorem a8 {l m:Bool} (h:l=m):Value.bool l=Value.bool m:=by rw [h]
def bx (P:Program) (f:FuncId) (args:List Value) (w:World) (R:Value→World→Prop):Prop:=Calls P f args.toArray w fun e w'=>∃v,e= .returned v∧R v w'
theorem bx.mono {f:FuncId} {args:List Value} {R R':Value→World→Prop} (h:bx P f args w R) (hr:∀v w',R v w'→R' v w'):bx P f args w R':=
 Calls.mono h fun _ _ ⟨v,e,hv⟩=>⟨v,e,hr v _ hv⟩
def bB (P : Program) (f : FuncId) : Prop := ∃ fn, P.funcs[f]? = some fn ∧ (fn.name == "runtime.NumGoroutine") = false ∧ fn.body.isNone = false
theorem MH {f:FuncId} (hf:bB P f) (args:Array Value) (w:World):(callFunc f args).run P w= .ok (.enter f args) w:=by
 obtain ⟨fn,h1,h2,h3⟩:=hf
 have h4 : ¬ (fn.name = "runtime.NumGoroutine") := by simpa using h2
 have h5:¬(fn.body=Option.none):=by intro e;rw [e] at h3;cases h3
 simp [callFunc,h1,h4,h5]
theorem N9 {x:Operand} {f:FuncId} {xs:Array Operand} {ts:Array TypeId} {l c:Array Value} {vs:List Value} {R:Ending→World→Prop} (hf:bB P f) (hx:ev env x=some (.func (.func f) l c)) (hxs:mm env xs.toList=some vs)
 (hc:Calls P f (l++vs.toArray++c) w R) (hd:Nat.blt d N=true) (h:∀v w',R (.returned v) w'→Wl P ops Q rest N D ((d,v) :: env) w') (hp:∀p w',R (.panicked p) w'→Wq Q (.panic p) N D env w') (ho:∀w',¬R .outgrown w'):
 Wl P ops Q (⟨some d,.call ⟨.value x,xs,ts⟩,ty,pos,af,none⟩ :: rest) N D env w:=fun a ha=>by
 unfold wpList
 simp only [Region.wanted,if_true]
 refine .inl ?_
 have hargs:xs.map a.eval=vs.toArray:=AY ha hxs
 unfold Oper.wp
 simp only [execOp,resolve,ha.eval hx,hargs,Deferred.ofValue,Sem.run_bind,Sem.run_pure,Result.andThen_ok,invoke,MH hf,Oper.upon_enter]
 refine hc.mono fun e w' hR=>?_
 cases e with
 |returned v=>exact h v w' hR _ (ha.put hd v)
 |panicked p=>exact hp p w' hR _ ha
 |outgrown=>exact absurd hR (ho w')
theorem aD {x:Operand} {f:FuncId} {xs:Array Operand} {ts:Array TypeId} {l c:Array Value} {vs:List Value} {R:Value→World→Prop} (hf:bB P f) (hx:ev env x=some (.func (.func f) l c)) (hxs:mm env xs.toList=some vs)
 (hc:bx P f (l.toList++vs++c.toList) w R) (hd:Nat.blt d N=true) (h:∀v w',R v w'→Wl P ops Q rest N D ((d,v) :: env) w'):
 Wl P ops Q (⟨some d,.call ⟨.value x,xs,ts⟩,ty,pos,af,none⟩ :: rest) N D env w:=
 N9 hf hx hxs (R:=fun e w'=>∃v,e= .returned v∧R v w') (by
  have h1:(l.toList++vs++c.toList).toArray=l++vs.toArray++c:=by simp
  unfold bx at hc
  rw [h1] at hc;exact hc) hd (fun v w' ⟨u,e,hu⟩=>by cases e;exact h _ w' hu) (fun p w' ⟨u,e,hu⟩=>by cases e) (fun w' ⟨u,e,hu⟩=>by cases e)
theorem ag8 {x:Operand} {f:FuncId} {xs:Array Operand} {ts:Array TypeId} {vs:List Value} {v:Value} (hr:∀w,(callFunc f vs.toArray).run P w= .ok (.value v) w) (hx:ev env x=some (.func (.func f) #[] #[])) (hxs:mm env xs.toList=some vs):Yl P N D env (.call ⟨.value x,xs,ts⟩) ty v:=fun a ha w dst pos af g=>by
 have hargs:xs.map a.eval=vs.toArray:=AY ha hxs;simp [execOp,resolve,ha.eval hx,hargs,Deferred.ofValue,invoke,hr]
end
end Go.Bw
namespace Go.Bw
open Go.RowKit
set_option linter.unusedVariables false
set_option linter.unusedSimpArgs false
def jb (l:List UInt8):List Value:=l.map fun c=> .int .u8 c.toNat
def Rd (w:World) (sz:Nat) (A:Option Addr) (n:Nat) (xs:List Value):Prop:=
 xs.length=n * sz∧(0<xs.length→∃p,A=some p∧∀(j:Nat) (u:Value),xs[j]? =some u→w.cell? (p.add j)=some u)
theorem El {w:World} {p:Addr} {v:Value} (h:w.cell? p=some v):p.block<w.heap.size:=World.block_lt_of_cell? w _ h
theorem ou {w w':World} (hb:Below w.heap.size w w') {p:Addr} {v:Value} (h:w.cell? p=some v):w'.cell? p=some v:=(hb.cell (El h)).trans h
theorem Rd.below {w w':World} {sz:Nat} {A:Option Addr} {n:Nat} {xs:List Value} (h:Rd w sz A n xs) (hb:Below w.heap.size w w'):Rd w' sz A n xs:=
 ⟨h.1,fun hn=>let ⟨p,e,hc⟩:=h.2 hn;⟨p,e,fun j u hu=>ou hb (hc j u hu)⟩⟩
theorem Rd.nil (w:World) (sz:Nat) (A:Option Addr):Rd w sz A 0 []:=⟨by simp,fun h=>absurd h (by simp)⟩
theorem jR (a:Addr) (i j:Nat):(a.add i).add j=a.add (i+j):=by
 unfold Addr.add;by_cases hi:i=0<;>by_cases hj:j=0<;>simp [hi,hj,Nat.add_assoc]
theorem Rd.drop {w:World} {sz:Nat} {A:Option Addr} {n m c:Nat} {xs:List Value} (h:Rd w sz A n xs) (hm:m≤n) (hc:n≤c):Rd w sz (if c=m then A else A.map (·.add (m * sz))) (n - m) (xs.drop (m * sz)):=by
 refine ⟨by rw [List.length_drop,h.1,Nat.sub_mul],fun hn=>?_⟩;rw [List.length_drop,h.1] at hn
 have hlt:m<n:=by
  rcases Nat.lt_or_ge m n with h1|h1
  · exact h1
  · have:=Nat.mul_le_mul_right sz h1;omega
 obtain ⟨p,rfl,hcell⟩:=h.2 (by rw [h.1];omega);rw [if_neg (by omega)];refine ⟨p.add (m * sz),rfl,fun j u hu=>?_⟩;rw [jR];rw [List.getElem?_drop] at hu;exact hcell _ u hu
theorem Rd.one {w:World} {A:Option Addr} {n:Nat} {xs:List Value} (h:Rd w 1 A n xs) {i:Nat} (hi:i<n):∃p v,A=some p∧xs[i]? =some v∧w.cell? (p.add i)=some v:=by
 have hl:i<xs.length:=by rw [h.1];omega
 obtain ⟨p,e,hc⟩:=h.2 (by omega);exact ⟨p,xs[i],e,List.getElem?_eq_getElem hl,hc i _ (List.getElem?_eq_getElem hl)⟩
theorem vv {w:World} {p:Addr} {k:Nat} {v:Value} (h:w.cell? (p.add k)=some v):w.cell? (p.add ((k:Int).toNat * 1))=some v:=by rw [Int.toNat_natCast,Nat.mul_one];exact h
theorem vi {w:World} {base:Nat} {e:TypeId} {sz n c:Nat} {A:Option Addr} {xs:List Value} (h:w.ownsRow base e sz (.slice A n c) n xs):Rd w sz A n xs:=by
 refine ⟨h.1,fun hn=>?_⟩
 rcases h.2 with ⟨hv,h0⟩|⟨g,cap,cur,hv,hg,hh,hnc,hcm,hcs,hx⟩
 · have:=h.1;rw [h0] at this;omega
 · injection hv with hA h2 h3
   subst hA;refine ⟨_,rfl,fun j u hu=>?_⟩;have hadd:(⟨g,0,none⟩:Addr).add j=⟨g,j,none⟩:=by unfold Addr.add;split<;>simp_all
   rw [hadd];rw [←hx,List.getElem?_take] at hu
   split at hu
   · simp only [World.cell?,hh]
     simpa using hu
   · cases hu
section
variable {P:Program} {N:Nat} {D:List Deferred} {env env':eR} {a:Act} {w w':World} {Q:Exit→Act→World→Prop}
variable {ops:Array Oper} {rest:List Oper} {d:Nat} {op:Op} {ty:TypeId} {pos:String} {af:Array Edge}
theorem acR {x:Operand} {v:Value} {e:TypeId} (hx:ev env x=some v):Mk P N D env w (.box e x) ty (.pointer (some ⟨w.heap.size,0,none⟩)) (w.alloc (.cells v.cells e)):=fun a ha dst pos af g=>by
 simp [execOp,ha.eval hx,Instr.box,newVar,newRow]
def One (P:Program) (t:TypeId):Prop:=∃d,P.underlying t=some d∧(match d with| .struct _| .array _ _=>false|_=>true)=true∧(P.info? t).map (·.size)=some 1
theorem aeh {t:TypeId} (ht:One P t) (w:World):(isAgg t).run P w= .ok false w:=by
 obtain ⟨d,h1,h2,h3⟩:=ht
 cases d<;>simp_all [isAgg,run_underlying h1]
theorem SB {t:TypeId} {p:Addr} {v:Value} (ht:One P t) (hc:w.cell? p=some v):(loadVar t p).run P w= .ok v w:=by
 simp [loadVar,aeh ht,hc]
theorem aS {x:Operand} {t:TypeId} {p:Addr} {v:Value} (ht:One P t) (hx:ev env x=some (.pointer (some p))) (hc:w.cell? p=some v):Ld P N D env w (.load t x) ty v:=fun a ha dst pos af g=>by
 simp [execOp,ha.eval hx,Instr.loadAt,Instr.sureAddr,SB ht hc]
theorem Dm {x y:Operand} {t:TypeId} {p:Addr} {u v:Value} (ht:One P t) (hx:ev env x=some (.pointer (some p))) (hy:ev env y=some v) (h1:v.oneCell'=true) (hc:w.cell? p=some u) (hf:w.frozen? p=false):St P N D env w (.store t x y) ty (w.setCell p v):=fun a ha dst pos af g=>by
 obtain ⟨dd,h2,h3,h4⟩:=ht;have hcs:v.cells= #[v]:=by cases v<;>simp_all [Value.cells,Value.oneCell']
 obtain ⟨i,hi,hs⟩:=Option.map_eq_some_iff.1 h4;have h5:(sizeOf t).run P w= .ok 1 w:=by simp [sizeOf,typeInfo,hi,hs]
 have h6:p.add 0=p:=by simp [Addr.add]
 simp [execOp,ha.eval hx,ha.eval hy,Instr.storeAt,Instr.sureAddr,storeVar,hcs,h5,storeCells,h6,run_store P w p v _ h1,stored,hc,hf]
theorem cr {x:Operand} {t:TypeId} {p:Addr} {cs:List Value} {f:Array Field} (ht:P.underlying t=some (.struct f)) (hs:(P.info? t).map (·.size)=some cs.length) (hx:ev env x=some (.pointer (some p))) (hc:∀(j:Nat) (u:Value),cs[j]? =some u→w.cell? (p.add j)=some u):Ld P N D env w (.load t x) ty (.agg cs.toArray):=fun a ha dst pos af g=>by
 obtain ⟨i,hi,hsz⟩:=Option.map_eq_some_iff.1 hs;have h5:(sizeOf t).run P w= .ok cs.length w:=by simp [sizeOf,typeInfo,hi,hsz]
 have h6:=run_loadCells_list (P:=P) w p cs hc;simp [execOp,ha.eval hx,Instr.loadAt,Instr.sureAddr,loadVar,isAgg,run_underlying ht,h5,h6]
theorem f8 {x i:Operand} {t e:TypeId} {sz:Nat} {p:Addr} {n c:Nat} {k:IntKind} {m:Int} (ht:P.underlying t=some (.slice e)) (hs:(P.info? e).map (·.size)=some sz) (hx:ev env x=some (.slice (some p) n c)) (hi:ev env i=some (.int k m)) (h0:0≤m) (h1:m<n):
 Yl P N D env (.indexAddr t x i) ty (.pointer (some (p.add (m.toNat * sz)))):=fun a ha w dst pos af g=>by
 obtain ⟨ie,hi2,hsz⟩:=Option.map_eq_some_iff.1 hs
 have h5:∀w,(sizeOf e).run P w= .ok sz w:=fun w=>by simp [sizeOf,typeInfo,hi2,hsz]
 simp [execOp,Instr.indexAt,ha.eval hx,ha.eval hi,asIntOf,run_underlying ht,h0,h1,h5]
theorem run_sizeOf {e:TypeId} {sz:Nat} (hs:(P.info? e).map (·.size)=some sz) (w:World):(sizeOf e).run P w= .ok sz w:=by
 obtain ⟨ie,hi2,hsz⟩:=Option.map_eq_some_iff.1 hs;simp [sizeOf,typeInfo,hi2,hsz]
theorem UB {x j:Operand} {p:Addr} {k:IntKind} {m:Int} {t e:TypeId} {sz len:Nat} (ht:P.underlying t=some (.array len e)) (hs:(P.info? e).map (·.size)=some sz) (hx:ev env x=some (.pointer (some p))) (hj:ev env j=some (.int k m)) (h0:0≤m) (h1:m≤len):
 Yl P N D env (.slice t x none (some j) none) ty (.slice (some p) m.toNat len):=fun a ha w dst pos af g=>by
 have hA:p.add 0=p:=by simp [Addr.add]
 simp [execOp,Instr.sliceAt,Instr.sureAddr,Instr.sliceBounds,ha.eval hx,ha.eval hj,run_underlying ht,run_sliceBound h0 h1,run_sizeOf hs,hA]
theorem UC {x i:Operand} {A:Option Addr} {n c:Nat} {k:IntKind} {m:Int} {t e:TypeId} {sz:Nat} (ht:P.underlying t=some (.slice e)) (hs:(P.info? e).map (·.size)=some sz) (hx:ev env x=some (.slice A n c)) (hi:ev env i=some (.int k m)) (h0:0≤m) (h1:m≤n):
 Yl P N D env (.slice t x (some i) none none) ty (.slice (if c=m.toNat then A else A.map (·.add (m.toNat * sz))) (n - m.toNat) (c - m.toNat)):=fun a ha w dst pos af g=>by
 simp [execOp,Instr.sliceAt,Instr.slice,Instr.sliceBounds,ha.eval hx,ha.eval hi,run_underlying ht,run_sliceBound h0 h1,run_sizeOf hs]
theorem vr {x y:Operand} {t e:TypeId} {z:Value} {sz bytes:Nat} (ht:P.underlying t=some (.slice e)) (hi:(P.info? e).map (fun i=>(i.zero,i.size,i.bytes))=some (some z,sz,bytes)) (hz:z.cells.size=sz) (hsz:0<sz)
 (base:Nat) {v:Value} {n:Nat} {xs:List Value} (hx:ev env x=some v) (hown:w.ownsRow base e sz v n xs)
 {A:Option Addr} {m c:Nat} {news:List Value} (hy:ev env y=some (.slice A m c)) (hr:Rd w sz A m news) (h1:∀u∈news,u.oneCell'=true)
 (h63:n+m≤maxLen) (hbytes:(n+m) * bytes≤140737488355328) (hbase:base≤w.heap.size) (hd:Nat.blt d N=true)
 (h:∀v' w',w'.ownsRow base e sz v' (n+m) (xs++news)→w.grownBy w' v.ownBlock→(v'.ownBlock=v.ownBlock∨v'.ownBlock=some w.heap.size)→Wl P ops Q rest N D ((d,v') :: env) w'):
 Wl P ops Q (⟨some d,.call ⟨.builtin .append,#[x,y],#[t,t]⟩,ty,pos,af,none⟩ :: rest) N D env w:=by
 obtain ⟨i,hi0,hi1⟩:=Option.map_eq_some_iff.1 hi
 simp only [Prod.mk.injEq] at hi1
 obtain ⟨hz0,hs0,hb0⟩:=hi1
 have key:∃v' w',(Builtin.append_ #[t,t] ty #[v,.slice A m c]).run P w= .ok v' w'∧w'.ownsRow base e sz v' (n+m) (xs++news)∧w.grownBy w' v.ownBlock∧(v'.ownBlock=v.ownBlock∨v'.ownBlock=some w.heap.size):=by
  rcases Nat.eq_zero_or_pos news.length with h0|h0
  · have hm:m=0:=by
     have:=hr.1;rw [h0] at this
     rcases Nat.eq_zero_or_pos m with e|e
     · exact e
     · have:=Nat.mul_pos e hsz;omega
    subst hm;have hn:news= []:=List.eq_nil_of_length_eq_zero h0;subst hn
    cases A with
    |none=>
     refine ⟨v,w,?_,by simpa using hown,World.grownBy.refl w _,.inl rfl⟩
     rcases hown.2 with ⟨rfl,rfl⟩|⟨g,cap,cur,rfl,_,_,hnc,_⟩
     · simp [Builtin.append_,run_underlying ht,sizeOf,typeInfo,hi0,Builtin.lenOf,Builtin.firstCells]
     · simp [Builtin.append_,run_underlying ht,sizeOf,typeInfo,hi0,Builtin.lenOf,Builtin.firstCells,hnc,storeCells]
    |some ad=>
     obtain ⟨v',w',hrun,h2,h3,_,h5⟩:=run_append_own_at (P:=P) w base t ty e i z sz bytes ht hi0 hz0 hs0 hb0 hz hsz v n xs hown ad 0 c [] (by simp) (by simp) (by simp) h63 hbytes hbase;exact ⟨v',w',hrun,h2,h3,h5⟩
  · obtain ⟨ad,rfl,hc⟩:=hr.2 h0
    obtain ⟨v',w',hrun,h2,h3,_,h5⟩:=run_append_own_at (P:=P) w base t ty e i z sz bytes ht hi0 hz0 hs0 hb0 hz hsz v n xs hown ad m c news hr.1 hc h1 h63 hbytes hbase;exact ⟨v',w',hrun,h2,h3,h5⟩
 obtain ⟨v',w',hrun,h2,h3,h4⟩:=key
 refine oo (w':=w') (v:=v') (fun a ha dst pos af g=>?_) hd (h v' w' h2 h3 h4)
 simp [execOp,resolve,invoke,builtin,ha.eval hx,ha.eval hy,hrun]
def yd:Nat→List Value→List (Nat×Value)
 |_,[]=> []
 |i,v :: r=>(i,v) :: yd (i+1) r
theorem MO:∀(cs:List Value) (k off:Nat) (C:Array Value),off+k+cs.length≤C.size→
 ((cs.zipIdx k).foldl (fun X (p:Value×Nat)=>X.setIfInBounds (off+p.2) p.1) C).toList=C.toList.take (off+k)++cs++C.toList.drop (off+k+cs.length)
 | [],k,off,C,hl=>by simp
 |c :: cs,k,off,C,hl=>by
  simp only [List.length_cons] at hl;have hlt:off+k<C.toList.length:=by simp;omega
  rw [List.zipIdx_cons,List.foldl_cons,MO cs (k+1) off _ (by simp;omega)];simp only [Array.toList_setIfInBounds]
  have h1:(C.toList.set (off+k) c).take (off+(k+1))=C.toList.take (off+k)++ [c]:=by
   rw [show off+(k+1)=off+k+1 by omega,List.take_succ_eq_append_getElem (by simpa using hlt),List.take_set_of_le (Nat.le_refl _)];simp
  have h2:(C.toList.set (off+k) c).drop (off+(k+1)+cs.length)=C.toList.drop (off+k+(c :: cs).length):=by
   rw [List.drop_set_of_lt (by omega)]
   congr 1;simp;omega
  rw [h1,h2];simp
theorem Pt {sz:Nat}:∀(vs:List Value) (i:Nat) (C:Array Value),(∀v∈vs,v.cells.size=sz)→(i+vs.length) * sz≤C.size→
 ∃C':Array Value,Instr.fill (fun i=>some (i * sz,sz)) C (yd i vs)=some C'∧C'.size=C.size∧C'.toList=C.toList.take (i * sz)++(vs.flatMap fun v=>v.cells.toList)++C.toList.drop ((i+vs.length) * sz)
 | [],i,C,_,_=>⟨C,by simp [yd,Instr.fill],rfl,by simp⟩
 |v :: vs,i,C,hv,hl=>by
  have h1:v.cells.size=sz:=hv v (by simp);simp only [List.length_cons] at hl;have e1:(i+(vs.length+1)) * sz=i * sz+sz+vs.length * sz:=by rw [Nat.add_mul,Nat.add_mul];omega
  have hb:i * sz+v.cells.size≤C.size:=by
   have:=Nat.zero_le (vs.length * sz);omega
  obtain ⟨C1,hC1⟩:∃C1:Array Value,C1=(v.cells.zipIdx.foldl (fun cs (c,j)=>cs.setIfInBounds (i * sz+j) c) C):=⟨_,rfl⟩
  have hL:C1.toList=C.toList.take (i * sz)++v.cells.toList++C.toList.drop (i * sz+v.cells.toList.length):=by
   rw [hC1,←Array.foldl_toList,Array.toList_zipIdx];have:=MO v.cells.toList 0 (i * sz) C (by simpa using hb)
   simpa using this
  have hS:C1.size=C.size:=by
   have h2:=congrArg List.length hL;simp only [List.length_append,List.length_take,List.length_drop,Array.length_toList] at h2;omega
  obtain ⟨C',h3,h4,h5⟩:=Pt vs (i+1) C1 (fun u hu=>hv u (List.mem_cons_of_mem _ hu)) (by rw [hS,show i+1+vs.length=i+(vs.length+1) by omega];exact hl);refine ⟨C',?_,h4.trans hS,?_⟩
  · show Instr.fill _ C ((i,v) :: yd (i+1) vs)=some C'
    unfold Instr.fill;have hcond:((decide (v.cells.size≠sz))||decide (i * sz+v.cells.size>C.size))=false:=by simp [h1];omega
    simp only [hcond,←hC1]
    simpa using h3
  · rw [h5,hL,show i+1+vs.length=i+(vs.length+1) by omega]
    have hlen:(C.toList.take (i * sz)++v.cells.toList).length=(i+1) * sz:=by
     simp only [List.length_append,List.length_take,Array.length_toList];rw [Nat.add_mul];omega
    rw [List.take_append_of_le_length (by rw [hlen];exact Nat.le_refl _),List.take_of_length_le (by rw [hlen];exact Nat.le_refl _)];rw [List.drop_append,List.drop_of_length_le (by rw [hlen,e1,Nat.add_mul];omega),List.drop_drop,hlen];simp only [List.flatMap_cons,List.append_assoc,List.nil_append,List.length_cons]
    congr 3
    rw [Array.length_toList,h1,e1,Nat.add_mul,Nat.one_mul]
    congr 1
    omega
theorem acS {t e:TypeId} {ln sz:Nat} {parts:Array (Nat×Operand)} {ps:List (Nat×Value)} {vs:List Value} (ht:P.underlying t=some (.slice e)) (hi:(P.info? e).map (fun i=>(i.zero.isSome,i.size))=some (true,sz))
 (hp:ux env parts.toList=some ps) (hl:ps=yd 0 vs) (hv:(vs.all fun v=>Nat.beq v.cells.size sz)=true) (hn:Nat.beq vs.length ln=true) (hb:Nat.ble (ln * sz) 16777216=true):
 Mk P N D env w (.buildSlice t ln parts) ty (.slice (some ⟨w.heap.size,0,none⟩) ln ln) (w.alloc (.cells (vs.flatMap fun v=>v.cells.toList).toArray e)):=fun a ha dst pos af g=>by
 have h0:=Pa ha hp
 have hln:vs.length=ln:=beq_eq hn
 obtain ⟨i,hi1,hi2⟩:=Option.map_eq_some_iff.1 hi
 simp only [Prod.mk.injEq] at hi2
 obtain ⟨hz,hsz⟩:=hi2
 obtain ⟨z,hz⟩:=Option.isSome_iff_exists.1 hz
 have hs:∀w:World,(sizeOf e).run P w= .ok sz w:=fun w=>by simp [sizeOf,typeInfo,hi1,hsz]
 have hzr:∀w:World,(zeroValue e).run P w= .ok z w:=fun w=>by simp [zeroValue,typeInfo,hi1,hz]
 have hb':¬(ln * sz>2 ^ 24):=by have:=Nat.le_of_ble_eq_true hb;omega
 have hv':∀v∈vs,v.cells.size=sz:=fun v hm=>beq_eq (List.all_eq_true.1 hv v hm)
 subst hl
 have key:∀C:Array Value,C.size=ln * sz→Instr.fill (fun i=>some (i * sz,sz)) C (yd 0 vs)=some (vs.flatMap fun v=>v.cells.toList).toArray:=fun C hC=>by
  obtain ⟨C',h1,h2,h3⟩:=Pt vs 0 C hv' (by rw [hC,Nat.zero_add,hln];exact Nat.le_refl _);rw [h1]
  congr 1
  apply Array.ext'
  rw [h3,Nat.zero_add,hln];have:C.toList.drop (ln * sz)= []:=List.drop_of_length_le (by simp [hC]);simp [this]
 by_cases h0':ln * sz=0
 · simp only [execOp,h0]
   simp [Instr.buildSlice,run_underlying ht,hs,hb',h0',newRow,Array.range_zero']
   rw [key #[] (by simp [h0'])]
   simp
 · simp only [execOp,h0]
   simp [Instr.buildSlice,run_underlying ht,hs,hb',h0',newRow,hzr]
   rw [key _ (by simp)]
   simp
theorem acT {t e:TypeId} (ht:P.underlying t=some (.slice e)) (hs:((P.info? e).map (·.size)).isSome=true):Mk P N D env w (.buildSlice t 0 #[]) ty (.slice (some ⟨w.heap.size,0,none⟩) 0 0) (w.alloc (.cells #[] e)):=fun a ha dst pos af g=>by
 obtain ⟨sz,hsz⟩:=Option.isSome_iff_exists.1 hs;simp [execOp,Instr.buildSlice,run_underlying ht,run_sizeOf hsz,Instr.fill,newRow,Array.range_zero']
theorem uZ {base:Nat} {e:TypeId} {sz n:Nat} {v:Value} {xs:List Value} (h:w.ownsRow base e sz v n xs):∃A c,v= .slice A n c∧n≤c∧n≤maxLen:=by
 rcases h.2 with ⟨rfl,rfl⟩|⟨g,cap,cur,rfl,_,_,h1,h2,_⟩
 · exact ⟨_,_,rfl,Nat.le_refl _,Nat.zero_le _⟩
 · exact ⟨_,_,rfl,h1,Nat.le_trans h1 h2⟩
theorem jz {base:Nat} {e:TypeId} {sz n:Nat} {v:Value} {xs:List Value} (h:w.ownsRow base e sz v n xs) (k:Nat) (hk:v.ownBlock=some k):base≤k∧k<w.heap.size:=by
 rcases h.2 with ⟨rfl,rfl⟩|⟨g,cap,cur,rfl,h1,h2,_⟩
 · cases hk
 · cases hk
   refine ⟨h1,?_⟩
   rcases Nat.lt_or_ge g w.heap.size with h|h
   · exact h
   · rw [Array.getElem?_eq_none h] at h2;cases h2
theorem mc {base:Nat} {e:TypeId} {sz n:Nat} {v:Value} {xs:List Value} (h:w.ownsRow base e sz v n xs) (hb:Below w.heap.size w w'):w'.ownsRow base e sz v n xs:=by
 obtain ⟨h1,h2⟩:=h;refine ⟨h1,?_⟩
 rcases h2 with h2|⟨g,cap,cur,hv,hg,hh,r⟩
 · exact .inl h2
 · refine .inr ⟨g,cap,cur,hv,hg,?_,r⟩
   have hlt:g<w.heap.size:=by
    rcases Nat.lt_or_ge g w.heap.size with h|h
    · exact h
    · rw [Array.getElem?_eq_none h] at hh;cases hh
   exact (hb.block g hlt).trans hh
theorem yv (l:List UInt8):(jb l).length=l.length:=by simp [jb]
theorem so {x:Operand} {t s e:TypeId} {A:Option Addr} {n c:Nat} {l:List UInt8} (ht:P.underlying t=some (.slice e)) (he:P.underlying e=some (.int .u8)) (hs:P.underlying s=some .string) (hx:ev env x=some (.slice A n c)) (hr:Rd w 1 A n (jb l)):Ld P N D env w (.convert t s x) ty (str l):=fun a ha dst pos af g=>by
 have hn:n=l.length:=by have:=hr.1;rw [yv] at this;omega
 subst hn
 have key:(convert t s (.slice A l.length c)).run P w= .ok (str l) w:=by
  rw [run_convert_bytes_string w t s e A l.length c ht he hs]
  cases A with
  |none=>
   have:l= []:=by
    rcases Nat.eq_zero_or_pos l.length with h0|h0
    · exact List.eq_nil_of_length_eq_zero h0
    · obtain ⟨p,e,_⟩:=hr.2 (by rw [yv];exact h0);cases e
   subst this;simp [Conv.bytesToString,str,ByteArray.empty,ByteArray.emptyWithCapacity];rfl
  |some p=>
   have hl:(loadCells p l.length).run P w= .ok ((l.map fun c=>(c.toNat:Int)).map (Value.int .u8)).toArray w:=by
    have h1:(l.map fun c=>(c.toNat:Int)).map (Value.int .u8)=jb l:=by simp [jb]
    rw [h1]
    have:=run_loadCells_list (P:=P) w p (jb l) (fun j v hj=>by
     have hlt:0<(jb l).length:=by
      rcases Nat.lt_or_ge j (jb l).length with h|h
      · omega
      · rw [List.getElem?_eq_none h] at hj;cases hj
     obtain ⟨p',e,hc⟩:=hr.2 hlt
     cases e
     exact hc j v hj)
    rwa [yv] at this
   rw [run_bytesToString w p l.length c _ hl,foldl_push_bytes]
   have h2:((l.map fun c=>(c.toNat:Int)).map fun n=>UInt8.ofNat n.toNat)=l:=by
    rw [List.map_map]
    conv=>rhs;rw [←List.map_id l]
    apply List.map_congr_left
    intro c _;simp
   rw [h2];simp [str,ByteArray.empty,ByteArray.emptyWithCapacity]
   rfl
 simp [execOp,ha.eval hx,key]
end
end Go.Bw
namespace Go.Bw
open Go.RowKit
set_option linter.unusedVariables false
set_option linter.unusedSimpArgs false
def Cw (w:World):World→Prop:=fun w'=>Below w.heap.size w w'
def Wy (P:Program) (ops:Array Oper) (w:World) (Q:Exit→Act→World→Prop) (l:List Oper) (N:Nat) (D:List Deferred) (env:eR):Prop:=
 ∀a,Ok N D env a→wpQuiet P ops (Cw w) (fun a'=>∀w',Cw w w'→Q .normal a' w') l a
section
variable {P:Program} {N:Nat} {D:List Deferred} {env env':eR} {a:Act} {w w':World} {Q:Exit→Act→World→Prop}
variable {ops:Array Oper} {rest:List Oper} {d:Nat} {op:Op} {ty:TypeId} {pos:String} {af:Array Edge}
theorem Ap {id:Nat} {l:List Oper} (hm:P.follows .mixedOrders=true) (hB:Region.lexB .any l.toArray=true) (h:Wy P l.toArray w Q l N D env):Wc P Q (.region id l.toArray true) N D env w:=fun a ha=>
 wp_region_quiet (C:=Cw w) hm hB (Below.drew (Below.refl _ _)) (by simpa using h a ha)
theorem qD (h:∀w',Below w.heap.size w w'→Wq Q .normal N D env w'):Wy P ops w Q [] N D env:=fun a ha=>wpQuiet_nil fun w' hw=>h w' hw a ha
theorem Gt {v:Value} (hd:Nat.blt d N=true) (hr:∀w',Below w.heap.size w w'→∀a,Ok N D env a→Oper.quietUpon P (Cw w) w' v ((execOp a.eval ⟨some d,op,ty,pos,af,none⟩).run P w')) (h:Wy P ops w Q rest N D ((d,v) :: env)):Wy P ops w Q (⟨some d,op,ty,pos,af,none⟩ :: rest) N D env:=fun a ha=>
 wpQuiet_step fun K hK=>by
  simp only [Region.wanted,if_true];exact ⟨v,fun w' hw=>hr w' hw a ha,hK _ (h _ (ha.put hd v))⟩
theorem dh {v:Value} (hy:Yl P N D env op ty v) (hd:Nat.blt d N=true) (h:Wy P ops w Q rest N D ((d,v) :: env)):Wy P ops w Q (⟨some d,op,ty,pos,af,none⟩ :: rest) N D env:=
 Gt hd (fun w' _ a ha=>by rw [hy a ha w'];exact ⟨rfl,rfl⟩) h
theorem oq {v:Value} (hy:∀w',Below w.heap.size w w'→Ld P N D env w' op ty v) (hd:Nat.blt d N=true) (h:Wy P ops w Q rest N D ((d,v) :: env)):Wy P ops w Q (⟨some d,op,ty,pos,af,none⟩ :: rest) N D env:=
 Gt hd (fun w' hw a ha=>by rw [hy w' hw a ha];exact ⟨rfl,rfl⟩) h
theorem Ef {x:Operand} {f:FuncId} {xs:Array Operand} {ts:Array TypeId} {l c:Array Value} {vs:List Value} {v:Value} (hf:bB P f) (hx:ev env x=some (.func (.func f) l c)) (hxs:mm env xs.toList=some vs)
 (hc:∀w',Below w.heap.size w w'→bx P f (l.toList++vs++c.toList) w' fun u w''=>u=v∧Below w'.heap.size w' w'') (hd:Nat.blt d N=true) (h:Wy P ops w Q rest N D ((d,v) :: env)):
 Wy P ops w Q (⟨some d,.call ⟨.value x,xs,ts⟩,ty,pos,af,none⟩ :: rest) N D env:=
 Gt hd (fun w' hw a ha=>by
  have hargs:xs.map a.eval=vs.toArray:=AY ha hxs
  have h1:(l.toList++vs++c.toList).toArray=l++vs.toArray++c:=by simp
  have hc':=hc w' hw
  unfold bx at hc'
  rw [h1] at hc'
  simp only [execOp,resolve,ha.eval hx,hargs,Deferred.ofValue,Sem.run_bind,Sem.run_pure,Result.andThen_ok,invoke,MH hf]
  exact ⟨rfl,hc'.mono fun e w'' ⟨u,he,hu,hb⟩=>⟨by rw [he,hu],Below.trans hw (hb.mono hw.size)⟩⟩) h
theorem ix {g:Nat} {b t:Bool} {s:Nat} {dst:Option Tmp} (hs:(ops[g]?).bind (·.dst)=some s) (hb:lk env s=some (.bool t)) (e:t=b)
 (h:Wy P ops w Q (⟨dst,op,ty,pos,af,none⟩ :: rest) N D env):Wy P ops w Q (⟨dst,op,ty,pos,af,some (g,b)⟩ :: rest) N D env:=fun a ha=>by
 subst e
 have h1:=h a ha
 unfold wpQuiet at h1 ⊢
 have hy:yielded ops a.tmps g=some t:=by
  unfold yielded;rw [hs];show (match a.tmps[s]? with|some (.bool b)=>some b|_=>none)=some t;rw [ha.get s _ hb]
 simp only [Region.wanted,if_true] at h1
 simp only [Region.wanted,hy,beq_self_eq_true,if_true]
 exact h1
theorem ef {g:Nat} {b c c':Bool} {s:Nat} (hs:(ops[g]?).bind (·.dst)=some s) (hb:lk env s=some (.bool c)) (e:c=c') (hne:(c'==b)=false) (hd:Nat.blt d N=true)
 (h:Wy P ops w Q rest N D ((d,undef) :: env)):Wy P ops w Q (⟨some d,op,ty,pos,af,some (g,b)⟩ :: rest) N D env:=fun a ha=>by
 subst e
 unfold wpQuiet
 have hy:yielded ops a.tmps g=some c:=by
  unfold yielded;rw [hs];show (match a.tmps[s]? with|some (.bool b)=>some b|_=>none)=some c;rw [ha.get s _ hb]
 have:(some c==some b)=false:=by simpa using hne
 simp only [Region.wanted,hy,this]
 exact h _ (ha.put hd undef)
theorem yK {g:Nat} {t:Bool} {s:Nat} (hs:(ops[g]?).bind (·.dst)=some s) (hb:lk env s=some (.bool t)) (hd:Nat.blt d N=true)
 (h1:t=true→Wy P ops w Q (⟨some d,op,ty,pos,af,none⟩ :: rest) N D env) (h2:t=false→Wy P ops w Q rest N D ((d,undef) :: env)):Wy P ops w Q (⟨some d,op,ty,pos,af,some (g,true)⟩ :: rest) N D env:=by
 cases t
 · exact ef hs hb rfl rfl hd (h2 rfl)
 · exact ix hs hb rfl (h1 rfl)
theorem bx.quiet {f:FuncId} {args:List Value} {v:Value} (h:bx P f args w fun u w'=>u=v∧w'=w):bx P f args w fun u w'=>u=v∧Below w.heap.size w w':=
 h.mono fun _ _ ⟨e,hw⟩=>⟨e,by rw [hw];exact Below.refl _ _⟩
end
end Go.Bw
namespace Go.Bw
open Go.RowKit
set_option linter.unusedVariables false
set_option linter.unusedSimpArgs false
def ak (w:World) (g:Nat) (t:TypeId) (cs:List Value):Prop:=w.heap[g]? =some (.cells cs.toArray t (0,0))
theorem ak.lt {w:World} {g:Nat} {t:TypeId} {cs:List Value} (h:ak w g t cs):g<w.heap.size:=by
 rcases Nat.lt_or_ge g w.heap.size with h1|h1
 · exact h1
 · unfold ak at h;rw [Array.getElem?_eq_none h1] at h;cases h
theorem ak.new (w:World) (t:TypeId) (cs:List Value):ak (w.alloc (.cells cs.toArray t)) w.heap.size t cs:=by
 unfold ak;show (w.heap.push _)[w.heap.size]? =_;simp
theorem ak.below {w w':World} {g:Nat} {t:TypeId} {cs:List Value} (h:ak w g t cs) (hb:Below w.heap.size w w'):ak w' g t cs:=(hb.block g h.lt).trans h
theorem uf (g j:Nat):(⟨g,0,none⟩:Addr).add j=⟨g,j,none⟩:=by unfold Addr.add;split<;>simp_all
theorem ak.cell {w:World} {g:Nat} {t:TypeId} {cs:List Value} (h:ak w g t cs) (j:Nat):w.cell? ⟨g,j,none⟩=cs[j]? :=by
 unfold ak at h;simp [World.cell?,h]
theorem ak.at {w:World} {g:Nat} {t:TypeId} {cs:List Value} (h:ak w g t cs) {j:Nat} {v:Value} (hv:cs[j]? =some v):w.cell? ((⟨g,0,none⟩:Addr).add j)=some v:=by
 rw [uf,h.cell,hv]
theorem ak.frozen {w:World} {g:Nat} {t:TypeId} {cs:List Value} (h:ak w g t cs) (j:Nat):w.frozen? ⟨g,j,none⟩=false:=by
 unfold ak at h;simp [World.frozen?,h]
theorem ak.grown {w w':World} {g:Nat} {t:TypeId} {cs:List Value} (h:ak w g t cs) {row:Option Nat} (hg:w.grownBy w' row) (hne:some g≠row):ak w' g t cs:=(hg.block g h.lt hne).trans h
theorem ak.setRow {w:World} {g:Nat} {t:TypeId} {cs cs':List Value} (h:ak w g t cs):ak (w.setRow g cs'.toArray) g t cs':=setRow_heap w g _ _ t _ h
theorem ak.rd {w:World} {g:Nat} {t:TypeId} {cs:List Value} (h:ak w g t cs) (n sz:Nat) (hl:cs.length=n * sz):Rd w sz (some ⟨g,0,none⟩) n cs:=⟨hl,fun _=>⟨_,rfl,fun j u hu=>h.at hu⟩⟩
section
variable {P:Program} {N:Nat} {D:List Deferred} {env env':eR} {a:Act} {w w':World} {Q:Exit→Act→World→Prop}
variable {ops:Array Oper} {rest:List Oper} {d:Nat} {op:Op} {ty:TypeId} {pos:String} {af:Array Edge}
theorem acQ {e:TypeId} {z:Value} (hz:(P.info? e).bind (·.zero)=some z):Mk P N D env w (.alloc e) ty (.pointer (some ⟨w.heap.size,0,none⟩)) (w.alloc (.cells z.cells e)):=fun a ha dst pos af g=>by
 obtain ⟨i,hi,hz'⟩:=Option.bind_eq_some_iff.1 hz;simp [execOp,Instr.alloc,zeroValue,typeInfo,hi,hz',newVar,newRow]
theorem aej {x y:Operand} {t e:TypeId} {g:Nat} {old cs:List Value} (hs:(P.info? t).map (·.size)=some cs.length) (hx:ev env x=some (.pointer (some ⟨g,0,none⟩))) (hy:ev env y=some (.agg cs.toArray)) (hb:ak w g e old) (ho:old.length=cs.length) (h1:cs.all (·.oneCell')=true):
 St P N D env w (.store t x y) ty (w.setRow g cs.toArray):=fun a ha dst pos af g'=>by
 have:=run_storeVar_row (P:=P) w g e t old.toArray cs.toArray hb (by simpa using hs) (by simpa using ho) (by simpa using h1)
 simp [execOp,ha.eval hx,ha.eval hy,Instr.storeAt,Instr.sureAddr,this]
theorem aP {x:Operand} {t:TypeId} {i:Nat} {p q:Addr} (hr:∀w,(Instr.fieldAt t (.pointer (some p)) i).run P w= .ok (.pointer (some q)) w) (hx:ev env x=some (.pointer (some p))):Yl P N D env (.fieldAddr t x i) ty (.pointer (some q)):=fun a ha w dst pos af g=>by
 simp [execOp,ha.eval hx,hr]
theorem eT {t:TypeId} {fs:Array Field} {f:Field} {i sz:Nat} (ht:P.underlying t=some (.struct fs)) (hf:fs[i]? =some f) (hs:(P.info? f.type).map (·.size)=some (sz+1)) (p:Addr) (w:World):(Instr.fieldAt t (.pointer (some p)) i).run P w= .ok (.pointer (some (p.add f.offset))) w:=by
 obtain ⟨ie,hi2,hsz⟩:=Option.map_eq_some_iff.1 hs;simp [Instr.fieldAt,run_underlying ht,hf,Instr.sureAddr,fieldPlace,sizeOf,typeInfo,hi2,hsz]
def zJ (cs:List Value) (off:Nat) (vs:List Value):List Value:=cs.take off++vs++cs.drop (off+vs.length)
def EO (pl:List (Nat×Nat)):List Value→List (Nat×Value)→List Value
 |cs,[]=>cs
 |cs,(i,v) :: r=>EO pl (zJ cs (pl.getD i (0,0)).1 v.cells.toList) r
def EP (pl:List (Nat×Nat)) (n:Nat):List (Nat×Value)→Bool
 | []=>true
 |(i,v) :: r=>(Nat.blt i pl.length)&&(Nat.beq v.cells.size (pl.getD i (0,0)).2)&&(Nat.ble ((pl.getD i (0,0)).1+v.cells.size) n)&&EP pl n r
theorem adF {cs vs:List Value} {off:Nat} (h:off+vs.length≤cs.length):(zJ cs off vs).length=cs.length:=by simp [zJ];omega
theorem Ps (pl:List (Nat×Nat)):∀(ps:List (Nat×Value)) (cs:List Value),EP pl cs.length ps=true→Instr.fill (pl.toArray[·]?) cs.toArray ps=some (EO pl cs ps).toArray
 | [],cs,_=>rfl
 |(i,v) :: r,cs,h=>by
  simp only [EP,Bool.and_eq_true] at h;obtain ⟨⟨⟨h1,h2⟩,h3⟩,h4⟩:=h;have hi:i<pl.length:=Nat.le_of_ble_eq_true h1;have h2':=beq_eq h2;have h3':=Nat.le_of_ble_eq_true h3;have hg:pl.toArray[i]? =some (pl.getD i (0,0)):=by simp [List.getD,hi]
  unfold Instr.fill;rw [hg];have hcond:((decide (v.cells.size≠(pl.getD i (0,0)).2))||decide ((pl.getD i (0,0)).1+v.cells.size>cs.toArray.size))=false:=by simp [h2'] at h3' ⊢;omega
  have hL:(v.cells.zipIdx.foldl (fun X (p:Value×Nat)=>X.setIfInBounds ((pl.getD i (0,0)).1+p.2) p.1) cs.toArray)=(zJ cs (pl.getD i (0,0)).1 v.cells.toList).toArray:=by
   apply Array.ext'
   rw [←Array.foldl_toList,Array.toList_zipIdx];have:=MO v.cells.toList 0 (pl.getD i (0,0)).1 cs.toArray (by simpa using h3')
   simpa [zJ] using this
  generalize hpl:pl.getD i (0,0)=q at *
  obtain ⟨off,sz⟩:=q;simp only [hcond];have:=Ps pl r (zJ cs off v.cells.toList) (by rw [adF (by simpa using h3')];exact h4);simp only [EO,hpl];rw [←this,←hL]
  rfl
theorem MJ {α β:Type} {f:α→Sem β} {x:α} {l:List α} {y:β} {ys:List β} (h1:(f x).run P w= .ok y w) (h2:(l.mapM f).run P w= .ok ys w):((x :: l).mapM f).run P w= .ok (y :: ys) w:=by
 rw [List.mapM_cons];simp only [Sem.run_bind,h1,h2,Result.andThen_ok,Sem.run_pure]
theorem SC {α β:Type} {f:α→Sem β} {l:List α} {ys:List β} (h:(l.mapM f).run P w= .ok ys w):(l.toArray.mapM f).run P w= .ok ys.toArray w:=by
 rw [List.mapM_toArray];simp only [map_eq_pure_bind,Sem.run_bind,h,Result.andThen_ok,Sem.run_pure]
theorem cC {t:TypeId} {fs:Array Field} {parts:Array (Nat×Operand)} {ps:List (Nat×Value)} {pl:List (Nat×Nat)} {z cs:List Value} (ht:P.underlying t=some (.struct fs)) (hz:(P.info? t).bind (·.zero)=some (.agg z.toArray))
 (hpl:(fs.toList.mapM fun f=>(P.info? f.type).map fun i=>(f.offset,i.size))=some pl) (hp:ux env parts.toList=some ps) (hfit:EP pl z.length ps=true) (hcs:EO pl z ps=cs):Yl P N D env (.build t parts) ty (.agg cs.toArray):=fun a ha w dst pos af g=>by
 have h0:=Pa ha hp
 obtain ⟨i,hi,hz'⟩:=Option.bind_eq_some_iff.1 hz
 have hm:∀(l:List Field) (pl:List (Nat×Nat)),(l.mapM fun f=>(P.info? f.type).map fun i=>(f.offset,i.size))=some pl→(l.mapM (m:=Sem) fun f=>do pure (f.offset,←sizeOf f.type)).run P w= .ok pl w:=by
  intro l
  induction l with
  |nil=>intro pl h;simp at h;subst h;rfl
  |cons f l ih=>
   intro pl h;simp only [List.mapM_cons,Option.bind_eq_bind,Option.bind_eq_some_iff,Option.pure_def,Option.some.injEq,Option.map_eq_some_iff] at h;obtain ⟨y,⟨i,hi,rfl⟩,ys,h2,rfl⟩:=h;exact MJ (by simp [sizeOf,typeInfo,hi]) (ih ys h2)
 have hm2:(fs.mapM (m:=Sem) fun f=>do pure (f.offset,←sizeOf f.type)).run P w= .ok pl.toArray w:=SC (l:=fs.toList) (hm fs.toList pl hpl)
 subst hcs
 have hf:=Ps pl ps z hfit
 have hzr:(zeroValue t).run P w= .ok (.agg z.toArray) w:=by simp [zeroValue,typeInfo,hi,hz']
 simp only [execOp,h0,Instr.build,Sem.run_bind,hzr,Result.andThen_ok,run_underlying ht,hm2,Value.cells,hf,Sem.run_pure]
inductive vj (P:Program) (env:eR) (w:World):List ResultVar→List Value→Prop
 |nil:vj P env w [] []
 |tmp {t:Tmp} {v:Value} {rs:List ResultVar} {vs:List Value} (h:lk env t=some v) (hr:vj P env w rs vs):vj P env w (.tmp t :: rs) (v :: vs)
 |cell {a:Tmp} {t:TypeId} {p:Addr} {v:Value} {rs:List ResultVar} {vs:List Value} (h:lk env a=some (.pointer (some p))) (hl:(loadVar t p).run P w= .ok v w) (hr:vj P env w rs vs):vj P env w (.cell a t :: rs) (v :: vs)
def RQ:List Value→Value
 | [v]=>v
 |vs=> .tuple vs.toArray
theorem MK {a:Act} (ha:Ok N D env a):∀{rs:List ResultVar} {vs:List Value},vj P env w rs vs→
 (rs.mapM (m:=Sem) fun| .tmp t=>pure (a.tmps.getD t undef)| .cell x t=>do loadVar t (←asAddr (a.tmps.getD x undef))).run P w= .ok vs w
 |_,_,.nil=>rfl
 |_,_,.tmp h hr=>MJ (by show (pure (a.tmps.getD _ undef):Sem Value).run P w=_;rw [ha.getD h];rfl) (MK ha hr)
 |_,_,.cell h hl hr=>MJ (by simp only [ha.getD h,asAddr,Sem.run_bind,Sem.run_pure,Result.andThen_ok,hl]) (MK ha hr)
theorem bQ {fn:Func} {R:Ending→World→Prop} {rs:List ResultVar} {vs:List Value} (hr:fn.results=rs.toArray) (h:vj P env w rs vs) (hR:R (.returned (RQ vs)) w):Wq (bodyPost P fn R) .ret N [] env w:=fun a ha=>
 ⟨ha.defers,RQ vs,by
  unfold results
  rw [hr]
  have:=SC (MK ha h)
  rw [Sem.run_bind]
  refine (congrArg (fun r:Result (Array Value)=>r.andThen _) this).trans ?_
  match vs with
  | []=>rfl
  | [v]=>rfl
  |v :: u :: r=>rfl,hR⟩
theorem bP {t:TypeId} {fs:Array Field} {p:Addr} {cs:List Value} (ht:P.underlying t=some (.struct fs)) (hs:(P.info? t).map (·.size)=some cs.length) (hc:∀(j:Nat) (u:Value),cs[j]? =some u→w.cell? (p.add j)=some u):(loadVar t p).run P w= .ok (.agg cs.toArray) w:=by
 obtain ⟨i,hi,hsz⟩:=Option.map_eq_some_iff.1 hs;have h5:(sizeOf t).run P w= .ok cs.length w:=by simp [sizeOf,typeInfo,hi,hsz]
 have h6:=run_loadCells_list (P:=P) w p cs hc;simp [loadVar,isAgg,run_underlying ht,h5,h6]
end
end Go.Bw
namespace Go.Bw
open Go.RowKit
set_option linter.unusedVariables false
set_option linter.unusedSimpArgs false
section
variable {P:Program} {N:Nat} {D:List Deferred} {env env':eR} {a:Act} {w w':World} {Q:Exit→Act→World→Prop}
variable {ops:Array Oper} {rest:List Oper} {d:Nat} {op:Op} {ty:TypeId} {pos:String} {af:Array Edge}
theorem FM (w:World) (o:Obj):Below w.heap.size w (w.alloc o):=(Below.refl _ _).alloc (Nat.le_refl _) _
theorem gp {x:Operand} {t:TypeId} {v:Value} (hx:ev env x=some v) (hd:Nat.blt d N=true)
 (h:∀g w',w.heap.size≤g→ak w' g t v.cells.toList→Below w.heap.size w w'→Wl P ops Q rest N D ((d,.pointer (some ⟨g,0,none⟩)) :: env) w'):Wl P ops Q (⟨some d,.box t x,ty,pos,af,none⟩ :: rest) N D env w:=
 oo (acR hx) hd (h _ _ (Nat.le_refl _) (ak.new w t v.cells.toList) (FM _ _))
theorem bT {e:TypeId} {z:Value} (hz:(P.info? e).bind (·.zero)=some z) (hd:Nat.blt d N=true)
 (h:∀g w',w.heap.size≤g→ak w' g e z.cells.toList→Below w.heap.size w w'→Wl P ops Q rest N D ((d,.pointer (some ⟨g,0,none⟩)) :: env) w'):Wl P ops Q (⟨some d,.alloc e,ty,pos,af,none⟩ :: rest) N D env w:=
 oo (acQ hz) hd (h _ _ (Nat.le_refl _) (ak.new w e z.cells.toList) (FM _ _))
theorem cz {t e:TypeId} {ln sz:Nat} {parts:Array (Nat×Operand)} {ps:List (Nat×Value)} {vs:List Value} (ht:P.underlying t=some (.slice e)) (hi:(P.info? e).map (fun i=>(i.zero.isSome,i.size))=some (true,sz))
 (hp:ux env parts.toList=some ps) (hl:ps=yd 0 vs) (hv:(vs.all fun v=>Nat.beq v.cells.size sz)=true) (hn:Nat.beq vs.length ln=true) (hb:Nat.ble (ln * sz) 16777216=true) (hd:Nat.blt d N=true)
 (h:∀g w',w.heap.size≤g→ak w' g e (vs.flatMap fun v=>v.cells.toList)→Below w.heap.size w w'→Wl P ops Q rest N D ((d,.slice (some ⟨g,0,none⟩) ln ln) :: env) w'):
 Wl P ops Q (⟨some d,.buildSlice t ln parts,ty,pos,af,none⟩ :: rest) N D env w:=
 oo (acS ht hi hp hl hv hn hb) hd (h _ _ (Nat.le_refl _) (ak.new w e _) (FM _ _))
theorem WC {t e:TypeId} (ht:P.underlying t=some (.slice e)) (hs:((P.info? e).map (·.size)).isSome=true) (hd:Nat.blt d N=true)
 (h:∀g w',w.heap.size≤g→ak w' g e []→Below w.heap.size w w'→Wl P ops Q rest N D ((d,.slice (some ⟨g,0,none⟩) 0 0) :: env) w'):
 Wl P ops Q (⟨some d,.buildSlice t 0 #[],ty,pos,af,none⟩ :: rest) N D env w:=
 oo (acT ht hs) hd (h _ _ (Nat.le_refl _) (ak.new w e []) (FM _ _))
theorem ak.own {g:Nat} {e:TypeId} {cs:List Value} (h:ak w g e cs) {base n sz:Nat} (hb:base≤g) (hl:cs.length=n * sz) (hm:n≤maxLen):w.ownsRow base e sz (.slice (some ⟨g,0,none⟩) n n) n cs:=
 ⟨hl,.inr ⟨g,n,cs.toArray,rfl,hb,h,Nat.le_refl _,hm,by simpa using hl,by simp [←hl]⟩⟩
theorem ak.over {w w':World} {g g':Nat} {t:TypeId} {cs:List Value} (h:ak w g t cs) (hg:w.grownBy w' (some g')) (hne:g≠g'):ak w' g t cs:=h.grown hg (fun e=>hne (Option.some.inj e))
theorem ba {x y:Operand} {t e:TypeId} {g:Nat} {old cs:List Value} (hs:(P.info? t).map (·.size)=some cs.length) (hx:ev env x=some (.pointer (some ⟨g,0,none⟩))) (hy:ev env y=some (.agg cs.toArray)) (hb:ak w g e old) (ho:old.length=cs.length) (h1:cs.all (·.oneCell')=true)
 (h:∀w',ak w' g e cs→w.grownBy w' (some g)→Wl P ops Q rest N D env w'):Wl P ops Q (⟨none,.store t x y,ty,pos,af,none⟩ :: rest) N D env w:=
 t6 (aej hs hx hy hb ho h1) (h _ hb.setRow ⟨rfl,rfl,rfl,by simp,fun k _ hne=>setRow_other w g k _ (fun e=>hne (by rw [e]))⟩)
theorem mZ {x y:Operand} {t e:TypeId} {g:Nat} {old v:Value} (ht:One P t) (hx:ev env x=some (.pointer (some ⟨g,0,none⟩))) (hy:ev env y=some v) (h1:v.oneCell'=true) (hb:ak w g e [old])
 (h:∀w',ak w' g e [v]→w.grownBy w' (some g)→Wl P ops Q rest N D env w'):Wl P ops Q (⟨none,.store t x y,ty,pos,af,none⟩ :: rest) N D env w:=by
 have hc:w.cell? ⟨g,0,none⟩=some old:=hb.cell 0
 have hf:=hb.frozen 0
 have e1:w.setCell ⟨g,0,none⟩ v=w.setRow g [v].toArray:=by
  rw [setCell_eq_setRow w g 0 [old].toArray e (0,0) v hb];simp
 refine t6 (Dm ht hx hy h1 hc hf) (h _ (e1 ▸ hb.setRow) ?_)
 · exact ⟨rfl,rfl,rfl,by simp [World.setCell],fun k _ hne=>Below.heap_setCell w _ _ k (fun e=>hne (by rw [e]))⟩
theorem cf {B g:Nat} {w0:World} (hb:Below B w0 w) (hg:w.grownBy w' (some g)) (hs:B≤w.heap.size) (hB:B≤g):Below B w0 w':=hb.grown hg hs fun k hk=>by cases hk;exact hB
def Wa (P:Program) (ops:Array Oper) (Q:Exit→Act→World→Prop) (S:World→Prop) (fuel:Nat) (listed:Array Bool) (N:Nat) (D:List Deferred) (env:eR) (w:World):Prop:=∀a,Ok N D env a→wpAnyH P .any ops Q S fuel listed a w
theorem jg {id:Nat} {l:List Oper} {n:Nat} (S:World→Prop) (listed:Array Bool) (hm:P.follows .mixedOrders=true) (hn:Nat.beq l.length n=true) (hl:Array.replicate n false=listed)
 (h:Wa P l.toArray Q S n listed N D env w.drew):Wc P Q (.region id l.toArray true) N D env w:=fun a ha=>by
 have hn':=beq_eq hn
 subst hl
 refine wp_region_held (S:=S) hm ?_
 have:=h a ha
 rw [show l.toArray.size=n by simpa using hn']
 exact this
def zR (ops:Array Oper) (l l':Array Bool) (i:Nat):Bool:=Region.noSelect ops&&Region.free .any ops l i&&(Region.ready .any ops l).contains i&&(l.setIfInBounds i true==l')
section
variable {S:World→Prop} {fuel:Nat} {l:Array Bool} {i:Nat}
theorem jf (h:∀w',Below w.heap.size w w'→Wa P ops Q S fuel l N D env w'):Wa P ops Q S fuel l N D env w.drew:=h _ (Below.refl _ _).drew
theorem bU {v:Value} (h:Yl P N D env op ty v):Ld P N D env w op ty v:=fun a ha dst pos af g=>h a ha w dst pos af g
theorem bC {v:Value} (l':Array Bool) (ho:ops[i]? =some ⟨some d,op,ty,pos,af,none⟩) (hc:zR ops l l' i=true) (hQ:∀c a w,Q (.panic c) (a.put (some d) v) w→Q (.panic c) a w) (hd:Nat.blt d N=true)
 (hy:∀w',S w'→Ld P N D env w' op ty v) (hS:S w) (h:Wa P ops Q S fuel l' N D ((d,v) :: env) w):Wa P ops Q S (fuel+1) l N D env w:=fun a ha=>by
 simp only [zR,Bool.and_eq_true,beq_iff_eq] at hc
 obtain ⟨⟨⟨h1,h2⟩,h3⟩,h4⟩:=hc
 subst h4
 exact wpAnyH_take ho h1 h2 h3 hQ (.inl ⟨by simp [Region.wanted],fun w' hw'=>hy w' hw' a ha _ _ _ _⟩) hS (h _ (ha.put hd v))
theorem N5 {s:Nat} {t:Bool} (hb:lk env s=some (.bool t)) (h1:t=true→Wa P ops Q S fuel l N D env w) (h2:t=false→Wa P ops Q S fuel l N D env w):Wa P ops Q S fuel l N D env w:=by
 cases t
 · exact h2 rfl
 · exact h1 rfl
theorem rT {g:Nat} {b t:Bool} {s:Nat} {v:Value} (l':Array Bool) (ho:ops[i]? =some ⟨some d,op,ty,pos,af,some (g,b)⟩) (hs:(ops[g]?).bind (·.dst)=some s) (hb:lk env s=some (.bool t)) (e:t=b) (hc:zR ops l l' i=true)
 (hQ:∀c a w,Q (.panic c) (a.put (some d) v) w→Q (.panic c) a w) (hd:Nat.blt d N=true) (hy:∀w',S w'→Ld P N D env w' op ty v) (hS:S w) (h:Wa P ops Q S fuel l' N D ((d,v) :: env) w):Wa P ops Q S (fuel+1) l N D env w:=fun a ha=>by
 simp only [zR,Bool.and_eq_true,beq_iff_eq] at hc
 obtain ⟨⟨⟨h1,h2⟩,h3⟩,h4⟩:=hc
 subst h4
 subst e
 refine wpAnyH_take ho h1 h2 h3 hQ (.inl ⟨?_,fun w' hw'=>hy w' hw' a ha _ _ _ _⟩) hS (h _ (ha.put hd v))
 have hy:yielded ops a.tmps g=some t:=by
  unfold yielded;rw [hs];show (match a.tmps[s]? with|some (.bool b)=>some b|_=>none)=some t;rw [ha.get s _ hb]
 simp [Region.wanted,hy]
theorem oT {g:Nat} {b t:Bool} {s:Nat} (l':Array Bool) (ho:ops[i]? =some ⟨some d,op,ty,pos,af,some (g,b)⟩) (hs:(ops[g]?).bind (·.dst)=some s) (hb:lk env s=some (.bool t)) (e:t= !b) (hc:zR ops l l' i=true)
 (hQ:∀c a w,Q (.panic c) (a.put (some d) undef) w→Q (.panic c) a w) (hd:Nat.blt d N=true) (hS:S w) (h:Wa P ops Q S fuel l' N D ((d,undef) :: env) w):Wa P ops Q S (fuel+1) l N D env w:=fun a ha=>by
 simp only [zR,Bool.and_eq_true,beq_iff_eq] at hc
 obtain ⟨⟨⟨h1,h2⟩,h3⟩,h4⟩:=hc
 subst h4
 subst e
 refine wpAnyH_take ho h1 h2 h3 hQ (.inr ⟨?_,rfl⟩) hS (h _ (ha.put hd undef))
 have hy:yielded ops a.tmps g=some (!b):=by
  unfold yielded;rw [hs];show (match a.tmps[s]? with|some (.bool b)=>some b|_=>none)=some (!b);rw [ha.get s _ hb]
 simp [Region.wanted,hy]
def Ws (P:Program) (ops:Array Oper) (Q:Exit→Act→World→Prop) (S:World→Prop) (fuel:Nat) (listed:Array Bool) (rs:List Nat) (N:Nat) (D:List Deferred) (env:eR) (w:World):Prop:=
 ∀i∈rs,∀a,Ok N D env a→wpOp P ops Q i (fun a' w'=>S w'∧wpAnyH P .any ops Q S fuel (listed.setIfInBounds i true) a' w') a w
theorem cM {rs:List Nat} (hr:Region.ready .any ops l=rs) (hne:rs.isEmpty=false) (h:Ws P ops Q S fuel l rs N D env w):Wa P ops Q S (fuel+1) l N D env w:=fun a ha=>
 wpAnyH_all hr (by rintro rfl;cases hne) (fun i hi=>h i hi a ha)
theorem cP:Ws P ops Q S fuel l [] N D env w:=fun _ h=>by cases h
theorem Uu {o:Oper} {K:Act→World→Prop} (ho:ops[i]? =some o) (h:wpList P ops (Exit.then K Q) [o] a w):wpOp P ops Q i K a w:=by
 unfold wpOp;rw [ho];unfold wpList at h;show if _ then _ else _
 split
 · rename_i hw
   rw [if_pos hw] at h
   rcases h with h|h
   · refine .inl ?_
     unfold Oper.wp at h ⊢
     generalize (execOp a.eval o).run P w=r at *
     cases r with
     |ok v w'=>
      cases v with
      |enter f args=>exact Calls.mono h fun e w'' he=>by cases e<;>exact he
      |_=>exact h
     |halt s w'=>cases s<;>exact h
   · exact .inr h
 · rename_i hw
   rw [if_neg hw] at h;exact h
theorem cO {o:Oper} {rs:List Nat} (l':Array Bool) (ho:ops[i]? =some o) (hl:(l.setIfInBounds i true==l')=true)
 (h:∀K:Act→World→Prop,(∀env' w',S w'→Wa P ops Q S fuel l' N D env' w'→∀a,Ok N D env' a→K a w')→Wl P ops (Exit.then K Q) [o] N D env w)
 (hs:Ws P ops Q S fuel l rs N D env w):Ws P ops Q S fuel l (i :: rs) N D env w:=fun j hj a ha=>by
 rcases List.mem_cons.1 hj with rfl|hj
 · have:l.setIfInBounds j true=l':=beq_iff_eq.1 hl
   subst this
   exact Uu ho (h _ (fun env' w' hS hA a' ha'=>⟨hS,hA a' ha'⟩) a ha)
 · exact hs j hj a ha
theorem cN {K:Act→World→Prop} {l':Array Bool} (hK:∀env' w',S w'→Wa P ops Q S fuel l' N D env' w'→∀a,Ok N D env' a→K a w') (hS:S w) (h:Wa P ops Q S fuel l' N D env w):Wq (Exit.then K Q) .normal N D env w:=fun a ha=>hK env w hS h a ha
theorem fB (hr:Region.ready .any ops l= []) (h:Wq Q .normal N D env w):Wa P ops Q S fuel l N D env w:=fun a ha=>wpAnyH_done hr (h a ha) fuel
end
theorem cR {c:Code} {X:Type} (E:X→eR) (I:X→World→Prop) (h:∀K:Act→World→Prop,(∀env' w' x,Sub (E x) env'→I x w'→∀a,Ok N D env' a→K a w')→Wc P (Exit.then K Q) c N D env w) (h2:∀x w',I x w'→Wq Q .normal N D (E x) w'):Wc P Q c N D env w:=fun a ha=>by
 have:=h (fun a' w'=>∃x,Ok N D (E x) a'∧I x w') (fun env' w' x hs hI a' ha'=>⟨x,ha'.sub hs,hI⟩) a ha;refine Code.wp_mono (fun e a' w' he=>?_) this
 cases e with
 |normal=>obtain ⟨x,hx,hI⟩:=he;exact h2 x w' hI a' hx
 |_=>exact he
theorem a7 {X:Type} {E:X→eR} {I:X→World→Prop} {K:Act→World→Prop} (hK:∀env' w' x,Sub (E x) env'→I x w'→∀a,Ok N D env' a→K a w') (x:X) (hs:Sub (E x) env) (hI:I x w):Wq (Exit.then K Q) .normal N D env w:=fun a ha=>hK env w x hs hI a ha
end
end Go.Bw
namespace Go.Bw
open Go.RowKit
set_option linter.unusedVariables false
set_option linter.unusedSimpArgs false
def fQ:Nat→List (List UInt8×Value)→List MapEntry
 |_,[]=> []
 |b,(k,v) :: r=>⟨str k,v,b⟩ :: fQ (b+1) r
def Mp (w:World) (g:Nat) (kv:List (List UInt8×Value)):Prop:=w.heap[g]? =some (.map (fQ 0 kv).toArray kv.length)
def mP (kv:List (List UInt8×Value)) (k:List UInt8):Option Value:=(kv.find? (·.1==k)).map (·.2)
theorem Mp.lt {w:World} {g:Nat} {kv} (h:Mp w g kv):g<w.heap.size:=by
 rcases Nat.lt_or_ge g w.heap.size with h1|h1
 · exact h1
 · unfold Mp at h;rw [Array.getElem?_eq_none h1] at h;cases h
theorem Mp.below {w w':World} {g:Nat} {kv} (h:Mp w g kv) (hb:Below w.heap.size w w'):Mp w' g kv:=(hb.block g h.lt).trans h
theorem Mp.grown {w w':World} {g:Nat} {kv} (h:Mp w g kv) {row:Option Nat} (hg:w.grownBy w' row) (hne:some g≠row):Mp w' g kv:=(hg.block g h.lt hne).trans h
theorem Mp.over {w w':World} {g g':Nat} {kv} (h:Mp w g kv) (hg:w.grownBy w' (some g')) (hne:g≠g'):Mp w' g kv:=h.grown hg (fun e=>hne (Option.some.inj e))
theorem O8:∀(b:Nat) (kv:List (List UInt8×Value)) (k:List UInt8) (v:Value),fQ b (kv++ [(k,v)])=fQ b kv++ [⟨str k,v,b+kv.length⟩]
 |b,[],k,v=>rfl
 |b,(k',v') :: r,k,v=>by
  show _ :: fQ (b+1) (r++ [(k,v)])=_ :: (fQ (b+1) r++_);rw [O8,List.length_cons,show b+1+r.length=b+(r.length+1) by omega]
theorem O7:∀(b:Nat) (kv:List (List UInt8×Value)),(fQ b kv).length=kv.length
 |b,[]=>rfl
 |b,_ :: r=>by show (fQ (b+1) r).length+1=_;rw [O7];rfl
theorem EH:∀(b:Nat) (kv:List (List UInt8×Value)) (e:MapEntry),e∈fQ b kv→∃i,i<kv.length∧e.born=b+i∧∃p,kv[i]? =some p∧e.key=str p.1∧e.val=p.2
 |b,[],e,h=>by cases h
 |b,(k,v) :: r,e,h=>by
  rcases List.mem_cons.1 h with rfl|h
  · exact ⟨0,by simp,rfl,_,rfl,rfl,rfl⟩
  · obtain ⟨i,h1,h2,p,h3,h4,h5⟩:=EH (b+1) r e h
    exact ⟨i+1,by simp;omega,by omega,p,by simpa using h3,h4,h5⟩
theorem IW:∀(b:Nat) (kv:List (List UInt8×Value)),(fQ b kv).map (·.born)=List.range' b kv.length
 |b,[]=>rfl
 |b,_ :: r=>by
  show b :: (fQ (b+1) r).map (·.born)=_;rw [IW (b+1) r,List.length_cons,List.range'_succ]
theorem aeI (k k':List UInt8):((⟨k.toArray⟩:ByteArray)==⟨k'.toArray⟩)=(k==k'):=by
 show (k.toArray==k'.toArray)=_;rw [Bool.eq_iff_iff,beq_iff_eq,beq_iff_eq];exact ⟨fun h=>by simpa using congrArg Array.toList h,fun h=>by rw [h]⟩
theorem Px (key:List UInt8):∀(kv:List (List UInt8×Value)) (b i:Nat),∃j,Instr.findNow .string (str key) (fQ b kv) i=some ((mP kv key).map fun v=>(j,v))
 | [],b,i=>⟨0,rfl⟩
 |(k,v) :: r,b,i=>by
  obtain ⟨j,hj⟩:=Px key r (b+1) (i+1);have hs:Instr.sameNow .string (str key) (str k)=some (key==k):=by show some (_==_)=_;rw [aeI]
  by_cases hk:key=k
  · subst hk
    refine ⟨i,?_⟩;show Instr.findNow .string (str key) (⟨str key,v,b⟩ :: fQ (b+1) r) i=_;unfold Instr.findNow;simp only [hs,beq_self_eq_true];simp [mP]
  · refine ⟨j,?_⟩
    show Instr.findNow .string (str key) (⟨str k,v,b⟩ :: fQ (b+1) r) i=_;unfold Instr.findNow;have h1:(key==k)=false:=by simpa using hk
    have h2:(k==key)=false:=by simpa using fun e=>hk e.symm
    simp only [hs,h1,hj];simp [mP,h2]
theorem MI {P:Program} {k:TypeId} (hk:P.underlying k=some .string) (key:List UInt8) (kv:List (List UInt8×Value)) (w:World):∃j,(Instr.findKey k (str key) (fQ 0 kv)).run P w= .ok ((mP kv key).map fun v=>(j,v)) w:=by
 obtain ⟨j,hj⟩:=Px key kv 0 0;refine ⟨j,?_⟩;simp only [Instr.findKey,Sem.run_bind,run_underlying hk,Result.andThen,hj]
 rfl
theorem Dl {P:Program} {k:TypeId} (hk:P.underlying k=some .string) (b:Bool) (key:List UInt8) (w:World):(Instr.checkKey b 10000 k (str key)).run P w= .ok () w:=by
 unfold Instr.checkKey;simp only [Sem.run_bind,run_underlying hk,Result.andThen,str]
 rfl
def It (w:World) (b g n:Nat) (seen:List Nat):Prop:=w.heap[b]? =some (.mapIter (some g) n seen.toArray n)
theorem It.lt {w:World} {b g n:Nat} {seen} (h:It w b g n seen):b<w.heap.size:=by
 rcases Nat.lt_or_ge b w.heap.size with h1|h1
 · exact h1
 · unfold It at h;rw [Array.getElem?_eq_none h1] at h;cases h
theorem It.below {w w':World} {b g n:Nat} {seen} (h:It w b g n seen) (hb:Below w.heap.size w w'):It w' b g n seen:=(hb.block b h.lt).trans h
theorem It.grown {w w':World} {b g n:Nat} {seen} (h:It w b g n seen) {row:Option Nat} (hg:w.grownBy w' row) (hne:some b≠row):It w' b g n seen:=(hg.block b h.lt hne).trans h
theorem It.over {w w':World} {b g g' n:Nat} {seen} (h:It w b g n seen) (hg:w.grownBy w' (some g')) (hne:b≠g'):It w' b g n seen:=h.grown hg (fun e=>hne (Option.some.inj e))
theorem Gv (kv:List (List UInt8×Value)):∀x∈((fQ 0 kv).toArray).toList,x.born<kv.length:=fun x hx=>by
 obtain ⟨i,h1,h2,_⟩:=EH 0 kv x (by simpa using hx);omega
theorem O4 {kv:List (List UInt8×Value)} {i:Nat} (hi:i<kv.length):∃e,(fQ 0 kv)[i]? =some e∧e.born=i:=by
 have hp:(fQ 0 kv)[i]? ≠none:=by rw [ne_eq,List.getElem?_eq_none_iff,O7];omega
 obtain ⟨e,he⟩:=Option.ne_none_iff_exists'.1 hp;refine ⟨e,he,?_⟩;have h2:((fQ 0 kv).map (·.born))[i]? =some e.born:=by rw [List.getElem?_map,he];rfl
 rw [IW,List.getElem?_range' hi] at h2;have:=Option.some.inj h2;omega
theorem run_next_at {P:Program} {w:World} {b g ty:Nat} {kv:List (List UInt8×Value)} {seen:List Nat} (hi:It w b g kv.length seen) (hm:Mp w g kv):
 ((∀i,i<kv.length→i∈seen)∧(Instr.next (.pointer (some ⟨b,0,none⟩)) false ty).run P w= .ok (.tuple #[.bool false]) w)∨
 ∃i p w',kv[i]? =some p∧i<kv.length∧i ∉ seen∧It w' b g kv.length (seen++ [i])∧w.grownBy w' (some b)∧(Instr.next (.pointer (some ⟨b,0,none⟩)) false ty).run P w= .ok (.tuple #[.bool true,str p.1,p.2]) w':=by
 have hi':w.heap[b]? =some (.mapIter (some g) kv.length seen.toArray kv.length):=hi
 have hm':w.heap[g]? =some (.map (fQ 0 kv).toArray kv.length):=hm
 have hlt:=hi.lt
 simp only [Instr.next,getObj,Sem.run_bind,Sem.run,hi',hm',Result.andThen,next_test_false seen.toArray (fQ 0 kv).toArray kv.length kv.length (Gv kv) (Nat.le_refl _),Bool.false_eq_true,if_false]
 have hmem:∀x∈(Array.filter (fun e=> !seen.toArray.contains e.born) (fQ 0 kv).toArray).toList,x∈fQ 0 kv∧x.born ∉ seen:=fun x hx=>by
  have h2:=mem_left (es:=(fQ 0 kv).toArray) (seen:=seen.toArray) hx;exact ⟨by simpa using h2.1,by simpa using h2.2⟩
 have hall:(Array.filter (fun e=> !seen.toArray.contains e.born) (fQ 0 kv).toArray).size=0→∀i,i<kv.length→i∈seen:=fun h0 i hi=>by
  obtain ⟨e,he,hb⟩:=O4 hi;have:=all_seen _ _ h0 e (by simpa using List.mem_of_getElem? he);rw [hb] at this
  simpa using this
 generalize Array.filter (fun e=> !seen.toArray.contains e.born) (fQ 0 kv).toArray=L at hmem hall ⊢
 have e1:L.filter (fun x=>decide (x.born<kv.length))=L:=Array.filter_eq_self.2 (fun x hx=>by
  have h2:=(hmem x (by simpa using hx)).1
  have:=Gv kv x (by simpa using h2)
  simpa using this)
 have e2:L.filter (fun x=>decide (x.born≥kv.length))= #[]:=by
  rw [Array.filter_eq_empty_iff];intro x hx;have h2:=(hmem x (by simpa using hx)).1;have:=Gv kv x (by simpa using h2);simp;omega
 simp only [e1,e2,Array.append_empty]
 by_cases h0:L.size=0
 · left
   refine ⟨hall h0,?_⟩
   have:L= #[]:=Array.eq_empty_of_size_eq_zero h0
   subst this
   simp [choose,Sem.run,Question.forced]
 · right
   have hne:L.isEmpty=false:=by simp [Array.isEmpty,h0]
   simp only [hne,Bool.false_eq_true,if_false,Array.empty_append,Array.size_map]
   have hch:∃(j:Nat) (w1:World),j<L.size∧(w1=w∨w1=w.drew)∧(choose (Question.mapNext L.size)).run P w= .ok j w1:=by
    by_cases hf:L.size≤1
    · exact ⟨0,w,by omega,.inl rfl,by simp [choose,Sem.run,Question.forced,hf]⟩
    · exact ⟨_,w.drew,Nat.mod_lt _ (by omega),.inr rfl,by
       simp only [choose,Sem.run,Question.forced,decide_eq_true_eq,hf,if_false,Question.cut]
       rfl⟩
   obtain ⟨j,w1,hj,hw1,hrun⟩:=hch
   have hh:w1.heap=w.heap:=by rcases hw1 with rfl|rfl<;>rfl
   obtain ⟨hin,hns⟩:=hmem L[j] (by simp)
   obtain ⟨i,hi2,hb2,p,hp,hk,hv⟩:=EH 0 kv L[j] hin
   have hbi:L[j].born=i:=by omega
   refine ⟨i,p,{w1 with heap:=w1.heap.setIfInBounds b (.mapIter (some g) kv.length (seen++ [i]).toArray kv.length)},hp,hi2,by rw [←hbi];exact hns,?_,⟨?_,?_,?_,?_,fun k hk hne=>?_⟩,?_⟩
   · unfold It
     show (w1.heap.setIfInBounds b _)[b]? =_
     rw [hh];simp [hlt]
   · rcases hw1 with rfl|rfl<;>rfl
   · rcases hw1 with rfl|rfl<;>rfl
   · rcases hw1 with rfl|rfl<;>rfl
   · show w.heap.size≤(w1.heap.setIfInBounds b _).size
     rw [hh];simp
   · show (w1.heap.setIfInBounds b _)[k]? =_
     have:b≠k:=fun e=>hne (by rw [e])
     rw [hh];simp [this]
   · have hset:(setObj b (.mapIter (some g) kv.length (seen.toArray.push L[j].born) kv.length)).run P w1= .ok () {w1 with heap:=w1.heap.setIfInBounds b (.mapIter (some g) kv.length (seen++ [i]).toArray kv.length)}:=by
      simp only [setObj,Sem.run,hh,hi',hbi,List.push_toArray]
     simp only [hrun,Array.getElem?_map,Array.getElem?_eq_getElem hj,Option.map_some,Sem.run_bind,hset,Result.andThen];rw [←hk,←hv]
     rfl
section
variable {P:Program} {N:Nat} {D:List Deferred} {env env':eR} {a:Act} {w w':World} {Q:Exit→Act→World→Prop}
variable {ops:Array Oper} {rest:List Oper} {d:Nat} {op:Op} {ty:TypeId} {pos:String} {af:Array Edge}
theorem Mp.new (w:World):Mp (w.alloc (.map #[] 0)) w.heap.size []:=by unfold Mp;show (w.heap.push _)[w.heap.size]? =_;simp;rfl
theorem acU {t:TypeId}:Mk P N D env w (.makeMap t none) ty (.map (some w.heap.size)) (w.alloc (.map #[] 0)):=fun a ha dst pos af g=>by
 simp [execOp,Instr.makeMap,newObj,Sem.run]
theorem vt {t:TypeId} (hd:Nat.blt d N=true) (h:∀g w',w.heap.size≤g→Mp w' g []→Below w.heap.size w w'→Wl P ops Q rest N D ((d,.map (some g)) :: env) w'):
 Wl P ops Q (⟨some d,.makeMap t none,ty,pos,af,none⟩ :: rest) N D env w:=
 oo acU hd (h _ _ (Nat.le_refl _) (Mp.new w) ((Below.refl _ _).alloc (Nat.le_refl _) _))
theorem aei {m i x:Operand} {t k e:TypeId} {g:Nat} {kv:List (List UInt8×Value)} {key:List UInt8} {v:Value} (ht:P.underlying t=some (.map k e)) (hk:P.underlying k=some .string) (hx:ev env m=some (.map (some g))) (hi:ev env i=some (str key)) (hv:ev env x=some v) (hm:Mp w g kv) (hn:mP kv key=none):
 ∃w',St P N D env w (.insert t m i x) ty w'∧Mp w' g (kv++ [(key,v)])∧w.grownBy w' (some g):=by
 refine ⟨{w with heap:=w.heap.setIfInBounds g (.map (fQ 0 (kv++ [(key,v)])).toArray (kv++ [(key,v)]).length)},fun a ha dst pos af g'=>?_,?_,⟨rfl,rfl,rfl,by simp,fun j hj hne=>?_⟩⟩
 · obtain ⟨j,hj⟩:=MI (P:=P) hk key kv w
   rw [hn] at hj
   have hm':w.heap[g]? =some (.map (fQ 0 kv).toArray kv.length):=hm
   simp [execOp,ha.eval hx,ha.eval hi,ha.eval hv,Instr.mapUpdate,run_underlying ht,getObj,Sem.run,hm',Dl hk,hj,setObj,O8]
 · unfold Mp
   have:=hm.lt
   show (w.heap.setIfInBounds g _)[g]? =_
   simp [this]
 · show (w.heap.setIfInBounds g _)[j]? =_
   have:g≠j:=fun e=>hne (by rw [e])
   simp [this]
theorem kw {m i x:Operand} {t k e:TypeId} {g:Nat} {kv:List (List UInt8×Value)} {key:List UInt8} {v:Value} (ht:P.underlying t=some (.map k e)) (hk:P.underlying k=some .string) (hx:ev env m=some (.map (some g))) (hi:ev env i=some (str key)) (hv:ev env x=some v) (hm:Mp w g kv) (hn:mP kv key=none)
 (h:∀w',Mp w' g (kv++ [(key,v)])→w.grownBy w' (some g)→Wl P ops Q rest N D env w'):Wl P ops Q (⟨none,.insert t m i x,ty,pos,af,none⟩ :: rest) N D env w:=by
 obtain ⟨w',h1,h2,h3⟩:=aei (N:=N) (D:=D) (ty:=ty) ht hk hx hi hv hm hn
 exact t6 h1 (h w' h2 h3)
theorem ack {x i:Operand} {t k e:TypeId} {g:Nat} {kv:List (List UInt8×Value)} {key:List UInt8} {z:Value} (ht:P.underlying t=some (.map k e)) (hk:P.underlying k=some .string) (hz:(P.info? e).bind (·.zero)=some z) (hx:ev env x=some (.map (some g))) (hi:ev env i=some (str key)) (hm:Mp w g kv):
 Ld P N D env w (.lookup t x i true) ty (.tuple #[(mP kv key).getD z,.bool (mP kv key).isSome]):=fun a ha dst pos af g'=>by
 obtain ⟨j,hj⟩:=MI (P:=P) hk key kv w
 have hm':w.heap[g]? =some (.map (fQ 0 kv).toArray kv.length):=hm
 obtain ⟨ie,hi2,hz'⟩:=Option.bind_eq_some_iff.1 hz
 cases hl:mP kv key with
 |none=>
  rw [hl] at hj;simp [execOp,ha.eval hx,ha.eval hi,Instr.lookup,run_underlying ht,getObj,Sem.run,hm',Dl hk,hj,zeroValue,typeInfo,hi2,hz']
 |some v=>
  rw [hl] at hj;simp [execOp,ha.eval hx,ha.eval hi,Instr.lookup,run_underlying ht,getObj,Sem.run,hm',Dl hk,hj]
theorem acV {x:Operand} {t k e:TypeId} {g:Nat} {kv:List (List UInt8×Value)} (ht:P.underlying t=some (.map k e)) (hx:ev env x=some (.map (some g))) (hm:Mp w g kv):
 Mk P N D env w (.range t x) ty (.pointer (some ⟨w.heap.size,0,none⟩)) (w.alloc (.mapIter (some g) kv.length #[] kv.length)):=fun a ha dst pos af g'=>by
 have hm':w.heap[g]? =some (.map (fQ 0 kv).toArray kv.length):=hm
 simp [execOp,ha.eval hx,Instr.range,run_underlying ht,getObj,Sem.run,hm',newObj]
theorem WG {x:Operand} {t k e:TypeId} {g:Nat} {kv:List (List UInt8×Value)} (ht:P.underlying t=some (.map k e)) (hx:ev env x=some (.map (some g))) (hm:Mp w g kv) (hd:Nat.blt d N=true)
 (h:∀b w',w.heap.size≤b→It w' b g kv.length []→Below w.heap.size w w'→Wl P ops Q rest N D ((d,.pointer (some ⟨b,0,none⟩)) :: env) w'):
 Wl P ops Q (⟨some d,.range t x,ty,pos,af,none⟩ :: rest) N D env w:=
 oo (acV ht hx hm) hd (h _ _ (Nat.le_refl _) (by unfold It;show (w.heap.push _)[w.heap.size]? =_;simp) ((Below.refl _ _).alloc (Nat.le_refl _) _))
theorem WE {x:Operand} {g:Nat} {kv:List (List UInt8×Value)} {seen:List Nat} {b:Nat} (hx:ev env x=some (.pointer (some ⟨b,0,none⟩))) (hi:It w b g kv.length seen) (hm:Mp w g kv) (hd:Nat.blt d N=true)
 (h0:(∀i,i<kv.length→i∈seen)→Wl P ops Q rest N D ((d,.tuple #[.bool false]) :: env) w)
 (h1:∀i p w',kv[i]? =some p→i<kv.length→i ∉ seen→It w' b g kv.length (seen++ [i])→w.grownBy w' (some b)→Wl P ops Q rest N D ((d,.tuple #[.bool true,str p.1,p.2]) :: env) w'):
 Wl P ops Q (⟨some d,.next x false,ty,pos,af,none⟩ :: rest) N D env w:=by
 rcases run_next_at (P:=P) (ty:=ty) hi hm with ⟨ha',hr⟩|⟨i,p,w',hp,hi2,hns,hI,hg,hr⟩
 · exact oo (fun a ha dst pos af g'=>by simp [execOp,ha.eval hx,hr]) hd (h0 ha')
 · exact oo (fun a ha dst pos af g'=>by simp [execOp,ha.eval hx,hr]) hd (h1 i p w' hp hi2 hns hI hg)
theorem aci {x:Operand} {g:Nat} {kv:List (List UInt8×Value)} {seen:List Nat} {b i:Nat} {p:List UInt8×Value} (hx:ev env x=some (.pointer (some ⟨b,0,none⟩))) (hI:It w b g kv.length (seen++ [i])) (hm:Mp w g kv) (hp:kv[i]? =some p):
 Ld P N D env w (.entry x) ty (.tuple #[str p.1,p.2]):=fun a ha dst pos af g'=>by
 have hi':w.heap[b]? =some (.mapIter (some g) kv.length (seen++ [i]).toArray kv.length):=hI
 have hm':w.heap[g]? =some (.map (fQ 0 kv).toArray kv.length):=hm
 have hi:i<kv.length:=(List.getElem?_eq_some_iff.1 hp).1
 obtain ⟨e,he,hb⟩:=O4 hi
 have hmem:e∈(fQ 0 kv):=List.mem_of_getElem? he
 obtain ⟨i',_,hb2,p',hp',hk,hv⟩:=EH 0 kv e hmem
 have:i'=i:=by omega
 subst this
 rw [hp] at hp';cases hp'
 have hf:(fQ 0 kv).toArray.find? (·.born==i')=some e:=by
  rw [←hb,←Array.find?_toList];exact find_born e _ (by rw [show ((fQ 0 kv).toArray).toList=fQ 0 kv by simp,IW];exact List.nodup_range') (by simpa using hmem)
 have hbk:(seen++ [i']).toArray.back? =some i':=by rw [←List.push_toArray,Array.back?_push]
 have hr:(Instr.entry (.pointer (some ⟨b,0,none⟩))).run P w= .ok (.tuple #[str p.1,p.2]) w:=by
  simp only [Instr.entry,getObj,Sem.run_bind,Sem.run,hi',hm',Result.andThen,hbk,bne_self_eq_false,Bool.false_eq_true,if_false,hf];rw [←hk,←hv];rfl
 simp [execOp,ha.eval hx,hr]
def Fu (n:Nat) (seen:List Nat):Nat:=((List.range n).filter (fun i=> !seen.contains i)).length
theorem acF {n i:Nat} {seen:List Nat} (hi:i<n) (hs:i ∉ seen):Fu n (seen++ [i])<Fu n seen:=by
 unfold Fu;have hm:i∈List.range n:=List.mem_range.2 hi
 revert hm
 generalize List.range n=l
 induction l with
 |nil=>intro h;cases h
 |cons x r ih=>
  intro h
  have hle:∀r:List Nat,(r.filter (fun j=> !(seen++ [i]).contains j)).length≤(r.filter (fun j=> !seen.contains j)).length:=fun r=>by
   induction r with
   |nil=>exact Nat.le_refl _
   |cons y r ih=>rw [List.filter_cons,List.filter_cons];by_cases hy:y∈seen<;>by_cases hyi:y=i<;>simp_all<;>omega
  rw [List.filter_cons,List.filter_cons];by_cases hx:x=i
  · subst hx
    have:=hle r;simp [hs] at this ⊢;omega
  · have hr:i∈r:=by rcases List.mem_cons.1 h with h|h;exact absurd h.symm hx;exact h
    have:=ih hr;by_cases hxs:x∈seen<;>simp [hxs,hx] at this ⊢<;>omega
def f6:Value→Bool| .nilIface=>true|_=>false
def Ak (v:Value):Prop:=v= .nilIface∨∃d p,v= .iface d p
theorem ag7 {x:Operand} {v:Value} {t u:TypeId} (h:P.underlying t=some (.interface (P.methodsAt t))) (hx:ev env x=some v) (hv:Ak v):Yl P N D env (.binOp .eql t x (.const .nilIface) u) ty (.bool (f6 v)):=fun a ha w dst pos af g=>by
 have he:a.eval (Operand.const Value.nilIface)= .nilIface:=rfl
 rcases hv with rfl|⟨d,p,rfl⟩
 · simp [execOp,ha.eval hx,he,eqGuard_nil_constR,run_eql_nil_nil w t h,f6]
 · simp [execOp,ha.eval hx,he,eqGuard_at_iface,run_eql_held_nil w t d p h,f6]
theorem DV {x:Operand} {v:Value} {t u:TypeId} (h:P.underlying t=some (.interface (P.methodsAt t))) (hx:ev env x=some v) (hv:Ak v):Yl P N D env (.binOp .neq t x (.const .nilIface) u) ty (.bool (!f6 v)):=fun a ha w dst pos af g=>by
 have he:a.eval (Operand.const Value.nilIface)= .nilIface:=rfl
 rcases hv with rfl|⟨d,p,rfl⟩
 · simp [execOp,ha.eval hx,he,eqGuard_nil_constR,run_neq_nil_nil w t h,f6]
 · simp [execOp,ha.eval hx,he,eqGuard_at_iface,run_neq_held_nil w t d p h,f6]
end
end Go.Bw
namespace Go.Bw
open Go.RowKit
set_option linter.unusedVariables false
set_option linter.unusedSimpArgs false
section
variable {P:Program} {N:Nat} {D:List Deferred} {env env':eR} {a:Act} {w w':World} {Q:Exit→Act→World→Prop}
variable {ops:Array Oper} {rest:List Oper} {d:Nat} {op:Op} {ty:TypeId} {pos:String} {af:Array Edge}
def pS (w:World) (b:Nat) (l:List UInt8) (i:Nat):Prop:=w.heap[b]? =some (.stringIter ⟨l.toArray⟩ i)
theorem pS.lt {b i:Nat} {l:List UInt8} (h:pS w b l i):b<w.heap.size:=by
 rcases Nat.lt_or_ge b w.heap.size with h1|h1
 · exact h1
 · unfold pS at h;simp [Array.getElem?_eq_none h1] at h
theorem WH {x:Operand} {t:TypeId} {l:List UInt8} (ht:P.underlying t=some .string) (hx:ev env x=some (str l)) (hd:Nat.blt d N=true)
 (h:∀b w',w.heap.size≤b→pS w' b l 0→Below w.heap.size w w'→Wl P ops Q rest N D ((d,.pointer (some ⟨b,0,none⟩)) :: env) w'):
 Wl P ops Q (⟨some d,.range t x,ty,pos,af,none⟩ :: rest) N D env w:=
 oo (v:= .pointer (some ⟨w.heap.size,0,none⟩)) (w':=w.iter ⟨l.toArray⟩ 0) (fun a ha dst pos af g=>by
  have h1:=run_range_string (P:=P) w t ⟨l.toArray⟩ ht
  have h2:(Instr.range t (str l)).run P w=_:=h1
  simp [execOp,ha.eval hx,h2]) hd (h _ _ (Nat.le_refl _) (World.iter_heap w _ 0) ((Below.refl _ _).alloc (Nat.le_refl _) _))
theorem WF {x:Operand} {l:List UInt8} {b i:Nat} (hx:ev env x=some (.pointer (some ⟨b,0,none⟩))) (hi:pS w b l i) (ha:∀c,c∈l→c.toNat<128) (hd:Nat.blt d N=true)
 (h0:¬i<l.length→Wl P ops Q rest N D ((d,.tuple #[.bool false]) :: env) w)
 (h1:i<l.length→∀w',pS w' b l (i+1)→w.grownBy w' (some b)→Wl P ops Q rest N D ((d,.tuple #[.bool true,.int .i64 (i:Int),.int .i32 ((l.getD i 0).toNat:Int)]) :: env) w'):
 Wl P ops Q (⟨some d,.next x true,ty,pos,af,none⟩ :: rest) N D env w:=by
 have hsz:(⟨l.toArray⟩:ByteArray).size=l.length:=pJ l
 by_cases hlt:i<l.length
 · have hs:i<(⟨l.toArray⟩:ByteArray).size:=by rw [hsz];exact hlt
   have he:(⟨l.toArray⟩:ByteArray)[i]'hs=l.getD i 0:=by
    have:(⟨l.toArray⟩:ByteArray)[i]'hs=l[i]:=by show l.toArray[i]=_;simp
    rw [this];simp [List.getD,List.getElem?_eq_getElem hlt]
   have hc:l.getD i 0∈l:=by simp [List.getD,List.getElem?_eq_getElem hlt]
   have hr:=Go.Lib.run_next_ascii_at (P:=P) w b ⟨l.toArray⟩ i ty hi hs (by rw [he];exact ha _ hc)
   rw [he] at hr
   exact oo (fun a ha dst pos af g'=>by simp [execOp,ha.eval hx,hr]) hd (h1 hlt _ (Go.Lib.iterAt_heap w b _ i (i+1) hi) ⟨rfl,rfl,rfl,by rw [Go.Lib.iterAt_size];exact Nat.le_refl _,fun k _ hk=>Go.Lib.iterAt_other w b k _ _ (fun e=>hk (by rw [e]))⟩)
 · have hr:=Go.Lib.run_next_end_at (P:=P) w b ⟨l.toArray⟩ i ty hi (by rw [hsz];exact hlt)
   exact oo (fun a ha dst pos af g'=>by simp [execOp,ha.eval hx,hr]) hd (h0 hlt)
end
theorem fV {P:Program} {N:Nat} {D:List Deferred} {env:eR} {w:World} {Q:Exit→Act→World→Prop} {ops:Array Oper} {rest:List Oper} {ty:TypeId} {pos:String} {af:Array Edge} {x y:Operand} {t e:TypeId} {g j:Nat} {cs:List Value} {v:Value} (ht:One P t) (hx:ev env x=some (.pointer (some ((⟨g,0,none⟩:Addr).add j)))) (hy:ev env y=some v) (h1:v.oneCell'=true) (hb:ak w g e cs) (hj:j<cs.length)
 (h:∀w',ak w' g e (cs.set j v)→w.grownBy w' (some g)→Wl P ops Q rest N D env w'):Wl P ops Q (⟨none,.store t x y,ty,pos,af,none⟩ :: rest) N D env w:=by
 have hc:w.cell? ((⟨g,0,none⟩:Addr).add j)=some cs[j]:=hb.at (List.getElem?_eq_getElem hj)
 have hf:w.frozen? ((⟨g,0,none⟩:Addr).add j)=false:=by rw [uf];exact hb.frozen j
 have e1:w.setCell ((⟨g,0,none⟩:Addr).add j) v=w.setRow g (cs.set j v).toArray:=by
  rw [uf,setCell_eq_setRow w g j cs.toArray e (0,0) v hb];simp
 refine t6 (Dm ht hx hy h1 hc hf) (h _ (e1 ▸ hb.setRow) ?_)
 exact ⟨rfl,rfl,rfl,by simp [World.setCell],fun k _ hne=>Below.heap_setCell w _ _ k (fun e=>hne (by rw [e,uf]))⟩
end Go.Bw
namespace Go.Bw
open Go.RowKit
set_option linter.unusedVariables false
set_option linter.unusedSimpArgs false
section
variable {P:Program} {N:Nat} {D:List Deferred} {env env':eR} {a:Act} {w w':World} {Q:Exit→Act→World→Prop} {K:Act→World→Prop}
variable {ops:Array Oper} {rest:List Oper} {d:Nat} {op:Op} {ty:TypeId} {pos:String} {af:Array Edge}
def D3 (R:Value→World→Prop) (X:List PanicEntry→World→Prop):Ending→World→Prop
 | .returned v,w=>R v w
 | .panicked c,w=>X c w
 | .outgrown,_=>False
def gC (P:Program) (f:FuncId) (args:List Value) (w:World) (R:Value→World→Prop) (X:List PanicEntry→World→Prop):Prop:=Calls P f args.toArray w (D3 R X)
theorem tZ {f:FuncId} {args:List Value} {R:Value→World→Prop} {X:List PanicEntry→World→Prop} (h:bx P f args w R):gC P f args w R X:=
 Calls.mono h fun e w' ⟨v,e1,hv⟩=>by subst e1;exact hv
theorem dQ {x:Operand} {f:FuncId} {xs:Array Operand} {ts:Array TypeId} {l c:Array Value} {vs:List Value} {R:Value→World→Prop} {X:List PanicEntry→World→Prop} (hf:bB P f) (hx:ev env x=some (.func (.func f) l c)) (hxs:mm env xs.toList=some vs)
 (hc:gC P f (l.toList++vs++c.toList) w R X) (hd:Nat.blt d N=true) (h:∀v w',R v w'→Wl P ops Q rest N D ((d,v) :: env) w') (hp:∀p w',X p w'→Wq Q (.panic p) N D env w'):
 Wl P ops Q (⟨some d,.call ⟨.value x,xs,ts⟩,ty,pos,af,none⟩ :: rest) N D env w:=
 N9 hf hx hxs (R:=D3 R X) (by
  have h1:(l.toList++vs++c.toList).toArray=l++vs.toArray++c:=by simp
  unfold gC at hc
  rw [h1] at hc;exact hc) hd (fun v w' hv=>h v w' hv) (fun p w' hv=>hp p w' hv) (fun w' hv=>hv)
theorem sO {x:Operand} {t:TypeId} {v:Value} {dst:Option Tmp} (hx:ev env x=some (.iface t v)) (h:Wq Q (.panic [{v:= .iface t v,recovered:=false}]) N D env w):
 Wl P ops Q (⟨dst,.panic x,ty,pos,af,none⟩ :: rest) N D env w:=fun a ha=>by
 unfold wpList
 simp only [Region.wanted,if_true]
 refine .inl ?_
 unfold Oper.wp
 have:(execOp a.eval ⟨dst,.panic x,ty,pos,af,none⟩).run P w= .halt (.panic (.iface t v)) w:=by simp [execOp,ha.eval hx,run_panic_iface]
 rw [this,Oper.upon_panic]
 exact h a ha
theorem ni {x:Operand} {cs:Array Value} {t:TypeId} {i:Nat} {v:Value} {fs:Array Field} {f:Field} (hu:P.underlying t=some (.struct fs)) (hf:fs[i]? =some f) (ho:One P f.type) (hx:ev env x=some (.agg cs)) (hv:cs[f.offset]? =some v):Yl P N D env (.field t x i) ty v:=fun a ha w dst pos af g=>by
 obtain ⟨d,h1,h2,h3⟩:=ho
 have h4:(isAgg f.type).run P w= .ok false w:=by
  cases d<;>simp_all [isAgg,run_underlying h1]
 simp [execOp,ha.eval hx,Instr.field,run_underlying hu,hf,asAgg,part,h4,hv]
end
def Kp (p:Nat) (w w':World):Prop:=w.grownBy w' (some p)
theorem Kp.refl (p:Nat) (w:World):Kp p w w:=World.grownBy.refl w _
theorem Kp.size {p:Nat} {w w':World} (h:Kp p w w'):w.heap.size≤w'.heap.size:=World.grownBy.size h
theorem Kp.trans {p:Nat} {a b c:World} (h:Kp p a b) (k:Kp p b c):Kp p a c:=
 ⟨k.os.trans h.os,k.tape.trans h.tape,k.output.trans h.output,Nat.le_trans h.size k.size,fun i hi hn=>(k.block i (Nat.lt_of_lt_of_le hi h.size) hn).trans (h.block i hi hn)⟩
theorem Below.kp {p:Nat} {w w':World} (h:Below w.heap.size w w'):Kp p w w':=⟨h.os,h.tape,h.output,h.size,fun k hk _=>h.block k hk⟩
theorem bp {p g:Nat} {w0 w w':World} (hb:Kp p w0 w) (hg:w.grownBy w' (some g)) (hB:w0.heap.size≤g∨g=p):Kp p w0 w':=
 ⟨hg.os.trans hb.os,hg.tape.trans hb.tape,hg.output.trans hb.output,Nat.le_trans hb.size hg.size,fun i hi hn=>(hg.block i (Nat.lt_of_lt_of_le hi hb.size) (fun e=>by cases e;rcases hB with h|h;(· omega);(· exact hn (by rw [h])))).trans (hb.block i hi hn)⟩
theorem Kp.below {p B:Nat} {w w':World} (h:Kp p w w') (hB:B≤p) (hs:B≤w.heap.size):Below B w w':=⟨h.os,h.tape,h.output,h.size,fun k hk=>h.block k (by omega) (fun e=>by cases e;omega)⟩
theorem ak.kp {p g:Nat} {e:TypeId} {cs:List Value} {w w':World} (h:ak w g e cs) (hk:Kp p w w') (hn:g≠p):ak w' g e cs:=h.grown hk (fun e=>hn (Option.some.inj e))
theorem Eg (q:Addr) (n:Nat):(q.add n).block=q.block:=by unfold Addr.add;split<;>rfl
theorem Yb {p:Nat} {a:Addr} {v:Value} {w w':World} (hk:Kp p w w') (h:w.cell? a=some v) (hn:a.block≠p):w'.cell? a=some v:=by
 have hb:=hk.block a.block (El h) (fun e=>hn (Option.some.inj e));unfold World.cell? at h ⊢;rw [hb];exact h
theorem Rd.kp {p sz n:Nat} {A:Option Addr} {xs:List Value} {w w':World} (h:Rd w sz A n xs) (hk:Kp p w w') (hn:∀q,A=some q→q.block≠p):Rd w' sz A n xs:=
 ⟨h.1,fun h0=>let ⟨q,e,hc⟩:=h.2 h0;⟨q,e,fun j u hu=>Yb hk (hc j u hu) (by rw [Eg];exact hn q e)⟩⟩
theorem Fs {p:Nat} {w0 w w':World} {r:Option Nat} (hb:Kp p w0 w) (hg:w.grownBy w' r) (h:∀k,r=some k→w0.heap.size≤k∨k=p):Kp p w0 w':=
 ⟨hg.os.trans hb.os,hg.tape.trans hb.tape,hg.output.trans hb.output,Nat.le_trans hb.size hg.size,fun i hi hn=>(hg.block i (Nat.lt_of_lt_of_le hi hb.size) (fun e=>by rcases h i e.symm with h|h;(· omega);(· exact hn (by rw [h])))).trans (hb.block i hi hn)⟩
theorem zE {p base:Nat} {e:TypeId} {sz:Nat} {v:Value} {n:Nat} {xs:List Value} {w w':World} (h:w.ownsRow base e sz v n xs) (hk:Kp p w w') (hp:p<base):w'.ownsRow base e sz v n xs:=
 World.ownsRow.kept h hk (by
  cases hv:v.ownBlock with
  |none=>exact .inl rfl
  |some k=>exact .inr (fun e=>by have:=(jz h k hv).1;cases e;omega))
section
variable {P:Program} {N:Nat} {D:List Deferred} {env env':eR} {a:Act} {w w':World} {Q:Exit→Act→World→Prop} {K:Act→World→Prop}
theorem IV {f:FuncId} {fn:Func} {c:Code} {l:List Value} {R:Ending→World→Prop} (hf:P.funcs[f]? =some fn) (hb:fn.body=some c) (hN:fn.ntmps=N) (hl:Nat.ble l.length N=true)
 (h:Wc P (bodyPostD P fn R) c N [] (uw 0 l) w):Calls P f l.toArray w R:=by
 have hl':l.length≤N:=Nat.le_of_ble_eq_true hl
 refine calls_of_wp_defers hf hb (h _ ⟨?_,rfl,fun t v ht=>?_⟩)
 · simp [hN];omega
 · obtain ⟨_,h2⟩:=CZ l 0 t v ht
   simp only [Nat.sub_zero] at h2
   obtain ⟨hlt,_⟩:=List.getElem?_eq_some_iff.1 h2
   simp only [Array.getElem?_append,List.size_toArray]
   rw [if_pos hlt]
   simpa using h2
theorem fg {x y:Code} (h:∀K:Act→World→Prop,(∀(D':List Deferred) (env:eR) (w:World),Wc P Q y N D' env w→∀a,Ok N D' env a→K a w)→Wc P (Exit.then K Q) x N D env w):Wc P Q (.seq x y) N D env w:=fun a ha=>
 wp_seq_k fun K hK=>h (fun a w=>K a w) (fun _ _ w hw a ha=>hK a w (hw a ha)) a ha
theorem e9 {y:Code} (hK:∀D env w,Wc P Q y N D env w→∀a,Ok N D env a→K a w) (h:Wc P Q y N D env w):Wq (Exit.then K Q) .normal N D env w:=fun a ha=>hK D env w h a ha
variable {ops:Array Oper} {rest:List Oper} {d:Nat} {op:Op} {ty:TypeId} {pos:String} {af:Array Edge}
theorem qB {S:World→Prop} {fuel:Nat} {l:Array Bool} {i:Nat} {o:Oper} {rs:List Nat} (l':Array Bool) (ho:ops[i]? =some o) (hl:(l.setIfInBounds i true==l')=true)
 (h:∀K:Act→World→Prop,(∀D' env' w',S w'→Wa P ops Q S fuel l' N D' env' w'→∀a,Ok N D' env' a→K a w')→Wl P ops (Exit.then K Q) [o] N D env w)
 (hs:Ws P ops Q S fuel l rs N D env w):Ws P ops Q S fuel l (i :: rs) N D env w:=fun j hj a ha=>by
 rcases List.mem_cons.1 hj with rfl|hj
 · have:l.setIfInBounds j true=l':=beq_iff_eq.1 hl
   subst this
   exact Uu ho (h _ (fun D' env' w' hS hA a' ha'=>⟨hS,hA a' ha'⟩) a ha)
 · exact hs j hj a ha
theorem qA {S:World→Prop} {fuel:Nat} {K:Act→World→Prop} {l':Array Bool} (hK:∀D' env' w',S w'→Wa P ops Q S fuel l' N D' env' w'→∀a,Ok N D' env' a→K a w') (hS:S w) (h:Wa P ops Q S fuel l' N D env w):Wq (Exit.then K Q) .normal N D env w:=fun a ha=>hK D env w hS h a ha
theorem Gn {x:Operand} {f:FuncId} {ts:Array TypeId} {l c:Array Value} {dst:Option Tmp} (hd:dst=none) (hx:ev env x=some (.func (.func f) l c)) (h:Wl P ops Q rest N (⟨.fn (.func f) c,l⟩ :: D) env w):
 Wl P ops Q (⟨dst,.defer ⟨.value x,#[],ts⟩,ty,pos,af,none⟩ :: rest) N D env w:=fun a ha=>by
 subst hd
 unfold wpList
 simp only [Region.wanted,if_true]
 refine .inl ?_
 unfold Oper.wp
 have:(execOp a.eval ⟨none,.defer ⟨.value x,#[],ts⟩,ty,pos,af,none⟩).run P w= .ok (.defer ⟨.fn (.func f) c,l⟩) w:=by
  simp [execOp,resolve,ha.eval hx,Deferred.ofValue]
 rw [this,Oper.upon_defer]
 exact h _ ⟨ha.size,by show _ :: a.defers=_;rw [ha.defers],ha.get⟩
theorem Ec {fn:Func} {R:Ending→World→Prop} (h:Wq (bodyPost P fn R) .ret N [] env w):Wq (bodyPostD P fn R) .ret N [] env w:=fun a ha=>by
 obtain ⟨_,v,h1,h2⟩:=h a ha;show Leaves P fn a.tmps R a.defers .returning w;rw [ha.defers];exact ⟨v,h1,h2⟩
theorem uc {fn:Func} {R:Ending→World→Prop} {c:List PanicEntry} (h:R (.panicked c) w):Wq (bodyPostD P fn R) (.panic c) N [] env w:=fun a ha=>by
 show Leaves P fn a.tmps R a.defers (.panicking c) w;rw [ha.defers];exact h
theorem Ft {fn:Func} {R:Ending→World→Prop} {t t':Array Value} (h:∀w,(results fn t).run P w=(results fn t').run P w):∀(ds:List Deferred) (u:FrameMode) (w:World),Leaves P fn t R ds u w→Leaves P fn t' R ds u w
 | [],.returning,w,hl=>by obtain ⟨v,h1,h2⟩:=hl;exact ⟨v,(h w).symm.trans h1,h2⟩
 | [],.panicking c,w,hl=>hl
 | [],.run,_,hl=>hl
 |d :: ds,u,w,hl=>by
  obtain ⟨h1,fv,cap,f,args,h2,h3,h4⟩:=hl;refine ⟨h1,fv,cap,f,args,h2,h3,h4.mono fun e u' w' he=>?_⟩
  cases e with
  |returned v=>exact Ft h ds _ _ he
  |panicked c=>exact Ft h ds _ _ he
  |outgrown=>exact he
theorem kO {fn:Func} {R:Ending→World→Prop} {t d:Nat} {ty:TypeId} {v:Value} {ds:List Deferred} {u:FrameMode} (hr:fn.results= #[.cell t ty]) (hd:Nat.beq d t=false) (h:Leaves P fn (a.put (some d) v).tmps R ds u w):Leaves P fn a.tmps R ds u w:=
 Ft (fun w=>by
  have hne:d≠t:=fun e=>by subst e;simp at hd
  have e:(a.tmps.setIfInBounds d v).getD t undef=a.tmps.getD t undef:=by
   simp [Array.getD_eq_getD_getElem?,Array.getElem?_setIfInBounds,hne]
  unfold results
  simp only [hr,Act.put]
  simp [e,Array.getElem?_setIfInBounds,hne]) ds u w h
theorem L2 {fn:Func} {R:Ending→World→Prop} {t1 t2 t3 d:Nat} {y1 y2 y3:TypeId} {v:Value} {ds:List Deferred} {u:FrameMode} (hr:fn.results= #[.cell t1 y1,.cell t2 y2,.cell t3 y3]) (h1:Nat.beq d t1=false) (h2:Nat.beq d t2=false) (h3:Nat.beq d t3=false) (h:Leaves P fn (a.put (some d) v).tmps R ds u w):Leaves P fn a.tmps R ds u w:=
 Ft (fun w=>by
  have key:∀t,Nat.beq d t=false→(a.tmps.setIfInBounds d v).getD t undef=a.tmps.getD t undef:=fun t ht=>by
   have hne:d≠t:=fun e=>by subst e;simp at ht
   simp [Array.getD_eq_getD_getElem?,Array.getElem?_setIfInBounds,hne]
  have e1:=key t1 h1
  have e2:=key t2 h2
  have e3:=key t3 h3
  unfold results
  simp only [hr,Act.put]
  have n1:d≠t1:=fun e=>by subst e;simp at h1
  have n2:d≠t2:=fun e=>by subst e;simp at h2
  have n3:d≠t3:=fun e=>by subst e;simp at h3
  simp [e1,e2,e3,Array.getElem?_setIfInBounds,n1,n2,n3]) ds u w h
def pR (P:Program) (f:FuncId) (args:List Value) (w:World) (R:World→Prop):Prop:=∀u,CallsD P f args.toArray u w fun e u' w'=>(∃v,e= .returned v)∧u'=u∧R w'
theorem O5 {f:FuncId} {fn:Func} {c:Code} {l:List Value} {R:World→Prop} (hf:P.funcs[f]? =some fn) (hb:fn.body=some c) (hN:fn.ntmps=N) (hl:Nat.ble l.length N=true)
 (h:Wc P (bodyPost P fn fun e w'=>∃v,e= .returned v∧R w') c N [] (uw 0 l) w):pR P f l w R:=fun u=>by
 have hl':l.length≤N:=Nat.le_of_ble_eq_true hl
 refine (callsD_of_wp hf hb (u:=u) (h _ ⟨?_,rfl,fun t v ht=>?_⟩)).mono fun e u' w' ⟨h1,v,h2,h3⟩=>⟨⟨v,h2⟩,h1,h3⟩
 · simp [hN];omega
 · obtain ⟨_,h2⟩:=CZ l 0 t v ht
   simp only [Nat.sub_zero] at h2
   obtain ⟨hlt,_⟩:=List.getElem?_eq_some_iff.1 h2
   simp only [Array.getElem?_append,List.size_toArray]
   rw [if_pos hlt]
   simpa using h2
theorem FI {f:FuncId} {c l:Array Value} (hf:bB P f):(invoke (.fn (.func f) c) l).run P w= .ok (.enter f (l++c)) w:=by
 simp [invoke,MH hf]
theorem Oa {fn:Func} {R:Ending→World→Prop} {f:FuncId} {l c:Array Value} {S:World→Prop} (hf:bB P f) (hc:pR P f (l++c).toList w S) (h:∀w',S w'→Wq (bodyPost P fn R) .ret N [] env w'):Wq (bodyPostD P fn R) .ret N [⟨.fn (.func f) c,l⟩] env w:=fun a ha=>by
 show Leaves P fn a.tmps R a.defers .returning w;rw [ha.defers];refine leaves_cons (by simp) (FI hf) ((hc .returning).mono fun e u' w' ⟨⟨v,e1⟩,e2,hS⟩=>?_);subst e1;subst e2;obtain ⟨_,v,h1,h2⟩:=h w' hS {a with defers:= []} ⟨ha.size,rfl,ha.get⟩;exact ⟨v,h1,h2⟩
theorem Ed {fn:Func} {R:Ending→World→Prop} {f:FuncId} {l c:Array Value} {S:World→Prop} {v:Value} (hf:bB P f) (hc:pR P f (l++c).toList w S) (h:∀w',S w'→R (.panicked [{v:=v,recovered:=false}]) w'):Wq (bodyPostD P fn R) (.panic [{v:=v,recovered:=false}]) N [⟨.fn (.func f) c,l⟩] env w:=fun a ha=>by
 show Leaves P fn a.tmps R a.defers (.panicking _) w;rw [ha.defers];refine leaves_cons (by simp) (FI hf) ((hc _).mono fun e u' w' ⟨⟨v,e1⟩,e2,hS⟩=>?_);subst e1;subst e2;exact h w' hS
end
def zP:List Value→Nat→List Value→List Value
 |cs,_,[]=>cs
 |cs,o,v :: r=>zP (cs.set o v) (o+1) r
theorem SM {g:Nat} {e:TypeId}:∀(vs:List Value) (o:Nat) (cs:List Value) (w:World),ak w g e cs→o+vs.length≤cs.length→ak (w.setCells g o vs) g e (zP cs o vs)∧Kp g w (w.setCells g o vs)
 | [],o,cs,w,hb,_=>⟨hb,Kp.refl g w⟩
 |v :: r,o,cs,w,hb,hl=>by
  have hl':o+1+r.length≤cs.length:=by simp at hl;omega
  have e1:w.setCell ⟨g,o,none⟩ v=w.setRow g (cs.set o v).toArray:=by
   rw [setCell_eq_setRow w g o cs.toArray e (0,0) v hb];simp
  have h1:ak (w.setCell ⟨g,o,none⟩ v) g e (cs.set o v):=e1 ▸ hb.setRow;have h2:Kp g w (w.setCell ⟨g,o,none⟩ v):=⟨rfl,rfl,rfl,by simp [World.setCell],fun k _ hne=>Below.heap_setCell w _ _ k (fun e=>hne (by rw [e]))⟩;obtain ⟨h3,h4⟩:=SM r (o+1) (cs.set o v) _ h1 (by rw [List.length_set];exact hl');exact ⟨h3,h2.trans h4⟩
section
variable {P:Program} {N:Nat} {D:List Deferred} {env env':eR} {a:Act} {w w':World} {Q:Exit→Act→World→Prop}
variable {ops:Array Oper} {rest:List Oper} {d:Nat} {op:Op} {ty:TypeId} {pos:String} {af:Array Edge}
theorem yJ {x y:Operand} {t e:TypeId} {g j:Nat} {cs vs:List Value} (hs:(P.info? t).map (·.size)=some vs.length) (hx:ev env x=some (.pointer (some ((⟨g,0,none⟩:Addr).add j)))) (hy:ev env y=some (.agg vs.toArray)) (h1:vs.all (·.oneCell')=true) (hb:ak w g e cs) (hj:j+vs.length≤cs.length)
 (h:∀w',ak w' g e (zP cs j vs)→w.grownBy w' (some g)→Wl P ops Q rest N D env w'):Wl P ops Q (⟨none,.store t x y,ty,pos,af,none⟩ :: rest) N D env w:=by
 obtain ⟨h3,h4⟩:=SM vs j cs w hb hj
 refine t6 (w':=w.setCells g j vs) (fun a ha dst pos af g'=>?_) (h _ h3 h4)
 have:=run_storeVar_mid (P:=P) w g j t vs.toArray (fun i hi=>by
  have hi':j+i<cs.length:=by simp at hi;omega
  have hc:=hb.at (List.getElem?_eq_getElem hi')
  rw [uf] at hc
  exact ⟨by rw [hc];rfl,hb.frozen _⟩) (by simpa using hs) (by simpa using h1)
 have hx':=ha.eval hx
 rw [uf] at hx'
 simp [execOp,hx',ha.eval hy,Instr.storeAt,Instr.sureAddr,this]
theorem ahc {x:Operand} {t k e u:TypeId} {A:Option Nat} (ht:P.underlying t=some (.map k e)) (hx:ev env x=some (.map A)):Yl P N D env (.binOp .neq t x (.const (.map none)) u) ty (.bool A.isSome):=fun a ha w dst pos af g=>by
 have he:a.eval (.const (.map none))= .map none:=rfl;have hd:∀d:Nat,(Op.equalIn (d+1) t (.map A) (.map none)).run P w= .ok A.isNone w:=fun d=>by cases A<;>simp [Op.equalIn,run_underlying ht]
 have h1:(binOp .neq t (.map A) (.map none)).run P w= .ok (.bool A.isSome) w:=by
  simp only [binOp]
  cases A<;>simp [Op.equal,Op.maxDepth,hd 9999]
 simp [execOp,ha.eval hx,eqGuard,he,h1,run_underlying ht]
theorem QM {x i:Operand} {t k e:TypeId} {g:Nat} {kv:List (List UInt8×Value)} {key:List UInt8} {z:Value} (ht:P.underlying t=some (.map k e)) (hk:P.underlying k=some .string) (hz:(P.info? e).bind (·.zero)=some z) (hx:ev env x=some (.map (some g))) (hi:ev env i=some (str key)) (hm:Mp w g kv):
 Ld P N D env w (.lookup t x i false) ty ((mP kv key).getD z):=fun a ha dst pos af g'=>by
 obtain ⟨j,hj⟩:=MI (P:=P) hk key kv w
 have hm':w.heap[g]? =some (.map (fQ 0 kv).toArray kv.length):=hm
 obtain ⟨ie,hi2,hz'⟩:=Option.bind_eq_some_iff.1 hz
 cases hl:mP kv key with
 |none=>
  rw [hl] at hj;simp [execOp,ha.eval hx,ha.eval hi,Instr.lookup,run_underlying ht,getObj,Sem.run,hm',Dl hk,hj,zeroValue,typeInfo,hi2,hz']
 |some v=>
  rw [hl] at hj;simp [execOp,ha.eval hx,ha.eval hi,Instr.lookup,run_underlying ht,getObj,Sem.run,hm',Dl hk,hj]
end
theorem O6 {P:Program} {N:Nat} {w:World} {f:FuncId} {fn:Func} {id d0 d1:Nat} {ty0 ty1:TypeId} {p0 p1:String} {af0 af1:Array Edge} {ts:Array TypeId} {rest:Code} {l:List Value} {u u':FrameMode} {v:Value} {R:Ending→World→Prop}
 (hf:P.funcs[f]? =some fn) (hb:fn.body=some (.seq (.region id #[⟨some d0,.call ⟨.builtin .recover,#[],ts⟩,ty0,p0,af0,none⟩,⟨some d1,.assign (.tmp d0),ty1,p1,af1,none⟩] false) rest))
 (hN:fn.ntmps=N) (hl:Nat.ble l.length N=true) (h0:Nat.blt d0 N=true) (h1:Nat.blt d1 N=true)
 (hu:∀(c₀:Frame) (cs:List Frame),c₀.mode=u→(recoverD (c₀ :: cs)=some (v,{c₀ with mode:=u'} :: cs))∨(recoverD (c₀ :: cs)=none∧v= .nilIface∧u'=u))
 (h:Wc P (bodyPost P fn R) rest N [] ((d1,v) :: (d0,v) :: uw 0 l) w):CallsD P f l.toArray u w fun e x w'=>R e w'∧x=u':=by
 refine callsD_of_wpS hf hb fun c₀ cs hc=>?_
 have hl':l.length≤N:=Nat.le_of_ble_eq_true hl
 have hok:Ok N [] (uw 0 l) ({tmps:=l.toArray++Array.replicate (fn.ntmps - l.toArray.size) undef,defers:= []}:Act):=⟨by simp [hN];omega,rfl,fun t v ht=>by
  obtain ⟨_,h2⟩:=CZ l 0 t v ht
  simp only [Nat.sub_zero] at h2
  obtain ⟨hlt,_⟩:=List.getElem?_eq_some_iff.1 h2
  simp only [Array.getElem?_append,List.size_toArray]
  rw [if_pos hlt]
  simpa using h2⟩
 generalize ({tmps:=l.toArray++Array.replicate (fn.ntmps - l.toArray.size) undef,defers:= []}:Act)=a at hok ⊢
 have hok1:=hok.put h0 v
 have hok2:=hok1.put h1 v
 have hv:(a.put (some d0) v).eval (.tmp d0)=v:=hok1.eval (x:= .tmp d0) (by simp [ev,lk])
 have key:rest.wpS P (bodyPostS P fn c₀ cs fun e x w'=>R e w'∧x=u') ((a.put (some d0) v).put (some d1) v) ({c₀ with mode:=u'} :: cs) w:=by
  refine wpS_of_wp (Code.wp_mono (fun e a' w' he=>?_) (h _ hok2))
  cases e with
  |normal=>obtain ⟨x1,y,x2,x3⟩:=he;exact ⟨x1,u',rfl,y,x2,x3,rfl⟩
  |ret=>obtain ⟨x1,y,x2,x3⟩:=he;exact ⟨x1,u',rfl,y,x2,x3,rfl⟩
  |panic c=>obtain ⟨x1,x2⟩:=he;exact ⟨x1,u',rfl,x2,rfl⟩
  |outgrown=>exact ⟨u',he,rfl⟩
  |exit i=>exact he.elim
  |goto i=>exact he.elim
 have he0:(execOp a.eval ⟨some d0,.call ⟨.builtin .recover,#[],ts⟩,ty0,p0,af0,none⟩).run P w= .ok .recover w:=by
  simp [execOp,resolve,go_sem]
 apply wpS_seq
 apply wpS_region
 have hrange:List.range 2= [0,1]:=rfl
 rcases hu c₀ cs hc with hr|⟨hr,rfl,rfl⟩
 · simp [wpOpsS,hrange,Region.wanted,he0,Oper.upon,hr,Exit.thenS]
   simp [execOp,hv]
   exact key
 · have e:({c₀ with mode:=c₀.mode}:Frame)=c₀:=rfl
   subst hc
   simp [wpOpsS,hrange,Region.wanted,he0,Oper.upon,hr,Exit.thenS]
   simp [execOp,hv]
   exact key
theorem ag4 {P:Program} {N:Nat} {D:List Deferred} {env:eR} {x:Operand} {t xT ty:TypeId} {fs:Array Field} {v:Value} (hu:P.underlying t=some (.struct fs)) (hx:ev env x=some (.iface t v)):Yl P N D env (.typeAssert x xT t true) ty (.tuple #[v,.bool true]):=fun a ha w dst pos af g=>by
 simp [execOp,ha.eval hx,Instr.typeAssert,run_underlying hu]
theorem Gs {P:Program} {N:Nat} {env:eR} {w:World} {fn:Func} {R:Ending→World→Prop} {f:FuncId} {l c:Array Value} {S:World→Prop} (hf:bB P f) (hc:CallsD P f (l++c) .returning w fun e x w'=>(∃v,e= .returned v∧S w')∧x= .returning) (h:∀w',S w'→Wq (bodyPost P fn R) .ret N [] env w'):Wq (bodyPostD P fn R) .ret N [⟨.fn (.func f) c,l⟩] env w:=fun a ha=>by
 show Leaves P fn a.tmps R a.defers .returning w;rw [ha.defers];refine leaves_cons (by simp) (FI hf) (hc.mono fun e u' w' ⟨⟨v,e1,hS⟩,e2⟩=>?_);subst e1;subst e2;obtain ⟨_,v,h1,h2⟩:=h w' hS {a with defers:= []} ⟨ha.size,rfl,ha.get⟩;exact ⟨v,h1,h2⟩
theorem WM {P:Program} {N:Nat} {env:eR} {w:World} {fn:Func} {R:Ending→World→Prop} {f:FuncId} {l c:Array Value} {S:World→Prop} {v:Value} (hf:bB P f) (hc:CallsD P f (l++c) (.panicking [{v:=v,recovered:=false}]) w fun e x w'=>(∃v',e= .returned v'∧S w')∧x= .panicking [{v:=v,recovered:=true}]) (h:∀w',S w'→Wq (bodyPost P fn R) .ret N [] env w'):Wq (bodyPostD P fn R) (.panic [{v:=v,recovered:=false}]) N [⟨.fn (.func f) c,l⟩] env w:=fun a ha=>by
 show Leaves P fn a.tmps R a.defers (.panicking _) w;rw [ha.defers];refine leaves_cons (by simp) (FI hf) (hc.mono fun e u' w' ⟨⟨v,e1,hS⟩,e2⟩=>?_);subst e1;subst e2;obtain ⟨_,v,h1,h2⟩:=h w' hS {a with defers:= []} ⟨ha.size,rfl,ha.get⟩;exact ⟨v,h1,h2⟩
theorem ss {P:Program} {w:World} {t:TypeId} {p:Addr} {v:Value} (ht:One P t) (hc:w.cell? p=some v):(loadVar t p).run P w= .ok v w:=by
 exact SB ht hc
end Go.Bw
