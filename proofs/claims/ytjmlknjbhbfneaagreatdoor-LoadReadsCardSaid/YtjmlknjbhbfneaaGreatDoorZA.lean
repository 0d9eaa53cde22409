import Derived.Calls
import Derived.Deep.LoopGhost
import Derived.Below
import Derived.Tactics
import Derived.WalkKit
import Derived.KernelRfl
import Derived.WalkLawsBesides
import Derived.WalkSpells
import Derived.Maps.AppendAt
import Derived.OwnWalk
import Derived.Laws.BytesArg
import Derived.Laws.OwnMore
import Derived.Laws.Bits64
import Derived.Laws.BitsLemmas
import Derived.Laws.Cover2
import Derived.Lib.Strings
import Derived.Laws.Cells
import Derived.Laws.Tables
import Derived.Lib.ConvBytes
import Derived.Deep.Draws
import Derived.Lib.SlBytesConst
import Derived.Deep.Quiet
import Derived.Laws.CopyOwn
import Derived.Laws.StructEq
import Derived.OrdersHeld
import Derived.Laws.IdiomRangeMap
import Derived.WideLaws
import Derived.Lib.OthersKept
import Derived.Defers
import Derived.Recover
import Derived.Deep.MidRow
namespace Go.Bw
open Go.RowKit
set_option linter.unusedVariables false
set_option linter.unusedSimpArgs false
theorem DA {p:Prop} [Decidable p]:(decide p=true)=p:=decide_eq_true_eq
theorem DB {p:Prop} [Decidable p]:decide p=false↔¬p:=decide_eq_false_iff_not
theorem DC {α:Type} [BEq α] [LawfulBEq α] {a b:α}:(a==b)=true↔a=b:=beq_iff_eq
theorem DD {α:Type} [BEq α] [LawfulBEq α] {a b:α}:(a==b)=false↔a≠b:=beq_eq_false_iff_ne
theorem DE {α:Type} [BEq α] [LawfulBEq α] {a b:α}:(a != b)=true↔a≠b:=bne_iff_ne
theorem DF {α:Type} [BEq α] [LawfulBEq α] {a b:α}:(a != b)=false↔a=b:=bne_eq_false_iff_eq
theorem DG (b:Bool):((!b)=true)=(b=false):=Bool.not_eq_true' b
theorem DH (b:Bool):((!b)=false)=(b=true):=Bool.not_eq_false' b
theorem DI {a b:Bool}:((!a)=b)↔(a= !b):=Bool.not_eq_eq_eq_not
theorem DJ:(!true)=false:=rfl
theorem DK:(!false)=true:=rfl
theorem DM {a b:Int}:¬a<b↔b≤a:=Int.not_lt
theorem DN {a b:Int}:¬a≤b↔b<a:=Int.not_le
theorem DZ:(∀(p:Prop) [Decidable p],(decide p=true)=p)∧(∀(p:Prop) [Decidable p],(decide p=false)=¬p)∧(∀(α:Type) [BEq α] [LawfulBEq α] (a b:α),((a==b)=true)=(a=b))∧
 (∀(α:Type) [BEq α] [LawfulBEq α] (a b:α),((a==b)=false)=¬(a=b))∧(∀(α:Type) [BEq α] [LawfulBEq α] (a b:α),((a != b)=true)=¬(a=b))∧(∀(α:Type) [BEq α] [LawfulBEq α] (a b:α),((a != b)=false)=(a=b))∧
 (∀b:Bool,((!b)=true)=(b=false))∧(∀b:Bool,((!b)=false)=(b=true))∧(∀a b:Bool,((!a)=b)=(a= !b))∧((!true)=false)∧((!false)=true)∧(∀(α:Type) (a b:α),(a≠b)=¬(a=b))∧(∀a b:Int,(¬a<b)=(b≤a))∧(∀a b:Int,(¬a≤b)=(b<a)):=
 ⟨fun _=>DA,fun _=>propext DB,fun _ _ _ _ _=>propext DC,fun _ _ _ _ _=>propext DD,fun _ _ _ _ _=>propext DE,fun _ _ _ _ _=>propext DF,DG,DH,fun _ _=>propext DI,DJ,DK,fun _ _ _=>rfl,fun _ _=>propext DM,fun _ _=>propext DN⟩
abbrev Env:=List (Nat×Value)
def lk:Env→Nat→Option Value
 | [],_=>none
 |(k,v) :: r,t=>bif Nat.beq k t then some v else lk r t
def ev (env:Env):Operand→Option Value
 | .tmp t=>lk env t
 | .const v=>some v
 | .global g=>some (.pointer (some ⟨g,0,none⟩))
 | .func f=>some (.func (.func f) #[] #[])
structure Ok (N:Nat) (D:List Deferred) (env:Env) (a:Act):Prop where
 size:a.tmps.size=N
 defers:a.defers=D
 get:∀t v,lk env t=some v→a.tmps[t]? =some v
section
variable {P:Program} {N:Nat} {D:List Deferred} {env env':Env} {a:Act} {w w':World} {Q:Exit→Act→World→Prop} {K:Act→World→Prop}
theorem Ok.eval (h:Ok N D env a) {x:Operand} {v:Value} (hx:ev env x=some v):a.eval x=v:=by
 cases x with
 |tmp t=>
  have:=h.get t v hx;simp [Act.eval,Array.getD_eq_getD_getElem?,this]
 |const v'=>exact Option.some.inj hx
 |global g=>exact Option.some.inj hx
 |func f=>exact Option.some.inj hx
theorem beq_eq {k t:Nat} (h:Nat.beq k t=true):k=t:=Nat.eq_of_beq_eq_true h
theorem LR (d:Nat) (v:Value) (env:Env) (t:Nat):lk ((d,v) :: env) t=if d=t then some v else lk env t:=by
 unfold lk;by_cases h:d=t
 · subst h;simp
 · have:Nat.beq d t=false:=by cases e:Nat.beq d t with
    |false=>rfl
    |true=>exact absurd (beq_eq e) h
   rw [this,if_neg h];cases env<;>rfl
theorem Ok.put (h:Ok N D env a) {d:Nat} (hd:Nat.blt d N=true) (v:Value):Ok N D ((d,v) :: env) (a.put (some d) v):=by
 have hd':d<N:=Nat.le_of_ble_eq_true hd;refine ⟨by simp [Act.put,h.size],h.defers,fun t u ht=>?_⟩;rw [LR] at ht;show (a.tmps.setIfInBounds d v)[t]? =some u;rw [Array.getElem?_setIfInBounds];by_cases e:d=t
 · subst e
   rw [if_pos rfl] at ht ⊢;rw [if_pos (by rw [h.size];exact hd')];exact ht
 · rw [if_neg e] at ht ⊢
   exact h.get t u ht
def Sub (env' env:Env):Prop:=∀t v,lk env' t=some v→lk env t=some v
theorem aB:Sub [] env:=fun _ _ h=>by cases h
theorem VT {d:Nat} {v:Value} (h:lk env d=some v) (hs:Sub env' env):Sub ((d,v) :: env') env:=fun t u ht=>by
 rw [LR] at ht;by_cases e:d=t
 · subst e;rw [if_pos rfl] at ht;cases ht;exact h
 · rw [if_neg e] at ht;exact hs t u ht
theorem au {d:Nat} {v v':Value} (h:lk env d=some v') (e:v'=v) (hs:Sub env' env):Sub ((d,v) :: env') env:=VT (e ▸ h) hs
theorem Ok.sub (h:Ok N D env a) (hs:Sub env' env):Ok N D env' a:=⟨h.size,h.defers,fun t v ht=>h.get t v (hs t v ht)⟩
def Wc (P:Program) (Q:Exit→Act→World→Prop) (c:Code) (N:Nat) (D:List Deferred) (env:Env) (w:World):Prop:=∀a,Ok N D env a→c.wp P Q a w
def Wl (P:Program) (ops:Array Oper) (Q:Exit→Act→World→Prop) (l:List Oper) (N:Nat) (D:List Deferred) (env:Env) (w:World):Prop:=∀a,Ok N D env a→wpList P ops Q l a w
def Wq (Q:Exit→Act→World→Prop) (e:Exit) (N:Nat) (D:List Deferred) (env:Env) (w:World):Prop:=∀a,Ok N D env a→Q e a w
theorem ax {x y:Code} (h:∀K:Act→World→Prop,(∀(env:Env) (w:World),Wc P Q y N D env w→∀a,Ok N D env a→K a w)→Wc P (Exit.then K Q) x N D env w):Wc P Q (.seq x y) N D env w:=fun a ha=>
 wp_seq_k fun K hK=>h (fun a w=>K a w) (fun _ w hw a ha=>hK a w (hw a ha)) a ha
theorem aU (h:Wq Q .normal N D env w):Wc P Q .skip N D env w:=fun a ha=>wp_skip (h a ha)
theorem aK (h:Wq Q .ret N D env w):Wc P Q .ret N D env w:=fun a ha=>wp_ret (h a ha)
theorem cN {id:Nat} (h:Wq Q (.exit id) N D env w):Wc P Q (.exit id) N D env w:=fun a ha=>wp_exit (h a ha)
theorem br {id:Nat} {c:Code} (h:Wc P (Exit.inBlock id Q) c N D env w):Wc P Q (.block id c) N D env w:=fun a ha=>wp_block (h a ha)
theorem aH {c:Operand} {x y:Code} {t:Bool} (hc:ev env c=some (.bool t)) (ht:t=true→Wc P Q x N D env w) (hf:t=false→Wc P Q y N D env w):Wc P Q (.cond c x y) N D env w:=
 fun a ha=>wp_cond_split (ha.eval hc) (fun e=>ht e a ha) (fun e=>hf e a ha)
theorem WU {c:Operand} {x y:Code} (hc:ev env c=some (.bool true)) (h:Wc P Q x N D env w):Wc P Q (.cond c x y) N D env w:=fun a ha=>wp_cond_true (ha.eval hc) (h a ha)
theorem WT {c:Operand} {x y:Code} (hc:ev env c=some (.bool false)) (h:Wc P Q y N D env w):Wc P Q (.cond c x y) N D env w:=fun a ha=>wp_cond_false (ha.eval hc) (h a ha)
theorem Eg {c:Operand} {x y:Code} {t:Bool} (hc:ev env c=some (.bool t)) (e:t=true) (h:Wc P Q x N D env w):Wc P Q (.cond c x y) N D env w:=by subst e;exact WU hc h
theorem pt {c:Operand} {x y:Code} {t:Bool} (hc:ev env c=some (.bool t)) (e:t=false) (h:Wc P Q y N D env w):Wc P Q (.cond c x y) N D env w:=by subst e;exact WT hc h
theorem aR {id:Nat} {l:List Oper} (h:Wl P l.toArray Q l N D env w):Wc P Q (.region id l.toArray false) N D env w:=fun a ha=>wp_region_lit (h a ha)
theorem aw {y:Code} (hK:∀env w,Wc P Q y N D env w→∀a,Ok N D env a→K a w) (h:Wc P Q y N D env w):Wq (Exit.then K Q) .normal N D env w:=fun a ha=>hK env w h a ha
theorem aQ (h:Wq Q .ret N D env w):Wq (Exit.then K Q) .ret N D env w:=h
theorem bD {i:Nat} (h:Wq Q (.exit i) N D env w):Wq (Exit.then K Q) (.exit i) N D env w:=h
theorem bE {i:Nat} (h:Wq Q .ret N D env w):Wq (Exit.inBlock i Q) .ret N D env w:=h
theorem bS {i:Nat} (h:Wq Q .normal N D env w):Wq (Exit.inBlock i Q) .normal N D env w:=h
theorem cO {i:Nat} (h:Wq Q .normal N D env w):Wq (Exit.inBlock i Q) (.exit i) N D env w:=fun a ha=>by
 show (if i=i then _ else _);rw [if_pos rfl];exact h a ha
theorem cU {c:Code} {X:Type} (E:X→Env) (I:X→World→Prop) (m:X→Nat) (x0:X) (h0:Sub (E x0) env) (hI:I x0 w)
 (round:∀x w,I x w→∀K:Act→World→Prop,(∀env' w' x',m x'<m x→Sub (E x') env'→I x' w'→∀a,Ok N D env' a→K a w')→Wc P (Exit.then K Q) c N D (E x) w):Wc P Q (.loop c) N D env w:=fun a ha=>by
 refine wp_loop_ghost (fun n a w=>∃x,m x=n∧Ok N D (E x) a∧I x w) (m x0) ⟨x0,rfl,ha.sub h0,hI⟩ ?_
 rintro n a w ⟨x,rfl,hx,hi⟩
 exact round x w hi (fun a' w'=>∃n',n'<m x∧∃x',m x'=n'∧Ok N D (E x') a'∧I x' w') (fun env' w' x' hm hs hI' a' ha'=>⟨_,hm,x',rfl,ha'.sub hs,hI'⟩) a hx
def EF:Nat→List Value→Env
 |_,[]=> []
 |n,v :: l=>(n,v) :: EF (n+1) l
theorem Rq:∀(l:List Value) (n t:Nat) (v:Value),lk (EF n l) t=some v→n≤t∧l[t - n]? =some v
 | [],_,_,_,h=>by cases h
 |u :: l,n,t,v,h=>by
  rw [EF,LR] at h;by_cases e:n=t
  · subst e;rw [if_pos rfl] at h;simpa using h
  · rw [if_neg e] at h
    obtain ⟨h1,h2⟩:=Rq l (n+1) t v h;refine ⟨by omega,?_⟩;obtain ⟨k,rfl⟩:∃k,t=n+1+k:=⟨t - (n+1),by omega⟩;rw [show n+1+k - (n+1)=k by omega] at h2;rw [show n+1+k - n=k+1 by omega]
    simpa using h2
theorem enter {f:FuncId} {fn:Func} {c:Code} {l:List Value} {R:Ending→World→Prop} (hf:P.funcs[f]? =some fn) (hb:fn.body=some c) (hN:fn.ntmps=N) (hl:Nat.ble l.length N=true)
 (h:Wc P (bodyPost P fn R) c N [] (EF 0 l) w):Calls P f l.toArray w R:=by
 have hl':l.length≤N:=Nat.le_of_ble_eq_true hl
 refine calls_of_wp hf hb (h _ ⟨?_,rfl,fun t v ht=>?_⟩)
 · simp [hN];omega
 · obtain ⟨_,h2⟩:=Rq l 0 t v ht
   simp only [Nat.sub_zero] at h2
   obtain ⟨hlt,_⟩:=List.getElem?_eq_some_iff.1 h2
   simp only [Array.getElem?_append,List.size_toArray]
   rw [if_pos hlt]
   simpa using h2
theorem lh {fn:Func} {R:Ending→World→Prop} (hr:fn.results= #[]) (h:R (.returned (.tuple #[])) w):Wq (bodyPost P fn R) .normal N [] env w:=fun _ ha=>⟨ha.defers,_,results_none hr _ _ _,h⟩
theorem Ok.getD (h:Ok N D env a) {t:Nat} {v:Value} (hx:lk env t=some v):a.tmps.getD t undef=v:=h.eval (x:= .tmp t) hx
theorem bj {fn:Func} {R:Ending→World→Prop} {t:Nat} {v:Value} (hr:fn.results= #[.tmp t]) (hx:lk env t=some v) (h:R (.returned v) w):Wq (bodyPost P fn R) .ret N [] env w:=
 fun _ ha=>⟨ha.defers,v,by rw [results_tmp hr,ha.getD hx],h⟩
theorem dv {fn:Func} {R:Ending→World→Prop} {t u:Nat} {x y:Value} (hr:fn.results= #[.tmp t,.tmp u]) (hx:lk env t=some x) (hy:lk env u=some y) (h:R (.returned (.tuple #[x,y])) w):Wq (bodyPost P fn R) .ret N [] env w:=
 fun _ ha=>⟨ha.defers,_,by rw [results_tmp2 hr,ha.getD hx,ha.getD hy],h⟩
theorem qG {fn:Func} {R:Ending→World→Prop} {t u s:Nat} {x y z:Value} (hr:fn.results= #[.tmp t,.tmp u,.tmp s]) (hx:lk env t=some x) (hy:lk env u=some y) (hz:lk env s=some z) (h:R (.returned (.tuple #[x,y,z])) w):Wq (bodyPost P fn R) .ret N [] env w:=
 fun _ ha=>⟨ha.defers,.tuple #[x,y,z],by have h1:=ha.getD hx;have h2:=ha.getD hy;have h3:=ha.getD hz;simp only [Array.getD_eq_getD_getElem?] at h1 h2 h3;simp [results,hr,h1,h2,h3],h⟩
section ops
variable {ops:Array Oper} {rest:List Oper} {d:Nat} {op:Op} {ty:TypeId} {pos:String} {af:Array Edge}
theorem ay (h:Wq Q .normal N D env w):Wl P ops Q [] N D env w:=h
theorem G4 {v:Value} (hd:Nat.blt d N=true) (hr:∀a,Ok N D env a→(execOp a.eval ⟨some d,op,ty,pos,af,none⟩).run P w= .ok (.value v) w') (h:Wl P ops Q rest N D ((d,v) :: env) w'):
 Wl P ops Q (⟨some d,op,ty,pos,af,none⟩ :: rest) N D env w:=fun a ha=>by
 unfold wpList
 simp only [Region.wanted,if_true]
 refine .inl ?_
 unfold Oper.wp
 rw [hr a ha,Oper.upon_value]
 exact h _ (ha.put hd v)
theorem W8 {dst:Option Tmp} (hd:dst=none) (hr:∀a,Ok N D env a→(execOp a.eval ⟨dst,op,ty,pos,af,none⟩).run P w= .ok .skip w') (h:Wl P ops Q rest N D env w'):
 Wl P ops Q (⟨dst,op,ty,pos,af,none⟩ :: rest) N D env w:=fun a ha=>by
 subst hd
 unfold wpList
 simp only [Region.wanted,if_true]
 refine .inl ?_
 unfold Oper.wp
 rw [hr a ha,Oper.upon_skip]
 exact h _ ha
theorem G3 {g:Nat} {b:Bool} {s:Nat} {dst:Option Tmp} (hs:(ops[g]?).bind (·.dst)=some s) (hb:lk env s=some (.bool b))
 (h:Wl P ops Q (⟨dst,op,ty,pos,af,none⟩ :: rest) N D env w):Wl P ops Q (⟨dst,op,ty,pos,af,some (g,b)⟩ :: rest) N D env w:=fun a ha=>by
 have h1:=h a ha
 unfold wpList at h1 ⊢
 have hy:yielded ops a.tmps g=some b:=by
  unfold yielded;rw [hs];show (match a.tmps[s]? with|some (.bool b)=>some b|_=>none)=some b;rw [ha.get s _ hb]
 simp only [Region.wanted,if_true] at h1
 simp only [Region.wanted,hy,beq_self_eq_true,if_true]
 exact h1
theorem G0 {g:Nat} {b c:Bool} {s:Nat} (hs:(ops[g]?).bind (·.dst)=some s) (hb:lk env s=some (.bool c)) (hne:(c==b)=false) (hd:Nat.blt d N=true)
 (h:Wl P ops Q rest N D ((d,undef) :: env) w):Wl P ops Q (⟨some d,op,ty,pos,af,some (g,b)⟩ :: rest) N D env w:=fun a ha=>by
 unfold wpList
 have hy:yielded ops a.tmps g=some c:=by
  unfold yielded;rw [hs];show (match a.tmps[s]? with|some (.bool b)=>some b|_=>none)=some c;rw [ha.get s _ hb]
 have:(some c==some b)=false:=by simpa using hne
 simp only [Region.wanted,hy,this]
 exact h _ (ha.put hd undef)
theorem aE {g:Nat} {b t:Bool} {s:Nat} {dst:Option Tmp} (hs:(ops[g]?).bind (·.dst)=some s) (hb:lk env s=some (.bool t)) (e:t=b)
 (h:Wl P ops Q (⟨dst,op,ty,pos,af,none⟩ :: rest) N D env w):Wl P ops Q (⟨dst,op,ty,pos,af,some (g,b)⟩ :: rest) N D env w:=by subst e;exact G3 hs hb h
theorem aA {g:Nat} {b c c':Bool} {s:Nat} (hs:(ops[g]?).bind (·.dst)=some s) (hb:lk env s=some (.bool c)) (e:c=c') (hne:(c'==b)=false) (hd:Nat.blt d N=true)
 (h:Wl P ops Q rest N D ((d,undef) :: env) w):Wl P ops Q (⟨some d,op,ty,pos,af,some (g,b)⟩ :: rest) N D env w:=by subst e;exact G0 hs hb hne hd h
theorem cC {g:Nat} {b:Bool} {s:Nat} (hs:(ops[g]?).bind (·.dst)=some s) (hb:lk env s=some undef) (hd:Nat.blt d N=true)
 (h:Wl P ops Q rest N D ((d,undef) :: env) w):Wl P ops Q (⟨some d,op,ty,pos,af,some (g,b)⟩ :: rest) N D env w:=fun a ha=>by
 unfold wpList
 have hy:yielded ops a.tmps g=none:=by
  unfold yielded;rw [hs];show (match a.tmps[s]? with|some (.bool b)=>some b|_=>none)=none;rw [ha.get s _ hb]
  rfl
 have:((none:Option Bool)==some b)=false:=rfl
 simp only [Region.wanted,hy,this]
 exact h _ (ha.put hd undef)
theorem cw {g:Nat} {t:Bool} {s:Nat} (hs:(ops[g]?).bind (·.dst)=some s) (hb:lk env s=some (.bool t)) (hd:Nat.blt d N=true)
 (h1:t=true→Wl P ops Q (⟨some d,op,ty,pos,af,none⟩ :: rest) N D env w) (h2:t=false→Wl P ops Q rest N D ((d,undef) :: env) w):Wl P ops Q (⟨some d,op,ty,pos,af,some (g,true)⟩ :: rest) N D env w:=by
 cases t
 · exact G0 hs hb rfl hd (h2 rfl)
 · exact G3 hs hb (h1 rfl)
theorem dP {g:Nat} {t:Bool} {s:Nat} (hs:(ops[g]?).bind (·.dst)=some s) (hb:lk env s=some (.bool t)) (hd:Nat.blt d N=true)
 (h1:t=true→Wl P ops Q rest N D ((d,undef) :: env) w) (h2:t=false→Wl P ops Q (⟨some d,op,ty,pos,af,none⟩ :: rest) N D env w):Wl P ops Q (⟨some d,op,ty,pos,af,some (g,false)⟩ :: rest) N D env w:=by
 cases t
 · exact G3 hs hb (h2 rfl)
 · exact G0 hs hb rfl hd (h1 rfl)
end ops
end
end Go.Bw
namespace Go.Bw
open Go.RowKit
set_option linter.unusedVariables false
set_option linter.unusedSimpArgs false
def str (l:List UInt8):Value:= .string ⟨l.toArray⟩
theorem Tg (s:ByteArray):Value.string s=str s.data.toList:=by simp [str]
def kI (env:Env):List Operand→Option (List Value)
 | []=>some []
 |x :: r=>match ev env x,kI env r with
  |some v,some l=>some (v :: l)
  |_,_=>none
section
variable {P:Program} {N:Nat} {D:List Deferred} {env env':Env} {a:Act} {w w':World} {Q:Exit→Act→World→Prop}
variable {ops:Array Oper} {rest:List Oper} {d:Nat} {op:Op} {ty:TypeId} {pos:String} {af:Array Edge}
theorem O7 (ha:Ok N D env a):∀{xs:List Operand} {vs:List Value},kI env xs=some vs→xs.map a.eval=vs
 | [],vs,h=>by cases h;rfl
 |x :: r,vs,h=>by
  unfold kI at h
  cases h1:ev env x with
  |none=>rw [h1] at h;cases h
  |some v=>
   cases h2:kI env r with
   |none=>rw [h1,h2] at h;cases h
   |some l=>
    rw [h1,h2] at h;cases h;rw [List.map_cons,ha.eval h1,O7 ha h2]
theorem yL (ha:Ok N D env a) {xs:Array Operand} {vs:List Value} (h:kI env xs.toList=some vs):xs.map a.eval=vs.toArray:=by
 have:=O7 ha h;rw [←this]
 apply Array.ext'
 simp
def tW (env:Env):List (Nat×Operand)→Option (List (Nat×Value))
 | []=>some []
 |(i,x) :: r=>match ev env x,tW env r with
  |some v,some l=>some ((i,v) :: l)
  |_,_=>none
theorem O6 (ha:Ok N D env a):∀{xs:List (Nat×Operand)} {vs:List (Nat×Value)},tW env xs=some vs→xs.map (fun (i,x)=>(i,a.eval x))=vs
 | [],vs,h=>by cases h;rfl
 |(i,x) :: r,vs,h=>by
  unfold tW at h
  cases h1:ev env x with
  |none=>rw [h1] at h;cases h
  |some v=>
   cases h2:tW env r with
   |none=>rw [h1,h2] at h;cases h
   |some l=>
    rw [h1,h2] at h;cases h;rw [List.map_cons,O6 ha h2];simp [ha.eval h1]
theorem O5 (ha:Ok N D env a) {xs:Array (Nat×Operand)} {vs:List (Nat×Value)} (h:tW env xs.toList=some vs):xs.map (fun (i,x)=>(i,a.eval x))=vs.toArray:=by
 have:=O6 ha h;rw [←this]
 apply Array.ext'
 simp
def Yl (P:Program) (N:Nat) (D:List Deferred) (env:Env) (op:Op) (ty:TypeId) (v:Value):Prop:=
 ∀a,Ok N D env a→∀(w:World) (dst:Option Tmp) (pos:String) (af:Array Edge) (g:Option (Nat×Bool)),(execOp a.eval ⟨dst,op,ty,pos,af,g⟩).run P w= .ok (.value v) w
def Ld (P:Program) (N:Nat) (D:List Deferred) (env:Env) (w:World) (op:Op) (ty:TypeId) (v:Value):Prop:=
 ∀a,Ok N D env a→∀(dst:Option Tmp) (pos:String) (af:Array Edge) (g:Option (Nat×Bool)),(execOp a.eval ⟨dst,op,ty,pos,af,g⟩).run P w= .ok (.value v) w
def Mk (P:Program) (N:Nat) (D:List Deferred) (env:Env) (w:World) (op:Op) (ty:TypeId) (v:Value) (w':World):Prop:=
 ∀a,Ok N D env a→∀(dst:Option Tmp) (pos:String) (af:Array Edge) (g:Option (Nat×Bool)),(execOp a.eval ⟨dst,op,ty,pos,af,g⟩).run P w= .ok (.value v) w'
def St (P:Program) (N:Nat) (D:List Deferred) (env:Env) (w:World) (op:Op) (ty:TypeId) (w':World):Prop:=
 ∀a,Ok N D env a→∀(dst:Option Tmp) (pos:String) (af:Array Edge) (g:Option (Nat×Bool)),(execOp a.eval ⟨dst,op,ty,pos,af,g⟩).run P w= .ok .skip w'
theorem ah {v:Value} (hy:Yl P N D env op ty v) (hd:Nat.blt d N=true) (h:Wl P ops Q rest N D ((d,v) :: env) w):Wl P ops Q (⟨some d,op,ty,pos,af,none⟩ :: rest) N D env w:=
 G4 hd (fun a ha=>hy a ha w _ _ _ _) h
theorem aW {v:Value} (hy:Ld P N D env w op ty v) (hd:Nat.blt d N=true) (h:Wl P ops Q rest N D ((d,v) :: env) w):Wl P ops Q (⟨some d,op,ty,pos,af,none⟩ :: rest) N D env w:=
 G4 hd (fun a ha=>hy a ha _ _ _ _) h
theorem iM {v:Value} (hy:Mk P N D env w op ty v w') (hd:Nat.blt d N=true) (h:Wl P ops Q rest N D ((d,v) :: env) w'):Wl P ops Q (⟨some d,op,ty,pos,af,none⟩ :: rest) N D env w:=
 G4 hd (fun a ha=>hy a ha _ _ _ _) h
theorem rJ (hy:St P N D env w op ty w') (h:Wl P ops Q rest N D env w'):Wl P ops Q (⟨none,op,ty,pos,af,none⟩ :: rest) N D env w:=
 W8 rfl (fun a ha=>hy a ha _ _ _ _) h
theorem bl {x:Operand} {v:Value} (hx:ev env x=some v):Yl P N D env (.move x) ty v:=fun a ha w dst pos af g=>by simp [execOp,ha.eval hx]
theorem cX {x:Operand} {v:Value} (hx:ev env x=some v):Yl P N D env (.assign x) ty v:=fun a ha w dst pos af g=>by simp [execOp,ha.eval hx]
theorem UE {c x y:Operand} {t:Bool} {v:Value} (hc:ev env c=some (.bool t)) (hv:ev env (bif t then x else y)=some v):Yl P N D env (.pick c x y) ty v:=fun a ha w dst pos af g=>by
 cases t<;>simp [execOp,ha.eval hc,asBool]<;>exact ha.eval hv
theorem bi {c x y:Operand} {t:Bool} {v:Value} (hc:ev env c=some (.bool t)) (e:t=true) (hv:ev env x=some v):Yl P N D env (.pick c x y) ty v:=by subst e;exact UE hc hv
theorem bg {c x y:Operand} {t:Bool} {v:Value} (hc:ev env c=some (.bool t)) (e:t=false) (hv:ev env y=some v):Yl P N D env (.pick c x y) ty v:=by subst e;exact UE hc hv
theorem W1 {x:Operand} {v:Value} (hx:ev env x=some v) (hd:Nat.blt d N=true) (h:Wl P ops Q rest N D ((d,v) :: env) w):Wl P ops Q (⟨some d,.move x,ty,pos,af,none⟩ :: rest) N D env w:=ah (bl hx) hd h
theorem W7 {x:Operand} {v:Value} (hx:ev env x=some v) (hd:Nat.blt d N=true) (h:Wl P ops Q rest N D ((d,v) :: env) w):Wl P ops Q (⟨some d,.assign x,ty,pos,af,none⟩ :: rest) N D env w:=ah (cX hx) hd h
theorem cM {x:Operand} {p:Addr} (hx:ev env x=some (.pointer (some p))):Yl P N D env (.nilCheck x) ty (.pointer (some p)):=fun a ha w dst pos af g=>by simp [execOp,ha.eval hx]
theorem zG {x y:Operand} {k:IntKind} {m n:Int} {t u:TypeId} (hx:ev env x=some (.int k m)) (hy:ev env y=some (.int k n)):Yl P N D env (.binOp .add t x y u) ty (.int k (k.wrap (m+n))):=
 fun a ha w dst pos af g=>by simp [execOp,ha.eval hx,ha.eval hy,eqGuard_add,binOp_add,Op.intArith]
theorem yj {x y:Operand} {k:IntKind} {m n:Int} {t u:TypeId} (hx:ev env x=some (.int k m)) (hy:ev env y=some (.int k n)):Yl P N D env (.binOp .sub t x y u) ty (.int k (k.wrap (m - n))):=
 fun a ha w dst pos af g=>by simp [execOp,ha.eval hx,ha.eval hy,eqGuard_sub,binOp_sub,Op.intArith]
theorem Nh {x y:Operand} {k:IntKind} {m n:Int} {t u:TypeId} (hx:ev env x=some (.int k m)) (hy:ev env y=some (.int k n)):Yl P N D env (.binOp .mul t x y u) ty (.int k (k.wrap (m * n))):=
 fun a ha w dst pos af g=>by simp [execOp,ha.eval hx,ha.eval hy,eqGuard_mul,binOp_mul,Op.intArith]
theorem zH {x y:Operand} {k:IntKind} {m n:Int} {t u:TypeId} (hx:ev env x=some (.int k m)) (hy:ev env y=some (.int k n)):Yl P N D env (.binOp .and t x y u) ty (.int k (bits .and k m n)):=
 fun a ha w dst pos af g=>by simp [execOp,ha.eval hx,ha.eval hy,eqGuard_and,binOp_and,intBits_and]
theorem Nk {x y:Operand} {k:IntKind} {m n:Int} {t u:TypeId} (hx:ev env x=some (.int k m)) (hy:ev env y=some (.int k n)):Yl P N D env (.binOp .or t x y u) ty (.int k (bits .or k m n)):=
 fun a ha w dst pos af g=>by simp [execOp,ha.eval hx,ha.eval hy,eqGuard_or,binOp_or,intBits_or]
theorem bA {x y:Operand} {k:IntKind} {m n:Int} {t u:TypeId} (hx:ev env x=some (.int k m)) (hy:ev env y=some (.int k n)):Yl P N D env (.binOp .eql t x y u) ty (.bool (m==n)):=
 fun a ha w dst pos af g=>by simp [execOp,ha.eval hx,ha.eval hy,eqGuard_at_int,binOp_eql]
theorem ig {x y:Operand} {k:IntKind} {m n:Int} {t u:TypeId} (hx:ev env x=some (.int k m)) (hy:ev env y=some (.int k n)):Yl P N D env (.binOp .neq t x y u) ty (.bool (m != n)):=
 fun a ha w dst pos af g=>by simp [execOp,ha.eval hx,ha.eval hy,eqGuard_at_int,binOp_neq]
theorem cg {x y:Operand} {k:IntKind} {m n:Int} {t u:TypeId} (hx:ev env x=some (.int k m)) (hy:ev env y=some (.int k n)):Yl P N D env (.binOp .lss t x y u) ty (.bool (decide (m<n))):=
 fun a ha w dst pos af g=>by simp [execOp,ha.eval hx,ha.eval hy,eqGuard_lss,binOp_lss]
theorem oB {x y:Operand} {k:IntKind} {m n:Int} {t u:TypeId} (hx:ev env x=some (.int k m)) (hy:ev env y=some (.int k n)):Yl P N D env (.binOp .leq t x y u) ty (.bool (decide (m≤n))):=
 fun a ha w dst pos af g=>by simp [execOp,ha.eval hx,ha.eval hy,eqGuard_leq,binOp_leq]
theorem eW {x y:Operand} {k:IntKind} {m n:Int} {t u:TypeId} (hx:ev env x=some (.int k m)) (hy:ev env y=some (.int k n)):Yl P N D env (.binOp .gtr t x y u) ty (.bool (decide (n<m))):=
 fun a ha w dst pos af g=>by simp [execOp,ha.eval hx,ha.eval hy,eqGuard_gtr,binOp_gtr]
theorem jb {x y:Operand} {k:IntKind} {m n:Int} {t u:TypeId} (hx:ev env x=some (.int k m)) (hy:ev env y=some (.int k n)):Yl P N D env (.binOp .geq t x y u) ty (.bool (decide (n≤m))):=
 fun a ha w dst pos af g=>by simp [execOp,ha.eval hx,ha.eval hy,eqGuard_geq,binOp_geq]
theorem Nl {x y:Operand} {k k':IntKind} {m n:Int} {t u:TypeId} (hx:ev env x=some (.int k m)) (hy:ev env y=some (.int k' n)) (h0:0≤n) (h1:n≤k.bits):Yl P N D env (.binOp .shl t x y u) ty (.int k (k.wrap (m * 2 ^ n.toNat))):=
 fun a ha w dst pos af g=>by simp [execOp,ha.eval hx,ha.eval hy,eqGuard_shl,binOp_shl,shift_shl k k' m n h0 h1]
theorem D3 {x y:Operand} {k k':IntKind} {m n:Int} {t u:TypeId} (hx:ev env x=some (.int k m)) (hy:ev env y=some (.int k' n)) (h0:0≤n) (h1:n≤k.bits):Yl P N D env (.binOp .shr t x y u) ty (.int k (m / 2 ^ n.toNat)):=
 fun a ha w dst pos af g=>by simp [execOp,ha.eval hx,ha.eval hy,eqGuard_shr,binOp_shr,shift_shr k k' m n h0 h1]
theorem tq {x y:Operand} {k:IntKind} {m n:Int} {t u:TypeId} (hx:ev env x=some (.int k m)) (hy:ev env y=some (.int k n)) (h0:n≠0):Yl P N D env (.binOp .quo t x y u) ty (.int k (k.wrap (m.tdiv n))):=
 fun a ha w dst pos af g=>by simp [execOp,ha.eval hx,ha.eval hy,eqGuard_quo,binOp_quo,Op.intDiv,h0]
theorem tt {x y:Operand} {k:IntKind} {m n:Int} {t u:TypeId} (hx:ev env x=some (.int k m)) (hy:ev env y=some (.int k n)) (h0:n≠0):Yl P N D env (.binOp .rem t x y u) ty (.int k (m.tmod n)):=
 fun a ha w dst pos af g=>by simp [execOp,ha.eval hx,ha.eval hy,eqGuard_rem,binOp_rem,Op.intDiv,h0]
theorem wrap_i64 (n:Int) (h0: -9223372036854775808≤n) (h1:n≤9223372036854775807):IntKind.i64.wrap n=n:=by rw [IntKind.wrap_i64];omega
theorem wrap_u64 (n:Int) (h0:0≤n) (h1:n≤18446744073709551615):IntKind.u64.wrap n=n:=by rw [IntKind.wrap_u64];omega
theorem wrap_u8 (n:Int) (h0:0≤n) (h1:n≤255):IntKind.u8.wrap n=n:=by rw [IntKind.wrap_u8];omega
theorem bt {op:Op} {v v':Value} (h:Yl P N D env op ty v) (e:v=v'):Yl P N D env op ty v':=e ▸ h
theorem bH {x y:Operand} {m n:Int} {t u:TypeId} (hx:ev env x=some (.int .i64 m)) (hy:ev env y=some (.int .i64 n)) (h0: -9223372036854775808≤m+n) (h1:m+n≤9223372036854775807):Yl P N D env (.binOp .add t x y u) ty (.int .i64 (m+n)):=
 bt (zG hx hy) (by rw [wrap_i64 _ h0 h1])
theorem gk {x y:Operand} {m n:Int} {t u:TypeId} (hx:ev env x=some (.int .i64 m)) (hy:ev env y=some (.int .i64 n)) (h0: -9223372036854775808≤m - n) (h1:m - n≤9223372036854775807):Yl P N D env (.binOp .sub t x y u) ty (.int .i64 (m - n)):=
 bt (yj hx hy) (by rw [wrap_i64 _ h0 h1])
theorem D2 {x y:Operand} {m n:Int} {t u:TypeId} (hx:ev env x=some (.int .i64 m)) (hy:ev env y=some (.int .i64 n)) (h0: -9223372036854775808≤m * n) (h1:m * n≤9223372036854775807):Yl P N D env (.binOp .mul t x y u) ty (.int .i64 (m * n)):=
 bt (Nh hx hy) (by rw [wrap_i64 _ h0 h1])
theorem ja {x:Operand} {k k':IntKind} {n:Int} {s t:TypeId} {u:TypeDesc} (hu:P.underlying s=some u) (ht:P.underlying t=some (.int k)) (hx:ev env x=some (.int k' n)):Yl P N D env (.convert s t x) ty (.int k (k.wrap n)):=fun a ha w dst pos af g=>by
 simp [execOp,ha.eval hx,convert,run_underlying hu,run_underlying ht,Conv.intToInt]
theorem ahX {x:Operand} {k:FloatKind} {k':IntKind} {n:Int} {s t:TypeId} {u:TypeDesc} (hu:P.underlying s=some u) (ht:P.underlying t=some (.float k)) (hx:ev env x=some (.int k' n)):Yl P N D env (.convert s t x) ty (.float k (k.nearest n)):=fun a ha w dst pos af g=>by
 simp [execOp,ha.eval hx,convert,run_underlying hu,run_underlying ht,Conv.intToFloat]
theorem run_equalIn_bool {t:TypeId} (ht:P.underlying t=some .bool) (m n:Bool) (w:World):(Op.equalIn Op.maxDepth t (.bool m) (.bool n)).run P w= .ok (m==n) w:=by
 show (Op.equalIn (9999+1) t (.bool m) (.bool n)).run P w=_;unfold Op.equalIn;simp [run_underlying ht]
theorem fI {x:Operand} {b:Bool} {t:TypeId} (hx:ev env x=some (.bool b)):Yl P N D env (.unOp .not t x) ty (.bool (!b)):=fun a ha w dst pos af g=>by simp [execOp,ha.eval hx,Op.unary]
theorem ah6 {x y:Operand} {m n:Bool} {t u:TypeId} (ht:P.underlying t=some .bool) (hx:ev env x=some (.bool m)) (hy:ev env y=some (.bool n)):Yl P N D env (.binOp .neq t x y u) ty (.bool (m != n)):=fun a ha w dst pos af g=>by
 simp [execOp,ha.eval hx,ha.eval hy,eqGuard_at_bool,binOp,Op.equal,run_equalIn_bool ht,bne]
theorem GF {x y:Operand} {k:FloatKind} {m n:Nat} {t u:TypeId} (hx:ev env x=some (.float k m)) (hy:ev env y=some (.float k n)):Yl P N D env (.binOp .eql t x y u) ty (.bool (k.format.order m n==some .eq)):=
 fun a ha w dst pos af g=>by simp [execOp,ha.eval hx,ha.eval hy,eqGuard_at_float,binOp,Op.floatCmp]
theorem zJ {x y:Operand} {k:FloatKind} {m n:Nat} {t u:TypeId} (hx:ev env x=some (.float k m)) (hy:ev env y=some (.float k n)):Yl P N D env (.binOp .neq t x y u) ty (.bool (k.format.order m n != some .eq)):=
 fun a ha w dst pos af g=>by simp [execOp,ha.eval hx,ha.eval hy,eqGuard_at_float,binOp,Op.floatCmp]
theorem UD {x y:Operand} {k:FloatKind} {m n:Nat} {t u:TypeId} (hx:ev env x=some (.float k m)) (hy:ev env y=some (.float k n)):Yl P N D env (.binOp .lss t x y u) ty (.bool (k.format.order m n==some .lt)):=
 fun a ha w dst pos af g=>by simp [execOp,ha.eval hx,ha.eval hy,eqGuard_at_float,binOp,Op.floatCmp]
theorem ah2 {x y:Operand} {k:FloatKind} {m n:Nat} {t u:TypeId} (hx:ev env x=some (.float k m)) (hy:ev env y=some (.float k n)):Yl P N D env (.binOp .gtr t x y u) ty (.bool (k.format.order m n==some .gt)):=
 fun a ha w dst pos af g=>by simp [execOp,ha.eval hx,ha.eval hy,eqGuard_at_float,binOp,Op.floatCmp]
theorem F8 (l:List UInt8):(⟨l.toArray⟩:ByteArray).toList=l:=by rw [Lib.toList_data]
theorem mG (l:List UInt8):(⟨l.toArray⟩:ByteArray).size=l.length:=by rw [Lib.size_eq]
theorem fu {x y:Operand} {m n:List UInt8} {t u:TypeId} (hx:ev env x=some (str m)) (hy:ev env y=some (str n)):Yl P N D env (.binOp .eql t x y u) ty (.bool (m==n)):=fun a ha w dst pos af g=>by
 simp [execOp,ha.eval hx,ha.eval hy,str,eqGuard_at_string,binOp,Op.stringOp,F8]
theorem qO {x y:Operand} {m n:List UInt8} {t u:TypeId} (hx:ev env x=some (str m)) (hy:ev env y=some (str n)):Yl P N D env (.binOp .neq t x y u) ty (.bool (m != n)):=fun a ha w dst pos af g=>by
 simp [execOp,ha.eval hx,ha.eval hy,str,eqGuard_at_string,binOp,Op.stringOp,F8,bne]
theorem ah3 {x y:Operand} {m n:List UInt8} {t u:TypeId} (hx:ev env x=some (str m)) (hy:ev env y=some (str n)):Yl P N D env (.binOp .lss t x y u) ty (.bool (Op.bytesLess m n)):=fun a ha w dst pos af g=>by
 simp [execOp,ha.eval hx,ha.eval hy,str,eqGuard_at_string,binOp,Op.stringOp,F8]
theorem ah1 {x y:Operand} {m n:List UInt8} {t u:TypeId} (hx:ev env x=some (str m)) (hy:ev env y=some (str n)):Yl P N D env (.binOp .geq t x y u) ty (.bool (!Op.bytesLess m n)):=fun a ha w dst pos af g=>by
 simp [execOp,ha.eval hx,ha.eval hy,str,eqGuard_at_string,binOp,Op.stringOp,F8]
theorem afR (m n:List UInt8):(⟨m.toArray⟩:ByteArray)++⟨n.toArray⟩=⟨(m++n).toArray⟩:=by
 apply ByteArray.ext;simp
theorem dx {x y:Operand} {m n:List UInt8} {t u:TypeId} (hx:ev env x=some (str m)) (hy:ev env y=some (str n)) (hl:m.length+n.length≤9223372036854775807):Yl P N D env (.binOp .add t x y u) ty (str (m++n)):=fun a ha w dst pos af g=>by
 have h1:¬(((m.length+n.length:Nat):Int)>IntKind.i64.max):=by
  have:IntKind.i64.max=9223372036854775807:=by decide
  omega
 simp only [execOp,ha.eval hx,ha.eval hy,str,eqGuard_add,binOp,Op.stringOp,mG,afR,if_neg h1];simp
theorem dF {x:Operand} {l:List UInt8} {t:TypeId} (ht:P.underlying t=some .string) (hl:l.length≤9223372036854775807) (hx:ev env x=some (str l)):Yl P N D env (.call ⟨.builtin .len,#[x],#[t]⟩) ty (.int .i64 l.length):=fun a ha w dst pos af g=>by
 simp [execOp,resolve,invoke,builtin,Builtin.len_,ha.eval hx,str,run_underlying ht,mG,goInt]
theorem cG {x:Operand} {A:Option Addr} {n c:Nat} {t e:TypeId} (ht:P.underlying t=some (.slice e)) (hl:n≤9223372036854775807) (hx:ev env x=some (.slice A n c)):Yl P N D env (.call ⟨.builtin .len,#[x],#[t]⟩) ty (.int .i64 n):=fun a ha w dst pos af g=>by
 simp [execOp,resolve,invoke,builtin,Builtin.len_,ha.eval hx,run_underlying ht,goInt]
theorem zI {x y:Operand} {k:IntKind} {m n:Int} {t u:TypeId} (hx:ev env x=some (.int k m)) (hy:ev env y=some (.int k n)):Yl P N D env (.call ⟨.builtin .min,#[x,y],#[t,u]⟩) ty (.int k (min m n)):=fun a ha w dst pos af g=>by
 simp [execOp,resolve,invoke,builtin,Builtin.min_,Builtin.min2,ha.eval hx,ha.eval hy];omega
theorem ah4 {x y:Operand} {k:IntKind} {m n:Int} {t u:TypeId} (hx:ev env x=some (.int k m)) (hy:ev env y=some (.int k n)):Yl P N D env (.call ⟨.builtin .max,#[x,y],#[t,u]⟩) ty (.int k (max m n)):=fun a ha w dst pos af g=>by
 simp [execOp,resolve,invoke,builtin,Builtin.max_,Builtin.max2,ha.eval hx,ha.eval hy];omega
theorem eK {x i:Operand} {l:List UInt8} {k:IntKind} {n:Int} {t:TypeId} (ht:P.underlying t=some .string) (hx:ev env x=some (str l)) (hi:ev env i=some (.int k n)) (h0:0≤n) (h1:n<l.length):Yl P N D env (.index t x i) ty (.int .u8 (l.getD n.toNat 0).toNat):=fun a ha w dst pos af g=>by
 have hlt:n.toNat<l.length:=by omega
 have hg:(⟨l.toArray⟩:ByteArray)[n.toNat]? =some (l.getD n.toNat 0):=by
  have hs:n.toNat<(⟨l.toArray⟩:ByteArray).size:=by rw [mG];exact hlt
  have h1:(⟨l.toArray⟩:ByteArray)[n.toNat]? =some ((⟨l.toArray⟩:ByteArray)[n.toNat]'hs):=by
   show (if h:n.toNat<(⟨l.toArray⟩:ByteArray).size then _ else _)=_;rw [dif_pos hs]
  rw [h1];have h2:l.getD n.toNat 0=l[n.toNat]:=by simp [List.getD,hlt]
  rw [h2];rfl
 simp [execOp,Instr.index,ha.eval hx,ha.eval hi,str,asIntOf,run_underlying ht,h0,hg]
theorem IU (l:List UInt8) (a b:Nat):(⟨l.toArray⟩:ByteArray).extract a b=⟨((l.take b).drop a).toArray⟩:=by
 rw [Lib.extract_eq];simp [List.drop_take]
theorem run_sliceBound {k:IntKind} {i:Int} {y:Nat} {c:BoundsCode} (h0:0≤i) (h1:i≤y) (w:World):(Instr.sliceBound (.int k i) y c).run P w= .ok i.toNat w:=by
 simp [Instr.sliceBound,asIntOf,h0,h1]
theorem D4 {x i j:Operand} {l:List UInt8} {k k':IntKind} {m n:Int} {t:TypeId} (ht:P.underlying t=some .string) (hx:ev env x=some (str l)) (hi:ev env i=some (.int k m)) (hj:ev env j=some (.int k' n)) (h0:0≤m) (h1:m≤n) (h2:n≤l.length):Yl P N D env (.slice t x (some i) (some j) none) ty (str ((l.take n.toNat).drop m.toNat)):=fun a ha w dst pos af g=>by
 have h3:m≤(n.toNat:Int):=by omega
 have h4:0≤n:=by omega
 simp [execOp,Instr.sliceAt,Instr.slice,Instr.sliceBounds,ha.eval hx,ha.eval hi,ha.eval hj,str,run_underlying ht,mG,run_sliceBound h0 h3,run_sliceBound h4 h2,IU]
theorem oC {x i:Operand} {l:List UInt8} {k:IntKind} {m:Int} {t:TypeId} (ht:P.underlying t=some .string) (hx:ev env x=some (str l)) (hi:ev env i=some (.int k m)) (h0:0≤m) (h1:m≤l.length):Yl P N D env (.slice t x (some i) none none) ty (str (l.drop m.toNat)):=fun a ha w dst pos af g=>by
 have h2:(l.take l.length).drop m.toNat=l.drop m.toNat:=by rw [List.take_length]
 simp [execOp,Instr.sliceAt,Instr.slice,Instr.sliceBounds,Instr.sliceBound,ha.eval hx,ha.eval hi,str,asIntOf,run_underlying ht,mG,h0,h1,IU,h2]
theorem rz {x j:Operand} {l:List UInt8} {k:IntKind} {n:Int} {t:TypeId} (ht:P.underlying t=some .string) (hx:ev env x=some (str l)) (hj:ev env j=some (.int k n)) (h0:0≤n) (h2:n≤l.length):Yl P N D env (.slice t x none (some j) none) ty (str (l.take n.toNat)):=fun a ha w dst pos af g=>by
 simp [execOp,Instr.sliceAt,Instr.slice,Instr.sliceBounds,Instr.sliceBound,ha.eval hx,ha.eval hj,str,asIntOf,run_underlying ht,mG,h0,h2,IU]
theorem bP {x:Operand} {vs:Array Value} {i:Nat} {v:Value} (hx:ev env x=some (.tuple vs)) (hv:vs[i]? =some v):Yl P N D env (.extract x i) ty v:=fun a ha w dst pos af g=>by
 simp [execOp,ha.eval hx,Instr.extract,hv]
theorem GH {fn:Fn} {l c:Array Operand} {vl vc:List Value} (hl:kI env l.toList=some vl) (hc:kI env c.toList=some vc):Yl P N D env (.makeFunc fn l c) ty (.func fn vl.toArray vc.toArray):=fun a ha w dst pos af g=>by
 have h1:l.map a.eval=vl.toArray:=yL ha hl;have h2:c.map a.eval=vc.toArray:=yL ha hc;simp [execOp,Instr.makeFunc,h1,h2]
theorem int_eq {k:IntKind} {m n:Int} (h:m=n):Value.int k m=Value.int k n:=by rw [h]
theorem dw {l m:List UInt8} (h:l=m):str l=str m:=by rw [h]
theorem aP {l m:Bool} (h:l=m):Value.bool l=Value.bool m:=by rw [h]
def be (P:Program) (f:FuncId) (args:List Value) (w:World) (R:Value→World→Prop):Prop:=Calls P f args.toArray w fun e w'=>∃v,e= .returned v∧R v w'
theorem be.mono {f:FuncId} {args:List Value} {R R':Value→World→Prop} (h:be P f args w R) (hr:∀v w',R v w'→R' v w'):be P f args w R':=
 Calls.mono h fun _ _ ⟨v,e,hv⟩=>⟨v,e,hr v _ hv⟩
def bC (P : Program) (f : FuncId) : Prop := ∃ fn, P.funcs[f]? = some fn ∧ (fn.name == "runtime.NumGoroutine") = false ∧ fn.body.isNone = false
theorem Mx {f:FuncId} (hf:bC P f) (args:Array Value) (w:World):(callFunc f args).run P w= .ok (.enter f args) w:=by
 obtain ⟨fn,h1,h2,h3⟩:=hf
 have h4 : ¬ (fn.name = "runtime.NumGoroutine") := by simpa using h2
 have h5:¬(fn.body=Option.none):=by intro e;rw [e] at h3;cases h3
 simp [callFunc,h1,h4,h5]
theorem WW {x:Operand} {f:FuncId} {xs:Array Operand} {ts:Array TypeId} {l c:Array Value} {vs:List Value} {R:Ending→World→Prop} (hf:bC P f) (hx:ev env x=some (.func (.func f) l c)) (hxs:kI env xs.toList=some vs)
 (hc:Calls P f (l++vs.toArray++c) w R) (hd:Nat.blt d N=true) (h:∀v w',R (.returned v) w'→Wl P ops Q rest N D ((d,v) :: env) w') (hp:∀p w',R (.panicked p) w'→Wq Q (.panic p) N D env w') (ho:∀w',¬R .outgrown w'):
 Wl P ops Q (⟨some d,.call ⟨.value x,xs,ts⟩,ty,pos,af,none⟩ :: rest) N D env w:=fun a ha=>by
 unfold wpList
 simp only [Region.wanted,if_true]
 refine .inl ?_
 have hargs:xs.map a.eval=vs.toArray:=yL ha hxs
 unfold Oper.wp
 simp only [execOp,resolve,ha.eval hx,hargs,Deferred.ofValue,Sem.run_bind,Sem.run_pure,Result.andThen_ok,invoke,Mx hf,Oper.upon_enter]
 refine hc.mono fun e w' hR=>?_
 cases e with
 |returned v=>exact h v w' hR _ (ha.put hd v)
 |panicked p=>exact hp p w' hR _ ha
 |outgrown=>exact absurd hR (ho w')
theorem aS {x:Operand} {f:FuncId} {xs:Array Operand} {ts:Array TypeId} {l c:Array Value} {vs:List Value} {R:Value→World→Prop} (hf:bC P f) (hx:ev env x=some (.func (.func f) l c)) (hxs:kI env xs.toList=some vs)
 (hc:be P f (l.toList++vs++c.toList) w R) (hd:Nat.blt d N=true) (h:∀v w',R v w'→Wl P ops Q rest N D ((d,v) :: env) w'):
 Wl P ops Q (⟨some d,.call ⟨.value x,xs,ts⟩,ty,pos,af,none⟩ :: rest) N D env w:=
 WW hf hx hxs (R:=fun e w'=>∃v,e= .returned v∧R v w') (by
  have h1:(l.toList++vs++c.toList).toArray=l++vs.toArray++c:=by simp
  unfold be at hc
  rw [h1] at hc;exact hc) hd (fun v w' ⟨u,e,hu⟩=>by cases e;exact h _ w' hu) (fun p w' ⟨u,e,hu⟩=>by cases e) (fun w' ⟨u,e,hu⟩=>by cases e)
theorem ahZ {x:Operand} {f:FuncId} {xs:Array Operand} {ts:Array TypeId} {vs:List Value} {v:Value} (hr:∀w,(callFunc f vs.toArray).run P w= .ok (.value v) w) (hx:ev env x=some (.func (.func f) #[] #[])) (hxs:kI env xs.toList=some vs):Yl P N D env (.call ⟨.value x,xs,ts⟩) ty v:=fun a ha w dst pos af g=>by
 have hargs:xs.map a.eval=vs.toArray:=yL ha hxs;simp [execOp,resolve,ha.eval hx,hargs,Deferred.ofValue,invoke,hr]
end
end Go.Bw
namespace Go.Bw
open Go.RowKit
set_option linter.unusedVariables false
set_option linter.unusedSimpArgs false
def dq (l:List UInt8):List Value:=l.map fun c=> .int .u8 c.toNat
def Rd (w:World) (sz:Nat) (A:Option Addr) (n:Nat) (xs:List Value):Prop:=
 xs.length=n * sz∧(0<xs.length→∃p,A=some p∧∀(j:Nat) (u:Value),xs[j]? =some u→w.cell? (p.add j)=some u)
theorem zZ {w:World} {p:Addr} {v:Value} (h:w.cell? p=some v):p.block<w.heap.size:=World.block_lt_of_cell? w _ h
theorem ip {w w':World} (hb:Below w.heap.size w w') {p:Addr} {v:Value} (h:w.cell? p=some v):w'.cell? p=some v:=(hb.cell (zZ h)).trans h
theorem Rd.below {w w':World} {sz:Nat} {A:Option Addr} {n:Nat} {xs:List Value} (h:Rd w sz A n xs) (hb:Below w.heap.size w w'):Rd w' sz A n xs:=
 ⟨h.1,fun hn=>let ⟨p,e,hc⟩:=h.2 hn;⟨p,e,fun j u hu=>ip hb (hc j u hu)⟩⟩
theorem Rd.nil (w:World) (sz:Nat) (A:Option Addr):Rd w sz A 0 []:=⟨by simp,fun h=>absurd h (by simp)⟩
theorem lL (a:Addr) (i j:Nat):(a.add i).add j=a.add (i+j):=by
 unfold Addr.add;by_cases hi:i=0<;>by_cases hj:j=0<;>simp [hi,hj,Nat.add_assoc]
theorem Rd.take {w:World} {sz:Nat} {A:Option Addr} {n m:Nat} {xs:List Value} (h:Rd w sz A n xs) (hm:m≤n):Rd w sz A m (xs.take (m * sz)):=by
 have hle:m * sz≤n * sz:=Nat.mul_le_mul_right sz hm;refine ⟨by rw [List.length_take,h.1];omega,fun hn=>?_⟩;have hx:0<xs.length:=by rw [List.length_take] at hn;omega
 obtain ⟨p,e,hc⟩:=h.2 hx;refine ⟨p,e,fun j u hu=>hc j u ?_⟩;rw [List.getElem?_take] at hu
 split at hu
 · exact hu
 · cases hu
theorem Rd.drop {w:World} {sz:Nat} {A:Option Addr} {n m c:Nat} {xs:List Value} (h:Rd w sz A n xs) (hm:m≤n) (hc:n≤c):Rd w sz (if c=m then A else A.map (·.add (m * sz))) (n - m) (xs.drop (m * sz)):=by
 refine ⟨by rw [List.length_drop,h.1,Nat.sub_mul],fun hn=>?_⟩;rw [List.length_drop,h.1] at hn
 have hlt:m<n:=by
  rcases Nat.lt_or_ge m n with h1|h1
  · exact h1
  · have:=Nat.mul_le_mul_right sz h1;omega
 obtain ⟨p,rfl,hcell⟩:=h.2 (by rw [h.1];omega);rw [if_neg (by omega)];refine ⟨p.add (m * sz),rfl,fun j u hu=>?_⟩;rw [lL];rw [List.getElem?_drop] at hu;exact hcell _ u hu
theorem Rd.one {w:World} {A:Option Addr} {n:Nat} {xs:List Value} (h:Rd w 1 A n xs) {i:Nat} (hi:i<n):∃p v,A=some p∧xs[i]? =some v∧w.cell? (p.add i)=some v:=by
 have hl:i<xs.length:=by rw [h.1];omega
 obtain ⟨p,e,hc⟩:=h.2 (by omega);exact ⟨p,xs[i],e,List.getElem?_eq_getElem hl,hc i _ (List.getElem?_eq_getElem hl)⟩
theorem gH {w:World} {p:Addr} {k:Nat} {v:Value} (h:w.cell? (p.add k)=some v):w.cell? (p.add ((k:Int).toNat * 1))=some v:=by rw [Int.toNat_natCast,Nat.mul_one];exact h
theorem fC {w:World} {base:Nat} {e:TypeId} {sz n c:Nat} {A:Option Addr} {xs:List Value} (h:w.ownsRow base e sz (.slice A n c) n xs):Rd w sz A n xs:=by
 refine ⟨h.1,fun hn=>?_⟩
 rcases h.2 with ⟨hv,h0⟩|⟨g,cap,cur,hv,hg,hh,hnc,hcm,hcs,hx⟩
 · have:=h.1;rw [h0] at this;omega
 · injection hv with hA h2 h3
   subst hA;refine ⟨_,rfl,fun j u hu=>?_⟩;have hadd:(⟨g,0,none⟩:Addr).add j=⟨g,j,none⟩:=by unfold Addr.add;split<;>simp_all
   rw [hadd];rw [←hx,List.getElem?_take] at hu
   split at hu
   · simp only [World.cell?,hh]
     simpa using hu
   · cases hu
section
variable {P:Program} {N:Nat} {D:List Deferred} {env env':Env} {a:Act} {w w':World} {Q:Exit→Act→World→Prop}
variable {ops:Array Oper} {rest:List Oper} {d:Nat} {op:Op} {ty:TypeId} {pos:String} {af:Array Edge}
theorem adJ {x:Operand} {v:Value} {e:TypeId} (hx:ev env x=some v):Mk P N D env w (.box e x) ty (.pointer (some ⟨w.heap.size,0,none⟩)) (w.alloc (.cells v.cells e)):=fun a ha dst pos af g=>by
 simp [execOp,ha.eval hx,Instr.box,newVar,newRow]
def One (P:Program) (t:TypeId):Prop:=∃d,P.underlying t=some d∧(match d with| .struct _| .array _ _=>false|_=>true)=true∧(P.info? t).map (·.size)=some 1
theorem aft {t:TypeId} (ht:One P t) (w:World):(isAgg t).run P w= .ok false w:=by
 obtain ⟨d,h1,h2,h3⟩:=ht
 cases d<;>simp_all [isAgg,run_underlying h1]
theorem afu {t:TypeId} {p:Addr} {v:Value} (ht:One P t) (hc:w.cell? p=some v):(loadVar t p).run P w= .ok v w:=by
 simp [loadVar,aft ht,hc]
theorem aI {x:Operand} {t:TypeId} {p:Addr} {v:Value} (ht:One P t) (hx:ev env x=some (.pointer (some p))) (hc:w.cell? p=some v):Ld P N D env w (.load t x) ty v:=fun a ha dst pos af g=>by
 simp [execOp,ha.eval hx,Instr.loadAt,Instr.sureAddr,afu ht hc]
theorem zt {x y:Operand} {t:TypeId} {p:Addr} {u v:Value} (ht:One P t) (hx:ev env x=some (.pointer (some p))) (hy:ev env y=some v) (h1:v.oneCell'=true) (hc:w.cell? p=some u) (hf:w.frozen? p=false):St P N D env w (.store t x y) ty (w.setCell p v):=fun a ha dst pos af g=>by
 obtain ⟨dd,h2,h3,h4⟩:=ht;have hcs:v.cells= #[v]:=by cases v<;>simp_all [Value.cells,Value.oneCell']
 obtain ⟨i,hi,hs⟩:=Option.map_eq_some_iff.1 h4;have h5:(sizeOf t).run P w= .ok 1 w:=by simp [sizeOf,typeInfo,hi,hs]
 have h6:p.add 0=p:=by simp [Addr.add]
 simp [execOp,ha.eval hx,ha.eval hy,Instr.storeAt,Instr.sureAddr,storeVar,hcs,h5,storeCells,h6,run_store P w p v _ h1,stored,hc,hf]
theorem dM {x:Operand} {t:TypeId} {p:Addr} {cs:List Value} {f:Array Field} (ht:P.underlying t=some (.struct f)) (hs:(P.info? t).map (·.size)=some cs.length) (hx:ev env x=some (.pointer (some p))) (hc:∀(j:Nat) (u:Value),cs[j]? =some u→w.cell? (p.add j)=some u):Ld P N D env w (.load t x) ty (.agg cs.toArray):=fun a ha dst pos af g=>by
 obtain ⟨i,hi,hsz⟩:=Option.map_eq_some_iff.1 hs;have h5:(sizeOf t).run P w= .ok cs.length w:=by simp [sizeOf,typeInfo,hi,hsz]
 have h6:=run_loadCells_list (P:=P) w p cs hc;simp [execOp,ha.eval hx,Instr.loadAt,Instr.sureAddr,loadVar,isAgg,run_underlying ht,h5,h6]
theorem cx {x i:Operand} {t e:TypeId} {sz:Nat} {p:Addr} {n c:Nat} {k:IntKind} {m:Int} (ht:P.underlying t=some (.slice e)) (hs:(P.info? e).map (·.size)=some sz) (hx:ev env x=some (.slice (some p) n c)) (hi:ev env i=some (.int k m)) (h0:0≤m) (h1:m<n):
 Yl P N D env (.indexAddr t x i) ty (.pointer (some (p.add (m.toNat * sz)))):=fun a ha w dst pos af g=>by
 obtain ⟨ie,hi2,hsz⟩:=Option.map_eq_some_iff.1 hs
 have h5:∀w,(sizeOf e).run P w= .ok sz w:=fun w=>by simp [sizeOf,typeInfo,hi2,hsz]
 simp [execOp,Instr.indexAt,ha.eval hx,ha.eval hi,asIntOf,run_underlying ht,h0,h1,h5]
theorem run_sizeOf {e:TypeId} {sz:Nat} (hs:(P.info? e).map (·.size)=some sz) (w:World):(sizeOf e).run P w= .ok sz w:=by
 obtain ⟨ie,hi2,hsz⟩:=Option.map_eq_some_iff.1 hs;simp [sizeOf,typeInfo,hi2,hsz]
theorem GJ {x j:Operand} {A:Option Addr} {n c:Nat} {k:IntKind} {m:Int} {t e:TypeId} {sz:Nat} (ht:P.underlying t=some (.slice e)) (hs:(P.info? e).map (·.size)=some sz) (hx:ev env x=some (.slice A n c)) (hj:ev env j=some (.int k m)) (h0:0≤m) (h1:m≤c):
 Yl P N D env (.slice t x none (some j) none) ty (.slice A m.toNat c):=fun a ha w dst pos af g=>by
 have hA:(A.map fun x=>x.add 0)=A:=by cases A<;>simp [Addr.add]
 simp [execOp,Instr.sliceAt,Instr.slice,Instr.sliceBounds,ha.eval hx,ha.eval hj,run_underlying ht,run_sliceBound h0 h1,run_sizeOf hs,hA]
theorem UF {x j:Operand} {p:Addr} {k:IntKind} {m:Int} {t e:TypeId} {sz len:Nat} (ht:P.underlying t=some (.array len e)) (hs:(P.info? e).map (·.size)=some sz) (hx:ev env x=some (.pointer (some p))) (hj:ev env j=some (.int k m)) (h0:0≤m) (h1:m≤len):
 Yl P N D env (.slice t x none (some j) none) ty (.slice (some p) m.toNat len):=fun a ha w dst pos af g=>by
 have hA:p.add 0=p:=by simp [Addr.add]
 simp [execOp,Instr.sliceAt,Instr.sureAddr,Instr.sliceBounds,ha.eval hx,ha.eval hj,run_underlying ht,run_sliceBound h0 h1,run_sizeOf hs,hA]
theorem nr {x i:Operand} {A:Option Addr} {n c:Nat} {k:IntKind} {m:Int} {t e:TypeId} {sz:Nat} (ht:P.underlying t=some (.slice e)) (hs:(P.info? e).map (·.size)=some sz) (hx:ev env x=some (.slice A n c)) (hi:ev env i=some (.int k m)) (h0:0≤m) (h1:m≤n):
 Yl P N D env (.slice t x (some i) none none) ty (.slice (if c=m.toNat then A else A.map (·.add (m.toNat * sz))) (n - m.toNat) (c - m.toNat)):=fun a ha w dst pos af g=>by
 simp [execOp,Instr.sliceAt,Instr.slice,Instr.sliceBounds,ha.eval hx,ha.eval hi,run_underlying ht,run_sliceBound h0 h1,run_sizeOf hs]
theorem dK {x y:Operand} {t e:TypeId} {z:Value} {sz bytes:Nat} (ht:P.underlying t=some (.slice e)) (hi:(P.info? e).map (fun i=>(i.zero,i.size,i.bytes))=some (some z,sz,bytes)) (hz:z.cells.size=sz) (hsz:0<sz)
 (base:Nat) {v:Value} {n:Nat} {xs:List Value} (hx:ev env x=some v) (hown:w.ownsRow base e sz v n xs)
 {A:Option Addr} {m c:Nat} {news:List Value} (hy:ev env y=some (.slice A m c)) (hr:Rd w sz A m news) (h1:∀u∈news,u.oneCell'=true)
 (h63:n+m≤maxLen) (hbytes:(n+m) * bytes≤140737488355328) (hbase:base≤w.heap.size) (hd:Nat.blt d N=true)
 (h:∀v' w',w'.ownsRow base e sz v' (n+m) (xs++news)→w.grownBy w' v.ownBlock→(v'.ownBlock=v.ownBlock∨v'.ownBlock=some w.heap.size)→Wl P ops Q rest N D ((d,v') :: env) w'):
 Wl P ops Q (⟨some d,.call ⟨.builtin .append,#[x,y],#[t,t]⟩,ty,pos,af,none⟩ :: rest) N D env w:=by
 obtain ⟨i,hi0,hi1⟩:=Option.map_eq_some_iff.1 hi
 simp only [Prod.mk.injEq] at hi1
 obtain ⟨hz0,hs0,hb0⟩:=hi1
 have key:∃v' w',(Builtin.append_ #[t,t] ty #[v,.slice A m c]).run P w= .ok v' w'∧w'.ownsRow base e sz v' (n+m) (xs++news)∧w.grownBy w' v.ownBlock∧(v'.ownBlock=v.ownBlock∨v'.ownBlock=some w.heap.size):=by
  rcases Nat.eq_zero_or_pos news.length with h0|h0
  · have hm:m=0:=by
     have:=hr.1;rw [h0] at this
     rcases Nat.eq_zero_or_pos m with e|e
     · exact e
     · have:=Nat.mul_pos e hsz;omega
    subst hm;have hn:news= []:=List.eq_nil_of_length_eq_zero h0;subst hn
    cases A with
    |none=>
     refine ⟨v,w,?_,by simpa using hown,World.grownBy.refl w _,.inl rfl⟩
     rcases hown.2 with ⟨rfl,rfl⟩|⟨g,cap,cur,rfl,_,_,hnc,_⟩
     · simp [Builtin.append_,run_underlying ht,sizeOf,typeInfo,hi0,Builtin.lenOf,Builtin.firstCells]
     · simp [Builtin.append_,run_underlying ht,sizeOf,typeInfo,hi0,Builtin.lenOf,Builtin.firstCells,hnc,storeCells]
    |some ad=>
     obtain ⟨v',w',hrun,h2,h3,_,h5⟩:=run_append_own_at (P:=P) w base t ty e i z sz bytes ht hi0 hz0 hs0 hb0 hz hsz v n xs hown ad 0 c [] (by simp) (by simp) (by simp) h63 hbytes hbase;exact ⟨v',w',hrun,h2,h3,h5⟩
  · obtain ⟨ad,rfl,hc⟩:=hr.2 h0
    obtain ⟨v',w',hrun,h2,h3,_,h5⟩:=run_append_own_at (P:=P) w base t ty e i z sz bytes ht hi0 hz0 hs0 hb0 hz hsz v n xs hown ad m c news hr.1 hc h1 h63 hbytes hbase;exact ⟨v',w',hrun,h2,h3,h5⟩
 obtain ⟨v',w',hrun,h2,h3,h4⟩:=key
 refine iM (w':=w') (v:=v') (fun a ha dst pos af g=>?_) hd (h v' w' h2 h3 h4)
 simp [execOp,resolve,invoke,builtin,ha.eval hx,ha.eval hy,hrun]
def xP:Nat→List Value→List (Nat×Value)
 |_,[]=> []
 |i,v :: r=>(i,v) :: xP (i+1) r
theorem MC:∀(cs:List Value) (k off:Nat) (C:Array Value),off+k+cs.length≤C.size→
 ((cs.zipIdx k).foldl (fun X (p:Value×Nat)=>X.setIfInBounds (off+p.2) p.1) C).toList=C.toList.take (off+k)++cs++C.toList.drop (off+k+cs.length)
 | [],k,off,C,hl=>by simp
 |c :: cs,k,off,C,hl=>by
  simp only [List.length_cons] at hl;have hlt:off+k<C.toList.length:=by simp;omega
  rw [List.zipIdx_cons,List.foldl_cons,MC cs (k+1) off _ (by simp;omega)];simp only [Array.toList_setIfInBounds]
  have h1:(C.toList.set (off+k) c).take (off+(k+1))=C.toList.take (off+k)++ [c]:=by
   rw [show off+(k+1)=off+k+1 by omega,List.take_succ_eq_append_getElem (by simpa using hlt),List.take_set_of_le (Nat.le_refl _)];simp
  have h2:(C.toList.set (off+k) c).drop (off+(k+1)+cs.length)=C.toList.drop (off+k+(c :: cs).length):=by
   rw [List.drop_set_of_lt (by omega)]
   congr 1;simp;omega
  rw [h1,h2];simp
theorem Pn {sz:Nat}:∀(vs:List Value) (i:Nat) (C:Array Value),(∀v∈vs,v.cells.size=sz)→(i+vs.length) * sz≤C.size→
 ∃C':Array Value,Instr.fill (fun i=>some (i * sz,sz)) C (xP i vs)=some C'∧C'.size=C.size∧C'.toList=C.toList.take (i * sz)++(vs.flatMap fun v=>v.cells.toList)++C.toList.drop ((i+vs.length) * sz)
 | [],i,C,_,_=>⟨C,by simp [xP,Instr.fill],rfl,by simp⟩
 |v :: vs,i,C,hv,hl=>by
  have h1:v.cells.size=sz:=hv v (by simp);simp only [List.length_cons] at hl;have e1:(i+(vs.length+1)) * sz=i * sz+sz+vs.length * sz:=by rw [Nat.add_mul,Nat.add_mul];omega
  have hb:i * sz+v.cells.size≤C.size:=by
   have:=Nat.zero_le (vs.length * sz);omega
  obtain ⟨C1,hC1⟩:∃C1:Array Value,C1=(v.cells.zipIdx.foldl (fun cs (c,j)=>cs.setIfInBounds (i * sz+j) c) C):=⟨_,rfl⟩
  have hL:C1.toList=C.toList.take (i * sz)++v.cells.toList++C.toList.drop (i * sz+v.cells.toList.length):=by
   rw [hC1,←Array.foldl_toList,Array.toList_zipIdx];have:=MC v.cells.toList 0 (i * sz) C (by simpa using hb)
   simpa using this
  have hS:C1.size=C.size:=by
   have h2:=congrArg List.length hL;simp only [List.length_append,List.length_take,List.length_drop,Array.length_toList] at h2;omega
  obtain ⟨C',h3,h4,h5⟩:=Pn vs (i+1) C1 (fun u hu=>hv u (List.mem_cons_of_mem _ hu)) (by rw [hS,show i+1+vs.length=i+(vs.length+1) by omega];exact hl);refine ⟨C',?_,h4.trans hS,?_⟩
  · show Instr.fill _ C ((i,v) :: xP (i+1) vs)=some C'
    unfold Instr.fill;have hcond:((decide (v.cells.size≠sz))||decide (i * sz+v.cells.size>C.size))=false:=by simp [h1];omega
    simp only [hcond,←hC1]
    simpa using h3
  · rw [h5,hL,show i+1+vs.length=i+(vs.length+1) by omega]
    have hlen:(C.toList.take (i * sz)++v.cells.toList).length=(i+1) * sz:=by
     simp only [List.length_append,List.length_take,Array.length_toList];rw [Nat.add_mul];omega
    rw [List.take_append_of_le_length (by rw [hlen];exact Nat.le_refl _),List.take_of_length_le (by rw [hlen];exact Nat.le_refl _)];rw [List.drop_append,List.drop_of_length_le (by rw [hlen,e1,Nat.add_mul];omega),List.drop_drop,hlen];simp only [List.flatMap_cons,List.append_assoc,List.nil_append,List.length_cons]
    congr 3
    rw [Array.length_toList,h1,e1,Nat.add_mul,Nat.one_mul]
    congr 1
    omega
theorem LY {t e:TypeId} {ln sz:Nat} {parts:Array (Nat×Operand)} {ps:List (Nat×Value)} {vs:List Value} (ht:P.underlying t=some (.slice e)) (hi:(P.info? e).map (fun i=>(i.zero.isSome,i.size))=some (true,sz))
 (hp:tW env parts.toList=some ps) (hl:ps=xP 0 vs) (hv:(vs.all fun v=>Nat.beq v.cells.size sz)=true) (hn:Nat.beq vs.length ln=true) (hb:Nat.ble (ln * sz) 16777216=true):
 Mk P N D env w (.buildSlice t ln parts) ty (.slice (some ⟨w.heap.size,0,none⟩) ln ln) (w.alloc (.cells (vs.flatMap fun v=>v.cells.toList).toArray e)):=fun a ha dst pos af g=>by
 have h0:=O5 ha hp
 have hln:vs.length=ln:=beq_eq hn
 obtain ⟨i,hi1,hi2⟩:=Option.map_eq_some_iff.1 hi
 simp only [Prod.mk.injEq] at hi2
 obtain ⟨hz,hsz⟩:=hi2
 obtain ⟨z,hz⟩:=Option.isSome_iff_exists.1 hz
 have hs:∀w:World,(sizeOf e).run P w= .ok sz w:=fun w=>by simp [sizeOf,typeInfo,hi1,hsz]
 have hzr:∀w:World,(zeroValue e).run P w= .ok z w:=fun w=>by simp [zeroValue,typeInfo,hi1,hz]
 have hb':¬(ln * sz>2 ^ 24):=by have:=Nat.le_of_ble_eq_true hb;omega
 have hv':∀v∈vs,v.cells.size=sz:=fun v hm=>beq_eq (List.all_eq_true.1 hv v hm)
 subst hl
 have key:∀C:Array Value,C.size=ln * sz→Instr.fill (fun i=>some (i * sz,sz)) C (xP 0 vs)=some (vs.flatMap fun v=>v.cells.toList).toArray:=fun C hC=>by
  obtain ⟨C',h1,h2,h3⟩:=Pn vs 0 C hv' (by rw [hC,Nat.zero_add,hln];exact Nat.le_refl _);rw [h1]
  congr 1
  apply Array.ext'
  rw [h3,Nat.zero_add,hln];have:C.toList.drop (ln * sz)= []:=List.drop_of_length_le (by simp [hC]);simp [this]
 by_cases h0':ln * sz=0
 · simp only [execOp,h0]
   simp [Instr.buildSlice,run_underlying ht,hs,hb',h0',newRow,Array.range_zero']
   rw [key #[] (by simp [h0'])]
   simp
 · simp only [execOp,h0]
   simp [Instr.buildSlice,run_underlying ht,hs,hb',h0',newRow,hzr]
   rw [key _ (by simp)]
   simp
theorem adL {t e:TypeId} (ht:P.underlying t=some (.slice e)) (hs:((P.info? e).map (·.size)).isSome=true):Mk P N D env w (.buildSlice t 0 #[]) ty (.slice (some ⟨w.heap.size,0,none⟩) 0 0) (w.alloc (.cells #[] e)):=fun a ha dst pos af g=>by
 obtain ⟨sz,hsz⟩:=Option.isSome_iff_exists.1 hs;simp [execOp,Instr.buildSlice,run_underlying ht,run_sizeOf hsz,Instr.fill,newRow,Array.range_zero']
theorem s7 (w:World) (base:Nat) (e:TypeId) (sz:Nat):w.ownsRow base e sz (.slice none 0 0) 0 []:=⟨by simp,.inl ⟨rfl,rfl⟩⟩
theorem eT {base:Nat} {e:TypeId} {sz n:Nat} {v:Value} {xs:List Value} (h:w.ownsRow base e sz v n xs):∃A c,v= .slice A n c∧n≤c∧n≤maxLen:=by
 rcases h.2 with ⟨rfl,rfl⟩|⟨g,cap,cur,rfl,_,_,h1,h2,_⟩
 · exact ⟨_,_,rfl,Nat.le_refl _,Nat.zero_le _⟩
 · exact ⟨_,_,rfl,h1,Nat.le_trans h1 h2⟩
theorem bz {base:Nat} {e:TypeId} {sz n:Nat} {v:Value} {xs:List Value} (h:w.ownsRow base e sz v n xs) (k:Nat) (hk:v.ownBlock=some k):base≤k∧k<w.heap.size:=by
 rcases h.2 with ⟨rfl,rfl⟩|⟨g,cap,cur,rfl,h1,h2,_⟩
 · cases hk
 · cases hk
   refine ⟨h1,?_⟩
   rcases Nat.lt_or_ge g w.heap.size with h|h
   · exact h
   · rw [Array.getElem?_eq_none h] at h2;cases h2
theorem cR {base:Nat} {e:TypeId} {sz n:Nat} {v:Value} {xs:List Value} (h:w.ownsRow base e sz v n xs) (hb:Below w.heap.size w w'):w'.ownsRow base e sz v n xs:=by
 obtain ⟨h1,h2⟩:=h;refine ⟨h1,?_⟩
 rcases h2 with h2|⟨g,cap,cur,hv,hg,hh,r⟩
 · exact .inl h2
 · refine .inr ⟨g,cap,cur,hv,hg,?_,r⟩
   have hlt:g<w.heap.size:=by
    rcases Nat.lt_or_ge g w.heap.size with h|h
    · exact h
    · rw [Array.getElem?_eq_none h] at hh;cases hh
   exact (hb.block g hlt).trans hh
theorem ahg (l:List UInt8) (k:Nat):(dq l).take k=dq (l.take k):=by simp [dq]
theorem Rd.takeB {w:World} {A:Option Addr} {n m:Nat} {l:List UInt8} (h:Rd w 1 A n (dq l)) (hm:m≤n):Rd w 1 A m (dq (l.take m)):=by
 have:=h.take hm;rwa [Nat.mul_one,ahg] at this
theorem adK {w0:World} {x:Operand} {t e:TypeId} {C:Array Value} {n c:Nat} (ht:P.underlying t=some (.slice e)) (he:P.underlying e=some (.int .u8)) (hx:ev env x=some (.slice (some ⟨w0.heap.size,0,none⟩) n c)):
 Mk P N D env (w0.alloc (.cells C e)) (.convert t t x) ty (.slice (some ⟨w0.heap.size,0,none⟩) n c) (w0.alloc (.cells C e (C.size,C.size+1))):=fun a ha dst pos af g=>by
 simp [execOp,ha.eval hx,Lib.run_convert_bytes_const w0 t e C n c ht he]
theorem qI (l:List UInt8):(dq l).length=l.length:=by simp [dq]
theorem T2 (l m:List UInt8):dq (l++m)=dq l++dq m:=by simp [dq]
theorem T3 (l:List UInt8):∀u∈dq l,u.oneCell'=true:=by
 intro u hu;simp only [dq,List.mem_map] at hu;obtain ⟨c,_,rfl⟩:=hu;rfl
theorem lB {x:Operand} {t s e:TypeId} {A:Option Addr} {n c:Nat} {l:List UInt8} (ht:P.underlying t=some (.slice e)) (he:P.underlying e=some (.int .u8)) (hs:P.underlying s=some .string) (hx:ev env x=some (.slice A n c)) (hr:Rd w 1 A n (dq l)):Ld P N D env w (.convert t s x) ty (str l):=fun a ha dst pos af g=>by
 have hn:n=l.length:=by have:=hr.1;rw [qI] at this;omega
 subst hn
 have key:(convert t s (.slice A l.length c)).run P w= .ok (str l) w:=by
  rw [run_convert_bytes_string w t s e A l.length c ht he hs]
  cases A with
  |none=>
   have:l= []:=by
    rcases Nat.eq_zero_or_pos l.length with h0|h0
    · exact List.eq_nil_of_length_eq_zero h0
    · obtain ⟨p,e,_⟩:=hr.2 (by rw [qI];exact h0);cases e
   subst this;simp [Conv.bytesToString,str,ByteArray.empty,ByteArray.emptyWithCapacity];rfl
  |some p=>
   have hl:(loadCells p l.length).run P w= .ok ((l.map fun c=>(c.toNat:Int)).map (Value.int .u8)).toArray w:=by
    have h1:(l.map fun c=>(c.toNat:Int)).map (Value.int .u8)=dq l:=by simp [dq]
    rw [h1]
    have:=run_loadCells_list (P:=P) w p (dq l) (fun j v hj=>by
     have hlt:0<(dq l).length:=by
      rcases Nat.lt_or_ge j (dq l).length with h|h
      · omega
      · rw [List.getElem?_eq_none h] at hj;cases hj
     obtain ⟨p',e,hc⟩:=hr.2 hlt
     cases e
     exact hc j v hj)
    rwa [qI] at this
   rw [run_bytesToString w p l.length c _ hl,foldl_push_bytes]
   have h2:((l.map fun c=>(c.toNat:Int)).map fun n=>UInt8.ofNat n.toNat)=l:=by
    rw [List.map_map]
    conv=>rhs;rw [←List.map_id l]
    apply List.map_congr_left
    intro c _;simp
   rw [h2];simp [str,ByteArray.empty,ByteArray.emptyWithCapacity]
   rfl
 simp [execOp,ha.eval hx,key]
end
end Go.Bw
namespace Go.Bw
open Go.RowKit
set_option linter.unusedVariables false
set_option linter.unusedSimpArgs false
def Cw (w:World):World→Prop:=fun w'=>Below w.heap.size w w'
def Wy (P:Program) (ops:Array Oper) (w:World) (Q:Exit→Act→World→Prop) (l:List Oper) (N:Nat) (D:List Deferred) (env:Env):Prop:=
 ∀a,Ok N D env a→wpQuiet P ops (Cw w) (fun a'=>∀w',Cw w w'→Q .normal a' w') l a
section
variable {P:Program} {N:Nat} {D:List Deferred} {env env':Env} {a:Act} {w w':World} {Q:Exit→Act→World→Prop}
variable {ops:Array Oper} {rest:List Oper} {d:Nat} {op:Op} {ty:TypeId} {pos:String} {af:Array Edge}
theorem ju {id:Nat} {l:List Oper} (hm:P.follows .mixedOrders=true) (hB:Region.lexB .any l.toArray=true) (h:Wy P l.toArray w Q l N D env):Wc P Q (.region id l.toArray true) N D env w:=fun a ha=>
 wp_region_quiet (C:=Cw w) hm hB (Below.drew (Below.refl _ _)) (by simpa using h a ha)
theorem dZ (h:∀w',Below w.heap.size w w'→Wq Q .normal N D env w'):Wy P ops w Q [] N D env:=fun a ha=>wpQuiet_nil fun w' hw=>h w' hw a ha
theorem G7 {v:Value} (hd:Nat.blt d N=true) (hr:∀w',Below w.heap.size w w'→∀a,Ok N D env a→Oper.quietUpon P (Cw w) w' v ((execOp a.eval ⟨some d,op,ty,pos,af,none⟩).run P w')) (h:Wy P ops w Q rest N D ((d,v) :: env)):Wy P ops w Q (⟨some d,op,ty,pos,af,none⟩ :: rest) N D env:=fun a ha=>
 wpQuiet_step fun K hK=>by
  simp only [Region.wanted,if_true];exact ⟨v,fun w' hw=>hr w' hw a ha,hK _ (h _ (ha.put hd v))⟩
theorem aC {v:Value} (hy:Yl P N D env op ty v) (hd:Nat.blt d N=true) (h:Wy P ops w Q rest N D ((d,v) :: env)):Wy P ops w Q (⟨some d,op,ty,pos,af,none⟩ :: rest) N D env:=
 G7 hd (fun w' _ a ha=>by rw [hy a ha w'];exact ⟨rfl,rfl⟩) h
theorem cr {v:Value} (hy:∀w',Below w.heap.size w w'→Ld P N D env w' op ty v) (hd:Nat.blt d N=true) (h:Wy P ops w Q rest N D ((d,v) :: env)):Wy P ops w Q (⟨some d,op,ty,pos,af,none⟩ :: rest) N D env:=
 G7 hd (fun w' hw a ha=>by rw [hy w' hw a ha];exact ⟨rfl,rfl⟩) h
theorem uQ {x:Operand} {f:FuncId} {xs:Array Operand} {ts:Array TypeId} {l c:Array Value} {vs:List Value} {v:Value} (hf:bC P f) (hx:ev env x=some (.func (.func f) l c)) (hxs:kI env xs.toList=some vs)
 (hc:∀w',Below w.heap.size w w'→be P f (l.toList++vs++c.toList) w' fun u w''=>u=v∧Below w'.heap.size w' w'') (hd:Nat.blt d N=true) (h:Wy P ops w Q rest N D ((d,v) :: env)):
 Wy P ops w Q (⟨some d,.call ⟨.value x,xs,ts⟩,ty,pos,af,none⟩ :: rest) N D env:=
 G7 hd (fun w' hw a ha=>by
  have hargs:xs.map a.eval=vs.toArray:=yL ha hxs
  have h1:(l.toList++vs++c.toList).toArray=l++vs.toArray++c:=by simp
  have hc':=hc w' hw
  unfold be at hc'
  rw [h1] at hc'
  simp only [execOp,resolve,ha.eval hx,hargs,Deferred.ofValue,Sem.run_bind,Sem.run_pure,Result.andThen_ok,invoke,Mx hf]
  exact ⟨rfl,hc'.mono fun e w'' ⟨u,he,hu,hb⟩=>⟨by rw [he,hu],Below.trans hw (hb.mono hw.size)⟩⟩) h
theorem bB {g:Nat} {b t:Bool} {s:Nat} {dst:Option Tmp} (hs:(ops[g]?).bind (·.dst)=some s) (hb:lk env s=some (.bool t)) (e:t=b)
 (h:Wy P ops w Q (⟨dst,op,ty,pos,af,none⟩ :: rest) N D env):Wy P ops w Q (⟨dst,op,ty,pos,af,some (g,b)⟩ :: rest) N D env:=fun a ha=>by
 subst e
 have h1:=h a ha
 unfold wpQuiet at h1 ⊢
 have hy:yielded ops a.tmps g=some t:=by
  unfold yielded;rw [hs];show (match a.tmps[s]? with|some (.bool b)=>some b|_=>none)=some t;rw [ha.get s _ hb]
 simp only [Region.wanted,if_true] at h1
 simp only [Region.wanted,hy,beq_self_eq_true,if_true]
 exact h1
theorem aL {g:Nat} {b c c':Bool} {s:Nat} (hs:(ops[g]?).bind (·.dst)=some s) (hb:lk env s=some (.bool c)) (e:c=c') (hne:(c'==b)=false) (hd:Nat.blt d N=true)
 (h:Wy P ops w Q rest N D ((d,undef) :: env)):Wy P ops w Q (⟨some d,op,ty,pos,af,some (g,b)⟩ :: rest) N D env:=fun a ha=>by
 subst e
 unfold wpQuiet
 have hy:yielded ops a.tmps g=some c:=by
  unfold yielded;rw [hs];show (match a.tmps[s]? with|some (.bool b)=>some b|_=>none)=some c;rw [ha.get s _ hb]
 have:(some c==some b)=false:=by simpa using hne
 simp only [Region.wanted,hy,this]
 exact h _ (ha.put hd undef)
theorem iN {g:Nat} {t:Bool} {s:Nat} (hs:(ops[g]?).bind (·.dst)=some s) (hb:lk env s=some (.bool t)) (hd:Nat.blt d N=true)
 (h1:t=true→Wy P ops w Q (⟨some d,op,ty,pos,af,none⟩ :: rest) N D env) (h2:t=false→Wy P ops w Q rest N D ((d,undef) :: env)):Wy P ops w Q (⟨some d,op,ty,pos,af,some (g,true)⟩ :: rest) N D env:=by
 cases t
 · exact aL hs hb rfl rfl hd (h2 rfl)
 · exact bB hs hb rfl (h1 rfl)
theorem G6 {g:Nat} {t:Bool} {s:Nat} (hs:(ops[g]?).bind (·.dst)=some s) (hb:lk env s=some (.bool t)) (hd:Nat.blt d N=true)
 (h1:t=true→Wy P ops w Q rest N D ((d,undef) :: env)) (h2:t=false→Wy P ops w Q (⟨some d,op,ty,pos,af,none⟩ :: rest) N D env):Wy P ops w Q (⟨some d,op,ty,pos,af,some (g,false)⟩ :: rest) N D env:=by
 cases t
 · exact bB hs hb rfl (h2 rfl)
 · exact aL hs hb rfl rfl hd (h1 rfl)
theorem be.quiet {f:FuncId} {args:List Value} {v:Value} (h:be P f args w fun u w'=>u=v∧w'=w):be P f args w fun u w'=>u=v∧Below w.heap.size w w':=
 h.mono fun _ _ ⟨e,hw⟩=>⟨e,by rw [hw];exact Below.refl _ _⟩
end
end Go.Bw
namespace Go.Bw
open Go.RowKit
set_option linter.unusedVariables false
set_option linter.unusedSimpArgs false
def aq (w:World) (g:Nat) (t:TypeId) (cs:List Value):Prop:=w.heap[g]? =some (.cells cs.toArray t (0,0))
theorem aq.lt {w:World} {g:Nat} {t:TypeId} {cs:List Value} (h:aq w g t cs):g<w.heap.size:=by
 rcases Nat.lt_or_ge g w.heap.size with h1|h1
 · exact h1
 · unfold aq at h;rw [Array.getElem?_eq_none h1] at h;cases h
theorem aq.new (w:World) (t:TypeId) (cs:List Value):aq (w.alloc (.cells cs.toArray t)) w.heap.size t cs:=by
 unfold aq;show (w.heap.push _)[w.heap.size]? =_;simp
theorem aq.below {w w':World} {g:Nat} {t:TypeId} {cs:List Value} (h:aq w g t cs) (hb:Below w.heap.size w w'):aq w' g t cs:=(hb.block g h.lt).trans h
theorem pu (g j:Nat):(⟨g,0,none⟩:Addr).add j=⟨g,j,none⟩:=by unfold Addr.add;split<;>simp_all
theorem aq.cell {w:World} {g:Nat} {t:TypeId} {cs:List Value} (h:aq w g t cs) (j:Nat):w.cell? ⟨g,j,none⟩=cs[j]? :=by
 unfold aq at h;simp [World.cell?,h]
theorem aq.at {w:World} {g:Nat} {t:TypeId} {cs:List Value} (h:aq w g t cs) {j:Nat} {v:Value} (hv:cs[j]? =some v):w.cell? ((⟨g,0,none⟩:Addr).add j)=some v:=by
 rw [pu,h.cell,hv]
theorem aq.frozen {w:World} {g:Nat} {t:TypeId} {cs:List Value} (h:aq w g t cs) (j:Nat):w.frozen? ⟨g,j,none⟩=false:=by
 unfold aq at h;simp [World.frozen?,h]
theorem aq.grown {w w':World} {g:Nat} {t:TypeId} {cs:List Value} (h:aq w g t cs) {row:Option Nat} (hg:w.grownBy w' row) (hne:some g≠row):aq w' g t cs:=(hg.block g h.lt hne).trans h
theorem aq.setRow {w:World} {g:Nat} {t:TypeId} {cs cs':List Value} (h:aq w g t cs):aq (w.setRow g cs'.toArray) g t cs':=setRow_heap w g _ _ t _ h
theorem aq.rd {w:World} {g:Nat} {t:TypeId} {cs:List Value} (h:aq w g t cs) (n sz:Nat) (hl:cs.length=n * sz):Rd w sz (some ⟨g,0,none⟩) n cs:=⟨hl,fun _=>⟨_,rfl,fun j u hu=>h.at hu⟩⟩
section
variable {P:Program} {N:Nat} {D:List Deferred} {env env':Env} {a:Act} {w w':World} {Q:Exit→Act→World→Prop}
variable {ops:Array Oper} {rest:List Oper} {d:Nat} {op:Op} {ty:TypeId} {pos:String} {af:Array Edge}
theorem adI {e:TypeId} {z:Value} (hz:(P.info? e).bind (·.zero)=some z):Mk P N D env w (.alloc e) ty (.pointer (some ⟨w.heap.size,0,none⟩)) (w.alloc (.cells z.cells e)):=fun a ha dst pos af g=>by
 obtain ⟨i,hi,hz'⟩:=Option.bind_eq_some_iff.1 hz;simp [execOp,Instr.alloc,zeroValue,typeInfo,hi,hz',newVar,newRow]
theorem afx {x y:Operand} {t e:TypeId} {g:Nat} {old cs:List Value} (hs:(P.info? t).map (·.size)=some cs.length) (hx:ev env x=some (.pointer (some ⟨g,0,none⟩))) (hy:ev env y=some (.agg cs.toArray)) (hb:aq w g e old) (ho:old.length=cs.length) (h1:cs.all (·.oneCell')=true):
 St P N D env w (.store t x y) ty (w.setRow g cs.toArray):=fun a ha dst pos af g'=>by
 have:=run_storeVar_row (P:=P) w g e t old.toArray cs.toArray hb (by simpa using hs) (by simpa using ho) (by simpa using h1)
 simp [execOp,ha.eval hx,ha.eval hy,Instr.storeAt,Instr.sureAddr,this]
theorem aJ {x:Operand} {t:TypeId} {i:Nat} {p q:Addr} (hr:∀w,(Instr.fieldAt t (.pointer (some p)) i).run P w= .ok (.pointer (some q)) w) (hx:ev env x=some (.pointer (some p))):Yl P N D env (.fieldAddr t x i) ty (.pointer (some q)):=fun a ha w dst pos af g=>by
 simp [execOp,ha.eval hx,hr]
theorem fd {t:TypeId} {fs:Array Field} {f:Field} {i sz:Nat} (ht:P.underlying t=some (.struct fs)) (hf:fs[i]? =some f) (hs:(P.info? f.type).map (·.size)=some (sz+1)) (p:Addr) (w:World):(Instr.fieldAt t (.pointer (some p)) i).run P w= .ok (.pointer (some (p.add f.offset))) w:=by
 obtain ⟨ie,hi2,hsz⟩:=Option.map_eq_some_iff.1 hs;simp [Instr.fieldAt,run_underlying ht,hf,Instr.sureAddr,fieldPlace,sizeOf,typeInfo,hi2,hsz]
def s9 (cs:List Value) (off:Nat) (vs:List Value):List Value:=cs.take off++vs++cs.drop (off+vs.length)
def EN (pl:List (Nat×Nat)):List Value→List (Nat×Value)→List Value
 |cs,[]=>cs
 |cs,(i,v) :: r=>EN pl (s9 cs (pl.getD i (0,0)).1 v.cells.toList) r
def EQ (pl:List (Nat×Nat)) (n:Nat):List (Nat×Value)→Bool
 | []=>true
 |(i,v) :: r=>(Nat.blt i pl.length)&&(Nat.beq v.cells.size (pl.getD i (0,0)).2)&&(Nat.ble ((pl.getD i (0,0)).1+v.cells.size) n)&&EQ pl n r
theorem aeL {cs vs:List Value} {off:Nat} (h:off+vs.length≤cs.length):(s9 cs off vs).length=cs.length:=by simp [s9];omega
theorem fill_eq (pl:List (Nat×Nat)):∀(ps:List (Nat×Value)) (cs:List Value),EQ pl cs.length ps=true→Instr.fill (pl.toArray[·]?) cs.toArray ps=some (EN pl cs ps).toArray
 | [],cs,_=>rfl
 |(i,v) :: r,cs,h=>by
  simp only [EQ,Bool.and_eq_true] at h;obtain ⟨⟨⟨h1,h2⟩,h3⟩,h4⟩:=h;have hi:i<pl.length:=Nat.le_of_ble_eq_true h1;have h2':=beq_eq h2;have h3':=Nat.le_of_ble_eq_true h3;have hg:pl.toArray[i]? =some (pl.getD i (0,0)):=by simp [List.getD,hi]
  unfold Instr.fill;rw [hg];have hcond:((decide (v.cells.size≠(pl.getD i (0,0)).2))||decide ((pl.getD i (0,0)).1+v.cells.size>cs.toArray.size))=false:=by simp [h2'] at h3' ⊢;omega
  have hL:(v.cells.zipIdx.foldl (fun X (p:Value×Nat)=>X.setIfInBounds ((pl.getD i (0,0)).1+p.2) p.1) cs.toArray)=(s9 cs (pl.getD i (0,0)).1 v.cells.toList).toArray:=by
   apply Array.ext'
   rw [←Array.foldl_toList,Array.toList_zipIdx];have:=MC v.cells.toList 0 (pl.getD i (0,0)).1 cs.toArray (by simpa using h3')
   simpa [s9] using this
  generalize hpl:pl.getD i (0,0)=q at *
  obtain ⟨off,sz⟩:=q;simp only [hcond];have:=fill_eq pl r (s9 cs off v.cells.toList) (by rw [aeL (by simpa using h3')];exact h4);simp only [EN,hpl];rw [←this,←hL]
  rfl
theorem My {α β:Type} {f:α→Sem β} {x:α} {l:List α} {y:β} {ys:List β} (h1:(f x).run P w= .ok y w) (h2:(l.mapM f).run P w= .ok ys w):((x :: l).mapM f).run P w= .ok (y :: ys) w:=by
 rw [List.mapM_cons];simp only [Sem.run_bind,h1,h2,Result.andThen_ok,Sem.run_pure]
theorem SW {α β:Type} {f:α→Sem β} {l:List α} {ys:List β} (h:(l.mapM f).run P w= .ok ys w):(l.toArray.mapM f).run P w= .ok ys.toArray w:=by
 rw [List.mapM_toArray];simp only [map_eq_pure_bind,Sem.run_bind,h,Result.andThen_ok,Sem.run_pure]
theorem fe {t:TypeId} {fs:Array Field} {parts:Array (Nat×Operand)} {ps:List (Nat×Value)} {pl:List (Nat×Nat)} {z cs:List Value} (ht:P.underlying t=some (.struct fs)) (hz:(P.info? t).bind (·.zero)=some (.agg z.toArray))
 (hpl:(fs.toList.mapM fun f=>(P.info? f.type).map fun i=>(f.offset,i.size))=some pl) (hp:tW env parts.toList=some ps) (hfit:EQ pl z.length ps=true) (hcs:EN pl z ps=cs):Yl P N D env (.build t parts) ty (.agg cs.toArray):=fun a ha w dst pos af g=>by
 have h0:=O5 ha hp
 obtain ⟨i,hi,hz'⟩:=Option.bind_eq_some_iff.1 hz
 have hm:∀(l:List Field) (pl:List (Nat×Nat)),(l.mapM fun f=>(P.info? f.type).map fun i=>(f.offset,i.size))=some pl→(l.mapM (m:=Sem) fun f=>do pure (f.offset,←sizeOf f.type)).run P w= .ok pl w:=by
  intro l
  induction l with
  |nil=>intro pl h;simp at h;subst h;rfl
  |cons f l ih=>
   intro pl h;simp only [List.mapM_cons,Option.bind_eq_bind,Option.bind_eq_some_iff,Option.pure_def,Option.some.injEq,Option.map_eq_some_iff] at h;obtain ⟨y,⟨i,hi,rfl⟩,ys,h2,rfl⟩:=h;exact My (by simp [sizeOf,typeInfo,hi]) (ih ys h2)
 have hm2:(fs.mapM (m:=Sem) fun f=>do pure (f.offset,←sizeOf f.type)).run P w= .ok pl.toArray w:=SW (l:=fs.toList) (hm fs.toList pl hpl)
 subst hcs
 have hf:=fill_eq pl ps z hfit
 have hzr:(zeroValue t).run P w= .ok (.agg z.toArray) w:=by simp [zeroValue,typeInfo,hi,hz']
 simp only [execOp,h0,Instr.build,Sem.run_bind,hzr,Result.andThen_ok,run_underlying ht,hm2,Value.cells,hf,Sem.run_pure]
inductive uN (P:Program) (env:Env) (w:World):List ResultVar→List Value→Prop
 |nil:uN P env w [] []
 |tmp {t:Tmp} {v:Value} {rs:List ResultVar} {vs:List Value} (h:lk env t=some v) (hr:uN P env w rs vs):uN P env w (.tmp t :: rs) (v :: vs)
 |cell {a:Tmp} {t:TypeId} {p:Addr} {v:Value} {rs:List ResultVar} {vs:List Value} (h:lk env a=some (.pointer (some p))) (hl:(loadVar t p).run P w= .ok v w) (hr:uN P env w rs vs):uN P env w (.cell a t :: rs) (v :: vs)
def pack:List Value→Value
 | [v]=>v
 |vs=> .tuple vs.toArray
theorem Mz {a:Act} (ha:Ok N D env a):∀{rs:List ResultVar} {vs:List Value},uN P env w rs vs→
 (rs.mapM (m:=Sem) fun| .tmp t=>pure (a.tmps.getD t undef)| .cell x t=>do loadVar t (←asAddr (a.tmps.getD x undef))).run P w= .ok vs w
 |_,_,.nil=>rfl
 |_,_,.tmp h hr=>My (by show (pure (a.tmps.getD _ undef):Sem Value).run P w=_;rw [ha.getD h];rfl) (Mz ha hr)
 |_,_,.cell h hl hr=>My (by simp only [ha.getD h,asAddr,Sem.run_bind,Sem.run_pure,Result.andThen_ok,hl]) (Mz ha hr)
theorem fc {fn:Func} {R:Ending→World→Prop} {rs:List ResultVar} {vs:List Value} (hr:fn.results=rs.toArray) (h:uN P env w rs vs) (hR:R (.returned (pack vs)) w):Wq (bodyPost P fn R) .ret N [] env w:=fun a ha=>
 ⟨ha.defers,pack vs,by
  unfold results
  rw [hr]
  have:=SW (Mz ha h)
  rw [Sem.run_bind]
  refine (congrArg (fun r:Result (Array Value)=>r.andThen _) this).trans ?_
  match vs with
  | []=>rfl
  | [v]=>rfl
  |v :: u :: r=>rfl,hR⟩
theorem e9 {t:TypeId} {fs:Array Field} {p:Addr} {cs:List Value} (ht:P.underlying t=some (.struct fs)) (hs:(P.info? t).map (·.size)=some cs.length) (hc:∀(j:Nat) (u:Value),cs[j]? =some u→w.cell? (p.add j)=some u):(loadVar t p).run P w= .ok (.agg cs.toArray) w:=by
 obtain ⟨i,hi,hsz⟩:=Option.map_eq_some_iff.1 hs;have h5:(sizeOf t).run P w= .ok cs.length w:=by simp [sizeOf,typeInfo,hi,hsz]
 have h6:=run_loadCells_list (P:=P) w p cs hc;simp [loadVar,isAgg,run_underlying ht,h5,h6]
theorem WZ {x y:Operand} {t e:TypeId} {z:Value} {sz bytes:Nat} (ht:P.underlying t=some (.slice e)) (hi:(P.info? e).map (fun i=>(i.zero,i.size,i.bytes))=some (some z,sz,bytes))
 (base:Nat) {n:Nat} {kl kc:IntKind} (hx:ev env x=some (.int kl n)) (hy:ev env y=some (.int kc n)) (hb:bytes * n≤281474976710656) (h63:n≤maxLen) (hbase:base≤w.heap.size) (hd:Nat.blt d N=true)
 (h:∀w',w'.ownsRow base e sz (.slice (some ⟨w.heap.size,0,none⟩) n n) n (madeCells z.cells (n * sz)).toList→w.grownBy w' none→Wl P ops Q rest N D ((d,.slice (some ⟨w.heap.size,0,none⟩) n n) :: env) w'):
 Wl P ops Q (⟨some d,.makeSlice t x y,ty,pos,af,none⟩ :: rest) N D env w:=by
 obtain ⟨i,hi0,hi1⟩:=Option.map_eq_some_iff.1 hi
 simp only [Prod.mk.injEq] at hi1
 obtain ⟨hz0,hs0,hb0⟩:=hi1
 obtain ⟨w',hrun,hown,hg⟩:=run_make_full (P:=P) w base t e i z sz ht hi0 hz0 hs0 kl kc n (by rw [hb0];exact hb) h63 hbase
 refine iM (w':=w') (fun a ha dst pos af g=>?_) hd (h w' hown hg)
 simp [execOp,ha.eval hx,ha.eval hy,hrun]
theorem W9 {x y:Operand} {t e:TypeId} {base sz n c g j:Nat} {v:Value} {xs:List Value} (ht:One P t) (hx:ev env x=some (.pointer (some ((⟨g,0,none⟩:Addr).add j)))) (hy:ev env y=some v) (h1:v.oneCell'=true)
 (hown:w.ownsRow base e sz (.slice (some ⟨g,0,none⟩) n c) n xs) (hj:j<xs.length) (h:∀w',w'.ownsRow base e sz (.slice (some ⟨g,0,none⟩) n c) n (xs.set j v)→w.grownBy w' (some g)→Wl P ops Q rest N D env w'):
 Wl P ops Q (⟨none,.store t x y,ty,pos,af,none⟩ :: rest) N D env w:=by
 have hst:=World.ownsRow.stored hown j v
 have hc:=World.ownsRow.cellAt hown j (by rw [←hown.1];exact hj)
 rw [List.getElem?_eq_getElem hj] at hc
 have hf:=World.ownsRow.frozenAt hown j
 rw [pu] at hx
 exact rJ (zt ht hx hy h1 hc hf) (h _ hst.1 hst.2)
theorem aem {base:Nat} {e:TypeId} {sz n c g:Nat} {xs:List Value} (h:w.ownsRow base e sz (.slice (some ⟨g,0,none⟩) n c) n xs) {j:Nat} {v:Value} (hv:xs[j]? =some v):w.cell? ((⟨g,0,none⟩:Addr).add j)=some v:=by
 have:=(fC h).2 (by
  rcases Nat.eq_zero_or_pos xs.length with h0|h0
  · rw [List.eq_nil_of_length_eq_zero h0] at hv;simp at hv
  · exact h0)
 obtain ⟨p,e1,hc⟩:=this
 cases e1
 exact hc j v hv
end
end Go.Bw
namespace Go.Bw
open Go.RowKit
set_option linter.unusedVariables false
set_option linter.unusedSimpArgs false
section
variable {P:Program} {N:Nat} {D:List Deferred} {env env':Env} {a:Act} {w w':World} {Q:Exit→Act→World→Prop}
variable {ops:Array Oper} {rest:List Oper} {d:Nat} {op:Op} {ty:TypeId} {pos:String} {af:Array Edge}
theorem zu (w:World) (o:Obj):Below w.heap.size w (w.alloc o):=(Below.refl _ _).alloc (Nat.le_refl _) _
theorem jL {x:Operand} {t:TypeId} {v:Value} (hx:ev env x=some v) (hd:Nat.blt d N=true)
 (h:∀g w',w.heap.size≤g→aq w' g t v.cells.toList→Below w.heap.size w w'→Wl P ops Q rest N D ((d,.pointer (some ⟨g,0,none⟩)) :: env) w'):Wl P ops Q (⟨some d,.box t x,ty,pos,af,none⟩ :: rest) N D env w:=
 iM (adJ hx) hd (h _ _ (Nat.le_refl _) (aq.new w t v.cells.toList) (zu _ _))
theorem el {e:TypeId} {z:Value} (hz:(P.info? e).bind (·.zero)=some z) (hd:Nat.blt d N=true)
 (h:∀g w',w.heap.size≤g→aq w' g e z.cells.toList→Below w.heap.size w w'→Wl P ops Q rest N D ((d,.pointer (some ⟨g,0,none⟩)) :: env) w'):Wl P ops Q (⟨some d,.alloc e,ty,pos,af,none⟩ :: rest) N D env w:=
 iM (adI hz) hd (h _ _ (Nat.le_refl _) (aq.new w e z.cells.toList) (zu _ _))
theorem dX {t e:TypeId} {ln sz:Nat} {parts:Array (Nat×Operand)} {ps:List (Nat×Value)} {vs:List Value} (ht:P.underlying t=some (.slice e)) (hi:(P.info? e).map (fun i=>(i.zero.isSome,i.size))=some (true,sz))
 (hp:tW env parts.toList=some ps) (hl:ps=xP 0 vs) (hv:(vs.all fun v=>Nat.beq v.cells.size sz)=true) (hn:Nat.beq vs.length ln=true) (hb:Nat.ble (ln * sz) 16777216=true) (hd:Nat.blt d N=true)
 (h:∀g w',w.heap.size≤g→aq w' g e (vs.flatMap fun v=>v.cells.toList)→Below w.heap.size w w'→Wl P ops Q rest N D ((d,.slice (some ⟨g,0,none⟩) ln ln) :: env) w'):
 Wl P ops Q (⟨some d,.buildSlice t ln parts,ty,pos,af,none⟩ :: rest) N D env w:=
 iM (LY ht hi hp hl hv hn hb) hd (h _ _ (Nat.le_refl _) (aq.new w e _) (zu _ _))
theorem jM {t e:TypeId} (ht:P.underlying t=some (.slice e)) (hs:((P.info? e).map (·.size)).isSome=true) (hd:Nat.blt d N=true)
 (h:∀g w',w.heap.size≤g→aq w' g e []→Below w.heap.size w w'→Wl P ops Q rest N D ((d,.slice (some ⟨g,0,none⟩) 0 0) :: env) w'):
 Wl P ops Q (⟨some d,.buildSlice t 0 #[],ty,pos,af,none⟩ :: rest) N D env w:=
 iM (adL ht hs) hd (h _ _ (Nat.le_refl _) (aq.new w e []) (zu _ _))
theorem aq.own {g:Nat} {e:TypeId} {cs:List Value} (h:aq w g e cs) {base n sz:Nat} (hb:base≤g) (hl:cs.length=n * sz) (hm:n≤maxLen):w.ownsRow base e sz (.slice (some ⟨g,0,none⟩) n n) n cs:=
 ⟨hl,.inr ⟨g,n,cs.toArray,rfl,hb,h,Nat.le_refl _,hm,by simpa using hl,by simp [←hl]⟩⟩
theorem aq.over {w w':World} {g g':Nat} {t:TypeId} {cs:List Value} (h:aq w g t cs) (hg:w.grownBy w' (some g')) (hne:g≠g'):aq w' g t cs:=h.grown hg (fun e=>hne (Option.some.inj e))
theorem cH {x y:Operand} {t e:TypeId} {g:Nat} {old cs:List Value} (hs:(P.info? t).map (·.size)=some cs.length) (hx:ev env x=some (.pointer (some ⟨g,0,none⟩))) (hy:ev env y=some (.agg cs.toArray)) (hb:aq w g e old) (ho:old.length=cs.length) (h1:cs.all (·.oneCell')=true)
 (h:∀w',aq w' g e cs→w.grownBy w' (some g)→Wl P ops Q rest N D env w'):Wl P ops Q (⟨none,.store t x y,ty,pos,af,none⟩ :: rest) N D env w:=
 rJ (afx hs hx hy hb ho h1) (h _ hb.setRow ⟨rfl,rfl,rfl,by simp,fun k _ hne=>setRow_other w g k _ (fun e=>hne (by rw [e]))⟩)
theorem bY {B g:Nat} {w0:World} (hb:Below B w0 w) (hg:w.grownBy w' (some g)) (hs:B≤w.heap.size) (hB:B≤g):Below B w0 w':=hb.grown hg hs fun k hk=>by cases hk;exact hB
def po (v u:Value):Prop:=∀k,v.ownBlock=some k→u.ownBlock≠some k
theorem po.symm {v u:Value} (h:po v u):po u v:=fun k hk e=>h k e hk
theorem po.grow {v v' u:Value} {base sz n:Nat} {e:TypeId} {xs:List Value} (h:po v u) (ha:v'.ownBlock=v.ownBlock∨v'.ownBlock=some w.heap.size) (hu:w.ownsRow base e sz u n xs):po v' u:=fun k hk e=>by
 rcases ha with ha|ha
 · exact h k (ha ▸ hk) e
 · rw [ha] at hk;cases hk
   exact absurd (bz hu _ e).2 (Nat.lt_irrefl _)
theorem po.nil (u:Value):po (.slice none 0 0) u:=fun k hk=>by cases hk
def Wa (P:Program) (ops:Array Oper) (Q:Exit→Act→World→Prop) (S:World→Prop) (fuel:Nat) (listed:Array Bool) (N:Nat) (D:List Deferred) (env:Env) (w:World):Prop:=∀a,Ok N D env a→wpAnyH P .any ops Q S fuel listed a w
theorem gG {id:Nat} {l:List Oper} {n:Nat} (S:World→Prop) (listed:Array Bool) (hm:P.follows .mixedOrders=true) (hn:Nat.beq l.length n=true) (hl:Array.replicate n false=listed)
 (h:Wa P l.toArray Q S n listed N D env w.drew):Wc P Q (.region id l.toArray true) N D env w:=fun a ha=>by
 have hn':=beq_eq hn
 subst hl
 refine wp_region_held (S:=S) hm ?_
 have:=h a ha
 rw [show l.toArray.size=n by simpa using hn']
 exact this
def zv (ops:Array Oper) (l l':Array Bool) (i:Nat):Bool:=Region.noSelect ops&&Region.free .any ops l i&&(Region.ready .any ops l).contains i&&(l.setIfInBounds i true==l')
section
variable {S:World→Prop} {fuel:Nat} {l:Array Bool} {i:Nat}
theorem gF (h:∀w',Below w.heap.size w w'→Wa P ops Q S fuel l N D env w'):Wa P ops Q S fuel l N D env w.drew:=h _ (Below.refl _ _).drew
theorem a8 {v:Value} (h:Yl P N D env op ty v):Ld P N D env w op ty v:=fun a ha dst pos af g=>h a ha w dst pos af g
theorem aT {v:Value} (l':Array Bool) (ho:ops[i]? =some ⟨some d,op,ty,pos,af,none⟩) (hc:zv ops l l' i=true) (hQ:∀c a w,Q (.panic c) (a.put (some d) v) w→Q (.panic c) a w) (hd:Nat.blt d N=true)
 (hy:∀w',S w'→Ld P N D env w' op ty v) (hS:S w) (h:Wa P ops Q S fuel l' N D ((d,v) :: env) w):Wa P ops Q S (fuel+1) l N D env w:=fun a ha=>by
 simp only [zv,Bool.and_eq_true,beq_iff_eq] at hc
 obtain ⟨⟨⟨h1,h2⟩,h3⟩,h4⟩:=hc
 subst h4
 exact wpAnyH_take ho h1 h2 h3 hQ (.inl ⟨by simp [Region.wanted],fun w' hw'=>hy w' hw' a ha _ _ _ _⟩) hS (h _ (ha.put hd v))
theorem N0 {s:Nat} {t:Bool} (hb:lk env s=some (.bool t)) (h1:t=true→Wa P ops Q S fuel l N D env w) (h2:t=false→Wa P ops Q S fuel l N D env w):Wa P ops Q S fuel l N D env w:=by
 cases t
 · exact h2 rfl
 · exact h1 rfl
theorem uP {g:Nat} {b t:Bool} {s:Nat} {v:Value} (l':Array Bool) (ho:ops[i]? =some ⟨some d,op,ty,pos,af,some (g,b)⟩) (hs:(ops[g]?).bind (·.dst)=some s) (hb:lk env s=some (.bool t)) (e:t=b) (hc:zv ops l l' i=true)
 (hQ:∀c a w,Q (.panic c) (a.put (some d) v) w→Q (.panic c) a w) (hd:Nat.blt d N=true) (hy:∀w',S w'→Ld P N D env w' op ty v) (hS:S w) (h:Wa P ops Q S fuel l' N D ((d,v) :: env) w):Wa P ops Q S (fuel+1) l N D env w:=fun a ha=>by
 simp only [zv,Bool.and_eq_true,beq_iff_eq] at hc
 obtain ⟨⟨⟨h1,h2⟩,h3⟩,h4⟩:=hc
 subst h4
 subst e
 refine wpAnyH_take ho h1 h2 h3 hQ (.inl ⟨?_,fun w' hw'=>hy w' hw' a ha _ _ _ _⟩) hS (h _ (ha.put hd v))
 have hy:yielded ops a.tmps g=some t:=by
  unfold yielded;rw [hs];show (match a.tmps[s]? with|some (.bool b)=>some b|_=>none)=some t;rw [ha.get s _ hb]
 simp [Region.wanted,hy]
theorem mO {g:Nat} {b t:Bool} {s:Nat} (l':Array Bool) (ho:ops[i]? =some ⟨some d,op,ty,pos,af,some (g,b)⟩) (hs:(ops[g]?).bind (·.dst)=some s) (hb:lk env s=some (.bool t)) (e:t= !b) (hc:zv ops l l' i=true)
 (hQ:∀c a w,Q (.panic c) (a.put (some d) undef) w→Q (.panic c) a w) (hd:Nat.blt d N=true) (hS:S w) (h:Wa P ops Q S fuel l' N D ((d,undef) :: env) w):Wa P ops Q S (fuel+1) l N D env w:=fun a ha=>by
 simp only [zv,Bool.and_eq_true,beq_iff_eq] at hc
 obtain ⟨⟨⟨h1,h2⟩,h3⟩,h4⟩:=hc
 subst h4
 subst e
 refine wpAnyH_take ho h1 h2 h3 hQ (.inr ⟨?_,rfl⟩) hS (h _ (ha.put hd undef))
 have hy:yielded ops a.tmps g=some (!b):=by
  unfold yielded;rw [hs];show (match a.tmps[s]? with|some (.bool b)=>some b|_=>none)=some (!b);rw [ha.get s _ hb]
 simp [Region.wanted,hy]
def Ws (P:Program) (ops:Array Oper) (Q:Exit→Act→World→Prop) (S:World→Prop) (fuel:Nat) (listed:Array Bool) (rs:List Nat) (N:Nat) (D:List Deferred) (env:Env) (w:World):Prop:=
 ∀i∈rs,∀a,Ok N D env a→wpOp P ops Q i (fun a' w'=>S w'∧wpAnyH P .any ops Q S fuel (listed.setIfInBounds i true) a' w') a w
theorem bM {rs:List Nat} (hr:Region.ready .any ops l=rs) (hne:rs.isEmpty=false) (h:Ws P ops Q S fuel l rs N D env w):Wa P ops Q S (fuel+1) l N D env w:=fun a ha=>
 wpAnyH_all hr (by rintro rfl;cases hne) (fun i hi=>h i hi a ha)
theorem bN:Ws P ops Q S fuel l [] N D env w:=fun _ h=>by cases h
theorem ahT {o:Oper} {K:Act→World→Prop} (ho:ops[i]? =some o) (h:wpList P ops (Exit.then K Q) [o] a w):wpOp P ops Q i K a w:=by
 unfold wpOp;rw [ho];unfold wpList at h;show if _ then _ else _
 split
 · rename_i hw
   rw [if_pos hw] at h
   rcases h with h|h
   · refine .inl ?_
     unfold Oper.wp at h ⊢
     generalize (execOp a.eval o).run P w=r at *
     cases r with
     |ok v w'=>
      cases v with
      |enter f args=>exact Calls.mono h fun e w'' he=>by cases e<;>exact he
      |_=>exact h
     |halt s w'=>cases s<;>exact h
   · exact .inr h
 · rename_i hw
   rw [if_neg hw] at h;exact h
theorem bv {o:Oper} {rs:List Nat} (l':Array Bool) (ho:ops[i]? =some o) (hl:(l.setIfInBounds i true==l')=true)
 (h:∀K:Act→World→Prop,(∀env' w',S w'→Wa P ops Q S fuel l' N D env' w'→∀a,Ok N D env' a→K a w')→Wl P ops (Exit.then K Q) [o] N D env w)
 (hs:Ws P ops Q S fuel l rs N D env w):Ws P ops Q S fuel l (i :: rs) N D env w:=fun j hj a ha=>by
 rcases List.mem_cons.1 hj with rfl|hj
 · have:l.setIfInBounds j true=l':=beq_iff_eq.1 hl
   subst this
   exact ahT ho (h _ (fun env' w' hS hA a' ha'=>⟨hS,hA a' ha'⟩) a ha)
 · exact hs j hj a ha
theorem bu {K:Act→World→Prop} {l':Array Bool} (hK:∀env' w',S w'→Wa P ops Q S fuel l' N D env' w'→∀a,Ok N D env' a→K a w') (hS:S w) (h:Wa P ops Q S fuel l' N D env w):Wq (Exit.then K Q) .normal N D env w:=fun a ha=>hK env w hS h a ha
theorem eE (hr:Region.ready .any ops l= []) (h:Wq Q .normal N D env w):Wa P ops Q S fuel l N D env w:=fun a ha=>wpAnyH_done hr (h a ha) fuel
end
theorem b9 {c:Code} {X:Type} (E:X→Env) (I:X→World→Prop) (h:∀K:Act→World→Prop,(∀env' w' x,Sub (E x) env'→I x w'→∀a,Ok N D env' a→K a w')→Wc P (Exit.then K Q) c N D env w) (h2:∀x w',I x w'→Wq Q .normal N D (E x) w'):Wc P Q c N D env w:=fun a ha=>by
 have:=h (fun a' w'=>∃x,Ok N D (E x) a'∧I x w') (fun env' w' x hs hI a' ha'=>⟨x,ha'.sub hs,hI⟩) a ha;refine Code.wp_mono (fun e a' w' he=>?_) this
 cases e with
 |normal=>obtain ⟨x,hx,hI⟩:=he;exact h2 x w' hI a' hx
 |_=>exact he
theorem aY {X:Type} {E:X→Env} {I:X→World→Prop} {K:Act→World→Prop} (hK:∀env' w' x,Sub (E x) env'→I x w'→∀a,Ok N D env' a→K a w') (x:X) (hs:Sub (E x) env) (hI:I x w):Wq (Exit.then K Q) .normal N D env w:=fun a ha=>hK env w x hs hI a ha
end
end Go.Bw
namespace Go.Bw
open Go.RowKit
set_option linter.unusedVariables false
set_option linter.unusedSimpArgs false
def dt:Nat→List (List UInt8×Value)→List MapEntry
 |_,[]=> []
 |b,(k,v) :: r=>⟨str k,v,b⟩ :: dt (b+1) r
def Mp (w:World) (g:Nat) (kv:List (List UInt8×Value)):Prop:=w.heap[g]? =some (.map (dt 0 kv).toArray kv.length)
def fa (kv:List (List UInt8×Value)) (k:List UInt8):Option Value:=(kv.find? (·.1==k)).map (·.2)
theorem Mp.lt {w:World} {g:Nat} {kv} (h:Mp w g kv):g<w.heap.size:=by
 rcases Nat.lt_or_ge g w.heap.size with h1|h1
 · exact h1
 · unfold Mp at h;rw [Array.getElem?_eq_none h1] at h;cases h
theorem Mp.below {w w':World} {g:Nat} {kv} (h:Mp w g kv) (hb:Below w.heap.size w w'):Mp w' g kv:=(hb.block g h.lt).trans h
theorem Mp.grown {w w':World} {g:Nat} {kv} (h:Mp w g kv) {row:Option Nat} (hg:w.grownBy w' row) (hne:some g≠row):Mp w' g kv:=(hg.block g h.lt hne).trans h
theorem Mp.over {w w':World} {g g':Nat} {kv} (h:Mp w g kv) (hg:w.grownBy w' (some g')) (hne:g≠g'):Mp w' g kv:=h.grown hg (fun e=>hne (Option.some.inj e))
theorem IS:∀(b:Nat) (kv:List (List UInt8×Value)) (k:List UInt8) (v:Value),dt b (kv++ [(k,v)])=dt b kv++ [⟨str k,v,b+kv.length⟩]
 |b,[],k,v=>rfl
 |b,(k',v') :: r,k,v=>by
  show _ :: dt (b+1) (r++ [(k,v)])=_ :: (dt (b+1) r++_);rw [IS,List.length_cons,show b+1+r.length=b+(r.length+1) by omega]
theorem O3:∀(b:Nat) (kv:List (List UInt8×Value)),(dt b kv).length=kv.length
 |b,[]=>rfl
 |b,_ :: r=>by show (dt (b+1) r).length+1=_;rw [O3];rfl
theorem EE:∀(b:Nat) (kv:List (List UInt8×Value)) (e:MapEntry),e∈dt b kv→∃i,i<kv.length∧e.born=b+i∧∃p,kv[i]? =some p∧e.key=str p.1∧e.val=p.2
 |b,[],e,h=>by cases h
 |b,(k,v) :: r,e,h=>by
  rcases List.mem_cons.1 h with rfl|h
  · exact ⟨0,by simp,rfl,_,rfl,rfl,rfl⟩
  · obtain ⟨i,h1,h2,p,h3,h4,h5⟩:=EE (b+1) r e h
    exact ⟨i+1,by simp;omega,by omega,p,by simpa using h3,h4,h5⟩
theorem IR:∀(b:Nat) (kv:List (List UInt8×Value)),(dt b kv).map (·.born)=List.range' b kv.length
 |b,[]=>rfl
 |b,_ :: r=>by
  show b :: (dt (b+1) r).map (·.born)=_;rw [IR (b+1) r,List.length_cons,List.range'_succ]
theorem MH (k k':List UInt8):((⟨k.toArray⟩:ByteArray)==⟨k'.toArray⟩)=(k==k'):=by
 show (k.toArray==k'.toArray)=_;rw [Bool.eq_iff_iff,beq_iff_eq,beq_iff_eq];exact ⟨fun h=>by simpa using congrArg Array.toList h,fun h=>by rw [h]⟩
theorem Pp (key:List UInt8):∀(kv:List (List UInt8×Value)) (b i:Nat),∃j,Instr.findNow .string (str key) (dt b kv) i=some ((fa kv key).map fun v=>(j,v))
 | [],b,i=>⟨0,rfl⟩
 |(k,v) :: r,b,i=>by
  obtain ⟨j,hj⟩:=Pp key r (b+1) (i+1);have hs:Instr.sameNow .string (str key) (str k)=some (key==k):=by show some (_==_)=_;rw [MH]
  by_cases hk:key=k
  · subst hk
    refine ⟨i,?_⟩;show Instr.findNow .string (str key) (⟨str key,v,b⟩ :: dt (b+1) r) i=_;unfold Instr.findNow;simp only [hs,beq_self_eq_true];simp [fa]
  · refine ⟨j,?_⟩
    show Instr.findNow .string (str key) (⟨str k,v,b⟩ :: dt (b+1) r) i=_;unfold Instr.findNow;have h1:(key==k)=false:=by simpa using hk
    have h2:(k==key)=false:=by simpa using fun e=>hk e.symm
    simp only [hs,h1,hj];simp [fa,h2]
theorem run_findKey {P:Program} {k:TypeId} (hk:P.underlying k=some .string) (key:List UInt8) (kv:List (List UInt8×Value)) (w:World):∃j,(Instr.findKey k (str key) (dt 0 kv)).run P w= .ok ((fa kv key).map fun v=>(j,v)) w:=by
 obtain ⟨j,hj⟩:=Pp key kv 0 0;refine ⟨j,?_⟩;simp only [Instr.findKey,Sem.run_bind,run_underlying hk,Result.andThen,hj]
 rfl
theorem run_checkKey {P:Program} {k:TypeId} (hk:P.underlying k=some .string) (b:Bool) (key:List UInt8) (w:World):(Instr.checkKey b 10000 k (str key)).run P w= .ok () w:=by
 unfold Instr.checkKey;simp only [Sem.run_bind,run_underlying hk,Result.andThen,str]
 rfl
def It (w:World) (b g n:Nat) (seen:List Nat):Prop:=w.heap[b]? =some (.mapIter (some g) n seen.toArray n)
theorem It.lt {w:World} {b g n:Nat} {seen} (h:It w b g n seen):b<w.heap.size:=by
 rcases Nat.lt_or_ge b w.heap.size with h1|h1
 · exact h1
 · unfold It at h;rw [Array.getElem?_eq_none h1] at h;cases h
theorem It.below {w w':World} {b g n:Nat} {seen} (h:It w b g n seen) (hb:Below w.heap.size w w'):It w' b g n seen:=(hb.block b h.lt).trans h
theorem It.grown {w w':World} {b g n:Nat} {seen} (h:It w b g n seen) {row:Option Nat} (hg:w.grownBy w' row) (hne:some b≠row):It w' b g n seen:=(hg.block b h.lt hne).trans h
theorem It.over {w w':World} {b g g' n:Nat} {seen} (h:It w b g n seen) (hg:w.grownBy w' (some g')) (hne:b≠g'):It w' b g n seen:=h.grown hg (fun e=>hne (Option.some.inj e))
theorem Hb (kv:List (List UInt8×Value)):∀x∈((dt 0 kv).toArray).toList,x.born<kv.length:=fun x hx=>by
 obtain ⟨i,h1,h2,_⟩:=EE 0 kv x (by simpa using hx);omega
theorem O1 {kv:List (List UInt8×Value)} {i:Nat} (hi:i<kv.length):∃e,(dt 0 kv)[i]? =some e∧e.born=i:=by
 have hp:(dt 0 kv)[i]? ≠none:=by rw [ne_eq,List.getElem?_eq_none_iff,O3];omega
 obtain ⟨e,he⟩:=Option.ne_none_iff_exists'.1 hp;refine ⟨e,he,?_⟩;have h2:((dt 0 kv).map (·.born))[i]? =some e.born:=by rw [List.getElem?_map,he];rfl
 rw [IR,List.getElem?_range' hi] at h2;have:=Option.some.inj h2;omega
theorem run_next_at {P:Program} {w:World} {b g ty:Nat} {kv:List (List UInt8×Value)} {seen:List Nat} (hi:It w b g kv.length seen) (hm:Mp w g kv):
 ((∀i,i<kv.length→i∈seen)∧(Instr.next (.pointer (some ⟨b,0,none⟩)) false ty).run P w= .ok (.tuple #[.bool false]) w)∨
 ∃i p w',kv[i]? =some p∧i<kv.length∧i ∉ seen∧It w' b g kv.length (seen++ [i])∧w.grownBy w' (some b)∧(Instr.next (.pointer (some ⟨b,0,none⟩)) false ty).run P w= .ok (.tuple #[.bool true,str p.1,p.2]) w':=by
 have hi':w.heap[b]? =some (.mapIter (some g) kv.length seen.toArray kv.length):=hi
 have hm':w.heap[g]? =some (.map (dt 0 kv).toArray kv.length):=hm
 have hlt:=hi.lt
 simp only [Instr.next,getObj,Sem.run_bind,Sem.run,hi',hm',Result.andThen,next_test_false seen.toArray (dt 0 kv).toArray kv.length kv.length (Hb kv) (Nat.le_refl _),Bool.false_eq_true,if_false]
 have hmem:∀x∈(Array.filter (fun e=> !seen.toArray.contains e.born) (dt 0 kv).toArray).toList,x∈dt 0 kv∧x.born ∉ seen:=fun x hx=>by
  have h2:=mem_left (es:=(dt 0 kv).toArray) (seen:=seen.toArray) hx;exact ⟨by simpa using h2.1,by simpa using h2.2⟩
 have hall:(Array.filter (fun e=> !seen.toArray.contains e.born) (dt 0 kv).toArray).size=0→∀i,i<kv.length→i∈seen:=fun h0 i hi=>by
  obtain ⟨e,he,hb⟩:=O1 hi;have:=all_seen _ _ h0 e (by simpa using List.mem_of_getElem? he);rw [hb] at this
  simpa using this
 generalize Array.filter (fun e=> !seen.toArray.contains e.born) (dt 0 kv).toArray=L at hmem hall ⊢
 have e1:L.filter (fun x=>decide (x.born<kv.length))=L:=Array.filter_eq_self.2 (fun x hx=>by
  have h2:=(hmem x (by simpa using hx)).1
  have:=Hb kv x (by simpa using h2)
  simpa using this)
 have e2:L.filter (fun x=>decide (x.born≥kv.length))= #[]:=by
  rw [Array.filter_eq_empty_iff];intro x hx;have h2:=(hmem x (by simpa using hx)).1;have:=Hb kv x (by simpa using h2);simp;omega
 simp only [e1,e2,Array.append_empty]
 by_cases h0:L.size=0
 · left
   refine ⟨hall h0,?_⟩
   have:L= #[]:=Array.eq_empty_of_size_eq_zero h0
   subst this
   simp [choose,Sem.run,Question.forced]
 · right
   have hne:L.isEmpty=false:=by simp [Array.isEmpty,h0]
   simp only [hne,Bool.false_eq_true,if_false,Array.empty_append,Array.size_map]
   have hch:∃(j:Nat) (w1:World),j<L.size∧(w1=w∨w1=w.drew)∧(choose (Question.mapNext L.size)).run P w= .ok j w1:=by
    by_cases hf:L.size≤1
    · exact ⟨0,w,by omega,.inl rfl,by simp [choose,Sem.run,Question.forced,hf]⟩
    · exact ⟨_,w.drew,Nat.mod_lt _ (by omega),.inr rfl,by
       simp only [choose,Sem.run,Question.forced,decide_eq_true_eq,hf,if_false,Question.cut]
       rfl⟩
   obtain ⟨j,w1,hj,hw1,hrun⟩:=hch
   have hh:w1.heap=w.heap:=by rcases hw1 with rfl|rfl<;>rfl
   obtain ⟨hin,hns⟩:=hmem L[j] (by simp)
   obtain ⟨i,hi2,hb2,p,hp,hk,hv⟩:=EE 0 kv L[j] hin
   have hbi:L[j].born=i:=by omega
   refine ⟨i,p,{w1 with heap:=w1.heap.setIfInBounds b (.mapIter (some g) kv.length (seen++ [i]).toArray kv.length)},hp,hi2,by rw [←hbi];exact hns,?_,⟨?_,?_,?_,?_,fun k hk hne=>?_⟩,?_⟩
   · unfold It
     show (w1.heap.setIfInBounds b _)[b]? =_
     rw [hh];simp [hlt]
   · rcases hw1 with rfl|rfl<;>rfl
   · rcases hw1 with rfl|rfl<;>rfl
   · rcases hw1 with rfl|rfl<;>rfl
   · show w.heap.size≤(w1.heap.setIfInBounds b _).size
     rw [hh];simp
   · show (w1.heap.setIfInBounds b _)[k]? =_
     have:b≠k:=fun e=>hne (by rw [e])
     rw [hh];simp [this]
   · have hset:(setObj b (.mapIter (some g) kv.length (seen.toArray.push L[j].born) kv.length)).run P w1= .ok () {w1 with heap:=w1.heap.setIfInBounds b (.mapIter (some g) kv.length (seen++ [i]).toArray kv.length)}:=by
      simp only [setObj,Sem.run,hh,hi',hbi,List.push_toArray]
     simp only [hrun,Array.getElem?_map,Array.getElem?_eq_getElem hj,Option.map_some,Sem.run_bind,hset,Result.andThen];rw [←hk,←hv]
     rfl
section
variable {P:Program} {N:Nat} {D:List Deferred} {env env':Env} {a:Act} {w w':World} {Q:Exit→Act→World→Prop}
variable {ops:Array Oper} {rest:List Oper} {d:Nat} {op:Op} {ty:TypeId} {pos:String} {af:Array Edge}
theorem Mp.new (w:World):Mp (w.alloc (.map #[] 0)) w.heap.size []:=by unfold Mp;show (w.heap.push _)[w.heap.size]? =_;simp;rfl
theorem adM {t:TypeId}:Mk P N D env w (.makeMap t none) ty (.map (some w.heap.size)) (w.alloc (.map #[] 0)):=fun a ha dst pos af g=>by
 simp [execOp,Instr.makeMap,newObj,Sem.run]
theorem yp {t:TypeId} (hd:Nat.blt d N=true) (h:∀g w',w.heap.size≤g→Mp w' g []→Below w.heap.size w w'→Wl P ops Q rest N D ((d,.map (some g)) :: env) w'):
 Wl P ops Q (⟨some d,.makeMap t none,ty,pos,af,none⟩ :: rest) N D env w:=
 iM adM hd (h _ _ (Nat.le_refl _) (Mp.new w) ((Below.refl _ _).alloc (Nat.le_refl _) _))
theorem afv {m i x:Operand} {t k e:TypeId} {g:Nat} {kv:List (List UInt8×Value)} {key:List UInt8} {v:Value} (ht:P.underlying t=some (.map k e)) (hk:P.underlying k=some .string) (hx:ev env m=some (.map (some g))) (hi:ev env i=some (str key)) (hv:ev env x=some v) (hm:Mp w g kv) (hn:fa kv key=none):
 ∃w',St P N D env w (.insert t m i x) ty w'∧Mp w' g (kv++ [(key,v)])∧w.grownBy w' (some g):=by
 refine ⟨{w with heap:=w.heap.setIfInBounds g (.map (dt 0 (kv++ [(key,v)])).toArray (kv++ [(key,v)]).length)},fun a ha dst pos af g'=>?_,?_,⟨rfl,rfl,rfl,by simp,fun j hj hne=>?_⟩⟩
 · obtain ⟨j,hj⟩:=run_findKey (P:=P) hk key kv w
   rw [hn] at hj
   have hm':w.heap[g]? =some (.map (dt 0 kv).toArray kv.length):=hm
   simp [execOp,ha.eval hx,ha.eval hi,ha.eval hv,Instr.mapUpdate,run_underlying ht,getObj,Sem.run,hm',run_checkKey hk,hj,setObj,IS]
 · unfold Mp
   have:=hm.lt
   show (w.heap.setIfInBounds g _)[g]? =_
   simp [this]
 · show (w.heap.setIfInBounds g _)[j]? =_
   have:g≠j:=fun e=>hne (by rw [e])
   simp [this]
theorem zV {m i x:Operand} {t k e:TypeId} {g:Nat} {kv:List (List UInt8×Value)} {key:List UInt8} {v:Value} (ht:P.underlying t=some (.map k e)) (hk:P.underlying k=some .string) (hx:ev env m=some (.map (some g))) (hi:ev env i=some (str key)) (hv:ev env x=some v) (hm:Mp w g kv) (hn:fa kv key=none)
 (h:∀w',Mp w' g (kv++ [(key,v)])→w.grownBy w' (some g)→Wl P ops Q rest N D env w'):Wl P ops Q (⟨none,.insert t m i x,ty,pos,af,none⟩ :: rest) N D env w:=by
 obtain ⟨w',h1,h2,h3⟩:=afv (N:=N) (D:=D) (ty:=ty) ht hk hx hi hv hm hn
 exact rJ h1 (h w' h2 h3)
theorem LJ {x i:Operand} {t k e:TypeId} {g:Nat} {kv:List (List UInt8×Value)} {key:List UInt8} {z:Value} (ht:P.underlying t=some (.map k e)) (hk:P.underlying k=some .string) (hz:(P.info? e).bind (·.zero)=some z) (hx:ev env x=some (.map (some g))) (hi:ev env i=some (str key)) (hm:Mp w g kv):
 Ld P N D env w (.lookup t x i true) ty (.tuple #[(fa kv key).getD z,.bool (fa kv key).isSome]):=fun a ha dst pos af g'=>by
 obtain ⟨j,hj⟩:=run_findKey (P:=P) hk key kv w
 have hm':w.heap[g]? =some (.map (dt 0 kv).toArray kv.length):=hm
 obtain ⟨ie,hi2,hz'⟩:=Option.bind_eq_some_iff.1 hz
 cases hl:fa kv key with
 |none=>
  rw [hl] at hj;simp [execOp,ha.eval hx,ha.eval hi,Instr.lookup,run_underlying ht,getObj,Sem.run,hm',run_checkKey hk,hj,zeroValue,typeInfo,hi2,hz']
 |some v=>
  rw [hl] at hj;simp [execOp,ha.eval hx,ha.eval hi,Instr.lookup,run_underlying ht,getObj,Sem.run,hm',run_checkKey hk,hj]
theorem adN {x:Operand} {t k e:TypeId} {g:Nat} {kv:List (List UInt8×Value)} (ht:P.underlying t=some (.map k e)) (hx:ev env x=some (.map (some g))) (hm:Mp w g kv):
 Mk P N D env w (.range t x) ty (.pointer (some ⟨w.heap.size,0,none⟩)) (w.alloc (.mapIter (some g) kv.length #[] kv.length)):=fun a ha dst pos af g'=>by
 have hm':w.heap[g]? =some (.map (dt 0 kv).toArray kv.length):=hm
 simp [execOp,ha.eval hx,Instr.range,run_underlying ht,getObj,Sem.run,hm',newObj]
theorem W5 {x:Operand} {t k e:TypeId} {g:Nat} {kv:List (List UInt8×Value)} (ht:P.underlying t=some (.map k e)) (hx:ev env x=some (.map (some g))) (hm:Mp w g kv) (hd:Nat.blt d N=true)
 (h:∀b w',w.heap.size≤b→It w' b g kv.length []→Below w.heap.size w w'→Wl P ops Q rest N D ((d,.pointer (some ⟨b,0,none⟩)) :: env) w'):
 Wl P ops Q (⟨some d,.range t x,ty,pos,af,none⟩ :: rest) N D env w:=
 iM (adN ht hx hm) hd (h _ _ (Nat.le_refl _) (by unfold It;show (w.heap.push _)[w.heap.size]? =_;simp) ((Below.refl _ _).alloc (Nat.le_refl _) _))
theorem W2 {x:Operand} {g:Nat} {kv:List (List UInt8×Value)} {seen:List Nat} {b:Nat} (hx:ev env x=some (.pointer (some ⟨b,0,none⟩))) (hi:It w b g kv.length seen) (hm:Mp w g kv) (hd:Nat.blt d N=true)
 (h0:(∀i,i<kv.length→i∈seen)→Wl P ops Q rest N D ((d,.tuple #[.bool false]) :: env) w)
 (h1:∀i p w',kv[i]? =some p→i<kv.length→i ∉ seen→It w' b g kv.length (seen++ [i])→w.grownBy w' (some b)→Wl P ops Q rest N D ((d,.tuple #[.bool true,str p.1,p.2]) :: env) w'):
 Wl P ops Q (⟨some d,.next x false,ty,pos,af,none⟩ :: rest) N D env w:=by
 rcases run_next_at (P:=P) (ty:=ty) hi hm with ⟨ha',hr⟩|⟨i,p,w',hp,hi2,hns,hI,hg,hr⟩
 · exact iM (fun a ha dst pos af g'=>by simp [execOp,ha.eval hx,hr]) hd (h0 ha')
 · exact iM (fun a ha dst pos af g'=>by simp [execOp,ha.eval hx,hr]) hd (h1 i p w' hp hi2 hns hI hg)
theorem adh {x:Operand} {g:Nat} {kv:List (List UInt8×Value)} {seen:List Nat} {b i:Nat} {p:List UInt8×Value} (hx:ev env x=some (.pointer (some ⟨b,0,none⟩))) (hI:It w b g kv.length (seen++ [i])) (hm:Mp w g kv) (hp:kv[i]? =some p):
 Ld P N D env w (.entry x) ty (.tuple #[str p.1,p.2]):=fun a ha dst pos af g'=>by
 have hi':w.heap[b]? =some (.mapIter (some g) kv.length (seen++ [i]).toArray kv.length):=hI
 have hm':w.heap[g]? =some (.map (dt 0 kv).toArray kv.length):=hm
 have hi:i<kv.length:=(List.getElem?_eq_some_iff.1 hp).1
 obtain ⟨e,he,hb⟩:=O1 hi
 have hmem:e∈(dt 0 kv):=List.mem_of_getElem? he
 obtain ⟨i',_,hb2,p',hp',hk,hv⟩:=EE 0 kv e hmem
 have:i'=i:=by omega
 subst this
 rw [hp] at hp';cases hp'
 have hf:(dt 0 kv).toArray.find? (·.born==i')=some e:=by
  rw [←hb,←Array.find?_toList];exact find_born e _ (by rw [show ((dt 0 kv).toArray).toList=dt 0 kv by simp,IR];exact List.nodup_range') (by simpa using hmem)
 have hbk:(seen++ [i']).toArray.back? =some i':=by rw [←List.push_toArray,Array.back?_push]
 have hr:(Instr.entry (.pointer (some ⟨b,0,none⟩))).run P w= .ok (.tuple #[str p.1,p.2]) w:=by
  simp only [Instr.entry,getObj,Sem.run_bind,Sem.run,hi',hm',Result.andThen,hbk,bne_self_eq_false,Bool.false_eq_true,if_false,hf];rw [←hk,←hv];rfl
 simp [execOp,ha.eval hx,hr]
def FF (n:Nat) (seen:List Nat):Nat:=((List.range n).filter (fun i=> !seen.contains i)).length
theorem adw {n i:Nat} {seen:List Nat} (hi:i<n) (hs:i ∉ seen):FF n (seen++ [i])<FF n seen:=by
 unfold FF;have hm:i∈List.range n:=List.mem_range.2 hi
 revert hm
 generalize List.range n=l
 induction l with
 |nil=>intro h;cases h
 |cons x r ih=>
  intro h
  have hle:∀r:List Nat,(r.filter (fun j=> !(seen++ [i]).contains j)).length≤(r.filter (fun j=> !seen.contains j)).length:=fun r=>by
   induction r with
   |nil=>exact Nat.le_refl _
   |cons y r ih=>rw [List.filter_cons,List.filter_cons];by_cases hy:y∈seen<;>by_cases hyi:y=i<;>simp_all<;>omega
  rw [List.filter_cons,List.filter_cons];by_cases hx:x=i
  · subst hx
    have:=hle r;simp [hs] at this ⊢;omega
  · have hr:i∈r:=by rcases List.mem_cons.1 h with h|h;exact absurd h.symm hx;exact h
    have:=ih hr;by_cases hxs:x∈seen<;>simp [hxs,hx] at this ⊢<;>omega
def fz:Value→Bool| .nilIface=>true|_=>false
def zM (v:Value):Prop:=v= .nilIface∨∃d p,v= .iface d p
theorem ahY {x:Operand} {v:Value} {t u:TypeId} (h:P.underlying t=some (.interface (P.methodsAt t))) (hx:ev env x=some v) (hv:zM v):Yl P N D env (.binOp .eql t x (.const .nilIface) u) ty (.bool (fz v)):=fun a ha w dst pos af g=>by
 have he:a.eval (Operand.const Value.nilIface)= .nilIface:=rfl
 rcases hv with rfl|⟨d,p,rfl⟩
 · simp [execOp,ha.eval hx,he,eqGuard_nil_constR,run_eql_nil_nil w t h,fz]
 · simp [execOp,ha.eval hx,he,eqGuard_at_iface,run_eql_held_nil w t d p h,fz]
theorem Nj {x:Operand} {v:Value} {t u:TypeId} (h:P.underlying t=some (.interface (P.methodsAt t))) (hx:ev env x=some v) (hv:zM v):Yl P N D env (.binOp .neq t x (.const .nilIface) u) ty (.bool (!fz v)):=fun a ha w dst pos af g=>by
 have he:a.eval (Operand.const Value.nilIface)= .nilIface:=rfl
 rcases hv with rfl|⟨d,p,rfl⟩
 · simp [execOp,ha.eval hx,he,eqGuard_nil_constR,run_neq_nil_nil w t h,fz]
 · simp [execOp,ha.eval hx,he,eqGuard_at_iface,run_neq_held_nil w t d p h,fz]
end
end Go.Bw
namespace Go.Bw
open Go.RowKit
set_option linter.unusedVariables false
set_option linter.unusedSimpArgs false
section
variable {P:Program} {N:Nat} {D:List Deferred} {env env':Env} {a:Act} {w w':World} {Q:Exit→Act→World→Prop}
variable {ops:Array Oper} {rest:List Oper} {d:Nat} {op:Op} {ty:TypeId} {pos:String} {af:Array Edge}
def oF (w:World) (b:Nat) (l:List UInt8) (i:Nat):Prop:=w.heap[b]? =some (.stringIter ⟨l.toArray⟩ i)
theorem oF.lt {b i:Nat} {l:List UInt8} (h:oF w b l i):b<w.heap.size:=by
 rcases Nat.lt_or_ge b w.heap.size with h1|h1
 · exact h1
 · unfold oF at h;simp [Array.getElem?_eq_none h1] at h
theorem W6 {x:Operand} {t:TypeId} {l:List UInt8} (ht:P.underlying t=some .string) (hx:ev env x=some (str l)) (hd:Nat.blt d N=true)
 (h:∀b w',w.heap.size≤b→oF w' b l 0→Below w.heap.size w w'→Wl P ops Q rest N D ((d,.pointer (some ⟨b,0,none⟩)) :: env) w'):
 Wl P ops Q (⟨some d,.range t x,ty,pos,af,none⟩ :: rest) N D env w:=
 iM (v:= .pointer (some ⟨w.heap.size,0,none⟩)) (w':=w.iter ⟨l.toArray⟩ 0) (fun a ha dst pos af g=>by
  have h1:=run_range_string (P:=P) w t ⟨l.toArray⟩ ht
  have h2:(Instr.range t (str l)).run P w=_:=h1
  simp [execOp,ha.eval hx,h2]) hd (h _ _ (Nat.le_refl _) (World.iter_heap w _ 0) ((Below.refl _ _).alloc (Nat.le_refl _) _))
end
theorem fJ {P:Program} {N:Nat} {D:List Deferred} {env:Env} {w:World} {Q:Exit→Act→World→Prop} {ops:Array Oper} {rest:List Oper} {ty:TypeId} {pos:String} {af:Array Edge} {x y:Operand} {t e:TypeId} {g j:Nat} {cs:List Value} {v:Value} (ht:One P t) (hx:ev env x=some (.pointer (some ((⟨g,0,none⟩:Addr).add j)))) (hy:ev env y=some v) (h1:v.oneCell'=true) (hb:aq w g e cs) (hj:j<cs.length)
 (h:∀w',aq w' g e (cs.set j v)→w.grownBy w' (some g)→Wl P ops Q rest N D env w'):Wl P ops Q (⟨none,.store t x y,ty,pos,af,none⟩ :: rest) N D env w:=by
 have hc:w.cell? ((⟨g,0,none⟩:Addr).add j)=some cs[j]:=hb.at (List.getElem?_eq_getElem hj)
 have hf:w.frozen? ((⟨g,0,none⟩:Addr).add j)=false:=by rw [pu];exact hb.frozen j
 have e1:w.setCell ((⟨g,0,none⟩:Addr).add j) v=w.setRow g (cs.set j v).toArray:=by
  rw [pu,setCell_eq_setRow w g j cs.toArray e (0,0) v hb];simp
 refine rJ (zt ht hx hy h1 hc hf) (h _ (e1 ▸ hb.setRow) ?_)
 exact ⟨rfl,rfl,rfl,by simp [World.setCell],fun k _ hne=>Below.heap_setCell w _ _ k (fun e=>hne (by rw [e,pu]))⟩
end Go.Bw
namespace Go.Bw
open Go.RowKit
set_option linter.unusedVariables false
set_option linter.unusedSimpArgs false
section
variable {P:Program} {N:Nat} {D:List Deferred} {env env':Env} {a:Act} {w w':World} {Q:Exit→Act→World→Prop} {K:Act→World→Prop}
variable {ops:Array Oper} {rest:List Oper} {d:Nat} {op:Op} {ty:TypeId} {pos:String} {af:Array Edge}
end
def Kp (p:Nat) (w w':World):Prop:=w.grownBy w' (some p)
theorem Kp.refl (p:Nat) (w:World):Kp p w w:=World.grownBy.refl w _
theorem Kp.size {p:Nat} {w w':World} (h:Kp p w w'):w.heap.size≤w'.heap.size:=World.grownBy.size h
theorem Kp.trans {p:Nat} {a b c:World} (h:Kp p a b) (k:Kp p b c):Kp p a c:=
 ⟨k.os.trans h.os,k.tape.trans h.tape,k.output.trans h.output,Nat.le_trans h.size k.size,fun i hi hn=>(k.block i (Nat.lt_of_lt_of_le hi h.size) hn).trans (h.block i hi hn)⟩
theorem Below.kp {p:Nat} {w w':World} (h:Below w.heap.size w w'):Kp p w w':=⟨h.os,h.tape,h.output,h.size,fun k hk _=>h.block k hk⟩
theorem mz {p g:Nat} {w0 w w':World} (hb:Kp p w0 w) (hg:w.grownBy w' (some g)) (hB:w0.heap.size≤g∨g=p):Kp p w0 w':=
 ⟨hg.os.trans hb.os,hg.tape.trans hb.tape,hg.output.trans hb.output,Nat.le_trans hb.size hg.size,fun i hi hn=>(hg.block i (Nat.lt_of_lt_of_le hi hb.size) (fun e=>by cases e;rcases hB with h|h;(· omega);(· exact hn (by rw [h])))).trans (hb.block i hi hn)⟩
theorem Kp.below {p B:Nat} {w w':World} (h:Kp p w w') (hB:B≤p) (hs:B≤w.heap.size):Below B w w':=⟨h.os,h.tape,h.output,h.size,fun k hk=>h.block k (by omega) (fun e=>by cases e;omega)⟩
theorem aq.kp {p g:Nat} {e:TypeId} {cs:List Value} {w w':World} (h:aq w g e cs) (hk:Kp p w w') (hn:g≠p):aq w' g e cs:=h.grown hk (fun e=>hn (Option.some.inj e))
theorem Ek (q:Addr) (n:Nat):(q.add n).block=q.block:=by unfold Addr.add;split<;>rfl
theorem LI {p:Nat} {w0 w w':World} {r:Option Nat} (hb:Kp p w0 w) (hg:w.grownBy w' r) (h:∀k,r=some k→w0.heap.size≤k∨k=p):Kp p w0 w':=
 ⟨hg.os.trans hb.os,hg.tape.trans hb.tape,hg.output.trans hb.output,Nat.le_trans hb.size hg.size,fun i hi hn=>(hg.block i (Nat.lt_of_lt_of_le hi hb.size) (fun e=>by rcases h i e.symm with h|h;(· omega);(· exact hn (by rw [h])))).trans (hb.block i hi hn)⟩
theorem ro {p base:Nat} {e:TypeId} {sz:Nat} {v:Value} {n:Nat} {xs:List Value} {w w':World} (h:w.ownsRow base e sz v n xs) (hk:Kp p w w') (hp:p<base):w'.ownsRow base e sz v n xs:=
 World.ownsRow.kept h hk (by
  cases hv:v.ownBlock with
  |none=>exact .inl rfl
  |some k=>exact .inr (fun e=>by have:=(bz h k hv).1;cases e;omega))
section
variable {P:Program} {N:Nat} {D:List Deferred} {env env':Env} {a:Act} {w w':World} {Q:Exit→Act→World→Prop} {K:Act→World→Prop}
variable {ops:Array Oper} {rest:List Oper} {d:Nat} {op:Op} {ty:TypeId} {pos:String} {af:Array Edge}
end
section
variable {P:Program} {N:Nat} {D:List Deferred} {env env':Env} {a:Act} {w w':World} {Q:Exit→Act→World→Prop}
variable {ops:Array Oper} {rest:List Oper} {d:Nat} {op:Op} {ty:TypeId} {pos:String} {af:Array Edge}
end
theorem Mp.kp {p g:Nat} {kv:List (List UInt8×Value)} {w w':World} (h:Mp w g kv) (hk:Kp p w w') (hn:g≠p):Mp w' g kv:=h.grown hk (fun e=>hn (Option.some.inj e))
end Go.Bw
