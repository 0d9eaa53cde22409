import Derived.Test.YtjdjliiolchciaaGreatDoorZL
import Derived.Lib.AppendStr
namespace Go.Proofs
open Go.Shelf
def NZ:Go.Shelf.Ren:=⟨fun|241=>210|277=>215|n=>n,fun|70=>113|3=>3|0=>0|72=>116|37=>114|5=>5|n=>n,fun|n=>n⟩
theorem V5:Go.Proofs.Lays.n241 Tryz.prog NZ:={
 mixed:=by kernel_rfl
 f241:=Tryz.func210.trans (congrArg some (by kernel_rfl))
 f277:=Tryz.func215.trans (congrArg some (by kernel_rfl))
 t0:=Tryz.underlying0
 a0:=Tryz.isAgg0
 z0:=Tryz.sizeOf0
 v0:=Tryz.zeroValue0
 t3:=Tryz.underlying3
 a3:=Tryz.isAgg3
 z3:=Tryz.sizeOf3
 v3:=Tryz.zeroValue3
 t37:=Tryz.underlying114
 a37:=Tryz.isAgg114
 z37:=Tryz.sizeOf114
 v37:=Tryz.zeroValue114
 t70:=Tryz.underlying113
 a70:=Tryz.isAgg113
 z70:=Tryz.sizeOf113
 v70:=Tryz.zeroValue113
 t72:=Tryz.underlying116
 a72:=Tryz.isAgg116
 z72:=Tryz.sizeOf116
 v72:=Tryz.zeroValue116}
theorem VT:Builder.Extra Tryz.prog NZ:={
 sizeBuilder:=by kernel_rfl
 liesBuilder:=by kernel_rfl
 t5:=Tryz.underlying5
 a5:=Tryz.isAgg5
 z5:=Tryz.sizeOf5
 v5:=Tryz.zeroValue5
 infoByte:=by kernel_rfl
 cellsByte:=by kernel_rfl
 sizeByte:=by kernel_rfl
 neB5:=by decide}
open Go.RowKit in
theorem Tryz.Builder_grow_fresh (B b n:Nat) (w:World) (hB:B≤b) (hbk:w.heap[b]? =some (.cells #[.pointer (some ⟨b,0,none⟩),.slice none 0 0] 116 (0,0))) (hBw:B≤w.heap.size) (hn:n≤281474976710656):
 Calls Tryz.prog 210 #[.pointer (some ⟨b,0,none⟩),.int .i64 n] w fun e w'=>e= .returned (.tuple #[])∧(Lib.BuilderAt 116 5 B b (.pointer (some ⟨b,0,none⟩)) [] w'∧Below B w w'):=Any.Builder_grow_fresh V5 VT B b n w hB hbk hBw hn
end Go.Proofs
namespace Go.Bw
open Go.RowKit
set_option linter.unusedVariables false
set_option linter.unusedSimpArgs false
section
variable {P:Program} {N:Nat} {D:List Deferred} {env env':eR} {a:Act} {w w':World} {Q:Exit→Act→World→Prop}
variable {ops:Array Oper} {rest:List Oper} {d:Nat} {op:Op} {ty:TypeId} {pos:String} {af:Array Edge}
theorem ag5 {x:Operand} {A:Option Addr} {n c:Nat} {t e:TypeId} (ht:P.underlying t=some (.slice e)) (hl:c≤9223372036854775807) (hx:ev env x=some (.slice A n c)):Yl P N D env (.call ⟨.builtin .cap,#[x],#[t]⟩) ty (.int .i64 c):=fun a ha w dst pos af g=>by
 simp [execOp,resolve,invoke,builtin,Builtin.cap_,ha.eval hx,run_underlying ht,goInt]
theorem WA {x y:Operand} {t u e:TypeId} (ht:P.underlying t=some (.slice e)) (hu:P.underlying u=some .string) (hi:(P.info? e).map (fun i=>(i.zero,i.size,i.bytes))=some (some (.int .u8 0),1,1))
 (base:Nat) {v:Value} {n:Nat} {xs:List Value} (hx:ev env x=some v) (hown:w.ownsRow base e 1 v n xs) {l:ao} (hy:ev env y=some (str l))
 (h63:n+l.length≤140737488355328) (hbase:base≤w.heap.size) (hd:Nat.blt d N=true)
 (h:∀v' w',w'.ownsRow base e 1 v' (n+l.length) (xs++Lib.byteCells l)→w.grownBy w' v.ownBlock→Wl P ops Q rest N D ((d,v') :: env) w'):
 Wl P ops Q (⟨some d,.call ⟨.builtin .append,#[x,y],#[t,u]⟩,ty,pos,af,none⟩ :: rest) N D env w:=by
 obtain ⟨i,hi0,hi1⟩:=Option.map_eq_some_iff.1 hi
 simp only [Prod.mk.injEq] at hi1
 obtain ⟨hz0,hs0,hb0⟩:=hi1
 have hsz:(⟨l.toArray⟩:ByteArray).size=l.length:=pJ l
 obtain ⟨v',w',hr,h2,h3,_⟩:=Lib.run_append_own_string (P:=P) w base t u ty e i ht hu hi0 hz0 hs0 hb0 v n xs hown ⟨l.toArray⟩ (by rw [hsz];unfold maxLen;omega) (by rw [hsz];omega) hbase
 rw [hsz] at h2
 refine oo (w':=w') (v:=v') (fun a ha dst pos af g=>?_) hd (h v' w' h2 h3)
 have hr2:(Builtin.append_ #[t,u] ty #[v,str l]).run P w= .ok v' w':=hr
 simp [execOp,resolve,invoke,builtin,ha.eval hx,ha.eval hy,hr2]
end
end Go.Bw
namespace Go.Proofs.YtjdjliiolchciaaGreatDoor
open Go.RowKit Go.Bw Go.Bw.Fl
set_option linter.unusedVariables false
set_option linter.unusedSimpArgs false
theorem EJ (p:Addr) (w:World):(Instr.fieldAt 116 (.pointer (some p)) 1).run Tryz.prog w= .ok (.pointer (some (p.add 1))) w:=eT (i:=1) (sz:=0) Tryz.underlying116 rfl (by kernel_rfl) p w
theorem Mr:One Tryz.prog 114:=⟨_,Tryz.underlying114,rfl,by kernel_rfl⟩
theorem afD:bB Tryz.prog 210:=⟨_,Tryz.func210,by kernel_rfl,rfl⟩
theorem WZ (l m:ao):Lib.byteCells (l++m)=Lib.byteCells l++Lib.byteCells m:=by simp [Lib.byteCells]
theorem Ob (B b:Nat) (l m:ao) (w:World) (h:Lib.IsBuilder 116 5 B b (Lib.byteCells l) w) (hl:l.length+m.length≤140737488355328) (hBw:B≤w.heap.size):bx Tryz.prog 207 [.pointer (some ⟨b,0,none⟩),str m] w fun v w'=>v= .tuple #[.int .i64 (m.length:Nat),.nilIface]∧Lib.IsBuilder 116 5 B b (Lib.byteCells (l++m)) w'∧Below B w w':=by
 have hbl:(Lib.byteCells l).length=l.length:=Lib.byteCells_length l;have hbm:(Lib.byteCells m).length=m.length:=Lib.byteCells_length m;refine enter Tryz.func207 rfl rfl rfl<|am fun aR=>an rfl<|an rfl<|al aR<|am fun b8=>ai rfl<|aD M5 rfl rfl (ON B b _ _ h) rfl ?_
 rintro _ w1 ⟨rfl,hA,hb1⟩;refine al b8<|av fun _ dV=>?_
 obtain ⟨hB,v,hbk,hown,hne⟩:=hA;have c1:w1.cell? ⟨b,1,none⟩=some v:=by rw [Lib.cell_of_heap hbk];rfl
 have hsz1:=hb1.size;refine aQ<|ai rfl<|ai rfl<|ae (cI rfl) rfl<|ae (aP (EJ _) rfl) rfl<|aG (aS Mr rfl (c1)) rfl<|ai rfl<|WA (l:=m) Tryz.underlying114 Tryz.underlying9 (by kernel_rfl) B rfl hown rfl (by omega) (by omega) rfl ?_
 rintro v3 w3 hown3 hgr
 have hlt:b<w1.heap.size:=by
  rcases Nat.lt_or_ge b w1.heap.size with h'|h'
  · exact h'
  · simp [Array.getElem?_eq_none h'] at hbk
 have hb3:w3.heap[b]? =some (.cells #[.pointer (some ⟨b,0,none⟩),v] 116 (0,0)):=by rw [hgr.block b (by omega) (fun e=>hne e.symm)];exact hbk
 obtain ⟨A3,cc3,hv3,_,_⟩:=uZ hown3;have hone:v3.oneCell'=true:=by rw [hv3];rfl
 have hb13:Below B w w3:=hb1.grown hgr (by omega) (fun k hk=>(jz hown k hk).1);refine ae (cI rfl) rfl<|ae (aP (EJ _) rfl) rfl<|t6 (Dm (p:=⟨b,1,none⟩) RE rfl rfl hone (by rw [Lib.cell_of_heap hb3];rfl) (Lib.frozen_of_heap hb3 1))<|al dV<|am fun mB=>ai rfl<|ae (ez Tryz.underlying9 (by omega) rfl) rfl<|an rfl<|an rfl<|al mB<|aJ<|fm rfl rfl rfl ?_
 exact ⟨_,rfl,rfl,.inr (by rw [WZ];exact Lib.BuilderAt.put hB hb3 (by rw [List.length_append,hbm];exact hown3) (by decide)),hb13.setCell (p:=⟨b,1,none⟩) hB _⟩
theorem Zk (B b n:Nat) (w:World) (hB:B≤b) (hbk:w.heap[b]? =some (.cells #[.pointer (some ⟨b,0,none⟩),.slice none 0 0] 116 (0,0))) (hBw:B≤w.heap.size) (hn:n≤281474976710656):bx Tryz.prog 210 [.pointer (some ⟨b,0,none⟩),.int .i64 (n:Int)] w fun v w'=>v= .tuple #[]∧Lib.BuilderAt 116 5 B b (.pointer (some ⟨b,0,none⟩)) [] w'∧Below B w w':=
 Calls.mono (Tryz.Builder_grow_fresh B b n w hB hbk hBw hn) fun e w' ⟨h1,h2,h3⟩=>⟨_,h1,rfl,h2,h3⟩
theorem U2 (B b n:Nat) (w:World) (hB:B≤b) (hbk:w.heap[b]? =some (.cells #[.pointer none,.slice none 0 0] 116 (0,0))) (hBw:B≤w.heap.size) (hn:n≤140737488355328):bx Tryz.prog 206 [.pointer (some ⟨b,0,none⟩),.int .i64 (n:Int)] w fun v w'=>v= .tuple #[]∧Lib.IsBuilder 116 5 B b [] w'∧Below B w w':=by
 have hf:Lib.BuilderAt 116 5 B b (.pointer none) [] w:=⟨hB,_,hbk,World.ownsRow_nil _ _ _ _,by simp [Value.ownBlock]⟩;refine enter Tryz.func206 rfl rfl rfl<|am fun aR=>ai rfl<|aD M5 rfl rfl (OO b w hf.cell0 hf.shape hf.frozen0) rfl ?_
 rintro _ w1 ⟨rfl,hw1⟩;refine al aR<|av fun _ b8=>av fun _ dC=>?_
 have hb1:Below B w w1:=by rw [hw1];exact (Below.refl B w).setCell (p:=⟨b,0,none⟩) hB _
 have hbk1:w1.heap[b]? =some (.cells #[.pointer (some ⟨b,0,none⟩),.slice none 0 0] 116 (0,0)):=by rw [hw1];simp [World.setCell,Array.getElem?_modify,hbk]
 have c1:w1.cell? ⟨b,1,none⟩=some (.slice none 0 0):=by rw [Lib.cell_of_heap hbk1];rfl
 have hsz1:=hb1.size;have hltb:b<w1.heap.size:=El c1;refine aQ<|ai rfl<|ae (dL rfl rfl) rfl<|al dC<|aO rfl (fun d7=>?_) (fun d7=>?_)
 ·
  have oV:=d7;simp only [DZ] at d7;omega
 refine aU<|ax b8<|av fun _ dW=>Ap (by kernel_rfl) (by kernel_rfl)<|dh (dN rfl) rfl<|dh (cI rfl) rfl<|dh (aP (EJ _) rfl) rfl<|oq (fun wq hq=>aS Mr rfl (ou hq c1)) rfl<|dh (ag5 Tryz.underlying114 (by omega) rfl) rfl<|dh (dN rfl) rfl<|dh (cI rfl) rfl<|dh (aP (EJ _) rfl) rfl<|oq (fun wq hq=>aS Mr rfl (ou hq c1)) rfl<|dh (iC Tryz.underlying114 (by omega) rfl) rfl<|dh (iQ rfl rfl (by omega) (by omega)) rfl<|dh (dN rfl) rfl<|dh (dL rfl rfl) rfl<|qD fun w2 hs2=>?_
 have hbk2:w2.heap[b]? =some (.cells #[.pointer (some ⟨b,0,none⟩),.slice none 0 0] 116 (0,0)):=by rw [hs2.block b hltb];exact hbk1
 have hb2:Below B w w2:=hb1.trans (hs2.mono (by omega));refine ax dW<|aO rfl (fun gD=>?_) (fun gD=>?_)
 ·
  refine aQ<|ai rfl<|ai rfl<|aD afD rfl rfl (Zk B b n w2 hB hbk2 (Nat.le_trans hBw hb2.size) (by omega)) rfl ?_
  rintro _ w3 ⟨rfl,hg3,hb3⟩;refine ay<|o4 rfl ?_
  exact ⟨_,rfl,rfl,.inr hg3,hb2.trans hb3⟩
 refine aU<|o4 rfl ?_
 exact ⟨_,rfl,rfl,.inr ⟨hB,_,hbk2,World.ownsRow_nil _ _ _ _,by simp [Value.ownBlock]⟩,hb2⟩
theorem S7 {α:Type} {l:List α} {i:Nat} (d:α) (h:i<l.length):l.take (i+1)=l.take i++ [l.getD i d]:=by
 rw [List.take_add_one,List.getElem?_eq_getElem h];simp [List.getD,List.getElem?_eq_getElem h]
open Go.RowKit Go.Bw Go.Bw.Fl Go.Shelf
theorem Pz:∀(l:List Tok) (i j:Nat) (hi:i<l.length),j<3→(l.flatMap Tok.cells)[i * 3+j]? =(l[i]).cells[j]?
 | [],i,j,h,_=>by simp at h
 |t :: r,0,j,_,hj=>by
  rw [List.flatMap_cons,Nat.zero_mul,Nat.zero_add,List.getElem?_append_left (by show j<3;exact hj)];rfl
 |t :: r,i+1,j,h,hj=>by
  have h':i<r.length:=by simpa using h
  rw [List.flatMap_cons,List.getElem?_append_right (by show 3≤_;omega),show (i+1) * 3+j - (Tok.cells t).length=i * 3+j by show (i+1) * 3+j - 3=_;omega,Pz r i j h' hj];rfl
theorem Y8 (l:List Tok):(l.flatMap Tok.cells).length=l.length * 3:=by
 induction l with
 |nil=>rfl
 |cons t r ih=>rw [List.flatMap_cons,List.length_append,ih,List.length_cons];show 3+_=_;omega
theorem Rd.tok {w:World} {A:Option Addr} {l:List Tok} (h:Rd w 3 A l.length (l.flatMap Tok.cells)) {i:Nat} (hi:i<l.length):∃p,A=some p∧∀(j:Nat) (u:Value),(l[i]).cells[j]? =some u→w.cell? ((p.add (i * 3)).add j)=some u:=by
 obtain ⟨p,e,hc⟩:=h.2 (by rw [Y8];omega);refine ⟨p,e,fun j u hu=>?_⟩;have hj:j<3:=(List.getElem?_eq_some_iff.1 hu).1;rw [jR];exact hc _ u (by rw [Pz l i j hi hj];exact hu)
end Go.Proofs.YtjdjliiolchciaaGreatDoor
