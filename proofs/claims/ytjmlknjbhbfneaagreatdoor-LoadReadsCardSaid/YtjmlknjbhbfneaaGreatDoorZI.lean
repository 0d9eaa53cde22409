import Derived.Tactics2
import Derived.Laws.Pointers
import Derived.Laws.LoneSync
import Derived.RegionTactic
import Derived.RegionCalls
import Derived.ChangeAlike
import Derived.Lib.SliceRun
import Derived.Laws.CopyRow
import Derived.Laws.MakeOwn
import Derived.Test.YtjmlknjbhbfneaaGreatDoorZJ
namespace Go.Proofs
open Go.Shelf Go.Bw
def Wg:Go.Shelf.Ren:=⟨fun|138=>69|195=>103|218=>105|143=>70|219=>106|217=>75|225=>147|224=>148|267=>149|266=>107|314=>185|n=>n,fun|9=>9|3=>3|4=>4|5=>5|0=>0|46=>148|146=>226|51=>176|n=>n,fun|1=>1|n=>n⟩
theorem Wf:Go.Proofs.Lays.n138 Tryz.prog Wg:={
 mixed:=by kernel_rfl
 f138:=Tryz.func69.trans (congrArg some (by kernel_rfl))
 f143:=Tryz.func70.trans (congrArg some (by kernel_rfl))
 f195:=Tryz.func103.trans (congrArg some (by kernel_rfl))
 f217:=Tryz.func75.trans (congrArg some (by kernel_rfl))
 f218:=Tryz.func105.trans (congrArg some (by kernel_rfl))
 f219:=Tryz.func106.trans (congrArg some (by kernel_rfl))
 f224:=Tryz.func148.trans (congrArg some (by kernel_rfl))
 f225:=Tryz.func147.trans (congrArg some (by kernel_rfl))
 f266:=Tryz.func107.trans (congrArg some (by kernel_rfl))
 f267:=Tryz.func149.trans (congrArg some (by kernel_rfl))
 f314:=Tryz.func185.trans (congrArg some (by kernel_rfl))
 t0:=ahi
 a0:=Tryz.isAgg0
 z0:=Tryz.sizeOf0
 v0:=Tryz.zeroValue0
 t3:=jp
 a3:=Tryz.isAgg3
 z3:=Tryz.sizeOf3
 v3:=Tryz.zeroValue3
 t4:=DU
 a4:=Tryz.isAgg4
 z4:=Tryz.sizeOf4
 v4:=Tryz.zeroValue4
 t5:=fq
 a5:=Tryz.isAgg5
 z5:=Tryz.sizeOf5
 v5:=Tryz.zeroValue5
 t9:=bq
 a9:=Tryz.isAgg9
 z9:=Tryz.sizeOf9
 v9:=Tryz.zeroValue9
 t46:=Gq
 a46:=Tryz.isAgg148
 z46:=Tryz.sizeOf148
 v46:=Tryz.zeroValue148
 t51:=ahj
 a51:=Tryz.isAgg176
 z51:=Tryz.sizeOf176
 v51:=Tryz.zeroValue176
 t146:=Tryz.underlying226
 a146:=Tryz.isAgg226
 z146:=Tryz.sizeOf226
 v146:=Tryz.zeroValue226
 g1:=by kernel_rfl}
open Go.RowKit Go.Lib in
theorem Tryz.strings_Count_one (s:ByteArray) (c:UInt8) (w:World):
 Calls Tryz.prog 69 #[.string s,.string ⟨#[c]⟩] w fun e w'=>e= .returned (.int .i64 (Lib.countByte s.data.toList c))∧w'=w:=Any.strings_Count_one Wf s c w
end Go.Proofs
namespace Go.Proofs.YtjmlknjbhbfneaaGreatDoor
open Go.RowKit Go.Bw
set_option linter.unusedVariables false
set_option linter.unusedSimpArgs false
theorem Sx (w:World):(callFunc 229 #[]).run Tryz.prog w= .ok (.value (.tuple #[])) w:=run_call_mark0 Tryz.func229 (by kernel_rfl) (by kernel_rfl) (by kernel_rfl) .disable (by kernel_rfl) w
theorem Sy (w:World):(callFunc 231 #[]).run Tryz.prog w= .ok (.value (.tuple #[])) w:=run_call_mark0 Tryz.func231 (by kernel_rfl) (by kernel_rfl) (by kernel_rfl) .enable (by kernel_rfl) w
theorem aeU (a:Addr) (w:World):(callFunc 232 #[.pointer (some a)]).run Tryz.prog w= .ok (.value (.tuple #[])) w:=run_call_marked Tryz.func232 (by kernel_rfl) (by kernel_rfl) (by kernel_rfl) .acquire (by kernel_rfl) a w
theorem aeV (a:Addr) (w:World):(callFunc 234 #[.pointer (some a)]).run Tryz.prog w= .ok (.value (.tuple #[])) w:=run_call_marked Tryz.func234 (by kernel_rfl) (by kernel_rfl) (by kernel_rfl) .releaseMerge (by kernel_rfl) a w
theorem afQ (a:Addr) (x:Value) (u:FrameMode) (w:World) (hc:w.cell? a=some x) (hz:w.frozen? a=false):
 CallsD Tryz.prog 214 #[.pointer (some a),.bool true] u w fun e u' w'=>u'=u∧(e= .returned (.tuple #[])∧w'=w.drew.setCell a (.int .u32 1)):=by
 have hc':w.drew.cell? a=some x:=by go_simp
 have hz':w.drew.frozen? a=false:=by go_simp
 have hst:=run_call_store (P:=Tryz.prog) Tryz.func225 (by kernel_rfl) (by kernel_rfl) (by kernel_rfl) (by kernel_rfl) (k:= .u32) (y:=1) hc' hz'
 go_enter_d Tryz.func214,Tryz.ntmps214
 go_wp2
 go_region_calls
 all_goals (go_end0;exact ⟨rfl,rfl⟩)
set_option maxRecDepth 100000 in
set_option maxHeartbeats 1600000 in
theorem ahk (a:Addr) (u:FrameMode) (w:World) (hc:w.cell? a=some (.int .i32 1)) (hz:w.frozen? a=false):
 CallsD Tryz.prog 213 #[.pointer (some a)] u w fun e u' w'=>u'=u∧(e= .returned (.tuple #[])∧w'=w.setCell a (.int .i32 0)):=by
 have hd:=Sx
 have he:=Sy
 have hr:=aeV
 have hadd:=run_call_add (P:=Tryz.prog) Tryz.func235 (by kernel_rfl) (by kernel_rfl) (by kernel_rfl) .i32 (by kernel_rfl) (y:= -1) (s:=0) hc hz (by simp [go_sem];rfl)
 have hcv:=run_convert_to_unsafe (P:=Tryz.prog) (src:=280) (dst:=137) Tryz.underlying280 Tryz.underlying137 (by kernel_rfl) hc
 go_enter_d Tryz.func213,Tryz.ntmps213
 go_wp2
 go_end0
 go_wp2
 go_end0
 exact ⟨rfl,rfl⟩
set_option maxRecDepth 100000 in
set_option maxHeartbeats 1600000 in
theorem adF (a:Addr) (w:World) (hc:w.cell? a=some (.int .i32 0)) (hz:w.frozen? a=false):
 Calls Tryz.prog 212 #[.pointer (some a)] w fun e w'=>e= .returned (.tuple #[])∧w'=w.setCell a (.int .i32 1):=by
 have hd:=Sx
 have he:=Sy
 have ha:=aeU
 have hcas:=run_call_cas_hit (P:=Tryz.prog) Tryz.func230 (by kernel_rfl) (by kernel_rfl) (by kernel_rfl) .i32 (by kernel_rfl) (y:=1) hc hz
 have hc':(w.setCell a (.int .i32 1)).cell? a=some (.int .i32 1):=World.cell?_setCell_same w a _ hc
 have hcv:=run_convert_to_unsafe (P:=Tryz.prog) (src:=280) (dst:=137) Tryz.underlying280 Tryz.underlying137 (by kernel_rfl) hc'
 go_enter Tryz.func212,Tryz.ntmps212
 go_wp2
 first|go_end0|(simp only [Exit.inBlock,Exit.then];refine bodyPost_ret (results_none rfl _ _ _) rfl ?_)|refine bodyPost_ret (results_none rfl _ _ _) rfl ?_
 go_wp2
 go_end0
 exact ⟨rfl,rfl⟩
theorem Ru (a:Addr) (w:World) (hc:w.cell? a=some (.int .u32 0)):
 Calls Tryz.prog 195 #[.pointer (some a)] w fun e w'=>e= .returned (.bool false)∧w'=w:=by
 have hl:=run_call_load (P:=Tryz.prog) Tryz.func211 (by kernel_rfl) (by kernel_rfl) (by kernel_rfl) .u32 (by kernel_rfl) (w:=w) (a:=a) (x:=0) hc
 have hnot:∀(x:Bool) (w:World),(Op.unary .not (.bool x)).run Tryz.prog w= .ok (.bool (!x)) w:=fun _ _=>rfl
 go_enter Tryz.func195,Tryz.ntmps195
 go_wp2
 (go_ret;exact ⟨rfl,rfl⟩)
set_option maxRecDepth 100000 in
set_option maxHeartbeats 1600000 in
theorem afH (g:Nat) (r:Value) (Q:World→Prop) (w:World) (h0:w.cell? ⟨g,0,none⟩=some (.int .u32 0)) (h1:w.cell? ⟨g,1,none⟩=some (.int .i32 0)) (f1:w.frozen? ⟨g,1,none⟩=false)
 (hF:Calls Tryz.prog 168 #[r] (w.setCell ⟨g,1,none⟩ (.int .i32 1)) fun e w2=>e= .returned (.tuple #[])∧(w2.cell? ⟨g,0,none⟩=some (.int .u32 0)∧w2.cell? ⟨g,1,none⟩=some (.int .i32 1)∧w2.frozen? ⟨g,0,none⟩=false∧w2.frozen? ⟨g,1,none⟩=false∧Q w2)):
 Calls Tryz.prog 196 #[.pointer (some ⟨g,0,none⟩),.func (.func 168) #[r] #[]] w fun e w'=>e= .returned (.tuple #[])∧∃w2,Q w2∧w'=(w2.drew.setCell ⟨g,0,none⟩ (.int .u32 1)).setCell ⟨g,1,none⟩ (.int .i32 0):=by
 have hnot:∀(x:Bool) (w:World),(Op.unary .not (.bool x)).run Tryz.prog w= .ok (.bool (!x)) w:=fun _ _=>rfl
 go_enter_defers Tryz.func196,Tryz.ntmps196
 go_wp2_with (first
  |(go_at_call 212;refine (adF ⟨g,1,none⟩ _ (by go_simp) (by go_simp)).mono ?_;rintro e w' ⟨rfl,rfl⟩)
  |(go_at_call 195;refine (Ru ⟨g,0,none⟩ _ ((World.cell?_setCell_other _ ⟨g,1,none⟩ ⟨g,0,none⟩ _ (by simp)).trans h0)).mono ?_;rintro e w' ⟨rfl,rfl⟩)
  |(go_at_call 168;refine hF.mono ?_;rintro e w2 ⟨rfl,c0,c1,z0,z1,hQ⟩))
 refine leaves_cons (f:=214) (args:= #[.pointer (some ⟨g,0,none⟩),.bool true]) (by simp) (by simp [go_sem])<|(afQ ⟨g,0,none⟩ (.int .u32 0) .returning _ c0 z0).mono ?_
 rintro e u' w'' ⟨rfl,rfl,rfl⟩
 refine leaves_cons (f:=213) (args:= #[.pointer (some ⟨g,1,none⟩)]) (by simp [settle]) (by simp [go_sem])<|(ahk ⟨g,1,none⟩ _ _ ?_ (by simp [z1])).mono ?_
 · rw [World.cell?_setCell_other _ ⟨g,0,none⟩ ⟨g,1,none⟩ _ (by simp),World.cell?_drew];exact c1
 rintro e u' w'' ⟨rfl,rfl,rfl⟩
 simp [Leaves,settle,results,Tryz.results196]
 exact ⟨w2,hQ,rfl⟩
end Go.Proofs.YtjmlknjbhbfneaaGreatDoor
namespace Go.Bw
open Go.RowKit
set_option linter.unusedVariables false
set_option linter.unusedSimpArgs false
section
variable {P:Program} {N:Nat} {D:List Deferred} {env env':Env} {a:Act} {w w':World} {Q:Exit→Act→World→Prop}
variable {ops:Array Oper} {rest:List Oper} {d:Nat} {op:Op} {ty:TypeId} {pos:String} {af:Array Edge}
theorem aib {x:Operand} {t e u:TypeId} {A:Option Addr} {n c:Nat} (ht:P.underlying t=some (.slice e)) (hx:ev env x=some (.slice A n c)):Yl P N D env (.binOp .eql t x (.const (.slice none 0 0)) u) ty (.bool A.isNone):=fun a ha w dst pos af g=>by
 have he:a.eval (.const (.slice none 0 0))= .slice none 0 0:=rfl;simp [execOp,ha.eval hx,eqGuard_at_slice,he,Lib.run_eql_slice_nil w t e A n c 0 0 ht]
theorem UG {x:Operand} {t e u:TypeId} {A:Option Addr} {n c:Nat} (ht:P.underlying t=some (.slice e)) (hx:ev env x=some (.slice A n c)):Yl P N D env (.binOp .neq t x (.const (.slice none 0 0)) u) ty (.bool (!A.isNone)):=fun a ha w dst pos af g=>by
 have he:a.eval (.const (.slice none 0 0))= .slice none 0 0:=rfl;have hd:∀d:Nat,(Op.equalIn (d+1) t (.slice A n c) (.slice none 0 0)).run P w= .ok A.isNone w:=fun d=>by cases A<;>simp [Op.equalIn,run_underlying ht]
 have h1:(binOp .neq t (.slice A n c) (.slice none 0 0)).run P w= .ok (.bool (!A.isNone)) w:=by
  simp only [binOp];simp [Op.equal,Op.maxDepth,hd 9999]
 simp [execOp,ha.eval hx,eqGuard_at_slice,he,h1]
theorem yi {x i:Operand} {t e:TypeId} {len sz:Nat} {p:Addr} {k:IntKind} {m:Int} (ht:P.underlying t=some (.array len e)) (hs:(P.info? e).map (·.size)=some sz) (hx:ev env x=some (.pointer (some p))) (hi:ev env i=some (.int k m)) (h0:0≤m) (h1:m<len):
 Yl P N D env (.indexAddr t x i) ty (.pointer (some (p.add (m.toNat * sz)))):=fun a ha w dst pos af g=>by
 have h5:∀w,(sizeOf e).run P w= .ok sz w:=fun w=>Go.Bw.run_sizeOf hs w
 simp [execOp,Instr.indexAt,ha.eval hx,ha.eval hi,asIntOf,run_underlying ht,h0,h1,h5,Instr.sureAddr]
theorem W0 {x y:Operand} {t e:TypeId} {z:Value} {sz bytes:Nat} (ht:P.underlying t=some (.slice e)) (hi:(P.info? e).map (fun i=>(i.zero,i.size,i.bytes))=some (some z,sz,bytes))
 (base:Nat) {c:Nat} {kl kc:IntKind} (hx:ev env x=some (.int kl 0)) (hy:ev env y=some (.int kc c)) (hb:bytes * c≤281474976710656) (h63:c≤maxLen) (hbase:base≤w.heap.size) (hd:Nat.blt d N=true)
 (h:∀w',w'.ownsRow base e sz (.slice (some ⟨w.heap.size,0,none⟩) 0 c) 0 []→w.grownBy w' none→Wl P ops Q rest N D ((d,.slice (some ⟨w.heap.size,0,none⟩) 0 c) :: env) w'):
 Wl P ops Q (⟨some d,.makeSlice t x y,ty,pos,af,none⟩ :: rest) N D env w:=by
 obtain ⟨i,hi0,hi1⟩:=Option.map_eq_some_iff.1 hi
 simp only [Prod.mk.injEq] at hi1
 obtain ⟨hz0,hs0,hb0⟩:=hi1
 obtain ⟨w',hrun,hown,hg⟩:=run_make_own (P:=P) w base t e i z sz ht hi0 hz0 hs0 kl kc c (by rw [hb0];exact hb) h63 hbase
 refine iM (w':=w') (fun a ha dst pos af g=>?_) hd (h w' hown hg)
 simp [execOp,ha.eval hx,ha.eval hy,hrun]
theorem WX {x y:Operand} {t s e f:TypeId} {base n c g o m sc dn dc:Nat} {A:Addr} {xs cs:List Value} (ht:P.underlying t=some (.slice e)) (hs:(P.info? e).map (·.size)=some 1) (hx:ev env x=some (.slice (some ((⟨g,0,none⟩:Addr).add o)) dn dc)) (hy:ev env y=some (.slice (some A) m sc))
 (hown:w.ownsRow base f 1 (.slice (some ⟨g,0,none⟩) n c) n xs) (hr:Rd w 1 (some A) m cs) (h1:∀v∈cs,v.oneCell'=true) (hfit:o+m≤n) (hdn:m≤dn) (hd:Nat.blt d N=true)
 (h:∀w',w'.ownsRow base f 1 (.slice (some ⟨g,0,none⟩) n c) n (xs.take o++cs++xs.drop (o+m))→w.grownBy w' (some g)→Wl P ops Q rest N D ((d,.int .i64 m) :: env) w'):
 Wl P ops Q (⟨some d,.call ⟨.builtin .copy,#[x,y],#[t,s]⟩,ty,pos,af,none⟩ :: rest) N D env w:=by
 have hcl:cs.length=m:=by rw [hr.1,Nat.mul_one]
 rcases hown.2 with ⟨hv,_⟩|⟨g',cap,cur,hv,hg,hh,hnc,hcm,hcs,hxs⟩
 · cases hv
 injection hv with hA h2 h3
 injection hA with hA
 injection hA with hA
 subst hA h3
 rw [Nat.mul_one] at hcs hxs
 have hsrc:∀j v,cs[j]? =some v→w.cell? (A.add j)=some v:=fun j v hj=>by
  obtain ⟨p,e1,hc⟩:=hr.2 (by
   rcases Nat.eq_zero_or_pos cs.length with h0|h0
   · rw [List.eq_nil_of_length_eq_zero h0] at hj;simp at hj
   · exact h0)
  cases e1;exact hc j v hj
 have hrun:=run_copy_row (P:=P) w t s ty e g o dn dc A m sc cur f cs ht hs hh (by rw [hcl];exact (Nat.min_eq_left hdn).symm) hsrc (by omega) h1
 refine iM (v:= .int .i64 m) (w':=w.setRow g (cur.toList.take o++cs++cur.toList.drop (o+cs.length)).toArray) (fun a ha dst pos af g'=>?_) hd (h _ ⟨?_,.inr ⟨g,c,_,rfl,hg,setRow_heap w g _ _ f _ hh,hnc,hcm,?_,?_⟩⟩ ⟨rfl,rfl,rfl,by simp,fun k _ hne=>setRow_other w g k _ (fun e=>hne (by rw [e]))⟩)
 · rw [hcl] at hrun
   rw [pu] at hx
   simp [execOp,resolve,invoke,builtin,ha.eval hx,ha.eval hy,hrun,goInt,hcl]
 · have:xs.length=n:=by rw [hown.1,Nat.mul_one]
   simp [hcl];omega
 · have:cur.toList.length=c:=by simpa using hcs
   simp [hcl];omega
 · have h4:cur.toList.length=c:=by simpa using hcs
   rw [Nat.mul_one,←hxs]
   have hlen:(cur.toList.take o).length=o:=by simp;omega
   rw [List.take_append,List.take_append]
   simp only [List.length_append,hlen,hcl,List.take_take,List.drop_take,List.take_append,List.drop_append]
   have e1:min n o=o:=by omega
   have e2:min o n=o:=by omega
   have e3:cs.take (n - o)=cs:=List.take_of_length_le (by omega)
   simp [e1,e2,e3]
theorem WY {x:Operand} {nm:String} {f:FuncId} {t:TypeId} {xs:Array Operand} {ts:Array TypeId} {r:Value} {vs:List Value} {R:Value→World→Prop} (hf:bC P f) (hm:∀w,(Go.method (P.types.size+Made.depth) t r nm).run P w= .ok (f,r) w) (hx:ev env x=some (.iface t r)) (hxs:kI env xs.toList=some vs)
 (hc:be P f (r :: vs) w R) (hd:Nat.blt d N=true) (h:∀v w',R v w'→Wl P ops Q rest N D ((d,v) :: env) w'):
 Wl P ops Q (⟨some d,.call ⟨.invoke x nm,xs,ts⟩,ty,pos,af,none⟩ :: rest) N D env w:=fun a ha=>by
 unfold wpList
 simp only [Region.wanted,if_true]
 refine .inl ?_
 have hargs:xs.map a.eval=vs.toArray:=yL ha hxs
 unfold Oper.wp
 have h2:(Go.invoke (.fn (.method nm) #[]) (#[Value.iface t r]++vs.toArray)).run P w= .ok (.enter f (r :: vs).toArray) w:=by
  have e1:(#[Value.iface t r]++vs.toArray)=(Value.iface t r :: vs).toArray:=by simp
  have e2:((Value.iface t r :: vs).toArray).extract 1 ((Value.iface t r :: vs).toArray).size=vs.toArray:=by simp
  have e3:(#[r]++vs.toArray)=(r :: vs).toArray:=by simp
  rw [e1];simp only [Go.invoke];have e4:((Value.iface t r :: vs).toArray)[0]? =some (Value.iface t r):=by simp
  simp only [e4,callMethod,e2];simp [run_program,hm,e3,Mx hf]
 simp only [execOp,resolve,ha.eval hx,hargs,Sem.run_bind,Sem.run_pure,Result.andThen_ok,h2,Oper.upon_enter]
 refine Calls.mono hc fun e w' hR=>?_
 obtain ⟨v,rfl,hv⟩:=hR
 exact h v w' hv _ (ha.put hd v)
theorem GS {f:FuncId} {args:List Value} {v:Value} {R:World→Prop} (h:Calls P f args.toArray w fun e w'=>e= .returned v∧R w'):be P f args w fun u w'=>u=v∧R w':=Calls.mono h fun _ _ ⟨e,hr⟩=>⟨v,e,rfl,hr⟩
theorem VM {f:FuncId} {args:List Value} {v:Value} {R:World→Prop} (h:be P f args w fun u w'=>u=v∧R w'):Calls P f args.toArray w fun e w'=>e= .returned v∧R w':=Calls.mono h fun _ _ ⟨u,e,h1,hr⟩=>⟨by rw [e,h1],hr⟩
theorem aq.setAt {g j:Nat} {t:TypeId} {cs:List Value} {v:Value} (h:aq w g t cs):aq (w.setCell ⟨g,j,none⟩ v) g t (cs.set j v)∧w.grownBy (w.setCell ⟨g,j,none⟩ v) (some g):=by
 have e1:w.setCell ⟨g,j,none⟩ v=w.setRow g (cs.set j v).toArray:=by
  rw [setCell_eq_setRow w g j cs.toArray t (0,0) v h];simp
 exact ⟨e1 ▸ h.setRow,⟨rfl,rfl,rfl,by simp [World.setCell],fun k _ hne=>Below.heap_setCell w _ _ k (fun e=>hne (by rw [e]))⟩⟩
theorem Rd.grown {sz:Nat} {A:Addr} {n:Nat} {xs:List Value} {row:Option Nat} (h:Rd w sz (some A) n xs) (hg:w.grownBy w' row) (hne:row≠some A.block):Rd w' sz (some A) n xs:=⟨h.1,fun h0=>by
 obtain ⟨p,e,hc⟩:=h.2 h0
 cases e
 exact ⟨A,rfl,fun j u hu=>by
  have h1:=hc j u hu
  have hb:(A.add j).block=A.block:=by unfold Addr.add;split<;>rfl
  have hlt:=zZ h1
  rw [World.cell?_of_block (w:=w) (hg.block _ hlt (by rw [hb];exact fun e=>hne e.symm))];exact h1⟩⟩
theorem Em {p:Addr} {k:Nat} {m:Int} {v:Value} (hm:m=(k:Int)) (h:w.cell? (p.add k)=some v):w.cell? (p.add (m.toNat * 1))=some v:=by subst hm;exact gH h
theorem xV (p:Addr) (k:Nat):Value.pointer (some ((p.add 0).add ((k:Int).toNat * 1)))= .pointer (some (p.add k)):=by rw [lL];simp
end
theorem aeM (n:Nat) (x v:Value):s9 (List.replicate (n+1) x) n [v]=List.replicate n x++ [v]:=by simp [s9]
def Dz:List Value:= [str [92],str [92,92],str [39],str [92,39],str [10],str [92,110]]
def hJ (j:Nat):UInt8:=if j=0 then 92 else if j=1 then 39 else 10
def L2 (j:Nat):UInt8:=if j=0 then 92 else if j=1 then 39 else 110
theorem S7 {j:Nat} (h:j<3):Dz[2 * j]? =some (str [hJ j]):=by
 have:j=0∨j=1∨j=2:=by omega
 rcases this with rfl|rfl|rfl<;>rfl
theorem S6 {j:Nat} (h:j<3):Dz[2 * j+1]? =some (str [92,L2 j]):=by
 have:j=0∨j=1∨j=2:=by omega
 rcases this with rfl|rfl|rfl<;>rfl
theorem RY {i j:Nat} (hi:i<3) (hj:j<3) (h:i≠j):(hJ i).toNat≠(hJ j).toNat:=by
 have h1:i=0∨i=1∨i=2:=by omega
 have h2:j=0∨j=1∨j=2:=by omega
 rcases h1 with rfl|rfl|rfl<;>rcases h2 with rfl|rfl|rfl<;>first|exact absurd rfl h|decide
def nv (w:World) (A:Addr):Prop:=∀j u,Dz[j]? =some u→w.cell? (A.add j)=some u
theorem nv.below {w w':World} {A:Addr} (h:nv w A) (hb:Below w.heap.size w w'):nv w' A:=fun j u hu=>ip hb (h j u hu)
structure jK (lo:Nat) (w:World) (gg:Nat) (tr:Option Nat) (cs:List Value) (m:Nat):Prop where
 len:cs.length=257
 old:∀k,k<256→(∀j,j<m→k≠(hJ (2 - j)).toNat)→cs[k]? =some (.slice none 0 0)
 new:∀j,j<m→∃a c,cs[(hJ (2 - j)).toNat]? =some (.slice (some ⟨a,0,none⟩) 2 c)∧Rd w 1 (some ⟨a,0,none⟩) 2 (dq [92,L2 (2 - j)])∧lo≤a∧a≠gg∧tr≠some a∧a<w.heap.size
theorem jK.below {lo:Nat} {w w':World} {gg:Nat} {tr:Option Nat} {cs:List Value} {m:Nat} (h:jK lo w gg tr cs m) (hb:Below w.heap.size w w'):jK lo w' gg tr cs m:=⟨h.len,h.old,fun j hj=>by
 obtain ⟨a,c,h1,h2,h3,h4,h5,h6⟩:=h.new j hj
 exact ⟨a,c,h1,h2.below hb,h3,h4,h5,Nat.lt_of_lt_of_le h6 hb.size⟩⟩
theorem jK.grow {lo:Nat} {w w':World} {gg:Nat} {tr tr':Option Nat} {cs:List Value} {m:Nat} (h:jK lo w gg tr cs m) (hg:w.grownBy w' tr) (ha:tr'=tr∨tr'=some w.heap.size):jK lo w' gg tr' cs m:=⟨h.len,h.old,fun j hj=>by
 obtain ⟨a,c,h1,h2,h3,h4,h5,h6⟩:=h.new j hj
 refine ⟨a,c,h1,h2.grown hg h5,h3,h4,?_,Nat.lt_of_lt_of_le h6 hg.size⟩
 rcases ha with e|e
 · rw [e];exact h5
 · rw [e];intro e';cases e';exact absurd h6 (Nat.lt_irrefl _)⟩
theorem Dq (j:Nat):(hJ j).toNat<256:=(hJ j).toNat_lt
theorem jK.put {lo:Nat} {w w':World} {gg:Nat} {tr:Option Nat} {cs:List Value} {m:Nat} (h:jK lo w gg tr cs m) (hg:w.grownBy w' (some gg)) (x:Value):jK lo w' gg tr (cs.set 256 x) m:=⟨by rw [List.length_set];exact h.len,fun k hk hn=>by
 rw [List.getElem?_set_ne (by omega)];exact h.old k hk hn,fun j hj=>by
 obtain ⟨a,c,h1,h2,h3,h4,h5,h6⟩:=h.new j hj
 refine ⟨a,c,?_,h2.grown hg (fun e=>h4 (by cases e;rfl)),h3,h4,h5,Nat.lt_of_lt_of_le h6 hg.size⟩
 rw [List.getElem?_set_ne (by have:=Dq (2 - j);omega)];exact h1⟩
theorem jK.add {lo:Nat} {w w':World} {gg:Nat} {tr:Option Nat} {cs:List Value} {m a c:Nat} (h:jK lo w gg tr cs m) (hg:w.grownBy w' (some gg)) (hm:m<3) (hr:Rd w 1 (some ⟨a,0,none⟩) 2 (dq [92,L2 (2 - m)])) (h3:lo≤a) (h4:a≠gg) (h5:tr≠some a) (h6:a<w.heap.size):
 jK lo w' gg tr (cs.set (hJ (2 - m)).toNat (.slice (some ⟨a,0,none⟩) 2 c)) (m+1):=⟨by rw [List.length_set];exact h.len,fun k hk hn=>by
 rw [List.getElem?_set_ne (fun e=>hn m (by omega) e.symm)];exact h.old k hk (fun j hj=>hn j (by omega)),fun j hj=>by
 rcases Nat.lt_or_ge j m with hlt|hge
 · obtain ⟨a',c',g1,g2,g3,g4,g5,g6⟩:=h.new j hlt
   refine ⟨a',c',?_,g2.grown hg (fun e=>g4 (by cases e;rfl)),g3,g4,g5,Nat.lt_of_lt_of_le g6 hg.size⟩
   rw [List.getElem?_set_ne (RY (by omega) (by omega) (by omega))];exact g1
 · have:j=m:=by omega
   subst this
   refine ⟨a,c,?_,hr.grown hg (fun e=>h4 (by cases e;rfl)),h3,h4,h5,Nat.lt_of_lt_of_le h6 hg.size⟩
   rw [List.getElem?_set_self (by rw [h.len];have:=Dq (2 - j);omega)]⟩
theorem Zz (x:Value):(List.replicate 256 (Value.slice none 0 0)++ [x]).length=257:=by rw [List.length_append,List.length_replicate];rfl
theorem Zy (x:Value):(List.replicate 256 (Value.slice none 0 0)++ [x])[256]? =some x:=by
 rw [List.getElem?_append_right (by rw [List.length_replicate];exact Nat.le_refl _),List.length_replicate];rfl
theorem Zx (x:Value) {k:Nat} (hk:k<256):(List.replicate 256 (Value.slice none 0 0)++ [x])[k]? =some (.slice none 0 0):=by
 rw [List.getElem?_append_left (by rw [List.length_replicate];exact hk),List.getElem?_replicate,if_pos hk]
def yI (m:Nat):List Value:=(List.range m).map fun j=>str [hJ (2 - j)]
theorem Zh (m:Nat):yI (m+1)=yI m++ [str [hJ (2 - m)]]:=by simp [yI,List.range_succ]
def dp (c:UInt8):Bool:=c==92||c==39||c==10
structure lK (t lo:Nat) (w:World) (gg:Nat):Prop where
 ge:lo≤gg
 tab:∃cs A c,aq w gg t cs∧cs.length=257∧cs[256]? =some (.slice (some A) 3 c)∧lo≤A.block∧Rd w 1 (some A) 3 [str [10],str [39],str [92]]∧
  (∀b:UInt8,dp b=false→cs[b.toNat]? =some (.slice none 0 0))∧
  ∀b:UInt8,dp b=true→∃a k,cs[b.toNat]? =some (.slice (some ⟨a,0,none⟩) 2 k)∧lo≤a∧Rd w 1 (some ⟨a,0,none⟩) 2 (dq [92,if b=10 then 110 else b])
theorem lK.below {t lo:Nat} {w w':World} {gg:Nat} (h:lK t lo w gg) (hb:Below w.heap.size w w'):lK t lo w' gg:=⟨h.ge,by
 obtain ⟨cs,A,c,h1,h2,h3,h4,h5,h6,h7⟩:=h.tab
 exact ⟨cs,A,c,h1.below hb,h2,h3,h4,h5.below hb,h6,fun b hb'=>by
  obtain ⟨a,k,g1,g2,g3⟩:=h7 b hb'
  exact ⟨a,k,g1,g2,g3.below hb⟩⟩⟩
theorem lK.grown {t lo:Nat} {w w':World} {gg g:Nat} (h:lK t lo w gg) (hg:w.grownBy w' (some g)) (hlt:g<lo):lK t lo w' gg:=⟨h.ge,by
 obtain ⟨cs,A,c,h1,h2,h3,h4,h5,h6,h7⟩:=h.tab
 have hge:=h.ge
 exact ⟨cs,A,c,h1.over hg (by omega),h2,h3,h4,h5.grown hg (fun e=>by cases e;omega),h6,fun b hb'=>by
  obtain ⟨a,k,g1,g2,g3⟩:=h7 b hb'
  exact ⟨a,k,g1,g2,g3.grown hg (fun e=>by injection e with e;simp only at e;omega)⟩⟩⟩
theorem jK.done {lo t:Nat} {w:World} {gg:Nat} {A:Addr} {c:Nat} {cs:List Value} (h:jK lo w gg (some A.block) cs 3) (hB:aq w gg t cs) (hge:lo≤gg) (hA:lo≤A.block) (ht:cs[256]? =some (.slice (some A) 3 c)) (hr:Rd w 1 (some A) 3 (yI 3)):lK t lo w gg:=⟨hge,cs,A,c,hB,h.len,ht,hA,hr,fun b hb=>by
 refine h.old b.toNat b.toNat_lt fun j hj e=>?_
 have e':b=hJ (2 - j):=UInt8.toNat_inj.1 e
 have:j=0∨j=1∨j=2:=by omega
 rcases this with rfl|rfl|rfl<;>(rw [e'] at hb;exact absurd hb (by decide)),fun b hb=>by
 have hb':b=92∨b=39∨b=10:=by simpa [dp,or_assoc] using hb
 rcases hb' with rfl|rfl|rfl
 · obtain ⟨a,k,g1,g2,g3,_⟩:=h.new 2 (by omega);exact ⟨a,k,g1,g3,g2⟩
 · obtain ⟨a,k,g1,g2,g3,_⟩:=h.new 1 (by omega);exact ⟨a,k,g1,g3,g2⟩
 · obtain ⟨a,k,g1,g2,g3,_⟩:=h.new 0 (by omega);exact ⟨a,k,g1,g3,g2⟩⟩
end Go.Bw
namespace Go.Proofs.YtjmlknjbhbfneaaGreatDoor
open Go.RowKit Go.Bw
set_option linter.unusedVariables false
set_option linter.unusedSimpArgs false
theorem Pc (p:Addr) (w:World):(Instr.fieldAt 206 (.pointer (some p)) 2).run Tryz.prog w= .ok (.pointer (some (p.add 4))) w:=fd (i:=2) (sz:=0) Gs rfl (by kernel_rfl) p w
theorem wi (p:Addr) (w:World):(Instr.fieldAt 255 (.pointer (some p)) 0).run Tryz.prog w= .ok (.pointer (some (p.add 0))) w:=fd (i:=0) (sz:=255) MZ rfl (by kernel_rfl) p w
theorem EI (p:Addr) (w:World):(Instr.fieldAt 255 (.pointer (some p)) 1).run Tryz.prog w= .ok (.pointer (some (p.add 256))) w:=fd (i:=1) (sz:=0) MZ rfl (by kernel_rfl) p w
theorem mD:One Tryz.prog 40:=⟨_,bK,rfl,by kernel_rfl⟩
theorem x6:(Tryz.prog.info? 22).map (·.size)=some 1:=by kernel_rfl
theorem Xm (g:Nat) (A:Addr) (c:Nat) (w:World) (hB:aq w g 206 [.int .u32 0,.int .i32 1,.int .u32 0,.nilIface,.slice (some A) 6 c]) (hS:nv w A):be Tryz.prog 197 [.pointer (some ⟨g,0,none⟩)] w fun v w'=>(∃gg,v= .iface 256 (.pointer (some ⟨gg,0,none⟩))∧lK 255 w.heap.size w' gg)∧Below w.heap.size w w':=by
 have hb:=Below.refl w.heap.size w;have sD:=hB;have uf:=hS;refine enter Tryz.func197 rfl rfl rfl<|ao fun aZ=>am rfl<|an aZ<|ao fun bJ=>ai rfl<|ah (cM rfl) rfl<|ah (aJ (Pc _) rfl) rfl<|aW (aI mD rfl (by exact hB.at rfl)) rfl<|am rfl<|an bJ<|ax fun _ ek=>ao fun eZ=>ai rfl<|ah (cG bK (by omega) rfl) rfl<|ah (bA rfl rfl) rfl<|ai rfl<|cw rfl rfl rfl (fun yR=>?_) (fun yR=>?_)
 ·
  have yS:=yR;simp only [DZ] at yR;exact absurd yR (by decide)
 have yS:=yR;simp only [DZ] at yR;refine aA rfl rfl yS rfl rfl<|aA rfl rfl yS rfl rfl<|aA rfl rfl yS rfl rfl<|aA rfl rfl yS rfl rfl<|ah (bg rfl yS rfl) rfl<|an eZ<|pt rfl rfl<|aU<|aw ek<|ao fun iA=>am rfl<|an iA<|ax fun _ gJ=>ao fun iV=>am rfl<|an iV<|br<|cU (X:=Nat) (fun x=> [(3,.slice (some A) 6 c),(4,.bool (x==0)),(5,.int .i64 (2 * (x:Int)))]) (fun x wr=>x≤3∧Below w.heap.size w wr) (fun x=>3 - x) (0) ?_ ?_ ?_
 · exact by repeat first|exact aB|refine au rfl (by first|rfl|exact int_eq (by omega)) ?_
 · exact ⟨by omega,hb⟩
 rintro x wr wT _ abS;replace wT:x≤3∧Below w.heap.size w wr:=wT;obtain ⟨hx,hb⟩:=wT;show Wc _ _ _ _ _ [(3,.slice (some A) 6 c),(4,.bool (x==0)),(5,.int .i64 (2 * (x:Int)))] _;have hB:=sD.below hb;have hS:=uf.below hb;have:=hb.size;refine ax fun _ jf=>ao fun jg=>ai rfl<|ai rfl<|ah (cG bK (by omega) rfl) rfl<|ah (cg rfl rfl) rfl<|an jg<|aH rfl (fun pz=>?_) (fun pz=>?_)
 ·
  have Eu:=pz;simp only [DZ] at pz;refine aU<|aw jf<|ax fun _ jW=>br<|ax fun _ iW=>ao fun jh=>ai rfl<|ai rfl<|ah (cx bK eo rfl rfl (by omega) (by omega)) rfl<|aW (aI bQ rfl (by exact Em (by omega) (hS (2 * x) _ (S7 (by omega))))) rfl<|ah (dF bq (by simp) rfl) rfl<|ah (ig rfl rfl) rfl<|an jh<|aH rfl (fun yz=>?_) (fun yz=>?_)
  ·
   have XV:=yz;simp only [DZ] at yz;exact absurd yz (by simp)
  have XV:=yz;simp only [DZ] at yz;refine aU<|aw iW<|ao fun nX=>ai rfl<|ai rfl<|ah (bH rfl rfl (by omega) (by omega)) rfl<|ah (cx bK eo rfl rfl (by omega) (by omega)) rfl<|aW (aI bQ rfl (by exact Em (by omega) (hS (2 * x+1) _ (S6 (by omega))))) rfl<|ah (dF bq (by simp) rfl) rfl<|ah (ig rfl rfl) rfl<|an nX<|aH rfl (fun yC=>?_) (fun yC=>?_)
  ·
   have Ye:=yC;simp only [DZ] at yC;refine aR<|am rfl<|ay<|bS<|aw jW<|aR<|ai rfl<|ah (bH rfl rfl (by omega) (by omega)) rfl<|am rfl<|ay<|fun a_ bn=>abS _ _ (x+1) (by omega) (by repeat first|exact aB|refine au rfl (by first|rfl|exact int_eq (by omega)) ?_) ?_ a_ bn
   exact ⟨by omega,hb⟩
  have Ye:=yC;simp only [DZ] at yC;simp at yC
 have Eu:=pz;simp only [DZ] at pz;refine cN<|bD<|bD<|cO<|aw gJ<|ax fun _ xr=>ao fun qn=>ai rfl<|an qn<|aH rfl (fun pC=>?_) (fun pC=>?_)
 ·
  have Ig:=pC;simp only [DZ] at pC;omega
 have Ig:=pC;simp only [DZ] at pC;refine aU<|aw xr<|ax fun _ ml=>?_
 have hx3:x=3:=by omega
 refine aR<|ai rfl<|ah (cG bK (by omega) rfl) rfl<|ah (bt (tq rfl rfl (by decide)) ((show Value.int .i64 (IntKind.i64.wrap (Int.tdiv ((6:Nat):Int) 2))= .int .i64 ((3:Nat):Int) from rfl))) rfl<|W0 (z:=str []) (sz:=1) (bytes:=16) bK (by kernel_rfl) w.heap.size (c:=3) rfl rfl (by decide) (by decide) hb.size rfl ?_
 rintro w1 hO hg1;have hz1:=hg1.size;have hOlt:wr.heap.size<w1.heap.size:=(bz hO _ rfl).2;have hb:=hb.grown hg1 hb.size (fun k hk=>by cases hk);refine ah (fe (z:=List.replicate 257 (.slice none 0 0)) (pl:= [(0,256),(256,1)]) (cs:=List.replicate 256 (.slice none 0 0)++ [.slice (some ⟨_,0,none⟩) 0 3]) MZ (by kernel_rfl) (by kernel_rfl) rfl (by kernel_rfl) (by show s9 (List.replicate (256+1) _) 256 [_]=_;exact aeM 256 _ _)) rfl<|el (z:= .agg (List.replicate 257 (.slice none 0 0)).toArray) (by kernel_rfl) rfl ?_
 rintro gg w2 hgg hBg hs2;have hz2:=hs2.size;have hb:=az hb hs2;have hO:=cR hO hs2;refine cH (cs:=List.replicate 256 (.slice none 0 0)++ [.slice (some ⟨_,0,none⟩) 0 3]) (by kernel_rfl) rfl rfl hBg (by show (List.replicate 257 _).length=(List.replicate 256 _++ [_]).length;rw [List.length_append,List.length_replicate,List.length_replicate];rfl) (by rw [List.all_append,List.all_replicate];rfl) ?_;rintro w3 hB3 hg3;have hz3:=hg3.size;have hap:(Value.slice (some ⟨wr.heap.size,0,none⟩) 0 3).ownBlock≠some gg:=fun e=>by injection e with e;simp only at e;omega
 have hO:=World.ownsRow.kept hO hg3 (.inr hap);have hb:=bY hb hg3 hb.size (by omega);refine an ml<|ax fun _ kW=>ao fun jk=>ai rfl<|ah (cG bK (by omega) rfl) rfl<|ah (gk rfl rfl (by omega) (by omega)) rfl<|am rfl<|an jk<|br<|cU (X:=Nat×List Value×Value) (fun (m,cs,tr)=> [(3,.slice (some A) 6 c),(11,.pointer (some ⟨gg,0,none⟩)),(12,.int .i64 (4 - 2 * (m:Int)))]) (fun (m,cs,tr) wr=>m≤3∧Below w.heap.size w wr∧aq wr gg 255 cs∧wr.ownsRow w.heap.size 9 1 tr m (yI m)∧some gg≠tr.ownBlock∧cs[256]? =some tr∧jK w.heap.size wr gg tr.ownBlock cs m) (fun (m,cs,tr)=>3 - m) ((0,List.replicate 256 (.slice none 0 0)++ [.slice (some ⟨wr.heap.size,0,none⟩) 0 3],.slice (some ⟨wr.heap.size,0,none⟩) 0 3)) ?_ ?_ ?_
 · exact by repeat first|exact aB|refine au rfl (by first|rfl|exact int_eq (by omega)) ?_
 · exact ⟨by omega,hb,hB3,hO,fun e=>hap e.symm,Zy _,⟨Zz _,fun k hk _=>Zx _ hk,fun j hj=>absurd hj (by omega)⟩⟩
 rintro ⟨m,cs,tr⟩ wr mc _ yV;replace mc:m≤3∧Below w.heap.size w wr∧aq wr gg 255 cs∧wr.ownsRow w.heap.size 9 1 tr m (yI m)∧some gg≠tr.ownBlock∧cs[256]? =some tr∧jK w.heap.size wr gg tr.ownBlock cs m:=mc;obtain ⟨hm,hb,hBg,hO,hap,hT,hR⟩:=mc;show Wc _ _ _ _ _ [(3,.slice (some A) 6 c),(11,.pointer (some ⟨gg,0,none⟩)),(12,.int .i64 (4 - 2 * (m:Int)))] _;have hB:=sD.below hb;have hS:=uf.below hb;have:=hb.size;have:=hBg.lt;refine ax fun _ n8=>ao fun qq=>ai rfl<|ah (jb rfl rfl) rfl<|an qq<|aH rfl (fun AG=>?_) (fun AG=>?_)
 ·
  have YT:=AG;simp only [DZ] at AG;refine aU<|aw n8<|ax fun _ kX=>br<|ao fun ki=>ai rfl<|ai rfl<|ah (cx bK eo rfl rfl (by omega) (by omega)) rfl<|aW (aI bQ rfl (by exact Em (by omega) (hS (2 * (2 - m)) _ (S7 (by omega))))) rfl<|ah (bt (eK bq rfl rfl (by omega) (by simp)) ((show Value.int .u8 ((([hJ (2 - m)]:al).getD (0:Int).toNat 0).toNat:Int)= .int .u8 ((hJ (2 - m)).toNat:Int) from rfl))) rfl<|am rfl<|an ki<|ao fun oU=>ai rfl<|ai rfl<|ah (bH rfl rfl (by omega) (by omega)) rfl<|ah (cx bK eo rfl rfl (by omega) (by omega)) rfl<|aW (aI bQ rfl (by exact Em (by omega) (hS (2 * (2 - m)+1) _ (S6 (by omega))))) rfl<|am rfl<|an oU<|ax fun _ sN=>ao fun KZ=>ai rfl<|ah (aJ (wi _) rfl) rfl ?_
  have hk256:=Dq (2 - m);refine ah (bt (yi ye x6 rfl rfl (by omega) (by omega)) (xV _ _)) rfl<|aW (aI s5 rfl (by exact hBg.at (hR.old _ hk256 fun j hj=>RY (by omega) (by omega) (by omega)))) rfl<|ah (aib dB rfl) rfl<|an KZ<|aH rfl (fun Ey=>?_) (fun Ey=>?_)
  ·
   have YU:=Ey;refine aR<|ah (aJ (EI _) rfl) rfl<|aW (aI mD rfl (by exact hBg.at hT)) rfl<|ai rfl<|dX (sz:=1) (vs:= [_]) dB (by kernel_rfl) rfl rfl rfl rfl rfl rfl ?_
   rintro B3 yh qv gz gf;have:=gf.size;have hb:=az hb gf;have hB:=sD.below hb;have hS:=uf.below hb;have hBg:=aq.below hBg gf;have hO:=cR hO gf;have hR:=jK.below hR gf;have:=gz.lt;refine aW (lB dB fq bq rfl (by exact (show Rd _ 1 (some ⟨_,0,none⟩) 1 (dq [hJ (2 - m)]) from gz.rd 1 1 rfl))) rfl<|dX (sz:=1) (vs:= [_]) bK (by kernel_rfl) rfl rfl rfl rfl rfl rfl ?_
   rintro ll tl ez m5 rc;have:=rc.size;have hb:=az hb rc;have hB:=sD.below hb;have hS:=uf.below hb;have hBg:=aq.below hBg rc;have hO:=cR hO rc;have hR:=jK.below hR rc;have:=m5.lt;refine dK (z:=(str [])) (sz:=1) (bytes:=16) bK (by kernel_rfl) rfl (by decide) _ rfl hO rfl (m5.rd 1 1 rfl) (fun u hu=>by rw [List.mem_singleton.1 hu];rfl) (by simp only [maxLen];omega) (by omega) (by exact hb.size) rfl ?_;rintro ahr tj acp oY QB;have:=oY.size;have hb:=hb.grown oY hb.size (fun k_ ba=>by have:=(bz hO k_ ba).1;omega);have hB:=sD.below hb;have hS:=uf.below hb;have hBg:=aq.grown hBg oY (by first|assumption|(simp [Value.ownBlock];omega));have hO:=acp;have hR:=hR.grow oY QB;have hlen:=hR.len;have hap:some gg≠ahr.ownBlock:=by rcases QB with e|e<;>rw [e];exact hap;intro e';cases e';omega
   obtain ⟨A1,c1,rfl,_,_⟩:=eT hO;have hap1:(Value.slice A1 (m+1) c1).ownBlock=none∨(Value.slice A1 (m+1) c1).ownBlock≠some gg:= .inr fun e=>hap e.symm;have hA1:∀k,(Value.slice A1 (m+1) c1).ownBlock=some k→k<tj.heap.size:=fun k hk=>(bz hO _ hk).2;refine ah (aJ (EI _) rfl) rfl<|fJ mD rfl rfl rfl hBg (by rw [hlen];decide) ?_
   rintro uK acI eH;have:=eH.size;have hb:=bY hb eH hb.size (by omega);have hB:=sD.below hb;have hS:=uf.below hb;have hO:=World.ownsRow.kept hO eH (by first|assumption|(simp [Value.ownBlock];omega));have hBg:=acI;have hR:=hR.put eH (.slice A1 (m+1) c1);refine an sN ?_;have hlo:=hb.size;refine aR<|ai rfl<|ai rfl<|N5 bq dB fq rfl rfl ?_
   rintro aac Ou ajy aiF acn acF C8;have:=C8.size;have hb:=az hb C8;have hB:=sD.below hb;have hS:=uf.below hb;have hBg:=aq.below hBg C8;have hO:=cR hO C8;have hR:=jK.below hR C8;have ab6:=acF;refine ah (aJ (wi _) rfl) rfl<|ah (bt (yi ye x6 rfl rfl (by omega) (by omega)) (xV _ _)) rfl ?_
   have hR91:=ab6;refine fJ s5 rfl rfl rfl hBg (by rw [List.length_set,hlen];omega) ?_;rintro zE acJ fN;have:=fN.size;have hb:=bY hb fN hb.size (by omega);have hB:=sD.below hb;have hS:=uf.below hb;have hO:=World.ownsRow.kept hO fN (by first|assumption|(simp [Value.ownBlock];omega));have hBg:=acJ;have hR:=hR.add (c:=Ou) fN (by omega) hR91 (by omega) (by omega) (fun e=>absurd (hA1 _ e) (by omega)) acn;refine ay<|bS<|aw kX<|aR<|ai rfl<|ah (gk rfl rfl (by omega) (by omega)) rfl<|am rfl<|ay<|fun a_ bn=>yV _ _ ((m+1,(cs.set 256 (.slice A1 (m+1) c1)).set (hJ (2 - m)).toNat (.slice (some ⟨aac,0,none⟩) 2 Ou),.slice A1 (m+1) c1)) (by simp;omega) (by repeat first|exact aB|refine au rfl (by first|rfl|exact int_eq (by omega)) ?_) ?_ a_ bn
   exact ⟨by omega,hb,hBg,by rw [Zh];exact hO,hap,by rw [List.getElem?_set_ne (by have:=Dq (2 - m);omega),List.getElem?_set_self (by rw [hlen];decide)],hR⟩
  have YU:=Ey
  cases Ey
 have YT:=AG;simp only [DZ] at AG;have hm3:m=3:=by omega
 subst hm3;have hRd:=hO;obtain ⟨_,h0|⟨g1,cap,cur,rfl,hge,_⟩⟩:=hO
 · exact absurd h0.2 (by decide)
 have hdone:=hR.done hBg (by omega) hge hT (fC hRd);refine cN<|bD<|bD<|cO<|aw kW<|ao fun m6=>ah (D1 Tryz.underlying256 (by intro _ h;cases h) rfl) rfl<|am rfl<|an m6<|aK<|bj rfl rfl ?_
 exact ⟨_,rfl,⟨gg,rfl,hdone⟩,hb⟩
end Go.Proofs.YtjmlknjbhbfneaaGreatDoor
namespace Go.Bw
open Go.RowKit
set_option linter.unusedVariables false
set_option linter.unusedSimpArgs false
def gh (c:UInt8):al:=if dp c then [92,if c=10 then 110 else c] else [c]
theorem Mn {c:UInt8} (h:dp c=true):gh c= [92,if c=10 then 110 else c]:=by unfold gh;rw [if_pos h]
theorem Dw {c:UInt8} (h:dp c=false):gh c= [c]:=by unfold gh;rw [if_neg (by rw [h];decide)]
theorem FS (l:al):(l.flatMap gh).length=l.length+l.countP dp:=by
 induction l with
 |nil=>rfl
 |cons c r ih=>
  rw [List.flatMap_cons,List.length_append,ih,List.length_cons,List.countP_cons]
  cases h:dp c
  · rw [Dw h,if_neg (by decide)];simp;omega
  · rw [Mn h,if_pos rfl];simp;omega
theorem aeP {l:al} (h:l.countP dp=0):l.flatMap gh=l:=by
 induction l with
 |nil=>rfl
 |cons c r ih=>
  rw [List.countP_cons] at h
  cases hs:dp c
  · rw [List.flatMap_cons,Dw hs,ih (by omega)];rfl
  · rw [if_pos hs] at h;omega
def lR (l:al):Nat→Nat
 |0=>0
 |x+1=>lR l x+Lib.countByte l (hJ (2 - x))
theorem Y6 (l:al):lR l 3=l.countP dp:=by
 show 0+l.count 10+l.count 39+l.count 92=_
 induction l with
 |nil=>rfl
 |cons c r ih=>
  rw [List.countP_cons,List.count_cons,List.count_cons,List.count_cons,←ih];have e:∀d:UInt8,(c==d)=decide (c=d):=fun d=>rfl;unfold dp;simp only [e];by_cases h1:c=92
  · subst h1;simp;omega
  by_cases h2:c=39
  · subst h2;simp;omega
  by_cases h3:c=10
  · subst h3;simp;omega
  simp [h1,h2,h3]
theorem OC (l:al) (c:UInt8):Lib.countByte l c≤l.length:=List.count_le_length
theorem Oy (l:al):∀x,lR l x≤x * l.length
 |0=>by simp [lR]
 |x+1=>by have:=Oy l x;have:=OC l (hJ (2 - x));simp only [lR,Nat.succ_mul];omega
theorem take_one {l:al} {i:Nat} (h:i<l.length):l.take (i+1)=l.take i++ [l.getD i 0]:=by
 rw [List.take_succ_eq_append_getElem h];simp [List.getD,List.getElem?_eq_getElem h]
theorem tR {l:al} {i:Nat} (h:i<l.length):(l.take (i+1)).countP dp=(l.take i).countP dp+(if dp (l.getD i 0)=true then 1 else 0):=by
 rw [take_one h,List.countP_append,List.countP_singleton]
theorem Pu {l:al} {i:Nat} (h:i<l.length):(l.take (i+1)).flatMap gh=(l.take i).flatMap gh++gh (l.getD i 0):=by
 rw [take_one h,List.flatMap_append];simp
theorem ZX (l:al) (i:Nat):((l.take i).flatMap gh).length≤l.length+l.countP dp:=by
 rw [←FS];have e:l.flatMap gh=(l.take i).flatMap gh++(l.drop i).flatMap gh:=by rw [←List.flatMap_append,List.take_append_drop]
 rw [e,List.length_append];omega
def py (p:al) (n:Nat):List Value:=dq p++List.replicate (n - p.length) (.int .u8 0)
theorem Xk (p q:al) (n:Nat) (h:p.length+q.length≤n):(py p n).take p.length++dq q++(py p n).drop (p.length+q.length)=py (p++q) n:=by
 unfold py;have e1:(dq p).length=p.length:=qI p;rw [List.take_append_of_le_length (by omega),List.take_of_length_le (by omega),←e1,List.drop_append,List.drop_of_length_le (by omega)];rw [T2,List.drop_replicate,e1,List.length_append];simp only [List.nil_append,List.append_assoc]
 congr 3;omega
theorem Xl (p:al) (b:UInt8) (n:Nat) (h:p.length<n):(py p n).set p.length (.int .u8 b.toNat)=py (p++ [b]) n:=by
 unfold py;have e1:(dq p).length=p.length:=qI p;obtain ⟨k,hk⟩:∃k,n - p.length=k+1:=⟨n - p.length - 1,by omega⟩;rw [List.set_append_right _ _ (by omega),e1,Nat.sub_self,hk,List.replicate_succ,List.set_cons_zero,T2,List.append_assoc];have:n - (p++ [b]).length=k:=by rw [List.length_append];simp;omega
 rw [this];rfl
theorem afG {g n j:Nat} (h:j<n):Value.slice (if n=((j:Int)).toNat then some (⟨g,0,none⟩:Addr) else (some (⟨g,0,none⟩:Addr)).map (·.add ((j:Int).toNat * 1))) (n - (j:Int).toNat) (n - (j:Int).toNat)= .slice (some ((⟨g,0,none⟩:Addr).add j)) (n - j) (n - j):=by
 rw [Int.toNat_natCast,if_neg (by omega),Nat.mul_one];rfl
theorem aeK (p:Addr) (k:Nat):Value.pointer (some (p.add ((k:Int).toNat * 1)))= .pointer (some (p.add k)):=by rw [Int.toNat_natCast,Nat.mul_one]
structure Rt (t:TypeId) (w:World) (gg:Nat) (cs:List Value) (A:Addr) (c:Nat):Prop where
 blk:aq w gg t cs
 tr:cs[256]? =some (.slice (some A) 3 c)
 row:∀j,j<3→w.cell? (A.add j)=some (str [hJ (2 - j)])
 any:∀b:UInt8,∃B n k,cs[b.toNat]? =some (.slice B n k)∧B.isNone= !dp b∧(dp b=true→n=2∧∃a:Nat,B=some ⟨a,0,none⟩∧Rd w 1 (some ⟨a,0,none⟩) 2 (dq (gh b)))
theorem lK.openT {t lo:Nat} {w:World} {gg:Nat} (h:lK t lo w gg):∃cs A c,Rt t w gg cs A c:=by
 obtain ⟨cs,A,c,h1,h2,h3,h4,h5,h6,h7⟩:=h.tab;obtain ⟨p,e,hc⟩:=h5.2 (by simp)
 cases e
 refine ⟨cs,A,c,h1,h3,fun j hj=>?_,fun b=>?_⟩
 · have:j=0∨j=1∨j=2:=by omega
   rcases this with rfl|rfl|rfl<;>exact hc _ _ rfl
 · cases hb:dp b
   · exact ⟨none,0,0,h6 b hb,rfl,fun e=>by cases e⟩
   · obtain ⟨a,k,g1,g2,g3⟩:=h7 b hb
     exact ⟨_,_,_,g1,rfl,fun _=>⟨rfl,a,rfl,by rw [Mn hb];exact g3⟩⟩
theorem Rt.below {t:TypeId} {w w':World} {gg:Nat} {cs:List Value} {A:Addr} {c:Nat} (h:Rt t w gg cs A c) (hb:Below w.heap.size w w'):Rt t w' gg cs A c:=⟨h.blk.below hb,h.tr,fun j hj=>ip hb (h.row j hj),fun b=>by
 obtain ⟨B,n,k,h1,h2,h3⟩:=h.any b
 exact ⟨B,n,k,h1,h2,fun e=>by obtain ⟨e1,a,e2,e3⟩:=h3 e;exact ⟨e1,a,e2,e3.below hb⟩⟩⟩
theorem afK {j:Nat} (h:j<3):dp (hJ j)=true:=by
 have:j=0∨j=1∨j=2:=by omega
 rcases this with rfl|rfl|rfl<;>rfl
end Go.Bw
namespace Go.Proofs.YtjmlknjbhbfneaaGreatDoor
open Go.RowKit Go.Bw
set_option linter.unusedVariables false
set_option linter.unusedSimpArgs false
theorem ag1:bC Tryz.prog 69:=⟨_,Tryz.func69,by kernel_rfl,rfl⟩
theorem Zb (l:al) (c:UInt8) (w:World):be Tryz.prog 69 [str l,str [c]] w fun v w'=>v= .int .i64 (Lib.countByte l c)∧w'=w:=GS (Tryz.strings_Count_one ⟨l.toArray⟩ c w)
theorem aed:One Tryz.prog 5:=⟨_,fq,rfl,by kernel_rfl⟩
theorem Xj (gg:Nat) (cs:List Value) (A:Addr) (c:Nat) (l:al) (w:World) (hT:Rt 255 w gg cs A c) (hl:l.length≤1099511627776):be Tryz.prog 273 [.pointer (some ⟨gg,0,none⟩),str l] w fun v w'=>v=str (l.flatMap gh)∧Below w.heap.size w w':=by
 have hcp:l.countP dp≤l.length:=List.countP_le_length;have hql:=FS l;have hb:=Below.refl w.heap.size w;have xE:=hT;refine enter Tryz.func273 rfl rfl rfl<|ao fun aZ=>am rfl<|an aZ<|ao fun bJ=>ai rfl<|ah (dF bq (by omega) rfl) rfl<|am rfl<|an bJ<|ao fun e7=>am rfl<|an e7<|ax fun _ ek=>ao fun eZ=>ai rfl<|ah (cM rfl) rfl<|ah (aJ (EI _) rfl) rfl<|aW (aI mD rfl (by exact hT.blk.at hT.tr)) rfl<|ah (cG bK (by omega) rfl) rfl<|ah (D2 rfl rfl (by omega) (by omega)) rfl<|ai rfl<|ah (dF bq (by omega) rfl) rfl<|ah (oB rfl rfl) rfl<|an eZ<|b9 (X:=Unit) (fun u_=> [(0,.pointer (some ⟨gg,0,none⟩)),(1,str l),(5,.int .i64 ((l.length+l.countP dp:Nat):Int)),(6,.bool (decide (0<l.countP dp)))]) (fun u_ wr=>Below w.heap.size w wr) (fun _ ub=>?_) ?_
 ·
  refine aH rfl (fun z8=>?_) (fun z8=>?_)
  ·
   have Xp:=z8;simp only [DZ] at z8;refine ao fun kT=>ai rfl<|ah (cM rfl) rfl<|ah (aJ (EI _) rfl) rfl<|aW (aI mD rfl (by exact hT.blk.at hT.tr)) rfl<|ah (cG bK (by omega) rfl) rfl<|ai rfl<|an kT<|br<|cU (X:=Nat) (fun x=> [(0,.pointer (some ⟨gg,0,none⟩)),(1,str l),(5,.int .i64 ((l.length+lR l x:Nat):Int)),(6,.bool (decide (0<lR l x))),(30,.slice (some A) 3 c),(31,.int .i64 ((3:Nat):Int)),(32,.int .i64 (x:Int))]) (fun x wr=>x≤3∧Below w.heap.size w wr) (fun x=>3 - x) (0) ?_ ?_ ?_
   · exact by repeat first|exact aB|refine au rfl (by first|rfl|exact int_eq (by omega)) ?_
   · exact ⟨by omega,hb⟩
   rintro x wr wV _ CB;replace wV:x≤3∧Below w.heap.size w wr:=wV;obtain ⟨hx,hb⟩:=wV;show Wc _ _ _ _ _ [(0,.pointer (some ⟨gg,0,none⟩)),(1,str l),(5,.int .i64 ((l.length+lR l x:Nat):Int)),(6,.bool (decide (0<lR l x))),(30,.slice (some A) 3 c),(31,.int .i64 ((3:Nat):Int)),(32,.int .i64 (x:Int))] _;have hT:=xE.below hb;have:=hb.size;refine ao fun jW=>ah (cg rfl rfl) rfl<|an jW<|ax fun _ jh=>aH rfl (fun nE=>?_) (fun nE=>?_)
   ·
    have HG:=nE;simp only [DZ] at nE;refine aU<|aw jh<|ax fun _ me=>br<|ao fun mf=>ah (cx bK eo rfl rfl (by omega) (by omega)) rfl<|aW (aI bQ rfl (by exact gH (hT.row x (by omega)))) rfl<|am rfl<|an mf<|ao fun mg=>ai rfl<|ai rfl<|aS ag1 rfl rfl (Zb l (hJ (2 - x)) _) rfl ?_
    rintro _ w_ ⟨rfl,bf⟩;have bf:=bf.symm;subst bf;refine am rfl<|an mg<|ao fun ql=>ai rfl<|ah (ig rfl rfl) rfl<|an ql<|aH rfl (fun As=>?_) (fun As=>?_)
    ·
     have XY:=As;simp only [DZ] at As;refine ax fun _ iX=>?_;obtain ⟨B9,n9,k9,hc9,hi9,hy9⟩:=hT.any (hJ (2 - x));obtain ⟨rfl,a9,rfl,_⟩:=hy9 (afK (by omega));have hcl:=OC l (hJ (2 - x));have hxl:=Oy l x;have hx2:x * l.length≤3 * l.length:=Nat.mul_le_mul_right _ (by omega);have hk9:=Dq (2 - x);refine ju (by kernel_rfl) (by kernel_rfl)<|aC (bl rfl) rfl<|aC (bl rfl) rfl<|aC (bl rfl) rfl<|aC (bl rfl) rfl<|aC (bt (eK bq rfl rfl (by omega) (by simp)) ((show Value.int .u8 ((([hJ (2 - x)]:al).getD (0:Int).toNat 0).toNat:Int)= .int .u8 ((hJ (2 - x)).toNat:Int) from rfl))) rfl<|aC (cM rfl) rfl<|aC (aJ (wi _) rfl) rfl<|aC (bt (yi ye x6 rfl rfl (by omega) (by omega)) (xV _ _)) rfl<|cr (fun wq hq=>aI s5 rfl (by have hT:=hT.below hq;exact hT.blk.at hc9)) rfl<|aC (cG dB (by omega) rfl) rfl<|aC (gk rfl rfl (by omega) (by omega)) rfl<|aC (D2 rfl rfl (by omega) (by omega)) rfl<|aC (bH rfl rfl (by omega) (by omega)) rfl<|aC (cX rfl) rfl<|dZ fun ahE uk=>?_
     have:=uk.size;have hb:=az hb uk;have hT:=xE.below hb;refine aw iX<|aR<|am rfl<|ay<|bS<|aw me<|aR<|ah (bH rfl rfl (by omega) (by omega)) rfl<|ai rfl<|ay<|fun a_ bn=>CB _ _ (x+1) (by omega) (by repeat first|exact aB|refine au rfl (by first|rfl|exact int_eq (by simp only [lR];omega)|exact aP (decide_eq_true (by simp only [lR];omega)).symm|exact aP (decide_eq_decide.2 (by simp only [lR];omega))) ?_) ?_ a_ bn
     exact ⟨by omega,hb⟩
    have XY:=As;simp only [DZ] at As;refine aU<|bS<|aw me<|aR<|ah (bH rfl rfl (by omega) (by omega)) rfl<|ai rfl<|ay<|fun a_ bn=>CB _ _ (x+1) (by omega) (by repeat first|exact aB|refine au rfl (by first|rfl|exact int_eq (by simp only [lR];omega)|exact aP (decide_eq_true (by simp only [lR];omega)).symm|exact aP (decide_eq_decide.2 (by simp only [lR];omega))) ?_) ?_ a_ bn
    exact ⟨by omega,hb⟩
   have HG:=nE;simp only [DZ] at nE;have hx3:x=3:=by omega
   subst hx3;have hcx:=Y6 l;refine cN<|bD<|bD<|cO ?_
   skip
   refine aY ub (()) (by repeat first|exact aB|refine au rfl (by first|rfl|exact int_eq (by rw [hcx])|exact aP (by rw [hcx])|exact int_eq (by rw [hc3])|exact aP (by rw [hc3])) ?_) ?_;exact hb
  have Xp:=z8;simp only [DZ] at z8;refine ao fun oS=>am rfl<|an oS<|br<|cU (X:=Nat) (fun i=> [(0,.pointer (some ⟨gg,0,none⟩)),(1,str l),(5,.int .i64 ((l.length+(l.take i).countP dp:Nat):Int)),(6,.bool (decide (0<(l.take i).countP dp))),(10,.int .i64 (i:Int))]) (fun i wr=>i≤l.length∧Below w.heap.size w wr) (fun i=>l.length - i) (0) ?_ ?_ ?_
  · exact by repeat first|exact aB|refine au rfl (by first|rfl|exact int_eq (by omega)) ?_
  · exact ⟨by omega,hb⟩
  rintro i wr mc _ yV;replace mc:i≤l.length∧Below w.heap.size w wr:=mc;obtain ⟨hi,hb⟩:=mc;show Wc _ _ _ _ _ [(0,.pointer (some ⟨gg,0,none⟩)),(1,str l),(5,.int .i64 ((l.length+(l.take i).countP dp:Nat):Int)),(6,.bool (decide (0<(l.take i).countP dp))),(10,.int .i64 (i:Int))] _;have hT:=xE.below hb;have:=hb.size;refine ax fun _ n8=>ao fun qq=>ai rfl<|ai rfl<|ah (dF bq (by omega) rfl) rfl<|ah (cg rfl rfl) rfl<|an qq<|aH rfl (fun Au=>?_) (fun Au=>?_)
  ·
   have Ym:=Au;simp only [DZ] at Au;have hil:i<l.length:=by omega
   refine aU<|aw n8<|ax fun _ oT=>br<|ao fun Ct=>ai rfl<|ai rfl<|ah (bt (eK bq rfl rfl (by omega) (by omega)) ((show Value.int .u8 ((l.getD (i:Int).toNat 0).toNat:Int)= .int .u8 ((l.getD i 0).toNat:Int) from rfl))) rfl<|am rfl<|an Ct<|ax fun _ oU=>?_
   obtain ⟨B9,n9,k9,hc9,hi9,hy9⟩:=hT.any (l.getD i 0);have hk9:=(l.getD i 0).toNat_lt;refine aR<|ai rfl<|ai rfl<|ah (cM rfl) rfl<|ah (aJ (wi _) rfl) rfl<|ah (bt (yi ye x6 rfl rfl (by omega) (by omega)) (xV _ _)) rfl<|aW (aI s5 rfl (by exact hT.blk.at hc9)) rfl<|ah (UG dB rfl) rfl<|an oU<|aH rfl (fun lQ=>?_) (fun lQ=>?_)
   ·
    have Ay:=lQ;simp only [DZ] at lQ;have hsp:dp (l.getD i 0)=true:=by rw [hi9] at lQ;simpa using lQ
    obtain ⟨rfl,a9,rfl,_⟩:=hy9 hsp;have hcl:(l.take i).countP dp≤i:=Nat.le_trans List.countP_le_length (by rw [List.length_take];omega);refine ao fun xz=>ai rfl<|ai rfl<|ai rfl<|ah (cM rfl) rfl<|ah (aJ (wi _) rfl) rfl<|ah (bt (yi ye x6 rfl rfl (by omega) (by omega)) (xV _ _)) rfl<|aW (aI s5 rfl (by exact hT.blk.at hc9)) rfl<|ah (cG dB (by omega) rfl) rfl<|ah (gk rfl rfl (by omega) (by omega)) rfl<|ah (bH rfl rfl (by omega) (by omega)) rfl<|am rfl<|an xz<|aR<|am rfl<|ay<|bS<|aw oT<|aR<|ai rfl<|ah (bH rfl rfl (by omega) (by omega)) rfl<|am rfl<|ay<|fun a_ bn=>yV _ _ (i+1) (by omega) (by repeat first|exact aB|refine au rfl (by first|rfl|exact int_eq (by rw [tR hil,hsp];simp;omega)|exact aP (decide_eq_true (by rw [tR hil,hsp];simp)).symm|exact aP (decide_eq_decide.2 (by rw [tR hil,hsp];simp))|exact int_eq (by rw [tR hil,hsp];simp)) ?_) ?_ a_ bn
    exact ⟨by omega,hb⟩
   have Ay:=lQ;simp only [DZ] at lQ;have hsp:dp (l.getD i 0)=false:=by rw [hi9] at lQ;simpa using lQ
   refine aU<|bS<|aw oT<|aR<|ai rfl<|ah (bH rfl rfl (by omega) (by omega)) rfl<|am rfl<|ay<|fun a_ bn=>yV _ _ (i+1) (by omega) (by repeat first|exact aB|refine au rfl (by first|rfl|exact int_eq (by rw [tR hil,hsp];simp;omega)|exact aP (decide_eq_true (by rw [tR hil,hsp];simp)).symm|exact aP (decide_eq_decide.2 (by rw [tR hil,hsp];simp))|exact int_eq (by rw [tR hil,hsp];simp)) ?_) ?_ a_ bn
   exact ⟨by omega,hb⟩
  have Ym:=Au;simp only [DZ] at Au;have hcx:i=l.length:=by omega
  have hc3:l.take l.length=l:=List.take_length;subst hcx;refine cN<|bD<|bD<|cO ?_
  skip
  refine aY ub (()) (by repeat first|exact aB|refine au rfl (by first|rfl|exact int_eq (by rw [hcx])|exact aP (by rw [hcx])|exact int_eq (by rw [hc3])|exact aP (by rw [hc3])) ?_) ?_;exact hb
 rintro u_ wr wM;replace wM:Below w.heap.size w wr:=wM;have hb:=wM;show Wq _ _ _ _ [(0,.pointer (some ⟨gg,0,none⟩)),(1,str l),(5,.int .i64 ((l.length+l.countP dp:Nat):Int)),(6,.bool (decide (0<l.countP dp)))] _;have hT:=xE.below hb;have:=hb.size;refine aw ek<|ax fun _ nU=>ao fun xk=>ai rfl<|ah (fI rfl) rfl<|an xk<|aH rfl (fun yE=>?_) (fun yE=>?_)
 ·
  have YD:=yE;simp only [DZ] at yE;have hz:l.countP dp=0:=by simpa using yE
  refine ao fun xl=>ai rfl<|am rfl<|an xl<|aK<|aQ<|bj rfl rfl ?_
  exact ⟨_,rfl,dw (aeP hz).symm,hb⟩
 have YD:=yE;simp only [DZ] at yE;refine aU<|aw nU<|ax fun _ qk=>?_
 obtain ⟨gb,hgb⟩:∃gb,gb=wr.heap.size:=⟨_,rfl⟩;refine aR<|ai rfl<|WZ (z:= .int .u8 0) (sz:=1) (bytes:=1) dB (by kernel_rfl) w.heap.size (n:=l.length+l.countP dp) rfl rfl (by omega) (by simp only [maxLen];omega) hb.size rfl ?_
 rintro w1 hO hg1;have hz1:=hg1.size;have hb:=hb.grown hg1 hb.size (fun k hk=>by cases hk);rw [show madeCells (Value.int .u8 0).cells ((l.length+l.countP dp) * 1)=madeCells #[.int .u8 0] (l.length+l.countP dp) from by rw [Nat.mul_one];rfl,toList_madeCells_one,←hgb] at hO;rw [←hgb];refine am rfl<|an qk<|ao fun sH=>am rfl<|an sH<|ax fun _ xm=>ao fun Ch=>am rfl<|an Ch<|br<|cU (X:=Nat) (fun i=> [(0,.pointer (some ⟨gg,0,none⟩)),(1,str l),(12,.slice (some ⟨gb,0,none⟩) (l.length+l.countP dp) (l.length+l.countP dp)),(13,.int .i64 ((((l.take i).flatMap gh).length:Nat):Int)),(14,.int .i64 (i:Int))]) (fun i wr=>i≤l.length∧Below w.heap.size w wr∧wr.ownsRow w.heap.size 5 1 (.slice (some ⟨gb,0,none⟩) (l.length+l.countP dp) (l.length+l.countP dp)) (l.length+l.countP dp) (py ((l.take i).flatMap gh) (l.length+l.countP dp))) (fun i=>l.length - i) (0) ?_ ?_ ?_
 · exact by repeat first|exact aB|refine au rfl (by first|rfl|exact int_eq (by omega)) ?_
 · exact ⟨by omega,hb,hO⟩
 rintro i wr Js _ PP;replace Js:i≤l.length∧Below w.heap.size w wr∧wr.ownsRow w.heap.size 5 1 (.slice (some ⟨gb,0,none⟩) (l.length+l.countP dp) (l.length+l.countP dp)) (l.length+l.countP dp) (py ((l.take i).flatMap gh) (l.length+l.countP dp)):=Js;obtain ⟨hi,hb,hO⟩:=Js;show Wc _ _ _ _ _ [(0,.pointer (some ⟨gg,0,none⟩)),(1,str l),(12,.slice (some ⟨gb,0,none⟩) (l.length+l.countP dp) (l.length+l.countP dp)),(13,.int .i64 ((((l.take i).flatMap gh).length:Nat):Int)),(14,.int .i64 (i:Int))] _;have hT:=xE.below hb;have:=hb.size;refine ax fun _ Ci=>ao fun Kw=>ai rfl<|ai rfl<|ah (dF bq (by omega) rfl) rfl<|ah (cg rfl rfl) rfl<|an Kw<|aH rfl (fun AC=>?_) (fun AC=>?_)
 ·
  have YK:=AC;simp only [DZ] at AC;have hil:i<l.length:=by omega
  have hfs:=congrArg List.length (Pu hil);rw [List.length_append] at hfs;have hfl:=ZX l (i+1);have hfe:=Pu hil;refine aU<|aw Ci<|ax fun _ t8=>br<|ao fun xn=>ai rfl<|ai rfl<|ah (bt (eK bq rfl rfl (by omega) (by omega)) ((show Value.int .u8 ((l.getD (i:Int).toNat 0).toNat:Int)= .int .u8 ((l.getD i 0).toNat:Int) from rfl))) rfl<|am rfl<|an xn<|ax fun _ Ky=>?_
  obtain ⟨B9,n9,k9,hc9,hi9,hy9⟩:=hT.any (l.getD i 0);have hk9:=(l.getD i 0).toNat_lt;refine aR<|ai rfl<|ai rfl<|ah (cM rfl) rfl<|ah (aJ (wi _) rfl) rfl<|ah (bt (yi ye x6 rfl rfl (by omega) (by omega)) (xV _ _)) rfl<|aW (aI s5 rfl (by exact hT.blk.at hc9)) rfl<|ah (UG dB rfl) rfl<|an Ky<|aH rfl (fun rY=>?_) (fun rY=>?_)
  ·
   have YQ:=rY;simp only [DZ] at rY;have hsp:dp (l.getD i 0)=true:=by rw [hi9] at rY;simpa using rY
   obtain ⟨rfl,a9,rfl,hr9⟩:=hy9 hsp;have hq2:(gh (l.getD i 0)).length=2:=by rw [Mn hsp];rfl
   refine gG (n:=13) (fun w'=>Below w.heap.size w w') #[ac,ac,ac,ac,ac,ac,ac,ac,ac,ac,ac,ac,ac] (by kernel_rfl) rfl (by kernel_rfl)<|gF ?_
   rintro ajb Fo;have:=Fo.size;have hb:=az hb Fo;have hT:=xE.below hb;have hO:=cR hO Fo;refine aT (i:=0) #[ab,ac,ac,ac,ac,ac,ac,ac,ac,ac,ac,ac,ac] rfl (by kernel_rfl) aO rfl (fun wq hq=>a8 (bl rfl)) hb<|aT (i:=1) #[ab,ab,ac,ac,ac,ac,ac,ac,ac,ac,ac,ac,ac] rfl (by kernel_rfl) aO rfl (fun wq hq=>a8 (bl rfl)) hb<|aT (i:=2) #[ab,ab,ab,ac,ac,ac,ac,ac,ac,ac,ac,ac,ac] rfl (by kernel_rfl) aO rfl (fun wq hq=>a8 (bl rfl)) hb<|aT (i:=3) #[ab,ab,ab,ab,ac,ac,ac,ac,ac,ac,ac,ac,ac] rfl (by kernel_rfl) aO rfl (fun wq hq=>a8 (bt (nr dB x8 rfl rfl (by omega) (by omega)) ((afG (g:=gb) (n:=l.length+l.countP dp) (j:=((l.take i).flatMap gh).length) (by omega))))) hb<|aT (i:=4) #[ab,ab,ab,ab,ab,ac,ac,ac,ac,ac,ac,ac,ac] rfl (by kernel_rfl) aO rfl (fun wq hq=>a8 (bl rfl)) hb<|aT (i:=5) #[ab,ab,ab,ab,ab,ab,ac,ac,ac,ac,ac,ac,ac] rfl (by kernel_rfl) aO rfl (fun wq hq=>a8 (bl rfl)) hb<|aT (i:=6) #[ab,ab,ab,ab,ab,ab,ab,ac,ac,ac,ac,ac,ac] rfl (by kernel_rfl) aO rfl (fun wq hq=>a8 (cM rfl)) hb<|aT (i:=7) #[ab,ab,ab,ab,ab,ab,ab,ab,ac,ac,ac,ac,ac] rfl (by kernel_rfl) aO rfl (fun wq hq=>a8 (aJ (wi _) rfl)) hb<|aT (i:=8) #[ab,ab,ab,ab,ab,ab,ab,ab,ab,ac,ac,ac,ac] rfl (by kernel_rfl) aO rfl (fun wq hq=>a8 (bt (yi ye x6 rfl rfl (by omega) (by omega)) ((xV ⟨gg,0,none⟩ (l.getD i 0).toNat)))) hb<|aT (i:=9) #[ab,ab,ab,ab,ab,ab,ab,ab,ab,ab,ac,ac,ac] rfl (by kernel_rfl) aO rfl (fun wq hq=>aI s5 rfl (by have hT:=xE.below hq;exact hT.blk.at hc9)) hb<|bM (rs:= [10]) (by kernel_rfl) rfl<|bv #[ab,ab,ab,ab,ab,ab,ab,ab,ab,ab,ab,ac,ac] rfl rfl (fun _ KE=>?_) ?_
   ·
    have hr9w:=hr9.below Fo;refine WX (g:=gb) (o:=((l.take i).flatMap gh).length) dB (by kernel_rfl) rfl rfl hO hr9w (T3 _) (by omega) (by omega) rfl ?_;rintro w2 hO2 hg2;have hz2:=hg2.size;have hb:=bY hb hg2 hb.size (bz hO _ rfl).1;have hO:=hO2;rw [←hq2,Xk _ _ _ (by omega),←hfe] at hO;refine ay<|bu KE hb<|aT (i:=11) #[ab,ab,ab,ab,ab,ab,ab,ab,ab,ab,ab,ab,ac] rfl (by kernel_rfl) aO rfl (fun wq hq=>a8 (bH rfl rfl (by omega) (by omega))) hb<|aT (i:=12) #[ab,ab,ab,ab,ab,ab,ab,ab,ab,ab,ab,ab,ab] rfl (by kernel_rfl) aO rfl (fun wq hq=>a8 (cX rfl)) hb<|eE (by kernel_rfl)<|bS<|aw t8<|aR<|ai rfl<|ah (bH rfl rfl (by omega) (by omega)) rfl<|am rfl<|ay<|fun a_ bn=>PP _ _ (i+1) (by omega) (by repeat first|exact aB|refine au rfl (by first|rfl|exact int_eq (by rw [hfs];omega)) ?_) ?_ a_ bn
    exact ⟨by omega,hb,hO⟩
   exact bN
  have YQ:=rY;simp only [DZ] at rY;have hsp:dp (l.getD i 0)=false:=by rw [hi9] at rY;simpa using rY
  have hq2:(gh (l.getD i 0)).length=1:=by rw [Dw hsp];rfl
  refine ao fun KH=>ai rfl<|ai rfl<|ai rfl<|ah (bt (cx dB x8 rfl rfl (by omega) (by omega)) (aeK _ _)) rfl<|W9 aed rfl rfl rfl hO (by unfold py;rw [List.length_append,qI,List.length_replicate];omega) ?_
  rintro w2 hO2 hg2;have hb:=bY hb hg2 hb.size (bz hO _ rfl).1;have hO:=hO2;rw [Xl _ _ _ (by omega),←Dw hsp,←hfe] at hO;refine an KH<|aR<|ai rfl<|ah (bH rfl rfl (by omega) (by omega)) rfl<|am rfl<|ay<|bS<|aw t8<|aR<|ai rfl<|ah (bH rfl rfl (by omega) (by omega)) rfl<|am rfl<|ay<|fun a_ bn=>PP _ _ (i+1) (by omega) (by repeat first|exact aB|refine au rfl (by first|rfl|exact int_eq (by rw [hfs];omega)) ?_) ?_ a_ bn
  exact ⟨by omega,hb,hO⟩
 have YK:=AC;simp only [DZ] at AC;have hie:i=l.length:=by omega
 subst hie;rw [List.take_length] at hO;have hO':wr.ownsRow w.heap.size 5 1 (.slice (some ⟨gb,0,none⟩) (l.length+l.countP dp) (l.length+l.countP dp)) (l.length+l.countP dp) (dq (l.flatMap gh)):=by have h0:=hO;unfold py at h0;rw [show l.length+l.countP dp - (l.flatMap gh).length=0 from by omega,List.replicate_zero,List.append_nil] at h0;exact h0
 refine cN<|bD<|bD<|cO<|aw xm<|ao fun Cq=>ai rfl<|aW (lB dB fq bq rfl (by exact fC hO')) rfl<|am rfl<|an Cq<|aK<|bj rfl rfl ?_
 exact ⟨_,rfl,rfl,hb⟩
end Go.Proofs.YtjmlknjbhbfneaaGreatDoor
namespace Go.Bw
open Go.RowKit
set_option linter.unusedVariables false
theorem nv.grown {w w':World} {A:Addr} {g:Nat} (h:nv w A) (hg:w.grownBy w' (some g)) (hne:A.block≠g):nv w' A:=fun j u hu=>by
 have h1:=h j u hu;have hb:(A.add j).block=A.block:=by unfold Addr.add;split<;>rfl
 rw [World.cell?_of_block (w:=w) (hg.block _ (zZ h1) (by rw [hb];exact fun e=>hne (Option.some.inj e)))];exact h1
theorem Ss (g:Nat):Value.pointer (some ((⟨g,0,none⟩:Addr).add 0))= .pointer (some ⟨g,0,none⟩):=by rw [pu]
theorem DO:∀u∈Dz,u.oneCell'=true:=fun u hu=>by
 have h:=List.all_eq_true.1 (show Dz.all (·.oneCell')=true from rfl) u hu;exact h
end Go.Bw
namespace Go.Proofs.YtjmlknjbhbfneaaGreatDoor
open Go.RowKit Go.Bw
set_option linter.unusedVariables false
set_option linter.unusedSimpArgs false
theorem ZM (p:Addr) (w:World):(Instr.fieldAt 202 (.pointer (some p)) 1).run Tryz.prog w= .ok (.pointer (some (p.add 0))) w:=fd (i:=1) (sz:=0) Tryz.underlying202 rfl (by kernel_rfl) p w
theorem ZN (p:Addr) (w:World):(Instr.fieldAt 206 (.pointer (some p)) 0).run Tryz.prog w= .ok (.pointer (some (p.add 0))) w:=fd (i:=0) (sz:=2) Gs rfl (by kernel_rfl) p w
theorem Pa (p:Addr) (w:World):(Instr.fieldAt 206 (.pointer (some p)) 1).run Tryz.prog w= .ok (.pointer (some (p.add 3))) w:=fd (i:=1) (sz:=0) Gs rfl (by kernel_rfl) p w
theorem ad8:One Tryz.prog 204:=⟨_,Tryz.underlying204,rfl,by kernel_rfl⟩
theorem agp:bC Tryz.prog 122:=⟨_,Tryz.func122,by kernel_rfl,rfl⟩
theorem agq:bC Tryz.prog 123:=⟨_,Tryz.func123,by kernel_rfl,rfl⟩
theorem agB:bC Tryz.prog 167:=⟨_,Tryz.func167,by kernel_rfl,rfl⟩
theorem agH:bC Tryz.prog 195:=⟨_,Tryz.func195,by kernel_rfl,rfl⟩
theorem agI:bC Tryz.prog 196:=⟨_,Tryz.func196,by kernel_rfl,rfl⟩
theorem agJ:bC Tryz.prog 197:=⟨_,Tryz.func197,by kernel_rfl,rfl⟩
theorem aeb:One Tryz.prog 204:=⟨_,Tryz.underlying204,rfl,by kernel_rfl⟩
theorem aec:One Tryz.prog 40:=⟨_,bK,rfl,by kernel_rfl⟩
theorem ad7 (B g:Nat) (A:Addr) (c:Nat) (w:World) (hg:B≤g) (hB:aq w g 206 [.int .u32 0,.int .i32 1,.int .u32 0,.nilIface,.slice (some A) 6 c]) (hS:nv w A):be Tryz.prog 168 [.pointer (some ⟨g,0,none⟩)] w fun v w'=>v= .tuple #[]∧∃lo gg,aq w' g 206 [.int .u32 0,.int .i32 1,.int .u32 0,.iface 256 (.pointer (some ⟨gg,0,none⟩)),.slice none 0 0]∧lK 255 lo w' gg∧g<lo∧Below B w w':=by
 have hlt:=hB.lt;refine enter Tryz.func168 rfl rfl rfl<|ao fun aZ=>ai rfl<|ai rfl<|aS agJ rfl rfl (Xm g A c _ hB hS) rfl ?_
 rintro _ w2 ⟨⟨gg,rfl,hP⟩,hs⟩;have hB2:=hB.below hs;have hb:=hs.mono (B':=B) (by omega);have hz2:=hs.size;refine ah (cM rfl) rfl<|ah (aJ (Pa _) rfl) rfl<|fJ aeb rfl rfl rfl hB2 (by show 3<5;decide) ?_
 rintro w3 hB3 hg3;have hz3:=hg3.size;have hP:=hP.grown hg3 hlt;have hb:=bY hb hg3 (by omega) hg;refine an aZ<|aR<|ai rfl<|ah (cM rfl) rfl<|ah (aJ (Pc _) rfl) rfl<|fJ aec rfl rfl rfl hB3 (by show 4<5;decide) ?_
 rintro w4 hB4 hg4;have hP:=hP.grown hg4 hlt;have hb:=bY hb hg4 (by omega) hg;refine ay<|lh rfl ?_
 exact ⟨_,rfl,rfl,_,gg,hB4,hP,hlt,hb⟩
theorem Zf (B g:Nat) (A:Addr) (c:Nat) (w:World) (hg:B≤g) (hB:aq w g 206 [.int .u32 0,.int .i32 0,.int .u32 0,.nilIface,.slice (some A) 6 c]) (hS:nv w A) (hne:A.block≠g):be Tryz.prog 167 [.pointer (some ⟨g,0,none⟩),.func (.func 168) #[.pointer (some ⟨g,0,none⟩)] #[]] w fun v w'=>v= .tuple #[]∧∃lo gg,aq w' g 206 [.int .u32 1,.int .i32 0,.int .u32 0,.iface 256 (.pointer (some ⟨gg,0,none⟩)),.slice none 0 0]∧lK 255 lo w' gg∧Below B w w':=by
 have hlt:=hB.lt;have h0:w.cell? ⟨g,0,none⟩=some (.int .u32 0):=hB.cell 0;have h1:w.cell? ⟨g,1,none⟩=some (.int .i32 0):=hB.cell 1;have f1:w.frozen? ⟨g,1,none⟩=false:=hB.frozen 1;obtain ⟨hb1,hg1⟩:=hB.setAt (j:=1) (v:= .int .i32 1);have hB1:Below B w (w.setCell ⟨g,1,none⟩ (.int .i32 1)):=bY (Below.refl B w) hg1 (by omega) hg
 have hF:Calls Tryz.prog 168 #[.pointer (some ⟨g,0,none⟩)] (w.setCell ⟨g,1,none⟩ (.int .i32 1)) fun e w2=>e= .returned (.tuple #[])∧(w2.cell? ⟨g,0,none⟩=some (.int .u32 0)∧w2.cell? ⟨g,1,none⟩=some (.int .i32 1)∧w2.frozen? ⟨g,0,none⟩=false∧w2.frozen? ⟨g,1,none⟩=false∧∃lo gg,aq w2 g 206 [.int .u32 0,.int .i32 1,.int .u32 0,.iface 256 (.pointer (some ⟨gg,0,none⟩)),.slice none 0 0]∧lK 255 lo w2 gg∧g<lo∧Below B w w2):=
  Calls.mono (VM (ad7 B g A c _ hg hb1 (hS.grown hg1 hne))) fun e w2 ⟨he,lo,gg,hb2,hP,hl,hbw⟩=>⟨he,hb2.cell 0,hb2.cell 1,hb2.frozen 0,hb2.frozen 1,lo,gg,hb2,hP,hl,hB1.trans hbw⟩
 have hslow:=afH g (.pointer (some ⟨g,0,none⟩)) (fun w2=>∃lo gg,aq w2 g 206 [.int .u32 0,.int .i32 1,.int .u32 0,.iface 256 (.pointer (some ⟨gg,0,none⟩)),.slice none 0 0]∧lK 255 lo w2 gg∧g<lo∧Below B w w2) w h0 h1 f1 hF;refine enter Tryz.func167 rfl rfl rfl<|ao fun aZ=>ai rfl<|ah (cM rfl) rfl<|ah (bt (aJ (ZM _) rfl) (Ss g)) rfl<|aS agH rfl rfl (GS (Ru ⟨g,0,none⟩ w h0)) rfl ?_
 rintro _ w_ ⟨rfl,bf⟩;have bf:=bf.symm;subst bf;refine ah (fI rfl) rfl<|an aZ<|aH rfl (fun cL=>?_) (fun cL=>?_)
 ·
  have j7:=cL;simp only [DZ] at cL;refine aR<|ai rfl<|ai rfl<|aS agI rfl rfl (GS hslow) rfl ?_
  rintro _ w3 ⟨rfl,w2,⟨lo,gg,hb2,hP,hl,hbw⟩,rfl⟩;refine ay<|lh rfl ?_
  have hd:aq w2.drew g 206 _:=hb2;have hPd:lK 255 lo w2.drew gg:=hP.below (Below.refl _ _).drew;obtain ⟨hb3,hg3⟩:=hd.setAt (j:=0) (v:= .int .u32 1);obtain ⟨hb4,hg4⟩:=hb3.setAt (j:=1) (v:= .int .i32 0);have hz3:=hg3.size;have hz:=hbw.size;have hwd:w2.drew.heap.size=w2.heap.size:=rfl;exact ⟨_,rfl,rfl,lo,gg,hb4,(hPd.grown hg3 hl).grown hg4 hl,bY (bY hbw.drew hg3 (by omega) hg) hg4 (by omega) hg⟩
 have j7:=cL;simp only [DZ] at cL
 cases cL
theorem afa (B g:Nat) (A:Addr) (c:Nat) (l:al) (w:World) (hg:B≤g) (hB:aq w g 206 [.int .u32 0,.int .i32 0,.int .u32 0,.nilIface,.slice (some A) 6 c]) (hS:nv w A) (hne:A.block≠g) (hl:l.length≤1099511627776):be Tryz.prog 123 [.pointer (some ⟨g,0,none⟩),str l] w fun v w'=>v=str (l.flatMap gh)∧Below B w w':=by
 have hlt:=hB.lt;refine enter Tryz.func123 rfl rfl rfl<|ao fun aZ=>am rfl<|an aZ<|ao fun bJ=>ai rfl<|ah (cM rfl) rfl<|ah (bt (aJ (ZN _) rfl) (Ss g)) rfl<|ai rfl<|ah (GH rfl rfl) rfl<|aS agB rfl rfl (Zf B g A c _ hg hB hS hne) rfl ?_
 rintro _ w2 ⟨rfl,lo,gg,hB2,hP,hb⟩;refine an bJ<|ao fun eZ=>ai rfl<|ah (cM rfl) rfl<|ah (aJ (Pa _) rfl) rfl<|aW (aI ad8 rfl (hB2.at rfl)) rfl ?_
 obtain ⟨cs,A2,c2,hT⟩:=hP.openT;refine ai rfl<|WY (f:=273) ⟨_,Tryz.func273,by kernel_rfl,rfl⟩ (fun w=>by kernel_rfl) rfl rfl (Xj gg cs A2 c2 l _ hT hl) rfl ?_
 rintro _ w3 ⟨rfl,hs3⟩;have hz2:=hb.size;have hb:=hb.trans (hs3.mono (by omega));refine am rfl<|an eZ<|aK<|bj rfl rfl ?_
 exact ⟨_,rfl,rfl,hb⟩
theorem adS (A0:Addr) (c0:Nat) (w:World) (h:nv w A0):be Tryz.prog 122 [.slice (some A0) 6 c0] w fun v w'=>(∃g A c,v= .pointer (some ⟨g,0,none⟩)∧w.heap.size≤g∧aq w' g 206 [.int .u32 0,.int .i32 0,.int .u32 0,.nilIface,.slice (some A) 6 c]∧nv w' A∧A.block≠g)∧Below w.heap.size w w':=by
 have hb:=Below.refl w.heap.size w;have QA:=h;refine enter Tryz.func122 rfl rfl rfl<|ao fun aZ=>am rfl<|an aZ<|ax fun _ bJ=>ao fun bX=>ai rfl<|ah (cG bK (by omega) rfl) rfl<|ah (tt rfl rfl (by decide)) rfl<|ah (bA rfl rfl) rfl<|an bX<|aH rfl (fun dY=>?_) (fun dY=>?_)
 ·
  have jw:=dY;simp only [DZ] at dY;exact absurd dY (by decide)
 have jw:=dY;simp only [DZ] at dY;refine aU<|aw bJ<|ao fun eZ=>ai rfl ?_
 have hO:=s7 w w.heap.size 9 1;refine dK (z:=(str [])) (sz:=1) (bytes:=16) bK (by kernel_rfl) rfl (by decide) _ rfl hO rfl ⟨rfl,fun _=>⟨A0,rfl,h⟩⟩ DO (by simp only [maxLen];omega) (by omega) (by exact hb.size) rfl ?_;rintro Ue kw Lq dg jl;have:=dg.size;have hb:=hb.grown dg hb.size (fun k_ ba=>by have:=(bz hO k_ ba).1;omega);have h:=QA.below hb;have hO:=Lq;have hO1:=hO;obtain ⟨_,h0|⟨g1,cap,cur,rfl,hge,hgh,_⟩⟩:=hO1
 · exact absurd h0.2 (by decide)
 have hSx:nv kw ⟨g1,0,none⟩:=fun j u hu=>aem hO hu;have hgl:=(bz hO _ rfl).2;refine ah (fe (z:= [(.int .u32 0),(.int .i32 0),(.int .u32 0),.nilIface,(.slice none 0 0)]) (pl:= [(0,3),(3,1),(4,1)]) (cs:= [_,_,_,_,_]) Gs (by kernel_rfl) (by kernel_rfl) rfl rfl rfl) rfl<|jL rfl rfl ?_
 rintro qY Us QI B6 om;have:=om.size;have hb:=az hb om;have h:=QA.below hb;have:=B6.lt;refine am rfl<|an eZ<|aK<|bj rfl rfl ?_
 exact ⟨_,rfl,⟨qY,⟨g1,0,none⟩,cap,rfl,by omega,B6,hSx.below om,fun e=>by simp only at e hgl;omega⟩,hb⟩
theorem aeS (s:al) (w:World) (hl:s.length≤1099511627776):be Tryz.prog 88 [str s] w fun v w'=>v=str (39 :: (s.flatMap gh++ [39]))∧Below w.heap.size w w':=by
 have hq:=FS s;have hcp:s.countP dp≤s.length:=List.countP_le_length;have hb:=Below.refl w.heap.size w;refine enter Tryz.func88 rfl rfl rfl<|ao fun aZ=>am rfl<|an aZ<|ao fun bJ=>dX (sz:=1) (vs:= [_,_,_,_,_,_]) bK (by kernel_rfl) rfl rfl rfl rfl rfl rfl ?_
 rintro ix qL oX ew cm;have:=cm.size;have hb:=az hb cm;have:=ew.lt;refine aS agp rfl rfl (adS ⟨ix,0,none⟩ 6 _ (fun j u hu=>ew.at hu)) rfl ?_;rintro _ cq ⟨⟨g1,A1,c1,rfl,hg1,hB1,hS1,hne1⟩,bm⟩;have:=bm.size;have hb:=az hb bm;refine ai rfl<|aS agq rfl rfl (afa w.heap.size g1 A1 c1 s _ (by omega) hB1 hS1 hne1 hl) rfl ?_
 rintro _ ft ⟨rfl,hs1⟩;have hb:=hb.trans hs1;refine ah (dx rfl rfl (by simp only [List.length_cons,List.length_nil,List.length_append];omega)) rfl<|ah (dx rfl rfl (by simp only [List.length_cons,List.length_nil,List.length_append];omega)) rfl<|am rfl<|an bJ<|aK<|bj rfl rfl ?_
 exact ⟨_,rfl,dw (by simp),hb⟩
open Go.RowKit Go.Bw Go.Bw.Fl
theorem Su:gh=qc:=by
 funext c
 by_cases h1:c=92
 · subst h1;rfl
 by_cases h2:c=39
 · subst h2;rfl
 by_cases h3:c=10
 · subst h3;rfl
 rw [Sv h2 h3 h1];exact Dw (by simp [dp,h1,h2,h3])
theorem aeR (s:al) (w:World) (hl:s.length≤1099511627776):be Tryz.prog 88 [str s] w fun v w'=>v=str (gi s)∧Below w.heap.size w w':=by
 have h:=aeS s w hl;rw [Su] at h;exact h
theorem VU (a:bW) (oa:a.Ok) (hs:a.s.length≤1099511627776) (w:World) (hL:Lt w):be Tryz.prog 53 [a.enc] w fun v w'=>v= .tuple #[str (ku a),.int .i64 (gj (gi a.s) a).2]∧Below w.heap.size w w':=
 WQ (gi a.s) a oa w hL fun _ _ w _=>aeR a.s w hs
theorem ae0 {s:al} {v:bW} {n:Nat} (h:bZ pf bL s=some (v,n)):v.s.length≤s.length:=by
 obtain ⟨h1,h2⟩:=SC h;by_cases h4:v.k=4
 · have ht:ku v=gi v.s:=by
    unfold ku gj;rw [if_neg (by rw [h1];simp),if_neg (by omega),if_neg (by omega),if_neg (by omega),if_pos h4]
   have hl:v.s.length≤(gi v.s).length:=by
    have:∀l:al,l.length≤(l.flatMap qc).length:=fun l=>by
     rw [←Su,FS];omega
    have:=this v.s;unfold gi;simp only [List.length_cons,List.length_append,List.length_nil];omega
   rw [←ht,h2,List.length_take] at hl;omega
 · have:v.s= []:=by
    unfold en at h1;by_cases k0:v.k=0
    · rw [if_pos k0] at h1;exact (of_decide_eq_true h1).2.2
    rw [if_neg k0] at h1;by_cases k1:v.k=1
    · rw [if_pos k1] at h1;exact (of_decide_eq_true h1).2.2
    rw [if_neg k1] at h1;by_cases k2:v.k=2
    · rw [if_pos k2] at h1;exact (of_decide_eq_true h1).2
    rw [if_neg k2] at h1;by_cases k3:v.k=3
    · rw [if_pos k3] at h1;exact (of_decide_eq_true h1).2.1
    rw [if_neg k3,if_neg h4] at h1;cases h1
   rw [this];simp
end Go.Proofs.YtjmlknjbhbfneaaGreatDoor
