import Derived.Test.YtjdjliiolchciaaGreatDoorCards
import Derived.Test.YtjdjliiolchciaaGreatDoorZLaidXC
import Derived.Test.YtjdjliiolchciaaGreatDoorZPlA
namespace Go.Proofs.YtjdjliiolchciaaGreatDoor.parseTells
open Go.ChangeShapes Go.WideShapes Go.ChangeAt Go.RowKit Go.Bw
open Go.ChangeMaps (open_string shut_string)
set_option linter.unusedVariables false
set_option linter.unusedSimpArgs false
set_option maxRecDepth 100000 in
theorem Yi (H:Type) (enc:TypeId×Value→H) (W:World) (base:Nat) (args:Array Value) (ds gs:List (DataW H)) (before:List MemPlace)
 (hval0:∀(j:Nat) t v,Tryz.f3.params[j]? =some t→args[j]? =some v→Value.okWide Tryz.prog W .any base t v)
 (hW:DataW.Whole enc Tryz.prog Tryz.f3.params.toList Rows.parseTellsSpec.vars false W args.toList ds gs before)
 (hsz0:(DataW.weightsEach Tryz.prog (Tryz.f3.params.toList++(OpenSpec.ofChange Rows.parseTellsSpec).bare.plain.varTypes Tryz.prog) (ds++gs)).all (·≤reachBytes)=true)
 (hL:laidMetH Tryz.prog Rows.parseTellsRow.laid W):
 Calls Tryz.prog 3 args W fun e W'=>∃v,e= .returned v∧Rows.parseTellsSpec.post enc Tryz.prog Tryz.f3 false true false false W args v W':=by
 have hLb:Lx W:=acA hL
 have hsz:(DataW.weightsEach Tryz.prog (Tryz.f3.params.toList++Rows.parseTellsSpec.plain.varTypes Tryz.prog) (ds++gs)).all (·≤reachBytes)=true:=hsz0
 clear hsz0
 have hval:∀(j:Nat) t v,Tryz.f3.params[j]? =some t→args[j]? =some v→Value.okWide Tryz.prog W .any base t v:=hval0
 have hW':=hW
 obtain ⟨p,q,hA0,hV,rfl,hfz,hnd⟩:=hW
 have hA:DataW.TrodAll enc Tryz.prog W 0 (fun _=>true) true Tryz.f3.params.toList args.toList ds p:=hA0
 rw [Tryz.params3] at hA hval hsz
 obtain ⟨v0,vs0,d0,ds0,p0,q0,hargs,rfl,rfl,h0,t0⟩:=trodAll_cons hA
 obtain ⟨rfl,rfl,rfl⟩:=trodAll_nil t0
 obtain rfl:args= #[v0]:=by cases args;simp_all
 obtain ⟨rfl,rfl⟩:=trodVars_none hV
 have lt0:∀x∈p0,x.block<W.heap.size:=by obtain ⟨m,hm⟩:=h0;exact DataW.trod_lt m _ _ _ hm
 have f0:lm Tryz.prog 9 d0:=Y7 hsz (j:=0) rfl rfl
 have s0:=gL.of (P:=Tryz.prog) [9] (by as_aux_lemma=>kernel_rfl) (by decide) h0
 have o0:=hval 0 9 v0 rfl rfl
 obtain ⟨x0,rfl,e0,_,_⟩:=open_string Tryz.underlying9 o0 h0
 obtain ⟨l0,rfl⟩:∃l:List UInt8,x0=⟨l.toArray⟩:=⟨x0.data.toList,by simp⟩
 have hb0:l0.length≤140737488351232:=by rw [e0] at f0;simpa using f0.str
 clear hA0 hval0
 have hwalk:Calls Tryz.prog 3 #[str l0] W fun e w'=>∃v,e= .returned v∧v= .bool true∧Below W.heap.size W w':=Vf l0 W hLb (Nat.le_trans hb0 (by decide))
 refine hwalk.mono fun e W' ⟨v,he,hv,bel⟩=>?_
 subst he
 subst hv
 exact ⟨_,rfl,_,_,_,[],_,[],hW',trodAll_mk1 (shut_bool Tryz.underlying4 _),(trodAll_cons_mk (Below.trod acu (by as_aux_lemma=>kernel_rfl) (of_decide_eq_true (by as_aux_lemma=>kernel_rfl)) h0 bel lt0) trodAll_mk0),rfl,bel.frame _,fun h=>by cases h⟩
theorem adZ (os:Os) {H:Type} (enc:TypeId×Value→H):∃places,DataW.whole enc Tryz.prog ((CV os).forCall (fun _ _=>0) ⟨#[],#[(str [])],[]⟩).memory Tryz.f3.params.toList Rows.parseTellsSpec.vars false (#[(str [])]:Array Value).toList 8=some ([.lit (.string [])],[],places):=
 ⟨[],by kernel_rfl⟩
set_option maxRecDepth 100000 in
theorem acJ (os:Os) (started:os.Started) (H:Type) (enc:TypeId×Value→H) (F:Stop.Interp):
 ReturnsInHanded {} Tryz.checked os 3 .any ((OpenSpec.ofChange Rows.parseTellsSpec).preRow enc Tryz.prog Tryz.f3 Rows.parseTellsRow.domain false Rows.parseTellsRow.laid) (((OpenSpec.ofChange Rows.parseTellsSpec).at F).post enc Tryz.prog Tryz.f3 false true false false):=by
 obtain ⟨places,hx⟩:=adZ os enc
 refine returnsInHanded_of_row (C:=Tryz.checked) (s:=OpenSpec.ofChange Rows.parseTellsSpec) own started (by as_aux_lemma=>kernel_rfl) Tryz.func3
  (witness_row_atRef (enc:=enc) (C:=Tryz.checked) false (CV os) #[(str [])] rfl (acx os _) (acw os _) (by as_aux_lemma=>kernel_rfl)
   (OpenSpec.preRow_of_cond 8 hx (by as_aux_lemma=>kernel_rfl) (fun k hk=>by cases hk) (by as_aux_lemma=>kernel_rfl) (acv os _))) ?_
 intro W base args ds gs before hval hW _ _ hsz hL _ _
 exact Yi H enc W base args ds gs before hval hW hsz hL
theorem ab9 : Tryz.prog.funcNamed "bridleway/bridlewaylaw11.ParseTells" = some 3 := by kernel_rfl
set_option maxHeartbeats 4000000 in
theorem Ye:joinedFacts Tryz.pinned.checked.prog 3 Tryz.f3 (OpenSpec.ofChange Rows.parseTellsSpec).bare Rows.parseTellsRow=true:=by
 unfold joinedFacts;simp only [Bool.and_eq_true]
 and_intros
 all_goals as_aux_lemma=>kernel_rfl
theorem ab7:Tryz.f3.isInstance Tryz.pinned.checked.prog Rows.parseTellsRow.origin Rows.parseTellsRow.targs:=of_decide_eq_true (by kernel_rfl)
theorem wrap:Tryz.f3.isWrapper Tryz.pinned.checked.prog Rows.parseTellsRow.wrapper Rows.parseTellsRow.mainSum:=by unfold Func.isWrapper;first|(rw [if_pos (by decide +kernel)];kernel_rfl)|(rw [if_neg (by decide +kernel)];exact ⟨rfl,rfl⟩)
theorem aek:Rows.ParseTellsSaid:=
 OpenClaim.holds_of_cond 3 Tryz.f3 rfl rfl rfl rfl rfl rfl rfl ⟨rfl,rfl,rfl,rfl,rfl⟩ rfl rfl rfl rfl rfl ab9 Tryz.func3 Ye ab7 wrap
  (fun os started H enc _ F=>by rw [OpenClaim.pre_eq_preRow];exact acJ os started H enc F)
theorem plain (f : FuncId) (fn : Func) (hf : Tryz.pinned.checked.prog.funcNamed "bridleway/bridlewaylaw11.ParseTells" = some f) (hfn : Tryz.pinned.checked.prog.funcs[f]? = some fn) :
 true=Tryz.pinned.checked.prog.looks []∧∀(j:Nat) t,fn.params[j]? =some t→Tryz.pinned.checked.prog.wantsStandIn t=false:=by
 obtain rfl : f = 3 := Option.some.inj ((show Tryz.prog.funcNamed "bridleway/bridlewaylaw11.ParseTells" = some 3 by as_aux_lemma => kernel_rfl).symm.trans hf) |>.symm
 obtain rfl:fn=Tryz.f3:=(Option.some.inj (Tryz.func3.symm.trans hfn)).symm
 refine ⟨by kernel_rfl,fun j t ht=>?_⟩
 rw [Tryz.params3] at ht
 have hm:=Array.mem_of_getElem? ht
 simp only [List.mem_toArray,List.mem_cons,List.not_mem_nil,or_false] at hm
 rcases hm with rfl
 · exact (show Tryz.prog.wantsStandIn 9=false by as_aux_lemma=>kernel_rfl)
theorem proved:Rows.ParseTellsCardSaid:=
 Claim7.holds_tied_plain_at .later [] _ _ _ _ aek (fun _ h=>by cases h) (by as_aux_lemma=>kernel_rfl) (fun _ h=>by cases h) parseTells_row_tie rfl ⟨rfl,rfl⟩ (by as_aux_lemma=>kernel_rfl) rfl plain (by as_aux_lemma=>kernel_rfl)
#print axioms proved
end Go.Proofs.YtjdjliiolchciaaGreatDoor.parseTells
