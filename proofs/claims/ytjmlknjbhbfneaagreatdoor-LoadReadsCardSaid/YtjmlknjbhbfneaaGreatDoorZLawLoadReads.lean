import Derived.Test.YtjmlknjbhbfneaaGreatDoorCards
import Derived.Test.YtjmlknjbhbfneaaGreatDoorZLaidLW
import Derived.Test.YtjmlknjbhbfneaaGreatDoorZLpI
namespace Go.Proofs.YtjmlknjbhbfneaaGreatDoor.loadReads
open Go.ChangeShapes Go.WideShapes Go.ChangeAt Go.RowKit Go.Bw
open Go.ChangeMaps (open_string shut_string)
set_option linter.unusedVariables false
set_option linter.unusedSimpArgs false
set_option maxRecDepth 100000 in
theorem Y8 (H:Type) (enc:TypeId×Value→H) (W:World) (base:Nat) (args:Array Value) (ds gs:List (DataW H)) (before:List MemPlace)
 (hval0:∀(j:Nat) t v,Tryz.f3.params[j]? =some t→args[j]? =some v→Value.okWide Tryz.prog W .any base t v)
 (hW:DataW.Whole enc Tryz.prog Tryz.f3.params.toList Rows.loadReadsSpec.vars false W args.toList ds gs before)
 (hsz0:(DataW.weightsEach Tryz.prog (Tryz.f3.params.toList++(OpenSpec.ofChange Rows.loadReadsSpec).bare.plain.varTypes Tryz.prog) (ds++gs)).all (·≤reachBytes)=true)
 (hL:laidMetH Tryz.prog Rows.loadReadsRow.laid W):
 Calls Tryz.prog 3 args W fun e W'=>∃v,e= .returned v∧Rows.loadReadsSpec.post enc Tryz.prog Tryz.f3 false true false false W args v W':=by
 have hLb:Lb W:=adr hL
 have hsz:(DataW.weightsEach Tryz.prog (Tryz.f3.params.toList++Rows.loadReadsSpec.plain.varTypes Tryz.prog) (ds++gs)).all (·≤reachBytes)=true:=hsz0
 clear hsz0
 have hval:∀(j:Nat) t v,Tryz.f3.params[j]? =some t→args[j]? =some v→Value.okWide Tryz.prog W .any base t v:=hval0
 have hW':=hW
 obtain ⟨p,q,hA0,hV,rfl,hfz,hnd⟩:=hW
 have hA:DataW.TrodAll enc Tryz.prog W 0 (fun _=>true) true Tryz.f3.params.toList args.toList ds p:=hA0
 rw [Tryz.params3] at hA hval hsz
 obtain ⟨v0,vs0,d0,ds0,p0,q0,hargs,rfl,rfl,h0,t0⟩:=trodAll_cons hA
 obtain ⟨rfl,rfl,rfl⟩:=trodAll_nil t0
 obtain rfl:args= #[v0]:=by cases args;simp_all
 obtain ⟨rfl,rfl⟩:=trodVars_none hV
 have lt0:∀x∈p0,x.block<W.heap.size:=by obtain ⟨m,hm⟩:=h0;exact DataW.trod_lt m _ _ _ hm
 have f0:Fits Tryz.prog 22 d0:=ZW hsz (j:=0) rfl rfl
 have s0:=iL.of (P:=Tryz.prog) [22,5] (by as_aux_lemma=>kernel_rfl) (by decide) h0
 have o0:=hval 0 22 v0 rfl rfl
 obtain ⟨A0,n0,c0,l0,rfl,hn0,hc0,hl0,hr0⟩:=aei dB fq (by as_aux_lemma=>kernel_rfl) (by as_aux_lemma=>kernel_rfl) o0 s0 f0
 clear hA0 hval0
 have hwalk:Calls Tryz.prog 3 #[.slice A0 n0 c0] W fun e w'=>∃v,e= .returned v∧v= .bool true∧Below W.heap.size W w':=Vn A0 n0 c0 l0 W hn0 hc0 (by omega) hr0 hLb
 refine hwalk.mono fun e W' ⟨v,he,hv,bel⟩=>?_
 subst he
 subst hv
 exact ⟨_,rfl,_,_,_,[],_,[],hW',trodAll_mk1 (shut_bool DU _),(trodAll_cons_mk (Below.trod laidOut (by as_aux_lemma=>kernel_rfl) (of_decide_eq_true (by as_aux_lemma=>kernel_rfl)) h0 bel lt0) trodAll_mk0),rfl,bel.frame _,fun h=>by cases h⟩
theorem reads (os:Os) {H:Type} (enc:TypeId×Value→H):∃places,DataW.whole enc Tryz.prog ((Dd os).forCall (fun _ _=>0) ⟨#[],#[(.slice none 0 0)],[]⟩).memory Tryz.f3.params.toList Rows.loadReadsSpec.vars false (#[(.slice none 0 0)]:Array Value).toList 8=some ([.nil],[],places):=
 ⟨[],by kernel_rfl⟩
set_option maxRecDepth 100000 in
theorem lifted (os:Os) (started:os.Started) (H:Type) (enc:TypeId×Value→H) (F:Stop.Interp):
 ReturnsInHanded {} Tryz.checked os 3 .any ((OpenSpec.ofChange Rows.loadReadsSpec).preRow enc Tryz.prog Tryz.f3 Rows.loadReadsRow.domain false Rows.loadReadsRow.laid) (((OpenSpec.ofChange Rows.loadReadsSpec).at F).post enc Tryz.prog Tryz.f3 false true false false):=by
 obtain ⟨places,hx⟩:=reads os enc
 refine returnsInHanded_of_row (C:=Tryz.checked) (s:=OpenSpec.ofChange Rows.loadReadsSpec) own started (by as_aux_lemma=>kernel_rfl) Tryz.func3
  (witness_row_atRef (enc:=enc) (C:=Tryz.checked) false (Dd os) #[(.slice none 0 0)] rfl (adq os _) (adp os _) (by as_aux_lemma=>kernel_rfl)
   (OpenSpec.preRow_of_cond 8 hx (by as_aux_lemma=>kernel_rfl) (fun k hk=>by cases hk) (by as_aux_lemma=>kernel_rfl) (ado os _))) ?_
 intro W base args ds gs before hval hW _ _ hsz hL _ _
 exact Y8 H enc W base args ds gs before hval hW hsz hL
theorem adb : Tryz.prog.funcNamed "bridleway/bridlewaylaw08.LoadReads" = some 3 := by kernel_rfl
set_option maxHeartbeats 4000000 in
theorem closed:joinedFacts Tryz.pinned.checked.prog 3 Tryz.f3 (OpenSpec.ofChange Rows.loadReadsSpec).bare Rows.loadReadsRow=true:=by
 unfold joinedFacts;simp only [Bool.and_eq_true]
 and_intros
 all_goals as_aux_lemma=>kernel_rfl
theorem inst:Tryz.f3.isInstance Tryz.pinned.checked.prog Rows.loadReadsRow.origin Rows.loadReadsRow.targs:=of_decide_eq_true (by kernel_rfl)
theorem wrap:Tryz.f3.isWrapper Tryz.pinned.checked.prog Rows.loadReadsRow.wrapper Rows.loadReadsRow.mainSum:=by unfold Func.isWrapper;first|(rw [if_pos (by decide +kernel)];kernel_rfl)|(rw [if_neg (by decide +kernel)];exact ⟨rfl,rfl⟩)
theorem said:Rows.LoadReadsSaid:=
 OpenClaim.holds_of_cond 3 Tryz.f3 rfl rfl rfl rfl rfl rfl rfl ⟨rfl,rfl,rfl,rfl,rfl⟩ rfl rfl rfl rfl rfl adb Tryz.func3 closed inst wrap
  (fun os started H enc _ F=>by rw [OpenClaim.pre_eq_preRow];exact lifted os started H enc F)
theorem plain (f : FuncId) (fn : Func) (hf : Tryz.pinned.checked.prog.funcNamed "bridleway/bridlewaylaw08.LoadReads" = some f) (hfn : Tryz.pinned.checked.prog.funcs[f]? = some fn) :
 true=Tryz.pinned.checked.prog.looks []∧∀(j:Nat) t,fn.params[j]? =some t→Tryz.pinned.checked.prog.wantsStandIn t=false:=by
 obtain rfl : f = 3 := Option.some.inj ((show Tryz.prog.funcNamed "bridleway/bridlewaylaw08.LoadReads" = some 3 by as_aux_lemma => kernel_rfl).symm.trans hf) |>.symm
 obtain rfl:fn=Tryz.f3:=(Option.some.inj (Tryz.func3.symm.trans hfn)).symm
 refine ⟨by kernel_rfl,fun j t ht=>?_⟩
 rw [Tryz.params3] at ht
 have hm:=Array.mem_of_getElem? ht
 simp only [List.mem_toArray,List.mem_cons,List.not_mem_nil,or_false] at hm
 rcases hm with rfl
 · exact (show Tryz.prog.wantsStandIn 22=false by as_aux_lemma=>kernel_rfl)
theorem proved:Rows.LoadReadsCardSaid:=
 Claim7.holds_tied_plain_at .later [] _ _ _ _ said (fun _ h=>by cases h) (by as_aux_lemma=>kernel_rfl) (fun _ h=>by cases h) loadReads_row_tie rfl ⟨rfl,rfl⟩ (by as_aux_lemma=>kernel_rfl) rfl plain (by as_aux_lemma=>kernel_rfl)
#print axioms proved
end Go.Proofs.YtjmlknjbhbfneaaGreatDoor.loadReads
