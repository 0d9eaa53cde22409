import Derived.Test.YtjdjliiolchciaaGreatDoorZT
import Derived.Test.YtjdjliiolchciaaGreatDoorRows
import Derived.Test.YtjdjliiolchciaaGreatDoorTie
import Derived.Lib.LaidCaseMet
import Derived.PinnedBridge
import Derived.Deep.DeepHandedRow
import Derived.Deep.DeepWitnessRowRef
import Derived.Lib.LaidTab
import Derived.Stop.LaidErr
namespace Go.Proofs.YtjdjliiolchciaaGreatDoor
open Go.RowKit Go.Bw Go.Bw.Fl
set_option linter.unusedVariables false
set_option linter.unusedSimpArgs false
def uQ:List (String×DataW Unit):=Rows.parseTellsRow.laid
theorem own:ownKnob Tryz.prog.godebug=none:=by kernel_rfl
theorem acu:laidOutB Tryz.prog=true:=by kernel_rfl
theorem SY : "*errors.errorString" = "*" ++ "errors.errorString" := by decide
theorem So (u : TypeId) (h : Tryz.prog.typeName? 3 u = some "*errors.errorString") : u = 198 :=
 typeName_ptr_named (nm := "errors.errorString") (by rw [← SY]; kernel_rfl) (by kernel_rfl) (by decide) u (by rw [← SY]; exact h)
theorem aem {P:Program} {w:World} {t e:TypeId} (ht:P.underlying t=some (.slice e)) (he:P.underlying e=some .string) (hc:P.cellsOf e=1) {cs:List Value} {ls:List (List UInt8)} (hne:ls≠ []) {sp:List (DataW Unit)} (h:gL P w t cs (.slice (ls.map fun l=> .lit (.string l)) sp)):∃A c,cs= [.slice A ls.length c]∧Rd w 1 A ls.length (b9 ls):=by
 cases h with
 |slice ecs hu hl hm hel hlen hcell hs=>
  rename_i e' a len cap;rw [ht] at hu;cases hu;have hel':ls.length=len:=by simpa using hel
  subst hel';refine ⟨_,_,rfl,by simp [b9],fun _=>⟨a,rfl,fun j u hu=>?_⟩⟩
  have hj:j<ls.length:=by
   have:=(List.getElem?_eq_some_iff.1 hu).1
   simpa [b9] using this
  have h1:=hs j (.lit (.string ls[j])) (by simp [List.getElem?_eq_getElem hj])
  have h2:ecs j= [str ls[j]]:=by
   generalize ecs j=q at h1
   cases h1 with
   |str _ _=>rfl
  have h3:=hcell j hj 0 (str ls[j]) (by rw [h2];rfl);rw [hc,Nat.mul_one,jR,Nat.add_zero] at h3;have h4:u=str ls[j]:=by simpa [b9,List.getElem?_eq_getElem hj] using hu.symm
  rw [h4];exact h3
theorem QR {P:Program} {n:String} {ls:List (List UInt8)} {r:List (String×DataW Unit)} {W:World} {g:Nat} {ti e:TypeId} (h:laidMet P ((n,.slice (ls.map fun l=> .lit (.string l)) []) :: r) W)
 (hg:P.globalNamed n=some g) (ht:(P.globals[g]?).map (·.type)=some ti) (hs:P.underlying ti=some (.slice e)) (he:P.underlying e=some .string) (hc:P.cellsOf e=1) (hp:([ti,e].all (FE P [ti,e]))=true) (hne:ls≠ []):
 ∃A c,yH W g (.slice A ls.length c)∧Rd W 1 A ls.length (b9 ls):=by
 obtain ⟨ps,⟨g0,t0,cs0,f0,p0,q0,hg0,ht0,hv0,hd0,_,e0⟩,_,_⟩:=h
 obtain rfl:=Option.some.inj (hg.symm.trans hg0)
 obtain rfl:=Option.some.inj (ht.symm.trans ht0)
 obtain ⟨l0⟩:=cs0
 have h1:=FK [ti,e] hp f0 ti l0 _ (by simp) hd0
 obtain ⟨A,c,rfl,hR⟩:=aem hs he hc hne h1
 exact ⟨A,c,by have h:=World.var?_cell hg0 hv0 0;show W.cell? ⟨g,0,none⟩=_;simpa using h,hR⟩
theorem acz {W:World} (h:laidMet Tryz.prog uQ W):Lb W:=by
 refine ⟨?_,?_,?_⟩
 · exact Lib.tabIs_of_head (show Tryz.prog.globalNamed "internal/strconv.uint64pow10" = some 6 by kernel_rfl) (by kernel_rfl) Tryz.underlying188 Tryz.underlying111 (by kernel_rfl) (by kernel_rfl) (laidMet.tail (laidMet.tail h))
 · obtain ⟨a, s, hv, _⟩ := laid_sentinel (laidMet.tail (laidMet.tail (laidMet.tail (laidMet.tail (laidMet.tail h))))) (show Tryz.prog.globalNamed "strconv.ErrSyntax" = some 4 by kernel_rfl) (by kernel_rfl) Tryz.underlying102 So Tryz.underlying198 Tryz.underlying200 rfl rfl Tryz.underlying9 (by kernel_rfl) (by kernel_rfl)
   exact ⟨_,_,hv⟩
 · obtain ⟨a, s, hv, _⟩ := laid_sentinel (laidMet.tail (laidMet.tail (laidMet.tail (laidMet.tail h)))) (show Tryz.prog.globalNamed "strconv.ErrRange" = some 5 by kernel_rfl) (by kernel_rfl) Tryz.underlying102 So Tryz.underlying198 Tryz.underlying200 rfl rfl Tryz.underlying9 (by kernel_rfl) (by kernel_rfl)
   exact ⟨_,_,hv⟩
theorem acA {W:World} (h:laidMet Tryz.prog uQ W):Lx W where
 lb:=acz h
 keys := QR (ls := jy) (laidMet.tail (laidMet.tail (laidMet.tail (laidMet.tail (laidMet.tail (laidMet.tail h)))))) (show Tryz.prog.globalNamed "bridleway/lex.keys" = some 0 by kernel_rfl) (by kernel_rfl) Tryz.underlying67 Tryz.underlying9 (by kernel_rfl) (by kernel_rfl) (by decide)
 signs := QR (ls := mR) (laidMet.tail (laidMet.tail (laidMet.tail (laidMet.tail (laidMet.tail (laidMet.tail (laidMet.tail h))))))) (show Tryz.prog.globalNamed "bridleway/lex.signs" = some 1 by kernel_rfl) (by kernel_rfl) Tryz.underlying67 Tryz.underlying9 (by kernel_rfl) (by kernel_rfl) (by decide)
noncomputable def ye:Nat:=(World.holding Tryz.prog default ⟨#[],#[],[]⟩).heap.size
def CT (k:IntKind) (l:List Int):Array Value:=(l.map (Value.int k)).toArray
def put (cs:Array Value):Obj→Obj
 | .cells _ t frozen=> .cells cs t frozen
 |o=>o
noncomputable def CV (os:Os):World:=
 let w0:=World.holding Tryz.prog os ⟨#[.cells #[.string ⟨#[118,97,108,117,101,32,111,117,116,32,111,102,32,114,97,110,103,101]⟩] 200,.cells #[.string ⟨#[105,110,118,97,108,105,100,32,115,121,110,116,97,120]⟩] 200,.cells #[.string ⟨#[87,65,76,75]⟩,.string ⟨#[84,82,65,73,76]⟩,.string ⟨#[65,67,89,67,76,73,67]⟩,.string ⟨#[83,73,77,80,76,69]⟩,.string ⟨#[65,76,76]⟩,.string ⟨#[65,78,89]⟩,.string ⟨#[83,72,79,82,84,69,83,84]⟩,.string ⟨#[87,72,69,82,69]⟩,.string ⟨#[79,82]⟩,.string ⟨#[65,78,68]⟩,.string ⟨#[78,79,84]⟩,.string ⟨#[73,83]⟩,.string ⟨#[110,117,108,108]⟩,.string ⟨#[116,114,117,101]⟩,.string ⟨#[102,97,108,115,101]⟩,.string ⟨#[105,110,102]⟩,.string ⟨#[110,97,110]⟩] 9,.cells #[.string ⟨#[60,45,91]⟩,.string ⟨#[60,126,91]⟩,.string ⟨#[93,45,62]⟩,.string ⟨#[93,126,62]⟩,.string ⟨#[60,45,62]⟩,.string ⟨#[45,91]⟩,.string ⟨#[126,91]⟩,.string ⟨#[93,45]⟩,.string ⟨#[93,126]⟩,.string ⟨#[45,62]⟩,.string ⟨#[60,45]⟩,.string ⟨#[60,126]⟩,.string ⟨#[126,62]⟩,.string ⟨#[60,61]⟩,.string ⟨#[62,61]⟩,.string ⟨#[60,62]⟩,.string ⟨#[40]⟩,.string ⟨#[41]⟩,.string ⟨#[91]⟩,.string ⟨#[93]⟩,.string ⟨#[123]⟩,.string ⟨#[125]⟩,.string ⟨#[44]⟩,.string ⟨#[58]⟩,.string ⟨#[124]⟩,.string ⟨#[38]⟩,.string ⟨#[33]⟩,.string ⟨#[37]⟩,.string ⟨#[42]⟩,.string ⟨#[43]⟩,.string ⟨#[63]⟩,.string ⟨#[61]⟩,.string ⟨#[60]⟩,.string ⟨#[62]⟩,.string ⟨#[45]⟩,.string ⟨#[126]⟩] 9,.cells Lib.caseCells5 236],#[],[]⟩
 {w0 with heap:=((((((((((w0.heap.modify 9 (put (CT .u8 [0,1,28,2,29,14,24,3,30,22,20,15,25,17,4,8,31,27,13,23,21,19,16,7,26,12,18,6,11,5,10,9]))).modify 10 (put (CT .u8 [0,1,56,2,57,49,28,3,61,58,42,50,38,29,17,4,62,47,59,36,45,43,51,22,53,39,33,30,24,18,12,5,63,55,48,27,60,41,37,16,46,35,44,21,52,32,23,11,54,26,40,15,34,20,31,10,25,14,19,9,13,8,7,6]))).modify 6 (put (CT .u64 [1,10,100,1000,10000,100000,1000000,10000000,100000000,1000000000,10000000000,100000000000,1000000000000,10000000000000,100000000000000,1000000000000000,10000000000000000,100000000000000000,1000000000000000000,10000000000000000000]))).modify 8 (put (CT .u8 [128,191,160,191,128,159,144,191,128,143,0,0,0,0,0,0,0,0,0,0,0,0,0,0,0,0,0,0,0,0,0,0]))).modify 5 (put #[.iface 198 (.pointer (some ⟨ye+0,0,none⟩))])).modify 4 (put #[.iface 198 (.pointer (some ⟨ye+1,0,none⟩))])).modify 0 (put #[.slice (some ⟨ye+2,0,none⟩) 17 17])).modify 1 (put #[.slice (some ⟨ye+3,0,none⟩) 36 36])).modify 11 (put #[.slice (some ⟨ye+4,0,none⟩) 336 336])).modify 7 (put (CT .u8 [240,240,240,240,240,240,240,240,240,240,240,240,240,240,240,240,240,240,240,240,240,240,240,240,240,240,240,240,240,240,240,240,240,240,240,240,240,240,240,240,240,240,240,240,240,240,240,240,240,240,240,240,240,240,240,240,240,240,240,240,240,240,240,240,240,240,240,240,240,240,240,240,240,240,240,240,240,240,240,240,240,240,240,240,240,240,240,240,240,240,240,240,240,240,240,240,240,240,240,240,240,240,240,240,240,240,240,240,240,240,240,240,240,240,240,240,240,240,240,240,240,240,240,240,240,240,240,240,241,241,241,241,241,241,241,241,241,241,241,241,241,241,241,241,241,241,241,241,241,241,241,241,241,241,241,241,241,241,241,241,241,241,241,241,241,241,241,241,241,241,241,241,241,241,241,241,241,241,241,241,241,241,241,241,241,241,241,241,241,241,241,241,241,241,2,2,2,2,2,2,2,2,2,2,2,2,2,2,2,2,2,2,2,2,2,2,2,2,2,2,2,2,2,2,19,3,3,3,3,3,3,3,3,3,3,3,3,35,3,3,52,4,4,4,68,241,241,241,241,241,241,241,241,241,241,241])))}
end Go.Proofs.YtjdjliiolchciaaGreatDoor
