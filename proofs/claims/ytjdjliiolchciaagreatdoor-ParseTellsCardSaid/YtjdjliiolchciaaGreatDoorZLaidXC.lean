import Derived.Test.YtjdjliiolchciaaGreatDoorZLaidX
import Derived.Test.YtjdjliiolchciaaGreatDoorZShelfD
namespace Go.Proofs.YtjdjliiolchciaaGreatDoor
open Go.RowKit Go.Bw Go.Bw.Fl
set_option linter.unusedVariables false
set_option linter.unusedSimpArgs false
theorem LZ {P:Program} {w:World}:∀{l l':List (String×DataW Unit)} {ps:List MemPlace},DataW.LaidVars P w (l++l') ps→∃p q,DataW.LaidVars P w l p∧DataW.LaidVars P w l' q∧ps=p++q
 | [],l',ps,h=>⟨[],ps,rfl,h,rfl⟩
 |(n,d) :: r,l',ps,h=>by
  obtain ⟨g,t,cs,fuel,p,q,h1,h2,h3,h4,h5,h6⟩:=h;obtain ⟨p',q',h7,h8,h9⟩:=LZ h5;refine ⟨MemPlace.row ⟨g,0,none⟩ cs.size++p++p',q',⟨g,t,cs,fuel,p,p',h1,h2,h3,h4,h7,rfl⟩,h8,?_⟩;rw [h6,h9];simp [List.append_assoc]
theorem act {P:Program} {w:World} {l l':List (String×DataW Unit)} {c:String×DataW Unit} (h:laidMet P ((l++l')++ [c]) w):laidMet P (l++c :: l') w:=by
 obtain ⟨ps,h1,h2,h3⟩:=h;obtain ⟨p,q,h4,h5,rfl⟩:=LZ h1;obtain ⟨p1,p2,h6,h7,rfl⟩:=LZ h4;have hp:((p1++p2)++q).Perm (p1++(q++p2)):=by rw [List.append_assoc];exact List.Perm.append_left p1 List.perm_append_comm
 exact ⟨_,LaidVars_append h6 (LaidVars_append h5 h7),hp.nodup_iff.1 h2,fun b off hm=>h3 b off (hp.mem_iff.2 hm)⟩
def IJ:Go.Shelf.Ren:={N0 with g:=fun|13=>11|n=>n}
theorem acy:Go.Proofs.Lays.n274 Tryz.prog IJ:={V6 with}
theorem acs : uQ = uQ.take 8 ++ ("unicode.CaseRanges", Lib.caseData) :: uQ.drop 9 := by rw [← Pinned.caseRanges_eq]; kernel_rfl
theorem acv (os:Os) (args:Array Value):laidMet Tryz.prog uQ ((CV os).forCall (fun _ _=>0) ⟨#[],args,[]⟩).memory:=by
 rw [acs];exact act (laidMet_with_case (ρ:=IJ) acy Tryz.underlying234 ⟨by kernel_rfl,by kernel_rfl,by kernel_rfl,by kernel_rfl,by kernel_rfl,by kernel_rfl⟩ (l:=uQ.take 8++uQ.drop 9) 8 (by kernel_rfl) (by kernel_rfl) (by kernel_rfl) (ye+4) (IJ.t 208) (of_decide_eq_true (by kernel_rfl)) (by kernel_rfl) (by kernel_rfl) (by kernel_rfl))
theorem acx (os:Os) (args:Array Value):((CV os).forCall (fun _ _=>0) ⟨#[],args,[]⟩).variablesRefB Tryz.checked.prog=true:=by kernel_rfl
theorem acw (os:Os) (args:Array Value):(((CV os).forCall (fun _ _=>0) ⟨#[],args,[]⟩).heap.toList.drop Tryz.checked.prog.globals.size).take ((begin Tryz.checked.prog (fun _ _=>0) default).world.heap.size - Tryz.checked.prog.globals.size)=(begin Tryz.checked.prog (fun _ _=>0) default).world.heap.toList.drop Tryz.checked.prog.globals.size:=by kernel_rfl
end Go.Proofs.YtjdjliiolchciaaGreatDoor
