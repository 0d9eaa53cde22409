import Derived.Test.YtjdjliiolchciaaGreatDoorZF
namespace Go.Proofs.YtjdjliiolchciaaGreatDoor
open Go.RowKit Go.Bw Go.Bw.Fl
set_option linter.unusedVariables false
set_option linter.unusedSimpArgs false
theorem MF {v:c7} (h:v.k=0):iB v=decide (v.n=0∧v.f=0∧v.s= []):=by unfold iB;rw [if_pos h]
theorem Dj {v:c7} (h:v.k=1):iB v=decide ((v.n=0∨v.n=1)∧v.f=0∧v.s= []):=by unfold iB;rw [if_neg (by omega),if_pos h]
theorem Sj {v:c7} (h:v.k=2):iB v=decide (v.f=0∧v.s= []):=by unfold iB;rw [if_neg (by omega),if_neg (by omega),if_pos h]
theorem FG {v:c7} (h:v.k=3):iB v=decide (v.n=0∧v.s= []∧jk v.f=v.f):=by unfold iB;rw [if_neg (by omega),if_neg (by omega),if_neg (by omega),if_pos h]
theorem Sk {v:c7} (h:v.k=4):iB v=decide (v.n=0∧v.f=0):=by unfold iB;rw [if_neg (by omega),if_neg (by omega),if_neg (by omega),if_neg (by omega),if_pos h]
theorem ug (x y:Nat):((x:Int)==(y:Int))=decide (x=y):=by rw [Bool.eq_iff_iff,beq_iff_eq,decide_eq_true_eq];omega
theorem pY (x:Nat):((x:Int)==0)=decide (x=0):=ug x 0
def nh (q:ao) (a:c7):ao×Int:=
 if iB a=false then ([],1) else if a.k=1 then ((if (a.n==1)=true then [116,114,117,101] else [102,97,108,115,101]),0)
 else if a.k=2 then (Lib.itoa a.n,0) else if a.k=3 then (ec a.f,0) else if a.k=4 then (q,0) else ([110,117,108,108],0)
end Go.Proofs.YtjdjliiolchciaaGreatDoor
