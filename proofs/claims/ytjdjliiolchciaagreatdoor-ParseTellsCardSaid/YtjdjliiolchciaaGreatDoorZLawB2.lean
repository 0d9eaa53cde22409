import Derived.Test.YtjdjliiolchciaaGreatDoorZX
namespace Go.Proofs.YtjdjliiolchciaaGreatDoor
open Go.RowKit Go.Bw Go.Bw.Fl
set_option linter.unusedVariables false
set_option linter.unusedSimpArgs false
structure Good (t:Tok):Prop where
 k0:1≤t.k
 k5:t.k≤5
 ne:t.t≠ []
 tok:dP t.t=(t.k,t.t.length)
 bl:blank (t.t.getD 0 0)=false
def Ch (s:ao):Nat→List Tok→Prop
 |_,[]=>True
 |e,t :: r=>e≤t.a∧t.a+t.t.length≤s.length∧(s.drop t.a).take t.t.length=t.t∧Good t∧Ch s (t.a+t.t.length) r
theorem Ch.mono {s:ao} {e e':Nat} (h:e'≤e):∀{l:List Tok},Ch s e l→Ch s e' l
 | [],_=>trivial
 |t :: r,hc=>⟨Nat.le_trans h hc.1,hc.2⟩
theorem L6 (s:ao):∀(f i:Nat) (l:List Tok),s.length - i≤f→i≤s.length→eJ (s.drop i) i= .ok l→Ch s i l
 |f,i,l,hf,hi,h=>by
  rcases Nat.lt_or_ge i s.length with hlt|hge
  · cases f with
    |zero=>omega
    |succ f=>
     have hd:=drop_at hlt
     generalize hcq:s.getD i 0=c at hd
     rw [hd] at h
     cases hb:blank c with
     |true=>
      rw [L5 i hb] at h;exact (L6 s f (i+1) l (by omega) (by omega) h).mono (by omega)
     |false=>
      have hl:=Ds (c :: s.drop (i+1)) (by simp);by_cases h0:(dP (c :: s.drop (i+1))).1=0
      · rw [L4 i hb h0] at h;cases h
      · obtain ⟨tk,tn,ht⟩:∃tk tn,dP (c :: s.drop (i+1))=(tk,tn):=⟨_,_,rfl⟩
        rw [ht] at hl h0;rw [L8 i hb (by rw [ht];exact h0),ht] at h;simp only [List.length_cons,List.length_drop] at hl h0 h;rw [←hd,List.drop_drop] at h;rw [←hd] at ht
        cases hr:eJ (s.drop (i+tn)) (i+tn) with
        |error e=>rw [hr] at h;cases h
        |ok l'=>
         rw [hr] at h;have e:l=⟨tk,(s.drop i).take tn,i⟩ :: l':=by cases h;rfl
         subst e;have htl:((s.drop i).take tn).length=tn:=by rw [List.length_take,List.length_drop];omega
         have htt:=ae6 (q:=tn) ht h0 (by omega) (Nat.le_refl _);have hne:(s.drop i).take tn≠ []:=fun e=>by rw [e] at htl;simp at htl;omega
         refine ⟨Nat.le_refl _,?_,?_,⟨?_,hl.2.2,hne,?_,?_⟩,?_⟩
         · show i+((s.drop i).take tn).length≤s.length;omega
         · show (s.drop i).take ((s.drop i).take tn).length=(s.drop i).take tn;rw [htl]
         · show 1≤tk;omega
         · show dP ((s.drop i).take tn)=(tk,((s.drop i).take tn).length);rw [htl];exact htt
         · show blank (((s.drop i).take tn).getD 0 0)=false
           rw [getD_take (by omega),hd];exact hb
         · show Ch s (i+((s.drop i).take tn).length) l'
           rw [htl];exact L6 s f (i+tn) l' (by omega) (by omega) hr
  · rw [List.drop_eq_nil_of_le hge,L7] at h
    cases h;trivial
theorem Ch.good {s:ao}:∀{l:List Tok} {e:Nat},Ch s e l→∀t,t∈l→Good t
 | [],_,_,t,h=>by cases h
 |u :: r,e,hc,t,h=>by
  rcases List.mem_cons.1 h with rfl|h
  · exact hc.2.2.2.1
  · exact Ch.good hc.2.2.2.2 t h
end Go.Proofs.YtjdjliiolchciaaGreatDoor
