import Derived.Test.YtjdjliiolchciaaGreatDoorZT
namespace Go.Proofs.YtjdjliiolchciaaGreatDoor
open Go.RowKit Go.Bw Go.Bw.Fl
set_option linter.unusedVariables false
set_option linter.unusedSimpArgs false
theorem adR {pf':ao→Option Nat} {s:ao} (q:Nat) (hq:Lib.hasPrefix s [39]=false) (h:dI pf' de s=none):dI pf' de (s.take q)=none:=by
 have hmono:∀y,Lib.hasPrefix (s.take q) y=true→Lib.hasPrefix s y=true:=fun y hy=>by rw [Dg,Bool.and_eq_true] at hy;exact hy.1
 unfold dI at h ⊢;rw [hq,if_neg (show ¬(false=true) by decide)] at h;rw [tP q hq,if_neg (show ¬(false=true) by decide)];by_cases h1:Lib.hasPrefix s gi=true
 · rw [if_pos h1] at h;cases h
 · rw [if_neg h1] at h
   rw [tP q (by simpa using h1),if_neg (show ¬(false=true) by decide)];by_cases h2:Lib.hasPrefix s gU=true
   · rw [if_pos h2] at h;cases h
   · rw [if_neg h2] at h
     rw [tP q (by simpa using h2),if_neg (show ¬(false=true) by decide)];by_cases h3:Lib.hasPrefix s gV=true
     · rw [if_pos h3] at h;cases h
     · rw [if_neg h3] at h
       rw [tP q (by simpa using h3),if_neg (show ¬(false=true) by decide)]
       cases hf:gW.find? (fun x=>Lib.hasPrefix s x) with
       |some x=>rw [hf] at h;cases h
       |none=>
        rw [hf] at h;rw [Py hmono hf]
        cases hg:il pf' s with
        |some r=>rw [hg] at h;cases h
        |none=>
         rw [hg] at h;rw [PA q hg];simp only at h ⊢;rw [AT,EE] at h ⊢;intro i hi;rw [CY] at hi;have:=h i (by omega);unfold rE at this ⊢;rw [List.take_take,Nat.min_eq_left (by omega)];exact this
theorem FF {s:ao} {v:c7} {n:Nat} (h:dI pf de s=some (v,n)):rdN s=n:=by unfold rdN;rw [h];rfl
theorem R5 {s:ao} (h:0<rdN s):∃v,dI pf de s=some (v,rdN s):=by
 cases hr:dI pf de s with
 |none=>unfold rdN at h;rw [hr] at h;simp at h
 |some r=>exact ⟨r.1,by rw [FF (v:=r.1) (n:=r.2) hr]⟩
theorem adN {s:ao} (h:rdN s=0):dI pf de s=none:=by
 cases hr:dI pf de s with
 |none=>rfl
 |some r=>
  have h1:=Di (v:=r.1) (n:=r.2) hr;have h2:=FF (v:=r.1) (n:=r.2) hr;omega
theorem R6 {s:ao} {q:Nat} (hq:Lib.hasPrefix s [39]=false) (h:rdN s≤q):rdN (s.take q)=rdN s:=by
 rcases Nat.eq_zero_or_pos (rdN s) with h0|h0
 · have:=adR q hq (adN h0)
   rw [h0];unfold rdN;rw [this];rfl
 · obtain ⟨v,hv⟩:=R5 h0
   exact FF (R9 hv h)
theorem QV (c:UInt8) (s:ao):dj (c :: s)=if dx c=true then dj s+1 else 0:=by
 unfold dj;rw [List.takeWhile_cons];split<;>simp
theorem QY:∀(s:ao) (q:Nat),dj (s.take q)=min (dj s) q
 | [],q=>by rw [List.take_nil];show 0=min 0 q;omega
 |x :: r,0=>by rw [List.take_zero];show 0=_;omega
 |x :: r,q+1=>by
  rw [List.take_succ_cons,QV,QV,QY r q]
  split<;>omega
theorem RX {s:ao} (h:(s.getD 0 0).toNat≠39):Lib.hasPrefix s [39]=false:=by
 cases hp:Lib.hasPrefix s [39] with
 |false=>rfl
 |true=>obtain ⟨r,rfl⟩:=(yh _ _).1 hp;exact absurd rfl h
theorem ady (s:ao):Lib.hasPrefix (45 :: s) [39]=false:=RX (s:=45 :: s) (by show (45:UInt8).toNat≠39;decide)
theorem getD_take {s:ao} {q:Nat} (h:0<q):(s.take q).getD 0 0=s.getD 0 0:=by
 cases s with
 |nil=>simp
 |cons c r=>cases q with
  |zero=>omega
  |succ q=>rfl
theorem ae6 {s:ao} {k n q:Nat} (h:dP s=(k,n)) (hk:k≠0) (hn:0<n) (hq:n≤q):dP (s.take q)=(k,n):=by
 have hg:=getD_take (s:=s) (q:=q) (by omega);unfold dP at h
 split at h
 · rename_i hc
   split at h
   · rename_i h4
     cases h
     obtain ⟨v,hv⟩:=R5 h4.2;have e:=FF (R9 hv hq);rw [←e];exact MZ (by rw [hg];exact h4.1) (by rw [e];exact h4.2)
   · rename_i h4
     split at h
     · rename_i h3
       cases h
       have e1:=R6 (s:=s) (q:=q) (RX h3.2) (by omega);have e2:=R6 (s:=45 :: s) (q:=q+1) (ady s) (by omega);rw [List.take_succ_cons] at e2;have h5:=MY (s:=s.take q) (by rw [hg];exact hc) (by rw [hg,e1];exact h4) (by rw [hg,e1,e2];exact h3);rw [e1,e2] at h5;exact h5
     · cases h;exact absurd rfl hk
 · rename_i hc
   have hl:=QY s q;have hc':¬(((s.take q).getD 0 0).toNat=39∨(48≤((s.take q).getD 0 0).toNat∧((s.take q).getD 0 0).toNat≤57)):=by rw [hg];exact hc
   split at h
   · rename_i h0
     split at h
     · rename_i h2
       cases h
       have e:dj (s.take q)=dj s:=by omega
       have e2:(s.take q).take (dj (s.take q))=s.take (dj s):=by rw [e,List.take_take,Nat.min_eq_left hq]
       rw [←e];exact MX hc' (by omega) (by rw [e2];exact h2)
     · rename_i h2
       split at h
       · rename_i h1
         cases h
         have e:dj (s.take q)=dj s:=by omega
         have e2:(s.take q).take (dj (s.take q))=s.take (dj s):=by rw [e,List.take_take,Nat.min_eq_left hq]
         rw [←e];exact M1 hc' (by omega) (by rw [e2];exact h2) (by rw [e2];exact h1)
       · cases h;exact absurd rfl hk
   · rename_i h0
     split at h
     · rename_i x hx
       cases h
       have hp:=(I3 hx).1;exact M0 hc' (by omega) (I4 (fun y hy=>by rw [Dg,Bool.and_eq_true] at hy;exact hy.1) (zF hp hq) hx)
     · cases h;exact absurd rfl hk
end Go.Proofs.YtjdjliiolchciaaGreatDoor
