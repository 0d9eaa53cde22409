import Derived.Test.YtjdjliiolchciaaGreatDoorZR3
namespace Go.Proofs.YtjdjliiolchciaaGreatDoor
open Go.RowKit Go.Bw Go.Bw.Fl
set_option linter.unusedVariables false
set_option linter.unusedSimpArgs false
theorem afJ:bB Tryz.prog 4:=⟨_,Tryz.func4,by kernel_rfl,rfl⟩
theorem afT:bB Tryz.prog 6:=⟨_,Tryz.func6,by kernel_rfl,rfl⟩
theorem afX:bB Tryz.prog 7:=⟨_,Tryz.func7,by kernel_rfl,rfl⟩
theorem Vo {s:ao} {q:sM} {a e:Int} (h:kr s=(q,a,e)) (hs:s.length≤70368744177664) (w:World):bx Tryz.prog 6 [str s] w fun v w'=>(∃(z:PC) (S:Nat→Prop),v= .tuple #[.agg (ic q.mode q.sel q.kk z).toArray,.int .i64 a,.int .i64 e]∧bi w' S q.pat z.cells∧∀k,S k→w.heap.size≤k∧k<w'.heap.size)∧Below w.heap.size w w':=
 (Vn s hs w).mono fun v w' ⟨⟨q',a',e',z,S,h1,h2,h3,h4⟩,h5⟩=>⟨by
  rw [h] at h1;cases h1
  exact ⟨z,S,h2,h3,h4⟩,h5⟩
theorem Vf (s:ao) (w:World) (hX:Lx w) (hs:s.length≤140737488355328):bx Tryz.prog 3 [str s] w fun v w'=>v= .bool true∧Below w.heap.size w w':=by
 obtain ⟨x,hx⟩:∃x,x=s.take 3000:=⟨_,rfl⟩;have hxl:x.length≤3000:=by rw [hx];exact List.length_take_le _ _
 obtain ⟨q,a,e,hq⟩:∃q a e,kr x=(q,a,e):=⟨_,_,_,rfl⟩;have hokp:=adr x;rw [hq] at hokp;have hb:=Below.refl w.heap.size w;have eo:=hX;refine enter Tryz.func3 rfl rfl rfl<|am fun aR=>an rfl<|al aR<|am fun bt=>aD afJ rfl rfl (adE _ hX) rfl ?_
 rintro _ cB ⟨rfl,aw⟩;have:=aw.size;have hb:=aZ hb aw;have hX:=eo.below hb;refine an rfl<|al bt<|am fun fi=>ai rfl<|ai rfl<|ae (ez bI (by omega) rfl) rfl<|ae (bW (Ah rfl rfl) (aH (show min (s.length:Int) 3000=((min s.length 3000:Nat):Int) by omega))) rfl<|ae (bW (pQ bI rfl rfl (by omega) (by omega)) (d5 (show _=x by rw [hx,Int.toNat_natCast];exact List.take_eq_take_iff.2 (by omega)))) rfl<|an rfl<|al fi<|am fun eh=>ai rfl<|aD Nd rfl rfl (Gc hq (by omega) _ hX) rfl ?_
 rintro _ cU ⟨⟨z,Sz,rfl,hz,aT⟩,aL⟩;have:=aL.size;have hb:=aZ hb aL;have hX:=eo.below hb;refine ai rfl<|ae (cu rfl rfl) rfl<|ae (cu rfl rfl) rfl<|ae (cu rfl rfl) rfl<|bT (z:=sr) (by kernel_rfl) rfl ?_
 rintro ahK aio ahU sb Lz;have:=Lz.size;have hb:=aZ hb Lz;have hX:=eo.below hb;have hz:=bi.below hz Lz;have:=sb.lt;refine ba (by kernel_rfl) rfl rfl sb rfl rfl ?_;rintro du sb aF;have:=aF.size;have hb:=cf hb aF hb.size (by omega);have hX:=eo.below hb;have hz:=bi.kp hz aF (fun h_=>by have bh:=aT _ h_;first|omega|(rcases bh with dK|dK;(have kg:=hS _ dK;omega);omega));refine an rfl<|an rfl<|al eh<|am fun gr=>ai rfl<|aD afT rfl rfl (Vo hq (by omega) _) rfl ?_
 rintro _ eP ⟨⟨z2,S2,rfl,hz2,x8⟩,a6⟩;have:=a6.size;have hb:=aZ hb a6;have hX:=eo.below hb;have hz:=bi.below hz a6;have sb:=ak.below sb a6;refine ai rfl<|ae (cu rfl rfl) rfl<|ae (cu rfl rfl) rfl<|ae (cu rfl rfl) rfl<|bT (z:=sr) (by kernel_rfl) rfl ?_
 rintro ahL agK xS E1 CM;have:=CM.size;have hb:=aZ hb CM;have hX:=eo.below hb;have hz:=bi.below hz CM;have sb:=ak.below sb CM;have hz2:=bi.below hz2 CM;have:=E1.lt;refine ba (by kernel_rfl) rfl rfl E1 rfl rfl ?_;rintro ff E1 bc;have:=bc.size;have hb:=cf hb bc hb.size (by omega);have hX:=eo.below hb;have hz:=bi.kp hz bc (fun h_=>by have bh:=aT _ h_;first|omega|(rcases bh with dK|dK;(have kg:=hS _ dK;omega);omega));have sb:=sb.over bc (by omega);have hz2:=bi.kp hz2 bc (fun h_=>by have bh:=x8 _ h_;first|omega|(rcases bh with dK|dK;(have kg:=hS _ dK;omega);omega));refine an rfl<|an rfl<|al gr<|am fun kG=>ai rfl<|ai rfl<|cG rfl rfl rfl (fun qU=>?_) (fun qU=>?_)
 ·
  refine ai rfl<|ap rfl rfl qU<|ai rfl<|ap rfl rfl qU<|ae (bX rfl rfl) rfl<|ae (bo rfl qU rfl) rfl<|ai rfl<|cG rfl rfl rfl (fun fX=>?_) (fun fX=>?_)
  ·
   refine ai rfl<|ap rfl rfl fX<|ai rfl<|ap rfl rfl fX<|ae (bX rfl rfl) rfl<|ae (bo rfl fX rfl) rfl<|ai rfl<|cG rfl rfl rfl (fun kd=>?_) (fun kd=>?_)
   ·
    refine aG (cr e8 (by kernel_rfl) rfl (by exact fun j u hu=>sb.at hu)) rfl<|ap rfl rfl kd<|aG (cr e8 (by kernel_rfl) rfl (by exact fun j u hu=>E1.at hu)) rfl<|ap rfl rfl kd<|aD afX rfl rfl (VJ q.mode q.sel q.kk q.pat z z2 Sz S2 _ hokp hz hz2) rfl ?_
    rintro _ fj ⟨rfl,bk⟩;have:=bk.size;have hb:=aZ hb bk;have hX:=eo.below hb;have hz:=bi.below hz bk;have hz2:=bi.below hz2 bk;refine ae (bo rfl kd rfl) rfl<|an rfl<|al kG<|aJ<|bN rfl rfl ?_
    exact ⟨_,rfl,rfl,hb⟩
   exact absurd kd (by simp)
  exact absurd fX (by simp)
 have o9:=qU;exact absurd o9 (by simp)
end Go.Proofs.YtjdjliiolchciaaGreatDoor
