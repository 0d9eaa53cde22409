import Derived.Test.YtjmlknjbhbfneaaGreatDoorZW
import Derived.Test.YtjmlknjbhbfneaaGreatDoorZGB
namespace Go.Proofs.YtjmlknjbhbfneaaGreatDoor
open Go.RowKit Go.Bw Go.Bw.Fl
set_option linter.unusedVariables false
set_option linter.unusedSimpArgs false
def yk (l:List (al)) (x:al) (k:Int):Prop:=(∃i:Nat,k=(i:Int)∧i<l.length∧l.getD i []=x∧∀j,j<i→l.getD j []≠x)∨(k= -1∧∀j,j<l.length→l.getD j []≠x)
theorem GP (S:Nat→Prop) (A:Option Addr) (c:Nat) (B:Option Addr) (e:Nat) (g:GV) (x:al) (w:World) (hG:oE S w A c B e g) (hsz:dO g≤1099511627776):
 be Tryz.prog 47 [.agg #[.slice A g.ns.length c,.slice B g.es.length e],str x] w fun v w'=>(∃k,v= .int .i64 k∧yk (cK g) x k)∧Below w.heap.size w w':=by
 have hnl:=ya g
 have hll:(cK g).length=g.ns.length:=by simp [cK]
 have hb:=Below.refl w.heap.size w
 have bk:=hG
 refine enter Tryz.func47 rfl rfl rfl<|ao fun aZ=>jL rfl rfl ?_
 rintro aX js iB aj cF
 have:=cF.size
 have hb:=az hb cF
 have hG:=bk.below hb
 have:=aj.lt
 refine am rfl<|an aZ<|ax fun _ bX=>ao fun cT=>am rfl<|an cT<|br<|cU (X:=Nat) (fun i=> [(1,str x),(2,.pointer (some ⟨aX,0,none⟩)),(5,.int .i64 (i:Int))]) (fun i wr=>i≤g.ns.length∧(∀j,j<i→(cK g).getD j []≠x)∧Below w.heap.size w wr∧aq wr aX 27 [.slice A g.ns.length c,.slice B g.es.length e]) (fun i=>g.ns.length - i) (0) ?_ ?_ ?_
 · exact by repeat first|exact aB|refine au rfl (by first|rfl|exact int_eq (by omega)) ?_
 · exact ⟨by omega,fun _ h=>by omega,hb,aj⟩
 rintro i wr qh _ CD
 replace qh:i≤g.ns.length∧(∀j,j<i→(cK g).getD j []≠x)∧Below w.heap.size w wr∧aq wr aX 27 [.slice A g.ns.length c,.slice B g.es.length e]:=qh
 obtain ⟨hi,hall,hb,aj⟩:=qh
 show Wc _ _ _ _ _ [(1,str x),(2,.pointer (some ⟨aX,0,none⟩)),(5,.int .i64 (i:Int))] _
 have hG:=bk.below hb
 have:=hb.size
 have:=aj.lt
 refine ax fun _ ek=>ao fun eZ=>ai rfl<|ah (aJ (gw _) rfl) rfl<|aW (aI fG rfl (by exact aj.at (j:=0) rfl)) rfl<|ah (cG dJ (by omega) rfl) rfl<|ah (cg rfl rfl) rfl<|an eZ<|aH rfl (fun jN=>?_) (fun jN=>?_)
 ·
  have uS:=jN;simp only [DZ] at jN;have hil:i<g.ns.length:=by have:=jN;omega
  obtain ⟨p_,rZ,hpe,hcl,hcell,hQ⟩:=hG.rn i hil;obtain ⟨A1,c1,B1,e1,rfl,hN⟩:=hQ;subst hpe;refine aU<|aw ek<|ax fun _ iA=>br<|ao fun dL=>ah (aJ (gw _) rfl) rfl<|aW (aI fG rfl (by exact aj.at (j:=0) rfl)) rfl<|ai rfl<|ah (cx dJ pd rfl rfl (by omega) (by omega)) rfl<|ah (aJ (r6 _) rfl) rfl<|aW (aI bQ rfl (by exact by rw [Int.toNat_natCast];exact hcell 0 _ rfl)) rfl<|ai rfl<|ah (fu rfl rfl) rfl<|an dL<|aH rfl (fun lO=>?_) (fun lO=>?_)
  ·
   have HD:=lO;simp only [DZ] at lO;refine ao fun eG=>ai rfl<|am rfl<|an eG<|aK<|bE (aQ (aQ (bE (aQ ?_))))
   refine bj rfl rfl ?_;exact ⟨_,rfl,⟨_,rfl,.inl ⟨i,rfl,by omega,by rw [L3 hil];exact lO,hall⟩⟩,hb⟩
  have HD:=lO;simp only [DZ] at lO;refine aU<|bS<|aw iA<|aR<|ai rfl<|ah (bH rfl rfl (by omega) (by omega)) rfl<|am rfl<|ay<|fun a_ bn=>CD _ _ (i+1) (by omega) (by repeat first|exact aB|refine au rfl (by first|rfl|exact int_eq (by omega)) ?_) ?_ a_ bn
  exact ⟨by omega,fun j hj=>(by by_cases e:j=i;(· rw [e,L3 hil];exact lO);(· exact hall j (by omega))),hb,aj⟩
 have uS:=jN
 simp only [DZ] at jN
 refine cN<|bD<|bD<|cO<|aw bX<|ao fun kV=>am rfl<|an kV<|aK<|bj rfl rfl ?_
 exact ⟨_,rfl,⟨_,rfl,.inr ⟨rfl,fun j hj=>hall j (by have:=jN;omega)⟩⟩,hb⟩
theorem Vx (S:Nat→Prop) (A:Option Addr) (c:Nat) (B:Option Addr) (e:Nat) (g:GV) (x:al) (w:World) (hG:oE S w A c B e g) (hsz:dO g≤1099511627776):
 be Tryz.prog 49 [.agg #[.slice A g.ns.length c,.slice B g.es.length e],str x] w fun v w'=>(∃k,v= .int .i64 k∧yk (dy g) x k)∧Below w.heap.size w w':=by
 have hnl:=x9 g
 have hll:(dy g).length=g.es.length:=by simp [dy]
 have hb:=Below.refl w.heap.size w
 have bk:=hG
 refine enter Tryz.func49 rfl rfl rfl<|ao fun aZ=>jL rfl rfl ?_
 rintro aX js iB aj cF
 have:=cF.size
 have hb:=az hb cF
 have hG:=bk.below hb
 have:=aj.lt
 refine am rfl<|an aZ<|ax fun _ bX=>ao fun cT=>am rfl<|an cT<|br<|cU (X:=Nat) (fun i=> [(1,str x),(2,.pointer (some ⟨aX,0,none⟩)),(5,.int .i64 (i:Int))]) (fun i wr=>i≤g.es.length∧(∀j,j<i→(dy g).getD j []≠x)∧Below w.heap.size w wr∧aq wr aX 27 [.slice A g.ns.length c,.slice B g.es.length e]) (fun i=>g.es.length - i) (0) ?_ ?_ ?_
 · exact by repeat first|exact aB|refine au rfl (by first|rfl|exact int_eq (by omega)) ?_
 · exact ⟨by omega,fun _ h=>by omega,hb,aj⟩
 rintro i wr qh _ CD
 replace qh:i≤g.es.length∧(∀j,j<i→(dy g).getD j []≠x)∧Below w.heap.size w wr∧aq wr aX 27 [.slice A g.ns.length c,.slice B g.es.length e]:=qh
 obtain ⟨hi,hall,hb,aj⟩:=qh
 show Wc _ _ _ _ _ [(1,str x),(2,.pointer (some ⟨aX,0,none⟩)),(5,.int .i64 (i:Int))] _
 have hG:=bk.below hb
 have:=hb.size
 have:=aj.lt
 refine ax fun _ ek=>ao fun eZ=>ai rfl<|ah (aJ (jy _) rfl) rfl<|aW (aI gL rfl (by exact aj.at (j:=1) rfl)) rfl<|ah (cG d4 (by omega) rfl) rfl<|ah (cg rfl rfl) rfl<|an eZ<|aH rfl (fun jN=>?_) (fun jN=>?_)
 ·
  have uS:=jN;simp only [DZ] at jN;have hil:i<g.es.length:=by have:=jN;omega
  obtain ⟨p_,rZ,hpe,hcl,hcell,hQ⟩:=hG.re i hil;obtain ⟨A1,c1,B1,e1,rfl,hN⟩:=hQ;subst hpe;refine aU<|aw ek<|ax fun _ iA=>br<|ao fun dL=>ah (aJ (jy _) rfl) rfl<|aW (aI gL rfl (by exact aj.at (j:=1) rfl)) rfl<|ai rfl<|ah (cx d4 x7 rfl rfl (by omega) (by omega)) rfl<|ah (aJ (wj _) rfl) rfl<|aW (aI bQ rfl (by exact by rw [Int.toNat_natCast];exact hcell 0 _ rfl)) rfl<|ai rfl<|ah (fu rfl rfl) rfl<|an dL<|aH rfl (fun lO=>?_) (fun lO=>?_)
  ·
   have HD:=lO;simp only [DZ] at lO;refine ao fun eG=>ai rfl<|am rfl<|an eG<|aK<|bE (aQ (aQ (bE (aQ ?_))))
   refine bj rfl rfl ?_;exact ⟨_,rfl,⟨_,rfl,.inl ⟨i,rfl,by omega,by rw [IQ hil];exact lO,hall⟩⟩,hb⟩
  have HD:=lO;simp only [DZ] at lO;refine aU<|bS<|aw iA<|aR<|ai rfl<|ah (bH rfl rfl (by omega) (by omega)) rfl<|am rfl<|ay<|fun a_ bn=>CD _ _ (i+1) (by omega) (by repeat first|exact aB|refine au rfl (by first|rfl|exact int_eq (by omega)) ?_) ?_ a_ bn
  exact ⟨by omega,fun j hj=>(by by_cases e:j=i;(· rw [e,IQ hil];exact lO);(· exact hall j (by omega))),hb,aj⟩
 have uS:=jN
 simp only [DZ] at jN
 refine cN<|bD<|bD<|cO<|aw bX<|ao fun kV=>am rfl<|an kV<|aK<|bj rfl rfl ?_
 exact ⟨_,rfl,⟨_,rfl,.inr ⟨rfl,fun j hj=>hall j (by have:=jN;omega)⟩⟩,hb⟩
end Go.Proofs.YtjmlknjbhbfneaaGreatDoor
