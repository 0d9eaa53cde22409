import Derived.Test.YtjmlknjbhbfneaaGreatDoorZLrI
import Derived.Test.YtjmlknjbhbfneaaGreatDoorZLpB
namespace Go.Proofs.YtjmlknjbhbfneaaGreatDoor
open Go.RowKit Go.Bw Go.Bw.Fl
set_option linter.unusedVariables false
set_option linter.unusedSimpArgs false
theorem agk:bC Tryz.prog 10:=⟨_,Tryz.func10,by kernel_rfl,rfl⟩
theorem ag4:bC Tryz.prog 7:=⟨_,Tryz.func7,by kernel_rfl,rfl⟩
theorem ahb:bC Tryz.prog 9:=⟨_,Tryz.func9,by kernel_rfl,rfl⟩
theorem R8 {w:World} {base T n c:Nat} {A:Option Addr} {xs:List Value} (h:w.ownsRow base T 1 (.slice A n c) n xs):∃g,0<n→A=some ⟨g,0,none⟩∧base≤g∧g<w.heap.size∧∃cs,n≤cs.length∧aq w g T cs:=by
 rcases h.2 with ⟨_,h0⟩|⟨g,cap,cur,he,hb,hh,hnc,hcm,hcs,_⟩
 · exact ⟨0,fun h=>by omega⟩
 · injection he with e1 e2 e3
   exact ⟨g,fun _=>⟨e1,hb,(Array.getElem?_eq_some_iff.1 hh).1,cur.toList,by rw [Array.length_toList];omega,by unfold aq;rw [hh]⟩⟩
theorem Vn (A:Option Addr) (n c:Nat) (l:al) (w:World) (hn:n=l.length) (hc:n≤c) (hl:l.length≤140737488351232) (h:Rd w 1 A n (dq l)) (hL:Lb w):
 be Tryz.prog 3 [.slice A n c] w fun v w'=>v= .bool true∧Below w.heap.size w w':=by
 obtain ⟨m,hm⟩:∃m,m=(min (n:Int) 3000).toNat:=⟨_,rfl⟩
 have hmn:m≤n:=by omega
 have hr:=h.takeB hmn
 obtain ⟨b,hbe⟩:∃b,b=l.take m:=⟨_,rfl⟩
 rw [←hbe] at hr
 have hbl:b.length=m:=by rw [hbe,List.length_take];omega
 have hm2:m≤3000:=by omega
 obtain ⟨G,hGe⟩:∃G,G=(fA b).1:=⟨_,rfl⟩
 have hsz:=adE b
 rw [←hGe,hbl] at hsz
 have hb:=Below.refl w.heap.size w
 have qw:=hr
 have bw:=hL
 refine enter Tryz.func3 rfl rfl rfl<|ao fun aZ=>am rfl<|an aZ<|ao fun bJ=>aS ag4 rfl rfl (afF _ hL) rfl ?_
 rintro _ cq ⟨rfl,bm⟩
 have:=bm.size
 have hb:=az hb bm
 have hr:=qw.below hb
 have hL:=bw.below hb
 refine am rfl<|an bJ<|ao fun ex=>ai rfl<|ai rfl<|ah (cG dB (by omega) rfl) rfl<|ah (zI rfl rfl) rfl<|ah (bt (GJ dB x8 rfl rfl (by omega) (by omega)) (congrArg (fun k=>Value.slice A k c) hm.symm)) rfl<|am rfl<|an ex<|ao fun eQ=>jM dB (by kernel_rfl) rfl ?_
 rintro iS mJ ey dV fO
 have:=fO.size
 have hb:=az hb fO
 have hr:=qw.below hb
 have hL:=bw.below hb
 have:=dV.lt
 refine ai rfl ?_
 have hO:=dV.own (base:=w.heap.size) (n:=0) (sz:=1) (by omega) rfl (by decide)
 refine dK (z:=(.int .u8 0)) (sz:=1) (bytes:=1) dB (by kernel_rfl) rfl (by decide) _ rfl hO rfl hr (T3 b) (by simp only [maxLen];omega) (by omega) (by exact hb.size) rfl ?_
 rintro iH np k5 ed uh
 have:=ed.size
 have hb:=hb.grown ed hb.size (fun k_ ba=>by have:=(bz hO k_ ba).1;omega)
 have hr:=qw.below hb
 have hL:=bw.below hb
 have hO:=k5
 have hO:=ot (xs':=dq b) (n':=m) hO rfl (by omega)
 obtain ⟨Ao,co,hve,hco,_⟩:=eT hO
 subst hve
 obtain ⟨gO,hgO⟩:=R8 hO
 have hgO:0<m→Ao=some ⟨gO,0,none⟩∧w.heap.size≤gO∧gO<np.heap.size:=fun h=>⟨(hgO h).1,(hgO h).2.1,(hgO h).2.2.1⟩
 refine am rfl<|an eQ<|ao fun dL=>ai rfl<|aS MY rfl rfl (GO Ao co m b _ (fC hO) hbl (by omega) hL) rfl ?_
 rintro _ ft ⟨⟨A1,c1,A2,c2,rfl,hG⟩,bp⟩
 have:=bp.size
 have hb:=az hb bp
 have hr:=qw.below hb
 have hL:=bw.below hb
 have hO:=cR hO bp
 rw [←hGe] at hG ⊢
 refine ai rfl<|ah (bP rfl rfl) rfl<|ah (bP rfl rfl) rfl<|ah (bP rfl rfl) rfl ?_
 have hvk:=bz hO
 refine el (z:=s3) (by kernel_rfl) rfl ?_
 rintro EZ ajf acg lr Fp
 have:=Fp.size
 have hb:=az hb Fp
 have hr:=qw.below hb
 have hL:=bw.below hb
 have hO:=cR hO Fp
 have hG:=cB.below hG Fp
 have:=lr.lt
 have sQ:=Ma hvk acg
 refine cH (by kernel_rfl) rfl rfl lr rfl rfl ?_
 rintro d3 lr bI
 have:=bI.size
 have hb:=bY hb bI hb.size (by omega)
 have hr:=qw.below hb
 have hL:=bw.below hb
 have hO:=World.ownsRow.kept hO bI (by first|assumption|(simp [Value.ownBlock];omega))
 have hG:=hG.over bI (by omega)
 refine am rfl<|am rfl<|an dL<|ao fun eG=>ai rfl<|aW (lB dB fq bq rfl (by exact hr)) rfl ?_
 have hcq:=Vz b (by omega) d3
 refine aS ahb rfl rfl (hcq) rfl ?_
 rintro _ gu ⟨⟨A3,c3,A4,c4,rfl,hH⟩,bG⟩
 have:=bG.size
 have hb:=az hb bG
 have hr:=qw.below hb
 have hL:=bw.below hb
 have hO:=cR hO bG
 have hG:=cB.below hG bG
 have lr:=aq.below lr bG
 rw [←hGe] at hH ⊢
 refine ai rfl<|ah (bP rfl rfl) rfl<|ah (bP rfl rfl) rfl<|ah (bP rfl rfl) rfl ?_
 have hvk:=bz hO
 refine el (z:=s3) (by kernel_rfl) rfl ?_
 rintro E1 ajl ach q1 y7
 have:=y7.size
 have hb:=az hb y7
 have hr:=qw.below hb
 have hL:=bw.below hb
 have hO:=cR hO y7
 have hG:=cB.below hG y7
 have lr:=aq.below lr y7
 have hH:=cB.below hH y7
 have:=q1.lt
 have sQ:=Ma hvk ach
 refine cH (by kernel_rfl) rfl rfl q1 rfl rfl ?_
 rintro ky q1 cd
 have:=cd.size
 have hb:=bY hb cd hb.size (by omega)
 have hr:=qw.below hb
 have hL:=bw.below hb
 have hO:=World.ownsRow.kept hO cd (by first|assumption|(simp [Value.ownBlock];omega))
 have hG:=hG.over cd (by omega)
 have lr:=lr.over cd (by omega)
 have hH:=hH.over cd (by omega)
 refine am rfl<|am rfl<|an eG<|ao fun fx=>ai rfl<|aW (lB dB fq bq rfl (by exact (fC hO))) rfl<|ai rfl<|aW (lB dB fq bq rfl (by exact hr)) rfl<|ah (fu rfl rfl) rfl<|am rfl<|an fx<|ax fun _ mh=>ao fun jj=>am rfl<|an jj<|br ?_
 have hcs:0<m→∃cs,m≤cs.length∧aq _ gO 5 cs:=fun h=>by
  obtain ⟨g',hg'⟩:=R8 hO;obtain ⟨e1,_,_,cs,h1,h2⟩:=hg' h;rw [(hgO h).1] at e1;cases e1;exact ⟨cs,h1,h2⟩
 refine cU (X:=Nat) (fun i=> [(3,.bool true),(4,.slice Ao m co),(5,.pointer (some ⟨EZ,0,none⟩)),(6,.int .i64 (fA b).2.1),(7,.int .i64 (fA b).2.2),(8,.pointer (some ⟨E1,0,none⟩)),(9,.int .i64 (fA b).2.1),(10,.int .i64 (fA b).2.2),(11,.bool (b==b)),(12,.int .i64 (i:Int))]) (fun i w5=>i≤m∧(0<m→∃cs,m≤cs.length∧aq w5 gO 5 cs)∧Below w.heap.size w w5∧aq w5 EZ 27 [.slice A1 G.ns.length c1,.slice A2 G.es.length c2]∧aq w5 E1 27 [.slice A3 G.ns.length c3,.slice A4 G.es.length c4]∧cB np.heap.size ft.heap.size w5 A1 c1 A2 c2 G∧cB d3.heap.size gu.heap.size w5 A3 c3 A4 c4 G) (fun i=>m - i) (0) ?_ ?_ ?_
 · exact by repeat first|exact aB|refine au rfl (by first|rfl|exact int_eq (by omega)) ?_
 · exact ⟨by omega,hcs,hb,lr,q1,hG,hH⟩
 rintro i w5 w7 _ K1
 replace w7:i≤m∧(0<m→∃cs,m≤cs.length∧aq w5 gO 5 cs)∧Below w.heap.size w w5∧aq w5 EZ 27 [.slice A1 G.ns.length c1,.slice A2 G.es.length c2]∧aq w5 E1 27 [.slice A3 G.ns.length c3,.slice A4 G.es.length c4]∧cB np.heap.size ft.heap.size w5 A1 c1 A2 c2 G∧cB d3.heap.size gu.heap.size w5 A3 c3 A4 c4 G:=w7
 obtain ⟨hi,hcs,hb,lr,q1,hG,hH⟩:=w7
 show Wc _ _ _ _ _ [(3,.bool true),(4,.slice Ao m co),(5,.pointer (some ⟨EZ,0,none⟩)),(6,.int .i64 (fA b).2.1),(7,.int .i64 (fA b).2.2),(8,.pointer (some ⟨E1,0,none⟩)),(9,.int .i64 (fA b).2.1),(10,.int .i64 (fA b).2.2),(11,.bool (b==b)),(12,.int .i64 (i:Int))] _
 have hr:=qw.below hb
 have hL:=bw.below hb
 have:=hb.size
 have:=lr.lt
 have:=q1.lt
 refine ax fun _ mi=>ao fun qm=>ai rfl<|ai rfl<|ah (cG dB (by omega) rfl) rfl<|ah (cg rfl rfl) rfl<|an qm<|aH rfl (fun yu=>?_) (fun yu=>?_)
 ·
  have Xt:=yu;simp only [DZ] at yu;have him:i<m:=by have:=yu;omega
  obtain ⟨cs,hcl,hX⟩:=hcs (by omega);obtain ⟨hAo,hgb,hgl⟩:=hgO (by omega);subst hAo;refine aU<|aw mi<|ax fun _ ml=>br<|aR<|ai rfl<|ai rfl<|ah (cx dB x8 rfl rfl (by omega) (by omega)) rfl<|fJ ⟨_,fq,rfl,by kernel_rfl⟩ rfl rfl rfl hX (by omega) ?_
  rintro oA hX2 di;have:=di.size;have lr:=lr.over di (by omega);have q1:=q1.over di (by omega);have hG:=hG.over di (by omega);have hH:=hH.over di (by omega);have hb:=bY hb di hb.size (by omega);refine ay<|bS<|aw ml<|aR<|ai rfl<|ah (bH rfl rfl (by omega) (by omega)) rfl<|am rfl<|ay<|fun a_ bn=>K1 _ _ (i+1) (by omega) (by repeat first|exact aB|refine au rfl (by first|rfl|exact int_eq (by omega)) ?_) ?_ a_ bn
  exact ⟨by omega,fun _=>⟨_,by rw [List.length_set];exact hcl,hX2⟩,hb,lr,q1,hG,hH⟩
 have Xt:=yu
 simp only [DZ] at yu
 refine cN<|bD<|bD<|cO<|aw mh<|ao fun kW=>ai rfl<|ai rfl<|cw rfl rfl rfl (fun EX=>?_) (fun EX=>?_)
 ·
  have BJ:=EX;simp only [DZ] at EX;refine ai rfl<|aE rfl rfl BJ<|ai rfl<|aE rfl rfl BJ<|ah (bA rfl rfl) rfl<|ah (bi rfl BJ rfl) rfl<|ai rfl<|cw rfl rfl rfl (fun je=>?_) (fun je=>?_)
  ·
   have eN:=je;simp only [DZ] at je;refine ai rfl<|aE rfl rfl eN<|ai rfl<|aE rfl rfl eN<|ah (bA rfl rfl) rfl<|ah (bi rfl eN rfl) rfl<|ai rfl<|cw rfl rfl rfl (fun BU=>?_) (fun BU=>?_)
   ·
    have BV:=BU;simp only [DZ] at BU;refine aW (dM eJ (by kernel_rfl) rfl (by exact fun j u hu=>lr.at hu)) rfl<|aE rfl rfl BV<|aW (dM eJ (by kernel_rfl) rfl (by exact fun j u hu=>q1.at hu)) rfl<|aE rfl rfl BV<|aS agk rfl rfl (U7 _ A1 c1 A2 c2 G _ A3 c3 A4 c4 G _ hG.gat hH.gat (by omega) (by omega)) rfl ?_
    rintro _ hZ ⟨rfl,ck⟩;have:=ck.size;have hb:=az hb ck;have hr:=qw.below hb;have hL:=bw.below hb;have hG:=cB.below hG ck;have hH:=cB.below hH ck;refine ah (bi rfl BV rfl) rfl<|ai rfl<|cw rfl rfl rfl (fun sx=>?_) (fun sx=>?_)
    ·
     have nS:=sx;refine ai rfl<|ah (bi rfl nS rfl) rfl<|am rfl<|an kW<|aK<|bj rfl rfl ?_
     exact ⟨_,rfl,aP (by simp),hb⟩
    have nS:=sx;exact absurd nS (by rw [afy];simp)
   have BV:=BU;simp only [DZ] at BU;exact absurd BV (by simp)
  have eN:=je;simp only [DZ] at je;exact absurd eN (by simp)
 have BJ:=EX
 cases BJ
end Go.Proofs.YtjmlknjbhbfneaaGreatDoor
