import Derived.Test.YtjmlknjbhbfneaaGreatDoorZGA
namespace Go.Proofs.YtjmlknjbhbfneaaGreatDoor
open Go.RowKit Go.Bw Go.Bw.Fl
set_option linter.unusedVariables false
set_option linter.unusedSimpArgs false
theorem agP:bC Tryz.prog 26:=⟨_,Tryz.func26,by kernel_rfl,rfl⟩
theorem agW:bC Tryz.prog 53:=⟨_,Tryz.func53,by kernel_rfl,rfl⟩
def k7 (M:Nat) (w w':World):Prop:=∀k,M≤k→k<w.heap.size→w'.heap[k]? =w.heap[k]?
theorem k7.refl (M:Nat) (w:World):k7 M w w:=fun _ _ _=>rfl
theorem k7.trans {M:Nat} {a b c:World} (h:k7 M a b) (k:k7 M b c) (hs:a.heap.size≤b.heap.size):k7 M a c:=fun j h1 h2=>(k j h1 (by omega)).trans (h j h1 h2)
theorem Vk {M:Nat} {w w':World} (h:Below w.heap.size w w'):k7 M w w':=fun k _ hk=>h.block k hk
theorem aq.keep {M g:Nat} {t:TypeId} {cs:List Value} {w w':World} (h:aq w g t cs) (hk:k7 M w w') (hg:M≤g):aq w' g t cs:=(hk g hg h.lt).trans h
structure No (M B b:Nat) (p v:Value) (l:al) (w:World):Prop where
 ge:B≤b
 lt:b<M
 at':w.heap[b]? =some (.cells #[p,v] 67 (0,0))
 own:w.ownsRow B 5 1 v l.length (Lib.byteCells l)
 ne:v.ownBlock≠some b
 buf:∀k,v.ownBlock=some k→k<M
def BM (M B b:Nat) (l:al) (w:World):Prop:=∃p v,(p= .pointer none∨p= .pointer (some ⟨b,0,none⟩))∧No M B b p v l w
theorem BM.of {B b:Nat} {l:al} {w:World} (h:Lib.IsBuilder 67 5 B b (Lib.byteCells l) w):BM w.heap.size B b l w:=by
 have hl:(Lib.byteCells l).length=l.length:=Lib.byteCells_length l
 rcases h with h|h
 · have hlt:=h.lt
   obtain ⟨h1,v,h2,h3,h4⟩:=h;exact ⟨_,v,.inl rfl,h1,hlt,h2,by rw [hl] at h3;exact h3,h4,fun k hk=>(bz h3 k hk).2⟩
 · have hlt:=h.lt
   obtain ⟨h1,v,h2,h3,h4⟩:=h;exact ⟨_,v,.inr rfl,h1,hlt,h2,by rw [hl] at h3;exact h3,h4,fun k hk=>(bz h3 k hk).2⟩
theorem BM.below {M B b:Nat} {l:al} {w w':World} (h:BM M B b l w) (hb:Below M w w'):BM M B b l w':=by
 obtain ⟨p,v,hp,h1,h2,h3,h4,h5,h6⟩:=h;refine ⟨p,v,hp,h1,h2,(hb.block b h2).trans h3,⟨h4.1,?_⟩,h5,h6⟩
 rcases h4.2 with h|⟨g,cap,cur,hv,hg,hh,r⟩
 · exact .inl h
 · exact .inr ⟨g,cap,cur,hv,hg,(hb.block g (h6 g (by rw [hv];rfl))).trans hh,r⟩
theorem Y9 (M B b:Nat) (l:al) (w:World) (h:BM M B b l w):be Tryz.prog 51 [.pointer (some ⟨b,0,none⟩)] w fun v w'=>v= .tuple #[]∧(∃u,No M B b (.pointer (some ⟨b,0,none⟩)) u l w')∧Below B w w'∧k7 M w w':=by
 obtain ⟨p,v,hp,h⟩:=h;have hc:w.cell? ⟨b,0,none⟩=some p:=Lib.cell_of_heap h.at' 0
 rcases hp with rfl|rfl
 · refine (IJ b w hc (by simp [World.shape?,h.at']) (Lib.frozen_of_heap h.at' 0)).mono fun u w' ⟨h1,h2⟩=>⟨h1,?_⟩
   subst h2;refine ⟨⟨v,h.ge,h.lt,by simp [World.setCell,Array.getElem?_modify,h.at'],?_,h.ne,h.buf⟩,(Below.refl B w).setCell (p:=⟨b,0,none⟩) h.ge _,fun k hk _=>Below.heap_setCell _ _ _ _ (by have:=h.lt;show k≠b;omega)⟩;exact h.own.kept (row:=some b) ⟨rfl,rfl,rfl,by simp [World.setCell],fun k _ hk=>Below.heap_setCell _ _ _ _ (fun e=>hk (by simp [e]))⟩ (.inr h.ne)
 · exact (OB b w hc).mono fun u w' ⟨h1,h2⟩=>⟨h1,by subst h2;exact ⟨⟨v,h⟩,Below.refl B _,k7.refl _ _⟩⟩
theorem Xa (M B b:Nat) (l m:al) (w:World) (h:BM M B b l w) (hM:M≤w.heap.size) (hl:l.length+m.length≤140737488355328) (hBw:B≤w.heap.size):be Tryz.prog 25 [.pointer (some ⟨b,0,none⟩),str m] w fun v w'=>v= .tuple #[.int .i64 (m.length:Nat),.nilIface]∧Lib.IsBuilder 67 5 B b (Lib.byteCells (l++m)) w'∧Below B w w'∧k7 M w w':=by
 have hbl:(Lib.byteCells l).length=l.length:=Lib.byteCells_length l;have hbm:(Lib.byteCells m).length=m.length:=Lib.byteCells_length m;refine enter Tryz.func25 rfl rfl rfl<|ao fun aZ=>am rfl<|am rfl<|an aZ<|ao fun bX=>ai rfl<|aS Gm rfl rfl (Y9 M B b _ _ h) rfl ?_
 rintro _ w1 ⟨rfl,hA,hb1,hk1⟩;refine an bX<|ax fun _ e7=>?_
 obtain ⟨v,hA⟩:=hA;have hown:=hA.own;have hbk:=hA.at';have c1:w1.cell? ⟨b,1,none⟩=some v:=by rw [Lib.cell_of_heap hbk];rfl
 have hsz1:=hb1.size;refine aR<|ai rfl<|ai rfl<|ah (cM rfl) rfl<|ah (aJ (EK _) rfl) rfl<|aW (aI s5 rfl (c1)) rfl<|ai rfl<|N4 (l:=m) dB bq (by kernel_rfl) B rfl hown rfl (by omega) (by omega) rfl ?_
 rintro v3 w3 hown3 hgr;have hlt:b<w1.heap.size:=Nat.lt_of_lt_of_le hA.lt (by omega);have hb3:w3.heap[b]? =some (.cells #[.pointer (some ⟨b,0,none⟩),v] 67 (0,0)):=by rw [hgr.block b (by omega) (fun e=>hA.ne e.symm)];exact hbk
 have hk3:k7 M w1 w3:=fun k h1 h2=>hgr.block k h2 (fun e=>by have:=hA.buf k e.symm;omega);obtain ⟨A3,cc3,hv3,_,_⟩:=eT hown3;have hone:v3.oneCell'=true:=by rw [hv3];rfl
 have hb13:Below B w w3:=hb1.grown hgr (by omega) (fun k hk=>(bz hown k hk).1);have hk13:k7 M w w3:=hk1.trans hk3 hsz1;refine ah (cM rfl) rfl<|ah (aJ (EK _) rfl) rfl<|rJ (zt (p:=⟨b,1,none⟩) L8 rfl rfl hone (by rw [Lib.cell_of_heap hb3];rfl) (Lib.frozen_of_heap hb3 1))<|an e7<|ao fun iA=>ai rfl<|ah (dF bq (by omega) rfl) rfl<|am rfl<|am rfl<|an iA<|aK<|dv rfl rfl rfl ?_
 exact ⟨_,rfl,rfl,.inr (by rw [Oi];exact Lib.BuilderAt.put hA.ge hb3 (by rw [List.length_append,hbl,hbm];exact hown3) (by decide)),hb13.setCell (p:=⟨b,1,none⟩) hA.ge _,fun k h1 h2=>(Below.heap_setCell _ _ _ _ (by have:=hA.lt;show k≠b;omega)).trans (hk13 k h1 h2)⟩
theorem Eb (M B b:Nat) (A:Option Addr) (c n:Nat) (xs:List (al)) (l:al) (hn:xs.length=n) (hlen:n≤16777216) (hc:n≤c) (htot:dA xs≤1099511627776) (w:World) (h:BM M B b l w) (hM:M≤w.heap.size) (hBw:B≤w.heap.size) (hl:l.length≤1099511627776) (hR:Rd w 1 A n (strs xs)) (hj:(o8 xs).length≤1099511627776):
 be Tryz.prog 24 [.slice A n c,.pointer (some ⟨b,0,none⟩)] w fun v w'=>v= .tuple #[]∧Lib.IsBuilder 67 5 B b (Lib.byteCells (l++(o8 xs++ [10]))) w'∧Below B w w'∧k7 M w w':=by
 have h1:([10]:al).length=1:=rfl
 have hb:=Below.refl w.heap.size w
 refine enter Tryz.func24 rfl rfl rfl<|aR<|ai rfl<|aS agP rfl rfl (Vi A c n xs hn hlen hc htot _ hR) rfl ?_
 rintro _ cq ⟨rfl,bm⟩
 have:=bm.size
 have hb:=az hb bm
 refine ah (dx rfl rfl (by omega)) rfl ?_
 have h2:=h.below (bm.mono hM)
 refine aS Gh rfl rfl (Xa M B b l (o8 xs++ [10]) _ h2 (Nat.le_trans hM bm.size) (by rw [List.length_append];omega) (Nat.le_trans hBw bm.size)) rfl ?_
 rintro _ ft ⟨rfl,hI,bp,acm⟩
 refine ay<|lh rfl ?_
 exact ⟨_,rfl,rfl,hI,(bm.mono hBw).trans bp,(Vk bm).trans acm bm.size⟩
def uA (p:Pr):al:=p.1++61 :: ku p.2
def nP (ls:List (al)) (ps:List Pr):List (al):=ls.map (fun l=>58 :: l)++ps.map uA
theorem Rv {α:Type} (f:α→al) {l:List α} {i:Nat} (d:α) (h:i<l.length):strs ((l.take (i+1)).map f)=strs ((l.take i).map f)++ [str (f (l.getD i d))]:=by
 rw [DQ d h,List.map_append,List.map_singleton,F4]
theorem Th (a b:List (al)):strs (a++b)=strs a++strs b:=by simp [strs]
theorem EM (S:Nat→Prop) (A:Option Addr) (c:Nat) (B:Option Addr) (e:Nat) (n:al) (ls:List (al)) (ps:List Pr) (w:World) (hN:cY S w A c B e ⟨n,ls,ps⟩) (hok:∀p∈ps,p.2.Ok) (hri:∀p∈ps,en p.2=true) (hsz:jG ⟨n,ls,ps⟩≤268435456) (hL:Lt w):
 be Tryz.prog 27 [.slice A ls.length c,.slice B ps.length e] w fun v w'=>w'.ownsRow w.heap.size 9 1 v (ls.length+ps.length) (strs (nP ls ps))∧Below w.heap.size w w':=by
 have hs1:n.length+gP ls+eV ps+1≤268435456:=hsz
 have hpl:=uG ps
 have hll:=td ls
 have h1:([58]:al).length=1:=rfl
 have h2:([61]:al).length=1:=rfl
 have hb:=Below.refl w.heap.size w
 have jC:=hN
 have bw:=hL
 refine enter Tryz.func27 rfl rfl rfl<|ao fun aZ=>am rfl<|an aZ<|ax fun _ bJ=>ao fun bX=>ai rfl<|ah (cG bK (by omega) rfl) rfl<|ai rfl<|an bX<|br<|cU (X:=Nat×Value) (fun (i,v)=> [(1,.slice B ps.length e),(4,v),(11,.slice A ls.length c),(12,.int .i64 (ls.length:Int)),(13,.int .i64 (i:Int))]) (fun (i,v) wr=>i≤ls.length∧Below w.heap.size w wr∧wr.ownsRow w.heap.size 9 1 v i (strs ((ls.take i).map (fun l=>58 :: l)))) (fun (i,v)=>ls.length - i) (⟨0,.slice none 0 0⟩) ?_ ?_ ?_
 · exact by repeat first|exact aB|refine au rfl (by first|rfl|exact int_eq (by omega)) ?_
 · exact ⟨by omega,hb,s7 _ _ _ _⟩
 rintro ⟨i,v⟩ wr qj _ CE
 replace qj:i≤ls.length∧Below w.heap.size w wr∧wr.ownsRow w.heap.size 9 1 v i (strs ((ls.take i).map (fun l=>58 :: l))):=qj
 obtain ⟨hi,hb,hO⟩:=qj
 show Wc _ _ _ _ _ [(1,.slice B ps.length e),(4,v),(11,.slice A ls.length c),(12,.int .i64 (ls.length:Int)),(13,.int .i64 (i:Int))] _
 have hN:=jC.below hb
 have hL:=bw.below hb
 have:=hb.size
 refine ao fun eZ=>ah (cg rfl rfl) rfl<|an eZ<|ax fun _ eO=>aH rfl (fun dH=>?_) (fun dH=>?_)
 ·
  have kD:=dH;simp only [DZ] at dH;have hil:i<ls.length:=by have:=dH;omega
  have hli:=Tj hil;obtain ⟨p_,v_,hpe,hve,hcell⟩:=hN.rl.one (i:=i) hil;have hpe:A=some p_:=hpe;obtain rfl:=i6 hil hve;subst hpe;refine aU<|aw eO<|ax fun _ eR=>br<|ao fun fj=>ah (cx bK eo rfl rfl (by omega) (by omega)) rfl<|aW (aI bQ rfl (by exact gH hcell)) rfl<|am rfl<|an fj<|aR<|ai rfl<|ai rfl<|ah (dx rfl rfl (by omega)) rfl<|dX (sz:=1) (vs:= [_]) bK (by kernel_rfl) rfl rfl rfl rfl rfl rfl ?_
  rintro gc kw dg cD dW;have:=dW.size;have hb:=az hb dW;have hN:=jC.below hb;have hL:=bw.below hb;have hO:=cR hO dW;have:=cD.lt;refine dK (z:=(str [])) (sz:=1) (bytes:=16) bK (by kernel_rfl) rfl (by decide) _ rfl hO rfl (cD.rd 1 1 rfl) (s6 _) (by simp only [maxLen];omega) (by omega) (by exact hb.size) rfl ?_;rintro ry mJ oi ey ug;have:=ey.size;have hb:=hb.grown ey hb.size (fun k_ ba=>by have:=(bz hO k_ ba).1;omega);have hN:=jC.below hb;have hL:=bw.below hb;have hO:=oi;refine am rfl<|ay<|bS<|aw eR<|aR<|ah (bH rfl rfl (by omega) (by omega)) rfl<|ai rfl<|ay<|fun a_ bn=>CE _ _ (⟨i+1,ry⟩) (by simp;omega) (by repeat first|exact aB|refine au rfl (by first|rfl|exact int_eq (by omega)) ?_) ?_ a_ bn
  exact ⟨by omega,hb,by rw [Rv _ [] hil];exact hO⟩
 have kD:=dH
 simp only [DZ] at dH
 have hie:i=ls.length:=by have:=dH;omega
 rw [hie,List.take_length] at hO
 refine cN<|bD<|bD<|cO<|aw bJ<|ax fun _ kU=>ao fun eG=>ai rfl<|ah (cG ef (by omega) rfl) rfl<|ai rfl<|an eG<|br<|cU (X:=Nat×Value) (fun (i,v)=> [(4,v),(23,.slice B ps.length e),(24,.int .i64 (ps.length:Int)),(25,.int .i64 (i:Int))]) (fun (i,v) wr=>i≤ps.length∧Below w.heap.size w wr∧wr.ownsRow w.heap.size 9 1 v (ls.length+i) (strs (ls.map (fun l=>58 :: l)++(ps.take i).map uA))) (fun (i,v)=>ps.length - i) (⟨0,v⟩) ?_ ?_ ?_
 · exact by repeat first|exact aB|refine au rfl (by first|rfl|exact int_eq (by omega)) ?_
 · exact ⟨by omega,hb,by simpa using hO⟩
 rintro ⟨i,v⟩ wr qf _ abU
 replace qf:i≤ps.length∧Below w.heap.size w wr∧wr.ownsRow w.heap.size 9 1 v (ls.length+i) (strs (ls.map (fun l=>58 :: l)++(ps.take i).map uA)):=qf
 obtain ⟨hi,hb,hO⟩:=qf
 show Wc _ _ _ _ _ [(4,v),(23,.slice B ps.length e),(24,.int .i64 (ps.length:Int)),(25,.int .i64 (i:Int))] _
 have hN:=jC.below hb
 have hL:=bw.below hb
 have:=hb.size
 refine ao fun kV=>ah (cg rfl rfl) rfl<|an kV<|ax fun _ mf=>aH rfl (fun pA=>?_) (fun pA=>?_)
 ·
  have Ak:=pA;simp only [DZ] at pA;have hil:i<ps.length:=by have:=pA;omega
  have hpi:=Tm hil;have hoi:=FM hok hil;have hrii:en (ps.getD i cA).2=true:=by rw [getD_at cA hil];exact hri _ (List.getElem_mem hil)
  have htl:=To hoi hrii;obtain ⟨p_,hpe,hcell⟩:=rr f9 (l:=ps) (by omega) nj hN.rp hil cA;have hpe:B=some p_:=hpe;subst hpe;refine aU<|aw mf<|ax fun _ ji=>br<|ao fun fx=>ah (cx ef j5 rfl rfl (by omega) (by omega)) rfl<|aW (dM pj (by kernel_rfl) rfl (by exact oH hcell)) rfl ?_
  have sQ:=Ds hO;refine el (z:=Di) (by kernel_rfl) rfl ?_;rintro aaa Uo sS qb ul;have:=ul.size;have hb:=az hb ul;have hN:=jC.below hb;have hL:=bw.below hb;have hO:=cR hO ul;have:=qb.lt;refine cH (by kernel_rfl) rfl rfl qb rfl rfl ?_;rintro d3 qb bI;have:=bI.size;have hb:=bY hb bI hb.size (by omega);have hN:=jC.below hb;have hL:=bw.below hb;have hO:=World.ownsRow.kept hO bI (by exact sQ _ sS);refine an fx<|ao fun f5=>ah (aJ (AR _) rfl) rfl<|aW (dM de (by kernel_rfl) rfl (by exact show ∀(j:Nat) (u:Value),(ps.getD i cA).2.cells[j]? =some u→_ from fun j u hu=>by rw [lL];exact qb.at (by rw [Nat.add_comm];exact hu))) rfl<|aS agW rfl rfl (VU (ps.getD i cA).2 hoi (by omega) _ hL) rfl ?_
  rintro _ cq ⟨rfl,bm⟩;have:=bm.size;have hb:=az hb bm;have hN:=jC.below hb;have hL:=bw.below hb;have hO:=cR hO bm;have qb:=aq.below qb bm;refine ai rfl<|ah (bP rfl rfl) rfl<|ah (bP rfl rfl) rfl<|am rfl<|am rfl<|an f5<|aR<|ai rfl<|ah (aJ (yM _) rfl) rfl<|aW (aI bQ rfl (by exact qb.at (j:=0) rfl)) rfl<|ah (dx rfl rfl (by rw [h2];omega)) rfl<|ai rfl<|ah (bt (dx rfl rfl (by rw [List.length_append,h2];omega)) (dw (show _=uA (ps.getD i cA) by simp [uA]))) rfl<|dX (sz:=1) (vs:= [_]) bK (by kernel_rfl) rfl rfl rfl rfl rfl rfl ?_
  rintro gW oz kk dz du;have:=du.size;have hb:=az hb du;have hN:=jC.below hb;have hL:=bw.below hb;have hO:=cR hO du;have:=dz.lt;refine dK (z:=(str [])) (sz:=1) (bytes:=16) bK (by kernel_rfl) rfl (by decide) _ rfl hO rfl (dz.rd 1 1 rfl) (s6 _) (by simp only [maxLen];omega) (by omega) (by exact hb.size) rfl ?_;rintro yg tk oj e8 yY;have:=e8.size;have hb:=hb.grown e8 hb.size (fun k_ ba=>by have:=(bz hO k_ ba).1;omega);have hN:=jC.below hb;have hL:=bw.below hb;have hO:=oj;refine am rfl<|ay<|bS<|aw ji<|aR<|ah (bH rfl rfl (by omega) (by omega)) rfl<|ai rfl<|ay<|fun a_ bn=>abU _ _ (⟨i+1,yg⟩) (by simp;omega) (by repeat first|exact aB|refine au rfl (by first|rfl|exact int_eq (by omega)) ?_) ?_ a_ bn
  exact ⟨by omega,hb,by rw [Th,Rv _ cA hil,←List.append_assoc,←Th];exact hO⟩
 have Ak:=pA
 simp only [DZ] at pA
 have hie:i=ps.length:=by have:=pA;omega
 rw [hie,List.take_length] at hO
 refine cN<|bD<|bD<|cO<|aw kU<|ao fun mm=>ai rfl<|am rfl<|an mm<|aK<|bj rfl rfl ?_
 exact ⟨_,rfl,hO,hb⟩
def i8:al:= [110,111,100,101]
def jH:al:= [101,100,103,101]
def rL (b:Bool):al:=if b=true then [45,62] else [45,45]
def ko (d:ND):List (al):= [i8,d.n]++nP d.ls d.ps
def ka (g:GV) (d:ED):List (al):= [jH,d.n,(g.ns.getD d.fr.toNat ct).n,rL d.dir,(g.ns.getD d.tw.toNat ct).n]++nP d.ls d.ps
def rk (d:ND):al:=o8 (ko d)++ [10]
def tU (g:GV) (d:ED):al:=o8 (ka g d)++ [10]
def Sj (g:GV):al:=g.ns.flatMap rk++g.es.flatMap (tU g)
theorem afg {g:GV} (h:ru g=0):g.ns.length≤1000∧g.es.length≤1000∧ux g=true:=by
 unfold ru at h
 split at h
 · cases h
 · split at h
   · rename_i h1 h2;exact ⟨by omega,by omega,h2⟩
   · cases h
theorem RX {g:GV} (h:ux g=true) {i:Nat} (hi:i<g.ns.length):oq (g.ns.getD i ct)=true:=by
 unfold ux at h;simp only [Bool.and_eq_true] at h;exact G8.1 h.1.2 i hi
theorem RW {g:GV} (h:ux g=true) {i:Nat} (hi:i<g.es.length):kH g.ns.length (g.es.getD i bU)=true:=by
 unfold ux at h;simp only [Bool.and_eq_true] at h;exact G8.1 h.2 i hi
theorem tV {n:al} {ls:List (al)} {ps:List Pr} (h:qS n ls ps=true):∀p∈ps,en p.2=true:=fun p hp=>by
 unfold qS at h;simp only [Bool.and_eq_true] at h;obtain ⟨i,hi,rfl⟩:=List.getElem_of_mem hp;have h2:=G8.1 h.1.1.1 i hi;unfold oy at h2;rw [getD_at cA hi] at h2;simp only [Bool.and_eq_true] at h2;exact h2.2
theorem OX {n:Nat} {d:ED} (h:kH n d=true):qS d.n d.ls d.ps=true∧(0≤d.fr∧d.fr<n)∧(0≤d.tw∧d.tw<n):=by
 unfold kH zb at h;simp only [Bool.and_eq_true,decide_eq_true_eq] at h;exact ⟨h.1.1,h.1.2,h.2⟩
theorem zf (l:List (al)):(o8 l).length≤l.length+dA l:=by
 cases l with
 |nil=>simp [o8]
 |cons x r=>unfold o8;rw [List.length_append,Px];simp [dA];omega
theorem yb (a b:List (al)):dA (a++b)=dA a+dA b:=by simp [dA]
theorem qH (a:al) (b:List (al)):dA (a :: b)=a.length+dA b:=by simp [dA]
theorem yO (ls:List (al)) (ps:List Pr):(nP ls ps).length=ls.length+ps.length:=by simp [nP]
theorem af7 (ls:List (al)):dA (ls.map fun l=>58 :: l)=gP ls:=by
 induction ls with
 |nil=>rfl
 |cons a r ih=>rw [List.map_cons,qH,ih];simp [gP]
theorem Tr:∀(ps:List Pr) (hok:∀p∈ps,p.2.Ok) (hr:∀p∈ps,en p.2=true),dA (ps.map uA)≤62 * eV ps
 | [],_,_=>by simp [dA]
 |p :: r,hok,hr=>by
  have ih:=Tr r (fun q hq=>hok q (List.mem_cons_of_mem _ hq)) (fun q hq=>hr q (List.mem_cons_of_mem _ hq));have h1:=To (hok p List.mem_cons_self) (hr p List.mem_cons_self);have h2:(uA p).length=p.1.length+(ku p.2).length+1:=by simp [uA];omega
  have h3:eV (p :: r)=p.1.length+p.2.s.length+1+eV r:=by simp [eV]
  rw [List.map_cons,qH,h2,h3];omega
theorem F9 (ls:List (al)) (ps:List Pr) (hok:∀p∈ps,p.2.Ok) (hr:∀p∈ps,en p.2=true):dA (nP ls ps)≤gP ls+62 * eV ps:=by
 unfold nP;rw [yb,af7];have:=Tr ps hok hr;omega
theorem IX {α:Type} (f:α→al) (s:α→Nat) (K C:Nat):∀(l:List α) (h:∀a∈l,(f a).length≤K * s a+C),(l.flatMap f).length≤K * (l.map s).sum+C * l.length
 | [],_=>by simp
 |a :: r,h=>by
  have h1:=IX f s K C r (fun b hb=>h b (List.mem_cons_of_mem _ hb));have h2:=h a List.mem_cons_self;rw [List.flatMap_cons,List.length_append,List.map_cons,List.sum_cons,List.length_cons,Nat.mul_add,Nat.mul_add];omega
theorem Py {α:Type} (f:α→al) (l:List α) (i:Nat):((l.take i).flatMap f).length≤(l.flatMap f).length:=by
 have:=congrArg (fun l=>(l.flatMap f).length) (List.take_append_drop i l);simp only [List.flatMap_append,List.length_append] at this;omega
theorem ER {α:Type} (f:α→al) {l:List α} {i:Nat} (d:α) (h:i<l.length):(l.take (i+1)).flatMap f=(l.take i).flatMap f++f (l.getD i d):=by
 rw [DQ d h,List.flatMap_append];simp
theorem RO {d:ND} (hok:∀p∈d.ps,p.2.Ok) (h:oq d=true):(rk d).length≤64 * jG d+10:=by
 have hr:=tV h;have h1:=F9 d.ls d.ps hok hr;have h2:=zf (ko d);have h3:dA (ko d)=4+d.n.length+dA (nP d.ls d.ps):=by unfold ko;rw [yb,qH,qH];simp [dA,i8]
 have h4:(ko d).length=2+(d.ls.length+d.ps.length):=by unfold ko;rw [List.length_append,yO];rfl
 have h5:=td d.ls;have h6:=uG d.ps;unfold rk jG;rw [List.length_append];simp only [List.length_cons,List.length_nil];omega
theorem OV {g:GV} {d:ED} (hok:∀p∈d.ps,p.2.Ok) (h:kH g.ns.length d=true):(tU g d).length≤64 * ow d+(2 * dO g+20):=by
 obtain ⟨h0,hf,ht⟩:=OX h;have hr:=tV h0;have h1:=F9 d.ls d.ps hok hr;have h2:=zf (ka g d);have e1:=uF (g:=g) (i:=d.fr.toNat) (by omega);have e2:=uF (g:=g) (i:=d.tw.toNat) (by omega);have e3:(g.ns.getD d.fr.toNat ct).n.length≤dO g:=by unfold jG at e1;omega
 have e4:(g.ns.getD d.tw.toNat ct).n.length≤dO g:=by unfold jG at e2;omega
 have e5:(rL d.dir).length=2:=by unfold rL;split<;>rfl
 have h3:dA (ka g d)=4+d.n.length+(g.ns.getD d.fr.toNat ct).n.length+2+(g.ns.getD d.tw.toNat ct).n.length+dA (nP d.ls d.ps):=by unfold ka;rw [yb];simp only [qH,e5];simp [dA,jH];omega
 have h4:(ka g d).length=5+(d.ls.length+d.ps.length):=by unfold ka;rw [List.length_append,yO];rfl
 have h5:=td d.ls;have h6:=uG d.ps;unfold tU ow;rw [List.length_append];simp only [List.length_cons,List.length_nil];omega
theorem aew {g:GV} (hoks:∀d∈g.ns,∀p∈d.ps,p.2.Ok) (hoke:∀d∈g.es,∀p∈d.ps,p.2.Ok) (h:ux g=true) (hn:g.ns.length≤1000) (he:g.es.length≤1000):(g.ns.flatMap rk).length+(g.es.flatMap (tU g)).length≤2100 * dO g+40000:=by
 have h1:=IX rk jG 64 10 g.ns (fun d hd=>by
  obtain ⟨i,hi,rfl⟩:=List.getElem_of_mem hd
  have:=RX h hi;rw [getD_at ct hi] at this
  exact RO (hoks _ hd) this)
 have h2:=IX (tU g) ow 64 (2 * dO g+20) g.es (fun d hd=>by
  obtain ⟨i,hi,rfl⟩:=List.getElem_of_mem hd
  have:=RW h hi;rw [getD_at bU hi] at this
  exact OV (hoke _ hd) this)
 have h3:(2 * dO g+20) * g.es.length≤(2 * dO g+20) * 1000:=Nat.mul_le_mul_left _ he;have h4:(g.ns.map jG).sum+(g.es.map ow).sum=dO g:=rfl;omega
theorem IV (p:Addr) (w:World):(Instr.fieldAt 46 (.pointer (some p)) 3).run Tryz.prog w= .ok (.pointer (some (p.add 3))) w:=fd (i:=3) (sz:=0) mI rfl (by kernel_rfl) p w
theorem L6:One Tryz.prog 4:=⟨_,DU,rfl,by kernel_rfl⟩
theorem agr:bC Tryz.prog 12:=⟨_,Tryz.func12,by kernel_rfl,rfl⟩
theorem Gi:bC Tryz.prog 27:=⟨_,Tryz.func27,by kernel_rfl,rfl⟩
theorem Gn:bC Tryz.prog 24:=⟨_,Tryz.func24,by kernel_rfl,rfl⟩
theorem F3 (l:List (al)):∀u∈strs l,u.oneCell'=true:=fun u hu=>by
 unfold strs at hu;obtain ⟨x,_,rfl⟩:=List.mem_map.1 hu;rfl
theorem U5 (S:Nat→Prop) (A:Option Addr) (c:Nat) (B:Option Addr) (e:Nat) (g:GV) (w:World) (hG:oE S w A c B e g) (hsz:dO g≤8388608) (hL:Lt w):
 be Tryz.prog 11 [.agg #[.slice A g.ns.length c,.slice B g.es.length e]] w fun v w'=>v= .tuple #[str (if ru g=0 then Sj g else []),.int .i64 (ru g)]∧Below w.heap.size w w':=by
 have hnl:=ya g
 have hel:=x9 g
 have hb:=Below.refl w.heap.size w
 have bk:=hG
 have bw:=hL
 refine enter Tryz.func11 rfl rfl rfl<|ao fun aZ=>jL rfl rfl ?_
 rintro aX js iB aj cF
 have:=cF.size
 have hb:=az hb cF
 have hG:=bk.below hb
 have hL:=bw.below hb
 have:=aj.lt
 refine am rfl<|am rfl<|an aZ<|ax fun _ cT=>ao fun ex=>aW (dM eJ (by kernel_rfl) rfl (by exact fun j u hu=>aj.at hu)) rfl<|aS agr rfl rfl (U6 S A c B e g _ hG (by omega)) rfl ?_
 rintro _ cq ⟨rfl,bm⟩
 have:=bm.size
 have hb:=az hb bm
 have hG:=bk.below hb
 have hL:=bw.below hb
 have aj:=aq.below aj bm
 refine am rfl<|an ex<|ao fun eZ=>ai rfl<|ah (ig rfl rfl) rfl<|an eZ<|aH rfl (fun dH=>?_) (fun dH=>?_)
 ·
  have kD:=dH;simp only [DZ] at dH;refine ao fun eR=>ai rfl<|am rfl<|am rfl<|an eR<|aK<|aQ<|dv rfl rfl rfl ?_
  exact ⟨_,rfl,by rw [if_neg (by simpa using dH)];rfl,hb⟩
 have kD:=dH
 simp only [DZ] at dH
 obtain ⟨hn1,he1,hok⟩:=afg (g:=g) (by simpa using dH)
 have hpl:=aew hG.oks hG.oke hok hn1 he1
 have hGk:=hG
 refine aU<|aw cT<|ax fun _ dL=>?_
 have hbB:=Below.refl cq.heap.size cq
 have iU:=aj
 refine aR<|el (z:=LO) (by kernel_rfl) rfl ?_
 rintro iT Ut QJ PM uo
 have:=uo.size
 have hb:=az hb uo
 have hG:=bk.below hb
 have hL:=bw.below hb
 have hbB:=az hbB uo
 have aj:=iU.below hbB
 have:=PM.lt
 refine an dL<|ao fun iV=>ah (GH rfl rfl) rfl<|am rfl<|an iV<|ax fun _ nV=>ax fun _ jf=>?_
 have hI:Lib.IsBuilder 67 5 cq.heap.size iT (Lib.byteCells []) Ut:= .inl ⟨QJ,_,PM,World.ownsRow_nil _ _ _ _,by simp [Value.ownBlock]⟩
 refine aR<|ah (aJ (gw _) rfl) rfl<|aW (aI fG rfl (by exact aj.at (j:=0) rfl)) rfl<|ah (cG dJ (by omega) rfl) rfl<|ai rfl<|an jf<|br<|cU (X:=Nat) (fun i=> [(1,.pointer (some ⟨aX,0,none⟩)),(5,.pointer (some ⟨iT,0,none⟩)),(6,.func (.func 24) #[] #[.pointer (some ⟨iT,0,none⟩)]),(19,.slice A g.ns.length c),(20,.int .i64 (g.ns.length:Int)),(21,.int .i64 (i:Int))]) (fun i wr=>i≤g.ns.length∧Below w.heap.size w wr∧Below cq.heap.size cq wr∧Lib.IsBuilder 67 5 cq.heap.size iT (Lib.byteCells ((g.ns.take i).flatMap rk)) wr) (fun i=>g.ns.length - i) (0) ?_ ?_ ?_
 · exact by repeat first|exact aB|refine au rfl (by first|rfl|exact int_eq (by omega)) ?_
 · exact ⟨by omega,hb,hbB,hI⟩
 rintro i wr wV _ CB
 replace wV:i≤g.ns.length∧Below w.heap.size w wr∧Below cq.heap.size cq wr∧Lib.IsBuilder 67 5 cq.heap.size iT (Lib.byteCells ((g.ns.take i).flatMap rk)) wr:=wV
 obtain ⟨hi,hb,hbB,hI⟩:=wV
 show Wc _ _ _ _ _ [(1,.pointer (some ⟨aX,0,none⟩)),(5,.pointer (some ⟨iT,0,none⟩)),(6,.func (.func 24) #[] #[.pointer (some ⟨iT,0,none⟩)]),(19,.slice A g.ns.length c),(20,.int .i64 (g.ns.length:Int)),(21,.int .i64 (i:Int))] _
 have hG:=bk.below hb
 have hL:=bw.below hb
 have aj:=iU.below hbB
 have:=hb.size
 have:=hbB.size
 refine ax fun _ jW=>?_
 have y4:w.heap.size≤cq.heap.size:=by omega
 refine aR<|ah (cg rfl rfl) rfl<|an jW<|ax fun _ jh=>aH rfl (fun nE=>?_) (fun nE=>?_)
 ·
  have HG:=nE;simp only [DZ] at nE;have hil:i<g.ns.length:=by have:=nE;omega
  obtain ⟨p_,rZ,hpe,hcl,hcell,hQ⟩:=hG.rn i hil;obtain ⟨A1,c1,B1,e1,rfl,hN⟩:=hQ;have hszn:=uF hil;have hnd:=RX hok hil;have hokn:=uy (f:=fun d:ND=>d.ps) hG.oks ct hil;have hpre:=Py rk g.ns i;have hnll:=RO hokn hnd;have htf:=F9 (g.ns.getD i ct).ls (g.ns.getD i ct).ps hokn (tV hnd);have hs1:(g.ns.getD i ct).n.length+gP (g.ns.getD i ct).ls+eV (g.ns.getD i ct).ps+1≤dO g:=hszn;have hq1:=td (g.ns.getD i ct).ls;have hq2:=uG (g.ns.getD i ct).ps;subst hpe;refine aU<|aw jh<|ax fun _ me=>br<|ao fun mf=>?_
  have hbR:=Below.refl wr.heap.size wr;have fy:=hN;refine ah (cx dJ pd rfl rfl (by omega) (by omega)) rfl<|aW (dM tg (by kernel_rfl) rfl (by exact oH hcell)) rfl<|el (z:=oo) (by kernel_rfl) rfl ?_
  rintro aab ajg aiv eh Fq;have:=Fq.size;have hb:=az hb Fq;have hG:=bk.below hb;have hL:=bw.below hb;have hbB:=az hbB Fq;have aj:=iU.below hbB;have hbR:=az hbR Fq;have hN:=fy.below hbR;have:=eh.lt;refine cH (by kernel_rfl) rfl rfl eh rfl rfl ?_;rintro d3 eh bI;have:=bI.size;have hb:=bY hb bI hb.size (by omega);have hG:=bk.below hb;have hL:=bw.below hb;have hbB:=bY hbB bI hbB.size (by omega);have aj:=iU.below hbB;have hbR:=bY hbR bI hbR.size (by omega);have hN:=fy.below hbR;refine an mf<|gG (n:=11) (fun w'=>Below cq.heap.size cq w'∧aq w' aab 43 [str (g.ns.getD i ct).n,.slice A1 (g.ns.getD i ct).ls.length c1,.slice B1 (g.ns.getD i ct).ps.length e1]) #[ac,ac,ac,ac,ac,ac,ac,ac,ac,ac,ac] (by kernel_rfl) rfl (by kernel_rfl)<|gF ?_
  rintro ahE uk;have:=uk.size;have hb:=az hb uk;have hG:=bk.below hb;have hL:=bw.below hb;have hbB:=az hbB uk;have aj:=iU.below hbB;have hbR:=az hbR uk;have hN:=fy.below hbR;have eh:=aq.below eh uk;refine aT (i:=0) #[ab,ac,ac,ac,ac,ac,ac,ac,ac,ac,ac] rfl (by kernel_rfl) aO rfl (fun wq hq=>a8 (bl rfl)) ⟨hbB,eh⟩<|aT (i:=1) #[ab,ab,ac,ac,ac,ac,ac,ac,ac,ac,ac] rfl (by kernel_rfl) aO rfl (fun wq hq=>a8 (aJ (r6 _) rfl)) ⟨hbB,eh⟩<|aT (i:=2) #[ab,ab,ab,ac,ac,ac,ac,ac,ac,ac,ac] rfl (by kernel_rfl) aO rfl (fun wq hq=>aI bQ rfl (by obtain ⟨hq,eh⟩:=hq;exact eh.at (j:=0) rfl)) ⟨hbB,eh⟩<|aT (i:=4) #[ab,ab,ab,ac,ab,ac,ac,ac,ac,ac,ac] rfl (by kernel_rfl) aO rfl (fun wq hq=>a8 (aJ (AS _) rfl)) ⟨hbB,eh⟩<|aT (i:=5) #[ab,ab,ab,ac,ab,ab,ac,ac,ac,ac,ac] rfl (by kernel_rfl) aO rfl (fun wq hq=>aI mD rfl (by obtain ⟨hq,eh⟩:=hq;exact eh.at (j:=1) rfl)) ⟨hbB,eh⟩<|aT (i:=6) #[ab,ab,ab,ac,ab,ab,ab,ac,ac,ac,ac] rfl (by kernel_rfl) aO rfl (fun wq hq=>a8 (aJ (AT _) rfl)) ⟨hbB,eh⟩<|aT (i:=7) #[ab,ab,ab,ac,ab,ab,ab,ab,ac,ac,ac] rfl (by kernel_rfl) aO rfl (fun wq hq=>aI rm rfl (by obtain ⟨hq,eh⟩:=hq;exact eh.at (j:=2) rfl)) ⟨hbB,eh⟩<|bM (rs:= [3,8]) (by kernel_rfl) rfl<|bv #[ab,ab,ab,ab,ab,ab,ab,ab,ac,ac,ac] rfl rfl (fun _ jj=>?_) ?_
  ·
   refine dX (sz:=1) (vs:= [_,_]) bK (by kernel_rfl) rfl rfl rfl rfl rfl rfl ?_;rintro gc kw dg cD dW;have qA:=dW.size;have hb:=az hb dW;have hG:=bk.below hb;have hL:=bw.below hb;have hbB:=az hbB dW;have aj:=iU.below hbB;have hbR:=az hbR dW;have hN:=fy.below hbR;have eh:=aq.below eh dW;have xH:=cD.lt;refine ay<|bu jj ⟨hbB,eh⟩<|bM (rs:= [8]) (by kernel_rfl) rfl<|bv #[ab,ab,ab,ab,ab,ab,ab,ab,ab,ac,ac] rfl rfl (fun _ iX=>?_) ?_
   ·
    refine aS Gi rfl rfl (EM S A1 c1 B1 e1 _ _ _ _ hN hokn (tV hnd) (Nat.le_trans hszn (Nat.le_trans hsz (by decide))) hL) rfl ?_;rintro _ ft ⟨hO2,bp⟩;have us:=bp.size;have hb:=az hb bp;have hG:=bk.below hb;have hL:=bw.below hb;have hbB:=az hbB bp;have aj:=iU.below hbB;have hbR:=az hbR bp;have hN:=fy.below hbR;have eh:=aq.below eh bp;have cD:=aq.below cD bp;refine ay<|bu iX ⟨hbB,eh⟩<|bM (rs:= [9]) (by kernel_rfl) rfl<|bv #[ab,ab,ab,ab,ab,ab,ab,ab,ab,ab,ac] rfl rfl (fun _ mi=>?_) ?_
    ·
     obtain ⟨Af,cf,hvf,_,_⟩:=eT hO2;subst hvf;have hOl:=cD.own (base:=wr.heap.size) (n:=2) (sz:=1) (by omega) rfl (by decide);refine dK (z:=(str [])) (sz:=1) (bytes:=16) bK (by kernel_rfl) rfl (by decide) _ rfl hOl rfl (fC hO2) (F3 _) (by simp only [maxLen];omega) (by omega) (by omega) rfl ?_;rintro ry mJ oi ey ug;have sY:=ey.size;have hb:=hb.grown ey hb.size (fun k_ ba=>by have:=(bz hOl k_ ba).1;omega);have hG:=bk.below hb;have hL:=bw.below hb;have hbB:=hbB.grown ey hbB.size (fun k_ ba=>by have:=(bz hOl k_ ba).1;omega);have aj:=iU.below hbB;have hbR:=hbR.grown ey hbR.size (fun k_ ba=>by have:=(bz hOl k_ ba).1;omega);have hN:=fy.below hbR;have eh:=aq.grown eh ey (by first|assumption|(simp [Value.ownBlock];omega));have hOl:=oi;refine ay<|bu mi ⟨hbB,eh⟩<|bM (rs:= [10]) (by kernel_rfl) rfl<|bv #[ab,ab,ab,ab,ab,ab,ab,ab,ab,ab,ab] rfl rfl (fun _ n5=>?_) ?_
     ·
      obtain ⟨Ac,cc,hvc,hcc,_⟩:=eT hOl;subst hvc;have hxs:(ko (g.ns.getD i ct)).length=2+((g.ns.getD i ct).ls.length+(g.ns.getD i ct).ps.length):=by unfold ko;rw [List.length_append,yO];rfl
      have htx:dA (ko (g.ns.getD i ct))=4+(g.ns.getD i ct).n.length+dA (nP (g.ns.getD i ct).ls (g.ns.getD i ct).ps):=by unfold ko;rw [yb,qH,qH];simp [dA,i8]
      have hjl:=zf (ko (g.ns.getD i ct));have hBM:=(BM.of hI).below hbR;refine aS Gn rfl rfl (Eb wr.heap.size cq.heap.size iT Ac cc _ (ko (g.ns.getD i ct)) _ hxs (by omega) hcc (by omega) _ hBM hbR.size hbB.size (by omega) (fC hOl) (by omega)) rfl ?_;rintro _ gu ⟨rfl,hI2,bG,hkp⟩;have xM:=bG.size;have hb:=hb.trans (bG.mono y4);have hbB:=hbB.trans bG;have eh:=aq.keep eh hkp (by omega);refine ay<|bu n5 ⟨hbB,eh⟩<|eE (by kernel_rfl)<|bS<|aw me<|aR<|ah (bH rfl rfl (by omega) (by omega)) rfl<|ai rfl<|ay<|fun a_ bn=>CB _ _ (i+1) (by omega) (by repeat first|exact aB|refine au rfl (by first|rfl|exact int_eq (by omega)) ?_) ?_ a_ bn
      exact ⟨by omega,hb,hbB,by rw [ER _ ct hil];exact hI2⟩
     exact bN
    exact bN
   exact bN
  refine bv #[ab,ab,ab,ac,ab,ab,ab,ab,ab,ac,ac] rfl rfl (fun _ mj=>?_) ?_
  ·
   refine aS Gi rfl rfl (EM S A1 c1 B1 e1 _ _ _ _ hN hokn (tV hnd) (Nat.le_trans hszn (Nat.le_trans hsz (by decide))) hL) rfl ?_;rintro _ ft ⟨hO2,bp⟩;have us:=bp.size;have hb:=az hb bp;have hG:=bk.below hb;have hL:=bw.below hb;have hbB:=az hbB bp;have aj:=iU.below hbB;have hbR:=az hbR bp;have hN:=fy.below hbR;have eh:=aq.below eh bp;refine ay<|bu mj ⟨hbB,eh⟩<|bM (rs:= [3]) (by kernel_rfl) rfl<|bv #[ab,ab,ab,ab,ab,ab,ab,ab,ab,ac,ac] rfl rfl (fun _ qo=>?_) ?_
   ·
    refine dX (sz:=1) (vs:= [_,_]) bK (by kernel_rfl) rfl rfl rfl rfl rfl rfl ?_;rintro gc kw dg cD dW;have qA:=dW.size;have hb:=az hb dW;have hG:=bk.below hb;have hL:=bw.below hb;have hbB:=az hbB dW;have aj:=iU.below hbB;have hbR:=az hbR dW;have hN:=fy.below hbR;have eh:=aq.below eh dW;have hO2:=cR hO2 dW;have xH:=cD.lt;refine ay<|bu qo ⟨hbB,eh⟩<|bM (rs:= [9]) (by kernel_rfl) rfl<|bv #[ab,ab,ab,ab,ab,ab,ab,ab,ab,ab,ac] rfl rfl (fun _ qp=>?_) ?_
    ·
     obtain ⟨Af,cf,hvf,_,_⟩:=eT hO2;subst hvf;have hOl:=cD.own (base:=wr.heap.size) (n:=2) (sz:=1) (by omega) rfl (by decide);refine dK (z:=(str [])) (sz:=1) (bytes:=16) bK (by kernel_rfl) rfl (by decide) _ rfl hOl rfl (fC hO2) (F3 _) (by simp only [maxLen];omega) (by omega) (by omega) rfl ?_;rintro ry mJ oi ey ug;have sY:=ey.size;have hb:=hb.grown ey hb.size (fun k_ ba=>by have:=(bz hOl k_ ba).1;omega);have hG:=bk.below hb;have hL:=bw.below hb;have hbB:=hbB.grown ey hbB.size (fun k_ ba=>by have:=(bz hOl k_ ba).1;omega);have aj:=iU.below hbB;have hbR:=hbR.grown ey hbR.size (fun k_ ba=>by have:=(bz hOl k_ ba).1;omega);have hN:=fy.below hbR;have eh:=aq.grown eh ey (by first|assumption|(simp [Value.ownBlock];omega));have hOl:=oi;refine ay<|bu qp ⟨hbB,eh⟩<|bM (rs:= [10]) (by kernel_rfl) rfl<|bv #[ab,ab,ab,ab,ab,ab,ab,ab,ab,ab,ab] rfl rfl (fun _ mm=>?_) ?_
     ·
      obtain ⟨Ac,cc,hvc,hcc,_⟩:=eT hOl;subst hvc;have hxs:(ko (g.ns.getD i ct)).length=2+((g.ns.getD i ct).ls.length+(g.ns.getD i ct).ps.length):=by unfold ko;rw [List.length_append,yO];rfl
      have htx:dA (ko (g.ns.getD i ct))=4+(g.ns.getD i ct).n.length+dA (nP (g.ns.getD i ct).ls (g.ns.getD i ct).ps):=by unfold ko;rw [yb,qH,qH];simp [dA,i8]
      have hjl:=zf (ko (g.ns.getD i ct));have hBM:=(BM.of hI).below hbR;refine aS Gn rfl rfl (Eb wr.heap.size cq.heap.size iT Ac cc _ (ko (g.ns.getD i ct)) _ hxs (by omega) hcc (by omega) _ hBM hbR.size hbB.size (by omega) (fC hOl) (by omega)) rfl ?_;rintro _ gu ⟨rfl,hI2,bG,hkp⟩;have xM:=bG.size;have hb:=hb.trans (bG.mono y4);have hbB:=hbB.trans bG;have eh:=aq.keep eh hkp (by omega);refine ay<|bu mm ⟨hbB,eh⟩<|eE (by kernel_rfl)<|bS<|aw me<|aR<|ah (bH rfl rfl (by omega) (by omega)) rfl<|ai rfl<|ay<|fun a_ bn=>CB _ _ (i+1) (by omega) (by repeat first|exact aB|refine au rfl (by first|rfl|exact int_eq (by omega)) ?_) ?_ a_ bn
      exact ⟨by omega,hb,hbB,by rw [ER _ ct hil];exact hI2⟩
     exact bN
    exact bN
   exact bN
  exact bN
 have HG:=nE
 simp only [DZ] at nE
 have hie:i=g.ns.length:=by have:=nE;omega
 rw [hie,List.take_length] at hI
 refine cN<|bD<|bD<|cO<|aw nV<|ax fun _ mn=>ao fun mo=>ah (aJ (jy _) rfl) rfl<|aW (aI gL rfl (by exact aj.at (j:=1) rfl)) rfl<|ah (cG d4 (by omega) rfl) rfl<|ai rfl<|an mo<|br<|cU (X:=Nat) (fun i=> [(1,.pointer (some ⟨aX,0,none⟩)),(5,.pointer (some ⟨iT,0,none⟩)),(6,.func (.func 24) #[] #[.pointer (some ⟨iT,0,none⟩)]),(38,.slice B g.es.length e),(39,.int .i64 (g.es.length:Int)),(40,.int .i64 (i:Int))]) (fun i wr=>i≤g.es.length∧Below w.heap.size w wr∧Below cq.heap.size cq wr∧Lib.IsBuilder 67 5 cq.heap.size iT (Lib.byteCells (g.ns.flatMap rk++(g.es.take i).flatMap (tU g))) wr) (fun i=>g.es.length - i) (0) ?_ ?_ ?_
 · exact by repeat first|exact aB|refine au rfl (by first|rfl|exact int_eq (by omega)) ?_
 · exact ⟨by omega,hb,hbB,by simpa using hI⟩
 rintro i wr xf _ E9
 replace xf:i≤g.es.length∧Below w.heap.size w wr∧Below cq.heap.size cq wr∧Lib.IsBuilder 67 5 cq.heap.size iT (Lib.byteCells (g.ns.flatMap rk++(g.es.take i).flatMap (tU g))) wr:=xf
 obtain ⟨hi,hb,hbB,hI⟩:=xf
 show Wc _ _ _ _ _ [(1,.pointer (some ⟨aX,0,none⟩)),(5,.pointer (some ⟨iT,0,none⟩)),(6,.func (.func 24) #[] #[.pointer (some ⟨iT,0,none⟩)]),(38,.slice B g.es.length e),(39,.int .i64 (g.es.length:Int)),(40,.int .i64 (i:Int))] _
 have hG:=bk.below hb
 have hL:=bw.below hb
 have aj:=iU.below hbB
 have:=hb.size
 have:=hbB.size
 refine ax fun _ mp=>?_
 have y4:w.heap.size≤cq.heap.size:=by omega
 refine aR<|ah (cg rfl rfl) rfl<|an mp<|ax fun _ KY=>aH rfl (fun vu=>?_) (fun vu=>?_)
 ·
  have X4:=vu;simp only [DZ] at vu;have hil:i<g.es.length:=by have:=vu;omega
  obtain ⟨p_,rZ,hpe,hcl,hcell,hQ⟩:=hG.re i hil;obtain ⟨A1,c1,B1,e1,rfl,hN⟩:=hQ;have hszn:=F5 hil;have hnd:=RW hok hil;obtain ⟨hel0,hfr,htw⟩:=OX hnd;have hokn:=uy (f:=fun d:ED=>d.ps) hG.oke bU hil;have hpre:=Py (tU g) g.es i;have hnll:=OV hokn hnd;have htf:=F9 (g.es.getD i bU).ls (g.es.getD i bU).ps hokn (tV hel0);have hs1:(g.es.getD i bU).n.length+gP (g.es.getD i bU).ls+eV (g.es.getD i bU).ps+1≤dO g:=hszn;have hq1:=td (g.es.getD i bU).ls;have hq2:=uG (g.es.getD i bU).ps;have hfn:=uF (g:=g) (i:=(g.es.getD i bU).fr.toNat) (by omega);have htn:=uF (g:=g) (i:=(g.es.getD i bU).tw.toNat) (by omega);have hfn2:(g.ns.getD (g.es.getD i bU).fr.toNat ct).n.length≤dO g:=by unfold jG at hfn;omega
  have htn2:(g.ns.getD (g.es.getD i bU).tw.toNat ct).n.length≤dO g:=by unfold jG at htn;omega
  have hal:(rL (g.es.getD i bU).dir).length=2:=by unfold rL;split<;>rfl
  obtain ⟨Sd,aif,hpf,_,hcf,hQf⟩:=hGk.rn (g.es.getD i bU).fr.toNat (by omega);obtain ⟨Af1,cf1,Bf1,ef1,rfl,hNf⟩:=hQf;obtain ⟨pt_,aig,hpt,_,hct,hQt⟩:=hGk.rn (g.es.getD i bU).tw.toNat (by omega);obtain ⟨At1,ct1,Bt1,et1,rfl,hNt⟩:=hQt;obtain rfl:Sd=pt_:=Option.some.inj (hpf.symm.trans hpt);subst hpe;subst hpf;refine aU<|aw KY<|ax fun _ ki=>br<|ao fun oT=>?_
  have hbR:=Below.refl wr.heap.size wr;have fy:=hN;refine ah (cx d4 x7 rfl rfl (by omega) (by omega)) rfl<|aW (dM mI (by kernel_rfl) rfl (by exact oH hcell)) rfl<|el (z:=mA) (by kernel_rfl) rfl ?_
  rintro wJ ahH aci b6 rf;have:=rf.size;have hb:=az hb rf;have hG:=bk.below hb;have hL:=bw.below hb;have hbB:=az hbB rf;have aj:=iU.below hbB;have hbR:=az hbR rf;have hN:=fy.below hbR;have:=b6.lt;refine cH (by kernel_rfl) rfl rfl b6 rfl rfl ?_;rintro ky b6 cd;have:=cd.size;have hb:=bY hb cd hb.size (by omega);have hG:=bk.below hb;have hL:=bw.below hb;have hbB:=bY hbB cd hbB.size (by omega);have aj:=iU.below hbB;have hbR:=bY hbR cd hbR.size (by omega);have hN:=fy.below hbR;refine an oT<|ao fun xy=>am rfl<|an xy<|ax fun _ oU=>ao fun lv=>ah (aJ (IV _) rfl) rfl<|aW (aI L6 rfl (by exact b6.at (j:=3) rfl)) rfl<|an lv<|b9 (X:=Unit) (fun u_=> [(1,.pointer (some ⟨aX,0,none⟩)),(5,.pointer (some ⟨iT,0,none⟩)),(6,.func (.func 24) #[] #[.pointer (some ⟨iT,0,none⟩)]),(10,.pointer (some ⟨wJ,0,none⟩)),(11,str (rL (g.es.getD i bU).dir)),(38,.slice (some p_) g.es.length e),(39,.int .i64 (g.es.length:Int)),(40,.int .i64 (i:Int))]) (fun u_ wm=>Below w.heap.size w wm∧Below cq.heap.size cq wm∧Below wr.heap.size wr wm∧aq wm wJ 46 [str (g.es.getD i bU).n,.int .i64 (g.es.getD i bU).fr,.int .i64 (g.es.getD i bU).tw,.bool (g.es.getD i bU).dir,.slice A1 (g.es.getD i bU).ls.length c1,.slice B1 (g.es.getD i bU).ps.length e1]) (fun _ Qz=>?_) ?_
  ·
   refine aH rfl (fun H9=>?_) (fun H9=>?_)
   ·
    have Ia:=H9;refine aR<|am rfl<|ay<|aY Qz (()) (by repeat first|exact aB|refine au rfl (by first|rfl|exact dw (by unfold rL;rw [Ia];rfl)) ?_) ?_
    exact ⟨hb,hbB,hbR,b6⟩
   have Ia:=H9;refine aU<|aY Qz (()) (by repeat first|exact aB|refine au rfl (by first|rfl|exact dw (by unfold rL;rw [Ia];rfl)) ?_) ?_
   exact ⟨hb,hbB,hbR,b6⟩
  rintro u_ wm xh;replace xh:Below w.heap.size w wm∧Below cq.heap.size cq wm∧Below wr.heap.size wr wm∧aq wm wJ 46 [str (g.es.getD i bU).n,.int .i64 (g.es.getD i bU).fr,.int .i64 (g.es.getD i bU).tw,.bool (g.es.getD i bU).dir,.slice A1 (g.es.getD i bU).ls.length c1,.slice B1 (g.es.getD i bU).ps.length e1]:=xh;obtain ⟨hb,hbB,hbR,b6⟩:=xh;show Wq _ _ _ _ [(1,.pointer (some ⟨aX,0,none⟩)),(5,.pointer (some ⟨iT,0,none⟩)),(6,.func (.func 24) #[] #[.pointer (some ⟨iT,0,none⟩)]),(10,.pointer (some ⟨wJ,0,none⟩)),(11,str (rL (g.es.getD i bU).dir)),(38,.slice (some p_) g.es.length e),(39,.int .i64 (g.es.length:Int)),(40,.int .i64 (i:Int))] _;have hG:=bk.below hb;have hL:=bw.below hb;have aj:=iU.below hbB;have hN:=fy.below hbR;have:=hb.size;have:=hbB.size;have:=hbR.size;have:=b6.lt;refine aw oU<|gG (n:=26) (fun w'=>Below cq.heap.size cq w'∧aq w' aX 27 [.slice (some Sd) g.ns.length c,.slice (some p_) g.es.length e]∧aq w' wJ 46 [str (g.es.getD i bU).n,.int .i64 (g.es.getD i bU).fr,.int .i64 (g.es.getD i bU).tw,.bool (g.es.getD i bU).dir,.slice A1 (g.es.getD i bU).ls.length c1,.slice B1 (g.es.getD i bU).ps.length e1]) #[ac,ac,ac,ac,ac,ac,ac,ac,ac,ac,ac,ac,ac,ac,ac,ac,ac,ac,ac,ac,ac,ac,ac,ac,ac,ac] (by kernel_rfl) rfl (by kernel_rfl)<|gF ?_
  rintro ai5 CY;have:=CY.size;have hb:=az hb CY;have hG:=bk.below hb;have hL:=bw.below hb;have hbB:=az hbB CY;have aj:=iU.below hbB;have hbR:=az hbR CY;have hN:=fy.below hbR;have b6:=aq.below b6 CY;refine aT (i:=0) #[ab,ac,ac,ac,ac,ac,ac,ac,ac,ac,ac,ac,ac,ac,ac,ac,ac,ac,ac,ac,ac,ac,ac,ac,ac,ac] rfl (by kernel_rfl) aO rfl (fun wq hq=>a8 (bl rfl)) ⟨hbB,aj,b6⟩<|aT (i:=1) #[ab,ab,ac,ac,ac,ac,ac,ac,ac,ac,ac,ac,ac,ac,ac,ac,ac,ac,ac,ac,ac,ac,ac,ac,ac,ac] rfl (by kernel_rfl) aO rfl (fun wq hq=>a8 (aJ (wj _) rfl)) ⟨hbB,aj,b6⟩<|aT (i:=2) #[ab,ab,ab,ac,ac,ac,ac,ac,ac,ac,ac,ac,ac,ac,ac,ac,ac,ac,ac,ac,ac,ac,ac,ac,ac,ac] rfl (by kernel_rfl) aO rfl (fun wq hq=>aI bQ rfl (by obtain ⟨hq,aj,b6⟩:=hq;exact b6.at (j:=0) rfl)) ⟨hbB,aj,b6⟩<|aT (i:=3) #[ab,ab,ab,ab,ac,ac,ac,ac,ac,ac,ac,ac,ac,ac,ac,ac,ac,ac,ac,ac,ac,ac,ac,ac,ac,ac] rfl (by kernel_rfl) aO rfl (fun wq hq=>a8 (aJ (gw _) rfl)) ⟨hbB,aj,b6⟩<|aT (i:=4) #[ab,ab,ab,ab,ab,ac,ac,ac,ac,ac,ac,ac,ac,ac,ac,ac,ac,ac,ac,ac,ac,ac,ac,ac,ac,ac] rfl (by kernel_rfl) aO rfl (fun wq hq=>aI fG rfl (by obtain ⟨hq,aj,b6⟩:=hq;exact aj.at (j:=0) rfl)) ⟨hbB,aj,b6⟩<|aT (i:=5) #[ab,ab,ab,ab,ab,ab,ac,ac,ac,ac,ac,ac,ac,ac,ac,ac,ac,ac,ac,ac,ac,ac,ac,ac,ac,ac] rfl (by kernel_rfl) aO rfl (fun wq hq=>a8 (aJ (AU _) rfl)) ⟨hbB,aj,b6⟩<|aT (i:=6) #[ab,ab,ab,ab,ab,ab,ab,ac,ac,ac,ac,ac,ac,ac,ac,ac,ac,ac,ac,ac,ac,ac,ac,ac,ac,ac] rfl (by kernel_rfl) aO rfl (fun wq hq=>aI f8 rfl (by obtain ⟨hq,aj,b6⟩:=hq;exact b6.at (j:=1) rfl)) ⟨hbB,aj,b6⟩<|aT (i:=7) #[ab,ab,ab,ab,ab,ab,ab,ab,ac,ac,ac,ac,ac,ac,ac,ac,ac,ac,ac,ac,ac,ac,ac,ac,ac,ac] rfl (by kernel_rfl) aO rfl (fun wq hq=>a8 (cx dJ pd rfl rfl (by omega) (by omega))) ⟨hbB,aj,b6⟩<|aT (i:=8) #[ab,ab,ab,ab,ab,ab,ab,ab,ab,ac,ac,ac,ac,ac,ac,ac,ac,ac,ac,ac,ac,ac,ac,ac,ac,ac] rfl (by kernel_rfl) aO rfl (fun wq hq=>a8 (aJ (r6 _) rfl)) ⟨hbB,aj,b6⟩<|aT (i:=9) #[ab,ab,ab,ab,ab,ab,ab,ab,ab,ab,ac,ac,ac,ac,ac,ac,ac,ac,ac,ac,ac,ac,ac,ac,ac,ac] rfl (by kernel_rfl) aO rfl (fun wq hq=>aI bQ rfl (by obtain ⟨hq,aj,b6⟩:=hq;exact ip hq (hcf 0 _ rfl))) ⟨hbB,aj,b6⟩<|aT (i:=10) #[ab,ab,ab,ab,ab,ab,ab,ab,ab,ab,ab,ac,ac,ac,ac,ac,ac,ac,ac,ac,ac,ac,ac,ac,ac,ac] rfl (by kernel_rfl) aO rfl (fun wq hq=>a8 (bl rfl)) ⟨hbB,aj,b6⟩<|aT (i:=11) #[ab,ab,ab,ab,ab,ab,ab,ab,ab,ab,ab,ab,ac,ac,ac,ac,ac,ac,ac,ac,ac,ac,ac,ac,ac,ac] rfl (by kernel_rfl) aO rfl (fun wq hq=>a8 (aJ (gw _) rfl)) ⟨hbB,aj,b6⟩<|aT (i:=12) #[ab,ab,ab,ab,ab,ab,ab,ab,ab,ab,ab,ab,ab,ac,ac,ac,ac,ac,ac,ac,ac,ac,ac,ac,ac,ac] rfl (by kernel_rfl) aO rfl (fun wq hq=>aI fG rfl (by obtain ⟨hq,aj,b6⟩:=hq;exact aj.at (j:=0) rfl)) ⟨hbB,aj,b6⟩<|aT (i:=13) #[ab,ab,ab,ab,ab,ab,ab,ab,ab,ab,ab,ab,ab,ab,ac,ac,ac,ac,ac,ac,ac,ac,ac,ac,ac,ac] rfl (by kernel_rfl) aO rfl (fun wq hq=>a8 (aJ (AV _) rfl)) ⟨hbB,aj,b6⟩<|aT (i:=14) #[ab,ab,ab,ab,ab,ab,ab,ab,ab,ab,ab,ab,ab,ab,ab,ac,ac,ac,ac,ac,ac,ac,ac,ac,ac,ac] rfl (by kernel_rfl) aO rfl (fun wq hq=>aI f8 rfl (by obtain ⟨hq,aj,b6⟩:=hq;exact b6.at (j:=2) rfl)) ⟨hbB,aj,b6⟩<|aT (i:=15) #[ab,ab,ab,ab,ab,ab,ab,ab,ab,ab,ab,ab,ab,ab,ab,ab,ac,ac,ac,ac,ac,ac,ac,ac,ac,ac] rfl (by kernel_rfl) aO rfl (fun wq hq=>a8 (cx dJ pd rfl rfl (by omega) (by omega))) ⟨hbB,aj,b6⟩<|aT (i:=16) #[ab,ab,ab,ab,ab,ab,ab,ab,ab,ab,ab,ab,ab,ab,ab,ab,ab,ac,ac,ac,ac,ac,ac,ac,ac,ac] rfl (by kernel_rfl) aO rfl (fun wq hq=>a8 (aJ (r6 _) rfl)) ⟨hbB,aj,b6⟩<|aT (i:=17) #[ab,ab,ab,ab,ab,ab,ab,ab,ab,ab,ab,ab,ab,ab,ab,ab,ab,ab,ac,ac,ac,ac,ac,ac,ac,ac] rfl (by kernel_rfl) aO rfl (fun wq hq=>aI bQ rfl (by obtain ⟨hq,aj,b6⟩:=hq;exact ip hq (hct 0 _ rfl))) ⟨hbB,aj,b6⟩<|aT (i:=19) #[ab,ab,ab,ab,ab,ab,ab,ab,ab,ab,ab,ab,ab,ab,ab,ab,ab,ab,ac,ab,ac,ac,ac,ac,ac,ac] rfl (by kernel_rfl) aO rfl (fun wq hq=>a8 (aJ (AW _) rfl)) ⟨hbB,aj,b6⟩<|aT (i:=20) #[ab,ab,ab,ab,ab,ab,ab,ab,ab,ab,ab,ab,ab,ab,ab,ab,ab,ab,ac,ab,ab,ac,ac,ac,ac,ac] rfl (by kernel_rfl) aO rfl (fun wq hq=>aI mD rfl (by obtain ⟨hq,aj,b6⟩:=hq;exact b6.at (j:=4) rfl)) ⟨hbB,aj,b6⟩<|aT (i:=21) #[ab,ab,ab,ab,ab,ab,ab,ab,ab,ab,ab,ab,ab,ab,ab,ab,ab,ab,ac,ab,ab,ab,ac,ac,ac,ac] rfl (by kernel_rfl) aO rfl (fun wq hq=>a8 (aJ (AX _) rfl)) ⟨hbB,aj,b6⟩<|aT (i:=22) #[ab,ab,ab,ab,ab,ab,ab,ab,ab,ab,ab,ab,ab,ab,ab,ab,ab,ab,ac,ab,ab,ab,ab,ac,ac,ac] rfl (by kernel_rfl) aO rfl (fun wq hq=>aI rm rfl (by obtain ⟨hq,aj,b6⟩:=hq;exact b6.at (j:=5) rfl)) ⟨hbB,aj,b6⟩<|bM (rs:= [18,23]) (by kernel_rfl) rfl<|bv #[ab,ab,ab,ab,ab,ab,ab,ab,ab,ab,ab,ab,ab,ab,ab,ab,ab,ab,ab,ab,ab,ab,ab,ac,ac,ac] rfl rfl (fun _ xk=>?_) ?_
  ·
   refine dX (sz:=1) (vs:= [_,_,_,_,_]) bK (by kernel_rfl) rfl rfl rfl rfl rfl rfl ?_;rintro gW oz kk dz du;have qB:=du.size;have hb:=az hb du;have hG:=bk.below hb;have hL:=bw.below hb;have hbB:=az hbB du;have aj:=iU.below hbB;have hbR:=az hbR du;have hN:=fy.below hbR;have b6:=aq.below b6 du;have ui:=dz.lt;refine ay<|bu xk ⟨hbB,aj,b6⟩<|bM (rs:= [23]) (by kernel_rfl) rfl<|bv #[ab,ab,ab,ab,ab,ab,ab,ab,ab,ab,ab,ab,ab,ab,ab,ab,ab,ab,ab,ab,ab,ab,ab,ab,ac,ac] rfl rfl (fun _ sF=>?_) ?_
   ·
    refine aS Gi rfl rfl (EM S A1 c1 B1 e1 _ _ _ _ hN hokn (tV hel0) (Nat.le_trans hszn (Nat.le_trans hsz (by decide))) hL) rfl ?_;rintro _ hZ ⟨hO2,ck⟩;have LF:=ck.size;have hb:=az hb ck;have hG:=bk.below hb;have hL:=bw.below hb;have hbB:=az hbB ck;have aj:=iU.below hbB;have hbR:=az hbR ck;have hN:=fy.below hbR;have b6:=aq.below b6 ck;have dz:=aq.below dz ck;refine ay<|bu sF ⟨hbB,aj,b6⟩<|bM (rs:= [24]) (by kernel_rfl) rfl<|bv #[ab,ab,ab,ab,ab,ab,ab,ab,ab,ab,ab,ab,ab,ab,ab,ab,ab,ab,ab,ab,ab,ab,ab,ab,ab,ac] rfl rfl (fun _ xl=>?_) ?_
    ·
     obtain ⟨Af,cf,hvf,_,_⟩:=eT hO2;subst hvf;have hOl:=dz.own (base:=wr.heap.size) (n:=5) (sz:=1) (by omega) rfl (by decide);refine dK (z:=(str [])) (sz:=1) (bytes:=16) bK (by kernel_rfl) rfl (by decide) _ rfl hOl rfl (fC hO2) (F3 _) (by simp only [maxLen];omega) (by omega) (by omega) rfl ?_;rintro yg tk oj e8 yY;have Fs:=e8.size;have hb:=hb.grown e8 hb.size (fun k_ ba=>by have:=(bz hOl k_ ba).1;omega);have hG:=bk.below hb;have hL:=bw.below hb;have hbB:=hbB.grown e8 hbB.size (fun k_ ba=>by have:=(bz hOl k_ ba).1;omega);have aj:=iU.below hbB;have hbR:=hbR.grown e8 hbR.size (fun k_ ba=>by have:=(bz hOl k_ ba).1;omega);have hN:=fy.below hbR;have b6:=aq.grown b6 e8 (by first|assumption|(simp [Value.ownBlock];omega));have hOl:=oj;refine ay<|bu xl ⟨hbB,aj,b6⟩<|bM (rs:= [25]) (by kernel_rfl) rfl<|bv #[ab,ab,ab,ab,ab,ab,ab,ab,ab,ab,ab,ab,ab,ab,ab,ab,ab,ab,ab,ab,ab,ab,ab,ab,ab,ab] rfl rfl (fun _ aao=>?_) ?_
     ·
      obtain ⟨Ac,cc,hvc,hcc,_⟩:=eT hOl;subst hvc;have hxs:(ka g (g.es.getD i bU)).length=5+((g.es.getD i bU).ls.length+(g.es.getD i bU).ps.length):=by unfold ka;rw [List.length_append,yO];rfl
      have htx:dA (ka g (g.es.getD i bU))=4+(g.es.getD i bU).n.length+(g.ns.getD (g.es.getD i bU).fr.toNat ct).n.length+2+(g.ns.getD (g.es.getD i bU).tw.toNat ct).n.length+dA (nP (g.es.getD i bU).ls (g.es.getD i bU).ps):=by unfold ka;rw [yb];simp only [qH,hal];simp [dA,jH];omega
      have hjl:=zf (ka g (g.es.getD i bU));have hBM:=(BM.of hI).below hbR;refine aS Gn rfl rfl (Eb wr.heap.size cq.heap.size iT Ac cc _ (ka g (g.es.getD i bU)) _ hxs (by omega) hcc (by omega) _ hBM hbR.size hbB.size (by rw [List.length_append];omega) (fC hOl) (by omega)) rfl ?_;rintro _ nq ⟨rfl,hI2,dE,hkp⟩;have acR:=dE.size;have aj:aq nq aX 27 _:=(dE.block aX (by omega)).trans aj;have hb:=hb.trans (dE.mono y4);have hbB:=hbB.trans dE;have b6:=aq.keep b6 hkp (by omega);refine ay<|bu aao ⟨hbB,aj,b6⟩<|eE (by kernel_rfl)<|bS<|aw ki<|aR<|ah (bH rfl rfl (by omega) (by omega)) rfl<|ai rfl<|ay<|fun a_ bn=>E9 _ _ (i+1) (by omega) (by repeat first|exact aB|refine au rfl (by first|rfl|exact int_eq (by omega)) ?_) ?_ a_ bn
      exact ⟨by omega,hb,hbB,by rw [ER _ bU hil,←List.append_assoc];exact hI2⟩
     exact bN
    exact bN
   exact bN
  refine bv #[ab,ab,ab,ab,ab,ab,ab,ab,ab,ab,ab,ab,ab,ab,ab,ab,ab,ab,ac,ab,ab,ab,ab,ab,ac,ac] rfl rfl (fun _ aap=>?_) ?_
  ·
   refine aS Gi rfl rfl (EM S A1 c1 B1 e1 _ _ _ _ hN hokn (tV hel0) (Nat.le_trans hszn (Nat.le_trans hsz (by decide))) hL) rfl ?_;rintro _ hZ ⟨hO2,ck⟩;have LF:=ck.size;have hb:=az hb ck;have hG:=bk.below hb;have hL:=bw.below hb;have hbB:=az hbB ck;have aj:=iU.below hbB;have hbR:=az hbR ck;have hN:=fy.below hbR;have b6:=aq.below b6 ck;refine ay<|bu aap ⟨hbB,aj,b6⟩<|bM (rs:= [18]) (by kernel_rfl) rfl<|bv #[ab,ab,ab,ab,ab,ab,ab,ab,ab,ab,ab,ab,ab,ab,ab,ab,ab,ab,ab,ab,ab,ab,ab,ab,ac,ac] rfl rfl (fun _ Cg=>?_) ?_
   ·
    refine dX (sz:=1) (vs:= [_,_,_,_,_]) bK (by kernel_rfl) rfl rfl rfl rfl rfl rfl ?_;rintro gW oz kk dz du;have qB:=du.size;have hb:=az hb du;have hG:=bk.below hb;have hL:=bw.below hb;have hbB:=az hbB du;have aj:=iU.below hbB;have hbR:=az hbR du;have hN:=fy.below hbR;have b6:=aq.below b6 du;have hO2:=cR hO2 du;have ui:=dz.lt;refine ay<|bu Cg ⟨hbB,aj,b6⟩<|bM (rs:= [24]) (by kernel_rfl) rfl<|bv #[ab,ab,ab,ab,ab,ab,ab,ab,ab,ab,ab,ab,ab,ab,ab,ab,ab,ab,ab,ab,ab,ab,ab,ab,ab,ac] rfl rfl (fun _ Ch=>?_) ?_
    ·
     obtain ⟨Af,cf,hvf,_,_⟩:=eT hO2;subst hvf;have hOl:=dz.own (base:=wr.heap.size) (n:=5) (sz:=1) (by omega) rfl (by decide);refine dK (z:=(str [])) (sz:=1) (bytes:=16) bK (by kernel_rfl) rfl (by decide) _ rfl hOl rfl (fC hO2) (F3 _) (by simp only [maxLen];omega) (by omega) (by omega) rfl ?_;rintro yg tk oj e8 yY;have Fs:=e8.size;have hb:=hb.grown e8 hb.size (fun k_ ba=>by have:=(bz hOl k_ ba).1;omega);have hG:=bk.below hb;have hL:=bw.below hb;have hbB:=hbB.grown e8 hbB.size (fun k_ ba=>by have:=(bz hOl k_ ba).1;omega);have aj:=iU.below hbB;have hbR:=hbR.grown e8 hbR.size (fun k_ ba=>by have:=(bz hOl k_ ba).1;omega);have hN:=fy.below hbR;have b6:=aq.grown b6 e8 (by first|assumption|(simp [Value.ownBlock];omega));have hOl:=oj;refine ay<|bu Ch ⟨hbB,aj,b6⟩<|bM (rs:= [25]) (by kernel_rfl) rfl<|bv #[ab,ab,ab,ab,ab,ab,ab,ab,ab,ab,ab,ab,ab,ab,ab,ab,ab,ab,ab,ab,ab,ab,ab,ab,ab,ab] rfl rfl (fun _ aaq=>?_) ?_
     ·
      obtain ⟨Ac,cc,hvc,hcc,_⟩:=eT hOl;subst hvc;have hxs:(ka g (g.es.getD i bU)).length=5+((g.es.getD i bU).ls.length+(g.es.getD i bU).ps.length):=by unfold ka;rw [List.length_append,yO];rfl
      have htx:dA (ka g (g.es.getD i bU))=4+(g.es.getD i bU).n.length+(g.ns.getD (g.es.getD i bU).fr.toNat ct).n.length+2+(g.ns.getD (g.es.getD i bU).tw.toNat ct).n.length+dA (nP (g.es.getD i bU).ls (g.es.getD i bU).ps):=by unfold ka;rw [yb];simp only [qH,hal];simp [dA,jH];omega
      have hjl:=zf (ka g (g.es.getD i bU));have hBM:=(BM.of hI).below hbR;refine aS Gn rfl rfl (Eb wr.heap.size cq.heap.size iT Ac cc _ (ka g (g.es.getD i bU)) _ hxs (by omega) hcc (by omega) _ hBM hbR.size hbB.size (by rw [List.length_append];omega) (fC hOl) (by omega)) rfl ?_;rintro _ nq ⟨rfl,hI2,dE,hkp⟩;have acR:=dE.size;have aj:aq nq aX 27 _:=(dE.block aX (by omega)).trans aj;have hb:=hb.trans (dE.mono y4);have hbB:=hbB.trans dE;have b6:=aq.keep b6 hkp (by omega);refine ay<|bu aaq ⟨hbB,aj,b6⟩<|eE (by kernel_rfl)<|bS<|aw ki<|aR<|ah (bH rfl rfl (by omega) (by omega)) rfl<|ai rfl<|ay<|fun a_ bn=>E9 _ _ (i+1) (by omega) (by repeat first|exact aB|refine au rfl (by first|rfl|exact int_eq (by omega)) ?_) ?_ a_ bn
      exact ⟨by omega,hb,hbB,by rw [ER _ bU hil,←List.append_assoc];exact hI2⟩
     exact bN
    exact bN
   exact bN
  exact bN
 have X4:=vu
 simp only [DZ] at vu
 have hie:i=g.es.length:=by have:=vu;omega
 rw [hie,List.take_length] at hI
 refine cN<|bD<|bD<|cO<|aw mn<|ao fun aar=>aS MS rfl rfl (GK cq.heap.size iT _ _ hI hbB.size) rfl ?_
 rintro _ gD ⟨rfl,fk⟩
 refine am rfl<|am rfl<|an aar<|aK<|dv rfl rfl rfl ?_
 exact ⟨_,rfl,by have h0:ru g=0:=(by simpa using dH);rw [if_pos h0,h0];rfl,hb.trans (fk.mono y4)⟩
end Go.Proofs.YtjmlknjbhbfneaaGreatDoor
