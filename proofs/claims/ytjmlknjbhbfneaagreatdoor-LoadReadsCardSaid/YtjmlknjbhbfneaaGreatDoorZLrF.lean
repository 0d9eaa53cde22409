import Derived.Test.YtjmlknjbhbfneaaGreatDoorZLrE
namespace Go.Proofs.YtjmlknjbhbfneaaGreatDoor
open Go.RowKit Go.Bw Go.Bw.Fl
set_option linter.unusedVariables false
set_option linter.unusedSimpArgs false
theorem TS:bC Tryz.prog 45:=⟨_,Tryz.func45,by kernel_rfl,rfl⟩
theorem MU:bC Tryz.prog 47:=⟨_,Tryz.func47,by kernel_rfl,rfl⟩
theorem Gk:bC Tryz.prog 48:=⟨_,Tryz.func48,by kernel_rfl,rfl⟩
theorem agT:bC Tryz.prog 49:=⟨_,Tryz.func49,by kernel_rfl,rfl⟩
theorem j6 {B:Nat} {w wa wb:World} (ha:Below B w wa) (hb:Below B w wb) {k:Nat} (hk:k<B):wb.heap[k]? =wa.heap[k]? :=(hb.block k hk).trans (ha.block k hk).symm
section
variable {B L:Nat} {S2:Nat→Prop} {w:World} {A A' A2:Option Addr} {c c' c2:Nat} {g:GV}
theorem aag {d:ND} (hG:cB B L w A c A' c' g) (hS:∀k,B≤k→k<L→S2 k) (hc2:g.ns.length+1≤c2) (hrow:lJ w 3 A2 (g.ns.length+1) (fun i cs=>lI S2 w cs ((g.ns++ [d]).getD i ct))) (hok:∀p∈d.ps,p.2.Ok) (ha:∀q,A2=some q→S2 q.block):jJ S2 w A2 c2 A' c' ⟨g.ns++ [d],g.es⟩:=
 ⟨⟨by simpa using hc2,hG.gat.ec,by simpa using hrow,hG.gat.re.keep (fun _ _=>rfl) (fun _ _ _ hq=>hq.keep (fun _ _=>rfl) (fun k hk=>hS k hk.1 hk.2)),fun x hx=>by
  rcases List.mem_append.1 hx with h|h
  · exact hG.gat.oks x h
  · rw [List.mem_singleton.1 h];exact hok,hG.gat.oke⟩,ha,fun q e=>hS _ (hG.a2 q e).1 (hG.a2 q e).2⟩
theorem aaf {d:ED} (hG:cB B L w A c A' c' g) (hS:∀k,B≤k→k<L→S2 k) (hc2:g.es.length+1≤c2) (hrow:lJ w 6 A2 (g.es.length+1) (fun i cs=>lG S2 w cs ((g.es++ [d]).getD i bU))) (hok:∀p∈d.ps,p.2.Ok) (ha:∀q,A2=some q→S2 q.block):jJ S2 w A c A2 c2 ⟨g.ns,g.es++ [d]⟩:=
 ⟨⟨hG.gat.nc,by simpa using hc2,hG.gat.rn.keep (fun _ _=>rfl) (fun _ _ _ hq=>hq.keep (fun _ _=>rfl) (fun k hk=>hS k hk.1 hk.2)),by simpa using hrow,hG.gat.oks,fun x hx=>by
  rcases List.mem_append.1 hx with h|h
  · exact hG.gat.oke x h
  · rw [List.mem_singleton.1 h];exact hok⟩,fun q e=>hS _ (hG.a1 q e).1 (hG.a1 q e).2,ha⟩
end
theorem adX {B base kA kB g0 g1:Nat} {w w5 w6:World} {A A' Al Ap:Option Addr} {c c' cl cp:Nat} {g:GV} {css:List (List Value)} {V:Value} {d:ND} (hG:cB B w.heap.size w6 A c A' c' g) (h5:Below w.heap.size w w5) (h6:Below w.heap.size w w6) (hcn:css.length=g.ns.length) (hcs:∀c∈css,c.length=3) (hQ:∀i,i<g.ns.length→lI (fun k=>B≤k∧k<w.heap.size) w5 (css.getD i []) (g.ns.getD i ct))
 (hO:w6.ownsRow base 43 3 V (0+g.ns.length+1) ([]++css.flatten++ [str d.n,.slice Al d.ls.length cl,.slice Ap d.ps.length cp])) (hN:cY (fun k=>kA≤k∧k<kB) w6 Al cl Ap cp d) (hok:∀p∈d.ps,p.2.Ok) (hn:B≤w.heap.size∧w.heap.size≤g0∧g0<g1∧g1<kA∧kB≤base∧kB≤w6.heap.size∧g1<base):
 ∃A2 c2,V= .slice A2 (g.ns.length+1) c2∧jJ (fun k=>B≤k∧k<w6.heap.size∧k≠g0∧k≠g1) w6 A2 c2 A' c' ⟨g.ns++ [d],g.es⟩:=by
 have hz:=h6.size
 obtain ⟨A2,c2,hv5,hc2,hrow⟩:=SS (Q:=fun i cs=>lI (fun k=>B≤k∧k<w6.heap.size∧k≠g0∧k≠g1) w6 cs ((g.ns++ [d]).getD i ct)) (ot hO rfl (by omega)) hcn hcs rfl (by decide) (fun i hi=>by rw [qZ,if_pos hi];exact (hQ i hi).keep (fun k hk=>j6 h5 h6 hk.2) (fun k hk=>⟨hk.1,by have:=hk.2;omega,by have:=hk.2;omega,by have:=hk.2;omega⟩)) (by rw [qZ,if_neg (Nat.lt_irrefl _),if_pos rfl];exact ⟨Al,cl,Ap,cp,rfl,hN.keep (fun _ _=>rfl) (fun k hk=>⟨by have:=hk.1;omega,by have:=hk.2;omega,by have:=hk.1;omega,by have:=hk.1;omega⟩)⟩)
 have hob:=bz hO
 subst hv5
 exact ⟨A2,c2,rfl,aag hG (fun k h1 h2=>⟨h1,by omega,by omega,by omega⟩) hc2 hrow hok (fun q e=>by have h1:=hob q.block (by rw [e];rfl);exact ⟨by omega,h1.2,by omega,by omega⟩)⟩
theorem Zt {B base kA kB g0 g1:Nat} {w w5 w6:World} {A A' Al Ap:Option Addr} {c c' cl cp:Nat} {g:GV} {css:List (List Value)} {V:Value} {d:ED} (hG:cB B w.heap.size w6 A c A' c' g) (h5:Below w.heap.size w w5) (h6:Below w.heap.size w w6) (hcn:css.length=g.es.length) (hcs:∀c∈css,c.length=6) (hQ:∀i,i<g.es.length→lG (fun k=>B≤k∧k<w.heap.size) w5 (css.getD i []) (g.es.getD i bU))
 (hO:w6.ownsRow base 46 6 V (0+g.es.length+1) ([]++css.flatten++ [str d.n,.int .i64 d.fr,.int .i64 d.tw,.bool d.dir,.slice Al d.ls.length cl,.slice Ap d.ps.length cp])) (hN:cY (fun k=>kA≤k∧k<kB) w6 Al cl Ap cp ⟨d.n,d.ls,d.ps⟩) (hok:∀p∈d.ps,p.2.Ok) (hn:B≤w.heap.size∧w.heap.size≤g0∧g0<g1∧g1<kA∧kB≤base∧kB≤w6.heap.size∧g1<base):
 ∃A2 c2,V= .slice A2 (g.es.length+1) c2∧jJ (fun k=>B≤k∧k<w6.heap.size∧k≠g0∧k≠g1) w6 A c A2 c2 ⟨g.ns,g.es++ [d]⟩:=by
 have hz:=h6.size
 obtain ⟨A2,c2,hv5,hc2,hrow⟩:=SS (Q:=fun i cs=>lG (fun k=>B≤k∧k<w6.heap.size∧k≠g0∧k≠g1) w6 cs ((g.es++ [d]).getD i bU)) (ot hO rfl (by omega)) hcn hcs rfl (by decide) (fun i hi=>by rw [qZ,if_pos hi];exact (hQ i hi).keep (fun k hk=>j6 h5 h6 hk.2) (fun k hk=>⟨hk.1,by have:=hk.2;omega,by have:=hk.2;omega,by have:=hk.2;omega⟩)) (by rw [qZ,if_neg (Nat.lt_irrefl _),if_pos rfl];exact ⟨Al,cl,Ap,cp,rfl,hN.keep (fun _ _=>rfl) (fun k hk=>⟨by have:=hk.1;omega,by have:=hk.2;omega,by have:=hk.1;omega,by have:=hk.1;omega⟩)⟩)
 have hob:=bz hO
 subst hv5
 exact ⟨A2,c2,rfl,aaf hG (fun k h1 h2=>⟨h1,by omega,by omega,by omega⟩) hc2 hrow hok (fun q e=>by have h1:=hob q.block (by rw [e];rfl);exact ⟨by omega,h1.2,by omega,by omega⟩)⟩
theorem Xi (x:al):(x== [45,62])=decide (x=gQ):=by rw [Bool.eq_iff_iff,beq_iff_eq,decide_eq_true_eq];rfl
theorem Rj (L:Nat) (l:List (al)) (h:l.length≤L) (k:Nat):(l.drop k).length≤L:=by rw [List.length_drop];omega
set_option maxHeartbeats 1000000 in
theorem Vy (B:Nat) (A:Option Addr) (c:Nat) (A':Option Addr) (c':Nat) (g:GV) (Ll:Option Addr) (Lc:Nat) (l:List (al)) (w:World) (hG:cB B w.heap.size w A c A' c' g) (hR:Rd w 1 Ll l.length (strs l)) (hlc:l.length≤Lc) (h0:l≠ []) (hl:l.length≤4096) (hs:∀f∈l,f.length≤4294967296) (hne:∀f∈l,f≠ []) (hsz:dO g≤4294967296) (hB:B≤w.heap.size):
 be Tryz.prog 21 [.agg #[.slice A g.ns.length c,.slice A' g.es.length c'],.slice Ll l.length Lc] w fun v w'=>(∃A2 c2 A3 c3 h e,v= .tuple #[.agg #[.slice A2 h.ns.length c2,.slice A3 h.es.length c3],.int .i64 e]∧zP g l h e∧cB B w'.heap.size w' A2 c2 A3 c3 h)∧Below w.heap.size w w':=by
 have hll:=List.length_pos_iff.2 h0
 have hnl:=ya g
 have hel:=x9 g
 have hlen:∀{i:Nat},i<l.length→(l.getD i []).length≤4294967296:=fun {i} hi=>by rw [getD_at [] hi];exact hs _ (List.getElem_mem hi)
 obtain ⟨pl,_,hpl,_,_⟩:=hR.one (i:=0) hll
 subst hpl
 have hb:=Below.refl w.heap.size w
 have bk:=hG
 have bh:=hR
 refine enter Tryz.func21 rfl rfl rfl ?_
 refine ao fun aZ=>?_
 refine jL rfl rfl ?_
 rintro aX js iB aj cF
 have:=cF.size
 have hb:=az hb cF
 have hG:=bk.below hb
 have hR:=bh.below hb
 have:=aj.lt
 refine el (z:=s3) (by kernel_rfl) rfl ?_
 rintro cQ M9 Lf aF m7
 have:=m7.size
 have hb:=az hb m7
 have hG:=bk.below hb
 have hR:=bh.below hb
 have aj:=aq.below aj m7
 have:=aF.lt
 refine am rfl<|an aZ<|ax fun _ cT=>ax fun _ ex=>?_
 refine b9 (X:=Bool) (fun q=> [(1,.slice (some pl) l.length Lc),(2,.pointer (some ⟨aX,0,none⟩)),(4,.pointer (some ⟨cQ,0,none⟩)),(26,.bool q)]) (fun q w1=>q=decide (l.getD 0 []=i8∧1<l.length)∧Below w.heap.size w w1∧aq w1 aX 27 [.slice A g.ns.length c,.slice A' g.es.length c']∧aq w1 cQ 27 [.slice none 0 0,.slice none 0 0]) (fun _ uc=>?_) ?_
 ·
  refine aR<|ai rfl ?_
  refine ah (cx bK eo rfl rfl (by omega) (by omega)) rfl ?_;refine aW (aI bQ rfl (by exact mF hR (i:=0) (k:=0) rfl hll)) rfl ?_;refine ah (fu rfl rfl) rfl<|ai rfl ?_
  refine cw rfl rfl rfl (fun wt=>?_) (fun wt=>?_)
  ·
   have wu:=wt;simp only [DZ] at wt;have h6:l.getD 0 []=i8:=wt;refine ai rfl<|aE rfl rfl wu ?_
   refine ah (cG bK (by omega) rfl) rfl ?_;refine aE rfl rfl wu<|ah (eW rfl rfl) rfl ?_
   refine ah (bi rfl wu rfl) rfl ?_;refine ay ?_;refine aY uc (decide (l.getD 0 []=i8∧1<l.length)) (by repeat first|exact aB|refine au rfl (by first|rfl|exact aP (by rw [Bool.eq_iff_iff,decide_eq_true_eq];simp only [h6,decide_eq_true_eq,true_and,false_and,Bool.false_eq_true];try omega)) ?_) ?_;exact ⟨rfl,hb,aj,aF⟩
  have wu:=wt;simp only [DZ] at wt;have h6:¬l.getD 0 []=i8:=wt;refine aA rfl rfl wu rfl rfl<|aA rfl rfl wu rfl rfl ?_
  refine ah (bg rfl wu rfl) rfl ?_;refine ay ?_;refine aY uc (decide (l.getD 0 []=i8∧1<l.length)) (by repeat first|exact aB|refine au rfl (by first|rfl|exact aP (by rw [Bool.eq_iff_iff,decide_eq_true_eq];simp only [h6,decide_eq_true_eq,true_and,false_and,Bool.false_eq_true];try omega)) ?_) ?_;exact ⟨rfl,hb,aj,aF⟩
 rintro q w1 wR
 replace wR:q=decide (l.getD 0 []=i8∧1<l.length)∧Below w.heap.size w w1∧aq w1 aX 27 [.slice A g.ns.length c,.slice A' g.es.length c']∧aq w1 cQ 27 [.slice none 0 0,.slice none 0 0]:=wR
 obtain ⟨hq,hb,aj,aF⟩:=wR
 show Wq _ _ _ _ [(1,.slice (some pl) l.length Lc),(2,.pointer (some ⟨aX,0,none⟩)),(4,.pointer (some ⟨cQ,0,none⟩)),(26,.bool q)] _
 have hG:=bk.below hb
 have hR:=bh.below hb
 have:=hb.size
 have:=aj.lt
 have:=aF.lt
 refine aw ex ?_
 refine aH rfl (fun lN=>?_) (fun lN=>?_)
 ·
  have rP:=lN;have hNL:zQ l:=(of_decide_eq_true (hq.symm.trans rP):l.getD 0 []=i8∧1<l.length);have h1l:=hNL.2;refine ao fun fZ=>ai rfl ?_;refine ah (bt (nr bK eo rfl rfl (by omega) (by omega)) ((show _=Value.slice (if Lc=2 then some pl else (some pl).map (·.add (2 * 1))) (l.drop 2).length (Lc - 2) by rw [List.length_drop];rfl))) rfl ?_;refine aS TS rfl rfl (NJ _ _ (l.drop 2) _ (Sz hR (by omega) hlc) (Rj _ l hl 2) (fun f hf=>hs f (List.mem_of_mem_drop hf)) (fun f hf=>hne f (List.mem_of_mem_drop hf))) rfl ?_;rintro _ cq ⟨⟨Lb,Pb,Al,cl,Ap,cp,er,rfl,hRI,hokp,hND⟩,bm⟩;have:=bm.size;have hb:=az hb bm;have hG:=bk.below hb;have hR:=bh.below hb;have aj:=aq.below aj bm;have aF:=aq.below aF bm;have hN:=hND (l.getD 1 []);refine ai rfl<|ah (bP rfl rfl) rfl<|ah (bP rfl rfl) rfl<|ah (bP rfl rfl) rfl<|am rfl<|am rfl<|am rfl<|an fZ<|ax fun _ iW=>?_
  refine aR<|ai rfl ?_
  refine ah (cx bK eo rfl rfl (by omega) (by omega)) rfl ?_;refine aW (aI bQ rfl (by exact mF hR (i:=1) (k:=1) rfl h1l)) rfl ?_;refine aS zC rfl rfl (yl (l.getD 1 []) (by have:=hlen h1l;omega) _) rfl ?_;rintro _ ft ⟨rfl,bp⟩;have:=bp.size;have hb:=az hb bp;have hG:=bk.below hb;have hR:=bh.below hb;have aj:=aq.below aj bp;have aF:=aq.below aF bp;have hN:=cY.below hN bp;refine am rfl<|an iW<|ax fun _ ji=>ao fun fx=>ai rfl<|ah (fI rfl) rfl<|an fx ?_
  refine aH rfl (fun io=>?_) (fun io=>?_)
  ·
   have Am:=io;simp only [DZ] at io;have hwb:bO (l.getD 1 [])=false:=by simpa using Am
   have hbad:zP g l g 2:= .inl ⟨hNL,_,_,_,hRI,.inl ⟨hwb,rfl⟩⟩;refine ao fun f5=>?_;refine aW (dM eJ (by kernel_rfl) rfl (by exact fun j u hu=>aj.at hu)) rfl ?_;refine cH (by kernel_rfl) rfl rfl aF rfl rfl ?_;rintro d3 aF bI;have:=bI.size;have hb:=bY hb bI hb.size (by omega);have hG:=bk.below hb;have hR:=bh.below hb;have hN:=cY.grown hN bI (by first|assumption|(simp [Value.ownBlock];omega));refine am rfl<|an f5<|aK ?_
   refine aQ (aQ ?_);refine fc (rs:= [.cell 4 27,.tmp 5]) (vs:= [_,_]) rfl (.cell rfl (e9 eJ (by kernel_rfl) (fun j u hu=>aF.at hu)) (.tmp rfl .nil)) ?_;exact ⟨_,rfl,⟨A,c,A',c',g,2,rfl,hbad,cB.up hG⟩,hb⟩
  have Am:=io;simp only [DZ] at io;have hwg:bO (l.getD 1 [])=true:=by simpa using Am
  refine aU<|aw ji<|ax fun _ mh=>ax fun _ jj=>?_
  refine gG (n:=6) (fun w'=>Below w.heap.size w w'∧aq w' aX 27 [.slice A g.ns.length c,.slice A' g.es.length c']) #[ac,ac,ac,ac,ac,ac] (by kernel_rfl) rfl (by kernel_rfl) ?_;refine gF ?_;rintro Gz jD;have:=jD.size;have hb:=az hb jD;have hG:=bk.below hb;have hR:=bh.below hb;have aj:=aq.below aj jD;have aF:=aq.below aF jD;have hN:=cY.below hN jD;refine aT (i:=0) #[ab,ac,ac,ac,ac,ac] rfl (by kernel_rfl) aO rfl (fun wq hq=>dM eJ (by kernel_rfl) rfl (by obtain ⟨hq,aj⟩:=hq;exact fun j u hu=>aj.at hu)) ⟨hb,aj⟩ ?_;refine aT (i:=1) #[ab,ab,ac,ac,ac,ac] rfl (by kernel_rfl) aO rfl (fun wq hq=>a8 (bl rfl)) ⟨hb,aj⟩ ?_;refine aT (i:=2) #[ab,ab,ab,ac,ac,ac] rfl (by kernel_rfl) aO rfl (fun wq hq=>a8 (cx bK eo rfl rfl (by omega) (by omega))) ⟨hb,aj⟩ ?_;refine aT (i:=3) #[ab,ab,ab,ab,ac,ac] rfl (by kernel_rfl) aO rfl (fun wq hq=>aI bQ rfl (by obtain ⟨hq,aj⟩:=hq;have hR:=bh.below hq;exact mF hR (i:=1) (k:=1) rfl h1l)) ⟨hb,aj⟩ ?_;refine bM (rs:= [4]) (by kernel_rfl) rfl ?_;refine bv #[ab,ab,ab,ab,ab,ac] rfl rfl (fun _ qm=>?_) ?_
  ·
   have hcq:=GP _ A c A' c' g (l.getD 1 []) _ hG.gat (by omega);refine aS MU rfl rfl (hcq) rfl ?_;rintro _ gu ⟨⟨kf,rfl,hkf⟩,bG⟩;have:=bG.size;have hb:=az hb bG;have hG:=bk.below hb;have hR:=bh.below hb;have aj:=aq.below aj bG;have aF:=aq.below aF bG;have hN:=cY.below hN bG;refine ay ?_;refine bu qm ⟨hb,aj⟩ ?_;refine aT (i:=5) #[ab,ab,ab,ab,ab,ab] rfl (by kernel_rfl) aO rfl (fun wq hq=>a8 (jb rfl rfl)) ⟨hb,aj⟩ ?_;refine eE (by kernel_rfl) ?_;refine aw jj ?_;refine b9 (X:=Unit) (fun u_=> [(1,.slice (some pl) l.length Lc),(2,.pointer (some ⟨aX,0,none⟩)),(4,.pointer (some ⟨cQ,0,none⟩)),(6,.slice Al Lb.length cl),(7,.slice Ap Pb.length cp),(8,.int .i64 (dl (l.getD 1 []∈cK g) er 3))]) (fun u_ w3=>cq.heap.size≤w3.heap.size∧Below w.heap.size w w3∧aq w3 aX 27 [.slice A g.ns.length c,.slice A' g.es.length c']∧aq w3 cQ 27 [.slice none 0 0,.slice none 0 0]∧cY (fun k=>w1.heap.size≤k∧k<cq.heap.size) w3 Al cl Ap cp ⟨l.getD 1 [],Lb,Pb⟩) (fun _ mr=>?_) ?_
   ·
    refine aH rfl (fun vo=>?_) (fun vo=>?_)
    ·
     have X1:=vo;simp only [DZ] at vo;have he8:mE er 3=(dl (l.getD 1 []∈cK g) er 3):=(tb ((EP hkf).1 (by have:=vo;omega)) _ _).symm;refine aR<|ai rfl ?_
     refine aS Gk rfl rfl (Ed er 3 _) rfl ?_;rintro _ hZ ⟨rfl,ck⟩;have:=ck.size;have hb:=az hb ck;have hG:=bk.below hb;have hR:=bh.below hb;have aj:=aq.below aj ck;have aF:=aq.below aF ck;have hN:=cY.below hN ck;refine am rfl<|ay ?_
     refine aY mr (()) (by repeat first|exact aB|refine au rfl (by first|rfl|exact int_eq he8) ?_) ?_;exact ⟨by omega,hb,aj,aF,hN⟩
    have X1:=vo;simp only [DZ] at vo;have he8:er=(dl (l.getD 1 []∈cK g) er 3):=(x3 (fun h=>by have:=(EP hkf).2 h;have:=vo;omega) _ _).symm;refine aU ?_;refine aY mr (()) (by repeat first|exact aB|refine au rfl (by first|rfl|exact int_eq he8) ?_) ?_;exact ⟨by omega,hb,aj,aF,hN⟩
   rintro u_ w3 Kb;replace Kb:cq.heap.size≤w3.heap.size∧Below w.heap.size w w3∧aq w3 aX 27 [.slice A g.ns.length c,.slice A' g.es.length c']∧aq w3 cQ 27 [.slice none 0 0,.slice none 0 0]∧cY (fun k=>w1.heap.size≤k∧k<cq.heap.size) w3 Al cl Ap cp ⟨l.getD 1 [],Lb,Pb⟩:=Kb;obtain ⟨hw3,hb,aj,aF,hN⟩:=Kb;show Wq _ _ _ _ [(1,.slice (some pl) l.length Lc),(2,.pointer (some ⟨aX,0,none⟩)),(4,.pointer (some ⟨cQ,0,none⟩)),(6,.slice Al Lb.length cl),(7,.slice Ap Pb.length cp),(8,.int .i64 (dl (l.getD 1 []∈cK g) er 3))] _;have hG:=bk.below hb;have hR:=bh.below hb;have:=hb.size;have:=aj.lt;have:=aF.lt;refine aw mh<|ax fun _ qp=>ao fun sJ=>?_
   refine ah (aJ (gw _) rfl) rfl ?_;refine aW (aI fG rfl (by exact aj.at (j:=0) rfl)) rfl ?_;refine ah (cG dJ (by omega) rfl) rfl ?_;refine ah (jb rfl rfl) rfl<|an sJ ?_
   refine b9 (X:=Unit) (fun u_=> [(1,.slice (some pl) l.length Lc),(2,.pointer (some ⟨aX,0,none⟩)),(4,.pointer (some ⟨cQ,0,none⟩)),(6,.slice Al Lb.length cl),(7,.slice Ap Pb.length cp),(8,.int .i64 (dl (1000≤g.ns.length) (dl (l.getD 1 []∈cK g) er 3) 6))]) (fun u_ w5=>cq.heap.size≤w5.heap.size∧Below w.heap.size w w5∧aq w5 aX 27 [.slice A g.ns.length c,.slice A' g.es.length c']∧aq w5 cQ 27 [.slice none 0 0,.slice none 0 0]∧cY (fun k=>w1.heap.size≤k∧k<cq.heap.size) w5 Al cl Ap cp ⟨l.getD 1 [],Lb,Pb⟩) (fun _ Qq=>?_) ?_
   ·
    refine aH rfl (fun vB=>?_) (fun vB=>?_)
    ·
     have Yj:=vB;simp only [DZ] at vB;have he9:mE (dl (l.getD 1 []∈cK g) er 3) 6=(dl (1000≤g.ns.length) (dl (l.getD 1 []∈cK g) er 3) 6):=(tb (by have:=vB;omega) _ _).symm;refine aR<|ai rfl ?_
     refine aS Gk rfl rfl (Ed (dl (l.getD 1 []∈cK g) er 3) 6 _) rfl ?_;rintro _ nq ⟨rfl,dE⟩;have:=dE.size;have hb:=az hb dE;have hG:=bk.below hb;have hR:=bh.below hb;have aj:=aq.below aj dE;have aF:=aq.below aF dE;have hN:=cY.below hN dE;refine am rfl<|ay ?_
     refine aY Qq (()) (by repeat first|exact aB|refine au rfl (by first|rfl|exact int_eq he9) ?_) ?_;exact ⟨by omega,hb,aj,aF,hN⟩
    have Yj:=vB;simp only [DZ] at vB;have he9:(dl (l.getD 1 []∈cK g) er 3)=(dl (1000≤g.ns.length) (dl (l.getD 1 []∈cK g) er 3) 6):=(x3 (by have:=vB;omega) _ _).symm;refine aU ?_;refine aY Qq (()) (by repeat first|exact aB|refine au rfl (by first|rfl|exact int_eq he9) ?_) ?_;exact ⟨by omega,hb,aj,aF,hN⟩
   rintro u_ w5 mc;replace mc:cq.heap.size≤w5.heap.size∧Below w.heap.size w w5∧aq w5 aX 27 [.slice A g.ns.length c,.slice A' g.es.length c']∧aq w5 cQ 27 [.slice none 0 0,.slice none 0 0]∧cY (fun k=>w1.heap.size≤k∧k<cq.heap.size) w5 Al cl Ap cp ⟨l.getD 1 [],Lb,Pb⟩:=mc;obtain ⟨hw5,hb,aj,aF,hN⟩:=mc;show Wq _ _ _ _ [(1,.slice (some pl) l.length Lc),(2,.pointer (some ⟨aX,0,none⟩)),(4,.pointer (some ⟨cQ,0,none⟩)),(6,.slice Al Lb.length cl),(7,.slice Ap Pb.length cp),(8,.int .i64 (dl (1000≤g.ns.length) (dl (l.getD 1 []∈cK g) er 3) 6))] _;have hG:=bk.below hb;have hR:=bh.below hb;have:=hb.size;have:=aj.lt;have:=aF.lt;refine aw qp<|ax fun _ n8=>?_
   obtain ⟨css,hcn,hcs,hRc,hQc⟩:=NN hG.gat.rn (by decide);have hb5:=hb;have hb2:=Below.refl w5.heap.size w5;have d5:=aj;have d6:=aF;have d9:=hN;refine gG (n:=14) (fun w'=>Below w.heap.size w w') #[ac,ac,ac,ac,ac,ac,ac,ac,ac,ac,ac,ac,ac,ac] (by kernel_rfl) rfl (by kernel_rfl) ?_;refine gF ?_;rintro Gx jY;have:=jY.size;have hb:=az hb jY;have hG:=bk.below hb;have hR:=bh.below hb;have hb2:=az hb2 jY;have aj:=d5.below hb2;have aF:=d6.below hb2;have hN:=d9.below hb2;refine aT (i:=1) #[ac,ab,ac,ac,ac,ac,ac,ac,ac,ac,ac,ac,ac,ac] rfl (by kernel_rfl) aO rfl (fun wq hq=>a8 (aJ (gw _) rfl)) hb ?_;refine aT (i:=4) #[ac,ab,ac,ac,ab,ac,ac,ac,ac,ac,ac,ac,ac,ac] rfl (by kernel_rfl) aO rfl (fun wq hq=>a8 (bl rfl)) hb ?_;refine aT (i:=5) #[ac,ab,ac,ac,ab,ab,ac,ac,ac,ac,ac,ac,ac,ac] rfl (by kernel_rfl) aO rfl (fun wq hq=>a8 (cx bK eo rfl rfl (by omega) (by omega))) hb ?_;refine aT (i:=6) #[ac,ab,ac,ac,ab,ab,ab,ac,ac,ac,ac,ac,ac,ac] rfl (by kernel_rfl) aO rfl (fun wq hq=>aI bQ rfl (by have hG:=bk.below hq;have hR:=bh.below hq;exact mF hR (i:=1) (k:=1) rfl h1l)) hb ?_;refine aT (i:=7) #[ac,ab,ac,ac,ab,ab,ab,ab,ac,ac,ac,ac,ac,ac] rfl (by kernel_rfl) aO rfl (fun wq hq=>a8 (bl rfl)) hb ?_;refine aT (i:=8) #[ac,ab,ac,ac,ab,ab,ab,ab,ab,ac,ac,ac,ac,ac] rfl (by kernel_rfl) aO rfl (fun wq hq=>a8 (bl rfl)) hb ?_;refine aT (i:=9) #[ac,ab,ac,ac,ab,ab,ab,ab,ab,ab,ac,ac,ac,ac] rfl (by kernel_rfl) aO rfl (fun wq hq=>a8 (fe (z:=Rp) (pl:= [(0,1),(1,1),(2,1)]) (cs:= [_,_,_]) tg (by kernel_rfl) (by kernel_rfl) rfl rfl rfl)) hb ?_
   refine NZ (X:=Value×Nat) (fuel':=3) #[ab,ab,ab,ab,ab,ab,ab,ab,ab,ab,ab,ac,ac,ac] (fun (iH,gW)=> [(1,.slice (some pl) l.length Lc),(2,.pointer (some ⟨aX,0,none⟩)),(4,.pointer (some ⟨cQ,0,none⟩)),(6,.slice Al Lb.length cl),(7,.slice Ap Pb.length cp),(8,.int .i64 (dl (1000≤g.ns.length) (dl (l.getD 1 []∈cK g) er 3) 6)),(58,iH),(65,.slice (some ⟨gW,0,none⟩) 1 1)]) (fun (iH,gW) w6=>w5.heap.size≤w6.heap.size∧Below w.heap.size w w6∧aq w6 aX 27 [.slice A g.ns.length c,.slice A' g.es.length c']∧aq w6 cQ 27 [.slice none 0 0,.slice none 0 0]∧aq w6 gW 43 [str (l.getD 1 []),.slice Al Lb.length cl,.slice Ap Pb.length cp]∧w6.ownsRow w5.heap.size 43 3 iH (0+g.ns.length) ([]++css.flatten)∧cY (fun k=>w1.heap.size≤k∧k<cq.heap.size) w6 Al cl Ap cp ⟨l.getD 1 [],Lb,Pb⟩) ?_ (fun t7=>?_)
   ·
    rintro ⟨iH,gW⟩ w6 xg;replace xg:w5.heap.size≤w6.heap.size∧Below w.heap.size w w6∧aq w6 aX 27 [.slice A g.ns.length c,.slice A' g.es.length c']∧aq w6 cQ 27 [.slice none 0 0,.slice none 0 0]∧aq w6 gW 43 [str (l.getD 1 []),.slice Al Lb.length cl,.slice Ap Pb.length cp]∧w6.ownsRow w5.heap.size 43 3 iH (0+g.ns.length) ([]++css.flatten)∧cY (fun k=>w1.heap.size≤k∧k<cq.heap.size) w6 Al cl Ap cp ⟨l.getD 1 [],Lb,Pb⟩:=xg;obtain ⟨hw56,hb,aj,aF,dz,hO,hN⟩:=xg;show Wa _ _ _ _ _ _ _ _ [(1,.slice (some pl) l.length Lc),(2,.pointer (some ⟨aX,0,none⟩)),(4,.pointer (some ⟨cQ,0,none⟩)),(6,.slice Al Lb.length cl),(7,.slice Ap Pb.length cp),(8,.int .i64 (dl (1000≤g.ns.length) (dl (l.getD 1 []∈cK g) er 3) 6)),(58,iH),(65,.slice (some ⟨gW,0,none⟩) 1 1)] _;have hG:=bk.below hb;have hR:=bh.below hb;have:=hb.size;have:=aj.lt;have:=aF.lt;have:=dz.lt;refine bM (rs:= [11]) (by kernel_rfl) rfl ?_;refine bv #[ab,ab,ab,ab,ab,ab,ab,ab,ab,ab,ab,ab,ac,ac] rfl rfl (fun _ xx=>?_) ?_
    ·
     refine dK (z:=oo) (sz:=3) (bytes:=64) dJ (by kernel_rfl) rfl (by decide) _ rfl hO rfl (dz.rd 1 3 rfl) (ML rfl rfl rfl) (by simp only [maxLen];omega) (by omega) (by omega) rfl ?_;rintro yg tk oj e8 yY;have:=e8.size;have hb:=hb.grown e8 hb.size (fun k_ ba=>by have:=(bz hO k_ ba).1;omega);have hG:=bk.below hb;have hR:=bh.below hb;have aj:=aq.grown aj e8 (by first|(intro e_;have h_:=(bz hO _ e_.symm).1;omega)|(intro k_ ba;have kR:=ba.2;refine ⟨?_,fun e_=>?_⟩;omega;have h_:=(bz hO _ e_.symm).1;omega));have aF:=aq.grown aF e8 (by first|(intro e_;have h_:=(bz hO _ e_.symm).1;omega)|(intro k_ ba;have kR:=ba.2;refine ⟨?_,fun e_=>?_⟩;omega;have h_:=(bz hO _ e_.symm).1;omega));have hN:=cY.grown hN e8 (by first|(intro e_;have h_:=(bz hO _ e_.symm).1;omega)|(intro k_ ba;have kR:=ba.2;refine ⟨?_,fun e_=>?_⟩;omega;have h_:=(bz hO _ e_.symm).1;omega));have hO:=oj;refine ay ?_;refine bu xx hb ?_;refine aT (i:=12) #[ab,ab,ab,ab,ab,ab,ab,ab,ab,ab,ab,ab,ab,ac] rfl (by kernel_rfl) aO rfl (fun wq hq=>a8 (aJ (gw _) rfl)) hb ?_;refine bM (rs:= [13]) (by kernel_rfl) rfl ?_;refine bv #[ab,ab,ab,ab,ab,ab,ab,ab,ab,ab,ab,ab,ab,ab] rfl rfl (fun _ oU=>?_) ?_
     ·
      obtain ⟨A2,c2,hv2,hH⟩:=adX (g0:=aX) (g1:=cQ) (d:=⟨l.getD 1 [],Lb,Pb⟩) hG hb5 hb hcn hcs hQc hO hN hokp ⟨hB,iB,by omega,by omega,hw5,by omega,by omega⟩;subst hv2;refine fJ fG rfl rfl rfl aj (by simp) ?_;rintro ky aj cd;have:=cd.size;have hb:=bY hb cd hb.size (by omega);have hG:=bk.below hb;have hR:=bh.below hb;have aF:=aq.grown aF cd (by first|(intro e_;have h_:=Option.some.inj e_;omega)|(intro k_ ba;exact ⟨by have:=ba.2.1;omega,fun e_=>ba.2.2.1 (Option.some.inj e_)⟩));have hH:=jJ.grown hH cd (by first|(intro e_;have h_:=Option.some.inj e_;omega)|(intro k_ ba;exact ⟨by have:=ba.2.1;omega,fun e_=>ba.2.2.1 (Option.some.inj e_)⟩));refine ay ?_;refine bu oU hb ?_;refine eE (by kernel_rfl) ?_;refine aw n8<|ao fun lv=>?_
      refine aW (dM eJ (by kernel_rfl) rfl (by exact fun j u hu=>aj.at hu)) rfl ?_;refine ai rfl ?_;refine cH (by kernel_rfl) rfl rfl aF rfl rfl ?_;rintro oA aF di;have:=di.size;have hb:=bY hb di hb.size (by omega);have hG:=bk.below hb;have hR:=bh.below hb;have hH:=jJ.grown hH di (by first|(intro e_;have h_:=Option.some.inj e_;omega)|(intro k_ ba;exact ⟨by have:=ba.2.1;omega,fun e_=>ba.2.2.2 (Option.some.inj e_)⟩));refine am rfl<|an lv<|aK<|aQ ?_
      refine fc (rs:= [.cell 4 27,.tmp 5]) (vs:= [_,_]) rfl (.cell rfl (e9 eJ (by kernel_rfl) (fun j u hu=>aF.at hu)) (.tmp rfl .nil)) ?_;exact ⟨_,rfl,⟨A2,c2,A',c',⟨g.ns++ [(⟨l.getD 1 [],Lb,Pb⟩:ND)],g.es⟩,(dl (1000≤g.ns.length) (dl (l.getD 1 []∈cK g) er 3) 6),by rw [List.length_append];rfl,.inl ⟨hNL,_,_,_,hRI,.inr ⟨hwg,rfl,rfl⟩⟩,cB.of (hH.keep (fun _ _=>rfl) (fun k hk=>⟨hk.1,by have:=hk.2.1;omega⟩)) (Nat.le_refl _)⟩,hb⟩
     exact bN
    exact bN
   refine bM (rs:= [0,2,10]) (by kernel_rfl) rfl ?_;refine bv #[ab,ab,ac,ac,ab,ab,ab,ab,ab,ab,ac,ac,ac,ac] rfl rfl (fun _ Cv=>?_) ?_
   ·
    refine jM dJ (by kernel_rfl) rfl ?_;rintro iS mJ ey dV fO;have sY:=fO.size;have hb:=az hb fO;have hG:=bk.below hb;have hR:=bh.below hb;have hb2:=az hb2 fO;have aj:=d5.below hb2;have aF:=d6.below hb2;have hN:=d9.below hb2;have Fi:=dV.lt;refine ay ?_;refine bu Cv hb ?_;refine bM (rs:= [2,10]) (by kernel_rfl) rfl ?_;refine bv #[ab,ab,ab,ac,ab,ab,ab,ab,ab,ab,ac,ac,ac,ac] rfl rfl (fun _ sN=>?_) ?_
    ·
     refine aW (aI fG rfl (by exact aj.at (j:=0) rfl)) rfl ?_;refine ay ?_;refine bu sN hb ?_;refine bM (rs:= [3,10]) (by kernel_rfl) rfl ?_;refine bv #[ab,ab,ab,ab,ab,ab,ab,ab,ab,ab,ac,ac,ac,ac] rfl rfl (fun _ xz=>?_) ?_
     ·
      have hO:=dV.own (base:=w5.heap.size) (n:=0) (sz:=3) (by omega) rfl (by decide);refine dK (z:=oo) (sz:=3) (bytes:=64) dJ (by kernel_rfl) rfl (by decide) _ rfl hO rfl (hRc.same (fun q e _=>j6 hb5 hb (hG.a1 q e).2)) (lg (lf hcn (fun i hi=>uv (hQc i hi)))) (by simp only [maxLen];omega) (by omega) (by omega) rfl ?_;rintro iH np k5 ed uh;have rg:=ed.size;have hb:=hb.grown ed hb.size (fun k_ ba=>by have:=(bz hO k_ ba).1;omega);have hG:=bk.below hb;have hR:=bh.below hb;have hb2:=hb2.grown ed hb2.size (fun k_ ba=>by have:=(bz hO k_ ba).1;omega);have aj:=d5.below hb2;have aF:=d6.below hb2;have hN:=d9.below hb2;have hO:=k5;refine ay ?_;refine bu xz hb ?_;refine bM (rs:= [10]) (by kernel_rfl) rfl ?_;refine bv #[ab,ab,ab,ab,ab,ab,ab,ab,ab,ab,ab,ac,ac,ac] rfl rfl (fun _ qt=>?_) ?_
      ·
       refine dX (sz:=3) (vs:= [_]) dJ (by kernel_rfl) rfl rfl rfl rfl rfl rfl ?_;rintro gW oz kk dz du;have qB:=du.size;have hb:=az hb du;have hG:=bk.below hb;have hR:=bh.below hb;have hb2:=az hb2 du;have aj:=d5.below hb2;have aF:=d6.below hb2;have hN:=d9.below hb2;have hO:=cR hO du;have ui:=dz.lt;refine ay ?_;refine bu qt hb ?_;refine t7 (⟨iH,gW⟩) _ _ (au rfl (by rfl) (au rfl (by rfl) (au rfl (by rfl) (au rfl (by rfl) (au rfl (by rfl) (au rfl (by rfl) (au rfl (by rfl) (au rfl (by rfl) (aB))))))))) ?_;exact ⟨by omega,hb,aj,aF,dz,hO,hN⟩
      exact bN
     refine bv #[ab,ab,ab,ac,ab,ab,ab,ab,ab,ab,ab,ac,ac,ac] rfl rfl (fun _ sO=>?_) ?_
     ·
      refine dX (sz:=3) (vs:= [_]) dJ (by kernel_rfl) rfl rfl rfl rfl rfl rfl ?_;rintro gW oz kk dz du;have qB:=du.size;have hb:=az hb du;have hG:=bk.below hb;have hR:=bh.below hb;have hb2:=az hb2 du;have aj:=d5.below hb2;have aF:=d6.below hb2;have hN:=d9.below hb2;have dV:=aq.below dV du;have ui:=dz.lt;refine ay ?_;refine bu sO hb ?_;refine bM (rs:= [3]) (by kernel_rfl) rfl ?_;refine bv #[ab,ab,ab,ab,ab,ab,ab,ab,ab,ab,ab,ac,ac,ac] rfl rfl (fun _ Ks=>?_) ?_
      ·
       have hO:=dV.own (base:=w5.heap.size) (n:=0) (sz:=3) (by omega) rfl (by decide);refine dK (z:=oo) (sz:=3) (bytes:=64) dJ (by kernel_rfl) rfl (by decide) _ rfl hO rfl (hRc.same (fun q e _=>j6 hb5 hb (hG.a1 q e).2)) (lg (lf hcn (fun i hi=>uv (hQc i hi)))) (by simp only [maxLen];omega) (by omega) (by omega) rfl ?_;rintro iH np k5 ed uh;have rg:=ed.size;have hb:=hb.grown ed hb.size (fun k_ ba=>by have:=(bz hO k_ ba).1;omega);have hG:=bk.below hb;have hR:=bh.below hb;have hb2:=hb2.grown ed hb2.size (fun k_ ba=>by have:=(bz hO k_ ba).1;omega);have aj:=d5.below hb2;have aF:=d6.below hb2;have hN:=d9.below hb2;have dz:=aq.grown dz ed (by first|assumption|(simp [Value.ownBlock];omega)|(intro k_ ba;have kR:=ba.2;refine ⟨?_,fun e_=>?_⟩;omega;simp [Value.ownBlock] at e_;omega));have hO:=k5;refine ay ?_;refine bu Ks hb ?_;refine t7 (⟨iH,gW⟩) _ _ (au rfl (by rfl) (au rfl (by rfl) (au rfl (by rfl) (au rfl (by rfl) (au rfl (by rfl) (au rfl (by rfl) (au rfl (by rfl) (au rfl (by rfl) (aB))))))))) ?_;exact ⟨by omega,hb,aj,aF,dz,hO,hN⟩
      exact bN
     exact bN
    refine bv #[ab,ab,ac,ac,ab,ab,ab,ab,ab,ab,ab,ac,ac,ac] rfl rfl (fun _ B8=>?_) ?_
    ·
     refine dX (sz:=3) (vs:= [_]) dJ (by kernel_rfl) rfl rfl rfl rfl rfl rfl ?_;rintro gW oz kk dz du;have qB:=du.size;have hb:=az hb du;have hG:=bk.below hb;have hR:=bh.below hb;have hb2:=az hb2 du;have aj:=d5.below hb2;have aF:=d6.below hb2;have hN:=d9.below hb2;have dV:=aq.below dV du;have ui:=dz.lt;refine ay ?_;refine bu B8 hb ?_;refine bM (rs:= [2]) (by kernel_rfl) rfl ?_;refine bv #[ab,ab,ab,ac,ab,ab,ab,ab,ab,ab,ab,ac,ac,ac] rfl rfl (fun _ Ca=>?_) ?_
     ·
      refine aW (aI fG rfl (by exact aj.at (j:=0) rfl)) rfl ?_;refine ay ?_;refine bu Ca hb ?_;refine bM (rs:= [3]) (by kernel_rfl) rfl ?_;refine bv #[ab,ab,ab,ab,ab,ab,ab,ab,ab,ab,ab,ac,ac,ac] rfl rfl (fun _ Cb=>?_) ?_
      ·
       have hO:=dV.own (base:=w5.heap.size) (n:=0) (sz:=3) (by omega) rfl (by decide);refine dK (z:=oo) (sz:=3) (bytes:=64) dJ (by kernel_rfl) rfl (by decide) _ rfl hO rfl (hRc.same (fun q e _=>j6 hb5 hb (hG.a1 q e).2)) (lg (lf hcn (fun i hi=>uv (hQc i hi)))) (by simp only [maxLen];omega) (by omega) (by omega) rfl ?_;rintro iH np k5 ed uh;have rg:=ed.size;have hb:=hb.grown ed hb.size (fun k_ ba=>by have:=(bz hO k_ ba).1;omega);have hG:=bk.below hb;have hR:=bh.below hb;have hb2:=hb2.grown ed hb2.size (fun k_ ba=>by have:=(bz hO k_ ba).1;omega);have aj:=d5.below hb2;have aF:=d6.below hb2;have hN:=d9.below hb2;have dz:=aq.grown dz ed (by first|assumption|(simp [Value.ownBlock];omega)|(intro k_ ba;have kR:=ba.2;refine ⟨?_,fun e_=>?_⟩;omega;simp [Value.ownBlock] at e_;omega));have hO:=k5;refine ay ?_;refine bu Cb hb ?_;refine t7 (⟨iH,gW⟩) _ _ (au rfl (by rfl) (au rfl (by rfl) (au rfl (by rfl) (au rfl (by rfl) (au rfl (by rfl) (au rfl (by rfl) (au rfl (by rfl) (au rfl (by rfl) (aB))))))))) ?_;exact ⟨by omega,hb,aj,aF,dz,hO,hN⟩
      exact bN
     exact bN
    exact bN
   refine bv #[ac,ab,ab,ac,ab,ab,ab,ab,ab,ab,ac,ac,ac,ac] rfl rfl (fun _ Cc=>?_) ?_
   ·
    refine aW (aI fG rfl (by exact aj.at (j:=0) rfl)) rfl ?_;refine ay ?_;refine bu Cc hb ?_;refine bM (rs:= [0,10]) (by kernel_rfl) rfl ?_;refine bv #[ab,ab,ab,ac,ab,ab,ab,ab,ab,ab,ac,ac,ac,ac] rfl rfl (fun _ Ce=>?_) ?_
    ·
     refine jM dJ (by kernel_rfl) rfl ?_;rintro iS mJ ey dV fO;have sY:=fO.size;have hb:=az hb fO;have hG:=bk.below hb;have hR:=bh.below hb;have hb2:=az hb2 fO;have aj:=d5.below hb2;have aF:=d6.below hb2;have hN:=d9.below hb2;have Fi:=dV.lt;refine ay ?_;refine bu Ce hb ?_;refine bM (rs:= [3,10]) (by kernel_rfl) rfl ?_;refine bv #[ab,ab,ab,ab,ab,ab,ab,ab,ab,ab,ac,ac,ac,ac] rfl rfl (fun _ aan=>?_) ?_
     ·
      have hO:=dV.own (base:=w5.heap.size) (n:=0) (sz:=3) (by omega) rfl (by decide);refine dK (z:=oo) (sz:=3) (bytes:=64) dJ (by kernel_rfl) rfl (by decide) _ rfl hO rfl (hRc.same (fun q e _=>j6 hb5 hb (hG.a1 q e).2)) (lg (lf hcn (fun i hi=>uv (hQc i hi)))) (by simp only [maxLen];omega) (by omega) (by omega) rfl ?_;rintro iH np k5 ed uh;have rg:=ed.size;have hb:=hb.grown ed hb.size (fun k_ ba=>by have:=(bz hO k_ ba).1;omega);have hG:=bk.below hb;have hR:=bh.below hb;have hb2:=hb2.grown ed hb2.size (fun k_ ba=>by have:=(bz hO k_ ba).1;omega);have aj:=d5.below hb2;have aF:=d6.below hb2;have hN:=d9.below hb2;have hO:=k5;refine ay ?_;refine bu aan hb ?_;refine bM (rs:= [10]) (by kernel_rfl) rfl ?_;refine bv #[ab,ab,ab,ab,ab,ab,ab,ab,ab,ab,ab,ac,ac,ac] rfl rfl (fun _ nU=>?_) ?_
      ·
       refine dX (sz:=3) (vs:= [_]) dJ (by kernel_rfl) rfl rfl rfl rfl rfl rfl ?_;rintro gW oz kk dz du;have qB:=du.size;have hb:=az hb du;have hG:=bk.below hb;have hR:=bh.below hb;have hb2:=az hb2 du;have aj:=d5.below hb2;have aF:=d6.below hb2;have hN:=d9.below hb2;have hO:=cR hO du;have ui:=dz.lt;refine ay ?_;refine bu nU hb ?_;refine t7 (⟨iH,gW⟩) _ _ (au rfl (by rfl) (au rfl (by rfl) (au rfl (by rfl) (au rfl (by rfl) (au rfl (by rfl) (au rfl (by rfl) (au rfl (by rfl) (au rfl (by rfl) (aB))))))))) ?_;exact ⟨by omega,hb,aj,aF,dz,hO,hN⟩
      exact bN
     refine bv #[ab,ab,ab,ac,ab,ab,ab,ab,ab,ab,ab,ac,ac,ac] rfl rfl (fun _ m6=>?_) ?_
     ·
      refine dX (sz:=3) (vs:= [_]) dJ (by kernel_rfl) rfl rfl rfl rfl rfl rfl ?_;rintro gW oz kk dz du;have qB:=du.size;have hb:=az hb du;have hG:=bk.below hb;have hR:=bh.below hb;have hb2:=az hb2 du;have aj:=d5.below hb2;have aF:=d6.below hb2;have hN:=d9.below hb2;have dV:=aq.below dV du;have ui:=dz.lt;refine ay ?_;refine bu m6 hb ?_;refine bM (rs:= [3]) (by kernel_rfl) rfl ?_;refine bv #[ab,ab,ab,ab,ab,ab,ab,ab,ab,ab,ab,ac,ac,ac] rfl rfl (fun _ sG=>?_) ?_
      ·
       have hO:=dV.own (base:=w5.heap.size) (n:=0) (sz:=3) (by omega) rfl (by decide);refine dK (z:=oo) (sz:=3) (bytes:=64) dJ (by kernel_rfl) rfl (by decide) _ rfl hO rfl (hRc.same (fun q e _=>j6 hb5 hb (hG.a1 q e).2)) (lg (lf hcn (fun i hi=>uv (hQc i hi)))) (by simp only [maxLen];omega) (by omega) (by omega) rfl ?_;rintro iH np k5 ed uh;have rg:=ed.size;have hb:=hb.grown ed hb.size (fun k_ ba=>by have:=(bz hO k_ ba).1;omega);have hG:=bk.below hb;have hR:=bh.below hb;have hb2:=hb2.grown ed hb2.size (fun k_ ba=>by have:=(bz hO k_ ba).1;omega);have aj:=d5.below hb2;have aF:=d6.below hb2;have hN:=d9.below hb2;have dz:=aq.grown dz ed (by first|assumption|(simp [Value.ownBlock];omega)|(intro k_ ba;have kR:=ba.2;refine ⟨?_,fun e_=>?_⟩;omega;simp [Value.ownBlock] at e_;omega));have hO:=k5;refine ay ?_;refine bu sG hb ?_;refine t7 (⟨iH,gW⟩) _ _ (au rfl (by rfl) (au rfl (by rfl) (au rfl (by rfl) (au rfl (by rfl) (au rfl (by rfl) (au rfl (by rfl) (au rfl (by rfl) (au rfl (by rfl) (aB))))))))) ?_;exact ⟨by omega,hb,aj,aF,dz,hO,hN⟩
      exact bN
     exact bN
    refine bv #[ac,ab,ab,ac,ab,ab,ab,ab,ab,ab,ab,ac,ac,ac] rfl rfl (fun _ q7=>?_) ?_
    ·
     refine dX (sz:=3) (vs:= [_]) dJ (by kernel_rfl) rfl rfl rfl rfl rfl rfl ?_;rintro gW oz kk dz du;have qB:=du.size;have hb:=az hb du;have hG:=bk.below hb;have hR:=bh.below hb;have hb2:=az hb2 du;have aj:=d5.below hb2;have aF:=d6.below hb2;have hN:=d9.below hb2;have ui:=dz.lt;refine ay ?_;refine bu q7 hb ?_;refine bM (rs:= [0]) (by kernel_rfl) rfl ?_;refine bv #[ab,ab,ab,ac,ab,ab,ab,ab,ab,ab,ab,ac,ac,ac] rfl rfl (fun _ qk=>?_) ?_
     ·
      refine jM dJ (by kernel_rfl) rfl ?_;rintro iS mJ ey dV fO;have sY:=fO.size;have hb:=az hb fO;have hG:=bk.below hb;have hR:=bh.below hb;have hb2:=az hb2 fO;have aj:=d5.below hb2;have aF:=d6.below hb2;have hN:=d9.below hb2;have dz:=aq.below dz fO;have Fi:=dV.lt;refine ay ?_;refine bu qk hb ?_;refine bM (rs:= [3]) (by kernel_rfl) rfl ?_;refine bv #[ab,ab,ab,ab,ab,ab,ab,ab,ab,ab,ab,ac,ac,ac] rfl rfl (fun _ Ku=>?_) ?_
      ·
       have hO:=dV.own (base:=w5.heap.size) (n:=0) (sz:=3) (by omega) rfl (by decide);refine dK (z:=oo) (sz:=3) (bytes:=64) dJ (by kernel_rfl) rfl (by decide) _ rfl hO rfl (hRc.same (fun q e _=>j6 hb5 hb (hG.a1 q e).2)) (lg (lf hcn (fun i hi=>uv (hQc i hi)))) (by simp only [maxLen];omega) (by omega) (by omega) rfl ?_;rintro iH np k5 ed uh;have rg:=ed.size;have hb:=hb.grown ed hb.size (fun k_ ba=>by have:=(bz hO k_ ba).1;omega);have hG:=bk.below hb;have hR:=bh.below hb;have hb2:=hb2.grown ed hb2.size (fun k_ ba=>by have:=(bz hO k_ ba).1;omega);have aj:=d5.below hb2;have aF:=d6.below hb2;have hN:=d9.below hb2;have dz:=aq.grown dz ed (by first|assumption|(simp [Value.ownBlock];omega)|(intro k_ ba;have kR:=ba.2;refine ⟨?_,fun e_=>?_⟩;omega;simp [Value.ownBlock] at e_;omega));have hO:=k5;refine ay ?_;refine bu Ku hb ?_;refine t7 (⟨iH,gW⟩) _ _ (au rfl (by rfl) (au rfl (by rfl) (au rfl (by rfl) (au rfl (by rfl) (au rfl (by rfl) (au rfl (by rfl) (au rfl (by rfl) (au rfl (by rfl) (aB))))))))) ?_;exact ⟨by omega,hb,aj,aF,dz,hO,hN⟩
      exact bN
     exact bN
    exact bN
   refine bv #[ac,ab,ac,ac,ab,ab,ab,ab,ab,ab,ab,ac,ac,ac] rfl rfl (fun _ sH=>?_) ?_
   ·
    refine dX (sz:=3) (vs:= [_]) dJ (by kernel_rfl) rfl rfl rfl rfl rfl rfl ?_;rintro gW oz kk dz du;have qB:=du.size;have hb:=az hb du;have hG:=bk.below hb;have hR:=bh.below hb;have hb2:=az hb2 du;have aj:=d5.below hb2;have aF:=d6.below hb2;have hN:=d9.below hb2;have ui:=dz.lt;refine ay ?_;refine bu sH hb ?_;refine bM (rs:= [0,2]) (by kernel_rfl) rfl ?_;refine bv #[ab,ab,ac,ac,ab,ab,ab,ab,ab,ab,ab,ac,ac,ac] rfl rfl (fun _ xm=>?_) ?_
    ·
     refine jM dJ (by kernel_rfl) rfl ?_;rintro iS mJ ey dV fO;have sY:=fO.size;have hb:=az hb fO;have hG:=bk.below hb;have hR:=bh.below hb;have hb2:=az hb2 fO;have aj:=d5.below hb2;have aF:=d6.below hb2;have hN:=d9.below hb2;have dz:=aq.below dz fO;have Fi:=dV.lt;refine ay ?_;refine bu xm hb ?_;refine bM (rs:= [2]) (by kernel_rfl) rfl ?_;refine bv #[ab,ab,ab,ac,ab,ab,ab,ab,ab,ab,ab,ac,ac,ac] rfl rfl (fun _ Kv=>?_) ?_
     ·
      refine aW (aI fG rfl (by exact aj.at (j:=0) rfl)) rfl ?_;refine ay ?_;refine bu Kv hb ?_;refine bM (rs:= [3]) (by kernel_rfl) rfl ?_;refine bv #[ab,ab,ab,ab,ab,ab,ab,ab,ab,ab,ab,ac,ac,ac] rfl rfl (fun _ q8=>?_) ?_
      ·
       have hO:=dV.own (base:=w5.heap.size) (n:=0) (sz:=3) (by omega) rfl (by decide);refine dK (z:=oo) (sz:=3) (bytes:=64) dJ (by kernel_rfl) rfl (by decide) _ rfl hO rfl (hRc.same (fun q e _=>j6 hb5 hb (hG.a1 q e).2)) (lg (lf hcn (fun i hi=>uv (hQc i hi)))) (by simp only [maxLen];omega) (by omega) (by omega) rfl ?_;rintro iH np k5 ed uh;have rg:=ed.size;have hb:=hb.grown ed hb.size (fun k_ ba=>by have:=(bz hO k_ ba).1;omega);have hG:=bk.below hb;have hR:=bh.below hb;have hb2:=hb2.grown ed hb2.size (fun k_ ba=>by have:=(bz hO k_ ba).1;omega);have aj:=d5.below hb2;have aF:=d6.below hb2;have hN:=d9.below hb2;have dz:=aq.grown dz ed (by first|assumption|(simp [Value.ownBlock];omega)|(intro k_ ba;have kR:=ba.2;refine ⟨?_,fun e_=>?_⟩;omega;simp [Value.ownBlock] at e_;omega));have hO:=k5;refine ay ?_;refine bu q8 hb ?_;refine t7 (⟨iH,gW⟩) _ _ (au rfl (by rfl) (au rfl (by rfl) (au rfl (by rfl) (au rfl (by rfl) (au rfl (by rfl) (au rfl (by rfl) (au rfl (by rfl) (au rfl (by rfl) (aB))))))))) ?_;exact ⟨by omega,hb,aj,aF,dz,hO,hN⟩
      exact bN
     exact bN
    refine bv #[ac,ab,ab,ac,ab,ab,ab,ab,ab,ab,ab,ac,ac,ac] rfl rfl (fun _ Kw=>?_) ?_
    ·
     refine aW (aI fG rfl (by exact aj.at (j:=0) rfl)) rfl ?_;refine ay ?_;refine bu Kw hb ?_;refine bM (rs:= [0]) (by kernel_rfl) rfl ?_;refine bv #[ab,ab,ab,ac,ab,ab,ab,ab,ab,ab,ab,ac,ac,ac] rfl rfl (fun _ Cj=>?_) ?_
     ·
      refine jM dJ (by kernel_rfl) rfl ?_;rintro iS mJ ey dV fO;have sY:=fO.size;have hb:=az hb fO;have hG:=bk.below hb;have hR:=bh.below hb;have hb2:=az hb2 fO;have aj:=d5.below hb2;have aF:=d6.below hb2;have hN:=d9.below hb2;have dz:=aq.below dz fO;have Fi:=dV.lt;refine ay ?_;refine bu Cj hb ?_;refine bM (rs:= [3]) (by kernel_rfl) rfl ?_;refine bv #[ab,ab,ab,ab,ab,ab,ab,ab,ab,ab,ab,ac,ac,ac] rfl rfl (fun _ aas=>?_) ?_
      ·
       have hO:=dV.own (base:=w5.heap.size) (n:=0) (sz:=3) (by omega) rfl (by decide);refine dK (z:=oo) (sz:=3) (bytes:=64) dJ (by kernel_rfl) rfl (by decide) _ rfl hO rfl (hRc.same (fun q e _=>j6 hb5 hb (hG.a1 q e).2)) (lg (lf hcn (fun i hi=>uv (hQc i hi)))) (by simp only [maxLen];omega) (by omega) (by omega) rfl ?_;rintro iH np k5 ed uh;have rg:=ed.size;have hb:=hb.grown ed hb.size (fun k_ ba=>by have:=(bz hO k_ ba).1;omega);have hG:=bk.below hb;have hR:=bh.below hb;have hb2:=hb2.grown ed hb2.size (fun k_ ba=>by have:=(bz hO k_ ba).1;omega);have aj:=d5.below hb2;have aF:=d6.below hb2;have hN:=d9.below hb2;have dz:=aq.grown dz ed (by first|assumption|(simp [Value.ownBlock];omega)|(intro k_ ba;have kR:=ba.2;refine ⟨?_,fun e_=>?_⟩;omega;simp [Value.ownBlock] at e_;omega));have hO:=k5;refine ay ?_;refine bu aas hb ?_;refine t7 (⟨iH,gW⟩) _ _ (au rfl (by rfl) (au rfl (by rfl) (au rfl (by rfl) (au rfl (by rfl) (au rfl (by rfl) (au rfl (by rfl) (au rfl (by rfl) (au rfl (by rfl) (aB))))))))) ?_;exact ⟨by omega,hb,aj,aF,dz,hO,hN⟩
      exact bN
     exact bN
    exact bN
   exact bN
  exact bN
 have rP:=lN
 have hNN:¬zQ l:=(of_decide_eq_false (hq.symm.trans rP):¬(l.getD 0 []=i8∧1<l.length))
 refine aU<|aw cT<|ax fun _ t8=>ax fun _ xn=>?_
 refine b9 (X:=Bool) (fun q2=> [(1,.slice (some pl) l.length Lc),(2,.pointer (some ⟨aX,0,none⟩)),(4,.pointer (some ⟨cQ,0,none⟩)),(78,.bool q2)]) (fun q2 w2=>q2=(!decide (l.getD 0 []=jH∧5≤l.length))∧Below w.heap.size w w2∧aq w2 aX 27 [.slice A g.ns.length c,.slice A' g.es.length c']∧aq w2 cQ 27 [.slice none 0 0,.slice none 0 0]) (fun _ P6=>?_) ?_
 ·
  refine aR<|ai rfl ?_
  refine ah (cx bK eo rfl rfl (by omega) (by omega)) rfl ?_;refine aW (aI bQ rfl (by exact mF hR (i:=0) (k:=0) rfl hll)) rfl ?_;refine ah (qO rfl rfl) rfl<|ai rfl ?_
  refine dP rfl rfl rfl (fun wv=>?_) (fun wv=>?_)
  ·
   have ww:=wv;simp only [DZ] at wv;have h7:¬l.getD 0 []=jH:=wv;refine aA rfl rfl ww rfl rfl<|aA rfl rfl ww rfl rfl ?_
   refine ah (bi rfl ww rfl) rfl ?_;refine ay ?_;refine aY P6 (!decide (l.getD 0 []=jH∧5≤l.length)) (by repeat first|exact aB|refine au rfl (by first|rfl|exact aP (by rw [Bool.eq_iff_iff,Bool.not_eq_true',decide_eq_false_iff_not];simp only [h7,true_and,false_and,not_false_eq_true,decide_eq_true_eq];try omega)) ?_) ?_;exact ⟨rfl,hb,aj,aF⟩
  have ww:=wv;simp only [DZ] at wv;have h7:l.getD 0 []=jH:=wv;refine ai rfl<|aE rfl rfl ww ?_
  refine ah (cG bK (by omega) rfl) rfl ?_;refine aE rfl rfl ww<|ah (cg rfl rfl) rfl ?_
  refine ah (bg rfl ww rfl) rfl ?_;refine ay ?_;refine aY P6 (!decide (l.getD 0 []=jH∧5≤l.length)) (by repeat first|exact aB|refine au rfl (by first|rfl|exact aP (by rw [Bool.eq_iff_iff,Bool.not_eq_true',decide_eq_false_iff_not];simp only [h7,true_and,false_and,not_false_eq_true,decide_eq_true_eq];try omega)) ?_) ?_;exact ⟨rfl,hb,aj,aF⟩
 rintro q2 w2 JA
 replace JA:q2=(!decide (l.getD 0 []=jH∧5≤l.length))∧Below w.heap.size w w2∧aq w2 aX 27 [.slice A g.ns.length c,.slice A' g.es.length c']∧aq w2 cQ 27 [.slice none 0 0,.slice none 0 0]:=JA
 obtain ⟨hq2,hb,aj,aF⟩:=JA
 show Wq _ _ _ _ [(1,.slice (some pl) l.length Lc),(2,.pointer (some ⟨aX,0,none⟩)),(4,.pointer (some ⟨cQ,0,none⟩)),(78,.bool q2)] _
 have hG:=bk.below hb
 have hR:=bh.below hb
 have:=hb.size
 have:=aj.lt
 have:=aF.lt
 refine aw xn ?_
 refine aH rfl (fun Ib=>?_) (fun Ib=>?_)
 ·
  have Ic:=Ib;have hEN:¬D8 l:=by have h:=hq2.symm.trans Ic;rw [Bool.not_eq_true',decide_eq_false_iff_not] at h;exact h
  have hbad:zP g l g 2:= .inr (.inr ⟨hNN,hEN,rfl⟩);refine ao fun KC=>?_;refine aW (dM eJ (by kernel_rfl) rfl (by exact fun j u hu=>aj.at hu)) rfl ?_;refine cH (by kernel_rfl) rfl rfl aF rfl rfl ?_;rintro tm aF dD;have:=dD.size;have hb:=bY hb dD hb.size (by omega);have hG:=bk.below hb;have hR:=bh.below hb;refine am rfl<|an KC<|aK<|aQ ?_
  refine fc (rs:= [.cell 4 27,.tmp 5]) (vs:= [_,_]) rfl (.cell rfl (e9 eJ (by kernel_rfl) (fun j u hu=>aF.at hu)) (.tmp rfl .nil)) ?_;exact ⟨_,rfl,⟨A,c,A',c',g,2,rfl,hbad,cB.up hG⟩,hb⟩
 have Ic:=Ib
 have hEL:D8 l:=by have h:=hq2.symm.trans Ic;rw [Bool.not_eq_false',decide_eq_true_eq] at h;exact h
 have h5l:=hEL.2
 refine aU<|aw t8<|ao fun E6=>ai rfl ?_
 refine ah (bt (nr bK eo rfl rfl (by omega) (by omega)) ((show _=Value.slice (if Lc=5 then some pl else (some pl).map (·.add (5 * 1))) (l.drop 5).length (Lc - 5) by rw [List.length_drop];rfl))) rfl ?_
 refine aS TS rfl rfl (NJ _ _ (l.drop 5) _ (Sz hR (by omega) hlc) (Rj _ l hl 5) (fun f hf=>hs f (List.mem_of_mem_drop hf)) (fun f hf=>hne f (List.mem_of_mem_drop hf))) rfl ?_
 rintro _ gD ⟨⟨Lb,Pb,Al,cl,Ap,cp,er,rfl,hRI,hokp,hND⟩,fk⟩
 have:=fk.size
 have hb:=az hb fk
 have hG:=bk.below hb
 have hR:=bh.below hb
 have aj:=aq.below aj fk
 have aF:=aq.below aF fk
 refine ai rfl ?_
 have hN:=hND (l.getD 1 [])
 refine ah (bP rfl rfl) rfl<|ah (bP rfl rfl) rfl<|ah (bP rfl rfl) rfl<|am rfl<|am rfl<|am rfl<|an E6<|ao fun KF=>?_
 refine ai rfl ?_
 refine ah (cx bK eo rfl rfl (by omega) (by omega)) rfl ?_
 refine aW (aI bQ rfl (by exact mF hR (i:=1) (k:=1) rfl (by omega))) rfl ?_
 refine aS zC rfl rfl (yl (l.getD 1 []) (by have:=hlen (i:=1) (by omega);omega) _) rfl ?_
 rintro _ DV ⟨rfl,iC⟩
 have:=iC.size
 have hb:=az hb iC
 have hG:=bk.below hb
 have hR:=bh.below hb
 have aj:=aq.below aj iC
 have aF:=aq.below aF iC
 have hN:=cY.below hN iC
 refine am rfl<|an KF<|ao fun KI=>ai rfl ?_
 refine ah (cx bK eo rfl rfl (by omega) (by omega)) rfl ?_
 refine aW (aI bQ rfl (by exact mF hR (i:=2) (k:=2) rfl (by omega))) rfl ?_
 refine aS zC rfl rfl (yl (l.getD 2 []) (by have:=hlen (i:=2) (by omega);omega) _) rfl ?_
 rintro _ GA ⟨rfl,jZ⟩
 have:=jZ.size
 have hb:=az hb jZ
 have hG:=bk.below hb
 have hR:=bh.below hb
 have aj:=aq.below aj jZ
 have aF:=aq.below aF jZ
 have hN:=cY.below hN jZ
 refine am rfl<|an KI<|ao fun KJ=>ai rfl ?_
 refine ah (cx bK eo rfl rfl (by omega) (by omega)) rfl ?_
 refine aW (aI bQ rfl (by exact mF hR (i:=4) (k:=4) rfl (by omega))) rfl ?_
 refine aS zC rfl rfl (yl (l.getD 4 []) (by have:=hlen (i:=4) (by omega);omega) _) rfl ?_
 rintro _ Un ⟨rfl,my⟩
 have:=my.size
 have hb:=az hb my
 have hG:=bk.below hb
 have hR:=bh.below hb
 have aj:=aq.below aj my
 have aF:=aq.below aF my
 have hN:=cY.below hN my
 refine am rfl<|an KJ<|ax fun _ aaF=>ax fun _ KL=>?_
 refine b9 (X:=Bool) (fun q5=> [(1,.slice (some pl) l.length Lc),(2,.pointer (some ⟨aX,0,none⟩)),(4,.pointer (some ⟨cQ,0,none⟩)),(10,.slice Al Lb.length cl),(11,.slice Ap Pb.length cp),(12,.int .i64 er),(120,.bool q5)]) (fun q5 w3=>q5=(!decide (bO (l.getD 1 [])=true∧bO (l.getD 2 [])=true∧bO (l.getD 4 [])=true∧(l.getD 3 []=gQ∨l.getD 3 []=j1)))∧gD.heap.size≤w3.heap.size∧Below w.heap.size w w3∧aq w3 aX 27 [.slice A g.ns.length c,.slice A' g.es.length c']∧aq w3 cQ 27 [.slice none 0 0,.slice none 0 0]∧cY (fun k=>w2.heap.size≤k∧k<gD.heap.size) w3 Al cl Ap cp ⟨l.getD 1 [],Lb,Pb⟩) (fun _ CG=>?_) ?_
 ·
  refine aR<|ai rfl<|ah (fI rfl) rfl<|ai rfl ?_
  refine dP rfl rfl rfl (fun Bo=>?_) (fun Bo=>?_)
  ·
   have wy:=Bo;simp only [DZ] at Bo;have a1:bO (l.getD 1 [])=false:=by simpa using wy
   have a2:=a1;have a3:=a1;have a4:=a1;refine aA rfl rfl wy rfl rfl ?_;refine ah (bi rfl wy rfl) rfl ?_;refine ai rfl<|aA rfl rfl rfl rfl rfl<|aA rfl rfl rfl rfl rfl<|ah (bi rfl rfl rfl) rfl<|ai rfl<|aA rfl rfl rfl rfl rfl<|aA rfl rfl rfl rfl rfl<|aA rfl rfl rfl rfl rfl<|aA rfl rfl rfl rfl rfl<|aA rfl rfl rfl rfl rfl ?_
   refine cC rfl rfl rfl<|cC rfl rfl rfl<|cC rfl rfl rfl<|cC rfl rfl rfl<|aA rfl rfl rfl rfl rfl<|ah (bi rfl rfl rfl) rfl<|ay ?_
   refine aY CG (!decide (bO (l.getD 1 [])=true∧bO (l.getD 2 [])=true∧bO (l.getD 4 [])=true∧(l.getD 3 []=gQ∨l.getD 3 []=j1))) (by repeat first|exact aB|refine au rfl (by first|rfl|exact aP (by rw [Bool.eq_iff_iff,Bool.not_eq_true',decide_eq_false_iff_not];simp only [a1,a2,a3,a4,true_and,false_and,not_false_eq_true,Bool.false_eq_true,true_or,false_or,not_true_eq_false,bne_iff_ne,ne_eq,j1])) ?_) ?_;exact ⟨rfl,by omega,hb,aj,aF,hN⟩
  have wy:=Bo;simp only [DZ] at Bo;have a1:bO (l.getD 1 [])=true:=by simpa using wy
  refine ai rfl<|aE rfl rfl wy<|ah (fI rfl) rfl ?_
  refine ah (bg rfl wy rfl) rfl ?_;refine ai rfl ?_;refine dP rfl rfl rfl (fun Br=>?_) (fun Br=>?_)
  ·
   have wz:=Br;simp only [DZ] at Br;have a2:bO (l.getD 2 [])=false:=by simpa using wz
   have a3:=a1;have a4:=a1;refine aA rfl rfl wz rfl rfl ?_;refine ah (bi rfl wz rfl) rfl ?_;refine ai rfl<|aA rfl rfl rfl rfl rfl<|aA rfl rfl rfl rfl rfl<|aA rfl rfl rfl rfl rfl<|aA rfl rfl rfl rfl rfl<|aA rfl rfl rfl rfl rfl<|cC rfl rfl rfl<|cC rfl rfl rfl<|cC rfl rfl rfl<|cC rfl rfl rfl ?_
   refine aA rfl rfl rfl rfl rfl<|ah (bi rfl rfl rfl) rfl<|ay ?_
   refine aY CG (!decide (bO (l.getD 1 [])=true∧bO (l.getD 2 [])=true∧bO (l.getD 4 [])=true∧(l.getD 3 []=gQ∨l.getD 3 []=j1))) (by repeat first|exact aB|refine au rfl (by first|rfl|exact aP (by rw [Bool.eq_iff_iff,Bool.not_eq_true',decide_eq_false_iff_not];simp only [a1,a2,a3,a4,true_and,false_and,not_false_eq_true,Bool.false_eq_true,true_or,false_or,not_true_eq_false,bne_iff_ne,ne_eq,j1])) ?_) ?_;exact ⟨rfl,by omega,hb,aj,aF,hN⟩
  have wz:=Br;simp only [DZ] at Br;have a2:bO (l.getD 2 [])=true:=by simpa using wz
  refine ai rfl<|aE rfl rfl wz<|ah (fI rfl) rfl ?_
  refine ah (bg rfl wz rfl) rfl ?_;refine ai rfl ?_;refine dP rfl rfl rfl (fun sn=>?_) (fun sn=>?_)
  ·
   have fw:=sn;simp only [DZ] at sn;have a3:bO (l.getD 4 [])=false:=by simpa using fw
   have a4:=a1;refine aA rfl rfl fw rfl rfl<|aA rfl rfl fw rfl rfl<|aA rfl rfl fw rfl rfl<|aA rfl rfl fw rfl rfl<|cC rfl rfl rfl<|cC rfl rfl rfl<|cC rfl rfl rfl<|cC rfl rfl rfl<|aA rfl rfl fw rfl rfl ?_
   refine ah (bi rfl fw rfl) rfl ?_;refine ay ?_;refine aY CG (!decide (bO (l.getD 1 [])=true∧bO (l.getD 2 [])=true∧bO (l.getD 4 [])=true∧(l.getD 3 []=gQ∨l.getD 3 []=j1))) (by repeat first|exact aB|refine au rfl (by first|rfl|exact aP (by rw [Bool.eq_iff_iff,Bool.not_eq_true',decide_eq_false_iff_not];simp only [a1,a2,a3,a4,true_and,false_and,not_false_eq_true,Bool.false_eq_true,true_or,false_or,not_true_eq_false,bne_iff_ne,ne_eq,j1])) ?_) ?_;exact ⟨rfl,by omega,hb,aj,aF,hN⟩
  have fw:=sn;simp only [DZ] at sn;have a3:bO (l.getD 4 [])=true:=by simpa using fw
  refine ai rfl<|aE rfl rfl fw ?_
  refine ah (cx bK eo rfl rfl (by omega) (by omega)) rfl ?_;refine aE rfl rfl fw ?_;refine aW (aI bQ rfl (by exact mF hR (i:=3) (k:=3) rfl (by omega))) rfl ?_;refine aE rfl rfl fw<|ah (qO rfl rfl) rfl<|aE rfl rfl fw<|ai rfl ?_
  refine cw rfl rfl rfl (fun wA=>?_) (fun wA=>?_)
  ·
   have so:=wA;simp only [DZ] at wA;have a4:¬l.getD 3 []=gQ:=wA;refine ai rfl<|aE rfl rfl so ?_
   refine ah (cx bK eo rfl rfl (by omega) (by omega)) rfl ?_;refine aE rfl rfl so ?_;refine aW (aI bQ rfl (by exact mF hR (i:=3) (k:=3) rfl (by omega))) rfl ?_;refine aE rfl rfl so<|ah (qO rfl rfl) rfl<|aE rfl rfl fw ?_
   refine ah (bi rfl so rfl) rfl ?_;refine ah (bg rfl fw rfl) rfl ?_;refine ay ?_;refine aY CG (!decide (bO (l.getD 1 [])=true∧bO (l.getD 2 [])=true∧bO (l.getD 4 [])=true∧(l.getD 3 []=gQ∨l.getD 3 []=j1))) (by repeat first|exact aB|refine au rfl (by first|rfl|exact aP (by rw [Bool.eq_iff_iff,Bool.not_eq_true',decide_eq_false_iff_not];simp only [a1,a2,a3,a4,true_and,false_and,not_false_eq_true,Bool.false_eq_true,true_or,false_or,not_true_eq_false,bne_iff_ne,ne_eq,j1])) ?_) ?_;exact ⟨rfl,by omega,hb,aj,aF,hN⟩
  have so:=wA;simp only [DZ] at wA;have a4:l.getD 3 []=gQ:=wA;refine aA rfl rfl so rfl rfl<|aA rfl rfl so rfl rfl<|aA rfl rfl so rfl rfl<|aE rfl rfl fw ?_
  refine ah (bg rfl so rfl) rfl ?_;refine ah (bg rfl fw rfl) rfl ?_;refine ay ?_;refine aY CG (!decide (bO (l.getD 1 [])=true∧bO (l.getD 2 [])=true∧bO (l.getD 4 [])=true∧(l.getD 3 []=gQ∨l.getD 3 []=j1))) (by repeat first|exact aB|refine au rfl (by first|rfl|exact aP (by rw [Bool.eq_iff_iff,Bool.not_eq_true',decide_eq_false_iff_not];simp only [a1,a2,a3,a4,true_and,false_and,not_false_eq_true,Bool.false_eq_true,true_or,false_or,not_true_eq_false,bne_iff_ne,ne_eq,j1])) ?_) ?_;exact ⟨rfl,by omega,hb,aj,aF,hN⟩
 rintro q5 w3 wS
 replace wS:q5=(!decide (bO (l.getD 1 [])=true∧bO (l.getD 2 [])=true∧bO (l.getD 4 [])=true∧(l.getD 3 []=gQ∨l.getD 3 []=j1)))∧gD.heap.size≤w3.heap.size∧Below w.heap.size w w3∧aq w3 aX 27 [.slice A g.ns.length c,.slice A' g.es.length c']∧aq w3 cQ 27 [.slice none 0 0,.slice none 0 0]∧cY (fun k=>w2.heap.size≤k∧k<gD.heap.size) w3 Al cl Ap cp ⟨l.getD 1 [],Lb,Pb⟩:=wS
 obtain ⟨hq5,hw3,hb,aj,aF,hN⟩:=wS
 show Wq _ _ _ _ [(1,.slice (some pl) l.length Lc),(2,.pointer (some ⟨aX,0,none⟩)),(4,.pointer (some ⟨cQ,0,none⟩)),(10,.slice Al Lb.length cl),(11,.slice Ap Pb.length cp),(12,.int .i64 er),(120,.bool q5)] _
 have hG:=bk.below hb
 have hR:=bh.below hb
 have:=hb.size
 have:=aj.lt
 have:=aF.lt
 refine aw KL ?_
 refine aH rfl (fun Ir=>?_) (fun Ir=>?_)
 ·
  have Is:=Ir;have hEB:¬tu l:=by have h:=hq5.symm.trans Is;rw [Bool.not_eq_true',decide_eq_false_iff_not] at h;exact h
  have hbad:zP g l g 2:= .inr (.inl ⟨hNN,hEL,_,_,_,hRI,.inl ⟨hEB,rfl⟩⟩);refine ao fun KU=>?_;refine aW (dM eJ (by kernel_rfl) rfl (by exact fun j u hu=>aj.at hu)) rfl ?_;refine cH (by kernel_rfl) rfl rfl aF rfl rfl ?_;rintro uK aF eH;have:=eH.size;have hb:=bY hb eH hb.size (by omega);have hG:=bk.below hb;have hR:=bh.below hb;have hN:=cY.grown hN eH (by first|assumption|(simp [Value.ownBlock];omega));refine am rfl<|an KU<|aK<|aQ ?_
  refine fc (rs:= [.cell 4 27,.tmp 5]) (vs:= [_,_]) rfl (.cell rfl (e9 eJ (by kernel_rfl) (fun j u hu=>aF.at hu)) (.tmp rfl .nil)) ?_;exact ⟨_,rfl,⟨A,c,A',c',g,2,rfl,hbad,cB.up hG⟩,hb⟩
 have Is:=Ir
 have hEG:tu l:=by have h:=hq5.symm.trans Is;rw [Bool.not_eq_false',decide_eq_true_eq] at h;exact h
 refine aU<|aw aaF<|ax fun _ KV=>?_
 refine gG (n:=6) (fun w'=>Below w.heap.size w w'∧aq w' aX 27 [.slice A g.ns.length c,.slice A' g.es.length c']) #[ac,ac,ac,ac,ac,ac] (by kernel_rfl) rfl (by kernel_rfl) ?_
 refine gF ?_
 rintro ai7 CZ
 have:=CZ.size
 have hb:=az hb CZ
 have hG:=bk.below hb
 have hR:=bh.below hb
 have aj:=aq.below aj CZ
 have aF:=aq.below aF CZ
 have hN:=cY.below hN CZ
 refine aT (i:=0) #[ab,ac,ac,ac,ac,ac] rfl (by kernel_rfl) aO rfl (fun wq hq=>dM eJ (by kernel_rfl) rfl (by obtain ⟨hq,aj⟩:=hq;exact fun j u hu=>aj.at hu)) ⟨hb,aj⟩ ?_
 refine aT (i:=1) #[ab,ab,ac,ac,ac,ac] rfl (by kernel_rfl) aO rfl (fun wq hq=>a8 (bl rfl)) ⟨hb,aj⟩ ?_
 refine aT (i:=2) #[ab,ab,ab,ac,ac,ac] rfl (by kernel_rfl) aO rfl (fun wq hq=>a8 (cx bK eo rfl rfl (by omega) (by omega))) ⟨hb,aj⟩ ?_
 refine aT (i:=3) #[ab,ab,ab,ab,ac,ac] rfl (by kernel_rfl) aO rfl (fun wq hq=>aI bQ rfl (by obtain ⟨hq,aj⟩:=hq;have hR:=bh.below hq;exact mF hR (i:=2) (k:=2) rfl (by omega))) ⟨hb,aj⟩ ?_
 refine bM (rs:= [4]) (by kernel_rfl) rfl ?_
 refine bv #[ab,ab,ab,ab,ab,ac] rfl rfl (fun _ KW=>?_) ?_
 ·
  have hcq:=GP _ A c A' c' g (l.getD 2 []) _ hG.gat (by omega);refine aS MU rfl rfl (hcq) rfl ?_;rintro _ ahF ⟨⟨fr,rfl,hfr⟩,qz⟩;have:=qz.size;have hb:=az hb qz;have hG:=bk.below hb;have hR:=bh.below hb;have aj:=aq.below aj qz;have aF:=aq.below aF qz;have hN:=cY.below hN qz;refine ay ?_;refine bu KW ⟨hb,aj⟩ ?_;refine aT (i:=5) #[ab,ab,ab,ab,ab,ab] rfl (by kernel_rfl) aO rfl (fun wq hq=>a8 (cX rfl)) ⟨hb,aj⟩ ?_;refine eE (by kernel_rfl) ?_;refine aw KV<|ax fun _ aa1=>?_
  refine gG (n:=6) (fun w'=>Below w.heap.size w w'∧aq w' aX 27 [.slice A g.ns.length c,.slice A' g.es.length c']) #[ac,ac,ac,ac,ac,ac] (by kernel_rfl) rfl (by kernel_rfl) ?_;refine gF ?_;rintro ai8 C0;have:=C0.size;have hb:=az hb C0;have hG:=bk.below hb;have hR:=bh.below hb;have aj:=aq.below aj C0;have aF:=aq.below aF C0;have hN:=cY.below hN C0;refine aT (i:=0) #[ab,ac,ac,ac,ac,ac] rfl (by kernel_rfl) aO rfl (fun wq hq=>dM eJ (by kernel_rfl) rfl (by obtain ⟨hq,aj⟩:=hq;exact fun j u hu=>aj.at hu)) ⟨hb,aj⟩ ?_;refine aT (i:=1) #[ab,ab,ac,ac,ac,ac] rfl (by kernel_rfl) aO rfl (fun wq hq=>a8 (bl rfl)) ⟨hb,aj⟩ ?_;refine aT (i:=2) #[ab,ab,ab,ac,ac,ac] rfl (by kernel_rfl) aO rfl (fun wq hq=>a8 (cx bK eo rfl rfl (by omega) (by omega))) ⟨hb,aj⟩ ?_;refine aT (i:=3) #[ab,ab,ab,ab,ac,ac] rfl (by kernel_rfl) aO rfl (fun wq hq=>aI bQ rfl (by obtain ⟨hq,aj⟩:=hq;have hR:=bh.below hq;exact mF hR (i:=4) (k:=4) rfl (by omega))) ⟨hb,aj⟩ ?_;refine bM (rs:= [4]) (by kernel_rfl) rfl ?_;refine bv #[ab,ab,ab,ab,ab,ac] rfl rfl (fun _ KX=>?_) ?_
  ·
   have hcq:=GP _ A c A' c' g (l.getD 4 []) _ hG.gat (by omega);refine aS MU rfl rfl (hcq) rfl ?_;rintro _ Uk ⟨⟨tw,rfl,htw⟩,mw⟩;have:=mw.size;have hb:=az hb mw;have hG:=bk.below hb;have hR:=bh.below hb;have aj:=aq.below aj mw;have aF:=aq.below aF mw;have hN:=cY.below hN mw;refine ay ?_;refine bu KX ⟨hb,aj⟩ ?_;refine aT (i:=5) #[ab,ab,ab,ab,ab,ab] rfl (by kernel_rfl) aO rfl (fun wq hq=>a8 (cX rfl)) ⟨hb,aj⟩ ?_;refine eE (by kernel_rfl) ?_;refine aw aa1<|ax fun _ aa3=>ax fun _ aa4=>?_
   refine b9 (X:=Bool) (fun q6=> [(1,.slice (some pl) l.length Lc),(2,.pointer (some ⟨aX,0,none⟩)),(4,.pointer (some ⟨cQ,0,none⟩)),(10,.slice Al Lb.length cl),(11,.slice Ap Pb.length cp),(16,.int .i64 fr),(17,.int .i64 tw),(12,.int .i64 er),(145,.bool q6)]) (fun q6 w3=>q6=decide (fr<0∨tw<0∨l.getD 1 []∈dy g)∧gD.heap.size≤w3.heap.size∧Below w.heap.size w w3∧aq w3 aX 27 [.slice A g.ns.length c,.slice A' g.es.length c']∧aq w3 cQ 27 [.slice none 0 0,.slice none 0 0]∧cY (fun k=>w2.heap.size≤k∧k<gD.heap.size) w3 Al cl Ap cp ⟨l.getD 1 [],Lb,Pb⟩) (fun _ K8=>?_) ?_
   ·
    refine gG (n:=14) (fun w'=>Below w.heap.size w w'∧aq w' aX 27 [.slice A g.ns.length c,.slice A' g.es.length c']) #[ac,ac,ac,ac,ac,ac,ac,ac,ac,ac,ac,ac,ac,ac] (by kernel_rfl) rfl (by kernel_rfl) ?_;refine gF ?_;rintro ai9 C2;have:=C2.size;have hb:=az hb C2;have hG:=bk.below hb;have hR:=bh.below hb;have aj:=aq.below aj C2;have aF:=aq.below aF C2;have hN:=cY.below hN C2;refine aT (i:=0) #[ab,ac,ac,ac,ac,ac,ac,ac,ac,ac,ac,ac,ac,ac] rfl (by kernel_rfl) aO rfl (fun wq hq=>a8 (bl rfl)) ⟨hb,aj⟩ ?_;refine aT (i:=1) #[ab,ab,ac,ac,ac,ac,ac,ac,ac,ac,ac,ac,ac,ac] rfl (by kernel_rfl) aO rfl (fun wq hq=>a8 (cg rfl rfl)) ⟨hb,aj⟩ ?_;refine aT (i:=2) #[ab,ab,ab,ac,ac,ac,ac,ac,ac,ac,ac,ac,ac,ac] rfl (by kernel_rfl) aO rfl (fun wq hq=>a8 (bl rfl)) ⟨hb,aj⟩ ?_;refine N0 (s:=134) rfl (fun wB=>?_) (fun wB=>?_)
    ·
     have wC:=wB;simp only [DZ] at wB;have hq6:true=decide (fr<0∨tw<0∨l.getD 1 []∈dy g):=(decide_eq_true (.inl wB)).symm;refine mO (i:=3) #[ab,ab,ab,ab,ac,ac,ac,ac,ac,ac,ac,ac,ac,ac] rfl rfl rfl wC (by kernel_rfl) aO rfl ⟨hb,aj⟩ ?_;refine mO (i:=4) #[ab,ab,ab,ab,ab,ac,ac,ac,ac,ac,ac,ac,ac,ac] rfl rfl rfl wC (by kernel_rfl) aO rfl ⟨hb,aj⟩ ?_;refine aT (i:=5) #[ab,ab,ab,ab,ab,ab,ac,ac,ac,ac,ac,ac,ac,ac] rfl (by kernel_rfl) aO rfl (fun wq hq=>a8 (bi rfl wC rfl)) ⟨hb,aj⟩ ?_;refine aT (i:=6) #[ab,ab,ab,ab,ab,ab,ab,ac,ac,ac,ac,ac,ac,ac] rfl (by kernel_rfl) aO rfl (fun wq hq=>a8 (bl rfl)) ⟨hb,aj⟩ ?_;refine mO (i:=7) #[ab,ab,ab,ab,ab,ab,ab,ab,ac,ac,ac,ac,ac,ac] rfl rfl rfl rfl (by kernel_rfl) aO rfl ⟨hb,aj⟩ ?_;refine mO (i:=8) #[ab,ab,ab,ab,ab,ab,ab,ab,ab,ac,ac,ac,ac,ac] rfl rfl rfl rfl (by kernel_rfl) aO rfl ⟨hb,aj⟩ ?_;refine mO (i:=9) #[ab,ab,ab,ab,ab,ab,ab,ab,ab,ab,ac,ac,ac,ac] rfl rfl rfl rfl (by kernel_rfl) aO rfl ⟨hb,aj⟩ ?_;refine mO (i:=10) #[ab,ab,ab,ab,ab,ab,ab,ab,ab,ab,ab,ac,ac,ac] rfl rfl rfl rfl (by kernel_rfl) aO rfl ⟨hb,aj⟩ ?_;refine mO (i:=11) #[ab,ab,ab,ab,ab,ab,ab,ab,ab,ab,ab,ab,ac,ac] rfl rfl rfl rfl (by kernel_rfl) aO rfl ⟨hb,aj⟩ ?_;refine mO (i:=12) #[ab,ab,ab,ab,ab,ab,ab,ab,ab,ab,ab,ab,ab,ac] rfl rfl rfl rfl (by kernel_rfl) aO rfl ⟨hb,aj⟩ ?_;refine aT (i:=13) #[ab,ab,ab,ab,ab,ab,ab,ab,ab,ab,ab,ab,ab,ab] rfl (by kernel_rfl) aO rfl (fun wq hq=>a8 (bi rfl rfl rfl)) ⟨hb,aj⟩ ?_
     refine eE (by kernel_rfl) ?_;refine aY K8 (decide (fr<0∨tw<0∨l.getD 1 []∈dy g)) (by repeat first|exact aB|refine au rfl (by first|rfl|exact aP hq6) ?_) ?_;exact ⟨rfl,by omega,hb,aj,aF,hN⟩
    have wC:=wB;simp only [DZ] at wB;have b1:¬fr<0:=by have:=wB;omega
    refine uP (i:=3) #[ab,ab,ab,ab,ac,ac,ac,ac,ac,ac,ac,ac,ac,ac] rfl rfl rfl wC (by kernel_rfl) aO rfl (fun wq hq=>a8 (bl rfl)) ⟨hb,aj⟩ ?_;refine uP (i:=4) #[ab,ab,ab,ab,ab,ac,ac,ac,ac,ac,ac,ac,ac,ac] rfl rfl rfl wC (by kernel_rfl) aO rfl (fun wq hq=>a8 (cg rfl rfl)) ⟨hb,aj⟩ ?_;refine aT (i:=5) #[ab,ab,ab,ab,ab,ab,ac,ac,ac,ac,ac,ac,ac,ac] rfl (by kernel_rfl) aO rfl (fun wq hq=>a8 (bg rfl wC rfl)) ⟨hb,aj⟩ ?_;refine aT (i:=6) #[ab,ab,ab,ab,ab,ab,ab,ac,ac,ac,ac,ac,ac,ac] rfl (by kernel_rfl) aO rfl (fun wq hq=>a8 (bl rfl)) ⟨hb,aj⟩ ?_;refine N0 (s:=138) rfl (fun wD=>?_) (fun wD=>?_)
    ·
     have l2:=wD;simp only [DZ] at wD;have hq6:true=decide (fr<0∨tw<0∨l.getD 1 []∈dy g):=(decide_eq_true (.inr (.inl wD))).symm;refine mO (i:=7) #[ab,ab,ab,ab,ab,ab,ab,ab,ac,ac,ac,ac,ac,ac] rfl rfl rfl l2 (by kernel_rfl) aO rfl ⟨hb,aj⟩ ?_;refine mO (i:=8) #[ab,ab,ab,ab,ab,ab,ab,ab,ab,ac,ac,ac,ac,ac] rfl rfl rfl l2 (by kernel_rfl) aO rfl ⟨hb,aj⟩ ?_;refine mO (i:=9) #[ab,ab,ab,ab,ab,ab,ab,ab,ab,ab,ac,ac,ac,ac] rfl rfl rfl l2 (by kernel_rfl) aO rfl ⟨hb,aj⟩ ?_;refine mO (i:=10) #[ab,ab,ab,ab,ab,ab,ab,ab,ab,ab,ab,ac,ac,ac] rfl rfl rfl l2 (by kernel_rfl) aO rfl ⟨hb,aj⟩ ?_;refine mO (i:=11) #[ab,ab,ab,ab,ab,ab,ab,ab,ab,ab,ab,ab,ac,ac] rfl rfl rfl l2 (by kernel_rfl) aO rfl ⟨hb,aj⟩ ?_;refine mO (i:=12) #[ab,ab,ab,ab,ab,ab,ab,ab,ab,ab,ab,ab,ab,ac] rfl rfl rfl l2 (by kernel_rfl) aO rfl ⟨hb,aj⟩ ?_;refine aT (i:=13) #[ab,ab,ab,ab,ab,ab,ab,ab,ab,ab,ab,ab,ab,ab] rfl (by kernel_rfl) aO rfl (fun wq hq=>a8 (bi rfl l2 rfl)) ⟨hb,aj⟩ ?_;refine eE (by kernel_rfl) ?_;refine aY K8 (decide (fr<0∨tw<0∨l.getD 1 []∈dy g)) (by repeat first|exact aB|refine au rfl (by first|rfl|exact aP hq6) ?_) ?_;exact ⟨rfl,by omega,hb,aj,aF,hN⟩
    have l2:=wD;simp only [DZ] at wD;have b2:¬tw<0:=by have:=wD;omega
    refine uP (i:=7) #[ab,ab,ab,ab,ab,ab,ab,ab,ac,ac,ac,ac,ac,ac] rfl rfl rfl l2 (by kernel_rfl) aO rfl (fun wq hq=>dM eJ (by kernel_rfl) rfl (by obtain ⟨hq,aj⟩:=hq;exact fun j u hu=>aj.at hu)) ⟨hb,aj⟩ ?_;refine uP (i:=8) #[ab,ab,ab,ab,ab,ab,ab,ab,ab,ac,ac,ac,ac,ac] rfl rfl rfl l2 (by kernel_rfl) aO rfl (fun wq hq=>a8 (bl rfl)) ⟨hb,aj⟩ ?_;refine uP (i:=9) #[ab,ab,ab,ab,ab,ab,ab,ab,ab,ab,ac,ac,ac,ac] rfl rfl rfl l2 (by kernel_rfl) aO rfl (fun wq hq=>a8 (cx bK eo rfl rfl (by omega) (by omega))) ⟨hb,aj⟩ ?_;refine uP (i:=10) #[ab,ab,ab,ab,ab,ab,ab,ab,ab,ab,ab,ac,ac,ac] rfl rfl rfl l2 (by kernel_rfl) aO rfl (fun wq hq=>aI bQ rfl (by obtain ⟨hq,aj⟩:=hq;have hR:=bh.below hq;exact mF hR (i:=1) (k:=1) rfl (by omega))) ⟨hb,aj⟩ ?_;refine bM (rs:= [11]) (by kernel_rfl) rfl ?_;refine bv #[ab,ab,ab,ab,ab,ab,ab,ab,ab,ab,ab,ab,ac,ac] rfl rfl (fun _ aa8=>?_) ?_
    ·
     refine aE rfl rfl l2 ?_;have hcq:=Vx _ A c A' c' g (l.getD 1 []) _ hG.gat (by omega);refine aS agT rfl rfl (hcq) rfl ?_;rintro _ Ul ⟨⟨kx,rfl,hkx⟩,mx⟩;have:=mx.size;have hb:=az hb mx;have hG:=bk.below hb;have hR:=bh.below hb;have aj:=aq.below aj mx;have aF:=aq.below aF mx;have hN:=cY.below hN mx;refine ay ?_;refine bu aa8 ⟨hb,aj⟩ ?_
     have hq6:decide (0≤kx)=decide (fr<0∨tw<0∨l.getD 1 []∈dy g):=by
      rw [Bool.eq_iff_iff,decide_eq_true_eq,decide_eq_true_eq];exact ⟨fun h=> .inr (.inr ((EP hkx).1 h)),fun h=>(EP hkx).2 (by rcases h with h|h|h;(· exact absurd h b1);(· exact absurd h b2);(· exact h))⟩
     refine uP (i:=12) #[ab,ab,ab,ab,ab,ab,ab,ab,ab,ab,ab,ab,ab,ac] rfl rfl rfl l2 (by kernel_rfl) aO rfl (fun wq hq=>a8 (jb rfl rfl)) ⟨hb,aj⟩ ?_;refine aT (i:=13) #[ab,ab,ab,ab,ab,ab,ab,ab,ab,ab,ab,ab,ab,ab] rfl (by kernel_rfl) aO rfl (fun wq hq=>a8 (bg rfl l2 rfl)) ⟨hb,aj⟩ ?_;refine eE (by kernel_rfl) ?_;refine aY K8 (decide (fr<0∨tw<0∨l.getD 1 []∈dy g)) (by repeat first|exact aB|refine au rfl (by first|rfl|exact aP hq6) ?_) ?_;exact ⟨rfl,by omega,hb,aj,aF,hN⟩
    exact bN
   rintro q6 w3 JW;replace JW:q6=decide (fr<0∨tw<0∨l.getD 1 []∈dy g)∧gD.heap.size≤w3.heap.size∧Below w.heap.size w w3∧aq w3 aX 27 [.slice A g.ns.length c,.slice A' g.es.length c']∧aq w3 cQ 27 [.slice none 0 0,.slice none 0 0]∧cY (fun k=>w2.heap.size≤k∧k<gD.heap.size) w3 Al cl Ap cp ⟨l.getD 1 [],Lb,Pb⟩:=JW;obtain ⟨hq7,hw3,hb,aj,aF,hN⟩:=JW;show Wq _ _ _ _ [(1,.slice (some pl) l.length Lc),(2,.pointer (some ⟨aX,0,none⟩)),(4,.pointer (some ⟨cQ,0,none⟩)),(10,.slice Al Lb.length cl),(11,.slice Ap Pb.length cp),(16,.int .i64 fr),(17,.int .i64 tw),(12,.int .i64 er),(145,.bool q6)] _;have hG:=bk.below hb;have hR:=bh.below hb;have:=hb.size;have:=aj.lt;have:=aF.lt;refine aw aa4 ?_;refine b9 (X:=Unit) (fun u_=> [(1,.slice (some pl) l.length Lc),(2,.pointer (some ⟨aX,0,none⟩)),(4,.pointer (some ⟨cQ,0,none⟩)),(10,.slice Al Lb.length cl),(11,.slice Ap Pb.length cp),(16,.int .i64 fr),(17,.int .i64 tw),(12,.int .i64 (dl (fr<0∨tw<0∨l.getD 1 []∈dy g) er 3))]) (fun u_ w3=>gD.heap.size≤w3.heap.size∧Below w.heap.size w w3∧aq w3 aX 27 [.slice A g.ns.length c,.slice A' g.es.length c']∧aq w3 cQ 27 [.slice none 0 0,.slice none 0 0]∧cY (fun k=>w2.heap.size≤k∧k<gD.heap.size) w3 Al cl Ap cp ⟨l.getD 1 [],Lb,Pb⟩) (fun _ Qf=>?_) ?_
   ·
    refine aH rfl (fun Iz=>?_) (fun Iz=>?_)
    ·
     have IA:=Iz;have he8:mE er 3=(dl (fr<0∨tw<0∨l.getD 1 []∈dy g) er 3):=(tb (of_decide_eq_true (hq7.symm.trans IA)) _ _).symm;refine aR<|ai rfl ?_
     refine aS Gk rfl rfl (Ed er 3 _) rfl ?_;rintro _ Um ⟨rfl,sW⟩;have:=sW.size;have hb:=az hb sW;have hG:=bk.below hb;have hR:=bh.below hb;have aj:=aq.below aj sW;have aF:=aq.below aF sW;have hN:=cY.below hN sW;refine am rfl<|ay ?_
     refine aY Qf (()) (by repeat first|exact aB|refine au rfl (by first|rfl|exact int_eq he8) ?_) ?_;exact ⟨by omega,hb,aj,aF,hN⟩
    have IA:=Iz;have he8:er=(dl (fr<0∨tw<0∨l.getD 1 []∈dy g) er 3):=(x3 (of_decide_eq_false (hq7.symm.trans IA)) _ _).symm;refine aU ?_;refine aY Qf (()) (by repeat first|exact aB|refine au rfl (by first|rfl|exact int_eq he8) ?_) ?_;exact ⟨by omega,hb,aj,aF,hN⟩
   rintro u_ w3 JX;replace JX:gD.heap.size≤w3.heap.size∧Below w.heap.size w w3∧aq w3 aX 27 [.slice A g.ns.length c,.slice A' g.es.length c']∧aq w3 cQ 27 [.slice none 0 0,.slice none 0 0]∧cY (fun k=>w2.heap.size≤k∧k<gD.heap.size) w3 Al cl Ap cp ⟨l.getD 1 [],Lb,Pb⟩:=JX;obtain ⟨hw3,hb,aj,aF,hN⟩:=JX;show Wq _ _ _ _ [(1,.slice (some pl) l.length Lc),(2,.pointer (some ⟨aX,0,none⟩)),(4,.pointer (some ⟨cQ,0,none⟩)),(10,.slice Al Lb.length cl),(11,.slice Ap Pb.length cp),(16,.int .i64 fr),(17,.int .i64 tw),(12,.int .i64 (dl (fr<0∨tw<0∨l.getD 1 []∈dy g) er 3))] _;have hG:=bk.below hb;have hR:=bh.below hb;have:=hb.size;have:=aj.lt;have:=aF.lt;refine aw aa3<|ax fun _ abb=>ao fun abc=>?_
   refine ah (aJ (jy _) rfl) rfl ?_;refine aW (aI gL rfl (by exact aj.at (j:=1) rfl)) rfl ?_;refine ah (cG d4 (by omega) rfl) rfl ?_;refine ah (jb rfl rfl) rfl<|an abc ?_
   refine b9 (X:=Unit) (fun u_=> [(1,.slice (some pl) l.length Lc),(2,.pointer (some ⟨aX,0,none⟩)),(4,.pointer (some ⟨cQ,0,none⟩)),(10,.slice Al Lb.length cl),(11,.slice Ap Pb.length cp),(16,.int .i64 fr),(17,.int .i64 tw),(12,.int .i64 (dl (1000≤g.es.length) (dl (fr<0∨tw<0∨l.getD 1 []∈dy g) er 3) 6))]) (fun u_ w5=>gD.heap.size≤w5.heap.size∧Below w.heap.size w w5∧aq w5 aX 27 [.slice A g.ns.length c,.slice A' g.es.length c']∧aq w5 cQ 27 [.slice none 0 0,.slice none 0 0]∧cY (fun k=>w2.heap.size≤k∧k<gD.heap.size) w5 Al cl Ap cp ⟨l.getD 1 [],Lb,Pb⟩) (fun _ Qg=>?_) ?_
   ·
    refine aH rfl (fun vZ=>?_) (fun vZ=>?_)
    ·
     have YS:=vZ;simp only [DZ] at vZ;have he9:mE (dl (fr<0∨tw<0∨l.getD 1 []∈dy g) er 3) 6=(dl (1000≤g.es.length) (dl (fr<0∨tw<0∨l.getD 1 []∈dy g) er 3) 6):=(tb (by have:=vZ;omega) _ _).symm;refine aR<|ai rfl ?_
     refine aS Gk rfl rfl (Ed (dl (fr<0∨tw<0∨l.getD 1 []∈dy g) er 3) 6 _) rfl ?_;rintro _ aje ⟨rfl,C5⟩;have:=C5.size;have hb:=az hb C5;have hG:=bk.below hb;have hR:=bh.below hb;have aj:=aq.below aj C5;have aF:=aq.below aF C5;have hN:=cY.below hN C5;refine am rfl<|ay ?_
     refine aY Qg (()) (by repeat first|exact aB|refine au rfl (by first|rfl|exact int_eq he9) ?_) ?_;exact ⟨by omega,hb,aj,aF,hN⟩
    have YS:=vZ;simp only [DZ] at vZ;have he9:(dl (fr<0∨tw<0∨l.getD 1 []∈dy g) er 3)=(dl (1000≤g.es.length) (dl (fr<0∨tw<0∨l.getD 1 []∈dy g) er 3) 6):=(x3 (by have:=vZ;omega) _ _).symm;refine aU ?_;refine aY Qg (()) (by repeat first|exact aB|refine au rfl (by first|rfl|exact int_eq he9) ?_) ?_;exact ⟨by omega,hb,aj,aF,hN⟩
   rintro u_ w5 JY;replace JY:gD.heap.size≤w5.heap.size∧Below w.heap.size w w5∧aq w5 aX 27 [.slice A g.ns.length c,.slice A' g.es.length c']∧aq w5 cQ 27 [.slice none 0 0,.slice none 0 0]∧cY (fun k=>w2.heap.size≤k∧k<gD.heap.size) w5 Al cl Ap cp ⟨l.getD 1 [],Lb,Pb⟩:=JY;obtain ⟨hw5,hb,aj,aF,hN⟩:=JY;show Wq _ _ _ _ [(1,.slice (some pl) l.length Lc),(2,.pointer (some ⟨aX,0,none⟩)),(4,.pointer (some ⟨cQ,0,none⟩)),(10,.slice Al Lb.length cl),(11,.slice Ap Pb.length cp),(16,.int .i64 fr),(17,.int .i64 tw),(12,.int .i64 (dl (1000≤g.es.length) (dl (fr<0∨tw<0∨l.getD 1 []∈dy g) er 3) 6))] _;have hG:=bk.below hb;have hR:=bh.below hb;have:=hb.size;have:=aj.lt;have:=aF.lt;refine aw abb<|ax fun _ abd=>?_
   obtain ⟨css,hcn,hcs,hRc,hQc⟩:=NN hG.gat.re (by decide);have hb5:=hb;have hb2:=Below.refl w5.heap.size w5;have d5:=aj;have d6:=aF;have d9:=hN;refine gG (n:=20) (fun w'=>Below w.heap.size w w') #[ac,ac,ac,ac,ac,ac,ac,ac,ac,ac,ac,ac,ac,ac,ac,ac,ac,ac,ac,ac] (by kernel_rfl) rfl (by kernel_rfl) ?_;refine gF ?_;rintro aja Lv;have:=Lv.size;have hb:=az hb Lv;have hG:=bk.below hb;have hR:=bh.below hb;have hb2:=az hb2 Lv;have aj:=d5.below hb2;have aF:=d6.below hb2;have hN:=d9.below hb2;refine aT (i:=1) #[ac,ab,ac,ac,ac,ac,ac,ac,ac,ac,ac,ac,ac,ac,ac,ac,ac,ac,ac,ac] rfl (by kernel_rfl) aO rfl (fun wq hq=>a8 (aJ (jy _) rfl)) hb ?_;refine aT (i:=4) #[ac,ab,ac,ac,ab,ac,ac,ac,ac,ac,ac,ac,ac,ac,ac,ac,ac,ac,ac,ac] rfl (by kernel_rfl) aO rfl (fun wq hq=>a8 (bl rfl)) hb ?_;refine aT (i:=5) #[ac,ab,ac,ac,ab,ab,ac,ac,ac,ac,ac,ac,ac,ac,ac,ac,ac,ac,ac,ac] rfl (by kernel_rfl) aO rfl (fun wq hq=>a8 (cx bK eo rfl rfl (by omega) (by omega))) hb ?_;refine aT (i:=6) #[ac,ab,ac,ac,ab,ab,ab,ac,ac,ac,ac,ac,ac,ac,ac,ac,ac,ac,ac,ac] rfl (by kernel_rfl) aO rfl (fun wq hq=>aI bQ rfl (by have hG:=bk.below hq;have hR:=bh.below hq;exact mF hR (i:=1) (k:=1) rfl (by omega))) hb ?_;refine aT (i:=7) #[ac,ab,ac,ac,ab,ab,ab,ab,ac,ac,ac,ac,ac,ac,ac,ac,ac,ac,ac,ac] rfl (by kernel_rfl) aO rfl (fun wq hq=>a8 (bl rfl)) hb ?_
   refine aT (i:=8) #[ac,ab,ac,ac,ab,ab,ab,ab,ab,ac,ac,ac,ac,ac,ac,ac,ac,ac,ac,ac] rfl (by kernel_rfl) aO rfl (fun wq hq=>a8 (bl rfl)) hb ?_;refine aT (i:=9) #[ac,ab,ac,ac,ab,ab,ab,ab,ab,ab,ac,ac,ac,ac,ac,ac,ac,ac,ac,ac] rfl (by kernel_rfl) aO rfl (fun wq hq=>a8 (bl rfl)) hb ?_;refine aT (i:=10) #[ac,ab,ac,ac,ab,ab,ab,ab,ab,ab,ab,ac,ac,ac,ac,ac,ac,ac,ac,ac] rfl (by kernel_rfl) aO rfl (fun wq hq=>a8 (cx bK eo rfl rfl (by omega) (by omega))) hb ?_;refine aT (i:=11) #[ac,ab,ac,ac,ab,ab,ab,ab,ab,ab,ab,ab,ac,ac,ac,ac,ac,ac,ac,ac] rfl (by kernel_rfl) aO rfl (fun wq hq=>aI bQ rfl (by have hG:=bk.below hq;have hR:=bh.below hq;exact mF hR (i:=3) (k:=3) rfl (by omega))) hb ?_;refine aT (i:=12) #[ac,ab,ac,ac,ab,ab,ab,ab,ab,ab,ab,ab,ab,ac,ac,ac,ac,ac,ac,ac] rfl (by kernel_rfl) aO rfl (fun wq hq=>a8 (bt (fu rfl rfl) (aP (Xi (l.getD 3 []))))) hb ?_;refine aT (i:=13) #[ac,ab,ac,ac,ab,ab,ab,ab,ab,ab,ab,ab,ab,ab,ac,ac,ac,ac,ac,ac] rfl (by kernel_rfl) aO rfl (fun wq hq=>a8 (bl rfl)) hb ?_;refine aT (i:=14) #[ac,ab,ac,ac,ab,ab,ab,ab,ab,ab,ab,ab,ab,ab,ab,ac,ac,ac,ac,ac] rfl (by kernel_rfl) aO rfl (fun wq hq=>a8 (bl rfl)) hb ?_;refine aT (i:=15) #[ac,ab,ac,ac,ab,ab,ab,ab,ab,ab,ab,ab,ab,ab,ab,ab,ac,ac,ac,ac] rfl (by kernel_rfl) aO rfl (fun wq hq=>a8 (fe (z:=Rl) (pl:=Rm) (cs:= [_,_,_,_,_,_]) mI (by kernel_rfl) (by kernel_rfl) rfl rfl rfl)) hb ?_
   refine NZ (X:=Value×Nat) (fuel':=3) #[ab,ab,ab,ab,ab,ab,ab,ab,ab,ab,ab,ab,ab,ab,ab,ab,ab,ac,ac,ac] (fun (i7,gV)=> [(1,.slice (some pl) l.length Lc),(2,.pointer (some ⟨aX,0,none⟩)),(4,.pointer (some ⟨cQ,0,none⟩)),(10,.slice Al Lb.length cl),(11,.slice Ap Pb.length cp),(16,.int .i64 fr),(17,.int .i64 tw),(12,.int .i64 (dl (1000≤g.es.length) (dl (fr<0∨tw<0∨l.getD 1 []∈dy g) er 3) 6)),(157,i7),(170,.slice (some ⟨gV,0,none⟩) 1 1)]) (fun (i7,gV) w6=>w5.heap.size≤w6.heap.size∧Below w.heap.size w w6∧aq w6 aX 27 [.slice A g.ns.length c,.slice A' g.es.length c']∧aq w6 cQ 27 [.slice none 0 0,.slice none 0 0]∧aq w6 gV 46 [str (l.getD 1 []),.int .i64 fr,.int .i64 tw,.bool (decide (l.getD 3 []=gQ)),.slice Al Lb.length cl,.slice Ap Pb.length cp]∧w6.ownsRow w5.heap.size 46 6 i7 (0+g.es.length) ([]++css.flatten)∧cY (fun k=>w2.heap.size≤k∧k<gD.heap.size) w6 Al cl Ap cp ⟨l.getD 1 [],Lb,Pb⟩) ?_ (fun t6=>?_)
   ·
    rintro ⟨i7,gV⟩ w6 JZ;replace JZ:w5.heap.size≤w6.heap.size∧Below w.heap.size w w6∧aq w6 aX 27 [.slice A g.ns.length c,.slice A' g.es.length c']∧aq w6 cQ 27 [.slice none 0 0,.slice none 0 0]∧aq w6 gV 46 [str (l.getD 1 []),.int .i64 fr,.int .i64 tw,.bool (decide (l.getD 3 []=gQ)),.slice Al Lb.length cl,.slice Ap Pb.length cp]∧w6.ownsRow w5.heap.size 46 6 i7 (0+g.es.length) ([]++css.flatten)∧cY (fun k=>w2.heap.size≤k∧k<gD.heap.size) w6 Al cl Ap cp ⟨l.getD 1 [],Lb,Pb⟩:=JZ;obtain ⟨hw56,hb,aj,aF,d2,hO,hN⟩:=JZ;show Wa _ _ _ _ _ _ _ _ [(1,.slice (some pl) l.length Lc),(2,.pointer (some ⟨aX,0,none⟩)),(4,.pointer (some ⟨cQ,0,none⟩)),(10,.slice Al Lb.length cl),(11,.slice Ap Pb.length cp),(16,.int .i64 fr),(17,.int .i64 tw),(12,.int .i64 (dl (1000≤g.es.length) (dl (fr<0∨tw<0∨l.getD 1 []∈dy g) er 3) 6)),(157,i7),(170,.slice (some ⟨gV,0,none⟩) 1 1)] _;have hG:=bk.below hb;have hR:=bh.below hb;have:=hb.size;have:=aj.lt;have:=aF.lt;have:=d2.lt;refine bM (rs:= [17]) (by kernel_rfl) rfl ?_;refine bv #[ab,ab,ab,ab,ab,ab,ab,ab,ab,ab,ab,ab,ab,ab,ab,ab,ab,ab,ac,ac] rfl rfl (fun _ abe=>?_) ?_
    ·
     refine dK (z:=mA) (sz:=6) (bytes:=88) d4 (by kernel_rfl) rfl (by decide) _ rfl hO rfl (d2.rd 1 6 rfl) (DO rfl rfl rfl rfl rfl rfl) (by simp only [maxLen];omega) (by omega) (by omega) rfl ?_;rintro aiZ ai0 acq CQ air;have:=CQ.size;have hb:=hb.grown CQ hb.size (fun k_ ba=>by have:=(bz hO k_ ba).1;omega);have hG:=bk.below hb;have hR:=bh.below hb;have aj:=aq.grown aj CQ (by first|(intro e_;have h_:=(bz hO _ e_.symm).1;omega)|(intro k_ ba;have kR:=ba.2;refine ⟨?_,fun e_=>?_⟩;omega;have h_:=(bz hO _ e_.symm).1;omega));have aF:=aq.grown aF CQ (by first|(intro e_;have h_:=(bz hO _ e_.symm).1;omega)|(intro k_ ba;have kR:=ba.2;refine ⟨?_,fun e_=>?_⟩;omega;have h_:=(bz hO _ e_.symm).1;omega));have hN:=cY.grown hN CQ (by first|(intro e_;have h_:=(bz hO _ e_.symm).1;omega)|(intro k_ ba;have kR:=ba.2;refine ⟨?_,fun e_=>?_⟩;omega;have h_:=(bz hO _ e_.symm).1;omega));have hO:=acq;refine ay ?_;refine bu abe hb ?_;refine aT (i:=18) #[ab,ab,ab,ab,ab,ab,ab,ab,ab,ab,ab,ab,ab,ab,ab,ab,ab,ab,ab,ac] rfl (by kernel_rfl) aO rfl (fun wq hq=>a8 (aJ (jy _) rfl)) hb ?_;refine bM (rs:= [19]) (by kernel_rfl) rfl ?_;refine bv #[ab,ab,ab,ab,ab,ab,ab,ab,ab,ab,ab,ab,ab,ab,ab,ab,ab,ab,ab,ab] rfl rfl (fun _ abf=>?_) ?_
     ·
      obtain ⟨A2,c2,hv2,hH⟩:=Zt (g0:=aX) (g1:=cQ) (d:=⟨l.getD 1 [],fr,tw,decide (l.getD 3 []=gQ),Lb,Pb⟩) hG hb5 hb hcn hcs hQc hO hN hokp ⟨hB,iB,by omega,by omega,hw5,by omega,by omega⟩;subst hv2;refine fJ gL rfl rfl rfl aj (by simp) ?_;rintro zE aj fN;have:=fN.size;have hb:=bY hb fN hb.size (by omega);have hG:=bk.below hb;have hR:=bh.below hb;have aF:=aq.grown aF fN (by first|(intro e_;have h_:=Option.some.inj e_;omega)|(intro k_ ba;exact ⟨by have:=ba.2.1;omega,fun e_=>ba.2.2.1 (Option.some.inj e_)⟩));have hH:=jJ.grown hH fN (by first|(intro e_;have h_:=Option.some.inj e_;omega)|(intro k_ ba;exact ⟨by have:=ba.2.1;omega,fun e_=>ba.2.2.1 (Option.some.inj e_)⟩));refine ay ?_;refine bu abf hb ?_;refine eE (by kernel_rfl) ?_;refine aw abd<|ao fun abg=>?_
      refine aW (dM eJ (by kernel_rfl) rfl (by exact fun j u hu=>aj.at hu)) rfl ?_;refine ai rfl ?_;refine cH (by kernel_rfl) rfl rfl aF rfl rfl ?_;rintro Nb aF lz;have:=lz.size;have hb:=bY hb lz hb.size (by omega);have hG:=bk.below hb;have hR:=bh.below hb;have hH:=jJ.grown hH lz (by first|(intro e_;have h_:=Option.some.inj e_;omega)|(intro k_ ba;exact ⟨by have:=ba.2.1;omega,fun e_=>ba.2.2.2 (Option.some.inj e_)⟩));refine am rfl<|an abg<|aK ?_
      refine fc (rs:= [.cell 4 27,.tmp 5]) (vs:= [_,_]) rfl (.cell rfl (e9 eJ (by kernel_rfl) (fun j u hu=>aF.at hu)) (.tmp rfl .nil)) ?_;exact ⟨_,rfl,⟨A,c,A2,c2,⟨g.ns,g.es++ [(⟨l.getD 1 [],fr,tw,decide (l.getD 3 []=gQ),Lb,Pb⟩:ED)]⟩,(dl (1000≤g.es.length) (dl (fr<0∨tw<0∨l.getD 1 []∈dy g) er 3) 6),by rw [List.length_append];rfl,.inr (.inl ⟨hNN,hEL,_,_,_,hRI,.inr ⟨hEG,fr,tw,hfr,htw,rfl,rfl⟩⟩),cB.of (hH.keep (fun _ _=>rfl) (fun k hk=>⟨hk.1,by have:=hk.2.1;omega⟩)) (Nat.le_refl _)⟩,hb⟩
     exact bN
    exact bN
   refine bM (rs:= [0,2,16]) (by kernel_rfl) rfl ?_;refine bv #[ab,ab,ac,ac,ab,ab,ab,ab,ab,ab,ab,ab,ab,ab,ab,ab,ac,ac,ac,ac] rfl rfl (fun _ abh=>?_) ?_
   ·
    refine jM d4 (by kernel_rfl) rfl ?_;rintro B3 yh qv gz gf;have Ft:=gf.size;have hb:=az hb gf;have hG:=bk.below hb;have hR:=bh.below hb;have hb2:=az hb2 gf;have aj:=d5.below hb2;have aF:=d6.below hb2;have hN:=d9.below hb2;have Fj:=gz.lt;refine ay ?_;refine bu abh hb ?_;refine bM (rs:= [2,16]) (by kernel_rfl) rfl ?_;refine bv #[ab,ab,ab,ac,ab,ab,ab,ab,ab,ab,ab,ab,ab,ab,ab,ab,ac,ac,ac,ac] rfl rfl (fun _ abi=>?_) ?_
    ·
     refine aW (aI gL rfl (by exact aj.at (j:=1) rfl)) rfl ?_;refine ay ?_;refine bu abi hb ?_;refine bM (rs:= [3,16]) (by kernel_rfl) rfl ?_;refine bv #[ab,ab,ab,ab,ab,ab,ab,ab,ab,ab,ab,ab,ab,ab,ab,ab,ac,ac,ac,ac] rfl rfl (fun _ abj=>?_) ?_
     ·
      have hO:=gz.own (base:=w5.heap.size) (n:=0) (sz:=6) (by omega) rfl (by decide);refine dK (z:=mA) (sz:=6) (bytes:=88) d4 (by kernel_rfl) rfl (by decide) _ rfl hO rfl (hRc.same (fun q e _=>j6 hb5 hb (hG.a2 q e).2)) (lg (lf hcn (fun i hi=>tT (hQc i hi)))) (by simp only [maxLen];omega) (by omega) (by omega) rfl ?_;rintro i7 tl mu ez xF;have xL:=ez.size;have hb:=hb.grown ez hb.size (fun k_ ba=>by have:=(bz hO k_ ba).1;omega);have hG:=bk.below hb;have hR:=bh.below hb;have hb2:=hb2.grown ez hb2.size (fun k_ ba=>by have:=(bz hO k_ ba).1;omega);have aj:=d5.below hb2;have aF:=d6.below hb2;have hN:=d9.below hb2;have hO:=mu;refine ay ?_;refine bu abj hb ?_;refine bM (rs:= [16]) (by kernel_rfl) rfl ?_;refine bv #[ab,ab,ab,ab,ab,ab,ab,ab,ab,ab,ab,ab,ab,ab,ab,ab,ab,ac,ac,ac] rfl rfl (fun _ abk=>?_) ?_
      ·
       refine dX (sz:=6) (vs:= [_]) d4 (by kernel_rfl) rfl rfl rfl rfl rfl rfl ?_;rintro gV tj oY d2 eC;have za:=eC.size;have hb:=az hb eC;have hG:=bk.below hb;have hR:=bh.below hb;have hb2:=az hb2 eC;have aj:=d5.below hb2;have aF:=d6.below hb2;have hN:=d9.below hb2;have hO:=cR hO eC;have y2:=d2.lt;refine ay ?_;refine bu abk hb ?_;refine t6 (⟨i7,gV⟩) _ _ (au rfl (by rfl) (au rfl (by rfl) (au rfl (by rfl) (au rfl (by rfl) (au rfl (by rfl) (au rfl (by rfl) (au rfl (by rfl) (au rfl (by rfl) (au rfl (by rfl) (au rfl (by rfl) (aB))))))))))) ?_;exact ⟨by omega,hb,aj,aF,d2,hO,hN⟩
      exact bN
     refine bv #[ab,ab,ab,ac,ab,ab,ab,ab,ab,ab,ab,ab,ab,ab,ab,ab,ab,ac,ac,ac] rfl rfl (fun _ abl=>?_) ?_
     ·
      refine dX (sz:=6) (vs:= [_]) d4 (by kernel_rfl) rfl rfl rfl rfl rfl rfl ?_;rintro gV tj oY d2 eC;have za:=eC.size;have hb:=az hb eC;have hG:=bk.below hb;have hR:=bh.below hb;have hb2:=az hb2 eC;have aj:=d5.below hb2;have aF:=d6.below hb2;have hN:=d9.below hb2;have gz:=aq.below gz eC;have y2:=d2.lt;refine ay ?_;refine bu abl hb ?_;refine bM (rs:= [3]) (by kernel_rfl) rfl ?_;refine bv #[ab,ab,ab,ab,ab,ab,ab,ab,ab,ab,ab,ab,ab,ab,ab,ab,ab,ac,ac,ac] rfl rfl (fun _ abm=>?_) ?_
      ·
       have hO:=gz.own (base:=w5.heap.size) (n:=0) (sz:=6) (by omega) rfl (by decide);refine dK (z:=mA) (sz:=6) (bytes:=88) d4 (by kernel_rfl) rfl (by decide) _ rfl hO rfl (hRc.same (fun q e _=>j6 hb5 hb (hG.a2 q e).2)) (lg (lf hcn (fun i hi=>tT (hQc i hi)))) (by simp only [maxLen];omega) (by omega) (by omega) rfl ?_;rintro i7 tl mu ez xF;have xL:=ez.size;have hb:=hb.grown ez hb.size (fun k_ ba=>by have:=(bz hO k_ ba).1;omega);have hG:=bk.below hb;have hR:=bh.below hb;have hb2:=hb2.grown ez hb2.size (fun k_ ba=>by have:=(bz hO k_ ba).1;omega);have aj:=d5.below hb2;have aF:=d6.below hb2;have hN:=d9.below hb2;have d2:=aq.grown d2 ez (by first|assumption|(simp [Value.ownBlock];omega)|(intro k_ ba;have kR:=ba.2;refine ⟨?_,fun e_=>?_⟩;omega;simp [Value.ownBlock] at e_;omega));have hO:=mu;refine ay ?_;refine bu abm hb ?_;refine t6 (⟨i7,gV⟩) _ _ (au rfl (by rfl) (au rfl (by rfl) (au rfl (by rfl) (au rfl (by rfl) (au rfl (by rfl) (au rfl (by rfl) (au rfl (by rfl) (au rfl (by rfl) (au rfl (by rfl) (au rfl (by rfl) (aB))))))))))) ?_;exact ⟨by omega,hb,aj,aF,d2,hO,hN⟩
      exact bN
     exact bN
    refine bv #[ab,ab,ac,ac,ab,ab,ab,ab,ab,ab,ab,ab,ab,ab,ab,ab,ab,ac,ac,ac] rfl rfl (fun _ abn=>?_) ?_
    ·
     refine dX (sz:=6) (vs:= [_]) d4 (by kernel_rfl) rfl rfl rfl rfl rfl rfl ?_;rintro gV tj oY d2 eC;have za:=eC.size;have hb:=az hb eC;have hG:=bk.below hb;have hR:=bh.below hb;have hb2:=az hb2 eC;have aj:=d5.below hb2;have aF:=d6.below hb2;have hN:=d9.below hb2;have gz:=aq.below gz eC;have y2:=d2.lt;refine ay ?_;refine bu abn hb ?_;refine bM (rs:= [2]) (by kernel_rfl) rfl ?_;refine bv #[ab,ab,ab,ac,ab,ab,ab,ab,ab,ab,ab,ab,ab,ab,ab,ab,ab,ac,ac,ac] rfl rfl (fun _ abo=>?_) ?_
     ·
      refine aW (aI gL rfl (by exact aj.at (j:=1) rfl)) rfl ?_;refine ay ?_;refine bu abo hb ?_;refine bM (rs:= [3]) (by kernel_rfl) rfl ?_;refine bv #[ab,ab,ab,ab,ab,ab,ab,ab,ab,ab,ab,ab,ab,ab,ab,ab,ab,ac,ac,ac] rfl rfl (fun _ abp=>?_) ?_
      ·
       have hO:=gz.own (base:=w5.heap.size) (n:=0) (sz:=6) (by omega) rfl (by decide);refine dK (z:=mA) (sz:=6) (bytes:=88) d4 (by kernel_rfl) rfl (by decide) _ rfl hO rfl (hRc.same (fun q e _=>j6 hb5 hb (hG.a2 q e).2)) (lg (lf hcn (fun i hi=>tT (hQc i hi)))) (by simp only [maxLen];omega) (by omega) (by omega) rfl ?_;rintro i7 tl mu ez xF;have xL:=ez.size;have hb:=hb.grown ez hb.size (fun k_ ba=>by have:=(bz hO k_ ba).1;omega);have hG:=bk.below hb;have hR:=bh.below hb;have hb2:=hb2.grown ez hb2.size (fun k_ ba=>by have:=(bz hO k_ ba).1;omega);have aj:=d5.below hb2;have aF:=d6.below hb2;have hN:=d9.below hb2;have d2:=aq.grown d2 ez (by first|assumption|(simp [Value.ownBlock];omega)|(intro k_ ba;have kR:=ba.2;refine ⟨?_,fun e_=>?_⟩;omega;simp [Value.ownBlock] at e_;omega));have hO:=mu;refine ay ?_;refine bu abp hb ?_;refine t6 (⟨i7,gV⟩) _ _ (au rfl (by rfl) (au rfl (by rfl) (au rfl (by rfl) (au rfl (by rfl) (au rfl (by rfl) (au rfl (by rfl) (au rfl (by rfl) (au rfl (by rfl) (au rfl (by rfl) (au rfl (by rfl) (aB))))))))))) ?_;exact ⟨by omega,hb,aj,aF,d2,hO,hN⟩
      exact bN
     exact bN
    exact bN
   refine bv #[ac,ab,ab,ac,ab,ab,ab,ab,ab,ab,ab,ab,ab,ab,ab,ab,ac,ac,ac,ac] rfl rfl (fun _ abq=>?_) ?_
   ·
    refine aW (aI gL rfl (by exact aj.at (j:=1) rfl)) rfl ?_;refine ay ?_;refine bu abq hb ?_;refine bM (rs:= [0,16]) (by kernel_rfl) rfl ?_;refine bv #[ab,ab,ab,ac,ab,ab,ab,ab,ab,ab,ab,ab,ab,ab,ab,ab,ac,ac,ac,ac] rfl rfl (fun _ abr=>?_) ?_
    ·
     refine jM d4 (by kernel_rfl) rfl ?_;rintro B3 yh qv gz gf;have Ft:=gf.size;have hb:=az hb gf;have hG:=bk.below hb;have hR:=bh.below hb;have hb2:=az hb2 gf;have aj:=d5.below hb2;have aF:=d6.below hb2;have hN:=d9.below hb2;have Fj:=gz.lt;refine ay ?_;refine bu abr hb ?_;refine bM (rs:= [3,16]) (by kernel_rfl) rfl ?_;refine bv #[ab,ab,ab,ab,ab,ab,ab,ab,ab,ab,ab,ab,ab,ab,ab,ab,ac,ac,ac,ac] rfl rfl (fun _ abs=>?_) ?_
     ·
      have hO:=gz.own (base:=w5.heap.size) (n:=0) (sz:=6) (by omega) rfl (by decide);refine dK (z:=mA) (sz:=6) (bytes:=88) d4 (by kernel_rfl) rfl (by decide) _ rfl hO rfl (hRc.same (fun q e _=>j6 hb5 hb (hG.a2 q e).2)) (lg (lf hcn (fun i hi=>tT (hQc i hi)))) (by simp only [maxLen];omega) (by omega) (by omega) rfl ?_;rintro i7 tl mu ez xF;have xL:=ez.size;have hb:=hb.grown ez hb.size (fun k_ ba=>by have:=(bz hO k_ ba).1;omega);have hG:=bk.below hb;have hR:=bh.below hb;have hb2:=hb2.grown ez hb2.size (fun k_ ba=>by have:=(bz hO k_ ba).1;omega);have aj:=d5.below hb2;have aF:=d6.below hb2;have hN:=d9.below hb2;have hO:=mu;refine ay ?_;refine bu abs hb ?_;refine bM (rs:= [16]) (by kernel_rfl) rfl ?_;refine bv #[ab,ab,ab,ab,ab,ab,ab,ab,ab,ab,ab,ab,ab,ab,ab,ab,ab,ac,ac,ac] rfl rfl (fun _ abt=>?_) ?_
      ·
       refine dX (sz:=6) (vs:= [_]) d4 (by kernel_rfl) rfl rfl rfl rfl rfl rfl ?_;rintro gV tj oY d2 eC;have za:=eC.size;have hb:=az hb eC;have hG:=bk.below hb;have hR:=bh.below hb;have hb2:=az hb2 eC;have aj:=d5.below hb2;have aF:=d6.below hb2;have hN:=d9.below hb2;have hO:=cR hO eC;have y2:=d2.lt;refine ay ?_;refine bu abt hb ?_;refine t6 (⟨i7,gV⟩) _ _ (au rfl (by rfl) (au rfl (by rfl) (au rfl (by rfl) (au rfl (by rfl) (au rfl (by rfl) (au rfl (by rfl) (au rfl (by rfl) (au rfl (by rfl) (au rfl (by rfl) (au rfl (by rfl) (aB))))))))))) ?_;exact ⟨by omega,hb,aj,aF,d2,hO,hN⟩
      exact bN
     refine bv #[ab,ab,ab,ac,ab,ab,ab,ab,ab,ab,ab,ab,ab,ab,ab,ab,ab,ac,ac,ac] rfl rfl (fun _ abu=>?_) ?_
     ·
      refine dX (sz:=6) (vs:= [_]) d4 (by kernel_rfl) rfl rfl rfl rfl rfl rfl ?_;rintro gV tj oY d2 eC;have za:=eC.size;have hb:=az hb eC;have hG:=bk.below hb;have hR:=bh.below hb;have hb2:=az hb2 eC;have aj:=d5.below hb2;have aF:=d6.below hb2;have hN:=d9.below hb2;have gz:=aq.below gz eC;have y2:=d2.lt;refine ay ?_;refine bu abu hb ?_;refine bM (rs:= [3]) (by kernel_rfl) rfl ?_;refine bv #[ab,ab,ab,ab,ab,ab,ab,ab,ab,ab,ab,ab,ab,ab,ab,ab,ab,ac,ac,ac] rfl rfl (fun _ abv=>?_) ?_
      ·
       have hO:=gz.own (base:=w5.heap.size) (n:=0) (sz:=6) (by omega) rfl (by decide);refine dK (z:=mA) (sz:=6) (bytes:=88) d4 (by kernel_rfl) rfl (by decide) _ rfl hO rfl (hRc.same (fun q e _=>j6 hb5 hb (hG.a2 q e).2)) (lg (lf hcn (fun i hi=>tT (hQc i hi)))) (by simp only [maxLen];omega) (by omega) (by omega) rfl ?_;rintro i7 tl mu ez xF;have xL:=ez.size;have hb:=hb.grown ez hb.size (fun k_ ba=>by have:=(bz hO k_ ba).1;omega);have hG:=bk.below hb;have hR:=bh.below hb;have hb2:=hb2.grown ez hb2.size (fun k_ ba=>by have:=(bz hO k_ ba).1;omega);have aj:=d5.below hb2;have aF:=d6.below hb2;have hN:=d9.below hb2;have d2:=aq.grown d2 ez (by first|assumption|(simp [Value.ownBlock];omega)|(intro k_ ba;have kR:=ba.2;refine ⟨?_,fun e_=>?_⟩;omega;simp [Value.ownBlock] at e_;omega));have hO:=mu;refine ay ?_;refine bu abv hb ?_;refine t6 (⟨i7,gV⟩) _ _ (au rfl (by rfl) (au rfl (by rfl) (au rfl (by rfl) (au rfl (by rfl) (au rfl (by rfl) (au rfl (by rfl) (au rfl (by rfl) (au rfl (by rfl) (au rfl (by rfl) (au rfl (by rfl) (aB))))))))))) ?_;exact ⟨by omega,hb,aj,aF,d2,hO,hN⟩
      exact bN
     exact bN
    refine bv #[ac,ab,ab,ac,ab,ab,ab,ab,ab,ab,ab,ab,ab,ab,ab,ab,ab,ac,ac,ac] rfl rfl (fun _ abw=>?_) ?_
    ·
     refine dX (sz:=6) (vs:= [_]) d4 (by kernel_rfl) rfl rfl rfl rfl rfl rfl ?_;rintro gV tj oY d2 eC;have za:=eC.size;have hb:=az hb eC;have hG:=bk.below hb;have hR:=bh.below hb;have hb2:=az hb2 eC;have aj:=d5.below hb2;have aF:=d6.below hb2;have hN:=d9.below hb2;have y2:=d2.lt;refine ay ?_;refine bu abw hb ?_;refine bM (rs:= [0]) (by kernel_rfl) rfl ?_;refine bv #[ab,ab,ab,ac,ab,ab,ab,ab,ab,ab,ab,ab,ab,ab,ab,ab,ab,ac,ac,ac] rfl rfl (fun _ abx=>?_) ?_
     ·
      refine jM d4 (by kernel_rfl) rfl ?_;rintro B3 yh qv gz gf;have Ft:=gf.size;have hb:=az hb gf;have hG:=bk.below hb;have hR:=bh.below hb;have hb2:=az hb2 gf;have aj:=d5.below hb2;have aF:=d6.below hb2;have hN:=d9.below hb2;have d2:=aq.below d2 gf;have Fj:=gz.lt;refine ay ?_;refine bu abx hb ?_;refine bM (rs:= [3]) (by kernel_rfl) rfl ?_;refine bv #[ab,ab,ab,ab,ab,ab,ab,ab,ab,ab,ab,ab,ab,ab,ab,ab,ab,ac,ac,ac] rfl rfl (fun _ aby=>?_) ?_
      ·
       have hO:=gz.own (base:=w5.heap.size) (n:=0) (sz:=6) (by omega) rfl (by decide);refine dK (z:=mA) (sz:=6) (bytes:=88) d4 (by kernel_rfl) rfl (by decide) _ rfl hO rfl (hRc.same (fun q e _=>j6 hb5 hb (hG.a2 q e).2)) (lg (lf hcn (fun i hi=>tT (hQc i hi)))) (by simp only [maxLen];omega) (by omega) (by omega) rfl ?_;rintro i7 tl mu ez xF;have xL:=ez.size;have hb:=hb.grown ez hb.size (fun k_ ba=>by have:=(bz hO k_ ba).1;omega);have hG:=bk.below hb;have hR:=bh.below hb;have hb2:=hb2.grown ez hb2.size (fun k_ ba=>by have:=(bz hO k_ ba).1;omega);have aj:=d5.below hb2;have aF:=d6.below hb2;have hN:=d9.below hb2;have d2:=aq.grown d2 ez (by first|assumption|(simp [Value.ownBlock];omega)|(intro k_ ba;have kR:=ba.2;refine ⟨?_,fun e_=>?_⟩;omega;simp [Value.ownBlock] at e_;omega));have hO:=mu;refine ay ?_;refine bu aby hb ?_;refine t6 (⟨i7,gV⟩) _ _ (au rfl (by rfl) (au rfl (by rfl) (au rfl (by rfl) (au rfl (by rfl) (au rfl (by rfl) (au rfl (by rfl) (au rfl (by rfl) (au rfl (by rfl) (au rfl (by rfl) (au rfl (by rfl) (aB))))))))))) ?_;exact ⟨by omega,hb,aj,aF,d2,hO,hN⟩
      exact bN
     exact bN
    exact bN
   refine bv #[ac,ab,ac,ac,ab,ab,ab,ab,ab,ab,ab,ab,ab,ab,ab,ab,ab,ac,ac,ac] rfl rfl (fun _ abz=>?_) ?_
   ·
    refine dX (sz:=6) (vs:= [_]) d4 (by kernel_rfl) rfl rfl rfl rfl rfl rfl ?_;rintro gV tj oY d2 eC;have za:=eC.size;have hb:=az hb eC;have hG:=bk.below hb;have hR:=bh.below hb;have hb2:=az hb2 eC;have aj:=d5.below hb2;have aF:=d6.below hb2;have hN:=d9.below hb2;have y2:=d2.lt;refine ay ?_;refine bu abz hb ?_;refine bM (rs:= [0,2]) (by kernel_rfl) rfl ?_;refine bv #[ab,ab,ac,ac,ab,ab,ab,ab,ab,ab,ab,ab,ab,ab,ab,ab,ab,ac,ac,ac] rfl rfl (fun _ abA=>?_) ?_
    ·
     refine jM d4 (by kernel_rfl) rfl ?_;rintro B3 yh qv gz gf;have Ft:=gf.size;have hb:=az hb gf;have hG:=bk.below hb;have hR:=bh.below hb;have hb2:=az hb2 gf;have aj:=d5.below hb2;have aF:=d6.below hb2;have hN:=d9.below hb2;have d2:=aq.below d2 gf;have Fj:=gz.lt;refine ay ?_;refine bu abA hb ?_;refine bM (rs:= [2]) (by kernel_rfl) rfl ?_;refine bv #[ab,ab,ab,ac,ab,ab,ab,ab,ab,ab,ab,ab,ab,ab,ab,ab,ab,ac,ac,ac] rfl rfl (fun _ abB=>?_) ?_
     ·
      refine aW (aI gL rfl (by exact aj.at (j:=1) rfl)) rfl ?_;refine ay ?_;refine bu abB hb ?_;refine bM (rs:= [3]) (by kernel_rfl) rfl ?_;refine bv #[ab,ab,ab,ab,ab,ab,ab,ab,ab,ab,ab,ab,ab,ab,ab,ab,ab,ac,ac,ac] rfl rfl (fun _ abC=>?_) ?_
      ·
       have hO:=gz.own (base:=w5.heap.size) (n:=0) (sz:=6) (by omega) rfl (by decide);refine dK (z:=mA) (sz:=6) (bytes:=88) d4 (by kernel_rfl) rfl (by decide) _ rfl hO rfl (hRc.same (fun q e _=>j6 hb5 hb (hG.a2 q e).2)) (lg (lf hcn (fun i hi=>tT (hQc i hi)))) (by simp only [maxLen];omega) (by omega) (by omega) rfl ?_;rintro i7 tl mu ez xF;have xL:=ez.size;have hb:=hb.grown ez hb.size (fun k_ ba=>by have:=(bz hO k_ ba).1;omega);have hG:=bk.below hb;have hR:=bh.below hb;have hb2:=hb2.grown ez hb2.size (fun k_ ba=>by have:=(bz hO k_ ba).1;omega);have aj:=d5.below hb2;have aF:=d6.below hb2;have hN:=d9.below hb2;have d2:=aq.grown d2 ez (by first|assumption|(simp [Value.ownBlock];omega)|(intro k_ ba;have kR:=ba.2;refine ⟨?_,fun e_=>?_⟩;omega;simp [Value.ownBlock] at e_;omega));have hO:=mu;refine ay ?_;refine bu abC hb ?_;refine t6 (⟨i7,gV⟩) _ _ (au rfl (by rfl) (au rfl (by rfl) (au rfl (by rfl) (au rfl (by rfl) (au rfl (by rfl) (au rfl (by rfl) (au rfl (by rfl) (au rfl (by rfl) (au rfl (by rfl) (au rfl (by rfl) (aB))))))))))) ?_;exact ⟨by omega,hb,aj,aF,d2,hO,hN⟩
      exact bN
     exact bN
    refine bv #[ac,ab,ab,ac,ab,ab,ab,ab,ab,ab,ab,ab,ab,ab,ab,ab,ab,ac,ac,ac] rfl rfl (fun _ abD=>?_) ?_
    ·
     refine aW (aI gL rfl (by exact aj.at (j:=1) rfl)) rfl ?_;refine ay ?_;refine bu abD hb ?_;refine bM (rs:= [0]) (by kernel_rfl) rfl ?_;refine bv #[ab,ab,ab,ac,ab,ab,ab,ab,ab,ab,ab,ab,ab,ab,ab,ab,ab,ac,ac,ac] rfl rfl (fun _ abE=>?_) ?_
     ·
      refine jM d4 (by kernel_rfl) rfl ?_;rintro B3 yh qv gz gf;have Ft:=gf.size;have hb:=az hb gf;have hG:=bk.below hb;have hR:=bh.below hb;have hb2:=az hb2 gf;have aj:=d5.below hb2;have aF:=d6.below hb2;have hN:=d9.below hb2;have d2:=aq.below d2 gf;have Fj:=gz.lt;refine ay ?_;refine bu abE hb ?_;refine bM (rs:= [3]) (by kernel_rfl) rfl ?_;refine bv #[ab,ab,ab,ab,ab,ab,ab,ab,ab,ab,ab,ab,ab,ab,ab,ab,ab,ac,ac,ac] rfl rfl (fun _ abF=>?_) ?_
      ·
       have hO:=gz.own (base:=w5.heap.size) (n:=0) (sz:=6) (by omega) rfl (by decide);refine dK (z:=mA) (sz:=6) (bytes:=88) d4 (by kernel_rfl) rfl (by decide) _ rfl hO rfl (hRc.same (fun q e _=>j6 hb5 hb (hG.a2 q e).2)) (lg (lf hcn (fun i hi=>tT (hQc i hi)))) (by simp only [maxLen];omega) (by omega) (by omega) rfl ?_;rintro i7 tl mu ez xF;have xL:=ez.size;have hb:=hb.grown ez hb.size (fun k_ ba=>by have:=(bz hO k_ ba).1;omega);have hG:=bk.below hb;have hR:=bh.below hb;have hb2:=hb2.grown ez hb2.size (fun k_ ba=>by have:=(bz hO k_ ba).1;omega);have aj:=d5.below hb2;have aF:=d6.below hb2;have hN:=d9.below hb2;have d2:=aq.grown d2 ez (by first|assumption|(simp [Value.ownBlock];omega)|(intro k_ ba;have kR:=ba.2;refine ⟨?_,fun e_=>?_⟩;omega;simp [Value.ownBlock] at e_;omega));have hO:=mu;refine ay ?_;refine bu abF hb ?_;refine t6 (⟨i7,gV⟩) _ _ (au rfl (by rfl) (au rfl (by rfl) (au rfl (by rfl) (au rfl (by rfl) (au rfl (by rfl) (au rfl (by rfl) (au rfl (by rfl) (au rfl (by rfl) (au rfl (by rfl) (au rfl (by rfl) (aB))))))))))) ?_;exact ⟨by omega,hb,aj,aF,d2,hO,hN⟩
      exact bN
     exact bN
    exact bN
   exact bN
  exact bN
 exact bN
end Go.Proofs.YtjmlknjbhbfneaaGreatDoor
