import Derived.Test.YtjmlknjbhbfneaaGreatDoorZL
import Derived.Lib.AppendStr
namespace Go.Proofs
open Go.Shelf Go.Bw
def NU:Go.Shelf.Ren:=⟨fun|241=>84|277=>112|n=>n,fun|70=>65|3=>3|0=>0|72=>67|37=>22|5=>5|n=>n,fun|n=>n⟩
theorem Ww:Go.Proofs.Lays.n241 Tryz.prog NU:={
 mixed:=by kernel_rfl
 f241:=Tryz.func84.trans (congrArg some (by kernel_rfl))
 f277:=Tryz.func112.trans (congrArg some (by kernel_rfl))
 t0:=Tryz.underlying0
 a0:=Tryz.isAgg0
 z0:=Tryz.sizeOf0
 v0:=Tryz.zeroValue0
 t3:=Tryz.underlying3
 a3:=Tryz.isAgg3
 z3:=Tryz.sizeOf3
 v3:=Tryz.zeroValue3
 t37:=Tryz.underlying22
 a37:=Tryz.isAgg22
 z37:=Tryz.sizeOf22
 v37:=Tryz.zeroValue22
 t70:=Tryz.underlying65
 a70:=Tryz.isAgg65
 z70:=Tryz.sizeOf65
 v70:=Tryz.zeroValue65
 t72:=Tryz.underlying67
 a72:=Tryz.isAgg67
 z72:=Tryz.sizeOf67
 v72:=Tryz.zeroValue67}
theorem V0:Builder.Extra Tryz.prog NU:={
 sizeBuilder:=by kernel_rfl
 liesBuilder:=by kernel_rfl
 t5:=Tryz.underlying5
 a5:=Tryz.isAgg5
 z5:=Tryz.sizeOf5
 v5:=Tryz.zeroValue5
 infoByte:=by kernel_rfl
 cellsByte:=by kernel_rfl
 sizeByte:=by kernel_rfl
 neB5:=by decide}
open Go.RowKit in
theorem Tryz.Builder_grow_fresh (B b n:Nat) (w:World) (hB:B≤b) (hbk:w.heap[b]? =some (.cells #[.pointer (some ⟨b,0,none⟩),.slice none 0 0] 67 (0,0))) (hBw:B≤w.heap.size) (hn:n≤281474976710656):
 Calls Tryz.prog 84 #[.pointer (some ⟨b,0,none⟩),.int .i64 n] w fun e w'=>e= .returned (.tuple #[])∧(Lib.BuilderAt 67 5 B b (.pointer (some ⟨b,0,none⟩)) [] w'∧Below B w w'):=Any.Builder_grow_fresh Ww V0 B b n w hB hbk hBw hn
end Go.Proofs
namespace Go.Bw
open Go.RowKit
set_option linter.unusedVariables false
set_option linter.unusedSimpArgs false
section
variable {P:Program} {N:Nat} {D:List Deferred} {env env':Env} {a:Act} {w w':World} {Q:Exit→Act→World→Prop}
variable {ops:Array Oper} {rest:List Oper} {d:Nat} {op:Op} {ty:TypeId} {pos:String} {af:Array Edge}
theorem UB {x:Operand} {A:Option Addr} {n c:Nat} {t e:TypeId} (ht:P.underlying t=some (.slice e)) (hl:c≤9223372036854775807) (hx:ev env x=some (.slice A n c)):Yl P N D env (.call ⟨.builtin .cap,#[x],#[t]⟩) ty (.int .i64 c):=fun a ha w dst pos af g=>by
 simp [execOp,resolve,invoke,builtin,Builtin.cap_,ha.eval hx,run_underlying ht,goInt]
theorem N4 {x y:Operand} {t u e:TypeId} (ht:P.underlying t=some (.slice e)) (hu:P.underlying u=some .string) (hi:(P.info? e).map (fun i=>(i.zero,i.size,i.bytes))=some (some (.int .u8 0),1,1))
 (base:Nat) {v:Value} {n:Nat} {xs:List Value} (hx:ev env x=some v) (hown:w.ownsRow base e 1 v n xs) {l:al} (hy:ev env y=some (str l))
 (h63:n+l.length≤140737488355328) (hbase:base≤w.heap.size) (hd:Nat.blt d N=true)
 (h:∀v' w',w'.ownsRow base e 1 v' (n+l.length) (xs++Lib.byteCells l)→w.grownBy w' v.ownBlock→Wl P ops Q rest N D ((d,v') :: env) w'):
 Wl P ops Q (⟨some d,.call ⟨.builtin .append,#[x,y],#[t,u]⟩,ty,pos,af,none⟩ :: rest) N D env w:=by
 obtain ⟨i,hi0,hi1⟩:=Option.map_eq_some_iff.1 hi
 simp only [Prod.mk.injEq] at hi1
 obtain ⟨hz0,hs0,hb0⟩:=hi1
 have hsz:(⟨l.toArray⟩:ByteArray).size=l.length:=mG l
 obtain ⟨v',w',hr,h2,h3,_⟩:=Lib.run_append_own_string (P:=P) w base t u ty e i ht hu hi0 hz0 hs0 hb0 v n xs hown ⟨l.toArray⟩ (by rw [hsz];unfold maxLen;omega) (by rw [hsz];omega) hbase
 rw [hsz] at h2
 refine iM (w':=w') (v:=v') (fun a ha dst pos af g=>?_) hd (h v' w' h2 h3)
 have hr2:(Builtin.append_ #[t,u] ty #[v,str l]).run P w= .ok v' w':=hr
 simp [execOp,resolve,invoke,builtin,ha.eval hx,ha.eval hy,hr2]
end
end Go.Bw
namespace Go.Proofs.YtjmlknjbhbfneaaGreatDoor
open Go.RowKit Go.Bw Go.Bw.Fl
set_option linter.unusedVariables false
set_option linter.unusedSimpArgs false
theorem EL (p:Addr) (w:World):(Instr.fieldAt 67 (.pointer (some p)) 1).run Tryz.prog w= .ok (.pointer (some (p.add 1))) w:=fd (i:=1) (sz:=0) Tryz.underlying67 rfl (by kernel_rfl) p w
theorem L5:One Tryz.prog 22:=⟨_,Tryz.underlying22,rfl,by kernel_rfl⟩
theorem FN:One Tryz.prog 9:=⟨_,Tryz.underlying9,rfl,by kernel_rfl⟩
theorem Gh:bC Tryz.prog 25:=⟨_,Tryz.func25,by kernel_rfl,rfl⟩
theorem agV:bC Tryz.prog 52:=⟨_,Tryz.func52,by kernel_rfl,rfl⟩
theorem ag6:bC Tryz.prog 84:=⟨_,Tryz.func84,by kernel_rfl,rfl⟩
theorem Oi (l m:al):Lib.byteCells (l++m)=Lib.byteCells l++Lib.byteCells m:=by simp [Lib.byteCells]
theorem G5 (B b:Nat) (l m:al) (w:World) (h:Lib.IsBuilder 67 5 B b (Lib.byteCells l) w) (hl:l.length+m.length≤140737488355328) (hBw:B≤w.heap.size):be Tryz.prog 25 [.pointer (some ⟨b,0,none⟩),str m] w fun v w'=>v= .tuple #[.int .i64 (m.length:Nat),.nilIface]∧Lib.IsBuilder 67 5 B b (Lib.byteCells (l++m)) w'∧Below B w w':=by
 have hbl:(Lib.byteCells l).length=l.length:=Lib.byteCells_length l;have hbm:(Lib.byteCells m).length=m.length:=Lib.byteCells_length m;refine enter Tryz.func25 rfl rfl rfl<|ao fun aZ=>am rfl<|am rfl<|an aZ<|ao fun bX=>ai rfl<|aS Gm rfl rfl (OA B b _ _ h) rfl ?_
 rintro _ w1 ⟨rfl,hA,hb1⟩;refine an bX<|ax fun _ e7=>?_
 obtain ⟨hB,v,hbk,hown,hne⟩:=hA;have c1:w1.cell? ⟨b,1,none⟩=some v:=by rw [Lib.cell_of_heap hbk];rfl
 have hsz1:=hb1.size;refine aR<|ai rfl<|ai rfl<|ah (cM rfl) rfl<|ah (aJ (EL _) rfl) rfl<|aW (aI L5 rfl (c1)) rfl<|ai rfl<|N4 (l:=m) Tryz.underlying22 Tryz.underlying9 (by kernel_rfl) B rfl hown rfl (by omega) (by omega) rfl ?_
 rintro v3 w3 hown3 hgr
 have hlt:b<w1.heap.size:=by
  rcases Nat.lt_or_ge b w1.heap.size with h'|h'
  · exact h'
  · simp [Array.getElem?_eq_none h'] at hbk
 have hb3:w3.heap[b]? =some (.cells #[.pointer (some ⟨b,0,none⟩),v] 67 (0,0)):=by rw [hgr.block b (by omega) (fun e=>hne e.symm)];exact hbk
 obtain ⟨A3,cc3,hv3,_,_⟩:=eT hown3;have hone:v3.oneCell'=true:=by rw [hv3];rfl
 have hb13:Below B w w3:=hb1.grown hgr (by omega) (fun k hk=>(bz hown k hk).1);refine ah (cM rfl) rfl<|ah (aJ (EL _) rfl) rfl<|rJ (zt (p:=⟨b,1,none⟩) L8 rfl rfl hone (by rw [Lib.cell_of_heap hb3];rfl) (Lib.frozen_of_heap hb3 1))<|an e7<|ao fun iA=>ai rfl<|ah (dF Tryz.underlying9 (by omega) rfl) rfl<|am rfl<|am rfl<|an iA<|aK<|dv rfl rfl rfl ?_
 exact ⟨_,rfl,rfl,.inr (by rw [Oi];exact Lib.BuilderAt.put hB hb3 (by rw [List.length_append,hbm];exact hown3) (by decide)),hb13.setCell (p:=⟨b,1,none⟩) hB _⟩
theorem aah (B b n:Nat) (w:World) (hB:B≤b) (hbk:w.heap[b]? =some (.cells #[.pointer (some ⟨b,0,none⟩),.slice none 0 0] 67 (0,0))) (hBw:B≤w.heap.size) (hn:n≤281474976710656):be Tryz.prog 84 [.pointer (some ⟨b,0,none⟩),.int .i64 (n:Int)] w fun v w'=>v= .tuple #[]∧Lib.BuilderAt 67 5 B b (.pointer (some ⟨b,0,none⟩)) [] w'∧Below B w w':=
 Calls.mono (Tryz.Builder_grow_fresh B b n w hB hbk hBw hn) fun e w' ⟨h1,h2,h3⟩=>⟨_,h1,rfl,h2,h3⟩
theorem U8 (B b n:Nat) (w:World) (hB:B≤b) (hbk:w.heap[b]? =some (.cells #[.pointer none,.slice none 0 0] 67 (0,0))) (hBw:B≤w.heap.size) (hn:n≤140737488355328):be Tryz.prog 52 [.pointer (some ⟨b,0,none⟩),.int .i64 (n:Int)] w fun v w'=>v= .tuple #[]∧Lib.IsBuilder 67 5 B b [] w'∧Below B w w':=by
 have hf:Lib.BuilderAt 67 5 B b (.pointer none) [] w:=⟨hB,_,hbk,World.ownsRow_nil _ _ _ _,by simp [Value.ownBlock]⟩;refine enter Tryz.func52 rfl rfl rfl<|ao fun aZ=>ai rfl<|aS Gm rfl rfl (IJ b w hf.cell0 hf.shape hf.frozen0) rfl ?_
 rintro _ w1 ⟨rfl,hw1⟩;refine an aZ<|ax fun _ bX=>ax fun _ cT=>?_
 have hb1:Below B w w1:=by rw [hw1];exact (Below.refl B w).setCell (p:=⟨b,0,none⟩) hB _
 have hbk1:w1.heap[b]? =some (.cells #[.pointer (some ⟨b,0,none⟩),.slice none 0 0] 67 (0,0)):=by rw [hw1];simp [World.setCell,Array.getElem?_modify,hbk]
 have c1:w1.cell? ⟨b,1,none⟩=some (.slice none 0 0):=by rw [Lib.cell_of_heap hbk1];rfl
 have hsz1:=hb1.size;have hltb:b<w1.heap.size:=zZ c1;refine aR<|ai rfl<|ah (cg rfl rfl) rfl<|an cT<|aH rfl (fun d1=>?_) (fun d1=>?_)
 ·
  have j8:=d1;simp only [DZ] at d1;omega
 have j8:=d1;simp only [DZ] at d1;refine aU<|aw bX<|ax fun _ ek=>ju (by kernel_rfl) (by kernel_rfl)<|aC (bl rfl) rfl<|aC (cM rfl) rfl<|aC (aJ (EL _) rfl) rfl<|cr (fun wq hq=>aI L5 rfl (ip hq c1)) rfl<|aC (UB Tryz.underlying22 (by omega) rfl) rfl<|aC (bl rfl) rfl<|aC (cM rfl) rfl<|aC (aJ (EL _) rfl) rfl<|cr (fun wq hq=>aI L5 rfl (ip hq c1)) rfl<|aC (cG Tryz.underlying22 (by omega) rfl) rfl<|aC (gk rfl rfl (by omega) (by omega)) rfl<|aC (bl rfl) rfl<|aC (cg rfl rfl) rfl<|dZ fun w2 hs2=>?_
 have hbk2:w2.heap[b]? =some (.cells #[.pointer (some ⟨b,0,none⟩),.slice none 0 0] 67 (0,0)):=by rw [hs2.block b hltb];exact hbk1
 have hb2:Below B w w2:=hb1.trans (hs2.mono (by omega));refine aw ek<|aH rfl (fun nB=>?_) (fun nB=>?_)
 ·
  have HC:=nB;simp only [DZ] at nB;refine aR<|ai rfl<|ai rfl<|aS ag6 rfl rfl (aah B b n w2 hB hbk2 (Nat.le_trans hBw hb2.size) (by omega)) rfl ?_
  rintro _ w3 ⟨rfl,hg3,hb3⟩;refine ay<|lh rfl ?_
  exact ⟨_,rfl,rfl,.inr hg3,hb2.trans hb3⟩
 have HC:=nB;simp only [DZ] at nB;refine aU<|lh rfl ?_
 exact ⟨_,rfl,rfl,.inr ⟨hB,_,hbk2,World.ownsRow_nil _ _ _ _,by simp [Value.ownBlock]⟩,hb2⟩
def o8:List (al)→al
 | []=> []
 |x :: r=>x++r.flatMap (fun y=>32 :: y)
def dA (l:List (al)):Nat:=(l.map List.length).sum
theorem DQ {α:Type} {l:List α} {i:Nat} (d:α) (h:i<l.length):l.take (i+1)=l.take i++ [l.getD i d]:=by
 rw [List.take_add_one,List.getElem?_eq_getElem h];simp [List.getD,List.getElem?_eq_getElem h]
theorem Ga {l:List (al)} {i:Nat} (h:i<l.length):dA (l.take (i+1))=dA (l.take i)+(l.getD i []).length:=by
 unfold dA;rw [DQ [] h,List.map_append,List.sum_append];simp only [List.map_cons,List.map_nil,List.sum_cons,List.sum_nil,Nat.add_zero]
theorem MM (l:List (al)) (i:Nat):dA (l.take i)≤dA l:=by
 have h:=congrArg dA (List.take_append_drop i l);unfold dA at h ⊢;rw [List.map_append,List.sum_append] at h;omega
theorem ZY {l:List (al)} {i:Nat} (h:i<l.length):(l.take (i+1)).flatMap (fun y=>(32:UInt8) :: y)=(l.take i).flatMap (fun y=>(32:UInt8) :: y)++ [32]++l.getD i []:=by
 rw [DQ [] h,List.flatMap_append];simp only [List.flatMap_cons,List.flatMap_nil,List.append_nil,List.append_assoc];rfl
theorem Px (l:List (al)):(l.flatMap (fun y=>(32:UInt8) :: y)).length=l.length+dA l:=by
 induction l with
 |nil=>rfl
 |cons a r ih=>unfold dA at ih ⊢;rw [List.flatMap_cons,List.length_append,ih];simp;omega
theorem S8 {c n:Nat} {p:Addr} (h:c≠1):Value.slice (if c=(1:Int).toNat then some p else (some p).map (·.add ((1:Int).toNat * 1))) (n - (1:Int).toNat) (c - (1:Int).toNat)= .slice (some (p.add 1)) (n - 1) (c - 1):=by
 rw [if_neg (show ¬c=(1:Int).toNat from h)];rfl
theorem Vj (A:Option Addr) (c:Nat) (l:List (al)) (hlen:l.length≤16777216) (hc:l.length≤c) (htot:dA l≤1099511627776) (w:World) (hR:Rd w 1 A l.length (strs l)):be Tryz.prog 26 [.slice A l.length c,str [32]] w fun v w'=>v=str (o8 l)∧Below w.heap.size w w':=by
 have h11:([32]:al).length=1:=rfl;have htt:=MM l;have hb:=Below.refl w.heap.size w;have bh:=hR;refine enter Tryz.func26 rfl rfl rfl<|ao fun aZ=>am rfl<|an aZ<|ax fun _ bJ=>ao fun bX=>ai rfl<|ah (cG Tryz.underlying40 (by omega) rfl) rfl<|an bX<|br<|ao fun e7=>ah (bA rfl rfl) rfl<|am rfl<|an e7<|aH rfl (fun fh=>?_) (fun fh=>?_)
 ·
  have ny:=fh;simp only [DZ] at fh;refine ao fun d7=>am rfl<|an d7<|aK<|bE (aQ ?_)
  refine bj rfl rfl ?_;exact ⟨_,rfl,dw (by have:=fh;have h:l= []:=List.length_eq_zero_iff.1 (by omega);rw [h];rfl),hb⟩
 have ny:=fh;simp only [DZ] at fh;refine ao fun eQ=>ah (bA rfl rfl) rfl<|am rfl<|an eQ<|aH rfl (fun u4=>?_) (fun u4=>?_)
 ·
  have XE:=u4;simp only [DZ] at u4;have hl1:l.length=1:=by have:=u4;omega
  obtain ⟨p_,v_,hpe,hve,hcell⟩:=hR.one (i:=0) (by omega);subst hpe;obtain rfl:=i6 (by omega) hve;refine ao fun iA=>ai rfl<|ah (cx Tryz.underlying40 eo rfl rfl (by omega) (by omega)) rfl<|aW (aI FN rfl (by exact gH (k:=0) hcell)) rfl<|am rfl<|an iA<|aK<|bE (aQ ?_)
  refine bj rfl rfl ?_;exact ⟨_,rfl,dw (by obtain ⟨x,rfl⟩:=List.length_eq_one_iff.1 hl1;simp [o8]),hb⟩
 have XE:=u4;simp only [DZ] at u4;have hl2:2≤l.length:=by have:=fh;have:=u4;omega
 refine aU<|bS<|aw bJ<|ao fun kT=>am rfl<|an kT<|ax fun _ jf=>ao fun jg=>ai rfl<|ah (bt (dF Tryz.underlying9 (by omega) rfl) (int_eq (show _=(1:Int) by rfl))) rfl<|ah (eW rfl rfl) rfl<|an jg<|aH rfl (fun yy=>?_) (fun yy=>?_)
 ·
  have XP:=yy;simp only [DZ] at yy;refine ax fun _ nW=>ao fun jW=>ai rfl<|ah (bt (dF Tryz.underlying9 (by omega) rfl) (int_eq (show _=(1:Int) by rfl))) rfl<|ai rfl<|ah (cG Tryz.underlying40 (by omega) rfl) rfl<|ah (gk rfl rfl (by omega) (by omega)) rfl<|ah (tq rfl rfl (by omega)) rfl<|ah (jb rfl rfl) rfl<|an jW<|aH rfl (fun yB=>?_) (fun yB=>?_)
  ·
   have Yb:=yB;simp only [DZ] at yB;have h0:=yB;rw [IntKind.wrap_i64,Int.tdiv_eq_ediv_of_nonneg (by omega)] at h0;have h1:(2:Int)≤9223372036854775807 / ((l.length:Int) - 1):=(Int.le_ediv_iff_mul_le (by omega)).2 (by omega);have h2:9223372036854775807 / ((l.length:Int) - 1)≤9223372036854775807:=Int.ediv_le_self _ (by omega);omega
  have Yb:=yB;simp only [DZ] at yB;refine aU<|aw nW<|aR<|ai rfl<|ai rfl<|ah (bt (dF Tryz.underlying9 (by omega) rfl) (int_eq (show _=(1:Int) by rfl))) rfl<|ai rfl<|ah (cG Tryz.underlying40 (by omega) rfl) rfl<|ah (gk rfl rfl (by omega) (by omega)) rfl<|ah (D2 rfl rfl (by omega) (by omega)) rfl<|ah (bH rfl rfl (by omega) (by omega)) rfl<|am rfl<|an jf<|ax fun _ iX=>ao fun nZ=>ai rfl<|ah (cG Tryz.underlying40 (by omega) rfl) rfl<|ai rfl<|an nZ<|br<|cU (X:=Nat) (fun i=> [(0,.slice A l.length c),(1,str [32]),(5,.int .i64 (l.length - 1+dA (l.take i):Nat)),(39,.slice A l.length c),(40,.int .i64 (l.length:Int)),(41,.int .i64 (i:Int))]) (fun i wr=>i≤l.length∧Below w.heap.size w wr) (fun i=>l.length - i) (0) ?_ ?_ ?_
  · exact by repeat first|exact aB|refine au rfl (by first|rfl|exact int_eq (by simp [dA];omega)|exact int_eq (by rw [Ga hil];omega)|exact int_eq (by omega)) ?_
  · exact ⟨by omega,hb⟩
  rintro i wr Ka _ ab0;replace Ka:i≤l.length∧Below w.heap.size w wr:=Ka;obtain ⟨hi,hb⟩:=Ka;show Wc _ _ _ _ _ [(0,.slice A l.length c),(1,str [32]),(5,.int .i64 (l.length - 1+dA (l.take i):Nat)),(39,.slice A l.length c),(40,.int .i64 (l.length:Int)),(41,.int .i64 (i:Int))] _;have hR:=bh.below hb;have:=hb.size;refine ao fun n6=>ah (cg rfl rfl) rfl<|an n6<|ax fun _ ml=>aH rfl (fun vJ=>?_) (fun vJ=>?_)
  ·
   have Yy:=vJ;simp only [DZ] at vJ;have hil:i<l.length:=by have:=vJ;omega
   obtain ⟨p_,v_,hpe,hve,hcell⟩:=hR.one (i:=i) hil;subst hpe;obtain rfl:=i6 hil hve;have h6:=Ga hil;have h7:=htt (i+1);refine aU<|aw ml<|ax fun _ n7=>br<|ao fun qp=>ah (cx Tryz.underlying40 eo rfl rfl (by omega) (by omega)) rfl<|aW (aI FN rfl (by exact gH hcell)) rfl<|am rfl<|an qp<|ax fun _ kW=>ao fun jk=>ai rfl<|ah (dF Tryz.underlying9 (by omega) rfl) rfl<|ai rfl<|ah (gk rfl rfl (by omega) (by omega)) rfl<|ah (eW rfl rfl) rfl<|an jk<|aH rfl (fun AB=>?_) (fun AB=>?_)
   ·
    have YH:=AB;simp only [DZ] at AB;omega
   have YH:=AB;simp only [DZ] at AB;refine aU<|aw kW<|aR<|ai rfl<|ai rfl<|ah (dF Tryz.underlying9 (by omega) rfl) rfl<|ah (bH rfl rfl (by omega) (by omega)) rfl<|am rfl<|ay<|bS<|aw n7<|aR<|ah (bH rfl rfl (by omega) (by omega)) rfl<|ai rfl<|ay<|fun a_ bn=>ab0 _ _ (i+1) (by omega) (by repeat first|exact aB|refine au rfl (by first|rfl|exact int_eq (by simp [dA];omega)|exact int_eq (by rw [Ga hil];omega)|exact int_eq (by omega)) ?_) ?_ a_ bn
   exact ⟨by omega,hb⟩
  have Yy:=vJ;simp only [DZ] at vJ;have hil:i=l.length:=by have:=vJ;omega
  have h8:dA (l.take i)=dA l:=by rw [hil,List.take_length]
  rw [h8];refine cN<|bD<|bD<|cO<|aw iX<|ao fun oT=>el (z:=LO) (by kernel_rfl) rfl ?_
  rintro sB ajt aiB PL QP;have:=QP.size;have hb:=az hb QP;have hR:=bh.below hb;have:=PL.lt;refine an oT<|ao fun xw=>ai rfl<|aS agV rfl rfl (U8 w.heap.size sB (l.length - 1+dA l) _ (by omega) PL hb.size (by omega)) rfl ?_
  rintro _ w1 ⟨rfl,hI,hs1⟩;refine an xw<|ax fun _ sL=>?_
  have hb:=hb.trans hs1;have hR:=bh.below hb;obtain ⟨p_,v_,hpe,hve,hcell⟩:=hR.one (i:=0) (by omega);subst hpe;obtain rfl:=i6 (by omega) hve;obtain ⟨x,r,hxr⟩:∃x r,l=x :: r:=by cases l with|nil=>simp at hl2|cons x r=>exact ⟨x,r,rfl⟩
  have hx0:l.getD 0 []=x:=by rw [hxr];rfl
  rw [hx0] at hcell;have hrl:l.length=r.length+1:=by rw [hxr];rfl
  have htr:dA l=x.length+dA r:=by rw [hxr];simp [dA]
  refine aR<|ai rfl<|ah (cx Tryz.underlying40 eo rfl rfl (by omega) (by omega)) rfl<|aW (aI FN rfl (by exact gH (k:=0) hcell)) rfl<|aS Gh rfl rfl (G5 w.heap.size sB [] x _ hI (by simp;omega) hb.size) rfl ?_
  rintro _ w2 ⟨rfl,hI2,hs2⟩;refine an sL<|ax fun _ Cu=>ax fun _ Cv=>?_
  have hb:=hb.trans hs2;have hR:=bh.below hb;refine aR<|ai rfl<|ah (nr Tryz.underlying40 eo rfl rfl (by omega) (by omega)) rfl<|ah (cG Tryz.underlying40 (by omega) rfl) rfl<|ai rfl<|an Cv<|br<|cU (X:=Nat) (fun i=> [(1,str [32]),(8,.pointer (some ⟨sB,0,none⟩)),(63,.slice (some (p_.add 1)) (l.length - 1) (c - 1)),(64,.int .i64 (r.length:Int)),(65,.int .i64 (i:Int))]) (fun i wr=>i≤r.length∧Below w.heap.size w wr∧Lib.IsBuilder 67 5 w.heap.size sB (Lib.byteCells (x++(r.take i).flatMap (fun y=>(32:UInt8) :: y))) wr) (fun i=>r.length - i) (0) ?_ ?_ ?_
  · exact by repeat first|exact aB|refine au rfl (by first|rfl|exact int_eq (by omega)|exact S8 (by omega)) ?_
  · exact ⟨by omega,hb,by simpa using hI2⟩
  rintro i wr xj _ ab5;replace xj:i≤r.length∧Below w.heap.size w wr∧Lib.IsBuilder 67 5 w.heap.size sB (Lib.byteCells (x++(r.take i).flatMap (fun y=>(32:UInt8) :: y))) wr:=xj;obtain ⟨hi,hb,hI⟩:=xj;show Wc _ _ _ _ _ [(1,str [32]),(8,.pointer (some ⟨sB,0,none⟩)),(63,.slice (some (p_.add 1)) (l.length - 1) (c - 1)),(64,.int .i64 (r.length:Int)),(65,.int .i64 (i:Int))] _;have hR:=bh.below hb;have:=hb.size;refine ao fun mq=>ah (cg rfl rfl) rfl<|an mq<|ax fun _ B7=>aH rfl (fun vS=>?_) (fun vS=>?_)
  ·
   have YI:=vS;simp only [DZ] at vS;have hil2:i<r.length:=by have:=vS;omega
   have hR:=bh.below hb;have h9:=Px (r.take i);have h10:=MM r i;have h11':=Ga hil2;have h12:=MM r (i+1);have h13:(r.take i).length=i:=by rw [List.length_take];omega
   have hR3:Rd wr 1 (some (p_.add 1)) (l.length - 1) ((strs l).drop (1 * 1)):=by have h:=hR.drop (m:=1) (c:=c) (by omega) hc;rw [if_neg (by omega)] at h;exact h
   obtain ⟨lC,M4,hpe2,hve2,hcell2⟩:=hR3.one (i:=i) (by omega);rw [show (strs l).drop (1 * 1)=strs r by rw [hxr];rfl] at hve2;obtain rfl:=i6 hil2 hve2
   cases hpe2
   refine aU<|aw B7<|ax fun _ kS=>br<|ao fun B8=>ah (cx Tryz.underlying40 eo rfl rfl (by omega) (by omega)) rfl<|aW (aI FN rfl (by exact gH hcell2)) rfl<|am rfl<|an B8<|ao fun Cb=>ai rfl<|aS Gh rfl rfl (G5 w.heap.size sB _ [32] _ hI (by rw [List.length_append,h9,h11];omega) hb.size) rfl ?_
   rintro _ w3 ⟨rfl,hI3,hs3⟩;refine an Cb ?_;have hb3:=hb.trans hs3;refine aR<|ai rfl<|aS Gh rfl rfl (G5 w.heap.size sB _ (r.getD i []) _ hI3 (by rw [List.length_append,List.length_append,h9,h11];omega) hb3.size) rfl ?_
   rintro _ w4 ⟨rfl,hI4,hs4⟩;refine ay<|bS<|aw kS ?_
   have hb4:=hb3.trans hs4;refine aR<|ah (bH rfl rfl (by omega) (by omega)) rfl<|ai rfl<|ay<|fun a_ bn=>ab5 _ _ (i+1) (by omega) (by repeat first|exact aB|refine au rfl (by first|rfl|exact int_eq (by omega)|exact S8 (by omega)) ?_) ?_ a_ bn
   exact ⟨by omega,hb4,by rw [ZY hil2,←List.append_assoc,←List.append_assoc];exact hI4⟩
  have YI:=vS;simp only [DZ] at vS;refine cN<|bD<|bD<|cO<|aw Cu<|ao fun sE=>aS MS rfl rfl (GK w.heap.size sB _ _ hI hb.size) rfl ?_
  rintro _ w5 ⟨rfl,hs5⟩;refine am rfl<|an sE<|aK<|bj rfl rfl ?_
  exact ⟨_,rfl,dw (by rw [hxr,o8,List.take_of_length_le (by have:=vS;omega)]),hb.trans hs5⟩
 have XP:=yy;simp only [DZ] at yy;exact absurd yy (by decide)
theorem Vi (A:Option Addr) (c n:Nat) (l:List (al)) (hn:l.length=n) (hlen:n≤16777216) (hc:n≤c) (htot:dA l≤1099511627776) (w:World) (hR:Rd w 1 A n (strs l)):be Tryz.prog 26 [.slice A n c,str [32]] w fun v w'=>v=str (o8 l)∧Below w.heap.size w w':=by
 subst hn;exact Vj A c l hlen hc htot w hR
end Go.Proofs.YtjmlknjbhbfneaaGreatDoor
