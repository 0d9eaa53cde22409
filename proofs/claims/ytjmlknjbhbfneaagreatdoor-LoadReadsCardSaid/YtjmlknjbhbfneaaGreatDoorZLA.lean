import Derived.Lib.Bytealg
import Derived.Test.YtjmlknjbhbfneaaGreatDoorZGA
import Derived.Test.YtjmlknjbhbfneaaGreatDoorZShelfE
namespace Go.Proofs.YtjmlknjbhbfneaaGreatDoor
open Go.RowKit Go.Bw Go.Bw.Fl
set_option linter.unusedVariables false
set_option linter.unusedSimpArgs false
theorem Oh (x:al):Op.bytesLess x []=false:=by cases x<;>rfl
theorem zY (a b:UInt8) (x y:al):Op.bytesLess (a :: x) (b :: y)=true↔a.toNat<b.toNat∨(a.toNat=b.toNat∧Op.bytesLess x y=true):=by
 show (decide (a<b)||(a==b&&Op.bytesLess x y))=true↔_;simp only [Bool.or_eq_true,Bool.and_eq_true,decide_eq_true_eq,beq_iff_eq,UInt8.lt_iff_toNat_lt]
 constructor
 · rintro (h|⟨h,h'⟩)
   · exact .inl h
   · exact .inr ⟨by rw [h],h'⟩
 · rintro (h|⟨h,h'⟩)
   · exact .inl h
   · exact .inr ⟨UInt8.toNat_inj.1 h,h'⟩
theorem rN:∀(x y z:al),Op.bytesLess x y=true→Op.bytesLess y z=true→Op.bytesLess x z=true
 |x,[],z,h,_=>by rw [Oh] at h;cases h
 |x,b :: y,[],_,h=>by rw [Oh] at h;cases h
 | [],b :: y,c :: z,_,_=>rfl
 |a :: x,b :: y,c :: z,h,h'=>by
  rw [zY] at h h' ⊢
  rcases h with h|⟨h,h1⟩<;>rcases h' with h'|⟨h',h2⟩
  · exact .inl (by omega)
  · exact .inl (by omega)
  · exact .inl (by omega)
  · exact .inr ⟨by omega,rN x y z h1 h2⟩
theorem uR:∀(x y:al),Op.bytesLess x y=true∨x=y∨Op.bytesLess y x=true
 | [],[]=> .inr (.inl rfl)
 | [],b :: y=> .inl rfl
 |a :: x,[]=> .inr (.inr rfl)
 |a :: x,b :: y=>by
  rw [zY,zY]
  rcases Nat.lt_trichotomy a.toNat b.toNat with h|h|h
  · exact .inl (.inl h)
  · rcases uR x y with h1|h1|h1
    · exact .inl (.inr ⟨h,h1⟩)
    · exact .inr (.inl (by rw [UInt8.toNat_inj.1 h,h1]))
    · exact .inr (.inr (.inr ⟨h.symm,h1⟩))
  · exact .inr (.inr (.inl h))
theorem tE:∀(x:al),Op.bytesLess x x=false
 | []=>rfl
 |a :: x=>by
  cases h:Op.bytesLess (a :: x) (a :: x) with
  |false=>rfl
  |true=>
   rw [zY] at h
   rcases h with h|⟨_,h⟩
   · omega
   · rw [tE x] at h;cases h
theorem yG:∀(x y:al),Lib.compareBytes x y<0↔Op.bytesLess x y=true
 | [],[]=>by simp [Lib.compareBytes,Op.bytesLess]
 | [],_ :: _=>by simp [Lib.compareBytes,Op.bytesLess]
 |_ :: _,[]=>by simp [Lib.compareBytes,Op.bytesLess]
 |a :: x,b :: y=>by
  have ih:=yG x y;rw [zY];show (if a<b then (-1:Int) else if b<a then 1 else Lib.compareBytes x y)<0↔_;by_cases h1:a<b
  · rw [if_pos h1];have:=UInt8.lt_iff_toNat_lt.1 h1;simp [this]
  · rw [if_neg h1]
    have h1':¬a.toNat<b.toNat:=fun h=>h1 (UInt8.lt_iff_toNat_lt.2 h);by_cases h2:b<a
    · rw [if_pos h2];have:=UInt8.lt_iff_toNat_lt.1 h2
      constructor
      · intro h;omega
      · rintro (h|⟨h,_⟩)<;>omega
    · rw [if_neg h2,ih]
      have h2':¬b.toNat<a.toNat:=fun h=>h2 (UInt8.lt_iff_toNat_lt.2 h)
      constructor
      · intro h;exact .inr ⟨by omega,h⟩
      · rintro (h|⟨_,h⟩)
        · omega
        · exact h
theorem Ox:∀(x y:al),Lib.compareBytes x y=0↔x=y
 | [],[]=>by simp [Lib.compareBytes]
 | [],_ :: _=>by simp [Lib.compareBytes]
 |_ :: _,[]=>by simp [Lib.compareBytes]
 |a :: x,b :: y=>by
  have ih:=Ox x y;show (if a<b then (-1:Int) else if b<a then 1 else Lib.compareBytes x y)=0↔_;by_cases h1:a<b
  · rw [if_pos h1];have:=UInt8.lt_iff_toNat_lt.1 h1
    constructor
    · intro h;omega
    · intro h;injection h with h3 _;subst h3;omega
  · rw [if_neg h1]
    by_cases h2:b<a
    · rw [if_pos h2];have:=UInt8.lt_iff_toNat_lt.1 h2
      constructor
      · intro h;omega
      · intro h;injection h with h3 _;subst h3;omega
    · rw [if_neg h2,ih]
      have e:a=b:=UInt8.toNat_inj.1 (by
       have h1':¬a.toNat<b.toNat:=fun h=>h1 (UInt8.lt_iff_toNat_lt.2 h)
       have h2':¬b.toNat<a.toNat:=fun h=>h2 (UInt8.lt_iff_toNat_lt.2 h)
       omega)
      rw [e];simp
theorem M6 {w w':World} {p g:Nat} {nm:String} {cs:Array Value} (h:World.var? Tryz.prog w nm=some cs) (hk:Kp p w w') (hg:Tryz.prog.globalNamed nm=some g) (hn:g≠p):World.var? Tryz.prog w' nm=some cs:=by
 unfold World.var? at h ⊢;rw [hg] at h ⊢;simp only [Option.bind_some] at h ⊢
 have hl:g<w.heap.size:=by
  rcases Nat.lt_or_ge g w.heap.size with h1|h1
  · exact h1
  · rw [Array.getElem?_eq_none h1] at h;cases h
 rw [hk.block g hl (fun e=>hn (Option.some.inj e))];exact h
theorem PC : Tryz.prog.globalNamed "internal/strconv.uint64pow10" = some 4 := by kernel_rfl
theorem PE : Tryz.prog.globalNamed "strconv.ErrSyntax" = some 5 := by kernel_rfl
theorem PD : Tryz.prog.globalNamed "strconv.ErrRange" = some 6 := by kernel_rfl
def Gl (p:Nat):Prop:=4<p∧5<p∧6<p
theorem Lb.kp {w w':World} {p:Nat} (h:Lb w) (hk:Kp p w w') (hg:Gl p):Lb w':=
 ⟨M6 h.tab hk PC (Nat.ne_of_lt hg.1),h.syn.elim fun tp h1=>h1.elim fun q h2=>⟨tp,q,M6 h2 hk PE (Nat.ne_of_lt hg.2.1)⟩,h.rng.elim fun tp h1=>h1.elim fun q h2=>⟨tp,q,M6 h2 hk PD (Nat.ne_of_lt hg.2.2)⟩⟩
theorem Gl.mono {p q:Nat} (h:Gl p) (hq:p≤q):Gl q:=⟨by have:=h.1;omega,by have:=h.2.1;omega,by have:=h.2.2;omega⟩
theorem Lb.gl {w:World} (h:Lb w):Gl w.heap.size:=by
 have key:∀{nm:String} {g:Nat} {cs:Array Value},World.var? Tryz.prog w nm=some cs→Tryz.prog.globalNamed nm=some g→g<w.heap.size:=fun {nm g cs} hv hg=>by
  unfold World.var? at hv;rw [hg] at hv;simp only [Option.bind_some] at hv
  rcases Nat.lt_or_ge g w.heap.size with h1|h1
  · exact h1
  · rw [Array.getElem?_eq_none h1] at hv;cases hv
 obtain ⟨_,_,h2⟩:=h.syn;obtain ⟨_,_,h3⟩:=h.rng;exact ⟨key h.tab PC,key h2 PE,key h3 PD⟩
theorem iO (p:Addr) (w:World):(Instr.fieldAt 56 (.pointer (some p)) 0).run Tryz.prog w= .ok (.pointer (some (p.add 0))) w:=fd (i:=0) (sz:=0) M0 rfl (by kernel_rfl) p w
theorem AY (p:Addr) (w:World):(Instr.fieldAt 56 (.pointer (some p)) 1).run Tryz.prog w= .ok (.pointer (some (p.add 1))) w:=fd (i:=1) (sz:=0) M0 rfl (by kernel_rfl) p w
theorem Dr:One Tryz.prog 28:=⟨_,Tryz.underlying28,rfl,by kernel_rfl⟩
theorem Gg:bC Tryz.prog 18:=⟨_,Tryz.func18,by kernel_rfl,rfl⟩
theorem tf:bC Tryz.prog 36:=⟨_,Tryz.func36,by kernel_rfl,rfl⟩
def cP (e b:Int):Int:=if e=0∨b<e then b else e
def bF (s:al):al:=if Lib.hasPrefix (Lib.trimLeftB s 32) [35]=true then [] else Lib.trimLeftB s 32
def wd (s:al):al:=s.takeWhile (· != 32)
def a7 (s:al):al:=bF (s.dropWhile (· != 32))
def cE (s:al) (e:Int):Int:=if bO (wd s)=true then e else cP e 2
theorem af9 (s:al) (c:UInt8):(Lib.trimLeftB s c).length≤s.length:=(List.dropWhile_suffix _).sublist.length_le
theorem mP (s:al):(bF s).length≤s.length:=by
 unfold bF;split
 · simp
 · exact af9 s 32
theorem ahM (s:al):(wd s).length≤s.length:=(List.takeWhile_prefix _).length_le
theorem lF (s:al):(a7 s).length≤s.length:=Nat.le_trans (mP _) (List.dropWhile_suffix _).sublist.length_le
theorem QW:∀(s:al),Lib.indexByte (s++ [32]) 32=((wd s).length:Int)
 | []=>by simp [Lib.indexByte,wd]
 |c :: r=>by
  have ih:=QW r;show (if c==32 then 0 else if Lib.indexByte (r++ [32]) 32== -1 then -1 else Lib.indexByte (r++ [32]) 32+1)=_;unfold wd at ih ⊢;by_cases h:c=32
  · subst h;simp
  · have h1:(c==32)=false:=by simpa using h
    have h2:(c != 32)=true:=by simp [h]
    rw [List.takeWhile_cons,h1,h2,ih,if_neg (by simp)];have h3:(((List.takeWhile (fun x=>x != 32) r).length:Int)== -1)=false:=by rw [Bool.eq_false_iff];intro h;have:=eq_of_beq h;omega
    rw [h3];simp
theorem F7 (s:al):s.take (wd s).length=wd s:=(List.prefix_iff_eq_take.1 (List.takeWhile_prefix _)).symm
theorem Zo (s:al):s.drop (wd s).length=s.dropWhile (· != 32):=by
 have h:wd s++s.dropWhile (· != 32)=s:=List.takeWhile_append_dropWhile;have h2:=congrArg (List.drop (wd s).length) h;rw [List.drop_left] at h2;exact h2.symm
theorem VV (s:al) (w:World):be Tryz.prog 40 [str s,str [32]] w fun v w'=>v=str (Lib.trimLeftB s 32)∧w'=w:=oG (Tryz.strings_TrimLeft_one ⟨s.toArray⟩ 32 (by decide) w)
theorem VX (s:al) (hs:s.length≤9223372036854775807) (w:World):be Tryz.prog 37 [str s,str [32]] w fun v w'=>v=str (Lib.trimRightB s 32)∧w'=w:=oG (Tryz.strings_TrimRight_one ⟨s.toArray⟩ 32 (by decide) w (by rw [mG];exact hs))
theorem UM (a b:al) (w:World):be Tryz.prog 61 [str a,str b] w fun v w'=>v= .int .i64 (Lib.compareBytes a b)∧w'=w:=oG (Tryz.strings_Compare ⟨a.toArray⟩ ⟨b.toArray⟩ w)
theorem rM (p:Nat) (s:al) (e b:Int) (w:World) (hP:aq w p 56 [str s,.int .i64 e]):be Tryz.prog 36 [.pointer (some ⟨p,0,none⟩),.int .i64 b] w fun v w'=>(v= .tuple #[]∧aq w' p 56 [str s,.int .i64 (cP e b)])∧Kp p w w':=by
 have hpl:=hP.lt;have hb:=Kp.refl p w;refine enter Tryz.func36 rfl rfl rfl<|ax fun _ aZ=>b9 (X:=Bool) (fun q=> [(0,.pointer (some ⟨p,0,none⟩)),(1,.int .i64 b),(16,.bool q)]) (fun q wr=>q=decide (e=0∨b<e)∧Kp p w wr∧aq wr p 56 [str s,.int .i64 e]) (fun _ lx=>?_) ?_
 ·
  refine aR<|ai rfl<|ah (cM rfl) rfl<|ah (aJ (AY _) rfl) rfl<|aW (aI Dr rfl (by exact hP.at (j:=1) rfl)) rfl<|ah (bA rfl rfl) rfl<|ai rfl<|dP rfl rfl rfl (fun gy=>?_) (fun gy=>?_)
  ·
   have dU:=gy;simp only [DZ] at gy;refine aA rfl rfl dU rfl rfl<|aA rfl rfl dU rfl rfl<|aA rfl rfl dU rfl rfl<|aA rfl rfl dU rfl rfl<|aA rfl rfl dU rfl rfl<|ah (bi rfl dU rfl) rfl<|ay<|aY lx (decide (e=0∨b<e)) (by repeat first|exact aB|refine au rfl (by first|rfl|exact aP (by rw [Bool.eq_iff_iff];simp;omega)) ?_) ?_
   exact ⟨rfl,hb,hP⟩
  have dU:=gy;simp only [DZ] at gy;refine ai rfl<|aE rfl rfl dU<|ai rfl<|aE rfl rfl dU<|ah (cM rfl) rfl<|aE rfl rfl dU<|ah (aJ (AY _) rfl) rfl<|aE rfl rfl dU<|aW (aI Dr rfl (by exact hP.at (j:=1) rfl)) rfl<|aE rfl rfl dU<|ah (cg rfl rfl) rfl<|ah (bg rfl dU rfl) rfl<|ay<|aY lx (decide (e=0∨b<e)) (by repeat first|exact aB|refine au rfl (by first|rfl|exact aP (by rw [Bool.eq_iff_iff];simp;omega)) ?_) ?_
  exact ⟨rfl,hb,hP⟩
 rintro q wr qe;replace qe:q=decide (e=0∨b<e)∧Kp p w wr∧aq wr p 56 [str s,.int .i64 e]:=qe;obtain ⟨hq,hb,hP⟩:=qe;show Wq _ _ _ _ [(0,.pointer (some ⟨p,0,none⟩)),(1,.int .i64 b),(16,.bool q)] _;have:=hb.size;have:=hP.lt;refine aw aZ<|aH rfl (fun lM=>?_) (fun lM=>?_)
 ·
  have rO:=lM;have hc:e=0∨b<e:=by have h:=rO;rw [hq] at h;exact of_decide_eq_true h
  refine aR<|ai rfl<|ai rfl<|ah (cM rfl) rfl<|ah (aJ (AY _) rfl) rfl<|fJ Dr rfl rfl rfl hP (by simp) ?_
  rintro d3 xI bI;have:=bI.size;have hb:=mz hb bI (by omega);have hP:=xI;refine ay<|lh rfl ?_
  exact ⟨_,rfl,⟨rfl,by unfold cP;rw [if_pos hc];exact hP⟩,hb⟩
 have rO:=lM;have hc:¬(e=0∨b<e):=by have h:=rO;rw [hq] at h;exact of_decide_eq_false h
 refine aU<|lh rfl ?_
 exact ⟨_,rfl,⟨rfl,by unfold cP;rw [if_neg hc];exact hP⟩,hb⟩
theorem Er (p:Nat) (s:al) (e:Int) (w:World) (hP:aq w p 56 [str s,.int .i64 e]):be Tryz.prog 18 [.pointer (some ⟨p,0,none⟩)] w fun v w'=>(v= .tuple #[]∧aq w' p 56 [str (bF s),.int .i64 e])∧Kp p w w':=by
 have hpl:=hP.lt;have hb:=Kp.refl p w;refine enter Tryz.func18 rfl rfl rfl<|ao fun aZ=>ai rfl<|ai rfl<|ah (cM rfl) rfl<|ah (aJ (iO _) rfl) rfl<|aW (aI bQ rfl (by exact hP.at (j:=0) rfl)) rfl<|aS TP rfl rfl (VV s _) rfl ?_
 rintro _ w_ ⟨rfl,bf⟩;have bf:=bf.symm;subst bf;refine ah (cM rfl) rfl<|ah (aJ (iO _) rfl) rfl<|fJ bQ rfl rfl rfl hP (by simp) ?_
 rintro d3 xI bI;have:=bI.size;have hb:=mz hb bI (by omega);have hP:=xI;refine an aZ<|ao fun eZ=>ai rfl<|ah (cM rfl) rfl<|ah (aJ (iO _) rfl) rfl<|aW (aI bQ rfl (by exact hP.at (j:=0) rfl)) rfl<|aS DS rfl rfl (zL (Lib.trimLeftB s 32) [35] _) rfl ?_
 rintro _ w_ ⟨rfl,bf⟩;have bf:=bf.symm;subst bf;refine an eZ<|aH rfl (fun jN=>?_) (fun jN=>?_)
 ·
  have uS:=jN;refine aR<|ai rfl<|ah (cM rfl) rfl<|ah (aJ (iO _) rfl) rfl<|fJ bQ rfl rfl rfl hP (by simp) ?_
  rintro ky CT cd;have:=cd.size;have hb:=mz hb cd (by omega);have hP:=CT;refine ay<|lh rfl ?_
  exact ⟨_,rfl,⟨rfl,by unfold bF;rw [if_pos uS];exact hP⟩,hb⟩
 have uS:=jN;refine aU<|lh rfl ?_
 exact ⟨_,rfl,⟨rfl,by unfold bF;rw [if_neg (by rw [uS];simp)];exact hP⟩,hb⟩
theorem zF (p:Nat) (s:al) (e:Int) (w:World) (hP:aq w p 56 [str s,.int .i64 e]) (hs:s.length≤1099511627776):be Tryz.prog 19 [.pointer (some ⟨p,0,none⟩)] w fun v w'=>(v=str (wd s)∧aq w' p 56 [str (a7 s),.int .i64 (cE s e)])∧Kp p w w':=by
 have hpl:=hP.lt;have hwl:=ahM s;have h1:([32]:al).length=1:=rfl;have hb:=Kp.refl p w;refine enter Tryz.func19 rfl rfl rfl<|ao fun aZ=>am rfl<|an aZ<|ao fun bJ=>ai rfl<|ah (cM rfl) rfl<|ah (aJ (iO _) rfl) rfl<|aW (aI bQ rfl (by exact hP.at (j:=0) rfl)) rfl<|ah (dx rfl rfl (by rw [h1];omega)) rfl<|aS TQ rfl rfl (Nw (s++ [32]) 32 _) rfl ?_
 rintro _ w_ ⟨rfl,bf⟩;have bf:=bf.symm;subst bf;refine ah (bt (cX rfl) (int_eq (show _=((wd s).length:Int) from QW s))) rfl<|an bJ<|ao fun d7=>ai rfl<|ah (cM rfl) rfl<|ah (aJ (iO _) rfl) rfl<|aW (aI bQ rfl (by exact hP.at (j:=0) rfl)) rfl<|ai rfl<|ah (bt (rz bq rfl rfl (by omega) (by omega)) (dw (by rw [Int.toNat_natCast,F7]))) rfl<|am rfl<|an d7<|ax fun _ gJ=>ao fun iV=>ai rfl<|aS Gj rfl rfl (Ej (wd s) (by omega) _) rfl ?_
 rintro _ ft ⟨rfl,bp⟩;have:=bp.size;have hP:=aq.below hP bp;replace bp:=Below.kp (p:=p) bp;have hb:=hb.trans bp;refine ah (fI rfl) rfl<|an iV<|b9 (X:=Unit) (fun u_=> [(0,.pointer (some ⟨p,0,none⟩)),(3,.int .i64 ((wd s).length:Int)),(4,str (wd s))]) (fun u_ wr=>Kp p w wr∧aq wr p 56 [str s,.int .i64 (cE s e)]) (fun _ CI=>?_) ?_
 ·
  refine aH rfl (fun rQ=>?_) (fun rQ=>?_)
  ·
   have Xq:=rQ;simp only [DZ] at rQ;refine aR<|ai rfl<|aS tf rfl rfl (rM p s e 2 _ hP) rfl ?_
   rintro _ gu ⟨⟨rfl,hP⟩,bG⟩;have:=bG.size;have hb:=hb.trans bG;refine ay<|aY CI (()) (by repeat first|exact aB|refine au rfl (by first|rfl|exact int_eq (by omega)) ?_) ?_
   exact ⟨hb,by unfold cE;first|(rw [if_pos (by simpa using rQ)];exact hP)|(rw [if_neg (by simpa using rQ)];exact hP)⟩
  have Xq:=rQ;simp only [DZ] at rQ;refine aU<|aY CI (()) (by repeat first|exact aB|refine au rfl (by first|rfl|exact int_eq (by omega)) ?_) ?_
  exact ⟨hb,by unfold cE;first|(rw [if_pos (by simpa using rQ)];exact hP)|(rw [if_neg (by simpa using rQ)];exact hP)⟩
 rintro u_ wr wU;replace wU:Kp p w wr∧aq wr p 56 [str s,.int .i64 (cE s e)]:=wU;obtain ⟨hb,hP⟩:=wU;show Wq _ _ _ _ [(0,.pointer (some ⟨p,0,none⟩)),(3,.int .i64 ((wd s).length:Int)),(4,str (wd s))] _;have:=hb.size;have:=hP.lt;refine aw gJ<|ao fun gK=>ai rfl<|ai rfl<|ah (cM rfl) rfl<|ah (aJ (iO _) rfl) rfl<|aW (aI bQ rfl (by exact hP.at (j:=0) rfl)) rfl<|ai rfl<|ah (bt (oC bq rfl rfl (by omega) (by omega)) (dw (by rw [Int.toNat_natCast,Zo]))) rfl<|ah (cM rfl) rfl<|ah (aJ (iO _) rfl) rfl<|fJ bQ rfl rfl rfl hP (by simp) ?_
 rintro d3 xI bI;have:=bI.size;have hb:=mz hb bI (by omega);have hP:=xI;refine an gK<|ao fun fx=>ai rfl<|aS Gg rfl rfl (Er p (s.dropWhile (· != 32)) (cE s e) _ hP) rfl ?_
 rintro _ hZ ⟨⟨rfl,hP⟩,ck⟩;have:=ck.size;have hb:=hb.trans ck;refine an fx<|ao fun nY=>ai rfl<|am rfl<|an nY<|aK<|bj rfl rfl ?_
 exact ⟨_,rfl,⟨rfl,hP⟩,hb⟩
theorem zB:bC Tryz.prog 19:=⟨_,Tryz.func19,by kernel_rfl,rfl⟩
theorem agX:bC Tryz.prog 56:=⟨_,Tryz.func56,by kernel_rfl,rfl⟩
theorem ag9:bC Tryz.prog 92:=⟨_,Tryz.func92,by kernel_rfl,rfl⟩
theorem ahf:bC Tryz.prog 57:=⟨_,Tryz.func57,by kernel_rfl,rfl⟩
def gB (l:List (al)):List (al):=l.mergeSort fun x y=>decide (x≤y)
theorem tc (l:List (al)):(gB l).length=l.length:=List.length_mergeSort l
theorem aeN (d:List (al)) (cur:Array Value) (h:d.length≤cur.size):(Sort.putCells encStr 0 d.toArray cur).toList.take d.length=strs d:=by
 apply List.ext_getElem?
 intro i;rw [List.getElem?_take];by_cases hi:i<d.length
 · rw [if_pos hi]
   have h1:i<cur.size:=by omega
   unfold Sort.putCells strs;simp [hi,h1,encStr,str]
 · rw [if_neg hi,List.getElem?_eq_none (by simp [strs];omega)]
theorem VR (base:Nat) (v:Value) (l:List (al)) (w:World) (hO:w.ownsRow base 9 1 v l.length (strs l)) (hl:l.length<4611686018427387904):be Tryz.prog 57 [v] w fun u w'=>u= .tuple #[]∧w'.ownsRow base 9 1 v l.length (strs (gB l))∧w.grownBy w' v.ownBlock:=by
 rcases hO.2 with ⟨rfl,h0⟩|⟨g,cap,cur,rfl,hg,hh,hnc,hcm,hcs,htake⟩
 · have hn:l= []:=List.eq_nil_of_length_eq_zero h0
   subst hn;exact Calls.mono (Tryz.slices_Sort_string_none none 0 w) fun e w' ⟨h1,h2⟩=>⟨_,h1,rfl,by subst h2;rw [show gB []= [] by simp [gB]];exact ⟨s7 _ _ _ _,World.grownBy.refl _ _⟩⟩
 · have hlt:g<w.heap.size:=(Array.getElem?_eq_some_iff.1 hh).1
   rw [Nat.mul_one] at hcs htake
   have hcell:∀j (hj:j<l.length),cur[j]? =some (str l[j]):=fun j hj=>by
    have h1:(cur.toList.take l.length)[j]? =some (str l[j]):=by rw [htake];simp [strs,List.getElem?_eq_getElem hj]
    rw [List.getElem?_take,if_pos hj] at h1
    simpa using h1
   refine Calls.mono (Tryz.slices_Sort_string g 0 cap l w (fun j hj=>?_) hlt hl) fun e w' ⟨h1,n,os,h2⟩=>⟨_,h1,rfl,?_⟩
   · have hj':j<l.length:=by simpa using hj
     refine ⟨?_,?_⟩
     · rw [Nat.zero_add,Lib.cell_of_heap hh j,hcell j hj'];simp [encStr,str,hj']
     · rw [Nat.zero_add];exact Lib.frozen_of_heap hh j
   · subst h2
     have hsl:(gB l).length=l.length:=tc l
     have hheap:(Sort.grow (Sort.putRow encStr (Sort.ahead w n) g 0 (gB l).toArray) os).heap[g]? =some (.cells (Sort.putCells encStr 0 (gB l).toArray cur) 9 (0,0)):=by
      show ((w.heap.modify g (Sort.onCells (Sort.putCells encStr 0 (gB l).toArray)))++os)[g]? =_;rw [Array.getElem?_append,if_pos (by simpa using hlt),Array.getElem?_modify,if_pos rfl,hh];rfl
     refine ⟨⟨by rw [Nat.mul_one];simp [strs,hsl],.inr ⟨g,cap,_,rfl,hg,hheap,hnc,hcm,by rw [Nat.mul_one];simpa [Sort.putCells] using hcs,?_⟩⟩,⟨rfl,rfl,rfl,?_,fun k hk hne=>?_⟩⟩
     · rw [Nat.mul_one,←hsl];exact aeN _ _ (by rw [hsl,hcs];exact hnc)
     · show w.heap.size≤((w.heap.modify g _)++os).size;simp
     · show ((w.heap.modify g _)++os)[k]? =_
       rw [Array.getElem?_append,if_pos (by simpa using hk),Array.getElem?_modify,if_neg (fun e=>hne (by rw [←e];rfl))]
theorem Vc (A:Option Addr) (c:Nat) (l:List (al)) (x:al) (hl:l.length≤1099511627776) (w:World) (hR:Rd w 1 A l.length (strs l)):be Tryz.prog 92 [.slice A l.length c,str x] w fun v w'=>(∃k:Int,v= .int .i64 k∧decide (0≤k)=decide (x∈l))∧Below w.heap.size w w':=by
 have hb:=Below.refl w.heap.size w;have bh:=hR;refine enter Tryz.func92 rfl rfl rfl<|ao fun aZ=>am rfl<|an aZ<|ax fun _ bJ=>ao fun bX=>ai rfl<|ah (cG bK (by omega) rfl) rfl<|ai rfl<|an bX<|br<|cU (X:=Nat) (fun i=> [(0,.slice A l.length c),(1,str x),(7,.int .i64 (l.length:Int)),(8,.int .i64 (i:Int))]) (fun i wr=>i≤l.length∧(∀j,j<i→l.getD j []≠x)∧Below w.heap.size w wr) (fun i=>l.length - i) (0) ?_ ?_ ?_
 · exact by repeat first|exact aB|refine au rfl (by first|rfl|exact int_eq (by omega)) ?_
 · exact ⟨by omega,fun _ h=>by omega,hb⟩
 rintro i wr qj _ CE;replace qj:i≤l.length∧(∀j,j<i→l.getD j []≠x)∧Below w.heap.size w wr:=qj;obtain ⟨hi,hall,hb⟩:=qj;show Wc _ _ _ _ _ [(0,.slice A l.length c),(1,str x),(7,.int .i64 (l.length:Int)),(8,.int .i64 (i:Int))] _;have hR:=bh.below hb;have:=hb.size;refine ao fun eZ=>ah (cg rfl rfl) rfl<|an eZ<|ax fun _ eO=>aH rfl (fun dH=>?_) (fun dH=>?_)
 ·
  have kD:=dH;simp only [DZ] at dH;have hil:i<l.length:=by have:=dH;omega
  obtain ⟨p_,v_,hpe,hve,hcell⟩:=hR.one (i:=i) hil;obtain rfl:=i6 hil hve;subst hpe;refine aU<|aw eO<|ax fun _ eR=>br<|ao fun fj=>ai rfl<|am rfl<|an fj<|ao fun dL=>ai rfl<|ai rfl<|ai rfl<|ah (cx bK eo rfl rfl (by omega) (by omega)) rfl<|aW (aI bQ rfl (by exact gH hcell)) rfl<|ah (fu rfl rfl) rfl<|an dL<|aH rfl (fun fL=>?_) (fun fL=>?_)
  ·
   have u7:=fL;simp only [DZ] at fL;refine ao fun md=>ai rfl<|am rfl<|an md<|aK<|bE (aQ (aQ (bE (aQ ?_))))
   refine bj rfl rfl ?_;exact ⟨_,rfl,⟨_,rfl,by rw [decide_eq_true (by omega:(0:Int)≤i),eq_comm,decide_eq_true_eq,fL,getD_at [] hil];exact List.getElem_mem hil⟩,hb⟩
  have u7:=fL;simp only [DZ] at fL;refine aU<|bS<|aw eR<|aR<|ah (bH rfl rfl (by omega) (by omega)) rfl<|ai rfl<|ay<|fun a_ bn=>CE _ _ (i+1) (by omega) (by repeat first|exact aB|refine au rfl (by first|rfl|exact int_eq (by omega)) ?_) ?_ a_ bn
  exact ⟨by omega,fun j hj=>(by by_cases e:j=i;(· rw [e];exact fun h=>fL h.symm);(· exact hall j (by omega))),hb⟩
 have kD:=dH;simp only [DZ] at dH;refine cN<|bD<|bD<|cO<|aw bJ<|ao fun jW=>am rfl<|an jW<|aK<|bj rfl rfl ?_
 exact ⟨_,rfl,⟨_,rfl,by rw [decide_eq_false (by omega:¬(0:Int)≤-1),eq_comm,decide_eq_false_iff_not];intro hx;obtain ⟨j,hj,he⟩:=List.getElem_of_mem hx;exact hall j (by have:=dH;omega) (by rw [getD_at [] hj];exact he)⟩,hb⟩
theorem UN (A:Option Addr) (c n:Nat) (l:List (al)) (x:al) (hn:l.length=n) (hl:n≤1099511627776) (w:World) (hR:Rd w 1 A n (strs l)):be Tryz.prog 56 [.slice A n c,str x] w fun v w'=>v= .bool (decide (x∈l))∧Below w.heap.size w w':=by
 subst hn;have hb:=Below.refl w.heap.size w;have bh:=hR;refine enter Tryz.func56 rfl rfl rfl<|ao fun aZ=>am rfl<|an aZ<|ao fun bJ=>ai rfl<|ai rfl<|aS ag9 rfl rfl (Vc A c l x hl _ hR) rfl ?_
 rintro _ cq ⟨⟨k,rfl,hk⟩,bm⟩;have:=bm.size;have hb:=az hb bm;have hR:=bh.below hb;refine ah (jb rfl rfl) rfl<|am rfl<|an bJ<|aK<|bj rfl rfl ?_
 exact ⟨_,rfl,aP hk,hb⟩
def m9:Nat→List (al)→al→Int→List (al)×al×Int
 |0,o,s,e=>(o,s,e)
 |n+1,o,s,e=>if Lib.hasPrefix s [58]=true then m9 n (o++ [wd (s.drop 1)]) (a7 (s.drop 1)) (if wd (s.drop 1)∈o then cP (cE (s.drop 1) e) 3 else cE (s.drop 1) e) else (o,s,e)
def iD (s:al) (e:Int):List (al)×al×Int:=m9 s.length [] s e
theorem FD {s:al} (h:Lib.hasPrefix s [58]=false):∀(n:Nat) (o:List (al)) (e:Int),m9 n o s e=(o,s,e)
 |0,_,_=>rfl
 |n+1,o,e=>by show (if _ then _ else _)=_;rw [if_neg (by rw [h];simp)]
theorem AJ {s:al} (h:Lib.hasPrefix s [58]=true):0<s.length:=by
 cases s with
 |nil=>exact absurd h (by decide)
 |cons c r=>simp
theorem Ra:∀(n:Nat) (o:List (al)) (s:al) (e:Int),s.length≤n→(m9 n o s e).2.1.length≤s.length∧(m9 n o s e).1.length≤o.length+s.length
 |0,o,s,e,h=>by simp [m9]
 |n+1,o,s,e,h=>by
  show (if _ then _ else _:List (al)×al×Int).2.1.length≤_∧(if _ then _ else _:List (al)×al×Int).1.length≤_
  split
  · rename_i hc
    have h0:=AJ hc;have h1:=lF (s.drop 1);have h2:(s.drop 1).length=s.length - 1:=List.length_drop;have ih:=Ra n (o++ [wd (s.drop 1)]) (a7 (s.drop 1)) (if wd (s.drop 1)∈o then cP (cE (s.drop 1) e) 3 else cE (s.drop 1) e) (by omega);rw [List.length_append] at ih;simp only [List.length_cons,List.length_nil] at ih;omega
  · exact ⟨Nat.le_refl _,by show o.length≤_;omega⟩
theorem qE {w:World} {base p:Nat} {e:TypeId} {sz n:Nat} {v:Value} {xs:List Value} (h:w.ownsRow base e sz v n xs) (hp:p<base):v.ownBlock=none∨v.ownBlock≠some p:=by
 cases hv:v.ownBlock with
 |none=>exact .inl rfl
 |some k=>have:=(bz h k hv).1;exact .inr (fun e=>by cases e;omega)
theorem Re (p:Nat) (s:al) (e:Int) (w:World) (hP:aq w p 56 [str s,.int .i64 e]) (hs:s.length≤4294967296):be Tryz.prog 32 [.pointer (some ⟨p,0,none⟩)] w fun v w'=>(w'.ownsRow w.heap.size 9 1 v (iD s e).1.length (strs (gB (iD s e).1))∧aq w' p 56 [str (iD s e).2.1,.int .i64 (iD s e).2.2])∧Kp p w w':=by
 have hpl:=hP.lt;have hb:=Kp.refl p w;refine enter Tryz.func32 rfl rfl rfl<|ao fun aZ=>am rfl<|an aZ<|ax fun _ bJ=>br<|cU (X:=Nat×Value×List (al)×al×Int) (fun (n,v,o,t,f)=> [(0,.pointer (some ⟨p,0,none⟩)),(2,v)]) (fun (n,v,o,t,f) wr=>t.length≤n∧o.length+t.length≤s.length∧m9 n o t f=iD s e∧Kp p w wr∧aq wr p 56 [str t,.int .i64 f]∧wr.ownsRow w.heap.size 9 1 v o.length (strs o)) (fun (n,v,o,t,f)=>t.length) (⟨s.length,.slice none 0 0,[],s,e⟩) ?_ ?_ ?_
 · exact by repeat first|exact aB|refine au rfl (by first|rfl|exact int_eq (by omega)) ?_
 · exact ⟨Nat.le_refl _,by simp,rfl,hb,hP,s7 _ _ _ _⟩
 rintro ⟨n,v,o,t,f⟩ wr wZ _ K0;replace wZ:t.length≤n∧o.length+t.length≤s.length∧m9 n o t f=iD s e∧Kp p w wr∧aq wr p 56 [str t,.int .i64 f]∧wr.ownsRow w.heap.size 9 1 v o.length (strs o):=wZ;obtain ⟨hn,hol,hgo,hb,hP,hO⟩:=wZ;show Wc _ _ _ _ _ [(0,.pointer (some ⟨p,0,none⟩)),(2,v)] _;have:=hb.size;have:=hP.lt;refine ax fun _ ex=>ao fun e7=>ai rfl<|ah (cM rfl) rfl<|ah (aJ (iO _) rfl) rfl<|aW (aI bQ rfl (by exact hP.at (j:=0) rfl)) rfl<|aS DS rfl rfl (zL t [58] _) rfl ?_
 rintro _ w_ ⟨rfl,bf⟩;have bf:=bf.symm;subst bf;refine an e7<|aH rfl (fun dH=>?_) (fun dH=>?_)
 ·
  have kD:=dH;have hc:Lib.hasPrefix t [58]=true:=kD;have sQ:v.ownBlock=none∨v.ownBlock≠some p:=qE hO hpl;have hap2:some p≠v.ownBlock:=fun h=>by rcases sQ with h2|h2;(· rw [h2] at h;cases h);(· exact h2 h.symm)
  have h0:=AJ hc;have h1:=lF (t.drop 1);have h2:(t.drop 1).length=t.length - 1:=List.length_drop;refine aU<|aw ex<|br<|ao fun eR=>ai rfl<|ai rfl<|ah (cM rfl) rfl<|ah (aJ (iO _) rfl) rfl<|aW (aI bQ rfl (by exact hP.at (j:=0) rfl)) rfl<|ah (oC bq rfl rfl (by omega) (by omega)) rfl<|ah (cM rfl) rfl<|ah (aJ (iO _) rfl) rfl<|fJ bQ rfl rfl rfl hP (by simp) ?_
  rintro d3 xI bI;have:=bI.size;have hb:=mz hb bI (by omega);have hO:=World.ownsRow.kept hO bI (by assumption);have hP:=xI;refine an eR<|ao fun nV=>ai rfl ?_
  obtain ⟨Ao,co,hve,hoc,_⟩:=eT hO;subst hve;refine aS zB rfl rfl (zF p (t.drop 1) f _ hP (by omega)) rfl ?_;rintro _ ft ⟨⟨rfl,hP⟩,bp⟩;have:=bp.size;have hO:=ro hO bp (by omega);have hb:=hb.trans bp;refine am rfl<|an nV<|ax fun _ kU=>ao fun eG=>ai rfl<|ai rfl<|aS agX rfl rfl (UN Ao co o.length o (wd (t.drop 1)) rfl (by omega) _ (fC hO)) rfl ?_
  rintro _ gu ⟨rfl,bG⟩;have:=bG.size;have hP:=aq.below hP bG;have hO:=cR hO bG;replace bG:=Below.kp (p:=p) bG;have hb:=hb.trans bG;refine an eG<|b9 (X:=Unit) (fun u_=> [(0,.pointer (some ⟨p,0,none⟩)),(2,.slice Ao o.length co),(3,str (wd (t.drop 1)))]) (fun u_ wm=>Kp p w wm∧aq wm p 56 [str (a7 (t.drop 1)),.int .i64 (if wd (t.drop 1)∈o then cP (cE (t.drop 1) f) 3 else cE (t.drop 1) f)]∧wm.ownsRow w.heap.size 9 1 (.slice Ao o.length co) o.length (strs o)) (fun _ CK=>?_) ?_
  ·
   refine aH rfl (fun nD=>?_) (fun nD=>?_)
   ·
    have Aj:=nD;simp only [DZ] at nD;refine aR<|ai rfl<|aS tf rfl rfl (rM p (a7 (t.drop 1)) (cE (t.drop 1) f) 3 _ hP) rfl ?_
    rintro _ hZ ⟨⟨rfl,hP⟩,ck⟩;have:=ck.size;have hO:=ro hO ck (by omega);have hb:=hb.trans ck;refine ay<|aY CK (()) (by repeat first|exact aB|refine au rfl (by first|rfl|exact int_eq (by omega)) ?_) ?_
    exact ⟨hb,by first|(rw [if_pos (by simpa using nD)];exact hP)|(rw [if_neg (by simpa using nD)];exact hP),hO⟩
   have Aj:=nD;simp only [DZ] at nD;refine aU<|aY CK (()) (by repeat first|exact aB|refine au rfl (by first|rfl|exact int_eq (by omega)) ?_) ?_
   exact ⟨hb,by first|(rw [if_pos (by simpa using nD)];exact hP)|(rw [if_neg (by simpa using nD)];exact hP),hO⟩
  rintro u_ wm wX;replace wX:Kp p w wm∧aq wm p 56 [str (a7 (t.drop 1)),.int .i64 (if wd (t.drop 1)∈o then cP (cE (t.drop 1) f) 3 else cE (t.drop 1) f)]∧wm.ownsRow w.heap.size 9 1 (.slice Ao o.length co) o.length (strs o):=wX;obtain ⟨hb,hP,hO⟩:=wX;show Wq _ _ _ _ [(0,.pointer (some ⟨p,0,none⟩)),(2,.slice Ao o.length co),(3,str (wd (t.drop 1)))] _;have:=hb.size;have:=hP.lt;refine aw kU<|aR<|ai rfl<|ai rfl<|dX (sz:=1) (vs:= [_]) bK (by kernel_rfl) rfl rfl rfl rfl rfl rfl ?_
  rintro ix qL oX ew cm;have:=cm.size;have hP:=hP.below cm;have hO:=cR hO cm;replace cm:=Below.kp (p:=p) cm;have hb:=hb.trans cm;have:=ew.lt;refine dK (z:=(str [])) (sz:=1) (bytes:=16) bK (by kernel_rfl) rfl (by decide) _ rfl hO rfl (ew.rd 1 1 rfl) (s6 _) (by simp only [maxLen];omega) (by omega) (by exact hb.size) rfl ?_;rintro Ue kw Lq dg jl;have:=dg.size;have hb:=LI hb dg (fun k_ ba=>by have:=(bz hO k_ ba).1;omega);have hP:=aq.grown hP dg (by first|assumption|(simp [Value.ownBlock];omega));have hO:=Lq;refine am rfl<|ay<|bS<|fun a_ bn=>K0 _ _ (⟨n - 1,Ue,o++ [wd (t.drop 1)],a7 (t.drop 1),if wd (t.drop 1)∈o then cP (cE (t.drop 1) f) 3 else cE (t.drop 1) f⟩) (by show (a7 (t.drop 1)).length<t.length;omega) (by repeat first|exact aB|refine au rfl (by first|rfl|exact int_eq (by omega)) ?_) ?_ a_ bn
  exact ⟨(show (a7 (t.drop 1)).length≤n - 1 by omega),(show (o++ [wd (t.drop 1)]).length+(a7 (t.drop 1)).length≤s.length by rw [List.length_append];simp only [List.length_cons,List.length_nil];omega),by rw [←hgo];obtain ⟨m,rfl⟩:∃m,n=m+1:=⟨n - 1,by omega⟩;show _=(if _ then _ else _);rw [if_pos hc];rfl,hb,hP,by rw [List.length_append,F4];exact hO⟩
 have kD:=dH;have hdone:iD s e=(o,t,f):=by rw [←hgo,FD kD]
 refine cN<|bD<|bD<|cO<|aw bJ<|ao fun nY=>ai rfl<|aS ahf rfl rfl (VR w.heap.size v o _ hO (by omega)) rfl ?_
 rintro _ nq ⟨rfl,hO2,QF⟩;have hP:=hP.grown QF (fun h=>by rcases qE hO hpl with h2|h2;(· rw [h2] at h;cases h);(· exact h2 h.symm));have hb:=LI hb QF (fun k_ ba=>by have:=(bz hO k_ ba).1;omega);refine an nY<|ao fun ql=>ai rfl<|am rfl<|an ql<|aK<|bj rfl rfl ?_
 exact ⟨_,rfl,by rw [hdone];exact ⟨hO2,hP⟩,hb⟩
theorem Pe (p:Addr) (w:World):(Instr.fieldAt 50 (.pointer (some p)) 1).run Tryz.prog w= .ok (.pointer (some (p.add 2))) w:=fd (i:=1) (sz:=0) Gu rfl (by kernel_rfl) p w
theorem aha:bC Tryz.prog 96:=⟨_,Tryz.func96,by kernel_rfl,rfl⟩
theorem ZV (p x m1:Nat) (s:al) (e:Int) (kv:List (al×Value)) (nm:al) (xs:List Value) (w:World) (hP:aq w p 56 [str s,.int .i64 e]) (hX:aq w x 50 xs) (hx2:xs[2]? =some (.map (some m1))) (hM:Mp w m1 kv):be Tryz.prog 38 [.pointer (some ⟨x,0,none⟩),.pointer (some ⟨p,0,none⟩),str nm] w fun v w'=>(v=(fa kv nm).getD (.int .i64 0)∧aq w' p 56 [str s,.int .i64 (if (fa kv nm).isSome=true then e else cP e 3)])∧Kp p w w':=by
 have hpl:=hP.lt;have hb:=Kp.refl p w;refine enter Tryz.func38 rfl rfl rfl<|ao fun aZ=>am rfl<|an aZ<|ao fun bJ=>ai rfl<|ah (cM rfl) rfl<|ah (aJ (Pe _) rfl) rfl<|aW (aI xT rfl (by exact hX.at (j:=2) hx2)) rfl<|ai rfl<|aW (LJ (z:=(.int .i64 0)) rx bq (by kernel_rfl) rfl rfl (by exact hM)) rfl<|ai rfl<|ah (bP rfl rfl) rfl<|ah (bP rfl rfl) rfl<|am rfl<|am rfl<|an bJ<|ax fun _ fj=>ao fun gY=>ai rfl<|ah (fI rfl) rfl<|an gY<|aH rfl (fun lM=>?_) (fun lM=>?_)
 ·
  have rO:=lM;simp only [DZ] at lM;refine aR<|ai rfl<|aS tf rfl rfl (rM p s e 3 _ hP) rfl ?_
  rintro _ cq ⟨⟨rfl,hP⟩,bm⟩;have:=bm.size;have hb:=hb.trans bm;refine an fj<|ao fun kT=>ai rfl<|am rfl<|an kT<|aK<|bj rfl rfl ?_
  exact ⟨_,rfl,⟨rfl,by rw [if_neg (by simpa using lM)];exact hP⟩,hb⟩
 have rO:=lM;simp only [DZ] at lM;refine aU<|aw fj<|ao fun jg=>ai rfl<|am rfl<|an jg<|aK<|bj rfl rfl ?_
 exact ⟨_,rfl,⟨rfl,by rw [if_pos (by simpa using lM)];exact hP⟩,hb⟩
def cy (s:al):al×al:=if 0≤Lib.indexByte s 61 then (s.take (Lib.indexByte s 61).toNat,s.drop ((Lib.indexByte s 61).toNat+1)) else (s,[])
theorem OD (s:al):(cy s).1.length≤s.length∧(cy s).2.length≤s.length∧(s≠ []→(cy s).2.length<s.length):=by
 unfold cy;split
 · refine ⟨by simp;omega,by simp,fun h=>?_⟩
   have:=List.length_pos_iff.2 h;simp;omega
 · exact ⟨Nat.le_refl _,by simp,fun h=>List.length_pos_iff.2 h⟩
theorem Va (s:al) (w:World):be Tryz.prog 106 [str s,str [61]] w fun v w'=>(∃z,v= .int .i64 z∧z=Lib.indexByte s 61)∧w'=w:=
 Calls.mono (Tryz.stringslite_Index_one ⟨s.toArray⟩ 61 w) fun e w' ⟨h1,h2⟩=>⟨_,h1,⟨_,rfl,rfl⟩,h2⟩
theorem ac3 {s:al} {o:Nat} (h:Lib.indexByte s 61=(o:Int)):o<s.length:=(List.getElem?_eq_some_iff.1 (Lib.indexByte_some h).1).1
theorem acY (s:al) (hs:s.length≤281474976710656) (w:World):be Tryz.prog 136 [str s,str [61]] w fun v w'=>(∃b,v= .tuple #[str (cy s).1,str (cy s).2,.bool b])∧Below w.heap.size w w':=by
 have h11:([61]:al).length=1:=rfl;have hb:=Below.refl w.heap.size w;refine enter Tryz.func136 rfl rfl rfl<|ao fun aZ=>am rfl<|am rfl<|am rfl<|an aZ<|ax fun _ cT=>ao fun ex=>ai rfl<|ai rfl<|aS Ts rfl rfl (Va s _) rfl ?_
 rintro _ w_ ⟨⟨z,rfl,hz⟩,bf⟩;have bf:=bf.symm;subst bf;refine am rfl<|an ex<|ao fun d7=>ai rfl<|ah (jb rfl rfl) rfl<|an d7<|aH rfl (fun dR=>?_) (fun dR=>?_)
 ·
  have nz:=dR;simp only [DZ] at dR;obtain ⟨o,rfl⟩:∃o:Nat,z=o:=⟨z.toNat,by have:=dR;omega⟩;have ho:=ac3 hz.symm;refine ax fun _ fj=>ju (by kernel_rfl) (by kernel_rfl)<|aC (bl rfl) rfl<|aC (bl rfl) rfl<|aC (rz bq rfl rfl (by omega) (by omega)) rfl<|aC (bl rfl) rfl<|aC (bl rfl) rfl<|aC (bl rfl) rfl<|aC (dF bq (by omega) rfl) rfl<|aC (bH rfl rfl (by omega) (by omega)) rfl<|aC (oC bq rfl rfl (by omega) (by omega)) rfl<|aC (cX rfl) rfl<|aC (cX rfl) rfl<|aC (cX rfl) rfl<|dZ fun M8 jm=>?_
  have:=jm.size;have hb:=az hb jm;refine aw fj<|aK<|aQ<|qG rfl rfl rfl rfl ?_
  exact ⟨_,rfl,⟨true,by unfold cy;rw [←hz,if_pos (by omega),Int.toNat_natCast];rfl⟩,hb⟩
 have nz:=dR;simp only [DZ] at dR;refine aU<|aw cT<|ao fun eG=>ai rfl<|am rfl<|am rfl<|am rfl<|an eG<|aK<|qG rfl rfl rfl rfl ?_
 exact ⟨_,rfl,⟨false,by unfold cy;rw [←hz,if_neg (by have:=dR;omega)];rfl⟩,hb⟩
theorem UP (s:al) (hs:s.length≤281474976710656) (w:World):be Tryz.prog 95 [str s,str [61]] w fun v w'=>(∃b,v= .tuple #[str (cy s).1,str (cy s).2,.bool b])∧Below w.heap.size w w':=by
 have hb:=Below.refl w.heap.size w;refine enter Tryz.func95 rfl rfl rfl<|ao fun aZ=>am rfl<|am rfl<|am rfl<|an aZ<|ao fun cT=>ai rfl<|ai rfl<|aS Ty rfl rfl (acY s hs _) rfl ?_
 rintro _ cq ⟨⟨b,rfl⟩,bm⟩;have:=bm.size;have hb:=az hb bm;refine ah (bP rfl rfl) rfl<|ah (bP rfl rfl) rfl<|ah (bP rfl rfl) rfl<|am rfl<|am rfl<|am rfl<|an cT<|aK<|qG rfl rfl rfl rfl ?_
 exact ⟨_,rfl,⟨b,rfl⟩,hb⟩
def iF (nm rest:al) (n:Nat) (ok:Bool):Bool:= !bO nm|| !ok||(decide (n<rest.length)&&decide (rest.getD n 0≠32))
noncomputable def cS (s:al) (e:Int):Pr×al×Int:=
 let r:=bZ pf bL (cy s).2
 let u:=(r.map (·.1)).getD dh
 let n:=(r.map (·.2)).getD 0
 if iF (cy s).1 (cy s).2 n r.isSome=true then (cA,[],cP e 2) else (((cy s).1,u),bF ((cy s).2.drop n),if u.k=0 then cP e 4 else e)
theorem aeA {s:al} (hs:s≠ []) (e:Int):(cS s e).2.1.length<s.length:=by
 have h:=OD s;have h1:=h.2.2 hs;have h0:=List.length_pos_iff.2 hs;unfold cS;dsimp only
 split
 · exact h0
 · have:=mP ((cy s).2.drop ((Option.map (fun x=>x.2) (bZ pf bL (cy s).2)).getD 0))
   rw [List.length_drop] at this;show (bF _).length<_;omega
theorem aeB (s:al) (e:Int):(cS s e).1.2.Ok:=by
 have h0:dh.Ok:=⟨by decide,by decide,by decide⟩;unfold cS;dsimp only
 split
 · exact h0
 · show ((Option.map (fun x=>x.1) (bZ pf bL (cy s).2)).getD dh).Ok
   cases h:bZ pf bL (cy s).2 with
   |none=>exact h0
   |some r=>exact Ms (n:=r.2) (v:=r.1) h
theorem Gp (c:UInt8):((c.toNat:Int) != 32)=decide (c≠32):=by
 rw [Bool.eq_iff_iff];simp only [bne_iff_ne,ne_eq,decide_eq_true_eq];exact ⟨fun h e=>h (by rw [e];rfl),fun h e=>h (UInt8.toNat_inj.1 (by show c.toNat=32;omega))⟩
theorem aeD (p:Nat) (s:al) (e:Int) (w:World) (hP:aq w p 56 [str s,.int .i64 e]) (hs:s.length≤1099511627776) (hL:Lb w):be Tryz.prog 58 [.pointer (some ⟨p,0,none⟩)] w fun v w'=>(v= .agg (f9 (cS s e).1).toArray∧aq w' p 56 [str (cS s e).2.1,.int .i64 (cS s e).2.2])∧Kp p w w':=by
 have hpl:=hP.lt;have hcl:=OD s;have hb:=Kp.refl p w;refine enter Tryz.func58 rfl rfl rfl<|ao fun aZ=>el (z:=Di) (by kernel_rfl) rfl ?_
 rintro aX js iB aj cF;have:=cF.size;have hP:=hP.below cF;have hL:=hL.below cF;replace cF:=Below.kp (p:=p) cF;have hb:=hb.trans cF;have:=aj.lt;refine an aZ<|ao fun bJ=>ai rfl<|ah (cM rfl) rfl<|ah (aJ (iO _) rfl) rfl<|aW (aI bQ rfl (by exact hP.at (j:=0) rfl)) rfl<|aS T0 rfl rfl (UP s (by omega) _) rfl ?_
 rintro _ cq ⟨⟨bc,rfl⟩,bm⟩;have:=bm.size;have hP:=aq.below hP bm;have hL:=Lb.below hL bm;have aj:=aq.below aj bm;replace bm:=Below.kp (p:=p) bm;have hb:=hb.trans bm;refine ai rfl<|ah (bP rfl rfl) rfl<|ah (bP rfl rfl) rfl<|ah (bP rfl rfl) rfl<|am rfl<|am rfl<|am rfl<|an bJ<|ax fun _ gY=>?_
 obtain ⟨c1,hc1⟩:∃c1,c1=cy s:=⟨_,rfl⟩;refine aR<|ai rfl<|aS aha rfl rfl (VK (cy s).2 (by omega) _ hL) rfl ?_
 rintro _ ft ⟨⟨u,n,ok,rfl,hr⟩,bp⟩;have:=bp.size;have hP:=aq.below hP bp;have aj:=aq.below aj bp;replace bp:=Below.kp (p:=p) bp;have hb:=hb.trans bp;refine ai rfl<|ah (bP rfl rfl) rfl<|ah (bP rfl rfl) rfl<|ah (bP rfl rfl) rfl<|el (z:=nf) (by kernel_rfl) rfl ?_
 rintro t1 ajh aiw iy y6;have:=y6.size;have hP:=hP.below y6;have aj:=aj.below y6;replace y6:=Below.kp (p:=p) y6;have hb:=hb.trans y6;have:=iy.lt;refine cH (by kernel_rfl) rfl rfl iy rfl rfl ?_;rintro d3 iy bI;have:=bI.size;have hb:=mz hb bI (by omega);have hP:=hP.over bI (by omega);have aj:=aj.over bI (by omega);refine am rfl<|am rfl<|an gY<|ax fun _ md=>ax fun _ kU=>?_
 have hrd:(Option.map (fun x=>x.1) (bZ pf bL (cy s).2)).getD dh=u∧(Option.map (fun x=>x.2) (bZ pf bL (cy s).2)).getD 0=n∧(bZ pf bL (cy s).2).isSome=ok∧n≤(cy s).2.length:=by
  rcases hr with ⟨h1,h2⟩|⟨h1,h2,h3,h4⟩
  · rw [h2,h1];exact ⟨rfl,rfl,rfl,(rt h2).2⟩
  · rw [h2,h1,h3,h4];exact ⟨rfl,rfl,rfl,Nat.zero_le _⟩
 obtain ⟨hu,hn,hok,hnl⟩:=hrd;have hpo:cS s e=if iF (cy s).1 (cy s).2 n ok=true then (cA,[],cP e 2) else (((cy s).1,u),bF ((cy s).2.drop n),if u.k=0 then cP e 4 else e):=by unfold cS;dsimp only;rw [hu,hn,hok]
 refine b9 (X:=Bool) (fun q=> [(0,.pointer (some ⟨p,0,none⟩)),(2,.pointer (some ⟨aX,0,none⟩)),(3,str (cy s).1),(4,str (cy s).2),(6,.pointer (some ⟨t1,0,none⟩)),(7,.int .i64 (n:Int)),(42,.bool q)]) (fun q wr=>q=iF (cy s).1 (cy s).2 n ok∧Kp p w wr∧aq wr p 56 [str s,.int .i64 e]∧aq wr aX 105 (f9 cA)∧aq wr t1 96 u.cells) (fun _ xB=>?_) ?_
 ·
  refine aR<|ai rfl<|aS Gj rfl rfl (Ej (cy s).1 (by omega) _) rfl ?_
  rintro _ gu ⟨rfl,bG⟩;have:=bG.size;have hP:=aq.below hP bG;have aj:=aq.below aj bG;have iy:=aq.below iy bG;replace bG:=Below.kp (p:=p) bG;have hb:=hb.trans bG;refine ah (fI rfl) rfl<|ai rfl<|dP rfl rfl rfl (fun By=>?_) (fun By=>?_)
  ·
   have Bz:=By;simp only [DZ] at By;refine aA rfl rfl Bz rfl rfl<|ah (bi rfl Bz rfl) rfl<|ai rfl<|aA rfl rfl rfl rfl rfl<|aA rfl rfl rfl rfl rfl<|aA rfl rfl rfl rfl rfl<|aA rfl rfl rfl rfl rfl<|aA rfl rfl rfl rfl rfl<|cC rfl rfl rfl<|cC rfl rfl rfl<|cC rfl rfl rfl<|cC rfl rfl rfl<|aA rfl rfl rfl rfl rfl<|ah (bi rfl rfl rfl) rfl<|ay<|aY xB (iF (cy s).1 (cy s).2 n ok) (by repeat first|exact aB|refine au rfl (by first|rfl|exact aP (by unfold iF;simp_all [Gp])) ?_) ?_
   exact ⟨rfl,hb,hP,aj,iy⟩
  have Bz:=By;simp only [DZ] at By;refine ai rfl<|aE rfl rfl Bz<|ah (fI rfl) rfl<|ah (bg rfl Bz rfl) rfl<|ai rfl<|dP rfl rfl rfl (fun BA=>?_) (fun BA=>?_)
  ·
   have l6:=BA;simp only [DZ] at BA;refine aA rfl rfl l6 rfl rfl<|aA rfl rfl l6 rfl rfl<|aA rfl rfl l6 rfl rfl<|aA rfl rfl l6 rfl rfl<|cC rfl rfl rfl<|cC rfl rfl rfl<|cC rfl rfl rfl<|cC rfl rfl rfl<|aA rfl rfl l6 rfl rfl<|ah (bi rfl l6 rfl) rfl<|ay<|aY xB (iF (cy s).1 (cy s).2 n ok) (by repeat first|exact aB|refine au rfl (by first|rfl|exact aP (by unfold iF;simp_all [Gp])) ?_) ?_
   exact ⟨rfl,hb,hP,aj,iy⟩
  have l6:=BA;simp only [DZ] at BA;refine ai rfl<|aE rfl rfl l6<|ai rfl<|aE rfl rfl l6<|ah (dF bq (by omega) rfl) rfl<|aE rfl rfl l6<|ah (cg rfl rfl) rfl<|aE rfl rfl l6<|ai rfl<|cw rfl rfl rfl (fun iR=>?_) (fun iR=>?_)
  ·
   have iv:=iR;simp only [DZ] at iR;refine ai rfl<|aE rfl rfl iv<|ai rfl<|aE rfl rfl iv<|ah (eK bq rfl rfl (by omega) (by omega)) rfl<|aE rfl rfl iv<|ah (ig rfl rfl) rfl<|aE rfl rfl l6<|ah (bi rfl iv rfl) rfl<|ah (bg rfl l6 rfl) rfl<|ay<|aY xB (iF (cy s).1 (cy s).2 n ok) (by repeat first|exact aB|refine au rfl (by first|rfl|exact aP (by unfold iF;simp_all [Gp])) ?_) ?_
   exact ⟨rfl,hb,hP,aj,iy⟩
  have iv:=iR;simp only [DZ] at iR;refine aA rfl rfl iv rfl rfl<|aA rfl rfl iv rfl rfl<|aA rfl rfl iv rfl rfl<|aE rfl rfl l6<|ah (bg rfl iv rfl) rfl<|ah (bg rfl l6 rfl) rfl<|ay<|aY xB (iF (cy s).1 (cy s).2 n ok) (by repeat first|exact aB|refine au rfl (by first|rfl|exact aP (by unfold iF;simp_all [Gp])) ?_) ?_
  exact ⟨rfl,hb,hP,aj,iy⟩
 rintro q wr xb;replace xb:q=iF (cy s).1 (cy s).2 n ok∧Kp p w wr∧aq wr p 56 [str s,.int .i64 e]∧aq wr aX 105 (f9 cA)∧aq wr t1 96 u.cells:=xb;obtain ⟨hq,hb,hP,aj,iy⟩:=xb;show Wq _ _ _ _ [(0,.pointer (some ⟨p,0,none⟩)),(2,.pointer (some ⟨aX,0,none⟩)),(3,str (cy s).1),(4,str (cy s).2),(6,.pointer (some ⟨t1,0,none⟩)),(7,.int .i64 (n:Int)),(42,.bool q)] _;have:=hb.size;have:=hP.lt;have:=aj.lt;have:=iy.lt;refine aw kU<|aH rfl (fun Hp=>?_) (fun Hp=>?_)
 ·
  have Hq:=Hp;have hno:iF (cy s).1 (cy s).2 n ok=true:=hq.symm.trans Hq;rw [if_pos hno] at hpo;refine ao fun qo=>ai rfl<|aS tf rfl rfl (rM p s e 2 _ hP) rfl ?_
  rintro _ hZ ⟨⟨rfl,hP⟩,ck⟩;have:=ck.size;have aj:=aq.kp aj ck (by omega);have hb:=hb.trans ck;refine an qo<|ao fun sJ=>ai rfl<|ah (cM rfl) rfl<|ah (aJ (iO _) rfl) rfl<|fJ bQ rfl rfl rfl hP (by simp) ?_
  rintro ky CT cd;have:=cd.size;have hb:=mz hb cd (by omega);have aj:=aj.over cd (by omega);have hP:=CT;refine an sJ<|ao fun jk=>aW (dM pj (by kernel_rfl) rfl (by exact fun j u hu=>aj.at hu)) rfl<|cH (by kernel_rfl) rfl rfl aj rfl rfl ?_
  rintro oA aj di;have:=di.size;have hb:=mz hb di (by omega);have hP:=hP.over di (by omega);refine an jk<|aK<|aQ<|fc (rs:= [.cell 2 105]) (vs:= [_]) rfl (.cell rfl (e9 pj (by kernel_rfl) (fun j u hu=>aj.at hu)) .nil) ?_
  exact ⟨_,rfl,⟨by rw [hpo];rfl,by rw [hpo];exact hP⟩,hb⟩
 have Hq:=Hp;have hyes:¬iF (cy s).1 (cy s).2 n ok=true:=by rw [←hq,Hq];simp
 rw [if_neg hyes] at hpo;refine aU<|aw md<|ax fun _ mo=>ao fun oS=>ah (aJ (jP _) rfl) rfl<|aW (aI f8 rfl (by exact iy.at (j:=0) rfl)) rfl<|ah (bA rfl rfl) rfl<|an oS<|b9 (X:=Unit) (fun u_=> [(0,.pointer (some ⟨p,0,none⟩)),(2,.pointer (some ⟨aX,0,none⟩)),(3,str (cy s).1),(4,str (cy s).2),(6,.pointer (some ⟨t1,0,none⟩)),(7,.int .i64 (n:Int))]) (fun u_ wr=>Kp p w wr∧aq wr p 56 [str s,.int .i64 (if u.k=0 then cP e 4 else e)]∧aq wr aX 105 (f9 cA)∧aq wr t1 96 u.cells) (fun _ Qt=>?_) ?_
 ·
  refine aH rfl (fun rT=>?_) (fun rT=>?_)
  ·
   have XL:=rT;simp only [DZ] at rT;refine aR<|ai rfl<|aS tf rfl rfl (rM p s e 4 _ hP) rfl ?_
   rintro _ nq ⟨⟨rfl,hP⟩,dE⟩;have:=dE.size;have aj:=aq.kp aj dE (by omega);have iy:=aq.kp iy dE (by omega);have hb:=hb.trans dE;refine ay<|aY Qt (()) (by repeat first|exact aB|refine au rfl (by first|rfl|exact int_eq (by omega)) ?_) ?_
   exact ⟨hb,by first|(rw [if_pos rT];exact hP)|(rw [if_neg rT];exact hP),aj,iy⟩
  have XL:=rT;simp only [DZ] at rT;refine aU<|aY Qt (()) (by repeat first|exact aB|refine au rfl (by first|rfl|exact int_eq (by omega)) ?_) ?_
  exact ⟨hb,by first|(rw [if_pos rT];exact hP)|(rw [if_neg rT];exact hP),aj,iy⟩
 rintro u_ wr Kk;replace Kk:Kp p w wr∧aq wr p 56 [str s,.int .i64 (if u.k=0 then cP e 4 else e)]∧aq wr aX 105 (f9 cA)∧aq wr t1 96 u.cells:=Kk;obtain ⟨hb,hP,aj,iy⟩:=Kk;show Wq _ _ _ _ [(0,.pointer (some ⟨p,0,none⟩)),(2,.pointer (some ⟨aX,0,none⟩)),(3,str (cy s).1),(4,str (cy s).2),(6,.pointer (some ⟨t1,0,none⟩)),(7,.int .i64 (n:Int))] _;have:=hb.size;have:=hP.lt;have:=aj.lt;have:=iy.lt;refine aw mo<|ao fun kX=>ai rfl<|ai rfl<|ai rfl<|ah (oC bq rfl rfl (by omega) (by omega)) rfl<|ah (cM rfl) rfl<|ah (aJ (iO _) rfl) rfl<|fJ bQ rfl rfl rfl hP (by simp) ?_
 rintro tm Lu dD;have:=dD.size;have hb:=mz hb dD (by omega);have aj:=aj.over dD (by omega);have iy:=iy.over dD (by omega);have hP:=Lu;refine an kX<|ao fun sL=>ai rfl<|aS Gg rfl rfl (Er p ((cy s).2.drop n) (if u.k=0 then cP e 4 else e) _ hP) rfl ?_
 rintro _ gD ⟨⟨rfl,hP⟩,fk⟩;have:=fk.size;have aj:=aq.kp aj fk (by omega);have iy:=aq.kp iy fk (by omega);have hb:=hb.trans fk;refine an sL<|ao fun qr=>ai rfl<|aW (dM de (by kernel_rfl) rfl (by exact fun j u hu=>iy.at hu)) rfl ?_
 refine ah (fe (z:=Ro) (pl:= [(0,1),(1,4)]) (cs:= [_,_,_,_,_]) pj (by kernel_rfl) (by kernel_rfl) rfl rfl rfl) rfl<|cH (by kernel_rfl) rfl rfl aj rfl rfl ?_
 rintro uK aj eH;have:=eH.size;have hb:=mz hb eH (by omega);have hP:=hP.over eH (by omega);refine an qr<|aK<|fc (rs:= [.cell 2 105]) (vs:= [_]) rfl (.cell rfl (e9 pj (by kernel_rfl) (fun j u hu=>aj.at hu)) .nil) ?_
 exact ⟨_,rfl,⟨by rw [hpo];rfl,by rw [hpo];exact hP⟩,hb⟩
end Go.Proofs.YtjmlknjbhbfneaaGreatDoor
