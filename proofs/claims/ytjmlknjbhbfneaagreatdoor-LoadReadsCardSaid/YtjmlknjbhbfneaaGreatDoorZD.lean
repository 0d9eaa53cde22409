import Derived.Test.YtjmlknjbhbfneaaGreatDoorZY
import Derived.Test.YtjmlknjbhbfneaaGreatDoorZB
import Derived.Test.YtjmlknjbhbfneaaGreatDoorZShelf
import Derived.Lib.ItoaMem
import Derived.Laws.Slices
import Derived.Laws.IdiomStrings
namespace Go.Proofs.YtjmlknjbhbfneaaGreatDoor
open Go.RowKit Go.Bw Go.Bw.Fl
set_option linter.unusedVariables false
set_option linter.unusedSimpArgs false
theorem pG:pp Tryz.prog 150 Extern.MathFloatBits.float64frombits:=fun args w=>run_callFunc_extern Tryz.func150 (by kernel_rfl) (by kernel_rfl) (by kernel_rfl) (by kernel_rfl) args w
theorem ZH : pp Tryz.prog 163 (Extern.MathFloor.toIntegral "math.archFloor" .down) := fun args w => run_callFunc_extern Tryz.func163 (by kernel_rfl) (by kernel_rfl) (by kernel_rfl) (by kernel_rfl) args w
theorem jx:pp Tryz.prog 91 Extern.MathFloatBits.float64bits:=fun args w=>run_callFunc_extern Tryz.func91 (by kernel_rfl) (by kernel_rfl) (by kernel_rfl) (by kernel_rfl) args w
theorem agm:bC Tryz.prog 111:=⟨_,Tryz.func111,by kernel_rfl,rfl⟩
theorem Ge:bC Tryz.prog 118:=⟨_,Tryz.func118,by kernel_rfl,rfl⟩
theorem Tx:bC Tryz.prog 124:=⟨_,Tryz.func124,by kernel_rfl,rfl⟩
theorem TE:bC Tryz.prog 156:=⟨_,Tryz.func156,by kernel_rfl,rfl⟩
theorem MD (b:Nat):((b:Int) / 2 ^ (52:Int).toNat)=((b / 4503599627370496:Nat):Int):=by
 have:(2:Int) ^ (52:Int).toNat=4503599627370496:=by decide
 rw [this];omega
theorem afE (b:Nat):((b:Int) / 2 ^ (63:Int).toNat)=((b / 9223372036854775808:Nat):Int):=by
 have:(2:Int) ^ (63:Int).toNat=9223372036854775808:=by decide
 rw [this];omega
theorem Oa (b:Nat) (h:b<18446744073709551616):bits .and .u64 (b:Int) 2047=((b % 2048:Nat):Int):=by
 have h1:=u64_and_nat b 2047 h (by decide);rw [show ((2047:Nat):Int)=2047 from rfl] at h1;rw [h1,show (2047:Nat)=2 ^ 11 - 1 by decide,Nat.and_two_pow_sub_one_eq_mod]
theorem Ob (b:Nat) (h:b<18446744073709551616):bits .and .u64 (b:Int) 4503599627370495=((b % 4503599627370496:Nat):Int):=by
 have h1:=u64_and_nat b 4503599627370495 h (by decide);rw [show ((4503599627370495:Nat):Int)=4503599627370495 from rfl] at h1;rw [h1,show (4503599627370495:Nat)=2 ^ 52 - 1 by decide,Nat.and_two_pow_sub_one_eq_mod]
theorem Y5 (b:Nat) (h:b<18446744073709551616):bits .andNot .u64 (b:Int) 9223372036854775808=((b % 9223372036854775808:Nat):Int):=by
 have h1:=u64_andNot_nat b 9223372036854775808 h (by decide);rw [show ((9223372036854775808:Nat):Int)=9223372036854775808 from rfl] at h1;rw [h1,show (18446744073709551615 - 9223372036854775808:Nat)=2 ^ 63 - 1 by decide,Nat.and_two_pow_sub_one_eq_mod]
theorem Ow (b:Nat) (h:b<9223372036854775808):bits .andNot .u64 (b:Int) 9218868437227405312=((b % 4503599627370496:Nat):Int):=by
 have h1:=u64_andNot_nat b 9218868437227405312 (by omega) (by decide);rw [show ((9218868437227405312:Nat):Int)=9218868437227405312 from rfl] at h1;rw [h1]
 congr 1
 have h2:b=b &&& (2 ^ 63 - 1):=by rw [Nat.and_two_pow_sub_one_eq_mod];omega
 conv=>lhs;rw [h2]
 rw [Nat.and_assoc,show ((2 ^ 63 - 1) &&& (18446744073709551615 - 9218868437227405312):Nat)=2 ^ 52 - 1 by decide,Nat.and_two_pow_sub_one_eq_mod]
theorem R5 (a b i:Nat) (hb:b<2 ^ i):a * 2 ^ i ||| b=a * 2 ^ i+b:=by
 rw [Nat.mul_comm,Nat.two_pow_add_eq_or_of_lt hb]
theorem aek (b:Nat) (h:b<4503599627370496):bits .or .u64 (b:Int) 4602678819172646912=((4602678819172646912+b:Nat):Int):=by
 have h1:=u64_or_nat b 4602678819172646912 (by omega) (by decide);rw [show ((4602678819172646912:Nat):Int)=4602678819172646912 from rfl] at h1;rw [h1,Nat.or_comm,show (4602678819172646912:Nat)=1022 * 2 ^ 52 by decide,R5 _ _ _ (by simpa using h)]
theorem AK (b:Nat) (h:b<9223372036854775808):IntKind.i64.wrap (b:Int)=(b:Int):=wrap_i64 _ (by omega) (by omega)
theorem ada (b:Nat):(FloatKind.f64.format.order (rung b) 9218868437227405311==some .gt)=decide (rung b=9218868437227405312):=by
 show (Ieee.double.order (rung b) 9218868437227405311==some .gt)=_;rw [aai];have h0:rung b<9223372036854775808:=Nat.mod_lt _ (by decide);have h1:isNan 9218868437227405311=false:=by decide
 have h2:rung (rung b)=rung b:=Nat.mod_eq_of_lt h0;have h3:isNan (rung b)=decide (9218868437227405312<rung b):=by unfold isNan;rw [show rung b % 9223372036854775808=rung b from h2]
 have h4:isNeg (rung b)=false:=by unfold isNeg;rw [Nat.div_eq_of_lt h0];rfl
 have h5:isNeg 9218868437227405311=false:=by decide
 have h6:rung 9218868437227405311=9218868437227405311:=by decide
 have h7:val 9218868437227405311<val (rung b)↔9218868437227405311<rung b:=by
  unfold val;rw [h4,h5,h2,h6];simp only [Bool.false_eq_true,if_false];rw [←GX (r:=9218868437227405311) (s:=rung b)];omega
 rw [h1,h3,show decide (val 9218868437227405311<val (rung b))=decide (9218868437227405311<rung b) from decide_eq_decide.2 h7,Bool.eq_iff_iff];simp only [and_true,Bool.and_eq_true,Bool.not_eq_true',decide_eq_false_iff_not,Bool.not_false,decide_eq_true_eq];omega
theorem NC (w:World):be Tryz.prog 124 [] w fun v w'=>v= .float .f64 9221120237041090561∧w'=w:=by
 refine enter Tryz.func124 rfl rfl rfl<|ao fun aZ=>am rfl<|an aZ<|ao fun bJ=>ah (qN pG rfl rfl) rfl<|am rfl<|an bJ<|aK<|bj rfl rfl ?_
 exact ⟨_,rfl,rfl,rfl⟩
theorem VP (b:Nat) (hb:b<18446744073709551616) (w:World):be Tryz.prog 115 [.float .f64 b] w fun v w'=>v= .bool (isNeg b)∧w'=w:=by
 refine enter Tryz.func115 rfl rfl rfl<|ao fun aZ=>am rfl<|an aZ<|ao fun bJ=>ai rfl<|ah (jI jx rfl rfl) rfl<|ah (ja nn Gr rfl) rfl<|ah (cg rfl rfl) rfl<|am rfl<|an bJ<|aK<|bj rfl rfl ?_
 exact ⟨_,rfl,aP (by
 unfold isNeg
 rw [IntKind.wrap_i64,Bool.eq_iff_iff]
 simp only [decide_eq_true_eq,beq_iff_eq]
 omega),rfl⟩
theorem D5 (b:Nat) (hb:b<18446744073709551616) (w:World):be Tryz.prog 118 [.float .f64 b] w fun v w'=>v= .float .f64 (rung b)∧w'=w:=by
 refine enter Tryz.func118 rfl rfl rfl<|ao fun aZ=>am rfl<|an aZ<|ao fun bJ=>ai rfl<|ah (jI jx rfl rfl) rfl<|ah (bt (GD rfl rfl) (int_eq (Y5 b hb))) rfl<|ah (qN pG rfl rfl) rfl<|am rfl<|an bJ<|aK<|bj rfl rfl ?_
 exact ⟨_,rfl,rfl,rfl⟩
theorem Ny (b:Nat) (w:World):be Tryz.prog 192 [.float .f64 b] w fun v w'=>v= .bool (isNan b)∧w'=w:=by
 refine enter Tryz.func192 rfl rfl rfl<|ao fun aZ=>am rfl<|an aZ<|ao fun bJ=>ai rfl<|ai rfl<|ah (zJ rfl rfl) rfl<|am rfl<|an bJ<|aK<|bj rfl rfl ?_
 exact ⟨_,rfl,aP (by show (!(Ieee.double.order b b==some .eq))=_;rw [AQ];simp),rfl⟩
theorem D9 (b:Nat) (hb:b<18446744073709551616) (w:World):be Tryz.prog 116 [.float .f64 b,.int .i64 0] w fun v w'=>v= .bool (decide (rung b=9218868437227405312))∧w'=w:=by
 refine enter Tryz.func116 rfl rfl rfl<|ao fun aZ=>am rfl<|an aZ<|ax fun _ bJ=>ao fun bX=>ai rfl<|ah (bA rfl rfl) rfl<|an bX<|aH rfl (fun cL=>?_) (fun cL=>?_)
 ·
  have j7:=cL;simp only [DZ] at cL;refine aR<|ai rfl<|aS Ge rfl rfl (D5 b hb _) rfl ?_
  rintro _ _ ⟨rfl,rfl⟩;refine am rfl<|an bJ<|ao fun d7=>ai rfl<|ah (ah2 rfl rfl) rfl<|am rfl<|an d7<|aK<|bj rfl rfl ?_
  exact ⟨_,rfl,aP (ada b),rfl⟩
 have j7:=cL;simp only [DZ] at cL;exact absurd trivial cL
theorem Ns (b:Nat) (hn:isNan b=false) (w:World):be Tryz.prog 119 [.float .f64 b] w fun v w'=>v= .float .f64 (tZ b)∧w'=w:=by
 refine enter Tryz.func119 rfl rfl rfl<|ao fun aZ=>am rfl<|an aZ<|ax fun _ bJ=>Eg rfl rfl<|ao fun bX=>ai rfl<|ah (ah0 ZH rfl rfl (hn)) rfl<|am rfl<|an bX<|aK<|aQ<|bj rfl rfl ?_
 exact ⟨_,rfl,rfl,rfl⟩
theorem NH (b:Nat) (hb:b<18446744073709551616) (w:World):be Tryz.prog 156 [.float .f64 b] w fun v w'=>v= .tuple #[.bool (isNeg b),.int .i64 ((b / 4503599627370496 % 2048:Nat):Int),.int .i64 ((b % 4503599627370496:Nat):Int)]∧w'=w:=by
 refine enter Tryz.func156 rfl rfl rfl<|ao fun aZ=>am rfl<|am rfl<|am rfl<|an aZ<|ao fun cT=>ai rfl<|ah (jI jx rfl rfl) rfl<|am rfl<|an cT<|ao fun ek=>ai rfl<|ah (bt (D3 rfl rfl (by decide) (by decide)) (int_eq (afE b))) rfl<|ah (bt (bA rfl rfl) (aP (show ((((b / 9223372036854775808:Nat):Int))==1)=isNeg b by unfold isNeg;rw [Bool.eq_iff_iff];simp only [beq_iff_eq];omega))) rfl<|ai rfl<|ah (bt (D3 rfl rfl (by decide) (by decide)) (int_eq (MD b))) rfl<|ah (bt (zH rfl rfl) (int_eq (Oa _ (by omega)))) rfl<|ah (bt (ja nn jp rfl) (int_eq (AK _ (by omega)))) rfl<|ai rfl<|ah (bt (zH rfl rfl) (int_eq (Ob _ hb))) rfl<|ah (bt (ja nn jp rfl) (int_eq (AK _ (by omega)))) rfl<|am rfl<|am rfl<|am rfl<|an ek<|aK<|qG rfl rfl rfl rfl ?_
 exact ⟨_,rfl,rfl,rfl⟩
theorem Vq (b:Nat) (hb:b<18446744073709551616) (w:World):be Tryz.prog 111 [.float .f64 b] w fun v w'=>v= .bool (isNan b)∧w'=w:=by
 have hk:isNan b=(decide (b / 4503599627370496 % 2048=2047)&&decide (b % 4503599627370496≠0)):=by
  unfold isNan;rw [Bool.eq_iff_iff];simp only [Bool.and_eq_true,decide_eq_true_eq];omega
 refine enter Tryz.func111 rfl rfl rfl<|ao fun aZ=>am rfl<|an aZ<|ao fun bJ=>ai rfl<|aS TE rfl rfl (NH b hb _) rfl ?_
 rintro _ _ ⟨rfl,rfl⟩;refine ai rfl<|ah (bP rfl rfl) rfl<|ah (bP rfl rfl) rfl<|ah (bP rfl rfl) rfl<|am rfl<|am rfl<|am rfl<|an bJ<|ao fun eQ=>ai rfl<|ah (bA rfl rfl) rfl<|ai rfl<|cw rfl rfl rfl (fun kL=>?_) (fun kL=>?_)
 ·
  have ir:=kL;simp only [DZ] at kL;refine ai rfl<|aE rfl rfl ir<|ah (ig rfl rfl) rfl<|ah (bi rfl ir rfl) rfl<|am rfl<|an eQ<|aK<|bj rfl rfl ?_
  exact ⟨_,rfl,aP (by rw [hk,Bool.eq_iff_iff];simp only [Bool.and_eq_true,decide_eq_true_eq,bne_iff_ne,ne_eq];constructor<;>intro h<;>omega),rfl⟩
 have ir:=kL;simp only [DZ] at kL;refine aA rfl rfl ir rfl rfl<|ah (bg rfl ir rfl) rfl<|am rfl<|an eQ<|aK<|bj rfl rfl ?_
 exact ⟨_,rfl,aP (by rw [hk,Bool.eq_iff_iff];simp only [Bool.and_eq_true,decide_eq_true_eq];constructor<;>intro h<;>(first|omega|cases h)),rfl⟩
def canon (b:Nat):Nat:=if isNan b=true then 9221120237041090561 else b
theorem GL (b:Nat) (hb:b<18446744073709551616) (w:World):be Tryz.prog 82 [.float .f64 b] w fun v w'=>v= .int .u64 (canon b:Nat)∧w'=w:=by
 refine enter Tryz.func82 rfl rfl rfl<|ao fun aZ=>am rfl<|an aZ<|ao fun bJ=>ai rfl<|aS agm rfl rfl (Vq b hb _) rfl ?_
 rintro _ _ ⟨rfl,rfl⟩;refine am rfl<|an bJ<|ax fun _ e7=>ao fun gp=>ai rfl<|an gp<|aH rfl (fun fh=>?_) (fun fh=>?_)
 ·
  have ny:=fh;refine ao fun d7=>am rfl<|an d7<|aK<|aQ<|bj rfl rfl ?_
  exact ⟨_,rfl,int_eq (by unfold canon;rw [if_pos ny];rfl),rfl⟩
 have ny:=fh;refine aU<|aw e7<|ao fun eQ=>ai rfl<|ah (jI jx rfl rfl) rfl<|am rfl<|an eQ<|aK<|bj rfl rfl ?_
 exact ⟨_,rfl,int_eq (by unfold canon;rw [if_neg (by rw [ny];simp)]),rfl⟩
theorem Nq (b:Nat) (w:World):be Tryz.prog 90 [.float .f64 b] w fun v w'=>v= .float .f64 (canon b)∧w'=w:=by
 have hk:(!(Ieee.double.order b b==some .eq))=isNan b:=by rw [AQ];simp
 refine enter Tryz.func90 rfl rfl rfl<|ao fun aZ=>am rfl<|an aZ<|ax fun _ bJ=>ao fun bX=>ai rfl<|ai rfl<|ah (zJ rfl rfl) rfl<|an bX ?_
 rw [show (FloatKind.f64.format.order b b != some .eq)=isNan b from hk];refine aH rfl (fun d1=>?_) (fun d1=>?_)
 ·
  have j8:=d1;refine ao fun ek=>aS Tx rfl rfl (NC _) rfl ?_;rintro _ _ ⟨rfl,rfl⟩;refine am rfl<|an ek<|aK<|aQ<|bj rfl rfl ?_
  exact ⟨_,rfl,by unfold canon;rw [if_pos j8],rfl⟩
 have j8:=d1;refine aU<|aw bJ<|ao fun eO=>ai rfl<|am rfl<|an eO<|aK<|bj rfl rfl ?_
 exact ⟨_,rfl,by unfold canon;rw [if_neg (by rw [j8];simp)],rfl⟩
theorem x8:(Tryz.prog.info? 5).map (·.size)=some 1:=by kernel_rfl
theorem agw:bC Tryz.prog 157:=⟨_,Tryz.func157,by kernel_rfl,rfl⟩
theorem agx:bC Tryz.prog 158:=⟨_,Tryz.func158,by kernel_rfl,rfl⟩
theorem agy:bC Tryz.prog 159:=⟨_,Tryz.func159,by kernel_rfl,rfl⟩
theorem agA:bC Tryz.prog 165:=⟨_,Tryz.func165,by kernel_rfl,rfl⟩
theorem Gw {P:Program} {w w':World} {name:String} {cs:Array Value} (h:World.var? P w name=some cs) (hb:Below w.heap.size w w'):World.var? P w' name=some cs:=by
 unfold World.var? at h ⊢
 cases hg:P.globalNamed name with
 |none=>rw [hg] at h;cases h
 |some g=>
  rw [hg] at h
  have hlt:g<w.heap.size:=by
   rcases Nat.lt_or_ge g w.heap.size with h1|h1
   · exact h1
   · simp [Array.getElem?_eq_none h1] at h
  simp only [Option.bind_some] at h ⊢;rw [hb.block g hlt];exact h
structure Lt (w:World):Prop where
 tab : Lib.TabIs Tryz.prog w "internal/strconv.uint64pow10" .u64 Lib.pow10Tab
theorem Lt.below {w w':World} (h:Lt w) (hb:Below w.heap.size w w'):Lt w':=⟨Gw h.tab hb⟩
structure Lb (w:World):Prop where
 tab : Lib.TabIs Tryz.prog w "internal/strconv.uint64pow10" .u64 Lib.pow10Tab
 syn : ∃ tp p, World.var? Tryz.prog w "strconv.ErrSyntax" = some #[.iface tp p]
 rng : ∃ tp p, World.var? Tryz.prog w "strconv.ErrRange" = some #[.iface tp p]
theorem Lb.below {w w':World} (h:Lb w) (hb:Below w.heap.size w w'):Lb w':=
 ⟨Gw h.tab hb,h.syn.elim fun tp h1=>h1.elim fun p h2=>⟨tp,p,Gw h2 hb⟩,h.rng.elim fun tp h1=>h1.elim fun p h2=>⟨tp,p,Gw h2 hb⟩⟩
theorem Lb.lt {w:World} (h:Lb w):Lt w:=⟨h.tab⟩
instance {w:World}:CoeOut (Lb w) (Lt w):=⟨Lb.lt⟩
theorem Og (w:World) (k:Nat) (os:Array Obj):Below w.heap.size w (Sort.grow (w.drewN k) os):=
 ⟨rfl,rfl,rfl,by show w.heap.size≤(w.heap++os).size;simp,fun i hi=>by show (w.heap++os)[i]? =_;rw [Array.getElem?_append,if_pos hi]⟩
theorem NL {f:FuncId} {args:List Value} {w:World} {v:Value} {R:World→Prop} (h:Calls Tryz.prog f args.toArray w fun e w'=>e= .returned v∧R w') (hR:∀w',R w'→Below w.heap.size w w'):be Tryz.prog f args w fun u w'=>u=v∧Below w.heap.size w w':=
 h.mono fun e w' ⟨he,hw⟩=>⟨v,he,rfl,hR w' hw⟩
theorem oG {f:FuncId} {args:List Value} {w:World} {v:Value} (h:Calls Tryz.prog f args.toArray w fun e w'=>e= .returned v∧w'=w):be Tryz.prog f args w fun u w'=>u=v∧w'=w:=
 h.mono fun e w' ⟨he,hw⟩=>⟨v,he,rfl,hw⟩
theorem Nz (n:Int) (h0: -9223372036854775808≤n) (h1:n≤9223372036854775807) (w:World) (hL:Lt w):be Tryz.prog 121 [.int .i64 n] w fun v w'=>v=str (Lib.itoa n)∧Below w.heap.size w w':=
 NL (Tryz.strconv_Itoa n h0 h1 w hL.tab) fun w' ⟨k,os,e⟩=>e ▸ Og w k os
theorem Nt (n:Int) (h0: -9223372036854775808≤n) (h1:n≤9223372036854775807) (w:World) (hL:Lt w):be Tryz.prog 86 [.int .i64 n,.int .i64 10] w fun v w'=>v=str (Lib.itoa n)∧Below w.heap.size w w':=
 NL (Tryz.strconv_FormatInt_10 n h0 h1 w hL.tab) fun w' ⟨k,os,e⟩=>e ▸ Og w k os
theorem zL (s p:al) (w:World):be Tryz.prog 41 [str s,str p] w fun v w'=>v= .bool (Lib.hasPrefix s p)∧w'=w:=oG (Tryz.strings_HasPrefix ⟨s.toArray⟩ ⟨p.toArray⟩ w)
theorem NQ (s p:al) (w:World):be Tryz.prog 140 [str s,str p] w fun v w'=>v=str (Lib.trimPrefix s p)∧w'=w:=oG (Tryz.strings_TrimPrefix ⟨s.toArray⟩ ⟨p.toArray⟩ w)
theorem GM (s p:al) (w:World):be Tryz.prog 35 [str s,str p] w fun v w'=>v= .tuple #[str (Lib.trimPrefix s p),.bool (Lib.hasPrefix s p)]∧w'=w:=oG (Tryz.strings_CutPrefix ⟨s.toArray⟩ ⟨p.toArray⟩ w)
theorem Nw (s:al) (c:Int) (w:World):be Tryz.prog 42 [str s,.int .u8 c] w fun v w'=>v= .int .i64 (Lib.indexByte s c.toNat.toUInt8)∧w'=w:=oG (Tryz.strings_IndexByte ⟨s.toArray⟩ c w)
theorem U4 (b:Bool) (w:World):be Tryz.prog 85 [.bool b] w fun v w'=>v=str (if b then [116,114,117,101] else [102,97,108,115,101])∧w'=w:=by
 cases b
 · exact oG (Tryz.strconv_FormatBool false w)
 · exact oG (Tryz.strconv_FormatBool true w)
theorem acU {w:World} {g:Nat} {e:TypeId} (h:aq w g e Lib.zeros24.toList) (nd:Nat) (hn:nd≤24):Sort.Holds (fun (b:UInt8)=>Value.int .u8 (b.toNat:Int)) w g 0 (Array.replicate nd (0:UInt8)):=fun j hj=>by
 have hj':j<nd:=by simpa using hj
 refine ⟨?_,h.frozen _⟩;rw [h.cell,Nat.zero_add,Array.getElem?_toList,Lib.zeros24_at _ (by omega),getElem!_pos _ j hj];simp
theorem Z4 (g cap u nd:Nat) (w:World) (hu:u<18446744073709551616) (hnd:nd=Lib.nDigits u) (hc:nd≤24) (hH:Sort.Holds (fun (b:UInt8)=>Value.int .u8 (b.toNat:Int)) w g 0 (Array.replicate nd (0:UInt8))):
 be Tryz.prog 159 [.slice (some ⟨g,0,none⟩) nd cap,.int .u64 u] w fun v w'=>v= .tuple #[]∧(∀j (hj:j<(Lib.decDigits u).length),w'.cell? ((⟨g,0,none⟩:Addr).add j)=some (.int .u8 ((Lib.decDigits u)[j].toNat:Int)))∧w.grownBy w' (some g):=by
 have h:=Tryz.internal_strconv_formatBase10 g 0 cap u (Array.replicate nd 0) w hH (by rw [Array.size_replicate,hnd];exact Lib.lt_pow_nDigits u) hu (by rw [Array.size_replicate];omega)
 rw [Array.size_replicate] at h
 refine Calls.mono h fun e w' ⟨he,n,v',dk,hw,hF⟩=>⟨_,he,rfl,fun j hj=>?_,?_⟩
 · subst hw
   rw [Lib.row_is_numeral (hnd ▸ hF) j hj,pu,World.cell?_drewN]
   have hd:dk.size=nd:=hF.size
   have:=Sort.cell?_putRow (fun (b:UInt8)=>Value.int .u8 (b.toNat:Int)) w g 0 _ dk hH (by rw [hd,Array.size_replicate]) j (by rw [hd,hnd];rwa [Lib.decDigits_length] at hj)
   rwa [Nat.zero_add] at this
 · subst hw
   refine ⟨rfl,rfl,rfl,?_,fun k hk hne=>?_⟩
   · show _≤(Sort.mapBlock w g _).heap.size
     simp [Sort.mapBlock]
   · show (Sort.mapBlock w g _).heap[k]? =_
     have:g≠k:=fun e=>hne (by rw [e])
     simp only [Sort.mapBlock,Array.getElem?_modify,if_neg this]
theorem aeY {w:World} {p:Addr} {l:al} (h:∀j (hj:j<l.length),w.cell? (p.add j)=some (.int .u8 (l[j].toNat:Int))) {n:Nat} (hn:n=l.length):Rd w 1 (some p) n (dq l):=
 ⟨by rw [qI,Nat.mul_one,hn],fun _=>⟨_,rfl,fun j u hu=>by
  obtain ⟨hj,e⟩:=List.getElem?_eq_some_iff.1 hu
  rw [qI] at hj
  rw [h j hj,←e]
  simp [dq]⟩⟩
theorem ac0 (u:Nat) (hu:u<18446744073709551616) (w:World) (hL:Lt w):be Tryz.prog 165 [.int .u64 u,.int .i64 10] w fun v w'=>v=str (Lib.decDigits u)∧Below w.heap.size w w':=by
 have h20:1≤u→Lib.nDigits u≤20:=fun h1=>by have:=Lib.numDigits_eq u h1 hu;split at this<;>omega
 have hb:=Below.refl w.heap.size w;have bw:=hL;refine enter Tryz.func165 rfl rfl rfl<|ao fun aZ=>am rfl<|an aZ<|ax fun _ bJ=>ao fun bX=>ai rfl<|ah (bA rfl rfl) rfl<|an bX<|aH rfl (fun cL=>?_) (fun cL=>?_)
 ·
  have j7:=cL;simp only [DZ] at cL;refine ax fun _ gp=>ao fun ek=>ai rfl<|ah (cg rfl rfl) rfl<|an ek<|aH rfl (fun gR=>?_) (fun gR=>?_)
  ·
   have Hz:=gR;simp only [DZ] at gR;refine ao fun eQ=>ai rfl<|ah (bt (ja nn jp rfl) (int_eq (AK u (by have:=gR;omega)))) rfl<|aS agw rfl rfl (oG (Tryz.internal_strconv_small u (by have:=gR;omega) _)) rfl ?_
   rintro _ w_ ⟨rfl,bf⟩;have bf:=bf.symm;subst bf;refine am rfl<|an eQ<|aK<|aQ (aQ ?_)
   refine bj rfl rfl ?_;exact ⟨_,rfl,rfl,hb⟩
  have Hz:=gR;simp only [DZ] at gR;have hu1:1≤u:=by omega
  have hnd:=h20 hu1;refine aU<|aw gp<|ao fun dL=>el (z:=(.agg #[(.int .u8 0),(.int .u8 0),(.int .u8 0),(.int .u8 0),(.int .u8 0),(.int .u8 0),(.int .u8 0),(.int .u8 0),(.int .u8 0),(.int .u8 0),(.int .u8 0),(.int .u8 0),(.int .u8 0),(.int .u8 0),(.int .u8 0),(.int .u8 0),(.int .u8 0),(.int .u8 0),(.int .u8 0),(.int .u8 0),(.int .u8 0),(.int .u8 0),(.int .u8 0),(.int .u8 0)])) (by kernel_rfl) rfl ?_
  rintro qY Us QI B6 om;have:=om.size;have hb:=az hb om;have hL:=bw.below hb;have:=B6.lt;refine an dL<|ao fun iV=>ai rfl<|aS agx rfl rfl (oG (Tryz.internal_strconv_numDigits u hu1 hu _ hL.tab)) rfl ?_
  rintro _ w_ ⟨rfl,bf⟩;have bf:=bf.symm;subst bf;refine am rfl<|an iV<|ao fun jf=>ai rfl<|ah (UF T4 x8 rfl rfl (by omega) (by omega)) rfl<|ai rfl<|aS agy rfl rfl (Z4 qY 24 u (Lib.nDigits u) _ hu rfl (by omega) (acU B6 (Lib.nDigits u) (by omega))) rfl ?_
  rintro _ w3 ⟨rfl,hfm,hg3⟩;refine an jf<|ao fun gK=>ai rfl<|ah (UF T4 x8 rfl rfl (by omega) (by omega)) rfl<|aW (lB dB fq bq rfl (by exact aeY hfm (by rw [Lib.decDigits_length];simp))) rfl<|am rfl<|an gK<|aK<|aQ<|bj rfl rfl ?_
  exact ⟨_,rfl,rfl,bY hb hg3 hb.size (by omega)⟩
 have j7:=cL;simp only [DZ] at cL
 cases j7
theorem Nu (u:Nat) (hu:u<18446744073709551616) (w:World) (hL:Lt w):be Tryz.prog 120 [.int .u64 u,.int .i64 10] w fun v w'=>v=str (Lib.decDigits u)∧Below w.heap.size w w':=by
 have hb:=Below.refl w.heap.size w;refine enter Tryz.func120 rfl rfl rfl<|ao fun aZ=>am rfl<|an aZ<|ao fun bJ=>ai rfl<|ai rfl<|aS agA rfl rfl (ac0 u hu _ hL) rfl ?_
 rintro _ cq ⟨rfl,bm⟩;have:=bm.size;have hb:=az hb bm;refine am rfl<|an bJ<|aK<|bj rfl rfl ?_
 exact ⟨_,rfl,rfl,hb⟩
theorem kF (u:Nat) (hu:u<18446744073709551616):(Lib.decDigits u).length≤20:=by
 rw [Lib.decDigits_length]
 rcases Nat.eq_zero_or_pos u with h|h
 · subst h;rw [Lib.nDigits_small (by decide)];decide
 · have:=Lib.numDigits_eq u h hu;split at this<;>omega
theorem zc (n:Int) (h0: -9223372036854775808≤n) (h1:n≤9223372036854775807):(Lib.itoa n).length≤21:=by
 unfold Lib.itoa;split
 · have:=kF n.natAbs (by omega);simp;omega
 · have:=kF n.toNat (by omega);omega
theorem agn:bC Tryz.prog 115:=⟨_,Tryz.func115,by kernel_rfl,rfl⟩
theorem Gc:bC Tryz.prog 116:=⟨_,Tryz.func116,by kernel_rfl,rfl⟩
theorem Tt:bC Tryz.prog 117:=⟨_,Tryz.func117,by kernel_rfl,rfl⟩
theorem Tu:bC Tryz.prog 119:=⟨_,Tryz.func119,by kernel_rfl,rfl⟩
theorem Tv:bC Tryz.prog 120:=⟨_,Tryz.func120,by kernel_rfl,rfl⟩
theorem Tw:bC Tryz.prog 121:=⟨_,Tryz.func121,by kernel_rfl,rfl⟩
theorem agz:bC Tryz.prog 162:=⟨_,Tryz.func162,by kernel_rfl,rfl⟩
theorem TG:bC Tryz.prog 192:=⟨_,Tryz.func192,by kernel_rfl,rfl⟩
theorem TH:bC Tryz.prog 193:=⟨_,Tryz.func193,by kernel_rfl,rfl⟩
theorem FV {r:Nat} (h:r<9218868437227405313):rung r=r:=Nat.mod_eq_of_lt (by omega)
theorem neg_pos {r:Nat} (h:r<9218868437227405313):isNeg r=false:=by unfold isNeg;rw [Nat.div_eq_of_lt (by omega)];rfl
theorem Dn {r:Nat} (h:r<9218868437227405313):isNan r=false:=by unfold isNan;rw [Nat.mod_eq_of_lt (by omega)];simp;omega
theorem Uh {r:Nat} (h:r<9218868437227405313):val r=(V r:Int):=by unfold val;rw [neg_pos h,FV h];rfl
theorem adG {r s:Nat} (h:r<9218868437227405313) (hs:s<9218868437227405313):(Ieee.double.order r s==some .lt)=decide (r<s):=by
 rw [adH,Dn h,Dn hs,Uh h,Uh hs];simp only [Bool.not_false,Bool.true_and]
 apply decide_eq_decide.2
 rw [←GX (r:=r)];omega
theorem IT (b:Nat):(Ieee.double.order b 0==some .eq)=(!isNan b&&decide (rung b=0)):=by
 have h0:val 0=0:=by decide
 have h1:isNan 0=false:=by decide
 rw [AQ,h0,h1];simp only [Bool.not_false,Bool.and_true]
 congr 1
 exact decide_eq_decide.2 val_zero
theorem RJ (b:Nat):(FloatKind.f64.format.order b b != some .eq)=isNan b:=by
 show (!(Ieee.double.order b b==some .eq))=_;rw [AQ];simp
theorem RQ (r:Nat) (h0:r≠0) (h1:r<9218868437227405312) (w:World):be Tryz.prog 193 [.float .f64 r] w fun v w'=>(∃r' s,v= .tuple #[.float .f64 r',.int .i64 s]∧NF r r' s)∧w'=w:=by
 have hr:rung r=r:=FV (by omega);have hc:(FloatKind.f64.format.order (rung r) 4503599627370496==some .lt)=decide (r<4503599627370496):=by rw [hr];exact adG (by omega) (by decide)
 obtain ⟨r',hr'⟩:∃r',r<4503599627370496→(r'<9218868437227405312∧4503599627370496≤r'∧V r'=r * 2 ^ 52∧floatBits .mul .f64 r 4841369599423283200=some r'):=by
  by_cases h:r<4503599627370496
  · obtain ⟨r',a,b,_,c,d⟩:=ad2 h0 h
    exact ⟨r',fun _=>⟨a,b,c,d⟩⟩
  · exact ⟨0,fun h'=>absurd h' h⟩
 refine enter Tryz.func193 rfl rfl rfl<|ao fun aZ=>am rfl<|am rfl<|an aZ<|ax fun _ bX=>ao fun cT=>ai rfl<|aS Ge rfl rfl (D5 r (by omega) _) rfl ?_
 rintro _ _ ⟨rfl,rfl⟩;refine ah (UD rfl rfl) rfl<|an cT ?_
 rw [hc];refine aH rfl (fun dY=>?_) (fun dY=>?_)
 ·
  have jw:=dY;simp only [DZ] at dY;refine ao fun eZ=>ai rfl<|ah (GI rfl rfl ((hr' dY).2.2.2)) rfl<|am rfl<|am rfl<|an eZ<|aK<|aQ<|dv rfl rfl rfl ?_
  exact ⟨_,rfl,⟨_,_,rfl,(hr' dY).1,(hr' dY).2.1,.inl ⟨dY,rfl,(hr' dY).2.2.1⟩⟩,rfl⟩
 have jw:=dY;simp only [DZ] at dY;refine aU<|aw bX<|ao fun fj=>ai rfl<|am rfl<|am rfl<|an fj<|aK<|dv rfl rfl rfl ?_
 exact ⟨_,rfl,⟨_,_,rfl,h1,Nat.le_of_not_lt dY,.inr ⟨Nat.le_of_not_lt dY,rfl,rfl⟩⟩,rfl⟩
theorem Z6 (r:Nat) (h0:r≠0) (h1:r<9218868437227405312) (w:World):be Tryz.prog 162 [.float .f64 r] w fun v w'=>(∃M e,v= .tuple #[.float .f64 (Wk 0 M),.int .i64 e]∧GN r M e∧-2000≤e∧e≤2000)∧w'=w:=by
 have hr:rung r=r:=FV (by omega)
 have hc0:(FloatKind.f64.format.order r 0==some .eq)=false:=by
  have:=IT r;rw [hr,decide_eq_false h0,Bool.and_false] at this;exact this
 refine enter Tryz.func162 rfl rfl rfl<|ao fun aZ=>am rfl<|am rfl<|an aZ<|ax fun _ bX=>br<|ao fun cT=>ai rfl<|ah (GF rfl rfl) rfl<|am rfl<|an cT ?_
 rw [hc0];refine aH rfl (fun dY=>?_) (fun dY=>?_)
 ·
  have jw:=dY
  cases jw
 have jw:=dY;simp only [DZ] at dY;refine ao fun eZ=>ai rfl<|aS Gc rfl rfl (D9 r (by omega) _) rfl ?_
 rintro _ _ ⟨rfl,rfl⟩;rw [hr,decide_eq_false (by omega)];refine ai rfl<|dP rfl rfl rfl (fun qT=>?_) (fun qT=>?_)
 ·
  have oO:=qT
  cases oO
 have oO:=qT;simp only [DZ] at qT;refine ai rfl<|aE rfl rfl oO<|aS TG rfl rfl (Ny r _) rfl ?_
 rintro _ _ ⟨rfl,rfl⟩;rw [Dn (by omega)];refine ah (bg rfl oO rfl) rfl<|am rfl<|an eZ<|aH rfl (fun Et=>?_) (fun Et=>?_)
 ·
  have Om:=Et
  cases Om
 have Om:=Et;simp only [DZ] at Et;refine aU<|bS<|aw bX<|ao fun iV=>ai rfl<|aS TH rfl rfl (RQ r h0 h1 _) rfl ?_
 rintro _ _ ⟨⟨r',s,rfl,hN⟩,rfl⟩;have hq1:=hN.1;have hq2:r' / 4503599627370496<2047:=by omega
 have hq4:1≤r' / 4503599627370496:=by have:=hN.2.1;omega
 have hq3:s= -52∨s=0:=by rcases hN.2.2 with h|h<;>simp [h.2.1]
 refine ai rfl<|ah (bP rfl rfl) rfl<|ah (bP rfl rfl) rfl<|am rfl<|am rfl<|an iV<|ao fun eG=>ai rfl<|ah (jI jx rfl rfl) rfl<|am rfl<|an eG<|ao fun iW=>ai rfl<|ai rfl<|ah (bt (D3 rfl rfl (by decide) (by decide)) (int_eq (MD r'))) rfl<|ah (bt (zH rfl rfl) (int_eq ((Oa _ (by omega)).trans (by rw [Nat.mod_eq_of_lt (show r' / 4503599627370496<2048 by omega)])))) rfl<|ah (bt (ja nn jp rfl) (int_eq (AK _ (by omega)))) rfl<|ah (gk rfl rfl (by omega) (by omega)) rfl<|ah (bH rfl rfl (by omega) (by omega)) rfl<|ah (bH rfl rfl (by omega) (by omega)) rfl<|am rfl<|an iW<|ao fun nY=>ai rfl<|ah (bt (GD rfl rfl) (int_eq (Ow r' (by omega)))) rfl<|am rfl<|an nY<|ao fun mh=>ai rfl<|ah (bt (Nk rfl rfl) (int_eq (aek _ (Nat.mod_lt _ (by decide))))) rfl<|am rfl<|an mh<|ao fun nZ=>ai rfl<|ah (qN pG rfl rfl) rfl<|am rfl<|an nZ<|aK<|dv rfl rfl rfl ?_
 exact ⟨_,rfl,⟨4503599627370496+r' % 4503599627370496,s+(((r' / 4503599627370496:Nat):Int) - 1022),by
 rw [Int.toNat_natCast,show Wk 0 (4503599627370496+r' % 4503599627370496)=4602678819172646912+r' % 4503599627370496 by unfold Wk;omega]
 rw [show s+(((r' / 4503599627370496:Nat):Int) - 1023+1)=s+(((r' / 4503599627370496:Nat):Int) - 1022) by omega],Z7 h0 hN,by omega,by omega⟩,rfl⟩
theorem Nv (r:Nat) (h0:r≠0) (h1:r<9218868437227405312) (w:World):be Tryz.prog 117 [.float .f64 r] w fun v w'=>(∃M e,v= .tuple #[.float .f64 (Wk 0 M),.int .i64 e]∧GN r M e∧-2000≤e∧e≤2000)∧w'=w:=by
 refine enter Tryz.func117 rfl rfl rfl<|ao fun aZ=>am rfl<|am rfl<|an aZ<|ax fun _ bX=>pt rfl rfl<|aU<|aw bX<|ao fun cT=>ai rfl<|aS agz rfl rfl (Z6 r h0 h1 _) rfl ?_
 rintro _ _ ⟨⟨M,e,rfl,hF⟩,rfl⟩;refine ah (bP rfl rfl) rfl<|ah (bP rfl rfl) rfl<|am rfl<|am rfl<|an cT<|aK<|dv rfl rfl rfl ?_
 exact ⟨_,rfl,⟨M,e,rfl,hF⟩,rfl⟩
theorem S4 (b:Nat):(eB b).length≤1:=by unfold eB;split<;>simp
theorem s4 {b:Bool} (h:b=false):¬b=true:=by simp [h]
theorem MK {b:Nat} (h:isNan b=true):str [110,97,110]=str (dr b):=by unfold dr;rw [if_pos h]
theorem pg {b:Nat} (h:isNan b=false) (h2:rung b=9218868437227405312):dr b=eB b++ [105,110,102]:=by unfold dr;rw [if_neg (s4 h),if_pos h2]
theorem ph {b:Nat} (h:isNan b=false) (h2:¬rung b=9218868437227405312) (h3:rung b=0):dr b=eB b++ [48,112,48]:=by unfold dr;rw [if_neg (s4 h),if_neg h2,if_pos h3]
theorem ox {b:Nat} (h:isNan b=false) (h2:¬rung b=9218868437227405312) (h3:¬rung b=0):dr b=eB b++Lib.decDigits (od (bx (rung b)))++ [112]++Lib.itoa (dG (rung b)+v2 (bx (rung b))):=by unfold dr;rw [if_neg (s4 h),if_neg h2,if_neg h3]
theorem NP (b:Nat) (hb0:b<18446744073709551616) (w:World) (hL:Lt w):be Tryz.prog 87 [.float .f64 b] w fun v w'=>v=str (dr b)∧Below w.heap.size w w':=by
 have hz:(FloatKind.f64.format.order b 0==some .eq)=(!isNan b&&decide (rung b=0)):=IT b;have hsl:=S4 b;have hb:=Below.refl w.heap.size w;have bw:=hL;refine enter Tryz.func87 rfl rfl rfl<|ao fun aZ=>am rfl<|an aZ<|ao fun bJ=>am rfl<|an bJ<|ax fun _ cT=>ao fun ex=>ai rfl<|aS agn rfl rfl (VP b hb0 _) rfl ?_
 rintro _ w_ ⟨rfl,bf⟩;have bf:=bf.symm;subst bf;refine an ex<|aH rfl (fun dY=>?_) (fun dY=>?_)
 ·
  have jw:=dY;have hs:eB b= [45]:=if_pos jw;refine aR<|am rfl<|an cT<|ax fun _ d7=>br<|ao fun eO=>ai rfl<|ai rfl<|ah (zJ rfl rfl) rfl<|am rfl<|an eO ?_
  rw [RJ];refine aH rfl (fun HB=>?_) (fun HB=>?_)
  ·
   have u5:=HB;refine ao fun dL=>am rfl<|an dL<|aK<|bE (aQ ?_)
   refine bj rfl rfl ?_;exact ⟨_,rfl,MK u5,hb⟩
  have u5:=HB;refine ao fun iV=>ai rfl<|aS Gc rfl rfl (D9 b hb0 _) rfl ?_
  rintro _ w_ ⟨rfl,bf⟩;have bf:=bf.symm;subst bf;refine am rfl<|an iV<|aH rfl (fun rU=>?_) (fun rU=>?_)
  ·
   have XO:=rU;simp only [DZ] at rU;refine ao fun jg=>ai rfl<|ah (dx rfl rfl (by simp;done)) rfl<|am rfl<|an jg<|aK<|bE (aQ ?_)
   refine bj rfl rfl ?_;exact ⟨_,rfl,by rw [pg u5 rU,hs],hb⟩
  have XO:=rU;simp only [DZ] at rU;refine ao fun gK=>ai rfl<|ah (GF rfl rfl) rfl<|am rfl<|an gK ?_
  rw [hz,u5,Bool.not_false,Bool.true_and];refine aH rfl (fun tJ=>?_) (fun tJ=>?_)
  ·
   have X9:=tJ;simp only [DZ] at tJ;refine ao fun kV=>ai rfl<|ah (dx rfl rfl (by simp;done)) rfl<|am rfl<|an kV<|aK<|bE (aQ ?_)
   refine bj rfl rfl ?_;exact ⟨_,rfl,by rw [ph u5 rU tJ,hs],hb⟩
  have X9:=tJ;simp only [DZ] at tJ;have hr0:rung b≠0:=tJ;have hr1:rung b<9218868437227405312:=by have h5:isNan b=false:=u5;have h6:rung b≤9218868437227405312:=by {simpa [isNan,rung] using h5};have h7:=rU;omega
  refine aU<|bS<|aw d7<|ao fun ji=>ai rfl<|aS Ge rfl rfl (D5 b hb0 _) rfl ?_
  rintro _ w_ ⟨rfl,bf⟩;have bf:=bf.symm;subst bf;refine aS Tt rfl rfl (Nv (rung b) hr0 hr1 _) rfl ?_;rintro _ w_ ⟨⟨M,e,rfl,⟨hM,s,hs52,hMs,hes⟩,he0,he1⟩,bf⟩;have bf:=bf.symm;subst bf;refine ai rfl<|ah (bP rfl rfl) rfl<|ah (bP rfl rfl) rfl<|am rfl<|am rfl<|an ji<|ax fun _ jj=>br ?_
  have hod:=(pa _ (qC hr0)).2;have hdv:∀k,k≤53→(2 ^ (53 - k) ∣ M↔53 - k≤s):=fun k _=>by rw [hMs];exact dvd_pow hod
  refine cU (X:=Nat) (fun k=> [(3,str (eB b)),(4,.float .f64 (Wk k M)),(5,.int .i64 (e - (k:Int)))]) (fun k wr=>k+s≤53∧w=wr) (fun k=>53 - k) (0) ?_ ?_ ?_
  · exact by repeat first|exact aB|refine au rfl (by first|rfl|exact dw hs.symm|exact dw hs|exact int_eq (by omega)|exact int_eq (by simp)) ?_
  · exact ⟨by omega,rfl⟩
  rintro k wr J9 _ abY;replace J9:k+s≤53∧w=wr:=J9;obtain ⟨hk,bf⟩:=J9;show Wc _ _ _ _ _ [(3,str (eB b)),(4,.float .f64 (Wk k M)),(5,.int .i64 (e - (k:Int)))] _;have hL:=bw.below hb;have Da:=hb.size;subst bf;have hb:=Below.refl w.heap.size w;refine ax fun _ nZ=>ao fun mi=>ai rfl<|ai rfl<|aS Tu rfl rfl (Ns (Wk k M) (GY hM (by omega)) _) rfl ?_
  rintro _ w_ ⟨rfl,bf⟩;have bf:=bf.symm;subst bf;refine ah (zJ rfl rfl) rfl<|an mi ?_
  rw [show (FloatKind.f64.format.order (Wk k M) (tZ (Wk k M)) != some .eq)= !decide (2 ^ (53 - k) ∣ M) from congrArg (fun x=> !x) (Ux hM (by omega))];refine aH rfl (fun vH=>?_) (fun vH=>?_)
  ·
   have Yx:=vH;simp only [DZ] at vH;have hkl:=mt (hdv k (by omega)).2 vH;refine aU<|aw nZ<|br<|ao fun mj=>ai rfl<|ah (GI rfl rfl (mul_two hM (by omega))) rfl<|am rfl<|an mj<|aR<|ai rfl<|ah (gk rfl rfl (by omega) (by omega)) rfl<|am rfl<|ay<|bS<|fun a_ bn=>abY _ _ (k+1) (by omega) (by repeat first|exact aB|refine au rfl (by first|rfl|exact dw hs.symm|exact dw hs|exact int_eq (by omega)|exact int_eq (by simp)) ?_) ?_ a_ bn
   exact ⟨by omega,rfl⟩
  have Yx:=vH;simp only [DZ] at vH;have hkd:=(hdv k (by omega)).1 vH;have hks:53 - k=s:=by omega
  have hq:M / 2 ^ (53 - k)=od (bx (rung b)):=by rw [hks,hMs,Nat.mul_div_cancel _ (Nat.two_pow_pos s)]
  have hee:e - (k:Int)=dG (rung b)+v2 (bx (rung b)):=by omega
  have hM2:M / 2 ^ (53 - k)<9007199254740992:=Nat.lt_of_le_of_lt (Nat.div_le_self _ _) hM.hi;have hl1:=kF (M / 2 ^ (53 - k)) (by omega);have hl2:=zc (e - (k:Int)) (by omega) (by omega);refine cN<|bD<|bD<|cO<|aw jj<|ao fun xt=>ai rfl<|ai rfl<|ah (UC (by kernel_rfl) nn rfl (Q2 hM (by omega))) rfl<|aS Tv rfl rfl (Nu _ (by omega) _ hL) rfl ?_
  rintro _ gD ⟨rfl,fk⟩;have acS:=fk.size;have hb:=az hb fk;have hL:=bw.below hb;refine ah (dx rfl rfl (by omega)) rfl<|ah (dx rfl rfl (by simp;omega)) rfl<|ai rfl<|aS Tw rfl rfl (Nz _ (by omega) (by omega) _ hL) rfl ?_
  rintro _ DV ⟨rfl,iC⟩;have acT:=iC.size;have hb:=az hb iC;have hL:=bw.below hb;refine ah (dx rfl rfl (by simp;omega)) rfl<|am rfl<|an xt<|aK<|bj rfl rfl ?_
  exact ⟨_,rfl,by rw [ox u5 rU tJ,hq,hee],hb⟩
 have jw:=dY;have hs:eB b= []:=if_neg (by rw [jw];simp);refine aU<|aw cT<|ax fun _ mp=>br<|ao fun xv=>ai rfl<|ai rfl<|ah (zJ rfl rfl) rfl<|am rfl<|an xv ?_
 rw [RJ];refine aH rfl (fun HO=>?_) (fun HO=>?_)
 ·
  have vf:=HO;refine ao fun xw=>am rfl<|an xw<|aK<|bE (aQ ?_)
  refine bj rfl rfl ?_;exact ⟨_,rfl,MK vf,hb⟩
 have vf:=HO;refine ao fun xy=>ai rfl<|aS Gc rfl rfl (D9 b hb0 _) rfl ?_
 rintro _ w_ ⟨rfl,bf⟩;have bf:=bf.symm;subst bf;refine am rfl<|an xy<|aH rfl (fun rW=>?_) (fun rW=>?_)
 ·
  have X5:=rW;simp only [DZ] at rW;refine ao fun sM=>ai rfl<|ah (dx rfl rfl (by simp;done)) rfl<|am rfl<|an sM<|aK<|bE (aQ ?_)
  refine bj rfl rfl ?_;exact ⟨_,rfl,by rw [pg vf rW,hs],hb⟩
 have X5:=rW;simp only [DZ] at rW;refine ao fun sN=>ai rfl<|ah (GF rfl rfl) rfl<|am rfl<|an sN ?_
 rw [hz,vf,Bool.not_false,Bool.true_and];refine aH rfl (fun tO=>?_) (fun tO=>?_)
 ·
  have Yp:=tO;simp only [DZ] at tO;refine ao fun mq=>ai rfl<|ah (dx rfl rfl (by simp;done)) rfl<|am rfl<|an mq<|aK<|bE (aQ ?_)
  refine bj rfl rfl ?_;exact ⟨_,rfl,by rw [ph vf rW tO,hs],hb⟩
 have Yp:=tO;simp only [DZ] at tO;have hr0:rung b≠0:=tO;have hr1:rung b<9218868437227405312:=by have h5:isNan b=false:=vf;have h6:rung b≤9218868437227405312:=by {simpa [isNan,rung] using h5};have h7:=rW;omega
 refine aU<|bS<|aw mp<|ao fun kS=>ai rfl<|aS Ge rfl rfl (D5 b hb0 _) rfl ?_
 rintro _ w_ ⟨rfl,bf⟩;have bf:=bf.symm;subst bf;refine aS Tt rfl rfl (Nv (rung b) hr0 hr1 _) rfl ?_;rintro _ w_ ⟨⟨M,e,rfl,⟨hM,s,hs52,hMs,hes⟩,he0,he1⟩,bf⟩;have bf:=bf.symm;subst bf;refine ai rfl<|ah (bP rfl rfl) rfl<|ah (bP rfl rfl) rfl<|am rfl<|am rfl<|an kS<|ax fun _ Ce=>br ?_
 have hod:=(pa _ (qC hr0)).2;have hdv:∀k,k≤53→(2 ^ (53 - k) ∣ M↔53 - k≤s):=fun k _=>by rw [hMs];exact dvd_pow hod
 refine cU (X:=Nat) (fun k=> [(3,str (eB b)),(4,.float .f64 (Wk k M)),(5,.int .i64 (e - (k:Int)))]) (fun k wr=>k+s≤53∧w=wr) (fun k=>53 - k) (0) ?_ ?_ ?_
 · exact by repeat first|exact aB|refine au rfl (by first|rfl|exact dw hs.symm|exact dw hs|exact int_eq (by omega)|exact int_eq (by simp)) ?_
 · exact ⟨by omega,rfl⟩
 rintro k wr Jm _ abG;replace Jm:k+s≤53∧w=wr:=Jm;obtain ⟨hk,bf⟩:=Jm;show Wc _ _ _ _ _ [(3,str (eB b)),(4,.float .f64 (Wk k M)),(5,.int .i64 (e - (k:Int)))] _;have hL:=bw.below hb;have Da:=hb.size;subst bf;have hb:=Below.refl w.heap.size w;refine ax fun _ sE=>ao fun nU=>ai rfl<|ai rfl<|aS Tu rfl rfl (Ns (Wk k M) (GY hM (by omega)) _) rfl ?_
 rintro _ w_ ⟨rfl,bf⟩;have bf:=bf.symm;subst bf;refine ah (zJ rfl rfl) rfl<|an nU ?_
 rw [show (FloatKind.f64.format.order (Wk k M) (tZ (Wk k M)) != some .eq)= !decide (2 ^ (53 - k) ∣ M) from congrArg (fun x=> !x) (Ux hM (by omega))];refine aH rfl (fun vG=>?_) (fun vG=>?_)
 ·
  have Ys:=vG;simp only [DZ] at vG;have hkl:=mt (hdv k (by omega)).2 vG;refine aU<|aw sE<|br<|ao fun q7=>ai rfl<|ah (GI rfl rfl (mul_two hM (by omega))) rfl<|am rfl<|an q7<|aR<|ai rfl<|ah (gk rfl rfl (by omega) (by omega)) rfl<|am rfl<|ay<|bS<|fun a_ bn=>abG _ _ (k+1) (by omega) (by repeat first|exact aB|refine au rfl (by first|rfl|exact dw hs.symm|exact dw hs|exact int_eq (by omega)|exact int_eq (by simp)) ?_) ?_ a_ bn
  exact ⟨by omega,rfl⟩
 have Ys:=vG;simp only [DZ] at vG;have hkd:=(hdv k (by omega)).1 vG;have hks:53 - k=s:=by omega
 have hq:M / 2 ^ (53 - k)=od (bx (rung b)):=by rw [hks,hMs,Nat.mul_div_cancel _ (Nat.two_pow_pos s)]
 have hee:e - (k:Int)=dG (rung b)+v2 (bx (rung b)):=by omega
 have hM2:M / 2 ^ (53 - k)<9007199254740992:=Nat.lt_of_le_of_lt (Nat.div_le_self _ _) hM.hi;have hl1:=kF (M / 2 ^ (53 - k)) (by omega);have hl2:=zc (e - (k:Int)) (by omega) (by omega);refine cN<|bD<|bD<|cO<|aw Ce<|ao fun Cg=>ai rfl<|ai rfl<|ah (UC (by kernel_rfl) nn rfl (Q2 hM (by omega))) rfl<|aS Tv rfl rfl (Nu _ (by omega) _ hL) rfl ?_
 rintro _ gD ⟨rfl,fk⟩;have acS:=fk.size;have hb:=az hb fk;have hL:=bw.below hb;refine ah (dx rfl rfl (by omega)) rfl<|ah (dx rfl rfl (by simp;omega)) rfl<|ai rfl<|aS Tw rfl rfl (Nz _ (by omega) (by omega) _ hL) rfl ?_
 rintro _ DV ⟨rfl,iC⟩;have acT:=iC.size;have hb:=az hb iC;have hL:=bw.below hb;refine ah (dx rfl rfl (by simp;omega)) rfl<|am rfl<|an Cg<|aK<|bj rfl rfl ?_
 exact ⟨_,rfl,by rw [ox vf rW tO,hq,hee],hb⟩
theorem uJ:bC Tryz.prog 186:=⟨_,Tryz.func186,by kernel_rfl,rfl⟩
theorem yd:bC Tryz.prog 187:=⟨_,Tryz.func187,by kernel_rfl,rfl⟩
theorem AO (k:Nat) (h:k<10):IntKind.u8.wrap (48+(k:Int))=((UInt8.ofNat (48+k)).toNat:Int):=by
 rw [wrap_u8 _ (by omega) (by omega)];have:(UInt8.ofNat (48+k)).toNat=48+k:=by simp;omega
 rw [this];omega
theorem rH {w:World} {g:Nat} {t:TypeId} {c:UInt8} (h:aq w g t [.int .u8 c.toNat]):Rd w 1 (some ⟨g,0,none⟩) 1 (dq [c]):=h.rd 1 1 rfl
theorem zK (n:Nat):∀(hn:n<9223372036854775808) (w:World),be Tryz.prog 186 [.int .i64 n] w fun v w'=>v=str (Lib.decDigits n)∧Below w.heap.size w w':=by
 induction n using Nat.strongRecOn with
 |ind n ih=>
 intro hn w;have hdq:((n:Int).tdiv 10)=((n / 10:Nat):Int):=by rw [Int.tdiv_eq_ediv_of_nonneg (by omega)];omega
 have hm:((n:Int).tmod 10)=((n % 10:Nat):Int):=by rw [Int.tmod_eq_emod_of_nonneg (by omega)];omega
 have hb:=Below.refl w.heap.size w;refine enter Tryz.func186 rfl rfl rfl<|ao fun aZ=>am rfl<|an aZ<|ax fun _ bJ=>ao fun bX=>ai rfl<|ah (cg rfl rfl) rfl<|an bX<|aH rfl (fun cL=>?_) (fun cL=>?_)
 ·
  have j7:=cL;simp only [DZ] at cL;refine ao fun gp=>ai rfl<|ah (bH rfl rfl (by omega) (by omega)) rfl<|ah (bt (ja jp fq rfl) (int_eq (AO n (by have:=cL;omega)))) rfl<|dX (sz:=1) (vs:= [_]) dB (by kernel_rfl) rfl rfl rfl rfl rfl rfl ?_
  rintro ix qL oX ew cm;have:=cm.size;have hb:=az hb cm;have:=ew.lt;refine aW (lB dB fq bq rfl (by exact rH ew)) rfl<|am rfl<|an gp<|aK<|aQ<|bj rfl rfl ?_
  exact ⟨_,rfl,by rw [Lib.decDigits,dif_pos (by have:=cL;omega)],hb⟩
 have j7:=cL;simp only [DZ] at cL;refine aU<|aw bJ<|ax fun _ fj=>gG (n:=11) (fun w'=>Below w.heap.size w w') #[ac,ac,ac,ac,ac,ac,ac,ac,ac,ac,ac] (by kernel_rfl) rfl (by kernel_rfl)<|gF ?_
 rintro M8 jm;have:=jm.size;have hb:=az hb jm;refine aT (i:=0) #[ab,ac,ac,ac,ac,ac,ac,ac,ac,ac,ac] rfl (by kernel_rfl) aO rfl (fun wq hq=>a8 (bl rfl)) hb<|aT (i:=1) #[ab,ab,ac,ac,ac,ac,ac,ac,ac,ac,ac] rfl (by kernel_rfl) aO rfl (fun wq hq=>a8 (bt (tq rfl rfl (by decide)) (int_eq ((congrArg IntKind.i64.wrap hdq).trans (wrap_i64 _ (by omega) (by omega)))))) hb<|aT (i:=3) #[ab,ab,ac,ab,ac,ac,ac,ac,ac,ac,ac] rfl (by kernel_rfl) aO rfl (fun wq hq=>a8 (bl rfl)) hb<|aT (i:=4) #[ab,ab,ac,ab,ab,ac,ac,ac,ac,ac,ac] rfl (by kernel_rfl) aO rfl (fun wq hq=>a8 (bt (tt rfl rfl (by decide)) (int_eq hm))) hb<|aT (i:=5) #[ab,ab,ac,ab,ab,ab,ac,ac,ac,ac,ac] rfl (by kernel_rfl) aO rfl (fun wq hq=>a8 (bH rfl rfl (by omega) (by omega))) hb<|aT (i:=6) #[ab,ab,ac,ab,ab,ab,ab,ac,ac,ac,ac] rfl (by kernel_rfl) aO rfl (fun wq hq=>a8 (bt (ja jp fq rfl) (int_eq (AO (n % 10) (by omega))))) hb<|bM (rs:= [2,7]) (by kernel_rfl) rfl<|bv #[ab,ab,ab,ab,ab,ab,ab,ac,ac,ac,ac] rfl rfl (fun _ kT=>?_) ?_
 ·
  refine aS uJ rfl rfl (ih (n / 10) (by have:=cL;omega) (by omega) _) rfl ?_;rintro _ cq ⟨rfl,bm⟩;have QT:=bm.size;have hb:=az hb bm;refine ay<|bu kT hb<|bM (rs:= [7]) (by kernel_rfl) rfl<|bv #[ab,ab,ab,ab,ab,ab,ab,ab,ac,ac,ac] rfl rfl (fun _ jf=>?_) ?_
  ·
   refine dX (sz:=1) (vs:= [_]) dB (by kernel_rfl) rfl rfl rfl rfl rfl rfl ?_;rintro gc kw dg cD dW;have qA:=dW.size;have hb:=az hb dW;have xH:=cD.lt;refine ay<|bu jf hb<|bM (rs:= [8]) (by kernel_rfl) rfl<|bv #[ab,ab,ab,ab,ab,ab,ab,ab,ab,ac,ac] rfl rfl (fun _ md=>?_) ?_
   ·
    refine aW (lB dB fq bq rfl (by exact rH cD)) rfl<|ay<|bu md hb<|aT (i:=9) #[ab,ab,ab,ab,ab,ab,ab,ab,ab,ab,ac] rfl (by kernel_rfl) aO rfl (fun wq hq=>a8 (dx rfl rfl (by have:=kF (n / 10) (by omega);first|omega|(simp;omega)))) hb<|aT (i:=10) #[ab,ab,ab,ab,ab,ab,ab,ab,ab,ab,ab] rfl (by kernel_rfl) aO rfl (fun wq hq=>a8 (cX rfl)) hb<|eE (by kernel_rfl)<|aw fj<|aK<|bj rfl rfl ?_
    exact ⟨_,rfl,by rw [Lib.decDigits.eq_def n,dif_neg (by have:=cL;omega)],hb⟩
   exact bN
  exact bN
 refine bv #[ab,ab,ac,ab,ab,ab,ab,ab,ac,ac,ac] rfl rfl (fun _ nW=>?_) ?_
 ·
  refine dX (sz:=1) (vs:= [_]) dB (by kernel_rfl) rfl rfl rfl rfl rfl rfl ?_;rintro gc kw dg cD dW;have qA:=dW.size;have hb:=az hb dW;have xH:=cD.lt;refine ay<|bu nW hb<|bM (rs:= [2,8]) (by kernel_rfl) rfl<|bv #[ab,ab,ab,ab,ab,ab,ab,ab,ac,ac,ac] rfl rfl (fun _ iW=>?_) ?_
  ·
   refine aS uJ rfl rfl (ih (n / 10) (by have:=cL;omega) (by omega) _) rfl ?_;rintro _ cq ⟨rfl,bm⟩;have QT:=bm.size;have hb:=az hb bm;have cD:=aq.below cD bm;refine ay<|bu iW hb<|bM (rs:= [8]) (by kernel_rfl) rfl<|bv #[ab,ab,ab,ab,ab,ab,ab,ab,ab,ac,ac] rfl rfl (fun _ kV=>?_) ?_
   ·
    refine aW (lB dB fq bq rfl (by exact rH cD)) rfl<|ay<|bu kV hb<|aT (i:=9) #[ab,ab,ab,ab,ab,ab,ab,ab,ab,ab,ac] rfl (by kernel_rfl) aO rfl (fun wq hq=>a8 (dx rfl rfl (by have:=kF (n / 10) (by omega);first|omega|(simp;omega)))) hb<|aT (i:=10) #[ab,ab,ab,ab,ab,ab,ab,ab,ab,ab,ab] rfl (by kernel_rfl) aO rfl (fun wq hq=>a8 (cX rfl)) hb<|eE (by kernel_rfl)<|aw fj<|aK<|bj rfl rfl ?_
    exact ⟨_,rfl,by rw [Lib.decDigits.eq_def n,dif_neg (by have:=cL;omega)],hb⟩
   exact bN
  refine bv #[ab,ab,ac,ab,ab,ab,ab,ab,ab,ac,ac] rfl rfl (fun _ ji=>?_) ?_
  ·
   refine aW (lB dB fq bq rfl (by exact rH cD)) rfl<|ay<|bu ji hb<|bM (rs:= [2]) (by kernel_rfl) rfl<|bv #[ab,ab,ab,ab,ab,ab,ab,ab,ab,ac,ac] rfl rfl (fun _ mg=>?_) ?_
   ·
    refine aS uJ rfl rfl (ih (n / 10) (by have:=cL;omega) (by omega) _) rfl ?_;rintro _ cq ⟨rfl,bm⟩;have QT:=bm.size;have hb:=az hb bm;refine ay<|bu mg hb<|aT (i:=9) #[ab,ab,ab,ab,ab,ab,ab,ab,ab,ab,ac] rfl (by kernel_rfl) aO rfl (fun wq hq=>a8 (dx rfl rfl (by have:=kF (n / 10) (by omega);first|omega|(simp;omega)))) hb<|aT (i:=10) #[ab,ab,ab,ab,ab,ab,ab,ab,ab,ab,ab] rfl (by kernel_rfl) aO rfl (fun wq hq=>a8 (cX rfl)) hb<|eE (by kernel_rfl)<|aw fj<|aK<|bj rfl rfl ?_
    exact ⟨_,rfl,by rw [Lib.decDigits.eq_def n,dif_neg (by have:=cL;omega)],hb⟩
   exact bN
  exact bN
 exact bN
theorem VQ (u:Nat):∀(h1:1≤u) (hn:u<9223372036854775808) (w:World),be Tryz.prog 187 [.int .i64 (-(u:Int))] w fun v w'=>v=str (45 :: Lib.decDigits u)∧Below w.heap.size w w':=by
 induction u using Nat.strongRecOn with
 |ind u ih=>
 intro h1 hn w;have hdq:((-(u:Int)).tdiv 10)= -((u / 10:Nat):Int):=by rw [Int.neg_tdiv,Int.tdiv_eq_ediv_of_nonneg (by omega)];omega
 have hm:((-(u:Int)).tmod 10)= -((u % 10:Nat):Int):=by rw [Int.neg_tmod,Int.tmod_eq_emod_of_nonneg (by omega)];omega
 have hb:=Below.refl w.heap.size w;refine enter Tryz.func187 rfl rfl rfl<|ao fun aZ=>am rfl<|an aZ<|ax fun _ bJ=>ao fun bX=>ai rfl<|ah (jb rfl rfl) rfl<|an bX<|aH rfl (fun cL=>?_) (fun cL=>?_)
 ·
  have j7:=cL;simp only [DZ] at cL;exact absurd cL (by omega)
 have j7:=cL;simp only [DZ] at cL;refine aU<|aw bJ<|ax fun _ gp=>ao fun ek=>ai rfl<|ah (eW rfl rfl) rfl<|an ek<|aH rfl (fun gR=>?_) (fun gR=>?_)
 ·
  have Hz:=gR;simp only [DZ] at gR;refine ao fun eQ=>ai rfl<|ah (gk rfl rfl (by omega) (by omega)) rfl<|ah (bt (ja jp fq rfl) (int_eq ((congrArg IntKind.u8.wrap (show 48 - -(u:Int)=48+(u:Int) by omega)).trans (AO u (by have:=gR;omega))))) rfl<|dX (sz:=1) (vs:= [_]) dB (by kernel_rfl) rfl rfl rfl rfl rfl rfl ?_
  rintro ix qL oX ew cm;have:=cm.size;have hb:=az hb cm;have:=ew.lt;refine aW (lB dB fq bq rfl (by exact rH ew)) rfl<|ah (dx rfl rfl (by simp;done)) rfl<|am rfl<|an eQ<|aK<|aQ<|bj rfl rfl ?_
  exact ⟨_,rfl,by rw [Lib.decDigits,dif_pos (by have:=gR;omega)];rfl,hb⟩
 have Hz:=gR;simp only [DZ] at gR;refine aU<|aw gp<|ax fun _ fZ=>gG (n:=11) (fun w'=>Below w.heap.size w w') #[ac,ac,ac,ac,ac,ac,ac,ac,ac,ac,ac] (by kernel_rfl) rfl (by kernel_rfl)<|gF ?_
 rintro Gy iY;have:=iY.size;have hb:=az hb iY;refine aT (i:=0) #[ab,ac,ac,ac,ac,ac,ac,ac,ac,ac,ac] rfl (by kernel_rfl) aO rfl (fun wq hq=>a8 (bl rfl)) hb<|aT (i:=1) #[ab,ab,ac,ac,ac,ac,ac,ac,ac,ac,ac] rfl (by kernel_rfl) aO rfl (fun wq hq=>a8 (bt (tq rfl rfl (by decide)) (int_eq ((congrArg IntKind.i64.wrap hdq).trans (wrap_i64 _ (by omega) (by omega)))))) hb<|aT (i:=3) #[ab,ab,ac,ab,ac,ac,ac,ac,ac,ac,ac] rfl (by kernel_rfl) aO rfl (fun wq hq=>a8 (bl rfl)) hb<|aT (i:=4) #[ab,ab,ac,ab,ab,ac,ac,ac,ac,ac,ac] rfl (by kernel_rfl) aO rfl (fun wq hq=>a8 (bt (tt rfl rfl (by decide)) (int_eq hm))) hb<|aT (i:=5) #[ab,ab,ac,ab,ab,ab,ac,ac,ac,ac,ac] rfl (by kernel_rfl) aO rfl (fun wq hq=>a8 (gk rfl rfl (by omega) (by omega))) hb<|aT (i:=6) #[ab,ab,ac,ab,ab,ab,ab,ac,ac,ac,ac] rfl (by kernel_rfl) aO rfl (fun wq hq=>a8 (bt (ja jp fq rfl) (int_eq ((congrArg IntKind.u8.wrap (show 48 - -((u % 10:Nat):Int)=48+((u % 10:Nat):Int) by omega)).trans (AO (u % 10) (by omega)))))) hb<|bM (rs:= [2,7]) (by kernel_rfl) rfl<|bv #[ab,ab,ab,ab,ab,ab,ab,ac,ac,ac,ac] rfl rfl (fun _ eG=>?_) ?_
 ·
  refine aS yd rfl rfl (ih (u / 10) (by have:=gR;omega) (by have:=gR;omega) (by omega) _) rfl ?_;rintro _ ft ⟨rfl,bp⟩;have us:=bp.size;have hb:=az hb bp;refine ay<|bu eG hb<|bM (rs:= [7]) (by kernel_rfl) rfl<|bv #[ab,ab,ab,ab,ab,ab,ab,ab,ac,ac,ac] rfl rfl (fun _ nW=>?_) ?_
  ·
   refine dX (sz:=1) (vs:= [_]) dB (by kernel_rfl) rfl rfl rfl rfl rfl rfl ?_;rintro gc kw dg cD dW;have qA:=dW.size;have hb:=az hb dW;have xH:=cD.lt;refine ay<|bu nW hb<|bM (rs:= [8]) (by kernel_rfl) rfl<|bv #[ab,ab,ab,ab,ab,ab,ab,ab,ab,ac,ac] rfl rfl (fun _ iW=>?_) ?_
   ·
    refine aW (lB dB fq bq rfl (by exact rH cD)) rfl<|ay<|bu iW hb<|aT (i:=9) #[ab,ab,ab,ab,ab,ab,ab,ab,ab,ab,ac] rfl (by kernel_rfl) aO rfl (fun wq hq=>a8 (dx rfl rfl (by have:=kF (u / 10) (by omega);first|omega|(simp;omega)))) hb<|aT (i:=10) #[ab,ab,ab,ab,ab,ab,ab,ab,ab,ab,ab] rfl (by kernel_rfl) aO rfl (fun wq hq=>a8 (cX rfl)) hb<|eE (by kernel_rfl)<|aw fZ<|aK<|bj rfl rfl ?_
    exact ⟨_,rfl,by rw [Lib.decDigits.eq_def u,dif_neg (by have:=gR;omega)];rfl,hb⟩
   exact bN
  exact bN
 refine bv #[ab,ab,ac,ab,ab,ab,ab,ab,ac,ac,ac] rfl rfl (fun _ mf=>?_) ?_
 ·
  refine dX (sz:=1) (vs:= [_]) dB (by kernel_rfl) rfl rfl rfl rfl rfl rfl ?_;rintro gc kw dg cD dW;have qA:=dW.size;have hb:=az hb dW;have xH:=cD.lt;refine ay<|bu mf hb<|bM (rs:= [2,8]) (by kernel_rfl) rfl<|bv #[ab,ab,ab,ab,ab,ab,ab,ab,ac,ac,ac] rfl rfl (fun _ ji=>?_) ?_
  ·
   refine aS yd rfl rfl (ih (u / 10) (by have:=gR;omega) (by have:=gR;omega) (by omega) _) rfl ?_;rintro _ ft ⟨rfl,bp⟩;have us:=bp.size;have hb:=az hb bp;have cD:=aq.below cD bp;refine ay<|bu ji hb<|bM (rs:= [8]) (by kernel_rfl) rfl<|bv #[ab,ab,ab,ab,ab,ab,ab,ab,ab,ac,ac] rfl rfl (fun _ mg=>?_) ?_
   ·
    refine aW (lB dB fq bq rfl (by exact rH cD)) rfl<|ay<|bu mg hb<|aT (i:=9) #[ab,ab,ab,ab,ab,ab,ab,ab,ab,ab,ac] rfl (by kernel_rfl) aO rfl (fun wq hq=>a8 (dx rfl rfl (by have:=kF (u / 10) (by omega);first|omega|(simp;omega)))) hb<|aT (i:=10) #[ab,ab,ab,ab,ab,ab,ab,ab,ab,ab,ab] rfl (by kernel_rfl) aO rfl (fun wq hq=>a8 (cX rfl)) hb<|eE (by kernel_rfl)<|aw fZ<|aK<|bj rfl rfl ?_
    exact ⟨_,rfl,by rw [Lib.decDigits.eq_def u,dif_neg (by have:=gR;omega)];rfl,hb⟩
   exact bN
  refine bv #[ab,ab,ac,ab,ab,ab,ab,ab,ab,ac,ac] rfl rfl (fun _ lu=>?_) ?_
  ·
   refine aW (lB dB fq bq rfl (by exact rH cD)) rfl<|ay<|bu lu hb<|bM (rs:= [2]) (by kernel_rfl) rfl<|bv #[ab,ab,ab,ab,ab,ab,ab,ab,ab,ac,ac] rfl rfl (fun _ mh=>?_) ?_
   ·
    refine aS yd rfl rfl (ih (u / 10) (by have:=gR;omega) (by have:=gR;omega) (by omega) _) rfl ?_;rintro _ ft ⟨rfl,bp⟩;have us:=bp.size;have hb:=az hb bp;refine ay<|bu mh hb<|aT (i:=9) #[ab,ab,ab,ab,ab,ab,ab,ab,ab,ab,ac] rfl (by kernel_rfl) aO rfl (fun wq hq=>a8 (dx rfl rfl (by have:=kF (u / 10) (by omega);first|omega|(simp;omega)))) hb<|aT (i:=10) #[ab,ab,ab,ab,ab,ab,ab,ab,ab,ab,ab] rfl (by kernel_rfl) aO rfl (fun wq hq=>a8 (cX rfl)) hb<|eE (by kernel_rfl)<|aw fZ<|aK<|bj rfl rfl ?_
    exact ⟨_,rfl,by rw [Lib.decDigits.eq_def u,dif_neg (by have:=gR;omega)];rfl,hb⟩
   exact bN
  exact bN
 exact bN
theorem Ee (n:Int) (h0: -9223372036854775808<n) (h1:n≤9223372036854775807) (w:World):be Tryz.prog 187 [.int .i64 n] w fun v w'=>v=str (Lib.itoa n)∧Below w.heap.size w w':=by
 by_cases hn:n<0
 · have:=VQ n.natAbs (by omega) (by omega) w
   have e: -((n.natAbs:Nat):Int)=n:=by omega
   rw [e] at this;unfold Lib.itoa;rw [if_pos hn];exact this
 · obtain ⟨m,rfl⟩:=Int.eq_ofNat_of_zero_le (show 0≤n by omega)
   rw [Lib.itoa_nonneg];have hb:=Below.refl w.heap.size w;refine enter Tryz.func187 rfl rfl rfl<|ao fun aZ=>am rfl<|an aZ<|ax fun _ bJ=>ao fun bX=>ai rfl<|ah (jb rfl rfl) rfl<|an bX<|aH rfl (fun cL=>?_) (fun cL=>?_)
   ·
    have j7:=cL;simp only [DZ] at cL;refine ao fun gp=>ai rfl<|aS uJ rfl rfl (zK m (by omega) _) rfl ?_
    rintro _ cq ⟨rfl,bm⟩;have:=bm.size;have hb:=az hb bm;refine am rfl<|an gp<|aK<|aQ<|bj rfl rfl ?_
    exact ⟨_,rfl,rfl,hb⟩
   have j7:=cL;simp only [DZ] at cL;exact absurd cL (by omega)
theorem tY {b e:Nat} (he:e=b / 4503599627370496 % 2048) (h:(e:Int)=0):dG (rung b)+1075=1:=by
 have:rung b<4503599627370496:=by unfold rung;omega
 unfold dG;rw [if_pos this];omega
theorem tX {b e:Nat} (he:e=b / 4503599627370496 % 2048) (hr:rung b<9218868437227405312) (h:¬(e:Int)=0):dG (rung b)+1075=(e:Int):=by
 have:¬rung b<4503599627370496:=by unfold rung;omega
 unfold dG;rw [if_neg this];have:rung b / 4503599627370496=e:=by unfold rung;omega
 rw [this];omega
theorem uu {b e m:Nat} (he:e=b / 4503599627370496 % 2048) (hm:m=b % 4503599627370496) (h:(e:Int)=0):((bx (rung b):Nat):Int)=(m:Int):=by
 have:rung b<4503599627370496:=by unfold rung;omega
 unfold bx;rw [if_pos this];unfold rung;omega
theorem ut {b e m:Nat} (he:e=b / 4503599627370496 % 2048) (hm:m=b % 4503599627370496) (h:¬(e:Int)=0):((bx (rung b):Nat):Int)=(m:Int)+4503599627370496:=by
 have:¬rung b<4503599627370496:=by unfold rung;omega
 unfold bx;rw [if_neg this];unfold rung;omega
theorem ri {r:Nat} (h:r<9218868437227405312):bx r<9007199254740992:=by
 unfold bx;have:=Nat.mod_lt r (show 0<4503599627370496 by decide);split<;>omega
theorem pH {r:Nat} (h:r<9218868437227405312): -1074≤dG r∧dG r≤971:=by
 unfold dG;split<;>omega
theorem qK {r:Nat} (h:r<9218868437227405312) (h0:r≠0):v2 (bx r)≤53:=by
 obtain ⟨h1,h2⟩:=pa _ (qC h0);have h3:=ri h
 rcases Nat.lt_or_ge 53 (v2 (bx r)) with h4|h4
 · have:2 ^ 53≤2 ^ v2 (bx r):=Nat.pow_le_pow_right (by decide) (by omega)
   have h5:1 * 2 ^ v2 (bx r)≤od (bx r) * 2 ^ v2 (bx r):=Nat.mul_le_mul_right _ (by omega);omega
 · exact h4
theorem Fc {m o t j:Nat} (h1:m=o * 2 ^ t) (h2:o % 2=1) (hm:m<9007199254740992) (hj:j≤t):
 ((((o * 2 ^ (t - j):Nat):Int).tmod 2=0)↔j<t)∧(j<t→((o * 2 ^ (t - (j+1)):Nat):Int)=IntKind.i64.wrap (((o * 2 ^ (t - j):Nat):Int).tdiv 2))∧o * 2 ^ (t - j)<9007199254740992:=by
 have hlt:o * 2 ^ (t - j)<9007199254740992:=Nat.lt_of_le_of_lt (by rw [h1];exact Nat.mul_le_mul_left _ (Nat.pow_le_pow_right (by decide) (by omega))) hm
 rw [Int.tmod_eq_emod_of_nonneg (by omega),Int.tdiv_eq_ediv_of_nonneg (by omega)]
 refine ⟨?_,fun h=>?_,hlt⟩
 · rcases Nat.lt_or_ge j t with h|h
   · obtain ⟨k,hk⟩:∃k,t - j=k+1:=⟨t - j - 1,by omega⟩
     rw [hk,Nat.pow_succ,←Nat.mul_assoc]
     exact ⟨fun _=>h,fun _=>by omega⟩
   · rw [show t - j=0 by omega];simp;omega
 · obtain ⟨k,hk⟩:∃k,t - j=k+1:=⟨t - j - 1,by omega⟩
   rw [hk,show t - (j+1)=k by omega]
   rw [hk,Nat.pow_succ,←Nat.mul_assoc] at hlt
   rw [Nat.pow_succ,←Nat.mul_assoc,wrap_i64 _ (by omega) (by omega)];omega
theorem VH (b:Nat) (hb0:b<18446744073709551616) (w:World):be Tryz.prog 155 [.float .f64 b] w fun v w'=>v=str (dr b)∧Below w.heap.size w w':=by
 have hsl:=S4 b;have hb:=Below.refl w.heap.size w;refine enter Tryz.func155 rfl rfl rfl<|ao fun aZ=>am rfl<|an aZ<|ao fun bJ=>ai rfl<|aS TE rfl rfl (NH b hb0 _) rfl ?_
 rintro _ w_ ⟨rfl,bf⟩;have bf:=bf.symm;subst bf;refine ai rfl<|ah (bP rfl rfl) rfl<|ah (bP rfl rfl) rfl<|ah (bP rfl rfl) rfl<|am rfl<|am rfl<|am rfl<|an bJ<|ax fun _ eQ=>ao fun eR=>ai rfl<|ah (bA rfl rfl) rfl<|ai rfl<|cw rfl rfl rfl (fun iQ=>?_) (fun iQ=>?_)
 ·
  have gI:=iQ;simp only [DZ] at iQ;refine ai rfl<|aE rfl rfl gI<|ah (ig rfl rfl) rfl<|ah (bi rfl gI rfl) rfl<|an eR<|aH rfl (fun jc=>?_) (fun jc=>?_)
  ·
   have uT:=jc;simp only [DZ] at jc;refine ao fun nV=>am rfl<|an nV<|aK<|aQ<|bj rfl rfl ?_
   exact ⟨_,rfl,MK (by unfold isNan;simp only [decide_eq_true_eq];have:=iQ;have:=jc;omega),hb⟩
  have uT:=jc;simp only [DZ] at jc;refine aU<|aw eQ<|ax fun _ jg=>?_
  obtain ⟨e,he⟩:∃e:Nat,e=b / 4503599627370496 % 2048:=⟨_,rfl⟩;obtain ⟨m,hm⟩:∃m:Nat,m=b % 4503599627370496:=⟨_,rfl⟩;have hnn:isNan b=false:=by unfold isNan;simp only [decide_eq_false_iff_not];first|(have:=iQ;omega)|(have:=iQ;have:=jc;omega)
  rw [←he,←hm];refine aR<|am rfl<|an jg<|ax fun _ kU=>ao fun eG=>ai rfl<|an eG<|b9 (X:=Unit) (fun u_=> [(4,.int .i64 (e:Int)),(5,.int .i64 (m:Int)),(6,str (eB b))]) (fun u_ wr=>Below w.heap.size w wr) (fun _ Qh=>?_) ?_
  ·
   refine aH rfl (fun HF=>?_) (fun HF=>?_)
   ·
    have Ai:=HF;refine aR<|am rfl<|ay<|aY Qh (()) (by repeat first|exact aB|refine au rfl (by first|rfl|exact dw (if_pos Ai).symm|exact dw (if_neg (s4 Ai)).symm) ?_) ?_
    exact hb
   have Ai:=HF;refine aU<|aY Qh (()) (by repeat first|exact aB|refine au rfl (by first|rfl|exact dw (if_pos Ai).symm|exact dw (if_neg (s4 Ai)).symm) ?_) ?_
   exact hb
  rintro u_ wr qf;replace qf:Below w.heap.size w wr:=qf;have hb:=qf;show Wq _ _ _ _ [(4,.int .i64 (e:Int)),(5,.int .i64 (m:Int)),(6,str (eB b))] _;have acX:=hb.size;refine aw kU<|ax fun _ kV=>ao fun me=>ai rfl<|ah (bA rfl rfl) rfl<|an me<|aH rfl (fun tH=>?_) (fun tH=>?_)
  ·
   have XU:=tH;simp only [DZ] at tH;refine ao fun fx=>ai rfl<|ah (dx rfl rfl (by simp;omega)) rfl<|am rfl<|an fx<|aK<|aQ<|bj rfl rfl ?_
   exact ⟨_,rfl,by rw [pg hnn (by have:=tH;unfold isNan at hnn;simp only [decide_eq_false_iff_not] at hnn;unfold rung;omega)],hb⟩
  have XU:=tH;simp only [DZ] at tH;refine aU<|aw kV<|ax fun _ f5=>ao fun lu=>ai rfl<|ah (bA rfl rfl) rfl<|ai rfl<|cw rfl rfl rfl (fun iR=>?_) (fun iR=>?_)
  ·
   have iv:=iR;simp only [DZ] at iR;have hr0:m=0→rung b=0:=fun h=>by have:=iR;unfold rung;omega
   refine ai rfl<|aE rfl rfl iv<|ah (bA rfl rfl) rfl<|ah (bi rfl iv rfl) rfl<|an lu<|aH rfl (fun tL=>?_) (fun tL=>?_)
   ·
    have Yf:=tL;simp only [DZ] at tL;refine ao fun n5=>ai rfl<|ah (dx rfl rfl (by omega)) rfl<|am rfl<|an n5<|aK<|aQ<|bj rfl rfl ?_
    exact ⟨_,rfl,by rw [ph hnn (by have:=tL;have:=iR;unfold rung;omega) (by have:=tL;have:=iR;unfold rung;omega)],hb⟩
   have Yf:=tL;simp only [DZ] at tL;refine aU<|aw f5<|ax fun _ mj=>ao fun ml=>ai rfl<|ah (bA rfl rfl) rfl<|an ml ?_
   have hr1:rung b<9218868437227405312:=by unfold isNan at hnn;simp only [decide_eq_false_iff_not] at hnn;have:=tH;unfold rung;omega
   have hr2:rung b≠0:=by unfold rung;first|(have:=iR;omega)|(have:=iR;have:=tL;omega)
   have hr3:rung b≠9218868437227405312:=by omega
   refine b9 (X:=Unit) (fun u_=> [(4,.int .i64 (dG (rung b)+1075)),(5,.int .i64 (bx (rung b):Nat)),(6,str (eB b))]) (fun u_ wr=>Below w.heap.size w wr) (fun _ Qo=>?_) ?_
   ·
    refine aH rfl (fun nL=>?_) (fun nL=>?_)
    ·
     have Yz:=nL;simp only [DZ] at nL;refine aR<|am rfl<|ay<|aY Qo (()) (by repeat first|exact aB|refine au rfl (by first|rfl|exact int_eq (tY he nL).symm|exact int_eq (tX he hr1 nL).symm|exact int_eq (uu he hm nL).symm|exact int_eq (ut he hm nL).symm) ?_) ?_
     exact hb
    have Yz:=nL;simp only [DZ] at nL;refine aR<|ai rfl<|ah (bH rfl rfl (by omega) (by omega)) rfl<|am rfl<|ay<|aY Qo (()) (by repeat first|exact aB|refine au rfl (by first|rfl|exact int_eq (tY he nL).symm|exact int_eq (tX he hr1 nL).symm|exact int_eq (uu he hm nL).symm|exact int_eq (ut he hm nL).symm) ?_) ?_
    exact hb
   rintro u_ wr Kh;replace Kh:Below w.heap.size w wr:=Kh;have hb:=Kh;show Wq _ _ _ _ [(4,.int .i64 (dG (rung b)+1075)),(5,.int .i64 (bx (rung b):Nat)),(6,str (eB b))] _;have LG:=hb.size;obtain ⟨ho1,ho2⟩:=pa _ (qC hr2);have hml:=ri hr1;have hex:=pH hr1;have hv:=qK hr1 hr2;refine aw mj<|ao fun mo=>ai rfl<|ah (gk rfl rfl (by omega) (by omega)) rfl<|am rfl<|an mo<|ax fun _ sK=>br<|cU (X:=Nat) (fun j=> [(6,str (eB b)),(5,.int .i64 ((od (bx (rung b)) * 2 ^ (v2 (bx (rung b)) - j):Nat):Int)),(4,.int .i64 (dG (rung b)+(j:Int)))]) (fun j wr=>j≤v2 (bx (rung b))∧Below w.heap.size w wr) (fun j=>v2 (bx (rung b)) - j) (0) ?_ ?_ ?_
   · exact by repeat first|exact aB|refine au rfl (by first|rfl|exact int_eq (by rw [Nat.sub_zero,←ho1])|exact int_eq (by omega)|exact int_eq hhalf) ?_
   · exact ⟨by omega,hb⟩
   rintro j wr xf _ E9;replace xf:j≤v2 (bx (rung b))∧Below w.heap.size w wr:=xf;obtain ⟨hj,hb⟩:=xf;show Wc _ _ _ _ _ [(6,str (eB b)),(5,.int .i64 ((od (bx (rung b)) * 2 ^ (v2 (bx (rung b)) - j):Nat):Int)),(4,.int .i64 (dG (rung b)+(j:Int)))] _;have Da:=hb.size;obtain ⟨hp1,hp2,hp3⟩:=Fc ho1 ho2 hml hj;refine ax fun _ mp=>ao fun xv=>ai rfl<|ah (tt rfl rfl (by decide)) rfl<|ah (bA rfl rfl) rfl<|an xv<|aH rfl (fun kE=>?_) (fun kE=>?_)
   ·
    have Iv:=kE;simp only [DZ] at kE;have hjt:j<v2 (bx (rung b)):=hp1.1 kE;have hhalf:=hp2 hjt;refine aU<|aw mp<|br<|ao fun Ct=>ai rfl<|ah (tq rfl rfl (by decide)) rfl<|am rfl<|an Ct<|aR<|ai rfl<|ah (bH rfl rfl (by omega) (by omega)) rfl<|am rfl<|ay<|bS<|fun a_ bn=>E9 _ _ (j+1) (by omega) (by repeat first|exact aB|refine au rfl (by first|rfl|exact int_eq (by rw [Nat.sub_zero,←ho1])|exact int_eq (by omega)|exact int_eq hhalf) ?_) ?_ a_ bn
    exact ⟨by omega,hb⟩
   have Iv:=kE;simp only [DZ] at kE;have hjt:j=v2 (bx (rung b)):=by have:=mt hp1.2 kE;omega
   have hod:((od (bx (rung b)) * 2 ^ (v2 (bx (rung b)) - j):Nat):Int)=((od (bx (rung b)):Nat):Int):=by rw [hjt,Nat.sub_self,Nat.pow_zero,Nat.mul_one]
   have hol:od (bx (rung b))<9007199254740992:=by omega
   have hl1:=kF (od (bx (rung b))) (by omega);have hl2:=zc (dG (rung b)+(j:Int)) (by omega) (by omega);rw [hod];refine cN<|bD<|bD<|cO<|aw sK<|ao fun qr=>ai rfl<|ai rfl<|aS uJ rfl rfl (zK _ (by omega) _) rfl ?_
   rintro _ ft ⟨rfl,bp⟩;have us:=bp.size;have hb:=az hb bp;refine ah (dx rfl rfl (by omega)) rfl<|ah (dx rfl rfl (by omega)) rfl<|ai rfl<|aS yd rfl rfl (Ee _ (by omega) (by omega) _) rfl ?_
   rintro _ gu ⟨rfl,bG⟩;have xM:=bG.size;have hb:=az hb bG;refine ah (dx rfl rfl (by omega)) rfl<|am rfl<|an qr<|aK<|bj rfl rfl ?_
   exact ⟨_,rfl,by rw [ox hnn hr3 hr2,hjt],hb⟩
  have iv:=iR;simp only [DZ] at iR;refine aA rfl rfl iv rfl rfl<|ah (bg rfl iv rfl) rfl<|an lu<|pt rfl rfl<|aU<|aw f5<|ax fun _ sO=>ao fun B7=>ai rfl<|ah (bA rfl rfl) rfl<|an B7 ?_
  have hr1:rung b<9218868437227405312:=by unfold isNan at hnn;simp only [decide_eq_false_iff_not] at hnn;have:=tH;unfold rung;omega
  have hr2:rung b≠0:=by unfold rung;first|(have:=iR;omega)|(have:=iR;have:=Vo;omega)
  have hr3:rung b≠9218868437227405312:=by omega
  refine b9 (X:=Unit) (fun u_=> [(4,.int .i64 (dG (rung b)+1075)),(5,.int .i64 (bx (rung b):Nat)),(6,str (eB b))]) (fun u_ wr=>Below w.heap.size w wr) (fun _ PU=>?_) ?_
  ·
   refine aH rfl (fun nI=>?_) (fun nI=>?_)
   ·
    have Yr:=nI;simp only [DZ] at nI;refine aR<|am rfl<|ay<|aY PU (()) (by repeat first|exact aB|refine au rfl (by first|rfl|exact int_eq (tY he nI).symm|exact int_eq (tX he hr1 nI).symm|exact int_eq (uu he hm nI).symm|exact int_eq (ut he hm nI).symm) ?_) ?_
    exact hb
   have Yr:=nI;simp only [DZ] at nI;refine aR<|ai rfl<|ah (bH rfl rfl (by omega) (by omega)) rfl<|am rfl<|ay<|aY PU (()) (by repeat first|exact aB|refine au rfl (by first|rfl|exact int_eq (tY he nI).symm|exact int_eq (tX he hr1 nI).symm|exact int_eq (uu he hm nI).symm|exact int_eq (ut he hm nI).symm) ?_) ?_
   exact hb
  rintro u_ wr Jj;replace Jj:Below w.heap.size w wr:=Jj;have hb:=Jj;show Wq _ _ _ _ [(4,.int .i64 (dG (rung b)+1075)),(5,.int .i64 (bx (rung b):Nat)),(6,str (eB b))] _;have LG:=hb.size;obtain ⟨ho1,ho2⟩:=pa _ (qC hr2);have hml:=ri hr1;have hex:=pH hr1;have hv:=qK hr1 hr2;refine aw sO<|ao fun Cd=>ai rfl<|ah (gk rfl rfl (by omega) (by omega)) rfl<|am rfl<|an Cd<|ax fun _ sE=>br<|cU (X:=Nat) (fun j=> [(6,str (eB b)),(5,.int .i64 ((od (bx (rung b)) * 2 ^ (v2 (bx (rung b)) - j):Nat):Int)),(4,.int .i64 (dG (rung b)+(j:Int)))]) (fun j wr=>j≤v2 (bx (rung b))∧Below w.heap.size w wr) (fun j=>v2 (bx (rung b)) - j) (0) ?_ ?_ ?_
  · exact by repeat first|exact aB|refine au rfl (by first|rfl|exact int_eq (by rw [Nat.sub_zero,←ho1])|exact int_eq (by omega)|exact int_eq hhalf) ?_
  · exact ⟨by omega,hb⟩
  rintro j wr Jo _ abI;replace Jo:j≤v2 (bx (rung b))∧Below w.heap.size w wr:=Jo;obtain ⟨hj,hb⟩:=Jo;show Wc _ _ _ _ _ [(6,str (eB b)),(5,.int .i64 ((od (bx (rung b)) * 2 ^ (v2 (bx (rung b)) - j):Nat):Int)),(4,.int .i64 (dG (rung b)+(j:Int)))] _;have Da:=hb.size;obtain ⟨hp1,hp2,hp3⟩:=Fc ho1 ho2 hml hj;refine ax fun _ m6=>ao fun sF=>ai rfl<|ah (tt rfl rfl (by decide)) rfl<|ah (bA rfl rfl) rfl<|an sF<|aH rfl (fun nM=>?_) (fun nM=>?_)
  ·
   have Az:=nM;simp only [DZ] at nM;have hjt:j<v2 (bx (rung b)):=hp1.1 nM;have hhalf:=hp2 hjt;refine aU<|aw m6<|br<|ao fun qk=>ai rfl<|ah (tq rfl rfl (by decide)) rfl<|am rfl<|an qk<|aR<|ai rfl<|ah (bH rfl rfl (by omega) (by omega)) rfl<|am rfl<|ay<|bS<|fun a_ bn=>abI _ _ (j+1) (by omega) (by repeat first|exact aB|refine au rfl (by first|rfl|exact int_eq (by rw [Nat.sub_zero,←ho1])|exact int_eq (by omega)|exact int_eq hhalf) ?_) ?_ a_ bn
   exact ⟨by omega,hb⟩
  have Az:=nM;simp only [DZ] at nM;have hjt:j=v2 (bx (rung b)):=by have:=mt hp1.2 nM;omega
  have hod:((od (bx (rung b)) * 2 ^ (v2 (bx (rung b)) - j):Nat):Int)=((od (bx (rung b)):Nat):Int):=by rw [hjt,Nat.sub_self,Nat.pow_zero,Nat.mul_one]
  have hol:od (bx (rung b))<9007199254740992:=by omega
  have hl1:=kF (od (bx (rung b))) (by omega);have hl2:=zc (dG (rung b)+(j:Int)) (by omega) (by omega);rw [hod];refine cN<|bD<|bD<|cO<|aw sE<|ao fun Ch=>ai rfl<|ai rfl<|aS uJ rfl rfl (zK _ (by omega) _) rfl ?_
  rintro _ ft ⟨rfl,bp⟩;have us:=bp.size;have hb:=az hb bp;refine ah (dx rfl rfl (by omega)) rfl<|ah (dx rfl rfl (by omega)) rfl<|ai rfl<|aS yd rfl rfl (Ee _ (by omega) (by omega) _) rfl ?_
  rintro _ gu ⟨rfl,bG⟩;have xM:=bG.size;have hb:=az hb bG;refine ah (dx rfl rfl (by omega)) rfl<|am rfl<|an Ch<|aK<|bj rfl rfl ?_
  exact ⟨_,rfl,by rw [ox hnn hr3 hr2,hjt],hb⟩
 have gI:=iQ;simp only [DZ] at iQ;refine aA rfl rfl gI rfl rfl<|ah (bg rfl gI rfl) rfl<|an eR<|pt rfl rfl<|aU<|aw eQ<|ax fun _ t8=>?_
 obtain ⟨e,he⟩:∃e:Nat,e=b / 4503599627370496 % 2048:=⟨_,rfl⟩;obtain ⟨m,hm⟩:∃m:Nat,m=b % 4503599627370496:=⟨_,rfl⟩;have hnn:isNan b=false:=by unfold isNan;simp only [decide_eq_false_iff_not];first|(have:=iQ;omega)|(have:=iQ;have:=aie;omega)
 rw [←he,←hm];refine aR<|am rfl<|an t8<|ax fun _ sI=>ao fun Kx=>ai rfl<|an Kx<|b9 (X:=Unit) (fun u_=> [(4,.int .i64 (e:Int)),(5,.int .i64 (m:Int)),(6,str (eB b))]) (fun u_ wr=>Below w.heap.size w wr) (fun _ P7=>?_) ?_
 ·
  refine aH rfl (fun HA=>?_) (fun HA=>?_)
  ·
   have Ad:=HA;refine aR<|am rfl<|ay<|aY P7 (()) (by repeat first|exact aB|refine au rfl (by first|rfl|exact dw (if_pos Ad).symm|exact dw (if_neg (s4 Ad)).symm) ?_) ?_
   exact hb
  have Ad:=HA;refine aU<|aY P7 (()) (by repeat first|exact aB|refine au rfl (by first|rfl|exact dw (if_pos Ad).symm|exact dw (if_neg (s4 Ad)).symm) ?_) ?_
  exact hb
 rintro u_ wr wO;replace wO:Below w.heap.size w wr:=wO;have hb:=wO;show Wq _ _ _ _ [(4,.int .i64 (e:Int)),(5,.int .i64 (m:Int)),(6,str (eB b))] _;have acX:=hb.size;refine aw sI<|ax fun _ aav=>ao fun Kz=>ai rfl<|ah (bA rfl rfl) rfl<|an Kz<|aH rfl (fun tG=>?_) (fun tG=>?_)
 ·
  have XN:=tG;simp only [DZ] at tG;refine ao fun xo=>ai rfl<|ah (dx rfl rfl (by omega)) rfl<|am rfl<|an xo<|aK<|aQ<|bj rfl rfl ?_
  exact ⟨_,rfl,by rw [pg hnn (by have:=tG;unfold isNan at hnn;simp only [decide_eq_false_iff_not] at hnn;unfold rung;omega)],hb⟩
 have XN:=tG;simp only [DZ] at tG;refine aU<|aw aav<|ax fun _ E5=>ao fun E6=>ai rfl<|ah (bA rfl rfl) rfl<|ai rfl<|cw rfl rfl rfl (fun oP=>?_) (fun oP=>?_)
 ·
  have Bl:=oP;simp only [DZ] at oP;have hr0:m=0→rung b=0:=fun h=>by have:=oP;unfold rung;omega
  refine ai rfl<|aE rfl rfl Bl<|ah (bA rfl rfl) rfl<|ah (bi rfl Bl rfl) rfl<|an E6<|aH rfl (fun tI=>?_) (fun tI=>?_)
  ·
   have X8:=tI;simp only [DZ] at tI;refine ao fun Cp=>ai rfl<|ah (dx rfl rfl (by simp;omega)) rfl<|am rfl<|an Cp<|aK<|aQ<|bj rfl rfl ?_
   exact ⟨_,rfl,by rw [ph hnn (by have:=tI;have:=oP;unfold rung;omega) (by have:=tI;have:=oP;unfold rung;omega)],hb⟩
  have X8:=tI;simp only [DZ] at tI;refine aU<|aw E5<|ax fun _ KH=>ao fun yU=>ai rfl<|ah (bA rfl rfl) rfl<|an yU ?_
  have hr1:rung b<9218868437227405312:=by unfold isNan at hnn;simp only [decide_eq_false_iff_not] at hnn;have:=tG;unfold rung;omega
  have hr2:rung b≠0:=by unfold rung;first|(have:=oP;omega)|(have:=oP;have:=tI;omega)
  have hr3:rung b≠9218868437227405312:=by omega
  refine b9 (X:=Unit) (fun u_=> [(4,.int .i64 (dG (rung b)+1075)),(5,.int .i64 (bx (rung b):Nat)),(6,str (eB b))]) (fun u_ wr=>Below w.heap.size w wr) (fun _ Qa=>?_) ?_
  ·
   refine aH rfl (fun nJ=>?_) (fun nJ=>?_)
   ·
    have Yt:=nJ;simp only [DZ] at nJ;refine aR<|am rfl<|ay<|aY Qa (()) (by repeat first|exact aB|refine au rfl (by first|rfl|exact int_eq (tY he nJ).symm|exact int_eq (tX he hr1 nJ).symm|exact int_eq (uu he hm nJ).symm|exact int_eq (ut he hm nJ).symm) ?_) ?_
    exact hb
   have Yt:=nJ;simp only [DZ] at nJ;refine aR<|ai rfl<|ah (bH rfl rfl (by omega) (by omega)) rfl<|am rfl<|ay<|aY Qa (()) (by repeat first|exact aB|refine au rfl (by first|rfl|exact int_eq (tY he nJ).symm|exact int_eq (tX he hr1 nJ).symm|exact int_eq (uu he hm nJ).symm|exact int_eq (ut he hm nJ).symm) ?_) ?_
   exact hb
  rintro u_ wr JG;replace JG:Below w.heap.size w wr:=JG;have hb:=JG;show Wq _ _ _ _ [(4,.int .i64 (dG (rung b)+1075)),(5,.int .i64 (bx (rung b):Nat)),(6,str (eB b))] _;have LG:=hb.size;obtain ⟨ho1,ho2⟩:=pa _ (qC hr2);have hml:=ri hr1;have hex:=pH hr1;have hv:=qK hr1 hr2;refine aw KH<|ao fun Cq=>ai rfl<|ah (gk rfl rfl (by omega) (by omega)) rfl<|am rfl<|an Cq<|ax fun _ aaE=>br<|cU (X:=Nat) (fun j=> [(6,str (eB b)),(5,.int .i64 ((od (bx (rung b)) * 2 ^ (v2 (bx (rung b)) - j):Nat):Int)),(4,.int .i64 (dG (rung b)+(j:Int)))]) (fun j wr=>j≤v2 (bx (rung b))∧Below w.heap.size w wr) (fun j=>v2 (bx (rung b)) - j) (0) ?_ ?_ ?_
  · exact by repeat first|exact aB|refine au rfl (by first|rfl|exact int_eq (by rw [Nat.sub_zero,←ho1])|exact int_eq (by omega)|exact int_eq hhalf) ?_
  · exact ⟨by omega,hb⟩
  rintro j wr JI _ abO;replace JI:j≤v2 (bx (rung b))∧Below w.heap.size w wr:=JI;obtain ⟨hj,hb⟩:=JI;show Wc _ _ _ _ _ [(6,str (eB b)),(5,.int .i64 ((od (bx (rung b)) * 2 ^ (v2 (bx (rung b)) - j):Nat):Int)),(4,.int .i64 (dG (rung b)+(j:Int)))] _;have Da:=hb.size;obtain ⟨hp1,hp2,hp3⟩:=Fc ho1 ho2 hml hj;refine ax fun _ KM=>ao fun KN=>ai rfl<|ah (tt rfl rfl (by decide)) rfl<|ah (bA rfl rfl) rfl<|an KN<|aH rfl (fun vM=>?_) (fun vM=>?_)
  ·
   have YE:=vM;simp only [DZ] at vM;have hjt:j<v2 (bx (rung b)):=hp1.1 vM;have hhalf:=hp2 hjt;refine aU<|aw KM<|br<|ao fun aaJ=>ai rfl<|ah (tq rfl rfl (by decide)) rfl<|am rfl<|an aaJ<|aR<|ai rfl<|ah (bH rfl rfl (by omega) (by omega)) rfl<|am rfl<|ay<|bS<|fun a_ bn=>abO _ _ (j+1) (by omega) (by repeat first|exact aB|refine au rfl (by first|rfl|exact int_eq (by rw [Nat.sub_zero,←ho1])|exact int_eq (by omega)|exact int_eq hhalf) ?_) ?_ a_ bn
   exact ⟨by omega,hb⟩
  have YE:=vM;simp only [DZ] at vM;have hjt:j=v2 (bx (rung b)):=by have:=mt hp1.2 vM;omega
  have hod:((od (bx (rung b)) * 2 ^ (v2 (bx (rung b)) - j):Nat):Int)=((od (bx (rung b)):Nat):Int):=by rw [hjt,Nat.sub_self,Nat.pow_zero,Nat.mul_one]
  have hol:od (bx (rung b))<9007199254740992:=by omega
  have hl1:=kF (od (bx (rung b))) (by omega);have hl2:=zc (dG (rung b)+(j:Int)) (by omega) (by omega);rw [hod];refine cN<|bD<|bD<|cO<|aw aaE<|ao fun aaP=>ai rfl<|ai rfl<|aS uJ rfl rfl (zK _ (by omega) _) rfl ?_
  rintro _ ft ⟨rfl,bp⟩;have us:=bp.size;have hb:=az hb bp;refine ah (dx rfl rfl (by omega)) rfl<|ah (dx rfl rfl (by simp;omega)) rfl<|ai rfl<|aS yd rfl rfl (Ee _ (by omega) (by omega) _) rfl ?_
  rintro _ gu ⟨rfl,bG⟩;have xM:=bG.size;have hb:=az hb bG;refine ah (dx rfl rfl (by simp;omega)) rfl<|am rfl<|an aaP<|aK<|bj rfl rfl ?_
  exact ⟨_,rfl,by rw [ox hnn hr3 hr2,hjt],hb⟩
 have Bl:=oP;simp only [DZ] at oP;refine aA rfl rfl Bl rfl rfl<|ah (bg rfl Bl rfl) rfl<|an E6<|pt rfl rfl<|aU<|aw E5<|ax fun _ aaR=>ao fun KP=>ai rfl<|ah (bA rfl rfl) rfl<|an KP ?_
 have hr1:rung b<9218868437227405312:=by unfold isNan at hnn;simp only [decide_eq_false_iff_not] at hnn;have:=tG;unfold rung;omega
 have hr2:rung b≠0:=by unfold rung;first|(have:=oP;omega)|(have:=oP;have:=Vo;omega)
 have hr3:rung b≠9218868437227405312:=by omega
 refine b9 (X:=Unit) (fun u_=> [(4,.int .i64 (dG (rung b)+1075)),(5,.int .i64 (bx (rung b):Nat)),(6,str (eB b))]) (fun u_ wr=>Below w.heap.size w wr) (fun _ Qd=>?_) ?_
 ·
  refine aH rfl (fun nK=>?_) (fun nK=>?_)
  ·
   have Yu:=nK;simp only [DZ] at nK;refine aR<|am rfl<|ay<|aY Qd (()) (by repeat first|exact aB|refine au rfl (by first|rfl|exact int_eq (tY he nK).symm|exact int_eq (tX he hr1 nK).symm|exact int_eq (uu he hm nK).symm|exact int_eq (ut he hm nK).symm) ?_) ?_
   exact hb
  have Yu:=nK;simp only [DZ] at nK;refine aR<|ai rfl<|ah (bH rfl rfl (by omega) (by omega)) rfl<|am rfl<|ay<|aY Qd (()) (by repeat first|exact aB|refine au rfl (by first|rfl|exact int_eq (tY he nK).symm|exact int_eq (tX he hr1 nK).symm|exact int_eq (uu he hm nK).symm|exact int_eq (ut he hm nK).symm) ?_) ?_
  exact hb
 rintro u_ wr JR;replace JR:Below w.heap.size w wr:=JR;have hb:=JR;show Wq _ _ _ _ [(4,.int .i64 (dG (rung b)+1075)),(5,.int .i64 (bx (rung b):Nat)),(6,str (eB b))] _;have LG:=hb.size;obtain ⟨ho1,ho2⟩:=pa _ (qC hr2);have hml:=ri hr1;have hex:=pH hr1;have hv:=qK hr1 hr2;refine aw aaR<|ao fun ua=>ai rfl<|ah (gk rfl rfl (by omega) (by omega)) rfl<|am rfl<|an ua<|ax fun _ KT=>br<|cU (X:=Nat) (fun j=> [(6,str (eB b)),(5,.int .i64 ((od (bx (rung b)) * 2 ^ (v2 (bx (rung b)) - j):Nat):Int)),(4,.int .i64 (dG (rung b)+(j:Int)))]) (fun j wr=>j≤v2 (bx (rung b))∧Below w.heap.size w wr) (fun j=>v2 (bx (rung b)) - j) (0) ?_ ?_ ?_
 · exact by repeat first|exact aB|refine au rfl (by first|rfl|exact int_eq (by rw [Nat.sub_zero,←ho1])|exact int_eq (by omega)|exact int_eq hhalf) ?_
 · exact ⟨by omega,hb⟩
 rintro j wr JT _ abT;replace JT:j≤v2 (bx (rung b))∧Below w.heap.size w wr:=JT;obtain ⟨hj,hb⟩:=JT;show Wc _ _ _ _ _ [(6,str (eB b)),(5,.int .i64 ((od (bx (rung b)) * 2 ^ (v2 (bx (rung b)) - j):Nat):Int)),(4,.int .i64 (dG (rung b)+(j:Int)))] _;have Da:=hb.size;obtain ⟨hp1,hp2,hp3⟩:=Fc ho1 ho2 hml hj;refine ax fun _ aaW=>ao fun KV=>ai rfl<|ah (tt rfl rfl (by decide)) rfl<|ah (bA rfl rfl) rfl<|an KV<|aH rfl (fun vO=>?_) (fun vO=>?_)
 ·
  have YF:=vO;simp only [DZ] at vO;have hjt:j<v2 (bx (rung b)):=hp1.1 vO;have hhalf:=hp2 hjt;refine aU<|aw aaW<|br<|ao fun KW=>ai rfl<|ah (tq rfl rfl (by decide)) rfl<|am rfl<|an KW<|aR<|ai rfl<|ah (bH rfl rfl (by omega) (by omega)) rfl<|am rfl<|ay<|bS<|fun a_ bn=>abT _ _ (j+1) (by omega) (by repeat first|exact aB|refine au rfl (by first|rfl|exact int_eq (by rw [Nat.sub_zero,←ho1])|exact int_eq (by omega)|exact int_eq hhalf) ?_) ?_ a_ bn
  exact ⟨by omega,hb⟩
 have YF:=vO;simp only [DZ] at vO;have hjt:j=v2 (bx (rung b)):=by have:=mt hp1.2 vO;omega
 have hod:((od (bx (rung b)) * 2 ^ (v2 (bx (rung b)) - j):Nat):Int)=((od (bx (rung b)):Nat):Int):=by rw [hjt,Nat.sub_self,Nat.pow_zero,Nat.mul_one]
 have hol:od (bx (rung b))<9007199254740992:=by omega
 have hl1:=kF (od (bx (rung b))) (by omega);have hl2:=zc (dG (rung b)+(j:Int)) (by omega) (by omega);rw [hod];refine cN<|bD<|bD<|cO<|aw KT<|ao fun aa2=>ai rfl<|ai rfl<|aS uJ rfl rfl (zK _ (by omega) _) rfl ?_
 rintro _ ft ⟨rfl,bp⟩;have us:=bp.size;have hb:=az hb bp;refine ah (dx rfl rfl (by omega)) rfl<|ah (dx rfl rfl (by simp;omega)) rfl<|ai rfl<|aS yd rfl rfl (Ee _ (by omega) (by omega) _) rfl ?_
 rintro _ gu ⟨rfl,bG⟩;have xM:=bG.size;have hb:=az hb bG;refine ah (dx rfl rfl (by simp;omega)) rfl<|am rfl<|an aa2<|aK<|bj rfl rfl ?_
 exact ⟨_,rfl,by rw [ox hnn hr3 hr2,hjt],hb⟩
end Go.Proofs.YtjmlknjbhbfneaaGreatDoor
