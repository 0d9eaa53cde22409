import Derived.Test.YtjdjliiolchciaaGreatDoorZY
import Derived.Test.YtjdjliiolchciaaGreatDoorZB
import Derived.Test.YtjdjliiolchciaaGreatDoorZShelf
import Derived.Lib.ItoaMem
import Derived.Laws.Slices
import Derived.Laws.IdiomStrings
namespace Go.Proofs.YtjdjliiolchciaaGreatDoor
open Go.RowKit Go.Bw Go.Bw.Fl
set_option linter.unusedVariables false
set_option linter.unusedSimpArgs false
theorem rY:sI Tryz.prog 105 Extern.MathFloatBits.float64bits:=fun args w=>run_callFunc_extern Tryz.func105 (by kernel_rfl) (by kernel_rfl) (by kernel_rfl) (by kernel_rfl) args w
theorem qN:sI Tryz.prog 108 Extern.MathFloatBits.float64frombits:=fun args w=>run_callFunc_extern Tryz.func108 (by kernel_rfl) (by kernel_rfl) (by kernel_rfl) (by kernel_rfl) args w
theorem YK : sI Tryz.prog 153 (Extern.MathFloor.toIntegral "math.archFloor" .down) := fun args w => run_callFunc_extern Tryz.func153 (by kernel_rfl) (by kernel_rfl) (by kernel_rfl) (by kernel_rfl) args w
theorem afe:bB Tryz.prog 104:=⟨_,Tryz.func104,by kernel_rfl,rfl⟩
theorem FP:bB Tryz.prog 117:=⟨_,Tryz.func117,by kernel_rfl,rfl⟩
theorem Ty:bB Tryz.prog 143:=⟨_,Tryz.func143,by kernel_rfl,rfl⟩
theorem TZ:bB Tryz.prog 83:=⟨_,Tryz.func83,by kernel_rfl,rfl⟩
theorem MP (b:Nat):((b:Int) / 2 ^ (52:Int).toNat)=((b / 4503599627370496:Nat):Int):=by
 have:(2:Int) ^ (52:Int).toNat=4503599627370496:=by decide
 rw [this];omega
theorem aez (b:Nat):((b:Int) / 2 ^ (63:Int).toNat)=((b / 9223372036854775808:Nat):Int):=by
 have:(2:Int) ^ (63:Int).toNat=9223372036854775808:=by decide
 rw [this];omega
theorem Of (b:Nat) (h:b<18446744073709551616):bits .and .u64 (b:Int) 2047=((b % 2048:Nat):Int):=by
 have h1:=u64_and_nat b 2047 h (by decide);rw [show ((2047:Nat):Int)=2047 from rfl] at h1;rw [h1,show (2047:Nat)=2 ^ 11 - 1 by decide,Nat.and_two_pow_sub_one_eq_mod]
theorem Og (b:Nat) (h:b<18446744073709551616):bits .and .u64 (b:Int) 4503599627370495=((b % 4503599627370496:Nat):Int):=by
 have h1:=u64_and_nat b 4503599627370495 h (by decide);rw [show ((4503599627370495:Nat):Int)=4503599627370495 from rfl] at h1;rw [h1,show (4503599627370495:Nat)=2 ^ 52 - 1 by decide,Nat.and_two_pow_sub_one_eq_mod]
theorem Yd (b:Nat) (h:b<18446744073709551616):bits .andNot .u64 (b:Int) 9223372036854775808=((b % 9223372036854775808:Nat):Int):=by
 have h1:=u64_andNot_nat b 9223372036854775808 h (by decide);rw [show ((9223372036854775808:Nat):Int)=9223372036854775808 from rfl] at h1;rw [h1,show (18446744073709551615 - 9223372036854775808:Nat)=2 ^ 63 - 1 by decide,Nat.and_two_pow_sub_one_eq_mod]
theorem OJ (b:Nat) (h:b<9223372036854775808):bits .andNot .u64 (b:Int) 9218868437227405312=((b % 4503599627370496:Nat):Int):=by
 have h1:=u64_andNot_nat b 9218868437227405312 (by omega) (by decide);rw [show ((9218868437227405312:Nat):Int)=9218868437227405312 from rfl] at h1;rw [h1]
 congr 1
 have h2:b=b &&& (2 ^ 63 - 1):=by rw [Nat.and_two_pow_sub_one_eq_mod];omega
 conv=>lhs;rw [h2]
 rw [Nat.and_assoc,show ((2 ^ 63 - 1) &&& (18446744073709551615 - 9218868437227405312):Nat)=2 ^ 52 - 1 by decide,Nat.and_two_pow_sub_one_eq_mod]
theorem RH (a b i:Nat) (hb:b<2 ^ i):a * 2 ^ i ||| b=a * 2 ^ i+b:=by
 rw [Nat.mul_comm,Nat.two_pow_add_eq_or_of_lt hb]
theorem adm (b:Nat) (h:b<4503599627370496):bits .or .u64 (b:Int) 4602678819172646912=((4602678819172646912+b:Nat):Int):=by
 have h1:=u64_or_nat b 4602678819172646912 (by omega) (by decide);rw [show ((4602678819172646912:Nat):Int)=4602678819172646912 from rfl] at h1;rw [h1,Nat.or_comm,show (4602678819172646912:Nat)=1022 * 2 ^ 52 by decide,RH _ _ _ (by simpa using h)]
theorem AK (b:Nat) (h:b<9223372036854775808):IntKind.i64.wrap (b:Int)=(b:Int):=wrap_i64 _ (by omega) (by omega)
theorem ab8 (b:Nat):(FloatKind.f64.format.order (rung b) 9218868437227405311==some .gt)=decide (rung b=9218868437227405312):=by
 show (Ieee.double.order (rung b) 9218868437227405311==some .gt)=_;rw [Zl];have h0:rung b<9223372036854775808:=Nat.mod_lt _ (by decide);have h1:isNan 9218868437227405311=false:=by decide
 have h2:rung (rung b)=rung b:=Nat.mod_eq_of_lt h0;have h3:isNan (rung b)=decide (9218868437227405312<rung b):=by unfold isNan;rw [show rung b % 9223372036854775808=rung b from h2]
 have h4:dM (rung b)=false:=by unfold dM;rw [Nat.div_eq_of_lt h0];rfl
 have h5:dM 9218868437227405311=false:=by decide
 have h6:rung 9218868437227405311=9218868437227405311:=by decide
 have h7:val 9218868437227405311<val (rung b)↔9218868437227405311<rung b:=by
  unfold val;rw [h4,h5,h2,h6];simp only [Bool.false_eq_true,if_false];rw [←Gk (r:=9218868437227405311) (s:=rung b)];omega
 rw [h1,h3,show decide (val 9218868437227405311<val (rung b))=decide (9218868437227405311<rung b) from decide_eq_decide.2 h7,Bool.eq_iff_iff];simp only [and_true,Bool.and_eq_true,Bool.not_eq_true',decide_eq_false_iff_not,Bool.not_false,decide_eq_true_eq];omega
theorem NL (w:World):bx Tryz.prog 83 [] w fun v w'=>v= .float .f64 9221120237041090561∧w'=w:=by
 refine enter Tryz.func83 rfl rfl rfl<|am fun aR=>an rfl<|al aR<|am fun bt=>ae (rP qN rfl rfl) rfl<|an rfl<|al bt<|aJ<|bN rfl rfl ?_
 exact ⟨_,rfl,rfl,rfl⟩
theorem VK (b:Nat) (hb:b<18446744073709551616) (w:World):bx Tryz.prog 114 [.float .f64 b] w fun v w'=>v= .bool (dM b)∧w'=w:=by
 refine enter Tryz.func114 rfl rfl rfl<|am fun aR=>an rfl<|al aR<|am fun bt=>ai rfl<|ae (sE rY rfl rfl) rfl<|ae (ll oP Dz rfl) rfl<|ae (dL rfl rfl) rfl<|an rfl<|al bt<|aJ<|bN rfl rfl ?_
 exact ⟨_,rfl,a8 (by
 unfold dM
 rw [IntKind.wrap_i64,Bool.eq_iff_iff]
 simp only [decide_eq_true_eq,beq_iff_eq]
 omega),rfl⟩
theorem DW (b:Nat) (hb:b<18446744073709551616) (w:World):bx Tryz.prog 117 [.float .f64 b] w fun v w'=>v= .float .f64 (rung b)∧w'=w:=by
 refine enter Tryz.func117 rfl rfl rfl<|am fun aR=>an rfl<|al aR<|am fun bt=>ai rfl<|ae (sE rY rfl rfl) rfl<|ae (bW (F3 rfl rfl) (aH (Yd b hb))) rfl<|ae (rP qN rfl rfl) rfl<|an rfl<|al bt<|aJ<|bN rfl rfl ?_
 exact ⟨_,rfl,rfl,rfl⟩
theorem NJ (b:Nat) (w:World):bx Tryz.prog 148 [.float .f64 b] w fun v w'=>v= .bool (isNan b)∧w'=w:=by
 refine enter Tryz.func148 rfl rfl rfl<|am fun aR=>an rfl<|al aR<|am fun bt=>ai rfl<|ai rfl<|ae (Ai rfl rfl) rfl<|an rfl<|al bt<|aJ<|bN rfl rfl ?_
 exact ⟨_,rfl,a8 (by show (!(Ieee.double.order b b==some .eq))=_;rw [AX];simp),rfl⟩
theorem D0 (b:Nat) (hb:b<18446744073709551616) (w:World):bx Tryz.prog 115 [.float .f64 b,.int .i64 0] w fun v w'=>v= .bool (decide (rung b=9218868437227405312))∧w'=w:=by
 refine enter Tryz.func115 rfl rfl rfl<|am fun aR=>an rfl<|al aR<|av fun _ bt=>am fun b8=>ai rfl<|ae (bX rfl rfl) rfl<|al b8<|aO rfl (fun dR=>?_) (fun dR=>?_)
 ·
  refine aQ<|ai rfl<|aD FP rfl rfl (DW b hb _) rfl ?_
  rintro _ _ ⟨rfl,rfl⟩;refine an rfl<|al bt<|am fun dT=>ai rfl<|ae (aha rfl rfl) rfl<|an rfl<|al dT<|aJ<|bN rfl rfl ?_
  exact ⟨_,rfl,a8 (ab8 b),rfl⟩
 have nr:=dR;simp only [DZ] at dR;exact absurd trivial dR
theorem NE (b:Nat) (hn:isNan b=false) (w:World):bx Tryz.prog 118 [.float .f64 b] w fun v w'=>v= .float .f64 (uD b)∧w'=w:=by
 refine enter Tryz.func118 rfl rfl rfl<|am fun aR=>an rfl<|al aR<|av fun _ bt=>yI rfl rfl<|am fun b8=>ai rfl<|ae (ag9 YK rfl rfl (hn)) rfl<|an rfl<|al b8<|aJ<|aX<|bN rfl rfl ?_
 exact ⟨_,rfl,rfl,rfl⟩
theorem NO (b:Nat) (hb:b<18446744073709551616) (w:World):bx Tryz.prog 143 [.float .f64 b] w fun v w'=>v= .tuple #[.bool (dM b),.int .i64 ((b / 4503599627370496 % 2048:Nat):Int),.int .i64 ((b % 4503599627370496:Nat):Int)]∧w'=w:=by
 refine enter Tryz.func143 rfl rfl rfl<|am fun aR=>an rfl<|an rfl<|an rfl<|al aR<|am fun dC=>ai rfl<|ae (sE rY rfl rfl) rfl<|an rfl<|al dC<|am fun dW=>ai rfl<|ae (bW (F7 rfl rfl (by decide) (by decide)) (aH (aez b))) rfl<|ae (bW (bX rfl rfl) (a8 (show ((((b / 9223372036854775808:Nat):Int))==1)=dM b by unfold dM;rw [Bool.eq_iff_iff];simp only [beq_iff_eq];omega))) rfl<|ai rfl<|ae (bW (F7 rfl rfl (by decide) (by decide)) (aH (MP b))) rfl<|ae (bW (Ag rfl rfl) (aH (Of _ (by omega)))) rfl<|ae (bW (ll oP mg rfl) (aH (AK _ (by omega)))) rfl<|ai rfl<|ae (bW (Ag rfl rfl) (aH (Og _ hb))) rfl<|ae (bW (ll oP mg rfl) (aH (AK _ (by omega)))) rfl<|an rfl<|an rfl<|an rfl<|al dW<|aJ<|oh rfl rfl rfl rfl ?_
 exact ⟨_,rfl,rfl,rfl⟩
theorem Vc (b:Nat) (hb:b<18446744073709551616) (w:World):bx Tryz.prog 104 [.float .f64 b] w fun v w'=>v= .bool (isNan b)∧w'=w:=by
 have hk:isNan b=(decide (b / 4503599627370496 % 2048=2047)&&decide (b % 4503599627370496≠0)):=by
  unfold isNan;rw [Bool.eq_iff_iff];simp only [Bool.and_eq_true,decide_eq_true_eq];omega
 refine enter Tryz.func104 rfl rfl rfl<|am fun aR=>an rfl<|al aR<|am fun bt=>ai rfl<|aD Ty rfl rfl (NO b hb _) rfl ?_
 rintro _ _ ⟨rfl,rfl⟩;refine ai rfl<|ae (cu rfl rfl) rfl<|ae (cu rfl rfl) rfl<|ae (cu rfl rfl) rfl<|an rfl<|an rfl<|an rfl<|al bt<|am fun eh=>ai rfl<|ae (bX rfl rfl) rfl<|ai rfl<|cG rfl rfl rfl (fun mp=>?_) (fun mp=>?_)
 ·
  have jT:=mp;simp only [DZ] at mp;refine ai rfl<|ap rfl rfl jT<|ae (fG rfl rfl) rfl<|ae (bo rfl jT rfl) rfl<|an rfl<|al eh<|aJ<|bN rfl rfl ?_
  exact ⟨_,rfl,a8 (by rw [hk,Bool.eq_iff_iff];simp only [Bool.and_eq_true,decide_eq_true_eq,bne_iff_ne,ne_eq];constructor<;>intro h<;>omega),rfl⟩
 have jT:=mp;simp only [DZ] at mp;refine az rfl rfl jT rfl rfl<|ae (bj rfl jT rfl) rfl<|an rfl<|al eh<|aJ<|bN rfl rfl ?_
 exact ⟨_,rfl,a8 (by rw [hk,Bool.eq_iff_iff];simp only [Bool.and_eq_true,decide_eq_true_eq];constructor<;>intro h<;>(first|omega|cases h)),rfl⟩
def jk (b:Nat):Nat:=if isNan b=true then 9221120237041090561 else b
theorem F9 (b:Nat) (hb:b<18446744073709551616) (w:World):bx Tryz.prog 79 [.float .f64 b] w fun v w'=>v= .int .u64 (jk b:Nat)∧w'=w:=by
 refine enter Tryz.func79 rfl rfl rfl<|am fun aR=>an rfl<|al aR<|am fun bt=>ai rfl<|aD afe rfl rfl (Vc b hb _) rfl ?_
 rintro _ _ ⟨rfl,rfl⟩;refine an rfl<|al bt<|av fun _ dV=>am fun eX=>ai rfl<|al eX<|aO rfl (fun dA=>?_) (fun dA=>?_)
 ·
  have lp:=dA;refine am fun dT=>an rfl<|al dT<|aJ<|aX<|bN rfl rfl ?_
  exact ⟨_,rfl,aH (by unfold jk;rw [if_pos lp];rfl),rfl⟩
 have lp:=dA;refine aU<|ax dV<|am fun eh=>ai rfl<|ae (sE rY rfl rfl) rfl<|an rfl<|al eh<|aJ<|bN rfl rfl ?_
 exact ⟨_,rfl,aH (by unfold jk;rw [if_neg (by rw [lp];simp)]),rfl⟩
theorem UH (b:Nat) (w:World):bx Tryz.prog 90 [.float .f64 b] w fun v w'=>v= .float .f64 (jk b)∧w'=w:=by
 have hk:(!(Ieee.double.order b b==some .eq))=isNan b:=by rw [AX];simp
 refine enter Tryz.func90 rfl rfl rfl<|am fun aR=>an rfl<|al aR<|av fun _ bt=>am fun b8=>ai rfl<|ai rfl<|ae (Ai rfl rfl) rfl<|al b8 ?_
 rw [show (FloatKind.f64.format.order b b != some .eq)=isNan b from hk];refine aO rfl (fun d7=>?_) (fun d7=>?_)
 ·
  have oV:=d7;refine am fun dW=>aD TZ rfl rfl (NL _) rfl ?_;rintro _ _ ⟨rfl,rfl⟩;refine an rfl<|al dW<|aJ<|aX<|bN rfl rfl ?_
  exact ⟨_,rfl,by unfold jk;rw [if_pos oV],rfl⟩
 have oV:=d7;refine aU<|ax bt<|am fun dU=>ai rfl<|an rfl<|al dU<|aJ<|bN rfl rfl ?_
 exact ⟨_,rfl,by unfold jk;rw [if_neg (by rw [oV];simp)],rfl⟩
theorem MS:(Tryz.prog.info? 5).map (·.size)=some 1:=by kernel_rfl
theorem afk:bB Tryz.prog 129:=⟨_,Tryz.func129,by kernel_rfl,rfl⟩
theorem afm:bB Tryz.prog 130:=⟨_,Tryz.func130,by kernel_rfl,rfl⟩
theorem afn:bB Tryz.prog 131:=⟨_,Tryz.func131,by kernel_rfl,rfl⟩
theorem afv:bB Tryz.prog 155:=⟨_,Tryz.func155,by kernel_rfl,rfl⟩
theorem Np {P:Program} {w w':World} {name:String} {cs:Array Value} (h:World.var? P w name=some cs) (hb:Below w.heap.size w w'):World.var? P w' name=some cs:=by
 unfold World.var? at h ⊢
 cases hg:P.globalNamed name with
 |none=>rw [hg] at h;cases h
 |some g=>
  rw [hg] at h
  have hlt:g<w.heap.size:=by
   rcases Nat.lt_or_ge g w.heap.size with h1|h1
   · exact h1
   · simp [Array.getElem?_eq_none h1] at h
  simp only [Option.bind_some] at h ⊢;rw [hb.block g hlt];exact h
structure Lb (w:World):Prop where
 tab : Lib.TabIs Tryz.prog w "internal/strconv.uint64pow10" .u64 Lib.pow10Tab
 syn : ∃ tp p, World.var? Tryz.prog w "strconv.ErrSyntax" = some #[.iface tp p]
 rng : ∃ tp p, World.var? Tryz.prog w "strconv.ErrRange" = some #[.iface tp p]
theorem Lb.below {w w':World} (h:Lb w) (hb:Below w.heap.size w w'):Lb w':=
 ⟨Np h.tab hb,h.syn.elim fun tp h1=>h1.elim fun p h2=>⟨tp,p,Np h2 hb⟩,h.rng.elim fun tp h1=>h1.elim fun p h2=>⟨tp,p,Np h2 hb⟩⟩
theorem Oo (w:World) (k:Nat) (os:Array Obj):Below w.heap.size w (Sort.grow (w.drewN k) os):=
 ⟨rfl,rfl,rfl,by show w.heap.size≤(w.heap++os).size;simp,fun i hi=>by show (w.heap++os)[i]? =_;rw [Array.getElem?_append,if_pos hi]⟩
theorem NV {f:FuncId} {args:List Value} {w:World} {v:Value} {R:World→Prop} (h:Calls Tryz.prog f args.toArray w fun e w'=>e= .returned v∧R w') (hR:∀w',R w'→Below w.heap.size w w'):bx Tryz.prog f args w fun u w'=>u=v∧Below w.heap.size w w':=
 h.mono fun e w' ⟨he,hw⟩=>⟨v,he,rfl,hR w' hw⟩
theorem vm {f:FuncId} {args:List Value} {w:World} {v:Value} (h:Calls Tryz.prog f args.toArray w fun e w'=>e= .returned v∧w'=w):bx Tryz.prog f args w fun u w'=>u=v∧w'=w:=
 h.mono fun e w' ⟨he,hw⟩=>⟨v,he,rfl,hw⟩
theorem NK (n:Int) (h0: -9223372036854775808≤n) (h1:n≤9223372036854775807) (w:World) (hL:Lb w):bx Tryz.prog 120 [.int .i64 n] w fun v w'=>v=str (Lib.itoa n)∧Below w.heap.size w w':=
 NV (Tryz.strconv_Itoa n h0 h1 w hL.tab) fun w' ⟨k,os,e⟩=>e ▸ Oo w k os
theorem U1 (n:Int) (h0: -9223372036854775808≤n) (h1:n≤9223372036854775807) (w:World) (hL:Lb w):bx Tryz.prog 69 [.int .i64 n,.int .i64 10] w fun v w'=>v=str (Lib.itoa n)∧Below w.heap.size w w':=
 NV (Tryz.strconv_FormatInt_10 n h0 h1 w hL.tab) fun w' ⟨k,os,e⟩=>e ▸ Oo w k os
theorem DY (s p:ao) (w:World):bx Tryz.prog 46 [str s,str p] w fun v w'=>v= .bool (Lib.hasPrefix s p)∧w'=w:=vm (Tryz.strings_HasPrefix ⟨s.toArray⟩ ⟨p.toArray⟩ w)
theorem NX (s p:ao) (w:World):bx Tryz.prog 67 [str s,str p] w fun v w'=>v=str (Lib.trimPrefix s p)∧w'=w:=vm (Tryz.strings_TrimPrefix ⟨s.toArray⟩ ⟨p.toArray⟩ w)
theorem UK (s p:ao) (w:World):bx Tryz.prog 82 [str s,str p] w fun v w'=>v= .tuple #[str (Lib.trimPrefix s p),.bool (Lib.hasPrefix s p)]∧w'=w:=vm (Tryz.strings_CutPrefix ⟨s.toArray⟩ ⟨p.toArray⟩ w)
theorem U3 (s:ao) (c:Int) (w:World):bx Tryz.prog 19 [str s,.int .u8 c] w fun v w'=>v= .int .i64 (Lib.indexByte s c.toNat.toUInt8)∧w'=w:=vm (Tryz.strings_IndexByte ⟨s.toArray⟩ c w)
theorem abR {w:World} {g:Nat} {e:TypeId} (h:ak w g e Lib.zeros24.toList) (nd:Nat) (hn:nd≤24):Sort.Holds (fun (b:UInt8)=>Value.int .u8 (b.toNat:Int)) w g 0 (Array.replicate nd (0:UInt8)):=fun j hj=>by
 have hj':j<nd:=by simpa using hj
 refine ⟨?_,h.frozen _⟩;rw [h.cell,Nat.zero_add,Array.getElem?_toList,Lib.zeros24_at _ (by omega),getElem!_pos _ j hj];simp
theorem Zc (g cap u nd:Nat) (w:World) (hu:u<18446744073709551616) (hnd:nd=Lib.nDigits u) (hc:nd≤24) (hH:Sort.Holds (fun (b:UInt8)=>Value.int .u8 (b.toNat:Int)) w g 0 (Array.replicate nd (0:UInt8))):
 bx Tryz.prog 131 [.slice (some ⟨g,0,none⟩) nd cap,.int .u64 u] w fun v w'=>v= .tuple #[]∧(∀j (hj:j<(Lib.decDigits u).length),w'.cell? ((⟨g,0,none⟩:Addr).add j)=some (.int .u8 ((Lib.decDigits u)[j].toNat:Int)))∧w.grownBy w' (some g):=by
 have h:=Tryz.internal_strconv_formatBase10 g 0 cap u (Array.replicate nd 0) w hH (by rw [Array.size_replicate,hnd];exact Lib.lt_pow_nDigits u) hu (by rw [Array.size_replicate];omega)
 rw [Array.size_replicate] at h
 refine Calls.mono h fun e w' ⟨he,n,v',dk,hw,hF⟩=>⟨_,he,rfl,fun j hj=>?_,?_⟩
 · subst hw
   rw [Lib.row_is_numeral (hnd ▸ hF) j hj,uf,World.cell?_drewN]
   have hd:dk.size=nd:=hF.size
   have:=Sort.cell?_putRow (fun (b:UInt8)=>Value.int .u8 (b.toNat:Int)) w g 0 _ dk hH (by rw [hd,Array.size_replicate]) j (by rw [hd,hnd];rwa [Lib.decDigits_length] at hj)
   rwa [Nat.zero_add] at this
 · subst hw
   refine ⟨rfl,rfl,rfl,?_,fun k hk hne=>?_⟩
   · show _≤(Sort.mapBlock w g _).heap.size
     simp [Sort.mapBlock]
   · show (Sort.mapBlock w g _).heap[k]? =_
     have:g≠k:=fun e=>hne (by rw [e])
     simp only [Sort.mapBlock,Array.getElem?_modify,if_neg this]
theorem adP {w:World} {p:Addr} {l:ao} (h:∀j (hj:j<l.length),w.cell? (p.add j)=some (.int .u8 (l[j].toNat:Int))) {n:Nat} (hn:n=l.length):Rd w 1 (some p) n (jb l):=
 ⟨by rw [yv,Nat.mul_one,hn],fun _=>⟨_,rfl,fun j u hu=>by
  obtain ⟨hj,e⟩:=List.getElem?_eq_some_iff.1 hu
  rw [yv] at hj
  rw [h j hj,←e]
  simp [jb]⟩⟩
theorem ab3 (u:Nat) (hu:u<18446744073709551616) (w:World) (hL:Lb w):bx Tryz.prog 155 [.int .u64 u,.int .i64 10] w fun v w'=>v=str (Lib.decDigits u)∧Below w.heap.size w w':=by
 have h20:1≤u→Lib.nDigits u≤20:=fun h1=>by have:=Lib.numDigits_eq u h1 hu;split at this<;>omega
 have hb:=Below.refl w.heap.size w;have ce:=hL;refine enter Tryz.func155 rfl rfl rfl<|am fun aR=>an rfl<|al aR<|av fun _ bt=>am fun b8=>ai rfl<|ae (bX rfl rfl) rfl<|al b8<|aO rfl (fun dR=>?_) (fun dR=>?_)
 ·
  have nr:=dR;simp only [DZ] at dR;refine av fun _ eX=>am fun dW=>ai rfl<|ae (dL rfl rfl) rfl<|al dW<|aO rfl (fun jC=>?_) (fun jC=>?_)
  ·
   have GS:=jC;simp only [DZ] at jC;refine am fun eh=>ai rfl<|ae (bW (ll oP mg rfl) (aH (AK u (by have:=jC;omega)))) rfl<|aD afk rfl rfl (vm (Tryz.internal_strconv_small u (by have:=jC;omega) _)) rfl ?_
   rintro _ w_ ⟨rfl,bV⟩;have bV:=bV.symm;subst bV;refine an rfl<|al eh<|aJ<|aX (aX ?_)
   refine bN rfl rfl ?_;exact ⟨_,rfl,rfl,hb⟩
  have GS:=jC;simp only [DZ] at jC;have hu1:1≤u:=by omega
  have hnd:=h20 hu1;refine aU<|ax eX<|am fun dG=>bT (z:=(.agg #[(.int .u8 0),(.int .u8 0),(.int .u8 0),(.int .u8 0),(.int .u8 0),(.int .u8 0),(.int .u8 0),(.int .u8 0),(.int .u8 0),(.int .u8 0),(.int .u8 0),(.int .u8 0),(.int .u8 0),(.int .u8 0),(.int .u8 0),(.int .u8 0),(.int .u8 0),(.int .u8 0),(.int .u8 0),(.int .u8 0),(.int .u8 0),(.int .u8 0),(.int .u8 0),(.int .u8 0)])) (by kernel_rfl) rfl ?_
  rintro fJ Ae qf cq gc;have:=gc.size;have hb:=aZ hb gc;have hL:=ce.below hb;have:=cq.lt;refine al dG<|am fun eM=>ai rfl<|aD afm rfl rfl (vm (Tryz.internal_strconv_numDigits u hu1 hu _ hL.tab)) rfl ?_
  rintro _ w_ ⟨rfl,bV⟩;have bV:=bV.symm;subst bV;refine an rfl<|al eM<|am fun fT=>ai rfl<|ae (UB T6 MS rfl rfl (by omega) (by omega)) rfl<|ai rfl<|aD afn rfl rfl (Zc fJ 24 u (Lib.nDigits u) _ hu rfl (by omega) (abR cq (Lib.nDigits u) (by omega))) rfl ?_
  rintro _ w3 ⟨rfl,hfm,hg3⟩;refine al fT<|am fun fD=>ai rfl<|ae (UB T6 MS rfl rfl (by omega) (by omega)) rfl<|aG (so jN kV bI rfl (by exact adP hfm (by rw [Lib.decDigits_length];simp))) rfl<|an rfl<|al fD<|aJ<|aX<|bN rfl rfl ?_
  exact ⟨_,rfl,rfl,cf hb hg3 hb.size (by omega)⟩
 cases dR
theorem NF (u:Nat) (hu:u<18446744073709551616) (w:World) (hL:Lb w):bx Tryz.prog 119 [.int .u64 u,.int .i64 10] w fun v w'=>v=str (Lib.decDigits u)∧Below w.heap.size w w':=by
 have hb:=Below.refl w.heap.size w;refine enter Tryz.func119 rfl rfl rfl<|am fun aR=>an rfl<|al aR<|am fun bt=>ai rfl<|ai rfl<|aD afv rfl rfl (ab3 u hu _ hL) rfl ?_
 rintro _ cB ⟨rfl,aw⟩;have:=aw.size;have hb:=aZ hb aw;refine an rfl<|al bt<|aJ<|bN rfl rfl ?_
 exact ⟨_,rfl,rfl,hb⟩
theorem ml (u:Nat) (hu:u<18446744073709551616):(Lib.decDigits u).length≤20:=by
 rw [Lib.decDigits_length]
 rcases Nat.eq_zero_or_pos u with h|h
 · subst h;rw [Lib.nDigits_small (by decide)];decide
 · have:=Lib.numDigits_eq u h hu;split at this<;>omega
theorem zr (n:Int) (h0: -9223372036854775808≤n) (h1:n≤9223372036854775807):(Lib.itoa n).length≤21:=by
 unfold Lib.itoa;split
 · have:=ml n.natAbs (by omega);simp;omega
 · have:=ml n.toNat (by omega);omega
theorem afj:bB Tryz.prog 114:=⟨_,Tryz.func114,by kernel_rfl,rfl⟩
theorem FO:bB Tryz.prog 115:=⟨_,Tryz.func115,by kernel_rfl,rfl⟩
theorem Tp:bB Tryz.prog 116:=⟨_,Tryz.func116,by kernel_rfl,rfl⟩
theorem Tq:bB Tryz.prog 118:=⟨_,Tryz.func118,by kernel_rfl,rfl⟩
theorem Tr:bB Tryz.prog 119:=⟨_,Tryz.func119,by kernel_rfl,rfl⟩
theorem Tt:bB Tryz.prog 120:=⟨_,Tryz.func120,by kernel_rfl,rfl⟩
theorem Tz:bB Tryz.prog 148:=⟨_,Tryz.func148,by kernel_rfl,rfl⟩
theorem TA:bB Tryz.prog 149:=⟨_,Tryz.func149,by kernel_rfl,rfl⟩
theorem afu:bB Tryz.prog 152:=⟨_,Tryz.func152,by kernel_rfl,rfl⟩
theorem FJ {r:Nat} (h:r<9218868437227405313):rung r=r:=Nat.mod_eq_of_lt (by omega)
theorem neg_pos {r:Nat} (h:r<9218868437227405313):dM r=false:=by unfold dM;rw [Nat.div_eq_of_lt (by omega)];rfl
theorem C4 {r:Nat} (h:r<9218868437227405313):isNan r=false:=by unfold isNan;rw [Nat.mod_eq_of_lt (by omega)];simp;omega
theorem Ue {r:Nat} (h:r<9218868437227405313):val r=(V r:Int):=by unfold val;rw [neg_pos h,FJ h];rfl
theorem acO {r s:Nat} (h:r<9218868437227405313) (hs:s<9218868437227405313):(Ieee.double.order r s==some .lt)=decide (r<s):=by
 rw [acP,C4 h,C4 hs,Ue h,Ue hs];simp only [Bool.not_false,Bool.true_and]
 apply decide_eq_decide.2
 rw [←Gk (r:=r)];omega
theorem IX (b:Nat):(Ieee.double.order b 0==some .eq)=(!isNan b&&decide (rung b=0)):=by
 have h0:val 0=0:=by decide
 have h1:isNan 0=false:=by decide
 rw [AX,h0,h1];simp only [Bool.not_false,Bool.and_true]
 congr 1
 exact decide_eq_decide.2 agz
theorem Rp (b:Nat):(FloatKind.f64.format.order b b != some .eq)=isNan b:=by
 show (!(Ieee.double.order b b==some .eq))=_;rw [AX];simp
theorem Rs (r:Nat) (h0:r≠0) (h1:r<9218868437227405312) (w:World):bx Tryz.prog 149 [.float .f64 r] w fun v w'=>(∃r' s,v= .tuple #[.float .f64 r',.int .i64 s]∧NM r r' s)∧w'=w:=by
 have hr:rung r=r:=FJ (by omega);have hc:(FloatKind.f64.format.order (rung r) 4503599627370496==some .lt)=decide (r<4503599627370496):=by rw [hr];exact acO (by omega) (by decide)
 obtain ⟨r',hr'⟩:∃r',r<4503599627370496→(r'<9218868437227405312∧4503599627370496≤r'∧V r'=r * 2 ^ 52∧floatBits .mul .f64 r 4841369599423283200=some r'):=by
  by_cases h:r<4503599627370496
  · obtain ⟨r',a,b,_,c,d⟩:=ac7 h0 h
    exact ⟨r',fun _=>⟨a,b,c,d⟩⟩
  · exact ⟨0,fun h'=>absurd h' h⟩
 refine enter Tryz.func149 rfl rfl rfl<|am fun aR=>an rfl<|an rfl<|al aR<|av fun _ b8=>am fun dC=>ai rfl<|aD FP rfl rfl (DW r (by omega) _) rfl ?_
 rintro _ _ ⟨rfl,rfl⟩;refine ae (Uy rfl rfl) rfl<|al dC ?_
 rw [hc];refine aO rfl (fun eV=>?_) (fun eV=>?_)
 ·
  have ky:=eV;simp only [DZ] at eV;refine am fun fZ=>ai rfl<|ae (F6 rfl rfl ((hr' eV).2.2.2)) rfl<|an rfl<|an rfl<|al fZ<|aJ<|aX<|fm rfl rfl rfl ?_
  exact ⟨_,rfl,⟨_,_,rfl,(hr' eV).1,(hr' eV).2.1,.inl ⟨eV,rfl,(hr' eV).2.2.1⟩⟩,rfl⟩
 have ky:=eV;simp only [DZ] at eV;refine aU<|ax b8<|am fun eL=>ai rfl<|an rfl<|an rfl<|al eL<|aJ<|fm rfl rfl rfl ?_
 exact ⟨_,rfl,⟨_,_,rfl,h1,Nat.le_of_not_lt eV,.inr ⟨Nat.le_of_not_lt eV,rfl,rfl⟩⟩,rfl⟩
theorem Zd (r:Nat) (h0:r≠0) (h1:r<9218868437227405312) (w:World):bx Tryz.prog 152 [.float .f64 r] w fun v w'=>(∃M e,v= .tuple #[.float .f64 (Wk 0 M),.int .i64 e]∧Ga r M e∧-2000≤e∧e≤2000)∧w'=w:=by
 have hr:rung r=r:=FJ (by omega)
 have hc0:(FloatKind.f64.format.order r 0==some .eq)=false:=by
  have:=IX r;rw [hr,decide_eq_false h0,Bool.and_false] at this;exact this
 refine enter Tryz.func152 rfl rfl rfl<|am fun aR=>an rfl<|an rfl<|al aR<|av fun _ b8=>b4<|am fun dC=>ai rfl<|ae (F4 rfl rfl) rfl<|an rfl<|al dC ?_
 rw [hc0];refine aO rfl (fun eV=>?_) (fun eV=>?_)
 ·
  have ky:=eV
  cases ky
 refine am fun fZ=>ai rfl<|aD FO rfl rfl (D0 r (by omega) _) rfl ?_
 rintro _ _ ⟨rfl,rfl⟩;rw [hr,decide_eq_false (by omega)];refine ai rfl<|dy rfl rfl rfl (fun f9=>?_) (fun f9=>?_)
 ·
  have o7:=f9
  cases o7
 refine ai rfl<|ap rfl rfl f9<|aD Tz rfl rfl (NJ r _) rfl ?_
 rintro _ _ ⟨rfl,rfl⟩;rw [C4 (by omega)];refine ae (bj rfl f9 rfl) rfl<|an rfl<|al fZ<|aO rfl (fun OA=>?_) (fun OA=>?_)
 ·
  have W9:=OA
  cases W9
 refine aU<|cD<|ax b8<|am fun eM=>ai rfl<|aD TA rfl rfl (Rs r h0 h1 _) rfl ?_
 rintro _ _ ⟨⟨r',s,rfl,hN⟩,rfl⟩;have hq1:=hN.1;have hq2:r' / 4503599627370496<2047:=by omega
 have hq4:1≤r' / 4503599627370496:=by have:=hN.2.1;omega
 have hq3:s= -52∨s=0:=by rcases hN.2.2 with h|h<;>simp [h.2.1]
 refine ai rfl<|ae (cu rfl rfl) rfl<|ae (cu rfl rfl) rfl<|an rfl<|an rfl<|al eM<|am fun fu=>ai rfl<|ae (sE rY rfl rfl) rfl<|an rfl<|al fu<|am fun gP=>ai rfl<|ai rfl<|ae (bW (F7 rfl rfl (by decide) (by decide)) (aH (MP r'))) rfl<|ae (bW (Ag rfl rfl) (aH ((Of _ (by omega)).trans (by rw [Nat.mod_eq_of_lt (show r' / 4503599627370496<2048 by omega)])))) rfl<|ae (bW (ll oP mg rfl) (aH (AK _ (by omega)))) rfl<|ae (iQ rfl rfl (by omega) (by omega)) rfl<|ae (ct rfl rfl (by omega) (by omega)) rfl<|ae (ct rfl rfl (by omega) (by omega)) rfl<|an rfl<|al gP<|am fun lL=>ai rfl<|ae (bW (F3 rfl rfl) (aH (OJ r' (by omega)))) rfl<|an rfl<|al lL<|am fun oB=>ai rfl<|ae (bW (yB rfl rfl) (aH (adm _ (Nat.mod_lt _ (by decide))))) rfl<|an rfl<|al oB<|am fun pn=>ai rfl<|ae (rP qN rfl rfl) rfl<|an rfl<|al pn<|aJ<|fm rfl rfl rfl ?_
 exact ⟨_,rfl,⟨4503599627370496+r' % 4503599627370496,s+(((r' / 4503599627370496:Nat):Int) - 1022),by
 rw [Int.toNat_natCast,show Wk 0 (4503599627370496+r' % 4503599627370496)=4602678819172646912+r' % 4503599627370496 by unfold Wk;omega]
 rw [show s+(((r' / 4503599627370496:Nat):Int) - 1023+1)=s+(((r' / 4503599627370496:Nat):Int) - 1022) by omega],Ze h0 hN,by omega,by omega⟩,rfl⟩
theorem NG (r:Nat) (h0:r≠0) (h1:r<9218868437227405312) (w:World):bx Tryz.prog 116 [.float .f64 r] w fun v w'=>(∃M e,v= .tuple #[.float .f64 (Wk 0 M),.int .i64 e]∧Ga r M e∧-2000≤e∧e≤2000)∧w'=w:=by
 refine enter Tryz.func116 rfl rfl rfl<|am fun aR=>an rfl<|an rfl<|al aR<|av fun _ b8=>oU rfl rfl<|aU<|ax b8<|am fun dC=>ai rfl<|aD afu rfl rfl (Zd r h0 h1 _) rfl ?_
 rintro _ _ ⟨⟨M,e,rfl,hF⟩,rfl⟩;refine ae (cu rfl rfl) rfl<|ae (cu rfl rfl) rfl<|an rfl<|an rfl<|al dC<|aJ<|fm rfl rfl rfl ?_
 exact ⟨_,rfl,⟨M,e,rfl,hF⟩,rfl⟩
theorem SQ (b:Nat):(fN b).length≤1:=by unfold fN;split<;>simp
theorem tL {b:Bool} (h:b=false):¬b=true:=by simp [h]
theorem MU {b:Nat} (h:isNan b=true):str [110,97,110]=str (ec b):=by unfold ec;rw [if_pos h]
theorem rK {b:Nat} (h:isNan b=false) (h2:rung b=9218868437227405312):ec b=fN b++ [105,110,102]:=by unfold ec;rw [if_neg (tL h),if_pos h2]
theorem rL {b:Nat} (h:isNan b=false) (h2:¬rung b=9218868437227405312) (h3:rung b=0):ec b=fN b++ [48,112,48]:=by unfold ec;rw [if_neg (tL h),if_neg h2,if_pos h3]
theorem qs {b:Nat} (h:isNan b=false) (h2:¬rung b=9218868437227405312) (h3:¬rung b=0):ec b=fN b++Lib.decDigits (od (b7 (rung b)))++ [112]++Lib.itoa (eE (rung b)+v2 (b7 (rung b))):=by unfold ec;rw [if_neg (tL h),if_neg h2,if_neg h3]
theorem VO (b:Nat) (hb0:b<18446744073709551616) (w:World) (hL:Lb w):bx Tryz.prog 89 [.float .f64 b] w fun v w'=>v=str (ec b)∧Below w.heap.size w w':=by
 have hz:(FloatKind.f64.format.order b 0==some .eq)=(!isNan b&&decide (rung b=0)):=IX b;have hsl:=SQ b;have hb:=Below.refl w.heap.size w;have ce:=hL;refine enter Tryz.func89 rfl rfl rfl<|am fun aR=>an rfl<|al aR<|am fun bt=>an rfl<|al bt<|av fun _ dC=>am fun fi=>ai rfl<|aD afj rfl rfl (VK b hb0 _) rfl ?_
 rintro _ w_ ⟨rfl,bV⟩;have bV:=bV.symm;subst bV;refine al fi<|aO rfl (fun eV=>?_) (fun eV=>?_)
 ·
  have ky:=eV;have hs:fN b= [45]:=if_pos ky;refine aQ<|an rfl<|al dC<|av fun _ dT=>b4<|am fun dU=>ai rfl<|ai rfl<|ae (Ai rfl rfl) rfl<|an rfl<|al dU ?_
  rw [Rp];refine aO rfl (fun yQ=>?_) (fun yQ=>?_)
  ·
   have vG:=yQ;refine am fun dG=>an rfl<|al dG<|aJ<|co (aX ?_)
   refine bN rfl rfl ?_;exact ⟨_,rfl,MU vG,hb⟩
  have vG:=yQ;refine am fun eM=>ai rfl<|aD FO rfl rfl (D0 b hb0 _) rfl ?_
  rintro _ w_ ⟨rfl,bV⟩;have bV:=bV.symm;subst bV;refine an rfl<|al eM<|aO rfl (fun sW=>?_) (fun sW=>?_)
  ·
   have Xf:=sW;simp only [DZ] at sW;refine am fun gu=>ai rfl<|ae (eu rfl rfl (by simp;done)) rfl<|an rfl<|al gu<|aJ<|co (aX ?_)
   refine bN rfl rfl ?_;exact ⟨_,rfl,by rw [rK vG sW,hs],hb⟩
  have Xf:=sW;simp only [DZ] at sW;refine am fun fD=>ai rfl<|ae (F4 rfl rfl) rfl<|an rfl<|al fD ?_
  rw [hz,vG,Bool.not_false,Bool.true_and];refine aO rfl (fun ul=>?_) (fun ul=>?_)
  ·
   have Xo:=ul;simp only [DZ] at ul;refine am fun im=>ai rfl<|ae (eu rfl rfl (by simp;done)) rfl<|an rfl<|al im<|aJ<|co (aX ?_)
   refine bN rfl rfl ?_;exact ⟨_,rfl,by rw [rL vG sW ul,hs],hb⟩
  have Xo:=ul;simp only [DZ] at ul;have hr0:rung b≠0:=ul;have hr1:rung b<9218868437227405312:=by have h5:isNan b=false:=vG;have h6:rung b≤9218868437227405312:=by {simpa [isNan,rung] using h5};have h7:=sW;omega
  refine aU<|cD<|ax dT<|am fun kj=>ai rfl<|aD FP rfl rfl (DW b hb0 _) rfl ?_
  rintro _ w_ ⟨rfl,bV⟩;have bV:=bV.symm;subst bV;refine aD Tp rfl rfl (NG (rung b) hr0 hr1 _) rfl ?_;rintro _ w_ ⟨⟨M,e,rfl,⟨hM,s,hs52,hMs,hes⟩,he0,he1⟩,bV⟩;have bV:=bV.symm;subst bV;refine ai rfl<|ae (cu rfl rfl) rfl<|ae (cu rfl rfl) rfl<|an rfl<|an rfl<|al kj<|av fun _ mE=>b4 ?_
  have hod:=(qm _ (rF hr0)).2;have hdv:∀k,k≤53→(2 ^ (53 - k) ∣ M↔53 - k≤s):=fun k _=>by rw [hMs];exact AW hod
  refine d9 (X:=Nat) (fun k=> [(3,str (fN b)),(4,.float .f64 (Wk k M)),(5,.int .i64 (e - (k:Int)))]) (fun k wr=>k+s≤53∧w=wr) (fun k=>53 - k) (0) ?_ ?_ ?_
  · exact by repeat first|exact aC|refine aA rfl (by first|rfl|exact d5 hs.symm|exact d5 hs|exact aH (by omega)|exact aH (by simp)) ?_
  · exact ⟨by omega,rfl⟩
  rintro k wr J7 _ aax;replace J7:k+s≤53∧w=wr:=J7;obtain ⟨hk,bV⟩:=J7;show Wc _ _ _ _ _ [(3,str (fN b)),(4,.float .f64 (Wk k M)),(5,.int .i64 (e - (k:Int)))] _;have hL:=ce.below hb;have CS:=hb.size;subst bV;have hb:=Below.refl w.heap.size w;refine av fun _ pn=>am fun m6=>ai rfl<|ai rfl<|aD Tq rfl rfl (NE (Wk k M) (Gm hM (by omega)) _) rfl ?_
  rintro _ w_ ⟨rfl,bV⟩;have bV:=bV.symm;subst bV;refine ae (Ai rfl rfl) rfl<|al m6 ?_
  rw [show (FloatKind.f64.format.order (Wk k M) (uD (Wk k M)) != some .eq)= !decide (2 ^ (53 - k) ∣ M) from congrArg (fun x=> !x) (Us hM (by omega))];refine aO rfl (fun wa=>?_) (fun wa=>?_)
  ·
   have XE:=wa;simp only [DZ] at wa;have hkl:=mt (hdv k (by omega)).2 wa;refine aU<|ax pn<|b4<|am fun pp=>ai rfl<|ae (F6 rfl rfl (mul_two hM (by omega))) rfl<|an rfl<|al pp<|aQ<|ai rfl<|ae (iQ rfl rfl (by omega) (by omega)) rfl<|an rfl<|ay<|cD<|fun a_ bM=>aax _ _ (k+1) (by omega) (by repeat first|exact aC|refine aA rfl (by first|rfl|exact d5 hs.symm|exact d5 hs|exact aH (by omega)|exact aH (by simp)) ?_) ?_ a_ bM
   exact ⟨by omega,rfl⟩
  have XE:=wa;simp only [DZ] at wa;have hkd:=(hdv k (by omega)).1 wa;have hks:53 - k=s:=by omega
  have hq:M / 2 ^ (53 - k)=od (b7 (rung b)):=by rw [hks,hMs,Nat.mul_div_cancel _ (Nat.two_pow_pos s)]
  have hee:e - (k:Int)=eE (rung b)+v2 (b7 (rung b)):=by omega
  have hM2:M / 2 ^ (53 - k)<9007199254740992:=Nat.lt_of_le_of_lt (Nat.div_le_self _ _) hM.hi;have hl1:=ml (M / 2 ^ (53 - k)) (by omega);have hl2:=zr (e - (k:Int)) (by omega) (by omega);refine d2<|cj<|cj<|d3<|ax mE<|am fun Cm=>ai rfl<|ai rfl<|ae (Ux (by kernel_rfl) oP rfl (QE hM (by omega))) rfl<|aD Tr rfl rfl (NF _ (by omega) _ hL) rfl ?_
  rintro _ lW ⟨rfl,cm⟩;have LH:=cm.size;have hb:=aZ hb cm;have hL:=ce.below hb;refine ae (eu rfl rfl (by omega)) rfl<|ae (eu rfl rfl (by simp;omega)) rfl<|ai rfl<|aD Tt rfl rfl (NK _ (by omega) (by omega) _ hL) rfl ?_
  rintro _ lX ⟨rfl,cy⟩;have CR:=cy.size;have hb:=aZ hb cy;have hL:=ce.below hb;refine ae (eu rfl rfl (by simp;omega)) rfl<|an rfl<|al Cm<|aJ<|bN rfl rfl ?_
  exact ⟨_,rfl,by rw [qs vG sW ul,hq,hee],hb⟩
 have ky:=eV;have hs:fN b= []:=if_neg (by rw [ky];simp);refine aU<|ax dC<|av fun _ nT=>b4<|am fun nU=>ai rfl<|ai rfl<|ae (Ai rfl rfl) rfl<|an rfl<|al nU ?_
 rw [Rp];refine aO rfl (fun G8=>?_) (fun G8=>?_)
 ·
  have vM:=G8;refine am fun Cp=>an rfl<|al Cp<|aJ<|co (aX ?_)
  refine bN rfl rfl ?_;exact ⟨_,rfl,MU vM,hb⟩
 have vM:=G8;refine am fun mH=>ai rfl<|aD FO rfl rfl (D0 b hb0 _) rfl ?_
 rintro _ w_ ⟨rfl,bV⟩;have bV:=bV.symm;subst bV;refine an rfl<|al mH<|aO rfl (fun oW=>?_) (fun oW=>?_)
 ·
  have AE:=oW;simp only [DZ] at oW;refine am fun rr=>ai rfl<|ae (eu rfl rfl (by simp;done)) rfl<|an rfl<|al rr<|aJ<|co (aX ?_)
  refine bN rfl rfl ?_;exact ⟨_,rfl,by rw [rK vM oW,hs],hb⟩
 have AE:=oW;simp only [DZ] at oW;refine am fun px=>ai rfl<|ae (F4 rfl rfl) rfl<|an rfl<|al px ?_
 rw [hz,vM,Bool.not_false,Bool.true_and];refine aO rfl (fun uo=>?_) (fun uo=>?_)
 ·
  have Xx:=uo;simp only [DZ] at uo;refine am fun py=>ai rfl<|ae (eu rfl rfl (by simp;done)) rfl<|an rfl<|al py<|aJ<|co (aX ?_)
  refine bN rfl rfl ?_;exact ⟨_,rfl,by rw [rL vM oW uo,hs],hb⟩
 have Xx:=uo;simp only [DZ] at uo;have hr0:rung b≠0:=uo;have hr1:rung b<9218868437227405312:=by have h5:isNan b=false:=vM;have h6:rung b≤9218868437227405312:=by {simpa [isNan,rung] using h5};have h7:=oW;omega
 refine aU<|cD<|ax nT<|am fun pm=>ai rfl<|aD FP rfl rfl (DW b hb0 _) rfl ?_
 rintro _ w_ ⟨rfl,bV⟩;have bV:=bV.symm;subst bV;refine aD Tp rfl rfl (NG (rung b) hr0 hr1 _) rfl ?_;rintro _ w_ ⟨⟨M,e,rfl,⟨hM,s,hs52,hMs,hes⟩,he0,he1⟩,bV⟩;have bV:=bV.symm;subst bV;refine ai rfl<|ae (cu rfl rfl) rfl<|ae (cu rfl rfl) rfl<|an rfl<|an rfl<|al pm<|av fun _ Zw=>b4 ?_
 have hod:=(qm _ (rF hr0)).2;have hdv:∀k,k≤53→(2 ^ (53 - k) ∣ M↔53 - k≤s):=fun k _=>by rw [hMs];exact AW hod
 refine d9 (X:=Nat) (fun k=> [(3,str (fN b)),(4,.float .f64 (Wk k M)),(5,.int .i64 (e - (k:Int)))]) (fun k wr=>k+s≤53∧w=wr) (fun k=>53 - k) (0) ?_ ?_ ?_
 · exact by repeat first|exact aC|refine aA rfl (by first|rfl|exact d5 hs.symm|exact d5 hs|exact aH (by omega)|exact aH (by simp)) ?_
 · exact ⟨by omega,rfl⟩
 rintro k wr Jt _ aai;replace Jt:k+s≤53∧w=wr:=Jt;obtain ⟨hk,bV⟩:=Jt;show Wc _ _ _ _ _ [(3,str (fN b)),(4,.float .f64 (Wk k M)),(5,.int .i64 (e - (k:Int)))] _;have hL:=ce.below hb;have CS:=hb.size;subst bV;have hb:=Below.refl w.heap.size w;refine av fun _ tq=>am fun Ku=>ai rfl<|ai rfl<|aD Tq rfl rfl (NE (Wk k M) (Gm hM (by omega)) _) rfl ?_
 rintro _ w_ ⟨rfl,bV⟩;have bV:=bV.symm;subst bV;refine ae (Ai rfl rfl) rfl<|al Ku ?_
 rw [show (FloatKind.f64.format.order (Wk k M) (uD (Wk k M)) != some .eq)= !decide (2 ^ (53 - k) ∣ M) from congrArg (fun x=> !x) (Us hM (by omega))];refine aO rfl (fun qJ=>?_) (fun qJ=>?_)
 ·
  have AH:=qJ;simp only [DZ] at qJ;have hkl:=mt (hdv k (by omega)).2 qJ;refine aU<|ax tq<|b4<|am fun B5=>ai rfl<|ae (F6 rfl rfl (mul_two hM (by omega))) rfl<|an rfl<|al B5<|aQ<|ai rfl<|ae (iQ rfl rfl (by omega) (by omega)) rfl<|an rfl<|ay<|cD<|fun a_ bM=>aai _ _ (k+1) (by omega) (by repeat first|exact aC|refine aA rfl (by first|rfl|exact d5 hs.symm|exact d5 hs|exact aH (by omega)|exact aH (by simp)) ?_) ?_ a_ bM
  exact ⟨by omega,rfl⟩
 have AH:=qJ;simp only [DZ] at qJ;have hkd:=(hdv k (by omega)).1 qJ;have hks:53 - k=s:=by omega
 have hq:M / 2 ^ (53 - k)=od (b7 (rung b)):=by rw [hks,hMs,Nat.mul_div_cancel _ (Nat.two_pow_pos s)]
 have hee:e - (k:Int)=eE (rung b)+v2 (b7 (rung b)):=by omega
 have hM2:M / 2 ^ (53 - k)<9007199254740992:=Nat.lt_of_le_of_lt (Nat.div_le_self _ _) hM.hi;have hl1:=ml (M / 2 ^ (53 - k)) (by omega);have hl2:=zr (e - (k:Int)) (by omega) (by omega);refine d2<|cj<|cj<|d3<|ax Zw<|am fun xC=>ai rfl<|ai rfl<|ae (Ux (by kernel_rfl) oP rfl (QE hM (by omega))) rfl<|aD Tr rfl rfl (NF _ (by omega) _ hL) rfl ?_
 rintro _ lW ⟨rfl,cm⟩;have LH:=cm.size;have hb:=aZ hb cm;have hL:=ce.below hb;refine ae (eu rfl rfl (by omega)) rfl<|ae (eu rfl rfl (by simp;omega)) rfl<|ai rfl<|aD Tt rfl rfl (NK _ (by omega) (by omega) _ hL) rfl ?_
 rintro _ lX ⟨rfl,cy⟩;have CR:=cy.size;have hb:=aZ hb cy;have hL:=ce.below hb;refine ae (eu rfl rfl (by simp;omega)) rfl<|an rfl<|al xC<|aJ<|bN rfl rfl ?_
 exact ⟨_,rfl,by rw [qs vM oW uo,hq,hee],hb⟩
theorem u1:bB Tryz.prog 170:=⟨_,Tryz.func170,by kernel_rfl,rfl⟩
theorem yt:bB Tryz.prog 171:=⟨_,Tryz.func171,by kernel_rfl,rfl⟩
theorem AR (k:Nat) (h:k<10):IntKind.u8.wrap (48+(k:Int))=((UInt8.ofNat (48+k)).toNat:Int):=by
 rw [wrap_u8 _ (by omega) (by omega)];have:(UInt8.ofNat (48+k)).toNat=48+k:=by simp;omega
 rw [this];omega
theorem sN {w:World} {g:Nat} {t:TypeId} {c:UInt8} (h:ak w g t [.int .u8 c.toNat]):Rd w 1 (some ⟨g,0,none⟩) 1 (jb [c]):=h.rd 1 1 rfl
theorem Aj (n:Nat):∀(hn:n<9223372036854775808) (w:World),bx Tryz.prog 170 [.int .i64 n] w fun v w'=>v=str (Lib.decDigits n)∧Below w.heap.size w w':=by
 induction n using Nat.strongRecOn with
 |ind n ih=>
 intro hn w;have hdq:((n:Int).tdiv 10)=((n / 10:Nat):Int):=by rw [Int.tdiv_eq_ediv_of_nonneg (by omega)];omega
 have hm:((n:Int).tmod 10)=((n % 10:Nat):Int):=by rw [Int.tmod_eq_emod_of_nonneg (by omega)];omega
 have hb:=Below.refl w.heap.size w;refine enter Tryz.func170 rfl rfl rfl<|am fun aR=>an rfl<|al aR<|av fun _ bt=>am fun b8=>ai rfl<|ae (dL rfl rfl) rfl<|al b8<|aO rfl (fun dR=>?_) (fun dR=>?_)
 ·
  have nr:=dR;simp only [DZ] at dR;refine am fun eX=>ai rfl<|ae (ct rfl rfl (by omega) (by omega)) rfl<|ae (bW (ll mg kV rfl) (aH (AR n (by have:=dR;omega)))) rfl<|cz (sz:=1) (vs:= [_]) jN (by kernel_rfl) rfl rfl rfl rfl rfl rfl ?_
  rintro cp fA fw aI aV;have:=aV.size;have hb:=aZ hb aV;have:=aI.lt;refine aG (so jN kV bI rfl (by exact sN aI)) rfl<|an rfl<|al eX<|aJ<|aX<|bN rfl rfl ?_
  exact ⟨_,rfl,by rw [Lib.decDigits,dif_pos (by have:=dR;omega)],hb⟩
 have nr:=dR;simp only [DZ] at dR;refine aU<|ax bt<|av fun _ eL=>jg (n:=11) (fun w'=>Below w.heap.size w w') #[aj,aj,aj,aj,aj,aj,aj,aj,aj,aj,aj] (by kernel_rfl) rfl (by kernel_rfl)<|jf ?_
 rintro Ui rB;have:=rB.size;have hb:=aZ hb rB;refine bC (i:=0) #[ah,aj,aj,aj,aj,aj,aj,aj,aj,aj,aj] rfl (by kernel_rfl) bF rfl (fun wq hq=>bU (dN rfl)) hb<|bC (i:=1) #[ah,ah,aj,aj,aj,aj,aj,aj,aj,aj,aj] rfl (by kernel_rfl) bF rfl (fun wq hq=>bU (bW (yC rfl rfl (by decide)) (aH ((congrArg IntKind.i64.wrap hdq).trans (wrap_i64 _ (by omega) (by omega)))))) hb<|bC (i:=3) #[ah,ah,aj,ah,aj,aj,aj,aj,aj,aj,aj] rfl (by kernel_rfl) bF rfl (fun wq hq=>bU (dN rfl)) hb<|bC (i:=4) #[ah,ah,aj,ah,ah,aj,aj,aj,aj,aj,aj] rfl (by kernel_rfl) bF rfl (fun wq hq=>bU (bW (u7 rfl rfl (by decide)) (aH hm))) hb<|bC (i:=5) #[ah,ah,aj,ah,ah,ah,aj,aj,aj,aj,aj] rfl (by kernel_rfl) bF rfl (fun wq hq=>bU (ct rfl rfl (by omega) (by omega))) hb<|bC (i:=6) #[ah,ah,aj,ah,ah,ah,ah,aj,aj,aj,aj] rfl (by kernel_rfl) bF rfl (fun wq hq=>bU (bW (ll mg kV rfl) (aH (AR (n % 10) (by omega))))) hb<|cM (rs:= [2,7]) (by kernel_rfl) rfl<|cO #[ah,ah,ah,ah,ah,ah,ah,aj,aj,aj,aj] rfl rfl (fun _ kh=>?_) ?_
 ·
  refine aD u1 rfl rfl (ih (n / 10) (by have:=dR;omega) (by omega) _) rfl ?_;rintro _ cB ⟨rfl,aw⟩;have gK:=aw.size;have hb:=aZ hb aw;refine ay<|cN kh hb<|cM (rs:= [7]) (by kernel_rfl) rfl<|cO #[ah,ah,ah,ah,ah,ah,ah,ah,aj,aj,aj] rfl rfl (fun _ fT=>?_) ?_
  ·
   refine cz (sz:=1) (vs:= [_]) jN (by kernel_rfl) rfl rfl rfl rfl rfl rfl ?_;rintro cK jB jG aK bA;have LF:=bA.size;have hb:=aZ hb bA;have Lm:=aK.lt;refine ay<|cN fT hb<|cM (rs:= [8]) (by kernel_rfl) rfl<|cO #[ah,ah,ah,ah,ah,ah,ah,ah,ah,aj,aj] rfl rfl (fun _ ju=>?_) ?_
   ·
    refine aG (so jN kV bI rfl (by exact sN aK)) rfl<|ay<|cN ju hb<|bC (i:=9) #[ah,ah,ah,ah,ah,ah,ah,ah,ah,ah,aj] rfl (by kernel_rfl) bF rfl (fun wq hq=>bU (eu rfl rfl (by have:=ml (n / 10) (by omega);first|omega|(simp;omega)))) hb<|bC (i:=10) #[ah,ah,ah,ah,ah,ah,ah,ah,ah,ah,ah] rfl (by kernel_rfl) bF rfl (fun wq hq=>bU (it rfl)) hb<|fB (by kernel_rfl)<|ax eL<|aJ<|bN rfl rfl ?_
    exact ⟨_,rfl,by rw [Lib.decDigits.eq_def n,dif_neg (by have:=dR;omega)],hb⟩
   exact cP
  exact cP
 refine cO #[ah,ah,aj,ah,ah,ah,ah,ah,aj,aj,aj] rfl rfl (fun _ iJ=>?_) ?_
 ·
  refine cz (sz:=1) (vs:= [_]) jN (by kernel_rfl) rfl rfl rfl rfl rfl rfl ?_;rintro cK jB jG aK bA;have LF:=bA.size;have hb:=aZ hb bA;have Lm:=aK.lt;refine ay<|cN iJ hb<|cM (rs:= [2,8]) (by kernel_rfl) rfl<|cO #[ah,ah,ah,ah,ah,ah,ah,ah,aj,aj,aj] rfl rfl (fun _ gP=>?_) ?_
  ·
   refine aD u1 rfl rfl (ih (n / 10) (by have:=dR;omega) (by omega) _) rfl ?_;rintro _ cB ⟨rfl,aw⟩;have gK:=aw.size;have hb:=aZ hb aw;have aK:=ak.below aK aw;refine ay<|cN gP hb<|cM (rs:= [8]) (by kernel_rfl) rfl<|cO #[ah,ah,ah,ah,ah,ah,ah,ah,ah,aj,aj] rfl rfl (fun _ im=>?_) ?_
   ·
    refine aG (so jN kV bI rfl (by exact sN aK)) rfl<|ay<|cN im hb<|bC (i:=9) #[ah,ah,ah,ah,ah,ah,ah,ah,ah,ah,aj] rfl (by kernel_rfl) bF rfl (fun wq hq=>bU (eu rfl rfl (by have:=ml (n / 10) (by omega);first|omega|(simp;omega)))) hb<|bC (i:=10) #[ah,ah,ah,ah,ah,ah,ah,ah,ah,ah,ah] rfl (by kernel_rfl) bF rfl (fun wq hq=>bU (it rfl)) hb<|fB (by kernel_rfl)<|ax eL<|aJ<|bN rfl rfl ?_
    exact ⟨_,rfl,by rw [Lib.decDigits.eq_def n,dif_neg (by have:=dR;omega)],hb⟩
   exact cP
  refine cO #[ah,ah,aj,ah,ah,ah,ah,ah,ah,aj,aj] rfl rfl (fun _ kj=>?_) ?_
  ·
   refine aG (so jN kV bI rfl (by exact sN aK)) rfl<|ay<|cN kj hb<|cM (rs:= [2]) (by kernel_rfl) rfl<|cO #[ah,ah,ah,ah,ah,ah,ah,ah,ah,aj,aj] rfl rfl (fun _ nP=>?_) ?_
   ·
    refine aD u1 rfl rfl (ih (n / 10) (by have:=dR;omega) (by omega) _) rfl ?_;rintro _ cB ⟨rfl,aw⟩;have gK:=aw.size;have hb:=aZ hb aw;refine ay<|cN nP hb<|bC (i:=9) #[ah,ah,ah,ah,ah,ah,ah,ah,ah,ah,aj] rfl (by kernel_rfl) bF rfl (fun wq hq=>bU (eu rfl rfl (by have:=ml (n / 10) (by omega);first|omega|(simp;omega)))) hb<|bC (i:=10) #[ah,ah,ah,ah,ah,ah,ah,ah,ah,ah,ah] rfl (by kernel_rfl) bF rfl (fun wq hq=>bU (it rfl)) hb<|fB (by kernel_rfl)<|ax eL<|aJ<|bN rfl rfl ?_
    exact ⟨_,rfl,by rw [Lib.decDigits.eq_def n,dif_neg (by have:=dR;omega)],hb⟩
   exact cP
  exact cP
 exact cP
theorem VL (u:Nat):∀(h1:1≤u) (hn:u<9223372036854775808) (w:World),bx Tryz.prog 171 [.int .i64 (-(u:Int))] w fun v w'=>v=str (45 :: Lib.decDigits u)∧Below w.heap.size w w':=by
 induction u using Nat.strongRecOn with
 |ind u ih=>
 intro h1 hn w;have hdq:((-(u:Int)).tdiv 10)= -((u / 10:Nat):Int):=by rw [Int.neg_tdiv,Int.tdiv_eq_ediv_of_nonneg (by omega)];omega
 have hm:((-(u:Int)).tmod 10)= -((u % 10:Nat):Int):=by rw [Int.neg_tmod,Int.tmod_eq_emod_of_nonneg (by omega)];omega
 have hb:=Below.refl w.heap.size w;refine enter Tryz.func171 rfl rfl rfl<|am fun aR=>an rfl<|al aR<|av fun _ bt=>am fun b8=>ai rfl<|ae (f7 rfl rfl) rfl<|al b8<|aO rfl (fun dR=>?_) (fun dR=>?_)
 ·
  have nr:=dR;simp only [DZ] at dR;exact absurd dR (by omega)
 refine aU<|ax bt<|av fun _ eX=>am fun dW=>ai rfl<|ae (ed rfl rfl) rfl<|al dW<|aO rfl (fun jC=>?_) (fun jC=>?_)
 ·
  have GS:=jC;simp only [DZ] at jC;refine am fun eh=>ai rfl<|ae (iQ rfl rfl (by omega) (by omega)) rfl<|ae (bW (ll mg kV rfl) (aH ((congrArg IntKind.u8.wrap (show 48 - -(u:Int)=48+(u:Int) by omega)).trans (AR u (by have:=jC;omega))))) rfl<|cz (sz:=1) (vs:= [_]) jN (by kernel_rfl) rfl rfl rfl rfl rfl rfl ?_
  rintro cp fA fw aI aV;have:=aV.size;have hb:=aZ hb aV;have:=aI.lt;refine aG (so jN kV bI rfl (by exact sN aI)) rfl<|ae (eu rfl rfl (by simp;done)) rfl<|an rfl<|al eh<|aJ<|aX<|bN rfl rfl ?_
  exact ⟨_,rfl,by rw [Lib.decDigits,dif_pos (by have:=jC;omega)];rfl,hb⟩
 have GS:=jC;simp only [DZ] at jC;refine aU<|ax eX<|av fun _ mC=>jg (n:=11) (fun w'=>Below w.heap.size w w') #[aj,aj,aj,aj,aj,aj,aj,aj,aj,aj,aj] (by kernel_rfl) rfl (by kernel_rfl)<|jf ?_
 rintro agG tF;have:=tF.size;have hb:=aZ hb tF;refine bC (i:=0) #[ah,aj,aj,aj,aj,aj,aj,aj,aj,aj,aj] rfl (by kernel_rfl) bF rfl (fun wq hq=>bU (dN rfl)) hb<|bC (i:=1) #[ah,ah,aj,aj,aj,aj,aj,aj,aj,aj,aj] rfl (by kernel_rfl) bF rfl (fun wq hq=>bU (bW (yC rfl rfl (by decide)) (aH ((congrArg IntKind.i64.wrap hdq).trans (wrap_i64 _ (by omega) (by omega)))))) hb<|bC (i:=3) #[ah,ah,aj,ah,aj,aj,aj,aj,aj,aj,aj] rfl (by kernel_rfl) bF rfl (fun wq hq=>bU (dN rfl)) hb<|bC (i:=4) #[ah,ah,aj,ah,ah,aj,aj,aj,aj,aj,aj] rfl (by kernel_rfl) bF rfl (fun wq hq=>bU (bW (u7 rfl rfl (by decide)) (aH hm))) hb<|bC (i:=5) #[ah,ah,aj,ah,ah,ah,aj,aj,aj,aj,aj] rfl (by kernel_rfl) bF rfl (fun wq hq=>bU (iQ rfl rfl (by omega) (by omega))) hb<|bC (i:=6) #[ah,ah,aj,ah,ah,ah,ah,aj,aj,aj,aj] rfl (by kernel_rfl) bF rfl (fun wq hq=>bU (bW (ll mg kV rfl) (aH ((congrArg IntKind.u8.wrap (show 48 - -((u % 10:Nat):Int)=48+((u % 10:Nat):Int) by omega)).trans (AR (u % 10) (by omega)))))) hb<|cM (rs:= [2,7]) (by kernel_rfl) rfl<|cO #[ah,ah,ah,ah,ah,ah,ah,aj,aj,aj,aj] rfl rfl (fun _ fu=>?_) ?_
 ·
  refine aD yt rfl rfl (ih (u / 10) (by have:=jC;omega) (by have:=jC;omega) (by omega) _) rfl ?_;rintro _ cU ⟨rfl,aL⟩;have i7:=aL.size;have hb:=aZ hb aL;refine ay<|cN fu hb<|cM (rs:= [7]) (by kernel_rfl) rfl<|cO #[ah,ah,ah,ah,ah,ah,ah,ah,aj,aj,aj] rfl rfl (fun _ iJ=>?_) ?_
  ·
   refine cz (sz:=1) (vs:= [_]) jN (by kernel_rfl) rfl rfl rfl rfl rfl rfl ?_;rintro cK jB jG aK bA;have LF:=bA.size;have hb:=aZ hb bA;have Lm:=aK.lt;refine ay<|cN iJ hb<|cM (rs:= [8]) (by kernel_rfl) rfl<|cO #[ah,ah,ah,ah,ah,ah,ah,ah,ah,aj,aj] rfl rfl (fun _ gP=>?_) ?_
   ·
    refine aG (so jN kV bI rfl (by exact sN aK)) rfl<|ay<|cN gP hb<|bC (i:=9) #[ah,ah,ah,ah,ah,ah,ah,ah,ah,ah,aj] rfl (by kernel_rfl) bF rfl (fun wq hq=>bU (eu rfl rfl (by have:=ml (u / 10) (by omega);first|omega|(simp;omega)))) hb<|bC (i:=10) #[ah,ah,ah,ah,ah,ah,ah,ah,ah,ah,ah] rfl (by kernel_rfl) bF rfl (fun wq hq=>bU (it rfl)) hb<|fB (by kernel_rfl)<|ax mC<|aJ<|bN rfl rfl ?_
    exact ⟨_,rfl,by rw [Lib.decDigits.eq_def u,dif_neg (by have:=jC;omega)];rfl,hb⟩
   exact cP
  exact cP
 refine cO #[ah,ah,aj,ah,ah,ah,ah,ah,aj,aj,aj] rfl rfl (fun _ iW=>?_) ?_
 ·
  refine cz (sz:=1) (vs:= [_]) jN (by kernel_rfl) rfl rfl rfl rfl rfl rfl ?_;rintro cK jB jG aK bA;have LF:=bA.size;have hb:=aZ hb bA;have Lm:=aK.lt;refine ay<|cN iW hb<|cM (rs:= [2,8]) (by kernel_rfl) rfl<|cO #[ah,ah,ah,ah,ah,ah,ah,ah,aj,aj,aj] rfl rfl (fun _ kj=>?_) ?_
  ·
   refine aD yt rfl rfl (ih (u / 10) (by have:=jC;omega) (by have:=jC;omega) (by omega) _) rfl ?_;rintro _ cU ⟨rfl,aL⟩;have i7:=aL.size;have hb:=aZ hb aL;have aK:=ak.below aK aL;refine ay<|cN kj hb<|cM (rs:= [8]) (by kernel_rfl) rfl<|cO #[ah,ah,ah,ah,ah,ah,ah,ah,ah,aj,aj] rfl rfl (fun _ nP=>?_) ?_
   ·
    refine aG (so jN kV bI rfl (by exact sN aK)) rfl<|ay<|cN nP hb<|bC (i:=9) #[ah,ah,ah,ah,ah,ah,ah,ah,ah,ah,aj] rfl (by kernel_rfl) bF rfl (fun wq hq=>bU (eu rfl rfl (by have:=ml (u / 10) (by omega);first|omega|(simp;omega)))) hb<|bC (i:=10) #[ah,ah,ah,ah,ah,ah,ah,ah,ah,ah,ah] rfl (by kernel_rfl) bF rfl (fun wq hq=>bU (it rfl)) hb<|fB (by kernel_rfl)<|ax mC<|aJ<|bN rfl rfl ?_
    exact ⟨_,rfl,by rw [Lib.decDigits.eq_def u,dif_neg (by have:=jC;omega)];rfl,hb⟩
   exact cP
  refine cO #[ah,ah,aj,ah,ah,ah,ah,ah,ah,aj,aj] rfl rfl (fun _ lf=>?_) ?_
  ·
   refine aG (so jN kV bI rfl (by exact sN aK)) rfl<|ay<|cN lf hb<|cM (rs:= [2]) (by kernel_rfl) rfl<|cO #[ah,ah,ah,ah,ah,ah,ah,ah,ah,aj,aj] rfl rfl (fun _ oB=>?_) ?_
   ·
    refine aD yt rfl rfl (ih (u / 10) (by have:=jC;omega) (by have:=jC;omega) (by omega) _) rfl ?_;rintro _ cU ⟨rfl,aL⟩;have i7:=aL.size;have hb:=aZ hb aL;refine ay<|cN oB hb<|bC (i:=9) #[ah,ah,ah,ah,ah,ah,ah,ah,ah,ah,aj] rfl (by kernel_rfl) bF rfl (fun wq hq=>bU (eu rfl rfl (by have:=ml (u / 10) (by omega);first|omega|(simp;omega)))) hb<|bC (i:=10) #[ah,ah,ah,ah,ah,ah,ah,ah,ah,ah,ah] rfl (by kernel_rfl) bF rfl (fun wq hq=>bU (it rfl)) hb<|fB (by kernel_rfl)<|ax mC<|aJ<|bN rfl rfl ?_
    exact ⟨_,rfl,by rw [Lib.decDigits.eq_def u,dif_neg (by have:=jC;omega)];rfl,hb⟩
   exact cP
  exact cP
 exact cP
theorem D8 (n:Int) (h0: -9223372036854775808<n) (h1:n≤9223372036854775807) (w:World):bx Tryz.prog 171 [.int .i64 n] w fun v w'=>v=str (Lib.itoa n)∧Below w.heap.size w w':=by
 by_cases hn:n<0
 · have:=VL n.natAbs (by omega) (by omega) w
   have e: -((n.natAbs:Nat):Int)=n:=by omega
   rw [e] at this;unfold Lib.itoa;rw [if_pos hn];exact this
 · obtain ⟨m,rfl⟩:=Int.eq_ofNat_of_zero_le (show 0≤n by omega)
   rw [Lib.itoa_nonneg];have hb:=Below.refl w.heap.size w;refine enter Tryz.func171 rfl rfl rfl<|am fun aR=>an rfl<|al aR<|av fun _ bt=>am fun b8=>ai rfl<|ae (f7 rfl rfl) rfl<|al b8<|aO rfl (fun dR=>?_) (fun dR=>?_)
   ·
    refine am fun eX=>ai rfl<|aD u1 rfl rfl (Aj m (by omega) _) rfl ?_
    rintro _ cB ⟨rfl,aw⟩;have:=aw.size;have hb:=aZ hb aw;refine an rfl<|al eX<|aJ<|aX<|bN rfl rfl ?_
    exact ⟨_,rfl,rfl,hb⟩
   have nr:=dR;simp only [DZ] at dR;exact absurd dR (by omega)
theorem uz {b e:Nat} (he:e=b / 4503599627370496 % 2048) (h:(e:Int)=0):eE (rung b)+1075=1:=by
 have:rung b<4503599627370496:=by unfold rung;omega
 unfold eE;rw [if_pos this];omega
theorem uy {b e:Nat} (he:e=b / 4503599627370496 % 2048) (hr:rung b<9218868437227405312) (h:¬(e:Int)=0):eE (rung b)+1075=(e:Int):=by
 have:¬rung b<4503599627370496:=by unfold rung;omega
 unfold eE;rw [if_neg this];have:rung b / 4503599627370496=e:=by unfold rung;omega
 rw [this];omega
theorem uV {b e m:Nat} (he:e=b / 4503599627370496 % 2048) (hm:m=b % 4503599627370496) (h:(e:Int)=0):((b7 (rung b):Nat):Int)=(m:Int):=by
 have:rung b<4503599627370496:=by unfold rung;omega
 unfold b7;rw [if_pos this];unfold rung;omega
theorem uU {b e m:Nat} (he:e=b / 4503599627370496 % 2048) (hm:m=b % 4503599627370496) (h:¬(e:Int)=0):((b7 (rung b):Nat):Int)=(m:Int)+4503599627370496:=by
 have:¬rung b<4503599627370496:=by unfold rung;omega
 unfold b7;rw [if_neg this];unfold rung;omega
theorem tJ {r:Nat} (h:r<9218868437227405312):b7 r<9007199254740992:=by
 unfold b7;have:=Nat.mod_lt r (show 0<4503599627370496 by decide);split<;>omega
theorem rZ {r:Nat} (h:r<9218868437227405312): -1074≤eE r∧eE r≤971:=by
 unfold eE;split<;>omega
theorem sy {r:Nat} (h:r<9218868437227405312) (h0:r≠0):v2 (b7 r)≤53:=by
 obtain ⟨h1,h2⟩:=qm _ (rF h0);have h3:=tJ h
 rcases Nat.lt_or_ge 53 (v2 (b7 r)) with h4|h4
 · have:2 ^ 53≤2 ^ v2 (b7 r):=Nat.pow_le_pow_right (by decide) (by omega)
   have h5:1 * 2 ^ v2 (b7 r)≤od (b7 r) * 2 ^ v2 (b7 r):=Nat.mul_le_mul_right _ (by omega);omega
 · exact h4
theorem Fa {m o t j:Nat} (h1:m=o * 2 ^ t) (h2:o % 2=1) (hm:m<9007199254740992) (hj:j≤t):
 ((((o * 2 ^ (t - j):Nat):Int).tmod 2=0)↔j<t)∧(j<t→((o * 2 ^ (t - (j+1)):Nat):Int)=IntKind.i64.wrap (((o * 2 ^ (t - j):Nat):Int).tdiv 2))∧o * 2 ^ (t - j)<9007199254740992:=by
 have hlt:o * 2 ^ (t - j)<9007199254740992:=Nat.lt_of_le_of_lt (by rw [h1];exact Nat.mul_le_mul_left _ (Nat.pow_le_pow_right (by decide) (by omega))) hm
 rw [Int.tmod_eq_emod_of_nonneg (by omega),Int.tdiv_eq_ediv_of_nonneg (by omega)]
 refine ⟨?_,fun h=>?_,hlt⟩
 · rcases Nat.lt_or_ge j t with h|h
   · obtain ⟨k,hk⟩:∃k,t - j=k+1:=⟨t - j - 1,by omega⟩
     rw [hk,Nat.pow_succ,←Nat.mul_assoc]
     exact ⟨fun _=>h,fun _=>by omega⟩
   · rw [show t - j=0 by omega];simp;omega
 · obtain ⟨k,hk⟩:∃k,t - j=k+1:=⟨t - j - 1,by omega⟩
   rw [hk,show t - (j+1)=k by omega]
   rw [hk,Nat.pow_succ,←Nat.mul_assoc] at hlt
   rw [Nat.pow_succ,←Nat.mul_assoc,wrap_i64 _ (by omega) (by omega)];omega
theorem Vx (b:Nat) (hb0:b<18446744073709551616) (w:World):bx Tryz.prog 140 [.float .f64 b] w fun v w'=>v=str (ec b)∧Below w.heap.size w w':=by
 have hsl:=SQ b;have hb:=Below.refl w.heap.size w;refine enter Tryz.func140 rfl rfl rfl<|am fun aR=>an rfl<|al aR<|am fun bt=>ai rfl<|aD Ty rfl rfl (NO b hb0 _) rfl ?_
 rintro _ w_ ⟨rfl,bV⟩;have bV:=bV.symm;subst bV;refine ai rfl<|ae (cu rfl rfl) rfl<|ae (cu rfl rfl) rfl<|ae (cu rfl rfl) rfl<|an rfl<|an rfl<|an rfl<|al bt<|av fun _ eh=>am fun fd=>ai rfl<|ae (bX rfl rfl) rfl<|ai rfl<|cG rfl rfl rfl (fun eS=>?_) (fun eS=>?_)
 ·
  have gq:=eS;simp only [DZ] at eS;refine ai rfl<|ap rfl rfl gq<|ae (fG rfl rfl) rfl<|ae (bo rfl gq rfl) rfl<|al fd<|aO rfl (fun np=>?_) (fun np=>?_)
  ·
   have Au:=np;simp only [DZ] at np;refine am fun gr=>an rfl<|al gr<|aJ<|aX<|bN rfl rfl ?_
   exact ⟨_,rfl,MU (by unfold isNan;simp only [decide_eq_true_eq];have:=eS;have:=np;omega),hb⟩
  have Au:=np;simp only [DZ] at np;refine aU<|ax eh<|av fun _ gu=>?_
  obtain ⟨e,he⟩:∃e:Nat,e=b / 4503599627370496 % 2048:=⟨_,rfl⟩;obtain ⟨m,hm⟩:∃m:Nat,m=b % 4503599627370496:=⟨_,rfl⟩;have hnn:isNan b=false:=by unfold isNan;simp only [decide_eq_false_iff_not];first|(have:=eS;omega)|(have:=eS;have:=np;omega)
  rw [←he,←hm];refine aQ<|an rfl<|al gu<|av fun _ ki=>am fun fu=>ai rfl<|al fu<|cR (X:=Unit) (fun u_=> [(4,.int .i64 (e:Int)),(5,.int .i64 (m:Int)),(6,str (fN b))]) (fun u_ wr=>Below w.heap.size w wr) (fun _ ru=>?_) ?_
  ·
   refine aO rfl (fun vJ=>?_) (fun vJ=>?_)
   ·
    have sU:=vJ;refine aQ<|an rfl<|ay<|a7 ru (()) (by repeat first|exact aC|refine aA rfl (by first|rfl|exact d5 (if_pos sU).symm|exact d5 (if_neg (tL sU)).symm) ?_) ?_
    exact hb
   have sU:=vJ;refine aU<|a7 ru (()) (by repeat first|exact aC|refine aA rfl (by first|rfl|exact d5 (if_pos sU).symm|exact d5 (if_neg (tL sU)).symm) ?_) ?_
   exact hb
  rintro u_ wr lH;replace lH:Below w.heap.size w wr:=lH;have hb:=lH;show Wq _ _ _ _ [(4,.int .i64 (e:Int)),(5,.int .i64 (m:Int)),(6,str (fN b))] _;have abZ:=hb.size;refine ax ki<|av fun _ im=>am fun gI=>ai rfl<|ae (bX rfl rfl) rfl<|al gI<|aO rfl (fun m1=>?_) (fun m1=>?_)
  ·
   have Hg:=m1;simp only [DZ] at m1;refine am fun k9=>ai rfl<|ae (eu rfl rfl (by simp;omega)) rfl<|an rfl<|al k9<|aJ<|aX<|bN rfl rfl ?_
   exact ⟨_,rfl,by rw [rK hnn (by have:=m1;unfold isNan at hnn;simp only [decide_eq_false_iff_not] at hnn;unfold rung;omega)],hb⟩
  have Hg:=m1;simp only [DZ] at m1;refine aU<|ax im<|av fun _ iK=>am fun lf=>ai rfl<|ae (bX rfl rfl) rfl<|ai rfl<|cG rfl rfl rfl (fun kd=>?_) (fun kd=>?_)
  ·
   have pb:=kd;simp only [DZ] at kd;have hr0:m=0→rung b=0:=fun h=>by have:=kd;unfold rung;omega
   refine ai rfl<|ap rfl rfl pb<|ae (bX rfl rfl) rfl<|ae (bo rfl pb rfl) rfl<|al lf<|aO rfl (fun m2=>?_) (fun m2=>?_)
   ·
    have HB:=m2;simp only [DZ] at m2;refine am fun lM=>ai rfl<|ae (eu rfl rfl (by omega)) rfl<|an rfl<|al lM<|aJ<|aX<|bN rfl rfl ?_
    exact ⟨_,rfl,by rw [rL hnn (by have:=m2;have:=kd;unfold rung;omega) (by have:=m2;have:=kd;unfold rung;omega)],hb⟩
   have HB:=m2;simp only [DZ] at m2;refine aU<|ax iK<|av fun _ pp=>am fun kK=>ai rfl<|ae (bX rfl rfl) rfl<|al kK ?_
   have hr1:rung b<9218868437227405312:=by unfold isNan at hnn;simp only [decide_eq_false_iff_not] at hnn;have:=m1;unfold rung;omega
   have hr2:rung b≠0:=by unfold rung;first|(have:=kd;omega)|(have:=kd;have:=m2;omega)
   have hr3:rung b≠9218868437227405312:=by omega
   refine cR (X:=Unit) (fun u_=> [(4,.int .i64 (eE (rung b)+1075)),(5,.int .i64 (b7 (rung b):Nat)),(6,str (fN b))]) (fun u_ wr=>Below w.heap.size w wr) (fun _ Qh=>?_) ?_
   ·
    refine aO rfl (fun kz=>?_) (fun kz=>?_)
    ·
     have HY:=kz;simp only [DZ] at kz;refine aQ<|an rfl<|ay<|a7 Qh (()) (by repeat first|exact aC|refine aA rfl (by first|rfl|exact aH (uz he kz).symm|exact aH (uy he hr1 kz).symm|exact aH (uV he hm kz).symm|exact aH (uU he hm kz).symm) ?_) ?_
     exact hb
    have HY:=kz;simp only [DZ] at kz;refine aQ<|ai rfl<|ae (ct rfl rfl (by omega) (by omega)) rfl<|an rfl<|ay<|a7 Qh (()) (by repeat first|exact aC|refine aA rfl (by first|rfl|exact aH (uz he kz).symm|exact aH (uy he hr1 kz).symm|exact aH (uV he hm kz).symm|exact aH (uU he hm kz).symm) ?_) ?_
    exact hb
   rintro u_ wr Kd;replace Kd:Below w.heap.size w wr:=Kd;have hb:=Kd;show Wq _ _ _ _ [(4,.int .i64 (eE (rung b)+1075)),(5,.int .i64 (b7 (rung b):Nat)),(6,str (fN b))] _;have LN:=hb.size;obtain ⟨ho1,ho2⟩:=qm _ (rF hr2);have hml:=tJ hr1;have hex:=rZ hr1;have hv:=sy hr1 hr2;refine ax pp<|am fun pu=>ai rfl<|ae (iQ rfl rfl (by omega) (by omega)) rfl<|an rfl<|al pu<|av fun _ tv=>b4<|d9 (X:=Nat) (fun j=> [(6,str (fN b)),(5,.int .i64 ((od (b7 (rung b)) * 2 ^ (v2 (b7 (rung b)) - j):Nat):Int)),(4,.int .i64 (eE (rung b)+(j:Int)))]) (fun j wr=>j≤v2 (b7 (rung b))∧Below w.heap.size w wr) (fun j=>v2 (b7 (rung b)) - j) (0) ?_ ?_ ?_
   · exact by repeat first|exact aC|refine aA rfl (by first|rfl|exact aH (by rw [Nat.sub_zero,←ho1])|exact aH (by omega)|exact aH hhalf) ?_
   · exact ⟨by omega,hb⟩
   rintro j wr Kh _ aaC;replace Kh:j≤v2 (b7 (rung b))∧Below w.heap.size w wr:=Kh;obtain ⟨hj,hb⟩:=Kh;show Wc _ _ _ _ _ [(6,str (fN b)),(5,.int .i64 ((od (b7 (rung b)) * 2 ^ (v2 (b7 (rung b)) - j):Nat):Int)),(4,.int .i64 (eE (rung b)+(j:Int)))] _;have CS:=hb.size;obtain ⟨hp1,hp2,hp3⟩:=Fa ho1 ho2 hml hj;refine av fun _ nT=>am fun nU=>ai rfl<|ae (u7 rfl rfl (by decide)) rfl<|ae (bX rfl rfl) rfl<|al nU<|aO rfl (fun mj=>?_) (fun mj=>?_)
   ·
    have Ii:=mj;simp only [DZ] at mj;have hjt:j<v2 (b7 (rung b)):=hp1.1 mj;have hhalf:=hp2 hjt;refine aU<|ax nT<|b4<|am fun rq=>ai rfl<|ae (yC rfl rfl (by decide)) rfl<|an rfl<|al rq<|aQ<|ai rfl<|ae (ct rfl rfl (by omega) (by omega)) rfl<|an rfl<|ay<|cD<|fun a_ bM=>aaC _ _ (j+1) (by omega) (by repeat first|exact aC|refine aA rfl (by first|rfl|exact aH (by rw [Nat.sub_zero,←ho1])|exact aH (by omega)|exact aH hhalf) ?_) ?_ a_ bM
    exact ⟨by omega,hb⟩
   have Ii:=mj;simp only [DZ] at mj;have hjt:j=v2 (b7 (rung b)):=by have:=mt hp1.2 mj;omega
   have hod:((od (b7 (rung b)) * 2 ^ (v2 (b7 (rung b)) - j):Nat):Int)=((od (b7 (rung b)):Nat):Int):=by rw [hjt,Nat.sub_self,Nat.pow_zero,Nat.mul_one]
   have hol:od (b7 (rung b))<9007199254740992:=by omega
   have hl1:=ml (od (b7 (rung b))) (by omega);have hl2:=zr (eE (rung b)+(j:Int)) (by omega) (by omega);rw [hod];refine d2<|cj<|cj<|d3<|ax tv<|am fun tz=>ai rfl<|ai rfl<|aD u1 rfl rfl (Aj _ (by omega) _) rfl ?_
   rintro _ cU ⟨rfl,aL⟩;have i7:=aL.size;have hb:=aZ hb aL;refine ae (eu rfl rfl (by omega)) rfl<|ae (eu rfl rfl (by omega)) rfl<|ai rfl<|aD yt rfl rfl (D8 _ (by omega) (by omega) _) rfl ?_
   rintro _ eP ⟨rfl,a6⟩;have rD:=a6.size;have hb:=aZ hb a6;refine ae (eu rfl rfl (by omega)) rfl<|an rfl<|al tz<|aJ<|bN rfl rfl ?_
   exact ⟨_,rfl,by rw [qs hnn hr3 hr2,hjt],hb⟩
  have pb:=kd;simp only [DZ] at kd;refine az rfl rfl pb rfl rfl<|ae (bj rfl pb rfl) rfl<|al lf<|oU rfl rfl<|aU<|ax iK<|av fun _ qb=>am fun BZ=>ai rfl<|ae (bX rfl rfl) rfl<|al BZ ?_
  have hr1:rung b<9218868437227405312:=by unfold isNan at hnn;simp only [decide_eq_false_iff_not] at hnn;have:=m1;unfold rung;omega
  have hr2:rung b≠0:=by unfold rung;first|(have:=kd;omega)|(have:=kd;have:=Vb;omega)
  have hr3:rung b≠9218868437227405312:=by omega
  refine cR (X:=Unit) (fun u_=> [(4,.int .i64 (eE (rung b)+1075)),(5,.int .i64 (b7 (rung b):Nat)),(6,str (fN b))]) (fun u_ wr=>Below w.heap.size w wr) (fun _ Ct=>?_) ?_
  ·
   refine aO rfl (fun oX=>?_) (fun oX=>?_)
   ·
    have Xz:=oX;simp only [DZ] at oX;refine aQ<|an rfl<|ay<|a7 Ct (()) (by repeat first|exact aC|refine aA rfl (by first|rfl|exact aH (uz he oX).symm|exact aH (uy he hr1 oX).symm|exact aH (uV he hm oX).symm|exact aH (uU he hm oX).symm) ?_) ?_
    exact hb
   have Xz:=oX;simp only [DZ] at oX;refine aQ<|ai rfl<|ae (ct rfl rfl (by omega) (by omega)) rfl<|an rfl<|ay<|a7 Ct (()) (by repeat first|exact aC|refine aA rfl (by first|rfl|exact aH (uz he oX).symm|exact aH (uy he hr1 oX).symm|exact aH (uV he hm oX).symm|exact aH (uU he hm oX).symm) ?_) ?_
   exact hb
  rintro u_ wr xh;replace xh:Below w.heap.size w wr:=xh;have hb:=xh;show Wq _ _ _ _ [(4,.int .i64 (eE (rung b)+1075)),(5,.int .i64 (b7 (rung b):Nat)),(6,str (fN b))] _;have LN:=hb.size;obtain ⟨ho1,ho2⟩:=qm _ (rF hr2);have hml:=tJ hr1;have hex:=rZ hr1;have hv:=sy hr1 hr2;refine ax qb<|am fun rl=>ai rfl<|ae (iQ rfl rfl (by omega) (by omega)) rfl<|an rfl<|al rl<|av fun _ tq=>b4<|d9 (X:=Nat) (fun j=> [(6,str (fN b)),(5,.int .i64 ((od (b7 (rung b)) * 2 ^ (v2 (b7 (rung b)) - j):Nat):Int)),(4,.int .i64 (eE (rung b)+(j:Int)))]) (fun j wr=>j≤v2 (b7 (rung b))∧Below w.heap.size w wr) (fun j=>v2 (b7 (rung b)) - j) (0) ?_ ?_ ?_
  · exact by repeat first|exact aC|refine aA rfl (by first|rfl|exact aH (by rw [Nat.sub_zero,←ho1])|exact aH (by omega)|exact aH hhalf) ?_
  · exact ⟨by omega,hb⟩
  rintro j wr Ju _ aaj;replace Ju:j≤v2 (b7 (rung b))∧Below w.heap.size w wr:=Ju;obtain ⟨hj,hb⟩:=Ju;show Wc _ _ _ _ _ [(6,str (fN b)),(5,.int .i64 ((od (b7 (rung b)) * 2 ^ (v2 (b7 (rung b)) - j):Nat):Int)),(4,.int .i64 (eE (rung b)+(j:Int)))] _;have CS:=hb.size;obtain ⟨hp1,hp2,hp3⟩:=Fa ho1 ho2 hml hj;refine av fun _ se=>am fun tr=>ai rfl<|ae (u7 rfl rfl (by decide)) rfl<|ae (bX rfl rfl) rfl<|al tr<|aO rfl (fun wg=>?_) (fun wg=>?_)
  ·
   have XI:=wg;simp only [DZ] at wg;have hjt:j<v2 (b7 (rung b)):=hp1.1 wg;have hhalf:=hp2 hjt;refine aU<|ax se<|b4<|am fun xB=>ai rfl<|ae (yC rfl rfl (by decide)) rfl<|an rfl<|al xB<|aQ<|ai rfl<|ae (ct rfl rfl (by omega) (by omega)) rfl<|an rfl<|ay<|cD<|fun a_ bM=>aaj _ _ (j+1) (by omega) (by repeat first|exact aC|refine aA rfl (by first|rfl|exact aH (by rw [Nat.sub_zero,←ho1])|exact aH (by omega)|exact aH hhalf) ?_) ?_ a_ bM
   exact ⟨by omega,hb⟩
  have XI:=wg;simp only [DZ] at wg;have hjt:j=v2 (b7 (rung b)):=by have:=mt hp1.2 wg;omega
  have hod:((od (b7 (rung b)) * 2 ^ (v2 (b7 (rung b)) - j):Nat):Int)=((od (b7 (rung b)):Nat):Int):=by rw [hjt,Nat.sub_self,Nat.pow_zero,Nat.mul_one]
  have hol:od (b7 (rung b))<9007199254740992:=by omega
  have hl1:=ml (od (b7 (rung b))) (by omega);have hl2:=zr (eE (rung b)+(j:Int)) (by omega) (by omega);rw [hod];refine d2<|cj<|cj<|d3<|ax tq<|am fun Kw=>ai rfl<|ai rfl<|aD u1 rfl rfl (Aj _ (by omega) _) rfl ?_
  rintro _ cU ⟨rfl,aL⟩;have i7:=aL.size;have hb:=aZ hb aL;refine ae (eu rfl rfl (by omega)) rfl<|ae (eu rfl rfl (by omega)) rfl<|ai rfl<|aD yt rfl rfl (D8 _ (by omega) (by omega) _) rfl ?_
  rintro _ eP ⟨rfl,a6⟩;have rD:=a6.size;have hb:=aZ hb a6;refine ae (eu rfl rfl (by omega)) rfl<|an rfl<|al Kw<|aJ<|bN rfl rfl ?_
  exact ⟨_,rfl,by rw [qs hnn hr3 hr2,hjt],hb⟩
 have gq:=eS;simp only [DZ] at eS;refine az rfl rfl gq rfl rfl<|ae (bj rfl gq rfl) rfl<|al fd<|oU rfl rfl<|aU<|ax eh<|av fun _ KA=>?_
 obtain ⟨e,he⟩:∃e:Nat,e=b / 4503599627370496 % 2048:=⟨_,rfl⟩;obtain ⟨m,hm⟩:∃m:Nat,m=b % 4503599627370496:=⟨_,rfl⟩;have hnn:isNan b=false:=by unfold isNan;simp only [decide_eq_false_iff_not];first|(have:=eS;omega)|(have:=eS;have:=ahi;omega)
 rw [←he,←hm];refine aQ<|an rfl<|al KA<|av fun _ tt=>am fun Cc=>ai rfl<|al Cc<|cR (X:=Unit) (fun u_=> [(4,.int .i64 (e:Int)),(5,.int .i64 (m:Int)),(6,str (fN b))]) (fun u_ wr=>Below w.heap.size w wr) (fun _ zh=>?_) ?_
 ·
  refine aO rfl (fun GU=>?_) (fun GU=>?_)
  ·
   have Ax:=GU;refine aQ<|an rfl<|ay<|a7 zh (()) (by repeat first|exact aC|refine aA rfl (by first|rfl|exact d5 (if_pos Ax).symm|exact d5 (if_neg (tL Ax)).symm) ?_) ?_
   exact hb
  have Ax:=GU;refine aU<|a7 zh (()) (by repeat first|exact aC|refine aA rfl (by first|rfl|exact d5 (if_pos Ax).symm|exact d5 (if_neg (tL Ax)).symm) ?_) ?_
  exact hb
 rintro u_ wr xm;replace xm:Below w.heap.size w wr:=xm;have hb:=xm;show Wq _ _ _ _ [(4,.int .i64 (e:Int)),(5,.int .i64 (m:Int)),(6,str (fN b))] _;have abZ:=hb.size;refine ax tt<|av fun _ ZE=>am fun xD=>ai rfl<|ae (bX rfl rfl) rfl<|al xD<|aO rfl (fun uj=>?_) (fun uj=>?_)
 ·
  have Xe:=uj;simp only [DZ] at uj;refine am fun Ce=>ai rfl<|ae (eu rfl rfl (by omega)) rfl<|an rfl<|al Ce<|aJ<|aX<|bN rfl rfl ?_
  exact ⟨_,rfl,by rw [rK hnn (by have:=uj;unfold isNan at hnn;simp only [decide_eq_false_iff_not] at hnn;unfold rung;omega)],hb⟩
 have Xe:=uj;simp only [DZ] at uj;refine aU<|ax ZE<|av fun _ zf=>am fun PL=>ai rfl<|ae (bX rfl rfl) rfl<|ai rfl<|cG rfl rfl rfl (fun p7=>?_) (fun p7=>?_)
 ·
  have Bh:=p7;simp only [DZ] at p7;have hr0:m=0→rung b=0:=fun h=>by have:=p7;unfold rung;omega
  refine ai rfl<|ap rfl rfl Bh<|ae (bX rfl rfl) rfl<|ae (bo rfl Bh rfl) rfl<|al PL<|aO rfl (fun uk=>?_) (fun uk=>?_)
  ·
   have Xn:=uk;simp only [DZ] at uk;refine am fun Cj=>ai rfl<|ae (eu rfl rfl (by simp;omega)) rfl<|an rfl<|al Cj<|aJ<|aX<|bN rfl rfl ?_
   exact ⟨_,rfl,by rw [rL hnn (by have:=uk;have:=p7;unfold rung;omega) (by have:=uk;have:=p7;unfold rung;omega)],hb⟩
  have Xn:=uk;simp only [DZ] at uk;refine aU<|ax zf<|av fun _ KH=>am fun ZK=>ai rfl<|ae (bX rfl rfl) rfl<|al ZK ?_
  have hr1:rung b<9218868437227405312:=by unfold isNan at hnn;simp only [decide_eq_false_iff_not] at hnn;have:=uj;unfold rung;omega
  have hr2:rung b≠0:=by unfold rung;first|(have:=p7;omega)|(have:=p7;have:=uk;omega)
  have hr3:rung b≠9218868437227405312:=by omega
  refine cR (X:=Unit) (fun u_=> [(4,.int .i64 (eE (rung b)+1075)),(5,.int .i64 (b7 (rung b):Nat)),(6,str (fN b))]) (fun u_ wr=>Below w.heap.size w wr) (fun _ P4=>?_) ?_
  ·
   refine aO rfl (fun oY=>?_) (fun oY=>?_)
   ·
    have XB:=oY;simp only [DZ] at oY;refine aQ<|an rfl<|ay<|a7 P4 (()) (by repeat first|exact aC|refine aA rfl (by first|rfl|exact aH (uz he oY).symm|exact aH (uy he hr1 oY).symm|exact aH (uV he hm oY).symm|exact aH (uU he hm oY).symm) ?_) ?_
    exact hb
   have XB:=oY;simp only [DZ] at oY;refine aQ<|ai rfl<|ae (ct rfl rfl (by omega) (by omega)) rfl<|an rfl<|ay<|a7 P4 (()) (by repeat first|exact aC|refine aA rfl (by first|rfl|exact aH (uz he oY).symm|exact aH (uy he hr1 oY).symm|exact aH (uV he hm oY).symm|exact aH (uU he hm oY).symm) ?_) ?_
   exact hb
  rintro u_ wr JN;replace JN:Below w.heap.size w wr:=JN;have hb:=JN;show Wq _ _ _ _ [(4,.int .i64 (eE (rung b)+1075)),(5,.int .i64 (b7 (rung b):Nat)),(6,str (fN b))] _;have LN:=hb.size;obtain ⟨ho1,ho2⟩:=qm _ (rF hr2);have hml:=tJ hr1;have hex:=rZ hr1;have hv:=sy hr1 hr2;refine ax KH<|am fun KI=>ai rfl<|ae (iQ rfl rfl (by omega) (by omega)) rfl<|an rfl<|al KI<|av fun _ KK=>b4<|d9 (X:=Nat) (fun j=> [(6,str (fN b)),(5,.int .i64 ((od (b7 (rung b)) * 2 ^ (v2 (b7 (rung b)) - j):Nat):Int)),(4,.int .i64 (eE (rung b)+(j:Int)))]) (fun j wr=>j≤v2 (b7 (rung b))∧Below w.heap.size w wr) (fun j=>v2 (b7 (rung b)) - j) (0) ?_ ?_ ?_
  · exact by repeat first|exact aC|refine aA rfl (by first|rfl|exact aH (by rw [Nat.sub_zero,←ho1])|exact aH (by omega)|exact aH hhalf) ?_
  · exact ⟨by omega,hb⟩
  rintro j wr JQ _ aap;replace JQ:j≤v2 (b7 (rung b))∧Below w.heap.size w wr:=JQ;obtain ⟨hj,hb⟩:=JQ;show Wc _ _ _ _ _ [(6,str (fN b)),(5,.int .i64 ((od (b7 (rung b)) * 2 ^ (v2 (b7 (rung b)) - j):Nat):Int)),(4,.int .i64 (eE (rung b)+(j:Int)))] _;have CS:=hb.size;obtain ⟨hp1,hp2,hp3⟩:=Fa ho1 ho2 hml hj;refine av fun _ ZU=>am fun KL=>ai rfl<|ae (u7 rfl rfl (by decide)) rfl<|ae (bX rfl rfl) rfl<|al KL<|aO rfl (fun wi=>?_) (fun wi=>?_)
  ·
   have XK:=wi;simp only [DZ] at wi;have hjt:j<v2 (b7 (rung b)):=hp1.1 wi;have hhalf:=hp2 hjt;refine aU<|ax ZU<|b4<|am fun KM=>ai rfl<|ae (yC rfl rfl (by decide)) rfl<|an rfl<|al KM<|aQ<|ai rfl<|ae (ct rfl rfl (by omega) (by omega)) rfl<|an rfl<|ay<|cD<|fun a_ bM=>aap _ _ (j+1) (by omega) (by repeat first|exact aC|refine aA rfl (by first|rfl|exact aH (by rw [Nat.sub_zero,←ho1])|exact aH (by omega)|exact aH hhalf) ?_) ?_ a_ bM
   exact ⟨by omega,hb⟩
  have XK:=wi;simp only [DZ] at wi;have hjt:j=v2 (b7 (rung b)):=by have:=mt hp1.2 wi;omega
  have hod:((od (b7 (rung b)) * 2 ^ (v2 (b7 (rung b)) - j):Nat):Int)=((od (b7 (rung b)):Nat):Int):=by rw [hjt,Nat.sub_self,Nat.pow_zero,Nat.mul_one]
  have hol:od (b7 (rung b))<9007199254740992:=by omega
  have hl1:=ml (od (b7 (rung b))) (by omega);have hl2:=zr (eE (rung b)+(j:Int)) (by omega) (by omega);rw [hod];refine d2<|cj<|cj<|d3<|ax KK<|am fun KO=>ai rfl<|ai rfl<|aD u1 rfl rfl (Aj _ (by omega) _) rfl ?_
  rintro _ cU ⟨rfl,aL⟩;have i7:=aL.size;have hb:=aZ hb aL;refine ae (eu rfl rfl (by omega)) rfl<|ae (eu rfl rfl (by simp;omega)) rfl<|ai rfl<|aD yt rfl rfl (D8 _ (by omega) (by omega) _) rfl ?_
  rintro _ eP ⟨rfl,a6⟩;have rD:=a6.size;have hb:=aZ hb a6;refine ae (eu rfl rfl (by simp;omega)) rfl<|an rfl<|al KO<|aJ<|bN rfl rfl ?_
  exact ⟨_,rfl,by rw [qs hnn hr3 hr2,hjt],hb⟩
 have Bh:=p7;simp only [DZ] at p7;refine az rfl rfl Bh rfl rfl<|ae (bj rfl Bh rfl) rfl<|al PL<|oU rfl rfl<|aU<|ax zf<|av fun _ Z2=>am fun KQ=>ai rfl<|ae (bX rfl rfl) rfl<|al KQ ?_
 have hr1:rung b<9218868437227405312:=by unfold isNan at hnn;simp only [decide_eq_false_iff_not] at hnn;have:=uj;unfold rung;omega
 have hr2:rung b≠0:=by unfold rung;first|(have:=p7;omega)|(have:=p7;have:=Vb;omega)
 have hr3:rung b≠9218868437227405312:=by omega
 refine cR (X:=Unit) (fun u_=> [(4,.int .i64 (eE (rung b)+1075)),(5,.int .i64 (b7 (rung b):Nat)),(6,str (fN b))]) (fun u_ wr=>Below w.heap.size w wr) (fun _ P7=>?_) ?_
 ·
  refine aO rfl (fun oZ=>?_) (fun oZ=>?_)
  ·
   have XC:=oZ;simp only [DZ] at oZ;refine aQ<|an rfl<|ay<|a7 P7 (()) (by repeat first|exact aC|refine aA rfl (by first|rfl|exact aH (uz he oZ).symm|exact aH (uy he hr1 oZ).symm|exact aH (uV he hm oZ).symm|exact aH (uU he hm oZ).symm) ?_) ?_
   exact hb
  have XC:=oZ;simp only [DZ] at oZ;refine aQ<|ai rfl<|ae (ct rfl rfl (by omega) (by omega)) rfl<|an rfl<|ay<|a7 P7 (()) (by repeat first|exact aC|refine aA rfl (by first|rfl|exact aH (uz he oZ).symm|exact aH (uy he hr1 oZ).symm|exact aH (uV he hm oZ).symm|exact aH (uU he hm oZ).symm) ?_) ?_
  exact hb
 rintro u_ wr JW;replace JW:Below w.heap.size w wr:=JW;have hb:=JW;show Wq _ _ _ _ [(4,.int .i64 (eE (rung b)+1075)),(5,.int .i64 (b7 (rung b):Nat)),(6,str (fN b))] _;have LN:=hb.size;obtain ⟨ho1,ho2⟩:=qm _ (rF hr2);have hml:=tJ hr1;have hex:=rZ hr1;have hv:=sy hr1 hr2;refine ax Z2<|am fun Z4=>ai rfl<|ae (iQ rfl rfl (by omega) (by omega)) rfl<|an rfl<|al Z4<|av fun _ Z6=>b4<|d9 (X:=Nat) (fun j=> [(6,str (fN b)),(5,.int .i64 ((od (b7 (rung b)) * 2 ^ (v2 (b7 (rung b)) - j):Nat):Int)),(4,.int .i64 (eE (rung b)+(j:Int)))]) (fun j wr=>j≤v2 (b7 (rung b))∧Below w.heap.size w wr) (fun j=>v2 (b7 (rung b)) - j) (0) ?_ ?_ ?_
 · exact by repeat first|exact aC|refine aA rfl (by first|rfl|exact aH (by rw [Nat.sub_zero,←ho1])|exact aH (by omega)|exact aH hhalf) ?_
 · exact ⟨by omega,hb⟩
 rintro j wr JY _ aar;replace JY:j≤v2 (b7 (rung b))∧Below w.heap.size w wr:=JY;obtain ⟨hj,hb⟩:=JY;show Wc _ _ _ _ _ [(6,str (fN b)),(5,.int .i64 ((od (b7 (rung b)) * 2 ^ (v2 (b7 (rung b)) - j):Nat):Int)),(4,.int .i64 (eE (rung b)+(j:Int)))] _;have CS:=hb.size;obtain ⟨hp1,hp2,hp3⟩:=Fa ho1 ho2 hml hj;refine av fun _ Z7=>am fun Z8=>ai rfl<|ae (u7 rfl rfl (by decide)) rfl<|ae (bX rfl rfl) rfl<|al Z8<|aO rfl (fun wj=>?_) (fun wj=>?_)
 ·
  have XL:=wj;simp only [DZ] at wj;have hjt:j<v2 (b7 (rung b)):=hp1.1 wj;have hhalf:=hp2 hjt;refine aU<|ax Z7<|b4<|am fun aaa=>ai rfl<|ae (yC rfl rfl (by decide)) rfl<|an rfl<|al aaa<|aQ<|ai rfl<|ae (ct rfl rfl (by omega) (by omega)) rfl<|an rfl<|ay<|cD<|fun a_ bM=>aar _ _ (j+1) (by omega) (by repeat first|exact aC|refine aA rfl (by first|rfl|exact aH (by rw [Nat.sub_zero,←ho1])|exact aH (by omega)|exact aH hhalf) ?_) ?_ a_ bM
  exact ⟨by omega,hb⟩
 have XL:=wj;simp only [DZ] at wj;have hjt:j=v2 (b7 (rung b)):=by have:=mt hp1.2 wj;omega
 have hod:((od (b7 (rung b)) * 2 ^ (v2 (b7 (rung b)) - j):Nat):Int)=((od (b7 (rung b)):Nat):Int):=by rw [hjt,Nat.sub_self,Nat.pow_zero,Nat.mul_one]
 have hol:od (b7 (rung b))<9007199254740992:=by omega
 have hl1:=ml (od (b7 (rung b))) (by omega);have hl2:=zr (eE (rung b)+(j:Int)) (by omega) (by omega);rw [hod];refine d2<|cj<|cj<|d3<|ax Z6<|am fun aad=>ai rfl<|ai rfl<|aD u1 rfl rfl (Aj _ (by omega) _) rfl ?_
 rintro _ cU ⟨rfl,aL⟩;have i7:=aL.size;have hb:=aZ hb aL;refine ae (eu rfl rfl (by omega)) rfl<|ae (eu rfl rfl (by simp;omega)) rfl<|ai rfl<|aD yt rfl rfl (D8 _ (by omega) (by omega) _) rfl ?_
 rintro _ eP ⟨rfl,a6⟩;have rD:=a6.size;have hb:=aZ hb a6;refine ae (eu rfl rfl (by simp;omega)) rfl<|an rfl<|al aad<|aJ<|bN rfl rfl ?_
 exact ⟨_,rfl,by rw [qs hnn hr3 hr2,hjt],hb⟩
end Go.Proofs.YtjdjliiolchciaaGreatDoor
