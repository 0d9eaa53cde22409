import Ieee.Arith
import GoSem.Core.Float
import Derived.Test.YtjmlknjbhbfneaaGreatDoorZA
import Derived.Laws.Externs
import Derived.Laws.FloatArith
import Derived.Laws.BitsAllLaws
import GoSem.Extern.MathFloor
import GoSem.Extern.MathFloatBits
import Derived.Lib.ItoaNum
namespace Go.Bw
def tZ (b:Nat):Nat:=Ieee.double.write ((Ieee.double.read b).integral .down)
end Go.Bw
namespace Go.Bw.Fl
open Ieee
theorem DP:Ieee.double.signWeight=9223372036854775808:=by decide +kernel
theorem zX:Ieee.double.binade=4503599627370496:=by decide +kernel
theorem Fv:Ieee.double.infRung=9218868437227405312:=by decide +kernel
theorem Dj:Ieee.double.leastPlace= -1074:=by decide +kernel
theorem ZQ:Ieee.double.fractionBits=52:=rfl
def V (r:Nat):Nat:=if r<4503599627370496 then r else (4503599627370496+r % 4503599627370496) * 2 ^ (r / 4503599627370496 - 1)
def isNan (b:Nat):Bool:=decide (9218868437227405312<b % 9223372036854775808)
def isNeg (b:Nat):Bool:=b / 9223372036854775808 % 2==1
def rung (b:Nat):Nat:=b % 9223372036854775808
def val (b:Nat):Int:=if isNeg b then -(V (rung b):Int) else (V (rung b):Int)
theorem SI {b:Nat} (h:rung b<4503599627370496):Ieee.double.read b= .number (isNeg b) (rung b) (-1074):=by
 unfold Format.read;simp only [DP,zX,Dj];unfold rung at h;rw [if_pos h];rfl
theorem xW {b:Nat} (h0:4503599627370496≤rung b) (h1:rung b<9218868437227405312):
 Ieee.double.read b= .number (isNeg b) (4503599627370496+rung b % 4503599627370496) (-1074+((rung b / 4503599627370496 - 1:Nat):Int)):=by
 unfold Format.read
 simp only [DP,zX,Dj,Fv]
 unfold rung at h0 h1
 rw [if_neg (by omega),if_pos h1];rfl
theorem read_inf {b:Nat} (h:rung b=9218868437227405312):Ieee.double.read b= .infinity (isNeg b):=by
 unfold Format.read;simp only [DP,zX,Dj,Fv];unfold rung at h;rw [if_neg (by omega),if_neg (by omega),if_pos h];rfl
theorem SF {b:Nat} (h:isNan b=true):Ieee.double.read b= .nan (isNeg b) (rung b - 9218868437227405312):=by
 unfold Format.read;simp only [DP,zX,Dj,Fv];have h':9218868437227405312<b % 9223372036854775808:=by simpa [isNan] using h
 rw [if_neg (by omega),if_neg (by omega),if_neg (by omega)];rfl
theorem read_fin {b:Nat} (h:rung b<9218868437227405312):∃(m k:Nat),Ieee.double.read b= .number (isNeg b) m (-1074+(k:Int))∧m * 2 ^ k=V (rung b)∧m<9007199254740992∧(k=0∨(4503599627370496≤m∧k=rung b / 4503599627370496 - 1))∧k≤2045:=by
 by_cases h0:rung b<4503599627370496
 · exact ⟨rung b,0,by rw [SI h0];rfl,by rw [V,if_pos h0];simp,by omega,.inl rfl,by omega⟩
 · refine ⟨_,_,xW (by omega) h,?_,?_,.inr ⟨?_,rfl⟩,?_⟩
   · rw [V,if_neg h0]
   · have:=Nat.mod_lt (rung b) (show 0<4503599627370496 by decide);omega
   · omega
   · have:rung b / 4503599627370496<2047:=by rw [Nat.div_lt_iff_lt_mul (by decide)];omega
     omega
theorem zT {r:Nat}:V r=0↔r=0:=by
 unfold V
 split
 · rfl
 · constructor
   · intro h
     have h1:0<2 ^ (r / 4503599627370496 - 1):=Nat.two_pow_pos _;have h2:=Nat.mul_pos (show 0<4503599627370496+r % 4503599627370496 by omega) h1;omega
   · intro h;omega
theorem NY (r:Nat):V r<V (r+1):=by
 unfold V;by_cases h0:r+1<4503599627370496
 · rw [if_pos (by omega),if_pos h0];omega
 · by_cases h1:r<4503599627370496
   · rw [if_pos h1,if_neg h0]
     have:r+1=4503599627370496:=by omega
     rw [this];simp;omega
   · rw [if_neg h1,if_neg h0]
     by_cases h2:(r+1) % 4503599627370496=0
     · have e1:r % 4503599627370496=4503599627370495:=by omega
       have e2:(r+1) / 4503599627370496=r / 4503599627370496+1:=by omega
       have e3:(r+1) / 4503599627370496 - 1=(r / 4503599627370496 - 1)+1:=by omega
       rw [h2,e1,e3,Nat.pow_succ];have:=Nat.two_pow_pos (r / 4503599627370496 - 1);omega
     · have e1:(r+1) % 4503599627370496=r % 4503599627370496+1:=by omega
       have e2:(r+1) / 4503599627370496=r / 4503599627370496:=by omega
       rw [e1,e2,←Nat.add_assoc,Nat.add_mul _ 1];have:=Nat.two_pow_pos (r / 4503599627370496 - 1);omega
theorem uO {r s:Nat} (h:r<s):V r<V s:=by
 induction s with
 |zero=>omega
 |succ s ih=>
  rcases Nat.lt_or_ge r s with h1|h1
  · exact Nat.lt_trans (ih h1) (NY s)
  · have:r=s:=by omega
    subst this;exact NY r
theorem GX {r s:Nat}:V r<V s↔r<s:=by
 constructor
 · intro h
   rcases Nat.lt_trichotomy r s with h1|h1|h1
   · exact h1
   · subst h1;omega
   · have:=uO h1;omega
 · exact uO
theorem WR {r s:Nat}:V r=V s↔r=s:=by
 constructor
 · intro h
   rcases Nat.lt_trichotomy r s with h1|h1|h1
   · have:=uO h1;omega
   · exact h1
   · have:=uO h1;omega
 · rintro rfl;rfl
theorem Y7 (a b:Int) (n:Nat) (h:0<n):compare (a * n) (b * n)=compare a b:=by
 have hn:(0:Int)<n:=by omega
 rcases Int.lt_trichotomy a b with h1|h1|h1
 · have h2:=Int.mul_lt_mul_of_pos_right h1 hn
   rw [Int.compare_eq_lt.2 h1,Int.compare_eq_lt.2 h2]
 · subst h1;simp
 · have h2:=Int.mul_lt_mul_of_pos_right h1 hn
   rw [Int.compare_eq_gt.2 h1,Int.compare_eq_gt.2 h2]
theorem ME (s:Bool) (m k:Nat):signed s m k=(if s then -((m * 2 ^ k:Nat):Int) else ((m * 2 ^ k:Nat):Int)):=by
 unfold signed;rw [Nat.shiftLeft_eq]
theorem L9 {a b:Nat} (ha:isNan a=false) (hb:isNan b=false):Ieee.double.order a b=some (compare (val a) (val b)):=by
 have ha':rung a≤9218868437227405312:=by simpa [isNan,rung] using ha
 have hb':rung b≤9218868437227405312:=by simpa [isNan,rung] using hb
 unfold Format.order;by_cases ia:rung a=9218868437227405312
 · rw [read_inf ia]
   by_cases ib:rung b=9218868437227405312
   · rw [read_inf ib]
     simp only [Datum.order,val,ia,ib]
     cases isNeg a<;>cases isNeg b<;>simp<;>decide +kernel
   · obtain ⟨m,k,hr,hv,_⟩:=read_fin (b:=b) (by omega)
     rw [hr];have h1:=uO (show rung b<rung a by omega);simp only [Datum.order,val,ia];rw [ia] at h1
     cases isNeg a<;>cases isNeg b<;>simp only [Bool.false_eq_true,if_true,if_false,Option.some.injEq]
     · exact (Int.compare_eq_gt.2 (by omega)).symm
     · exact (Int.compare_eq_gt.2 (by omega)).symm
     · exact (Int.compare_eq_lt.2 (by omega)).symm
     · exact (Int.compare_eq_lt.2 (by omega)).symm
 · obtain ⟨m,k,hr,hv,_⟩:=read_fin (b:=a) (by omega)
   rw [hr];by_cases ib:rung b=9218868437227405312
   · rw [read_inf ib]
     have h1:=uO (show rung a<rung b by omega);simp only [Datum.order,val,ib];rw [ib] at h1
     cases isNeg a<;>cases isNeg b<;>simp only [Bool.false_eq_true,if_true,if_false,Option.some.injEq]
     · exact (Int.compare_eq_lt.2 (by omega)).symm
     · exact (Int.compare_eq_gt.2 (by omega)).symm
     · exact (Int.compare_eq_lt.2 (by omega)).symm
     · exact (Int.compare_eq_gt.2 (by omega)).symm
   · obtain ⟨n,l,hs,hw,_⟩:=read_fin (b:=b) (by omega)
     rw [hs];simp only [Datum.order,Option.some.injEq];rw [ME,ME];obtain ⟨c,hc⟩:∃c:Nat,min (-1074+(k:Int)) (-1074+(l:Int))= -1074+(c:Int)∧c≤k∧c≤l:=⟨min k l,by omega,by omega,by omega⟩;rw [hc.1];have e1:(-1074+(k:Int) - (-1074+(c:Int))).toNat=k - c:=by omega
     have e2:(-1074+(l:Int) - (-1074+(c:Int))).toNat=l - c:=by omega
     rw [e1,e2];have hv':V (rung a)=m * 2 ^ (k - c) * 2 ^ c:=by rw [Nat.mul_assoc,←Nat.pow_add,←hv];congr 2;omega
     have hw':V (rung b)=n * 2 ^ (l - c) * 2 ^ c:=by rw [Nat.mul_assoc,←Nat.pow_add,←hw];congr 2;omega
     unfold val;rw [hv',hw',←Y7 _ _ (2 ^ c) (Nat.two_pow_pos c)]
     cases isNeg a<;>cases isNeg b<;>simp [Int.neg_mul]
theorem zk {a b:Nat} (h:isNan a=true∨isNan b=true):Ieee.double.order a b=none:=by
 unfold Format.order
 rcases h with h|h
 · rw [SF h];cases Ieee.double.read b<;>rfl
 · rw [SF h];cases Ieee.double.read a<;>rfl
theorem AQ {a b:Nat}:(Ieee.double.order a b==some .eq)=(!isNan a&& !isNan b&&decide (val a=val b)):=by
 by_cases ha:isNan a=true
 · rw [zk (.inl ha),ha];rfl
 · by_cases hb:isNan b=true
   · rw [zk (.inr hb),hb];simp
   · simp only [Bool.not_eq_true] at ha hb
     rw [L9 ha hb,ha,hb]
     rcases Int.lt_trichotomy (val a) (val b) with h|h|h
     · rw [Int.compare_eq_lt.2 h];simp;omega
     · rw [h];simp
     · rw [Int.compare_eq_gt.2 h];simp;omega
theorem adH {a b:Nat}:(Ieee.double.order a b==some .lt)=(!isNan a&& !isNan b&&decide (val a<val b)):=by
 by_cases ha:isNan a=true
 · rw [zk (.inl ha),ha];rfl
 · by_cases hb:isNan b=true
   · rw [zk (.inr hb),hb];simp
   · simp only [Bool.not_eq_true] at ha hb
     rw [L9 ha hb,ha,hb]
     rcases Int.lt_trichotomy (val a) (val b) with h|h|h
     · rw [Int.compare_eq_lt.2 h];simp;omega
     · rw [h];simp
     · rw [Int.compare_eq_gt.2 h];simp;omega
theorem aai {a b:Nat}:(Ieee.double.order a b==some .gt)=(!isNan a&& !isNan b&&decide (val b<val a)):=by
 by_cases ha:isNan a=true
 · rw [zk (.inl ha),ha];rfl
 · by_cases hb:isNan b=true
   · rw [zk (.inr hb),hb];simp
   · simp only [Bool.not_eq_true] at ha hb
     rw [L9 ha hb,ha,hb]
     rcases Int.lt_trichotomy (val a) (val b) with h|h|h
     · rw [Int.compare_eq_lt.2 h];simp;omega
     · rw [h];simp
     · rw [Int.compare_eq_gt.2 h];simp;omega
theorem OH (way:Toward) (neg:Bool) (q d:Nat):way.cut neg (q * 2 ^ d) d=q:=by
 unfold Toward.cut;by_cases hq:q=0
 · subst hq
   simp only [Nat.zero_mul,Nat.zero_div,Nat.zero_mod];have hg:0<1 <<< min d (Nat.log2 0+2):=by rw [Nat.shiftLeft_eq];have:=Nat.two_pow_pos (min d (Nat.log2 0+2));omega
   cases way<;>simp<;>omega
 · have hne:q * 2 ^ d≠0:=Nat.mul_ne_zero hq (Nat.ne_of_gt (Nat.two_pow_pos d))
   have hl:d≤Nat.log2 (q * 2 ^ d):=(Nat.le_log2 hne).2 (Nat.le_mul_of_pos_left _ (Nat.pos_of_ne_zero hq));have e:min d ((q * 2 ^ d).log2+2)=d:=by omega
   rw [e];have eg:1 <<< d=2 ^ d:=by rw [Nat.shiftLeft_eq];omega
   simp only [eg];rw [Nat.mul_div_cancel _ (Nat.two_pow_pos d),Nat.mul_mod_left];have:=Nat.two_pow_pos d
   cases way<;>simp<;>omega
theorem LV (q d:Nat) (hq:q≠0):Nat.log2 (q * 2 ^ d)=Nat.log2 q+d:=by
 have hne:q * 2 ^ d≠0:=Nat.mul_ne_zero hq (Nat.ne_of_gt (Nat.two_pow_pos d))
 apply Nat.le_antisymm
 · have:Nat.log2 (q * 2 ^ d)<Nat.log2 q+d+1:=by
    rw [Nat.log2_lt hne];have h1:=(Nat.log2_lt hq (k:=Nat.log2 q+1)).1 (by omega)
    calc q * 2 ^ d<2 ^ (Nat.log2 q+1) * 2 ^ d:=Nat.mul_lt_mul_of_pos_right h1 (Nat.two_pow_pos d)
     _=2 ^ (Nat.log2 q+d+1):=by rw [←Nat.pow_add];congr 1;omega
   omega
 · rw [Nat.le_log2 hne,Nat.pow_add]
   exact Nat.mul_le_mul_right _ (Nat.log2_self_le hq)
theorem LU {m:Nat} (h0:4503599627370496≤m) (h1:m<9007199254740992):Nat.log2 m=52:=by
 have hne:m≠0:=by omega
 have a:52≤Nat.log2 m:=(Nat.le_log2 hne).2 (by simpa using h0);have b:Nat.log2 m<53:=(Nat.log2_lt hne).2 (by simpa using h1);omega
theorem Do (neg:Bool) {r mag:Nat} {place:Int} (hr:r<9218868437227405312) (h0:r≠0) (t u:Nat) (hp:place+1074=(t:Int) - (u:Int)) (hv:mag * 2 ^ t=V r * 2 ^ u):Ieee.double.nearest neg mag place=Ieee.double.word neg r:=by
 have hV:V r≠0:=fun h=>h0 (zT.1 h)
 have hm:mag≠0:=by
  rintro rfl;have:=Nat.mul_pos (Nat.pos_of_ne_zero hV) (Nat.two_pow_pos u);omega
 have hlog:(Nat.log2 mag:Int)+t=Nat.log2 (V r)+u:=by
  have:=congrArg Nat.log2 hv;rw [LV _ _ hm,LV _ _ hV] at this;omega
 obtain ⟨m,k,hmk,hm1,hk⟩:∃m k:Nat,m * 2 ^ k=V r∧m<9007199254740992∧((k=0∧r=m)∨(4503599627370496≤m∧m=4503599627370496+r % 4503599627370496∧k=r / 4503599627370496 - 1∧4503599627370496≤r)):=by
  by_cases h:r<4503599627370496
  · exact ⟨r,0,by rw [V,if_pos h];simp,by omega,.inl ⟨rfl,rfl⟩⟩
  · exact ⟨4503599627370496+r % 4503599627370496,r / 4503599627370496 - 1,by rw [V,if_neg h],by have:=Nat.mod_lt r (show 0<4503599627370496 by decide);omega,.inr ⟨by omega,rfl,rfl,by omega⟩⟩
 have hm0:m≠0:=by rintro rfl;rw [Nat.zero_mul] at hmk;exact hV hmk.symm
 have hlv:Nat.log2 (V r)=Nat.log2 m+k:=by rw [←hmk,LV _ _ hm0]
 have hlm:Nat.log2 m≤52:=by
  have:=(Nat.log2_lt hm0 (k:=53)).2 (by simpa using hm1);omega
 have hlast:max (place+(Nat.log2 mag:Int) - 52) (-1074)= -1074+(k:Int):=by
  rcases hk with ⟨hk,_⟩|⟨hk,_,_,_⟩
  · subst hk;omega
  · have:=LU hk hm1;omega
 unfold Format.nearest;rw [if_neg hm];simp only [ZQ,Dj,zX,Fv];have hl2:(max (place+(Nat.log2 mag:Int) - ((52:Nat):Int)) (-1074))= -1074+(k:Int):=hlast;rw [hl2]
 have hkept:Toward.even.cut neg (mag <<< (place - (-1074+(k:Int))).toNat) ((-1074+(k:Int)) - place).toNat=m:=by
  rw [Nat.shiftLeft_eq];rw [←hmk] at hv;by_cases hc:place+1074≤(k:Int)
  · have e1:(place - (-1074+(k:Int))).toNat=0:=by omega
    have e2:((-1074+(k:Int)) - place).toNat=k+u - t:=by omega
    rw [e1,e2,Nat.pow_zero,Nat.mul_one]
    have:mag=m * 2 ^ (k+u - t):=by
     have h3:mag * 2 ^ t=m * 2 ^ (k+u - t) * 2 ^ t:=by
      rw [hv,Nat.mul_assoc,Nat.mul_assoc,←Nat.pow_add,←Nat.pow_add];congr 2;omega
     exact Nat.eq_of_mul_eq_mul_right (Nat.two_pow_pos t) h3
    rw [this,OH]
  · have e1:(place - (-1074+(k:Int))).toNat=t - u - k:=by omega
    have e2:((-1074+(k:Int)) - place).toNat=0:=by omega
    rw [e1,e2]
    have:mag * 2 ^ (t - u - k)=m:=by
     have h3:mag * 2 ^ (t - u - k) * 2 ^ (k+u)=m * 2 ^ (k+u):=by
      rw [Nat.mul_assoc,←Nat.pow_add,show t - u - k+(k+u)=t by omega,hv,Nat.mul_assoc,←Nat.pow_add]
     exact Nat.eq_of_mul_eq_mul_right (Nat.two_pow_pos _) h3
    rw [this];have:=OH .even neg m 0
    simpa using this
 rw [hkept];have e3:((-1074+(k:Int)) - (-1074)).toNat=k:=by omega
 rw [e3]
 have hres:k * 4503599627370496+m=r:=by
  clear hkept hlast hl2 hlm hlv hm0 hmk hlog hm hV hv hp
  rcases hk with ⟨rfl,rfl⟩|⟨_,h1,h2,h3⟩
  · simp
  · have:=Nat.div_add_mod r 4503599627370496
    have:1≤r / 4503599627370496:=(Nat.le_div_iff_mul_le (by decide)).2 (by omega);rw [h1,h2,Nat.sub_mul];omega
 rw [hres,Nat.min_eq_left (by omega)]
theorem RK (neg:Bool) (place:Int):Ieee.double.nearest neg 0 place=Ieee.double.word neg 0:=by
 unfold Format.nearest;rw [if_pos rfl]
theorem D0 (neg:Bool) (r:Nat):Ieee.double.word neg r=(if neg then 9223372036854775808+r else r):=by unfold Format.word;rw [DP]
theorem SX {neg:Bool} {r:Nat} (h:r<9223372036854775808):rung (Ieee.double.word neg r)=r:=by
 rw [D0];unfold rung;cases neg<;>simp<;>omega
theorem Q3 {neg:Bool} {r:Nat} (h:r<9223372036854775808):isNeg (Ieee.double.word neg r)=neg:=by
 rw [D0];unfold isNeg;have h1:r / 9223372036854775808=0:=Nat.div_eq_of_lt h;have h2:(9223372036854775808+r) / 9223372036854775808=1:=by omega
 cases neg<;>simp [h1,h2]
theorem ahQ {b:Nat} (h:b<18446744073709551616):Ieee.double.word (isNeg b) (rung b)=b:=by
 rw [D0];unfold isNeg rung;have h1:b / 9223372036854775808<2:=by omega
 by_cases e:b / 9223372036854775808 % 2=1
 · simp [e];omega
 · simp [e];omega
theorem MA {q t:Nat} (hq:q≠0) (h1:q<9007199254740992) (h2:Nat.log2 q+t≤2097):∃r,r≠0∧r<9218868437227405312∧V r=q * 2 ^ t:=by
 have hl:Nat.log2 q≤52:=by have:=(Nat.log2_lt hq (k:=53)).2 (by simpa using h1);omega
 have hlo:2 ^ Nat.log2 q≤q:=Nat.log2_self_le hq;have hhi:q<2 ^ (Nat.log2 q+1):=(Nat.log2_lt hq).1 (by omega);by_cases h:Nat.log2 q+t≤51
 · have hlt:q * 2 ^ t<4503599627370496:=by
    calc q * 2 ^ t<2 ^ (Nat.log2 q+1) * 2 ^ t:=Nat.mul_lt_mul_of_pos_right hhi (Nat.two_pow_pos t)
     _=2 ^ (Nat.log2 q+1+t):=by rw [←Nat.pow_add]
     _≤2 ^ 52:=Nat.pow_le_pow_right (by decide) (by omega)
     _=4503599627370496:=by decide
   refine ⟨q * 2 ^ t,Nat.mul_ne_zero hq (Nat.ne_of_gt (Nat.two_pow_pos t)),by omega,?_⟩;rw [V,if_pos hlt]
 ·
  have hm0:4503599627370496≤q * 2 ^ (52 - Nat.log2 q):=by
   calc 4503599627370496=2 ^ Nat.log2 q * 2 ^ (52 - Nat.log2 q):=by rw [←Nat.pow_add,show Nat.log2 q+(52 - Nat.log2 q)=52 by omega]
    _≤_:=Nat.mul_le_mul_right _ hlo
  have hm1:q * 2 ^ (52 - Nat.log2 q)<9007199254740992:=by
   calc q * 2 ^ (52 - Nat.log2 q)<2 ^ (Nat.log2 q+1) * 2 ^ (52 - Nat.log2 q):=Nat.mul_lt_mul_of_pos_right hhi (Nat.two_pow_pos _)
    _=2 ^ 53:=by rw [←Nat.pow_add];congr 1;omega
    _=9007199254740992:=by decide
  obtain ⟨m,hm⟩:∃m,m=q * 2 ^ (52 - Nat.log2 q):=⟨_,rfl⟩;obtain ⟨k,hk⟩:∃k,k=Nat.log2 q+t - 52:=⟨_,rfl⟩;rw [←hm] at hm0 hm1;refine ⟨(k+1) * 4503599627370496+(m - 4503599627370496),by omega,?_,?_⟩
  · have:k≤2045:=by omega
    omega
  · have e1:((k+1) * 4503599627370496+(m - 4503599627370496)) / 4503599627370496=k+1:=by omega
    have e2:((k+1) * 4503599627370496+(m - 4503599627370496)) % 4503599627370496=m - 4503599627370496:=by omega
    rw [V,if_neg (by omega),e1,e2,show 4503599627370496+(m - 4503599627370496)=m by omega,hm,Nat.mul_assoc,←Nat.pow_add];rw [show 52 - Nat.log2 q+(k+1 - 1)=t by clear hm0 hm1 e1 e2 hm;omega]
end Go.Bw.Fl
namespace Go.Bw
open Go.RowKit
set_option linter.unusedVariables false
set_option linter.unusedSimpArgs false
section
variable {P:Program} {N:Nat} {D:List Deferred} {env env':Env} {a:Act} {w w':World} {Q:Exit→Act→World→Prop}
variable {ops:Array Oper} {rest:List Oper} {d:Nat} {op:Op} {ty:TypeId} {pos:String} {af:Array Edge}
def pp (P:Program) (f:FuncId) (E:Array Value→Sem Value):Prop:=∀(args:Array Value) (w:World),(callFunc f args).run P w=((E args).run P w).andThen fun v w'=> .ok (.value v) w'
theorem GG {x:Operand} {f:FuncId} {xs:Array Operand} {ts:Array TypeId} {vs:List Value} {v:Value} {E:Array Value→Sem Value} (he:pp P f E) (hx:ev env x=some (.func (.func f) #[] #[])) (hxs:kI env xs.toList=some vs) (hv:∀w,(E vs.toArray).run P w= .ok v w):Yl P N D env (.call ⟨.value x,xs,ts⟩) ty v:=
 ahZ (fun w=>by rw [he,hv w];rfl) hx hxs
theorem jI {x:Operand} {f:FuncId} {y:Operand} {ts:Array TypeId} {b:Nat} (he:pp P f Extern.MathFloatBits.float64bits) (hx:ev env x=some (.func (.func f) #[] #[])) (hy:kI env [y]=some [.float .f64 b]):Yl P N D env (.call ⟨.value x,#[y],ts⟩) ty (.int .u64 b):=
 GG he hx hy (fun w=>rfl)
theorem qN {x:Operand} {f:FuncId} {y:Operand} {ts:Array TypeId} {n:Int} (he:pp P f Extern.MathFloatBits.float64frombits) (hx:ev env x=some (.func (.func f) #[] #[])) (hy:kI env [y]=some [.int .u64 n]):Yl P N D env (.call ⟨.value x,#[y],ts⟩) ty (.float .f64 n.toNat):=
 GG he hx hy (fun w=>rfl)
theorem ah0 {x : Operand} {f : FuncId} {y : Operand} {ts : Array TypeId} {b : Nat} (he : pp P f (Extern.MathFloor.toIntegral "math.archFloor" .down)) (hx : ev env x = some (.func (.func f) #[] #[])) (hy : kI env [y] = some [.float .f64 b]) (hn : Fl.isNan b = false) : Yl P N D env (.call ⟨.value x, #[y], ts⟩) ty (.float .f64 (tZ b)) :=
 GG he hx hy (fun w=>by
  have hr:FloatKind.f64.decode b=Ieee.double.read b:=rfl
  have h1:∀s t,Ieee.double.read b≠ .nan s t:=fun s t e=>by
   by_cases h:Fl.rung b<9218868437227405312
   · obtain ⟨m,k,h2,_⟩:=Fl.read_fin h;rw [h2] at e;cases e
   · have h3:Fl.rung b≤9218868437227405312:=by simpa [Fl.isNan,Fl.rung] using hn
     rw [Fl.read_inf (by omega)] at e;cases e
  show (match FloatKind.f64.decode b with| .nan s t=>_|d=>_:Sem Value).run P w=_
  rw [hr]
  unfold tZ
  cases hd:Ieee.double.read b with
  |nan s t=>exact absurd hd (h1 s t)
  |number s m i=>rfl
  |infinity s=>rfl)
theorem GI {x y:Operand} {k:FloatKind} {m n r:Nat} {t u:TypeId} (hx:ev env x=some (.float k m)) (hy:ev env y=some (.float k n)) (h:floatBits .mul k m n=some r):Yl P N D env (.binOp .mul t x y u) ty (.float k r):=fun a ha w dst pos af g=>by
 simp [execOp,ha.eval hx,ha.eval hy,eqGuard_mul,run_float_arith w .mul t k m n r h]
theorem ah5 {x:Operand} {b:Nat} {t:TypeId} (hx:ev env x=some (.float .f64 b)):Yl P N D env (.unOp .neg t x) ty (.float .f64 (b ^^^ 9223372036854775808)):=fun a ha w dst pos af g=>by
 have:Op.negFloat .f64 b=b ^^^ 9223372036854775808:=rfl;simp [execOp,ha.eval hx,Op.unary,this]
theorem Ni {x:Operand} {k:IntKind} {n:Int} {t:TypeId} (hx:ev env x=some (.int k n)):Yl P N D env (.unOp .neg t x) ty (.int k (k.wrap (0 - n))):=fun a ha w dst pos af g=>by
 simp [execOp,ha.eval hx,Op.unary,Op.intArith]
theorem GD {x y:Operand} {k:IntKind} {m n:Int} {t u:TypeId} (hx:ev env x=some (.int k m)) (hy:ev env y=some (.int k n)):Yl P N D env (.binOp .andNot t x y u) ty (.int k (bits .andNot k m n)):=fun a ha w dst pos af g=>by
 simp [execOp,ha.eval hx,ha.eval hy,eqGuard_andNot,binOp_andNot,intBits_andNot]
theorem UC {x:Operand} {s:FloatKind} {k:IntKind} {b:Nat} {n:Int} {t u:TypeId} (hs:(P.underlying t).isSome=true) (hd:P.underlying u=some (.int k)) (hx:ev env x=some (.float s b)) (h:floatToIntVal s b k=some n):Yl P N D env (.convert t u x) ty (.int k n):=fun a ha w dst pos af g=>by
 simp [execOp,ha.eval hx,run_convert_float_int w t u s k b n hs hd h]
end
end Go.Bw
namespace Go.Bw.Fl
open Ieee Go
def v2 (m:Nat):Nat:=if h:m≠0∧m % 2=0 then v2 (m / 2)+1 else 0
termination_by m
decreasing_by omega
def od (m:Nat):Nat:=m / 2 ^ v2 m
theorem ahp {m:Nat} (h0:m≠0) (h:m % 2=0):v2 m=v2 (m / 2)+1:=by rw [v2,dif_pos ⟨h0,h⟩]
theorem ahq {m:Nat} (h:m % 2=1):v2 m=0:=by rw [v2,dif_neg (by omega)]
theorem pa (m:Nat) (h:m≠0):m=od m * 2 ^ v2 m∧od m % 2=1:=by
 induction m using Nat.strongRecOn with
 |ind m ih=>
  by_cases e:m % 2=0
  · obtain ⟨h1,h2⟩:=ih (m / 2) (by omega) (by omega)
    have hv:=ahp h e;have ho:od m=od (m / 2):=by unfold od;rw [hv,Nat.pow_succ,Nat.mul_comm (2 ^ _) 2,←Nat.div_div_eq_div_mul]
    refine ⟨?_,ho ▸ h2⟩;rw [ho,hv,Nat.pow_succ,←Nat.mul_assoc,←h1];omega
  · have hv:v2 m=0:=ahq (by omega)
    have ho:od m=m:=by unfold od;rw [hv];simp
    rw [ho,hv];exact ⟨by simp,by omega⟩
theorem dvd_pow {o t j:Nat} (ho:o % 2=1):2 ^ j ∣ o * 2 ^ t↔j≤t:=by
 constructor
 · rintro ⟨c,hc⟩
   rcases Nat.lt_or_ge t j with h|h
   · exfalso
     have:o * 2 ^ t=(2 * 2 ^ (j - t - 1) * c) * 2 ^ t:=by
      rw [hc,Nat.mul_right_comm,←Nat.pow_succ',←Nat.pow_add];congr 2;omega
     have:=Nat.eq_of_mul_eq_mul_right (Nat.two_pow_pos t) this;rw [Nat.mul_assoc] at this;omega
   · exact h
 · intro h
   exact ⟨o * 2 ^ (t - j),by rw [Nat.mul_left_comm,←Nat.pow_add];congr 2;omega⟩
theorem ad6 {o t:Nat} (ho:o % 2=1):v2 (o * 2 ^ t)=t∧od (o * 2 ^ t)=o:=by
 have hne:o * 2 ^ t≠0:=Nat.mul_ne_zero (by omega) (Nat.ne_of_gt (Nat.two_pow_pos t));obtain ⟨h1,h2⟩:=pa _ hne;have a:v2 (o * 2 ^ t)≤t:=(dvd_pow ho).1 ⟨od (o * 2 ^ t),h1.trans (Nat.mul_comm _ _)⟩;have b:t≤v2 (o * 2 ^ t):=(dvd_pow h2).1 ⟨o,by rw [Nat.mul_comm (2 ^ t) o];exact h1.symm⟩;have e:v2 (o * 2 ^ t)=t:=by omega
 refine ⟨e,?_⟩;unfold od;rw [e,Nat.mul_div_cancel _ (Nat.two_pow_pos t)]
def Wk (k M:Nat):Nat:=(1022+k) * 4503599627370496+(M - 4503599627370496)
structure k8 (M:Nat):Prop where
 lo:4503599627370496≤M
 hi:M<9007199254740992
section
variable {M k:Nat}
theorem N1 (h:k8 M):Wk k M / 4503599627370496=1022+k:=by have:=h.lo;have:=h.hi;unfold Wk;omega
theorem N2 (h:k8 M):Wk k M % 4503599627370496=M - 4503599627370496:=by have:=h.lo;have:=h.hi;unfold Wk;omega
theorem zU (h:k8 M) (hk:k≤60):Wk k M<9218868437227405312:=by have:=h.lo;have:=h.hi;unfold Wk;omega
theorem Eh (h:k8 M) (hk:k≤60):rung (Wk k M)=Wk k M:=Nat.mod_eq_of_lt (by have:=zU h hk;omega)
theorem N3 (h:k8 M) (hk:k≤60):isNeg (Wk k M)=false:=by
 unfold isNeg;rw [Nat.div_eq_of_lt (by have:=zU h hk;omega)];rfl
theorem GY (h:k8 M) (hk:k≤60):isNan (Wk k M)=false:=by
 have h1:=zU h hk;unfold isNan;rw [Nat.mod_eq_of_lt (by omega)];simp;omega
theorem NX (h:k8 M):V (Wk k M)=M * 2 ^ (1021+k):=by
 have h0:=h.lo;have h1:¬Wk k M<4503599627370496:=by unfold Wk;omega
 rw [V,if_neg h1,N1 h,N2 h,show 4503599627370496+(M - 4503599627370496)=M by omega,show 1022+k - 1=1021+k by omega]
theorem ahu (h:k8 M) (hk:k≤60):val (Wk k M)=((M * 2 ^ (1021+k):Nat):Int):=by
 unfold val;rw [N3 h hk,Eh h hk,NX h];rfl
theorem Mt (h:k8 M) (hk:k≤60):Ieee.double.read (Wk k M)= .number false M ((k:Int) - 53):=by
 have h0:=h.lo;rw [xW (by rw [Eh h hk];unfold Wk;omega) (by rw [Eh h hk];exact zU h hk),N3 h hk,Eh h hk,N1 h,N2 h];rw [show 4503599627370496+(M - 4503599627370496)=M by omega]
 congr 1;omega
theorem ae9:Ieee.double.read 4611686018427387904= .number false 4503599627370496 (-51):=by
 rw [xW (by decide) (by decide)];rfl
theorem mul_two (h:k8 M) (hk:k≤59):floatBits .mul .f64 (Wk k M) 4611686018427387904=some (Wk (k+1) M):=by
 show Ieee.double.mul (Wk k M) 4611686018427387904=_;unfold Format.mul;rw [Mt h (by omega),ae9];show some (Ieee.double.nearest (false ^^ false) (M * 4503599627370496) ((k:Int) - 53+ -51))=_;rw [Do (r:=Wk (k+1) M) _ (zU h (by omega)) (by unfold Wk;omega) (k+970) 0 (by omega)]
 · rfl
 · rw [NX h,show (4503599627370496:Nat)=2 ^ 52 by decide,Nat.mul_assoc,Nat.mul_assoc,←Nat.pow_add,←Nat.pow_add]
   congr 2;omega
theorem OI (way:Toward) (hw:way= .down∨way= .zero) {n d:Nat} (hd:d≤Nat.log2 n+2):way.cut false n d=n / 2 ^ d:=by
 unfold Toward.cut;rw [Nat.min_eq_left hd,Nat.shiftLeft_eq,Nat.one_mul]
 rcases hw with rfl|rfl<;>simp
theorem Z3 (h:k8 M) (hk:k≤53):tZ (Wk k M)=Ieee.double.nearest false (M / 2 ^ (53 - k)) 0:=by
 unfold tZ;rw [Mt h (by omega)];show Ieee.double.nearest false (Toward.down.cut false (M <<< ((k:Int) - 53).toNat) (-((k:Int) - 53)).toNat) 0=_;have e1:((k:Int) - 53).toNat=0:=by omega
 have e2:(-((k:Int) - 53)).toNat=53 - k:=by omega
 rw [e1,e2,Nat.shiftLeft_zero,OI .down (.inl rfl) (by rw [LU h.lo h.hi];omega)]
theorem adR {q:Nat} (h1:q<9007199254740992):isNan (Ieee.double.nearest false q 0)=false∧val (Ieee.double.nearest false q 0)=((q * 2 ^ 1074:Nat):Int):=by
 by_cases h0:q=0
 · subst h0;rw [RK];decide +kernel
 · have hl:Nat.log2 q≤52:=by have:=(Nat.log2_lt h0 (k:=53)).2 (by simpa using h1);omega
   obtain ⟨r,r0,r1,r2⟩:=MA (t:=1074) h0 h1 (by omega);rw [Do (r:=r) _ r1 r0 1074 0 (by omega) (by rw [r2,Nat.pow_zero,Nat.mul_one])];have hn:isNeg (Ieee.double.word false r)=false:=Q3 (by omega);have hr:rung (Ieee.double.word false r)=r:=SX (by omega)
   constructor
   · unfold isNan;rw [show Ieee.double.word false r % 9223372036854775808=r from hr];simp;omega
   · unfold val;rw [hn,hr,r2];rfl
theorem Ux (h:k8 M) (hk:k≤53):(Ieee.double.order (Wk k M) (tZ (Wk k M))==some .eq)=decide (2 ^ (53 - k) ∣ M):=by
 have hq:M / 2 ^ (53 - k)<9007199254740992:=Nat.lt_of_le_of_lt (Nat.div_le_self _ _) h.hi;obtain ⟨h1,h2⟩:=adR hq;rw [AQ,Z3 h hk,h1,GY h (by omega),h2,ahu h (by omega)];simp only [Bool.not_false,Bool.true_and]
 apply decide_eq_decide.2
 rw [Int.ofNat_inj]
 constructor
 · intro e
   have e':M * 2 ^ (1021+k)=(M / 2 ^ (53 - k) * 2 ^ (53 - k)) * 2 ^ (1021+k):=by
    rw [e,Nat.mul_assoc,←Nat.pow_add];congr 2;omega
   have:=Nat.eq_of_mul_eq_mul_right (Nat.two_pow_pos _) e';exact ⟨_,by rw [Nat.mul_comm];exact this⟩
 · rintro ⟨c,rfl⟩
   rw [Nat.mul_div_cancel_left _ (Nat.two_pow_pos _),Nat.mul_comm (2 ^ _) c,Nat.mul_assoc,←Nat.pow_add]
   congr 2;omega
theorem af5 (M:Nat) (i:Int):(Datum.number false M i).toInt .zero=some (signed false (Toward.zero.cut false (M <<< i.toNat) (-i).toNat) 0):=rfl
theorem af4 (h:k8 M) (hk:k≤53):(Datum.number false M ((k:Int) - 53)).toInt .zero=some ((M / 2 ^ (53 - k):Nat):Int):=by
 have e1:((k:Int) - 53).toNat=0:=by omega
 have e2:(-((k:Int) - 53)).toNat=53 - k:=by omega
 rw [af5,e1,e2,Nat.shiftLeft_zero,OI .zero (.inr rfl) (by rw [LU h.lo h.hi];omega),ME,if_neg (by decide),Nat.pow_zero,Nat.mul_one]
theorem ZJ {b q:Nat} (h:(Ieee.double.read b).toInt .zero=some (q:Int)) (hq:q<18446744073709551616):floatToIntVal .f64 b .u64=some (q:Int):=by
 have hd:FloatKind.f64.decode b=Ieee.double.read b:=rfl;have hmin:IntKind.u64.min=0:=by decide
 have hmax:IntKind.u64.max=18446744073709551615:=by decide
 unfold floatToIntVal;rw [hd,h];show (if _ then _ else _)=_;rw [hmin,hmax,if_pos ⟨by omega,by omega⟩]
theorem Q2 (h:k8 M) (hk:k≤53):floatToIntVal .f64 (Wk k M) .u64=some ((M / 2 ^ (53 - k):Nat):Int):=
 ZJ (by rw [Mt h (by omega)];exact af4 h hk) (Nat.lt_of_le_of_lt (Nat.div_le_self _ _) (by have:=h.hi;omega))
end
def bx (r:Nat):Nat:=if r<4503599627370496 then r else 4503599627370496+r % 4503599627370496
def dG (r:Nat):Int:=if r<4503599627370496 then -1074 else ((r / 4503599627370496:Nat):Int) - 1075
theorem qC {r:Nat} (h:r≠0):bx r≠0:=by unfold bx;split<;>omega
theorem ad2 {r:Nat} (h0:r≠0) (h1:r<4503599627370496):∃r',r'<9218868437227405312∧4503599627370496≤r'∧r'<4503599627370496 * 54∧V r'=r * 2 ^ 52∧floatBits .mul .f64 r 4841369599423283200=some r':=by
 have hl:Nat.log2 r≤51:=by have:=(Nat.log2_lt h0 (k:=52)).2 (by simpa using h1);omega
 obtain ⟨r',a,b,c⟩:=MA (t:=52) h0 (by omega) (by omega);have hV:V 4503599627370496=4503599627370496:=by decide
 have hlow:¬r'<4503599627370496:=fun hlt=>by
  have e:=uO hlt;rw [hV,c] at e;have:1 * 2 ^ 52≤r * 2 ^ 52:=Nat.mul_le_mul_right _ (by omega);omega
 have hhi:r'<4503599627370496 * 54:=by
  rw [←GX,c];have e:V (4503599627370496 * 54)=4503599627370496 * 2 ^ 53:=by decide
  rw [e];have:r * 2 ^ 52<4503599627370496 * 2 ^ 52:=Nat.mul_lt_mul_of_pos_right h1 (by decide);omega
 refine ⟨r',b,by omega,hhi,c,?_⟩;show Ieee.double.mul r 4841369599423283200=_;unfold Format.mul;have hr:rung r=r:=Nat.mod_eq_of_lt (by omega);have hn:isNeg r=false:=by unfold isNeg;rw [Nat.div_eq_of_lt (by omega)];rfl
 rw [SI (by rw [hr];exact h1),hr,hn,show Ieee.double.read 4841369599423283200= .number false 4503599627370496 0 by rw [xW (by decide) (by decide)];rfl];show some (Ieee.double.nearest (false ^^ false) (r * 4503599627370496) (-1074+0))=_;rw [Do (r:=r') _ b a 0 0 (by omega)]
 · rfl
 · rw [c,show (4503599627370496:Nat)=2 ^ 52 by decide]
def NF (r r':Nat) (s:Int):Prop:=r'<9218868437227405312∧4503599627370496≤r'∧((r<4503599627370496∧s= -52∧V r'=r * 2 ^ 52)∨(4503599627370496≤r∧s=0∧r'=r))
def GN (r M:Nat) (e:Int):Prop:=k8 M∧∃s:Nat,s≤52∧M=od (bx r) * 2 ^ s∧e - 53+s=dG r+v2 (bx r)
theorem Z7 {r r':Nat} {s:Int} (h0:r≠0) (h:NF r r' s):GN r (4503599627370496+r' % 4503599627370496) (s+(((r' / 4503599627370496:Nat):Int) - 1022)):=by
 obtain ⟨h1,h2,h3⟩:=h;have hM:k8 (4503599627370496+r' % 4503599627370496):=⟨by omega,by have:=Nat.mod_lt r' (show 0<4503599627370496 by decide);omega⟩;obtain ⟨ho1,ho2⟩:=pa _ (qC h0)
 have small:∀t,4503599627370496+r' % 4503599627370496=od (bx r) * 2 ^ t→t≤52:=fun t e=>by
  rcases Nat.lt_or_ge 52 t with h|h
  · have:2 ^ 53≤2 ^ t:=Nat.pow_le_pow_right (by decide) h
    have h5:1 * 2 ^ t≤od (bx r) * 2 ^ t:=Nat.mul_le_mul_right _ (by omega);have:=hM.hi;omega
  · exact h
 refine ⟨hM,?_⟩
 rcases h3 with ⟨ha,rfl,hV⟩|⟨ha,rfl,rfl⟩
 · have hm:bx r=r:=if_pos ha
   have he:dG r= -1074:=if_pos ha;obtain ⟨j,hj⟩:∃j,r' / 4503599627370496=j+1:=⟨r' / 4503599627370496 - 1,by have:1≤r' / 4503599627370496:=(Nat.le_div_iff_mul_le (by omega)).2 (by omega);omega⟩;have hVr:V r'=(4503599627370496+r' % 4503599627370496) * 2 ^ j:=by rw [V,if_neg (by omega),hj];rfl
   have key:(4503599627370496+r' % 4503599627370496) * 2 ^ j=od (bx r) * 2 ^ (v2 (bx r)+52):=by
    rw [←hVr,hV,Nat.pow_add,←Nat.mul_assoc,←ho1,hm]
   have hjt:j≤v2 (bx r)+52:=(dvd_pow ho2).1 ⟨_,by rw [←key,Nat.mul_comm]⟩
   have hMe:4503599627370496+r' % 4503599627370496=od (bx r) * 2 ^ (v2 (bx r)+52 - j):=by
    have:(4503599627370496+r' % 4503599627370496) * 2 ^ j=(od (bx r) * 2 ^ (v2 (bx r)+52 - j)) * 2 ^ j:=by
     rw [key,Nat.mul_assoc,←Nat.pow_add];rw [show v2 (bx r)+52 - j+j=v2 (bx r)+52 by omega]
    exact Nat.eq_of_mul_eq_mul_right (Nat.two_pow_pos j) this
   exact ⟨_,small _ hMe,hMe,by rw [he,hj];omega⟩
 · have hm:bx r'=4503599627370496+r' % 4503599627370496:=if_neg (by omega)
   have he:dG r'=((r' / 4503599627370496:Nat):Int) - 1075:=if_neg (by omega);have hMe:4503599627370496+r' % 4503599627370496=od (bx r') * 2 ^ v2 (bx r'):=by rw [←ho1,hm]
   exact ⟨_,small _ hMe,hMe,by rw [he];omega⟩
def eB (b:Nat):List UInt8:=if isNeg b=true then [45] else []
def dr (b:Nat):List UInt8:=
 if isNan b=true then [110,97,110] else if rung b=9218868437227405312 then eB b++ [105,110,102] else if rung b=0 then eB b++ [48,112,48]
 else eB b++Lib.decDigits (od (bx (rung b)))++ [112]++Lib.itoa (dG (rung b)+v2 (bx (rung b)))
theorem val_zero {b:Nat}:val b=0↔rung b=0:=by
 unfold val;have h:=zT (r:=rung b)
 split<;>(rw [←h];omega)
end Go.Bw.Fl
namespace Go.Proofs.YtjmlknjbhbfneaaGreatDoor
open Go.RowKit Go.Bw Go.Bw.Fl Ieee
set_option linter.unusedVariables false
set_option linter.unusedSimpArgs false
def pw (n:Nat):Nat:=2 ^ n
def D:Nat:=pw 1074
end Go.Proofs.YtjmlknjbhbfneaaGreatDoor
