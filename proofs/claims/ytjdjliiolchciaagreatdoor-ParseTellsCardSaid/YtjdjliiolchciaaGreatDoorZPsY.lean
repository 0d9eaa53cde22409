import Derived.Test.YtjdjliiolchciaaGreatDoorZP6
namespace Go.Proofs.YtjdjliiolchciaaGreatDoor
open Go.RowKit Go.Bw Go.Bw.Fl
set_option linter.unusedVariables false
set_option linter.unusedSimpArgs false
theorem SZ:(Tryz.prog.info? 3).map (·.size)=some 1:=by kernel_rfl
def ut:List (ao):= [[45,91],[60,45,91],[126,91],[60,45,91],[60,126,91],[126,91],[45,91]]
def ur:List (ao):= [[93,45,62],[93,45],[93,126],[93,45,62],[93,126],[93,126,62],[93,45]]
def wL:List (ao):= [[45,62],[60,45],[126],[60,45,62],[60,126],[126,62],[45]]
def IL:List Int:= [4,1,2,5,3,6,7]
def iy (o c:ao) (i:Nat):Bool:=decide ((c= []∧wL.getD i []=o)∨(c≠ []∧ut.getD i []=o∧ur.getD i []=c))
def lz (o c:ao):Int:=match (List.range 7).find? (iy o c) with
 |some i=>IL.getD i 0
 |none=>0
theorem Yp {o c:ao} {i:Nat} (hi:i<7) (h:iy o c i=true) (hn:∀j,j<i→iy o c j=false):lz o c=IL.getD i 0:=by
 have e:(List.range 7).find? (iy o c)=some i:=by
  rw [List.find?_eq_some_iff_getElem];exact ⟨h,i,by simpa using hi,by simp,fun j hj=>by have:=hn j hj;simp [this]⟩
 unfold lz;rw [e]
theorem IQ {o c:ao} (hn:∀j,j<7→iy o c j=false):lz o c=0:=by
 have e:(List.range 7).find? (iy o c)=none:=by
  rw [List.find?_eq_none];intro x hx;rw [hn x (by simpa using hx)];simp
 unfold lz;rw [e]
theorem aeK {l:List (ao)} {i:Nat} (hi:i<l.length):(b9 l)[i]? =some (str (l.getD i [])):=by
 simp [b9,List.getD,List.getElem?_eq_getElem hi]
theorem yc {w:World} {g i:Nat} {t:TypeId} {l:List (ao)} (h:ak w g t (b9 l)) (hi:i<l.length):w.cell? ((⟨g,0,none⟩:Addr).add ((i:Int).toNat * 1))=some (str (l.getD i [])):=by
 rw [Int.toNat_natCast,Nat.mul_one];exact h.at (aeK hi)
theorem ints_at:∀{i:Nat},i<7→([.int .i64 4,.int .i64 1,.int .i64 2,.int .i64 5,.int .i64 3,.int .i64 6,.int .i64 7]:List Value)[i]? =some (.int .i64 (IL.getD i 0)):=fun {i} hi=>by
 have:i=0∨i=1∨i=2∨i=3∨i=4∨i=5∨i=6:=by omega
 rcases this with rfl|rfl|rfl|rfl|rfl|rfl|rfl<;>rfl
theorem Ge (o c:ao) (w:World):bx Tryz.prog 78 [str o,str c] w fun v w'=>v= .int .i64 (lz o c)∧Below w.heap.size w w':=by
 have hb:=Below.refl w.heap.size w;refine enter Tryz.func78 rfl rfl rfl<|am fun aR=>an rfl<|al aR<|am fun bt=>cz (sz:=1) (vs:= [_,_,_,_,_,_,_]) dl (by kernel_rfl) rfl rfl rfl rfl rfl rfl ?_
 rintro cp fA fw aI aV;have:=aV.size;have hb:=aZ hb aV;have:=aI.lt;refine an rfl<|al bt<|am fun fi=>cz (sz:=1) (vs:= [_,_,_,_,_,_,_]) dl (by kernel_rfl) rfl rfl rfl rfl rfl rfl ?_
 rintro cK jB jG aK bA;have:=bA.size;have hb:=aZ hb bA;have aI:=ak.below aI bA;have:=aK.lt;refine an rfl<|al fi<|am fun dW=>cz (sz:=1) (vs:= [_,_,_,_,_,_,_]) dl (by kernel_rfl) rfl rfl rfl rfl rfl rfl ?_
 rintro eA pO f4 bn c8;have:=c8.size;have hb:=aZ hb c8;have aI:=ak.below aI c8;have aK:=ak.below aK c8;have:=bn.lt;refine an rfl<|al dW<|am fun dU=>cz (sz:=1) (vs:= [_,_,_,_,_,_,_]) Aa (by kernel_rfl) rfl rfl rfl rfl rfl rfl ?_
 rintro eW sA l8 bu d4;have:=d4.size;have hb:=aZ hb d4;have aI:=ak.below aI d4;have aK:=ak.below aK d4;have bn:=ak.below bn d4;have:=bu.lt;refine an rfl<|al dU<|av fun _ eL=>am fun gH=>an rfl<|al gH<|b4<|d9 (X:=Nat) (fun i=> [(0,str o),(1,str c),(5,.slice (some ⟨cp,0,none⟩) 7 7),(6,.slice (some ⟨cK,0,none⟩) 7 7),(7,.slice (some ⟨eA,0,none⟩) 7 7),(8,.slice (some ⟨eW,0,none⟩) 7 7),(9,.int .i64 (i:Int))]) (fun i wr=>i≤7∧(∀j,j<i→iy o c j=false)∧Below w.heap.size w wr∧ak wr cp 9 (b9 ut)∧ak wr cK 9 (b9 ur)∧ak wr eA 9 (b9 wL)∧ak wr eW 3 [.int .i64 4,.int .i64 1,.int .i64 2,.int .i64 5,.int .i64 3,.int .i64 6,.int .i64 7]) (fun i=>7 - i) (0) ?_ ?_ ?_
 · exact by repeat first|exact aC|refine aA rfl (by first|rfl|exact aH (by omega)) ?_
 · exact ⟨by omega,fun j h=>by omega,hb,aI,aK,bn,bu⟩
 rintro i wr JP _ aao;replace JP:i≤7∧(∀j,j<i→iy o c j=false)∧Below w.heap.size w wr∧ak wr cp 9 (b9 ut)∧ak wr cK 9 (b9 ur)∧ak wr eA 9 (b9 wL)∧ak wr eW 3 [.int .i64 4,.int .i64 1,.int .i64 2,.int .i64 5,.int .i64 3,.int .i64 6,.int .i64 7]:=JP;obtain ⟨hi,hall,hb,aI,aK,bn,bu⟩:=JP;show Wc _ _ _ _ _ [(0,str o),(1,str c),(5,.slice (some ⟨cp,0,none⟩) 7 7),(6,.slice (some ⟨cK,0,none⟩) 7 7),(7,.slice (some ⟨eA,0,none⟩) 7 7),(8,.slice (some ⟨eW,0,none⟩) 7 7),(9,.int .i64 (i:Int))] _;have:=hb.size;have:=aI.lt;have:=aK.lt;have:=bn.lt;have:=bu.lt;refine av fun _ eM=>am fun mC=>ai rfl<|ae (dL rfl rfl) rfl<|al mC<|aO rfl (fun vx=>?_) (fun vx=>?_)
 ·
  have W1:=vx;simp only [DZ] at vx;have hi7:i<7:=by have:=vx;omega
  refine aU<|ax eM<|av fun _ gu=>b4<|av fun _ ju=>cR (X:=Bool) (fun q=> [(0,str o),(1,str c),(5,.slice (some ⟨cp,0,none⟩) 7 7),(6,.slice (some ⟨cK,0,none⟩) 7 7),(7,.slice (some ⟨eA,0,none⟩) 7 7),(8,.slice (some ⟨eW,0,none⟩) 7 7),(9,.int .i64 (i:Int)),(47,.bool q)]) (fun q wr=>q=iy o c i∧Below w.heap.size w wr∧ak wr cp 9 (b9 ut)∧ak wr cK 9 (b9 ur)∧ak wr eA 9 (b9 wL)∧ak wr eW 3 [.int .i64 4,.int .i64 1,.int .i64 2,.int .i64 5,.int .i64 3,.int .i64 6,.int .i64 7]) (fun _ xI=>?_) ?_
  ·
   refine aQ<|ai rfl<|ae (fl rfl rfl) rfl<|ai rfl<|cG rfl rfl rfl (fun kC=>?_) (fun kC=>?_)
   ·
    refine ai rfl<|ap rfl rfl kC<|ai rfl<|ap rfl rfl kC<|ae (f8 dl pL rfl rfl (by omega) (by omega)) rfl<|ap rfl rfl kC<|aG (aS di rfl (by exact yc bn (show i<wL.length from hi7))) rfl<|ap rfl rfl kC<|ai rfl<|ap rfl rfl kC<|ae (fl rfl rfl) rfl<|ae (bo rfl kC rfl) rfl<|ai rfl<|dy rfl rfl rfl (fun fR=>?_) (fun fR=>?_)
    ·
     refine az rfl rfl fR rfl rfl<|az rfl rfl fR rfl rfl<|bY rfl rfl rfl<|bY rfl rfl rfl<|bY rfl rfl rfl<|bY rfl rfl rfl<|bY rfl rfl rfl<|bY rfl rfl rfl<|az rfl rfl fR rfl rfl<|az rfl rfl fR rfl rfl<|bY rfl rfl rfl<|bY rfl rfl rfl<|bY rfl rfl rfl<|bY rfl rfl rfl<|bY rfl rfl rfl<|bY rfl rfl rfl<|az rfl rfl fR rfl rfl<|ae (bo rfl fR rfl) rfl<|ay<|a7 xI (iy o c i) (by repeat first|exact aC|refine aA rfl (by first|rfl|exact a8 (by unfold iy;rw [Bool.eq_iff_iff];simp_all)) ?_) ?_
     exact ⟨rfl,hb,aI,aK,bn,bu⟩
    refine ai rfl<|ap rfl rfl fR<|ae (yA rfl rfl) rfl<|ap rfl rfl fR<|ai rfl<|cG rfl rfl rfl (fun pa=>?_) (fun pa=>?_)
    ·
     refine ai rfl<|ap rfl rfl pa<|ai rfl<|ap rfl rfl pa<|ae (f8 dl pL rfl rfl (by omega) (by omega)) rfl<|ap rfl rfl pa<|aG (aS di rfl (by exact yc aI (show i<ut.length from hi7))) rfl<|ap rfl rfl pa<|ai rfl<|ap rfl rfl pa<|ae (fl rfl rfl) rfl<|ap rfl rfl fR<|ae (bo rfl pa rfl) rfl<|ap rfl rfl fR<|ai rfl<|cG rfl rfl rfl (fun jr=>?_) (fun jr=>?_)
     ·
      refine ai rfl<|ap rfl rfl jr<|ai rfl<|ap rfl rfl jr<|ae (f8 dl pL rfl rfl (by omega) (by omega)) rfl<|ap rfl rfl jr<|aG (aS di rfl (by exact yc aK (show i<ur.length from hi7))) rfl<|ap rfl rfl jr<|ai rfl<|ap rfl rfl jr<|ae (fl rfl rfl) rfl<|ap rfl rfl fR<|ae (bo rfl jr rfl) rfl<|ae (bj rfl fR rfl) rfl<|ay<|a7 xI (iy o c i) (by repeat first|exact aC|refine aA rfl (by first|rfl|exact a8 (by unfold iy;rw [Bool.eq_iff_iff];simp_all)) ?_) ?_
      exact ⟨rfl,hb,aI,aK,bn,bu⟩
     refine az rfl rfl jr rfl rfl<|az rfl rfl jr rfl rfl<|az rfl rfl jr rfl rfl<|az rfl rfl jr rfl rfl<|az rfl rfl jr rfl rfl<|ap rfl rfl fR<|ae (bj rfl jr rfl) rfl<|ae (bj rfl fR rfl) rfl<|ay<|a7 xI (iy o c i) (by repeat first|exact aC|refine aA rfl (by first|rfl|exact a8 (by unfold iy;rw [Bool.eq_iff_iff];simp_all)) ?_) ?_
     exact ⟨rfl,hb,aI,aK,bn,bu⟩
    refine az rfl rfl pa rfl rfl<|az rfl rfl pa rfl rfl<|az rfl rfl pa rfl rfl<|az rfl rfl pa rfl rfl<|az rfl rfl pa rfl rfl<|ap rfl rfl fR<|ae (bj rfl pa rfl) rfl<|ap rfl rfl fR<|ai rfl<|az rfl rfl rfl rfl rfl<|az rfl rfl rfl rfl rfl<|az rfl rfl rfl rfl rfl<|az rfl rfl rfl rfl rfl<|az rfl rfl rfl rfl rfl<|az rfl rfl rfl rfl rfl<|ap rfl rfl fR<|ae (bj rfl rfl rfl) rfl<|ae (bj rfl fR rfl) rfl<|ay<|a7 xI (iy o c i) (by repeat first|exact aC|refine aA rfl (by first|rfl|exact a8 (by unfold iy;rw [Bool.eq_iff_iff];simp_all)) ?_) ?_
    exact ⟨rfl,hb,aI,aK,bn,bu⟩
   refine az rfl rfl kC rfl rfl<|az rfl rfl kC rfl rfl<|az rfl rfl kC rfl rfl<|az rfl rfl kC rfl rfl<|az rfl rfl kC rfl rfl<|ae (bj rfl kC rfl) rfl<|ai rfl<|ap rfl rfl rfl<|ai rfl<|ap rfl rfl rfl<|ae (yA rfl rfl) rfl<|ap rfl rfl rfl<|ai rfl<|cG rfl rfl rfl (fun js=>?_) (fun js=>?_)
   ·
    refine ai rfl<|ap rfl rfl js<|ai rfl<|ap rfl rfl js<|ae (f8 dl pL rfl rfl (by omega) (by omega)) rfl<|ap rfl rfl js<|aG (aS di rfl (by exact yc aI (show i<ut.length from hi7))) rfl<|ap rfl rfl js<|ai rfl<|ap rfl rfl js<|ae (fl rfl rfl) rfl<|ap rfl rfl rfl<|ae (bo rfl js rfl) rfl<|ap rfl rfl rfl<|ai rfl<|cG rfl rfl rfl (fun pd=>?_) (fun pd=>?_)
    ·
     refine ai rfl<|ap rfl rfl pd<|ai rfl<|ap rfl rfl pd<|ae (f8 dl pL rfl rfl (by omega) (by omega)) rfl<|ap rfl rfl pd<|aG (aS di rfl (by exact yc aK (show i<ur.length from hi7))) rfl<|ap rfl rfl pd<|ai rfl<|ap rfl rfl pd<|ae (fl rfl rfl) rfl<|ap rfl rfl rfl<|ae (bo rfl pd rfl) rfl<|ae (bj rfl rfl rfl) rfl<|ay<|a7 xI (iy o c i) (by repeat first|exact aC|refine aA rfl (by first|rfl|exact a8 (by unfold iy;rw [Bool.eq_iff_iff];simp_all)) ?_) ?_
     exact ⟨rfl,hb,aI,aK,bn,bu⟩
    refine az rfl rfl pd rfl rfl<|az rfl rfl pd rfl rfl<|az rfl rfl pd rfl rfl<|az rfl rfl pd rfl rfl<|az rfl rfl pd rfl rfl<|ap rfl rfl rfl<|ae (bj rfl pd rfl) rfl<|ae (bj rfl rfl rfl) rfl<|ay<|a7 xI (iy o c i) (by repeat first|exact aC|refine aA rfl (by first|rfl|exact a8 (by unfold iy;rw [Bool.eq_iff_iff];simp_all)) ?_) ?_
    exact ⟨rfl,hb,aI,aK,bn,bu⟩
   refine az rfl rfl js rfl rfl<|az rfl rfl js rfl rfl<|az rfl rfl js rfl rfl<|az rfl rfl js rfl rfl<|az rfl rfl js rfl rfl<|ap rfl rfl rfl<|ae (bj rfl js rfl) rfl<|ap rfl rfl rfl<|ai rfl<|az rfl rfl rfl rfl rfl<|az rfl rfl rfl rfl rfl<|az rfl rfl rfl rfl rfl<|az rfl rfl rfl rfl rfl<|az rfl rfl rfl rfl rfl<|az rfl rfl rfl rfl rfl<|ap rfl rfl rfl<|ae (bj rfl rfl rfl) rfl<|ae (bj rfl rfl rfl) rfl<|ay<|a7 xI (iy o c i) (by repeat first|exact aC|refine aA rfl (by first|rfl|exact a8 (by unfold iy;rw [Bool.eq_iff_iff];simp_all)) ?_) ?_
   exact ⟨rfl,hb,aI,aK,bn,bu⟩
  rintro q wr Kt;replace Kt:q=iy o c i∧Below w.heap.size w wr∧ak wr cp 9 (b9 ut)∧ak wr cK 9 (b9 ur)∧ak wr eA 9 (b9 wL)∧ak wr eW 3 [.int .i64 4,.int .i64 1,.int .i64 2,.int .i64 5,.int .i64 3,.int .i64 6,.int .i64 7]:=Kt;obtain ⟨hq,hb,aI,aK,bn,bu⟩:=Kt;show Wq _ _ _ _ [(0,str o),(1,str c),(5,.slice (some ⟨cp,0,none⟩) 7 7),(6,.slice (some ⟨cK,0,none⟩) 7 7),(7,.slice (some ⟨eA,0,none⟩) 7 7),(8,.slice (some ⟨eW,0,none⟩) 7 7),(9,.int .i64 (i:Int)),(47,.bool q)] _;have:=hb.size;have:=aI.lt;have:=aK.lt;have:=bn.lt;have:=bu.lt;refine ax ju<|aO rfl (fun G9=>?_) (fun G9=>?_)
  ·
   have Ha:=G9;have hyes:iy o c i=true:=hq.symm.trans Ha;refine am fun BZ=>ai rfl<|ai rfl<|ae (f8 Aa SZ rfl rfl (by omega) (by omega)) rfl<|aG (aS b0 rfl (by exact by rw [Int.toNat_natCast,Nat.mul_one];exact bu.at (ints_at hi7))) rfl<|an rfl<|al BZ<|aJ<|co (aX (aX (co (aX ?_))))
   refine bN rfl rfl ?_;exact ⟨_,rfl,aH (Yp hi7 hyes hall).symm,hb⟩
  have Ha:=G9;have hno:iy o c i=false:=hq.symm.trans Ha;refine aU<|cD<|ax gu<|aQ<|ai rfl<|ae (ct rfl rfl (by omega) (by omega)) rfl<|an rfl<|ay<|fun a_ bM=>aao _ _ (i+1) (by omega) (by repeat first|exact aC|refine aA rfl (by first|rfl|exact aH (by omega)) ?_) ?_ a_ bM
  exact ⟨by omega,fun j hj=>by (by_cases e:j=i);(· rw [e];exact hno);(· exact hall j (by omega)),hb,aI,aK,bn,bu⟩
 have W1:=vx;simp only [DZ] at vx;refine d2<|cj<|cj<|d3<|ax eL<|am fun tm=>an rfl<|al tm<|aJ<|bN rfl rfl ?_
 exact ⟨_,rfl,aH (IQ (fun j hj=>hall j (by have:=vx;omega))).symm,hb⟩
end Go.Proofs.YtjdjliiolchciaaGreatDoor
