import Derived.Test.YtjdjliiolchciaaGreatDoorZE
import Derived.Lib.SlTrimSet
import Derived.Lib.ParseIntBTie
import Derived.Shelf.Strings.SlTrimAscii
import Derived.Lib.IndexLaws
import Derived.Lib.AtoiAllCases
namespace Go.Proofs.YtjdjliiolchciaaGreatDoor
open Go.RowKit Go.Bw Go.Bw.Fl
set_option linter.unusedVariables false
set_option linter.unusedSimpArgs false
def pZ:ao:= [48,49,50,51,52,53,54,55,56,57]
def jZ (s:ao):Nat:=s.length - (Lib.trimLeftS s pZ).length
def lead (s:ao):Nat:=jZ (Lib.trimPrefix s [45])+(s.length - (Lib.trimPrefix s [45]).length)
def jA (s:ao):Option Int:=match Lib.parseIntB 64 s with| .ok v=>some v|_=>none
def gi:ao:= [110,117,108,108]
def gU:ao:= [102,97,108,115,101]
def gV:ao:= [116,114,117,101]
def gW:List (ao):= [[110,97,110],[105,110,102],[45,105,110,102]]
def qM (pf:ao→Option Nat) (s:ao) (k:Nat):Nat→Option (c7×Nat)
 |0=>none
 |j+1=>match pf (s.take (k+j+1)) with
  |some f=>some (⟨3,0,f,[]⟩,k+j+1)
  |none=>qM pf s k j
def d6 (s:ao):Nat:=if s[lead s+1]? =some 45 then lead s+2 else lead s+1
def kY (s:ao):Nat:=min (jZ (s.drop (d6 s))) 4
def il (pf:ao→Option Nat) (s:ao):Option (c7×Nat):=if s[lead s]? =some 112 then qM pf s (d6 s) (kY s) else none
def jl (s:ao):Nat→Option (c7×Nat)
 |0=>none
 |j+1=>match jA (s.take (j+1)) with
  |some v=>if Lib.itoa v=s.take (j+1) then some (⟨2,v,0,[]⟩,j+1) else jl s j
  |none=>jl s j
def dI (pf:ao→Option Nat) (uq:ao→ao×Nat) (s:ao):Option (c7×Nat):=
 if Lib.hasPrefix s [39]=true then (if (uq s).2=0 then none else some (⟨4,0,0,(uq s).1⟩,(uq s).2))
 else if Lib.hasPrefix s gi=true then some (ch,4)
 else if Lib.hasPrefix s gU=true then some (rN false,5)
 else if Lib.hasPrefix s gV=true then some (rN true,4)
 else match gW.find? (fun x=>Lib.hasPrefix s x) with
  |some x=>some (⟨3,0,(pf x).getD 0,[]⟩,x.length)
  |none=>match il pf s with
   |some r=>some r
   |none=>jl s (min (lead s) 20)
def MC (r:Option (c7×Nat)):Value:= .tuple #[((r.map (·.1)).getD ch).enc,.int .i64 (((r.map (·.2)).getD 0:Nat):Int),.bool r.isSome]
theorem Mh (s:ao):jZ s≤s.length:=Nat.sub_le _ _
theorem afa (s c:ao):(Lib.trimLeftS s c).length≤s.length:=(List.dropWhile_suffix _).sublist.length_le
theorem zV (s c:ao):(Lib.trimPrefix s c).length≤s.length:=by unfold Lib.trimPrefix;split<;>simp
theorem L0 (s:ao):lead s≤s.length:=by unfold lead;have:=Mh (Lib.trimPrefix s [45]);have:=zV s [45];omega
theorem adz {s:ao} (h:Lib.hasPrefix s gU=true):Lib.hasPrefix s gi=false∧Lib.hasPrefix s gV=false:=by
 cases s with
 |nil=>exact absurd h (by decide)
 |cons c r=>simp [Lib.hasPrefix,gi,gU,gV,List.isPrefixOf] at h ⊢;obtain ⟨h1,_⟩:=h;subst h1;simp
theorem RY {s:ao} (h:Lib.hasPrefix s gV=true):Lib.hasPrefix s gi=false∧Lib.hasPrefix s gU=false:=by
 cases s with
 |nil=>exact absurd h (by decide)
 |cons c r=>simp [Lib.hasPrefix,gi,gU,gV,List.isPrefixOf] at h ⊢;obtain ⟨h1,_⟩:=h;subst h1;simp
def qx:List (ao×Value):= [(gi,ch.enc),(gU,(rN false).enc),(gV,(rN true).enc)]
theorem agW {pf uq} {s:ao} (hq:Lib.hasPrefix s [39]=false) {i:Nat} {p:ao×Value} (hp:qx[i]? =some p) (h:Lib.hasPrefix s p.1=true):∃v,p.2=c7.enc v∧dI pf uq s=some (v,p.1.length):=by
 have hq':¬Lib.hasPrefix s [39]=true:=by rw [hq];simp
 match i,hp with
 |0,hp=>cases hp;exact ⟨_,rfl,by unfold dI;rw [if_neg hq',if_pos h];rfl⟩
 |1,hp=>cases hp;exact ⟨_,rfl,by unfold dI;rw [if_neg hq',if_neg (by rw [(adz h).1];simp),if_pos h];rfl⟩
 |2,hp=>cases hp;exact ⟨_,rfl,by unfold dI;rw [if_neg hq',if_neg (by rw [(RY h).1];simp),if_neg (by rw [(RY h).2];simp),if_pos h];rfl⟩
theorem agX {pf uq} {s:ao} (hq:Lib.hasPrefix s [39]=false) (h:∀(i:Nat) (p:ao×Value),qx[i]? =some p→Lib.hasPrefix s p.1=false):
 dI pf uq s=match gW.find? (fun x=>Lib.hasPrefix s x) with
 |some x=>some (⟨3,0,(pf x).getD 0,[]⟩,x.length)
 |none=>match il pf s with
  |some r=>some r
  |none=>jl s (min (lead s) 20):=by
 have h0:=h 0 _ rfl;have h1:=h 1 _ rfl;have h2:=h 2 _ rfl
 unfold dI
 rw [if_neg (by rw [hq];simp),if_neg (by rw [h0];simp),if_neg (by rw [h1];simp),if_neg (by rw [h2];simp)]
theorem ag0 {i:Nat} {p:ao×Value} (hp:qx[i]? =some p):∃v:c7,p.2=v.enc∧p.1.length≤5:=by
 match i,hp with
 |0,hp=>cases hp;exact ⟨_,rfl,by decide⟩
 |1,hp=>cases hp;exact ⟨_,rfl,by decide⟩
 |2,hp=>cases hp;exact ⟨_,rfl,by decide⟩
theorem agZ {s:ao} {seen:List Nat} {i:Nat} {q:ao×Value} (h:∀(i:Nat) (p:ao×Value),i∈seen→qx[i]? =some p→Lib.hasPrefix s p.1=false) (hq:qx[i]? =some q) (hn:Lib.hasPrefix s q.1=false):
 ∀(j:Nat) (p:ao×Value),j∈seen++ [i]→qx[j]? =some p→Lib.hasPrefix s p.1=false:=by
 intro j p hj hp
 rcases List.mem_append.1 hj with hj|hj
 · exact h j p hj hp
 · cases List.mem_singleton.1 hj;rw [hq] at hp;cases hp;exact hn
theorem aeL {s:ao} {k:Nat} (h:∀j,j<k→Lib.hasPrefix s (gW.getD j [])=false) (hn:Lib.hasPrefix s (gW.getD k [])=false):∀j,j<k+1→Lib.hasPrefix s (gW.getD j [])=false:=fun j hj=>by
 by_cases e:j<k
 · exact h j e
 · rw [show j=k by omega];exact hn
theorem agB {pr:ao→Bool} {k:Nat} (hk:k<3) (h0:∀j,j<k→pr (gW.getD j [])=false) (h:pr (gW.getD k [])=true):gW.find? pr=some (gW.getD k []):=by
 match k,hk with
 |0,_=>show List.find? pr [_,_,_]=_;rw [List.find?_cons,show pr [110,97,110]=true from h];rfl
 |1,_=>show List.find? pr [_,_,_]=_;rw [List.find?_cons,show pr [110,97,110]=false from h0 0 (by omega),List.find?_cons,show pr [105,110,102]=true from h];rfl
 |2,_=>show List.find? pr [_,_,_]=_;rw [List.find?_cons,show pr [110,97,110]=false from h0 0 (by omega),List.find?_cons,show pr [105,110,102]=false from h0 1 (by omega),List.find?_cons,show pr [45,105,110,102]=true from h];rfl
theorem agC {pr:ao→Bool} (h0:∀j,j<3→pr (gW.getD j [])=false):gW.find? pr=none:=by
 show List.find? pr [_,_,_]=_;rw [List.find?_cons,show pr [110,97,110]=false from h0 0 (by omega),List.find?_cons,show pr [105,110,102]=false from h0 1 (by omega),List.find?_cons,show pr [45,105,110,102]=false from h0 2 (by omega)];rfl
theorem agA {k:Nat} {v:Value} (hk:k<3) (h: [str [110,97,110],str [105,110,102],str [45,105,110,102]][k]? =some v):v=str (gW.getD k [])∧(gW.getD k []).length≤4∧gW.getD k []∈gW:=by
 match k,hk with
 |0,_=>cases h;exact ⟨rfl,by decide,by decide⟩
 |1,_=>cases h;exact ⟨rfl,by decide,by decide⟩
 |2,_=>cases h;exact ⟨rfl,by decide,by decide⟩
theorem A6 (s:ao) (h:s[lead s]? =some 112):lead s<d6 s∧d6 s≤s.length∧lead s<s.length:=by
 have h1:lead s<s.length:=(List.getElem?_eq_some_iff.1 h).1;unfold d6;split
 · rename_i h2;have:=(List.getElem?_eq_some_iff.1 h2).1;omega
 · omega
theorem I5 (s:ao) (h:s[lead s]? =some 112):kY s≤4∧d6 s+kY s≤s.length:=by
 have h1:=A6 s h;have h2:=Mh (s.drop (d6 s));rw [List.length_drop] at h2;unfold kY;omega
theorem OX {pf:ao→Option Nat} {s:ao} {K j:Nat} (h:(pf (s.take (K+j))).isSome=true) (hj:0<j):qM pf s K j=some (⟨3,0,(pf (s.take (K+j))).getD 0,[]⟩,K+j):=by
 obtain ⟨j',rfl⟩:∃j',j=j'+1:=⟨j - 1,by omega⟩;obtain ⟨f,hf⟩:=Option.isSome_iff_exists.1 h;rw [hf];show (match pf (s.take (K+j'+1)) with|some f=>some ((⟨3,0,f,[]⟩:c7),K+j'+1)|none=>qM pf s K j')=_;rw [show pf (s.take (K+j'+1))=some f from hf];rfl
theorem Ys {pf:ao→Option Nat} {s:ao} {K j:Nat} (h:pf (s.take (K+j))=none) (hj:0<j):qM pf s K j=qM pf s K (j - 1):=by
 obtain ⟨j',rfl⟩:∃j',j=j'+1:=⟨j - 1,by omega⟩;show (match pf (s.take (K+j'+1)) with|some f=>some ((⟨3,0,f,[]⟩:c7),K+j'+1)|none=>qM pf s K j')=_;rw [show pf (s.take (K+j'+1))=none from h];rfl
theorem Yt {s:ao} {j:Nat} {v:Int} (h:jA (s.take j)=some v) (h2:(Lib.itoa v==s.take j)=true) (hj:0<j):jl s j=some (⟨2,v,0,[]⟩,j):=by
 obtain ⟨j',rfl⟩:∃j',j=j'+1:=⟨j - 1,by omega⟩;unfold jl;rw [h];exact if_pos (by simpa using h2)
theorem Yu {s:ao} {j:Nat} (h:jA (s.take j)=none) (hj:0<j):jl s j=jl s (j - 1):=by
 obtain ⟨j',rfl⟩:∃j',j=j'+1:=⟨j - 1,by omega⟩
 conv=>lhs;unfold jl
 rw [h];rfl
theorem Yv {s:ao} {j:Nat} {v:Int} (h:jA (s.take j)=some v) (h2:(Lib.itoa v==s.take j)=false) (hj:0<j):jl s j=jl s (j - 1):=by
 obtain ⟨j',rfl⟩:∃j',j=j'+1:=⟨j - 1,by omega⟩
 conv=>lhs;unfold jl
 rw [h];exact if_neg (by simpa using h2)
theorem aeE {o:Option Nat} (h:(if o.isSome=true then (0:Int) else 2)=0):o.isSome=true:=by
 cases o
 · simp at h
 · rfl
theorem ac5 {o:Option Nat} (h:¬(if o.isSome=true then (0:Int) else 2)=0):o=none:=by
 cases o
 · rfl
 · simp at h
theorem aaM {s:ao} {e:Nat} (h:s[lead s]? =some 112) (he:lead s<e):(112:UInt8)∈s.take e:=by
 refine List.mem_iff_getElem?.2 ⟨lead s,?_⟩;rw [List.getElem?_take,if_pos he,h]
open Go.RowKit Go.Bw Go.Bw.Fl Go.Shelf
theorem di:One Tryz.prog 9:=⟨_,bI,rfl,by kernel_rfl⟩
theorem pL:(Tryz.prog.info? 9).map (·.size)=some 1:=by kernel_rfl
theorem FS:bB Tryz.prog 46:=⟨_,Tryz.func46,by kernel_rfl,rfl⟩
theorem afQ:bB Tryz.prog 63:=⟨_,Tryz.func63,by kernel_rfl,rfl⟩
theorem TT:bB Tryz.prog 64:=⟨_,Tryz.func64,by kernel_rfl,rfl⟩
theorem TU:bB Tryz.prog 65:=⟨_,Tryz.func65,by kernel_rfl,rfl⟩
theorem TV:bB Tryz.prog 66:=⟨_,Tryz.func66,by kernel_rfl,rfl⟩
theorem TW:bB Tryz.prog 67:=⟨_,Tryz.func67,by kernel_rfl,rfl⟩
theorem afR:bB Tryz.prog 68:=⟨_,Tryz.func68,by kernel_rfl,rfl⟩
theorem afS:bB Tryz.prog 69:=⟨_,Tryz.func69,by kernel_rfl,rfl⟩
theorem af8:bB Tryz.prog 91:=⟨_,Tryz.func91,by kernel_rfl,rfl⟩
theorem VQ (s:ao) (w:World):bx Tryz.prog 91 [str s,str pZ] w fun v w'=>v=str (Lib.trimLeftS s pZ)∧Below w.heap.size w w':=
 Calls.mono (Any.strings_TrimLeft_laid V0 (by kernel_rfl) ⟨s.toArray⟩ ⟨pZ.toArray⟩ w (by decide) (ascii_of_all (by decide))) fun e w' ⟨h1,h2⟩=>⟨_,h1,rfl,h2⟩
theorem OU (s:ao) (hs:s.length≤281474976710656) (w:World):bx Tryz.prog 66 [str s] w fun v w'=>v= .int .i64 (jZ s:Nat)∧Below w.heap.size w w':=by
 have hl:=afa s pZ;have hb:=Below.refl w.heap.size w;refine enter Tryz.func66 rfl rfl rfl<|am fun aR=>an rfl<|al aR<|am fun bt=>ai rfl<|ae (ez bI (by omega) rfl) rfl<|ai rfl<|aD af8 rfl rfl (VQ s _) rfl ?_
 rintro _ cB ⟨rfl,aw⟩;have:=aw.size;have hb:=aZ hb aw;refine ae (ez bI (by omega) rfl) rfl<|ae (iQ rfl rfl (by omega) (by omega)) rfl<|an rfl<|al bt<|aJ<|bN rfl rfl ?_
 exact ⟨_,rfl,aH (by unfold jZ;omega),hb⟩
theorem On (w:World) (t:ByteArray):Below w.heap.size w (Lib.bytesWorld w 5 t):=by
 refine ((Below.refl _ _).drew.alloc (Nat.le_refl _) (.cells (Lib.bytesCells w 5 t) 5)).trans ?_;unfold Lib.bytesWorld World.freeze;rw [if_neg (by decide)];refine ⟨rfl,rfl,rfl,by simp,fun k hk=>?_⟩;show ((w.drew.alloc _).heap.modify _ _)[k]? =_;rw [Array.getElem?_modify,if_neg (by have hk':k<w.heap.size:=hk;show w.heap.size≠k;omega)]
def U7 (s:ao) (v:Value):Prop:=∃n e,v= .tuple #[.int .i64 n,e]∧Ak e∧((jA s=some n∧f6 e=true)∨(jA s=none∧f6 e=false))
theorem Vg (s:ao) (hs:s.length≤281474976710656) (w:World) (hL:Lb w):bx Tryz.prog 68 [str s,.int .i64 10,.int .i64 64] w fun v w'=>U7 s v∧Below w.heap.size w w':=by
 have hs':(⟨s.toArray⟩:ByteArray).size≤281474976710656:=by rw [pJ];exact hs
 rcases h:Lib.parseIntB 64 s with v|_|_
 · exact Calls.mono (Tryz.strconv_ParseInt_10_at64_ok ⟨s.toArray⟩ (by omega) v h w) fun e w' ⟨h1,h2⟩=>⟨_,h1,⟨v,_,rfl,.inl rfl,.inl ⟨by unfold jA;rw [h],rfl⟩⟩,by
    rcases h2 with rfl|⟨t,rfl⟩
    · exact Below.refl _ _
    · exact On w t⟩
 · obtain ⟨tp,p,hv⟩:=hL.syn
   exact Calls.mono (Any.strconv_ParseInt_10_at64_syntax_var Gj ⟨s.toArray⟩ hs' h tp p w hv) fun e w' ⟨N,h1,_,_,h2⟩=>⟨_,h1,⟨0,_,rfl,.inr ⟨_,_,rfl⟩,.inr ⟨by unfold jA;rw [h],rfl⟩⟩,h2⟩
 · obtain ⟨tp,p,hv⟩:=hL.rng
   exact Calls.mono (Any.strconv_ParseInt_10_at64_range_var Gj ⟨s.toArray⟩ hs' h tp p w hv) fun e w' ⟨N,h1,_,_,h2⟩=>⟨_,h1,⟨_,_,rfl,.inr ⟨_,_,rfl⟩,.inr ⟨by unfold jA;rw [h],rfl⟩⟩,h2⟩
theorem RS {s:ao} {v:Int} (h:jA s=some v): -9223372036854775808≤v∧v≤9223372036854775807:=by
 unfold jA at h
 split at h
 · rename_i u hu;cases h;have:=Lib.parseIntB_bounds hu;have e:(2:Nat) ^ (64 - 1)=9223372036854775808:=by decide
   rw [e] at this;omega
 · cases h
theorem ac4 {s:ao} {n:Int} {e:Value} (h:(jA s=some n∧f6 e=true)∨(jA s=none∧f6 e=false)) (he:f6 e=true):jA s=some n:=by
 rcases h with h|h
 · exact h.1
 · rw [h.2] at he;cases he
theorem ac3 {s:ao} {n:Int} {e:Value} (h:(jA s=some n∧f6 e=true)∨(jA s=none∧f6 e=false)) (he:f6 e=false):jA s=none:=by
 rcases h with h|h
 · rw [h.2] at he;cases he
 · exact h.1
structure ND (pf:ao→Option Nat) (uq:ao→ao×Nat) (s:ao):Prop where
 unq:Lib.hasPrefix s [39]=true→∀w,Lb w→bx Tryz.prog 63 [str s] w fun v w'=>v= .tuple #[str (uq s).1,.int .i64 ((uq s).2:Nat)]∧Below w.heap.size w w'
 word:∀x,x∈gW→Lib.hasPrefix s x=true→∀w,Lb w→bx Tryz.prog 65 [str x] w fun v w'=>v= .tuple #[.float .f64 ((pf x).getD 0),.int .i64 (if (pf x).isSome=true then 0 else 2)]∧Below w.heap.size w w'
 prs:∀e,(112:UInt8)∈s.take e→∀w,Lb w→bx Tryz.prog 65 [str (s.take e)] w fun v w'=>v= .tuple #[.float .f64 ((pf (s.take e)).getD 0),.int .i64 (if (pf (s.take e)).isSome=true then 0 else 2)]∧Below w.heap.size w w'
theorem acE (s:ao):((jZ (Lib.trimPrefix s [45]):Nat):Int)+(s.length:Int) - ((Lib.trimPrefix s [45]).length:Int)=(lead s:Nat):=by
 have:=zV s [45];unfold lead;omega
theorem Ei {s:ao} {n:Nat} (h:n<s.length) {x:Int} (hx:x=((s.getD n 0).toNat:Int)) (c:UInt8):(x==(c.toNat:Int))=decide (s[n]? =some c):=by
 rw [Bool.eq_iff_iff,beq_iff_eq,decide_eq_true_eq,hx,List.getElem?_eq_getElem h];simp only [List.getD,List.getElem?_eq_getElem h,Option.getD_some,Option.some.injEq]
 constructor
 · intro e;exact UInt8.toNat_inj.1 (by omega)
 · intro e;rw [e]
set_option maxHeartbeats 2000000 in
theorem VB (pf:ao→Option Nat) (uq:ao→ao×Nat) (s:ao) (hs:s.length≤281474976710656) (hC:ND pf uq s) (w:World) (hL:Lb w):bx Tryz.prog 41 [str s] w fun v w'=>v=MC (dI pf uq s)∧Below w.heap.size w w':=by
 have hld:=L0 s;have htp:=zV s [45];have hnd:=Mh (Lib.trimPrefix s [45]);have hb:=Below.refl w.heap.size w;have ce:=hL;refine enter Tryz.func41 rfl rfl rfl<|am fun aR=>bT (z:=mO) (by kernel_rfl) rfl ?_
 rintro au dJ dH ab aM;have:=aM.size;have hb:=aZ hb aM;have hL:=ce.below hb;have:=ab.lt;refine an rfl<|an rfl<|al aR<|av fun _ dC=>am fun fi=>ai rfl<|aD FS rfl rfl (DY s _ _) rfl ?_
 rintro _ w_ ⟨rfl,bV⟩;have bV:=bV.symm;subst bV;refine al fi<|aO rfl (fun eV=>?_) (fun eV=>?_)
 ·
  have ky:=eV;refine am fun fZ=>ai rfl<|aD afQ rfl rfl (hC.unq ky _ hL) rfl ?_
  rintro _ cU ⟨rfl,aL⟩;have:=aL.size;have hb:=aZ hb aL;have hL:=ce.below hb;have ab:=ak.below ab aL;refine ai rfl<|ae (cu rfl rfl) rfl<|ae (cu rfl rfl) rfl<|an rfl<|an rfl<|al fZ<|av fun _ dG=>am fun fC=>ai rfl<|ae (bX rfl rfl) rfl<|al fC<|aO rfl (fun nt=>?_) (fun nt=>?_)
  ·
   have GV:=nt;simp only [DZ] at nt;refine am fun gr=>ae (cC (z:=n6) (pl:=n9) (cs:= [_,_,_,_]) ek (by kernel_rfl) (by kernel_rfl) rfl rfl rfl) rfl<|ba (by kernel_rfl) rfl rfl ab rfl rfl ?_
   rintro du ab aF;have:=aF.size;have hb:=cf hb aF hb.size (by omega);have hL:=ce.below hb;refine an rfl<|an rfl<|al gr<|aJ<|aX (aX ?_)
   refine bQ (rs:= [.cell 2 25,.tmp 3,.tmp 4]) (vs:= [_,_,_]) rfl (.cell rfl (bP ek (by kernel_rfl) (fun j u hu=>ab.at hu)) (.tmp rfl (.tmp rfl .nil))) ?_;exact ⟨_,rfl,by unfold dI;rw [if_pos ky,if_pos (by have:=nt;omega)];rfl,hb⟩
  have GV:=nt;simp only [DZ] at nt;refine aU<|ax dG<|am fun ki=>ai rfl<|ae (cC (z:=n6) (pl:=n9) (cs:= [_,_,_,_]) ek (by kernel_rfl) (by kernel_rfl) rfl rfl rfl) rfl<|ai rfl<|ba (by kernel_rfl) rfl rfl ab rfl rfl ?_
  rintro ff ab bc;have:=bc.size;have hb:=cf hb bc hb.size (by omega);have hL:=ce.below hb;refine an rfl<|an rfl<|al ki<|aJ<|aX<|bQ (rs:= [.cell 2 25,.tmp 3,.tmp 4]) (vs:= [_,_,_]) rfl (.cell rfl (bP ek (by kernel_rfl) (fun j u hu=>ab.at hu)) (.tmp rfl (.tmp rfl .nil))) ?_
  exact ⟨_,rfl,by unfold dI;rw [if_pos ky,if_neg (by have:=nt;omega)];rfl,hb⟩
 have ky:=eV;have hq39:Lib.hasPrefix s [39]=false:=ky;refine aU<|ax dC<|av fun _ kG=>am fun im=>vt rfl ?_
 rintro BS Ul uK Lq x4;have:=x4.size;have hb:=aZ hb x4;have hL:=ce.below hb;have ab:=ak.below ab x4;have iL:=Lq;have:=iL.lt;refine ae (cC (z:=n6) (pl:=n9) (cs:= [_,_,_,_]) ek (by kernel_rfl) (by kernel_rfl) rfl rfl rfl) rfl<|kw Tryz.underlying97 bI rfl rfl rfl iL (by rfl) ?_
 rintro aiq abx Lh;have:=Lh.size;have hb:=cf hb Lh hb.size (by omega);have hL:=ce.below hb;have ab:=ab.over Lh (by omega);have iL:=abx;refine aD TT rfl rfl (Tj _ _) rfl ?_;rintro _ eP ⟨rfl,a6⟩;have:=a6.size;have hb:=aZ hb a6;have hL:=ce.below hb;have ab:=ak.below ab a6;have iL:=Mp.below iL a6;refine kw Tryz.underlying97 bI rfl rfl rfl iL (by rfl) ?_;rintro air aby Li;have:=Li.size;have hb:=cf hb Li hb.size (by omega);have hL:=ce.below hb;have ab:=ab.over Li (by omega);have iL:=aby;refine aD TT rfl rfl (Tj _ _) rfl ?_;rintro _ fj ⟨rfl,bk⟩;have:=bk.size;have hb:=aZ hb bk;have hL:=ce.below hb;have ab:=ak.below ab bk;have iL:=Mp.below iL bk;refine kw Tryz.underlying97 bI rfl rfl rfl iL (by rfl) ?_;rintro agM abz Fc;have:=Fc.size;have hb:=cf hb Fc hb.size (by omega);have hL:=ce.below hb;have ab:=ab.over Fc (by omega);have iL:=abz;refine ai rfl<|WG Tryz.underlying97 rfl iL rfl ?_
 rintro gY agN aaQ abA uN;have:=uN.size;have hb:=aZ hb uN;have hL:=ce.below hb;have ab:=ak.below ab uN;have iL:=Mp.below iL uN;have pj:=abA;have:=pj.lt;refine al im<|b4<|d9 (X:=List Nat) (fun seen=> [(0,str s),(2,.pointer (some ⟨au,0,none⟩)),(3,.int .i64 0),(4,.bool false),(38,.pointer (some ⟨gY,0,none⟩))]) (fun seen wr=>Below w.heap.size w wr∧ak wr au 25 ch.cells∧Mp wr BS qx∧It wr gY BS qx.length seen∧(∀(i:Nat) (p:ao×Value),i∈seen→qx[i]? =some p→Lib.hasPrefix s p.1=false)) (fun seen=>Fu 3 seen) ([]) ?_ ?_ ?_
 · exact by repeat first|exact aC|refine aA rfl (by first|rfl|exact aH (by omega)) ?_
 · exact ⟨hb,ab,iL,pj,fun _ _ h=>by cases h⟩
 rintro seen wr xt _ aaw;replace xt:Below w.heap.size w wr∧ak wr au 25 ch.cells∧Mp wr BS qx∧It wr gY BS qx.length seen∧(∀(i:Nat) (p:ao×Value),i∈seen→qx[i]? =some p→Lib.hasPrefix s p.1=false):=xt;obtain ⟨hb,ab,iL,pj,hsn⟩:=xt;show Wc _ _ _ _ _ [(0,str s),(2,.pointer (some ⟨au,0,none⟩)),(3,.int .i64 0),(4,.bool false),(38,.pointer (some ⟨gY,0,none⟩))] _;have hL:=ce.below hb;have:=hb.size;have:=ab.lt;have:=iL.lt;have:=pj.lt;have hll1:=pj.lt;have hll2:=iL.lt;have hll3:=ab.lt;refine am fun iK=>WE rfl pj iL rfl (fun aaL=>?_) ?_
 ·
  refine ae (cu rfl rfl) rfl<|al iK<|av fun _ oB=>oU rfl rfl<|d2<|cj<|cj<|d3<|ax kG<|av fun _ mE=>am fun gZ=>?_
  have hrd:dI pf uq s=match gW.find? (fun x=>Lib.hasPrefix s x) with
   |some x=>some (⟨3,0,(pf x).getD 0,[]⟩,x.length)
   |none=>match il pf s with
    |some r=>some r
    |none=>jl s (min (lead s) 20):=agX hq39 (fun i p hp=>hsn i p (aaL i (List.getElem?_eq_some_iff.1 hp).1) hp)
  refine cz (sz:=1) (vs:= [_,_,_]) dl (by kernel_rfl) rfl rfl rfl rfl rfl rfl ?_;rintro cK jB jG aK bA;have:=bA.size;have hb:=aZ hb bA;have hL:=ce.below hb;have ab:=ak.below ab bA;have:=aK.lt;refine ae (iC dl (by omega) rfl) rfl<|ai rfl<|al gZ<|b4<|d9 (X:=Nat) (fun k=> [(0,str s),(2,.pointer (some ⟨au,0,none⟩)),(3,.int .i64 0),(4,.bool false),(50,.slice (some ⟨cK,0,none⟩) 3 3),(51,.int .i64 3),(52,.int .i64 (k:Int))]) (fun k wr=>k≤3∧Below w.heap.size w wr∧ak wr au 25 ch.cells∧ak wr cK 9 [str [110,97,110],str [105,110,102],str [45,105,110,102]]∧(∀j,j<k→Lib.hasPrefix s (gW.getD j [])=false)) (fun k=>3 - k) (0) ?_ ?_ ?_
  · exact by repeat first|exact aC|refine aA rfl (by first|rfl|exact aH (by omega)) ?_
  · exact ⟨by omega,hb,ab,aK,fun j hj=>by omega⟩
  rintro k wr ri _ KX;replace ri:k≤3∧Below w.heap.size w wr∧ak wr au 25 ch.cells∧ak wr cK 9 [str [110,97,110],str [105,110,102],str [45,105,110,102]]∧(∀j,j<k→Lib.hasPrefix s (gW.getD j [])=false):=ri;obtain ⟨hk,hb,ab,aK,hsw⟩:=ri;show Wc _ _ _ _ _ [(0,str s),(2,.pointer (some ⟨au,0,none⟩)),(3,.int .i64 0),(4,.bool false),(50,.slice (some ⟨cK,0,none⟩) 3 3),(51,.int .i64 3),(52,.int .i64 (k:Int))] _;have hL:=ce.below hb;have:=hb.size;have:=ab.lt;have:=aK.lt;refine am fun mF=>ae (dL rfl rfl) rfl<|al mF<|av fun _ kJ=>aO rfl (fun AI=>?_) (fun AI=>?_)
  ·
   have XF:=AI;simp only [DZ] at AI;refine aU<|ax kJ<|av fun _ kK=>b4<|av fun _ Cl=>?_
   obtain ⟨p,v,hpe,hv,hcell⟩:=(aK.rd 3 1 rfl).one (i:=k) (by omega)
   cases hpe
   obtain ⟨hve,hwl,hwm⟩:=agA (by omega) hv;subst hve;refine aQ<|ae (f8 dl pL rfl rfl (by omega) (by omega)) rfl<|aG (aS di rfl (by exact vv hcell)) rfl<|an rfl<|al Cl<|am fun jv=>ai rfl<|ai rfl<|aD FS rfl rfl (DY s _ _) rfl ?_
   rintro _ w_ ⟨rfl,bV⟩;have bV:=bV.symm;subst bV;refine al jv<|aO rfl (fun Ig=>?_) (fun Ig=>?_)
   ·
    have Ev:=Ig;refine am fun pu=>ai rfl<|aD TU rfl rfl (hC.word _ hwm Ev _ hL) rfl ?_
    rintro _ lX ⟨rfl,cy⟩;have:=cy.size;have hb:=aZ hb cy;have hL:=ce.below hb;have ab:=ak.below ab cy;refine ai rfl<|ae (cu rfl rfl) rfl<|ae (cu rfl rfl) rfl<|an rfl<|an rfl<|al pu<|am fun nU=>ai rfl<|ae (cC (z:=n6) (pl:=n9) (cs:= [_,_,_,_]) ek (by kernel_rfl) (by kernel_rfl) rfl rfl rfl) rfl<|ai rfl<|ae (ez bI (by omega) rfl) rfl<|ba (by kernel_rfl) rfl rfl ab rfl rfl ?_
    rintro kW ab cx;have:=cx.size;have hb:=cf hb cx hb.size (by omega);have hL:=ce.below hb;refine an rfl<|an rfl<|al nU<|aJ<|co (aX (aX (co (aX ?_))))
    refine bQ (rs:= [.cell 2 25,.tmp 3,.tmp 4]) (vs:= [_,_,_]) rfl (.cell rfl (bP ek (by kernel_rfl) (fun j u hu=>ab.at hu)) (.tmp rfl (.tmp rfl .nil))) ?_;exact ⟨_,rfl,by rw [hrd,agB (pr:=fun x=>Lib.hasPrefix s x) (by omega) hsw Ev];rfl,hb⟩
   have Ev:=Ig;refine aU<|cD<|ax kK<|aQ<|ae (ct rfl rfl (by omega) (by omega)) rfl<|ai rfl<|ay<|fun a_ bM=>KX _ _ (k+1) (by omega) (by repeat first|exact aC|refine aA rfl (by first|rfl|exact aH (by omega)) ?_) ?_ a_ bM
   exact ⟨by omega,hb,ab,aK,aeL hsw Ev⟩
  have XF:=AI;simp only [DZ] at AI;refine d2<|cj<|cj<|d3<|ax mE<|av fun _ qa=>?_
  have hrd2:dI pf uq s=match il pf s with
   |some r=>some r
   |none=>jl s (min (lead s) 20):=by rw [hrd,agC (pr:=fun x=>Lib.hasPrefix s x) (fun j hj=>hsw j (by omega))]
  refine aQ<|ai rfl<|aD TW rfl rfl (NX s _ _) rfl ?_
  rintro _ w_ ⟨rfl,bV⟩;have bV:=bV.symm;subst bV;refine aD TV rfl rfl (OU _ (by omega) _) rfl ?_;rintro _ qw ⟨rfl,cL⟩;have:=cL.size;have hb:=aZ hb cL;have hL:=ce.below hb;have ab:=ak.below ab cL;refine ai rfl<|ae (ez bI (by omega) rfl) rfl<|ae (ct rfl rfl (by omega) (by omega)) rfl<|ai rfl<|aD TW rfl rfl (NX s _ _) rfl ?_
  rintro _ w_ ⟨rfl,bV⟩;have bV:=bV.symm;subst bV;refine ae (ez bI (by omega) rfl) rfl<|ae (bW (iQ rfl rfl (by omega) (by omega)) (aH (acE s))) rfl<|an rfl<|al qa<|av fun _ Cr=>av fun _ py=>cR (X:=Unit) (fun u_=> [(0,str s),(2,.pointer (some ⟨au,0,none⟩)),(3,.int .i64 0),(4,.bool false),(13,.int .i64 (lead s:Nat)),(88,.bool (decide (s[lead s]? =some 112)))]) (fun u_ wr=>Below w.heap.size w wr∧ak wr au 25 ch.cells) (fun _ Cz=>?_) ?_
  ·
   refine aQ<|ai rfl<|ai rfl<|ae (ez bI (by omega) rfl) rfl<|ae (dL rfl rfl) rfl<|ai rfl<|cG rfl rfl rfl (fun kA=>?_) (fun kA=>?_)
   ·
    have nD:=kA;simp only [DZ] at kA;refine ai rfl<|ap rfl rfl nD<|ai rfl<|ap rfl rfl nD<|ae (fP bI rfl rfl (by omega) (by omega)) rfl<|ap rfl rfl nD<|ae (bX rfl rfl) rfl<|ae (bo rfl nD rfl) rfl<|ay<|a7 Cz (()) (by repeat first|exact aC|refine aA rfl (by first|rfl|exact a8 (Ei (by have:=kA;omega) rfl 112)|(refine a8 (decide_eq_false ?_).symm;rw [List.getElem?_eq_none (by have:=kA;omega)];simp)) ?_) ?_
    exact ⟨hb,ab⟩
   have nD:=kA;simp only [DZ] at kA;refine az rfl rfl nD rfl rfl<|az rfl rfl nD rfl rfl<|az rfl rfl nD rfl rfl<|ae (bj rfl nD rfl) rfl<|ay<|a7 Cz (()) (by repeat first|exact aC|refine aA rfl (by first|rfl|exact a8 (Ei (by have:=kA;omega) rfl 112)|(refine a8 (decide_eq_false ?_).symm;rw [List.getElem?_eq_none (by have:=kA;omega)];simp)) ?_) ?_
   exact ⟨hb,ab⟩
  rintro u_ wr Js;replace Js:Below w.heap.size w wr∧ak wr au 25 ch.cells:=Js;obtain ⟨hb,ab⟩:=Js;show Wq _ _ _ _ [(0,str s),(2,.pointer (some ⟨au,0,none⟩)),(3,.int .i64 0),(4,.bool false),(13,.int .i64 (lead s:Nat)),(88,.bool (decide (s[lead s]? =some 112)))] _;have hL:=ce.below hb;have:=hb.size;have:=ab.lt;refine ax py<|cR (X:=Unit) (fun u_=> [(0,str s),(2,.pointer (some ⟨au,0,none⟩)),(3,.int .i64 0),(4,.bool false),(13,.int .i64 (lead s:Nat))]) (fun u_ wr=>Below w.heap.size w wr∧ak wr au 25 ch.cells∧il pf s=none) (fun _ PT=>?_) ?_
  ·
   refine aO rfl (fun wu=>?_) (fun wu=>?_)
   ·
    have XP:=wu;simp only [DZ] at wu;have h112:s[lead s]? =some 112:=wu;obtain ⟨hK1,hK2,hK3⟩:=A6 s h112;obtain ⟨hM1,hM2⟩:=I5 s h112;refine am fun Ku=>ai rfl<|ae (ct rfl rfl (by omega) (by omega)) rfl<|an rfl<|al Ku<|av fun _ B3=>av fun _ B4=>cR (X:=Unit) (fun u_=> [(0,str s),(2,.pointer (some ⟨au,0,none⟩)),(3,.int .i64 0),(4,.bool false),(13,.int .i64 (lead s:Nat)),(14,.int .i64 ((lead s+1:Nat):Int)),(100,.bool (decide (s[lead s+1]? =some 45)))]) (fun u_ wr=>Below w.heap.size w wr∧ak wr au 25 ch.cells) (fun _ PV=>?_) ?_
    ·
     refine aQ<|ai rfl<|ai rfl<|ae (ez bI (by omega) rfl) rfl<|ae (dL rfl rfl) rfl<|ai rfl<|cG rfl rfl rfl (fun lC=>?_) (fun lC=>?_)
     ·
      have s7:=lC;simp only [DZ] at lC;refine ai rfl<|ap rfl rfl s7<|ai rfl<|ap rfl rfl s7<|ae (fP bI rfl rfl (by omega) (by omega)) rfl<|ap rfl rfl s7<|ae (bX rfl rfl) rfl<|ae (bo rfl s7 rfl) rfl<|ay<|a7 PV (()) (by repeat first|exact aC|refine aA rfl (by first|rfl|exact aH (by omega)|exact a8 (Ei (by have:=lC;omega) (by rw [show ((lead s:Nat):Int)+1=((lead s+1:Nat):Int) by omega,Int.toNat_natCast]) 45)|(refine a8 (decide_eq_false ?_).symm;rw [List.getElem?_eq_none (by have:=lC;omega)];simp)) ?_) ?_
      exact ⟨hb,ab⟩
     have s7:=lC;simp only [DZ] at lC;refine az rfl rfl s7 rfl rfl<|az rfl rfl s7 rfl rfl<|az rfl rfl s7 rfl rfl<|ae (bj rfl s7 rfl) rfl<|ay<|a7 PV (()) (by repeat first|exact aC|refine aA rfl (by first|rfl|exact aH (by omega)|exact a8 (Ei (by have:=lC;omega) (by rw [show ((lead s:Nat):Int)+1=((lead s+1:Nat):Int) by omega,Int.toNat_natCast]) 45)|(refine a8 (decide_eq_false ?_).symm;rw [List.getElem?_eq_none (by have:=lC;omega)];simp)) ?_) ?_
     exact ⟨hb,ab⟩
    rintro u_ wr Jy;replace Jy:Below w.heap.size w wr∧ak wr au 25 ch.cells:=Jy;obtain ⟨hb,ab⟩:=Jy;show Wq _ _ _ _ [(0,str s),(2,.pointer (some ⟨au,0,none⟩)),(3,.int .i64 0),(4,.bool false),(13,.int .i64 (lead s:Nat)),(14,.int .i64 ((lead s+1:Nat):Int)),(100,.bool (decide (s[lead s+1]? =some 45)))] _;have hL:=ce.below hb;have:=hb.size;have:=ab.lt;refine ax B4<|cR (X:=Unit) (fun u_=> [(0,str s),(2,.pointer (some ⟨au,0,none⟩)),(3,.int .i64 0),(4,.bool false),(13,.int .i64 (lead s:Nat)),(14,.int .i64 (d6 s:Nat))]) (fun u_ wr=>Below w.heap.size w wr∧ak wr au 25 ch.cells) (fun _ PY=>?_) ?_
    ·
     refine aO rfl (fun sZ=>?_) (fun sZ=>?_)
     ·
      have XZ:=sZ;simp only [DZ] at sZ;refine aQ<|ai rfl<|ae (ct rfl rfl (by omega) (by omega)) rfl<|an rfl<|ay<|a7 PY (()) (by repeat first|exact aC|refine aA rfl (by first|rfl|exact aH (by unfold d6;rw [if_pos sZ];omega)|exact aH (by unfold d6;rw [if_neg sZ])) ?_) ?_
      exact ⟨hb,ab⟩
     have XZ:=sZ;simp only [DZ] at sZ;refine aU<|a7 PY (()) (by repeat first|exact aC|refine aA rfl (by first|rfl|exact aH (by unfold d6;rw [if_pos sZ];omega)|exact aH (by unfold d6;rw [if_neg sZ])) ?_) ?_
     exact ⟨hb,ab⟩
    rintro u_ wr JC;replace JC:Below w.heap.size w wr∧ak wr au 25 ch.cells:=JC;obtain ⟨hb,ab⟩:=JC;show Wq _ _ _ _ [(0,str s),(2,.pointer (some ⟨au,0,none⟩)),(3,.int .i64 0),(4,.bool false),(13,.int .i64 (lead s:Nat)),(14,.int .i64 (d6 s:Nat))] _;have hL:=ce.below hb;have:=hb.size;have:=ab.lt;refine ax B3<|am fun KA=>ai rfl<|ai rfl<|ai rfl<|ai rfl<|ae (ez bI (by omega) rfl) rfl<|ae (bW (Ah rfl rfl) (aH (show min ((d6 s:Nat):Int) (s.length:Int)=(d6 s:Nat) by omega))) rfl<|ae (tW bI rfl rfl (by omega) (by omega)) rfl<|aD TV rfl rfl (OU _ (by simp;omega) _) rfl ?_
    rintro _ sB ⟨rfl,cY⟩;have:=cY.size;have hb:=aZ hb cY;have hL:=ce.below hb;have ab:=ak.below ab cY;refine ae (bW (Ah rfl rfl) (aH (show min ((jZ (s.drop (d6 s)):Nat):Int) 4=(kY s:Nat) by unfold kY;omega))) rfl<|ae (ct rfl rfl (by omega) (by omega)) rfl<|an rfl<|al KA<|b4<|d9 (X:=Nat) (fun j=> [(0,str s),(2,.pointer (some ⟨au,0,none⟩)),(3,.int .i64 0),(4,.bool false),(13,.int .i64 (lead s:Nat)),(14,.int .i64 (d6 s:Nat)),(15,.int .i64 ((d6 s+j:Nat):Int))]) (fun j wr=>j≤kY s∧Below w.heap.size w wr∧ak wr au 25 ch.cells∧il pf s=qM pf s (d6 s) j) (fun j=>j) (kY s) ?_ ?_ ?_
    · exact by repeat first|exact aC|refine aA rfl (by first|rfl|exact aH (by omega)) ?_
    · exact ⟨by omega,hb,ab,if_pos h112⟩
    rintro j wr JF _ aal;replace JF:j≤kY s∧Below w.heap.size w wr∧ak wr au 25 ch.cells∧il pf s=qM pf s (d6 s) j:=JF;obtain ⟨hj,hb,ab,hfd⟩:=JF;show Wc _ _ _ _ _ [(0,str s),(2,.pointer (some ⟨au,0,none⟩)),(3,.int .i64 0),(4,.bool false),(13,.int .i64 (lead s:Nat)),(14,.int .i64 (d6 s:Nat)),(15,.int .i64 ((d6 s+j:Nat):Int))] _;have hL:=ce.below hb;have:=hb.size;have:=ab.lt;refine av fun _ Ce=>am fun Cf=>ai rfl<|ai rfl<|ae (ed rfl rfl) rfl<|al Cf<|aO rfl (fun yU=>?_) (fun yU=>?_)
    ·
     have X4:=yU;simp only [DZ] at yU;have hj0:0<j:=by have:=yU;omega
     refine aU<|ax Ce<|av fun _ KF=>b4<|am fun Cg=>ai rfl<|ai rfl<|ae (pQ bI rfl rfl (by omega) (by omega)) rfl<|aD TU rfl rfl (hC.prs _ (aaM h112 (by omega)) _ hL) rfl ?_
     rintro _ oQ ⟨rfl,bE⟩;have:=bE.size;have hb:=aZ hb bE;have hL:=ce.below hb;have ab:=ak.below ab bE;refine ai rfl<|ae (cu rfl rfl) rfl<|ae (cu rfl rfl) rfl<|an rfl<|an rfl<|al Cg<|am fun Ck=>ai rfl<|ae (bX rfl rfl) rfl<|al Ck<|aO rfl (fun wK=>?_) (fun wK=>?_)
     ·
      have X6:=wK;simp only [DZ] at wK;have hpf:(pf (s.take (d6 s+j))).isSome=true:=aeE wK;refine am fun ZL=>ai rfl<|ae (cC (z:=n6) (pl:=n9) (cs:= [_,_,_,_]) ek (by kernel_rfl) (by kernel_rfl) rfl rfl rfl) rfl<|ai rfl<|ba (by kernel_rfl) rfl rfl ab rfl rfl ?_
      rintro mV ab cS;have:=cS.size;have hb:=cf hb cS hb.size (by omega);have hL:=ce.below hb;refine an rfl<|an rfl<|al ZL<|aJ<|co (aX (aX (co (aX (aX ?_)))))
      refine bQ (rs:= [.cell 2 25,.tmp 3,.tmp 4]) (vs:= [_,_,_]) rfl (.cell rfl (bP ek (by kernel_rfl) (fun j u hu=>ab.at hu)) (.tmp rfl (.tmp rfl .nil))) ?_;exact ⟨_,rfl,by rw [hrd2,hfd,OX hpf hj0];rfl,hb⟩
     have X6:=wK;simp only [DZ] at wK;have hpf:pf (s.take (d6 s+j))=none:=ac5 wK;refine aU<|cD<|ax KF<|aQ<|ai rfl<|ae (iQ rfl rfl (by omega) (by omega)) rfl<|an rfl<|ay<|fun a_ bM=>aal _ _ (j - 1) (by omega) (by repeat first|exact aC|refine aA rfl (by first|rfl|exact aH (by omega)) ?_) ?_ a_ bM
     exact ⟨by omega,hb,ab,by rw [hfd];exact Ys hpf hj0⟩
    have X4:=yU;simp only [DZ] at yU;refine d2<|cj<|cj<|d3<|a7 PT (()) (by repeat first|exact aC|refine aA rfl (by first|rfl|exact aH (by omega)) ?_) ?_
    exact ⟨hb,ab,by rw [hfd,show j=0 by omega];rfl⟩
   have XP:=wu;simp only [DZ] at wu;refine aU<|a7 PT (()) (by repeat first|exact aC|refine aA rfl (by first|rfl|exact aH (by omega)) ?_) ?_
   exact ⟨hb,ab,if_neg wu⟩
  rintro u_ wr JO;replace JO:Below w.heap.size w wr∧ak wr au 25 ch.cells∧il pf s=none:=JO;obtain ⟨hb,ab,hfa⟩:=JO;show Wq _ _ _ _ [(0,str s),(2,.pointer (some ⟨au,0,none⟩)),(3,.int .i64 0),(4,.bool false),(13,.int .i64 (lead s:Nat))] _;have hL:=ce.below hb;have:=hb.size;have:=ab.lt;refine ax Cr<|av fun _ KJ=>av fun _ ZR=>?_
  have hrd3:dI pf uq s=jl s (min (lead s) 20):=by rw [hrd2,hfa]
  refine aQ<|ai rfl<|ae (bW (Ah rfl rfl) (aH (show min ((lead s:Nat):Int) 20=(min (lead s) 20:Nat) by omega))) rfl<|an rfl<|al ZR<|b4<|d9 (X:=Nat) (fun j=> [(0,str s),(2,.pointer (some ⟨au,0,none⟩)),(3,.int .i64 0),(4,.bool false),(13,.int .i64 (j:Int))]) (fun j wr=>j≤min (lead s) 20∧Below w.heap.size w wr∧ak wr au 25 ch.cells∧dI pf uq s=jl s j) (fun j=>j) (min (lead s) 20) ?_ ?_ ?_
  · exact by repeat first|exact aC|refine aA rfl (by first|rfl|exact aH (by omega)) ?_
  · exact ⟨by omega,hb,ab,hrd3⟩
  rintro j wr JS _ PM;replace JS:j≤min (lead s) 20∧Below w.heap.size w wr∧ak wr au 25 ch.cells∧dI pf uq s=jl s j:=JS;obtain ⟨hj,hb,ab,hri⟩:=JS;show Wc _ _ _ _ _ [(0,str s),(2,.pointer (some ⟨au,0,none⟩)),(3,.int .i64 0),(4,.bool false),(13,.int .i64 (j:Int))] _;have hL:=ce.below hb;have:=hb.size;have:=ab.lt;refine av fun _ xE=>am fun ZV=>ai rfl<|ae (ed rfl rfl) rfl<|al ZV<|aO rfl (fun vD=>?_) (fun vD=>?_)
  ·
   have W3:=vD;simp only [DZ] at vD;have hj0:0<j:=by have:=vD;omega
   refine aU<|ax xE<|av fun _ E4=>b4<|am fun ZY=>ai rfl<|ai rfl<|ae (pQ bI rfl rfl (by omega) (by omega)) rfl<|aD afR rfl rfl (Vg _ (by simp;omega) _ hL) rfl ?_
   rintro _ u6 ⟨⟨n,e,rfl,hie,hpi⟩,eN⟩;have:=eN.size;have hb:=aZ hb eN;have hL:=ce.below hb;have ab:=ak.below ab eN;refine ai rfl<|ae (cu rfl rfl) rfl<|ae (cu rfl rfl) rfl<|an rfl<|an rfl<|al ZY<|av fun _ E5=>Ap (by kernel_rfl) (by kernel_rfl)<|dh (dN rfl) rfl<|dh (ag7 (by kernel_rfl) rfl (hie)) rfl<|dh (dN rfl) rfl<|yK rfl rfl rfl (fun Jb=>?_) (fun Jb=>?_)
   ·
    have nG:=Jb;have hpn:=ac4 hpi nG;obtain ⟨hn0,hn1⟩:=RS hpn;refine dh (dN rfl) rfl<|ix rfl rfl nG<|Ef afS rfl rfl (fun wq hq=>by have hL:=hL.below hq;have ab:=ak.below ab hq;exact U1 _ hn0 hn1 _ hL) rfl<|ix rfl rfl nG<|dh (dN rfl) rfl<|ix rfl rfl nG<|dh (dN rfl) rfl<|ix rfl rfl nG<|dh (pQ bI rfl rfl (by omega) (by omega)) rfl<|ix rfl rfl nG<|dh (fl rfl rfl) rfl<|dh (bo rfl nG rfl) rfl<|qD fun agE xY=>?_
    have abM:=xY.size;have hb:=aZ hb xY;have hL:=ce.below hb;have ab:=ak.below ab xY;refine ax E5<|aO rfl (fun GM=>?_) (fun GM=>?_)
    ·
     refine am fun KR=>ai rfl<|ae (cC (z:=n6) (pl:=n9) (cs:= [_,_,_,_]) ek (by kernel_rfl) (by kernel_rfl) rfl rfl rfl) rfl<|ai rfl<|ba (by kernel_rfl) rfl rfl ab rfl rfl ?_
     rintro mW ab df;have:=df.size;have hb:=cf hb df hb.size (by omega);have hL:=ce.below hb;refine an rfl<|an rfl<|al KR<|aJ<|co (aX (aX (co (aX ?_))))
     refine bQ (rs:= [.cell 2 25,.tmp 3,.tmp 4]) (vs:= [_,_,_]) rfl (.cell rfl (bP ek (by kernel_rfl) (fun j u hu=>ab.at hu)) (.tmp rfl (.tmp rfl .nil))) ?_;exact ⟨_,rfl,by rw [hri,Yt (j:=j) hpn GM hj0];rfl,hb⟩
    refine aU<|cD<|ax E4<|aQ<|ai rfl<|ae (iQ rfl rfl (by omega) (by omega)) rfl<|an rfl<|ay<|fun a_ bM=>PM _ _ (j - 1) (by omega) (by repeat first|exact aC|refine aA rfl (by first|rfl|exact aH (by omega)) ?_) ?_ a_ bM
    exact ⟨by omega,hb,ab,by rw [hri];exact Yv hpn GM hj0⟩
   have nG:=Jb;refine ef rfl rfl nG rfl rfl<|ef rfl rfl nG rfl rfl<|ef rfl rfl nG rfl rfl<|ef rfl rfl nG rfl rfl<|ef rfl rfl nG rfl rfl<|dh (bj rfl nG rfl) rfl<|qD fun agE xY=>?_
   have abM:=xY.size;have hb:=aZ hb xY;have hL:=ce.below hb;have ab:=ak.below ab xY;refine ax E5<|oU rfl rfl<|aU<|cD<|ax E4<|aQ<|ai rfl<|ae (iQ rfl rfl (by omega) (by omega)) rfl<|an rfl<|ay<|fun a_ bM=>PM _ _ (j - 1) (by omega) (by repeat first|exact aC|refine aA rfl (by first|rfl|exact aH (by omega)) ?_) ?_ a_ bM
   exact ⟨by omega,hb,ab,by rw [hri];exact Yu (ac3 hpi nG) hj0⟩
  have W3:=vD;simp only [DZ] at vD;refine d2<|cj<|cj<|d3<|ax KJ<|am fun Z9=>ae (cC (z:=n6) (pl:=n9) (cs:= [_,_,_,_]) ek (by kernel_rfl) (by kernel_rfl) rfl rfl rfl) rfl<|ba (by kernel_rfl) rfl rfl ab rfl rfl ?_
  rintro mi ab cF;have:=cF.size;have hb:=cf hb cF hb.size (by omega);have hL:=ce.below hb;refine an rfl<|an rfl<|al Z9<|aJ<|bQ (rs:= [.cell 2 25,.tmp 3,.tmp 4]) (vs:= [_,_,_]) rfl (.cell rfl (bP ek (by kernel_rfl) (fun j u hu=>ab.at hu)) (.tmp rfl (.tmp rfl .nil))) ?_
  exact ⟨_,rfl,by rw [hri,show j=0 by have:=vD;omega];rfl,hb⟩
 rintro ab5 adq ais Fi aaV abJ abB Fe;have:=Fe.size;have hb:=cf hb Fe hb.size (by omega);have hL:=ce.below hb;have ab:=ab.over Fe (by omega);have iL:=iL.over Fe (by omega);have pj:=abB;refine ae (cu rfl rfl) rfl<|al iK<|av fun _ aab=>yI rfl rfl<|aU<|ax aab<|b4<|am fun aac=>?_
 obtain ⟨pk,pv⟩:=adq;obtain ⟨v,hv,hpl⟩:=ag0 Fi;replace hv:pv=v.enc:=hv;replace hpl:pk.length≤5:=hpl;subst hv;refine aG (aci rfl pj iL (by exact Fi)) rfl<|ae (cu rfl rfl) rfl<|ae (cu rfl rfl) rfl<|bT (z:=mO) (by kernel_rfl) rfl ?_
 rintro ahN aiu ahW E2 CN;have:=CN.size;have hb:=aZ hb CN;have hL:=ce.below hb;have ab:=ak.below ab CN;have iL:=Mp.below iL CN;have pj:=It.below pj CN;have:=E2.lt;refine an rfl<|ba (by kernel_rfl) rfl rfl E2 rfl rfl ?_
 rintro gB E2 bz;have:=bz.size;have hb:=cf hb bz hb.size (by omega);have hL:=ce.below hb;have ab:=ab.over bz (by omega);have iL:=iL.over bz (by omega);have pj:=pj.over bz (by omega);refine al aac<|am fun aae=>ai rfl<|ai rfl<|aD FS rfl rfl (DY s pk _) rfl ?_
 rintro _ w_ ⟨rfl,bV⟩;have bV:=bV.symm;subst bV;refine al aae<|aO rfl (fun Hw=>?_) (fun Hw=>?_)
 ·
  have Hx:=Hw;refine am fun aaf=>aG (cr ek (by kernel_rfl) rfl (by exact fun j u hu=>E2.at hu)) rfl<|ai rfl ?_
  refine ae (ez bI (Nat.le_trans hpl (by decide)) rfl) rfl<|ba (by kernel_rfl) rfl rfl ab rfl rfl ?_
  rintro j7 ab cd;have:=cd.size;have hb:=cf hb cd hb.size (by omega);have hL:=ce.below hb;refine an rfl<|an rfl<|al aaf<|aJ<|co (aX (co (aX ?_)))
  refine bQ (rs:= [.cell 2 25,.tmp 3,.tmp 4]) (vs:= [_,_,_]) rfl (.cell rfl (bP ek (by kernel_rfl) (fun j u hu=>ab.at hu)) (.tmp rfl (.tmp rfl .nil))) ?_;exact ⟨_,rfl,by obtain ⟨v',hv',hr'⟩:=agW (pf:=pf) (uq:=uq) hq39 Fi Hx;rw [hr'];show _=Value.tuple #[v'.enc,_,_];rw [←hv'];rfl,hb⟩
 have Hx:=Hw;refine aU<|cD<|fun a_ bM=>aaw _ _ (seen++ [ab5]) (acF aaV abJ) (by repeat first|exact aC|refine aA rfl (by first|rfl|exact aH (by omega)) ?_) ?_ a_ bM
 exact ⟨hb,ab,iL,pj,agZ hsn Fi Hx⟩
end Go.Proofs.YtjdjliiolchciaaGreatDoor
namespace Go.Bw
open Go.RowKit
set_option linter.unusedVariables false
set_option linter.unusedSimpArgs false
section
variable {P:Program} {N:Nat} {D:List Deferred} {env env':eR} {a:Act} {w w':World} {Q:Exit→Act→World→Prop}
variable {ops:Array Oper} {rest:List Oper} {d:Nat} {op:Op} {ty:TypeId} {pos:String} {af:Array Edge}
theorem WV (w:World) (e:TypeId) (t:ByteArray):Below w.heap.size w (Lib.bytesWorld w e t):=by
 refine ((Below.refl _ _).drew.alloc (Nat.le_refl _) (.cells (Lib.bytesCells w e t) e)).trans ?_;unfold Lib.bytesWorld World.freeze
 split
 · exact Below.refl _ _
 · refine ⟨rfl,rfl,rfl,by simp,fun k hk=>?_⟩
   show ((w.drew.alloc _).heap.modify _ _)[k]? =_;rw [Array.getElem?_modify,if_neg (by have hk':k<w.heap.size:=hk;show w.heap.size≠k;omega)]
theorem adO (w:World) (e:TypeId) (l:ao):Rd (Lib.bytesWorld w e ⟨l.toArray⟩) 1 (some ⟨w.heap.size,0,none⟩) l.length (jb l):=
 ⟨by rw [yv,Nat.mul_one],fun _=>⟨_,rfl,fun j u hu=>by
  obtain ⟨hj,e'⟩:=List.getElem?_eq_some_iff.1 hu
  rw [yv] at hj
  have:=Lib.bytesWorld_cell w e ⟨l.toArray⟩ j (by rw [pJ];exact hj)
  rw [uf,this,←e']
  simp [jb,List.getD,List.getElem?_eq_getElem hj]⟩⟩
theorem WB {x:Operand} {s t e:TypeId} {ud:TypeDesc} {l:ao} (hs:P.underlying s=some ud) (ht:P.underlying t=some (.slice e)) (he:P.underlying e=some (.int .u8)) (hx:ev env x=some (str l)) (hd:Nat.blt d N=true)
 (h:∀g c w',w.heap.size≤g→g<w'.heap.size→Rd w' 1 (some ⟨g,0,none⟩) l.length (jb l)→Below w.heap.size w w'→Wl P ops Q rest N D ((d,.slice (some ⟨g,0,none⟩) l.length c) :: env) w'):
 Wl P ops Q (⟨some d,.convert s t x,ty,pos,af,none⟩ :: rest) N D env w:=by
 refine oo (v:= .slice (some ⟨w.heap.size,0,none⟩) l.length (grownCap w l.length 0 e)) (w':=Lib.bytesWorld w e ⟨l.toArray⟩) (fun a ha dst pos af g=>?_) hd (h _ _ _ (Nat.le_refl _) (by rw [Lib.bytesWorld_size];omega) (adO w e l) (WV w e _))
 have h0:=Lib.run_convert_string_bytes w s t e ⟨l.toArray⟩ hs ht he
 rw [pJ] at h0
 have h1:(convert s t (str l)).run P w=_:=h0
 simp [execOp,ha.eval hx,h1]
theorem pP {x:Operand} {t:TypeId} {u:TypeDesc} {v:Value} (hu:P.underlying t=some u) (hn:∀ms,u≠ .interface ms) (hx:ev env x=some v):Yl P N D env (.makeInterface t x) ty (.iface t v):=fun a ha w dst pos af g=>by
 have h1:(Instr.makeInterface t v).run P w= .ok (.iface t v) w:=by
  cases u<;>first|exact absurd rfl (hn _)|simp [Instr.makeInterface,run_underlying hu]
 simp [execOp,ha.eval hx,h1]
end
end Go.Bw
namespace Go.Bw.Fl
open Ieee Go
set_option linter.unusedVariables false
set_option linter.unusedSimpArgs false
def em (n:Nat):ao→Nat
 | []=>n
 |c :: r=>em (n * 10+(c.toNat - 48)) r
def ii (l:ao):Prop:=∀c,c∈l→48≤c.toNat∧c.toNat≤57
theorem yY (b:ao):∀(a:ao) (n:Nat),em n (a++b)=em (em n a) b
 | [],_=>rfl
 |c :: r,n=>yY b r _
theorem AV:∀(l:ao) (n:Nat),n≤em n l
 | [],n=>Nat.le_refl n
 |c :: r,n=>Nat.le_trans (by omega) (AV r (n * 10+(c.toNat - 48)))
theorem AQ {k:Nat} (h:k<10):(UInt8.ofNat (48+k)).toNat=48+k:=by
 rw [UInt8.toNat_ofNat'];exact Nat.mod_eq_of_lt (by omega)
theorem jD (u:Nat):ii (Lib.decDigits u)∧em 0 (Lib.decDigits u)=u∧Lib.decDigits u≠ []:=by
 induction u using Nat.strongRecOn with
 |ind u ih=>
  by_cases h:u<10
  · rw [Lib.decDigits_one h]
    refine ⟨fun c hc=>?_,?_,by simp⟩
    · rw [List.mem_singleton.1 hc,AQ h];omega
    · show 0 * 10+((UInt8.ofNat (48+u)).toNat - 48)=u
      rw [AQ h];omega
  · obtain ⟨h1,h2,h3⟩:=ih (u / 10) (by omega)
    rw [Lib.decDigits,dif_neg h];refine ⟨fun c hc=>?_,?_,by simp⟩
    · rcases List.mem_append.1 hc with hc|hc
      · exact h1 c hc
      · rw [List.mem_singleton.1 hc,AQ (by omega)];omega
    · rw [yY,h2]
      show u / 10 * 10+((UInt8.ofNat (48+u % 10)).toNat - 48)=u;rw [AQ (by omega)];omega
theorem IT {l:ao} {i:Nat} (h:i<l.length):em 0 (l.take (i+1))=em 0 (l.take i) * 10+((l.getD i 0).toNat - 48):=by
 have e:l.take (i+1)=l.take i++ [l.getD i 0]:=by rw [List.take_add_one,List.getElem?_eq_getElem h];simp [List.getD,List.getElem?_eq_getElem h]
 rw [e,yY];rfl
theorem Yz (l:ao) (i:Nat):em 0 (l.take i)≤em 0 l:=by
 have:=yY (l.drop i) (l.take i) 0;rw [List.take_append_drop] at this;rw [this];exact AV _ _
theorem RR:∀(l:ao) (n:Nat),ii l→em n l<18446744073709551616→Lib.parseUint10 n l= .ok (em n l)
 | [],_,_,_=>rfl
 |c :: r,n,ha,hl=>by
  have hc:=ha c (List.mem_cons_self ..);have hg:=AV r (n * 10+(c.toNat - 48));have hl':em (n * 10+(c.toNat - 48)) r<18446744073709551616:=hl;rw [Lib.parseUint10,if_pos hc,if_neg (by omega),if_neg (by omega)];exact RR r _ (fun x hx=>ha x (List.mem_cons_of_mem _ hx)) hl'
theorem RT {u:Nat} (h:u<18446744073709551616):Lib.parseMag (Lib.decDigits u)= .ok u:=by
 obtain ⟨h1,h2,h3⟩:=jD u;rw [Lib.parseMag,if_neg h3,RR _ _ h1 (by rw [h2];exact h),h2]
theorem yL {e:Int} (h0: -9223372036854775808≤e) (h1:e≤9223372036854775807):Lib.atoiAll (Lib.itoa e)= .ok e:=by
 unfold Lib.itoa;by_cases h:e<0
 · rw [if_pos h,Lib.atoiAll_minus,RT (by omega)]
   show (if 9223372036854775808<e.natAbs then Lib.NumEnd.range else Lib.NumEnd.ok (-(e.natAbs:Int)))=_;rw [if_neg (by omega)];congr 1;omega
 · rw [if_neg h]
   obtain ⟨a,b,c⟩:=jD e.toNat
   cases hd:Lib.decDigits e.toNat with
   |nil=>exact absurd hd c
   |cons x r=>
    have hx:=a x (by rw [hd];exact List.mem_cons_self ..);rw [Lib.atoiAll_plain x r (by omega) (by omega),←hd,RT (by omega)];show (if 9223372036854775808≤e.toNat then Lib.NumEnd.range else Lib.NumEnd.ok (e.toNat:Int))=_;rw [if_neg (by omega)];congr 1;omega
theorem LP {a b:ao} {c:UInt8} (h:c ∉ a):Lib.indexByte (a++c :: b) c=(a.length:Nat):=by
 induction a with
 |nil=>show (if (c==c)=true then (0:Int) else _)=_;simp
 |cons x r ih=>
  have hx:x≠c:=fun e=>h (by rw [e];exact List.mem_cons_self ..);have ih':=ih (fun m=>h (List.mem_cons_of_mem _ m));show (if (x==c)=true then (0:Int) else if (Lib.indexByte (r++c :: b) c== -1)=true then -1 else Lib.indexByte (r++c :: b) c+1)=_;rw [if_neg (by simpa using hx),ih',if_neg (by simp)];simp
theorem oJ {u:Nat}:(112:UInt8) ∉ Lib.decDigits u:=fun h=>by
 have:=(jD u).1 _ h;have e:(112:UInt8).toNat=112:=rfl;omega
theorem MA {a b k:Nat} (h:a * 2 ^ k=b * 2 ^ k):a=b:=Nat.eq_of_mul_eq_mul_right (Nat.two_pow_pos k) h
theorem adw {a b p q:Nat} (h:a * 2 ^ p=b * 2 ^ q) (ha:4503599627370496≤a) (hb:b<9007199254740992):p≤q:=by
 rcases Nat.lt_or_ge q p with hlt|hge
 · exfalso
   have e:a * 2 ^ p=a * 2 * 2 ^ (p - q - 1) * 2 ^ q:=by
    rw [Nat.mul_assoc (a * 2),←Nat.pow_add,Nat.mul_assoc a 2,←Nat.pow_succ'];congr 2;omega
   rw [e] at h;have h2:=MA h;have h3:1≤2 ^ (p - q - 1):=Nat.one_le_two_pow;have h4:a * 2 * 1≤a * 2 * 2 ^ (p - q - 1):=Nat.mul_le_mul_left _ h3;omega
 · exact hge
theorem adx {a b p q:Nat} (h:a * 2 ^ p=b * 2 ^ q) (ha:a<9007199254740992) (hb:b≠0):q<p+53:=by
 rcases Nat.lt_or_ge q (p+53) with hlt|hge
 · exact hlt
 · exfalso
   have e:b * 2 ^ q=b * 2 ^ (q - p) * 2 ^ p:=by rw [Nat.mul_assoc,←Nat.pow_add];congr 2;omega
   rw [e] at h;have h2:=MA h;have h3:2 ^ 53≤2 ^ (q - p):=Nat.pow_le_pow_right (by decide) (by omega);have h4:1 * 2 ^ (q - p)≤b * 2 ^ (q - p):=Nat.mul_le_mul_right _ (by omega);have h5:(2:Nat) ^ 53=9007199254740992:=by decide
   omega
theorem Ea {r:Nat} (h:r<9218868437227405312):∃m e,V r=m * 2 ^ e∧m<9007199254740992∧e≤2045∧(4503599627370496≤r→4503599627370496≤m∧e=r / 4503599627370496 - 1∧m=4503599627370496+r % 4503599627370496):=by
 by_cases hs:r<4503599627370496
 · exact ⟨r,0,by rw [V,if_pos hs];simp,by omega,by omega,fun h=>by omega⟩
 · exact ⟨4503599627370496+r % 4503599627370496,r / 4503599627370496 - 1,by rw [V,if_neg hs],by omega,by omega,fun _=>⟨by omega,rfl,rfl⟩⟩
theorem Ww {r:Nat}:V r=b7 r * 2 ^ (eE r+1074).toNat:=by
 unfold V b7 eE
 split
 · simp
 · congr 2;omega
def rS (r:Nat) (k:Int) (f:Nat):Prop:=∃t u:Nat,k=(t:Int) - (u:Int)∧V r * 2 ^ t=V f * 2 ^ u
theorem acD {x m j:Nat} (h0:4503599627370496≤x) (h1:x<9218868437227405312) (hm:(m=4607182418800017408∧j=0)∨(m=4368491638549381120∧j=53)):
 ∃r,floatBits .mul .f64 m x=some r∧r<18446744073709551616∧∀f,f≠0→f<9218868437227405312→V f * 2 ^ j=V x→r=f:=by
 have hrm:Ieee.double.read m= .number false 4503599627370496 (-52 - (j:Int)):=by
  rcases hm with ⟨rfl,rfl⟩|⟨rfl,rfl⟩
  · rw [yi (by decide) (by decide)];rfl
  · rw [yi (by decide) (by decide)];rfl
 have hx:rung x=x:=Nat.mod_eq_of_lt (by omega)
 have hn:dM x=false:=by unfold dM;rw [Nat.div_eq_of_lt (by omega)];rfl
 have hrx:Ieee.double.read x= .number false (4503599627370496+x % 4503599627370496) (((x / 4503599627370496:Nat):Int) - 1075):=by
  rw [yi (by rw [hx];exact h0) (by rw [hx];exact h1),hx,hn]
  congr 1;omega
 have hmul:floatBits .mul .f64 m x=some (Ieee.double.nearest (false ^^ false) (4503599627370496 * (4503599627370496+x % 4503599627370496)) (-52 - (j:Int)+(((x / 4503599627370496:Nat):Int) - 1075))):=by
  show Ieee.double.mul m x=_;unfold Format.mul;rw [hrm,hrx];rfl
 refine ⟨_,hmul,by simpa [Lit.wf] using floatBits_wf hmul,fun f hf0 hf1 hV=>?_⟩
 rw [C5 (r:=f) _ hf1 hf0 (x / 4503599627370496 - 1) (52+j) (by omega)]
 · rfl
 · have hvx:V x=(4503599627370496+x % 4503599627370496) * 2 ^ (x / 4503599627370496 - 1):=by rw [V,if_neg (by omega)]
   rw [Nat.mul_assoc,←hvx,←hV,Nat.pow_add,show (4503599627370496:Nat)=2 ^ 52 by decide,Nat.mul_comm (2 ^ 52) (V f * 2 ^ j),Nat.mul_assoc,Nat.mul_comm (2 ^ j)]
theorem YE {r f:Nat} {k:Int} (h0:4503599627370496≤r) (h1:r<9218868437227405312) (hf:f≠0) (h:rS r k f): -52≤((r / 4503599627370496:Nat):Int)+k:=by
 obtain ⟨t,u,hk,hv⟩:=h;obtain ⟨m,e,hV,hm,he,hb⟩:=Ea h1;obtain ⟨b1,b2,b3⟩:=hb h0;rw [hV,Nat.mul_assoc,←Nat.pow_add] at hv;have:=adx hv hm (fun h=>hf (Ao.1 h));omega
theorem Pd {r f:Nat} {k:Int} (h0:4503599627370496≤r) (h1:r<9218868437227405312) (hf:f<9218868437227405312) (h:rS r k f):((r / 4503599627370496:Nat):Int)+k≤2046:=by
 obtain ⟨t,u,hk,hv⟩:=h;obtain ⟨m,e,hV,hm,he,hb⟩:=Ea h1;obtain ⟨b1,b2,b3⟩:=hb h0;obtain ⟨m',e',hV',hm',he',_⟩:=Ea hf;rw [hV,hV',Nat.mul_assoc,Nat.mul_assoc,←Nat.pow_add,←Nat.pow_add] at hv;have:=adw hv b1 hm';omega
theorem YF {r f j:Nat} {k:Int} (h0:4503599627370496≤r) (h1:r<9218868437227405312) (h:rS r k f) (hE:1≤((r / 4503599627370496:Nat):Int)+k+j):
 V f * 2 ^ j=V (r % 4503599627370496+(((r / 4503599627370496:Nat):Int)+k+j).toNat * 4503599627370496):=by
 obtain ⟨t,u,hk,hv⟩:=h
 obtain ⟨m,e,hV,hm,he,hb⟩:=Ea h1
 obtain ⟨b1,b2,b3⟩:=hb h0
 generalize hq:(((r / 4503599627370496:Nat):Int)+k+j).toNat=q
 have hlt:=Nat.mod_lt r (show 0<4503599627370496 by decide)
 have hq1:1≤q:=by omega
 rw [show V (r % 4503599627370496+q * 4503599627370496)=_ from if_neg (by omega),show (r % 4503599627370496+q * 4503599627370496) % 4503599627370496=r % 4503599627370496 by omega,show (r % 4503599627370496+q * 4503599627370496) / 4503599627370496=q by omega,←b3]
 apply MA (k:=u)
 rw [Nat.mul_right_comm,←hv,hV,Nat.mul_assoc m,Nat.mul_assoc m,Nat.mul_assoc m,←Nat.pow_add,←Nat.pow_add,←Nat.pow_add]
 congr 2;omega
theorem YI {r f:Nat} {k:Int} (h:rS r k f) (hf:f=0):r=0:=by
 obtain ⟨t,u,_,hv⟩:=h;subst hf;rw [show V 0=0 by decide,Nat.zero_mul] at hv
 rcases Nat.mul_eq_zero.1 hv with h|h
 · exact Ao.1 h
 · exact absurd h (Nat.ne_of_gt (Nat.two_pow_pos t))
theorem Wu (p:Nat):V 0=0 * p:=by rw [Nat.zero_mul];decide
theorem YS {n:Nat} (h:n<9007199254740992) (p:Nat) (hp:p=1074):∃r,FloatKind.f64.nearest (n:Int)=r∧(r=0∨(4503599627370496≤r∧r<9218868437227405312))∧V r=n * 2 ^ p:=by
 have e0:FloatKind.f64.nearest (n:Int)=Ieee.double.nearest false n 0:=by
  show Ieee.double.write (.number (decide ((n:Int)<0)) (n:Int).natAbs 0)=_;rw [decide_eq_false (by omega),Int.natAbs_natCast];rfl
 rw [e0];by_cases h0:n=0
 · subst h0;exact ⟨0,by rw [Rq];rfl,.inl rfl,Wu _⟩
 · have hl:Nat.log2 n≤52:=by have:=(Nat.log2_lt h0 (k:=53)).2 (by simpa using h);omega
   obtain ⟨r,r0,r1,r2⟩:=ML (t:=p) h0 h (by omega);refine ⟨r,?_,.inr ⟨?_,r1⟩,r2⟩
   · rw [C5 (r:=r) _ r1 r0 p 0 (by omega) (by rw [r2,Nat.pow_zero,Nat.mul_one])];rfl
   · rcases Nat.lt_or_ge r 4503599627370496 with hlt|hge
     · exfalso
       have e:V r=r:=if_pos hlt;have h5:2 ^ 52≤2 ^ p:=Nat.pow_le_pow_right (by decide) (by omega);have h6:1 * 2 ^ p≤n * 2 ^ p:=Nat.mul_le_mul_right _ (by omega);have h7:(2:Nat) ^ 52=4503599627370496:=by decide
       rw [r2] at e
       generalize 2 ^ p=q at *
       omega
     · exact hge
theorem YR {n:Nat} (h:n<9007199254740992):∃r,FloatKind.f64.nearest (n:Int)=r∧(r=0∨(4503599627370496≤r∧r<9218868437227405312))∧V r=n * 2 ^ 1074:=YS h 1074 rfl
end Go.Bw.Fl
namespace Go.Proofs.YtjdjliiolchciaaGreatDoor
open Go.RowKit Go.Bw Go.Bw.Fl
set_option linter.unusedVariables false
set_option linter.unusedSimpArgs false
theorem ag3 {r:Nat} (h:r<9223372036854775808):r ^^^ 9223372036854775808=9223372036854775808+r:=by
 have e:(9223372036854775808:Nat)=2 ^ 63:=by decide
 rw [e] at h ⊢
 apply Nat.eq_of_testBit_eq;intro i
 rw [Nat.testBit_xor,Nat.testBit_two_pow]
 rcases Nat.lt_trichotomy i 63 with hi|hi|hi
 · rw [Nat.testBit_two_pow_add_gt hi,decide_eq_false (by omega),Bool.xor_false]
 · subst hi;rw [Nat.testBit_two_pow_add_eq,Nat.testBit_lt_two_pow h];rfl
 · have h1:2 ^ 64≤2 ^ i:=Nat.pow_le_pow_right (by decide) hi
   rw [Nat.testBit_lt_two_pow (Nat.lt_of_lt_of_le h (Nat.pow_le_pow_right (by decide) (by omega))),Nat.testBit_lt_two_pow (x:=2 ^ 63+r) (by omega),decide_eq_false (by omega)]
   rfl
theorem ag2 {r:Nat} (h:r<18446744073709551616):r ^^^ 9223372036854775808<18446744073709551616:=Nat.xor_lt_two_pow (n:=64) h (by decide)
structure Cn (f:Nat):Prop where
 lt:f<18446744073709551616
 one:jk f=f
theorem Cn.of {f:Nat} (h:f<18446744073709551616):Cn (jk f):=by
 unfold jk;split
 · exact ⟨by decide,by decide⟩
 · rename_i hn;exact ⟨h,if_neg hn⟩
theorem aeX (f:Nat):ec (jk f)=ec f:=by
 unfold jk;split
 · rename_i hn;unfold ec;rw [if_pos hn];rfl
 · rfl
def pX (neg:Bool) (f:Nat):Nat:=if neg=true then f ^^^ 9223372036854775808 else f
theorem Oh {neg:Bool} {f:Nat} (h:f<18446744073709551616):pX neg f<18446744073709551616:=by
 unfold pX;split
 · exact ag2 h
 · exact h
theorem Eh {f:Nat} (h:f<18446744073709551616):pX (dM f) (rung f)=f:=by
 have hr:rung f<9223372036854775808:=Nat.mod_lt _ (by decide);unfold pX;have e:=agY h;rw [DT] at e
 split
 · rename_i hn;rw [ag3 hr];rw [if_pos hn] at e;exact e
 · rename_i hn;rw [if_neg hn] at e;exact e
def fq (n:Bool):ao:=if n=true then [45] else []
theorem Dn (f:Nat):fN f=fq (dM f):=rfl
theorem yq {n:Bool} {x:ao} (hx:x.head? ≠some 45):Lib.hasPrefix (fq n++x) [45]=n∧Lib.trimPrefix (fq n++x) [45]=x:=by
 cases n
 · have h0:Lib.hasPrefix (fq false++x) [45]=false:=by
    cases x with
    |nil=>rfl
    |cons c r=>
     have hc:c≠45:=fun e=>hx (by rw [e];rfl);show List.isPrefixOf [45] (c :: r)=false;simp [List.isPrefixOf];exact fun e=>hc e.symm
   refine ⟨h0,?_⟩;unfold Lib.trimPrefix;rw [if_neg (by rw [h0];simp)];rfl
 · have h0:Lib.hasPrefix (fq true++x) [45]=true:=by
    show List.isPrefixOf [45] (45 :: x)=true;simp [List.isPrefixOf]
   refine ⟨h0,?_⟩;unfold Lib.trimPrefix;rw [if_pos h0];rfl
def eD (M:Nat) (e:Int):ao:=Lib.decDigits M++112 :: Lib.itoa e
theorem rG (M:Nat) (e:Int):∃c r,eD M e=c :: r∧48≤c.toNat∧c.toNat≤57:=by
 obtain ⟨h1,_,h3⟩:=jD M;unfold eD
 cases hd:Lib.decDigits M with
 |nil=>exact absurd hd h3
 |cons c r=>exact ⟨c,_,rfl,h1 c (by rw [hd];exact List.mem_cons_self ..)⟩
theorem head_ne {x:ao} {k:UInt8} (h:∃c r,x=c :: r∧48≤c.toNat∧c.toNat≤57) (hk:k.toNat<48∨57<k.toNat):x.head? ≠some k:=by
 obtain ⟨c,r,rfl,h1,h2⟩:=h;intro e;cases e;omega
theorem yn {b:Nat} (h:isNan b=true):ec b= [110,97,110]:=by unfold ec;rw [if_pos h]
inductive sJ (s:ao) (f:Nat):Prop
 |nan (h:f=9221120237041090561) (hs:s= [110,97,110]) (hw:Lib.trimPrefix s [45]= [110,97,110])
 |inf (h:rung f=9218868437227405312) (hn:Lib.hasPrefix s [45]=dM f) (hw:Lib.trimPrefix s [45]= [105,110,102])
 |num (M:Nat) (e:Int) (h:rung f<9218868437227405312) (hn:Lib.hasPrefix s [45]=dM f) (hw:Lib.trimPrefix s [45]=eD M e) (hM:M<9007199254740992) (h0: -1074≤e) (h1:e≤1024) (hv:V (rung f)=M * 2 ^ (e+1074).toNat)
theorem sJ.of {s:ao} {f:Nat} (hf:Cn f) (hs:ec f=s):sJ s f:=by
 subst hs;by_cases h1:isNan f=true
 · have e:f=9221120237041090561:=by have:=hf.one;unfold jk at this;rw [if_pos h1] at this;exact this.symm
   exact .nan e (yn h1) (by rw [yn h1];rfl)
 · have h1':isNan f=false:=by simpa using h1
   by_cases h2:rung f=9218868437227405312
   · have ht:ec f=fq (dM f)++ [105,110,102]:=rK h1' h2
     obtain ⟨a,b⟩:=yq (n:=dM f) (x:= [105,110,102]) (by decide);rw [←ht] at a b;exact .inf h2 a b
   · have h6:rung f≤9218868437227405312:=by simpa [isNan,rung] using h1'
     have hr:rung f<9218868437227405312:=by omega
     by_cases h3:rung f=0
     · have ht:ec f=fq (dM f)++eD 0 0:=by
        rw [rL h1' h2 h3]
        have:eD 0 0= [48,112,48]:=by
         have e0:Lib.decDigits 0= [48]:=Lib.decDigits_one (by decide);have e1:Lib.itoa 0=Lib.decDigits 0:=rfl;unfold eD;rw [e1,e0];rfl
        rw [this];rfl
       obtain ⟨a,b⟩:=yq (n:=dM f) (x:=eD 0 0) (head_ne (rG 0 0) (.inl (by decide)));rw [←ht] at a b;exact .num 0 0 hr a b (by decide) (by decide) (by decide) (by rw [h3,Nat.zero_mul];decide)
     · obtain ⟨o1,o2⟩:=qm _ (rF h3)
       have ht:ec f=fq (dM f)++eD (od (b7 (rung f))) (eE (rung f)+v2 (b7 (rung f))):=by
        rw [qs h1' h2 h3];unfold eD;rw [Dn];simp
       obtain ⟨a,b⟩:=yq (n:=dM f) (x:=eD (od (b7 (rung f))) (eE (rung f)+v2 (b7 (rung f)))) (head_ne (rG _ _) (.inl (by decide)));rw [←ht] at a b;have e1:=rZ hr;have e2:=sy hr h3;refine .num _ _ hr a b ?_ (by omega) (by omega) ?_
       · have:=tJ hr
         exact Nat.lt_of_le_of_lt (Nat.div_le_self _ _) this
       · rw [Ww]
         conv=>lhs;rw [o1]
         rw [Nat.mul_assoc,←Nat.pow_add]
         congr 2;omega
theorem Rt {M M':Nat} {e e':Int} (h:eD M e=eD M' e') (h0: -9223372036854775808≤e) (h1:e≤9223372036854775807) (h0': -9223372036854775808≤e') (h1':e'≤9223372036854775807):M=M'∧e=e':=by
 have i1:=LP (a:=Lib.decDigits M) (b:=Lib.itoa e) (oJ (u:=M));have i2:=LP (a:=Lib.decDigits M') (b:=Lib.itoa e') (oJ (u:=M'));unfold eD at h;rw [h,i2] at i1;have hl:(Lib.decDigits M).length=(Lib.decDigits M').length:=by omega
 obtain ⟨a,b⟩:=List.append_inj h hl;have hM:M=M':=by rw [←(jD M).2.1,a,(jD M').2.1]
 have he:Lib.itoa e=Lib.itoa e':=by injection b
 have a1:=yL h0 h1;rw [he,yL h0' h1'] at a1;injection a1 with a1
 exact ⟨hM,a1.symm⟩
theorem aeY {a b:Nat} (ha:Cn a) (hb:Cn b) (h:ec a=ec b):a=b:=by
 have w {f g:Nat} (hf:Cn f) (hg:Cn g) (h1:dM f=dM g) (h2:rung f=rung g):f=g:=by rw [←Eh hf.lt,←Eh hg.lt,h1,h2]
 cases sJ.of ha h with
 |nan h1 hs hw=>
  cases sJ.of hb rfl with
  |nan h2 _ _=>rw [h1,h2]
  |inf _ _ hw'=>rw [hw] at hw';exact absurd hw' (by decide)
  |num M e _ _ hw'=>exact absurd (by rw [←hw',hw];rfl) (head_ne (k:=110) (rG M e) (.inr (by decide)))
 |inf h1 hn hw=>
  cases sJ.of hb rfl with
  |nan _ _ hw'=>rw [hw] at hw';exact absurd hw' (by decide)
  |inf h2 hn' _=>exact w ha hb (hn.symm.trans hn') (h1.trans h2.symm)
  |num M e _ _ hw'=>exact absurd (by rw [←hw',hw];rfl) (head_ne (k:=105) (rG M e) (.inr (by decide)))
 |num M e h1 hn hw hM he0 he1 hv=>
  cases sJ.of hb rfl with
  |nan _ _ hw'=>exact absurd (by rw [←hw,hw'];rfl) (head_ne (k:=110) (rG M e) (.inr (by decide)))
  |inf _ _ hw'=>exact absurd (by rw [←hw,hw'];rfl) (head_ne (k:=105) (rG M e) (.inr (by decide)))
  |num M' e' h2 hn' hw' hM' he0' he1' hv'=>
   obtain ⟨rfl,rfl⟩:=Rt (hw.symm.trans hw') (by omega) (by omega) (by omega) (by omega);exact w ha hb (hn.symm.trans hn') (Wv.1 (hv.trans hv'.symm))
open Classical in
noncomputable def pf (s:ao):Option Nat:=if h:∃f,Cn f∧ec f=s then some (Classical.choose h) else none
theorem oL {s:ao} {f:Nat} (hf:Cn f) (h:ec f=s):pf s=some f:=by
 have he:∃f,Cn f∧ec f=s:=⟨f,hf,h⟩;unfold pf;rw [dif_pos he];obtain ⟨c1,c2⟩:=Classical.choose_spec he;rw [aeY c1 hf (c2.trans h.symm)]
theorem De {s:ao} (h:∀f,Cn f→ec f≠s):pf s=none:=by
 unfold pf;rw [dif_neg (fun ⟨f,a,b⟩=>h f a b)]
theorem Mz {s:ao} {f:Nat} (h:pf s=some f):Cn f∧ec f=s:=by
 by_cases he:∃f,Cn f∧ec f=s
 · obtain ⟨g,a,b⟩:=he
   rw [oL a b] at h;cases h;exact ⟨a,b⟩
 · unfold pf at h;rw [dif_neg he] at h;cases h
def sK (s:ao) (x:Nat):Prop:=∀f,Cn f→ec f=s→ec (pX (Lib.hasPrefix s [45]) x)=s
theorem acX {s:ao} (h:Lib.trimPrefix s [45]= [110,97,110]):sK s 9221120237041090561:=fun f hf ht=>by
 have hn:∀b,ec (pX b 9221120237041090561)= [110,97,110]:=fun b=>by cases b<;>(unfold ec;rw [if_pos (by decide)])
 rw [hn]
 cases sJ.of hf ht with
 |nan _ hs _=>exact hs.symm
 |inf _ _ hw=>rw [h] at hw;exact absurd hw (by decide)
 |num M e _ _ hw=>exact absurd (by rw [←hw,h];rfl) (head_ne (k:=110) (rG M e) (.inr (by decide)))
theorem acW {s:ao} (h:Lib.trimPrefix s [45]= [105,110,102]):sK s 9218868437227405312:=fun f hf ht=>by
 cases sJ.of hf ht with
 |nan _ _ hw=>rw [h] at hw;exact absurd hw (by decide)
 |inf hr hn _=>
  have e:pX (Lib.hasPrefix s [45]) 9218868437227405312=f:=by rw [hn,←hr,Eh hf.lt]
  rw [e,ht]
 |num M e _ _ hw=>exact absurd (by rw [←hw,h];rfl) (head_ne (k:=105) (rG M e) (.inr (by decide)))
theorem YH {M r p:Nat} {e:Int} {f:Nat} (hp:p=1074) (h0: -1074≤e) (hr:V r=M * 2 ^ p) (hv:V f=M * 2 ^ (e+1074).toNat):rS r e f:=
 ⟨(e+1074).toNat,p,by omega,by rw [hr,hv,Nat.mul_assoc,Nat.mul_assoc,Nat.mul_comm (2 ^ p)]⟩
theorem YG {M r:Nat} {e:Int} {f:Nat} (h0: -1074≤e) (hr:V r=M * 2 ^ 1074) (hv:V f=M * 2 ^ (e+1074).toNat):rS r e f:=YH rfl h0 hr hv
theorem ade:One Tryz.prog 5:=⟨_,kV,rfl,by kernel_rfl⟩
theorem M6:bB Tryz.prog 146:=⟨_,Tryz.func146,by kernel_rfl,rfl⟩
structure Gd (s:ao):Prop where
 ne:s≠ []
 all:ii s
 lt:em 0 s<9007199254740992
theorem Gd.dec {M:Nat} (h:M<9007199254740992):Gd (Lib.decDigits M):=⟨(jD M).2.2,(jD M).1,by rw [(jD M).2.1];exact h⟩
def yG (s:ao) (n:Nat) (e:Value):Prop:=(e= .nilIface∧n<9007199254740992∧(Gd s→n=em 0 s))∨(¬Gd s∧n<18446744073709551616∧∃c:Int,(c=1∨c=2)∧e= .iface 156 (.int .i64 c))
theorem Gd.at {s:ao} (h:Gd s) {i:Nat} (hi:i<s.length):48≤(s.getD i 0).toNat∧(s.getD i 0).toNat≤57:=by
 have e:s.getD i 0=s[i]:=by simp [List.getD,List.getElem?_eq_getElem hi]
 rw [e];exact h.all _ (List.getElem_mem hi)
theorem agp {s:ao} {i:Nat} {v:Value} (hi:i<s.length) (h:(jb s)[i]? =some v):v= .int .u8 ((s.getD i 0).toNat:Int):=by
 have e:s.getD i 0=s[i]:=by simp [List.getD,List.getElem?_eq_getElem hi]
 simp [jb,List.getElem?_eq_getElem hi] at h;rw [e,←h]
theorem Md (c:Int) (w:World):bx Tryz.prog 146 [.int .u8 c] w fun v w'=>v= .int .u8 (bits .or .u8 c 32)∧w'=w:=vm (Tryz.internal_strconv_lower c w)
theorem PJ {s:ao} {i n:Nat} (hi:i<s.length) (h:Gd s→n=em 0 (s.take i)) (hg:Gd s):n * 10+((s.getD i 0).toNat - 48)=em 0 (s.take (i+1))∧n * 10+((s.getD i 0).toNat - 48)<9007199254740992:=by
 have e:=IT hi;rw [←h hg] at e;have:=Yz s (i+1);have:=hg.lt;exact ⟨e.symm,by omega⟩
theorem ab4 (s:ao) (hs:s.length≤281474976710656) (w:World):bx Tryz.prog 110 [str s,.int .i64 10,.int .i64 53] w fun v w'=>(∃n e,v= .tuple #[.int .u64 (n:Nat),e]∧yG s n e)∧Below w.heap.size w w':=by
 have hb:=Below.refl w.heap.size w;refine enter Tryz.func110 rfl rfl rfl<|am fun aR=>an rfl<|an rfl<|al aR<|av fun _ b8=>am fun dC=>ai rfl<|ae (fl rfl rfl) rfl<|al dC<|aO rfl (fun d7=>?_) (fun d7=>?_)
 ·
  refine am fun dW=>ae (pP FY (by intro _ h;cases h) rfl) rfl<|an rfl<|an rfl<|al dW<|aJ<|aX<|fm rfl rfl rfl ?_
  exact ⟨_,rfl,⟨0,_,rfl,.inr ⟨fun h=>h.ne (by simpa using d7),by omega,2,.inr rfl,rfl⟩⟩,hb⟩
 have oV:=d7;simp only [DZ] at d7;refine aU<|ax b8<|am fun eh=>ai rfl<|ae (bX rfl rfl) rfl<|an rfl<|al eh<|am fun mB=>ai rfl<|an rfl<|al mB<|av fun _ eM=>b4<|am fun mC=>ai rfl<|ae (iu rfl rfl) rfl<|ai rfl<|cG rfl rfl rfl (fun m4=>?_) (fun m4=>?_)
 ·
  have kc:=m4;simp only [DZ] at m4;refine ai rfl<|ap rfl rfl kc<|ae (iu rfl rfl) rfl<|ae (bo rfl kc rfl) rfl<|an rfl<|al mC<|aO rfl (fun ui=>?_) (fun ui=>?_)
  ·
   have Es:=ui;simp only [DZ] at ui;refine aU<|cD<|ax eM<|av fun _ k8=>am fun gP=>ai rfl<|ae (bX rfl rfl) rfl<|al gP<|aO rfl (fun Ex=>?_) (fun Ex=>?_)
   ·
    cases Ex
   have ahB:=Ex;simp only [DZ] at Ex;refine am fun iW=>ai rfl<|ae (dL rfl rfl) rfl<|ai rfl<|dy rfl rfl rfl (fun fR=>?_) (fun fR=>?_)
   ·
    cases fR
   have gF:=fR;simp only [DZ] at fR;refine ai rfl<|ap rfl rfl gF<|ae (ed rfl rfl) rfl<|ae (bj rfl gF rfl) rfl<|al iW<|aO rfl (fun Ey=>?_) (fun Ey=>?_)
   ·
    cases Ey
   have ahC:=Ey;simp only [DZ] at Ey;refine aU<|ax k8<|am fun mD=>an rfl<|al mD<|av fun _ mE=>am fun gZ=>ai rfl<|al gZ<|b4<|am fun pn=>ae (bX rfl rfl) rfl<|an rfl<|al pn<|aO rfl (fun Ez=>?_) (fun Ez=>?_)
   ·
    have ahD:=Ez;simp only [DZ] at Ez;refine aQ<|an rfl<|ay<|cD<|ax mE<|am fun kI=>ai rfl<|ae (ll mg agq rfl) rfl<|ae (bW (NB rfl rfl (by decide) (by decide)) (aH (show _=(9007199254740992:Int) by rfl))) rfl<|ae (bW (yD rfl rfl) (aH (show _=(9007199254740991:Int) by rfl))) rfl<|an rfl<|al kI<|am fun nR=>an rfl<|al nR<|am fun jv=>an rfl<|al jv<|av fun _ pt=>am fun m7=>ai rfl<|WB bI jN kV rfl rfl ?_
    rintro k6 rW aiz ah0 ah2 abE QB;have:=QB.size;have hb:=aZ hb QB;have m8:=abE;refine ae (iC jN (by omega) rfl) rfl<|ai rfl<|al m7<|b4<|d9 (X:=Nat×Nat) (fun (i,n)=> [(0,str s),(1,.int .i64 10),(8,.bool false),(10,.int .u64 1844674407370955162),(11,.int .u64 9007199254740991),(12,.bool false),(13,.int .u64 (n:Int)),(99,.slice (some ⟨k6,0,none⟩) s.length rW),(100,.int .i64 (s.length:Int)),(101,.int .i64 (i:Int))]) (fun (i,n) wr=>i≤s.length∧n<9007199254740992∧Below w.heap.size w wr∧Rd wr 1 (some ⟨k6,0,none⟩) s.length (jb s)∧(Gd s→n=em 0 (s.take i))) (fun (i,n)=>s.length - i) (⟨0,0⟩) ?_ ?_ ?_
    · exact by repeat first|exact aC|refine aA rfl (by first|rfl|exact aH (by omega)) ?_
    · exact ⟨by omega,by omega,hb,m8,fun _=>rfl⟩
    rintro ⟨i,n⟩ wr Kg _ aaB;replace Kg:i≤s.length∧n<9007199254740992∧Below w.heap.size w wr∧Rd wr 1 (some ⟨k6,0,none⟩) s.length (jb s)∧(Gd s→n=em 0 (s.take i)):=Kg;obtain ⟨hi,hn,hb,m8,hv⟩:=Kg;show Wc _ _ _ _ _ [(0,str s),(1,.int .i64 10),(8,.bool false),(10,.int .u64 1844674407370955162),(11,.int .u64 9007199254740991),(12,.bool false),(13,.int .u64 (n:Int)),(99,.slice (some ⟨k6,0,none⟩) s.length rW),(100,.int .i64 (s.length:Int)),(101,.int .i64 (i:Int))] _;have:=hb.size;refine am fun tw=>ae (dL rfl rfl) rfl<|al tw<|av fun _ nT=>aO rfl (fun yN=>?_) (fun yN=>?_)
    ·
     have W5:=yN;simp only [DZ] at yN;have hil:i<s.length:=by have:=yN;omega
     refine aU<|ax nT<|av fun _ Co=>b4<|av fun _ oC=>?_
     obtain ⟨p_,v_,hpe,hve,hcell⟩:=m8.one (i:=i) hil
     cases hpe
     obtain ⟨q,hq,hq8,rfl⟩:∃q:Nat,q=(s.getD i 0).toNat∧q<256∧v_= .int .u8 (q:Int):=⟨_,rfl,UInt8.toNat_lt _,agp hil hve⟩;refine aQ<|ae (f8 jN MS rfl rfl (by omega) (by omega)) rfl<|aG (aS ade rfl (by exact vv hcell)) rfl<|an rfl<|al oC<|am fun Cp=>an rfl<|al Cp<|av fun _ mH=>b4<|av fun _ qa=>cR (X:=Unit) (fun u_=> [(0,str s),(1,.int .i64 10),(8,.bool false),(10,.int .u64 1844674407370955162),(11,.int .u64 9007199254740991),(12,.bool false),(13,.int .u64 (n:Int)),(99,.slice (some ⟨k6,0,none⟩) s.length rW),(100,.int .i64 (s.length:Int)),(101,.int .i64 (i:Int)),(15,.int .u8 (q:Int)),(16,.int .u8 0),(106,.bool false)]) (fun u_ wr=>Below w.heap.size w wr∧Rd wr 1 (some ⟨k6,0,none⟩) s.length (jb s)) (fun _ Qr=>?_) ?_
     ·
      refine aQ<|ai rfl<|ae (bX rfl rfl) rfl<|ai rfl<|cG rfl rfl rfl (fun kD=>?_) (fun kD=>?_)
      ·
       refine ai rfl<|ae (bo rfl kD rfl) rfl<|an rfl<|ay<|a7 Qr (()) (aA rfl (by rfl) (aA rfl (by rfl) (aA rfl (by rfl) (aA rfl (by rfl) (aA rfl (by rfl) (aA rfl (by rfl) (aA rfl (by rfl) (aA rfl (by rfl) (aA rfl (by rfl) (aA rfl (by rfl) (aA rfl (by rfl) (aA rfl (by rfl) (aA rfl (by rfl) (aC)))))))))))))) ?_
       exact ⟨hb,m8⟩
      refine ae (bj rfl kD rfl) rfl<|an rfl<|ay<|a7 Qr (()) (aA rfl (by rfl) (aA rfl (by rfl) (aA rfl (by rfl) (aA rfl (by rfl) (aA rfl (by rfl) (aA rfl (by rfl) (aA rfl (by rfl) (aA rfl (by rfl) (aA rfl (by rfl) (aA rfl (by rfl) (aA rfl (by rfl) (aA rfl (by rfl) (aA rfl (by rfl) (aC)))))))))))))) ?_
      exact ⟨hb,m8⟩
     rintro u_ wr Kr;replace Kr:Below w.heap.size w wr∧Rd wr 1 (some ⟨k6,0,none⟩) s.length (jb s):=Kr;obtain ⟨hb,m8⟩:=Kr;show Wq _ _ _ _ [(0,str s),(1,.int .i64 10),(8,.bool false),(10,.int .u64 1844674407370955162),(11,.int .u64 9007199254740991),(12,.bool false),(13,.int .u64 (n:Int)),(99,.slice (some ⟨k6,0,none⟩) s.length rW),(100,.int .i64 (s.length:Int)),(101,.int .i64 (i:Int)),(15,.int .u8 (q:Int)),(16,.int .u8 0),(106,.bool false)] _;have:=hb.size;refine ax qa<|aO rfl (fun Er=>?_) (fun Er=>?_)
     ·
      have Oy:=Er
      cases Oy
     have Oy:=Er;simp only [DZ] at Er;refine av fun _ py=>cR (X:=Bool) (fun g=> [(0,str s),(1,.int .i64 10),(8,.bool false),(10,.int .u64 1844674407370955162),(11,.int .u64 9007199254740991),(12,.bool false),(13,.int .u64 (n:Int)),(99,.slice (some ⟨k6,0,none⟩) s.length rW),(100,.int .i64 (s.length:Int)),(101,.int .i64 (i:Int)),(15,.int .u8 (q:Int)),(16,.int .u8 0),(112,.bool g)]) (fun g wr=>Below w.heap.size w wr∧Rd wr 1 (some ⟨k6,0,none⟩) s.length (jb s)∧g=decide (48≤q∧q≤57)) (fun _ Cz=>?_) ?_
     ·
      refine aQ<|ai rfl<|ae (iu rfl rfl) rfl<|ai rfl<|cG rfl rfl rfl (fun s4=>?_) (fun s4=>?_)
      ·
       have A7:=s4;simp only [DZ] at s4;refine ai rfl<|ap rfl rfl A7<|ae (iu rfl rfl) rfl<|ae (bo rfl A7 rfl) rfl<|an rfl<|ay<|a7 Cz (decide (48≤q∧q≤57)) (by repeat first|exact aC|refine aA rfl (by first|rfl|exact a8 (decide_eq_decide.2 (by have:=s4;omega))|exact a8 (decide_eq_false (by have:=s4;omega)).symm) ?_) ?_
       exact ⟨hb,m8,rfl⟩
      have A7:=s4;simp only [DZ] at s4;refine az rfl rfl A7 rfl rfl<|ae (bj rfl A7 rfl) rfl<|an rfl<|ay<|a7 Cz (decide (48≤q∧q≤57)) (by repeat first|exact aC|refine aA rfl (by first|rfl|exact a8 (decide_eq_decide.2 (by have:=s4;omega))|exact a8 (decide_eq_false (by have:=s4;omega)).symm) ?_) ?_
      exact ⟨hb,m8,rfl⟩
     rintro g wr xi;replace xi:Below w.heap.size w wr∧Rd wr 1 (some ⟨k6,0,none⟩) s.length (jb s)∧g=decide (48≤q∧q≤57):=xi;obtain ⟨hb,m8,hg⟩:=xi;show Wq _ _ _ _ [(0,str s),(1,.int .i64 10),(8,.bool false),(10,.int .u64 1844674407370955162),(11,.int .u64 9007199254740991),(12,.bool false),(13,.int .u64 (n:Int)),(99,.slice (some ⟨k6,0,none⟩) s.length rW),(100,.int .i64 (s.length:Int)),(101,.int .i64 (i:Int)),(15,.int .u8 (q:Int)),(16,.int .u8 0),(112,.bool g)] _;have:=hb.size;refine ax py<|cR (X:=Int) (fun d=> [(0,str s),(1,.int .i64 10),(8,.bool false),(10,.int .u64 1844674407370955162),(11,.int .u64 9007199254740991),(12,.bool false),(13,.int .u64 (n:Int)),(99,.slice (some ⟨k6,0,none⟩) s.length rW),(100,.int .i64 (s.length:Int)),(101,.int .i64 (i:Int)),(16,.int .u8 d)]) (fun d wr=>Below w.heap.size w wr∧Rd wr 1 (some ⟨k6,0,none⟩) s.length (jb s)∧0≤d∧d<256∧((d=(q:Int) - 48∧48≤q∧q≤57)∨(¬Gd s∧10≤d))) (fun _ Cv=>?_) ?_
     ·
      refine aO rfl (fun GN=>?_) (fun GN=>?_)
      ·
       have GO:=GN;have hq9:48≤q∧q≤57:=by have h:=GO;rw [hg] at h;exact of_decide_eq_true h
       obtain ⟨d_,xP⟩:∃d_:Int,d_=IntKind.u8.wrap ((q:Int) - 48):=⟨_,rfl⟩;have hdd:0≤d_∧d_<256∧((d_=(q:Int) - 48∧48≤q∧q≤57)∨(¬Gd s∧10≤d_)):=by rw [xP,wrap_u8 _ (by omega) (by omega)];omega
       refine aQ<|ai rfl<|ae (yD rfl rfl) rfl<|an rfl<|ay<|a7 Cv (d_) (by repeat first|exact aC|refine aA rfl (by first|rfl|exact aH xP.symm) ?_) ?_
       exact ⟨hb,m8,hdd⟩
      have GO:=GN;have hq9:¬(48≤q∧q≤57):=by have h:=GO;rw [hg] at h;exact of_decide_eq_false h
      have hng:¬Gd s:=fun h=>hq9 (by have h2:=h.at hil;rw [←hq] at h2;exact h2);refine av fun _ xA=>cR (X:=Bool) (fun l=> [(0,str s),(1,.int .i64 10),(8,.bool false),(10,.int .u64 1844674407370955162),(11,.int .u64 9007199254740991),(12,.bool false),(13,.int .u64 (n:Int)),(99,.slice (some ⟨k6,0,none⟩) s.length rW),(100,.int .i64 (s.length:Int)),(101,.int .i64 (i:Int)),(15,.int .u8 (q:Int)),(16,.int .u8 0),(121,.bool l)]) (fun l wr=>Below w.heap.size w wr∧Rd wr 1 (some ⟨k6,0,none⟩) s.length (jb s)∧l=decide (97≤bits .or .u8 (q:Int) 32∧bits .or .u8 (q:Int) 32≤122)) (fun _ PU=>?_) ?_
      ·
       refine aQ<|ai rfl<|aD M6 rfl rfl (Md _ _) rfl ?_
       rintro _ w_ ⟨rfl,bV⟩;have bV:=bV.symm;subst bV;refine ae (iu rfl rfl) rfl<|ai rfl<|cG rfl rfl rfl (fun s6=>?_) (fun s6=>?_)
       ·
        have wT:=s6;simp only [DZ] at s6;refine ai rfl<|ap rfl rfl wT<|aD M6 rfl rfl (Md _ _) rfl ?_
        rintro _ w_ ⟨rfl,bV⟩;have bV:=bV.symm;subst bV;refine ap rfl rfl wT<|ae (iu rfl rfl) rfl<|ae (bo rfl wT rfl) rfl<|an rfl<|ay<|a7 PU (decide (97≤bits .or .u8 (q:Int) 32∧bits .or .u8 (q:Int) 32≤122)) (by repeat first|exact aC|refine aA rfl (by first|rfl|exact a8 (decide_eq_decide.2 (by have:=s6;omega))|exact a8 (decide_eq_false (by have:=s6;omega)).symm) ?_) ?_
        exact ⟨hb,m8,rfl⟩
       have wT:=s6;simp only [DZ] at s6;refine az rfl rfl wT rfl rfl<|az rfl rfl wT rfl rfl<|ae (bj rfl wT rfl) rfl<|an rfl<|ay<|a7 PU (decide (97≤bits .or .u8 (q:Int) 32∧bits .or .u8 (q:Int) 32≤122)) (by repeat first|exact aC|refine aA rfl (by first|rfl|exact a8 (decide_eq_decide.2 (by have:=s6;omega))|exact a8 (decide_eq_false (by have:=s6;omega)).symm) ?_) ?_
       exact ⟨hb,m8,rfl⟩
      rintro l wr Jx;replace Jx:Below w.heap.size w wr∧Rd wr 1 (some ⟨k6,0,none⟩) s.length (jb s)∧l=decide (97≤bits .or .u8 (q:Int) 32∧bits .or .u8 (q:Int) 32≤122):=Jx;obtain ⟨hb,m8,hl⟩:=Jx;show Wq _ _ _ _ [(0,str s),(1,.int .i64 10),(8,.bool false),(10,.int .u64 1844674407370955162),(11,.int .u64 9007199254740991),(12,.bool false),(13,.int .u64 (n:Int)),(99,.slice (some ⟨k6,0,none⟩) s.length rW),(100,.int .i64 (s.length:Int)),(101,.int .i64 (i:Int)),(15,.int .u8 (q:Int)),(16,.int .u8 0),(121,.bool l)] _;have:=hb.size;refine ax xA<|aO rfl (fun GP=>?_) (fun GP=>?_)
      ·
       have Oz:=GP;have hlo:97≤bits .or .u8 (q:Int) 32∧bits .or .u8 (q:Int) 32≤122:=by have h:=Oz;rw [hl] at h;exact of_decide_eq_true h
       obtain ⟨d_,xP⟩:∃d_:Int,d_=IntKind.u8.wrap (IntKind.u8.wrap (bits .or .u8 (q:Int) 32 - 97)+10):=⟨_,rfl⟩;have hdd:0≤d_∧d_<256∧((d_=(q:Int) - 48∧48≤q∧q≤57)∨(¬Gd s∧10≤d_)):=by rw [xP,wrap_u8 (bits .or .u8 (q:Int) 32 - 97) (by omega) (by omega),wrap_u8 _ (by omega) (by omega)];exact ⟨by omega,by omega,.inr ⟨hng,by omega⟩⟩
       refine aQ<|ai rfl<|aD M6 rfl rfl (Md _ _) rfl ?_
       rintro _ w_ ⟨rfl,bV⟩;have bV:=bV.symm;subst bV;refine ae (yD rfl rfl) rfl<|ae (yz rfl rfl) rfl<|an rfl<|ay<|a7 Cv (d_) (by repeat first|exact aC|refine aA rfl (by first|rfl|exact aH xP.symm) ?_) ?_
       exact ⟨hb,m8,hdd⟩
      have Oz:=GP;refine am fun zd=>ae (pP FY (by intro _ h;cases h) rfl) rfl<|an rfl<|an rfl<|al zd<|aJ<|aX (co (aX (co (aX (aX (co (aX ?_)))))))
      refine fm rfl rfl rfl ?_;exact ⟨_,rfl,⟨0,_,rfl,.inr ⟨hng,by omega,2,.inr rfl,rfl⟩⟩,hb⟩
     rintro d wr xl;replace xl:Below w.heap.size w wr∧Rd wr 1 (some ⟨k6,0,none⟩) s.length (jb s)∧0≤d∧d<256∧((d=(q:Int) - 48∧48≤q∧q≤57)∨(¬Gd s∧10≤d)):=xl;obtain ⟨hb,m8,hd0,hd1,hdd⟩:=xl;show Wq _ _ _ _ [(0,str s),(1,.int .i64 10),(8,.bool false),(10,.int .u64 1844674407370955162),(11,.int .u64 9007199254740991),(12,.bool false),(13,.int .u64 (n:Int)),(99,.slice (some ⟨k6,0,none⟩) s.length rW),(100,.int .i64 (s.length:Int)),(101,.int .i64 (i:Int)),(16,.int .u8 d)] _;have:=hb.size;refine cD<|ax mH<|av fun _ KB=>am fun tt=>ai rfl<|ai rfl<|ae (bW (ll mg kV rfl) (aH (show _=(10:Int) by rfl))) rfl<|ae (f7 rfl rfl) rfl<|al tt<|aO rfl (fun vF=>?_) (fun vF=>?_)
     ·
      have W6:=vF;simp only [DZ] at vF;refine am fun ZD=>ae (pP FY (by intro _ h;cases h) rfl) rfl<|an rfl<|an rfl<|al ZD<|aJ<|aX (co (aX (aX (co (aX ?_)))))
      refine fm rfl rfl rfl ?_;exact ⟨_,rfl,⟨0,_,rfl,.inr ⟨by rcases hdd with h|h;(have:=vF;omega);exact h.1,by omega,2,.inr rfl,rfl⟩⟩,hb⟩
     have W6:=vF;simp only [DZ] at vF;obtain ⟨e,rfl⟩:∃e:Nat,d=e:=⟨d.toNat,by omega⟩;have he:(e:Int)=(q:Int) - 48∧e<10:=by have:=vF;omega
     refine aU<|ax KB<|av fun _ KD=>am fun ZG=>ai rfl<|ai rfl<|ae (f7 rfl rfl) rfl<|al ZG<|aO rfl (fun Aw=>?_) (fun Aw=>?_)
     ·
      have W7:=Aw;simp only [DZ] at Aw;omega
     have W7:=Aw;simp only [DZ] at Aw;refine aU<|ax KD<|am fun zf=>ai rfl<|ai rfl<|ae (bW (ll mg oP rfl) (aH (show _=(10:Int) by rfl))) rfl<|ae (bW (Nz rfl rfl) (aH (show _=((n * 10:Nat):Int) by rw [wrap_u64 _ (by omega) (by omega)];omega))) rfl<|an rfl<|al zf<|am fun tu=>ai rfl<|ai rfl<|ae (bW (ll kV oP rfl) (aH (show _=(e:Int) by rw [wrap_u64 _ (by omega) (by omega)]))) rfl<|ae (bW (yz rfl rfl) (aH (show _=((n * 10+e:Nat):Int) by rw [wrap_u64 _ (by omega) (by omega)];omega))) rfl<|an rfl<|al tu<|av fun _ KG=>am fun Ck=>ai rfl<|ai rfl<|ae (dL rfl rfl) rfl<|ai rfl<|dy rfl rfl rfl (fun Bi=>?_) (fun Bi=>?_)
     ·
      have ES:=Bi;simp only [DZ] at Bi;omega
     have ES:=Bi;simp only [DZ] at Bi;refine ai rfl<|ap rfl rfl ES<|ai rfl<|ap rfl rfl ES<|ae (ed rfl rfl) rfl<|ae (bj rfl ES rfl) rfl<|al Ck<|aO rfl (fun yO=>?_) (fun yO=>?_)
     ·
      have W8:=yO;simp only [DZ] at yO;refine am fun ZQ=>ai rfl<|ae (pP FY (by intro _ h;cases h) rfl) rfl<|an rfl<|an rfl<|al ZQ<|aJ<|aX (co (aX (aX (co (aX ?_)))))
      refine fm rfl rfl rfl ?_;exact ⟨_,rfl,⟨9007199254740991,_,rfl,.inr ⟨fun hg=>by have h:=(PJ hil hv hg).2;have:=yO;rw [←hq] at h;omega,by omega,1,.inl rfl,rfl⟩⟩,hb⟩
     have W8:=yO;simp only [DZ] at yO;refine aU<|ax KG<|aQ<|ai rfl<|an rfl<|ay<|cD<|ax Co<|aQ<|ae (ct rfl rfl (by omega) (by omega)) rfl<|ai rfl<|ay<|fun a_ bM=>aaB _ _ (⟨i+1,n * 10+e⟩) (by simp;omega) (by repeat first|exact aC|refine aA rfl (by first|rfl|exact aH (by omega)) ?_) ?_ a_ bM
     exact ⟨by omega,by omega,hb,m8,fun hg=>by have h:=(PJ hil hv hg).1;rw [←hq] at h;rw [←h];omega⟩
    have W5:=yN;simp only [DZ] at yN;refine d2<|cj<|cj<|d3<|ax pt<|av fun _ KL=>am fun xE=>ai rfl<|ai rfl<|cG rfl rfl rfl (fun ET=>?_) (fun ET=>?_)
    ·
     have Bm:=ET
     cases Bm
    have Bm:=ET;simp only [DZ] at ET;refine az rfl rfl Bm rfl rfl<|az rfl rfl Bm rfl rfl<|ae (bj rfl Bm rfl) rfl<|al xE<|oU rfl rfl<|aU<|ax KL<|am fun E4=>ai rfl<|an rfl<|an rfl<|al E4<|aJ<|fm rfl rfl rfl ?_
    exact ⟨_,rfl,⟨_,_,rfl,.inl ⟨rfl,hn,fun hg=>by rw [hv hg,List.take_of_length_le (by omega)]⟩⟩,hb⟩
   cases Ez
  cases ui
 cases m4
theorem aff:bB Tryz.prog 109:=⟨_,Tryz.func109,by kernel_rfl,rfl⟩
theorem afh:bB Tryz.prog 110:=⟨_,Tryz.func110,by kernel_rfl,rfl⟩
theorem afi:bB Tryz.prog 113:=⟨_,Tryz.func113,by kernel_rfl,rfl⟩
theorem afr:bB Tryz.prog 145:=⟨_,Tryz.func145,by kernel_rfl,rfl⟩
theorem aft:bB Tryz.prog 150:=⟨_,Tryz.func150,by kernel_rfl,rfl⟩
theorem Ni:bB Tryz.prog 84:=⟨_,Tryz.func84,by kernel_rfl,rfl⟩
theorem af9:bB Tryz.prog 94:=⟨_,Tryz.func94,by kernel_rfl,rfl⟩
theorem OI {w:World} {nm:String} {g:Nat} {v:Value} (hg:Tryz.prog.globalNamed nm=some g) (h:World.var? Tryz.prog w nm=some #[v]):w.cell? ⟨g,0,none⟩=some v:=by
 have h0:=World.var?_cell hg h 0;simpa using h0
theorem ae2 (fn s:ao) (base bs:Int) (c:Int) (hc:c=1∨c=2) (hs:s.length≤281474976710656) (w:World) (hL:Lb w):bx Tryz.prog 94 [str fn,str s,.int .i64 base,.int .i64 bs,.iface 156 (.int .i64 c)] w fun v w'=>(∃t p,v= .iface t p)∧Below w.heap.size w w':=by
 have hs':(⟨s.toArray⟩:ByteArray).size≤281474976710656:=by rw [pJ];exact hs
 rcases hc with rfl|rfl
 · obtain ⟨tp,p,hv⟩:=hL.rng
   exact Calls.mono (Tryz.strconv_toError_range ⟨fn.toArray⟩ ⟨s.toArray⟩ base bs _ w hs' (OI (by kernel_rfl) hv) (.inr ⟨_,_,rfl⟩)) fun e w' ⟨N,h1,_,_,h2⟩=>⟨_,h1,⟨_,_,rfl⟩,h2⟩
 · obtain ⟨tp,p,hv⟩:=hL.syn
   exact Calls.mono (Tryz.strconv_toError_syntax ⟨fn.toArray⟩ ⟨s.toArray⟩ base bs _ w hs' (OI (by kernel_rfl) hv) (.inr ⟨_,_,rfl⟩)) fun e w' ⟨N,h1,_,_,h2⟩=>⟨_,h1,⟨_,_,rfl⟩,h2⟩
def ve (s:ao) (n:Nat) (e:Value):Prop:=Ak e∧(f6 e=true→n<9007199254740992∧(Gd s→n=em 0 s))∧(f6 e=false→¬Gd s)∧n<18446744073709551616
theorem ve.of {s:ao} {n:Nat} {e:Value} (h:yG s n e):ve s n e:=by
 rcases h with ⟨rfl,h1,h2⟩|⟨h1,h2,c,hc,rfl⟩
 · exact ⟨.inl rfl,fun _=>⟨h1,h2⟩,fun h=>(by cases h),by omega⟩
 · exact ⟨.inr ⟨_,_,rfl⟩,fun h=>(by cases h),fun _=>h1,h2⟩
theorem yG.bad {s:ao} {n:Nat} {e:Value} (h:yG s n e) (he:f6 e=false):∃c:Int,(c=1∨c=2)∧e= .iface 156 (.int .i64 c):=by
 rcases h with ⟨rfl,h1,h2⟩|⟨h1,h2,c,hc,rfl⟩
 · cases he
 · exact ⟨c,hc,rfl⟩
theorem yG.good {s:ao} {n:Nat} {e:Value} (h:yG s n e) (he:f6 e=true):n<9007199254740992∧(Gd s→n=em 0 s):=by
 rcases h with ⟨rfl,h1,h2⟩|⟨h1,h2,c,hc,rfl⟩
 · exact ⟨h1,h2⟩
 · cases he
theorem Vi (s:ao) (hs:s.length≤281474976710656) (w:World) (hL:Lb w):bx Tryz.prog 86 [str s,.int .i64 10,.int .i64 53] w fun v w'=>(∃n e,v= .tuple #[.int .u64 (n:Nat),e]∧ve s n e)∧Below w.heap.size w w':=by
 have hb:=Below.refl w.heap.size w;have ce:=hL;refine enter Tryz.func86 rfl rfl rfl<|am fun aR=>an rfl<|an rfl<|al aR<|am fun b8=>ai rfl<|ai rfl<|ai rfl<|aD afh rfl rfl (ab4 s hs _) rfl ?_
 rintro _ cB ⟨⟨n,e,rfl,hU⟩,aw⟩;have:=aw.size;have hb:=aZ hb aw;have hL:=ce.below hb;refine ai rfl<|ae (cu rfl rfl) rfl<|ae (cu rfl rfl) rfl<|an rfl<|an rfl<|al b8<|av fun _ fd=>am fun eL=>ai rfl<|ae (DV (by kernel_rfl) rfl ((ve.of hU).1)) rfl<|al eL<|aO rfl (fun lr=>?_) (fun lr=>?_)
 ·
  obtain ⟨c,hc,rfl⟩:=hU.bad (by have h:=lr;simpa using h);refine am fun fC=>ai rfl<|ai rfl<|ai rfl<|ai rfl<|ai rfl<|aD af9 rfl rfl (ae2 _ s _ _ c hc hs _ hL) rfl ?_
  rintro _ cU ⟨⟨t,p,rfl⟩,aL⟩;have:=aL.size;have hb:=aZ hb aL;have hL:=ce.below hb;refine an rfl<|an rfl<|al fC<|aJ<|aX<|fm rfl rfl rfl ?_
  exact ⟨_,rfl,⟨n,_,rfl,.inr ⟨_,_,rfl⟩,fun h=>(by cases h),fun _=>(ve.of hU).2.2.1 rfl,(ve.of hU).2.2.2⟩,hb⟩
 refine aU<|ax fd<|am fun fu=>ai rfl<|an rfl<|an rfl<|al fu<|aJ<|fm rfl rfl rfl ?_
 exact ⟨_,rfl,⟨n,_,rfl,.inl rfl,fun _=>hU.good (by have h:=lr;simpa using h),fun h=>(by cases h),(ve.of hU).2.2.2⟩,hb⟩
theorem U5 (s:ao) (w:World):bx Tryz.prog 145 [str s,str [112]] w fun v w'=>(∃z,v= .int .i64 z∧z=Lib.indexByte s 112)∧w'=w:=
 Calls.mono (Tryz.stringslite_Index_one ⟨s.toArray⟩ 112 w) fun e w' ⟨h1,h2⟩=>⟨_,h1,⟨_,rfl,rfl⟩,h2⟩
def l4 (s:ao):ao×ao:=if 0≤Lib.indexByte s 112 then (s.take (Lib.indexByte s 112).toNat,s.drop ((Lib.indexByte s 112).toNat+1)) else (s,[])
theorem Yk (M:Nat) (e:Int):l4 (eD M e)=(Lib.decDigits M,Lib.itoa e):=by
 have h:=LP (a:=Lib.decDigits M) (b:=Lib.itoa e) (oJ (u:=M));unfold l4 eD;rw [h,if_pos (by omega),Int.toNat_natCast];simp
theorem OP (s:ao):(l4 s).1.length≤s.length∧(l4 s).2.length≤s.length:=by
 unfold l4;split<;>simp<;>omega
theorem ab6 {s:ao} {o:Nat} (h:Lib.indexByte s 112=(o:Int)):o<s.length:=by
 have:=(Lib.indexByte_some h).1;exact (List.getElem?_eq_some_iff.1 this).1
theorem ab2 (s:ao) (hs:s.length≤281474976710656) (w:World):bx Tryz.prog 109 [str s,str [112]] w fun v w'=>(∃b,v= .tuple #[str (l4 s).1,str (l4 s).2,.bool b])∧Below w.heap.size w w':=by
 have h11:([112]:ao).length=1:=rfl;have hb:=Below.refl w.heap.size w;refine enter Tryz.func109 rfl rfl rfl<|am fun aR=>an rfl<|an rfl<|an rfl<|al aR<|av fun _ dC=>am fun fi=>ai rfl<|ai rfl<|aD afr rfl rfl (U5 s _) rfl ?_
 rintro _ w_ ⟨⟨z,rfl,hz⟩,bV⟩;have bV:=bV.symm;subst bV;refine an rfl<|al fi<|am fun dT=>ai rfl<|ae (f7 rfl rfl) rfl<|al dT<|aO rfl (fun iF=>?_) (fun iF=>?_)
 ·
  have sQ:=iF;simp only [DZ] at iF;obtain ⟨o,rfl⟩:∃o:Nat,z=o:=⟨z.toNat,by have:=iF;omega⟩;have ho:=ab6 hz.symm;refine av fun _ eL=>Ap (by kernel_rfl) (by kernel_rfl)<|dh (dN rfl) rfl<|dh (dN rfl) rfl<|dh (pQ bI rfl rfl (by omega) (by omega)) rfl<|dh (dN rfl) rfl<|dh (dN rfl) rfl<|dh (dN rfl) rfl<|dh (ez bI (by omega) rfl) rfl<|dh (ct rfl rfl (by omega) (by omega)) rfl<|dh (tW bI rfl rfl (by omega) (by omega)) rfl<|dh (it rfl) rfl<|dh (it rfl) rfl<|dh (it rfl) rfl<|qD fun Ui rB=>?_
  have:=rB.size;have hb:=aZ hb rB;refine ax eL<|aJ<|aX<|oh rfl rfl rfl rfl ?_
  exact ⟨_,rfl,⟨true,by unfold l4;rw [←hz,if_pos (by omega),Int.toNat_natCast];rfl⟩,hb⟩
 have sQ:=iF;simp only [DZ] at iF;refine aU<|ax dC<|am fun fu=>ai rfl<|an rfl<|an rfl<|an rfl<|al fu<|aJ<|oh rfl rfl rfl rfl ?_
 exact ⟨_,rfl,⟨false,by unfold l4;rw [←hz,if_neg (by have:=iF;omega)];rfl⟩,hb⟩
theorem UL (s:ao) (hs:s.length≤281474976710656) (w:World):bx Tryz.prog 85 [str s,str [112]] w fun v w'=>(∃b,v= .tuple #[str (l4 s).1,str (l4 s).2,.bool b])∧Below w.heap.size w w':=by
 have hb:=Below.refl w.heap.size w;refine enter Tryz.func85 rfl rfl rfl<|am fun aR=>an rfl<|an rfl<|an rfl<|al aR<|am fun dC=>ai rfl<|ai rfl<|aD aff rfl rfl (ab2 s hs _) rfl ?_
 rintro _ cB ⟨⟨b,rfl⟩,aw⟩;have:=aw.size;have hb:=aZ hb aw;refine ae (cu rfl rfl) rfl<|ae (cu rfl rfl) rfl<|ae (cu rfl rfl) rfl<|an rfl<|an rfl<|an rfl<|al dC<|aJ<|oh rfl rfl rfl rfl ?_
 exact ⟨_,rfl,⟨b,rfl⟩,hb⟩
def UD (s:ao) (v:Value):Prop:=∃n e,v= .tuple #[.int .i64 n,e]∧Ak e∧((Lib.atoiAll s= .ok n∧f6 e=true)∨((∀k,Lib.atoiAll s≠ .ok k)∧f6 e=false))
theorem UG (s:ao) (hs:s.length≤281474976710656) (w:World) (hL:Lb w):bx Tryz.prog 87 [str s] w fun v w'=>UD s v∧Below w.heap.size w w':=by
 have hs':(⟨s.toArray⟩:ByteArray).size≤281474976710656:=by rw [pJ];exact hs
 rcases h:Lib.atoiAll s with v|_|_
 · exact Calls.mono (Tryz.strconv_Atoi_ok ⟨s.toArray⟩ (by omega) v h w) fun e w' ⟨h1,h2⟩=>⟨_,h1,⟨v,_,rfl,.inl rfl,.inl ⟨h,rfl⟩⟩,by
    rcases h2 with rfl|⟨t,rfl⟩
    · exact Below.refl _ _
    · exact On w t⟩
 · obtain ⟨tp,p,hv⟩:=hL.syn
   exact Calls.mono (Any.strconv_Atoi_syntax_var Gi ⟨s.toArray⟩ hs' h tp p w hv) fun e w' ⟨N,h1,_,_,h2⟩=>⟨_,h1,⟨_,_,rfl,.inr ⟨_,_,rfl⟩,.inr ⟨fun k hk=>(by rw [h] at hk;cases hk),rfl⟩⟩,h2⟩
 · obtain ⟨tp,p,hv⟩:=hL.rng
   exact Calls.mono (Any.strconv_Atoi_range_var Gi ⟨s.toArray⟩ hs' h tp p w hv) fun e w' ⟨N,h1,_,_,h2⟩=>⟨_,h1,⟨_,_,rfl,.inr ⟨_,_,rfl⟩,.inr ⟨fun k hk=>(by rw [h] at hk;cases hk),rfl⟩⟩,h2⟩
theorem NI (w:World):bx Tryz.prog 84 [.int .i64 1] w fun v w'=>v= .float .f64 9218868437227405312∧w'=w:=by
 refine enter Tryz.func84 rfl rfl rfl<|am fun aR=>an rfl<|al aR<|am fun bt=>an rfl<|al bt<|av fun _ dC=>am fun fi=>ai rfl<|ae (f7 rfl rfl) rfl<|al fi<|aO rfl (fun eV=>?_) (fun eV=>?_)
 ·
  refine aQ<|an rfl<|al dC<|am fun dT=>ai rfl<|ae (rP qN rfl rfl) rfl<|an rfl<|al dT<|aJ<|bN rfl rfl ?_
  exact ⟨_,rfl,rfl,rfl⟩
 have ky:=eV;simp only [DZ] at eV;exact absurd eV (by decide)
theorem U6 (w:World):bx Tryz.prog 84 [.int .i64 (-1)] w fun v w'=>v= .float .f64 18442240474082181120∧w'=w:=by
 refine enter Tryz.func84 rfl rfl rfl<|am fun aR=>an rfl<|al aR<|am fun bt=>an rfl<|al bt<|av fun _ dC=>am fun fi=>ai rfl<|ae (f7 rfl rfl) rfl<|al fi<|aO rfl (fun eV=>?_) (fun eV=>?_)
 ·
  have ky:=eV;simp only [DZ] at eV;exact absurd eV (by decide)
 refine aQ<|an rfl<|al dC<|am fun dT=>ai rfl<|ae (rP qN rfl rfl) rfl<|an rfl<|al dT<|aJ<|bN rfl rfl ?_
 exact ⟨_,rfl,rfl,rfl⟩
theorem WP (b:Nat) (h:b<9223372036854775808):bits .and .u64 (b:Int) 9223372036854775808=0:=by
 have h1:=u64_and_nat b 9223372036854775808 (by omega) (by decide);rw [show ((9223372036854775808:Nat):Int)=9223372036854775808 from rfl] at h1
 have h2:b &&& 2 ^ 63=0:=by
  apply Nat.eq_of_testBit_eq;intro i
  rw [Nat.testBit_and,Nat.testBit_two_pow,Nat.zero_testBit];by_cases hi:63=i
  · subst hi;rw [Nat.testBit_lt_two_pow (by simpa using h)];rfl
  · simp [hi]
 rw [h1,show (9223372036854775808:Nat)=2 ^ 63 by decide,h2];rfl
theorem UJ (b:Nat) (h:b<9223372036854775808) (w:World):bx Tryz.prog 150 [.float .f64 0,.float .f64 b] w fun v w'=>v= .float .f64 0∧w'=w:=by
 refine enter Tryz.func150 rfl rfl rfl<|am fun aR=>an rfl<|al aR<|am fun bt=>ai rfl<|ae (sE rY rfl rfl) rfl<|ae (bW (F3 rfl rfl) (aH (show _=(0:Int) by rfl))) rfl<|ai rfl<|ae (sE rY rfl rfl) rfl<|ae (bW (Ag rfl rfl) (aH (WP b h))) rfl<|ae (bW (yB rfl rfl) (aH (show _=(0:Int) by rfl))) rfl<|ae (rP qN rfl rfl) rfl<|an rfl<|al bt<|aJ<|bN rfl rfl ?_
 exact ⟨_,rfl,rfl,rfl⟩
theorem ahh {k:Int} {f:Nat} (h:rS 0 k f):f=0:=by
 obtain ⟨t,u,_,hv⟩:=h;rw [show V 0=0 by decide,Nat.zero_mul] at hv
 rcases Nat.mul_eq_zero.1 hv.symm with h|h
 · exact Ao.1 h
 · exact absurd h (Nat.ne_of_gt (Nat.two_pow_pos u))
theorem WO (b:Nat) (h:b<4503599627370496):bits .and .i64 (b:Int) 2047=((b % 2048:Nat):Int):=by
 have hb:(BitVec.ofInt 64 (b:Int)).toNat=b:=by rw [BitVec.toNat_ofInt];omega
 have hc:(BitVec.ofInt 64 (2047:Int)).toNat=2 ^ 11 - 1:=by decide
 show IntKind.i64.wrap ((BitVec.ofInt 64 (b:Int) &&& BitVec.ofInt 64 (2047:Int)).toNat:Int)=_;rw [BitVec.toNat_and,hb,hc,Nat.and_two_pow_sub_one_eq_mod];rw [wrap_i64 _ (by omega) (by omega)]
theorem ac6 (r:Nat) (h0:4503599627370496≤r) (h1:r<9218868437227405312) (w:World):bx Tryz.prog 149 [.float .f64 r] w fun v w'=>v= .tuple #[.float .f64 r,.int .i64 0]∧w'=w:=
 (Rs r (by omega) h1 w).mono fun v w' ⟨⟨r',s,hv,hN⟩,hw⟩=>by
  obtain ⟨_,_,h|⟨_,rfl,rfl⟩⟩:=hN
  · omega
  · exact ⟨hv,hw⟩
theorem SS (q:Nat) (h:q≤2046):IntKind.u64.wrap ((q:Int) * 2 ^ (52:Int).toNat)=((q * 4503599627370496:Nat):Int):=by
 rw [show (2:Int) ^ (52:Int).toNat=4503599627370496 by decide,wrap_u64 _ (by omega) (by omega)];omega
theorem adl (b q:Nat) (hb:b<4503599627370496) (h:q≤2046):bits .or .u64 (b:Int) ((q * 4503599627370496:Nat):Int)=((b+q * 4503599627370496:Nat):Int):=by
 rw [u64_or_nat b _ (by omega) (by omega),Nat.or_comm,show (4503599627370496:Nat)=2 ^ 52 by decide,RH _ _ _ (by simpa using hb),Nat.add_comm]
theorem acC (r:Nat) (hr:r=0∨(4503599627370496≤r∧r<9218868437227405312)) (k:Int) (hk: -2000≤k∧k≤2000) (w:World):bx Tryz.prog 113 [.float .f64 r,.int .i64 k] w fun v w'=>(∃x,v= .float .f64 x∧x<18446744073709551616∧∀f,f<9218868437227405312→rS r k f→x=f)∧Below w.heap.size w w':=by
 have hlt:r<9218868437227405312:=by omega
 have hrr:rung r=r:=FJ (by omega)
 have hc0:(FloatKind.f64.format.order r 0==some .eq)=decide (r=0):=by
  have:=IX r;rw [hrr,C4 (by omega),Bool.not_false,Bool.true_and] at this;exact this
 have hb:=Below.refl w.heap.size w;refine enter Tryz.func113 rfl rfl rfl<|am fun aR=>an rfl<|al aR<|av fun _ bt=>b4<|am fun b8=>ai rfl<|ae (F4 rfl rfl) rfl<|an rfl<|al b8 ?_
 rw [hc0];refine aO rfl (fun d7=>?_) (fun d7=>?_)
 ·
  have oV:=d7;simp only [DZ] at d7;have h0:r=0:=d7;refine am fun dW=>ai rfl<|an rfl<|al dW<|aJ<|co (aX ?_)
  refine bN rfl rfl ?_;exact ⟨_,rfl,⟨r,rfl,by omega,fun f hf hX=>by subst h0;exact (ahh hX).symm⟩,hb⟩
 have oV:=d7;simp only [DZ] at d7;have hn:4503599627370496≤r:=by have:=d7;omega
 have hq2:r / 4503599627370496<2047:=by omega
 have hq4:1≤r / 4503599627370496:=by omega
 refine am fun dU=>ai rfl<|aD FO rfl rfl (D0 r (by omega) _) rfl ?_
 rintro _ w_ ⟨rfl,bV⟩;have bV:=bV.symm;subst bV;rw [hrr,decide_eq_false (by omega)];refine ai rfl<|dy rfl rfl rfl (fun ov=>?_) (fun ov=>?_)
 ·
  have eF:=ov
  cases eF
 refine ai rfl<|ap rfl rfl ov<|aD Tz rfl rfl (NJ r _) rfl ?_
 rintro _ w_ ⟨rfl,bV⟩;have bV:=bV.symm;subst bV;rw [C4 (by omega)];refine ae (bj rfl ov rfl) rfl<|an rfl<|al dU<|aO rfl (fun OB=>?_) (fun OB=>?_)
 ·
  have Xa:=OB
  cases Xa
 refine aU<|cD<|ax bt<|am fun kh=>ai rfl<|aD TA rfl rfl (ac6 r hn hlt _) rfl ?_
 rintro _ w_ ⟨rfl,bV⟩;have bV:=bV.symm;subst bV;refine ai rfl<|ae (cu rfl rfl) rfl<|ae (cu rfl rfl) rfl<|an rfl<|an rfl<|al kh<|am fun iJ=>ai rfl<|ai rfl<|ae (ct rfl rfl (by omega) (by omega)) rfl<|an rfl<|al iJ<|am fun gI=>ai rfl<|ae (sE rY rfl rfl) rfl<|an rfl<|al gI<|am fun k9=>ai rfl<|ai rfl<|ae (bW (F7 rfl rfl (by decide) (by decide)) (aH (MP r))) rfl<|ae (bW (ll oP mg rfl) (aH (AK _ (by omega)))) rfl<|ae (bW (Ag rfl rfl) (aH ((WO _ (by omega)).trans (by rw [Nat.mod_eq_of_lt (show r / 4503599627370496<2048 by omega)])))) rfl<|ae (iQ rfl rfl (by omega) (by omega)) rfl<|ae (ct rfl rfl (by omega) (by omega)) rfl<|an rfl<|al k9<|av fun _ gZ=>am fun kl=>ai rfl<|ae (dL rfl rfl) rfl<|al kl<|aO rfl (fun vS=>?_) (fun vS=>?_)
 ·
  have Xj:=vS;simp only [DZ] at vS;refine am fun lM=>ai rfl<|aD aft rfl rfl (UJ r (by omega) _) rfl ?_
  rintro _ w_ ⟨rfl,bV⟩;have bV:=bV.symm;subst bV;refine an rfl<|al lM<|aJ<|aX<|bN rfl rfl ?_
  exact ⟨_,rfl,⟨_,rfl,by decide,fun f hf hX=>(Decidable.byContradiction fun hc=>by have:=YE hn hlt (fun h=>hc h.symm) hX;have:=vS;omega)⟩,hb⟩
 have Xj:=vS;simp only [DZ] at vS;refine aU<|ax gZ<|av fun _ pp=>am fun kK=>ai rfl<|ae (ed rfl rfl) rfl<|al kK<|aO rfl (fun um=>?_) (fun um=>?_)
 ·
  have Xt:=um;simp only [DZ] at um;refine av fun _ rm=>am fun jv=>ai rfl<|ae (Uy rfl rfl) rfl<|al jv<|aO rfl (fun XG=>?_) (fun XG=>?_)
  ·
   refine am fun nS=>aD Ni rfl rfl (U6 _) rfl ?_;rintro _ w_ ⟨rfl,bV⟩;have bV:=bV.symm;subst bV;refine an rfl<|al nS<|aJ<|aX (aX ?_)
   refine bN rfl rfl ?_;exact ⟨_,rfl,⟨_,rfl,by decide,fun f hf hX=>by have:=Pd hn hlt hf hX;have:=um;omega⟩,hb⟩
  refine aU<|ax rm<|am fun rn=>aD Ni rfl rfl (NI _) rfl ?_
  rintro _ w_ ⟨rfl,bV⟩;have bV:=bV.symm;subst bV;refine an rfl<|al rn<|aJ<|aX<|bN rfl rfl ?_
  exact ⟨_,rfl,⟨_,rfl,by decide,fun f hf hX=>by have:=Pd hn hlt hf hX;have:=um;omega⟩,hb⟩
 have Xt:=um;simp only [DZ] at um;have hE: -52≤((r / 4503599627370496:Nat):Int)+k∧((r / 4503599627370496:Nat):Int)+k≤2046:=by have:=vS;have:=um;omega
 refine aU<|ax pp<|am fun tw=>an rfl<|al tw<|av fun _ nT=>am fun nU=>ai rfl<|ae (dL rfl rfl) rfl<|al nU<|cR (X:=Nat×Nat×Int) (fun (j,m,e)=> [(0,.float .f64 r),(1,.int .i64 e),(6,.int .u64 (r:Int)),(7,.float .f64 m)]) (fun (j,m,e) wr=>Below w.heap.size w wr∧((m=4607182418800017408∧j=0)∨(m=4368491638549381120∧j=53))∧e=((r / 4503599627370496:Nat):Int)+k+j - 1023∧1≤((r / 4503599627370496:Nat):Int)+k+j∧((r / 4503599627370496:Nat):Int)+k+j≤2046) (fun _ Qn=>?_) ?_
 ·
  refine aO rfl (fun mj=>?_) (fun mj=>?_)
  ·
   have Ii:=mj;simp only [DZ] at mj;obtain ⟨j_,m_,e_,kL,Fh,kn⟩:∃(j m:Nat) (e:Int),((m=4607182418800017408∧j=0)∨(m=4368491638549381120∧j=53))∧m=4368491638549381120∧e=((r / 4503599627370496:Nat):Int)+k+j - 1023∧j=53:=⟨53,_,_,.inr ⟨rfl,rfl⟩,rfl,rfl,rfl⟩;refine am fun rq=>ai rfl<|ae (ct rfl rfl (by omega) (by omega)) rfl<|an rfl<|al rq<|aQ<|an rfl<|ay<|a7 Qn (⟨j_,m_,e_⟩) (by repeat first|exact aC|refine aA rfl (by first|rfl|exact aH (by omega)|exact congrArg (Value.float .f64) Fh.symm) ?_) ?_
   exact ⟨hb,kL,by omega,by have:=mj;omega,by have:=mj;omega⟩
  have Ii:=mj;simp only [DZ] at mj;obtain ⟨j_,m_,e_,kL,Fh,kn⟩:∃(j m:Nat) (e:Int),((m=4607182418800017408∧j=0)∨(m=4368491638549381120∧j=53))∧m=4607182418800017408∧e=((r / 4503599627370496:Nat):Int)+k+j - 1023∧j=0:=⟨0,_,_,.inl ⟨rfl,rfl⟩,rfl,rfl,rfl⟩;refine aU<|a7 Qn (⟨j_,m_,e_⟩) (by repeat first|exact aC|refine aA rfl (by first|rfl|exact aH (by omega)|exact congrArg (Value.float .f64) Fh.symm) ?_) ?_
  exact ⟨hb,kL,by omega,by have:=mj;omega,by have:=mj;omega⟩
 rintro ⟨j,m,e⟩ wr Kn;replace Kn:Below w.heap.size w wr∧((m=4607182418800017408∧j=0)∨(m=4368491638549381120∧j=53))∧e=((r / 4503599627370496:Nat):Int)+k+j - 1023∧1≤((r / 4503599627370496:Nat):Int)+k+j∧((r / 4503599627370496:Nat):Int)+k+j≤2046:=Kn;obtain ⟨hb,hj,he,hE1,hE2⟩:=Kn;show Wq _ _ _ _ [(0,.float .f64 r),(1,.int .i64 e),(6,.int .u64 (r:Int)),(7,.float .f64 m)] _;have:=hb.size;refine ax nT<|av fun _ oD=>?_
 obtain ⟨q,hq⟩:∃q:Nat,((r / 4503599627370496:Nat):Int)+k+j=q:=⟨(((r / 4503599627370496:Nat):Int)+k+j).toNat,by omega⟩;obtain ⟨y,hy,hyl,hyV⟩:=acD (x:=r % 4503599627370496+q * 4503599627370496) (by omega) (by omega) hj;refine aQ<|ai rfl<|ae (bW (F3 rfl rfl) (aH (OJ r (by omega)))) rfl<|an rfl<|al oD<|am fun xH=>ai rfl<|ai rfl<|ae (ct rfl rfl (by omega) (by omega)) rfl<|ae (bW (ll mg oP rfl) (aH (show _=(q:Int) by rw [wrap_u64 _ (by omega) (by omega)];omega))) rfl<|ae (bW (NB rfl rfl (by decide) (by decide)) (aH (SS q (by omega)))) rfl<|ae (bW (yB rfl rfl) (aH (adl _ q (Nat.mod_lt _ (by decide)) (by omega)))) rfl<|an rfl<|al xH<|am fun qb=>ai rfl<|ai rfl<|ae (rP qN rfl rfl) rfl ?_
 rw [Int.toNat_natCast];refine ae (F6 rfl rfl (hy)) rfl<|an rfl<|al qb<|aJ<|bN rfl rfl ?_
 exact ⟨_,rfl,⟨y,rfl,hyl,fun f hf hX=>hyV f (fun h=>by have:=YI hX h;omega) hf (by rw [YF (j:=j) hn hlt hX (by omega),hq,Int.toNat_natCast])⟩,hb⟩
theorem U8 (r:Nat) (hr:r=0∨(4503599627370496≤r∧r<9218868437227405312)) (k:Int) (hk: -2000≤k∧k≤2000) (w:World):bx Tryz.prog 88 [.float .f64 r,.int .i64 k] w fun v w'=>(∃x,v= .float .f64 x∧x<18446744073709551616∧∀f,f<9218868437227405312→rS r k f→x=f)∧Below w.heap.size w w':=by
 have hb:=Below.refl w.heap.size w;refine enter Tryz.func88 rfl rfl rfl<|am fun aR=>an rfl<|al aR<|av fun _ bt=>oU rfl rfl<|aU<|ax bt<|am fun b8=>ai rfl<|ai rfl<|aD afi rfl rfl (acC r hr k hk _) rfl ?_
 rintro _ cU ⟨⟨x,rfl,hx,hX⟩,aL⟩;have:=aL.size;have hb:=aZ hb aL;refine an rfl<|al b8<|aJ<|bN rfl rfl ?_
 exact ⟨_,rfl,⟨x,rfl,hx,hX⟩,hb⟩
theorem afY:bB Tryz.prog 82:=⟨_,Tryz.func82,by kernel_rfl,rfl⟩
theorem afZ:bB Tryz.prog 85:=⟨_,Tryz.func85,by kernel_rfl,rfl⟩
theorem af2:bB Tryz.prog 86:=⟨_,Tryz.func86,by kernel_rfl,rfl⟩
theorem af3:bB Tryz.prog 87:=⟨_,Tryz.func87,by kernel_rfl,rfl⟩
theorem af4:bB Tryz.prog 88:=⟨_,Tryz.func88,by kernel_rfl,rfl⟩
theorem af5:bB Tryz.prog 89:=⟨_,Tryz.func89,by kernel_rfl,rfl⟩
theorem af7:bB Tryz.prog 90:=⟨_,Tryz.func90,by kernel_rfl,rfl⟩
noncomputable def zG (s:ao):Value:= .tuple #[.float .f64 ((pf s).getD 0),.int .i64 (if (pf s).isSome=true then 0 else 2)]
theorem zH {s:ao} (h:pf s=none):zG s= .tuple #[.float .f64 0,.int .i64 2]:=by unfold zG;rw [h];rfl
theorem zI {s:ao} {f:Nat} (h:pf s=some f):zG s= .tuple #[.float .f64 f,.int .i64 0]:=by unfold zG;rw [h];rfl
theorem aeN {s:ao} {y:Nat} (hm:sK s y) (h:ec (pX (Lib.hasPrefix s [45]) y)≠s):pf s=none:=De fun f hf ht=>h (hm f hf ht)
theorem aeO {s:ao} {y:Nat} (hy:y<18446744073709551616) (h:ec (pX (Lib.hasPrefix s [45]) y)=s):pf s=some (jk (pX (Lib.hasPrefix s [45]) y)):=
 oL (Cn.of (Oh hy)) ((aeX _).trans h)
theorem Ru {s:ao} {f:Nat} (hf:Cn f) (ht:ec f=s) (h0:Lib.trimPrefix s [45]≠ [110,97,110]) (h1:Lib.trimPrefix s [45]≠ [105,110,102]):
 ∃M e,rung f<9218868437227405312∧Lib.hasPrefix s [45]=dM f∧M<9007199254740992∧-1074≤e∧e≤1024∧V (rung f)=M * 2 ^ (e+1074).toNat∧l4 (Lib.trimPrefix s [45])=(Lib.decDigits M,Lib.itoa e):=by
 cases sJ.of hf ht with
 |nan _ _ hw=>exact absurd hw h0
 |inf _ _ hw=>exact absurd hw h1
 |num M e h hn hw hM he0 he1 hv=>exact ⟨M,e,h,hn,hM,he0,he1,hv,by rw [hw,Yk]⟩
theorem WT {s:ao} (h0:Lib.trimPrefix s [45]≠ [110,97,110]) (h1:Lib.trimPrefix s [45]≠ [105,110,102]) (hb:¬(Gd (l4 (Lib.trimPrefix s [45])).1∧∃k,Lib.atoiAll (l4 (Lib.trimPrefix s [45])).2= .ok k)):pf s=none:=
 De fun f hf ht=>by
  obtain ⟨M,e,_,_,hM,he0,he1,_,hc⟩:=Ru hf ht h0 h1;rw [hc] at hb;exact hb ⟨Gd.dec hM,e,yL (by omega) (by omega)⟩
theorem acY {s:ao} {n r y:Nat} {k:Int} (h0:Lib.trimPrefix s [45]≠ [110,97,110]) (h1:Lib.trimPrefix s [45]≠ [105,110,102]) (hn:Gd (l4 (Lib.trimPrefix s [45])).1→n=em 0 (l4 (Lib.trimPrefix s [45])).1) (hk:Lib.atoiAll (l4 (Lib.trimPrefix s [45])).2= .ok k) (hV:V r=n * 2 ^ 1074) (hX:∀f,f<9218868437227405312→rS r (max (-2000) (min k 2000)) f→y=f):sK s y:=fun f hf ht=>by
 obtain ⟨M,e,hr,hg,hM,he0,he1,hv,hc⟩:=Ru hf ht h0 h1;rw [hc] at hn hk;have e1:n=M:=by rw [hn (Gd.dec hM)];exact (jD M).2.1
 rw [yL (by omega) (by omega)] at hk;have e2:e=k:=by injection hk
 subst e1;subst e2;rw [show max (-2000) (min e 2000)=e by omega] at hX;rw [hX (rung f) hr (YG he0 hV hv),hg,Eh hf.lt,ht]
theorem NN (s:ao) (hs:s.length≤281474976710656) (w:World) (hL:Lb w):bx Tryz.prog 65 [str s] w fun v w'=>v=zG s∧Below w.heap.size w w':=by
 have hw:(Lib.trimPrefix s [45]).length≤281474976710656:=Nat.le_trans (zV s [45]) hs;have hc1:=(OP (Lib.trimPrefix s [45])).1;have hc2:=(OP (Lib.trimPrefix s [45])).2;have hb:=Below.refl w.heap.size w;have ce:=hL;refine enter Tryz.func65 rfl rfl rfl<|am fun aR=>an rfl<|an rfl<|al aR<|am fun b8=>ai rfl<|aD afY rfl rfl (UK s [45] _) rfl ?_
 rintro _ w_ ⟨rfl,bV⟩;have bV:=bV.symm;subst bV;refine ai rfl<|ae (cu rfl rfl) rfl<|ae (cu rfl rfl) rfl<|an rfl<|an rfl<|al b8<|am fun dU=>aD TZ rfl rfl (NL _) rfl ?_
 rintro _ w_ ⟨rfl,bV⟩;have bV:=bV.symm;subst bV;refine an rfl<|al dU<|av fun _ eL=>am fun gH=>ai rfl<|al gH<|b4<|am fun dG=>ae (fl rfl rfl) rfl<|an rfl<|al dG<|cR (X:=Nat) (fun y=> [(0,str s),(5,.bool (Lib.hasPrefix s [45])),(6,.float .f64 y)]) (fun y wr=>Below w.heap.size w wr∧y<18446744073709551616∧sK s y) (fun _ K3=>?_) ?_
 ·
  refine aO rfl (fun np=>?_) (fun np=>?_)
  ·
   have hn0:Lib.trimPrefix s [45]= [110,97,110]:=by simpa using np
   have uP:(9221120237041090561:Nat)<18446744073709551616∧sK s 9221120237041090561:=⟨by decide,acX hn0⟩;refine aU<|a7 K3 (_) (aA rfl (by rfl) (aA rfl (by rfl) (aA rfl (by rfl) (aC)))) ?_
   exact ⟨hb,uP.1,uP.2⟩
  have hn0:Lib.trimPrefix s [45]≠ [110,97,110]:=by simpa using np
  refine am fun gr=>ae (fl rfl rfl) rfl<|an rfl<|al gr<|aO rfl (fun ot=>?_) (fun ot=>?_)
  ·
   have hn1:Lib.trimPrefix s [45]= [105,110,102]:=by simpa using ot
   have uP:(9218868437227405312:Nat)<18446744073709551616∧sK s 9218868437227405312:=⟨by decide,acW hn1⟩;refine aQ<|aD Ni rfl rfl (NI _) rfl ?_
   rintro _ w_ ⟨rfl,bV⟩;have bV:=bV.symm;subst bV;refine an rfl<|ay<|a7 K3 (_) (aA rfl (by rfl) (aA rfl (by rfl) (aA rfl (by rfl) (aC)))) ?_
   exact ⟨hb,uP.1,uP.2⟩
  have hn1:Lib.trimPrefix s [45]≠ [105,110,102]:=by simpa using ot
  refine am fun fD=>ai rfl<|aD afZ rfl rfl (UL _ hw _) rfl ?_
  rintro _ fj ⟨⟨fb,rfl⟩,bk⟩;have:=bk.size;have hb:=aZ hb bk;have hL:=ce.below hb;refine ai rfl<|ae (cu rfl rfl) rfl<|ae (cu rfl rfl) rfl<|ae (cu rfl rfl) rfl<|an rfl<|an rfl<|an rfl<|al fD<|am fun k9=>ai rfl<|aD af2 rfl rfl (Vi _ (by omega) _ hL) rfl ?_
  rintro _ gj ⟨⟨n,e,rfl,hU⟩,bD⟩;have:=bD.size;have hb:=aZ hb bD;have hL:=ce.below hb;refine ai rfl<|ae (cu rfl rfl) rfl<|ae (cu rfl rfl) rfl<|an rfl<|an rfl<|al k9<|am fun mE=>ai rfl<|aD af3 rfl rfl (UG _ (by omega) _ hL) rfl ?_
  rintro _ lW ⟨⟨k,e2,rfl,hA,hB⟩,cm⟩;have:=cm.size;have hb:=aZ hb cm;have hL:=ce.below hb;refine ai rfl<|ae (cu rfl rfl) rfl<|ae (cu rfl rfl) rfl<|an rfl<|an rfl<|al mE<|av fun _ kI=>av fun _ kJ=>cR (X:=Bool) (fun q=> [(0,str s),(5,.bool (Lib.hasPrefix s [45])),(10,.int .u64 (n:Int)),(12,.int .i64 k),(42,.bool q)]) (fun q wr=>Below w.heap.size w wr∧q=(!f6 e|| !f6 e2)) (fun _ Qg=>?_) ?_
  ·
   refine aQ<|ai rfl<|ae (DV (by kernel_rfl) rfl (hU.1)) rfl<|ai rfl<|dy rfl rfl rfl (fun wY=>?_) (fun wY=>?_)
   ·
    refine az rfl rfl wY rfl rfl<|ae (bo rfl wY rfl) rfl<|ay<|a7 Qg ((!f6 e|| !f6 e2)) (by repeat first|exact aC|refine aA rfl (by first|rfl|exact a8 (by have h:=wY;simp at h;simp [h])) ?_) ?_
    exact ⟨hb,rfl⟩
   refine ai rfl<|ap rfl rfl wY<|ae (DV (by kernel_rfl) rfl (hA)) rfl<|ae (bj rfl wY rfl) rfl<|ay<|a7 Qg ((!f6 e|| !f6 e2)) (by repeat first|exact aC|refine aA rfl (by first|rfl|exact a8 (by have h:=wY;simp at h;simp [h])) ?_) ?_
   exact ⟨hb,rfl⟩
  rintro q wr Kc;replace Kc:Below w.heap.size w wr∧q=(!f6 e|| !f6 e2):=Kc;obtain ⟨hb,hq⟩:=Kc;show Wq _ _ _ _ [(0,str s),(5,.bool (Lib.hasPrefix s [45])),(10,.int .u64 (n:Int)),(12,.int .i64 k),(42,.bool q)] _;have hL:=ce.below hb;have:=hb.size;refine ax kJ<|aO rfl (fun Ho=>?_) (fun Ho=>?_)
  ·
   have Hp:=Ho;refine am fun pu=>an rfl<|an rfl<|al pu<|aJ<|aX (aX (co (aX ?_)))
   refine fm rfl rfl rfl ?_
   exact ⟨_,rfl,(zH (WT hn0 hn1 (fun ⟨h1,k',h2⟩=>by
 have h3:=Hp
 rw [hq] at h3
 have h4:f6 e=true:=by
  cases h:f6 e
  · exact absurd h1 (hU.2.2.1 h)
  · rfl
 have h5:f6 e2=true:=by
  rcases hB with h|h
  · exact h.2
  · exact absurd h2 (h.1 k')
 rw [h4,h5] at h3;cases h3))).symm,hb⟩
  have Hp:=Ho;refine aU<|ax kI ?_
  have hok:f6 e=true∧f6 e2=true:=by have h2:=Hp;rw [hq] at h2;simpa using h2
  have hk:Lib.atoiAll (l4 (Lib.trimPrefix s [45])).2= .ok k:=by rcases hB with h|h;exact h.1;(have:=hok.2;rw [h.2] at this;cases this)
  obtain ⟨r,hr,hr2,hV⟩:=YR (hU.2.1 hok.1).1;refine aQ<|ai rfl<|ae (bW (ag6 oP Tryz.underlying23 rfl) (congrArg (Value.float .f64) hr)) rfl<|ai rfl<|ae (Ah rfl rfl) rfl<|ae (qy rfl rfl) rfl<|aD af4 rfl rfl (U8 r hr2 _ (by omega) _) rfl ?_
  rintro _ lX ⟨⟨y,rfl,hy,hX⟩,cy⟩;have:=cy.size;have hb:=aZ hb cy;have hL:=ce.below hb;have uP:y<18446744073709551616∧sK s y:=⟨hy,acY hn0 hn1 (hU.2.1 hok.1).2 hk hV hX⟩;refine an rfl<|ay<|a7 K3 (_) (aA rfl (by rfl) (aA rfl (by rfl) (aA rfl (by rfl) (aC)))) ?_
  exact ⟨hb,uP.1,uP.2⟩
 rintro y wr Kj;replace Kj:Below w.heap.size w wr∧y<18446744073709551616∧sK s y:=Kj;obtain ⟨hb,hy,hm⟩:=Kj;show Wq _ _ _ _ [(0,str s),(5,.bool (Lib.hasPrefix s [45])),(6,.float .f64 y)] _;have hL:=ce.below hb;have:=hb.size;refine cD<|ax eL<|av fun _ mG=>am fun rp=>ai rfl<|al rp<|cR (X:=Unit) (fun u_=> [(0,str s),(6,.float .f64 (pX (Lib.hasPrefix s [45]) y))]) (fun u_ wr=>Below w.heap.size w wr) (fun _ Qp=>?_) ?_
 ·
  refine aO rfl (fun HK=>?_) (fun HK=>?_)
  ·
   have HL:=HK;refine aQ<|ai rfl<|ae (ahb rfl) rfl<|an rfl<|ay<|a7 Qp (()) (by repeat first|exact aC|refine aA rfl (by first|rfl|(exact congrArg (Value.float .f64) (by rw [HL];rfl))) ?_) ?_
   exact hb
  have HL:=HK;refine aU<|a7 Qp (()) (by repeat first|exact aC|refine aA rfl (by first|rfl|(exact congrArg (Value.float .f64) (by rw [HL];rfl))) ?_) ?_
  exact hb
 rintro u_ wr rk;replace rk:Below w.heap.size w wr:=rk;have hb:=rk;show Wq _ _ _ _ [(0,str s),(6,.float .f64 (pX (Lib.hasPrefix s [45]) y))] _;have hL:=ce.below hb;have:=hb.size;refine ax mG<|av fun _ tz=>am fun rr=>ai rfl<|aD af5 rfl rfl (VO _ (Oh hy) _ hL) rfl ?_
 rintro _ mh ⟨rfl,cA⟩;have:=cA.size;have hb:=aZ hb cA;have hL:=ce.below hb;refine ai rfl<|ae (yA rfl rfl) rfl<|al rr<|aO rfl (fun H1=>?_) (fun H1=>?_)
 ·
  refine am fun KT=>an rfl<|an rfl<|al KT<|aJ<|aX<|fm rfl rfl rfl ?_
  exact ⟨_,rfl,(zH (aeN hm (by simpa using H1))).symm,hb⟩
 refine aU<|ax tz<|am fun py=>ai rfl<|aD af7 rfl rfl (UH _ _) rfl ?_
 rintro _ w_ ⟨rfl,bV⟩;have bV:=bV.symm;subst bV;refine an rfl<|an rfl<|al py<|aJ<|fm rfl rfl rfl ?_
 exact ⟨_,rfl,(zI (aeO hy (by simpa using H1))).symm,hb⟩
end Go.Proofs.YtjdjliiolchciaaGreatDoor
