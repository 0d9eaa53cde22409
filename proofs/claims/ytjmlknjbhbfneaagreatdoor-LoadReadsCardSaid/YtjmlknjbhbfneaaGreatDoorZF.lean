import Derived.Test.YtjmlknjbhbfneaaGreatDoorZE
import Derived.Lib.SlTrimSet
import Derived.Lib.ParseIntBTie
import Derived.Shelf.Strings.SlTrimAscii
import Derived.Lib.IndexLaws
import Derived.Lib.AtoiAllCases
namespace Go.Proofs.YtjmlknjbhbfneaaGreatDoor
open Go.RowKit Go.Bw Go.Bw.Fl
set_option linter.unusedVariables false
set_option linter.unusedSimpArgs false
def nN:al:= [48,49,50,51,52,53,54,55,56,57]
def iE (s:al):Nat:=s.length - (Lib.trimLeftS s nN).length
def lead (s:al):Nat:=iE (Lib.trimPrefix s [45])+(s.length - (Lib.trimPrefix s [45]).length)
def gM (s:al):Option Int:=match Lib.parseIntB 64 s with| .ok v=>some v|_=>none
def lE:al:= [110,117,108,108]
def jq:al:= [102,97,108,115,101]
def jr:al:= [116,114,117,101]
def fS:List (al):= [[110,97,110],[105,110,102],[45,105,110,102]]
def pF (pf:al→Option Nat) (s:al) (k:Nat):Nat→Option (bW×Nat)
 |0=>none
 |j+1=>match pf (s.take (k+j+1)) with
  |some f=>some (⟨3,0,f,[]⟩,k+j+1)
  |none=>pF pf s k j
def cV (s:al):Nat:=if s[lead s+1]? =some 45 then lead s+2 else lead s+1
def gU (s:al):Nat:=min (iE (s.drop (cV s))) 4
def fD (pf:al→Option Nat) (s:al):Option (bW×Nat):=if s[lead s]? =some 112 then pF pf s (cV s) (gU s) else none
def fV (s:al):Nat→Option (bW×Nat)
 |0=>none
 |j+1=>match gM (s.take (j+1)) with
  |some v=>if Lib.itoa v=s.take (j+1) then some (⟨2,v,0,[]⟩,j+1) else fV s j
  |none=>fV s j
def bZ (pf:al→Option Nat) (uq:al→al×Nat) (s:al):Option (bW×Nat):=
 if Lib.hasPrefix s [39]=true then (if (uq s).2=0 then none else some (⟨4,0,0,(uq s).1⟩,(uq s).2))
 else if Lib.hasPrefix s lE=true then some (dh,4)
 else if Lib.hasPrefix s jq=true then some (hY false,5)
 else if Lib.hasPrefix s jr=true then some (hY true,4)
 else match fS.find? (fun x=>Lib.hasPrefix s x) with
  |some x=>some (⟨3,0,(pf x).getD 0,[]⟩,x.length)
  |none=>match fD pf s with
   |some r=>some r
   |none=>fV s (min (lead s) 20)
def Mq (r:Option (bW×Nat)):Value:= .tuple #[((r.map (·.1)).getD dh).enc,.int .i64 (((r.map (·.2)).getD 0:Nat):Int),.bool r.isSome]
theorem L1 (s:al):iE s≤s.length:=Nat.sub_le _ _
theorem aga (s c:al):(Lib.trimLeftS s c).length≤s.length:=(List.dropWhile_suffix _).sublist.length_le
theorem zx (s c:al):(Lib.trimPrefix s c).length≤s.length:=by unfold Lib.trimPrefix;split<;>simp
theorem Df (s:al):lead s≤s.length:=by unfold lead;have:=L1 (Lib.trimPrefix s [45]);have:=zx s [45];omega
theorem aeu {s:al} (h:Lib.hasPrefix s jq=true):Lib.hasPrefix s lE=false∧Lib.hasPrefix s jr=false:=by
 cases s with
 |nil=>exact absurd h (by decide)
 |cons c r=>simp [Lib.hasPrefix,lE,jq,jr,List.isPrefixOf] at h ⊢;obtain ⟨h1,_⟩:=h;subst h1;simp
theorem pre_true {s:al} (h:Lib.hasPrefix s jr=true):Lib.hasPrefix s lE=false∧Lib.hasPrefix s jq=false:=by
 cases s with
 |nil=>exact absurd h (by decide)
 |cons c r=>simp [Lib.hasPrefix,lE,jq,jr,List.isPrefixOf] at h ⊢;obtain ⟨h1,_⟩:=h;subst h1;simp
def pn:List (al×Value):= [(lE,dh.enc),(jq,(hY false).enc),(jr,(hY true).enc)]
theorem ahO {pf uq} {s:al} (hq:Lib.hasPrefix s [39]=false) {i:Nat} {p:al×Value} (hp:pn[i]? =some p) (h:Lib.hasPrefix s p.1=true):∃v,p.2=bW.enc v∧bZ pf uq s=some (v,p.1.length):=by
 have hq':¬Lib.hasPrefix s [39]=true:=by rw [hq];simp
 match i,hp with
 |0,hp=>cases hp;exact ⟨_,rfl,by unfold bZ;rw [if_neg hq',if_pos h];rfl⟩
 |1,hp=>cases hp;exact ⟨_,rfl,by unfold bZ;rw [if_neg hq',if_neg (by rw [(aeu h).1];simp),if_pos h];rfl⟩
 |2,hp=>cases hp;exact ⟨_,rfl,by unfold bZ;rw [if_neg hq',if_neg (by rw [(pre_true h).1];simp),if_neg (by rw [(pre_true h).2];simp),if_pos h];rfl⟩
theorem ahP {pf uq} {s:al} (hq:Lib.hasPrefix s [39]=false) (h:∀(i:Nat) (p:al×Value),pn[i]? =some p→Lib.hasPrefix s p.1=false):
 bZ pf uq s=match fS.find? (fun x=>Lib.hasPrefix s x) with
 |some x=>some (⟨3,0,(pf x).getD 0,[]⟩,x.length)
 |none=>match fD pf s with
  |some r=>some r
  |none=>fV s (min (lead s) 20):=by
 have h0:=h 0 _ rfl;have h1:=h 1 _ rfl;have h2:=h 2 _ rfl
 unfold bZ
 rw [if_neg (by rw [hq];simp),if_neg (by rw [h0];simp),if_neg (by rw [h1];simp),if_neg (by rw [h2];simp)]
theorem ahS {i:Nat} {p:al×Value} (hp:pn[i]? =some p):∃v:bW,p.2=v.enc∧p.1.length≤5:=by
 match i,hp with
 |0,hp=>cases hp;exact ⟨_,rfl,by decide⟩
 |1,hp=>cases hp;exact ⟨_,rfl,by decide⟩
 |2,hp=>cases hp;exact ⟨_,rfl,by decide⟩
theorem ahR {s:al} {seen:List Nat} {i:Nat} {q:al×Value} (h:∀(i:Nat) (p:al×Value),i∈seen→pn[i]? =some p→Lib.hasPrefix s p.1=false) (hq:pn[i]? =some q) (hn:Lib.hasPrefix s q.1=false):
 ∀(j:Nat) (p:al×Value),j∈seen++ [i]→pn[j]? =some p→Lib.hasPrefix s p.1=false:=by
 intro j p hj hp
 rcases List.mem_append.1 hj with hj|hj
 · exact h j p hj hp
 · cases List.mem_singleton.1 hj;rw [hq] at hp;cases hp;exact hn
theorem afT {s:al} {k:Nat} (h:∀j,j<k→Lib.hasPrefix s (fS.getD j [])=false) (hn:Lib.hasPrefix s (fS.getD k [])=false):∀j,j<k+1→Lib.hasPrefix s (fS.getD j [])=false:=fun j hj=>by
 by_cases e:j<k
 · exact h j e
 · rw [show j=k by omega];exact hn
theorem ahx {pr:al→Bool} {k:Nat} (hk:k<3) (h0:∀j,j<k→pr (fS.getD j [])=false) (h:pr (fS.getD k [])=true):fS.find? pr=some (fS.getD k []):=by
 match k,hk with
 |0,_=>show List.find? pr [_,_,_]=_;rw [List.find?_cons,show pr [110,97,110]=true from h];rfl
 |1,_=>show List.find? pr [_,_,_]=_;rw [List.find?_cons,show pr [110,97,110]=false from h0 0 (by omega),List.find?_cons,show pr [105,110,102]=true from h];rfl
 |2,_=>show List.find? pr [_,_,_]=_;rw [List.find?_cons,show pr [110,97,110]=false from h0 0 (by omega),List.find?_cons,show pr [105,110,102]=false from h0 1 (by omega),List.find?_cons,show pr [45,105,110,102]=true from h];rfl
theorem ahy {pr:al→Bool} (h0:∀j,j<3→pr (fS.getD j [])=false):fS.find? pr=none:=by
 show List.find? pr [_,_,_]=_;rw [List.find?_cons,show pr [110,97,110]=false from h0 0 (by omega),List.find?_cons,show pr [105,110,102]=false from h0 1 (by omega),List.find?_cons,show pr [45,105,110,102]=false from h0 2 (by omega)];rfl
theorem ahw {k:Nat} {v:Value} (hk:k<3) (h: [str [110,97,110],str [105,110,102],str [45,105,110,102]][k]? =some v):v=str (fS.getD k [])∧(fS.getD k []).length≤4∧fS.getD k []∈fS:=by
 match k,hk with
 |0,_=>cases h;exact ⟨rfl,by decide,by decide⟩
 |1,_=>cases h;exact ⟨rfl,by decide,by decide⟩
 |2,_=>cases h;exact ⟨rfl,by decide,by decide⟩
theorem yP (s:al) (h:s[lead s]? =some 112):lead s<cV s∧cV s≤s.length∧lead s<s.length:=by
 have h1:lead s<s.length:=(List.getElem?_eq_some_iff.1 h).1;unfold cV;split
 · rename_i h2;have:=(List.getElem?_eq_some_iff.1 h2).1;omega
 · omega
theorem EU (s:al) (h:s[lead s]? =some 112):gU s≤4∧cV s+gU s≤s.length:=by
 have h1:=yP s h;have h2:=L1 (s.drop (cV s));rw [List.length_drop] at h2;unfold gU;omega
theorem OP {pf:al→Option Nat} {s:al} {K j:Nat} (h:(pf (s.take (K+j))).isSome=true) (hj:0<j):pF pf s K j=some (⟨3,0,(pf (s.take (K+j))).getD 0,[]⟩,K+j):=by
 obtain ⟨j',rfl⟩:∃j',j=j'+1:=⟨j - 1,by omega⟩;obtain ⟨f,hf⟩:=Option.isSome_iff_exists.1 h;rw [hf];show (match pf (s.take (K+j'+1)) with|some f=>some ((⟨3,0,f,[]⟩:bW),K+j'+1)|none=>pF pf s K j')=_;rw [show pf (s.take (K+j'+1))=some f from hf];rfl
theorem Zi {pf:al→Option Nat} {s:al} {K j:Nat} (h:pf (s.take (K+j))=none) (hj:0<j):pF pf s K j=pF pf s K (j - 1):=by
 obtain ⟨j',rfl⟩:∃j',j=j'+1:=⟨j - 1,by omega⟩;show (match pf (s.take (K+j'+1)) with|some f=>some ((⟨3,0,f,[]⟩:bW),K+j'+1)|none=>pF pf s K j')=_;rw [show pf (s.take (K+j'+1))=none from h];rfl
theorem Zj {s:al} {j:Nat} {v:Int} (h:gM (s.take j)=some v) (h2:(Lib.itoa v==s.take j)=true) (hj:0<j):fV s j=some (⟨2,v,0,[]⟩,j):=by
 obtain ⟨j',rfl⟩:∃j',j=j'+1:=⟨j - 1,by omega⟩;unfold fV;rw [h];exact if_pos (by simpa using h2)
theorem Zk {s:al} {j:Nat} (h:gM (s.take j)=none) (hj:0<j):fV s j=fV s (j - 1):=by
 obtain ⟨j',rfl⟩:∃j',j=j'+1:=⟨j - 1,by omega⟩
 conv=>lhs;unfold fV
 rw [h];rfl
theorem Zl {s:al} {j:Nat} {v:Int} (h:gM (s.take j)=some v) (h2:(Lib.itoa v==s.take j)=false) (hj:0<j):fV s j=fV s (j - 1):=by
 obtain ⟨j',rfl⟩:∃j',j=j'+1:=⟨j - 1,by omega⟩
 conv=>lhs;unfold fV
 rw [h];exact if_neg (by simpa using h2)
theorem afI {o:Option Nat} (h:(if o.isSome=true then (0:Int) else 2)=0):o.isSome=true:=by
 cases o
 · simp at h
 · rfl
theorem ad0 {o:Option Nat} (h:¬(if o.isSome=true then (0:Int) else 2)=0):o=none:=by
 cases o
 · rfl
 · simp at h
theorem acc {s:al} {e:Nat} (h:s[lead s]? =some 112) (he:lead s<e):(112:UInt8)∈s.take e:=by
 refine List.mem_iff_getElem?.2 ⟨lead s,?_⟩;rw [List.getElem?_take,if_pos he,h]
open Go.RowKit Go.Bw Go.Bw.Fl Go.Shelf
theorem bQ:One Tryz.prog 9:=⟨_,bq,rfl,by kernel_rfl⟩
theorem eo:(Tryz.prog.info? 9).map (·.size)=some 1:=by kernel_rfl
theorem ags:bC Tryz.prog 137:=⟨_,Tryz.func137,by kernel_rfl,rfl⟩
theorem Tz:bC Tryz.prog 138:=⟨_,Tryz.func138,by kernel_rfl,rfl⟩
theorem TA:bC Tryz.prog 139:=⟨_,Tryz.func139,by kernel_rfl,rfl⟩
theorem TB:bC Tryz.prog 140:=⟨_,Tryz.func140,by kernel_rfl,rfl⟩
theorem agt:bC Tryz.prog 141:=⟨_,Tryz.func141,by kernel_rfl,rfl⟩
theorem TP:bC Tryz.prog 40:=⟨_,Tryz.func40,by kernel_rfl,rfl⟩
theorem DS:bC Tryz.prog 41:=⟨_,Tryz.func41,by kernel_rfl,rfl⟩
theorem TX:bC Tryz.prog 86:=⟨_,Tryz.func86,by kernel_rfl,rfl⟩
theorem MX:bC Tryz.prog 89:=⟨_,Tryz.func89,by kernel_rfl,rfl⟩
theorem VW (s:al) (w:World):be Tryz.prog 40 [str s,str nN] w fun v w'=>v=str (Lib.trimLeftS s nN)∧Below w.heap.size w w':=
 Calls.mono (Any.strings_TrimLeft_laid NR (by kernel_rfl) ⟨s.toArray⟩ ⟨nN.toArray⟩ w (by decide) (ascii_of_all (by decide))) fun e w' ⟨h1,h2⟩=>⟨_,h1,rfl,h2⟩
theorem OL (s:al) (hs:s.length≤281474976710656) (w:World):be Tryz.prog 139 [str s] w fun v w'=>v= .int .i64 (iE s:Nat)∧Below w.heap.size w w':=by
 have hl:=aga s nN;have hb:=Below.refl w.heap.size w;refine enter Tryz.func139 rfl rfl rfl<|ao fun aZ=>am rfl<|an aZ<|ao fun bJ=>ai rfl<|ah (dF bq (by omega) rfl) rfl<|ai rfl<|aS TP rfl rfl (VW s _) rfl ?_
 rintro _ cq ⟨rfl,bm⟩;have:=bm.size;have hb:=az hb bm;refine ah (dF bq (by omega) rfl) rfl<|ah (gk rfl rfl (by omega) (by omega)) rfl<|am rfl<|an bJ<|aK<|bj rfl rfl ?_
 exact ⟨_,rfl,int_eq (by unfold iE;omega),hb⟩
theorem Of (w:World) (t:ByteArray):Below w.heap.size w (Lib.bytesWorld w 5 t):=by
 refine ((Below.refl _ _).drew.alloc (Nat.le_refl _) (.cells (Lib.bytesCells w 5 t) 5)).trans ?_;unfold Lib.bytesWorld World.freeze;rw [if_neg (by decide)];refine ⟨rfl,rfl,rfl,by simp,fun k hk=>?_⟩;show ((w.drew.alloc _).heap.modify _ _)[k]? =_;rw [Array.getElem?_modify,if_neg (by have hk':k<w.heap.size:=hk;show w.heap.size≠k;omega)]
def Vh (s:al) (v:Value):Prop:=∃n e,v= .tuple #[.int .i64 n,e]∧zM e∧((gM s=some n∧fz e=true)∨(gM s=none∧fz e=false))
theorem Vu (s:al) (hs:s.length≤281474976710656) (w:World) (hL:Lb w):be Tryz.prog 141 [str s,.int .i64 10,.int .i64 64] w fun v w'=>Vh s v∧Below w.heap.size w w':=by
 have hs':(⟨s.toArray⟩:ByteArray).size≤281474976710656:=by rw [mG];exact hs
 rcases h:Lib.parseIntB 64 s with v|_|_
 · exact Calls.mono (Tryz.strconv_ParseInt_10_at64_ok ⟨s.toArray⟩ (by omega) v h w) fun e w' ⟨h1,h2⟩=>⟨_,h1,⟨v,_,rfl,.inl rfl,.inl ⟨by unfold gM;rw [h],rfl⟩⟩,by
    rcases h2 with rfl|⟨t,rfl⟩
    · exact Below.refl _ _
    · exact Of w t⟩
 · obtain ⟨tp,p,hv⟩:=hL.syn
   exact Calls.mono (Any.strconv_ParseInt_10_at64_syntax_var GW ⟨s.toArray⟩ hs' h tp p w hv) fun e w' ⟨N,h1,_,_,h2⟩=>⟨_,h1,⟨0,_,rfl,.inr ⟨_,_,rfl⟩,.inr ⟨by unfold gM;rw [h],rfl⟩⟩,h2⟩
 · obtain ⟨tp,p,hv⟩:=hL.rng
   exact Calls.mono (Any.strconv_ParseInt_10_at64_range_var GW ⟨s.toArray⟩ hs' h tp p w hv) fun e w' ⟨N,h1,_,_,h2⟩=>⟨_,h1,⟨_,_,rfl,.inr ⟨_,_,rfl⟩,.inr ⟨by unfold gM;rw [h],rfl⟩⟩,h2⟩
theorem Sb {s:al} {v:Int} (h:gM s=some v): -9223372036854775808≤v∧v≤9223372036854775807:=by
 unfold gM at h
 split at h
 · rename_i u hu;cases h;have:=Lib.parseIntB_bounds hu;have e:(2:Nat) ^ (64 - 1)=9223372036854775808:=by decide
   rw [e] at this;omega
 · cases h
theorem adU {s:al} {n:Int} {e:Value} (h:(gM s=some n∧fz e=true)∨(gM s=none∧fz e=false)) (he:fz e=true):gM s=some n:=by
 rcases h with h|h
 · exact h.1
 · rw [h.2] at he;cases he
theorem adT {s:al} {n:Int} {e:Value} (h:(gM s=some n∧fz e=true)∨(gM s=none∧fz e=false)) (he:fz e=false):gM s=none:=by
 rcases h with h|h
 · rw [h.2] at he;cases he
 · exact h.1
structure Np (pf:al→Option Nat) (uq:al→al×Nat) (s:al):Prop where
 unq:Lib.hasPrefix s [39]=true→∀w,Lb w→be Tryz.prog 137 [str s] w fun v w'=>v= .tuple #[str (uq s).1,.int .i64 ((uq s).2:Nat)]∧Below w.heap.size w w'
 word:∀x,x∈fS→Lib.hasPrefix s x=true→∀w,Lb w→be Tryz.prog 138 [str x] w fun v w'=>v= .tuple #[.float .f64 ((pf x).getD 0),.int .i64 (if (pf x).isSome=true then 0 else 2)]∧Below w.heap.size w w'
 prs:∀e,(112:UInt8)∈s.take e→∀w,Lb w→be Tryz.prog 138 [str (s.take e)] w fun v w'=>v= .tuple #[.float .f64 ((pf (s.take e)).getD 0),.int .i64 (if (pf (s.take e)).isSome=true then 0 else 2)]∧Below w.heap.size w w'
theorem adv (s:al):((iE (Lib.trimPrefix s [45]):Nat):Int)+(s.length:Int) - ((Lib.trimPrefix s [45]).length:Int)=(lead s:Nat):=by
 have:=zx s [45];unfold lead;omega
theorem Eo {s:al} {n:Nat} (h:n<s.length) {x:Int} (hx:x=((s.getD n 0).toNat:Int)) (c:UInt8):(x==(c.toNat:Int))=decide (s[n]? =some c):=by
 rw [Bool.eq_iff_iff,beq_iff_eq,decide_eq_true_eq,hx,List.getElem?_eq_getElem h];simp only [List.getD,List.getElem?_eq_getElem h,Option.getD_some,Option.some.injEq]
 constructor
 · intro e;exact UInt8.toNat_inj.1 (by omega)
 · intro e;rw [e]
set_option maxHeartbeats 2000000 in
theorem VI (pf:al→Option Nat) (uq:al→al×Nat) (s:al) (hs:s.length≤281474976710656) (hC:Np pf uq s) (w:World) (hL:Lb w):be Tryz.prog 96 [str s] w fun v w'=>v=Mq (bZ pf uq s)∧Below w.heap.size w w':=by
 have hld:=Df s;have htp:=zx s [45];have hnd:=L1 (Lib.trimPrefix s [45]);have hb:=Below.refl w.heap.size w;have bw:=hL;refine enter Tryz.func96 rfl rfl rfl<|ao fun aZ=>el (z:=nf) (by kernel_rfl) rfl ?_
 rintro aX js iB aj cF;have:=cF.size;have hb:=az hb cF;have hL:=bw.below hb;have:=aj.lt;refine am rfl<|am rfl<|an aZ<|ax fun _ cT=>ao fun ex=>ai rfl<|aS DS rfl rfl (zL s _ _) rfl ?_
 rintro _ w_ ⟨rfl,bf⟩;have bf:=bf.symm;subst bf;refine an ex<|aH rfl (fun dY=>?_) (fun dY=>?_)
 ·
  have jw:=dY;refine ao fun eZ=>ai rfl<|aS ags rfl rfl (hC.unq jw _ hL) rfl ?_
  rintro _ ft ⟨rfl,bp⟩;have:=bp.size;have hb:=az hb bp;have hL:=bw.below hb;have aj:=aq.below aj bp;refine ai rfl<|ah (bP rfl rfl) rfl<|ah (bP rfl rfl) rfl<|am rfl<|am rfl<|an eZ<|ax fun _ dL=>ao fun gJ=>ai rfl<|ah (bA rfl rfl) rfl<|an gJ<|aH rfl (fun u6=>?_) (fun u6=>?_)
  ·
   have XF:=u6;simp only [DZ] at u6;refine ao fun nV=>ah (fe (z:=j2) (pl:=j3) (cs:= [_,_,_,_]) de (by kernel_rfl) (by kernel_rfl) rfl rfl rfl) rfl<|cH (by kernel_rfl) rfl rfl aj rfl rfl ?_
   rintro d3 aj bI;have:=bI.size;have hb:=bY hb bI hb.size (by omega);have hL:=bw.below hb;refine am rfl<|am rfl<|an nV<|aK<|aQ (aQ ?_)
   refine fc (rs:= [.cell 2 96,.tmp 3,.tmp 4]) (vs:= [_,_,_]) rfl (.cell rfl (e9 de (by kernel_rfl) (fun j u hu=>aj.at hu)) (.tmp rfl (.tmp rfl .nil))) ?_;exact ⟨_,rfl,by unfold bZ;rw [if_pos jw,if_pos (by have:=u6;omega)];rfl,hb⟩
  have XF:=u6;simp only [DZ] at u6;refine aU<|aw dL<|ao fun kU=>ai rfl<|ah (fe (z:=j2) (pl:=j3) (cs:= [_,_,_,_]) de (by kernel_rfl) (by kernel_rfl) rfl rfl rfl) rfl<|ai rfl<|cH (by kernel_rfl) rfl rfl aj rfl rfl ?_
  rintro ky aj cd;have:=cd.size;have hb:=bY hb cd hb.size (by omega);have hL:=bw.below hb;refine am rfl<|am rfl<|an kU<|aK<|aQ<|fc (rs:= [.cell 2 96,.tmp 3,.tmp 4]) (vs:= [_,_,_]) rfl (.cell rfl (e9 de (by kernel_rfl) (fun j u hu=>aj.at hu)) (.tmp rfl (.tmp rfl .nil))) ?_
  exact ⟨_,rfl,by unfold bZ;rw [if_pos jw,if_neg (by have:=u6;omega)];rfl,hb⟩
 have jw:=dY;have hq39:Lib.hasPrefix s [39]=false:=jw;refine aU<|aw cT<|ax fun _ jh=>ao fun kV=>yp rfl ?_
 rintro E0 ajk aix acw Lx;have:=Lx.size;have hb:=az hb Lx;have hL:=bw.below hb;have aj:=aq.below aj Lx;have gq:=acw;have:=gq.lt;refine ah (fe (z:=j2) (pl:=j3) (cs:= [_,_,_,_]) de (by kernel_rfl) (by kernel_rfl) rfl rfl rfl) rfl<|zV Tryz.underlying178 bq rfl rfl rfl gq (by rfl) ?_
 rintro ajm acx Lg;have:=Lg.size;have hb:=bY hb Lg hb.size (by omega);have hL:=bw.below hb;have aj:=aj.over Lg (by omega);have gq:=acx;refine aS MX rfl rfl (MP _ _) rfl ?_;rintro _ gu ⟨rfl,bG⟩;have:=bG.size;have hb:=az hb bG;have hL:=bw.below hb;have aj:=aq.below aj bG;have gq:=Mp.below gq bG;refine zV Tryz.underlying178 bq rfl rfl rfl gq (by rfl) ?_;rintro ajn acy Lh;have:=Lh.size;have hb:=bY hb Lh hb.size (by omega);have hL:=bw.below hb;have aj:=aj.over Lh (by omega);have gq:=acy;refine aS MX rfl rfl (MP _ _) rfl ?_;rintro _ hZ ⟨rfl,ck⟩;have:=ck.size;have hb:=az hb ck;have hL:=bw.below hb;have aj:=aq.below aj ck;have gq:=Mp.below gq ck;refine zV Tryz.underlying178 bq rfl rfl rfl gq (by rfl) ?_;rintro ajo acz Li;have:=Li.size;have hb:=bY hb Li hb.size (by omega);have hL:=bw.below hb;have aj:=aj.over Li (by omega);have gq:=acz;refine ai rfl<|W5 Tryz.underlying178 rfl gq rfl ?_
 rintro eF Na Lj acA jn;have:=jn.size;have hb:=az hb jn;have hL:=bw.below hb;have aj:=aq.below aj jn;have gq:=Mp.below gq jn;have nT:=acA;have:=nT.lt;refine an kV<|br<|cU (X:=List Nat) (fun seen=> [(0,str s),(2,.pointer (some ⟨aX,0,none⟩)),(3,.int .i64 0),(4,.bool false),(38,.pointer (some ⟨eF,0,none⟩))]) (fun seen wr=>Below w.heap.size w wr∧aq wr aX 96 dh.cells∧Mp wr E0 pn∧It wr eF E0 pn.length seen∧(∀(i:Nat) (p:al×Value),i∈seen→pn[i]? =some p→Lib.hasPrefix s p.1=false)) (fun seen=>FF 3 seen) ([]) ?_ ?_ ?_
 · exact by repeat first|exact aB|refine au rfl (by first|rfl|exact int_eq (by omega)) ?_
 · exact ⟨hb,aj,gq,nT,fun _ _ h=>by cases h⟩
 rintro seen wr J7 _ abX;replace J7:Below w.heap.size w wr∧aq wr aX 96 dh.cells∧Mp wr E0 pn∧It wr eF E0 pn.length seen∧(∀(i:Nat) (p:al×Value),i∈seen→pn[i]? =some p→Lib.hasPrefix s p.1=false):=J7;obtain ⟨hb,aj,gq,nT,hsn⟩:=J7;show Wc _ _ _ _ _ [(0,str s),(2,.pointer (some ⟨aX,0,none⟩)),(3,.int .i64 0),(4,.bool false),(38,.pointer (some ⟨eF,0,none⟩))] _;have hL:=bw.below hb;have:=hb.size;have:=aj.lt;have:=gq.lt;have:=nT.lt;have hll1:=nT.lt;have hll2:=gq.lt;have hll3:=aj.lt;refine ao fun f5=>W2 rfl nT gq rfl (fun ab9=>?_) ?_
 ·
  refine ah (bP rfl rfl) rfl<|an f5<|ax fun _ mh=>pt rfl rfl<|cN<|bD<|bD<|cO<|aw jh<|ax fun _ jj=>ao fun gd=>?_
  have hrd:bZ pf uq s=match fS.find? (fun x=>Lib.hasPrefix s x) with
   |some x=>some (⟨3,0,(pf x).getD 0,[]⟩,x.length)
   |none=>match fD pf s with
    |some r=>some r
    |none=>fV s (min (lead s) 20):=ahP hq39 (fun i p hp=>hsn i p (ab9 i (List.getElem?_eq_some_iff.1 hp).1) hp)
  refine dX (sz:=1) (vs:= [_,_,_]) bK (by kernel_rfl) rfl rfl rfl rfl rfl rfl ?_;rintro gc kw dg cD dW;have:=dW.size;have hb:=az hb dW;have hL:=bw.below hb;have aj:=aq.below aj dW;have:=cD.lt;refine ah (cG bK (by omega) rfl) rfl<|ai rfl<|an gd<|br<|cU (X:=Nat) (fun k=> [(0,str s),(2,.pointer (some ⟨aX,0,none⟩)),(3,.int .i64 0),(4,.bool false),(50,.slice (some ⟨gc,0,none⟩) 3 3),(51,.int .i64 3),(52,.int .i64 (k:Int))]) (fun k wr=>k≤3∧Below w.heap.size w wr∧aq wr aX 96 dh.cells∧aq wr gc 9 [str [110,97,110],str [105,110,102],str [45,105,110,102]]∧(∀j,j<k→Lib.hasPrefix s (fS.getD j [])=false)) (fun k=>3 - k) (0) ?_ ?_ ?_
  · exact by repeat first|exact aB|refine au rfl (by first|rfl|exact int_eq (by omega)) ?_
  · exact ⟨by omega,hb,aj,cD,fun j hj=>by omega⟩
  rintro k wr xa _ abZ;replace xa:k≤3∧Below w.heap.size w wr∧aq wr aX 96 dh.cells∧aq wr gc 9 [str [110,97,110],str [105,110,102],str [45,105,110,102]]∧(∀j,j<k→Lib.hasPrefix s (fS.getD j [])=false):=xa;obtain ⟨hk,hb,aj,cD,hsw⟩:=xa;show Wc _ _ _ _ _ [(0,str s),(2,.pointer (some ⟨aX,0,none⟩)),(3,.int .i64 0),(4,.bool false),(50,.slice (some ⟨gc,0,none⟩) 3 3),(51,.int .i64 3),(52,.int .i64 (k:Int))] _;have hL:=bw.below hb;have:=hb.size;have:=aj.lt;have:=cD.lt;refine ao fun xr=>ah (cg rfl rfl) rfl<|an xr<|ax fun _ n6=>aH rfl (fun pC=>?_) (fun pC=>?_)
  ·
   have Ig:=pC;simp only [DZ] at pC;refine aU<|aw n6<|ax fun _ ml=>br<|ax fun _ qo=>?_
   obtain ⟨p,v,hpe,hv,hcell⟩:=(cD.rd 3 1 rfl).one (i:=k) (by omega)
   cases hpe
   obtain ⟨hve,hwl,hwm⟩:=ahw (by omega) hv;subst hve;refine aR<|ah (cx bK eo rfl rfl (by omega) (by omega)) rfl<|aW (aI bQ rfl (by exact gH hcell)) rfl<|am rfl<|an qo<|ao fun mm=>ai rfl<|ai rfl<|aS DS rfl rfl (zL s _ _) rfl ?_
   rintro _ w_ ⟨rfl,bf⟩;have bf:=bf.symm;subst bf;refine an mm<|aH rfl (fun Iu=>?_) (fun Iu=>?_)
   ·
    have Ew:=Iu;refine ao fun mo=>ai rfl<|aS Tz rfl rfl (hC.word _ hwm Ew _ hL) rfl ?_
    rintro _ DV ⟨rfl,iC⟩;have:=iC.size;have hb:=az hb iC;have hL:=bw.below hb;have aj:=aq.below aj iC;refine ai rfl<|ah (bP rfl rfl) rfl<|ah (bP rfl rfl) rfl<|am rfl<|am rfl<|an mo<|ao fun xv=>ai rfl<|ah (fe (z:=j2) (pl:=j3) (cs:= [_,_,_,_]) de (by kernel_rfl) (by kernel_rfl) rfl rfl rfl) rfl<|ai rfl<|ah (dF bq (by omega) rfl) rfl<|cH (by kernel_rfl) rfl rfl aj rfl rfl ?_
    rintro uK aj eH;have:=eH.size;have hb:=bY hb eH hb.size (by omega);have hL:=bw.below hb;refine am rfl<|am rfl<|an xv<|aK<|bE (aQ (aQ (bE (aQ ?_))))
    refine fc (rs:= [.cell 2 96,.tmp 3,.tmp 4]) (vs:= [_,_,_]) rfl (.cell rfl (e9 de (by kernel_rfl) (fun j u hu=>aj.at hu)) (.tmp rfl (.tmp rfl .nil))) ?_;exact ⟨_,rfl,by rw [hrd,ahx (pr:=fun x=>Lib.hasPrefix s x) (by omega) hsw Ew];rfl,hb⟩
   have Ew:=Iu;refine aU<|bS<|aw ml<|aR<|ah (bH rfl rfl (by omega) (by omega)) rfl<|ai rfl<|ay<|fun a_ bn=>abZ _ _ (k+1) (by omega) (by repeat first|exact aB|refine au rfl (by first|rfl|exact int_eq (by omega)) ?_) ?_ a_ bn
   exact ⟨by omega,hb,aj,cD,afT hsw Ew⟩
  have Ig:=pC;simp only [DZ] at pC;refine cN<|bD<|bD<|cO<|aw jj<|ax fun _ sL=>?_
  have hrd2:bZ pf uq s=match fD pf s with
   |some r=>some r
   |none=>fV s (min (lead s) 20):=by rw [hrd,ahy (pr:=fun x=>Lib.hasPrefix s x) (fun j hj=>hsw j (by omega))]
  refine aR<|ai rfl<|aS TB rfl rfl (NQ s _ _) rfl ?_
  rintro _ w_ ⟨rfl,bf⟩;have bf:=bf.symm;subst bf;refine aS TA rfl rfl (OL _ (by omega) _) rfl ?_;rintro _ Un ⟨rfl,my⟩;have:=my.size;have hb:=az hb my;have hL:=bw.below hb;have aj:=aq.below aj my;refine ai rfl<|ah (dF bq (by omega) rfl) rfl<|ah (bH rfl rfl (by omega) (by omega)) rfl<|ai rfl<|aS TB rfl rfl (NQ s _ _) rfl ?_
  rintro _ w_ ⟨rfl,bf⟩;have bf:=bf.symm;subst bf;refine ah (dF bq (by omega) rfl) rfl<|ah (bt (gk rfl rfl (by omega) (by omega)) (int_eq (adv s))) rfl<|am rfl<|an sL<|ax fun _ qt=>ax fun _ mq=>b9 (X:=Unit) (fun u_=> [(0,str s),(2,.pointer (some ⟨aX,0,none⟩)),(3,.int .i64 0),(4,.bool false),(13,.int .i64 (lead s:Nat)),(88,.bool (decide (s[lead s]? =some 112)))]) (fun u_ wr=>Below w.heap.size w wr∧aq wr aX 96 dh.cells) (fun _ CO=>?_) ?_
  ·
   refine aR<|ai rfl<|ai rfl<|ah (dF bq (by omega) rfl) rfl<|ah (cg rfl rfl) rfl<|ai rfl<|cw rfl rfl rfl (fun lS=>?_) (fun lS=>?_)
   ·
    have lT:=lS;simp only [DZ] at lS;refine ai rfl<|aE rfl rfl lT<|ai rfl<|aE rfl rfl lT<|ah (eK bq rfl rfl (by omega) (by omega)) rfl<|aE rfl rfl lT<|ah (bA rfl rfl) rfl<|ah (bi rfl lT rfl) rfl<|ay<|aY CO (()) (by repeat first|exact aB|refine au rfl (by first|rfl|exact aP (Eo (by have:=lS;omega) rfl 112)|(refine aP (decide_eq_false ?_).symm;rw [List.getElem?_eq_none (by have:=lS;omega)];simp)) ?_) ?_
    exact ⟨hb,aj⟩
   have lT:=lS;simp only [DZ] at lS;refine aA rfl rfl lT rfl rfl<|aA rfl rfl lT rfl rfl<|aA rfl rfl lT rfl rfl<|ah (bg rfl lT rfl) rfl<|ay<|aY CO (()) (by repeat first|exact aB|refine au rfl (by first|rfl|exact aP (Eo (by have:=lS;omega) rfl 112)|(refine aP (decide_eq_false ?_).symm;rw [List.getElem?_eq_none (by have:=lS;omega)];simp)) ?_) ?_
   exact ⟨hb,aj⟩
  rintro u_ wr Jl;replace Jl:Below w.heap.size w wr∧aq wr aX 96 dh.cells:=Jl;obtain ⟨hb,aj⟩:=Jl;show Wq _ _ _ _ [(0,str s),(2,.pointer (some ⟨aX,0,none⟩)),(3,.int .i64 0),(4,.bool false),(13,.int .i64 (lead s:Nat)),(88,.bool (decide (s[lead s]? =some 112)))] _;have hL:=bw.below hb;have:=hb.size;have:=aj.lt;refine aw mq<|b9 (X:=Unit) (fun u_=> [(0,str s),(2,.pointer (some ⟨aX,0,none⟩)),(3,.int .i64 0),(4,.bool false),(13,.int .i64 (lead s:Nat))]) (fun u_ wr=>Below w.heap.size w wr∧aq wr aX 96 dh.cells∧fD pf s=none) (fun _ PY=>?_) ?_
  ·
   refine aH rfl (fun vT=>?_) (fun vT=>?_)
   ·
    have YJ:=vT;simp only [DZ] at vT;have h112:s[lead s]? =some 112:=vT;obtain ⟨hK1,hK2,hK3⟩:=yP s h112;obtain ⟨hM1,hM2⟩:=EU s h112;refine ao fun nU=>ai rfl<|ah (bH rfl rfl (by omega) (by omega)) rfl<|am rfl<|an nU<|ax fun _ sG=>ax fun _ xl=>b9 (X:=Unit) (fun u_=> [(0,str s),(2,.pointer (some ⟨aX,0,none⟩)),(3,.int .i64 0),(4,.bool false),(13,.int .i64 (lead s:Nat)),(14,.int .i64 ((lead s+1:Nat):Int)),(100,.bool (decide (s[lead s+1]? =some 45)))]) (fun u_ wr=>Below w.heap.size w wr∧aq wr aX 96 dh.cells) (fun _ P0=>?_) ?_
    ·
     refine aR<|ai rfl<|ai rfl<|ah (dF bq (by omega) rfl) rfl<|ah (cg rfl rfl) rfl<|ai rfl<|cw rfl rfl rfl (fun lY=>?_) (fun lY=>?_)
     ·
      have jS:=lY;simp only [DZ] at lY;refine ai rfl<|aE rfl rfl jS<|ai rfl<|aE rfl rfl jS<|ah (eK bq rfl rfl (by omega) (by omega)) rfl<|aE rfl rfl jS<|ah (bA rfl rfl) rfl<|ah (bi rfl jS rfl) rfl<|ay<|aY P0 (()) (by repeat first|exact aB|refine au rfl (by first|rfl|exact int_eq (by omega)|exact aP (Eo (by have:=lY;omega) (by rw [show ((lead s:Nat):Int)+1=((lead s+1:Nat):Int) by omega,Int.toNat_natCast]) 45)|(refine aP (decide_eq_false ?_).symm;rw [List.getElem?_eq_none (by have:=lY;omega)];simp)) ?_) ?_
      exact ⟨hb,aj⟩
     have jS:=lY;simp only [DZ] at lY;refine aA rfl rfl jS rfl rfl<|aA rfl rfl jS rfl rfl<|aA rfl rfl jS rfl rfl<|ah (bg rfl jS rfl) rfl<|ay<|aY P0 (()) (by repeat first|exact aB|refine au rfl (by first|rfl|exact int_eq (by omega)|exact aP (Eo (by have:=lY;omega) (by rw [show ((lead s:Nat):Int)+1=((lead s+1:Nat):Int) by omega,Int.toNat_natCast]) 45)|(refine aP (decide_eq_false ?_).symm;rw [List.getElem?_eq_none (by have:=lY;omega)];simp)) ?_) ?_
     exact ⟨hb,aj⟩
    rintro u_ wr Jt;replace Jt:Below w.heap.size w wr∧aq wr aX 96 dh.cells:=Jt;obtain ⟨hb,aj⟩:=Jt;show Wq _ _ _ _ [(0,str s),(2,.pointer (some ⟨aX,0,none⟩)),(3,.int .i64 0),(4,.bool false),(13,.int .i64 (lead s:Nat)),(14,.int .i64 ((lead s+1:Nat):Int)),(100,.bool (decide (s[lead s+1]? =some 45)))] _;have hL:=bw.below hb;have:=hb.size;have:=aj.lt;refine aw xl<|b9 (X:=Unit) (fun u_=> [(0,str s),(2,.pointer (some ⟨aX,0,none⟩)),(3,.int .i64 0),(4,.bool false),(13,.int .i64 (lead s:Nat)),(14,.int .i64 (cV s:Nat))]) (fun u_ wr=>Below w.heap.size w wr∧aq wr aX 96 dh.cells) (fun _ P2=>?_) ?_
    ·
     refine aH rfl (fun rX=>?_) (fun rX=>?_)
     ·
      have YP:=rX;simp only [DZ] at rX;refine aR<|ai rfl<|ah (bH rfl rfl (by omega) (by omega)) rfl<|am rfl<|ay<|aY P2 (()) (by repeat first|exact aB|refine au rfl (by first|rfl|exact int_eq (by unfold cV;rw [if_pos rX];omega)|exact int_eq (by unfold cV;rw [if_neg rX])) ?_) ?_
      exact ⟨hb,aj⟩
     have YP:=rX;simp only [DZ] at rX;refine aU<|aY P2 (()) (by repeat first|exact aB|refine au rfl (by first|rfl|exact int_eq (by unfold cV;rw [if_pos rX];omega)|exact int_eq (by unfold cV;rw [if_neg rX])) ?_) ?_
     exact ⟨hb,aj⟩
    rintro u_ wr Jw;replace Jw:Below w.heap.size w wr∧aq wr aX 96 dh.cells:=Jw;obtain ⟨hb,aj⟩:=Jw;show Wq _ _ _ _ [(0,str s),(2,.pointer (some ⟨aX,0,none⟩)),(3,.int .i64 0),(4,.bool false),(13,.int .i64 (lead s:Nat)),(14,.int .i64 (cV s:Nat))] _;have hL:=bw.below hb;have:=hb.size;have:=aj.lt;refine aw sG<|ao fun t8=>ai rfl<|ai rfl<|ai rfl<|ai rfl<|ah (dF bq (by omega) rfl) rfl<|ah (bt (zI rfl rfl) (int_eq (show min ((cV s:Nat):Int) (s.length:Int)=(cV s:Nat) by omega))) rfl<|ah (oC bq rfl rfl (by omega) (by omega)) rfl<|aS TA rfl rfl (OL _ (by simp;omega) _) rfl ?_
    rintro _ Uk ⟨rfl,mw⟩;have:=mw.size;have hb:=az hb mw;have hL:=bw.below hb;have aj:=aq.below aj mw;refine ah (bt (zI rfl rfl) (int_eq (show min ((iE (s.drop (cV s)):Nat):Int) 4=(gU s:Nat) by unfold gU;omega))) rfl<|ah (bH rfl rfl (by omega) (by omega)) rfl<|am rfl<|an t8<|br<|cU (X:=Nat) (fun j=> [(0,str s),(2,.pointer (some ⟨aX,0,none⟩)),(3,.int .i64 0),(4,.bool false),(13,.int .i64 (lead s:Nat)),(14,.int .i64 (cV s:Nat)),(15,.int .i64 ((cV s+j:Nat):Int))]) (fun j wr=>j≤gU s∧Below w.heap.size w wr∧aq wr aX 96 dh.cells∧fD pf s=pF pf s (cV s) j) (fun j=>j) (gU s) ?_ ?_ ?_
    · exact by repeat first|exact aB|refine au rfl (by first|rfl|exact int_eq (by omega)) ?_
    · exact ⟨by omega,hb,aj,if_pos h112⟩
    rintro j wr wP _ abL;replace wP:j≤gU s∧Below w.heap.size w wr∧aq wr aX 96 dh.cells∧fD pf s=pF pf s (cV s) j:=wP;obtain ⟨hj,hb,aj,hfd⟩:=wP;show Wc _ _ _ _ _ [(0,str s),(2,.pointer (some ⟨aX,0,none⟩)),(3,.int .i64 0),(4,.bool false),(13,.int .i64 (lead s:Nat)),(14,.int .i64 (cV s:Nat)),(15,.int .i64 ((cV s+j:Nat):Int))] _;have hL:=bw.below hb;have:=hb.size;have:=aj.lt;refine ax fun _ xo=>ao fun Co=>ai rfl<|ai rfl<|ah (eW rfl rfl) rfl<|an Co<|aH rfl (fun yF=>?_) (fun yF=>?_)
    ·
     have YW:=yF;simp only [DZ] at yF;have hj0:0<j:=by have:=yF;omega
     refine aU<|aw xo<|ax fun _ aax=>br<|ao fun KD=>ai rfl<|ai rfl<|ah (rz bq rfl rfl (by omega) (by omega)) rfl<|aS Tz rfl rfl (hC.prs _ (acc h112 (by omega)) _ hL) rfl ?_
     rintro _ Ul ⟨rfl,mx⟩;have:=mx.size;have hb:=az hb mx;have hL:=bw.below hb;have aj:=aq.below aj mx;refine ai rfl<|ah (bP rfl rfl) rfl<|ah (bP rfl rfl) rfl<|am rfl<|am rfl<|an KD<|ao fun KG=>ai rfl<|ah (bA rfl rfl) rfl<|an KG<|aH rfl (fun wc=>?_) (fun wc=>?_)
     ·
      have YZ:=wc;simp only [DZ] at wc;have hpf:(pf (s.take (cV s+j))).isSome=true:=afI wc;refine ao fun aaA=>ai rfl<|ah (fe (z:=j2) (pl:=j3) (cs:= [_,_,_,_]) de (by kernel_rfl) (by kernel_rfl) rfl rfl rfl) rfl<|ai rfl<|cH (by kernel_rfl) rfl rfl aj rfl rfl ?_
      rintro zE aj fN;have:=fN.size;have hb:=bY hb fN hb.size (by omega);have hL:=bw.below hb;refine am rfl<|am rfl<|an aaA<|aK<|bE (aQ (aQ (bE (aQ (aQ ?_)))))
      refine fc (rs:= [.cell 2 96,.tmp 3,.tmp 4]) (vs:= [_,_,_]) rfl (.cell rfl (e9 de (by kernel_rfl) (fun j u hu=>aj.at hu)) (.tmp rfl (.tmp rfl .nil))) ?_;exact ⟨_,rfl,by rw [hrd2,hfd,OP hpf hj0];rfl,hb⟩
     have YZ:=wc;simp only [DZ] at wc;have hpf:pf (s.take (cV s+j))=none:=ad0 wc;refine aU<|bS<|aw aax<|aR<|ai rfl<|ah (gk rfl rfl (by omega) (by omega)) rfl<|am rfl<|ay<|fun a_ bn=>abL _ _ (j - 1) (by omega) (by repeat first|exact aB|refine au rfl (by first|rfl|exact int_eq (by omega)) ?_) ?_ a_ bn
     exact ⟨by omega,hb,aj,by rw [hfd];exact Zi hpf hj0⟩
    have YW:=yF;simp only [DZ] at yF;refine cN<|bD<|bD<|cO<|aY PY (()) (by repeat first|exact aB|refine au rfl (by first|rfl|exact int_eq (by omega)) ?_) ?_
    exact ⟨hb,aj,by rw [hfd,show j=0 by omega];rfl⟩
   have YJ:=vT;simp only [DZ] at vT;refine aU<|aY PY (()) (by repeat first|exact aB|refine au rfl (by first|rfl|exact int_eq (by omega)) ?_) ?_
   exact ⟨hb,aj,if_neg vT⟩
  rintro u_ wr JH;replace JH:Below w.heap.size w wr∧aq wr aX 96 dh.cells∧fD pf s=none:=JH;obtain ⟨hb,aj,hfa⟩:=JH;show Wq _ _ _ _ [(0,str s),(2,.pointer (some ⟨aX,0,none⟩)),(3,.int .i64 0),(4,.bool false),(13,.int .i64 (lead s:Nat))] _;have hL:=bw.below hb;have:=hb.size;have:=aj.lt;refine aw qt<|ax fun _ aaD=>ax fun _ KK=>?_
  have hrd3:bZ pf uq s=fV s (min (lead s) 20):=by rw [hrd2,hfa]
  refine aR<|ai rfl<|ah (bt (zI rfl rfl) (int_eq (show min ((lead s:Nat):Int) 20=(min (lead s) 20:Nat) by omega))) rfl<|am rfl<|an KK<|br<|cU (X:=Nat) (fun j=> [(0,str s),(2,.pointer (some ⟨aX,0,none⟩)),(3,.int .i64 0),(4,.bool false),(13,.int .i64 (j:Int))]) (fun j wr=>j≤min (lead s) 20∧Below w.heap.size w wr∧aq wr aX 96 dh.cells∧bZ pf uq s=fV s j) (fun j=>j) (min (lead s) 20) ?_ ?_ ?_
  · exact by repeat first|exact aB|refine au rfl (by first|rfl|exact int_eq (by omega)) ?_
  · exact ⟨by omega,hb,aj,hrd3⟩
  rintro j wr JK _ PQ;replace JK:j≤min (lead s) 20∧Below w.heap.size w wr∧aq wr aX 96 dh.cells∧bZ pf uq s=fV s j:=JK;obtain ⟨hj,hb,aj,hri⟩:=JK;show Wc _ _ _ _ _ [(0,str s),(2,.pointer (some ⟨aX,0,none⟩)),(3,.int .i64 0),(4,.bool false),(13,.int .i64 (j:Int))] _;have hL:=bw.below hb;have:=hb.size;have:=aj.lt;refine ax fun _ Cr=>ao fun aaG=>ai rfl<|ah (eW rfl rfl) rfl<|an aaG<|aH rfl (fun uZ=>?_) (fun uZ=>?_)
  ·
   have Xv:=uZ;simp only [DZ] at uZ;have hj0:0<j:=by have:=uZ;omega
   refine aU<|aw Cr<|ax fun _ E7=>br<|ao fun aaK=>ai rfl<|ai rfl<|ah (rz bq rfl rfl (by omega) (by omega)) rfl<|aS agt rfl rfl (Vu _ (by simp;omega) _ hL) rfl ?_
   rintro _ Um ⟨⟨n,e,rfl,hie,hpi⟩,sW⟩;have:=sW.size;have hb:=az hb sW;have hL:=bw.below hb;have aj:=aq.below aj sW;refine ai rfl<|ah (bP rfl rfl) rfl<|ah (bP rfl rfl) rfl<|am rfl<|am rfl<|an aaK<|ax fun _ PN=>ju (by kernel_rfl) (by kernel_rfl)<|aC (bl rfl) rfl<|aC (ahY (by kernel_rfl) rfl (hie)) rfl<|aC (bl rfl) rfl<|iN rfl rfl rfl (fun sn=>?_) (fun sn=>?_)
   ·
    have fw:=sn;have hpn:=adU hpi fw;obtain ⟨hn0,hn1⟩:=Sb hpn;refine aC (bl rfl) rfl<|bB rfl rfl fw<|uQ TX rfl rfl (fun wq hq=>by have hL:=hL.below hq;have aj:=aq.below aj hq;exact Nt _ hn0 hn1 _ hL) rfl<|bB rfl rfl fw<|aC (bl rfl) rfl<|bB rfl rfl fw<|aC (bl rfl) rfl<|bB rfl rfl fw<|aC (rz bq rfl rfl (by omega) (by omega)) rfl<|bB rfl rfl fw<|aC (fu rfl rfl) rfl<|aC (bi rfl fw rfl) rfl<|dZ fun ahC xJ=>?_
    have acO:=xJ.size;have hb:=az hb xJ;have hL:=bw.below hb;have aj:=aq.below aj xJ;refine aw PN<|aH rfl (fun Aa=>?_) (fun Aa=>?_)
    ·
     have Ht:=Aa;simp only [DZ] at Aa;refine ao fun KR=>ai rfl<|ah (fe (z:=j2) (pl:=j3) (cs:= [_,_,_,_]) de (by kernel_rfl) (by kernel_rfl) rfl rfl rfl) rfl<|ai rfl<|cH (by kernel_rfl) rfl rfl aj rfl rfl ?_
     rintro Nb aj lz;have:=lz.size;have hb:=bY hb lz hb.size (by omega);have hL:=bw.below hb;refine am rfl<|am rfl<|an KR<|aK<|bE (aQ (aQ (bE (aQ ?_))))
     refine fc (rs:= [.cell 2 96,.tmp 3,.tmp 4]) (vs:= [_,_,_]) rfl (.cell rfl (e9 de (by kernel_rfl) (fun j u hu=>aj.at hu)) (.tmp rfl (.tmp rfl .nil))) ?_;exact ⟨_,rfl,by rw [hri,Zj (j:=j) hpn Ht hj0];rfl,hb⟩
    have Ht:=Aa;simp only [DZ] at Aa;refine aU<|bS<|aw E7<|aR<|ai rfl<|ah (gk rfl rfl (by omega) (by omega)) rfl<|am rfl<|ay<|fun a_ bn=>PQ _ _ (j - 1) (by omega) (by repeat first|exact aB|refine au rfl (by first|rfl|exact int_eq (by omega)) ?_) ?_ a_ bn
    exact ⟨by omega,hb,aj,by rw [hri];exact Zl hpn Ht hj0⟩
   have fw:=sn;refine aL rfl rfl fw rfl rfl<|aL rfl rfl fw rfl rfl<|aL rfl rfl fw rfl rfl<|aL rfl rfl fw rfl rfl<|aL rfl rfl fw rfl rfl<|aC (bg rfl fw rfl) rfl<|dZ fun ahC xJ=>?_
   have acO:=xJ.size;have hb:=az hb xJ;have hL:=bw.below hb;have aj:=aq.below aj xJ;refine aw PN<|pt rfl rfl<|aU<|bS<|aw E7<|aR<|ai rfl<|ah (gk rfl rfl (by omega) (by omega)) rfl<|am rfl<|ay<|fun a_ bn=>PQ _ _ (j - 1) (by omega) (by repeat first|exact aB|refine au rfl (by first|rfl|exact int_eq (by omega)) ?_) ?_ a_ bn
   exact ⟨by omega,hb,aj,by rw [hri];exact Zk (adT hpi fw) hj0⟩
  have Xv:=uZ;simp only [DZ] at uZ;refine cN<|bD<|bD<|cO<|aw aaD<|ao fun aaX=>ah (fe (z:=j2) (pl:=j3) (cs:= [_,_,_,_]) de (by kernel_rfl) (by kernel_rfl) rfl rfl rfl) rfl<|cH (by kernel_rfl) rfl rfl aj rfl rfl ?_
  rintro Uu aj oZ;have:=oZ.size;have hb:=bY hb oZ hb.size (by omega);have hL:=bw.below hb;refine am rfl<|am rfl<|an aaX<|aK<|fc (rs:= [.cell 2 96,.tmp 3,.tmp 4]) (vs:= [_,_,_]) rfl (.cell rfl (e9 de (by kernel_rfl) (fun j u hu=>aj.at hu)) (.tmp rfl (.tmp rfl .nil))) ?_
  exact ⟨_,rfl,by rw [hri,show j=0 by have:=uZ;omega];rfl,hb⟩
 rintro ac2 aep ajp Fk acl acK acB Fg;have:=Fg.size;have hb:=bY hb Fg hb.size (by omega);have hL:=bw.below hb;have aj:=aj.over Fg (by omega);have gq:=gq.over Fg (by omega);have nT:=acB;refine ah (bP rfl rfl) rfl<|an f5<|ax fun _ aaZ=>Eg rfl rfl<|aU<|aw aaZ<|br<|ao fun aa0=>?_
 obtain ⟨pk,pv⟩:=aep;obtain ⟨v,hv,hpl⟩:=ahS Fk;replace hv:pv=v.enc:=hv;replace hpl:pk.length≤5:=hpl;subst hv;refine aW (adh rfl nT gq (by exact Fk)) rfl<|ah (bP rfl rfl) rfl<|ah (bP rfl rfl) rfl<|el (z:=nf) (by kernel_rfl) rfl ?_
 rintro aik ahI y1 E2 C6;have:=C6.size;have hb:=az hb C6;have hL:=bw.below hb;have aj:=aq.below aj C6;have gq:=Mp.below gq C6;have nT:=It.below nT C6;have:=E2.lt;refine am rfl<|cH (by kernel_rfl) rfl rfl E2 rfl rfl ?_
 rintro oA E2 di;have:=di.size;have hb:=bY hb di hb.size (by omega);have hL:=bw.below hb;have aj:=aj.over di (by omega);have gq:=gq.over di (by omega);have nT:=nT.over di (by omega);refine an aa0<|ao fun KX=>ai rfl<|ai rfl<|aS DS rfl rfl (zL s pk _) rfl ?_
 rintro _ w_ ⟨rfl,bf⟩;have bf:=bf.symm;subst bf;refine an KX<|aH rfl (fun HZ=>?_) (fun HZ=>?_)
 ·
  have H0:=HZ;refine ao fun aa5=>aW (dM de (by kernel_rfl) rfl (by exact fun j u hu=>E2.at hu)) rfl<|ai rfl ?_
  refine ah (dF bq (Nat.le_trans hpl (by decide)) rfl) rfl<|cH (by kernel_rfl) rfl rfl aj rfl rfl ?_
  rintro tm aj dD;have:=dD.size;have hb:=bY hb dD hb.size (by omega);have hL:=bw.below hb;refine am rfl<|am rfl<|an aa5<|aK<|bE (aQ (bE (aQ ?_)))
  refine fc (rs:= [.cell 2 96,.tmp 3,.tmp 4]) (vs:= [_,_,_]) rfl (.cell rfl (e9 de (by kernel_rfl) (fun j u hu=>aj.at hu)) (.tmp rfl (.tmp rfl .nil))) ?_;exact ⟨_,rfl,by obtain ⟨v',hv',hr'⟩:=ahO (pf:=pf) (uq:=uq) hq39 Fk H0;rw [hr'];show _=Value.tuple #[v'.enc,_,_];rw [←hv'];rfl,hb⟩
 have H0:=HZ;refine aU<|bS<|fun a_ bn=>abX _ _ (seen++ [ac2]) (adw acl acK) (by repeat first|exact aB|refine au rfl (by first|rfl|exact int_eq (by omega)) ?_) ?_ a_ bn
 exact ⟨hb,aj,gq,nT,ahR hsn Fk H0⟩
end Go.Proofs.YtjmlknjbhbfneaaGreatDoor
namespace Go.Bw
open Go.RowKit
set_option linter.unusedVariables false
set_option linter.unusedSimpArgs false
section
variable {P:Program} {N:Nat} {D:List Deferred} {env env':Env} {a:Act} {w w':World} {Q:Exit→Act→World→Prop}
variable {ops:Array Oper} {rest:List Oper} {d:Nat} {op:Op} {ty:TypeId} {pos:String} {af:Array Edge}
theorem Xh (w:World) (e:TypeId) (t:ByteArray):Below w.heap.size w (Lib.bytesWorld w e t):=by
 refine ((Below.refl _ _).drew.alloc (Nat.le_refl _) (.cells (Lib.bytesCells w e t) e)).trans ?_;unfold Lib.bytesWorld World.freeze
 split
 · exact Below.refl _ _
 · refine ⟨rfl,rfl,rfl,by simp,fun k hk=>?_⟩
   show ((w.drew.alloc _).heap.modify _ _)[k]? =_;rw [Array.getElem?_modify,if_neg (by have hk':k<w.heap.size:=hk;show w.heap.size≠k;omega)]
theorem aeX (w:World) (e:TypeId) (l:al):Rd (Lib.bytesWorld w e ⟨l.toArray⟩) 1 (some ⟨w.heap.size,0,none⟩) l.length (dq l):=
 ⟨by rw [qI,Nat.mul_one],fun _=>⟨_,rfl,fun j u hu=>by
  obtain ⟨hj,e'⟩:=List.getElem?_eq_some_iff.1 hu
  rw [qI] at hj
  have:=Lib.bytesWorld_cell w e ⟨l.toArray⟩ j (by rw [mG];exact hj)
  rw [pu,this,←e']
  simp [dq,List.getD,List.getElem?_eq_getElem hj]⟩⟩
theorem N5 {x:Operand} {s t e:TypeId} {ud:TypeDesc} {l:al} (hs:P.underlying s=some ud) (ht:P.underlying t=some (.slice e)) (he:P.underlying e=some (.int .u8)) (hx:ev env x=some (str l)) (hd:Nat.blt d N=true)
 (h:∀g c w',w.heap.size≤g→g<w'.heap.size→Rd w' 1 (some ⟨g,0,none⟩) l.length (dq l)→Below w.heap.size w w'→Wl P ops Q rest N D ((d,.slice (some ⟨g,0,none⟩) l.length c) :: env) w'):
 Wl P ops Q (⟨some d,.convert s t x,ty,pos,af,none⟩ :: rest) N D env w:=by
 refine iM (v:= .slice (some ⟨w.heap.size,0,none⟩) l.length (grownCap w l.length 0 e)) (w':=Lib.bytesWorld w e ⟨l.toArray⟩) (fun a ha dst pos af g=>?_) hd (h _ _ _ (Nat.le_refl _) (by rw [Lib.bytesWorld_size];omega) (aeX w e l) (Xh w e _))
 have h0:=Lib.run_convert_string_bytes w s t e ⟨l.toArray⟩ hs ht he
 rw [mG] at h0
 have h1:(convert s t (str l)).run P w=_:=h0
 simp [execOp,ha.eval hx,h1]
theorem D1 {x:Operand} {t:TypeId} {u:TypeDesc} {v:Value} (hu:P.underlying t=some u) (hn:∀ms,u≠ .interface ms) (hx:ev env x=some v):Yl P N D env (.makeInterface t x) ty (.iface t v):=fun a ha w dst pos af g=>by
 have h1:(Instr.makeInterface t v).run P w= .ok (.iface t v) w:=by
  cases u<;>first|exact absurd rfl (hn _)|simp [Instr.makeInterface,run_underlying hu]
 simp [execOp,ha.eval hx,h1]
end
end Go.Bw
namespace Go.Bw.Fl
open Ieee Go
set_option linter.unusedVariables false
set_option linter.unusedSimpArgs false
def dC (n:Nat):al→Nat
 | []=>n
 |c :: r=>dC (n * 10+(c.toNat - 48)) r
def fT (l:al):Prop:=∀c,c∈l→48≤c.toNat∧c.toNat≤57
theorem yJ (b:al):∀(a:al) (n:Nat),dC n (a++b)=dC (dC n a) b
 | [],_=>rfl
 |c :: r,n=>yJ b r _
theorem AP:∀(l:al) (n:Nat),n≤dC n l
 | [],n=>Nat.le_refl n
 |c :: r,n=>Nat.le_trans (by omega) (AP r (n * 10+(c.toNat - 48)))
theorem AN {k:Nat} (h:k<10):(UInt8.ofNat (48+k)).toNat=48+k:=by
 rw [UInt8.toNat_ofNat'];exact Nat.mod_eq_of_lt (by omega)
theorem gT (u:Nat):fT (Lib.decDigits u)∧dC 0 (Lib.decDigits u)=u∧Lib.decDigits u≠ []:=by
 induction u using Nat.strongRecOn with
 |ind u ih=>
  by_cases h:u<10
  · rw [Lib.decDigits_one h]
    refine ⟨fun c hc=>?_,?_,by simp⟩
    · rw [List.mem_singleton.1 hc,AN h];omega
    · show 0 * 10+((UInt8.ofNat (48+u)).toNat - 48)=u
      rw [AN h];omega
  · obtain ⟨h1,h2,h3⟩:=ih (u / 10) (by omega)
    rw [Lib.decDigits,dif_neg h];refine ⟨fun c hc=>?_,?_,by simp⟩
    · rcases List.mem_append.1 hc with hc|hc
      · exact h1 c hc
      · rw [List.mem_singleton.1 hc,AN (by omega)];omega
    · rw [yJ,h2]
      show u / 10 * 10+((UInt8.ofNat (48+u % 10)).toNat - 48)=u;rw [AN (by omega)];omega
theorem IN {l:al} {i:Nat} (h:i<l.length):dC 0 (l.take (i+1))=dC 0 (l.take i) * 10+((l.getD i 0).toNat - 48):=by
 have e:l.take (i+1)=l.take i++ [l.getD i 0]:=by rw [List.take_add_one,List.getElem?_eq_getElem h];simp [List.getD,List.getElem?_eq_getElem h]
 rw [e,yJ];rfl
theorem Zr (l:al) (i:Nat):dC 0 (l.take i)≤dC 0 l:=by
 have:=yJ (l.drop i) (l.take i) 0;rw [List.take_append_drop] at this;rw [this];exact AP _ _
theorem Sa:∀(l:al) (n:Nat),fT l→dC n l<18446744073709551616→Lib.parseUint10 n l= .ok (dC n l)
 | [],_,_,_=>rfl
 |c :: r,n,ha,hl=>by
  have hc:=ha c (List.mem_cons_self ..);have hg:=AP r (n * 10+(c.toNat - 48));have hl':dC (n * 10+(c.toNat - 48)) r<18446744073709551616:=hl;rw [Lib.parseUint10,if_pos hc,if_neg (by omega),if_neg (by omega)];exact Sa r _ (fun x hx=>ha x (List.mem_cons_of_mem _ hx)) hl'
theorem Sc {u:Nat} (h:u<18446744073709551616):Lib.parseMag (Lib.decDigits u)= .ok u:=by
 obtain ⟨h1,h2,h3⟩:=gT u;rw [Lib.parseMag,if_neg h3,Sa _ _ h1 (by rw [h2];exact h),h2]
theorem yq {e:Int} (h0: -9223372036854775808≤e) (h1:e≤9223372036854775807):Lib.atoiAll (Lib.itoa e)= .ok e:=by
 unfold Lib.itoa;by_cases h:e<0
 · rw [if_pos h,Lib.atoiAll_minus,Sc (by omega)]
   show (if 9223372036854775808<e.natAbs then Lib.NumEnd.range else Lib.NumEnd.ok (-(e.natAbs:Int)))=_;rw [if_neg (by omega)];congr 1;omega
 · rw [if_neg h]
   obtain ⟨a,b,c⟩:=gT e.toNat
   cases hd:Lib.decDigits e.toNat with
   |nil=>exact absurd hd c
   |cons x r=>
    have hx:=a x (by rw [hd];exact List.mem_cons_self ..);rw [Lib.atoiAll_plain x r (by omega) (by omega),←hd,Sc (by omega)];show (if 9223372036854775808≤e.toNat then Lib.NumEnd.range else Lib.NumEnd.ok (e.toNat:Int))=_;rw [if_neg (by omega)];congr 1;omega
theorem Fu {a b:al} {c:UInt8} (h:c ∉ a):Lib.indexByte (a++c :: b) c=(a.length:Nat):=by
 induction a with
 |nil=>show (if (c==c)=true then (0:Int) else _)=_;simp
 |cons x r ih=>
  have hx:x≠c:=fun e=>h (by rw [e];exact List.mem_cons_self ..);have ih':=ih (fun m=>h (List.mem_cons_of_mem _ m));show (if (x==c)=true then (0:Int) else if (Lib.indexByte (r++c :: b) c== -1)=true then -1 else Lib.indexByte (r++c :: b) c+1)=_;rw [if_neg (by simpa using hx),ih',if_neg (by simp)];simp
theorem FK {u:Nat}:(112:UInt8) ∉ Lib.decDigits u:=fun h=>by
 have:=(gT u).1 _ h;have e:(112:UInt8).toNat=112:=rfl;omega
theorem Mc {a b k:Nat} (h:a * 2 ^ k=b * 2 ^ k):a=b:=Nat.eq_of_mul_eq_mul_right (Nat.two_pow_pos k) h
theorem aes {a b p q:Nat} (h:a * 2 ^ p=b * 2 ^ q) (ha:4503599627370496≤a) (hb:b<9007199254740992):p≤q:=by
 rcases Nat.lt_or_ge q p with hlt|hge
 · exfalso
   have e:a * 2 ^ p=a * 2 * 2 ^ (p - q - 1) * 2 ^ q:=by
    rw [Nat.mul_assoc (a * 2),←Nat.pow_add,Nat.mul_assoc a 2,←Nat.pow_succ'];congr 2;omega
   rw [e] at h;have h2:=Mc h;have h3:1≤2 ^ (p - q - 1):=Nat.one_le_two_pow;have h4:a * 2 * 1≤a * 2 * 2 ^ (p - q - 1):=Nat.mul_le_mul_left _ h3;omega
 · exact hge
theorem aet {a b p q:Nat} (h:a * 2 ^ p=b * 2 ^ q) (ha:a<9007199254740992) (hb:b≠0):q<p+53:=by
 rcases Nat.lt_or_ge q (p+53) with hlt|hge
 · exact hlt
 · exfalso
   have e:b * 2 ^ q=b * 2 ^ (q - p) * 2 ^ p:=by rw [Nat.mul_assoc,←Nat.pow_add];congr 2;omega
   rw [e] at h;have h2:=Mc h;have h3:2 ^ 53≤2 ^ (q - p):=Nat.pow_le_pow_right (by decide) (by omega);have h4:1 * 2 ^ (q - p)≤b * 2 ^ (q - p):=Nat.mul_le_mul_right _ (by omega);have h5:(2:Nat) ^ 53=9007199254740992:=by decide
   omega
theorem Ef {r:Nat} (h:r<9218868437227405312):∃m e,V r=m * 2 ^ e∧m<9007199254740992∧e≤2045∧(4503599627370496≤r→4503599627370496≤m∧e=r / 4503599627370496 - 1∧m=4503599627370496+r % 4503599627370496):=by
 by_cases hs:r<4503599627370496
 · exact ⟨r,0,by rw [V,if_pos hs];simp,by omega,by omega,fun h=>by omega⟩
 · exact ⟨4503599627370496+r % 4503599627370496,r / 4503599627370496 - 1,by rw [V,if_neg hs],by omega,by omega,fun _=>⟨by omega,rfl,rfl⟩⟩
theorem WS {r:Nat}:V r=bx r * 2 ^ (dG r+1074).toNat:=by
 unfold V bx dG
 split
 · simp
 · congr 2;omega
def Exact (r:Nat) (k:Int) (f:Nat):Prop:=∃t u:Nat,k=(t:Int) - (u:Int)∧V r * 2 ^ t=V f * 2 ^ u
theorem adt {x m j:Nat} (h0:4503599627370496≤x) (h1:x<9218868437227405312) (hm:(m=4607182418800017408∧j=0)∨(m=4368491638549381120∧j=53)):
 ∃r,floatBits .mul .f64 m x=some r∧r<18446744073709551616∧∀f,f≠0→f<9218868437227405312→V f * 2 ^ j=V x→r=f:=by
 have hrm:Ieee.double.read m= .number false 4503599627370496 (-52 - (j:Int)):=by
  rcases hm with ⟨rfl,rfl⟩|⟨rfl,rfl⟩
  · rw [xW (by decide) (by decide)];rfl
  · rw [xW (by decide) (by decide)];rfl
 have hx:rung x=x:=Nat.mod_eq_of_lt (by omega)
 have hn:isNeg x=false:=by unfold isNeg;rw [Nat.div_eq_of_lt (by omega)];rfl
 have hrx:Ieee.double.read x= .number false (4503599627370496+x % 4503599627370496) (((x / 4503599627370496:Nat):Int) - 1075):=by
  rw [xW (by rw [hx];exact h0) (by rw [hx];exact h1),hx,hn]
  congr 1;omega
 have hmul:floatBits .mul .f64 m x=some (Ieee.double.nearest (false ^^ false) (4503599627370496 * (4503599627370496+x % 4503599627370496)) (-52 - (j:Int)+(((x / 4503599627370496:Nat):Int) - 1075))):=by
  show Ieee.double.mul m x=_;unfold Format.mul;rw [hrm,hrx];rfl
 refine ⟨_,hmul,by simpa [Lit.wf] using floatBits_wf hmul,fun f hf0 hf1 hV=>?_⟩
 rw [Do (r:=f) _ hf1 hf0 (x / 4503599627370496 - 1) (52+j) (by omega)]
 · rfl
 · have hvx:V x=(4503599627370496+x % 4503599627370496) * 2 ^ (x / 4503599627370496 - 1):=by rw [V,if_neg (by omega)]
   rw [Nat.mul_assoc,←hvx,←hV,Nat.pow_add,show (4503599627370496:Nat)=2 ^ 52 by decide,Nat.mul_comm (2 ^ 52) (V f * 2 ^ j),Nat.mul_assoc,Nat.mul_comm (2 ^ j)]
theorem ZC {r f:Nat} {k:Int} (h0:4503599627370496≤r) (h1:r<9218868437227405312) (hf:f≠0) (h:Exact r k f): -52≤((r / 4503599627370496:Nat):Int)+k:=by
 obtain ⟨t,u,hk,hv⟩:=h;obtain ⟨m,e,hV,hm,he,hb⟩:=Ef h1;obtain ⟨b1,b2,b3⟩:=hb h0;rw [hV,Nat.mul_assoc,←Nat.pow_add] at hv;have:=aet hv hm (fun h=>hf (zT.1 h));omega
theorem O8 {r f:Nat} {k:Int} (h0:4503599627370496≤r) (h1:r<9218868437227405312) (hf:f<9218868437227405312) (h:Exact r k f):((r / 4503599627370496:Nat):Int)+k≤2046:=by
 obtain ⟨t,u,hk,hv⟩:=h;obtain ⟨m,e,hV,hm,he,hb⟩:=Ef h1;obtain ⟨b1,b2,b3⟩:=hb h0;obtain ⟨m',e',hV',hm',he',_⟩:=Ef hf;rw [hV,hV',Nat.mul_assoc,Nat.mul_assoc,←Nat.pow_add,←Nat.pow_add] at hv;have:=aes hv b1 hm';omega
theorem ZD {r f j:Nat} {k:Int} (h0:4503599627370496≤r) (h1:r<9218868437227405312) (h:Exact r k f) (hE:1≤((r / 4503599627370496:Nat):Int)+k+j):
 V f * 2 ^ j=V (r % 4503599627370496+(((r / 4503599627370496:Nat):Int)+k+j).toNat * 4503599627370496):=by
 obtain ⟨t,u,hk,hv⟩:=h
 obtain ⟨m,e,hV,hm,he,hb⟩:=Ef h1
 obtain ⟨b1,b2,b3⟩:=hb h0
 generalize hq:(((r / 4503599627370496:Nat):Int)+k+j).toNat=q
 have hlt:=Nat.mod_lt r (show 0<4503599627370496 by decide)
 have hq1:1≤q:=by omega
 rw [show V (r % 4503599627370496+q * 4503599627370496)=_ from if_neg (by omega),show (r % 4503599627370496+q * 4503599627370496) % 4503599627370496=r % 4503599627370496 by omega,show (r % 4503599627370496+q * 4503599627370496) / 4503599627370496=q by omega,←b3]
 apply Mc (k:=u)
 rw [Nat.mul_right_comm,←hv,hV,Nat.mul_assoc m,Nat.mul_assoc m,Nat.mul_assoc m,←Nat.pow_add,←Nat.pow_add,←Nat.pow_add]
 congr 2;omega
theorem ZG {r f:Nat} {k:Int} (h:Exact r k f) (hf:f=0):r=0:=by
 obtain ⟨t,u,_,hv⟩:=h;subst hf;rw [show V 0=0 by decide,Nat.zero_mul] at hv
 rcases Nat.mul_eq_zero.1 hv with h|h
 · exact zT.1 h
 · exact absurd h (Nat.ne_of_gt (Nat.two_pow_pos t))
theorem WP (p:Nat):V 0=0 * p:=by rw [Nat.zero_mul];decide
theorem ZL {n:Nat} (h:n<9007199254740992) (p:Nat) (hp:p=1074):∃r,FloatKind.f64.nearest (n:Int)=r∧(r=0∨(4503599627370496≤r∧r<9218868437227405312))∧V r=n * 2 ^ p:=by
 have e0:FloatKind.f64.nearest (n:Int)=Ieee.double.nearest false n 0:=by
  show Ieee.double.write (.number (decide ((n:Int)<0)) (n:Int).natAbs 0)=_;rw [decide_eq_false (by omega),Int.natAbs_natCast];rfl
 rw [e0];by_cases h0:n=0
 · subst h0;exact ⟨0,by rw [RK];rfl,.inl rfl,WP _⟩
 · have hl:Nat.log2 n≤52:=by have:=(Nat.log2_lt h0 (k:=53)).2 (by simpa using h);omega
   obtain ⟨r,r0,r1,r2⟩:=MA (t:=p) h0 h (by omega);refine ⟨r,?_,.inr ⟨?_,r1⟩,r2⟩
   · rw [Do (r:=r) _ r1 r0 p 0 (by omega) (by rw [r2,Nat.pow_zero,Nat.mul_one])];rfl
   · rcases Nat.lt_or_ge r 4503599627370496 with hlt|hge
     · exfalso
       have e:V r=r:=if_pos hlt;have h5:2 ^ 52≤2 ^ p:=Nat.pow_le_pow_right (by decide) (by omega);have h6:1 * 2 ^ p≤n * 2 ^ p:=Nat.mul_le_mul_right _ (by omega);have h7:(2:Nat) ^ 52=4503599627370496:=by decide
       rw [r2] at e
       generalize 2 ^ p=q at *
       omega
     · exact hge
theorem ZK {n:Nat} (h:n<9007199254740992):∃r,FloatKind.f64.nearest (n:Int)=r∧(r=0∨(4503599627370496≤r∧r<9218868437227405312))∧V r=n * 2 ^ 1074:=ZL h 1074 rfl
end Go.Bw.Fl
namespace Go.Proofs.YtjmlknjbhbfneaaGreatDoor
open Go.RowKit Go.Bw Go.Bw.Fl
set_option linter.unusedVariables false
set_option linter.unusedSimpArgs false
theorem ahW {r:Nat} (h:r<9223372036854775808):r ^^^ 9223372036854775808=9223372036854775808+r:=by
 have e:(9223372036854775808:Nat)=2 ^ 63:=by decide
 rw [e] at h ⊢
 apply Nat.eq_of_testBit_eq;intro i
 rw [Nat.testBit_xor,Nat.testBit_two_pow]
 rcases Nat.lt_trichotomy i 63 with hi|hi|hi
 · rw [Nat.testBit_two_pow_add_gt hi,decide_eq_false (by omega),Bool.xor_false]
 · subst hi;rw [Nat.testBit_two_pow_add_eq,Nat.testBit_lt_two_pow h];rfl
 · have h1:2 ^ 64≤2 ^ i:=Nat.pow_le_pow_right (by decide) hi
   rw [Nat.testBit_lt_two_pow (Nat.lt_of_lt_of_le h (Nat.pow_le_pow_right (by decide) (by omega))),Nat.testBit_lt_two_pow (x:=2 ^ 63+r) (by omega),decide_eq_false (by omega)]
   rfl
theorem ahV {r:Nat} (h:r<18446744073709551616):r ^^^ 9223372036854775808<18446744073709551616:=Nat.xor_lt_two_pow (n:=64) h (by decide)
structure Cn (f:Nat):Prop where
 lt:f<18446744073709551616
 one:canon f=f
theorem Cn.of {f:Nat} (h:f<18446744073709551616):Cn (canon f):=by
 unfold canon;split
 · exact ⟨by decide,by decide⟩
 · rename_i hn;exact ⟨h,if_neg hn⟩
theorem af0 (f:Nat):dr (canon f)=dr f:=by
 unfold canon;split
 · rename_i hn;unfold dr;rw [if_pos hn];rfl
 · rfl
def app (neg:Bool) (f:Nat):Nat:=if neg=true then f ^^^ 9223372036854775808 else f
theorem Od {neg:Bool} {f:Nat} (h:f<18446744073709551616):app neg f<18446744073709551616:=by
 unfold app;split
 · exact ahV h
 · exact h
theorem El {f:Nat} (h:f<18446744073709551616):app (isNeg f) (rung f)=f:=by
 have hr:rung f<9223372036854775808:=Nat.mod_lt _ (by decide);unfold app;have e:=ahQ h;rw [D0] at e
 split
 · rename_i hn;rw [ahW hr];rw [if_pos hn] at e;exact e
 · rename_i hn;rw [if_neg hn] at e;exact e
def ep (n:Bool):al:=if n=true then [45] else []
theorem Dy (f:Nat):eB f=ep (isNeg f):=rfl
theorem yc {n:Bool} {x:al} (hx:x.head? ≠some 45):Lib.hasPrefix (ep n++x) [45]=n∧Lib.trimPrefix (ep n++x) [45]=x:=by
 cases n
 · have h0:Lib.hasPrefix (ep false++x) [45]=false:=by
    cases x with
    |nil=>rfl
    |cons c r=>
     have hc:c≠45:=fun e=>hx (by rw [e];rfl);show List.isPrefixOf [45] (c :: r)=false;simp [List.isPrefixOf];exact fun e=>hc e.symm
   refine ⟨h0,?_⟩;unfold Lib.trimPrefix;rw [if_neg (by rw [h0];simp)];rfl
 · have h0:Lib.hasPrefix (ep true++x) [45]=true:=by
    show List.isPrefixOf [45] (45 :: x)=true;simp [List.isPrefixOf]
   refine ⟨h0,?_⟩;unfold Lib.trimPrefix;rw [if_pos h0];rfl
def dI (M:Nat) (e:Int):al:=Lib.decDigits M++112 :: Lib.itoa e
theorem qD (M:Nat) (e:Int):∃c r,dI M e=c :: r∧48≤c.toNat∧c.toNat≤57:=by
 obtain ⟨h1,_,h3⟩:=gT M;unfold dI
 cases hd:Lib.decDigits M with
 |nil=>exact absurd hd h3
 |cons c r=>exact ⟨c,_,rfl,h1 c (by rw [hd];exact List.mem_cons_self ..)⟩
theorem head_ne {x:al} {k:UInt8} (h:∃c r,x=c :: r∧48≤c.toNat∧c.toNat≤57) (hk:k.toNat<48∨57<k.toNat):x.head? ≠some k:=by
 obtain ⟨c,r,rfl,h1,h2⟩:=h;intro e;cases e;omega
theorem uH {b:Nat} (h:isNan b=true):dr b= [110,97,110]:=by unfold dr;rw [if_pos h]
inductive rC (s:al) (f:Nat):Prop
 |nan (h:f=9221120237041090561) (hs:s= [110,97,110]) (hw:Lib.trimPrefix s [45]= [110,97,110])
 |inf (h:rung f=9218868437227405312) (hn:Lib.hasPrefix s [45]=isNeg f) (hw:Lib.trimPrefix s [45]= [105,110,102])
 |num (M:Nat) (e:Int) (h:rung f<9218868437227405312) (hn:Lib.hasPrefix s [45]=isNeg f) (hw:Lib.trimPrefix s [45]=dI M e) (hM:M<9007199254740992) (h0: -1074≤e) (h1:e≤1024) (hv:V (rung f)=M * 2 ^ (e+1074).toNat)
theorem rC.of {s:al} {f:Nat} (hf:Cn f) (hs:dr f=s):rC s f:=by
 subst hs;by_cases h1:isNan f=true
 · have e:f=9221120237041090561:=by have:=hf.one;unfold canon at this;rw [if_pos h1] at this;exact this.symm
   exact .nan e (uH h1) (by rw [uH h1];rfl)
 · have h1':isNan f=false:=by simpa using h1
   by_cases h2:rung f=9218868437227405312
   · have ht:dr f=ep (isNeg f)++ [105,110,102]:=pg h1' h2
     obtain ⟨a,b⟩:=yc (n:=isNeg f) (x:= [105,110,102]) (by decide);rw [←ht] at a b;exact .inf h2 a b
   · have h6:rung f≤9218868437227405312:=by simpa [isNan,rung] using h1'
     have hr:rung f<9218868437227405312:=by omega
     by_cases h3:rung f=0
     · have ht:dr f=ep (isNeg f)++dI 0 0:=by
        rw [ph h1' h2 h3]
        have:dI 0 0= [48,112,48]:=by
         have e0:Lib.decDigits 0= [48]:=Lib.decDigits_one (by decide);have e1:Lib.itoa 0=Lib.decDigits 0:=rfl;unfold dI;rw [e1,e0];rfl
        rw [this];rfl
       obtain ⟨a,b⟩:=yc (n:=isNeg f) (x:=dI 0 0) (head_ne (qD 0 0) (.inl (by decide)));rw [←ht] at a b;exact .num 0 0 hr a b (by decide) (by decide) (by decide) (by rw [h3,Nat.zero_mul];decide)
     · obtain ⟨o1,o2⟩:=pa _ (qC h3)
       have ht:dr f=ep (isNeg f)++dI (od (bx (rung f))) (dG (rung f)+v2 (bx (rung f))):=by
        rw [ox h1' h2 h3];unfold dI;rw [Dy];simp
       obtain ⟨a,b⟩:=yc (n:=isNeg f) (x:=dI (od (bx (rung f))) (dG (rung f)+v2 (bx (rung f)))) (head_ne (qD _ _) (.inl (by decide)));rw [←ht] at a b;have e1:=pH hr;have e2:=qK hr h3;refine .num _ _ hr a b ?_ (by omega) (by omega) ?_
       · have:=ri hr
         exact Nat.lt_of_le_of_lt (Nat.div_le_self _ _) this
       · rw [WS]
         conv=>lhs;rw [o1]
         rw [Nat.mul_assoc,←Nat.pow_add]
         congr 2;omega
theorem RT {M M':Nat} {e e':Int} (h:dI M e=dI M' e') (h0: -9223372036854775808≤e) (h1:e≤9223372036854775807) (h0': -9223372036854775808≤e') (h1':e'≤9223372036854775807):M=M'∧e=e':=by
 have i1:=Fu (a:=Lib.decDigits M) (b:=Lib.itoa e) (FK (u:=M));have i2:=Fu (a:=Lib.decDigits M') (b:=Lib.itoa e') (FK (u:=M'));unfold dI at h;rw [h,i2] at i1;have hl:(Lib.decDigits M).length=(Lib.decDigits M').length:=by omega
 obtain ⟨a,b⟩:=List.append_inj h hl;have hM:M=M':=by rw [←(gT M).2.1,a,(gT M').2.1]
 have he:Lib.itoa e=Lib.itoa e':=by injection b
 have a1:=yq h0 h1;rw [he,yq h0' h1'] at a1;injection a1 with a1
 exact ⟨hM,a1.symm⟩
theorem af1 {a b:Nat} (ha:Cn a) (hb:Cn b) (h:dr a=dr b):a=b:=by
 have w {f g:Nat} (hf:Cn f) (hg:Cn g) (h1:isNeg f=isNeg g) (h2:rung f=rung g):f=g:=by rw [←El hf.lt,←El hg.lt,h1,h2]
 cases rC.of ha h with
 |nan h1 hs hw=>
  cases rC.of hb rfl with
  |nan h2 _ _=>rw [h1,h2]
  |inf _ _ hw'=>rw [hw] at hw';exact absurd hw' (by decide)
  |num M e _ _ hw'=>exact absurd (by rw [←hw',hw];rfl) (head_ne (k:=110) (qD M e) (.inr (by decide)))
 |inf h1 hn hw=>
  cases rC.of hb rfl with
  |nan _ _ hw'=>rw [hw] at hw';exact absurd hw' (by decide)
  |inf h2 hn' _=>exact w ha hb (hn.symm.trans hn') (h1.trans h2.symm)
  |num M e _ _ hw'=>exact absurd (by rw [←hw',hw];rfl) (head_ne (k:=105) (qD M e) (.inr (by decide)))
 |num M e h1 hn hw hM he0 he1 hv=>
  cases rC.of hb rfl with
  |nan _ _ hw'=>exact absurd (by rw [←hw,hw'];rfl) (head_ne (k:=110) (qD M e) (.inr (by decide)))
  |inf _ _ hw'=>exact absurd (by rw [←hw,hw'];rfl) (head_ne (k:=105) (qD M e) (.inr (by decide)))
  |num M' e' h2 hn' hw' hM' he0' he1' hv'=>
   obtain ⟨rfl,rfl⟩:=RT (hw.symm.trans hw') (by omega) (by omega) (by omega) (by omega);exact w ha hb (hn.symm.trans hn') (WR.1 (hv.trans hv'.symm))
open Classical in
noncomputable def pf (s:al):Option Nat:=if h:∃f,Cn f∧dr f=s then some (Classical.choose h) else none
theorem nh {s:al} {f:Nat} (hf:Cn f) (h:dr f=s):pf s=some f:=by
 have he:∃f,Cn f∧dr f=s:=⟨f,hf,h⟩;unfold pf;rw [dif_pos he];obtain ⟨c1,c2⟩:=Classical.choose_spec he;rw [af1 c1 hf (c2.trans h.symm)]
theorem Dt {s:al} (h:∀f,Cn f→dr f≠s):pf s=none:=by
 unfold pf;rw [dif_neg (fun ⟨f,a,b⟩=>h f a b)]
theorem Mb {s:al} {f:Nat} (h:pf s=some f):Cn f∧dr f=s:=by
 by_cases he:∃f,Cn f∧dr f=s
 · obtain ⟨g,a,b⟩:=he
   rw [nh a b] at h;cases h;exact ⟨a,b⟩
 · unfold pf at h;rw [dif_neg he] at h;cases h
def rF (s:al) (x:Nat):Prop:=∀f,Cn f→dr f=s→dr (app (Lib.hasPrefix s [45]) x)=s
theorem adP {s:al} (h:Lib.trimPrefix s [45]= [110,97,110]):rF s 9221120237041090561:=fun f hf ht=>by
 have hn:∀b,dr (app b 9221120237041090561)= [110,97,110]:=fun b=>by cases b<;>(unfold dr;rw [if_pos (by decide)])
 rw [hn]
 cases rC.of hf ht with
 |nan _ hs _=>exact hs.symm
 |inf _ _ hw=>rw [h] at hw;exact absurd hw (by decide)
 |num M e _ _ hw=>exact absurd (by rw [←hw,h];rfl) (head_ne (k:=110) (qD M e) (.inr (by decide)))
theorem adO {s:al} (h:Lib.trimPrefix s [45]= [105,110,102]):rF s 9218868437227405312:=fun f hf ht=>by
 cases rC.of hf ht with
 |nan _ _ hw=>rw [h] at hw;exact absurd hw (by decide)
 |inf hr hn _=>
  have e:app (Lib.hasPrefix s [45]) 9218868437227405312=f:=by rw [hn,←hr,El hf.lt]
  rw [e,ht]
 |num M e _ _ hw=>exact absurd (by rw [←hw,h];rfl) (head_ne (k:=105) (qD M e) (.inr (by decide)))
theorem ZF {M r p:Nat} {e:Int} {f:Nat} (hp:p=1074) (h0: -1074≤e) (hr:V r=M * 2 ^ p) (hv:V f=M * 2 ^ (e+1074).toNat):Exact r e f:=
 ⟨(e+1074).toNat,p,by omega,by rw [hr,hv,Nat.mul_assoc,Nat.mul_assoc,Nat.mul_comm (2 ^ p)]⟩
theorem ZE {M r:Nat} {e:Int} {f:Nat} (h0: -1074≤e) (hr:V r=M * 2 ^ 1074) (hv:V f=M * 2 ^ (e+1074).toNat):Exact r e f:=ZF rfl h0 hr hv
theorem ad9:One Tryz.prog 5:=⟨_,fq,rfl,by kernel_rfl⟩
theorem MR:bC Tryz.prog 217:=⟨_,Tryz.func217,by kernel_rfl,rfl⟩
structure Gd (s:al):Prop where
 ne:s≠ []
 all:fT s
 lt:dC 0 s<9007199254740992
theorem Gd.dec {M:Nat} (h:M<9007199254740992):Gd (Lib.decDigits M):=⟨(gT M).2.2,(gT M).1,by rw [(gT M).2.1];exact h⟩
def yn (s:al) (n:Nat) (e:Value):Prop:=(e= .nilIface∧n<9007199254740992∧(Gd s→n=dC 0 s))∨(¬Gd s∧n<18446744073709551616∧∃c:Int,(c=1∨c=2)∧e= .iface 238 (.int .i64 c))
theorem Gd.at {s:al} (h:Gd s) {i:Nat} (hi:i<s.length):48≤(s.getD i 0).toNat∧(s.getD i 0).toNat≤57:=by
 have e:s.getD i 0=s[i]:=by simp [List.getD,List.getElem?_eq_getElem hi]
 rw [e];exact h.all _ (List.getElem_mem hi)
theorem ahh {s:al} {i:Nat} {v:Value} (hi:i<s.length) (h:(dq s)[i]? =some v):v= .int .u8 ((s.getD i 0).toNat:Int):=by
 have e:s.getD i 0=s[i]:=by simp [List.getD,List.getElem?_eq_getElem hi]
 simp [dq,List.getElem?_eq_getElem hi] at h;rw [e,←h]
theorem LW (c:Int) (w:World):be Tryz.prog 217 [.int .u8 c] w fun v w'=>v= .int .u8 (bits .or .u8 c 32)∧w'=w:=oG (Tryz.internal_strconv_lower c w)
theorem PG {s:al} {i n:Nat} (hi:i<s.length) (h:Gd s→n=dC 0 (s.take i)) (hg:Gd s):n * 10+((s.getD i 0).toNat - 48)=dC 0 (s.take (i+1))∧n * 10+((s.getD i 0).toNat - 48)<9007199254740992:=by
 have e:=IN hi;rw [←h hg] at e;have:=Zr s (i+1);have:=hg.lt;exact ⟨e.symm,by omega⟩
theorem ac1 (s:al) (hs:s.length≤281474976710656) (w:World):be Tryz.prog 199 [str s,.int .i64 10,.int .i64 53] w fun v w'=>(∃n e,v= .tuple #[.int .u64 (n:Nat),e]∧yn s n e)∧Below w.heap.size w w':=by
 have hb:=Below.refl w.heap.size w;refine enter Tryz.func199 rfl rfl rfl<|ao fun aZ=>am rfl<|am rfl<|an aZ<|ax fun _ bX=>ao fun cT=>ai rfl<|ah (fu rfl rfl) rfl<|an cT<|aH rfl (fun d1=>?_) (fun d1=>?_)
 ·
  have j8:=d1;simp only [DZ] at d1;refine ao fun ek=>ah (D1 Gt (by intro _ h;cases h) rfl) rfl<|am rfl<|am rfl<|an ek<|aK<|aQ<|dv rfl rfl rfl ?_
  exact ⟨_,rfl,⟨0,_,rfl,.inr ⟨fun h=>h.ne (by simpa using j8),by omega,2,.inr rfl,rfl⟩⟩,hb⟩
 have j8:=d1;simp only [DZ] at d1;refine aU<|aw bX<|ao fun eQ=>ai rfl<|ah (bA rfl rfl) rfl<|am rfl<|an eQ<|ao fun iA=>ai rfl<|am rfl<|an iA<|ax fun _ iV=>br<|ao fun fZ=>ai rfl<|ah (oB rfl rfl) rfl<|ai rfl<|cw rfl rfl rfl (fun kd=>?_) (fun kd=>?_)
 ·
  have gx:=kd;simp only [DZ] at kd;refine ai rfl<|aE rfl rfl gx<|ah (oB rfl rfl) rfl<|ah (bi rfl gx rfl) rfl<|am rfl<|an fZ<|aH rfl (fun pz=>?_) (fun pz=>?_)
  ·
   have Eu:=pz;simp only [DZ] at pz;refine aU<|bS<|aw iV<|ax fun _ jW=>ao fun iW=>ai rfl<|ah (bA rfl rfl) rfl<|an iW<|aH rfl (fun AF=>?_) (fun AF=>?_)
   ·
    have Oo:=AF;simp only [DZ] at AF
    cases Oo
   have Oo:=AF;simp only [DZ] at AF;refine ao fun mf=>ai rfl<|ah (cg rfl rfl) rfl<|ai rfl<|dP rfl rfl rfl (fun pZ=>?_) (fun pZ=>?_)
   ·
    have lj:=pZ;simp only [DZ] at pZ
    cases lj
   have lj:=pZ;simp only [DZ] at pZ;refine ai rfl<|aE rfl rfl lj<|ah (eW rfl rfl) rfl<|ah (bg rfl lj rfl) rfl<|an mf<|aH rfl (fun AH=>?_) (fun AH=>?_)
   ·
    have Oq:=AH;simp only [DZ] at AH
    cases Oq
   have Oq:=AH;simp only [DZ] at AH;refine aU<|aw jW<|ao fun ql=>am rfl<|an ql<|ax fun _ jj=>ao fun gd=>ai rfl<|an gd<|br<|ao fun nZ=>ah (bA rfl rfl) rfl<|am rfl<|an nZ<|aH rfl (fun AI=>?_) (fun AI=>?_)
   ·
    have Ot:=AI;simp only [DZ] at AI;refine aR<|am rfl<|ay<|bS<|aw jj<|ao fun qn=>ai rfl<|ah (ja jp Gq rfl) rfl<|ah (bt (Nl rfl rfl (by decide) (by decide)) (int_eq (show _=(9007199254740992:Int) by rfl))) rfl<|ah (bt (yj rfl rfl) (int_eq (show _=(9007199254740991:Int) by rfl))) rfl<|am rfl<|an qn<|ao fun qp=>am rfl<|an qp<|ao fun mm=>am rfl<|an mm<|ax fun _ kW=>ao fun jk=>ai rfl<|N5 bq dB fq rfl rfl ?_
    rintro jA qR ajz aiG aiH acG QQ;have:=QQ.size;have hb:=az hb QQ;have ly:=acG;refine ah (cG dB (by omega) rfl) rfl<|ai rfl<|an jk<|br<|cU (X:=Nat×Nat) (fun (i,n)=> [(0,str s),(1,.int .i64 10),(8,.bool false),(10,.int .u64 1844674407370955162),(11,.int .u64 9007199254740991),(12,.bool false),(13,.int .u64 (n:Int)),(99,.slice (some ⟨jA,0,none⟩) s.length qR),(100,.int .i64 (s.length:Int)),(101,.int .i64 (i:Int))]) (fun (i,n) wr=>i≤s.length∧n<9007199254740992∧Below w.heap.size w wr∧Rd wr 1 (some ⟨jA,0,none⟩) s.length (dq s)∧(Gd s→n=dC 0 (s.take i))) (fun (i,n)=>s.length - i) (⟨0,0⟩) ?_ ?_ ?_
    · exact by repeat first|exact aB|refine au rfl (by first|rfl|exact int_eq (by omega)) ?_
    · exact ⟨by omega,by omega,hb,ly,fun _=>rfl⟩
    rintro ⟨i,n⟩ wr mc _ yV;replace mc:i≤s.length∧n<9007199254740992∧Below w.heap.size w wr∧Rd wr 1 (some ⟨jA,0,none⟩) s.length (dq s)∧(Gd s→n=dC 0 (s.take i)):=mc;obtain ⟨hi,hn,hb,ly,hv⟩:=mc;show Wc _ _ _ _ _ [(0,str s),(1,.int .i64 10),(8,.bool false),(10,.int .u64 1844674407370955162),(11,.int .u64 9007199254740991),(12,.bool false),(13,.int .u64 (n:Int)),(99,.slice (some ⟨jA,0,none⟩) s.length qR),(100,.int .i64 (s.length:Int)),(101,.int .i64 (i:Int))] _;have:=hb.size;refine ao fun n8=>ah (cg rfl rfl) rfl<|an n8<|ax fun _ mp=>aH rfl (fun yv=>?_) (fun yv=>?_)
    ·
     have Xz:=yv;simp only [DZ] at yv;have hil:i<s.length:=by have:=yv;omega
     refine aU<|aw mp<|ax fun _ KY=>br<|ax fun _ kX=>?_
     obtain ⟨p_,v_,hpe,hve,hcell⟩:=ly.one (i:=i) hil
     cases hpe
     obtain ⟨q,hq,hq8,rfl⟩:∃q:Nat,q=(s.getD i 0).toNat∧q<256∧v_= .int .u8 (q:Int):=⟨_,rfl,UInt8.toNat_lt _,ahh hil hve⟩;refine aR<|ah (cx dB x8 rfl rfl (by omega) (by omega)) rfl<|aW (aI ad9 rfl (by exact gH hcell)) rfl<|am rfl<|an kX<|ao fun xw=>am rfl<|an xw<|ax fun _ xy=>br<|ax fun _ sL=>b9 (X:=Unit) (fun u_=> [(0,str s),(1,.int .i64 10),(8,.bool false),(10,.int .u64 1844674407370955162),(11,.int .u64 9007199254740991),(12,.bool false),(13,.int .u64 (n:Int)),(99,.slice (some ⟨jA,0,none⟩) s.length qR),(100,.int .i64 (s.length:Int)),(101,.int .i64 (i:Int)),(15,.int .u8 (q:Int)),(16,.int .u8 0),(106,.bool false)]) (fun u_ wr=>Below w.heap.size w wr∧Rd wr 1 (some ⟨jA,0,none⟩) s.length (dq s)) (fun _ Qx=>?_) ?_
     ·
      refine aR<|ai rfl<|ah (bA rfl rfl) rfl<|ai rfl<|cw rfl rfl rfl (fun sy=>?_) (fun sy=>?_)
      ·
       have p9:=sy;simp only [DZ] at sy;refine ai rfl<|ah (bi rfl p9 rfl) rfl<|am rfl<|ay<|aY Qx (()) (au rfl (by rfl) (au rfl (by rfl) (au rfl (by rfl) (au rfl (by rfl) (au rfl (by rfl) (au rfl (by rfl) (au rfl (by rfl) (au rfl (by rfl) (au rfl (by rfl) (au rfl (by rfl) (au rfl (by rfl) (au rfl (by rfl) (au rfl (by rfl) (aB)))))))))))))) ?_
       exact ⟨hb,ly⟩
      have p9:=sy;simp only [DZ] at sy;refine ah (bg rfl p9 rfl) rfl<|am rfl<|ay<|aY Qx (()) (au rfl (by rfl) (au rfl (by rfl) (au rfl (by rfl) (au rfl (by rfl) (au rfl (by rfl) (au rfl (by rfl) (au rfl (by rfl) (au rfl (by rfl) (au rfl (by rfl) (au rfl (by rfl) (au rfl (by rfl) (au rfl (by rfl) (au rfl (by rfl) (aB)))))))))))))) ?_
      exact ⟨hb,ly⟩
     rintro u_ wr xi;replace xi:Below w.heap.size w wr∧Rd wr 1 (some ⟨jA,0,none⟩) s.length (dq s):=xi;obtain ⟨hb,ly⟩:=xi;show Wq _ _ _ _ [(0,str s),(1,.int .i64 10),(8,.bool false),(10,.int .u64 1844674407370955162),(11,.int .u64 9007199254740991),(12,.bool false),(13,.int .u64 (n:Int)),(99,.slice (some ⟨jA,0,none⟩) s.length qR),(100,.int .i64 (s.length:Int)),(101,.int .i64 (i:Int)),(15,.int .u8 (q:Int)),(16,.int .u8 0),(106,.bool false)] _;have:=hb.size;refine aw sL<|aH rfl (fun Es=>?_) (fun Es=>?_)
     ·
      have Oj:=Es
      cases Oj
     have Oj:=Es;simp only [DZ] at Es;refine ax fun _ mq=>b9 (X:=Bool) (fun g=> [(0,str s),(1,.int .i64 10),(8,.bool false),(10,.int .u64 1844674407370955162),(11,.int .u64 9007199254740991),(12,.bool false),(13,.int .u64 (n:Int)),(99,.slice (some ⟨jA,0,none⟩) s.length qR),(100,.int .i64 (s.length:Int)),(101,.int .i64 (i:Int)),(15,.int .u8 (q:Int)),(16,.int .u8 0),(112,.bool g)]) (fun g wr=>Below w.heap.size w wr∧Rd wr 1 (some ⟨jA,0,none⟩) s.length (dq s)∧g=decide (48≤q∧q≤57)) (fun _ CO=>?_) ?_
     ·
      refine aR<|ai rfl<|ah (oB rfl rfl) rfl<|ai rfl<|cw rfl rfl rfl (fun sa=>?_) (fun sa=>?_)
      ·
       have A5:=sa;simp only [DZ] at sa;refine ai rfl<|aE rfl rfl A5<|ah (oB rfl rfl) rfl<|ah (bi rfl A5 rfl) rfl<|am rfl<|ay<|aY CO (decide (48≤q∧q≤57)) (by repeat first|exact aB|refine au rfl (by first|rfl|exact aP (decide_eq_decide.2 (by have:=sa;omega))|exact aP (decide_eq_false (by have:=sa;omega)).symm) ?_) ?_
       exact ⟨hb,ly,rfl⟩
      have A5:=sa;simp only [DZ] at sa;refine aA rfl rfl A5 rfl rfl<|ah (bg rfl A5 rfl) rfl<|am rfl<|ay<|aY CO (decide (48≤q∧q≤57)) (by repeat first|exact aB|refine au rfl (by first|rfl|exact aP (decide_eq_decide.2 (by have:=sa;omega))|exact aP (decide_eq_false (by have:=sa;omega)).symm) ?_) ?_
      exact ⟨hb,ly,rfl⟩
     rintro g wr Jk;replace Jk:Below w.heap.size w wr∧Rd wr 1 (some ⟨jA,0,none⟩) s.length (dq s)∧g=decide (48≤q∧q≤57):=Jk;obtain ⟨hb,ly,hg⟩:=Jk;show Wq _ _ _ _ [(0,str s),(1,.int .i64 10),(8,.bool false),(10,.int .u64 1844674407370955162),(11,.int .u64 9007199254740991),(12,.bool false),(13,.int .u64 (n:Int)),(99,.slice (some ⟨jA,0,none⟩) s.length qR),(100,.int .i64 (s.length:Int)),(101,.int .i64 (i:Int)),(15,.int .u8 (q:Int)),(16,.int .u8 0),(112,.bool g)] _;have:=hb.size;refine aw mq<|b9 (X:=Int) (fun d=> [(0,str s),(1,.int .i64 10),(8,.bool false),(10,.int .u64 1844674407370955162),(11,.int .u64 9007199254740991),(12,.bool false),(13,.int .u64 (n:Int)),(99,.slice (some ⟨jA,0,none⟩) s.length qR),(100,.int .i64 (s.length:Int)),(101,.int .i64 (i:Int)),(16,.int .u8 d)]) (fun d wr=>Below w.heap.size w wr∧Rd wr 1 (some ⟨jA,0,none⟩) s.length (dq s)∧0≤d∧d<256∧((d=(q:Int) - 48∧48≤q∧q≤57)∨(¬Gd s∧10≤d))) (fun _ PX=>?_) ?_
     ·
      refine aH rfl (fun Hu=>?_) (fun Hu=>?_)
      ·
       have Hv:=Hu;have hq9:48≤q∧q≤57:=by have h:=Hv;rw [hg] at h;exact of_decide_eq_true h
       obtain ⟨d_,CP⟩:∃d_:Int,d_=IntKind.u8.wrap ((q:Int) - 48):=⟨_,rfl⟩;have hdd:0≤d_∧d_<256∧((d_=(q:Int) - 48∧48≤q∧q≤57)∨(¬Gd s∧10≤d_)):=by rw [CP,wrap_u8 _ (by omega) (by omega)];omega
       refine aR<|ai rfl<|ah (yj rfl rfl) rfl<|am rfl<|ay<|aY PX (d_) (by repeat first|exact aB|refine au rfl (by first|rfl|exact int_eq CP.symm) ?_) ?_
       exact ⟨hb,ly,hdd⟩
      have Hv:=Hu;have hq9:¬(48≤q∧q≤57):=by have h:=Hv;rw [hg] at h;exact of_decide_eq_false h
      have hng:¬Gd s:=fun h=>hq9 (by have h2:=h.at hil;rw [←hq] at h2;exact h2);refine ax fun _ xk=>b9 (X:=Bool) (fun l=> [(0,str s),(1,.int .i64 10),(8,.bool false),(10,.int .u64 1844674407370955162),(11,.int .u64 9007199254740991),(12,.bool false),(13,.int .u64 (n:Int)),(99,.slice (some ⟨jA,0,none⟩) s.length qR),(100,.int .i64 (s.length:Int)),(101,.int .i64 (i:Int)),(15,.int .u8 (q:Int)),(16,.int .u8 0),(121,.bool l)]) (fun l wr=>Below w.heap.size w wr∧Rd wr 1 (some ⟨jA,0,none⟩) s.length (dq s)∧l=decide (97≤bits .or .u8 (q:Int) 32∧bits .or .u8 (q:Int) 32≤122)) (fun _ PZ=>?_) ?_
      ·
       refine aR<|ai rfl<|aS MR rfl rfl (LW _ _) rfl ?_
       rintro _ w_ ⟨rfl,bf⟩;have bf:=bf.symm;subst bf;refine ah (oB rfl rfl) rfl<|ai rfl<|cw rfl rfl rfl (fun se=>?_) (fun se=>?_)
       ·
        have ws:=se;simp only [DZ] at se;refine ai rfl<|aE rfl rfl ws<|aS MR rfl rfl (LW _ _) rfl ?_
        rintro _ w_ ⟨rfl,bf⟩;have bf:=bf.symm;subst bf;refine aE rfl rfl ws<|ah (oB rfl rfl) rfl<|ah (bi rfl ws rfl) rfl<|am rfl<|ay<|aY PZ (decide (97≤bits .or .u8 (q:Int) 32∧bits .or .u8 (q:Int) 32≤122)) (by repeat first|exact aB|refine au rfl (by first|rfl|exact aP (decide_eq_decide.2 (by have:=se;omega))|exact aP (decide_eq_false (by have:=se;omega)).symm) ?_) ?_
        exact ⟨hb,ly,rfl⟩
       have ws:=se;simp only [DZ] at se;refine aA rfl rfl ws rfl rfl<|aA rfl rfl ws rfl rfl<|ah (bg rfl ws rfl) rfl<|am rfl<|ay<|aY PZ (decide (97≤bits .or .u8 (q:Int) 32∧bits .or .u8 (q:Int) 32≤122)) (by repeat first|exact aB|refine au rfl (by first|rfl|exact aP (decide_eq_decide.2 (by have:=se;omega))|exact aP (decide_eq_false (by have:=se;omega)).symm) ?_) ?_
       exact ⟨hb,ly,rfl⟩
      rintro l wr Jr;replace Jr:Below w.heap.size w wr∧Rd wr 1 (some ⟨jA,0,none⟩) s.length (dq s)∧l=decide (97≤bits .or .u8 (q:Int) 32∧bits .or .u8 (q:Int) 32≤122):=Jr;obtain ⟨hb,ly,hl⟩:=Jr;show Wq _ _ _ _ [(0,str s),(1,.int .i64 10),(8,.bool false),(10,.int .u64 1844674407370955162),(11,.int .u64 9007199254740991),(12,.bool false),(13,.int .u64 (n:Int)),(99,.slice (some ⟨jA,0,none⟩) s.length qR),(100,.int .i64 (s.length:Int)),(101,.int .i64 (i:Int)),(15,.int .u8 (q:Int)),(16,.int .u8 0),(121,.bool l)] _;have:=hb.size;refine aw xk<|aH rfl (fun Hw=>?_) (fun Hw=>?_)
      ·
       have Ol:=Hw;have hlo:97≤bits .or .u8 (q:Int) 32∧bits .or .u8 (q:Int) 32≤122:=by have h:=Ol;rw [hl] at h;exact of_decide_eq_true h
       obtain ⟨d_,CP⟩:∃d_:Int,d_=IntKind.u8.wrap (IntKind.u8.wrap (bits .or .u8 (q:Int) 32 - 97)+10):=⟨_,rfl⟩;have hdd:0≤d_∧d_<256∧((d_=(q:Int) - 48∧48≤q∧q≤57)∨(¬Gd s∧10≤d_)):=by rw [CP,wrap_u8 (bits .or .u8 (q:Int) 32 - 97) (by omega) (by omega),wrap_u8 _ (by omega) (by omega)];exact ⟨by omega,by omega,.inr ⟨hng,by omega⟩⟩
       refine aR<|ai rfl<|aS MR rfl rfl (LW _ _) rfl ?_
       rintro _ w_ ⟨rfl,bf⟩;have bf:=bf.symm;subst bf;refine ah (yj rfl rfl) rfl<|ah (zG rfl rfl) rfl<|am rfl<|ay<|aY PX (d_) (by repeat first|exact aB|refine au rfl (by first|rfl|exact int_eq CP.symm) ?_) ?_
       exact ⟨hb,ly,hdd⟩
      have Ol:=Hw;refine ao fun Cj=>ah (D1 Gt (by intro _ h;cases h) rfl) rfl<|am rfl<|am rfl<|an Cj<|aK<|aQ (bE (aQ (bE (aQ (aQ (bE (aQ ?_)))))))
      refine dv rfl rfl rfl ?_;exact ⟨_,rfl,⟨0,_,rfl,.inr ⟨hng,by omega,2,.inr rfl,rfl⟩⟩,hb⟩
     rintro d wr wN;replace wN:Below w.heap.size w wr∧Rd wr 1 (some ⟨jA,0,none⟩) s.length (dq s)∧0≤d∧d<256∧((d=(q:Int) - 48∧48≤q∧q≤57)∨(¬Gd s∧10≤d)):=wN;obtain ⟨hb,ly,hd0,hd1,hdd⟩:=wN;show Wq _ _ _ _ [(0,str s),(1,.int .i64 10),(8,.bool false),(10,.int .u64 1844674407370955162),(11,.int .u64 9007199254740991),(12,.bool false),(13,.int .u64 (n:Int)),(99,.slice (some ⟨jA,0,none⟩) s.length qR),(100,.int .i64 (s.length:Int)),(101,.int .i64 (i:Int)),(16,.int .u8 d)] _;have:=hb.size;refine bS<|aw xy<|ax fun _ xn=>ao fun sI=>ai rfl<|ai rfl<|ah (bt (ja jp fq rfl) (int_eq (show _=(10:Int) by rfl))) rfl<|ah (jb rfl rfl) rfl<|an sI<|aH rfl (fun u3=>?_) (fun u3=>?_)
     ·
      have XA:=u3;simp only [DZ] at u3;refine ao fun Cm=>ah (D1 Gt (by intro _ h;cases h) rfl) rfl<|am rfl<|am rfl<|an Cm<|aK<|aQ (bE (aQ (aQ (bE (aQ ?_)))))
      refine dv rfl rfl rfl ?_;exact ⟨_,rfl,⟨0,_,rfl,.inr ⟨by rcases hdd with h|h;(have:=u3;omega);exact h.1,by omega,2,.inr rfl,rfl⟩⟩,hb⟩
     have XA:=u3;simp only [DZ] at u3;obtain ⟨e,rfl⟩:∃e:Nat,d=e:=⟨d.toNat,by omega⟩;have he:(e:Int)=(q:Int) - 48∧e<10:=by have:=u3;omega
     refine aU<|aw xn<|ax fun _ KA=>ao fun KB=>ai rfl<|ai rfl<|ah (jb rfl rfl) rfl<|an KB<|aH rfl (fun Ab=>?_) (fun Ab=>?_)
     ·
      have XB:=Ab;simp only [DZ] at Ab;omega
     have XB:=Ab;simp only [DZ] at Ab;refine aU<|aw KA<|ao fun E5=>ai rfl<|ai rfl<|ah (bt (ja jp nn rfl) (int_eq (show _=(10:Int) by rfl))) rfl<|ah (bt (Nh rfl rfl) (int_eq (show _=((n * 10:Nat):Int) by rw [wrap_u64 _ (by omega) (by omega)];omega))) rfl<|am rfl<|an E5<|ao fun xp=>ai rfl<|ai rfl<|ah (bt (ja fq nn rfl) (int_eq (show _=(e:Int) by rw [wrap_u64 _ (by omega) (by omega)]))) rfl<|ah (bt (zG rfl rfl) (int_eq (show _=((n * 10+e:Nat):Int) by rw [wrap_u64 _ (by omega) (by omega)];omega))) rfl<|am rfl<|an xp<|ax fun _ KF=>ao fun KG=>ai rfl<|ai rfl<|ah (cg rfl rfl) rfl<|ai rfl<|dP rfl rfl rfl (fun Bn=>?_) (fun Bn=>?_)
     ·
      have EV:=Bn;simp only [DZ] at Bn;omega
     have EV:=Bn;simp only [DZ] at Bn;refine ai rfl<|aE rfl rfl EV<|ai rfl<|aE rfl rfl EV<|ah (eW rfl rfl) rfl<|ah (bg rfl EV rfl) rfl<|an KG<|aH rfl (fun yw=>?_) (fun yw=>?_)
     ·
      have XC:=yw;simp only [DZ] at yw;refine ao fun KJ=>ai rfl<|ah (D1 Gt (by intro _ h;cases h) rfl) rfl<|am rfl<|am rfl<|an KJ<|aK<|aQ (bE (aQ (aQ (bE (aQ ?_)))))
      refine dv rfl rfl rfl ?_;exact ⟨_,rfl,⟨9007199254740991,_,rfl,.inr ⟨fun hg=>by have h:=(PG hil hv hg).2;have:=yw;rw [←hq] at h;omega,by omega,1,.inl rfl,rfl⟩⟩,hb⟩
     have XC:=yw;simp only [DZ] at yw;refine aU<|aw KF<|aR<|ai rfl<|am rfl<|ay<|bS<|aw KY<|aR<|ah (bH rfl rfl (by omega) (by omega)) rfl<|ai rfl<|ay<|fun a_ bn=>yV _ _ (⟨i+1,n * 10+e⟩) (by simp;omega) (by repeat first|exact aB|refine au rfl (by first|rfl|exact int_eq (by omega)) ?_) ?_ a_ bn
     exact ⟨by omega,by omega,hb,ly,fun hg=>by have h:=(PG hil hv hg).1;rw [←hq] at h;rw [←h];omega⟩
    have Xz:=yv;simp only [DZ] at yv;refine cN<|bD<|bD<|cO<|aw kW<|ax fun _ KN=>ao fun Cr=>ai rfl<|ai rfl<|cw rfl rfl rfl (fun EW=>?_) (fun EW=>?_)
    ·
     have Bp:=EW
     cases Bp
    have Bp:=EW;simp only [DZ] at EW;refine aA rfl rfl Bp rfl rfl<|aA rfl rfl Bp rfl rfl<|ah (bg rfl Bp rfl) rfl<|an Cr<|pt rfl rfl<|aU<|aw KN<|ao fun E7=>ai rfl<|am rfl<|am rfl<|an E7<|aK<|dv rfl rfl rfl ?_
    exact ⟨_,rfl,⟨_,_,rfl,.inl ⟨rfl,hn,fun hg=>by rw [hv hg,List.take_of_length_le (by omega)]⟩⟩,hb⟩
   have Ot:=AI;simp only [DZ] at AI
   cases Ot
  have Eu:=pz;simp only [DZ] at pz
  cases Eu
 have gx:=kd;simp only [DZ] at kd
 cases gx
theorem Ts:bC Tryz.prog 106:=⟨_,Tryz.func106,by kernel_rfl,rfl⟩
theorem Ty:bC Tryz.prog 136:=⟨_,Tryz.func136,by kernel_rfl,rfl⟩
theorem MQ:bC Tryz.prog 176:=⟨_,Tryz.func176,by kernel_rfl,rfl⟩
theorem agG:bC Tryz.prog 182:=⟨_,Tryz.func182,by kernel_rfl,rfl⟩
theorem agK:bC Tryz.prog 199:=⟨_,Tryz.func199,by kernel_rfl,rfl⟩
theorem agL:bC Tryz.prog 202:=⟨_,Tryz.func202,by kernel_rfl,rfl⟩
theorem agN:bC Tryz.prog 210:=⟨_,Tryz.func210,by kernel_rfl,rfl⟩
theorem cell_of {w:World} {nm:String} {g:Nat} {v:Value} (hg:Tryz.prog.globalNamed nm=some g) (h:World.var? Tryz.prog w nm=some #[v]):w.cell? ⟨g,0,none⟩=some v:=by
 have h0:=World.var?_cell hg h 0;simpa using h0
theorem af3 (fn s:al) (base bs:Int) (c:Int) (hc:c=1∨c=2) (hs:s.length≤281474976710656) (w:World) (hL:Lb w):be Tryz.prog 182 [str fn,str s,.int .i64 base,.int .i64 bs,.iface 238 (.int .i64 c)] w fun v w'=>(∃t p,v= .iface t p)∧Below w.heap.size w w':=by
 have hs':(⟨s.toArray⟩:ByteArray).size≤281474976710656:=by rw [mG];exact hs
 rcases hc with rfl|rfl
 · obtain ⟨tp,p,hv⟩:=hL.rng
   exact Calls.mono (Tryz.strconv_toError_range ⟨fn.toArray⟩ ⟨s.toArray⟩ base bs _ w hs' (cell_of (by kernel_rfl) hv) (.inr ⟨_,_,rfl⟩)) fun e w' ⟨N,h1,_,_,h2⟩=>⟨_,h1,⟨_,_,rfl⟩,h2⟩
 · obtain ⟨tp,p,hv⟩:=hL.syn
   exact Calls.mono (Tryz.strconv_toError_syntax ⟨fn.toArray⟩ ⟨s.toArray⟩ base bs _ w hs' (cell_of (by kernel_rfl) hv) (.inr ⟨_,_,rfl⟩)) fun e w' ⟨N,h1,_,_,h2⟩=>⟨_,h1,⟨_,_,rfl⟩,h2⟩
def uL (s:al) (n:Nat) (e:Value):Prop:=zM e∧(fz e=true→n<9007199254740992∧(Gd s→n=dC 0 s))∧(fz e=false→¬Gd s)∧n<18446744073709551616
theorem uL.of {s:al} {n:Nat} {e:Value} (h:yn s n e):uL s n e:=by
 rcases h with ⟨rfl,h1,h2⟩|⟨h1,h2,c,hc,rfl⟩
 · exact ⟨.inl rfl,fun _=>⟨h1,h2⟩,fun h=>(by cases h),by omega⟩
 · exact ⟨.inr ⟨_,_,rfl⟩,fun h=>(by cases h),fun _=>h1,h2⟩
theorem yn.bad {s:al} {n:Nat} {e:Value} (h:yn s n e) (he:fz e=false):∃c:Int,(c=1∨c=2)∧e= .iface 238 (.int .i64 c):=by
 rcases h with ⟨rfl,h1,h2⟩|⟨h1,h2,c,hc,rfl⟩
 · cases he
 · exact ⟨c,hc,rfl⟩
theorem yn.good {s:al} {n:Nat} {e:Value} (h:yn s n e) (he:fz e=true):n<9007199254740992∧(Gd s→n=dC 0 s):=by
 rcases h with ⟨rfl,h1,h2⟩|⟨h1,h2,c,hc,rfl⟩
 · exact ⟨h1,h2⟩
 · cases he
theorem Vv (s:al) (hs:s.length≤281474976710656) (w:World) (hL:Lb w):be Tryz.prog 177 [str s,.int .i64 10,.int .i64 53] w fun v w'=>(∃n e,v= .tuple #[.int .u64 (n:Nat),e]∧uL s n e)∧Below w.heap.size w w':=by
 have hb:=Below.refl w.heap.size w;have bw:=hL;refine enter Tryz.func177 rfl rfl rfl<|ao fun aZ=>am rfl<|am rfl<|an aZ<|ao fun bX=>ai rfl<|ai rfl<|ai rfl<|aS agK rfl rfl (ac1 s hs _) rfl ?_
 rintro _ cq ⟨⟨n,e,rfl,hU⟩,bm⟩;have:=bm.size;have hb:=az hb bm;have hL:=bw.below hb;refine ai rfl<|ah (bP rfl rfl) rfl<|ah (bP rfl rfl) rfl<|am rfl<|am rfl<|an bX<|ax fun _ eR=>ao fun fj=>ai rfl<|ah (Nj (by kernel_rfl) rfl ((uL.of hU).1)) rfl<|an fj<|aH rfl (fun nA=>?_) (fun nA=>?_)
 ·
  have z7:=nA;simp only [DZ] at nA;obtain ⟨c,hc,rfl⟩:=hU.bad (by have h:=z7;simpa using h);refine ao fun gJ=>ai rfl<|ai rfl<|ai rfl<|ai rfl<|ai rfl<|aS agG rfl rfl (af3 _ s _ _ c hc hs _ hL) rfl ?_
  rintro _ ft ⟨⟨t,p,rfl⟩,bp⟩;have:=bp.size;have hb:=az hb bp;have hL:=bw.below hb;refine am rfl<|am rfl<|an gJ<|aK<|aQ<|dv rfl rfl rfl ?_
  exact ⟨_,rfl,⟨n,_,rfl,.inr ⟨_,_,rfl⟩,fun h=>(by cases h),fun _=>(uL.of hU).2.2.1 rfl,(uL.of hU).2.2.2⟩,hb⟩
 have z7:=nA;simp only [DZ] at nA;refine aU<|aw eR<|ao fun eG=>ai rfl<|am rfl<|am rfl<|an eG<|aK<|dv rfl rfl rfl ?_
 exact ⟨_,rfl,⟨n,_,rfl,.inl rfl,fun _=>hU.good (by have h:=z7;simpa using h),fun h=>(by cases h),(uL.of hU).2.2.2⟩,hb⟩
theorem Vb (s:al) (w:World):be Tryz.prog 106 [str s,str [112]] w fun v w'=>(∃z,v= .int .i64 z∧z=Lib.indexByte s 112)∧w'=w:=
 Calls.mono (Tryz.stringslite_Index_one ⟨s.toArray⟩ 112 w) fun e w' ⟨h1,h2⟩=>⟨_,h1,⟨_,rfl,rfl⟩,h2⟩
def j9 (s:al):al×al:=if 0≤Lib.indexByte s 112 then (s.take (Lib.indexByte s 112).toNat,s.drop ((Lib.indexByte s 112).toNat+1)) else (s,[])
theorem Zd (M:Nat) (e:Int):j9 (dI M e)=(Lib.decDigits M,Lib.itoa e):=by
 have h:=Fu (a:=Lib.decDigits M) (b:=Lib.itoa e) (FK (u:=M));unfold j9 dI;rw [h,if_pos (by omega),Int.toNat_natCast];simp
theorem OF (s:al):(j9 s).1.length≤s.length∧(j9 s).2.length≤s.length:=by
 unfold j9;split<;>simp<;>omega
theorem QX {s:al} {o:Nat} (h:Lib.indexByte s 112=(o:Int)):o<s.length:=by
 have:=(Lib.indexByte_some h).1;exact (List.getElem?_eq_some_iff.1 this).1
theorem acZ (s:al) (hs:s.length≤281474976710656) (w:World):be Tryz.prog 136 [str s,str [112]] w fun v w'=>(∃b,v= .tuple #[str (j9 s).1,str (j9 s).2,.bool b])∧Below w.heap.size w w':=by
 have h11:([112]:al).length=1:=rfl;have hb:=Below.refl w.heap.size w;refine enter Tryz.func136 rfl rfl rfl<|ao fun aZ=>am rfl<|am rfl<|am rfl<|an aZ<|ax fun _ cT=>ao fun ex=>ai rfl<|ai rfl<|aS Ts rfl rfl (Vb s _) rfl ?_
 rintro _ w_ ⟨⟨z,rfl,hz⟩,bf⟩;have bf:=bf.symm;subst bf;refine am rfl<|an ex<|ao fun d7=>ai rfl<|ah (jb rfl rfl) rfl<|an d7<|aH rfl (fun dR=>?_) (fun dR=>?_)
 ·
  have nz:=dR;simp only [DZ] at dR;obtain ⟨o,rfl⟩:∃o:Nat,z=o:=⟨z.toNat,by have:=dR;omega⟩;have ho:=QX hz.symm;refine ax fun _ fj=>ju (by kernel_rfl) (by kernel_rfl)<|aC (bl rfl) rfl<|aC (bl rfl) rfl<|aC (rz bq rfl rfl (by omega) (by omega)) rfl<|aC (bl rfl) rfl<|aC (bl rfl) rfl<|aC (bl rfl) rfl<|aC (dF bq (by omega) rfl) rfl<|aC (bH rfl rfl (by omega) (by omega)) rfl<|aC (oC bq rfl rfl (by omega) (by omega)) rfl<|aC (cX rfl) rfl<|aC (cX rfl) rfl<|aC (cX rfl) rfl<|dZ fun M8 jm=>?_
  have:=jm.size;have hb:=az hb jm;refine aw fj<|aK<|aQ<|qG rfl rfl rfl rfl ?_
  exact ⟨_,rfl,⟨true,by unfold j9;rw [←hz,if_pos (by omega),Int.toNat_natCast];rfl⟩,hb⟩
 have nz:=dR;simp only [DZ] at dR;refine aU<|aw cT<|ao fun eG=>ai rfl<|am rfl<|am rfl<|am rfl<|an eG<|aK<|qG rfl rfl rfl rfl ?_
 exact ⟨_,rfl,⟨false,by unfold j9;rw [←hz,if_neg (by have:=dR;omega)];rfl⟩,hb⟩
theorem UQ (s:al) (hs:s.length≤281474976710656) (w:World):be Tryz.prog 95 [str s,str [112]] w fun v w'=>(∃b,v= .tuple #[str (j9 s).1,str (j9 s).2,.bool b])∧Below w.heap.size w w':=by
 have hb:=Below.refl w.heap.size w;refine enter Tryz.func95 rfl rfl rfl<|ao fun aZ=>am rfl<|am rfl<|am rfl<|an aZ<|ao fun cT=>ai rfl<|ai rfl<|aS Ty rfl rfl (acZ s hs _) rfl ?_
 rintro _ cq ⟨⟨b,rfl⟩,bm⟩;have:=bm.size;have hb:=az hb bm;refine ah (bP rfl rfl) rfl<|ah (bP rfl rfl) rfl<|ah (bP rfl rfl) rfl<|am rfl<|am rfl<|am rfl<|an cT<|aK<|qG rfl rfl rfl rfl ?_
 exact ⟨_,rfl,⟨b,rfl⟩,hb⟩
def UH (s:al) (v:Value):Prop:=∃n e,v= .tuple #[.int .i64 n,e]∧zM e∧((Lib.atoiAll s= .ok n∧fz e=true)∨((∀k,Lib.atoiAll s≠ .ok k)∧fz e=false))
theorem UK (s:al) (hs:s.length≤281474976710656) (w:World) (hL:Lb w):be Tryz.prog 178 [str s] w fun v w'=>UH s v∧Below w.heap.size w w':=by
 have hs':(⟨s.toArray⟩:ByteArray).size≤281474976710656:=by rw [mG];exact hs
 rcases h:Lib.atoiAll s with v|_|_
 · exact Calls.mono (Tryz.strconv_Atoi_ok ⟨s.toArray⟩ (by omega) v h w) fun e w' ⟨h1,h2⟩=>⟨_,h1,⟨v,_,rfl,.inl rfl,.inl ⟨h,rfl⟩⟩,by
    rcases h2 with rfl|⟨t,rfl⟩
    · exact Below.refl _ _
    · exact Of w t⟩
 · obtain ⟨tp,p,hv⟩:=hL.syn
   exact Calls.mono (Any.strconv_Atoi_syntax_var GU ⟨s.toArray⟩ hs' h tp p w hv) fun e w' ⟨N,h1,_,_,h2⟩=>⟨_,h1,⟨_,_,rfl,.inr ⟨_,_,rfl⟩,.inr ⟨fun k hk=>(by rw [h] at hk;cases hk),rfl⟩⟩,h2⟩
 · obtain ⟨tp,p,hv⟩:=hL.rng
   exact Calls.mono (Any.strconv_Atoi_range_var GU ⟨s.toArray⟩ hs' h tp p w hv) fun e w' ⟨N,h1,_,_,h2⟩=>⟨_,h1,⟨_,_,rfl,.inr ⟨_,_,rfl⟩,.inr ⟨fun k hk=>(by rw [h] at hk;cases hk),rfl⟩⟩,h2⟩
theorem Nx (w:World):be Tryz.prog 176 [.int .i64 1] w fun v w'=>v= .float .f64 9218868437227405312∧w'=w:=by
 refine enter Tryz.func176 rfl rfl rfl<|ao fun aZ=>am rfl<|an aZ<|ao fun bJ=>am rfl<|an bJ<|ax fun _ cT=>ao fun ex=>ai rfl<|ah (jb rfl rfl) rfl<|an ex<|aH rfl (fun dY=>?_) (fun dY=>?_)
 ·
  have jw:=dY;simp only [DZ] at dY;refine aR<|am rfl<|an cT<|ao fun d7=>ai rfl<|ah (qN pG rfl rfl) rfl<|am rfl<|an d7<|aK<|bj rfl rfl ?_
  exact ⟨_,rfl,rfl,rfl⟩
 have jw:=dY;simp only [DZ] at dY;exact absurd dY (by decide)
theorem Vd (w:World):be Tryz.prog 176 [.int .i64 (-1)] w fun v w'=>v= .float .f64 18442240474082181120∧w'=w:=by
 refine enter Tryz.func176 rfl rfl rfl<|ao fun aZ=>am rfl<|an aZ<|ao fun bJ=>am rfl<|an bJ<|ax fun _ cT=>ao fun ex=>ai rfl<|ah (jb rfl rfl) rfl<|an ex<|aH rfl (fun dY=>?_) (fun dY=>?_)
 ·
  have jw:=dY;simp only [DZ] at dY;exact absurd dY (by decide)
 have jw:=dY;simp only [DZ] at dY;refine aR<|am rfl<|an cT<|ao fun d7=>ai rfl<|ah (qN pG rfl rfl) rfl<|am rfl<|an d7<|aK<|bj rfl rfl ?_
 exact ⟨_,rfl,rfl,rfl⟩
theorem Xd (b:Nat) (h:b<9223372036854775808):bits .and .u64 (b:Int) 9223372036854775808=0:=by
 have h1:=u64_and_nat b 9223372036854775808 (by omega) (by decide);rw [show ((9223372036854775808:Nat):Int)=9223372036854775808 from rfl] at h1
 have h2:b &&& 2 ^ 63=0:=by
  apply Nat.eq_of_testBit_eq;intro i
  rw [Nat.testBit_and,Nat.testBit_two_pow,Nat.zero_testBit];by_cases hi:63=i
  · subst hi;rw [Nat.testBit_lt_two_pow (by simpa using h)];rfl
  · simp [hi]
 rw [h1,show (9223372036854775808:Nat)=2 ^ 63 by decide,h2];rfl
theorem UO (b:Nat) (h:b<9223372036854775808) (w:World):be Tryz.prog 210 [.float .f64 0,.float .f64 b] w fun v w'=>v= .float .f64 0∧w'=w:=by
 refine enter Tryz.func210 rfl rfl rfl<|ao fun aZ=>am rfl<|an aZ<|ao fun bJ=>ai rfl<|ah (jI jx rfl rfl) rfl<|ah (bt (GD rfl rfl) (int_eq (show _=(0:Int) by rfl))) rfl<|ai rfl<|ah (jI jx rfl rfl) rfl<|ah (bt (zH rfl rfl) (int_eq (Xd b h))) rfl<|ah (bt (Nk rfl rfl) (int_eq (show _=(0:Int) by rfl))) rfl<|ah (qN pG rfl rfl) rfl<|am rfl<|an bJ<|aK<|bj rfl rfl ?_
 exact ⟨_,rfl,rfl,rfl⟩
theorem aic {k:Int} {f:Nat} (h:Exact 0 k f):f=0:=by
 obtain ⟨t,u,_,hv⟩:=h;rw [show V 0=0 by decide,Nat.zero_mul] at hv
 rcases Nat.mul_eq_zero.1 hv.symm with h|h
 · exact zT.1 h
 · exact absurd h (Nat.ne_of_gt (Nat.two_pow_pos u))
theorem Xc (b:Nat) (h:b<4503599627370496):bits .and .i64 (b:Int) 2047=((b % 2048:Nat):Int):=by
 have hb:(BitVec.ofInt 64 (b:Int)).toNat=b:=by rw [BitVec.toNat_ofInt];omega
 have hc:(BitVec.ofInt 64 (2047:Int)).toNat=2 ^ 11 - 1:=by decide
 show IntKind.i64.wrap ((BitVec.ofInt 64 (b:Int) &&& BitVec.ofInt 64 (2047:Int)).toNat:Int)=_;rw [BitVec.toNat_and,hb,hc,Nat.and_two_pow_sub_one_eq_mod];rw [wrap_i64 _ (by omega) (by omega)]
theorem ad1 (r:Nat) (h0:4503599627370496≤r) (h1:r<9218868437227405312) (w:World):be Tryz.prog 193 [.float .f64 r] w fun v w'=>v= .tuple #[.float .f64 r,.int .i64 0]∧w'=w:=
 (RQ r (by omega) h1 w).mono fun v w' ⟨⟨r',s,hv,hN⟩,hw⟩=>by
  obtain ⟨_,_,h|⟨_,rfl,rfl⟩⟩:=hN
  · omega
  · exact ⟨hv,hw⟩
theorem S5 (q:Nat) (h:q≤2046):IntKind.u64.wrap ((q:Int) * 2 ^ (52:Int).toNat)=((q * 4503599627370496:Nat):Int):=by
 rw [show (2:Int) ^ (52:Int).toNat=4503599627370496 by decide,wrap_u64 _ (by omega) (by omega)];omega
theorem aej (b q:Nat) (hb:b<4503599627370496) (h:q≤2046):bits .or .u64 (b:Int) ((q * 4503599627370496:Nat):Int)=((b+q * 4503599627370496:Nat):Int):=by
 rw [u64_or_nat b _ (by omega) (by omega),Nat.or_comm,show (4503599627370496:Nat)=2 ^ 52 by decide,R5 _ _ _ (by simpa using hb),Nat.add_comm]
theorem ads (r:Nat) (hr:r=0∨(4503599627370496≤r∧r<9218868437227405312)) (k:Int) (hk: -2000≤k∧k≤2000) (w:World):be Tryz.prog 202 [.float .f64 r,.int .i64 k] w fun v w'=>(∃x,v= .float .f64 x∧x<18446744073709551616∧∀f,f<9218868437227405312→Exact r k f→x=f)∧Below w.heap.size w w':=by
 have hlt:r<9218868437227405312:=by omega
 have hrr:rung r=r:=FV (by omega)
 have hc0:(FloatKind.f64.format.order r 0==some .eq)=decide (r=0):=by
  have:=IT r;rw [hrr,Dn (by omega),Bool.not_false,Bool.true_and] at this;exact this
 have hb:=Below.refl w.heap.size w;refine enter Tryz.func202 rfl rfl rfl<|ao fun aZ=>am rfl<|an aZ<|ax fun _ bJ=>br<|ao fun bX=>ai rfl<|ah (GF rfl rfl) rfl<|am rfl<|an bX ?_
 rw [hc0];refine aH rfl (fun d1=>?_) (fun d1=>?_)
 ·
  have j8:=d1;simp only [DZ] at d1;have h0:r=0:=d1;refine ao fun ek=>ai rfl<|am rfl<|an ek<|aK<|bE (aQ ?_)
  refine bj rfl rfl ?_;exact ⟨_,rfl,⟨r,rfl,by omega,fun f hf hX=>by subst h0;exact (aic hX).symm⟩,hb⟩
 have j8:=d1;simp only [DZ] at d1;have hn:4503599627370496≤r:=by have:=d1;omega
 have hq2:r / 4503599627370496<2047:=by omega
 have hq4:1≤r / 4503599627370496:=by omega
 refine ao fun eO=>ai rfl<|aS Gc rfl rfl (D9 r (by omega) _) rfl ?_
 rintro _ w_ ⟨rfl,bf⟩;have bf:=bf.symm;subst bf;rw [hrr,decide_eq_false (by omega)];refine ai rfl<|dP rfl rfl rfl (fun qU=>?_) (fun qU=>?_)
 ·
  have jz:=qU
  cases jz
 have jz:=qU;simp only [DZ] at qU;refine ai rfl<|aE rfl rfl jz<|aS TG rfl rfl (Ny r _) rfl ?_
 rintro _ w_ ⟨rfl,bf⟩;have bf:=bf.symm;subst bf;rw [Dn (by omega)];refine ah (bg rfl jz rfl) rfl<|am rfl<|an eO<|aH rfl (fun im=>?_) (fun im=>?_)
 ·
  have yx:=im
  cases yx
 have yx:=im;simp only [DZ] at im;refine aU<|bS<|aw bJ<|ao fun kT=>ai rfl<|aS TH rfl rfl (ad1 r hn hlt _) rfl ?_
 rintro _ w_ ⟨rfl,bf⟩;have bf:=bf.symm;subst bf;refine ai rfl<|ah (bP rfl rfl) rfl<|ah (bP rfl rfl) rfl<|am rfl<|am rfl<|an kT<|ao fun nW=>ai rfl<|ai rfl<|ah (bH rfl rfl (by omega) (by omega)) rfl<|am rfl<|an nW<|ao fun me=>ai rfl<|ah (jI jx rfl rfl) rfl<|am rfl<|an me<|ao fun fx=>ai rfl<|ai rfl<|ah (bt (D3 rfl rfl (by decide) (by decide)) (int_eq (MD r))) rfl<|ah (bt (ja nn jp rfl) (int_eq (AK _ (by omega)))) rfl<|ah (bt (zH rfl rfl) (int_eq ((Xc _ (by omega)).trans (by rw [Nat.mod_eq_of_lt (show r / 4503599627370496<2048 by omega)])))) rfl<|ah (gk rfl rfl (by omega) (by omega)) rfl<|ah (bH rfl rfl (by omega) (by omega)) rfl<|am rfl<|an fx<|ax fun _ gd=>ao fun iX=>ai rfl<|ah (cg rfl rfl) rfl<|an iX<|aH rfl (fun vm=>?_) (fun vm=>?_)
 ·
  have XZ:=vm;simp only [DZ] at vm;refine ao fun n5=>ai rfl<|aS agN rfl rfl (UO r (by omega) _) rfl ?_
  rintro _ w_ ⟨rfl,bf⟩;have bf:=bf.symm;subst bf;refine am rfl<|an n5<|aK<|aQ<|bj rfl rfl ?_
  exact ⟨_,rfl,⟨_,rfl,by decide,fun f hf hX=>(Decidable.byContradiction fun hc=>by have:=ZC hn hlt (fun h=>hc h.symm) hX;have:=vm;omega)⟩,hb⟩
 have XZ:=vm;simp only [DZ] at vm;refine aU<|aw gd<|ax fun _ mj=>ao fun ml=>ai rfl<|ah (eW rfl rfl) rfl<|an ml<|aH rfl (fun tM=>?_) (fun tM=>?_)
 ·
  have Yh:=tM;simp only [DZ] at tM;refine ax fun _ sJ=>ao fun mm=>ai rfl<|ah (UD rfl rfl) rfl<|an mm<|aH rfl (fun Aw=>?_) (fun Aw=>?_)
  ·
   have YA:=Aw;simp only [DZ] at Aw;refine ao fun mn=>aS MQ rfl rfl (Vd _) rfl ?_;rintro _ w_ ⟨rfl,bf⟩;have bf:=bf.symm;subst bf;refine am rfl<|an mn<|aK<|aQ (aQ ?_)
   refine bj rfl rfl ?_;exact ⟨_,rfl,⟨_,rfl,by decide,fun f hf hX=>by have:=O8 hn hlt hf hX;have:=tM;omega⟩,hb⟩
  have YA:=Aw;simp only [DZ] at Aw;refine aU<|aw sJ<|ao fun Cs=>aS MQ rfl rfl (Nx _) rfl ?_
  rintro _ w_ ⟨rfl,bf⟩;have bf:=bf.symm;subst bf;refine am rfl<|an Cs<|aK<|aQ<|bj rfl rfl ?_
  exact ⟨_,rfl,⟨_,rfl,by decide,fun f hf hX=>by have:=O8 hn hlt hf hX;have:=tM;omega⟩,hb⟩
 have Yh:=tM;simp only [DZ] at tM;have hE: -52≤((r / 4503599627370496:Nat):Int)+k∧((r / 4503599627370496:Nat):Int)+k≤2046:=by have:=vm;have:=tM;omega
 refine aU<|aw mj<|ao fun n8=>am rfl<|an n8<|ax fun _ mp=>ao fun xv=>ai rfl<|ah (cg rfl rfl) rfl<|an xv<|b9 (X:=Nat×Nat×Int) (fun (j,m,e)=> [(0,.float .f64 r),(1,.int .i64 e),(6,.int .u64 (r:Int)),(7,.float .f64 m)]) (fun (j,m,e) wr=>Below w.heap.size w wr∧((m=4607182418800017408∧j=0)∨(m=4368491638549381120∧j=53))∧e=((r / 4503599627370496:Nat):Int)+k+j - 1023∧1≤((r / 4503599627370496:Nat):Int)+k+j∧((r / 4503599627370496:Nat):Int)+k+j≤2046) (fun _ Qu=>?_) ?_
 ·
  refine aH rfl (fun kE=>?_) (fun kE=>?_)
  ·
   have Iv:=kE;simp only [DZ] at kE;obtain ⟨j_,m_,e_,oh,Lp,kj⟩:∃(j m:Nat) (e:Int),((m=4607182418800017408∧j=0)∨(m=4368491638549381120∧j=53))∧m=4368491638549381120∧e=((r / 4503599627370496:Nat):Int)+k+j - 1023∧j=53:=⟨53,_,_,.inr ⟨rfl,rfl⟩,rfl,rfl,rfl⟩;refine ao fun Ct=>ai rfl<|ah (bH rfl rfl (by omega) (by omega)) rfl<|am rfl<|an Ct<|aR<|am rfl<|ay<|aY Qu (⟨j_,m_,e_⟩) (by repeat first|exact aB|refine au rfl (by first|rfl|exact int_eq (by omega)|exact congrArg (Value.float .f64) Lp.symm) ?_) ?_
   exact ⟨hb,oh,by omega,by have:=kE;omega,by have:=kE;omega⟩
  have Iv:=kE;simp only [DZ] at kE;obtain ⟨j_,m_,e_,oh,Lp,kj⟩:∃(j m:Nat) (e:Int),((m=4607182418800017408∧j=0)∨(m=4368491638549381120∧j=53))∧m=4607182418800017408∧e=((r / 4503599627370496:Nat):Int)+k+j - 1023∧j=0:=⟨0,_,_,.inl ⟨rfl,rfl⟩,rfl,rfl,rfl⟩;refine aU<|aY Qu (⟨j_,m_,e_⟩) (by repeat first|exact aB|refine au rfl (by first|rfl|exact int_eq (by omega)|exact congrArg (Value.float .f64) Lp.symm) ?_) ?_
  exact ⟨hb,oh,by omega,by have:=kE;omega,by have:=kE;omega⟩
 rintro ⟨j,m,e⟩ wr qi;replace qi:Below w.heap.size w wr∧((m=4607182418800017408∧j=0)∨(m=4368491638549381120∧j=53))∧e=((r / 4503599627370496:Nat):Int)+k+j - 1023∧1≤((r / 4503599627370496:Nat):Int)+k+j∧((r / 4503599627370496:Nat):Int)+k+j≤2046:=qi;obtain ⟨hb,hj,he,hE1,hE2⟩:=qi;show Wq _ _ _ _ [(0,.float .f64 r),(1,.int .i64 e),(6,.int .u64 (r:Int)),(7,.float .f64 m)] _;have:=hb.size;refine aw mp<|ax fun _ lv=>?_
 obtain ⟨q,hq⟩:∃q:Nat,((r / 4503599627370496:Nat):Int)+k+j=q:=⟨(((r / 4503599627370496:Nat):Int)+k+j).toNat,by omega⟩;obtain ⟨y,hy,hyl,hyV⟩:=adt (x:=r % 4503599627370496+q * 4503599627370496) (by omega) (by omega) hj;refine aR<|ai rfl<|ah (bt (GD rfl rfl) (int_eq (Ow r (by omega)))) rfl<|am rfl<|an lv<|ao fun Cv=>ai rfl<|ai rfl<|ah (bH rfl rfl (by omega) (by omega)) rfl<|ah (bt (ja jp nn rfl) (int_eq (show _=(q:Int) by rw [wrap_u64 _ (by omega) (by omega)];omega))) rfl<|ah (bt (Nl rfl rfl (by decide) (by decide)) (int_eq (S5 q (by omega)))) rfl<|ah (bt (Nk rfl rfl) (int_eq (aej _ q (Nat.mod_lt _ (by decide)) (by omega)))) rfl<|am rfl<|an Cv<|ao fun sO=>ai rfl<|ai rfl<|ah (qN pG rfl rfl) rfl ?_
 rw [Int.toNat_natCast];refine ah (GI rfl rfl (hy)) rfl<|am rfl<|an sO<|aK<|bj rfl rfl ?_
 exact ⟨_,rfl,⟨y,rfl,hyl,fun f hf hX=>hyV f (fun h=>by have:=ZG hX h;omega) hf (by rw [ZD (j:=j) hn hlt hX (by omega),hq,Int.toNat_natCast])⟩,hb⟩
theorem Vm (r:Nat) (hr:r=0∨(4503599627370496≤r∧r<9218868437227405312)) (k:Int) (hk: -2000≤k∧k≤2000) (w:World):be Tryz.prog 179 [.float .f64 r,.int .i64 k] w fun v w'=>(∃x,v= .float .f64 x∧x<18446744073709551616∧∀f,f<9218868437227405312→Exact r k f→x=f)∧Below w.heap.size w w':=by
 have hb:=Below.refl w.heap.size w;refine enter Tryz.func179 rfl rfl rfl<|ao fun aZ=>am rfl<|an aZ<|ax fun _ bJ=>pt rfl rfl<|aU<|aw bJ<|ao fun bX=>ai rfl<|ai rfl<|aS agL rfl rfl (ads r hr k hk _) rfl ?_
 rintro _ ft ⟨⟨x,rfl,hx,hX⟩,bp⟩;have:=bp.size;have hb:=az hb bp;refine am rfl<|an bX<|aK<|bj rfl rfl ?_
 exact ⟨_,rfl,⟨x,rfl,hx,hX⟩,hb⟩
theorem agC:bC Tryz.prog 177:=⟨_,Tryz.func177,by kernel_rfl,rfl⟩
theorem agD:bC Tryz.prog 178:=⟨_,Tryz.func178,by kernel_rfl,rfl⟩
theorem agE:bC Tryz.prog 179:=⟨_,Tryz.func179,by kernel_rfl,rfl⟩
theorem MT:bC Tryz.prog 35:=⟨_,Tryz.func35,by kernel_rfl,rfl⟩
theorem TY:bC Tryz.prog 87:=⟨_,Tryz.func87,by kernel_rfl,rfl⟩
theorem TZ:bC Tryz.prog 90:=⟨_,Tryz.func90,by kernel_rfl,rfl⟩
theorem T0:bC Tryz.prog 95:=⟨_,Tryz.func95,by kernel_rfl,rfl⟩
noncomputable def zo (s:al):Value:= .tuple #[.float .f64 ((pf s).getD 0),.int .i64 (if (pf s).isSome=true then 0 else 2)]
theorem zp {s:al} (h:pf s=none):zo s= .tuple #[.float .f64 0,.int .i64 2]:=by unfold zo;rw [h];rfl
theorem zq {s:al} {f:Nat} (h:pf s=some f):zo s= .tuple #[.float .f64 f,.int .i64 0]:=by unfold zo;rw [h];rfl
theorem afX {s:al} {y:Nat} (hm:rF s y) (h:dr (app (Lib.hasPrefix s [45]) y)≠s):pf s=none:=Dt fun f hf ht=>h (hm f hf ht)
theorem afY {s:al} {y:Nat} (hy:y<18446744073709551616) (h:dr (app (Lib.hasPrefix s [45]) y)=s):pf s=some (canon (app (Lib.hasPrefix s [45]) y)):=
 nh (Cn.of (Od hy)) ((af0 _).trans h)
theorem RU {s:al} {f:Nat} (hf:Cn f) (ht:dr f=s) (h0:Lib.trimPrefix s [45]≠ [110,97,110]) (h1:Lib.trimPrefix s [45]≠ [105,110,102]):
 ∃M e,rung f<9218868437227405312∧Lib.hasPrefix s [45]=isNeg f∧M<9007199254740992∧-1074≤e∧e≤1024∧V (rung f)=M * 2 ^ (e+1074).toNat∧j9 (Lib.trimPrefix s [45])=(Lib.decDigits M,Lib.itoa e):=by
 cases rC.of hf ht with
 |nan _ _ hw=>exact absurd hw h0
 |inf _ _ hw=>exact absurd hw h1
 |num M e h hn hw hM he0 he1 hv=>exact ⟨M,e,h,hn,hM,he0,he1,hv,by rw [hw,Zd]⟩
theorem Xg {s:al} (h0:Lib.trimPrefix s [45]≠ [110,97,110]) (h1:Lib.trimPrefix s [45]≠ [105,110,102]) (hb:¬(Gd (j9 (Lib.trimPrefix s [45])).1∧∃k,Lib.atoiAll (j9 (Lib.trimPrefix s [45])).2= .ok k)):pf s=none:=
 Dt fun f hf ht=>by
  obtain ⟨M,e,_,_,hM,he0,he1,_,hc⟩:=RU hf ht h0 h1;rw [hc] at hb;exact hb ⟨Gd.dec hM,e,yq (by omega) (by omega)⟩
theorem adQ {s:al} {n r y:Nat} {k:Int} (h0:Lib.trimPrefix s [45]≠ [110,97,110]) (h1:Lib.trimPrefix s [45]≠ [105,110,102]) (hn:Gd (j9 (Lib.trimPrefix s [45])).1→n=dC 0 (j9 (Lib.trimPrefix s [45])).1) (hk:Lib.atoiAll (j9 (Lib.trimPrefix s [45])).2= .ok k) (hV:V r=n * 2 ^ 1074) (hX:∀f,f<9218868437227405312→Exact r (max (-2000) (min k 2000)) f→y=f):rF s y:=fun f hf ht=>by
 obtain ⟨M,e,hr,hg,hM,he0,he1,hv,hc⟩:=RU hf ht h0 h1;rw [hc] at hn hk;have e1:n=M:=by rw [hn (Gd.dec hM)];exact (gT M).2.1
 rw [yq (by omega) (by omega)] at hk;have e2:e=k:=by injection hk
 subst e1;subst e2;rw [show max (-2000) (min e 2000)=e by omega] at hX;rw [hX (rung f) hr (ZE he0 hV hv),hg,El hf.lt,ht]
theorem NG (s:al) (hs:s.length≤281474976710656) (w:World) (hL:Lb w):be Tryz.prog 138 [str s] w fun v w'=>v=zo s∧Below w.heap.size w w':=by
 have hw:(Lib.trimPrefix s [45]).length≤281474976710656:=Nat.le_trans (zx s [45]) hs;have hc1:=(OF (Lib.trimPrefix s [45])).1;have hc2:=(OF (Lib.trimPrefix s [45])).2;have hb:=Below.refl w.heap.size w;have bw:=hL;refine enter Tryz.func138 rfl rfl rfl<|ao fun aZ=>am rfl<|am rfl<|an aZ<|ao fun bX=>ai rfl<|aS MT rfl rfl (GM s [45] _) rfl ?_
 rintro _ w_ ⟨rfl,bf⟩;have bf:=bf.symm;subst bf;refine ai rfl<|ah (bP rfl rfl) rfl<|ah (bP rfl rfl) rfl<|am rfl<|am rfl<|an bX<|ao fun eO=>aS Tx rfl rfl (NC _) rfl ?_
 rintro _ w_ ⟨rfl,bf⟩;have bf:=bf.symm;subst bf;refine am rfl<|an eO<|ax fun _ fj=>ao fun gY=>ai rfl<|an gY<|br<|ao fun dL=>ah (fu rfl rfl) rfl<|am rfl<|an dL<|b9 (X:=Nat) (fun y=> [(0,str s),(5,.bool (Lib.hasPrefix s [45])),(6,.float .f64 y)]) (fun y wr=>Below w.heap.size w wr∧y<18446744073709551616∧rF s y) (fun _ K6=>?_) ?_
 ·
  refine aH rfl (fun jc=>?_) (fun jc=>?_)
  ·
   have uT:=jc;simp only [DZ] at jc;have hn0:Lib.trimPrefix s [45]= [110,97,110]:=by simpa using uT
   have ur:(9221120237041090561:Nat)<18446744073709551616∧rF s 9221120237041090561:=⟨by decide,adP hn0⟩;refine aU<|aY K6 (_) (au rfl (by rfl) (au rfl (by rfl) (au rfl (by rfl) (aB)))) ?_
   exact ⟨hb,ur.1,ur.2⟩
  have uT:=jc;simp only [DZ] at jc;have hn0:Lib.trimPrefix s [45]≠ [110,97,110]:=by simpa using uT
  refine ao fun nV=>ah (fu rfl rfl) rfl<|am rfl<|an nV<|aH rfl (fun nC=>?_) (fun nC=>?_)
  ·
   have Ah:=nC;simp only [DZ] at nC;have hn1:Lib.trimPrefix s [45]= [105,110,102]:=by simpa using Ah
   have ur:(9218868437227405312:Nat)<18446744073709551616∧rF s 9218868437227405312:=⟨by decide,adO hn1⟩;refine aR<|aS MQ rfl rfl (Nx _) rfl ?_
   rintro _ w_ ⟨rfl,bf⟩;have bf:=bf.symm;subst bf;refine am rfl<|ay<|aY K6 (_) (au rfl (by rfl) (au rfl (by rfl) (au rfl (by rfl) (aB)))) ?_
   exact ⟨hb,ur.1,ur.2⟩
  have Ah:=nC;simp only [DZ] at nC;have hn1:Lib.trimPrefix s [45]≠ [105,110,102]:=by simpa using Ah
  refine ao fun gK=>ai rfl<|aS T0 rfl rfl (UQ _ hw _) rfl ?_
  rintro _ hZ ⟨⟨fb,rfl⟩,ck⟩;have:=ck.size;have hb:=az hb ck;have hL:=bw.below hb;refine ai rfl<|ah (bP rfl rfl) rfl<|ah (bP rfl rfl) rfl<|ah (bP rfl rfl) rfl<|am rfl<|am rfl<|am rfl<|an gK<|ao fun fx=>ai rfl<|aS agC rfl rfl (Vv _ (by omega) _ hL) rfl ?_
  rintro _ nq ⟨⟨n,e,rfl,hU⟩,dE⟩;have:=dE.size;have hb:=az hb dE;have hL:=bw.below hb;refine ai rfl<|ah (bP rfl rfl) rfl<|ah (bP rfl rfl) rfl<|am rfl<|am rfl<|an fx<|ao fun jj=>ai rfl<|aS agD rfl rfl (UK _ (by omega) _ hL) rfl ?_
  rintro _ gD ⟨⟨k,e2,rfl,hA,hB⟩,fk⟩;have:=fk.size;have hb:=az hb fk;have hL:=bw.below hb;refine ai rfl<|ah (bP rfl rfl) rfl<|ah (bP rfl rfl) rfl<|am rfl<|am rfl<|an jj<|ax fun _ qn=>ax fun _ n6=>b9 (X:=Bool) (fun q=> [(0,str s),(5,.bool (Lib.hasPrefix s [45])),(10,.int .u64 (n:Int)),(12,.int .i64 k),(42,.bool q)]) (fun q wr=>Below w.heap.size w wr∧q=(!fz e|| !fz e2)) (fun _ Qm=>?_) ?_
  ·
   refine aR<|ai rfl<|ah (Nj (by kernel_rfl) rfl (hU.1)) rfl<|ai rfl<|dP rfl rfl rfl (fun BI=>?_) (fun BI=>?_)
   ·
    have wE:=BI;simp only [DZ] at BI;refine aA rfl rfl wE rfl rfl<|ah (bi rfl wE rfl) rfl<|ay<|aY Qm ((!fz e|| !fz e2)) (by repeat first|exact aB|refine au rfl (by first|rfl|exact aP (by have h:=wE;simp at h;simp [h])) ?_) ?_
    exact ⟨hb,rfl⟩
   have wE:=BI;simp only [DZ] at BI;refine ai rfl<|aE rfl rfl wE<|ah (Nj (by kernel_rfl) rfl (hA)) rfl<|ah (bg rfl wE rfl) rfl<|ay<|aY Qm ((!fz e|| !fz e2)) (by repeat first|exact aB|refine au rfl (by first|rfl|exact aP (by have h:=wE;simp at h;simp [h])) ?_) ?_
   exact ⟨hb,rfl⟩
  rintro q wr Kg;replace Kg:Below w.heap.size w wr∧q=(!fz e|| !fz e2):=Kg;obtain ⟨hb,hq⟩:=Kg;show Wq _ _ _ _ [(0,str s),(5,.bool (Lib.hasPrefix s [45])),(10,.int .u64 (n:Int)),(12,.int .i64 k),(42,.bool q)] _;have hL:=bw.below hb;have:=hb.size;refine aw n6<|aH rfl (fun HU=>?_) (fun HU=>?_)
  ·
   have HV:=HU;refine ao fun mo=>am rfl<|am rfl<|an mo<|aK<|aQ (aQ (bE (aQ ?_)))
   refine dv rfl rfl rfl ?_
   exact ⟨_,rfl,(zp (Xg hn0 hn1 (fun ⟨h1,k',h2⟩=>by
 have h3:=HV
 rw [hq] at h3
 have h4:fz e=true:=by
  cases h:fz e
  · exact absurd h1 (hU.2.2.1 h)
  · rfl
 have h5:fz e2=true:=by
  rcases hB with h|h
  · exact h.2
  · exact absurd h2 (h.1 k')
 rw [h4,h5] at h3;cases h3))).symm,hb⟩
  have HV:=HU;refine aU<|aw qn ?_
  have hok:fz e=true∧fz e2=true:=by have h2:=HV;rw [hq] at h2;simpa using h2
  have hk:Lib.atoiAll (j9 (Lib.trimPrefix s [45])).2= .ok k:=by rcases hB with h|h;exact h.1;(have:=hok.2;rw [h.2] at this;cases this)
  obtain ⟨r,hr,hr2,hV⟩:=ZK (hU.2.1 hok.1).1;refine aR<|ai rfl<|ah (bt (ahX nn T6 rfl) (congrArg (Value.float .f64) hr)) rfl<|ai rfl<|ah (zI rfl rfl) rfl<|ah (ah4 rfl rfl) rfl<|aS agE rfl rfl (Vm r hr2 _ (by omega) _) rfl ?_
  rintro _ DV ⟨⟨y,rfl,hy,hX⟩,iC⟩;have:=iC.size;have hb:=az hb iC;have hL:=bw.below hb;have ur:y<18446744073709551616∧rF s y:=⟨hy,adQ hn0 hn1 (hU.2.1 hok.1).2 hk hV hX⟩;refine am rfl<|ay<|aY K6 (_) (au rfl (by rfl) (au rfl (by rfl) (au rfl (by rfl) (aB)))) ?_
  exact ⟨hb,ur.1,ur.2⟩
 rintro y wr Kl;replace Kl:Below w.heap.size w wr∧y<18446744073709551616∧rF s y:=Kl;obtain ⟨hb,hy,hm⟩:=Kl;show Wq _ _ _ _ [(0,str s),(5,.bool (Lib.hasPrefix s [45])),(6,.float .f64 y)] _;have hL:=bw.below hb;have:=hb.size;refine bS<|aw fj<|ax fun _ ki=>ao fun oT=>ai rfl<|an oT<|b9 (X:=Unit) (fun u_=> [(0,str s),(6,.float .f64 (app (Lib.hasPrefix s [45]) y))]) (fun u_ wr=>Below w.heap.size w wr) (fun _ Qw=>?_) ?_
 ·
  refine aH rfl (fun H5=>?_) (fun H5=>?_)
  ·
   have H6:=H5;refine aR<|ai rfl<|ah (ah5 rfl) rfl<|am rfl<|ay<|aY Qw (()) (by repeat first|exact aB|refine au rfl (by first|rfl|(exact congrArg (Value.float .f64) (by rw [H6];rfl))) ?_) ?_
   exact hb
  have H6:=H5;refine aU<|aY Qw (()) (by repeat first|exact aB|refine au rfl (by first|rfl|(exact congrArg (Value.float .f64) (by rw [H6];rfl))) ?_) ?_
  exact hb
 rintro u_ wr Ko;replace Ko:Below w.heap.size w wr:=Ko;have hb:=Ko;show Wq _ _ _ _ [(0,str s),(6,.float .f64 (app (Lib.hasPrefix s [45]) y))] _;have hL:=bw.below hb;have:=hb.size;refine aw ki<|ax fun _ qr=>ao fun sM=>ai rfl<|aS TY rfl rfl (NP _ (Od hy) _ hL) rfl ?_
 rintro _ GA ⟨rfl,jZ⟩;have:=jZ.size;have hb:=az hb jZ;have hL:=bw.below hb;refine ai rfl<|ah (qO rfl rfl) rfl<|an sM<|aH rfl (fun lQ=>?_) (fun lQ=>?_)
 ·
  have Ay:=lQ;simp only [DZ] at lQ;refine ao fun xz=>am rfl<|am rfl<|an xz<|aK<|aQ<|dv rfl rfl rfl ?_
  exact ⟨_,rfl,(zp (afX hm (by simpa using Ay))).symm,hb⟩
 have Ay:=lQ;simp only [DZ] at lQ;refine aU<|aw qr<|ao fun mq=>ai rfl<|aS TZ rfl rfl (Nq _ _) rfl ?_
 rintro _ w_ ⟨rfl,bf⟩;have bf:=bf.symm;subst bf;refine am rfl<|am rfl<|an mq<|aK<|dv rfl rfl rfl ?_
 exact ⟨_,rfl,(zq (afY hy (by simpa using Ay))).symm,hb⟩
end Go.Proofs.YtjmlknjbhbfneaaGreatDoor
