import Derived.Laws.RangeAny
import Derived.Test.YtjmlknjbhbfneaaGreatDoorZI
import Derived.Test.YtjmlknjbhbfneaaGreatDoorZT
namespace Go.Bw
open Go.RowKit
set_option linter.unusedVariables false
set_option linter.unusedSimpArgs false
section
variable {P:Program} {N:Nat} {D:List Deferred} {env env':Env} {a:Act} {w w':World} {Q:Exit→Act→World→Prop}
variable {ops:Array Oper} {rest:List Oper} {d:Nat} {op:Op} {ty:TypeId} {pos:String} {af:Array Edge}
theorem W3 {x:Operand} {l:al} {b i:Nat} (hx:ev env x=some (.pointer (some ⟨b,0,none⟩))) (hi:oF w b l i) (hd:Nat.blt d N=true)
 (h0:¬i<l.length→Wl P ops Q rest N D ((d,.tuple #[.bool false]) :: env) w)
 (h1:i<l.length→∀(r j:Nat),((l.getD i 0).toNat<128→r=(l.getD i 0).toNat∧j=i+1)→(128≤(l.getD i 0).toNat→128≤r)→∀w',oF w' b l j→w.grownBy w' (some b)→Wl P ops Q rest N D ((d,.tuple #[.bool true,.int .i64 (i:Int),.int .i32 (r:Int)]) :: env) w'):
 Wl P ops Q (⟨some d,.next x true,ty,pos,af,none⟩ :: rest) N D env w:=by
 have hsz:(⟨l.toArray⟩:ByteArray).size=l.length:=mG l
 by_cases hlt:i<l.length
 · have hs:i<(⟨l.toArray⟩:ByteArray).size:=by rw [hsz];exact hlt
   have he:(⟨l.toArray⟩:ByteArray)[i]'hs=l.getD i 0:=by
    have:(⟨l.toArray⟩:ByteArray)[i]'hs=l[i]:=by show l.toArray[i]=_;simp
    rw [this];simp [List.getD,List.getElem?_eq_getElem hlt]
   have hr:=Go.Lib.run_next_any_at (P:=P) w b ⟨l.toArray⟩ i ty hi hs
   refine iM (fun a ha dst pos af g'=>by simp [execOp,ha.eval hx,hr]) hd (h1 hlt (Utf8.decode ⟨l.toArray⟩ i).1 (i+(Utf8.decode ⟨l.toArray⟩ i).2) (fun hlo=>?_) (fun hhi=>?_) _ (Go.Lib.iterAt_heap w b _ i _ hi) ⟨rfl,rfl,rfl,by rw [Go.Lib.iterAt_size];exact Nat.le_refl _,fun k _ hk=>Go.Lib.iterAt_other w b k _ _ (fun e=>hk (by rw [e]))⟩)
   · rw [decode_ascii _ i hs (by rw [he];exact hlo),he];exact ⟨rfl,rfl⟩
   · exact (decode_high _ i hs (by rw [he];exact hhi)).1
 · have hr:=Go.Lib.run_next_end_at (P:=P) w b ⟨l.toArray⟩ i ty hi (by rw [hsz];exact hlt)
   exact iM (fun a ha dst pos af g'=>by simp [execOp,ha.eval hx,hr]) hd (h0 hlt)
def mB:List (al×Value)→al→Option Nat
 | [],_=>none
 |(k,_) :: r,key=>if key=k then some 0 else (mB r key).map (· +1)
def mput:List (al×Value)→al→Value→List (al×Value)
 | [],key,v=> [(key,v)]
 |(k,u) :: r,key,v=>if key=k then (k,v) :: r else (k,u) :: mput r key v
theorem LZ:∀{kv:List (al×Value)} {key:al} (v:Value),mB kv key=none→mput kv key v=kv++ [(key,v)]
 | [],_,_,_=>rfl
 |(k,u) :: r,key,v,h=>by
  unfold mB at h;by_cases e:key=k
  · rw [if_pos e] at h;cases h
  · rw [if_neg e] at h
    unfold mput;rw [if_neg e,LZ v (by simpa using h)];rfl
theorem RB:∀{kv:List (al×Value)} {key:al} {j:Nat} (v:Value) (b:Nat),mB kv key=some j→dt b (mput kv key v)=(dt b kv).modify j (fun e=>{e with key:=str key,val:=v})∧(mput kv key v).length=kv.length∧((dt b kv)[j]?).map (·.key)=some (str key)
 | [],_,_,_,_,h=>by cases h
 |(k,u) :: r,key,j,v,b,h=>by
  unfold mB at h;by_cases e:key=k
  · rw [if_pos e] at h;cases h
    subst e;unfold mput;rw [if_pos rfl];exact ⟨rfl,rfl,rfl⟩
  · rw [if_neg e] at h
    obtain ⟨j',h1,rfl⟩:=Option.map_eq_some_iff.1 h;obtain ⟨h2,h3,h4⟩:=RB v (b+1) h1;unfold mput;rw [if_neg e];refine ⟨?_,by simp [h3],?_⟩
    · show (⟨str k,u,b⟩ :: dt (b+1) (mput r key v))=(⟨str k,u,b⟩ :: dt (b+1) r).modify (j'+1) _
      rw [h2];rfl
    · show ((⟨str k,u,b⟩ :: dt (b+1) r)[j'+1]?).map _=_
      rw [List.getElem?_cons_succ];exact h4
theorem Po (key:al):∀(kv:List (al×Value)) (b i:Nat),(mB kv key=none→Instr.findNow .string (str key) (dt b kv) i=some none)∧(∀j,mB kv key=some j→∃u,Instr.findNow .string (str key) (dt b kv) i=some (some (i+j,u)))
 | [],_,_=>⟨fun _=>rfl,fun _ h=>by cases h⟩
 |(k,v) :: r,b,i=>by
  obtain ⟨h1,h2⟩:=Po key r (b+1) (i+1);have hs:Instr.sameNow .string (str key) (str k)=some (key==k):=by show some (_==_)=_;rw [MH]
  have e0:Instr.findNow .string (str key) (dt b ((k,v) :: r)) i=Instr.findNow .string (str key) (⟨str k,v,b⟩ :: dt (b+1) r) i:=rfl;rw [e0];by_cases hk:key=k
  · subst hk
    have hf:mB ((key,v) :: r) key=some 0:=by simp [mB]
    refine ⟨fun h=>by rw [hf] at h;(exact absurd h (by simp)),fun j h=>?_⟩;rw [hf] at h;cases h;refine ⟨v,?_⟩;unfold Instr.findNow;simp only [hs,beq_self_eq_true];rfl
  · have h3:(key==k)=false:=by simpa using hk
    have hf:mB ((k,v) :: r) key=(mB r key).map (· +1):=by simp [mB,hk]
    refine ⟨fun h=>?_,fun j h=>?_⟩
    · rw [hf] at h
      unfold Instr.findNow;simp only [hs,h3];exact h1 (by simpa using h)
    · rw [hf] at h
      obtain ⟨j',h4,rfl⟩:=Option.map_eq_some_iff.1 h;obtain ⟨u,h5⟩:=h2 j' h4;refine ⟨u,?_⟩;unfold Instr.findNow;simp only [hs,h3];rw [h5];congr 3;omega
theorem afw {m i x:Operand} {t k e:TypeId} {g:Nat} {kv:List (al×Value)} {key:al} {v:Value} (ht:P.underlying t=some (.map k e)) (hk:P.underlying k=some .string) (hx:ev env m=some (.map (some g))) (hi:ev env i=some (str key)) (hv:ev env x=some v) (hm:Mp w g kv):
 ∃w',St P N D env w (.mapUpdate t m i x) ty w'∧Mp w' g (mput kv key v)∧w.grownBy w' (some g):=by
 refine ⟨{w with heap:=w.heap.setIfInBounds g (.map (dt 0 (mput kv key v)).toArray (mput kv key v).length)},fun a ha dst pos af g'=>?_,?_,⟨rfl,rfl,rfl,by simp,fun j hj hne=>?_⟩⟩
 · have hm':w.heap[g]? =some (.map (dt 0 kv).toArray kv.length):=hm
   obtain ⟨f1,f2⟩:=Po key kv 0 0
   cases hf:mB kv key with
   |none=>
    have hfk:(Instr.findKey k (str key) (dt 0 kv)).run P w= .ok none w:=by
     simp only [Instr.findKey,Sem.run_bind,run_underlying hk,Result.andThen,f1 hf];rfl
    simp [execOp,ha.eval hx,ha.eval hi,ha.eval hv,Instr.mapUpdate,run_underlying ht,getObj,Sem.run,hm',run_checkKey hk,hfk,setObj,LZ v hf,IS]
   |some j=>
    obtain ⟨u,hu⟩:=f2 j hf;obtain ⟨h1,h2,h3⟩:=RB v 0 hf
    have hfk:(Instr.findKey k (str key) (dt 0 kv)).run P w= .ok (some (j,u)) w:=by
     simp only [Instr.findKey,Sem.run_bind,run_underlying hk,Result.andThen,hu,Nat.zero_add];rfl
    have hst:(Instr.keyThatStays (str key) (str key)).run P w= .ok (str key) w:=by
     have:Instr.sameBits 10000 (str key) (str key)=true:=by show ((_:ByteArray)==_)=true;rw [MH];exact beq_self_eq_true key
     simp [Instr.keyThatStays,this]
    have h4:(((dt 0 kv).toArray[j]?).map (·.key)).getD (str key)=str key:=by rw [List.getElem?_toArray,h3];rfl
    have h4':Option.getD (Option.map (fun x=>x.key) (dt 0 kv)[j]?) (str key)=str key:=by rw [h3];rfl
    simp [execOp,ha.eval hx,ha.eval hi,ha.eval hv,Instr.mapUpdate,run_underlying ht,getObj,Sem.run,hm',run_checkKey hk,hfk,setObj,h4',hst,h1,h2]
 · unfold Mp
   have:=hm.lt
   show (w.heap.setIfInBounds g _)[g]? =_
   simp [this]
 · show (w.heap.setIfInBounds g _)[j]? =_
   have:g≠j:=fun e=>hne (by rw [e])
   simp [this]
theorem GZ {m i x:Operand} {t k e:TypeId} {g:Nat} {kv:List (al×Value)} {key:al} {v:Value} (ht:P.underlying t=some (.map k e)) (hk:P.underlying k=some .string) (hx:ev env m=some (.map (some g))) (hi:ev env i=some (str key)) (hv:ev env x=some v) (hm:Mp w g kv)
 (h:∀w',Mp w' g (Go.Bw.mput kv key v)→w.grownBy w' (some g)→Wl P ops Q rest N D env w'):Wl P ops Q (⟨none,.mapUpdate t m i x,ty,pos,af,none⟩ :: rest) N D env w:=by
 obtain ⟨w',h1,h2,h3⟩:=afw (N:=N) (D:=D) (ty:=ty) ht hk hx hi hv hm
 exact rJ h1 (h w' h2 h3)
theorem O2:∀(b:Nat) (kv:List (al×Value)),(dt b kv).length=kv.length
 |_,[]=>rfl
 |b,p :: r=>by show (_ :: dt (b+1) r).length=_;rw [List.length_cons,O2,List.length_cons]
theorem FB {x:Operand} {t k e:TypeId} {g:Nat} {kv:List (al×Value)} (ht:P.underlying t=some (.map k e)) (hx:ev env x=some (.map (some g))) (hm:Mp w g kv):
 Ld P N D env w (.call ⟨.builtin .len,#[x],#[t]⟩) ty (.int .i64 kv.length):=fun a ha dst pos af g'=>by
 have hm':w.heap[g]? =some (.map (dt 0 kv).toArray kv.length):=hm
 simp [execOp,resolve,invoke,builtin,Builtin.len_,ha.eval hx,run_underlying ht,getObj,Sem.run,hm',O2,goInt]
def keys (kv:List (al×Value)):List (al):=kv.map (·.1)
end
end Go.Bw
namespace Go.Proofs.YtjmlknjbhbfneaaGreatDoor
open Go.RowKit Go.Bw Go.Bw.Fl
set_option linter.unusedVariables false
set_option linter.unusedSimpArgs false
theorem ade {c:UInt8} (h:c.toNat=95∨(48≤c.toNat∧c.toNat≤57)∨(65≤c.toNat∧c.toNat≤90)∨(97≤c.toNat∧c.toNat≤122)):isLet c=true:=by
 have key:∀n:Fin 256,(n.val=95∨(48≤n.val∧n.val≤57)∨(65≤n.val∧n.val≤90)∨(97≤n.val∧n.val≤122))→isLet (UInt8.ofNat n.val)=true:=by decide +kernel
 have h2:=key ⟨c.toNat,UInt8.toNat_lt c⟩ h
 rwa [show UInt8.ofNat c.toNat=c from UInt8.ofNat_toNat] at h2
theorem Xb {s:al} (h:∀j,j<s.length→isLet (s.getD j 0)=true):s.all isLet=true:=by
 rw [List.all_eq_true];intro c hc;obtain ⟨i,hi,rfl⟩:=List.getElem_of_mem hc;have:=h i hi
 simpa [List.getD,List.getElem?_eq_getElem hi] using this
theorem Uz {s:al} {i:Nat} (hi:i<s.length) (h:¬((65≤(s.getD i 0).toNat∧(s.getD i 0).toNat≤90)∨(97≤(s.getD i 0).toNat∧(s.getD i 0).toNat≤122)∨(s.getD i 0).toNat=95)∧(i=0∨(s.getD i 0).toNat<48∨57<(s.getD i 0).toNat)):bO s=false:=by
 cases hw:bO s with
 |false=>rfl
 |true=>
  unfold bO at hw;rw [Bool.and_eq_true] at hw;have h1:=of_decide_eq_true hw.1;have h2:=adc (List.all_eq_true.1 hw.2 (s.getD i 0) (by simp [List.getD,List.getElem?_eq_getElem hi]))
  rcases h.2 with rfl|h3
  · have:=h1.2.2;omega
  · omega
theorem Ej (s:al) (hs:s.length≤140737488355328) (w:World):be Tryz.prog 43 [str s] w fun v w'=>v= .bool (bO s)∧Below w.heap.size w w':=by
 have hb:=Below.refl w.heap.size w;refine enter Tryz.func43 rfl rfl rfl<|ao fun aZ=>am rfl<|an aZ<|ax fun _ bJ=>ao fun bX=>ai rfl<|W6 bq rfl rfl ?_
 rintro c7 DW y0 Ls f6;have:=f6.size;have hb:=az hb f6;have jV:=Ls;have:=jV.lt;refine an bX<|br<|cU (X:=Nat) (fun i=> [(0,str s),(7,.pointer (some ⟨c7,0,none⟩))]) (fun i wr=>i≤s.length∧(∀j,j<i→isLet (s.getD j 0)=true)∧(0<i→¬(48≤(s.getD 0 0).toNat∧(s.getD 0 0).toNat≤57))∧Below w.heap.size w wr∧oF wr c7 s i) (fun i=>s.length - i) (0) ?_ ?_ ?_
 · exact by repeat first|exact aB|refine au rfl (by first|rfl|exact int_eq (by omega)) ?_
 · exact ⟨by omega,fun _ h=>by omega,fun h=>by omega,hb,jV⟩
 rintro i wr qh _ CD;replace qh:i≤s.length∧(∀j,j<i→isLet (s.getD j 0)=true)∧(0<i→¬(48≤(s.getD 0 0).toNat∧(s.getD 0 0).toNat≤57))∧Below w.heap.size w wr∧oF wr c7 s i:=qh;obtain ⟨hi,hall,hd,hb,jV⟩:=qh;show Wc _ _ _ _ _ [(0,str s),(7,.pointer (some ⟨c7,0,none⟩))] _;have:=hb.size;refine ao fun ek=>W3 rfl jV rfl (fun ait=>?_) (fun QK aeT Dc Ln QL=>?_)
 ·
  refine ah (bP rfl rfl) rfl<|an ek<|ax fun _ eO=>pt rfl rfl<|cN<|bD<|bD<|cO<|aw bJ<|ao fun eQ=>ai rfl<|ah (qO rfl rfl) rfl<|ai rfl<|cw rfl rfl rfl (fun kL=>?_) (fun kL=>?_)
  ·
   have ir:=kL;simp only [DZ] at kL;refine ai rfl<|aE rfl rfl ir<|ah (dF bq (by omega) rfl) rfl<|aE rfl rfl ir<|ah (oB rfl rfl) rfl<|ah (bi rfl ir rfl) rfl<|am rfl<|an eQ<|aK<|bj rfl rfl ?_
   exact ⟨_,rfl,aP (by
 have hne:s≠ []:=by have h:=ir;simpa using h
 have hpos:=List.length_pos_iff.2 hne
 have:=hd (by omega)
 unfold bO mK
 rw [Xb (fun j hj=>hall j (by omega)),Bool.and_true,decide_eq_decide]
 exact ⟨fun h=>⟨hne,by omega,this⟩,fun h=>by have:=h.2.1;omega⟩),hb⟩
  have ir:=kL;simp only [DZ] at kL;refine aA rfl rfl ir rfl rfl<|aA rfl rfl ir rfl rfl<|ah (bg rfl ir rfl) rfl<|am rfl<|an eQ<|aK<|bj rfl rfl ?_
  exact ⟨_,rfl,aP (by
 have he:s= []:=by have h:=ir;simpa using h
 subst he;rfl),hb⟩
 rintro Uq CS Fh;have:=Fh.size;have hb:=bY hb Fh hb.size (by omega);have jV:=CS;refine ah (bP rfl rfl) rfl<|an ek<|ax fun _ md=>Eg rfl rfl<|aU<|aw md<|br<|ax fun _ kU=>?_
 obtain ⟨c,hc⟩:∃c,c=aeT:=⟨_,rfl⟩;rw [←hc] at Ln QL ⊢;refine aR<|ah (bP rfl rfl) rfl<|ah (bP rfl rfl) rfl<|am rfl<|am rfl<|an kU<|ax fun _ iW=>b9 (X:=Bool) (fun q=> [(0,str s),(3,.int .i64 (i:Int)),(4,.int .i32 (c:Int)),(5,.bool q),(7,.pointer (some ⟨c7,0,none⟩))]) (fun q wr=>q=decide ((65≤c∧c≤90)∨(97≤c∧c≤122)∨c=95)∧Below w.heap.size w wr∧oF wr c7 s Dc) (fun _ xD=>?_) ?_
 ·
  refine aR<|ai rfl<|ah (jb rfl rfl) rfl<|ai rfl<|cw rfl rfl rfl (fun pY=>?_) (fun pY=>?_)
  ·
   have qV:=pY;simp only [DZ] at pY;refine ai rfl<|aE rfl rfl qV<|ah (oB rfl rfl) rfl<|ah (bi rfl qV rfl) rfl<|ai rfl<|dP rfl rfl rfl (fun p1=>?_) (fun p1=>?_)
   ·
    have ke:=p1;simp only [DZ] at p1;refine aA rfl rfl ke rfl rfl<|aA rfl rfl ke rfl rfl<|cC rfl rfl rfl<|cC rfl rfl rfl<|aA rfl rfl ke rfl rfl<|ah (bi rfl ke rfl) rfl<|ai rfl<|aA rfl rfl rfl rfl rfl<|aA rfl rfl rfl rfl rfl<|ah (bi rfl rfl rfl) rfl<|am rfl<|ay<|aY xD (decide ((65≤c∧c≤90)∨(97≤c∧c≤122)∨c=95)) (by repeat first|exact aB|refine au rfl (by first|rfl|exact aP (by rw [Bool.eq_iff_iff];simp;omega)) ?_) ?_
    exact ⟨rfl,hb,jV⟩
   have ke:=p1;simp only [DZ] at p1;refine ai rfl<|aE rfl rfl ke<|ah (jb rfl rfl) rfl<|aE rfl rfl ke<|ai rfl<|cw rfl rfl rfl (fun BE=>?_) (fun BE=>?_)
   ·
    have BF:=BE;simp only [DZ] at BE;refine ai rfl<|aE rfl rfl BF<|ah (oB rfl rfl) rfl<|aE rfl rfl ke<|ah (bi rfl BF rfl) rfl<|ah (bg rfl ke rfl) rfl<|ai rfl<|dP rfl rfl rfl (fun iw=>?_) (fun iw=>?_)
    ·
     have fE:=iw;simp only [DZ] at iw;refine aA rfl rfl fE rfl rfl<|ah (bi rfl fE rfl) rfl<|am rfl<|ay<|aY xD (decide ((65≤c∧c≤90)∨(97≤c∧c≤122)∨c=95)) (by repeat first|exact aB|refine au rfl (by first|rfl|exact aP (by rw [Bool.eq_iff_iff];simp;omega)) ?_) ?_
     exact ⟨rfl,hb,jV⟩
    have fE:=iw;simp only [DZ] at iw;refine ai rfl<|aE rfl rfl fE<|ah (bA rfl rfl) rfl<|ah (bg rfl fE rfl) rfl<|am rfl<|ay<|aY xD (decide ((65≤c∧c≤90)∨(97≤c∧c≤122)∨c=95)) (by repeat first|exact aB|refine au rfl (by first|rfl|exact aP (by rw [Bool.eq_iff_iff];simp;omega)) ?_) ?_
    exact ⟨rfl,hb,jV⟩
   have BF:=BE;simp only [DZ] at BE;refine aA rfl rfl BF rfl rfl<|aE rfl rfl ke<|ah (bg rfl BF rfl) rfl<|ah (bg rfl ke rfl) rfl<|ai rfl<|aE rfl rfl rfl<|ai rfl<|aE rfl rfl rfl<|ah (bA rfl rfl) rfl<|ah (bg rfl rfl rfl) rfl<|am rfl<|ay<|aY xD (decide ((65≤c∧c≤90)∨(97≤c∧c≤122)∨c=95)) (by repeat first|exact aB|refine au rfl (by first|rfl|exact aP (by rw [Bool.eq_iff_iff];simp;omega)) ?_) ?_
   exact ⟨rfl,hb,jV⟩
  have qV:=pY;simp only [DZ] at pY;refine aA rfl rfl qV rfl rfl<|ah (bg rfl qV rfl) rfl<|ai rfl<|aE rfl rfl rfl<|ai rfl<|aE rfl rfl rfl<|ah (jb rfl rfl) rfl<|aE rfl rfl rfl<|ai rfl<|cw rfl rfl rfl (fun BP=>?_) (fun BP=>?_)
  ·
   have BQ:=BP;simp only [DZ] at BP;refine ai rfl<|aE rfl rfl BQ<|ah (oB rfl rfl) rfl<|aE rfl rfl rfl<|ah (bi rfl BQ rfl) rfl<|ah (bg rfl rfl rfl) rfl<|ai rfl<|dP rfl rfl rfl (fun BW=>?_) (fun BW=>?_)
   ·
    have BX:=BW;simp only [DZ] at BW;refine aA rfl rfl BX rfl rfl<|ah (bi rfl BX rfl) rfl<|am rfl<|ay<|aY xD (decide ((65≤c∧c≤90)∨(97≤c∧c≤122)∨c=95)) (by repeat first|exact aB|refine au rfl (by first|rfl|exact aP (by rw [Bool.eq_iff_iff];simp;omega)) ?_) ?_
    exact ⟨rfl,hb,jV⟩
   have BX:=BW;simp only [DZ] at BW;refine ai rfl<|aE rfl rfl BX<|ah (bA rfl rfl) rfl<|ah (bg rfl BX rfl) rfl<|am rfl<|ay<|aY xD (decide ((65≤c∧c≤90)∨(97≤c∧c≤122)∨c=95)) (by repeat first|exact aB|refine au rfl (by first|rfl|exact aP (by rw [Bool.eq_iff_iff];simp;omega)) ?_) ?_
   exact ⟨rfl,hb,jV⟩
  have BQ:=BP;simp only [DZ] at BP;refine aA rfl rfl BQ rfl rfl<|aE rfl rfl rfl<|ah (bg rfl BQ rfl) rfl<|ah (bg rfl rfl rfl) rfl<|ai rfl<|aE rfl rfl rfl<|ai rfl<|aE rfl rfl rfl<|ah (bA rfl rfl) rfl<|ah (bg rfl rfl rfl) rfl<|am rfl<|ay<|aY xD (decide ((65≤c∧c≤90)∨(97≤c∧c≤122)∨c=95)) (by repeat first|exact aB|refine au rfl (by first|rfl|exact aP (by rw [Bool.eq_iff_iff];simp;omega)) ?_) ?_
  exact ⟨rfl,hb,jV⟩
 rintro q wr Kr;replace Kr:q=decide ((65≤c∧c≤90)∨(97≤c∧c≤122)∨c=95)∧Below w.heap.size w wr∧oF wr c7 s Dc:=Kr;obtain ⟨hq,hb,jV⟩:=Kr;show Wq _ _ _ _ [(0,str s),(3,.int .i64 (i:Int)),(4,.int .i32 (c:Int)),(5,.bool q),(7,.pointer (some ⟨c7,0,none⟩))] _;have:=hb.size;refine aw iW<|ax fun _ Cy=>b9 (X:=Bool) (fun q2=> [(0,str s),(7,.pointer (some ⟨c7,0,none⟩)),(43,.bool q2)]) (fun q2 wr=>q2=decide (¬((65≤c∧c≤90)∨(97≤c∧c≤122)∨c=95)∧(i=0∨c<48∨57<c))∧Below w.heap.size w wr∧oF wr c7 s Dc) (fun _ Fb=>?_) ?_
 ·
  refine aR<|ai rfl<|ah (fI rfl) rfl<|ai rfl<|cw rfl rfl rfl (fun r9=>?_) (fun r9=>?_)
  ·
   have jQ:=r9;simp only [DZ] at r9;refine ai rfl<|aE rfl rfl jQ<|ah (bA rfl rfl) rfl<|aE rfl rfl jQ<|ai rfl<|dP rfl rfl rfl (fun lS=>?_) (fun lS=>?_)
   ·
    have lT:=lS;simp only [DZ] at lS;refine aA rfl rfl lT rfl rfl<|aE rfl rfl jQ<|ah (bi rfl lT rfl) rfl<|aE rfl rfl jQ<|ai rfl<|aA rfl rfl rfl rfl rfl<|aA rfl rfl rfl rfl rfl<|aE rfl rfl jQ<|ah (bi rfl rfl rfl) rfl<|ah (bi rfl jQ rfl) rfl<|ay<|aY Fb (decide (¬((65≤c∧c≤90)∨(97≤c∧c≤122)∨c=95)∧(i=0∨c<48∨57<c))) (by repeat first|exact aB|refine au rfl (by first|rfl|exact aP (by have h1:=hq;rw [r9] at h1;have h2:=h1.symm;simp only [decide_eq_true_eq,decide_eq_false_iff_not] at h2;rw [Bool.eq_iff_iff];simp;omega)) ?_) ?_
    exact ⟨rfl,hb,jV⟩
   have lT:=lS;simp only [DZ] at lS;refine ai rfl<|aE rfl rfl lT<|ah (cg rfl rfl) rfl<|aE rfl rfl jQ<|ah (bg rfl lT rfl) rfl<|aE rfl rfl jQ<|ai rfl<|dP rfl rfl rfl (fun A7=>?_) (fun A7=>?_)
   ·
    have A8:=A7;simp only [DZ] at A7;refine aA rfl rfl A8 rfl rfl<|aE rfl rfl jQ<|ah (bi rfl A8 rfl) rfl<|ah (bi rfl jQ rfl) rfl<|ay<|aY Fb (decide (¬((65≤c∧c≤90)∨(97≤c∧c≤122)∨c=95)∧(i=0∨c<48∨57<c))) (by repeat first|exact aB|refine au rfl (by first|rfl|exact aP (by have h1:=hq;rw [r9] at h1;have h2:=h1.symm;simp only [decide_eq_true_eq,decide_eq_false_iff_not] at h2;rw [Bool.eq_iff_iff];simp;omega)) ?_) ?_
    exact ⟨rfl,hb,jV⟩
   have A8:=A7;simp only [DZ] at A7;refine ai rfl<|aE rfl rfl A8<|ah (eW rfl rfl) rfl<|aE rfl rfl jQ<|ah (bg rfl A8 rfl) rfl<|ah (bi rfl jQ rfl) rfl<|ay<|aY Fb (decide (¬((65≤c∧c≤90)∨(97≤c∧c≤122)∨c=95)∧(i=0∨c<48∨57<c))) (by repeat first|exact aB|refine au rfl (by first|rfl|exact aP (by have h1:=hq;rw [r9] at h1;have h2:=h1.symm;simp only [decide_eq_true_eq,decide_eq_false_iff_not] at h2;rw [Bool.eq_iff_iff];simp;omega)) ?_) ?_
   exact ⟨rfl,hb,jV⟩
  have jQ:=r9;simp only [DZ] at r9;refine aA rfl rfl jQ rfl rfl<|aA rfl rfl jQ rfl rfl<|cC rfl rfl rfl<|cC rfl rfl rfl<|aA rfl rfl jQ rfl rfl<|aA rfl rfl jQ rfl rfl<|cC rfl rfl rfl<|cC rfl rfl rfl<|aA rfl rfl jQ rfl rfl<|ah (bg rfl jQ rfl) rfl<|ay<|aY Fb (decide (¬((65≤c∧c≤90)∨(97≤c∧c≤122)∨c=95)∧(i=0∨c<48∨57<c))) (by repeat first|exact aB|refine au rfl (by first|rfl|exact aP (by have h1:=hq;rw [r9] at h1;have h2:=h1.symm;simp only [decide_eq_true_eq,decide_eq_false_iff_not] at h2;rw [Bool.eq_iff_iff];simp;omega)) ?_) ?_
  exact ⟨rfl,hb,jV⟩
 rintro q2 wr Jq;replace Jq:q2=decide (¬((65≤c∧c≤90)∨(97≤c∧c≤122)∨c=95)∧(i=0∨c<48∨57<c))∧Below w.heap.size w wr∧oF wr c7 s Dc:=Jq;obtain ⟨hq2,hb,jV⟩:=Jq;show Wq _ _ _ _ [(0,str s),(7,.pointer (some ⟨c7,0,none⟩)),(43,.bool q2)] _;have:=hb.size;refine aw Cy<|aH rfl (fun Hx=>?_) (fun Hx=>?_)
 ·
  have Hy:=Hx;have hbad:¬((65≤c∧c≤90)∨(97≤c∧c≤122)∨c=95)∧(i=0∨c<48∨57<c):=by have h:=Hy;rw [hq2] at h;exact of_decide_eq_true h
  have hno:bO s=false:=by
   rcases Nat.lt_or_ge (s.getD i 0).toNat 128 with h128|h128
   · have h1:=(Ln h128).1;rw [h1] at hbad;exact Uz QK hbad
   · exact Uz QK ⟨by omega,by omega⟩
  refine ao fun Cf=>am rfl<|an Cf<|aK<|bE (aQ (bE (aQ ?_)))
  refine bj rfl rfl ?_;exact ⟨_,rfl,aP hno.symm,hb⟩
 have Hy:=Hx;have hgood:¬(¬((65≤c∧c≤90)∨(97≤c∧c≤122)∨c=95)∧(i=0∨c<48∨57<c)):=by have h:=Hy;rw [hq2] at h;exact of_decide_eq_false h
 have hc128:(s.getD i 0).toNat<128:=by
  rcases Nat.lt_or_ge (s.getD i 0).toNat 128 with h|h
  · exact h
  · have:=QL h;omega
 obtain ⟨hce,hje⟩:=Ln hc128;refine aU<|bS<|fun a_ bn=>CD _ _ (Dc) (by omega) (by repeat first|exact aB|refine au rfl (by first|rfl|exact int_eq (by omega)) ?_) ?_ a_ bn
 exact ⟨by omega,fun k hk=>(by by_cases e:k=i;(· rw [e];apply ade;omega);(· exact hall k (by omega))),fun _=>(by by_cases e:i=0;(· rw [e] at hgood hce;omega);(· exact hd (by omega))),hb,jV⟩
abbrev Pr:=al×bW
structure ND where
 n:al
 ls:List (al)
 ps:List Pr
structure ED where
 n:al
 fr:Int
 tw:Int
 dir:Bool
 ls:List (al)
 ps:List Pr
structure GV where
 ns:List ND
 es:List ED
def ct:ND:=⟨[],[],[]⟩
def bU:ED:=⟨[],0,0,false,[],[]⟩
def cA:Pr:=([],dh)
def gP (ls:List (al)):Nat:=(ls.map fun l=>l.length+1).sum
def eV (ps:List Pr):Nat:=(ps.map fun p=>p.1.length+p.2.s.length+1).sum
def jG (d:ND):Nat:=d.n.length+gP d.ls+eV d.ps+1
def ow (d:ED):Nat:=d.n.length+gP d.ls+eV d.ps+1
def dO (g:GV):Nat:=(g.ns.map jG).sum+(g.es.map ow).sum
theorem De {α:Type} (f:α→Nat):∀{l:List α} {i:Nat} (hi:i<l.length),f l[i]≤(l.map f).sum
 | [],i,hi=>by simp at hi
 |a :: r,0,_=>by simp
 |a :: r,i+1,hi=>by
  have:=De f (l:=r) (i:=i) (by simpa using hi);simp only [List.getElem_cons_succ,List.map_cons,List.sum_cons];omega
theorem Dg {α:Type} (f:α→Nat) (h:∀a,1≤f a):∀(l:List α),l.length≤(l.map f).sum
 | []=>by simp
 |a :: r=>by have:=Dg f h r;have:=h a;simp only [List.length_cons,List.map_cons,List.sum_cons];omega
theorem getD_at {α:Type} {l:List α} {i:Nat} (d:α) (hi:i<l.length):l.getD i d=l[i]:=by simp [List.getD,List.getElem?_eq_getElem hi]
theorem td (ls:List (al)):ls.length≤gP ls:=Dg _ (fun _=>by omega) ls
theorem Tj {ls:List (al)} {i:Nat} (hi:i<ls.length):(ls.getD i []).length+1≤gP ls:=by rw [getD_at [] hi];exact De (fun l:al=>l.length+1) hi
theorem uG (ps:List Pr):ps.length≤eV ps:=Dg _ (fun _=>by omega) ps
theorem Tm {ps:List Pr} {i:Nat} (hi:i<ps.length):(ps.getD i cA).1.length+(ps.getD i cA).2.s.length+1≤eV ps:=by rw [getD_at cA hi];exact De (fun p:Pr=>p.1.length+p.2.s.length+1) hi
theorem ya (g:GV):g.ns.length≤dO g:=by have:=Dg jG (fun d=>by unfold jG;omega) g.ns;unfold dO;omega
theorem x9 (g:GV):g.es.length≤dO g:=by have:=Dg ow (fun d=>by unfold ow;omega) g.es;unfold dO;omega
theorem uF {g:GV} {i:Nat} (hi:i<g.ns.length):jG (g.ns.getD i ct)≤dO g:=by have:=De jG hi;rw [getD_at ct hi];unfold dO;omega
theorem F5 {g:GV} {i:Nat} (hi:i<g.es.length):ow (g.es.getD i bU)≤dO g:=by have:=De ow hi;rw [getD_at bU hi];unfold dO;omega
def fU (n:Nat) (p:Nat→Bool):Bool:=(List.range n).all p
theorem tz {n:Nat} {p:Nat→Bool} (h:∀j,j<n→p j=true):fU n p=true:=by unfold fU;rw [List.all_eq_true];intro j hj;exact h j (List.mem_range.1 hj)
theorem zW {n j:Nat} {p:Nat→Bool} (hj:j<n) (h:p j=false):fU n p=false:=by
 cases e:fU n p with
 |false=>rfl
 |true=>unfold fU at e;rw [List.all_eq_true] at e;rw [e j (List.mem_range.2 hj)] at h;cases h
theorem N8 (n:Nat) (p:Nat→Bool):fU (n+1) p=(fU n p&&p n):=by unfold fU;rw [List.range_succ,List.all_append];simp
theorem G8 {n:Nat} {p:Nat→Bool}:fU n p=true↔∀j,j<n→p j=true:=by unfold fU;rw [List.all_eq_true];exact ⟨fun h j hj=>h j (List.mem_range.2 hj),fun h j hj=>h j (List.mem_range.1 hj)⟩
def nl (ls:List (al)) (i:Nat):Bool:=bO (ls.getD i [])&&(i==0||Op.bytesLess (ls.getD (i - 1) []) (ls.getD i []))
def FU (ls:List (al)):Bool:=fU ls.length (nl ls)
def oy (ps:List Pr) (i:Nat):Bool:=decide ((ps.getD i cA).2.k≠0)&&en (ps.getD i cA).2
def qS (n:al) (ls:List (al)) (ps:List Pr):Bool:=fU ps.length (oy ps)&&bO n&&FU ls&&FU (ps.map (·.1))
def ng (l:List (al)):Nat→List (al×Value)
 |0=> []
 |i+1=>mput (ng l i) (l.getD i []) (.int .i64 i)
def zb (n:Nat) (i:Int):Bool:=decide (0≤i)&&decide (i<n)
def oq (d:ND):Bool:=qS d.n d.ls d.ps
def kH (n:Nat) (d:ED):Bool:=qS d.n d.ls d.ps&&zb n d.fr&&zb n d.tw
def distinct (l:List (al)):Bool:=decide ((ng l l.length).length=l.length)
def ux (g:GV):Bool:=distinct (g.ns.map (·.n))&&distinct (g.es.map (·.n))&&fU g.ns.length (fun i=>oq (g.ns.getD i ct))&&fU g.es.length (fun i=>kH g.ns.length (g.es.getD i bU))
def ru (g:GV):Int:=if 1000<g.ns.length∨1000<g.es.length then 6 else if ux g=true then 0 else 1
def f9 (p:Pr):List Value:=str p.1 :: p.2.cells
def c8 (ps:List Pr):List Value:=ps.flatMap f9
theorem nj (p:Pr):(f9 p).length=5:=rfl
theorem nk (ps:List Pr):(c8 ps).length=ps.length * 5:=by
 unfold c8
 induction ps with
 |nil=>rfl
 |cons p r ih=>rw [List.flatMap_cons,List.length_append,ih,nj,List.length_cons];omega
theorem IW {α:Type} (f:α→List Value) (k:Nat) (hf:∀a,(f a).length=k):∀(l:List α) (i j:Nat) (a:α),l[i]? =some a→j<k→(l.flatMap f)[i * k+j]? =(f a)[j]?
 | [],i,j,a,h,_=>by simp at h
 |b :: r,0,j,a,h,hj=>by
  simp at h;subst h;rw [List.flatMap_cons,Nat.zero_mul,Nat.zero_add,List.getElem?_append_left (by rw [hf];exact hj)]
 |b :: r,i+1,j,a,h,hj=>by
  rw [List.flatMap_cons,List.getElem?_append_right (by rw [hf,Nat.add_mul];omega),hf,show (i+1) * k+j - k=i * k+j by rw [Nat.add_mul];omega];exact IW f k hf r i j a (by simpa using h) hj
theorem rr {α:Type} {w:World} {A:Option Addr} {n:Nat} (f:α→List Value) {k:Nat} (hk:0<k) (hf:∀a,(f a).length=k) {l:List α} (h:Rd w k A n (l.flatMap f)) {i:Nat} (hi:i<l.length) (d:α):
 ∃p,A=some p∧∀(j:Nat) (u:Value),(f (l.getD i d))[j]? =some u→w.cell? ((p.add (i * k)).add j)=some u:=by
 have hpos:0<(l.flatMap f).length:=by
  have:=IW f k hf l i 0 _ (List.getElem?_eq_getElem hi) hk
  rcases Nat.eq_zero_or_pos (l.flatMap f).length with e|e
  · rw [List.eq_nil_of_length_eq_zero e] at this
    have h2:0<(f l[i]).length:=by rw [hf];exact hk
    rw [List.getElem?_eq_getElem h2] at this;simp at this
  · exact e
 obtain ⟨p,hp,hc⟩:=h.2 hpos
 refine ⟨p,hp,fun j u hu=>?_⟩
 rw [getD_at d hi] at hu
 have hj:j<k:=by have:=(List.getElem?_eq_some_iff.1 hu).1;rw [hf] at this;exact this
 rw [lL]
 exact hc _ _ ((IW f k hf l i j _ (List.getElem?_eq_getElem hi) hj).trans hu)
structure cY (S:Nat→Prop) (w:World) (A:Option Addr) (c:Nat) (B:Option Addr) (e:Nat) (d:ND):Prop where
 lc:d.ls.length≤c
 pc:d.ps.length≤e
 rl:Rd w 1 A d.ls.length (strs d.ls)
 rp:Rd w 5 B d.ps.length (c8 d.ps)
 sl:∀q,A=some q→S q.block
 sp:∀q,B=some q→S q.block
def lI (S:Nat→Prop) (w:World) (cs:List Value) (d:ND):Prop:=∃A c B e,cs= [str d.n,.slice A d.ls.length c,.slice B d.ps.length e]∧cY S w A c B e d
def lG (S:Nat→Prop) (w:World) (cs:List Value) (d:ED):Prop:=∃A c B e,cs= [str d.n,.int .i64 d.fr,.int .i64 d.tw,.bool d.dir,.slice A d.ls.length c,.slice B d.ps.length e]∧cY S w A c B e ⟨d.n,d.ls,d.ps⟩
def lJ (w:World) (sz:Nat) (A:Option Addr) (n:Nat) (Q:Nat→List Value→Prop):Prop:=∀i,i<n→∃p cs,A=some p∧cs.length=sz∧(∀(j:Nat) (u:Value),cs[j]? =some u→w.cell? ((p.add (i * sz)).add j)=some u)∧Q i cs
structure oE (S:Nat→Prop) (w:World) (A:Option Addr) (c:Nat) (B:Option Addr) (e:Nat) (g:GV):Prop where
 nc:g.ns.length≤c
 ec:g.es.length≤e
 rn:lJ w 3 A g.ns.length (fun i cs=>lI S w cs (g.ns.getD i ct))
 re:lJ w 6 B g.es.length (fun i cs=>lG S w cs (g.es.getD i bU))
 oks:∀d∈g.ns,∀p∈d.ps,p.2.Ok
 oke:∀d∈g.es,∀p∈d.ps,p.2.Ok
theorem cY.below {S:Nat→Prop} {w w':World} {A B:Option Addr} {c e:Nat} {d:ND} (h:cY S w A c B e d) (hb:Below w.heap.size w w'):cY S w' A c B e d:=⟨h.lc,h.pc,h.rl.below hb,h.rp.below hb,h.sl,h.sp⟩
theorem lI.below {S:Nat→Prop} {w w':World} {cs:List Value} {d:ND} (h:lI S w cs d) (hb:Below w.heap.size w w'):lI S w' cs d:=let ⟨A,c,B,e,h1,h2⟩:=h;⟨A,c,B,e,h1,h2.below hb⟩
theorem lG.below {S:Nat→Prop} {w w':World} {cs:List Value} {d:ED} (h:lG S w cs d) (hb:Below w.heap.size w w'):lG S w' cs d:=let ⟨A,c,B,e,h1,h2⟩:=h;⟨A,c,B,e,h1,h2.below hb⟩
theorem lJ.below {w w':World} {sz n:Nat} {A:Option Addr} {Q Q':Nat→List Value→Prop} (h:lJ w sz A n Q) (hb:Below w.heap.size w w') (hQ:∀i cs,i<n→Q i cs→Q' i cs):lJ w' sz A n Q':=fun i hi=>
 let ⟨p,cs,h1,h2,h3,h4⟩:=h i hi;⟨p,cs,h1,h2,fun j u hu=>ip hb (h3 j u hu),hQ i cs hi h4⟩
theorem oE.below {S:Nat→Prop} {w w':World} {A B:Option Addr} {c e:Nat} {g:GV} (h:oE S w A c B e g) (hb:Below w.heap.size w w'):oE S w' A c B e g:=
 ⟨h.nc,h.ec,h.rn.below hb fun _ _ _ h=>h.below hb,h.re.below hb fun _ _ _ h=>h.below hb,h.oks,h.oke⟩
theorem uy {α:Type} {f:α→List Pr} {l:List α} (h:∀d∈l,∀p∈f d,p.2.Ok) {i:Nat} (z:α) (hi:i<l.length):∀p∈f (l.getD i z),p.2.Ok:=by rw [getD_at z hi];exact h _ (List.getElem_mem hi)
theorem FM {ps:List Pr} (h:∀p∈ps,p.2.Ok) {i:Nat} (hi:i<ps.length):(ps.getD i cA).2.Ok:=by rw [getD_at cA hi];exact h _ (List.getElem_mem hi)
theorem yM (p:Addr) (w:World):(Instr.fieldAt 105 (.pointer (some p)) 0).run Tryz.prog w= .ok (.pointer (some (p.add 0))) w:=fd (i:=0) (sz:=0) pj rfl (by kernel_rfl) p w
theorem AR (p:Addr) (w:World):(Instr.fieldAt 105 (.pointer (some p)) 1).run Tryz.prog w= .ok (.pointer (some (p.add 1))) w:=fd (i:=1) (sz:=3) pj rfl (by kernel_rfl) p w
theorem gw (p:Addr) (w:World):(Instr.fieldAt 27 (.pointer (some p)) 0).run Tryz.prog w= .ok (.pointer (some (p.add 0))) w:=fd (i:=0) (sz:=0) eJ rfl (by kernel_rfl) p w
theorem ZP (p:Addr) (w:World):(Instr.fieldAt 79 (.pointer (some p)) 0).run Tryz.prog w= .ok (.pointer (some (p.add 0))) w:=fd (i:=0) (sz:=1) Tryz.underlying79 rfl (by kernel_rfl) p w
theorem fG:One Tryz.prog 24:=⟨_,dJ,rfl,by kernel_rfl⟩
theorem j5:(Tryz.prog.info? 105).map (·.size)=some 5:=by kernel_rfl
theorem Gj:bC Tryz.prog 43:=⟨_,Tryz.func43,by kernel_rfl,rfl⟩
theorem TU:bC Tryz.prog 55:=⟨_,Tryz.func55,by kernel_rfl,rfl⟩
theorem s6 (x:al):∀u∈List.flatMap (fun v:Value=>v.cells.toList) [str x],u.oneCell'=true:=fun u hu=>by rcases List.mem_singleton.1 (show u∈ [str x] from hu) with rfl;rfl
theorem Ds {w:World} {base:Nat} {e:TypeId} {sz n:Nat} {v:Value} {xs:List Value} (h:w.ownsRow base e sz v n xs) (g:Nat) (hg:w.heap.size≤g):v.ownBlock=none∨v.ownBlock≠some g:=by
 cases hv:v.ownBlock with
 |none=>exact .inl rfl
 |some k=>have:=(bz h k hv).2;exact .inr (fun e=>by cases e;omega)
theorem oH {w:World} {p:Addr} {i:Nat} {cs:List Value} {k:Nat} (h:∀(j:Nat) (u:Value),cs[j]? =some u→w.cell? ((p.add (i * k)).add j)=some u):∀(j:Nat) (u:Value),cs[j]? =some u→w.cell? ((p.add ((i:Int).toNat * k)).add j)=some u:=by rw [Int.toNat_natCast];exact h
theorem SP (A:Option Addr) (c:Nat) (ls:List (al)) (w:World) (hR:Rd w 1 A ls.length (strs ls)) (hsz:gP ls≤1099511627776):be Tryz.prog 55 [.slice A ls.length c] w fun v w'=>v= .bool (FU ls)∧Below w.heap.size w w':=by
 have hln:=td ls;have hb:=Below.refl w.heap.size w;have bh:=hR;refine enter Tryz.func55 rfl rfl rfl<|ao fun aZ=>am rfl<|an aZ<|ax fun _ bJ=>ao fun bX=>ai rfl<|ah (cG bK (by omega) rfl) rfl<|ai rfl<|an bX<|br<|cU (X:=Nat) (fun i=> [(0,.slice A ls.length c),(5,.slice A ls.length c),(6,.int .i64 (ls.length:Int)),(7,.int .i64 (i:Int))]) (fun i wr=>i≤ls.length∧(∀j,j<i→nl ls j=true)∧Below w.heap.size w wr) (fun i=>ls.length - i) (0) ?_ ?_ ?_
 · exact by repeat first|exact aB|refine au rfl (by first|rfl|exact int_eq (by omega)) ?_
 · exact ⟨by omega,fun _ h=>by omega,hb⟩
 rintro i wr qj _ CE;replace qj:i≤ls.length∧(∀j,j<i→nl ls j=true)∧Below w.heap.size w wr:=qj;obtain ⟨hi,hall,hb⟩:=qj;show Wc _ _ _ _ _ [(0,.slice A ls.length c),(5,.slice A ls.length c),(6,.int .i64 (ls.length:Int)),(7,.int .i64 (i:Int))] _;have hR:=bh.below hb;have:=hb.size;refine ao fun eZ=>ah (cg rfl rfl) rfl<|an eZ<|ax fun _ eO=>aH rfl (fun dH=>?_) (fun dH=>?_)
 ·
  have kD:=dH;simp only [DZ] at dH;have hil:i<ls.length:=by have:=dH;omega
  have hli:=Tj hil;obtain ⟨p_,v_,hpe,hve,hcell⟩:=hR.one (i:=i) hil;obtain rfl:=i6 hil hve;subst hpe;refine aU<|aw eO<|ax fun _ eR=>br<|ao fun fj=>ai rfl<|ah (cx bK eo rfl rfl (by omega) (by omega)) rfl<|aW (aI bQ rfl (by exact gH hcell)) rfl<|am rfl<|am rfl<|an fj<|ax fun _ fZ=>b9 (X:=Bool) (fun q=> [(0,.slice (some p_) ls.length c),(5,.slice (some p_) ls.length c),(6,.int .i64 (ls.length:Int)),(7,.int .i64 (i:Int)),(27,.bool q)]) (fun q wr=>q=(!nl ls i)∧Below w.heap.size w wr) (fun _ K7=>?_) ?_
  ·
   refine aR<|ai rfl<|aS Gj rfl rfl (Ej (ls.getD i []) (by omega) _) rfl ?_
   rintro _ cq ⟨rfl,bm⟩;have:=bm.size;have hb:=az hb bm;have hR:=bh.below hb;refine ah (fI rfl) rfl<|ai rfl<|dP rfl rfl rfl (fun su=>?_) (fun su=>?_)
   ·
    have jT:=su;simp only [DZ] at su;refine aA rfl rfl jT rfl rfl<|aA rfl rfl jT rfl rfl<|cC rfl rfl rfl<|cC rfl rfl rfl<|cC rfl rfl rfl<|cC rfl rfl rfl<|cC rfl rfl rfl<|cC rfl rfl rfl<|cC rfl rfl rfl<|aA rfl rfl jT rfl rfl<|ah (bi rfl jT rfl) rfl<|ay<|aY K7 (!nl ls i) (by repeat first|exact aB|refine au rfl (by first|rfl|exact aP (by unfold nl;simp_all;done)|exact aP (by unfold nl;simp_all;omega)) ?_) ?_
    exact ⟨rfl,hb⟩
   have jT:=su;simp only [DZ] at su;refine ai rfl<|aE rfl rfl jT<|ah (eW rfl rfl) rfl<|aE rfl rfl jT<|ai rfl<|cw rfl rfl rfl (fun Bx=>?_) (fun Bx=>?_)
   ·
    have l4:=Bx;simp only [DZ] at Bx;refine ai rfl<|aE rfl rfl l4<|ai rfl<|aE rfl rfl l4<|ah (gk rfl rfl (by omega) (by omega)) rfl<|aE rfl rfl l4 ?_
    have hi0:i≠0:=by omega
    obtain ⟨lC,M4,hpe2,hve2,hcell2⟩:=hR.one (i:=i - 1) (by omega)
    cases hpe2
    obtain rfl:=i6 (by omega) hve2;rw [show ((i - 1:Nat))=((i:Int) - 1).toNat by omega] at hcell2;refine ah (cx bK eo rfl rfl (by omega) (by omega)) rfl<|aE rfl rfl l4<|aW (aI bQ rfl (by exact by rw [Nat.mul_one];exact hcell2)) rfl<|aE rfl rfl l4<|ai rfl<|aE rfl rfl l4<|ah (ah1 rfl rfl) rfl<|aE rfl rfl jT<|ah (bi rfl l4 rfl) rfl<|ah (bg rfl jT rfl) rfl<|ay<|aY K7 (!nl ls i) (by repeat first|exact aB|refine au rfl (by first|rfl|exact aP (by unfold nl;simp_all;done)|exact aP (by unfold nl;simp_all;omega)) ?_) ?_
    exact ⟨rfl,hb⟩
   have l4:=Bx;simp only [DZ] at Bx;refine aA rfl rfl l4 rfl rfl<|aA rfl rfl l4 rfl rfl<|aA rfl rfl l4 rfl rfl<|aA rfl rfl l4 rfl rfl<|aA rfl rfl l4 rfl rfl<|aA rfl rfl l4 rfl rfl<|aE rfl rfl jT<|ah (bg rfl l4 rfl) rfl<|ah (bg rfl jT rfl) rfl<|ay<|aY K7 (!nl ls i) (by repeat first|exact aB|refine au rfl (by first|rfl|exact aP (by unfold nl;simp_all;done)|exact aP (by unfold nl;simp_all;omega)) ?_) ?_
   exact ⟨rfl,hb⟩
  rintro q wr J8;replace J8:q=(!nl ls i)∧Below w.heap.size w wr:=J8;obtain ⟨hq,hb⟩:=J8;show Wq _ _ _ _ [(0,.slice (some p_) ls.length c),(5,.slice (some p_) ls.length c),(6,.int .i64 (ls.length:Int)),(7,.int .i64 (i:Int)),(27,.bool q)] _;have hR:=bh.below hb;have:=hb.size;refine aw fZ<|aH rfl (fun HJ=>?_) (fun HJ=>?_)
  ·
   have HK:=HJ;refine ao fun mh=>am rfl<|an mh<|aK<|bE (aQ (aQ (bE (aQ ?_))))
   refine bj rfl rfl ?_;exact ⟨_,rfl,aP (by have h:=HK;rw [hq] at h;exact (zW hil (by simpa using h)).symm),hb⟩
  have HK:=HJ;refine aU<|bS<|aw eR<|aR<|ah (bH rfl rfl (by omega) (by omega)) rfl<|ai rfl<|ay<|fun a_ bn=>CE _ _ (i+1) (by omega) (by repeat first|exact aB|refine au rfl (by first|rfl|exact int_eq (by omega)) ?_) ?_ a_ bn
  exact ⟨by omega,fun j hj=>(by by_cases e:j=i;(· rw [e];have h:=HK;rw [hq] at h;simpa using h);(· exact hall j (by omega))),hb⟩
 have kD:=dH;simp only [DZ] at dH;refine cN<|bD<|bD<|cO<|aw bJ<|ao fun nZ=>am rfl<|an nZ<|aK<|bj rfl rfl ?_
 exact ⟨_,rfl,aP (tz (fun j hj=>hall j (by have:=dH;omega))).symm,hb⟩
theorem afi (A:Option Addr) (c n:Nat) (ls:List (al)) (hn:ls.length=n) (w:World) (hR:Rd w 1 A n (strs ls)) (hsz:gP ls≤1099511627776):be Tryz.prog 55 [.slice A n c] w fun v w'=>v= .bool (FU ls)∧Below w.heap.size w w':=by
 subst hn;exact SP A c ls w hR hsz
theorem adV {ps:List Pr} {i:Nat} (hi:i<ps.length):(ps.map (·.1)).take (i+1)=(ps.map (·.1)).take i++ [(ps.getD i cA).1]:=by
 rw [DQ [] (by simpa using hi),getD_at [] (by simpa using hi),getD_at cA hi,List.getElem_map]
theorem F4 (l:List (al)) (x:al):strs (l++ [x])=strs l++ [str x]:=by simp [strs]
theorem afW (ps:List Pr):gP (ps.map (·.1))≤eV ps:=by
 unfold gP eV
 induction ps with
 |nil=>simp
 |cons p r ih=>simp only [List.map_cons,List.sum_cons];omega
theorem O0 (S:Nat→Prop) (A:Option Addr) (c:Nat) (B:Option Addr) (e:Nat) (n:al) (ls:List (al)) (ps:List Pr) (w:World) (hN:cY S w A c B e ⟨n,ls,ps⟩) (hok:∀p∈ps,p.2.Ok) (hsz:jG ⟨n,ls,ps⟩≤1099511627776):
 be Tryz.prog 30 [str n,.slice A ls.length c,.slice B ps.length e] w fun v w'=>v= .bool (qS n ls ps)∧Below w.heap.size w w':=by
 have hs1:n.length+gP ls+eV ps+1≤1099511627776:=hsz
 have hpl:=uG ps
 have hll:=td ls
 have hb:=Below.refl w.heap.size w
 have jC:=hN
 refine enter Tryz.func30 rfl rfl rfl<|ao fun aZ=>am rfl<|an aZ<|ao fun bJ=>am rfl<|an bJ<|ax fun _ cT=>ao fun ex=>ai rfl<|ah (cG ef (by omega) rfl) rfl<|ai rfl<|an ex<|br<|cU (X:=Nat×Value) (fun (i,v)=> [(0,str n),(1,.slice A ls.length c),(7,v),(10,.slice B ps.length e),(11,.int .i64 (ps.length:Int)),(12,.int .i64 (i:Int))]) (fun (i,v) wr=>i≤ps.length∧(∀j,j<i→oy ps j=true)∧Below w.heap.size w wr∧wr.ownsRow w.heap.size 9 1 v i (strs ((ps.map (·.1)).take i))) (fun (i,v)=>ps.length - i) (⟨0,.slice none 0 0⟩) ?_ ?_ ?_
 · exact by repeat first|exact aB|refine au rfl (by first|rfl|exact int_eq (by omega)) ?_
 · exact ⟨by omega,fun _ h=>by omega,hb,s7 _ _ _ _⟩
 rintro ⟨i,v⟩ wr qd _ Cz
 replace qd:i≤ps.length∧(∀j,j<i→oy ps j=true)∧Below w.heap.size w wr∧wr.ownsRow w.heap.size 9 1 v i (strs ((ps.map (·.1)).take i)):=qd
 obtain ⟨hi,hall,hb,hO⟩:=qd
 show Wc _ _ _ _ _ [(0,str n),(1,.slice A ls.length c),(7,v),(10,.slice B ps.length e),(11,.int .i64 (ps.length:Int)),(12,.int .i64 (i:Int))] _
 have hN:=jC.below hb
 have:=hb.size
 refine ao fun eO=>ah (cg rfl rfl) rfl<|an eO<|ax fun _ eR=>aH rfl (fun jv=>?_) (fun jv=>?_)
 ·
  have z6:=jv;simp only [DZ] at jv;have hil:i<ps.length:=by have:=jv;omega
  have hpi:=Tm hil;have hoi:=FM hok hil;obtain ⟨p_,hpe,hcell⟩:=rr f9 (by omega) nj hN.rp hil cA;have hpe:B=some p_:=hpe;subst hpe;refine aU<|aw eR<|ax fun _ gY=>br<|ao fun iA=>ah (cx ef j5 rfl rfl (by omega) (by omega)) rfl<|aW (dM pj (by kernel_rfl) rfl (by exact oH hcell)) rfl ?_
  have sQ:=Ds hO;refine el (z:=Di) (by kernel_rfl) rfl ?_;rintro ma ahK QH cW sX;have:=sX.size;have hb:=az hb sX;have hN:=jC.below hb;have hO:=cR hO sX;have:=cW.lt;refine cH (by kernel_rfl) rfl rfl cW rfl rfl ?_;rintro d3 cW bI;have:=bI.size;have hb:=bY hb bI hb.size (by omega);have hN:=jC.below hb;have hO:=World.ownsRow.kept hO bI (by exact sQ _ QH);refine an iA<|ax fun _ fZ=>ax fun _ kT=>b9 (X:=Bool) (fun q=> [(0,str n),(1,.slice A ls.length c),(7,v),(9,.pointer (some ⟨ma,0,none⟩)),(10,.slice (some p_) ps.length e),(11,.int .i64 (ps.length:Int)),(12,.int .i64 (i:Int)),(25,.bool q)]) (fun q wr=>q=(!oy ps i)∧Below w.heap.size w wr∧wr.ownsRow w.heap.size 9 1 v i (strs ((ps.map (·.1)).take i))∧aq wr ma 105 (f9 (ps.getD i cA))) (fun _ CH=>?_) ?_
  ·
   refine aR<|ah (aJ (AR _) rfl) rfl<|ah (aJ (jP _) rfl) rfl<|aW (aI f8 rfl (by exact cW.at (j:=1) rfl)) rfl<|ah (bA rfl rfl) rfl<|ai rfl<|dP rfl rfl rfl (fun oQ=>?_) (fun oQ=>?_)
   ·
    have it:=oQ;simp only [DZ] at oQ;refine aA rfl rfl it rfl rfl<|aA rfl rfl it rfl rfl<|aA rfl rfl it rfl rfl<|ah (bi rfl it rfl) rfl<|ay<|aY CH (!oy ps i) (by repeat first|exact aB|refine au rfl (by first|rfl|exact aP (by unfold oy;simp_all;done)|exact aP (by unfold oy;simp_all;omega)) ?_) ?_
    exact ⟨rfl,hb,hO,cW⟩
   have it:=oQ;simp only [DZ] at oQ;refine ah (aJ (AR _) rfl) rfl<|aE rfl rfl it<|aW (dM de (by kernel_rfl) rfl (by exact show ∀(j:Nat) (u:Value),(ps.getD i cA).2.cells[j]? =some u→_ from fun j u hu=>by rw [lL];exact cW.at (by rw [Nat.add_comm];exact hu))) rfl<|aE rfl rfl it<|aS TT rfl rfl (NM (ps.getD i cA).2 hoi _) rfl ?_
   rintro _ cq ⟨rfl,bm⟩;have:=bm.size;have hb:=az hb bm;have hN:=jC.below hb;have hO:=cR hO bm;have cW:=aq.below cW bm;refine aE rfl rfl it<|ah (fI rfl) rfl<|ah (bg rfl it rfl) rfl<|ay<|aY CH (!oy ps i) (by repeat first|exact aB|refine au rfl (by first|rfl|exact aP (by unfold oy;simp_all;done)|exact aP (by unfold oy;simp_all;omega)) ?_) ?_
   exact ⟨rfl,hb,hO,cW⟩
  rintro q wr wX;replace wX:q=(!oy ps i)∧Below w.heap.size w wr∧wr.ownsRow w.heap.size 9 1 v i (strs ((ps.map (·.1)).take i))∧aq wr ma 105 (f9 (ps.getD i cA)):=wX;obtain ⟨hq,hb,hO,cW⟩:=wX;show Wq _ _ _ _ [(0,str n),(1,.slice A ls.length c),(7,v),(9,.pointer (some ⟨ma,0,none⟩)),(10,.slice (some p_) ps.length e),(11,.int .i64 (ps.length:Int)),(12,.int .i64 (i:Int)),(25,.bool q)] _;have hN:=jC.below hb;have:=hb.size;have:=cW.lt;refine aw kT<|aH rfl (fun pA=>?_) (fun pA=>?_)
  ·
   have Ak:=pA;refine ao fun ji=>am rfl<|an ji<|aK<|aQ (bE (aQ (aQ (bE (aQ ?_)))))
   refine bj rfl rfl ?_;exact ⟨_,rfl,aP (by unfold qS;have h:=Ak;rw [hq] at h;rw [zW hil (by simpa using h)];simp),hb⟩
  have Ak:=pA;refine aU<|aw fZ<|aR<|ai rfl<|ah (aJ (yM _) rfl) rfl<|aW (aI bQ rfl (by exact cW.at (j:=0) rfl)) rfl<|dX (sz:=1) (vs:= [_]) bK (by kernel_rfl) rfl rfl rfl rfl rfl rfl ?_
  rintro gc kw dg cD dW;have:=dW.size;have hb:=az hb dW;have hN:=jC.below hb;have hO:=cR hO dW;have:=cD.lt;refine dK (z:=(str [])) (sz:=1) (bytes:=16) bK (by kernel_rfl) rfl (by decide) _ rfl hO rfl (cD.rd 1 1 rfl) (s6 _) (by simp only [maxLen];omega) (by omega) (by exact hb.size) rfl ?_;rintro ry mJ oi ey ug;have:=ey.size;have hb:=hb.grown ey hb.size (fun k_ ba=>by have:=(bz hO k_ ba).1;omega);have hN:=jC.below hb;have hO:=oi;refine am rfl<|ay<|bS<|aw gY<|aR<|ah (bH rfl rfl (by omega) (by omega)) rfl<|ai rfl<|ay<|fun a_ bn=>Cz _ _ (⟨i+1,ry⟩) (by simp;omega) (by repeat first|exact aB|refine au rfl (by first|rfl|exact int_eq (by omega)) ?_) ?_ a_ bn
  exact ⟨by omega,fun j hj=>(by by_cases e:j=i;(· rw [e];have h:=Ak;rw [hq] at h;simpa using h);(· exact hall j (by omega))),hb,by rw [adV hil,F4];exact hO⟩
 have z6:=jv
 simp only [DZ] at jv
 have hie:i=ps.length:=by have:=jv;omega
 have hv1:fU ps.length (oy ps)=true:=tz (fun j hj=>hall j (by omega))
 have hml:(ps.map (·.1)).take i=ps.map (·.1):=by rw [hie];exact List.take_of_length_le (by simp)
 obtain ⟨Ao,co,hve,_,_⟩:=eT hO
 subst hve
 refine cN<|bD<|bD<|cO<|aw cT<|ao fun gd=>ai rfl<|aS Gj rfl rfl (Ej n (by omega) _) rfl ?_
 rintro _ ft ⟨rfl,bp⟩
 have:=bp.size
 have hb:=az hb bp
 have hN:=jC.below hb
 have hO:=cR hO bp
 refine ai rfl<|cw rfl rfl rfl (fun l7=>?_) (fun l7=>?_)
 ·
  have fY:=l7;refine ai rfl<|aE rfl rfl fY<|aS TU rfl rfl (SP A c ls _ hN.rl (by omega)) rfl ?_
  rintro _ gu ⟨rfl,bG⟩;have:=bG.size;have hb:=az hb bG;have hN:=jC.below hb;have hO:=cR hO bG;refine ah (bi rfl fY rfl) rfl<|ai rfl<|cw rfl rfl rfl (fun I9=>?_) (fun I9=>?_)
  ·
   have BG:=I9;refine ai rfl<|aE rfl rfl BG ?_
   have hRo:=fC hO;rw [hml] at hRo;refine aS TU rfl rfl (afi Ao co i (ps.map (·.1)) (by simp;omega) _ hRo (by have:=afW ps;omega)) rfl ?_;rintro _ hZ ⟨rfl,ck⟩;have:=ck.size;have hb:=az hb ck;have hN:=jC.below hb;refine ah (bi rfl BG rfl) rfl<|am rfl<|an gd<|aK<|bj rfl rfl ?_
   exact ⟨_,rfl,aP (by unfold qS;rw [hv1];simp_all),hb⟩
  have BG:=I9;refine aA rfl rfl BG rfl rfl<|ah (bg rfl BG rfl) rfl<|am rfl<|an gd<|aK<|bj rfl rfl ?_
  exact ⟨_,rfl,aP (by unfold qS;rw [hv1];simp_all),hb⟩
 have fY:=l7
 refine aA rfl rfl fY rfl rfl<|ah (bg rfl fY rfl) rfl<|ai rfl<|aA rfl rfl rfl rfl rfl<|aA rfl rfl rfl rfl rfl<|ah (bg rfl rfl rfl) rfl<|am rfl<|an gd<|aK<|bj rfl rfl ?_
 exact ⟨_,rfl,aP (by unfold qS;rw [hv1];simp_all),hb⟩
theorem Q4 (x:Nat) (i:Int) (v:Value) (A:Option Addr) (n c:Nat) (r:List Value) (w:World) (hB:aq w x 79 (.slice A n c :: r)) (hn:n≤1099511627776):be Tryz.prog 31 [.pointer (some ⟨x,0,none⟩),.int .i64 i] w fun v w'=>v= .bool (zb n i)∧Below w.heap.size w w':=by
 have hb:=Below.refl w.heap.size w;have sD:=hB;refine enter Tryz.func31 rfl rfl rfl<|ao fun aZ=>am rfl<|an aZ<|ao fun bJ=>ai rfl<|ah (jb rfl rfl) rfl<|ai rfl<|cw rfl rfl rfl (fun BL=>?_) (fun BL=>?_)
 ·
  have kP:=BL;simp only [DZ] at BL;refine ai rfl<|aE rfl rfl kP<|ai rfl<|aE rfl rfl kP<|ah (cM rfl) rfl<|aE rfl rfl kP<|ah (aJ (ZP _) rfl) rfl<|aE rfl rfl kP<|ah (aJ (gw _) rfl) rfl<|aE rfl rfl kP<|aW (aI fG rfl (by exact hB.at (j:=0) rfl)) rfl<|aE rfl rfl kP<|ah (cG dJ (by omega) rfl) rfl<|aE rfl rfl kP<|ah (cg rfl rfl) rfl<|ah (bi rfl kP rfl) rfl<|am rfl<|an bJ<|aK<|bj rfl rfl ?_
  exact ⟨_,rfl,aP (by unfold zb;first|(simp_all;done)|(simp_all;omega)),hb⟩
 have kP:=BL;simp only [DZ] at BL;refine aA rfl rfl kP rfl rfl<|aA rfl rfl kP rfl rfl<|aA rfl rfl kP rfl rfl<|aA rfl rfl kP rfl rfl<|aA rfl rfl kP rfl rfl<|aA rfl rfl kP rfl rfl<|aA rfl rfl kP rfl rfl<|ah (bg rfl kP rfl) rfl<|am rfl<|an bJ<|aK<|bj rfl rfl ?_
 exact ⟨_,rfl,aP (by unfold zb;first|(simp_all;done)|(simp_all;omega)),hb⟩
theorem jy (p:Addr) (w:World):(Instr.fieldAt 27 (.pointer (some p)) 1).run Tryz.prog w= .ok (.pointer (some (p.add 1))) w:=fd (i:=1) (sz:=0) eJ rfl (by kernel_rfl) p w
theorem r6 (p:Addr) (w:World):(Instr.fieldAt 43 (.pointer (some p)) 0).run Tryz.prog w= .ok (.pointer (some (p.add 0))) w:=fd (i:=0) (sz:=0) tg rfl (by kernel_rfl) p w
theorem AS (p:Addr) (w:World):(Instr.fieldAt 43 (.pointer (some p)) 1).run Tryz.prog w= .ok (.pointer (some (p.add 1))) w:=fd (i:=1) (sz:=0) tg rfl (by kernel_rfl) p w
theorem AT (p:Addr) (w:World):(Instr.fieldAt 43 (.pointer (some p)) 2).run Tryz.prog w= .ok (.pointer (some (p.add 2))) w:=fd (i:=2) (sz:=0) tg rfl (by kernel_rfl) p w
theorem wj (p:Addr) (w:World):(Instr.fieldAt 46 (.pointer (some p)) 0).run Tryz.prog w= .ok (.pointer (some (p.add 0))) w:=fd (i:=0) (sz:=0) mI rfl (by kernel_rfl) p w
theorem AU (p:Addr) (w:World):(Instr.fieldAt 46 (.pointer (some p)) 1).run Tryz.prog w= .ok (.pointer (some (p.add 1))) w:=fd (i:=1) (sz:=0) mI rfl (by kernel_rfl) p w
theorem AV (p:Addr) (w:World):(Instr.fieldAt 46 (.pointer (some p)) 2).run Tryz.prog w= .ok (.pointer (some (p.add 2))) w:=fd (i:=2) (sz:=0) mI rfl (by kernel_rfl) p w
theorem AW (p:Addr) (w:World):(Instr.fieldAt 46 (.pointer (some p)) 4).run Tryz.prog w= .ok (.pointer (some (p.add 4))) w:=fd (i:=4) (sz:=0) mI rfl (by kernel_rfl) p w
theorem AX (p:Addr) (w:World):(Instr.fieldAt 46 (.pointer (some p)) 5).run Tryz.prog w= .ok (.pointer (some (p.add 5))) w:=fd (i:=5) (sz:=0) mI rfl (by kernel_rfl) p w
theorem Pf (p:Addr) (w:World):(Instr.fieldAt 79 (.pointer (some p)) 1).run Tryz.prog w= .ok (.pointer (some (p.add 2))) w:=fd (i:=1) (sz:=0) Tryz.underlying79 rfl (by kernel_rfl) p w
theorem Pg (p:Addr) (w:World):(Instr.fieldAt 79 (.pointer (some p)) 2).run Tryz.prog w= .ok (.pointer (some (p.add 3))) w:=fd (i:=2) (sz:=0) Tryz.underlying79 rfl (by kernel_rfl) p w
theorem gL:One Tryz.prog 25:=⟨_,d4,rfl,by kernel_rfl⟩
theorem rm:One Tryz.prog 41:=⟨_,ef,rfl,by kernel_rfl⟩
theorem xT:One Tryz.prog 48:=⟨_,rx,rfl,by kernel_rfl⟩
theorem pd:(Tryz.prog.info? 43).map (·.size)=some 3:=by kernel_rfl
theorem x7:(Tryz.prog.info? 46).map (·.size)=some 6:=by kernel_rfl
theorem agQ:bC Tryz.prog 29:=⟨_,Tryz.func29,by kernel_rfl,rfl⟩
theorem TK:bC Tryz.prog 30:=⟨_,Tryz.func30,by kernel_rfl,rfl⟩
theorem TL:bC Tryz.prog 31:=⟨_,Tryz.func31,by kernel_rfl,rfl⟩
def cK (g:GV):List (al):=g.ns.map (·.n)
def dy (g:GV):List (al):=g.es.map (·.n)
theorem L3 {g:GV} {i:Nat} (hi:i<g.ns.length):(cK g).getD i []=(g.ns.getD i ct).n:=by unfold cK;rw [getD_at [] (by simpa using hi),getD_at ct hi,List.getElem_map]
theorem IQ {g:GV} {i:Nat} (hi:i<g.es.length):(dy g).getD i []=(g.es.getD i bU).n:=by unfold dy;rw [getD_at [] (by simpa using hi),getD_at bU hi,List.getElem_map]
theorem ac4 (S:Nat→Prop) (A:Option Addr) (c:Nat) (B:Option Addr) (e:Nat) (g:GV) (w:World) (hG:oE S w A c B e g) (hsz:dO g≤1099511627776):
 be Tryz.prog 29 [.agg #[.slice A g.ns.length c,.slice B g.es.length e]] w fun v w'=>(∃x m1 m2,v= .pointer (some ⟨x,0,none⟩)∧aq w' x 79 [.slice A g.ns.length c,.slice B g.es.length e,.map (some m1),.map (some m2),.slice none 0 0]∧Mp w' m1 (ng (cK g) g.ns.length)∧Mp w' m2 (ng (dy g) g.es.length))∧Below w.heap.size w w':=by
 have hnl:=ya g
 have hel:=x9 g
 have hb:=Below.refl w.heap.size w
 have bk:=hG
 refine enter Tryz.func29 rfl rfl rfl<|ao fun aZ=>jL rfl rfl ?_
 rintro aX js iB aj cF
 have:=cF.size
 have hb:=az hb cF
 have hG:=bk.below hb
 have:=aj.lt
 refine am rfl<|an aZ<|ao fun bX=>aW (dM eJ (by kernel_rfl) rfl (by exact fun j u hu=>aj.at hu)) rfl<|yp rfl ?_
 rintro c7 DW y0 Ls f6
 have:=f6.size
 have hb:=az hb f6
 have hG:=bk.below hb
 have aj:=aq.below aj f6
 have fM:=Ls
 have:=fM.lt
 refine yp rfl ?_
 rintro lm Uq Fh CS um
 have:=um.size
 have hb:=az hb um
 have hG:=bk.below hb
 have aj:=aq.below aj um
 have fM:=Mp.below fM um
 have d8:=CS
 have:=d8.lt
 refine ah (fe (z:= [(.slice none 0 0),(.slice none 0 0),(.map none),(.map none),(.slice none 0 0)]) (pl:= [(0,2),(2,1),(3,1),(4,1)]) (cs:= [_,_,_,_,_]) Tryz.underlying79 (by kernel_rfl) (by kernel_rfl) rfl rfl rfl) rfl<|jL rfl rfl ?_
 rintro ma ahK QH cW sX
 have:=sX.size
 have hb:=az hb sX
 have hG:=bk.below hb
 have aj:=aq.below aj sX
 have fM:=Mp.below fM sX
 have d8:=Mp.below d8 sX
 have:=cW.lt
 refine am rfl<|an bX<|ax fun _ d7=>ao fun eO=>ah (aJ (gw _) rfl) rfl<|aW (aI fG rfl (by exact aj.at rfl)) rfl<|ah (cG dJ (by omega) rfl) rfl<|ai rfl<|an eO<|br<|cU (X:=Nat) (fun i=> [(1,.pointer (some ⟨aX,0,none⟩)),(3,.pointer (some ⟨ma,0,none⟩)),(14,.slice A g.ns.length c),(15,.int .i64 (g.ns.length:Int)),(16,.int .i64 (i:Int))]) (fun i wr=>i≤g.ns.length∧Below w.heap.size w wr∧aq wr aX 27 [.slice A g.ns.length c,.slice B g.es.length e]∧aq wr ma 79 [.slice A g.ns.length c,.slice B g.es.length e,.map (some c7),.map (some lm),.slice none 0 0]∧Mp wr c7 (ng (cK g) i)∧Mp wr lm []) (fun i=>g.ns.length - i) (0) ?_ ?_ ?_
 · exact by repeat first|exact aB|refine au rfl (by first|rfl|exact int_eq (by omega)) ?_
 · exact ⟨by omega,hb,aj,cW,fM,d8⟩
 rintro i wr qe _ abM
 replace qe:i≤g.ns.length∧Below w.heap.size w wr∧aq wr aX 27 [.slice A g.ns.length c,.slice B g.es.length e]∧aq wr ma 79 [.slice A g.ns.length c,.slice B g.es.length e,.map (some c7),.map (some lm),.slice none 0 0]∧Mp wr c7 (ng (cK g) i)∧Mp wr lm []:=qe
 obtain ⟨hi,hb,aj,cW,fM,d8⟩:=qe
 show Wc _ _ _ _ _ [(1,.pointer (some ⟨aX,0,none⟩)),(3,.pointer (some ⟨ma,0,none⟩)),(14,.slice A g.ns.length c),(15,.int .i64 (g.ns.length:Int)),(16,.int .i64 (i:Int))] _
 have hG:=bk.below hb
 have:=hb.size
 have:=aj.lt
 have:=cW.lt
 have:=d8.lt
 have:=fM.lt
 refine ao fun gJ=>ah (cg rfl rfl) rfl<|an gJ<|ax fun _ fZ=>aH rfl (fun jc=>?_) (fun jc=>?_)
 ·
  have uT:=jc;simp only [DZ] at jc;have hil:i<g.ns.length:=by have:=jc;omega
  obtain ⟨p_,rZ,hpe,hcl,hcell,hQ⟩:=hG.rn i hil;obtain ⟨A1,c1,B1,e1,rfl,hN⟩:=hQ;subst hpe;refine aU<|aw fZ<|ax fun _ nV=>br<|ao fun jf=>ai rfl<|ah (cx dJ pd rfl rfl (by omega) (by omega)) rfl<|aW (dM tg (by kernel_rfl) rfl (by exact oH hcell)) rfl<|el (z:=oo) (by kernel_rfl) rfl ?_
  rintro Z9 ahG xG kg y5;have:=y5.size;have hb:=az hb y5;have hG:=bk.below hb;have aj:=aq.below aj y5;have cW:=aq.below cW y5;have d8:=Mp.below d8 y5;have fM:=Mp.below fM y5;have:=kg.lt;refine am rfl<|cH (by kernel_rfl) rfl rfl kg rfl rfl ?_
  rintro d3 kg bI;have:=bI.size;have hb:=bY hb bI hb.size (by omega);have hG:=bk.below hb;have aj:=aj.over bI (by omega);have cW:=cW.over bI (by omega);have d8:=d8.over bI (by omega);have fM:=fM.over bI (by omega);refine an jf<|gG (n:=8) (fun w'=>Below w.heap.size w w'∧aq w' ma 79 [.slice (some p_) g.ns.length c,.slice B g.es.length e,.map (some c7),.map (some lm),.slice none 0 0]∧aq w' Z9 43 [str (g.ns.getD i ct).n,.slice A1 (g.ns.getD i ct).ls.length c1,.slice B1 (g.ns.getD i ct).ps.length e1]) #[ac,ac,ac,ac,ac,ac,ac,ac] (by kernel_rfl) rfl (by kernel_rfl)<|gF ?_
  rintro Gy iY;have:=iY.size;have hb:=az hb iY;have hG:=bk.below hb;have aj:=aq.below aj iY;have cW:=aq.below cW iY;have d8:=Mp.below d8 iY;have fM:=Mp.below fM iY;have kg:=aq.below kg iY;refine aT (i:=0) #[ab,ac,ac,ac,ac,ac,ac,ac] rfl (by kernel_rfl) aO rfl (fun wq hq=>a8 (bl rfl)) ⟨hb,cW,kg⟩<|aT (i:=1) #[ab,ab,ac,ac,ac,ac,ac,ac] rfl (by kernel_rfl) aO rfl (fun wq hq=>a8 (cM rfl)) ⟨hb,cW,kg⟩<|aT (i:=2) #[ab,ab,ab,ac,ac,ac,ac,ac] rfl (by kernel_rfl) aO rfl (fun wq hq=>a8 (aJ (Pf _) rfl)) ⟨hb,cW,kg⟩<|aT (i:=3) #[ab,ab,ab,ab,ac,ac,ac,ac] rfl (by kernel_rfl) aO rfl (fun wq hq=>aI xT rfl (by obtain ⟨hq,cW,kg⟩:=hq;exact cW.at (j:=2) rfl)) ⟨hb,cW,kg⟩<|aT (i:=4) #[ab,ab,ab,ab,ab,ac,ac,ac] rfl (by kernel_rfl) aO rfl (fun wq hq=>a8 (aJ (r6 _) rfl)) ⟨hb,cW,kg⟩<|aT (i:=5) #[ab,ab,ab,ab,ab,ab,ac,ac] rfl (by kernel_rfl) aO rfl (fun wq hq=>aI bQ rfl (by obtain ⟨hq,cW,kg⟩:=hq;exact kg.at (j:=0) rfl)) ⟨hb,cW,kg⟩<|aT (i:=6) #[ab,ab,ab,ab,ab,ab,ab,ac] rfl (by kernel_rfl) aO rfl (fun wq hq=>a8 (bl rfl)) ⟨hb,cW,kg⟩<|bM (rs:= [7]) (by kernel_rfl) rfl<|bv #[ab,ab,ab,ab,ab,ab,ab,ab] rfl rfl (fun _ xq=>?_) ?_
  ·
   refine GZ rx bq rfl rfl rfl fM ?_;rintro ajj acv yZ;have:=yZ.size;have hb:=bY hb yZ hb.size (by omega);have hG:=bk.below hb;have aj:=aj.over yZ (by omega);have cW:=cW.over yZ (by omega);have d8:=d8.over yZ (by omega);have kg:=kg.over yZ (by omega);have fM:=acv;refine ay<|bu xq ⟨hb,cW,kg⟩<|eE (by kernel_rfl)<|bS<|aw nV<|aR<|ah (bH rfl rfl (by omega) (by omega)) rfl<|ai rfl<|ay<|fun a_ bn=>abM _ _ (i+1) (by omega) (by repeat first|exact aB|refine au rfl (by first|rfl|exact int_eq (by omega)) ?_) ?_ a_ bn
   exact ⟨by omega,hb,aj,cW,by unfold ng;rw [L3 hil];exact fM,d8⟩
  exact bN
 have uT:=jc
 simp only [DZ] at jc
 have hie:i=g.ns.length:=by have:=jc;omega
 refine cN<|bD<|bD<|cO<|aw d7<|ax fun _ mg=>ao fun nX=>ah (aJ (jy _) rfl) rfl<|aW (aI gL rfl (by exact aj.at rfl)) rfl<|ah (cG d4 (by omega) rfl) rfl<|ai rfl<|an nX<|br<|cU (X:=Nat) (fun i=> [(3,.pointer (some ⟨ma,0,none⟩)),(30,.slice B g.es.length e),(31,.int .i64 (g.es.length:Int)),(32,.int .i64 (i:Int))]) (fun i wr=>i≤g.es.length∧Below w.heap.size w wr∧aq wr ma 79 [.slice A g.ns.length c,.slice B g.es.length e,.map (some c7),.map (some lm),.slice none 0 0]∧Mp wr c7 (ng (cK g) g.ns.length)∧Mp wr lm (ng (dy g) i)) (fun i=>g.es.length - i) (0) ?_ ?_ ?_
 · exact by repeat first|exact aB|refine au rfl (by first|rfl|exact int_eq (by omega)) ?_
 · exact ⟨by omega,hb,cW,hie ▸ fM,d8⟩
 rintro i wr qg _ CC
 replace qg:i≤g.es.length∧Below w.heap.size w wr∧aq wr ma 79 [.slice A g.ns.length c,.slice B g.es.length e,.map (some c7),.map (some lm),.slice none 0 0]∧Mp wr c7 (ng (cK g) g.ns.length)∧Mp wr lm (ng (dy g) i):=qg
 obtain ⟨hi,hb,cW,fM,d8⟩:=qg
 show Wc _ _ _ _ _ [(3,.pointer (some ⟨ma,0,none⟩)),(30,.slice B g.es.length e),(31,.int .i64 (g.es.length:Int)),(32,.int .i64 (i:Int))] _
 have hG:=bk.below hb
 have:=hb.size
 have:=cW.lt
 have:=fM.lt
 have:=d8.lt
 refine ao fun gd=>ah (cg rfl rfl) rfl<|an gd<|ax fun _ nZ=>aH rfl (fun vb=>?_) (fun vb=>?_)
 ·
  have XI:=vb;simp only [DZ] at vb;have hil:i<g.es.length:=by have:=vb;omega
  obtain ⟨p_,rZ,hpe,hcl,hcell,hQ⟩:=hG.re i hil;obtain ⟨A1,c1,B1,e1,rfl,hN⟩:=hQ;subst hpe;refine aU<|aw nZ<|ax fun _ qm=>br<|ao fun n5=>ai rfl<|ah (cx d4 x7 rfl rfl (by omega) (by omega)) rfl<|aW (dM mI (by kernel_rfl) rfl (by exact oH hcell)) rfl<|el (z:=mA) (by kernel_rfl) rfl ?_
  rintro wJ ahH aci b6 rf;have:=rf.size;have hb:=az hb rf;have hG:=bk.below hb;have cW:=aq.below cW rf;have fM:=Mp.below fM rf;have d8:=Mp.below d8 rf;have:=b6.lt;refine am rfl<|cH (by kernel_rfl) rfl rfl b6 rfl rfl ?_
  rintro ky b6 cd;have:=cd.size;have hb:=bY hb cd hb.size (by omega);have hG:=bk.below hb;have cW:=cW.over cd (by omega);have fM:=fM.over cd (by omega);have d8:=d8.over cd (by omega);refine an n5<|gG (n:=8) (fun w'=>Below w.heap.size w w'∧aq w' ma 79 [.slice A g.ns.length c,.slice (some p_) g.es.length e,.map (some c7),.map (some lm),.slice none 0 0]∧aq w' wJ 46 [str (g.es.getD i bU).n,.int .i64 (g.es.getD i bU).fr,.int .i64 (g.es.getD i bU).tw,.bool (g.es.getD i bU).dir,.slice A1 (g.es.getD i bU).ls.length c1,.slice B1 (g.es.getD i bU).ps.length e1]) #[ac,ac,ac,ac,ac,ac,ac,ac] (by kernel_rfl) rfl (by kernel_rfl)<|gF ?_
  rintro Gx jY;have:=jY.size;have hb:=az hb jY;have hG:=bk.below hb;have cW:=aq.below cW jY;have fM:=Mp.below fM jY;have d8:=Mp.below d8 jY;have b6:=aq.below b6 jY;refine aT (i:=0) #[ab,ac,ac,ac,ac,ac,ac,ac] rfl (by kernel_rfl) aO rfl (fun wq hq=>a8 (bl rfl)) ⟨hb,cW,b6⟩<|aT (i:=1) #[ab,ab,ac,ac,ac,ac,ac,ac] rfl (by kernel_rfl) aO rfl (fun wq hq=>a8 (cM rfl)) ⟨hb,cW,b6⟩<|aT (i:=2) #[ab,ab,ab,ac,ac,ac,ac,ac] rfl (by kernel_rfl) aO rfl (fun wq hq=>a8 (aJ (Pg _) rfl)) ⟨hb,cW,b6⟩<|aT (i:=3) #[ab,ab,ab,ab,ac,ac,ac,ac] rfl (by kernel_rfl) aO rfl (fun wq hq=>aI xT rfl (by obtain ⟨hq,cW,b6⟩:=hq;exact cW.at (j:=3) rfl)) ⟨hb,cW,b6⟩<|aT (i:=4) #[ab,ab,ab,ab,ab,ac,ac,ac] rfl (by kernel_rfl) aO rfl (fun wq hq=>a8 (aJ (wj _) rfl)) ⟨hb,cW,b6⟩<|aT (i:=5) #[ab,ab,ab,ab,ab,ab,ac,ac] rfl (by kernel_rfl) aO rfl (fun wq hq=>aI bQ rfl (by obtain ⟨hq,cW,b6⟩:=hq;exact b6.at (j:=0) rfl)) ⟨hb,cW,b6⟩<|aT (i:=6) #[ab,ab,ab,ab,ab,ab,ab,ac] rfl (by kernel_rfl) aO rfl (fun wq hq=>a8 (bl rfl)) ⟨hb,cW,b6⟩<|bM (rs:= [7]) (by kernel_rfl) rfl<|bv #[ab,ab,ab,ab,ab,ab,ab,ab] rfl rfl (fun _ jk=>?_) ?_
  ·
   refine GZ rx bq rfl rfl rfl d8 ?_;rintro ahI acC y1;have:=y1.size;have hb:=bY hb y1 hb.size (by omega);have hG:=bk.below hb;have cW:=cW.over y1 (by omega);have fM:=fM.over y1 (by omega);have b6:=b6.over y1 (by omega);have d8:=acC;refine ay<|bu jk ⟨hb,cW,b6⟩<|eE (by kernel_rfl)<|bS<|aw qm<|aR<|ah (bH rfl rfl (by omega) (by omega)) rfl<|ai rfl<|ay<|fun a_ bn=>CC _ _ (i+1) (by omega) (by repeat first|exact aB|refine au rfl (by first|rfl|exact int_eq (by omega)) ?_) ?_ a_ bn
   exact ⟨by omega,hb,cW,fM,by unfold ng;rw [IQ hil];exact d8⟩
  exact bN
 have XI:=vb
 simp only [DZ] at vb
 have hie:i=g.es.length:=by have:=vb;omega
 refine cN<|bD<|bD<|cO<|aw mg<|ao fun oS=>ai rfl<|am rfl<|an oS<|aK<|bj rfl rfl ?_
 exact ⟨_,rfl,⟨_,_,_,rfl,cW,fM,hie ▸ d8⟩,hb⟩
theorem EG (a b:Nat):((a:Int)==(b:Int))=decide (a=b):=by rw [Bool.eq_iff_iff,beq_iff_eq,decide_eq_true_eq];omega
theorem U6 (S:Nat→Prop) (A:Option Addr) (c:Nat) (B:Option Addr) (e:Nat) (g:GV) (w:World) (hG:oE S w A c B e g) (hsz:dO g≤1099511627776):
 be Tryz.prog 12 [.agg #[.slice A g.ns.length c,.slice B g.es.length e]] w fun v w'=>v= .int .i64 (ru g)∧Below w.heap.size w w':=by
 have hnl:=ya g
 have hel:=x9 g
 have hdn:distinct (g.ns.map (·.n))=decide ((ng (cK g) g.ns.length).length=g.ns.length):=by unfold distinct cK;rw [List.length_map]
 have hde:distinct (g.es.map (·.n))=decide ((ng (dy g) g.es.length).length=g.es.length):=by unfold distinct dy;rw [List.length_map]
 have hb:=Below.refl w.heap.size w
 have bk:=hG
 refine enter Tryz.func12 rfl rfl rfl<|ao fun aZ=>jL rfl rfl ?_
 rintro aX js iB aj cF
 have:=cF.size
 have hb:=az hb cF
 have hG:=bk.below hb
 have:=aj.lt
 refine am rfl<|an aZ<|ax fun _ bX=>ax fun _ cT=>b9 (X:=Bool) (fun q=> [(1,.pointer (some ⟨aX,0,none⟩)),(18,.bool q)]) (fun q wr=>q=decide (1000<g.ns.length∨1000<g.es.length)∧Below w.heap.size w wr∧aq wr aX 27 [.slice A g.ns.length c,.slice B g.es.length e]) (fun _ Qn=>?_) ?_
 ·
  refine aR<|ah (aJ (gw _) rfl) rfl<|aW (aI fG rfl (by exact aj.at (j:=0) rfl)) rfl<|ah (cG dJ (by omega) rfl) rfl<|ah (eW rfl rfl) rfl<|ai rfl<|dP rfl rfl rfl (fun lX=>?_) (fun lX=>?_)
  ·
   have fX:=lX;simp only [DZ] at lX;refine aA rfl rfl fX rfl rfl<|aA rfl rfl fX rfl rfl<|aA rfl rfl fX rfl rfl<|ah (bi rfl fX rfl) rfl<|ay<|aY Qn (decide (1000<g.ns.length∨1000<g.es.length)) (by repeat first|exact aB|refine au rfl (by first|rfl|exact aP (by rw [Bool.eq_iff_iff];simp;omega)) ?_) ?_
   exact ⟨rfl,hb,aj⟩
  have fX:=lX;simp only [DZ] at lX;refine ah (aJ (jy _) rfl) rfl<|aE rfl rfl fX<|aW (aI gL rfl (by exact aj.at (j:=1) rfl)) rfl<|aE rfl rfl fX<|ah (cG d4 (by omega) rfl) rfl<|aE rfl rfl fX<|ah (eW rfl rfl) rfl<|ah (bg rfl fX rfl) rfl<|ay<|aY Qn (decide (1000<g.ns.length∨1000<g.es.length)) (by repeat first|exact aB|refine au rfl (by first|rfl|exact aP (by rw [Bool.eq_iff_iff];simp;omega)) ?_) ?_
  exact ⟨rfl,hb,aj⟩
 rintro q wr wR
 replace wR:q=decide (1000<g.ns.length∨1000<g.es.length)∧Below w.heap.size w wr∧aq wr aX 27 [.slice A g.ns.length c,.slice B g.es.length e]:=wR
 obtain ⟨hq1,hb,aj⟩:=wR
 show Wq _ _ _ _ [(1,.pointer (some ⟨aX,0,none⟩)),(18,.bool q)] _
 have hG:=bk.below hb
 have:=hb.size
 have:=aj.lt
 refine aw cT<|aH rfl (fun lN=>?_) (fun lN=>?_)
 ·
  have rP:=lN;have hbig:1000<g.ns.length∨1000<g.es.length:=by have h:=rP;rw [hq1] at h;exact of_decide_eq_true h
  refine ao fun fZ=>am rfl<|an fZ<|aK<|aQ<|bj rfl rfl ?_
  exact ⟨_,rfl,int_eq (by unfold ru;rw [if_pos hbig]),hb⟩
 have rP:=lN
 have hsmall:¬(1000<g.ns.length∨1000<g.es.length):=by have h:=rP;rw [hq1] at h;exact of_decide_eq_false h
 refine aU<|aw bX<|ao fun nV=>aW (dM eJ (by kernel_rfl) rfl (by exact fun j u hu=>aj.at hu)) rfl<|aS agQ rfl rfl (ac4 S A c B e g _ hG hsz) rfl ?_
 rintro _ cq ⟨⟨x,m1,m2,rfl,df,oc,lx⟩,bm⟩
 have:=bm.size
 have hb:=az hb bm
 have hG:=bk.below hb
 have aj:=aq.below aj bm
 refine am rfl<|an nV<|ax fun _ kU=>b9 (X:=Bool) (fun q=> [(1,.pointer (some ⟨aX,0,none⟩)),(3,.pointer (some ⟨x,0,none⟩)),(4,.bool q)]) (fun q wr=>q=(distinct (g.ns.map (·.n))&&distinct (g.es.map (·.n)))∧Below w.heap.size w wr∧aq wr aX 27 [.slice A g.ns.length c,.slice B g.es.length e]∧aq wr x 79 [.slice A g.ns.length c,.slice B g.es.length e,.map (some m1),.map (some m2),.slice none 0 0]) (fun _ xB=>?_) ?_
 ·
  refine ju (by kernel_rfl) (by kernel_rfl)<|aC (bl rfl) rfl<|aC (cM rfl) rfl<|aC (aJ (Pf _) rfl) rfl<|cr (fun wq hq=>aI xT rfl (by have hG:=hG.below hq;have aj:=aq.below aj hq;have df:=aq.below df hq;have oc:=Mp.below oc hq;have lx:=Mp.below lx hq;exact df.at (j:=2) rfl)) rfl<|cr (fun wq hq=>FB rx rfl (by have hG:=hG.below hq;have aj:=aq.below aj hq;have df:=aq.below df hq;have oc:=Mp.below oc hq;have lx:=Mp.below lx hq;exact oc)) rfl<|aC (aJ (gw _) rfl) rfl<|cr (fun wq hq=>aI fG rfl (by have hG:=hG.below hq;have aj:=aq.below aj hq;have df:=aq.below df hq;have oc:=Mp.below oc hq;have lx:=Mp.below lx hq;exact aj.at (j:=0) rfl)) rfl<|aC (cG dJ (by omega) rfl) rfl<|aC (bA rfl rfl) rfl<|aC (bl rfl) rfl<|iN rfl rfl rfl (fun l5=>?_) (fun l5=>?_)
  ·
   have eu:=l5;simp only [DZ] at l5;refine aC (bl rfl) rfl<|bB rfl rfl eu<|aC (cM rfl) rfl<|bB rfl rfl eu<|aC (aJ (Pg _) rfl) rfl<|bB rfl rfl eu<|cr (fun wq hq=>aI xT rfl (by have hG:=hG.below hq;have aj:=aq.below aj hq;have df:=aq.below df hq;have oc:=Mp.below oc hq;have lx:=Mp.below lx hq;exact df.at (j:=3) rfl)) rfl<|bB rfl rfl eu<|cr (fun wq hq=>FB rx rfl (by have hG:=hG.below hq;have aj:=aq.below aj hq;have df:=aq.below df hq;have oc:=Mp.below oc hq;have lx:=Mp.below lx hq;exact lx)) rfl<|bB rfl rfl eu<|aC (aJ (jy _) rfl) rfl<|bB rfl rfl eu<|cr (fun wq hq=>aI gL rfl (by have hG:=hG.below hq;have aj:=aq.below aj hq;have df:=aq.below df hq;have oc:=Mp.below oc hq;have lx:=Mp.below lx hq;exact aj.at (j:=1) rfl)) rfl<|bB rfl rfl eu<|aC (cG d4 (by omega) rfl) rfl<|bB rfl rfl eu<|aC (bA rfl rfl) rfl<|aC (bi rfl eu rfl) rfl<|aC (cX rfl) rfl<|dZ fun ahD sV=>?_
   have acP:=sV.size;have hb:=az hb sV;have hG:=bk.below hb;have aj:=aq.below aj sV;have df:=aq.below df sV;refine aY xB (distinct (g.ns.map (·.n))&&distinct (g.es.map (·.n))) (by repeat first|exact aB|refine au rfl (by first|rfl|exact aP (by rw [hdn,hde,←EG,←EG,eu];rfl)) ?_) ?_;exact ⟨rfl,hb,aj,df⟩
  have eu:=l5;simp only [DZ] at l5;refine aL rfl rfl eu rfl rfl<|aL rfl rfl eu rfl rfl<|aL rfl rfl eu rfl rfl<|aL rfl rfl eu rfl rfl<|aL rfl rfl eu rfl rfl<|aL rfl rfl eu rfl rfl<|aL rfl rfl eu rfl rfl<|aL rfl rfl eu rfl rfl<|aC (bg rfl eu rfl) rfl<|aC (cX rfl) rfl<|dZ fun ahD sV=>?_
  have acP:=sV.size;have hb:=az hb sV;have hG:=bk.below hb;have aj:=aq.below aj sV;have df:=aq.below df sV;refine aY xB (distinct (g.ns.map (·.n))&&distinct (g.es.map (·.n))) (by repeat first|exact aB|refine au rfl (by first|rfl|exact aP (by rw [hdn,hde,←EG,←EG,eu];rfl)) ?_) ?_;exact ⟨rfl,hb,aj,df⟩
 rintro q wr xa
 replace xa:q=(distinct (g.ns.map (·.n))&&distinct (g.es.map (·.n)))∧Below w.heap.size w wr∧aq wr aX 27 [.slice A g.ns.length c,.slice B g.es.length e]∧aq wr x 79 [.slice A g.ns.length c,.slice B g.es.length e,.map (some m1),.map (some m2),.slice none 0 0]:=xa
 obtain ⟨hq2,hb,aj,df⟩:=xa
 show Wq _ _ _ _ [(1,.pointer (some ⟨aX,0,none⟩)),(3,.pointer (some ⟨x,0,none⟩)),(4,.bool q)] _
 have hG:=bk.below hb
 have:=hb.size
 have:=aj.lt
 have:=df.lt
 refine aw kU<|ax fun _ xr=>ao fun qn=>ah (aJ (gw _) rfl) rfl<|aW (aI fG rfl (by exact aj.at (j:=0) rfl)) rfl<|ah (cG dJ (by omega) rfl) rfl<|ai rfl<|an qn<|br<|cU (X:=Nat×Bool) (fun (i,q)=> [(1,.pointer (some ⟨aX,0,none⟩)),(3,.pointer (some ⟨x,0,none⟩)),(4,.bool q),(42,.slice A g.ns.length c),(43,.int .i64 (g.ns.length:Int)),(44,.int .i64 (i:Int))]) (fun (i,q) wr=>i≤g.ns.length∧q=(distinct (g.ns.map (·.n))&&distinct (g.es.map (·.n))&&fU i (fun i=>oq (g.ns.getD i ct)))∧Below w.heap.size w wr∧aq wr aX 27 [.slice A g.ns.length c,.slice B g.es.length e]∧aq wr x 79 [.slice A g.ns.length c,.slice B g.es.length e,.map (some m1),.map (some m2),.slice none 0 0]) (fun (i,q)=>g.ns.length - i) (⟨0,q⟩) ?_ ?_ ?_
 · exact by repeat first|exact aB|refine au rfl (by first|rfl|exact int_eq (by omega)) ?_
 · exact ⟨by omega,by rw [hq2];simp [fU],hb,aj,df⟩
 rintro ⟨i,q⟩ wr Kc _ ab1
 replace Kc:i≤g.ns.length∧q=(distinct (g.ns.map (·.n))&&distinct (g.es.map (·.n))&&fU i (fun i=>oq (g.ns.getD i ct)))∧Below w.heap.size w wr∧aq wr aX 27 [.slice A g.ns.length c,.slice B g.es.length e]∧aq wr x 79 [.slice A g.ns.length c,.slice B g.es.length e,.map (some m1),.map (some m2),.slice none 0 0]:=Kc
 obtain ⟨hi,hq3,hb,aj,df⟩:=Kc
 show Wc _ _ _ _ _ [(1,.pointer (some ⟨aX,0,none⟩)),(3,.pointer (some ⟨x,0,none⟩)),(4,.bool q),(42,.slice A g.ns.length c),(43,.int .i64 (g.ns.length:Int)),(44,.int .i64 (i:Int))] _
 have hG:=bk.below hb
 have:=hb.size
 have:=aj.lt
 have:=df.lt
 refine ao fun sJ=>ah (cg rfl rfl) rfl<|an sJ<|ax fun _ xt=>aH rfl (fun ve=>?_) (fun ve=>?_)
 ·
  have XK:=ve;simp only [DZ] at ve;have hil:i<g.ns.length:=by have:=ve;omega
  obtain ⟨p_,rZ,hpe,hcl,hcell,hQ⟩:=hG.rn i hil;obtain ⟨A1,c1,B1,e1,rfl,hN⟩:=hQ;have hszn:=uF hil;have hokn:=uy (f:=fun d:ND=>d.ps) hG.oks ct hil;subst hpe;refine aU<|aw xt<|ax fun _ jk=>br<|ax fun _ mn=>?_
  have hbN:=Below.refl wr.heap.size wr;have sP:=hN;refine aR<|ah (cx dJ pd rfl rfl (by omega) (by omega)) rfl<|aW (dM tg (by kernel_rfl) rfl (by exact oH hcell)) rfl<|el (z:=oo) (by kernel_rfl) rfl ?_
  rintro eF Na Lj cj jn;have:=jn.size;have hb:=az hb jn;have hG:=bk.below hb;have hbN:=az hbN jn;have hN:=sP.below hbN;have aj:=aq.below aj jn;have df:=aq.below df jn;have:=cj.lt;refine cH (by kernel_rfl) rfl rfl cj rfl rfl ?_;rintro d3 cj bI;have:=bI.size;have hb:=bY hb bI hb.size (by omega);have hG:=bk.below hb;have hbN:=bY hbN bI hbN.size (by omega);have hN:=sP.below hbN;have aj:=aj.over bI (by omega);have df:=df.over bI (by omega);refine an mn<|b9 (X:=Bool) (fun q'=> [(1,.pointer (some ⟨aX,0,none⟩)),(3,.pointer (some ⟨x,0,none⟩)),(4,.bool q'),(42,.slice (some p_) g.ns.length c),(43,.int .i64 (g.ns.length:Int)),(44,.int .i64 (i:Int))]) (fun q' wr=>q'=(q&&oq (g.ns.getD i ct))∧Below w.heap.size w wr∧aq wr aX 27 [.slice (some p_) g.ns.length c,.slice B g.es.length e]∧aq wr x 79 [.slice (some p_) g.ns.length c,.slice B g.es.length e,.map (some m1),.map (some m2),.slice none 0 0]) (fun _ Qr=>?_) ?_
  ·
   refine aR<|ai rfl<|ai rfl<|cw rfl rfl rfl (fun je=>?_) (fun je=>?_)
   ·
    have eN:=je;refine ah (aJ (r6 _) rfl) rfl<|aE rfl rfl eN<|aW (aI bQ rfl (by exact cj.at (j:=0) rfl)) rfl<|aE rfl rfl eN<|ah (aJ (AS _) rfl) rfl<|aE rfl rfl eN<|aW (aI mD rfl (by exact cj.at (j:=1) rfl)) rfl<|aE rfl rfl eN<|ah (aJ (AT _) rfl) rfl<|aE rfl rfl eN<|aW (aI rm rfl (by exact cj.at (j:=2) rfl)) rfl<|aE rfl rfl eN<|aS TK rfl rfl (O0 S A1 c1 B1 e1 _ _ _ _ hN hokn (Nat.le_trans hszn hsz)) rfl ?_
    rintro _ ft ⟨rfl,bp⟩;have:=bp.size;have hb:=az hb bp;have hG:=bk.below hb;have hbN:=az hbN bp;have hN:=sP.below hbN;have aj:=aq.below aj bp;have df:=aq.below df bp;refine ah (bi rfl eN rfl) rfl<|am rfl<|ay<|aY Qr (q&&oq (g.ns.getD i ct)) (by repeat first|exact aB|refine au rfl (by first|rfl|exact aP (by unfold oq;simp_all;done)) ?_) ?_
    exact ⟨rfl,hb,aj,df⟩
   have eN:=je;refine aA rfl rfl eN rfl rfl<|aA rfl rfl eN rfl rfl<|aA rfl rfl eN rfl rfl<|aA rfl rfl eN rfl rfl<|aA rfl rfl eN rfl rfl<|aA rfl rfl eN rfl rfl<|ah (bg rfl eN rfl) rfl<|am rfl<|ay<|aY Qr (q&&oq (g.ns.getD i ct)) (by repeat first|exact aB|refine au rfl (by first|rfl|exact aP (by unfold oq;simp_all;done)) ?_) ?_
   exact ⟨rfl,hb,aj,df⟩
  rintro q' wr qi;replace qi:q'=(q&&oq (g.ns.getD i ct))∧Below w.heap.size w wr∧aq wr aX 27 [.slice (some p_) g.ns.length c,.slice B g.es.length e]∧aq wr x 79 [.slice (some p_) g.ns.length c,.slice B g.es.length e,.map (some m1),.map (some m2),.slice none 0 0]:=qi;obtain ⟨hq4,hb,aj,df⟩:=qi;show Wq _ _ _ _ [(1,.pointer (some ⟨aX,0,none⟩)),(3,.pointer (some ⟨x,0,none⟩)),(4,.bool q'),(42,.slice (some p_) g.ns.length c),(43,.int .i64 (g.ns.length:Int)),(44,.int .i64 (i:Int))] _;have hG:=bk.below hb;have:=hb.size;have:=aj.lt;have:=df.lt;refine bS<|aw jk<|aR<|ah (bH rfl rfl (by omega) (by omega)) rfl<|ai rfl<|ay<|fun a_ bn=>ab1 _ _ (⟨i+1,q'⟩) (by simp;omega) (by repeat first|exact aB|refine au rfl (by first|rfl|exact int_eq (by omega)) ?_) ?_ a_ bn
  exact ⟨by omega,by rw [hq4,hq3,N8,Bool.and_assoc],hb,aj,df⟩
 have XK:=ve
 simp only [DZ] at ve
 have hie:i=g.ns.length:=by have:=ve;omega
 refine cN<|bD<|bD<|cO<|aw xr<|ax fun _ sM=>ao fun Cu=>ah (aJ (jy _) rfl) rfl<|aW (aI gL rfl (by exact aj.at (j:=1) rfl)) rfl<|ah (cG d4 (by omega) rfl) rfl<|ai rfl<|an Cu<|br<|cU (X:=Nat×Bool) (fun (i,q)=> [(3,.pointer (some ⟨x,0,none⟩)),(4,.bool q),(60,.slice B g.es.length e),(61,.int .i64 (g.es.length:Int)),(62,.int .i64 (i:Int))]) (fun (i,q) wr=>i≤g.es.length∧q=(distinct (g.ns.map (·.n))&&distinct (g.es.map (·.n))&&fU g.ns.length (fun i=>oq (g.ns.getD i ct))&&fU i (fun i=>kH g.ns.length (g.es.getD i bU)))∧Below w.heap.size w wr∧aq wr x 79 [.slice A g.ns.length c,.slice B g.es.length e,.map (some m1),.map (some m2),.slice none 0 0]) (fun (i,q)=>g.es.length - i) (⟨0,q⟩) ?_ ?_ ?_
 · exact by repeat first|exact aB|refine au rfl (by first|rfl|exact int_eq (by omega)) ?_
 · exact ⟨by omega,by rw [hq3,hie];simp [fU],hb,df⟩
 rintro ⟨i,q⟩ wr xi _ ab4
 replace xi:i≤g.es.length∧q=(distinct (g.ns.map (·.n))&&distinct (g.es.map (·.n))&&fU g.ns.length (fun i=>oq (g.ns.getD i ct))&&fU i (fun i=>kH g.ns.length (g.es.getD i bU)))∧Below w.heap.size w wr∧aq wr x 79 [.slice A g.ns.length c,.slice B g.es.length e,.map (some m1),.map (some m2),.slice none 0 0]:=xi
 obtain ⟨hi,hq3,hb,df⟩:=xi
 show Wc _ _ _ _ _ [(3,.pointer (some ⟨x,0,none⟩)),(4,.bool q),(60,.slice B g.es.length e),(61,.int .i64 (g.es.length:Int)),(62,.int .i64 (i:Int))] _
 have hG:=bk.below hb
 have:=hb.size
 have:=df.lt
 refine ao fun qt=>ah (cg rfl rfl) rfl<|an qt<|ax fun _ sO=>aH rfl (fun vg=>?_) (fun vg=>?_)
 ·
  have XM:=vg;simp only [DZ] at vg;have hil:i<g.es.length:=by have:=vg;omega
  obtain ⟨p_,rZ,hpe,hcl,hcell,hQ⟩:=hG.re i hil;obtain ⟨A1,c1,B1,e1,rfl,hN⟩:=hQ;have hszn:=F5 hil;have hokn:=uy (f:=fun d:ED=>d.ps) hG.oke bU hil;subst hpe;refine aU<|aw sO<|ax fun _ Ks=>br<|ax fun _ kS=>?_
  have hbN:=Below.refl wr.heap.size wr;have sP:=hN;refine aR<|ah (cx d4 x7 rfl rfl (by omega) (by omega)) rfl<|aW (dM mI (by kernel_rfl) rfl (by exact oH hcell)) rfl<|el (z:=mA) (by kernel_rfl) rfl ?_
  rintro ain ajs aiA oR Fr;have:=Fr.size;have hb:=az hb Fr;have hG:=bk.below hb;have hbN:=az hbN Fr;have hN:=sP.below hbN;have df:=aq.below df Fr;have:=oR.lt;refine cH (by kernel_rfl) rfl rfl oR rfl rfl ?_;rintro ky oR cd;have:=cd.size;have hb:=bY hb cd hb.size (by omega);have hG:=bk.below hb;have hbN:=bY hbN cd hbN.size (by omega);have hN:=sP.below hbN;have df:=df.over cd (by omega);refine an kS<|b9 (X:=Bool) (fun q'=> [(3,.pointer (some ⟨x,0,none⟩)),(4,.bool q'),(60,.slice (some p_) g.es.length e),(61,.int .i64 (g.es.length:Int)),(62,.int .i64 (i:Int))]) (fun q' wr=>q'=(q&&kH g.ns.length (g.es.getD i bU))∧Below w.heap.size w wr∧aq wr x 79 [.slice A g.ns.length c,.slice (some p_) g.es.length e,.map (some m1),.map (some m2),.slice none 0 0]) (fun _ Fa=>?_) ?_
  ·
   refine aR<|ai rfl<|ai rfl<|cw rfl rfl rfl (fun I0=>?_) (fun I0=>?_)
   ·
    have lU:=I0;refine ah (aJ (wj _) rfl) rfl<|aE rfl rfl lU<|aW (aI bQ rfl (by exact oR.at (j:=0) rfl)) rfl<|aE rfl rfl lU<|ah (aJ (AW _) rfl) rfl<|aE rfl rfl lU<|aW (aI mD rfl (by exact oR.at (j:=4) rfl)) rfl<|aE rfl rfl lU<|ah (aJ (AX _) rfl) rfl<|aE rfl rfl lU<|aW (aI rm rfl (by exact oR.at (j:=5) rfl)) rfl<|aE rfl rfl lU<|aS TK rfl rfl (O0 S A1 c1 B1 e1 _ _ _ _ hN hokn (Nat.le_trans hszn hsz)) rfl ?_
    rintro _ gu ⟨rfl,bG⟩;have:=bG.size;have hb:=az hb bG;have hG:=bk.below hb;have hbN:=az hbN bG;have hN:=sP.below hbN;have df:=aq.below df bG;have oR:=aq.below oR bG;refine ah (bi rfl lU rfl) rfl<|ai rfl<|cw rfl rfl rfl (fun I2=>?_) (fun I2=>?_)
    ·
     have sd:=I2;refine ai rfl<|aE rfl rfl sd<|ah (aJ (AU _) rfl) rfl<|aE rfl rfl sd<|aW (aI f8 rfl (by exact oR.at (j:=1) rfl)) rfl<|aE rfl rfl sd<|aS TL rfl rfl (Q4 x _ (.tuple #[]) A g.ns.length c _ _ df (by omega)) rfl ?_
     rintro _ hZ ⟨rfl,ck⟩;have:=ck.size;have hb:=az hb ck;have hG:=bk.below hb;have hbN:=az hbN ck;have hN:=sP.below hbN;have df:=aq.below df ck;have oR:=aq.below oR ck;refine ah (bi rfl sd rfl) rfl<|ai rfl<|cw rfl rfl rfl (fun I3=>?_) (fun I3=>?_)
     ·
      have sf:=I3;refine ai rfl<|aE rfl rfl sf<|ah (aJ (AV _) rfl) rfl<|aE rfl rfl sf<|aW (aI f8 rfl (by exact oR.at (j:=2) rfl)) rfl<|aE rfl rfl sf<|aS TL rfl rfl (Q4 x _ (.tuple #[]) A g.ns.length c _ _ df (by omega)) rfl ?_
      rintro _ nq ⟨rfl,dE⟩;have:=dE.size;have hb:=az hb dE;have hG:=bk.below hb;have hbN:=az hbN dE;have hN:=sP.below hbN;have df:=aq.below df dE;refine ah (bi rfl sf rfl) rfl<|am rfl<|ay<|aY Fa (q&&kH g.ns.length (g.es.getD i bU)) (by repeat first|exact aB|refine au rfl (by first|rfl|exact aP (by unfold kH;simp_all;done)) ?_) ?_
      exact ⟨rfl,hb,df⟩
     have sf:=I3;refine aA rfl rfl sf rfl rfl<|aA rfl rfl sf rfl rfl<|aA rfl rfl sf rfl rfl<|ah (bg rfl sf rfl) rfl<|am rfl<|ay<|aY Fa (q&&kH g.ns.length (g.es.getD i bU)) (by repeat first|exact aB|refine au rfl (by first|rfl|exact aP (by unfold kH;simp_all;done)) ?_) ?_
     exact ⟨rfl,hb,df⟩
    have sd:=I2;refine aA rfl rfl sd rfl rfl<|aA rfl rfl sd rfl rfl<|aA rfl rfl sd rfl rfl<|ah (bg rfl sd rfl) rfl<|ai rfl<|aA rfl rfl rfl rfl rfl<|aA rfl rfl rfl rfl rfl<|aA rfl rfl rfl rfl rfl<|aA rfl rfl rfl rfl rfl<|ah (bg rfl rfl rfl) rfl<|am rfl<|ay<|aY Fa (q&&kH g.ns.length (g.es.getD i bU)) (by repeat first|exact aB|refine au rfl (by first|rfl|exact aP (by unfold kH;simp_all;done)) ?_) ?_
    exact ⟨rfl,hb,df⟩
   have lU:=I0;refine aA rfl rfl lU rfl rfl<|aA rfl rfl lU rfl rfl<|aA rfl rfl lU rfl rfl<|aA rfl rfl lU rfl rfl<|aA rfl rfl lU rfl rfl<|aA rfl rfl lU rfl rfl<|ah (bg rfl lU rfl) rfl<|ai rfl<|aA rfl rfl rfl rfl rfl<|aA rfl rfl rfl rfl rfl<|aA rfl rfl rfl rfl rfl<|aA rfl rfl rfl rfl rfl<|ah (bg rfl rfl rfl) rfl<|ai rfl<|aA rfl rfl rfl rfl rfl<|aA rfl rfl rfl rfl rfl<|aA rfl rfl rfl rfl rfl<|aA rfl rfl rfl rfl rfl<|ah (bg rfl rfl rfl) rfl<|am rfl<|ay<|aY Fa (q&&kH g.ns.length (g.es.getD i bU)) (by repeat first|exact aB|refine au rfl (by first|rfl|exact aP (by unfold kH;simp_all;done)) ?_) ?_
   exact ⟨rfl,hb,df⟩
  rintro q' wr Jy;replace Jy:q'=(q&&kH g.ns.length (g.es.getD i bU))∧Below w.heap.size w wr∧aq wr x 79 [.slice A g.ns.length c,.slice (some p_) g.es.length e,.map (some m1),.map (some m2),.slice none 0 0]:=Jy;obtain ⟨hq4,hb,df⟩:=Jy;show Wq _ _ _ _ [(3,.pointer (some ⟨x,0,none⟩)),(4,.bool q'),(60,.slice (some p_) g.es.length e),(61,.int .i64 (g.es.length:Int)),(62,.int .i64 (i:Int))] _;have hG:=bk.below hb;have:=hb.size;have:=df.lt;refine bS<|aw Ks<|aR<|ah (bH rfl rfl (by omega) (by omega)) rfl<|ai rfl<|ay<|fun a_ bn=>ab4 _ _ (⟨i+1,q'⟩) (by simp;omega) (by repeat first|exact aB|refine au rfl (by first|rfl|exact int_eq (by omega)) ?_) ?_ a_ bn
  exact ⟨by omega,by rw [hq4,hq3,N8,Bool.and_assoc],hb,df⟩
 have XM:=vg
 simp only [DZ] at vg
 have hie:i=g.es.length:=by have:=vg;omega
 have hok:q=ux g:=by rw [hq3,hie];rfl
 refine cN<|bD<|bD<|cO<|aw sM<|ax fun _ Cl=>ao fun Cm=>ai rfl<|ah (fI rfl) rfl<|an Cm<|aH rfl (fun vx=>?_) (fun vx=>?_)
 ·
  have X7:=vx;simp only [DZ] at vx;refine ao fun KA=>am rfl<|an KA<|aK<|aQ<|bj rfl rfl ?_
  exact ⟨_,rfl,int_eq (by unfold ru;rw [if_neg hsmall,if_neg (by rw [←hok,Bool.not_eq_true];exact vx)]),hb⟩
 have X7:=vx
 simp only [DZ] at vx
 refine aU<|aw Cl<|ao fun xo=>am rfl<|an xo<|aK<|bj rfl rfl ?_
 exact ⟨_,rfl,int_eq (by unfold ru;rw [if_neg hsmall,if_pos (by rw [←hok];exact vx)]),hb⟩
end Go.Proofs.YtjmlknjbhbfneaaGreatDoor
