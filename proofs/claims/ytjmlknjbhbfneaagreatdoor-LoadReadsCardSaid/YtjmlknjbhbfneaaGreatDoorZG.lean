import Derived.Test.YtjmlknjbhbfneaaGreatDoorZF
import Derived.Lib.Builder
namespace Go.Bw
open Go.RowKit
set_option linter.unusedVariables false
set_option linter.unusedSimpArgs false
section
variable {P:Program} {N:Nat} {D:List Deferred} {env:Env} {w:World} {ty:TypeId}
theorem ah8 {x:Operand} {t te u:TypeId} {j:TypeInfo} (hp:P.underlying t=some (.pointer te)) (hj:P.info? te=some j) (hx:ev env x=some (.pointer none)):Yl P N D env (.binOp .eql t x (.const (.pointer none)) u) ty (.bool true):=fun a ha w dst pos af g=>by
 have he:a.eval (.const (.pointer none))= .pointer none:=rfl;have h:∀d:Nat,(Op.equalIn (d+1) t (.pointer none) (.pointer none)).run P w= .ok true w:=fun d=>by simp [Op.equalIn,run_underlying hp,sizeOf,typeInfo,hj]
 have h1:(binOp .eql t (.pointer none) (.pointer none)).run P w= .ok (.bool true) w:=by
  simp only [binOp];simp [Op.equal,Op.maxDepth,h 9999]
 simp [execOp,ha.eval hx,eqGuard_at_pointer,he,h1]
theorem ah9 {x:Operand} {t te u:TypeId} {j:TypeInfo} {p:Addr} (hp:P.underlying t=some (.pointer te)) (hj:P.info? te=some j) (hx:ev env x=some (.pointer (some p))):Yl P N D env (.binOp .eql t x (.const (.pointer none)) u) ty (.bool false):=fun a ha w dst pos af g=>by
 have he:a.eval (.const (.pointer none))= .pointer none:=rfl;have h:∀d:Nat,(Op.equalIn (d+1) t (.pointer (some p)) (.pointer none)).run P w= .ok false w:=fun d=>by simp [Op.equalIn,run_underlying hp,sizeOf,typeInfo,hj]
 have h1:(binOp .eql t (.pointer (some p)) (.pointer none)).run P w= .ok (.bool false) w:=by
  simp only [binOp];simp [Op.equal,Op.maxDepth,h 9999]
 simp [execOp,ha.eval hx,eqGuard_at_pointer,he,h1]
theorem ah7 {x:Operand} {f:FuncId} {y:Operand} {ts:Array TypeId} {p:Option Addr} (he:pp P f Extern.AbiNoEscape.same) (hx:ev env x=some (.func (.func f) #[] #[])) (hy:kI env [y]=some [.pointer p]):Yl P N D env (.call ⟨.value x,#[y],ts⟩) ty (.pointer p):=
 GG he hx hy (fun w=>rfl)
theorem aia {x y:Operand} {t te u:TypeId} {j:TypeInfo} {p:Addr} (hp:P.underlying t=some (.pointer te)) (hj:P.info? te=some j) (hx:ev env x=some (.pointer (some p))) (hy:ev env y=some (.pointer (some p))):Yl P N D env (.binOp .neq t x y u) ty (.bool false):=fun a ha w dst pos af g=>by
 simp [execOp,ha.eval hx,ha.eval hy,eqGuard_at_pointer,Lib.run_neq_ptr_same w p hp hj]
theorem adj {x:Operand} {src dst t e:TypeId} {j:TypeInfo} {cells:Nat} {p:Addr} (hs:P.underlying src=some (.pointer t)) (hd:P.underlying dst=some .unsafePointer) (ht:P.info? t=some j) (hj:j.size≠0) (hsh:w.shape? p.block=some (e,cells)) (hoff:p.off<cells) (hx:ev env x=some (.pointer (some p))):
 Ld P N D env w (.convert src dst x) ty (.pointer (some p)):=fun a ha dst' pos af g=>by
 simp [execOp,ha.eval hx,Lib.run_to_unsafe w p hs hd ht hj hsh hoff]
theorem adi {x:Operand} {src dst u e:TypeId} {j:TypeInfo} {cells:Nat} {p:Addr} (hs:P.underlying src=some .unsafePointer) (hd:P.underlying dst=some (.pointer u)) (hu:P.info? u=some j) (hsh:w.shape? p.block=some (e,cells)) (hl:liesAt P P.depth e (cells / P.cellsOf e) p.off u 1=true) (hx:ev env x=some (.pointer (some p))):
 Ld P N D env w (.convert src dst x) ty (.pointer (some p)):=fun a ha dst' pos af g=>by
 simp [execOp,ha.eval hx,Lib.run_from_unsafe w p hs hd hu hsh hl]
end
end Go.Bw
namespace Go.Proofs.YtjmlknjbhbfneaaGreatDoor
open Go.RowKit Go.Bw Go.Bw.Fl
set_option linter.unusedVariables false
set_option linter.unusedSimpArgs false
theorem ZI:pp Tryz.prog 83 Extern.AbiNoEscape.same:=fun args w=>run_callFunc_extern Tryz.func83 (by kernel_rfl) (by kernel_rfl) (by kernel_rfl) (by kernel_rfl) args w
theorem EJ (p:Addr) (w:World):(Instr.fieldAt 67 (.pointer (some p)) 0).run Tryz.prog w= .ok (.pointer (some (p.add 0))) w:=fd (i:=0) (sz:=0) T5 rfl (by kernel_rfl) p w
theorem EK (p:Addr) (w:World):(Instr.fieldAt 67 (.pointer (some p)) 1).run Tryz.prog w= .ok (.pointer (some (p.add 1))) w:=fd (i:=1) (sz:=0) T5 rfl (by kernel_rfl) p w
theorem s5:One Tryz.prog 22:=⟨_,dB,rfl,by kernel_rfl⟩
theorem L7:One Tryz.prog 65:=⟨_,yf,rfl,by kernel_rfl⟩
theorem Gm:bC Tryz.prog 51:=⟨_,Tryz.func51,by kernel_rfl,rfl⟩
theorem Q0:∃j,Tryz.prog.info? 67=some j∧j.size≠0:=by
 have h:(Tryz.prog.info? 67).map (·.size)=some 2:=by kernel_rfl
 obtain ⟨j,hj,hs⟩:=Option.map_eq_some_iff.1 h;exact ⟨j,hj,by rw [hs];decide⟩
theorem adx:liesAt Tryz.prog Tryz.prog.depth 67 (2 / Tryz.prog.cellsOf 67) 0 67 1=true:=by kernel_rfl
theorem aea:One Tryz.prog 65:=⟨_,yf,rfl,by kernel_rfl⟩
theorem OB (b:Nat) (w:World) (h0:w.cell? ⟨b,0,none⟩=some (.pointer (some ⟨b,0,none⟩))):be Tryz.prog 51 [.pointer (some ⟨b,0,none⟩)] w fun v w'=>v= .tuple #[]∧w'=w:=by
 obtain ⟨j,hj,hjs⟩:=Q0;refine enter Tryz.func51 rfl rfl rfl<|ao fun aZ=>ai rfl<|ah (cM rfl) rfl<|ah (aJ (EJ _) rfl) rfl<|aW (aI L7 rfl (h0)) rfl<|ah (ah9 yf hj rfl) rfl<|an aZ<|aH rfl (fun cL=>?_) (fun cL=>?_)
 ·
  have j7:=cL
  cases cL
 have j7:=cL;simp only [DZ] at cL;refine ao fun gp=>ai rfl<|ah (cM rfl) rfl<|ah (aJ (EJ _) rfl) rfl<|aW (aI L7 rfl (h0)) rfl<|ai rfl<|ah (aia yf hj rfl rfl) rfl<|an gp<|aH rfl (fun Ag=>?_) (fun Ag=>?_)
 ·
  have XD:=Ag
  cases Ag
 have XD:=Ag;simp only [DZ] at Ag;refine aU<|lh rfl ?_
 exact ⟨_,rfl,rfl,rfl⟩
theorem IJ (b:Nat) (w:World) (h0:w.cell? ⟨b,0,none⟩=some (.pointer none)) (hsh:w.shape? b=some (67,2)) (hfz:w.frozen? ⟨b,0,none⟩=false):be Tryz.prog 51 [.pointer (some ⟨b,0,none⟩)] w fun v w'=>v= .tuple #[]∧w'=w.setCell ⟨b,0,none⟩ (.pointer (some ⟨b,0,none⟩)):=by
 obtain ⟨j,hj,hjs⟩:=Q0;refine enter Tryz.func51 rfl rfl rfl<|ao fun aZ=>ai rfl<|ah (cM rfl) rfl<|ah (aJ (EJ _) rfl) rfl<|aW (aI L7 rfl (h0)) rfl<|ah (ah8 yf hj rfl) rfl<|an aZ<|aH rfl (fun cL=>?_) (fun cL=>?_)
 ·
  have j7:=cL;simp only [DZ] at cL;refine aR<|ai rfl<|ai rfl<|aW (adj (p:=⟨b,0,none⟩) yf Tryz.underlying137 hj hjs hsh (Nat.zero_lt_succ 1) rfl) rfl<|ah (ah7 ZI rfl rfl) rfl<|aW (adi (p:=⟨b,0,none⟩) Tryz.underlying137 yf hj hsh adx rfl) rfl<|ah (cM rfl) rfl<|ah (aJ (EJ _) rfl) rfl<|rJ (zt (p:=⟨b,0,none⟩) aea rfl rfl rfl h0 hfz)<|ay<|lh rfl ?_
  exact ⟨_,rfl,rfl,rfl⟩
 have j7:=cL
 cases cL
theorem OA (B b:Nat) (bs:List Value) (w:World) (h:Lib.IsBuilder 67 5 B b bs w):be Tryz.prog 51 [.pointer (some ⟨b,0,none⟩)] w fun v w'=>v= .tuple #[]∧Lib.BuilderAt 67 5 B b (.pointer (some ⟨b,0,none⟩)) bs w'∧Below B w w':=by
 rcases h with h|h
 · exact (IJ b w h.cell0 h.shape h.frozen0).mono fun v w' ⟨h1,h2⟩=>⟨h1,by subst h2;exact ⟨h.used _,(Below.refl B w).setCell (p:=⟨b,0,none⟩) h.1 _⟩⟩
 · exact (OB b w h.cell0).mono fun v w' ⟨h1,h2⟩=>⟨h1,by subst h2;exact ⟨h,Below.refl B _⟩⟩
theorem L8:One Tryz.prog 22:=⟨_,dB,rfl,by kernel_rfl⟩
theorem Xn (l:al) (c:UInt8):Lib.byteCells (l++ [c])=Lib.byteCells l++ [.int .u8 c.toNat]:=by simp [Lib.byteCells]
theorem N7 (B b:Nat) (l:al) (c:UInt8) (w:World) (h:Lib.IsBuilder 67 5 B b (Lib.byteCells l) w) (hl:l.length+1≤140737488355328) (hBw:B≤w.heap.size):be Tryz.prog 175 [.pointer (some ⟨b,0,none⟩),.int .u8 (c.toNat:Int)] w fun v w'=>v= .nilIface∧Lib.IsBuilder 67 5 B b (Lib.byteCells (l++ [c])) w'∧Below B w w':=by
 have hbl:(Lib.byteCells l).length=l.length:=Lib.byteCells_length l;refine enter Tryz.func175 rfl rfl rfl<|ao fun aZ=>am rfl<|an aZ<|ao fun bJ=>ai rfl<|aS Gm rfl rfl (OA B b _ _ h) rfl ?_
 rintro _ w1 ⟨rfl,hA,hb1⟩;refine an bJ<|ax fun _ ex=>?_
 obtain ⟨hB,v,hbk,hown,hne⟩:=hA;have c1:w1.cell? ⟨b,1,none⟩=some v:=by rw [Lib.cell_of_heap hbk];rfl
 have hsz1:=hb1.size;refine aR<|ai rfl<|ai rfl<|ah (cM rfl) rfl<|ah (aJ (EK _) rfl) rfl<|aW (aI s5 rfl (c1)) rfl<|ai rfl<|dX (sz:=1) (vs:= [_]) dB (by kernel_rfl) rfl rfl rfl rfl rfl rfl ?_
 rintro g1 w2 hg1 hB1 hs1;have hown2:=cR hown hs1;have hsz2:=hs1.size;refine dK (z:= .int .u8 0) (sz:=1) (bytes:=1) (news:= [.int .u8 (c.toNat:Int)]) dB (by kernel_rfl) rfl (by decide) B rfl hown2 rfl (fC (hB1.own (base:=B) (n:=1) (sz:=1) (by omega) rfl (by decide))) (fun u hu=>by rw [List.mem_singleton.1 hu];rfl) (by unfold maxLen;omega) (by omega) (by omega) rfl ?_;rintro v3 w3 hown3 hgr _
 have hlt:b<w1.heap.size:=by
  rcases Nat.lt_or_ge b w1.heap.size with h'|h'
  · exact h'
  · simp [Array.getElem?_eq_none h'] at hbk
 have hb3:w3.heap[b]? =some (.cells #[.pointer (some ⟨b,0,none⟩),v] 67 (0,0)):=by rw [hgr.block b (by omega) (fun e=>hne e.symm),hs1.block b hlt];exact hbk
 obtain ⟨A3,cc3,hv3,_,_⟩:=eT hown3;have hone:v3.oneCell'=true:=by rw [hv3];rfl
 have hb13:Below B w w3:=(hb1.trans (hs1.mono (by omega))).grown hgr (by omega) (fun k hk=>(bz hown2 k hk).1);refine ah (cM rfl) rfl<|ah (aJ (EK _) rfl) rfl<|rJ (zt (p:=⟨b,1,none⟩) L8 rfl rfl hone (by rw [Lib.cell_of_heap hb3];rfl) (Lib.frozen_of_heap hb3 1))<|an ex<|ao fun iA=>am rfl<|an iA<|aK<|bj rfl rfl ?_
 exact ⟨_,rfl,rfl,.inr (by rw [Xn];exact Lib.BuilderAt.put hB hb3 (by simpa using hown3) (by decide)),hb13.setCell (p:=⟨b,1,none⟩) hB _⟩
theorem TF:bC Tryz.prog 175:=⟨_,Tryz.func175,by kernel_rfl,rfl⟩
theorem MS:bC Tryz.prog 28:=⟨_,Tryz.func28,by kernel_rfl,rfl⟩
theorem TQ:bC Tryz.prog 42:=⟨_,Tryz.func42,by kernel_rfl,rfl⟩
def mR (d:UInt8):Option UInt8:=if d=92 then some 92 else if d=39 then some 39 else if d=110 then some 10 else none
def bV:al→Nat→al→al×Nat
 | [],_,_=>([],0)
 | [c],i,a=>if c=39 then (a,i+1) else ([],0)
 |c :: d :: r,i,a=>if c=39 then (a,i+1) else if c=10 then ([],0) else if c=92 then (match mR d with|none=>([],0)|some e=>bV r (i+2) (a++ [e])) else bV (d :: r) (i+1) (a++ [c])
def bL (s:al):al×Nat:=bV (s.drop 1) 1 []
theorem drop_at {s:al} {i:Nat} (h:i<s.length):s.drop i=s.getD i 0 :: s.drop (i+1):=by
 rw [List.drop_eq_getElem_cons h];simp [List.getD,List.getElem?_eq_getElem h]
theorem T8 {s:al} {i:Nat} (a:al) (h:¬i<s.length):bV (s.drop i) i a=([],0):=by
 rw [List.drop_eq_nil_of_le (by omega),bV]
theorem Ud {s:al} {i:Nat} (a:al) (h:i<s.length) (hc:s.getD i 0=39):bV (s.drop i) i a=(a,i+1):=by
 rw [drop_at h]
 cases hd:s.drop (i+1) with
 |nil=>rw [bV,if_pos hc]
 |cons d r=>rw [bV,if_pos hc]
theorem Ua {s:al} {i:Nat} (a:al) (h:i<s.length) (hc:s.getD i 0=10):bV (s.drop i) i a=([],0):=by
 rw [drop_at h,hc]
 cases hd:s.drop (i+1) with
 |nil=>rw [bV,if_neg (by decide)]
 |cons d r=>rw [bV,if_neg (by decide),if_pos rfl]
theorem Ub {s:al} {i:Nat} (a:al) (h:i<s.length) (hc:s.getD i 0=92) (hl:i+1=s.length):bV (s.drop i) i a=([],0):=by
 rw [drop_at h,List.drop_eq_nil_of_le (by omega),hc,bV,if_neg (by decide)]
theorem T9 {s:al} {i:Nat} (a:al) (h:i+1<s.length) (hc:s.getD i 0=92):bV (s.drop i) i a=match mR (s.getD (i+1) 0) with|none=>([],0)|some e=>bV (s.drop (i+2)) (i+2) (a++ [e]):=by
 rw [drop_at (by omega:i<s.length),hc,drop_at h,bV,if_neg (by decide),if_neg (by decide),if_pos rfl]
theorem Uc {s:al} {i:Nat} (a:al) (h:i<s.length) (h1:s.getD i 0≠39) (h2:s.getD i 0≠10) (h3:s.getD i 0≠92):bV (s.drop i) i a=bV (s.drop (i+1)) (i+1) (a++ [s.getD i 0]):=by
 rw [drop_at h]
 cases hd:s.drop (i+1) with
 |nil=>rw [show bV [s.getD i 0] i a=([],0) by rw [bV,if_neg h1],bV]
 |cons d r=>rw [bV,if_neg h1,if_neg h2,if_neg h3]
theorem O4 (d:UInt8):(Lib.indexByte [92,39,110] d= -1∧mR d=none)∨∃k:Nat,k<3∧Lib.indexByte [92,39,110] d=(k:Int)∧mR d=some (([92,39,10]:al).getD k 0):=by
 by_cases h1:d=92
 · subst h1;exact .inr ⟨0,by decide,by decide,by decide⟩
 · by_cases h2:d=39
   · subst h2;exact .inr ⟨1,by decide,by decide,by decide⟩
   · by_cases h3:d=110
     · subst h3;exact .inr ⟨2,by decide,by decide,by decide⟩
     · refine .inl ⟨?_,by unfold mR;rw [if_neg h1,if_neg h2,if_neg h3]⟩
       have e1:((92:UInt8)==d)=false:=by simp;exact fun h=>h1 h.symm
       have e2:((39:UInt8)==d)=false:=by simp;exact fun h=>h2 h.symm
       have e3:((110:UInt8)==d)=false:=by simp;exact fun h=>h3 h.symm
       simp [Lib.indexByte,e1,e2,e3]
theorem U9 (s:al) (d:UInt8) (w:World):be Tryz.prog 42 [str s,.int .u8 (d.toNat:Int)] w fun v w'=>(∃z,v= .int .i64 z∧z=Lib.indexByte s d)∧w'=w:=
 (Nw s (d.toNat:Int) w).mono fun v w' ⟨h1,h2⟩=>⟨⟨_,h1,by simp⟩,h2⟩
theorem mH {c:UInt8} {n:Nat} (h:(c.toNat:Int)=(n:Int)) (hn:n<256):c=UInt8.ofNat n:=by
 apply UInt8.toNat_inj.1;rw [UInt8.toNat_ofNat'];omega
theorem pi {c:UInt8} {n:Nat} (h:¬(c.toNat:Int)=(n:Int)) (hn:n<256):c≠UInt8.ofNat n:=fun e=>h (by rw [e,UInt8.toNat_ofNat'];omega)
theorem th {s l:al} {n:Nat} {m:Int} (h:bL s=(l,n)) (hm:m=(n:Int)):Value.tuple #[str l,.int .i64 m]= .tuple #[str (bL s).1,.int .i64 ((bL s).2:Nat)]:=by rw [h,hm]
theorem GK (B b:Nat) (l:al) (w:World) (h:Lib.IsBuilder 67 5 B b (Lib.byteCells l) w) (hB:B≤w.heap.size):be Tryz.prog 28 [.pointer (some ⟨b,0,none⟩)] w fun v w'=>v=str l∧Below B w w':=
 Calls.mono (Tryz.Builder_String_any B b l w h hB) fun e w' ⟨h1,h2⟩=>⟨_,h1,rfl,h2⟩
theorem ahl (s:al) (hs:s.length≤140737488355328) (w:World):be Tryz.prog 137 [str s] w fun v w'=>v= .tuple #[str (bL s).1,.int .i64 ((bL s).2:Nat)]∧Below w.heap.size w w':=by
 have h3:([92,39,110]:al).length=3:=rfl;have h4:([92,39,10]:al).length=3:=rfl;have hb:=Below.refl w.heap.size w;refine enter Tryz.func137 rfl rfl rfl<|ao fun aZ=>am rfl<|am rfl<|an aZ<|ao fun bX=>el (z:=LO) (by kernel_rfl) rfl ?_
 rintro c7 DW y0 aD f6;have:=f6.size;have hb:=az hb f6;have:=aD.lt;refine an bX<|ax fun _ ex=>ao fun e7=>am rfl<|an e7<|br<|cU (X:=Nat×al) (fun (i,l)=> [(0,str s),(4,.pointer (some ⟨c7,0,none⟩)),(5,.int .i64 (i:Int))]) (fun (i,l) wr=>1≤i∧i≤s.length+1∧l.length<i∧bL s=bV (s.drop i) i l∧Below w.heap.size w wr∧Lib.IsBuilder 67 5 w.heap.size c7 (Lib.byteCells l) wr) (fun (i,l)=>s.length+1 - i) (⟨1,[]⟩) ?_ ?_ ?_
 · exact by repeat first|exact aB|refine au rfl (by first|rfl|exact int_eq (by omega)) ?_
 · exact ⟨by omega,by omega,Nat.lt_succ_self 0,rfl,hb,.inl ⟨y0,_,aD,World.ownsRow_nil _ _ _ _,by simp [Value.ownBlock]⟩⟩
 rintro ⟨i,l⟩ wr wL _ xA;replace wL:1≤i∧i≤s.length+1∧l.length<i∧bL s=bV (s.drop i) i l∧Below w.heap.size w wr∧Lib.IsBuilder 67 5 w.heap.size c7 (Lib.byteCells l) wr:=wL;obtain ⟨hi1,hi2,hl,hu,hb,hI⟩:=wL;show Wc _ _ _ _ _ [(0,str s),(4,.pointer (some ⟨c7,0,none⟩)),(5,.int .i64 (i:Int))] _;have:=hb.size;refine ax fun _ d7=>ao fun eO=>ai rfl<|ai rfl<|ah (dF bq (by omega) rfl) rfl<|ah (cg rfl rfl) rfl<|an eO<|aH rfl (fun il=>?_) (fun il=>?_)
 ·
  have Hc:=il;simp only [DZ] at il;have hil:i<s.length:=by have:=il;omega
  obtain ⟨c,hc⟩:∃c,c=s.getD i 0:=⟨_,rfl⟩;refine aU<|aw d7<|ax fun _ dL=>br<|ao fun gJ=>ai rfl<|ai rfl<|ah (bt (eK bq rfl rfl (by omega) (by omega)) (int_eq (show _=(c.toNat:Int) by rw [hc,Int.toNat_natCast]))) rfl<|am rfl<|an gJ<|br<|ao fun jf=>ai rfl<|ah (bA rfl rfl) rfl<|am rfl<|an jf<|aH rfl (fun lP=>?_) (fun lP=>?_)
  ·
   have HE:=lP;simp only [DZ] at lP;have hcq:s.getD i 0=39:=by rw [←hc];exact mH (n:=39) lP (by decide)
   refine ao fun gK=>aS MS rfl rfl (GK w.heap.size c7 l _ hI hb.size) rfl ?_;rintro _ w2 ⟨rfl,hs2⟩;refine ai rfl<|ah (bH rfl rfl (by omega) (by omega)) rfl<|am rfl<|am rfl<|an gK<|aK<|bE (bE (aQ (aQ (bE (aQ ?_)))))
   refine dv rfl rfl rfl ?_;exact ⟨_,rfl,th (hu.trans (Ud l hil hcq)) (by omega),hb.trans hs2⟩
  have HE:=lP;simp only [DZ] at lP;have hcq:s.getD i 0≠39:=by rw [←hc];exact pi (n:=39) lP (by decide)
  refine ax fun _ me=>b9 (X:=Bool) (fun q=> [(0,str s),(4,.pointer (some ⟨c7,0,none⟩)),(5,.int .i64 (i:Int)),(6,.int .u8 (c.toNat:Int)),(25,.bool q)]) (fun q wr=>q=decide ((c.toNat:Int)=10∨((c.toNat:Int)=92∧(i:Int)+1=s.length))∧Below w.heap.size w wr∧Lib.IsBuilder 67 5 w.heap.size c7 (Lib.byteCells l) wr) (fun _ K9=>?_) ?_
  ·
   refine aR<|ai rfl<|ah (bA rfl rfl) rfl<|ai rfl<|dP rfl rfl rfl (fun pZ=>?_) (fun pZ=>?_)
   ·
    have lj:=pZ;simp only [DZ] at pZ;refine aA rfl rfl lj rfl rfl<|aA rfl rfl lj rfl rfl<|cC rfl rfl rfl<|cC rfl rfl rfl<|cC rfl rfl rfl<|cC rfl rfl rfl<|cC rfl rfl rfl<|aA rfl rfl lj rfl rfl<|ah (bi rfl lj rfl) rfl<|am rfl<|ay<|aY K9 (decide ((c.toNat:Int)=10∨((c.toNat:Int)=92∧(i:Int)+1=s.length))) (by repeat first|exact aB|refine au rfl (by first|rfl|exact aP (by rw [Bool.eq_iff_iff];simp;omega)) ?_) ?_
    exact ⟨rfl,hb,hI⟩
   have lj:=pZ;simp only [DZ] at pZ;refine ai rfl<|aE rfl rfl lj<|ah (bA rfl rfl) rfl<|aE rfl rfl lj<|ai rfl<|cw rfl rfl rfl (fun BC=>?_) (fun BC=>?_)
   ·
    have p2:=BC;simp only [DZ] at BC;refine ai rfl<|aE rfl rfl p2<|ah (bH rfl rfl (by omega) (by omega)) rfl<|aE rfl rfl p2<|ai rfl<|aE rfl rfl p2<|ah (dF bq (by omega) rfl) rfl<|aE rfl rfl p2<|ah (bA rfl rfl) rfl<|aE rfl rfl lj<|ah (bi rfl p2 rfl) rfl<|ah (bg rfl lj rfl) rfl<|am rfl<|ay<|aY K9 (decide ((c.toNat:Int)=10∨((c.toNat:Int)=92∧(i:Int)+1=s.length))) (by repeat first|exact aB|refine au rfl (by first|rfl|exact aP (by rw [Bool.eq_iff_iff];simp;omega)) ?_) ?_
    exact ⟨rfl,hb,hI⟩
   have p2:=BC;simp only [DZ] at BC;refine aA rfl rfl p2 rfl rfl<|aA rfl rfl p2 rfl rfl<|aA rfl rfl p2 rfl rfl<|aA rfl rfl p2 rfl rfl<|aE rfl rfl lj<|ah (bg rfl p2 rfl) rfl<|ah (bg rfl lj rfl) rfl<|am rfl<|ay<|aY K9 (decide ((c.toNat:Int)=10∨((c.toNat:Int)=92∧(i:Int)+1=s.length))) (by repeat first|exact aB|refine au rfl (by first|rfl|exact aP (by rw [Bool.eq_iff_iff];simp;omega)) ?_) ?_
   exact ⟨rfl,hb,hI⟩
  rintro q wr xc;replace xc:q=decide ((c.toNat:Int)=10∨((c.toNat:Int)=92∧(i:Int)+1=s.length))∧Below w.heap.size w wr∧Lib.IsBuilder 67 5 w.heap.size c7 (Lib.byteCells l) wr:=xc;obtain ⟨hq,hb,hI⟩:=xc;show Wq _ _ _ _ [(0,str s),(4,.pointer (some ⟨c7,0,none⟩)),(5,.int .i64 (i:Int)),(6,.int .u8 (c.toNat:Int)),(25,.bool q)] _;have:=hb.size;refine aw me<|aH rfl (fun vp=>?_) (fun vp=>?_)
  ·
   have vq:=vp;have hq2:(c.toNat:Int)=10∨((c.toNat:Int)=92∧(i:Int)+1=s.length):=by have h:=vq;rw [hq] at h;exact of_decide_eq_true h
   have hun:bL s=([],0):=by
    rcases hq2 with h|⟨h,h'⟩
    · exact hu.trans (Ua l hil (by rw [←hc];exact mH (n:=10) h (by decide)))
    · exact hu.trans (Ub l hil (by rw [←hc];exact mH (n:=92) h (by decide)) (by omega))
   refine ao fun n7=>am rfl<|am rfl<|an n7<|aK<|bE (bE (aQ (aQ (bE (aQ ?_)))))
   refine dv rfl rfl rfl ?_;exact ⟨_,rfl,th hun rfl,hb⟩
  have vq:=vp;have hq2:¬((c.toNat:Int)=10∨((c.toNat:Int)=92∧(i:Int)+1=s.length)):=by have h:=vq;rw [hq] at h;exact of_decide_eq_false h
  refine ao fun mm=>ai rfl<|ah (bA rfl rfl) rfl<|am rfl<|an mm<|aH rfl (fun tN=>?_) (fun tN=>?_)
  ·
   have Yi:=tN;simp only [DZ] at tN;have hi3:i+1<s.length:=by have:=tN;omega
   have hc9:s.getD i 0=92:=by rw [←hc];exact mH (n:=92) tN (by decide)
   obtain ⟨d,hd⟩:∃d,d=s.getD (i+1) 0:=⟨_,rfl⟩;have hes:=T9 l hi3 hc9;rw [←hd] at hes;refine ao fun mo=>ai rfl<|ah (bH rfl rfl (by omega) (by omega)) rfl<|am rfl<|an mo<|ao fun sK=>ai rfl<|ai rfl<|ah (bt (eK bq rfl rfl (by omega) (by omega)) (int_eq (show _=(d.toNat:Int) by rw [hd,show ((i:Int)+1).toNat=i+1 by omega]))) rfl<|aS TQ rfl rfl (U9 _ d _) rfl ?_
   rintro _ w_ ⟨⟨z,rfl,hz⟩,bf⟩;have bf:=bf.symm;subst bf;refine am rfl<|an sK<|ax fun _ kX=>ao fun ki=>ai rfl<|ah (cg rfl rfl) rfl<|an ki<|aH rfl (fun pD=>?_) (fun pD=>?_)
   ·
    have Ax:=pD;simp only [DZ] at pD
    have hun:bL s=([],0):=by
     rcases O4 d with ⟨_,h⟩|⟨k,_,h,_⟩
     · rw [h] at hes;exact hu.trans hes
     · have:=pD;omega
    refine ao fun xx=>am rfl<|am rfl<|an xx<|aK<|aQ (bE (bE (aQ (aQ (bE (aQ ?_))))))
    refine dv rfl rfl rfl ?_;exact ⟨_,rfl,th hun rfl,hb⟩
   have Ax:=pD;simp only [DZ] at pD
   obtain ⟨k,e_,hk3,hzk,kj,hee⟩:∃(k:Nat) (e:UInt8),k<3∧z=(k:Int)∧mR d=some e∧e=([92,39,10]:al).getD k 0:=by
    rcases O4 d with ⟨h,_⟩|⟨k,h0,h1,h2⟩
    · have:=pD;omega
    · exact ⟨k,_,h0,hz.trans h1,h2,rfl⟩
   have hu2:bL s=bV (s.drop (i+1+1)) (i+1+1) (l++ [e_]):=by rw [kj] at hes;exact hu.trans hes
   obtain ⟨j_,oh⟩:∃j,j=i+1:=⟨_,rfl⟩;rw [←oh] at hu2;refine aU<|aw kX<|aR<|ai rfl<|ah (bt (eK bq rfl rfl (by omega) (by omega)) (int_eq (show _=(e_.toNat:Int) by rw [hee,hzk,Int.toNat_natCast]))) rfl<|aS TF rfl rfl (N7 w.heap.size c7 l e_ _ hI (by omega) hb.size) rfl ?_
   rintro _ w3 ⟨rfl,hI2,hs3⟩;refine ay<|bS<|bS<|aw dL<|aR<|ai rfl<|ah (bH rfl rfl (by omega) (by omega)) rfl<|am rfl<|ay<|fun a_ bn=>xA _ _ (⟨j_+1,l++ [e_]⟩) (by simp;omega) (by repeat first|exact aB|refine au rfl (by first|rfl|exact int_eq (by omega)) ?_) ?_ a_ bn
   exact ⟨by omega,by omega,by simp;omega,hu2,hb.trans hs3,hI2⟩
  have Yi:=tN;simp only [DZ] at tN;have hu2:=hu.trans (Uc l hil hcq (by rw [←hc];exact pi (n:=10) (fun h=>hq2 (.inl h)) (by decide)) (by rw [←hc];exact pi (n:=92) tN (by decide)));obtain ⟨j_,oh⟩:∃j,j=i:=⟨_,rfl⟩;obtain ⟨e_,kj⟩:∃e,e=c:=⟨_,rfl⟩;rw [←hc,←kj,←oh] at hu2;refine aR<|ai rfl<|aS TF rfl rfl (N7 w.heap.size c7 l c _ hI (by omega) hb.size) rfl ?_
  rintro _ w3 ⟨rfl,hI2,hs3⟩;refine ay<|bS<|bS<|aw dL ?_
  rw [←kj] at hI2;refine aR<|ai rfl<|ah (bH rfl rfl (by omega) (by omega)) rfl<|am rfl<|ay<|fun a_ bn=>xA _ _ (⟨j_+1,l++ [e_]⟩) (by simp;omega) (by repeat first|exact aB|refine au rfl (by first|rfl|exact int_eq (by omega)) ?_) ?_ a_ bn
  exact ⟨by omega,by omega,by simp;omega,hu2,hb.trans hs3,hI2⟩
 have Hc:=il;simp only [DZ] at il;refine cN<|bD<|bD<|cO<|aw ex<|ao fun qt=>am rfl<|am rfl<|an qt<|aK<|dv rfl rfl rfl ?_
 exact ⟨_,rfl,th (hu.trans (T8 l (by have:=il;omega))) rfl,hb⟩
def kG {α:Type} (f:Nat→Option α):Nat→Option α
 |0=>none
 |j+1=>match f j with
  |some a=>some a
  |none=>kG f j
theorem EA {α:Type} {f:Nat→Option α} {a:α}:∀{M:Nat},kG f M=some a→∃j,j<M∧f j=some a∧∀i,j<i→i<M→f i=none
 |0,h=>by cases h
 |M+1,h=>by
  rw [kG] at h
  cases hf:f M with
  |some b=>rw [hf] at h;exact ⟨M,by omega,by rw [hf];exact h,fun i h1 h2=>by omega⟩
  |none=>
   rw [hf] at h;obtain ⟨j,h1,h2,h3⟩:=EA h
   exact ⟨j,by omega,h2,fun i h4 h5=>by
    by_cases e:i=M
    · rw [e];exact hf
    · exact h3 i h4 (by omega)⟩
theorem IM {α:Type} {f:Nat→Option α} {a:α} {j:Nat} (hj:f j=some a):∀{M:Nat},j<M→(∀i,j<i→i<M→f i=none)→kG f M=some a
 |0,h,_=>by omega
 |M+1,h,hn=>by
  rw [kG];by_cases e:j=M
  · rw [←e,hj]
  · rw [hn M (by omega) (by omega)];exact IM hj (by omega) fun i h1 h2=>hn i h1 (by omega)
theorem IL {α:Type} {f:Nat→Option α}:∀{M:Nat},kG f M=none↔∀i,i<M→f i=none
 |0=>⟨fun _ i h=>by omega,fun _=>rfl⟩
 |M+1=>by
  rw [kG]
  cases hf:f M with
  |some b=>simp only [reduceCtorEq,false_iff];exact fun h=>by have:=h M (by omega);rw [hf] at this;cases this
  |none=>
   simp only;rw [IL]
   exact ⟨fun h i hi=>by
    by_cases e:i=M
    · rw [e];exact hf
    · exact h i (by omega),fun h i hi=>h i (by omega)⟩
def li (pf:al→Option Nat) (s:al) (k j:Nat):Option (bW×Nat):=(pf (s.take (k+j+1))).map fun f=>(⟨3,0,f,[]⟩,k+j+1)
def rh (s:al) (j:Nat):Option (bW×Nat):=(gM (s.take (j+1))).bind fun v=>if Lib.itoa v=s.take (j+1) then some (⟨2,v,0,[]⟩,j+1) else none
theorem r5 (pf:al→Option Nat) (s:al) (k:Nat):∀M,pF pf s k M=kG (li pf s k) M
 |0=>rfl
 |M+1=>by
  rw [pF,kG,li,r5 pf s k M]
  cases pf (s.take (k+M+1))<;>rfl
theorem EB (s:al):∀M,fV s M=kG (rh s) M
 |0=>rfl
 |M+1=>by
  rw [fV,kG,rh,EB s M]
  cases gM (s.take (M+1)) with
  |none=>rfl
  |some v=>
   simp only [Option.bind_some]
   split<;>rfl
theorem ni (s p:al):Lib.hasPrefix s p=true↔p <+: s:=List.isPrefixOf_iff_prefix
theorem Me (s w:al) (q:Nat):Lib.hasPrefix (s.take q) w=(Lib.hasPrefix s w&&decide (w.length≤q)):=by
 rw [Bool.eq_iff_iff,Bool.and_eq_true,ni,ni,decide_eq_true_eq,List.prefix_take_iff]
theorem zm {s w:al} (q:Nat) (h:Lib.hasPrefix s w=false):Lib.hasPrefix (s.take q) w=false:=by rw [Me,h];rfl
theorem Du {s w:al} {q:Nat} (h:Lib.hasPrefix s w=true) (hq:w.length≤q):Lib.hasPrefix (s.take q) w=true:=by rw [Me,h,decide_eq_true hq];rfl
theorem zl (s w m:al) (c:UInt8) (hc:c ∉ w):Lib.hasPrefix (s++c :: m) w=Lib.hasPrefix s w:=by
 rw [Bool.eq_iff_iff,ni,ni]
 constructor
 · intro h
   by_cases hl:w.length≤s.length
   · exact List.prefix_of_prefix_length_le h (List.prefix_append _ _) hl
   · exfalso
     obtain ⟨r,hr⟩:=h;have h1:(w++r)[s.length]? =(s++c :: m)[s.length]? :=by rw [hr]
     rw [List.getElem?_append_left (by omega)] at h1;simp at h1;exact hc (List.mem_of_getElem? h1)
 · exact fun h=>h.trans (List.prefix_append _ _)
theorem RC (s:al):iE s=(s.takeWhile (nN.contains ·)).length:=by
 unfold iE Lib.trimLeftS;have h:=congrArg List.length (List.takeWhile_append_dropWhile (p:=(nN.contains ·)) (l:=s));rw [List.length_append] at h;omega
theorem RD:iE []=0:=rfl
theorem xR (c:UInt8) (s:al):iE (c :: s)=if nN.contains c=true then iE s+1 else 0:=by
 rw [RC,RC,List.takeWhile_cons];split<;>simp
theorem zg (c:UInt8) (m:al) (hc:nN.contains c=false):∀s,iE (s++c :: m)=iE s
 | []=>by rw [List.nil_append,xR,hc];rfl
 |x :: r=>by rw [List.cons_append,xR,xR,zg c m hc r]
theorem FH:∀(s:al) (q:Nat),iE (s.take q)=min (iE s) q
 | [],q=>by rw [List.take_nil,RD];omega
 |x :: r,0=>by rw [List.take_zero,RD];omega
 |x :: r,q+1=>by
  rw [List.take_succ_cons,xR,xR,FH r q]
  split<;>omega
theorem xN (r:al):lead (45 :: r)=iE r+1:=by
 have h:Lib.hasPrefix (45 :: r) [45]=true:=by rw [ni];exact ⟨r,rfl⟩
 unfold lead Lib.trimPrefix;rw [if_pos h];simp
theorem xO {s:al} (h:Lib.hasPrefix s [45]=false):lead s=iE s:=by
 unfold lead Lib.trimPrefix;rw [if_neg (by rw [h];simp)];omega
theorem qF (s:al) (c:UInt8):Lib.hasPrefix s [c]=true↔∃r,s=c :: r:=by
 rw [ni]
 constructor
 · rintro ⟨r,h⟩;exact ⟨r,h.symm⟩
 · rintro ⟨r,h⟩;exact ⟨r,h.symm⟩
theorem Rh (c:UInt8) (m s:al) (hc:nN.contains c=false) (h45:c≠45):lead (s++c :: m)=lead s:=by
 by_cases h:Lib.hasPrefix s [45]=true
 · obtain ⟨r,rfl⟩:=(qF _ _).1 h
   rw [List.cons_append,xN,xN,zg c m hc]
 · have h0:Lib.hasPrefix s [45]=false:=by simpa using h
   rw [xO h0,xO (by rw [zl _ _ _ _ (by simpa using h45)];exact h0),zg c m hc]
theorem FE (s:al) (q:Nat):lead (s.take q)=min (lead s) q:=by
 by_cases h:Lib.hasPrefix s [45]=true
 · obtain ⟨r,rfl⟩:=(qF _ _).1 h
   cases q with
   |zero=>rw [List.take_zero];rw [show lead []=0 from rfl];omega
   |succ q=>rw [List.take_succ_cons,xN,xN,FH];omega
 · have h0:Lib.hasPrefix s [45]=false:=by simpa using h
   rw [xO h0,xO (zm q h0),FH]
structure Stop (c:UInt8):Prop where
 dig:nN.contains c=false
 min:c≠45
 p:c≠112
 w1:c ∉ lE
 w2:c ∉ jq
 w3:c ∉ jr
 w4:∀x,x∈fS→c ∉ x
 q:c≠39
theorem afP:Stop 32:=⟨by decide,by decide,by decide,by decide,by decide,by decide,by decide,by decide⟩
theorem find_eq {p p':al→Bool}:∀{l:List (al)},(∀x,x∈l→p x=p' x)→l.find? p=l.find? p'
 | [],_=>rfl
 |x :: r,h=>by
  rw [List.find?_cons,List.find?_cons,h x (List.mem_cons_self ..),find_eq fun y hy=>h y (List.mem_cons_of_mem _ hy)]
theorem En {s m:al} {c x:UInt8} (hx:c≠x) {i:Nat} (hi:i≤s.length):(s++c :: m)[i]? =some x↔s[i]? =some x:=by
 rcases Nat.lt_or_ge i s.length with h|h
 · rw [List.getElem?_append_left h]
 · have:i=s.length:=by omega
   subst this;simp [hx]
theorem ZZ (pf:al→Option Nat) (s m:al) {c:UInt8} (hc:Stop c):fD pf (s++c :: m)=fD pf s:=by
 have hl:=Df s;have e1:lead (s++c :: m)=lead s:=Rh c m s hc.dig hc.min;unfold fD;by_cases h:s[lead s]? =some 112
 · have hlt:lead s<s.length:=(List.getElem?_eq_some_iff.1 h).1
   have hk:cV (s++c :: m)=cV s:=by
    unfold cV;rw [e1];by_cases h2:s[lead s+1]? =some 45
    · rw [if_pos ((En hc.min (by omega)).2 h2),if_pos h2]
    · rw [if_neg (fun h3=>h2 ((En hc.min (by omega)).1 h3)),if_neg h2]
   obtain ⟨b1,b2,b3⟩:=yP s h;obtain ⟨b4,b5⟩:=EU s h
   have hm:gU (s++c :: m)=gU s:=by
    unfold gU;rw [hk,List.drop_append_of_le_length b2,zg c m hc.dig]
   rw [e1,if_pos h,if_pos ((En hc.p (by omega)).2 h),hk,hm,r5,r5]
   have hcg:∀M,M≤gU s→kG (li pf (s++c :: m) (cV s)) M=kG (li pf s (cV s)) M:=by
    intro M
    induction M with
    |zero=>intro _;rfl
    |succ M ih=>
     intro hM;rw [kG,kG,ih (by omega),li,li,List.take_append_of_le_length (by omega)]
   exact hcg _ (Nat.le_refl _)
 · rw [e1,if_neg h,if_neg (fun h2=>h ((En hc.p hl).1 h2))]
theorem OQ (s m:al) (c:UInt8):∀M,M≤s.length→fV (s++c :: m) M=fV s M
 |0,_=>rfl
 |M+1,h=>by rw [fV,fV,List.take_append_of_le_length (by omega),OQ s m c M (by omega)]
theorem aeZ (pf:al→Option Nat) (uq:al→al×Nat) (s m:al) {c:UInt8} (hc:Stop c) (hq:Lib.hasPrefix s [39]=false):bZ pf uq (s++c :: m)=bZ pf uq s:=by
 have hq':Lib.hasPrefix (s++c :: m) [39]=false:=by rw [zl _ _ _ _ (by simpa using hc.q)];exact hq
 unfold bZ;rw [hq',hq,if_neg (show ¬(false=true) by decide),if_neg (show ¬(false=true) by decide),zl _ _ _ _ hc.w1,zl _ _ _ _ hc.w2,zl _ _ _ _ hc.w3,find_eq (p':=fun x=>Lib.hasPrefix s x) (fun x hx=>zl _ _ _ _ (hc.w4 x hx)),ZZ pf s m hc,Rh c m s hc.dig hc.min,OQ s m c _ (by have:=Df s;omega)]
theorem qJ:∀(r:al) (i:Nat) (a:al),(bV r i a).2≠0→i<(bV r i a).2∧(bV r i a).2≤i+r.length
 | [],i,a,h=>by simp [bV] at h
 | [c],i,a,h=>by
  rw [bV] at h ⊢
  split at h
  · rename_i hc;rw [if_pos hc];simp
  · simp at h
 |c :: d :: r,i,a,h=>by
  rw [bV] at h ⊢
  split at h
  · rename_i hc;rw [if_pos hc];simp
  · rename_i hc
    rw [if_neg hc]
    split at h
    · simp at h
    · rename_i hc2
      rw [if_neg hc2]
      split at h
      · rename_i hc3
        rw [if_pos hc3]
        cases he:mR d with
        |none=>rw [he] at h;simp at h
        |some e=>
         rw [he] at h;have:=qJ r (i+2) (a++ [e]) h;simp only [List.length_cons];omega
      · rename_i hc3
        rw [if_neg hc3];have:=qJ (d :: r) (i+1) (a++ [c]) h;simp only [List.length_cons] at this ⊢;omega
theorem Gv:∀(r x:al) (i:Nat) (a:al),(bV r i a).2≠0→r.take ((bV r i a).2 - i)=x.take ((bV r i a).2 - i)→bV x i a=bV r i a
 | [],x,i,a,h,_=>by simp [bV] at h
 | [c],x,i,a,h,ht=>by
  rw [bV] at h ht ⊢
  split at h
  · rename_i hc
    rw [if_pos hc] at ht ⊢;rw [show i+1 - i=1 by omega] at ht
    cases x with
    |nil=>simp at ht
    |cons y z=>
     simp at ht;obtain ⟨rfl⟩:=ht
     cases z with
     |nil=>rw [bV,if_pos hc]
     |cons z1 z2=>rw [bV,if_pos hc]
  · simp at h
 |c :: d :: r,x,i,a,h,ht=>by
  have hlen:=qJ (c :: d :: r) i a h;rw [bV] at h ht hlen ⊢
  split at h
  · rename_i hc
    rw [if_pos hc] at ht ⊢;rw [show i+1 - i=1 by omega] at ht
    cases x with
    |nil=>simp at ht
    |cons y z=>
     simp at ht;obtain ⟨rfl⟩:=ht
     cases z with
     |nil=>rw [bV,if_pos hc]
     |cons z1 z2=>rw [bV,if_pos hc]
  · rename_i hc
    rw [if_neg hc] at ht hlen ⊢
    split at h
    · simp at h
    · rename_i hc2
      rw [if_neg hc2] at ht hlen ⊢
      split at h
      · rename_i hc3
        rw [if_pos hc3] at ht hlen ⊢
        cases he:mR d with
        |none=>rw [he] at h;simp at h
        |some e=>
         rw [he] at h ht hlen;have hl2:=qJ r (i+2) (a++ [e]) h;simp only at ht hlen ⊢;obtain ⟨k,hk⟩:∃k,(bV r (i+2) (a++ [e])).2 - i=k+2:=⟨(bV r (i+2) (a++ [e])).2 - i - 2,by omega⟩;rw [hk] at ht
         cases x with
         |nil=>simp at ht
         |cons y z=>
          cases z with
          |nil=>simp at ht
          |cons z1 z2=>
           simp only [List.take_succ_cons,List.cons.injEq] at ht;obtain ⟨rfl,rfl,ht⟩:=ht;rw [bV,if_neg hc,if_neg hc2,if_pos hc3,he];exact Gv r z2 (i+2) (a++ [e]) h (by rw [show (bV r (i+2) (a++ [e])).2 - (i+2)=k by omega];exact ht)
      · rename_i hc3
        rw [if_neg hc3] at ht hlen ⊢;have hl2:=qJ (d :: r) (i+1) (a++ [c]) h
        obtain ⟨k,hk⟩:∃k,(bV (d :: r) (i+1) (a++ [c])).2 - i=k+2:=⟨(bV (d :: r) (i+1) (a++ [c])).2 - i - 2,by
         omega⟩
        rw [hk] at ht
        cases x with
        |nil=>simp at ht
        |cons y z=>
         cases z with
         |nil=>simp at ht
         |cons z1 z2=>
          simp only [List.take_succ_cons,List.cons.injEq] at ht;obtain ⟨rfl,rfl,ht⟩:=ht;rw [bV,if_neg hc,if_neg hc2,if_neg hc3];exact Gv (d :: r) (d :: z2) (i+1) (a++ [c]) h (by rw [show (bV (d :: r) (i+1) (a++ [c])).2 - (i+1)=k+1 by omega];simp only [List.take_succ_cons,List.cons.injEq,true_and];exact ht)
theorem ahm {s:al} (x:al) (h:(bL s).2≠0):bL (s++x)=bL s:=by
 have hl:=qJ _ _ _ h;have e:(bV (s.drop 1) 1 []).2=(bL s).2:=rfl;rw [e] at hl
 have hs:1≤s.length:=by
  rcases Nat.eq_zero_or_pos s.length with h0|h0
  · rw [List.length_eq_zero_iff.1 h0] at h;exact absurd rfl h
  · exact h0
 refine Gv (s.drop 1) ((s++x).drop 1) 1 [] h ?_;rw [e,List.drop_append_of_le_length hs,List.take_append_of_le_length (by omega)]
theorem aho {s:al} {q:Nat} (h:(bL s).2≠0) (hq:(bL s).2≤q):bL (s.take q)=bL s:=by
 have hl:=qJ _ _ _ h;have e:(bV (s.drop 1) 1 []).2=(bL s).2:=rfl;rw [e] at hl;refine Gv (s.drop 1) ((s.take q).drop 1) 1 [] h ?_;rw [e,List.drop_take,List.take_take,Nat.min_eq_left (by omega)]
theorem T7 {s:al} (h:(bL s).2≠0):2≤(bL s).2∧(bL s).2≤s.length:=by
 have hl:=qJ _ _ _ h;have e:(bV (s.drop 1) 1 []).2=(bL s).2:=rfl;rw [e] at hl
 have hs:1≤s.length:=by
  rcases Nat.eq_zero_or_pos s.length with h0|h0
  · rw [List.length_eq_zero_iff.1 h0] at h;exact absurd rfl h
  · exact h0
 rw [List.length_drop] at hl;omega
theorem Pq {p p':al→Bool} {x:al}:∀{l:List (al)},(∀y,p' y=true→p y=true)→p' x=true→l.find? p=some x→l.find? p'=some x
 | [],_,_,h=>by cases h
 |y :: r,hp,hx,h=>by
  rw [List.find?_cons] at h ⊢
  cases hy:p y with
  |true=>rw [hy] at h;cases h;rw [hx]
  |false=>
   rw [hy] at h
   have:p' y=false:=by
    cases h2:p' y with
    |false=>rfl
    |true=>rw [hp y h2] at hy;cases hy
   rw [this];exact Pq hp hx h
theorem ZU {p p':al→Bool} {l:List (al)} (hp:∀y,p' y=true→p y=true) (h:l.find? p=none):l.find? p'=none:=by
 rw [List.find?_eq_none] at h ⊢;exact fun x hx h2=>h x hx (hp x h2)
theorem PA {s:al} {q:Nat} (h:s[lead s]? =some 112) (hq:lead s<q) (hk:cV s≤q):lead (s.take q)=lead s∧(s.take q)[lead (s.take q)]? =some 112∧cV (s.take q)=cV s∧gU (s.take q)=min (gU s) (q - cV s):=by
 have e1:lead (s.take q)=lead s:=by rw [FE];omega
 have e2:(s.take q)[lead (s.take q)]? =some 112:=by rw [e1,List.getElem?_take,if_pos hq];exact h
 have e3:cV (s.take q)=cV s:=by
  unfold cV at hk ⊢;rw [e1];by_cases h2:s[lead s+1]? =some 45
  · rw [if_pos h2] at hk ⊢;rw [if_pos (by rw [List.getElem?_take,if_pos (by omega)];exact h2)]
  · rw [if_neg h2,if_neg (fun h3=>h2 (by
     rw [List.getElem?_take] at h3
     split at h3
     · exact h3
     · cases h3))]
 refine ⟨e1,e2,e3,?_⟩;unfold gU;rw [e3,List.drop_take,FH];omega
theorem ET {pf:al→Option Nat} {s:al} {r:bW×Nat} (h:fD pf s=some r):s[lead s]? =some 112∧∃j f,j<gU s∧pf (s.take (cV s+j+1))=some f∧r=(⟨3,0,f,[]⟩,cV s+j+1)∧∀i,j<i→i<gU s→pf (s.take (cV s+i+1))=none:=by
 unfold fD at h
 split at h
 · rename_i hp
   rw [r5] at h;obtain ⟨j,h1,h2,h3⟩:=EA h;unfold li at h2;obtain ⟨f,hf,hr⟩:=Option.map_eq_some_iff.1 h2
   exact ⟨hp,j,f,h1,hf,hr.symm,fun i h4 h5=>by
    have:=h3 i h4 h5
    unfold li at this
    exact Option.map_eq_none_iff.1 this⟩
 · cases h
theorem Z2 {pf:al→Option Nat} {s:al} {v:bW} {n q:Nat} (h:fD pf s=some (v,n)) (hq:n≤q):fD pf (s.take q)=some (v,n):=by
 obtain ⟨hp,j,f,h1,h2,h3,h4⟩:=ET h;obtain ⟨b1,b2,b3⟩:=yP s hp;have hn:n=cV s+j+1:=congrArg Prod.snd h3;obtain ⟨e1,e2,e3,e4⟩:=PA (q:=q) hp (by omega) (by omega);unfold fD;rw [if_pos e2,r5,e3,e4];have ht:∀i,cV s+i+1≤q→(s.take q).take (cV s+i+1)=s.take (cV s+i+1):=fun i hi=>by rw [List.take_take,Nat.min_eq_left hi]
 refine IM (j:=j) ?_ (by omega) fun i h5 h6=>?_
 · rw [li,ht j (by omega),h2,h3];rfl
 · rw [li,ht i (by omega),h4 i h5 (by omega)];rfl
theorem Z1 {pf:al→Option Nat} {s:al} (q:Nat) (h:fD pf s=none):fD pf (s.take q)=none:=by
 unfold fD
 split
 · rename_i hp
   have hlt:lead (s.take q)<(s.take q).length:=(List.getElem?_eq_some_iff.1 hp).1;rw [List.length_take,FE] at hlt;have e1:lead (s.take q)=lead s:=by rw [FE];omega
   have hp2:s[lead s]? =some 112:=by
    rw [e1,List.getElem?_take] at hp
    split at hp
    · exact hp
    · cases hp
   unfold fD at h;rw [if_pos hp2,r5,IL] at h;obtain ⟨c1,c2⟩:=EU _ hp;obtain ⟨c3,c4,c5⟩:=yP _ hp;have hlen:=List.length_take_le q s;rw [r5,IL];intro i hi;have hK:cV (s.take q)+i+1≤q:=by have:=c2;rw [List.length_take] at this;omega
   have hk2:cV s≤q:=by
    by_cases hk:cV s≤q
    · exact hk
    · exfalso
      have h7:cV s≤lead s+2:=by unfold cV;split<;>omega
      have h8:lead s+1≤cV (s.take q):=by rw [←e1];exact c3
      omega
   obtain ⟨_,_,e3,e4⟩:=PA (q:=q) hp2 (by omega) hk2;have:=h i (by rw [e4] at hi;omega);rw [li] at this ⊢;rw [e3] at hK ⊢;rw [List.take_take,Nat.min_eq_left hK];exact this
 · rfl
theorem EC {s:al} {M:Nat} {r:bW×Nat} (h:fV s M=some r):∃j v,j<M∧gM (s.take (j+1))=some v∧Lib.itoa v=s.take (j+1)∧r=(⟨2,v,0,[]⟩,j+1)∧∀i,j<i→i<M→rh s i=none:=by
 rw [EB] at h;obtain ⟨j,h1,h2,h3⟩:=EA h;unfold rh at h2;obtain ⟨v,hv,hr⟩:=Option.bind_eq_some_iff.1 h2
 split at hr
 · rename_i hi;cases hr;exact ⟨j,v,h1,hv,hi,rfl,h3⟩
 · cases hr
theorem Zm {s:al} {v:bW} {n q:Nat} (h:fV s (min (lead s) 20)=some (v,n)) (hq:n≤q):fV (s.take q) (min (lead (s.take q)) 20)=some (v,n):=by
 obtain ⟨j,u,h1,h2,h3,h4,h5⟩:=EC h;have hn:n=j+1:=congrArg Prod.snd h4;have ht:∀i,i+1≤q→(s.take q).take (i+1)=s.take (i+1):=fun i hi=>by rw [List.take_take,Nat.min_eq_left hi]
 rw [EB,FE];refine IM (j:=j) ?_ (by omega) fun i h6 h7=>?_
 · rw [rh,ht j (by omega),h2,Option.bind_some,if_pos h3,h4]
 · have:=h5 i h6 (by omega)
   unfold rh at this ⊢;rw [ht i (by omega)];exact this
theorem SD {pf:al→Option Nat} {s:al} {v:bW} {n q:Nat} (h:bZ pf bL s=some (v,n)) (hq:n≤q):bZ pf bL (s.take q)=some (v,n):=by
 unfold bZ at h ⊢;have hmono:∀y,Lib.hasPrefix (s.take q) y=true→Lib.hasPrefix s y=true:=fun y hy=>by rw [Me,Bool.and_eq_true] at hy;exact hy.1
 by_cases h0:Lib.hasPrefix s [39]=true
 · rw [if_pos h0] at h
   by_cases hz:(bL s).2=0
   · rw [if_pos hz] at h;cases h
   · rw [if_neg hz] at h;cases h
     have:=T7 hz;rw [if_pos (Du h0 (by simp;omega)),aho hz hq,if_neg hz]
 · have h0':Lib.hasPrefix s [39]=false:=by simpa using h0
   rw [if_neg h0] at h;rw [zm q h0',if_neg (show ¬(false=true) by decide)];by_cases h1:Lib.hasPrefix s lE=true
   · rw [if_pos h1] at h;cases h;rw [if_pos (Du h1 hq)]
   · have h1':Lib.hasPrefix s lE=false:=by simpa using h1
     rw [if_neg h1] at h;rw [zm q h1',if_neg (show ¬(false=true) by decide)];by_cases h2:Lib.hasPrefix s jq=true
     · rw [if_pos h2] at h;cases h;rw [if_pos (Du h2 hq)]
     · have h2':Lib.hasPrefix s jq=false:=by simpa using h2
       rw [if_neg h2] at h;rw [zm q h2',if_neg (show ¬(false=true) by decide)];by_cases h3:Lib.hasPrefix s jr=true
       · rw [if_pos h3] at h;cases h;rw [if_pos (Du h3 hq)]
       · have h3':Lib.hasPrefix s jr=false:=by simpa using h3
         rw [if_neg h3] at h;rw [zm q h3',if_neg (show ¬(false=true) by decide)]
         cases hf:fS.find? (fun x=>Lib.hasPrefix s x) with
         |some x=>
          rw [hf] at h;cases h;have hx:=List.find?_some hf;rw [Pq hmono (Du hx hq) hf]
         |none=>
          rw [hf] at h;rw [ZU hmono hf]
          cases hg:fD pf s with
          |some r=>rw [hg] at h;cases h;rw [Z2 hg hq]
          |none=>
           rw [hg] at h;rw [Z1 q hg];exact Zm h hq
theorem FQ {s w:al} (h:Lib.hasPrefix s w=true):w.length≤s.length:=((ni _ _).1 h).length_le
theorem rt {pf:al→Option Nat} {s:al} {v:bW} {n:Nat} (h:bZ pf bL s=some (v,n)):0<n∧n≤s.length:=by
 unfold bZ at h
 split at h
 · split at h
   · cases h
   · rename_i hz;cases h;have:=T7 hz;omega
 · split at h
   · rename_i h1;cases h;exact ⟨by decide,FQ h1⟩
   · split at h
     · rename_i h1;cases h;exact ⟨by decide,FQ h1⟩
     · split at h
       · rename_i h1;cases h;exact ⟨by decide,FQ h1⟩
       · split at h
         · rename_i x hx;cases h
           refine ⟨?_,FQ (List.find?_some hx)⟩;have:=List.mem_of_find?_eq_some hx;simp only [fS,List.mem_cons,List.not_mem_nil,or_false] at this
           rcases this with rfl|rfl|rfl<;>decide
         · split at h
           · rename_i r hr;cases h
             obtain ⟨hp,j,f,h1,h2,h3,h4⟩:=ET hr;have:=EU s hp;have hn:n=cV s+j+1:=congrArg Prod.snd h3;omega
           · obtain ⟨j,u,h1,h2,h3,h4,h5⟩:=EC h
             have hn:n=j+1:=congrArg Prod.snd h4;have:=Df s;omega
theorem zi {k n:Int} {f:Nat} {s:al} (h0: -9223372036854775808≤n) (h1:n≤9223372036854775807) (h2:f<18446744073709551616):(⟨k,n,f,s⟩:bW).Ok:=⟨h0,h1,h2⟩
theorem Ms {s:al} {v:bW} {n:Nat} (h:bZ pf bL s=some (v,n)):v.Ok:=by
 have o0:dh.Ok:=zi (by decide) (by decide) (by decide);have o1:∀b,(hY b).Ok:=fun b=>by cases b<;>exact zi (by decide) (by decide) (by decide)
 have of:∀x f,pf x=some f→(⟨3,0,f,[]⟩:bW).Ok:=fun x f hf=>zi (by decide) (by decide) (Mb hf).1.lt;unfold bZ at h
 split at h
 · split at h
   · cases h
   · cases h;exact zi (by decide) (by decide) (by decide)
 · split at h
   · cases h;exact o0
   · split at h
     · cases h;exact o1 _
     · split at h
       · cases h;exact o1 _
       · split at h
         · rename_i x hx;cases h
           cases hp:pf x with
           |none=>exact zi (by decide) (by decide) (by decide)
           |some f=>exact of x f hp
         · split at h
           · rename_i r hr;cases h
             obtain ⟨hp,j,f,h1,h2,h3,h4⟩:=ET hr;have hv:v=⟨3,0,f,[]⟩:=congrArg Prod.fst h3;subst hv;exact of _ f h2
           · obtain ⟨j,u,h1,h2,h3,h4,h5⟩:=EC h
             have hv:v=⟨2,u,0,[]⟩:=congrArg Prod.fst h4;subst hv;have:=Sb h2;exact zi this.1 this.2 (by decide)
theorem Y1 {s:al} (hs:s.length≤140737488355328):Np pf bL s where
 unq:=fun _ w _=>ahl s hs w
 word:=fun x hx _ w hL=>NG x (by
  simp only [fS,List.mem_cons,List.not_mem_nil,or_false] at hx
  rcases hx with rfl|rfl|rfl<;>decide) w hL
 prs:=fun e _ w hL=>NG _ (by have:=List.length_take_le e s;have:=List.length_take_le' e s;omega) w hL
theorem VJ (s:al) (hs:s.length≤140737488355328) (w:World) (hL:Lb w):be Tryz.prog 96 [str s] w fun v w'=>v=Mq (bZ pf bL s)∧Below w.heap.size w w':=
 VI pf bL s (by omega) (Y1 hs) w hL
def zR (r:Option (bW×Nat)) (u:bW) (n:Nat) (ok:Bool):Prop:=(ok=true∧r=some (u,n))∨(ok=false∧r=none∧u=dh∧n=0)
theorem VK (s:al) (hs:s.length≤140737488355328) (w:World) (hL:Lb w):be Tryz.prog 96 [str s] w fun v w'=>(∃u n ok,v= .tuple #[bW.enc u,.int .i64 (n:Nat),.bool ok]∧zR (bZ pf bL s) u n ok)∧Below w.heap.size w w':=
 (VJ s hs w hL).mono fun v w' ⟨h1,h2⟩=>⟨by
  subst h1
  cases h:bZ pf bL s with
  |none=>exact ⟨dh,0,false,rfl,.inr ⟨rfl,rfl,rfl,rfl⟩⟩
  |some r=>exact ⟨r.1,r.2,true,rfl,.inl ⟨rfl,rfl⟩⟩,h2⟩
theorem afA (x:bW):uE x x=true:=by unfold uE;simp
end Go.Proofs.YtjmlknjbhbfneaaGreatDoor
