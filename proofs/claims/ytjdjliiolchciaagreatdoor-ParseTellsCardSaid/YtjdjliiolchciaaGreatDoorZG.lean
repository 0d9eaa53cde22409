import Derived.Test.YtjdjliiolchciaaGreatDoorZF
import Derived.Lib.Builder
namespace Go.Bw
open Go.RowKit
set_option linter.unusedVariables false
set_option linter.unusedSimpArgs false
section
variable {P:Program} {N:Nat} {D:List Deferred} {env:eR} {w:World} {ty:TypeId}
theorem ahe {x:Operand} {t te u:TypeId} {j:TypeInfo} (hp:P.underlying t=some (.pointer te)) (hj:P.info? te=some j) (hx:ev env x=some (.pointer none)):Yl P N D env (.binOp .eql t x (.const (.pointer none)) u) ty (.bool true):=fun a ha w dst pos af g=>by
 have he:a.eval (.const (.pointer none))= .pointer none:=rfl;have h:∀d:Nat,(Op.equalIn (d+1) t (.pointer none) (.pointer none)).run P w= .ok true w:=fun d=>by simp [Op.equalIn,run_underlying hp,sizeOf,typeInfo,hj]
 have h1:(binOp .eql t (.pointer none) (.pointer none)).run P w= .ok (.bool true) w:=by
  simp only [binOp];simp [Op.equal,Op.maxDepth,h 9999]
 simp [execOp,ha.eval hx,eqGuard_at_pointer,he,h1]
theorem ahf {x:Operand} {t te u:TypeId} {j:TypeInfo} {p:Addr} (hp:P.underlying t=some (.pointer te)) (hj:P.info? te=some j) (hx:ev env x=some (.pointer (some p))):Yl P N D env (.binOp .eql t x (.const (.pointer none)) u) ty (.bool false):=fun a ha w dst pos af g=>by
 have he:a.eval (.const (.pointer none))= .pointer none:=rfl;have h:∀d:Nat,(Op.equalIn (d+1) t (.pointer (some p)) (.pointer none)).run P w= .ok false w:=fun d=>by simp [Op.equalIn,run_underlying hp,sizeOf,typeInfo,hj]
 have h1:(binOp .eql t (.pointer (some p)) (.pointer none)).run P w= .ok (.bool false) w:=by
  simp only [binOp];simp [Op.equal,Op.maxDepth,h 9999]
 simp [execOp,ha.eval hx,eqGuard_at_pointer,he,h1]
theorem ahd {x:Operand} {f:FuncId} {y:Operand} {ts:Array TypeId} {p:Option Addr} (he:sI P f Extern.AbiNoEscape.same) (hx:ev env x=some (.func (.func f) #[] #[])) (hy:mm env [y]=some [.pointer p]):Yl P N D env (.call ⟨.value x,#[y],ts⟩) ty (.pointer p):=
 F5 he hx hy (fun w=>rfl)
theorem ahg {x y:Operand} {t te u:TypeId} {j:TypeInfo} {p:Addr} (hp:P.underlying t=some (.pointer te)) (hj:P.info? te=some j) (hx:ev env x=some (.pointer (some p))) (hy:ev env y=some (.pointer (some p))):Yl P N D env (.binOp .neq t x y u) ty (.bool false):=fun a ha w dst pos af g=>by
 simp [execOp,ha.eval hx,ha.eval hy,eqGuard_at_pointer,Lib.run_neq_ptr_same w p hp hj]
theorem acl {x:Operand} {src dst t e:TypeId} {j:TypeInfo} {cells:Nat} {p:Addr} (hs:P.underlying src=some (.pointer t)) (hd:P.underlying dst=some .unsafePointer) (ht:P.info? t=some j) (hj:j.size≠0) (hsh:w.shape? p.block=some (e,cells)) (hoff:p.off<cells) (hx:ev env x=some (.pointer (some p))):
 Ld P N D env w (.convert src dst x) ty (.pointer (some p)):=fun a ha dst' pos af g=>by
 simp [execOp,ha.eval hx,Lib.run_to_unsafe w p hs hd ht hj hsh hoff]
theorem acj {x:Operand} {src dst u e:TypeId} {j:TypeInfo} {cells:Nat} {p:Addr} (hs:P.underlying src=some .unsafePointer) (hd:P.underlying dst=some (.pointer u)) (hu:P.info? u=some j) (hsh:w.shape? p.block=some (e,cells)) (hl:liesAt P P.depth e (cells / P.cellsOf e) p.off u 1=true) (hx:ev env x=some (.pointer (some p))):
 Ld P N D env w (.convert src dst x) ty (.pointer (some p)):=fun a ha dst' pos af g=>by
 simp [execOp,ha.eval hx,Lib.run_from_unsafe w p hs hd hu hsh hl]
end
end Go.Bw
namespace Go.Proofs.YtjdjliiolchciaaGreatDoor
open Go.RowKit Go.Bw Go.Bw.Fl
set_option linter.unusedVariables false
set_option linter.unusedSimpArgs false
theorem YJ:sI Tryz.prog 144 Extern.AbiNoEscape.same:=fun args w=>run_callFunc_extern Tryz.func144 (by kernel_rfl) (by kernel_rfl) (by kernel_rfl) (by kernel_rfl) args w
theorem EI (p:Addr) (w:World):(Instr.fieldAt 116 (.pointer (some p)) 0).run Tryz.prog w= .ok (.pointer (some (p.add 0))) w:=eT (i:=0) (sz:=0) T5 rfl (by kernel_rfl) p w
theorem Pk (p:Addr) (w:World):(Instr.fieldAt 116 (.pointer (some p)) 1).run Tryz.prog w= .ok (.pointer (some (p.add 1))) w:=eT (i:=1) (sz:=0) T5 rfl (by kernel_rfl) p w
theorem Mq:One Tryz.prog 113:=⟨_,yw,rfl,by kernel_rfl⟩
theorem adc:One Tryz.prog 114:=⟨_,jN,rfl,by kernel_rfl⟩
theorem M5:bB Tryz.prog 106:=⟨_,Tryz.func106,by kernel_rfl,rfl⟩
theorem QD:∃j,Tryz.prog.info? 116=some j∧j.size≠0:=by
 have h:(Tryz.prog.info? 116).map (·.size)=some 2:=by kernel_rfl
 obtain ⟨j,hj,hs⟩:=Option.map_eq_some_iff.1 h;exact ⟨j,hj,by rw [hs];decide⟩
theorem acI:liesAt Tryz.prog Tryz.prog.depth 116 (2 / Tryz.prog.cellsOf 116) 0 116 1=true:=by kernel_rfl
theorem adf:One Tryz.prog 113:=⟨_,yw,rfl,by kernel_rfl⟩
theorem Yj (b:Nat) (w:World) (h0:w.cell? ⟨b,0,none⟩=some (.pointer (some ⟨b,0,none⟩))):bx Tryz.prog 106 [.pointer (some ⟨b,0,none⟩)] w fun v w'=>v= .tuple #[]∧w'=w:=by
 obtain ⟨j,hj,hjs⟩:=QD;refine enter Tryz.func106 rfl rfl rfl<|am fun aR=>ai rfl<|ae (cI rfl) rfl<|ae (aP (EI _) rfl) rfl<|aG (aS Mq rfl (h0)) rfl<|ae (ahf yw hj rfl) rfl<|al aR<|aO rfl (fun dR=>?_) (fun dR=>?_)
 ·
  have nr:=dR
  cases dR
 refine am fun eX=>ai rfl<|ae (cI rfl) rfl<|ae (aP (EI _) rfl) rfl<|aG (aS Mq rfl (h0)) rfl<|ai rfl<|ae (ahg yw hj rfl rfl) rfl<|al eX<|aO rfl (fun ns=>?_) (fun ns=>?_)
 ·
  have yP:=ns
  cases ns
 refine aU<|o4 rfl ?_
 exact ⟨_,rfl,rfl,rfl⟩
theorem OO (b:Nat) (w:World) (h0:w.cell? ⟨b,0,none⟩=some (.pointer none)) (hsh:w.shape? b=some (116,2)) (hfz:w.frozen? ⟨b,0,none⟩=false):bx Tryz.prog 106 [.pointer (some ⟨b,0,none⟩)] w fun v w'=>v= .tuple #[]∧w'=w.setCell ⟨b,0,none⟩ (.pointer (some ⟨b,0,none⟩)):=by
 obtain ⟨j,hj,hjs⟩:=QD;refine enter Tryz.func106 rfl rfl rfl<|am fun aR=>ai rfl<|ae (cI rfl) rfl<|ae (aP (EI _) rfl) rfl<|aG (aS Mq rfl (h0)) rfl<|ae (ahe yw hj rfl) rfl<|al aR<|aO rfl (fun dR=>?_) (fun dR=>?_)
 ·
  refine aQ<|ai rfl<|ai rfl<|aG (acl (p:=⟨b,0,none⟩) yw Tryz.underlying176 hj hjs hsh (Nat.zero_lt_succ 1) rfl) rfl<|ae (ahd YJ rfl rfl) rfl<|aG (acj (p:=⟨b,0,none⟩) Tryz.underlying176 yw hj hsh acI rfl) rfl<|ae (cI rfl) rfl<|ae (aP (EI _) rfl) rfl<|t6 (Dm (p:=⟨b,0,none⟩) adf rfl rfl rfl h0 hfz)<|ay<|o4 rfl ?_
  exact ⟨_,rfl,rfl,rfl⟩
 have nr:=dR
 cases dR
theorem ON (B b:Nat) (bs:List Value) (w:World) (h:Lib.IsBuilder 116 5 B b bs w):bx Tryz.prog 106 [.pointer (some ⟨b,0,none⟩)] w fun v w'=>v= .tuple #[]∧Lib.BuilderAt 116 5 B b (.pointer (some ⟨b,0,none⟩)) bs w'∧Below B w w':=by
 rcases h with h|h
 · exact (OO b w h.cell0 h.shape h.frozen0).mono fun v w' ⟨h1,h2⟩=>⟨h1,by subst h2;exact ⟨h.used _,(Below.refl B w).setCell (p:=⟨b,0,none⟩) h.1 _⟩⟩
 · exact (Yj b w h.cell0).mono fun v w' ⟨h1,h2⟩=>⟨h1,by subst h2;exact ⟨h,Below.refl B _⟩⟩
theorem RE:One Tryz.prog 114:=⟨_,jN,rfl,by kernel_rfl⟩
theorem W0 (l:ao) (c:UInt8):Lib.byteCells (l++ [c])=Lib.byteCells l++ [.int .u8 c.toNat]:=by simp [Lib.byteCells]
theorem Ee (B b:Nat) (l:ao) (c:UInt8) (w:World) (h:Lib.IsBuilder 116 5 B b (Lib.byteCells l) w) (hl:l.length+1≤140737488355328) (hBw:B≤w.heap.size):bx Tryz.prog 81 [.pointer (some ⟨b,0,none⟩),.int .u8 (c.toNat:Int)] w fun v w'=>v= .nilIface∧Lib.IsBuilder 116 5 B b (Lib.byteCells (l++ [c])) w'∧Below B w w':=by
 have hbl:(Lib.byteCells l).length=l.length:=Lib.byteCells_length l;refine enter Tryz.func81 rfl rfl rfl<|am fun aR=>an rfl<|al aR<|am fun bt=>ai rfl<|aD M5 rfl rfl (ON B b _ _ h) rfl ?_
 rintro _ w1 ⟨rfl,hA,hb1⟩;refine al bt<|av fun _ fi=>?_
 obtain ⟨hB,v,hbk,hown,hne⟩:=hA;have c1:w1.cell? ⟨b,1,none⟩=some v:=by rw [Lib.cell_of_heap hbk];rfl
 have hsz1:=hb1.size;refine aQ<|ai rfl<|ai rfl<|ae (cI rfl) rfl<|ae (aP (Pk _) rfl) rfl<|aG (aS adc rfl (c1)) rfl<|ai rfl<|cz (sz:=1) (vs:= [_]) jN (by kernel_rfl) rfl rfl rfl rfl rfl rfl ?_
 rintro g1 w2 hg1 hB1 hs1;have hown2:=mc hown hs1;have hsz2:=hs1.size;refine vr (z:= .int .u8 0) (sz:=1) (bytes:=1) (news:= [.int .u8 (c.toNat:Int)]) jN (by kernel_rfl) rfl (by decide) B rfl hown2 rfl (vi (hB1.own (base:=B) (n:=1) (sz:=1) (by omega) rfl (by decide))) (fun u hu=>by rw [List.mem_singleton.1 hu];rfl) (by unfold maxLen;omega) (by omega) (by omega) rfl ?_;rintro v3 w3 hown3 hgr _
 have hlt:b<w1.heap.size:=by
  rcases Nat.lt_or_ge b w1.heap.size with h'|h'
  · exact h'
  · simp [Array.getElem?_eq_none h'] at hbk
 have hb3:w3.heap[b]? =some (.cells #[.pointer (some ⟨b,0,none⟩),v] 116 (0,0)):=by rw [hgr.block b (by omega) (fun e=>hne e.symm),hs1.block b hlt];exact hbk
 obtain ⟨A3,cc3,hv3,_,_⟩:=uZ hown3;have hone:v3.oneCell'=true:=by rw [hv3];rfl
 have hb13:Below B w w3:=(hb1.trans (hs1.mono (by omega))).grown hgr (by omega) (fun k hk=>(jz hown2 k hk).1);refine ae (cI rfl) rfl<|ae (aP (Pk _) rfl) rfl<|t6 (Dm (p:=⟨b,1,none⟩) RE rfl rfl hone (by rw [Lib.cell_of_heap hb3];rfl) (Lib.frozen_of_heap hb3 1))<|al fi<|am fun mB=>an rfl<|al mB<|aJ<|bN rfl rfl ?_
 exact ⟨_,rfl,rfl,.inr (by rw [W0];exact Lib.BuilderAt.put hB hb3 (by simpa using hown3) (by decide)),hb13.setCell (p:=⟨b,1,none⟩) hB _⟩
theorem TI:bB Tryz.prog 19:=⟨_,Tryz.func19,by kernel_rfl,rfl⟩
theorem Nh:bB Tryz.prog 80:=⟨_,Tryz.func80,by kernel_rfl,rfl⟩
theorem FV:bB Tryz.prog 81:=⟨_,Tryz.func81,by kernel_rfl,rfl⟩
def o5 (d:UInt8):Option UInt8:=if d=92 then some 92 else if d=39 then some 39 else if d=110 then some 10 else none
def cZ:ao→Nat→ao→ao×Nat
 | [],_,_=>([],0)
 | [c],i,a=>if c=39 then (a,i+1) else ([],0)
 |c :: d :: r,i,a=>if c=39 then (a,i+1) else if c=10 then ([],0) else if c=92 then (match o5 d with|none=>([],0)|some e=>cZ r (i+2) (a++ [e])) else cZ (d :: r) (i+1) (a++ [c])
def de (s:ao):ao×Nat:=cZ (s.drop 1) 1 []
theorem drop_at {s:ao} {i:Nat} (h:i<s.length):s.drop i=s.getD i 0 :: s.drop (i+1):=by
 rw [List.drop_eq_getElem_cons h];simp [List.getD,List.getElem?_eq_getElem h]
theorem T8 {s:ao} {i:Nat} (a:ao) (h:¬i<s.length):cZ (s.drop i) i a=([],0):=by
 rw [List.drop_eq_nil_of_le (by omega),cZ]
theorem Ud {s:ao} {i:Nat} (a:ao) (h:i<s.length) (hc:s.getD i 0=39):cZ (s.drop i) i a=(a,i+1):=by
 rw [drop_at h]
 cases hd:s.drop (i+1) with
 |nil=>rw [cZ,if_pos hc]
 |cons d r=>rw [cZ,if_pos hc]
theorem Ua {s:ao} {i:Nat} (a:ao) (h:i<s.length) (hc:s.getD i 0=10):cZ (s.drop i) i a=([],0):=by
 rw [drop_at h,hc]
 cases hd:s.drop (i+1) with
 |nil=>rw [cZ,if_neg (by decide)]
 |cons d r=>rw [cZ,if_neg (by decide),if_pos rfl]
theorem Ub {s:ao} {i:Nat} (a:ao) (h:i<s.length) (hc:s.getD i 0=92) (hl:i+1=s.length):cZ (s.drop i) i a=([],0):=by
 rw [drop_at h,List.drop_eq_nil_of_le (by omega),hc,cZ,if_neg (by decide)]
theorem T9 {s:ao} {i:Nat} (a:ao) (h:i+1<s.length) (hc:s.getD i 0=92):cZ (s.drop i) i a=match o5 (s.getD (i+1) 0) with|none=>([],0)|some e=>cZ (s.drop (i+2)) (i+2) (a++ [e]):=by
 rw [drop_at (by omega:i<s.length),hc,drop_at h,cZ,if_neg (by decide),if_neg (by decide),if_pos rfl]
theorem Uc {s:ao} {i:Nat} (a:ao) (h:i<s.length) (h1:s.getD i 0≠39) (h2:s.getD i 0≠10) (h3:s.getD i 0≠92):cZ (s.drop i) i a=cZ (s.drop (i+1)) (i+1) (a++ [s.getD i 0]):=by
 rw [drop_at h]
 cases hd:s.drop (i+1) with
 |nil=>rw [show cZ [s.getD i 0] i a=([],0) by rw [cZ,if_neg h1],cZ]
 |cons d r=>rw [cZ,if_neg h1,if_neg h2,if_neg h3]
theorem O9 (d:UInt8):(Lib.indexByte [92,39,110] d= -1∧o5 d=none)∨∃k:Nat,k<3∧Lib.indexByte [92,39,110] d=(k:Int)∧o5 d=some (([92,39,10]:ao).getD k 0):=by
 by_cases h1:d=92
 · subst h1;exact .inr ⟨0,by decide,by decide,by decide⟩
 · by_cases h2:d=39
   · subst h2;exact .inr ⟨1,by decide,by decide,by decide⟩
   · by_cases h3:d=110
     · subst h3;exact .inr ⟨2,by decide,by decide,by decide⟩
     · refine .inl ⟨?_,by unfold o5;rw [if_neg h1,if_neg h2,if_neg h3]⟩
       have e1:((92:UInt8)==d)=false:=by simp;exact fun h=>h1 h.symm
       have e2:((39:UInt8)==d)=false:=by simp;exact fun h=>h2 h.symm
       have e3:((110:UInt8)==d)=false:=by simp;exact fun h=>h3 h.symm
       simp [Lib.indexByte,e1,e2,e3]
theorem NH (s:ao) (d:UInt8) (w:World):bx Tryz.prog 19 [str s,.int .u8 (d.toNat:Int)] w fun v w'=>(∃z,v= .int .i64 z∧z=Lib.indexByte s d)∧w'=w:=
 (U3 s (d.toNat:Int) w).mono fun v w' ⟨h1,h2⟩=>⟨⟨_,h1,by simp⟩,h2⟩
theorem oO {c:UInt8} {n:Nat} (h:(c.toNat:Int)=(n:Int)) (hn:n<256):c=UInt8.ofNat n:=by
 apply UInt8.toNat_inj.1;rw [UInt8.toNat_ofNat'];omega
theorem qu {c:UInt8} {n:Nat} (h:¬(c.toNat:Int)=(n:Int)) (hn:n<256):c≠UInt8.ofNat n:=fun e=>h (by rw [e,UInt8.toNat_ofNat'];omega)
theorem tR {s l:ao} {n:Nat} {m:Int} (h:de s=(l,n)) (hm:m=(n:Int)):Value.tuple #[str l,.int .i64 m]= .tuple #[str (de s).1,.int .i64 ((de s).2:Nat)]:=by rw [h,hm]
theorem F8 (B b:Nat) (l:ao) (w:World) (h:Lib.IsBuilder 116 5 B b (Lib.byteCells l) w) (hB:B≤w.heap.size):bx Tryz.prog 80 [.pointer (some ⟨b,0,none⟩)] w fun v w'=>v=str l∧Below B w w':=
 Calls.mono (Tryz.Builder_String_any B b l w h hB) fun e w' ⟨h1,h2⟩=>⟨_,h1,rfl,h2⟩
theorem ags (s:ao) (hs:s.length≤140737488355328) (w:World):bx Tryz.prog 63 [str s] w fun v w'=>v= .tuple #[str (de s).1,.int .i64 ((de s).2:Nat)]∧Below w.heap.size w w':=by
 have h3:([92,39,110]:ao).length=3:=rfl;have h4:([92,39,10]:ao).length=3:=rfl;have hb:=Below.refl w.heap.size w;refine enter Tryz.func63 rfl rfl rfl<|am fun aR=>an rfl<|an rfl<|al aR<|am fun b8=>bT (z:=Q2) (by kernel_rfl) rfl ?_
 rintro dq ks jH aE ck;have:=ck.size;have hb:=aZ hb ck;have:=aE.lt;refine al b8<|av fun _ fi=>am fun dV=>an rfl<|al dV<|b4<|d9 (X:=Nat×ao) (fun (i,l)=> [(0,str s),(4,.pointer (some ⟨dq,0,none⟩)),(5,.int .i64 (i:Int))]) (fun (i,l) wr=>1≤i∧i≤s.length+1∧l.length<i∧de s=cZ (s.drop i) i l∧Below w.heap.size w wr∧Lib.IsBuilder 116 5 w.heap.size dq (Lib.byteCells l) wr) (fun (i,l)=>s.length+1 - i) (⟨1,[]⟩) ?_ ?_ ?_
 · exact by repeat first|exact aC|refine aA rfl (by first|rfl|exact aH (by omega)) ?_
 · exact ⟨by omega,by omega,Nat.lt_succ_self 0,rfl,hb,.inl ⟨jH,_,aE,World.ownsRow_nil _ _ _ _,by simp [Value.ownBlock]⟩⟩
 rintro ⟨i,l⟩ wr jW _ nV;replace jW:1≤i∧i≤s.length+1∧l.length<i∧de s=cZ (s.drop i) i l∧Below w.heap.size w wr∧Lib.IsBuilder 116 5 w.heap.size dq (Lib.byteCells l) wr:=jW;obtain ⟨hi1,hi2,hl,hu,hb,hI⟩:=jW;show Wc _ _ _ _ _ [(0,str s),(4,.pointer (some ⟨dq,0,none⟩)),(5,.int .i64 (i:Int))] _;have:=hb.size;refine av fun _ dT=>am fun dU=>ai rfl<|ai rfl<|ae (ez bI (by omega) rfl) rfl<|ae (dL rfl rfl) rfl<|al dU<|aO rfl (fun dD=>?_) (fun dD=>?_)
 ·
  have kx:=dD;simp only [DZ] at dD;have hil:i<s.length:=by have:=dD;omega
  obtain ⟨c,hc⟩:∃c,c=s.getD i 0:=⟨_,rfl⟩;refine aU<|ax dT<|av fun _ dG=>b4<|am fun fC=>ai rfl<|ai rfl<|ae (bW (fP bI rfl rfl (by omega) (by omega)) (aH (show _=(c.toNat:Int) by rw [hc,Int.toNat_natCast]))) rfl<|an rfl<|al fC<|b4<|am fun fT=>ai rfl<|ae (bX rfl rfl) rfl<|an rfl<|al fT<|aO rfl (fun gE=>?_) (fun gE=>?_)
  ·
   have rU:=gE;simp only [DZ] at gE;have hcq:s.getD i 0=39:=by rw [←hc];exact oO (n:=39) gE (by decide)
   refine am fun fD=>aD Nh rfl rfl (F8 w.heap.size dq l _ hI hb.size) rfl ?_;rintro _ w2 ⟨rfl,hs2⟩;refine ai rfl<|ae (ct rfl rfl (by omega) (by omega)) rfl<|an rfl<|an rfl<|al fD<|aJ<|co (co (aX (aX (co (aX ?_)))))
   refine fm rfl rfl rfl ?_;exact ⟨_,rfl,tR (hu.trans (Ud l hil hcq)) (by omega),hb.trans hs2⟩
  have rU:=gE;simp only [DZ] at gE;have hcq:s.getD i 0≠39:=by rw [←hc];exact qu (n:=39) gE (by decide)
  refine av fun _ gI=>cR (X:=Bool) (fun q=> [(0,str s),(4,.pointer (some ⟨dq,0,none⟩)),(5,.int .i64 (i:Int)),(6,.int .u8 (c.toNat:Int)),(25,.bool q)]) (fun q wr=>q=decide ((c.toNat:Int)=10∨((c.toNat:Int)=92∧(i:Int)+1=s.length))∧Below w.heap.size w wr∧Lib.IsBuilder 116 5 w.heap.size dq (Lib.byteCells l) wr) (fun _ zi=>?_) ?_
  ·
   refine aQ<|ai rfl<|ae (bX rfl rfl) rfl<|ai rfl<|dy rfl rfl rfl (fun fR=>?_) (fun fR=>?_)
   ·
    have gF:=fR;simp only [DZ] at fR;refine az rfl rfl gF rfl rfl<|az rfl rfl gF rfl rfl<|bY rfl rfl rfl<|bY rfl rfl rfl<|bY rfl rfl rfl<|bY rfl rfl rfl<|bY rfl rfl rfl<|az rfl rfl gF rfl rfl<|ae (bo rfl gF rfl) rfl<|an rfl<|ay<|a7 zi (decide ((c.toNat:Int)=10∨((c.toNat:Int)=92∧(i:Int)+1=s.length))) (by repeat first|exact aC|refine aA rfl (by first|rfl|exact a8 (by rw [Bool.eq_iff_iff];simp;omega)) ?_) ?_
    exact ⟨rfl,hb,hI⟩
   have gF:=fR;simp only [DZ] at fR;refine ai rfl<|ap rfl rfl gF<|ae (bX rfl rfl) rfl<|ap rfl rfl gF<|ai rfl<|cG rfl rfl rfl (fun m5=>?_) (fun m5=>?_)
   ·
    have l6:=m5;simp only [DZ] at m5;refine ai rfl<|ap rfl rfl l6<|ae (ct rfl rfl (by omega) (by omega)) rfl<|ap rfl rfl l6<|ai rfl<|ap rfl rfl l6<|ae (ez bI (by omega) rfl) rfl<|ap rfl rfl l6<|ae (bX rfl rfl) rfl<|ap rfl rfl gF<|ae (bo rfl l6 rfl) rfl<|ae (bj rfl gF rfl) rfl<|an rfl<|ay<|a7 zi (decide ((c.toNat:Int)=10∨((c.toNat:Int)=92∧(i:Int)+1=s.length))) (by repeat first|exact aC|refine aA rfl (by first|rfl|exact a8 (by rw [Bool.eq_iff_iff];simp;omega)) ?_) ?_
    exact ⟨rfl,hb,hI⟩
   have l6:=m5;simp only [DZ] at m5;refine az rfl rfl l6 rfl rfl<|az rfl rfl l6 rfl rfl<|az rfl rfl l6 rfl rfl<|az rfl rfl l6 rfl rfl<|ap rfl rfl gF<|ae (bj rfl l6 rfl) rfl<|ae (bj rfl gF rfl) rfl<|an rfl<|ay<|a7 zi (decide ((c.toNat:Int)=10∨((c.toNat:Int)=92∧(i:Int)+1=s.length))) (by repeat first|exact aC|refine aA rfl (by first|rfl|exact a8 (by rw [Bool.eq_iff_iff];simp;omega)) ?_) ?_
   exact ⟨rfl,hb,hI⟩
  rintro q wr J9;replace J9:q=decide ((c.toNat:Int)=10∨((c.toNat:Int)=92∧(i:Int)+1=s.length))∧Below w.heap.size w wr∧Lib.IsBuilder 116 5 w.heap.size dq (Lib.byteCells l) wr:=J9;obtain ⟨hq,hb,hI⟩:=J9;show Wq _ _ _ _ [(0,str s),(4,.pointer (some ⟨dq,0,none⟩)),(5,.int .i64 (i:Int)),(6,.int .u8 (c.toNat:Int)),(25,.bool q)] _;have:=hb.size;refine ax gI<|aO rfl (fun Hm=>?_) (fun Hm=>?_)
  ·
   have Hn:=Hm;have hq2:(c.toNat:Int)=10∨((c.toNat:Int)=92∧(i:Int)+1=s.length):=by have h:=Hn;rw [hq] at h;exact of_decide_eq_true h
   have hun:de s=([],0):=by
    rcases hq2 with h|⟨h,h'⟩
    · exact hu.trans (Ua l hil (by rw [←hc];exact oO (n:=10) h (by decide)))
    · exact hu.trans (Ub l hil (by rw [←hc];exact oO (n:=92) h (by decide)) (by omega))
   refine am fun nQ=>an rfl<|an rfl<|al nQ<|aJ<|co (co (aX (aX (co (aX ?_)))))
   refine fm rfl rfl rfl ?_;exact ⟨_,rfl,tR hun rfl,hb⟩
  have Hn:=Hm;have hq2:¬((c.toNat:Int)=10∨((c.toNat:Int)=92∧(i:Int)+1=s.length)):=by have h:=Hn;rw [hq] at h;exact of_decide_eq_false h
  refine am fun jv=>ai rfl<|ae (bX rfl rfl) rfl<|an rfl<|al jv<|aO rfl (fun un=>?_) (fun un=>?_)
  ·
   have Xv:=un;simp only [DZ] at un;have hi3:i+1<s.length:=by have:=un;omega
   have hc9:s.getD i 0=92:=by rw [←hc];exact oO (n:=92) un (by decide)
   obtain ⟨d,hd⟩:∃d,d=s.getD (i+1) 0:=⟨_,rfl⟩;have hes:=T9 l hi3 hc9;rw [←hd] at hes;refine am fun pu=>ai rfl<|ae (ct rfl rfl (by omega) (by omega)) rfl<|an rfl<|al pu<|am fun tv=>ai rfl<|ai rfl<|ae (bW (fP bI rfl rfl (by omega) (by omega)) (aH (show _=(d.toNat:Int) by rw [hd,show ((i:Int)+1).toNat=i+1 by omega]))) rfl<|aD TI rfl rfl (NH _ d _) rfl ?_
   rintro _ w_ ⟨⟨z,rfl,hz⟩,bV⟩;have bV:=bV.symm;subst bV;refine an rfl<|al tv<|av fun _ oC=>am fun mG=>ai rfl<|ae (dL rfl rfl) rfl<|al mG<|aO rfl (fun lw=>?_) (fun lw=>?_)
   ·
    have wb:=lw;simp only [DZ] at lw
    have hun:de s=([],0):=by
     rcases O9 d with ⟨_,h⟩|⟨k,_,h,_⟩
     · rw [h] at hes;exact hu.trans hes
     · have:=lw;omega
    refine am fun tx=>an rfl<|an rfl<|al tx<|aJ<|aX (co (co (aX (aX (co (aX ?_))))))
    refine fm rfl rfl rfl ?_;exact ⟨_,rfl,tR hun rfl,hb⟩
   have wb:=lw;simp only [DZ] at lw
   obtain ⟨k,e_,hk3,hzk,kn,hee⟩:∃(k:Nat) (e:UInt8),k<3∧z=(k:Int)∧o5 d=some e∧e=([92,39,10]:ao).getD k 0:=by
    rcases O9 d with ⟨h,_⟩|⟨k,h0,h1,h2⟩
    · have:=lw;omega
    · exact ⟨k,_,h0,hz.trans h1,h2,rfl⟩
   have hu2:de s=cZ (s.drop (i+1+1)) (i+1+1) (l++ [e_]):=by rw [kn] at hes;exact hu.trans hes
   obtain ⟨j_,kL⟩:∃j,j=i+1:=⟨_,rfl⟩;rw [←kL] at hu2;refine aU<|ax oC<|aQ<|ai rfl<|ae (bW (fP bI rfl rfl (by omega) (by omega)) (aH (show _=(e_.toNat:Int) by rw [hee,hzk,Int.toNat_natCast]))) rfl<|aD FV rfl rfl (Ee w.heap.size dq l e_ _ hI (by omega) hb.size) rfl ?_
   rintro _ w3 ⟨rfl,hI2,hs3⟩;refine ay<|cD<|cD<|ax dG<|aQ<|ai rfl<|ae (ct rfl rfl (by omega) (by omega)) rfl<|an rfl<|ay<|fun a_ bM=>nV _ _ (⟨j_+1,l++ [e_]⟩) (by simp;omega) (by repeat first|exact aC|refine aA rfl (by first|rfl|exact aH (by omega)) ?_) ?_ a_ bM
   exact ⟨by omega,by omega,by simp;omega,hu2,hb.trans hs3,hI2⟩
  have Xv:=un;simp only [DZ] at un;have hu2:=hu.trans (Uc l hil hcq (by rw [←hc];exact qu (n:=10) (fun h=>hq2 (.inl h)) (by decide)) (by rw [←hc];exact qu (n:=92) un (by decide)));obtain ⟨j_,kL⟩:∃j,j=i:=⟨_,rfl⟩;obtain ⟨e_,kn⟩:∃e,e=c:=⟨_,rfl⟩;rw [←hc,←kn,←kL] at hu2;refine aQ<|ai rfl<|aD FV rfl rfl (Ee w.heap.size dq l c _ hI (by omega) hb.size) rfl ?_
  rintro _ w3 ⟨rfl,hI2,hs3⟩;refine ay<|cD<|cD<|ax dG ?_
  rw [←kn] at hI2;refine aQ<|ai rfl<|ae (ct rfl rfl (by omega) (by omega)) rfl<|an rfl<|ay<|fun a_ bM=>nV _ _ (⟨j_+1,l++ [e_]⟩) (by simp;omega) (by repeat first|exact aC|refine aA rfl (by first|rfl|exact aH (by omega)) ?_) ?_ a_ bM
  exact ⟨by omega,by omega,by simp;omega,hu2,hb.trans hs3,hI2⟩
 have kx:=dD;simp only [DZ] at dD;refine d2<|cj<|cj<|d3<|ax fi<|am fun Cr=>an rfl<|an rfl<|al Cr<|aJ<|fm rfl rfl rfl ?_
 exact ⟨_,rfl,tR (hu.trans (T8 l (by have:=dD;omega))) rfl,hb⟩
def o3 {α:Type} (f:Nat→Option α):Nat→Option α
 |0=>none
 |j+1=>match f j with
  |some a=>some a
  |none=>o3 f j
theorem EF {α:Type} {f:Nat→Option α} {a:α}:∀{M:Nat},o3 f M=some a→∃j,j<M∧f j=some a∧∀i,j<i→i<M→f i=none
 |0,h=>by cases h
 |M+1,h=>by
  rw [o3] at h
  cases hf:f M with
  |some b=>rw [hf] at h;exact ⟨M,by omega,by rw [hf];exact h,fun i h1 h2=>by omega⟩
  |none=>
   rw [hf] at h;obtain ⟨j,h1,h2,h3⟩:=EF h
   exact ⟨j,by omega,h2,fun i h4 h5=>by
    by_cases e:i=M
    · rw [e];exact hf
    · exact h3 i h4 (by omega)⟩
theorem IS {α:Type} {f:Nat→Option α} {a:α} {j:Nat} (hj:f j=some a):∀{M:Nat},j<M→(∀i,j<i→i<M→f i=none)→o3 f M=some a
 |0,h,_=>by omega
 |M+1,h,hn=>by
  rw [o3];by_cases e:j=M
  · rw [←e,hj]
  · rw [hn M (by omega) (by omega)];exact IS hj (by omega) fun i h1 h2=>hn i h1 (by omega)
theorem EE {α:Type} {f:Nat→Option α}:∀{M:Nat},o3 f M=none↔∀i,i<M→f i=none
 |0=>⟨fun _ i h=>by omega,fun _=>rfl⟩
 |M+1=>by
  rw [o3]
  cases hf:f M with
  |some b=>simp only [reduceCtorEq,false_iff];exact fun h=>by have:=h M (by omega);rw [hf] at this;cases this
  |none=>
   simp only;rw [EE]
   exact ⟨fun h i hi=>by
    by_cases e:i=M
    · rw [e];exact hf
    · exact h i (by omega),fun h i hi=>h i (by omega)⟩
def p6 (pf:ao→Option Nat) (s:ao) (k j:Nat):Option (c7×Nat):=(pf (s.take (k+j+1))).map fun f=>(⟨3,0,f,[]⟩,k+j+1)
def rE (s:ao) (j:Nat):Option (c7×Nat):=(jA (s.take (j+1))).bind fun v=>if Lib.itoa v=s.take (j+1) then some (⟨2,v,0,[]⟩,j+1) else none
theorem wM (pf:ao→Option Nat) (s:ao) (k:Nat):∀M,qM pf s k M=o3 (p6 pf s k) M
 |0=>rfl
 |M+1=>by
  rw [qM,o3,p6,wM pf s k M]
  cases pf (s.take (k+M+1))<;>rfl
theorem AT (s:ao):∀M,jl s M=o3 (rE s) M
 |0=>rfl
 |M+1=>by
  rw [jl,o3,rE,AT s M]
  cases jA (s.take (M+1)) with
  |none=>rfl
  |some v=>
   simp only [Option.bind_some]
   split<;>rfl
theorem og (s p:ao):Lib.hasPrefix s p=true↔p <+: s:=List.isPrefixOf_iff_prefix
theorem Dg (s w:ao) (q:Nat):Lib.hasPrefix (s.take q) w=(Lib.hasPrefix s w&&decide (w.length≤q)):=by
 rw [Bool.eq_iff_iff,Bool.and_eq_true,og,og,decide_eq_true_eq,List.prefix_take_iff]
theorem tP {s w:ao} (q:Nat) (h:Lib.hasPrefix s w=false):Lib.hasPrefix (s.take q) w=false:=by rw [Dg,h];rfl
theorem zF {s w:ao} {q:Nat} (h:Lib.hasPrefix s w=true) (hq:w.length≤q):Lib.hasPrefix (s.take q) w=true:=by rw [Dg,h,decide_eq_true hq];rfl
theorem Rl (s:ao):jZ s=(s.takeWhile (pZ.contains ·)).length:=by
 unfold jZ Lib.trimLeftS;have h:=congrArg List.length (List.takeWhile_append_dropWhile (p:=(pZ.contains ·)) (l:=s));rw [List.length_append] at h;omega
theorem Rm:jZ []=0:=rfl
theorem yf (c:UInt8) (s:ao):jZ (c :: s)=if pZ.contains c=true then jZ s+1 else 0:=by
 rw [Rl,Rl,List.takeWhile_cons];split<;>simp
theorem Mg (c:UInt8) (m:ao) (hc:pZ.contains c=false):∀s,jZ (s++c :: m)=jZ s
 | []=>by rw [List.nil_append,yf,hc];rfl
 |x :: r=>by rw [List.cons_append,yf,yf,Mg c m hc r]
theorem Fy:∀(s:ao) (q:Nat),jZ (s.take q)=min (jZ s) q
 | [],q=>by rw [List.take_nil,Rm];omega
 |x :: r,0=>by rw [List.take_zero,Rm];omega
 |x :: r,q+1=>by
  rw [List.take_succ_cons,yf,yf,Fy r q]
  split<;>omega
theorem CW (r:ao):lead (45 :: r)=jZ r+1:=by
 have h:Lib.hasPrefix (45 :: r) [45]=true:=by rw [og];exact ⟨r,rfl⟩
 unfold lead Lib.trimPrefix;rw [if_pos h];simp
theorem CX {s:ao} (h:Lib.hasPrefix s [45]=false):lead s=jZ s:=by
 unfold lead Lib.trimPrefix;rw [if_neg (by rw [h];simp)];omega
theorem yh (s:ao) (c:UInt8):Lib.hasPrefix s [c]=true↔∃r,s=c :: r:=by
 rw [og]
 constructor
 · rintro ⟨r,h⟩;exact ⟨r,h.symm⟩
 · rintro ⟨r,h⟩;exact ⟨r,h.symm⟩
theorem CY (s:ao) (q:Nat):lead (s.take q)=min (lead s) q:=by
 by_cases h:Lib.hasPrefix s [45]=true
 · obtain ⟨r,rfl⟩:=(yh _ _).1 h
   cases q with
   |zero=>rw [List.take_zero];rw [show lead []=0 from rfl];omega
   |succ q=>rw [List.take_succ_cons,CW,CW,Fy];omega
 · have h0:Lib.hasPrefix s [45]=false:=by simpa using h
   rw [CX h0,CX (tP q h0),Fy]
structure VM (c:UInt8):Prop where
 dig:pZ.contains c=false
 min:c≠45
 p:c≠112
 w1:c ∉ gi
 w2:c ∉ gU
 w3:c ∉ gV
 w4:∀x,x∈gW→c ∉ x
 q:c≠39
theorem sx:∀(r:ao) (i:Nat) (a:ao),(cZ r i a).2≠0→i<(cZ r i a).2∧(cZ r i a).2≤i+r.length
 | [],i,a,h=>by simp [cZ] at h
 | [c],i,a,h=>by
  rw [cZ] at h ⊢
  split at h
  · rename_i hc;rw [if_pos hc];simp
  · simp at h
 |c :: d :: r,i,a,h=>by
  rw [cZ] at h ⊢
  split at h
  · rename_i hc;rw [if_pos hc];simp
  · rename_i hc
    rw [if_neg hc]
    split at h
    · simp at h
    · rename_i hc2
      rw [if_neg hc2]
      split at h
      · rename_i hc3
        rw [if_pos hc3]
        cases he:o5 d with
        |none=>rw [he] at h;simp at h
        |some e=>
         rw [he] at h;have:=sx r (i+2) (a++ [e]) h;simp only [List.length_cons];omega
      · rename_i hc3
        rw [if_neg hc3];have:=sx (d :: r) (i+1) (a++ [c]) h;simp only [List.length_cons] at this ⊢;omega
theorem Nl:∀(r x:ao) (i:Nat) (a:ao),(cZ r i a).2≠0→r.take ((cZ r i a).2 - i)=x.take ((cZ r i a).2 - i)→cZ x i a=cZ r i a
 | [],x,i,a,h,_=>by simp [cZ] at h
 | [c],x,i,a,h,ht=>by
  rw [cZ] at h ht ⊢
  split at h
  · rename_i hc
    rw [if_pos hc] at ht ⊢;rw [show i+1 - i=1 by omega] at ht
    cases x with
    |nil=>simp at ht
    |cons y z=>
     simp at ht;obtain ⟨rfl⟩:=ht
     cases z with
     |nil=>rw [cZ,if_pos hc]
     |cons z1 z2=>rw [cZ,if_pos hc]
  · simp at h
 |c :: d :: r,x,i,a,h,ht=>by
  have hlen:=sx (c :: d :: r) i a h;rw [cZ] at h ht hlen ⊢
  split at h
  · rename_i hc
    rw [if_pos hc] at ht ⊢;rw [show i+1 - i=1 by omega] at ht
    cases x with
    |nil=>simp at ht
    |cons y z=>
     simp at ht;obtain ⟨rfl⟩:=ht
     cases z with
     |nil=>rw [cZ,if_pos hc]
     |cons z1 z2=>rw [cZ,if_pos hc]
  · rename_i hc
    rw [if_neg hc] at ht hlen ⊢
    split at h
    · simp at h
    · rename_i hc2
      rw [if_neg hc2] at ht hlen ⊢
      split at h
      · rename_i hc3
        rw [if_pos hc3] at ht hlen ⊢
        cases he:o5 d with
        |none=>rw [he] at h;simp at h
        |some e=>
         rw [he] at h ht hlen;have hl2:=sx r (i+2) (a++ [e]) h;simp only at ht hlen ⊢;obtain ⟨k,hk⟩:∃k,(cZ r (i+2) (a++ [e])).2 - i=k+2:=⟨(cZ r (i+2) (a++ [e])).2 - i - 2,by omega⟩;rw [hk] at ht
         cases x with
         |nil=>simp at ht
         |cons y z=>
          cases z with
          |nil=>simp at ht
          |cons z1 z2=>
           simp only [List.take_succ_cons,List.cons.injEq] at ht;obtain ⟨rfl,rfl,ht⟩:=ht;rw [cZ,if_neg hc,if_neg hc2,if_pos hc3,he];exact Nl r z2 (i+2) (a++ [e]) h (by rw [show (cZ r (i+2) (a++ [e])).2 - (i+2)=k by omega];exact ht)
      · rename_i hc3
        rw [if_neg hc3] at ht hlen ⊢;have hl2:=sx (d :: r) (i+1) (a++ [c]) h
        obtain ⟨k,hk⟩:∃k,(cZ (d :: r) (i+1) (a++ [c])).2 - i=k+2:=⟨(cZ (d :: r) (i+1) (a++ [c])).2 - i - 2,by
         omega⟩
        rw [hk] at ht
        cases x with
        |nil=>simp at ht
        |cons y z=>
         cases z with
         |nil=>simp at ht
         |cons z1 z2=>
          simp only [List.take_succ_cons,List.cons.injEq] at ht;obtain ⟨rfl,rfl,ht⟩:=ht;rw [cZ,if_neg hc,if_neg hc2,if_neg hc3];exact Nl (d :: r) (d :: z2) (i+1) (a++ [c]) h (by rw [show (cZ (d :: r) (i+1) (a++ [c])).2 - (i+1)=k+1 by omega];simp only [List.take_succ_cons,List.cons.injEq,true_and];exact ht)
theorem agu {s:ao} {q:Nat} (h:(de s).2≠0) (hq:(de s).2≤q):de (s.take q)=de s:=by
 have hl:=sx _ _ _ h;have e:(cZ (s.drop 1) 1 []).2=(de s).2:=rfl;rw [e] at hl;refine Nl (s.drop 1) ((s.take q).drop 1) 1 [] h ?_;rw [e,List.drop_take,List.take_take,Nat.min_eq_left (by omega)]
theorem T7 {s:ao} (h:(de s).2≠0):2≤(de s).2∧(de s).2≤s.length:=by
 have hl:=sx _ _ _ h;have e:(cZ (s.drop 1) 1 []).2=(de s).2:=rfl;rw [e] at hl
 have hs:1≤s.length:=by
  rcases Nat.eq_zero_or_pos s.length with h0|h0
  · rw [List.length_eq_zero_iff.1 h0] at h;exact absurd rfl h
  · exact h0
 rw [List.length_drop] at hl;omega
theorem I4 {p p':ao→Bool} {x:ao}:∀{l:List (ao)},(∀y,p' y=true→p y=true)→p' x=true→l.find? p=some x→l.find? p'=some x
 | [],_,_,h=>by cases h
 |y :: r,hp,hx,h=>by
  rw [List.find?_cons] at h ⊢
  cases hy:p y with
  |true=>rw [hy] at h;cases h;rw [hx]
  |false=>
   rw [hy] at h
   have:p' y=false:=by
    cases h2:p' y with
    |false=>rfl
    |true=>rw [hp y h2] at hy;cases hy
   rw [this];exact I4 hp hx h
theorem Py {p p':ao→Bool} {l:List (ao)} (hp:∀y,p' y=true→p y=true) (h:l.find? p=none):l.find? p'=none:=by
 rw [List.find?_eq_none] at h ⊢;exact fun x hx h2=>h x hx (hp x h2)
theorem PB {s:ao} {q:Nat} (h:s[lead s]? =some 112) (hq:lead s<q) (hk:d6 s≤q):lead (s.take q)=lead s∧(s.take q)[lead (s.take q)]? =some 112∧d6 (s.take q)=d6 s∧kY (s.take q)=min (kY s) (q - d6 s):=by
 have e1:lead (s.take q)=lead s:=by rw [CY];omega
 have e2:(s.take q)[lead (s.take q)]? =some 112:=by rw [e1,List.getElem?_take,if_pos hq];exact h
 have e3:d6 (s.take q)=d6 s:=by
  unfold d6 at hk ⊢;rw [e1];by_cases h2:s[lead s+1]? =some 45
  · rw [if_pos h2] at hk ⊢;rw [if_pos (by rw [List.getElem?_take,if_pos (by omega)];exact h2)]
  · rw [if_neg h2,if_neg (fun h3=>h2 (by
     rw [List.getElem?_take] at h3
     split at h3
     · exact h3
     · cases h3))]
 refine ⟨e1,e2,e3,?_⟩;unfold kY;rw [e3,List.drop_take,Fy];omega
theorem EQ {pf:ao→Option Nat} {s:ao} {r:c7×Nat} (h:il pf s=some r):s[lead s]? =some 112∧∃j f,j<kY s∧pf (s.take (d6 s+j+1))=some f∧r=(⟨3,0,f,[]⟩,d6 s+j+1)∧∀i,j<i→i<kY s→pf (s.take (d6 s+i+1))=none:=by
 unfold il at h
 split at h
 · rename_i hp
   rw [wM] at h;obtain ⟨j,h1,h2,h3⟩:=EF h;unfold p6 at h2;obtain ⟨f,hf,hr⟩:=Option.map_eq_some_iff.1 h2
   exact ⟨hp,j,f,h1,hf,hr.symm,fun i h4 h5=>by
    have:=h3 i h4 h5
    unfold p6 at this
    exact Option.map_eq_none_iff.1 this⟩
 · cases h
theorem Za {pf:ao→Option Nat} {s:ao} {v:c7} {n q:Nat} (h:il pf s=some (v,n)) (hq:n≤q):il pf (s.take q)=some (v,n):=by
 obtain ⟨hp,j,f,h1,h2,h3,h4⟩:=EQ h;obtain ⟨b1,b2,b3⟩:=A6 s hp;have hn:n=d6 s+j+1:=congrArg Prod.snd h3;obtain ⟨e1,e2,e3,e4⟩:=PB (q:=q) hp (by omega) (by omega);unfold il;rw [if_pos e2,wM,e3,e4];have ht:∀i,d6 s+i+1≤q→(s.take q).take (d6 s+i+1)=s.take (d6 s+i+1):=fun i hi=>by rw [List.take_take,Nat.min_eq_left hi]
 refine IS (j:=j) ?_ (by omega) fun i h5 h6=>?_
 · rw [p6,ht j (by omega),h2,h3];rfl
 · rw [p6,ht i (by omega),h4 i h5 (by omega)];rfl
theorem PA {pf:ao→Option Nat} {s:ao} (q:Nat) (h:il pf s=none):il pf (s.take q)=none:=by
 unfold il
 split
 · rename_i hp
   have hlt:lead (s.take q)<(s.take q).length:=(List.getElem?_eq_some_iff.1 hp).1;rw [List.length_take,CY] at hlt;have e1:lead (s.take q)=lead s:=by rw [CY];omega
   have hp2:s[lead s]? =some 112:=by
    rw [e1,List.getElem?_take] at hp
    split at hp
    · exact hp
    · cases hp
   unfold il at h;rw [if_pos hp2,wM,EE] at h;obtain ⟨c1,c2⟩:=I5 _ hp;obtain ⟨c3,c4,c5⟩:=A6 _ hp;have hlen:=List.length_take_le q s;rw [wM,EE];intro i hi;have hK:d6 (s.take q)+i+1≤q:=by have:=c2;rw [List.length_take] at this;omega
   have hk2:d6 s≤q:=by
    by_cases hk:d6 s≤q
    · exact hk
    · exfalso
      have h7:d6 s≤lead s+2:=by unfold d6;split<;>omega
      have h8:lead s+1≤d6 (s.take q):=by rw [←e1];exact c3
      omega
   obtain ⟨_,_,e3,e4⟩:=PB (q:=q) hp2 (by omega) hk2;have:=h i (by rw [e4] at hi;omega);rw [p6] at this ⊢;rw [e3] at hK ⊢;rw [List.take_take,Nat.min_eq_left hK];exact this
 · rfl
theorem EG {s:ao} {M:Nat} {r:c7×Nat} (h:jl s M=some r):∃j v,j<M∧jA (s.take (j+1))=some v∧Lib.itoa v=s.take (j+1)∧r=(⟨2,v,0,[]⟩,j+1)∧∀i,j<i→i<M→rE s i=none:=by
 rw [AT] at h;obtain ⟨j,h1,h2,h3⟩:=EF h;unfold rE at h2;obtain ⟨v,hv,hr⟩:=Option.bind_eq_some_iff.1 h2
 split at hr
 · rename_i hi;cases hr;exact ⟨j,v,h1,hv,hi,rfl,h3⟩
 · cases hr
theorem Yw {s:ao} {v:c7} {n q:Nat} (h:jl s (min (lead s) 20)=some (v,n)) (hq:n≤q):jl (s.take q) (min (lead (s.take q)) 20)=some (v,n):=by
 obtain ⟨j,u,h1,h2,h3,h4,h5⟩:=EG h;have hn:n=j+1:=congrArg Prod.snd h4;have ht:∀i,i+1≤q→(s.take q).take (i+1)=s.take (i+1):=fun i hi=>by rw [List.take_take,Nat.min_eq_left hi]
 rw [AT,CY];refine IS (j:=j) ?_ (by omega) fun i h6 h7=>?_
 · rw [rE,ht j (by omega),h2,Option.bind_some,if_pos h3,h4]
 · have:=h5 i h6 (by omega)
   unfold rE at this ⊢;rw [ht i (by omega)];exact this
theorem R9 {pf:ao→Option Nat} {s:ao} {v:c7} {n q:Nat} (h:dI pf de s=some (v,n)) (hq:n≤q):dI pf de (s.take q)=some (v,n):=by
 unfold dI at h ⊢;have hmono:∀y,Lib.hasPrefix (s.take q) y=true→Lib.hasPrefix s y=true:=fun y hy=>by rw [Dg,Bool.and_eq_true] at hy;exact hy.1
 by_cases h0:Lib.hasPrefix s [39]=true
 · rw [if_pos h0] at h
   by_cases hz:(de s).2=0
   · rw [if_pos hz] at h;cases h
   · rw [if_neg hz] at h;cases h
     have:=T7 hz;rw [if_pos (zF h0 (by simp;omega)),agu hz hq,if_neg hz]
 · have h0':Lib.hasPrefix s [39]=false:=by simpa using h0
   rw [if_neg h0] at h;rw [tP q h0',if_neg (show ¬(false=true) by decide)];by_cases h1:Lib.hasPrefix s gi=true
   · rw [if_pos h1] at h;cases h;rw [if_pos (zF h1 hq)]
   · have h1':Lib.hasPrefix s gi=false:=by simpa using h1
     rw [if_neg h1] at h;rw [tP q h1',if_neg (show ¬(false=true) by decide)];by_cases h2:Lib.hasPrefix s gU=true
     · rw [if_pos h2] at h;cases h;rw [if_pos (zF h2 hq)]
     · have h2':Lib.hasPrefix s gU=false:=by simpa using h2
       rw [if_neg h2] at h;rw [tP q h2',if_neg (show ¬(false=true) by decide)];by_cases h3:Lib.hasPrefix s gV=true
       · rw [if_pos h3] at h;cases h;rw [if_pos (zF h3 hq)]
       · have h3':Lib.hasPrefix s gV=false:=by simpa using h3
         rw [if_neg h3] at h;rw [tP q h3',if_neg (show ¬(false=true) by decide)]
         cases hf:gW.find? (fun x=>Lib.hasPrefix s x) with
         |some x=>
          rw [hf] at h;cases h;have hx:=List.find?_some hf;rw [I4 hmono (zF hx hq) hf]
         |none=>
          rw [hf] at h;rw [Py hmono hf]
          cases hg:il pf s with
          |some r=>rw [hg] at h;cases h;rw [Za hg hq]
          |none=>
           rw [hg] at h;rw [PA q hg];exact Yw h hq
theorem Df {s w:ao} (h:Lib.hasPrefix s w=true):w.length≤s.length:=((og _ _).1 h).length_le
theorem Di {pf:ao→Option Nat} {s:ao} {v:c7} {n:Nat} (h:dI pf de s=some (v,n)):0<n∧n≤s.length:=by
 unfold dI at h
 split at h
 · split at h
   · cases h
   · rename_i hz;cases h;have:=T7 hz;omega
 · split at h
   · rename_i h1;cases h;exact ⟨by decide,Df h1⟩
   · split at h
     · rename_i h1;cases h;exact ⟨by decide,Df h1⟩
     · split at h
       · rename_i h1;cases h;exact ⟨by decide,Df h1⟩
       · split at h
         · rename_i x hx;cases h
           refine ⟨?_,Df (List.find?_some hx)⟩;have:=List.mem_of_find?_eq_some hx;simp only [gW,List.mem_cons,List.not_mem_nil,or_false] at this
           rcases this with rfl|rfl|rfl<;>decide
         · split at h
           · rename_i r hr;cases h
             obtain ⟨hp,j,f,h1,h2,h3,h4⟩:=EQ hr;have:=I5 s hp;have hn:n=d6 s+j+1:=congrArg Prod.snd h3;omega
           · obtain ⟨j,u,h1,h2,h3,h4,h5⟩:=EG h
             have hn:n=j+1:=congrArg Prod.snd h4;have:=L0 s;omega
theorem zu {k n:Int} {f:Nat} {s:ao} (h0: -9223372036854775808≤n) (h1:n≤9223372036854775807) (h2:f<18446744073709551616):(⟨k,n,f,s⟩:c7).Ok:=⟨h0,h1,h2⟩
theorem R7 {s:ao} {v:c7} {n:Nat} (h:dI pf de s=some (v,n)):v.Ok:=by
 have o0:ch.Ok:=zu (by decide) (by decide) (by decide);have o1:∀b,(rN b).Ok:=fun b=>by cases b<;>exact zu (by decide) (by decide) (by decide)
 have of:∀x f,pf x=some f→(⟨3,0,f,[]⟩:c7).Ok:=fun x f hf=>zu (by decide) (by decide) (Mz hf).1.lt;unfold dI at h
 split at h
 · split at h
   · cases h
   · cases h;exact zu (by decide) (by decide) (by decide)
 · split at h
   · cases h;exact o0
   · split at h
     · cases h;exact o1 _
     · split at h
       · cases h;exact o1 _
       · split at h
         · rename_i x hx;cases h
           cases hp:pf x with
           |none=>exact zu (by decide) (by decide) (by decide)
           |some f=>exact of x f hp
         · split at h
           · rename_i r hr;cases h
             obtain ⟨hp,j,f,h1,h2,h3,h4⟩:=EQ hr;have hv:v=⟨3,0,f,[]⟩:=congrArg Prod.fst h3;subst hv;exact of _ f h2
           · obtain ⟨j,u,h1,h2,h3,h4,h5⟩:=EG h
             have hv:v=⟨2,u,0,[]⟩:=congrArg Prod.fst h4;subst hv;have:=RS h2;exact zu this.1 this.2 (by decide)
theorem X7 {s:ao} (hs:s.length≤140737488355328):ND pf de s where
 unq:=fun _ w _=>ags s hs w
 word:=fun x hx _ w hL=>NN x (by
  simp only [gW,List.mem_cons,List.not_mem_nil,or_false] at hx
  rcases hx with rfl|rfl|rfl<;>decide) w hL
 prs:=fun e _ w hL=>NN _ (by have:=List.length_take_le e s;have:=List.length_take_le' e s;omega) w hL
theorem VC (s:ao) (hs:s.length≤140737488355328) (w:World) (hL:Lb w):bx Tryz.prog 41 [str s] w fun v w'=>v=MC (dI pf de s)∧Below w.heap.size w w':=
 VB pf de s (by omega) (X7 hs) w hL
def yF (r:Option (c7×Nat)) (u:c7) (n:Nat) (ok:Bool):Prop:=(ok=true∧r=some (u,n))∨(ok=false∧r=none∧u=ch∧n=0)
theorem D5 (s:ao) (hs:s.length≤140737488355328) (w:World) (hL:Lb w):bx Tryz.prog 41 [str s] w fun v w'=>(∃u n ok,v= .tuple #[c7.enc u,.int .i64 (n:Nat),.bool ok]∧yF (dI pf de s) u n ok)∧Below w.heap.size w w':=
 (VC s hs w hL).mono fun v w' ⟨h1,h2⟩=>⟨by
  subst h1
  cases h:dI pf de s with
  |none=>exact ⟨ch,0,false,rfl,.inr ⟨rfl,rfl,rfl,rfl⟩⟩
  |some r=>exact ⟨r.1,r.2,true,rfl,.inl ⟨rfl,rfl⟩⟩,h2⟩
theorem ael (x:c7):yl x x=true:=by unfold yl;simp
end Go.Proofs.YtjdjliiolchciaaGreatDoor
