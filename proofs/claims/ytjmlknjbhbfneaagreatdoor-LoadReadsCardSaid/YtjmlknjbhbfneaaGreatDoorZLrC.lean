import Derived.Test.YtjmlknjbhbfneaaGreatDoorZLrB
namespace Go.Proofs.YtjmlknjbhbfneaaGreatDoor
open Go.RowKit Go.Bw Go.Bw.Fl
set_option linter.unusedVariables false
set_option linter.unusedSimpArgs false
def o9 (s:List (al)×Int) (x:al):List (al)×Int:=(fR s.1 x,if x∈s.1 then 3 else s.2)
def b7 (ls:List (al)):List (al)×Int:=ls.foldl o9 ([],0)
def ks (s:List (al)) (e:Int) (p:Pr):Int:=if p.1∈s then 3 else if p.2.k=0∧e=0 then 4 else e
def uz (s:List (al)×Int) (p:Pr):List (al)×Int:=(s.1++ [p.1],ks s.1 s.2 p)
def fQ (e:Int) (ps:List Pr):List (al)×Int:=ps.foldl uz ([],e)
theorem FC (ls:List (al)) (x:al):b7 (ls++ [x])=o9 (b7 ls) x:=by unfold b7;rw [List.foldl_append];rfl
theorem Sg (e:Int) (ps:List Pr) (p:Pr):fQ e (ps++ [p])=uz (fQ e ps) p:=by unfold fQ;rw [List.foldl_append];rfl
theorem Sf (e:Int) (ps:List Pr):(fQ e ps).1=ps.map (·.1):=by
 have key:∀(ps:List Pr) (s:List (al)×Int),(ps.foldl uz s).1=s.1++ps.map (·.1):=fun ps=>by
  induction ps with
  |nil=>intro s;simp
  |cons p r ih=>intro s;rw [List.foldl_cons,ih];simp [uz]
 exact (key ps _).trans (List.nil_append _)
def cz (ns:List (al)):List (al):=ns.foldl fR []
theorem ael (ns:List (al)) (x:al):cz (ns++ [x])=fR (cz ns) x:=by unfold cz;rw [List.foldl_append];rfl
def eD (ps:List Pr) (x:al):List Pr:=ps.filter fun p=>decide (p.1=x)
def uB (ps:List Pr):List Pr:=(cz (ps.map (·.1))).flatMap (eD ps)
theorem adm (ls:List (al)):(b7 ls).1.length≤ls.length:=by
 have key:∀(ls:List (al)) (s:List (al)×Int),(ls.foldl o9 s).1.length≤s.1.length+ls.length:=fun ls=>by
  induction ls with
  |nil=>intro s;simp
  |cons p r ih=>intro s;rw [List.foldl_cons];have h1:=ih (o9 s p);have h2:=Uy s.1 p;simp only [o9,List.length_cons] at h1 ⊢;omega
 have:=key ls ([],0);simpa [b7] using this
theorem R6 (ls:List (al)):(cz ls).length≤ls.length:=by
 have key:∀(ls s:List (al)),(ls.foldl fR s).length≤s.length+ls.length:=fun ls=>by
  induction ls with
  |nil=>intro s;simp
  |cons p r ih=>intro s;rw [List.foldl_cons];have h1:=ih (fR s p);have h2:=Uy s p;simp only [List.length_cons] at h1 ⊢;omega
 have:=key ls [];simpa [cz] using this
def Ec (l:List (al)) (Lb:List (al)) (Pb:List Pr) (e:Int):Prop:=
 (fp l=none∧e=2∧Lb= []∧Pb= [])∨∃ls ps,fp l=some (ls,ps)∧Lb=(b7 ls).1∧Pb=uB ps∧e=(fQ (b7 ls).2 ps).2
theorem afb {f:al} {r:List (al)} (h:Lib.hasPrefix f [58]=true):fp (f :: r)=if bO (f.drop 1)=true then (fp r).map fun x=>(f.drop 1 :: x.1,x.2) else none:=by
 conv=>lhs;unfold fp
 rw [if_pos h]
theorem afc {l:List (al)} (h:∀f,l.head? =some f→Lib.hasPrefix f [58]=false):fp l=(iZ l).map fun x=>([],x):=by
 cases l with
 |nil=>rfl
 |cons f r=>
  unfold fp;rw [if_neg (by rw [h f rfl];simp)]
theorem Mi (f:al) (r:List (al)):iZ (f :: r)=match lD f,iZ r with|some p,some ps=>some (p :: ps)|_,_=>none:=rfl
theorem aez {f:al} (h:(61:UInt8) ∉ f):lD f=none:=by unfold lD;rw [if_neg (fun h2=>h h2.1)]
theorem OG {f:al} {i:Nat} (hi:i<f.length) (h1:f.getD i 0=61) (h2:(61:UInt8) ∉ f.take i):(61:UInt8)∈f∧cy f=(f.take i,f.drop (i+1)):=by
 have e:f=f.take i++61 :: f.drop (i+1):=by
  have:=drop_at hi;rw [h1] at this;rw [←this,List.take_append_drop]
 refine ⟨by rw [e];simp,?_⟩
 conv=>lhs;rw [e]
 exact AL h2
theorem aex {f:al} {i:Nat} (hi:i<f.length) (h1:f.getD i 0=61) (h2:(61:UInt8) ∉ f.take i) (h3:bO (f.take i)=false):lD f=none:=by
 have:=OG hi h1 h2;unfold lD;rw [this.2,if_neg (fun h=>by rw [h3] at h;cases h.2)]
theorem aey {f:al} {i n:Nat} {u:bW} {ok:Bool} (hi:i<f.length) (h1:f.getD i 0=61) (h2:(61:UInt8) ∉ f.take i) (h3:bO (f.take i)=true) (hr:zR (bZ pf bL (f.drop (i+1))) u n ok):lD f=some (f.take i,u):=by
 have:=OG hi h1 h2;unfold lD;rw [this.2,if_pos ⟨this.1,h3⟩]
 rcases hr with ⟨_,h4⟩|⟨_,h4,h5,_⟩
 · dsimp only;rw [h4];rfl
 · dsimp only;rw [h4,h5];rfl
theorem aeW {s:al} {u:bW} {n:Nat} {ok:Bool} (h:zR (bZ pf bL s) u n ok):u.Ok:=by
 rcases h with ⟨_,h⟩|⟨_,_,h,_⟩
 · exact Ms h
 · rw [h];exact ⟨by decide,by decide,by decide⟩
structure RS (M:Nat) (w:World) (b:Nat) (Al:Option Addr) (ls:List (al)) (vN:Value) (ns:List (al)) (vV:Value) (vs:List bW):Prop where
 lw:M≤w.heap.size
 hL:Rd w 1 Al ls.length (strs ls)
 hN:w.ownsRow b 9 1 vN ns.length (strs ns)
 hV:w.ownsRow b 96 4 vV vs.length (vs.flatMap bW.cells)
 ap:po vN vV
 aN:∀q,Al=some q→vN.ownBlock≠some q.block
 aV:∀q,Al=some q→vV.ownBlock≠some q.block
 mL:∀q,Al=some q→q.block<M
 mN:∀k,vN.ownBlock=some k→k<M
 mV:∀k,vV.ownBlock=some k→k<M
section
variable {M b:Nat} {w w':World} {Al:Option Addr} {ls ns:List (al)} {vN vV:Value} {vs:List bW}
theorem RS.keep (h:RS M w b Al ls vN ns vV vs) (hs:w.heap.size≤w'.heap.size) (hk:∀k,k<M→w'.heap[k]? =w.heap[k]?):RS M w' b Al ls vN ns vV vs:=
 {h with lw:=Nat.le_trans h.lw hs,hL:=h.hL.same fun q e _=>hk _ (h.mL q e),hN:=fP h.hN fun k e _=>hk k (h.mN k e),hV:=fP h.hV fun k e _=>hk k (h.mV k e)}
theorem RS.below (h:RS M w b Al ls vN ns vV vs) (hb:Below w.heap.size w w'):RS M w' b Al ls vN ns vV vs:=h.keep hb.size fun k hk=>hb.block k (by have:=h.lw;omega)
theorem RS.over {q:Nat} (h:RS M w b Al ls vN ns vV vs) (hg:w.grownBy w' (some q)) (hq:M≤q):RS M w' b Al ls vN ns vV vs:=h.keep hg.size fun k hk=>hg.block k (by have:=h.lw;omega) (fun e=>by cases e;omega)
theorem RS.up (h:RS M w b Al ls vN ns vV vs):RS w.heap.size w b Al ls vN ns vV vs:=
 {h with lw:=Nat.le_refl _,mL:=fun q e=>Nat.lt_of_lt_of_le (h.mL q e) h.lw,mN:=fun k e=>Nat.lt_of_lt_of_le (h.mN k e) h.lw,mV:=fun k e=>Nat.lt_of_lt_of_le (h.mV k e) h.lw}
theorem Oc {v v':Value} (hn:∀q,Al=some q→v.ownBlock≠some q.block) (hl:∀q,Al=some q→q.block<w.heap.size) (ha:v'.ownBlock=v.ownBlock∨v'.ownBlock=some w.heap.size):∀q,Al=some q→v'.ownBlock≠some q.block:=fun q e h=>by
 rcases ha with ha|ha
 · exact hn q e (ha ▸ h)
 · rw [ha] at h;have h2:=Option.some.inj h;have:=hl q e;omega
theorem RS.growN (h:RS M w b Al ls vN ns vV vs) {vN':Value} {ns':List (al)} (hO:w'.ownsRow b 9 1 vN' ns'.length (strs ns')) (hg:w.grownBy w' vN.ownBlock) (ha:vN'.ownBlock=vN.ownBlock∨vN'.ownBlock=some w.heap.size):RS w'.heap.size w' b Al ls vN' ns' vV vs:=
 have hm:=h.up
 {lw:=Nat.le_refl _
  hL:=h.hL.same fun q e hlt=>hg.block _ hlt (fun e2=>h.aN q e e2.symm)
  hN:=hO
  hV:=fP h.hV fun k e hlt=>hg.block k hlt (fun e2=>h.ap k e2.symm e)
  ap:=h.ap.grow ha h.hV
  aN:=Oc h.aN hm.mL ha
  aV:=h.aV
  mL:=fun q e=>Nat.lt_of_lt_of_le (hm.mL q e) hg.size
  mN:=fun k e=>(bz hO k e).2
  mV:=fun k e=>Nat.lt_of_lt_of_le (hm.mV k e) hg.size}
theorem RS.growV (h:RS M w b Al ls vN ns vV vs) {vV':Value} {vs':List bW} (hO:w'.ownsRow b 96 4 vV' vs'.length (vs'.flatMap bW.cells)) (hg:w.grownBy w' vV.ownBlock) (ha:vV'.ownBlock=vV.ownBlock∨vV'.ownBlock=some w.heap.size):RS w'.heap.size w' b Al ls vN ns vV' vs':=
 have hm:=h.up
 {lw:=Nat.le_refl _
  hL:=h.hL.same fun q e hlt=>hg.block _ hlt (fun e2=>h.aV q e e2.symm)
  hV:=hO
  hN:=fP h.hN fun k e hlt=>hg.block k hlt (fun e2=>h.ap k e e2.symm)
  ap:=(h.ap.symm.grow ha h.hN).symm
  aN:=h.aN
  aV:=Oc h.aV hm.mL ha
  mL:=fun q e=>Nat.lt_of_lt_of_le (hm.mL q e) hg.size
  mV:=fun k e=>(bz hO k e).2
  mN:=fun k e=>Nat.lt_of_lt_of_le (hm.mN k e) hg.size}
end
end Go.Proofs.YtjmlknjbhbfneaaGreatDoor
