import Derived.Test.YtjdjliiolchciaaGreatDoorZD
namespace Go.Proofs.YtjdjliiolchciaaGreatDoor
open Go.RowKit Go.Bw Go.Bw.Fl
set_option linter.unusedVariables false
set_option linter.unusedSimpArgs false
def oH (b:Nat):Nat:=if isNan b=true then 18446744073709551615 else if 9223372036854775808≤b then 18446744073709551615 - b else b+9223372036854775808
theorem OH {b:Nat} (h:isNan b=false):jk b=b:=by unfold jk;rw [if_neg (tL h)]
theorem LW {b:Nat} (h:isNan b=true):oH b=18446744073709551615:=by unfold oH;rw [if_pos h]
theorem Fr {b:Nat} (h:isNan b=false) (hb:b<18446744073709551616):(oH b<18446744073709551615)∧((9223372036854775808≤b∧oH b=18446744073709551615 - b)∨(b<9223372036854775808∧oH b=b+9223372036854775808)):=by
 have h':b % 9223372036854775808≤9218868437227405312:=by simpa [isNan] using h
 unfold oH;rw [if_neg (tL h)];split<;>omega
theorem QJ (b:Nat):oH (jk b)=oH b:=by
 unfold jk
 split
 · rename_i h;rw [LW h];decide
 · rfl
theorem X9 {a b:Nat} (ha:a<18446744073709551616) (hb:b<18446744073709551616) (h:oH a=oH b):jk a=jk b:=by
 cases na:isNan a<;>cases nb:isNan b
 · rw [OH na,OH nb];have:=Fr na ha;have:=Fr nb hb;omega
 · have:=Fr na ha;have:=LW nb;omega
 · have:=LW na;have:=Fr nb hb;omega
 · unfold jk;rw [if_pos na,if_pos nb]
structure c7 where
 k:Int
 n:Int
 f:Nat
 s:ao
def c7.cells (v:c7):List Value:= [.int .i64 v.k,.int .i64 v.n,.float .f64 v.f,str v.s]
def c7.enc (v:c7):Value:= .agg v.cells.toArray
structure c7.Ok (v:c7):Prop where
 n0: -9223372036854775808≤v.n
 n1:v.n≤9223372036854775807
 f1:v.f<18446744073709551616
def ch:c7:=⟨0,0,0,[]⟩
def rN (t:Bool):c7:=⟨1,if t=true then 1 else 0,0,[]⟩
def iB (v:c7):Bool:=
 if v.k=0 then decide (v.n=0∧v.f=0∧v.s= [])
 else if v.k=1 then decide ((v.n=0∨v.n=1)∧v.f=0∧v.s= [])
 else if v.k=2 then decide (v.f=0∧v.s= [])
 else if v.k=3 then decide (v.n=0∧v.s= []∧jk v.f=v.f)
 else if v.k=4 then decide (v.n=0∧v.f=0) else false
def yl (a b:c7):Bool:=decide (a.k=b.k∧a.n=b.n∧oH a.f=oH b.f∧a.s=b.s)
theorem Tj (t:Bool) (w:World):bx Tryz.prog 64 [.bool t] w fun v w'=>v=(rN t).enc∧Below w.heap.size w w':=by
 have hb:=Below.refl w.heap.size w;refine enter Tryz.func64 rfl rfl rfl<|am fun aR=>bT (z:=mO) (by kernel_rfl) rfl ?_
 rintro au dJ dH ab aM;have:=aM.size;have hb:=aZ hb aM;have:=ab.lt;refine al aR<|av fun _ bt=>am fun b8=>ai rfl<|al b8<|aO rfl (fun vA=>?_) (fun vA=>?_)
 ·
  have vB:=vA;refine am fun dV=>ae (cC (z:=n6) (pl:=n9) (cs:= [_,_,_,_]) ek (by kernel_rfl) (by kernel_rfl) rfl rfl rfl) rfl<|ba (by kernel_rfl) rfl rfl ab rfl rfl ?_
  rintro du ab aF;have:=aF.size;have hb:=cf hb aF hb.size (by omega);refine al dV<|aJ<|aX<|bQ (rs:= [.cell 2 25]) (vs:= [_]) rfl (.cell rfl (bP ek (by kernel_rfl) (fun j u hu=>ab.at hu)) .nil) ?_
  exact ⟨_,rfl,by rw [vB];rfl,hb⟩
 have vB:=vA;refine aU<|ax bt<|am fun dW=>ae (cC (z:=n6) (pl:=n9) (cs:= [_,_,_,_]) ek (by kernel_rfl) (by kernel_rfl) rfl rfl rfl) rfl<|ba (by kernel_rfl) rfl rfl ab rfl rfl ?_
 rintro ff ab bc;have:=bc.size;have hb:=cf hb bc hb.size (by omega);refine al dW<|aJ<|bQ (rs:= [.cell 2 25]) (vs:= [_]) rfl (.cell rfl (bP ek (by kernel_rfl) (fun j u hu=>ab.at hu)) .nil) ?_
 exact ⟨_,rfl,by rw [vB];rfl,hb⟩
end Go.Proofs.YtjdjliiolchciaaGreatDoor
