import Derived.Test.YtjmlknjbhbfneaaGreatDoorZD
namespace Go.Proofs.YtjmlknjbhbfneaaGreatDoor
open Go.RowKit Go.Bw Go.Bw.Fl
set_option linter.unusedVariables false
set_option linter.unusedSimpArgs false
def m8 (b:Nat):Nat:=if isNan b=true then 18446744073709551615 else if 9223372036854775808≤b then 18446744073709551615 - b else b+9223372036854775808
theorem Ov {b:Nat} (h:isNan b=false):canon b=b:=by unfold canon;rw [if_neg (s4 h)]
theorem LH {b:Nat} (h:isNan b=true):m8 b=18446744073709551615:=by unfold m8;rw [if_pos h]
theorem FA {b:Nat} (h:isNan b=false) (hb:b<18446744073709551616):(m8 b<18446744073709551615)∧((9223372036854775808≤b∧m8 b=18446744073709551615 - b)∨(b<9223372036854775808∧m8 b=b+9223372036854775808)):=by
 have h':b % 9223372036854775808≤9218868437227405312:=by simpa [isNan] using h
 unfold m8;rw [if_neg (s4 h)];split<;>omega
theorem Q7 (b:Nat):m8 (canon b)=m8 b:=by
 unfold canon
 split
 · rename_i h;rw [LH h];decide
 · rfl
theorem Y3 {a b:Nat} (ha:a<18446744073709551616) (hb:b<18446744073709551616) (h:m8 a=m8 b):canon a=canon b:=by
 cases na:isNan a<;>cases nb:isNan b
 · rw [Ov na,Ov nb];have:=FA na ha;have:=FA nb hb;omega
 · have:=FA na ha;have:=LH nb;omega
 · have:=LH na;have:=FA nb hb;omega
 · unfold canon;rw [if_pos na,if_pos nb]
structure bW where
 k:Int
 n:Int
 f:Nat
 s:al
def bW.cells (v:bW):List Value:= [.int .i64 v.k,.int .i64 v.n,.float .f64 v.f,str v.s]
def bW.enc (v:bW):Value:= .agg v.cells.toArray
structure bW.Ok (v:bW):Prop where
 n0: -9223372036854775808≤v.n
 n1:v.n≤9223372036854775807
 f1:v.f<18446744073709551616
def dh:bW:=⟨0,0,0,[]⟩
def hY (t:Bool):bW:=⟨1,if t=true then 1 else 0,0,[]⟩
def en (v:bW):Bool:=
 if v.k=0 then decide (v.n=0∧v.f=0∧v.s= [])
 else if v.k=1 then decide ((v.n=0∨v.n=1)∧v.f=0∧v.s= [])
 else if v.k=2 then decide (v.f=0∧v.s= [])
 else if v.k=3 then decide (v.n=0∧v.s= []∧canon v.f=v.f)
 else if v.k=4 then decide (v.n=0∧v.f=0) else false
def uE (a b:bW):Bool:=decide (a.k=b.k∧a.n=b.n∧m8 a.f=m8 b.f∧a.s=b.s)
theorem MP (t:Bool) (w:World):be Tryz.prog 89 [.bool t] w fun v w'=>v=(hY t).enc∧Below w.heap.size w w':=by
 have hb:=Below.refl w.heap.size w;refine enter Tryz.func89 rfl rfl rfl<|ao fun aZ=>el (z:=nf) (by kernel_rfl) rfl ?_
 rintro aX js iB aj cF;have:=cF.size;have hb:=az hb cF;have:=aj.lt;refine an aZ<|ax fun _ bJ=>ao fun bX=>ai rfl<|an bX<|aH rfl (fun uW=>?_) (fun uW=>?_)
 ·
  have uX:=uW;refine ao fun e7=>ah (fe (z:=j2) (pl:=j3) (cs:= [_,_,_,_]) de (by kernel_rfl) (by kernel_rfl) rfl rfl rfl) rfl<|cH (by kernel_rfl) rfl rfl aj rfl rfl ?_
  rintro d3 aj bI;have:=bI.size;have hb:=bY hb bI hb.size (by omega);refine an e7<|aK<|aQ<|fc (rs:= [.cell 2 96]) (vs:= [_]) rfl (.cell rfl (e9 de (by kernel_rfl) (fun j u hu=>aj.at hu)) .nil) ?_
  exact ⟨_,rfl,by rw [uX];rfl,hb⟩
 have uX:=uW;refine aU<|aw bJ<|ao fun ek=>ah (fe (z:=j2) (pl:=j3) (cs:= [_,_,_,_]) de (by kernel_rfl) (by kernel_rfl) rfl rfl rfl) rfl<|cH (by kernel_rfl) rfl rfl aj rfl rfl ?_
 rintro ky aj cd;have:=cd.size;have hb:=bY hb cd hb.size (by omega);refine an ek<|aK<|fc (rs:= [.cell 2 96]) (vs:= [_]) rfl (.cell rfl (e9 de (by kernel_rfl) (fun j u hu=>aj.at hu)) .nil) ?_
 exact ⟨_,rfl,by rw [uX];rfl,hb⟩
end Go.Proofs.YtjmlknjbhbfneaaGreatDoor
