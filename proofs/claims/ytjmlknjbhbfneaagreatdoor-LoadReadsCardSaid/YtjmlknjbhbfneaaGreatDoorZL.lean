import Derived.Test.YtjmlknjbhbfneaaGreatDoorZG
namespace Go.Proofs.YtjmlknjbhbfneaaGreatDoor
open Go.RowKit Go.Bw Go.Bw.Fl
set_option linter.unusedVariables false
set_option linter.unusedSimpArgs false
def isLet (c:UInt8):Bool:=decide (c.toNat=95∨(48≤c.toNat∧c.toNat≤57)∨(97≤bits .or .u8 (c.toNat:Int) 32∧bits .or .u8 (c.toNat:Int) 32≤122))
def mK (s:al):Bool:=decide (s≠ []∧s.length≤40∧¬(48≤(s.getD 0 0).toNat∧(s.getD 0 0).toNat≤57))
def bO (s:al):Bool:=mK s&&s.all isLet
def blank (c:UInt8):Bool:=decide (c∈([32,9,13,10]:al))
def strs (l:List (al)):List Value:=l.map str
theorem i6 {l:List (al)} {i:Nat} {v:Value} (hi:i<l.length) (h:(strs l)[i]? =some v):v=str (l.getD i []):=by
 simp [strs,List.getElem?_eq_getElem hi] at h;simp [List.getD,List.getElem?_eq_getElem hi,←h]
theorem adc {c:UInt8} (h:isLet c=true):c.toNat=95∨(48≤c.toNat∧c.toNat≤57)∨(65≤c.toNat∧c.toNat≤90)∨(97≤c.toNat∧c.toNat≤122):=by
 have key:∀n:Fin 256,isLet (UInt8.ofNat n.val)=true→n.val=95∨(48≤n.val∧n.val≤57)∨(65≤n.val∧n.val≤90)∨(97≤n.val∧n.val≤122):=by decide +kernel
 have h2:=key ⟨c.toNat,UInt8.toNat_lt c⟩;rw [show UInt8.ofNat c.toNat=c from UInt8.ofNat_toNat] at h2;exact h2 h
end Go.Proofs.YtjmlknjbhbfneaaGreatDoor
