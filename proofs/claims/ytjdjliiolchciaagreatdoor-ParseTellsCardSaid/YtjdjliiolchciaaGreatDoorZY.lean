import Derived.Test.YtjdjliiolchciaaGreatDoorProg
import Derived.Test.YtjdjliiolchciaaGreatDoorZRow
namespace Go.Bw
open Go.RowKit Go.Proofs
abbrev mO:Value:=(.agg #[(.int .i64 0),(.int .i64 0),(.float .f64 0),(str [])])
abbrev n6:List Value:= [(.int .i64 0),(.int .i64 0),(.float .f64 0),(str [])]
abbrev n9:List (Nat×Nat):= [(0,1),(1,1),(2,1),(3,1)]
abbrev Q2:Value:=(.agg #[(.pointer none),(.slice none 0 0)])
abbrev fx:Value:=(.agg #[(.int .i64 0),(str []),(.int .i64 0)])
abbrev mb:List Value:= [(.int .i64 0),(str []),(.int .i64 0)]
abbrev tI:List Value:= [(.int .i64 0),(.int .i64 0)]
abbrev fy:Value:=(.agg #[(.int .i64 0),(str []),(.int .i64 0),(.int .i64 0),(.float .f64 0),(str []),(.slice none 0 0)])
abbrev gd:List Value:= [(.int .i64 0),(str []),(.int .i64 0),(.int .i64 0),(.float .f64 0),(str []),(.slice none 0 0)]
abbrev gf:List (Nat×Nat):= [(0,1),(1,1),(2,4),(6,1)]
abbrev hY:Value:=(.agg #[(.int .i64 0),(str []),(.int .i64 0),(.int .i64 0),(str []),(.int .i64 0),(.int .i64 0),(.float .f64 0),(str []),(.slice none 0 0),(.int .i64 0),(str []),(.int .i64 0),(.int .i64 0),(.float .f64 0),(str []),(.slice none 0 0),(.int .i64 0),(.int .i64 0),(.slice none 0 0)])
abbrev n7:List Value:= [(.int .i64 0),(str []),(.int .i64 0),(.int .i64 0),(str []),(.int .i64 0),(.int .i64 0),(.float .f64 0),(str []),(.slice none 0 0),(.int .i64 0),(str []),(.int .i64 0),(.int .i64 0),(.float .f64 0),(str []),(.slice none 0 0),(.int .i64 0),(.int .i64 0),(.slice none 0 0)]
abbrev n8:List (Nat×Nat):= [(0,1),(1,1),(2,1),(3,7),(10,7),(17,1),(18,1),(19,1)]
abbrev sr:Value:=(.agg #[(.int .i64 0),(.int .i64 0),(.int .i64 0),(.int .i64 0),(str []),(.int .i64 0),(.int .i64 0),(str []),(.int .i64 0),(.int .i64 0),(.float .f64 0),(str []),(.slice none 0 0),(.int .i64 0),(str []),(.int .i64 0),(.int .i64 0),(.float .f64 0),(str []),(.slice none 0 0),(.int .i64 0),(.int .i64 0),(.slice none 0 0)])
abbrev uR:List Value:= [(.int .i64 0),(.int .i64 0),(.int .i64 0),(.int .i64 0),(str []),(.int .i64 0),(.int .i64 0),(str []),(.int .i64 0),(.int .i64 0),(.float .f64 0),(str []),(.slice none 0 0),(.int .i64 0),(str []),(.int .i64 0),(.int .i64 0),(.float .f64 0),(str []),(.slice none 0 0),(.int .i64 0),(.int .i64 0),(.slice none 0 0)]
abbrev uS:List (Nat×Nat):= [(0,1),(1,1),(2,1),(3,20)]
abbrev ah5:=@Tryz.underlying0
abbrev ah6:=@Tryz.underlying102
abbrev oP:=@Tryz.underlying111
abbrev yw:=@Tryz.underlying113
abbrev jN:=@Tryz.underlying114
abbrev T5:=@Tryz.underlying116
abbrev mS:=@Tryz.underlying135
abbrev Aa:=@Tryz.underlying140
abbrev FY:=@Tryz.underlying156
abbrev agq:=@Tryz.underlying157
abbrev T6:=@Tryz.underlying161
abbrev ah7:=@Tryz.underlying164
abbrev Dx:=@Tryz.underlying169
abbrev ah8:=@Tryz.underlying188
abbrev ah9:=@Tryz.underlying189
abbrev aia:=@Tryz.underlying190
abbrev Dy:=@Tryz.underlying194
abbrev aib:=@Tryz.underlying198
abbrev Dz:=@Tryz.underlying2
abbrev aic:=@Tryz.underlying20
abbrev aid:=@Tryz.underlying200
abbrev aie:=@Tryz.underlying214
abbrev aif:=@Tryz.underlying215
abbrev ek:=@Tryz.underlying25
abbrev j5:=@Tryz.underlying26
abbrev b5:=@Tryz.underlying28
abbrev fO:=@Tryz.underlying29
abbrev mg:=@Tryz.underlying3
abbrev dc:=@Tryz.underlying31
abbrev e8:=@Tryz.underlying33
abbrev agr:=@Tryz.underlying34
abbrev yx:=@Tryz.underlying39
abbrev aig:=@Tryz.underlying4
abbrev kU:=@Tryz.underlying43
abbrev FZ:=@Tryz.underlying49
abbrev kV:=@Tryz.underlying5
abbrev tQ:=@Tryz.underlying53
abbrev yy:=@Tryz.underlying58
abbrev fe:=@Tryz.underlying65
abbrev dl:=@Tryz.underlying67
abbrev ig:=@Tryz.underlying74
abbrev bI:=@Tryz.underlying9
abbrev ao:=List UInt8
theorem bF {α β γ:Sort _} {p:α→β→γ→Prop}:∀a b c,p a b c→p a b c:=fun _ _ _ h=>h
abbrev ah:Bool:=true
abbrev aj:Bool:=false
theorem aZ {a b c:World} (h:Below a.heap.size a b) (k:Below b.heap.size b c):Below a.heap.size a c:=h.trans (k.mono h.size)
variable {P:Program} {N:Nat} {D:List Deferred} {env:eR} {w:World} {Q:Exit→Act→World→Prop} {ops:Array Oper} {rest:List Oper} {d:Nat} {ty:TypeId} {pos:String} {af:Array Edge}
theorem ai {x:Operand} {v:Value} (h:(ev env x,Nat.blt d N)=(some v,true)) (k:Wl P ops Q rest N D ((d,v) :: env) w):Wl P ops Q (⟨some d,.move x,ty,pos,af,none⟩ :: rest) N D env w:=WD (congrArg Prod.fst h) (congrArg Prod.snd h) k
theorem an {x:Operand} {v:Value} (h:(ev env x,Nat.blt d N)=(some v,true)) (k:Wl P ops Q rest N D ((d,v) :: env) w):Wl P ops Q (⟨some d,.assign x,ty,pos,af,none⟩ :: rest) N D env w:=WI (congrArg Prod.fst h) (congrArg Prod.snd h) k
theorem al {y:Code} {K:Act→World→Prop} (hK:∀env w,Wc P Q y N D env w→∀a,Ok N D env a→K a w) (h:Wc P Q y N D env w):Wl P ops (Exit.then K Q) [] N D env w:=ay (ax hK h)
theorem am {id:Nat} {l:List Oper} {y:Code} (h:∀{K:Act→World→Prop},(∀(env:eR) (w:World),Wc P Q y N D env w→∀a,Ok N D env a→K a w)→Wl P l.toArray (Exit.then K Q) l N D env w):Wc P Q (.seq (.region id l.toArray false) y) N D env w:=av fun _ hK=>aQ (h hK)
end Go.Bw
