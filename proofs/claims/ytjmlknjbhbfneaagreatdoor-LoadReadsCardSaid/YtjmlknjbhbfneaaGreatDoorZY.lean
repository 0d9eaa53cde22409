import Derived.Test.YtjmlknjbhbfneaaGreatDoorProg
import Derived.Test.YtjmlknjbhbfneaaGreatDoorZRow
namespace Go.Bw
open Go.RowKit Go.Proofs
abbrev nf:Value:=(.agg #[(.int .i64 0),(.int .i64 0),(.float .f64 0),(str [])])
abbrev j2:List Value:= [(.int .i64 0),(.int .i64 0),(.float .f64 0),(str [])]
abbrev j3:List (Nat×Nat):= [(0,1),(1,1),(2,1),(3,1)]
abbrev LO:Value:=(.agg #[(.pointer none),(.slice none 0 0)])
abbrev Di:Value:=(.agg #[(str []),(.int .i64 0),(.int .i64 0),(.float .f64 0),(str [])])
abbrev oo:Value:=(.agg #[(str []),(.slice none 0 0),(.slice none 0 0)])
abbrev mA:Value:=(.agg #[(str []),(.int .i64 0),(.int .i64 0),(.bool false),(.slice none 0 0),(.slice none 0 0)])
abbrev Ro:List Value:= [(str []),(.int .i64 0),(.int .i64 0),(.float .f64 0),(str [])]
abbrev LP:Value:= .agg #[str [],.int .i64 0,.int .i64 0,.float .f64 0,str []]
abbrev Rp:List Value:= [(str []),(.slice none 0 0),(.slice none 0 0)]
abbrev Rk:Value:= .agg #[str [],.slice none 0 0,.slice none 0 0]
abbrev Rl:List Value:= [(str []),(.int .i64 0),(.int .i64 0),(.bool false),(.slice none 0 0),(.slice none 0 0)]
abbrev Rm:List (Nat×Nat):= [(0,1),(1,1),(2,1),(3,1),(4,1),(5,1)]
abbrev Rn:Value:= .agg #[str [],.int .i64 0,.int .i64 0,.bool false,.slice none 0 0,.slice none 0 0]
abbrev s3:Value:=(.agg #[(.slice none 0 0),(.slice none 0 0)])
abbrev Dh:List Value:= [(.slice none 0 0),(.slice none 0 0)]
abbrev ahi:=@Tryz.underlying0
abbrev pj:=@Tryz.underlying105
abbrev nn:=@Tryz.underlying135
abbrev Gq:=@Tryz.underlying148
abbrev ahj:=@Tryz.underlying176
abbrev T4:=@Tryz.underlying188
abbrev aiO:=@Tryz.underlying190
abbrev Gr:=@Tryz.underlying2
abbrev aiP:=@Tryz.underlying20
abbrev Gs:=@Tryz.underlying206
abbrev aiQ:=@Tryz.underlying21
abbrev dB:=@Tryz.underlying22
abbrev aiR:=@Tryz.underlying229
abbrev aiS:=@Tryz.underlying230
abbrev Gt:=@Tryz.underlying238
abbrev dJ:=@Tryz.underlying24
abbrev d4:=@Tryz.underlying25
abbrev ye:=@Tryz.underlying253
abbrev MZ:=@Tryz.underlying255
abbrev aiT:=@Tryz.underlying261
abbrev aiU:=@Tryz.underlying262
abbrev eJ:=@Tryz.underlying27
abbrev aiV:=@Tryz.underlying277
abbrev aiW:=@Tryz.underlying279
abbrev jp:=@Tryz.underlying3
abbrev DU:=@Tryz.underlying4
abbrev bK:=@Tryz.underlying40
abbrev ef:=@Tryz.underlying41
abbrev tg:=@Tryz.underlying43
abbrev mI:=@Tryz.underlying46
abbrev rx:=@Tryz.underlying48
abbrev fq:=@Tryz.underlying5
abbrev Gu:=@Tryz.underlying50
abbrev M0:=@Tryz.underlying56
abbrev yf:=@Tryz.underlying65
abbrev T5:=@Tryz.underlying67
abbrev aiX:=@Tryz.underlying69
abbrev bq:=@Tryz.underlying9
abbrev T6:=@Tryz.underlying94
abbrev de:=@Tryz.underlying96
abbrev al:=List UInt8
theorem aO {α β γ:Sort _} {p:α→β→γ→Prop}:∀a b c,p a b c→p a b c:=fun _ _ _ h=>h
abbrev ab:Bool:=true
abbrev ac:Bool:=false
theorem az {a b c:World} (h:Below a.heap.size a b) (k:Below b.heap.size b c):Below a.heap.size a c:=h.trans (k.mono h.size)
variable {P:Program} {N:Nat} {D:List Deferred} {env:Env} {w:World} {Q:Exit→Act→World→Prop} {ops:Array Oper} {rest:List Oper} {d:Nat} {ty:TypeId} {pos:String} {af:Array Edge}
theorem ai {x:Operand} {v:Value} (h:(ev env x,Nat.blt d N)=(some v,true)) (k:Wl P ops Q rest N D ((d,v) :: env) w):Wl P ops Q (⟨some d,.move x,ty,pos,af,none⟩ :: rest) N D env w:=W1 (congrArg Prod.fst h) (congrArg Prod.snd h) k
theorem am {x:Operand} {v:Value} (h:(ev env x,Nat.blt d N)=(some v,true)) (k:Wl P ops Q rest N D ((d,v) :: env) w):Wl P ops Q (⟨some d,.assign x,ty,pos,af,none⟩ :: rest) N D env w:=W7 (congrArg Prod.fst h) (congrArg Prod.snd h) k
theorem an {y:Code} {K:Act→World→Prop} (hK:∀env w,Wc P Q y N D env w→∀a,Ok N D env a→K a w) (h:Wc P Q y N D env w):Wl P ops (Exit.then K Q) [] N D env w:=ay (aw hK h)
theorem ao {id:Nat} {l:List Oper} {y:Code} (h:∀{K:Act→World→Prop},(∀(env:Env) (w:World),Wc P Q y N D env w→∀a,Ok N D env a→K a w)→Wl P l.toArray (Exit.then K Q) l N D env w):Wc P Q (.seq (.region id l.toArray false) y) N D env w:=ax fun _ hK=>aR (h hK)
end Go.Bw
