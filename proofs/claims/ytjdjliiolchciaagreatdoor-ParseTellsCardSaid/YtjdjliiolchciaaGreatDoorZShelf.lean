import Derived.Shelf.Strings.Builder1
import Derived.Shelf.Strings.Builder2
import Derived.Shelf.Strings.Trim
import Derived.Shelf.Small.Utf8
import Derived.Shelf.Small.Strs
import Derived.Shelf.Small.Wraps
import Derived.Shelf.Strings.BuilderF
import Derived.Shelf.Strings.BuilderK
import Derived.Shelf.Strconv.Atoi
import Derived.Shelf.Strconv.Itoa0
import Derived.Shelf.Strconv.Itoa1
import Derived.Shelf.LaysM
import Derived.Shelf.Strconv.Itoa2
import Derived.Shelf.Strconv.Itoa3
import Derived.Shelf.Strconv.Itoa4
import Derived.Shelf.Strconv.AtoiErrFast
import Derived.Shelf.Strconv.ParseIntEmpty
import Derived.Shelf.Strconv.AtoiFail
import Derived.Shelf.Strconv.Clone
import Derived.Shelf.Strconv.SyntaxError
import Derived.Shelf.LaysC
import Derived.Shelf.Strconv.ToError
import Derived.Shelf.Strconv.Lower
import Derived.Shelf.Strconv.ParseUint10
import Derived.Shelf.Strconv.ParseUint10Empty
import Derived.Shelf.Strconv.ParseUint10Any
import Derived.Shelf.Strconv.ParseInt10
import Derived.Shelf.Strconv.AtoiLong
import Derived.Shelf.Strconv.AtoiInnerAll
import Derived.Shelf.Strconv.RangeError
import Derived.Shelf.Strconv.ToErrorRange
import Derived.Shelf.Strconv.AtoiAll
import Derived.Shelf.Strconv.ErrVarAll
import Derived.Shelf.Strconv.ParseUintEmpty
import Derived.Shelf.Strconv.ParseUint10b64
import Derived.Shelf.Strconv.ParseUint10b32
import Derived.Shelf.Strconv.ParseUint10b16
import Derived.Shelf.Strconv.ParseUint10b8
import Derived.Shelf.Strconv.ParseUint10At
import Derived.Shelf.Strconv.ParseInt10At64
import Derived.Shelf.Strconv.ParseInt10At32
import Derived.Shelf.Strconv.ParseInt10At16
import Derived.Shelf.Strconv.ParseInt10At8
import Derived.Shelf.Strconv.ParseInt10All
import Derived.Shelf.Strconv.ParseIntPublic10
import Derived.Shelf.Strconv.ErrVarParseInt
import Derived.Ground.MpProg
import Derived.Shelf.Pu.ParseUintPublic10
import Derived.Shelf.Pu.ErrVarParseUint
import Derived.Shelf.Strings.Search1
import Derived.Shelf.Strings.Search2
import Derived.Shelf.Strings.Cut
import Derived.Shelf.Strings.Shaped
import Derived.Shelf.Strings.Prefix
import Derived.Shelf.Unicode.Latin
import Derived.Shelf.Strings.Runes
import Derived.Shelf.Strings.AsciiSet
import Derived.Shelf.Unicode.DecodeSlow
import Derived.Shelf.Unicode.CaseLookup
import Derived.Shelf.Unicode.CaseConvert
import Derived.Shelf.Unicode.CaseTo
import Derived.Shelf.Unicode.CaseLaid
import Derived.Test.YtjdjliiolchciaaGreatDoorProg
namespace Go.Proofs
open Go.Shelf
def NY:Go.Shelf.Ren:=⟨fun|169=>80|n=>n,fun|70=>113|9=>9|0=>0|72=>116|37=>114|127=>142|3=>3|5=>5|n=>n,fun|n=>n⟩
theorem V2:Go.Proofs.Lays.n169 Tryz.prog NY:={
 mixed:=by kernel_rfl
 f169:=Tryz.func80.trans (congrArg some (by kernel_rfl))
 t0:=Tryz.underlying0
 a0:=Tryz.isAgg0
 z0:=Tryz.sizeOf0
 v0:=Tryz.zeroValue0
 t3:=Tryz.underlying3
 a3:=Tryz.isAgg3
 z3:=Tryz.sizeOf3
 v3:=Tryz.zeroValue3
 t9:=Tryz.underlying9
 a9:=Tryz.isAgg9
 z9:=Tryz.sizeOf9
 v9:=Tryz.zeroValue9
 t37:=Tryz.underlying114
 a37:=Tryz.isAgg114
 z37:=Tryz.sizeOf114
 v37:=Tryz.zeroValue114
 t70:=Tryz.underlying113
 a70:=Tryz.isAgg113
 z70:=Tryz.sizeOf113
 v70:=Tryz.zeroValue113
 t72:=Tryz.underlying116
 a72:=Tryz.isAgg116
 z72:=Tryz.sizeOf116
 v72:=Tryz.zeroValue116
 t127:=Tryz.underlying142
 a127:=Tryz.isAgg142
 z127:=Tryz.sizeOf142
 v127:=Tryz.zeroValue142}
theorem VS:Builder.Extra Tryz.prog NY:={
 sizeBuilder:=by kernel_rfl
 liesBuilder:=by kernel_rfl
 t5:=Tryz.underlying5
 a5:=Tryz.isAgg5
 z5:=Tryz.sizeOf5
 v5:=Tryz.zeroValue5
 infoByte:=by kernel_rfl
 cellsByte:=by kernel_rfl
 sizeByte:=by kernel_rfl
 neB5:=by decide}
open Go.RowKit in
theorem Tryz.Builder_String_any (B b:Nat) (l:List UInt8) (w:World) (h:Lib.IsBuilder 116 5 B b (Lib.byteCells l) w) (hBw:B≤w.heap.size):
 Calls Tryz.prog 80 #[.pointer (some ⟨b,0,none⟩)] w fun e w'=>e= .returned (.string ⟨l.toArray⟩)∧Below B w w':=Any.Builder_String_any V2 VS B b l w h hBw
def V1:Go.Shelf.Ren:=⟨fun|161=>91|231=>121|227=>122|233=>123|235=>124|228=>157|197=>158|151=>159|260=>179|152=>180|137=>19|119=>197|224=>176|225=>175|217=>39|266=>62|n=>n,fun|9=>9|4=>4|3=>3|5=>5|117=>152|116=>151|0=>0|124=>155|105=>180|21=>21|119=>209|46=>157|139=>212|138=>211|n=>n,fun|3=>7|4=>8|n=>n⟩
theorem V0:Go.Proofs.Lays.n161 Tryz.prog V1:={
 mixed:=by kernel_rfl
 f119:=Tryz.func197.trans (congrArg some (by kernel_rfl))
 f137:=Tryz.func19.trans (congrArg some (by kernel_rfl))
 f151:=Tryz.func159.trans (congrArg some (by kernel_rfl))
 f152:=Tryz.func180.trans (congrArg some (by kernel_rfl))
 f161:=Tryz.func91.trans (congrArg some (by kernel_rfl))
 f197:=Tryz.func158.trans (congrArg some (by kernel_rfl))
 f217:=Tryz.func39.trans (congrArg some (by kernel_rfl))
 f224:=Tryz.func176.trans (congrArg some (by kernel_rfl))
 f225:=Tryz.func175.trans (congrArg some (by kernel_rfl))
 f227:=Tryz.func122.trans (congrArg some (by kernel_rfl))
 f228:=Tryz.func157.trans (congrArg some (by kernel_rfl))
 f231:=Tryz.func121.trans (congrArg some (by kernel_rfl))
 f233:=Tryz.func123.trans (congrArg some (by kernel_rfl))
 f235:=Tryz.func124.trans (congrArg some (by kernel_rfl))
 f260:=Tryz.func179.trans (congrArg some (by kernel_rfl))
 f266:=Tryz.func62.trans (congrArg some (by kernel_rfl))
 t0:=Tryz.underlying0
 a0:=Tryz.isAgg0
 z0:=Tryz.sizeOf0
 v0:=Tryz.zeroValue0
 t3:=Tryz.underlying3
 a3:=Tryz.isAgg3
 z3:=Tryz.sizeOf3
 v3:=Tryz.zeroValue3
 t4:=Tryz.underlying4
 a4:=Tryz.isAgg4
 z4:=Tryz.sizeOf4
 v4:=Tryz.zeroValue4
 t5:=Tryz.underlying5
 a5:=Tryz.isAgg5
 z5:=Tryz.sizeOf5
 v5:=Tryz.zeroValue5
 t9:=Tryz.underlying9
 a9:=Tryz.isAgg9
 z9:=Tryz.sizeOf9
 v9:=Tryz.zeroValue9
 t21:=Tryz.underlying21
 a21:=Tryz.isAgg21
 z21:=Tryz.sizeOf21
 v21:=Tryz.zeroValue21
 t46:=Tryz.underlying157
 a46:=Tryz.isAgg157
 z46:=Tryz.sizeOf157
 v46:=Tryz.zeroValue157
 t105:=Tryz.underlying180
 a105:=Tryz.isAgg180
 z105:=Tryz.sizeOf180
 v105:=Tryz.zeroValue180
 t116:=Tryz.underlying151
 a116:=Tryz.isAgg151
 z116:=Tryz.sizeOf151
 t117:=Tryz.underlying152
 a117:=Tryz.isAgg152
 z117:=Tryz.sizeOf152
 v117:=Tryz.zeroValue152
 t119:=Tryz.underlying209
 a119:=Tryz.isAgg209
 z119:=Tryz.sizeOf209
 t124:=Tryz.underlying155
 a124:=Tryz.isAgg155
 z124:=Tryz.sizeOf155
 v124:=Tryz.zeroValue155
 t138:=Tryz.underlying211
 a138:=Tryz.isAgg211
 z138:=Tryz.sizeOf211
 v138:=Tryz.zeroValue211
 t139:=Tryz.underlying212
 a139:=Tryz.isAgg212
 z139:=Tryz.sizeOf212
 v139:=Tryz.zeroValue212
 g3:=by kernel_rfl
 g4:=by kernel_rfl}
def VZ:Go.Shelf.Ren:=⟨fun|137=>19|217=>39|266=>62|n=>n,fun|9=>9|5=>5|3=>3|n=>n,fun|n=>n⟩
theorem VY:Go.Proofs.Lays.n137 Tryz.prog VZ:={
 mixed:=by kernel_rfl
 f137:=Tryz.func19.trans (congrArg some (by kernel_rfl))
 f217:=Tryz.func39.trans (congrArg some (by kernel_rfl))
 f266:=Tryz.func62.trans (congrArg some (by kernel_rfl))
 t3:=Tryz.underlying3
 a3:=Tryz.isAgg3
 z3:=Tryz.sizeOf3
 v3:=Tryz.zeroValue3
 t5:=Tryz.underlying5
 a5:=Tryz.isAgg5
 z5:=Tryz.sizeOf5
 v5:=Tryz.zeroValue5
 t9:=Tryz.underlying9
 a9:=Tryz.isAgg9
 z9:=Tryz.sizeOf9
 v9:=Tryz.zeroValue9}
open Go.RowKit in
theorem Tryz.strings_IndexByte (s:ByteArray) (c:Int) (w:World):
 Calls Tryz.prog 19 #[.string s,.int .u8 c] w fun e w'=>e= .returned (.int .i64 (Lib.indexByte s.data.toList c.toNat.toUInt8))∧w'=w:=Any.strings_IndexByte VY s c w
def VX:Go.Shelf.Ren:=⟨fun|103=>82|210=>107|206=>70|n=>n,fun|9=>9|4=>4|24=>119|3=>3|n=>n,fun|n=>n⟩
theorem VW:Go.Proofs.Lays.n103 Tryz.prog VX:={
 mixed:=by kernel_rfl
 f103:=Tryz.func82.trans (congrArg some (by kernel_rfl))
 f206:=Tryz.func70.trans (congrArg some (by kernel_rfl))
 f210:=Tryz.func107.trans (congrArg some (by kernel_rfl))
 t3:=Tryz.underlying3
 a3:=Tryz.isAgg3
 z3:=Tryz.sizeOf3
 v3:=Tryz.zeroValue3
 t4:=Tryz.underlying4
 a4:=Tryz.isAgg4
 z4:=Tryz.sizeOf4
 v4:=Tryz.zeroValue4
 t9:=Tryz.underlying9
 a9:=Tryz.isAgg9
 z9:=Tryz.sizeOf9
 v9:=Tryz.zeroValue9
 t24:=Tryz.underlying119
 a24:=Tryz.isAgg119
 z24:=Tryz.sizeOf119
 v24:=Tryz.zeroValue119}
open Go.RowKit in
theorem Tryz.strings_CutPrefix (s p:ByteArray) (w:World):
 Calls Tryz.prog 82 #[.string s,.string p] w fun e w'=>e= .returned (.tuple #[.string ⟨(Lib.trimPrefix s.data.toList p.data.toList).toArray⟩,.bool (Lib.hasPrefix s.data.toList p.data.toList)])∧w'=w:=Any.strings_CutPrefix VW s p w
def V8:Go.Shelf.Ren:=⟨fun|283=>129|n=>n,fun|3=>3|9=>9|4=>4|n=>n,fun|n=>n⟩
theorem V7:Go.Proofs.Lays.n283 Tryz.prog V8:={
 mixed:=by kernel_rfl
 f283:=Tryz.func129.trans (congrArg some (by kernel_rfl))
 t3:=Tryz.underlying3
 a3:=Tryz.isAgg3
 z3:=Tryz.sizeOf3
 v3:=Tryz.zeroValue3
 t4:=Tryz.underlying4
 a4:=Tryz.isAgg4
 z4:=Tryz.sizeOf4
 v4:=Tryz.zeroValue4
 t9:=Tryz.underlying9
 a9:=Tryz.isAgg9
 z9:=Tryz.sizeOf9
 v9:=Tryz.zeroValue9}
open Go.Lib in
theorem Tryz.internal_strconv_small (i:Nat) (h:i<100) (w:World):
 Calls Tryz.prog 129 #[.int .i64 i] w fun e w'=>e= .returned (.string ⟨(Lib.decDigits i).toArray⟩)∧w'=w:=Any.internal_strconv_small V7 i h w
def Wt:Go.Shelf.Ren:=⟨fun|284=>130|129=>163|317=>162|318=>164|n=>n,fun|53=>111|3=>3|212=>188|0=>0|4=>4|46=>157|5=>5|9=>9|n=>n,fun|17=>6|n=>n⟩
theorem Wr:Go.Proofs.LaysM.n284 Tryz.prog Wt:={
 mixed:=by kernel_rfl
 f129:=Tryz.func163.trans (congrArg some (by kernel_rfl))
 f284:=Tryz.func130.trans (congrArg some (by kernel_rfl))
 f317:=Tryz.func162.trans (congrArg some (by kernel_rfl))
 f318:=Tryz.func164.trans (congrArg some (by kernel_rfl))
 t0:=Tryz.underlying0
 a0:=Tryz.isAgg0
 z0:=Tryz.sizeOf0
 v0:=Tryz.zeroValue0
 t3:=Tryz.underlying3
 a3:=Tryz.isAgg3
 z3:=Tryz.sizeOf3
 v3:=Tryz.zeroValue3
 t4:=Tryz.underlying4
 a4:=Tryz.isAgg4
 z4:=Tryz.sizeOf4
 v4:=Tryz.zeroValue4
 t5:=Tryz.underlying5
 a5:=Tryz.isAgg5
 z5:=Tryz.sizeOf5
 v5:=Tryz.zeroValue5
 t9:=Tryz.underlying9
 a9:=Tryz.isAgg9
 z9:=Tryz.sizeOf9
 v9:=Tryz.zeroValue9
 t46:=Tryz.underlying157
 a46:=Tryz.isAgg157
 z46:=Tryz.sizeOf157
 v46:=Tryz.zeroValue157
 t53:=Tryz.underlying111
 a53:=Tryz.isAgg111
 z53:=Tryz.sizeOf111
 v53:=Tryz.zeroValue111
 t212:=Tryz.underlying188
 a212:=Tryz.isAgg188
 z212:=Tryz.sizeOf188
 v212:=Tryz.zeroValue188
 g17:=by kernel_rfl
 i0:=by kernel_rfl
 i3:=by kernel_rfl
 i4:=by kernel_rfl
 i5:=by kernel_rfl
 i9:=by kernel_rfl
 i46:=by kernel_rfl
 i53:=by kernel_rfl
 i212:=by kernel_rfl
 m17:=by kernel_rfl}
open Go.Lib in
theorem Tryz.internal_strconv_numDigits (u : Nat) (h1 : 1 ≤ u) (h2 : u < 18446744073709551616) (w : World) (htab : Lib.TabIs Tryz.prog w "internal/strconv.uint64pow10" .u64 Lib.pow10Tab) :
 Calls Tryz.prog 130 #[.int .u64 u] w fun e w'=>e= .returned (.int .i64 (Lib.nDigits u))∧w'=w:=Any.internal_strconv_numDigits Wr u h1 h2 w htab
def Wb:Go.Shelf.Ren:=⟨fun|285=>131|n=>n,fun|37=>114|53=>111|3=>3|4=>4|51=>189|9=>9|5=>5|0=>0|n=>n,fun|n=>n⟩
theorem V9:Go.Proofs.Lays.n285 Tryz.prog Wb:={
 mixed:=by kernel_rfl
 f285:=Tryz.func131.trans (congrArg some (by kernel_rfl))
 t0:=Tryz.underlying0
 a0:=Tryz.isAgg0
 z0:=Tryz.sizeOf0
 v0:=Tryz.zeroValue0
 t3:=Tryz.underlying3
 a3:=Tryz.isAgg3
 z3:=Tryz.sizeOf3
 v3:=Tryz.zeroValue3
 t4:=Tryz.underlying4
 a4:=Tryz.isAgg4
 z4:=Tryz.sizeOf4
 v4:=Tryz.zeroValue4
 t5:=Tryz.underlying5
 a5:=Tryz.isAgg5
 z5:=Tryz.sizeOf5
 v5:=Tryz.zeroValue5
 t9:=Tryz.underlying9
 a9:=Tryz.isAgg9
 z9:=Tryz.sizeOf9
 v9:=Tryz.zeroValue9
 t37:=Tryz.underlying114
 a37:=Tryz.isAgg114
 z37:=Tryz.sizeOf114
 v37:=Tryz.zeroValue114
 t51:=Tryz.underlying189
 a51:=Tryz.isAgg189
 z51:=Tryz.sizeOf189
 v51:=Tryz.zeroValue189
 t53:=Tryz.underlying111
 a53:=Tryz.isAgg111
 z53:=Tryz.sizeOf111
 v53:=Tryz.zeroValue111}
open Go.RowKit Go.Sort Go.Lib in
theorem Tryz.internal_strconv_formatBase10 (blk off cap:Nat) (u:Nat) (d:Array UInt8) (w:World) (hH:Holds (fun (b:UInt8)=>Value.int .u8 (b.toNat:Int)) w blk off d) (hu:u<10 ^ d.size) (hu64:u<18446744073709551616) (hsz:d.size<4611686018427387904):
 Calls Tryz.prog 131 #[.slice (some ⟨blk,off,none⟩) d.size cap,.int .u64 u] w fun e w'=>
  e= .returned (.tuple #[])∧∃(n v':Nat) (dk:Array UInt8),w'=(putRow (fun (b:UInt8)=>Value.int .u8 (b.toNat:Int)) w blk off dk).drewN n∧FmtInv d.size u 0 v' dk:=Any.internal_strconv_formatBase10 V9 blk off cap u d w hH hu hu64 hsz
def Wn:Go.Shelf.Ren:=⟨fun|171=>120|243=>156|246=>95|283=>129|284=>130|285=>131|286=>132|129=>163|317=>162|318=>164|319=>165|320=>166|337=>181|338=>182|n=>n,fun|3=>3|9=>9|2=>2|4=>4|171=>161|0=>0|53=>111|37=>114|5=>5|173=>164|212=>188|51=>189|20=>20|213=>190|46=>157|232=>214|233=>215|n=>n,fun|17=>6|18=>9|19=>10|n=>n⟩
theorem Wm:Go.Proofs.LaysM.n171 Tryz.prog Wn:={
 mixed:=by kernel_rfl
 f129:=Tryz.func163.trans (congrArg some (by kernel_rfl))
 f171:=Tryz.func120.trans (congrArg some (by kernel_rfl))
 f243:=Tryz.func156.trans (congrArg some (by kernel_rfl))
 f246:=Tryz.func95.trans (congrArg some (by kernel_rfl))
 f283:=Tryz.func129.trans (congrArg some (by kernel_rfl))
 f284:=Tryz.func130.trans (congrArg some (by kernel_rfl))
 f285:=Tryz.func131.trans (congrArg some (by kernel_rfl))
 f286:=Tryz.func132.trans (congrArg some (by kernel_rfl))
 f317:=Tryz.func162.trans (congrArg some (by kernel_rfl))
 f318:=Tryz.func164.trans (congrArg some (by kernel_rfl))
 f319:=Tryz.func165.trans (congrArg some (by kernel_rfl))
 f320:=Tryz.func166.trans (congrArg some (by kernel_rfl))
 f337:=Tryz.func181.trans (congrArg some (by kernel_rfl))
 f338:=Tryz.func182.trans (congrArg some (by kernel_rfl))
 t0:=Tryz.underlying0
 a0:=Tryz.isAgg0
 z0:=Tryz.sizeOf0
 v0:=Tryz.zeroValue0
 t2:=Tryz.underlying2
 a2:=Tryz.isAgg2
 z2:=Tryz.sizeOf2
 v2:=Tryz.zeroValue2
 t3:=Tryz.underlying3
 a3:=Tryz.isAgg3
 z3:=Tryz.sizeOf3
 v3:=Tryz.zeroValue3
 t4:=Tryz.underlying4
 a4:=Tryz.isAgg4
 z4:=Tryz.sizeOf4
 v4:=Tryz.zeroValue4
 t5:=Tryz.underlying5
 a5:=Tryz.isAgg5
 z5:=Tryz.sizeOf5
 v5:=Tryz.zeroValue5
 t9:=Tryz.underlying9
 a9:=Tryz.isAgg9
 z9:=Tryz.sizeOf9
 v9:=Tryz.zeroValue9
 t20:=Tryz.underlying20
 a20:=Tryz.isAgg20
 z20:=Tryz.sizeOf20
 v20:=Tryz.zeroValue20
 t37:=Tryz.underlying114
 a37:=Tryz.isAgg114
 z37:=Tryz.sizeOf114
 v37:=Tryz.zeroValue114
 t46:=Tryz.underlying157
 a46:=Tryz.isAgg157
 z46:=Tryz.sizeOf157
 v46:=Tryz.zeroValue157
 t51:=Tryz.underlying189
 a51:=Tryz.isAgg189
 z51:=Tryz.sizeOf189
 v51:=Tryz.zeroValue189
 t53:=Tryz.underlying111
 a53:=Tryz.isAgg111
 z53:=Tryz.sizeOf111
 v53:=Tryz.zeroValue111
 t171:=Tryz.underlying161
 a171:=Tryz.isAgg161
 z171:=Tryz.sizeOf161
 v171:=Tryz.zeroValue161
 t173:=Tryz.underlying164
 a173:=Tryz.isAgg164
 z173:=Tryz.sizeOf164
 v173:=Tryz.zeroValue164
 t212:=Tryz.underlying188
 a212:=Tryz.isAgg188
 z212:=Tryz.sizeOf188
 v212:=Tryz.zeroValue188
 t213:=Tryz.underlying190
 a213:=Tryz.isAgg190
 z213:=Tryz.sizeOf190
 t232:=Tryz.underlying214
 a232:=Tryz.isAgg214
 z232:=Tryz.sizeOf214
 v232:=Tryz.zeroValue214
 t233:=Tryz.underlying215
 a233:=Tryz.isAgg215
 z233:=Tryz.sizeOf215
 v233:=Tryz.zeroValue215
 g17:=by kernel_rfl
 g18:=by kernel_rfl
 g19:=by kernel_rfl
 i0:=by kernel_rfl
 i2:=by kernel_rfl
 i3:=by kernel_rfl
 i4:=by kernel_rfl
 i5:=by kernel_rfl
 i9:=by kernel_rfl
 i20:=by kernel_rfl
 i37:=by kernel_rfl
 i46:=by kernel_rfl
 i51:=by kernel_rfl
 i53:=by kernel_rfl
 i171:=by kernel_rfl
 i173:=by kernel_rfl
 i212:=by kernel_rfl
 i232:=by kernel_rfl
 i233:=by kernel_rfl
 m17:=by kernel_rfl
 m18:=by kernel_rfl
 m19:=by kernel_rfl}
open Go.RowKit Go.Sort Go.Lib in
theorem Tryz.strconv_Itoa (n : Int) (h0 : -9223372036854775808 ≤ n) (h1 : n ≤ 9223372036854775807) (w : World) (htab : Lib.TabIs Tryz.prog w "internal/strconv.uint64pow10" .u64 Lib.pow10Tab) :
 Calls Tryz.prog 120 #[.int .i64 n] w fun e w'=>e= .returned (.string ⟨(Lib.itoa n).toArray⟩)∧∃k os,w'=grow (w.drewN k) os:=Any.strconv_Itoa Wm n h0 h1 w htab
def Wp:Go.Shelf.Ren:=⟨fun|173=>69|246=>95|283=>129|284=>130|285=>131|286=>132|129=>163|317=>162|318=>164|319=>165|320=>166|337=>181|338=>182|n=>n,fun|2=>2|3=>3|9=>9|4=>4|171=>161|0=>0|53=>111|37=>114|5=>5|173=>164|212=>188|51=>189|20=>20|213=>190|46=>157|232=>214|233=>215|n=>n,fun|17=>6|18=>9|19=>10|n=>n⟩
theorem Wo:Go.Proofs.LaysM.n173 Tryz.prog Wp:={
 mixed:=by kernel_rfl
 f129:=Tryz.func163.trans (congrArg some (by kernel_rfl))
 f173:=Tryz.func69.trans (congrArg some (by kernel_rfl))
 f246:=Tryz.func95.trans (congrArg some (by kernel_rfl))
 f283:=Tryz.func129.trans (congrArg some (by kernel_rfl))
 f284:=Tryz.func130.trans (congrArg some (by kernel_rfl))
 f285:=Tryz.func131.trans (congrArg some (by kernel_rfl))
 f286:=Tryz.func132.trans (congrArg some (by kernel_rfl))
 f317:=Tryz.func162.trans (congrArg some (by kernel_rfl))
 f318:=Tryz.func164.trans (congrArg some (by kernel_rfl))
 f319:=Tryz.func165.trans (congrArg some (by kernel_rfl))
 f320:=Tryz.func166.trans (congrArg some (by kernel_rfl))
 f337:=Tryz.func181.trans (congrArg some (by kernel_rfl))
 f338:=Tryz.func182.trans (congrArg some (by kernel_rfl))
 t0:=Tryz.underlying0
 a0:=Tryz.isAgg0
 z0:=Tryz.sizeOf0
 v0:=Tryz.zeroValue0
 t2:=Tryz.underlying2
 a2:=Tryz.isAgg2
 z2:=Tryz.sizeOf2
 v2:=Tryz.zeroValue2
 t3:=Tryz.underlying3
 a3:=Tryz.isAgg3
 z3:=Tryz.sizeOf3
 v3:=Tryz.zeroValue3
 t4:=Tryz.underlying4
 a4:=Tryz.isAgg4
 z4:=Tryz.sizeOf4
 v4:=Tryz.zeroValue4
 t5:=Tryz.underlying5
 a5:=Tryz.isAgg5
 z5:=Tryz.sizeOf5
 v5:=Tryz.zeroValue5
 t9:=Tryz.underlying9
 a9:=Tryz.isAgg9
 z9:=Tryz.sizeOf9
 v9:=Tryz.zeroValue9
 t20:=Tryz.underlying20
 a20:=Tryz.isAgg20
 z20:=Tryz.sizeOf20
 v20:=Tryz.zeroValue20
 t37:=Tryz.underlying114
 a37:=Tryz.isAgg114
 z37:=Tryz.sizeOf114
 v37:=Tryz.zeroValue114
 t46:=Tryz.underlying157
 a46:=Tryz.isAgg157
 z46:=Tryz.sizeOf157
 v46:=Tryz.zeroValue157
 t51:=Tryz.underlying189
 a51:=Tryz.isAgg189
 z51:=Tryz.sizeOf189
 v51:=Tryz.zeroValue189
 t53:=Tryz.underlying111
 a53:=Tryz.isAgg111
 z53:=Tryz.sizeOf111
 v53:=Tryz.zeroValue111
 t171:=Tryz.underlying161
 a171:=Tryz.isAgg161
 z171:=Tryz.sizeOf161
 v171:=Tryz.zeroValue161
 t173:=Tryz.underlying164
 a173:=Tryz.isAgg164
 z173:=Tryz.sizeOf164
 v173:=Tryz.zeroValue164
 t212:=Tryz.underlying188
 a212:=Tryz.isAgg188
 z212:=Tryz.sizeOf188
 v212:=Tryz.zeroValue188
 t213:=Tryz.underlying190
 a213:=Tryz.isAgg190
 z213:=Tryz.sizeOf190
 t232:=Tryz.underlying214
 a232:=Tryz.isAgg214
 z232:=Tryz.sizeOf214
 v232:=Tryz.zeroValue214
 t233:=Tryz.underlying215
 a233:=Tryz.isAgg215
 z233:=Tryz.sizeOf215
 v233:=Tryz.zeroValue215
 g17:=by kernel_rfl
 g18:=by kernel_rfl
 g19:=by kernel_rfl
 i0:=by kernel_rfl
 i2:=by kernel_rfl
 i3:=by kernel_rfl
 i4:=by kernel_rfl
 i5:=by kernel_rfl
 i9:=by kernel_rfl
 i20:=by kernel_rfl
 i37:=by kernel_rfl
 i46:=by kernel_rfl
 i51:=by kernel_rfl
 i53:=by kernel_rfl
 i171:=by kernel_rfl
 i173:=by kernel_rfl
 i212:=by kernel_rfl
 i232:=by kernel_rfl
 i233:=by kernel_rfl
 m17:=by kernel_rfl
 m18:=by kernel_rfl
 m19:=by kernel_rfl}
open Go.RowKit Go.Sort Go.Lib in
theorem Tryz.strconv_FormatInt_10 (n : Int) (h0 : -9223372036854775808 ≤ n) (h1 : n ≤ 9223372036854775807) (w : World) (htab : Lib.TabIs Tryz.prog w "internal/strconv.uint64pow10" .u64 Lib.pow10Tab) :
 Calls Tryz.prog 69 #[.int .i64 n,.int .i64 10] w fun e w'=>e= .returned (.string ⟨(Lib.itoa n).toArray⟩)∧∃k os,w'=grow (w.drewN k) os:=Any.strconv_FormatInt_10 Wo n h0 h1 w htab
def Wj:Go.Shelf.Ren:=⟨fun|245=>94|279=>125|280=>126|281=>127|282=>128|316=>160|171=>120|205=>161|243=>156|246=>95|283=>129|284=>130|285=>131|286=>132|129=>163|317=>162|318=>164|319=>165|320=>166|337=>181|338=>182|n=>n,fun|9=>9|3=>3|75=>102|167=>156|4=>4|168=>158|210=>185|37=>114|0=>0|127=>142|145=>200|143=>198|2=>2|171=>161|53=>111|5=>5|173=>164|212=>188|51=>189|20=>20|213=>190|46=>157|232=>214|233=>215|80=>117|n=>n,fun|15=>4|16=>5|17=>6|18=>9|19=>10|n=>n⟩
theorem N1:Go.Proofs.LaysC.n245 Tryz.prog Wj:={
 mixed:=by kernel_rfl
 f129:=Tryz.func163.trans (congrArg some (by kernel_rfl))
 f171:=Tryz.func120.trans (congrArg some (by kernel_rfl))
 f205:=Tryz.func161.trans (congrArg some (by kernel_rfl))
 f243:=Tryz.func156.trans (congrArg some (by kernel_rfl))
 f245:=Tryz.func94.trans (congrArg some (by kernel_rfl))
 f246:=Tryz.func95.trans (congrArg some (by kernel_rfl))
 f279:=Tryz.func125.trans (congrArg some (by kernel_rfl))
 f280:=Tryz.func126.trans (congrArg some (by kernel_rfl))
 f281:=Tryz.func127.trans (congrArg some (by kernel_rfl))
 f282:=Tryz.func128.trans (congrArg some (by kernel_rfl))
 f283:=Tryz.func129.trans (congrArg some (by kernel_rfl))
 f284:=Tryz.func130.trans (congrArg some (by kernel_rfl))
 f285:=Tryz.func131.trans (congrArg some (by kernel_rfl))
 f286:=Tryz.func132.trans (congrArg some (by kernel_rfl))
 f316:=Tryz.func160.trans (congrArg some (by kernel_rfl))
 f317:=Tryz.func162.trans (congrArg some (by kernel_rfl))
 f318:=Tryz.func164.trans (congrArg some (by kernel_rfl))
 f319:=Tryz.func165.trans (congrArg some (by kernel_rfl))
 f320:=Tryz.func166.trans (congrArg some (by kernel_rfl))
 f337:=Tryz.func181.trans (congrArg some (by kernel_rfl))
 f338:=Tryz.func182.trans (congrArg some (by kernel_rfl))
 t0:=Tryz.underlying0
 a0:=Tryz.isAgg0
 z0:=Tryz.sizeOf0
 v0:=Tryz.zeroValue0
 t2:=Tryz.underlying2
 a2:=Tryz.isAgg2
 z2:=Tryz.sizeOf2
 v2:=Tryz.zeroValue2
 t3:=Tryz.underlying3
 a3:=Tryz.isAgg3
 z3:=Tryz.sizeOf3
 v3:=Tryz.zeroValue3
 t4:=Tryz.underlying4
 a4:=Tryz.isAgg4
 z4:=Tryz.sizeOf4
 v4:=Tryz.zeroValue4
 t5:=Tryz.underlying5
 a5:=Tryz.isAgg5
 z5:=Tryz.sizeOf5
 v5:=Tryz.zeroValue5
 t9:=Tryz.underlying9
 a9:=Tryz.isAgg9
 z9:=Tryz.sizeOf9
 v9:=Tryz.zeroValue9
 t20:=Tryz.underlying20
 a20:=Tryz.isAgg20
 z20:=Tryz.sizeOf20
 v20:=Tryz.zeroValue20
 t37:=Tryz.underlying114
 a37:=Tryz.isAgg114
 z37:=Tryz.sizeOf114
 v37:=Tryz.zeroValue114
 t46:=Tryz.underlying157
 a46:=Tryz.isAgg157
 z46:=Tryz.sizeOf157
 v46:=Tryz.zeroValue157
 t51:=Tryz.underlying189
 a51:=Tryz.isAgg189
 z51:=Tryz.sizeOf189
 v51:=Tryz.zeroValue189
 t53:=Tryz.underlying111
 a53:=Tryz.isAgg111
 z53:=Tryz.sizeOf111
 v53:=Tryz.zeroValue111
 t75:=Tryz.underlying102
 a75:=Tryz.isAgg102
 z75:=Tryz.sizeOf102
 v75:=Tryz.zeroValue102
 t127:=Tryz.underlying142
 a127:=Tryz.isAgg142
 z127:=Tryz.sizeOf142
 v127:=Tryz.zeroValue142
 t143:=Tryz.underlying198
 a143:=Tryz.isAgg198
 z143:=Tryz.sizeOf198
 v143:=Tryz.zeroValue198
 t145:=Tryz.underlying200
 a145:=Tryz.isAgg200
 z145:=Tryz.sizeOf200
 v145:=Tryz.zeroValue200
 t167:=Tryz.underlying156
 a167:=Tryz.isAgg156
 z167:=Tryz.sizeOf156
 v167:=Tryz.zeroValue156
 t168:=Tryz.underlying158
 a168:=Tryz.isAgg158
 z168:=Tryz.sizeOf158
 v168:=Tryz.zeroValue158
 t171:=Tryz.underlying161
 a171:=Tryz.isAgg161
 z171:=Tryz.sizeOf161
 v171:=Tryz.zeroValue161
 t173:=Tryz.underlying164
 a173:=Tryz.isAgg164
 z173:=Tryz.sizeOf164
 v173:=Tryz.zeroValue164
 t210:=Tryz.underlying185
 a210:=Tryz.isAgg185
 z210:=Tryz.sizeOf185
 v210:=Tryz.zeroValue185
 t212:=Tryz.underlying188
 a212:=Tryz.isAgg188
 z212:=Tryz.sizeOf188
 v212:=Tryz.zeroValue188
 t213:=Tryz.underlying190
 a213:=Tryz.isAgg190
 z213:=Tryz.sizeOf190
 t232:=Tryz.underlying214
 a232:=Tryz.isAgg214
 z232:=Tryz.sizeOf214
 v232:=Tryz.zeroValue214
 t233:=Tryz.underlying215
 a233:=Tryz.isAgg215
 z233:=Tryz.sizeOf215
 v233:=Tryz.zeroValue215
 g15:=by kernel_rfl
 g16:=by kernel_rfl
 g17:=by kernel_rfl
 g18:=by kernel_rfl
 g19:=by kernel_rfl
 t80:=Tryz.underlying117
 a80:=Tryz.isAgg117
 z80:=Tryz.sizeOf117
 v80:=Tryz.zeroValue117
 i0:=by kernel_rfl
 i2:=by kernel_rfl
 i3:=by kernel_rfl
 i4:=by kernel_rfl
 i5:=by kernel_rfl
 i9:=by kernel_rfl
 i20:=by kernel_rfl
 i37:=by kernel_rfl
 i46:=by kernel_rfl
 i51:=by kernel_rfl
 i53:=by kernel_rfl
 i75:=by kernel_rfl
 i80:=by kernel_rfl
 i127:=by kernel_rfl
 i143:=by kernel_rfl
 i145:=by kernel_rfl
 i167:=by kernel_rfl
 i168:=by kernel_rfl
 i171:=by kernel_rfl
 i173:=by kernel_rfl
 i210:=by kernel_rfl
 i212:=by kernel_rfl
 i232:=by kernel_rfl
 i233:=by kernel_rfl
 m15:=by kernel_rfl
 m16:=by kernel_rfl
 m17:=by kernel_rfl
 m18:=by kernel_rfl
 m19:=by kernel_rfl
 c0:=by kernel_rfl
 c2:=by kernel_rfl
 c3:=by kernel_rfl
 c4:=by kernel_rfl
 c5:=by kernel_rfl
 c9:=by kernel_rfl
 c20:=by kernel_rfl
 c37:=by kernel_rfl
 c46:=by kernel_rfl
 c51:=by kernel_rfl
 c53:=by kernel_rfl
 c75:=by kernel_rfl
 c80:=by kernel_rfl
 c127:=by kernel_rfl
 c143:=by kernel_rfl
 c145:=by kernel_rfl
 c167:=by kernel_rfl
 c168:=by kernel_rfl
 c171:=by kernel_rfl
 c173:=by kernel_rfl
 c210:=by kernel_rfl
 c212:=by kernel_rfl
 c213:=by kernel_rfl
 c232:=by kernel_rfl
 c233:=by kernel_rfl}
open Go.RowKit in
theorem Tryz.strconv_toError_syntax (fn s:ByteArray) (base bits:Int) (ev:Value) (w:World) (hlim:s.size≤281474976710656) (hv:w.cell? ⟨4,0,none⟩=some ev) (hev:ev= .nilIface∨∃te pe,ev= .iface te pe):
 Calls Tryz.prog 94 #[.string fn,.string s,.int .i64 base,.int .i64 bits,.iface 156 (.int .i64 2)] w fun e w'=>∃N,e= .returned (.iface 158 (.pointer (some ⟨N,0,none⟩)))∧w.heap.size≤N∧w'.heap[N]? =some (.cells #[.string fn,.string s,ev] 185 (0,0))∧Below w.heap.size w w':=Any.strconv_toError_syntax N1 fn s base bits ev w hlim hv hev
def We:Go.Shelf.Ren:=⟨fun|321=>146|n=>n,fun|5=>5|n=>n,fun|n=>n⟩
theorem Wd:Go.Proofs.Lays.n321 Tryz.prog We:={
 mixed:=by kernel_rfl
 f321:=Tryz.func146.trans (congrArg some (by kernel_rfl))
 t5:=Tryz.underlying5
 a5:=Tryz.isAgg5
 z5:=Tryz.sizeOf5
 v5:=Tryz.zeroValue5}
open Go.RowKit in
theorem Tryz.internal_strconv_lower (c:Int) (w:World):
 Calls Tryz.prog 146 #[.int .u8 c] w fun e w'=>e= .returned (.int .u8 (bits .or .u8 c 32))∧w'=w:=Any.internal_strconv_lower Wd c w
open Go.RowKit in
theorem Tryz.strconv_toError_range (fn s:ByteArray) (base bits:Int) (ev:Value) (w:World) (hlim:s.size≤281474976710656) (hv:w.cell? ⟨5,0,none⟩=some ev) (hev:ev= .nilIface∨∃te pe,ev= .iface te pe):
 Calls Tryz.prog 94 #[.string fn,.string s,.int .i64 base,.int .i64 bits,.iface 156 (.int .i64 1)] w fun e w'=>∃N,e= .returned (.iface 158 (.pointer (some ⟨N,0,none⟩)))∧w.heap.size≤N∧w'.heap[N]? =some (.cells #[.string fn,.string s,ev] 185 (0,0))∧Below w.heap.size w w':=Any.strconv_toError_range N1 fn s base bits ev w hlim hv hev
def Wh:Go.Shelf.Ren:=⟨fun|172=>87|244=>111|245=>94|247=>93|279=>125|280=>126|281=>127|282=>128|287=>110|316=>160|171=>120|205=>161|321=>146|322=>147|243=>156|246=>95|283=>129|284=>130|285=>131|286=>132|129=>163|317=>162|318=>164|319=>165|320=>166|337=>181|338=>182|n=>n,fun|9=>9|3=>3|75=>102|76=>127|4=>4|5=>5|167=>156|37=>114|0=>0|85=>103|2=>2|168=>158|53=>111|175=>125|46=>157|210=>185|127=>142|145=>200|143=>198|21=>21|171=>161|173=>164|212=>188|51=>189|20=>20|213=>190|232=>214|233=>215|80=>117|n=>n,fun|15=>4|16=>5|17=>6|18=>9|19=>10|n=>n⟩
theorem Gi:Go.Proofs.LaysC.n172 Tryz.prog Wh:={
 mixed:=by kernel_rfl
 f129:=Tryz.func163.trans (congrArg some (by kernel_rfl))
 f171:=Tryz.func120.trans (congrArg some (by kernel_rfl))
 f172:=Tryz.func87.trans (congrArg some (by kernel_rfl))
 f205:=Tryz.func161.trans (congrArg some (by kernel_rfl))
 f243:=Tryz.func156.trans (congrArg some (by kernel_rfl))
 f244:=Tryz.func111.trans (congrArg some (by kernel_rfl))
 f245:=Tryz.func94.trans (congrArg some (by kernel_rfl))
 f246:=Tryz.func95.trans (congrArg some (by kernel_rfl))
 f247:=Tryz.func93.trans (congrArg some (by kernel_rfl))
 f279:=Tryz.func125.trans (congrArg some (by kernel_rfl))
 f280:=Tryz.func126.trans (congrArg some (by kernel_rfl))
 f281:=Tryz.func127.trans (congrArg some (by kernel_rfl))
 f282:=Tryz.func128.trans (congrArg some (by kernel_rfl))
 f283:=Tryz.func129.trans (congrArg some (by kernel_rfl))
 f284:=Tryz.func130.trans (congrArg some (by kernel_rfl))
 f285:=Tryz.func131.trans (congrArg some (by kernel_rfl))
 f286:=Tryz.func132.trans (congrArg some (by kernel_rfl))
 f287:=Tryz.func110.trans (congrArg some (by kernel_rfl))
 f316:=Tryz.func160.trans (congrArg some (by kernel_rfl))
 f317:=Tryz.func162.trans (congrArg some (by kernel_rfl))
 f318:=Tryz.func164.trans (congrArg some (by kernel_rfl))
 f319:=Tryz.func165.trans (congrArg some (by kernel_rfl))
 f320:=Tryz.func166.trans (congrArg some (by kernel_rfl))
 f321:=Tryz.func146.trans (congrArg some (by kernel_rfl))
 f322:=Tryz.func147.trans (congrArg some (by kernel_rfl))
 f337:=Tryz.func181.trans (congrArg some (by kernel_rfl))
 f338:=Tryz.func182.trans (congrArg some (by kernel_rfl))
 t0:=Tryz.underlying0
 a0:=Tryz.isAgg0
 z0:=Tryz.sizeOf0
 v0:=Tryz.zeroValue0
 t2:=Tryz.underlying2
 a2:=Tryz.isAgg2
 z2:=Tryz.sizeOf2
 v2:=Tryz.zeroValue2
 t3:=Tryz.underlying3
 a3:=Tryz.isAgg3
 z3:=Tryz.sizeOf3
 v3:=Tryz.zeroValue3
 t4:=Tryz.underlying4
 a4:=Tryz.isAgg4
 z4:=Tryz.sizeOf4
 v4:=Tryz.zeroValue4
 t5:=Tryz.underlying5
 a5:=Tryz.isAgg5
 z5:=Tryz.sizeOf5
 v5:=Tryz.zeroValue5
 t9:=Tryz.underlying9
 a9:=Tryz.isAgg9
 z9:=Tryz.sizeOf9
 v9:=Tryz.zeroValue9
 t20:=Tryz.underlying20
 a20:=Tryz.isAgg20
 z20:=Tryz.sizeOf20
 v20:=Tryz.zeroValue20
 t21:=Tryz.underlying21
 a21:=Tryz.isAgg21
 z21:=Tryz.sizeOf21
 v21:=Tryz.zeroValue21
 t37:=Tryz.underlying114
 a37:=Tryz.isAgg114
 z37:=Tryz.sizeOf114
 v37:=Tryz.zeroValue114
 t46:=Tryz.underlying157
 a46:=Tryz.isAgg157
 z46:=Tryz.sizeOf157
 v46:=Tryz.zeroValue157
 t51:=Tryz.underlying189
 a51:=Tryz.isAgg189
 z51:=Tryz.sizeOf189
 v51:=Tryz.zeroValue189
 t53:=Tryz.underlying111
 a53:=Tryz.isAgg111
 z53:=Tryz.sizeOf111
 v53:=Tryz.zeroValue111
 t75:=Tryz.underlying102
 a75:=Tryz.isAgg102
 z75:=Tryz.sizeOf102
 v75:=Tryz.zeroValue102
 t76:=Tryz.underlying127
 a76:=Tryz.isAgg127
 z76:=Tryz.sizeOf127
 v76:=Tryz.zeroValue127
 t85:=Tryz.underlying103
 a85:=Tryz.isAgg103
 z85:=Tryz.sizeOf103
 v85:=Tryz.zeroValue103
 t127:=Tryz.underlying142
 a127:=Tryz.isAgg142
 z127:=Tryz.sizeOf142
 v127:=Tryz.zeroValue142
 t143:=Tryz.underlying198
 a143:=Tryz.isAgg198
 z143:=Tryz.sizeOf198
 v143:=Tryz.zeroValue198
 t145:=Tryz.underlying200
 a145:=Tryz.isAgg200
 z145:=Tryz.sizeOf200
 v145:=Tryz.zeroValue200
 t167:=Tryz.underlying156
 a167:=Tryz.isAgg156
 z167:=Tryz.sizeOf156
 v167:=Tryz.zeroValue156
 t168:=Tryz.underlying158
 a168:=Tryz.isAgg158
 z168:=Tryz.sizeOf158
 v168:=Tryz.zeroValue158
 t171:=Tryz.underlying161
 a171:=Tryz.isAgg161
 z171:=Tryz.sizeOf161
 v171:=Tryz.zeroValue161
 t173:=Tryz.underlying164
 a173:=Tryz.isAgg164
 z173:=Tryz.sizeOf164
 v173:=Tryz.zeroValue164
 t175:=Tryz.underlying125
 a175:=Tryz.isAgg125
 z175:=Tryz.sizeOf125
 v175:=Tryz.zeroValue125
 t210:=Tryz.underlying185
 a210:=Tryz.isAgg185
 z210:=Tryz.sizeOf185
 v210:=Tryz.zeroValue185
 t212:=Tryz.underlying188
 a212:=Tryz.isAgg188
 z212:=Tryz.sizeOf188
 v212:=Tryz.zeroValue188
 t213:=Tryz.underlying190
 a213:=Tryz.isAgg190
 z213:=Tryz.sizeOf190
 t232:=Tryz.underlying214
 a232:=Tryz.isAgg214
 z232:=Tryz.sizeOf214
 v232:=Tryz.zeroValue214
 t233:=Tryz.underlying215
 a233:=Tryz.isAgg215
 z233:=Tryz.sizeOf215
 v233:=Tryz.zeroValue215
 g15:=by kernel_rfl
 g16:=by kernel_rfl
 g17:=by kernel_rfl
 g18:=by kernel_rfl
 g19:=by kernel_rfl
 t80:=Tryz.underlying117
 a80:=Tryz.isAgg117
 z80:=Tryz.sizeOf117
 v80:=Tryz.zeroValue117
 i0:=by kernel_rfl
 i2:=by kernel_rfl
 i3:=by kernel_rfl
 i4:=by kernel_rfl
 i5:=by kernel_rfl
 i9:=by kernel_rfl
 i20:=by kernel_rfl
 i21:=by kernel_rfl
 i37:=by kernel_rfl
 i46:=by kernel_rfl
 i51:=by kernel_rfl
 i53:=by kernel_rfl
 i75:=by kernel_rfl
 i76:=by kernel_rfl
 i80:=by kernel_rfl
 i85:=by kernel_rfl
 i127:=by kernel_rfl
 i143:=by kernel_rfl
 i145:=by kernel_rfl
 i167:=by kernel_rfl
 i168:=by kernel_rfl
 i171:=by kernel_rfl
 i173:=by kernel_rfl
 i175:=by kernel_rfl
 i210:=by kernel_rfl
 i212:=by kernel_rfl
 i232:=by kernel_rfl
 i233:=by kernel_rfl
 m15:=by kernel_rfl
 m16:=by kernel_rfl
 m17:=by kernel_rfl
 m18:=by kernel_rfl
 m19:=by kernel_rfl
 c0:=by kernel_rfl
 c2:=by kernel_rfl
 c3:=by kernel_rfl
 c4:=by kernel_rfl
 c5:=by kernel_rfl
 c9:=by kernel_rfl
 c20:=by kernel_rfl
 c21:=by kernel_rfl
 c37:=by kernel_rfl
 c46:=by kernel_rfl
 c51:=by kernel_rfl
 c53:=by kernel_rfl
 c75:=by kernel_rfl
 c76:=by kernel_rfl
 c80:=by kernel_rfl
 c85:=by kernel_rfl
 c127:=by kernel_rfl
 c143:=by kernel_rfl
 c145:=by kernel_rfl
 c167:=by kernel_rfl
 c168:=by kernel_rfl
 c171:=by kernel_rfl
 c173:=by kernel_rfl
 c175:=by kernel_rfl
 c210:=by kernel_rfl
 c212:=by kernel_rfl
 c213:=by kernel_rfl
 c232:=by kernel_rfl
 c233:=by kernel_rfl}
open Go.RowKit in
theorem Tryz.strconv_Atoi_ok (s:ByteArray) (hmax:s.size≤9223372036854775806) (v:Int) (h:Lib.atoiAll s.data.toList= .ok v) (w:World):
 Calls Tryz.prog 87 #[.string s] w fun e w'=>e= .returned (.tuple #[.int .i64 v,.nilIface])∧(w'=w∨∃t,w'=Lib.bytesWorld w 5 t):=Any.strconv_Atoi_ok Gi s hmax v h w
def Wi:Go.Shelf.Ren:=⟨fun|174=>68|247=>93|245=>94|287=>110|279=>125|280=>126|281=>127|282=>128|321=>146|322=>147|316=>160|171=>120|205=>161|243=>156|246=>95|283=>129|284=>130|285=>131|286=>132|129=>163|317=>162|318=>164|319=>165|320=>166|337=>181|338=>182|n=>n,fun|9=>9|3=>3|2=>2|75=>102|85=>103|4=>4|167=>156|5=>5|53=>111|175=>125|46=>157|168=>158|37=>114|0=>0|210=>185|21=>21|127=>142|145=>200|143=>198|171=>161|173=>164|212=>188|51=>189|20=>20|213=>190|232=>214|233=>215|80=>117|n=>n,fun|15=>4|16=>5|17=>6|18=>9|19=>10|n=>n⟩
theorem Gj:Go.Proofs.LaysC.n174 Tryz.prog Wi:={
 mixed:=by kernel_rfl
 f129:=Tryz.func163.trans (congrArg some (by kernel_rfl))
 f171:=Tryz.func120.trans (congrArg some (by kernel_rfl))
 f174:=Tryz.func68.trans (congrArg some (by kernel_rfl))
 f205:=Tryz.func161.trans (congrArg some (by kernel_rfl))
 f243:=Tryz.func156.trans (congrArg some (by kernel_rfl))
 f245:=Tryz.func94.trans (congrArg some (by kernel_rfl))
 f246:=Tryz.func95.trans (congrArg some (by kernel_rfl))
 f247:=Tryz.func93.trans (congrArg some (by kernel_rfl))
 f279:=Tryz.func125.trans (congrArg some (by kernel_rfl))
 f280:=Tryz.func126.trans (congrArg some (by kernel_rfl))
 f281:=Tryz.func127.trans (congrArg some (by kernel_rfl))
 f282:=Tryz.func128.trans (congrArg some (by kernel_rfl))
 f283:=Tryz.func129.trans (congrArg some (by kernel_rfl))
 f284:=Tryz.func130.trans (congrArg some (by kernel_rfl))
 f285:=Tryz.func131.trans (congrArg some (by kernel_rfl))
 f286:=Tryz.func132.trans (congrArg some (by kernel_rfl))
 f287:=Tryz.func110.trans (congrArg some (by kernel_rfl))
 f316:=Tryz.func160.trans (congrArg some (by kernel_rfl))
 f317:=Tryz.func162.trans (congrArg some (by kernel_rfl))
 f318:=Tryz.func164.trans (congrArg some (by kernel_rfl))
 f319:=Tryz.func165.trans (congrArg some (by kernel_rfl))
 f320:=Tryz.func166.trans (congrArg some (by kernel_rfl))
 f321:=Tryz.func146.trans (congrArg some (by kernel_rfl))
 f322:=Tryz.func147.trans (congrArg some (by kernel_rfl))
 f337:=Tryz.func181.trans (congrArg some (by kernel_rfl))
 f338:=Tryz.func182.trans (congrArg some (by kernel_rfl))
 t0:=Tryz.underlying0
 a0:=Tryz.isAgg0
 z0:=Tryz.sizeOf0
 v0:=Tryz.zeroValue0
 t2:=Tryz.underlying2
 a2:=Tryz.isAgg2
 z2:=Tryz.sizeOf2
 v2:=Tryz.zeroValue2
 t3:=Tryz.underlying3
 a3:=Tryz.isAgg3
 z3:=Tryz.sizeOf3
 v3:=Tryz.zeroValue3
 t4:=Tryz.underlying4
 a4:=Tryz.isAgg4
 z4:=Tryz.sizeOf4
 v4:=Tryz.zeroValue4
 t5:=Tryz.underlying5
 a5:=Tryz.isAgg5
 z5:=Tryz.sizeOf5
 v5:=Tryz.zeroValue5
 t9:=Tryz.underlying9
 a9:=Tryz.isAgg9
 z9:=Tryz.sizeOf9
 v9:=Tryz.zeroValue9
 t20:=Tryz.underlying20
 a20:=Tryz.isAgg20
 z20:=Tryz.sizeOf20
 v20:=Tryz.zeroValue20
 t21:=Tryz.underlying21
 a21:=Tryz.isAgg21
 z21:=Tryz.sizeOf21
 v21:=Tryz.zeroValue21
 t37:=Tryz.underlying114
 a37:=Tryz.isAgg114
 z37:=Tryz.sizeOf114
 v37:=Tryz.zeroValue114
 t46:=Tryz.underlying157
 a46:=Tryz.isAgg157
 z46:=Tryz.sizeOf157
 v46:=Tryz.zeroValue157
 t51:=Tryz.underlying189
 a51:=Tryz.isAgg189
 z51:=Tryz.sizeOf189
 v51:=Tryz.zeroValue189
 t53:=Tryz.underlying111
 a53:=Tryz.isAgg111
 z53:=Tryz.sizeOf111
 v53:=Tryz.zeroValue111
 t75:=Tryz.underlying102
 a75:=Tryz.isAgg102
 z75:=Tryz.sizeOf102
 v75:=Tryz.zeroValue102
 t85:=Tryz.underlying103
 a85:=Tryz.isAgg103
 z85:=Tryz.sizeOf103
 v85:=Tryz.zeroValue103
 t127:=Tryz.underlying142
 a127:=Tryz.isAgg142
 z127:=Tryz.sizeOf142
 v127:=Tryz.zeroValue142
 t143:=Tryz.underlying198
 a143:=Tryz.isAgg198
 z143:=Tryz.sizeOf198
 v143:=Tryz.zeroValue198
 t145:=Tryz.underlying200
 a145:=Tryz.isAgg200
 z145:=Tryz.sizeOf200
 v145:=Tryz.zeroValue200
 t167:=Tryz.underlying156
 a167:=Tryz.isAgg156
 z167:=Tryz.sizeOf156
 v167:=Tryz.zeroValue156
 t168:=Tryz.underlying158
 a168:=Tryz.isAgg158
 z168:=Tryz.sizeOf158
 v168:=Tryz.zeroValue158
 t171:=Tryz.underlying161
 a171:=Tryz.isAgg161
 z171:=Tryz.sizeOf161
 v171:=Tryz.zeroValue161
 t173:=Tryz.underlying164
 a173:=Tryz.isAgg164
 z173:=Tryz.sizeOf164
 v173:=Tryz.zeroValue164
 t175:=Tryz.underlying125
 a175:=Tryz.isAgg125
 z175:=Tryz.sizeOf125
 v175:=Tryz.zeroValue125
 t210:=Tryz.underlying185
 a210:=Tryz.isAgg185
 z210:=Tryz.sizeOf185
 v210:=Tryz.zeroValue185
 t212:=Tryz.underlying188
 a212:=Tryz.isAgg188
 z212:=Tryz.sizeOf188
 v212:=Tryz.zeroValue188
 t213:=Tryz.underlying190
 a213:=Tryz.isAgg190
 z213:=Tryz.sizeOf190
 t232:=Tryz.underlying214
 a232:=Tryz.isAgg214
 z232:=Tryz.sizeOf214
 v232:=Tryz.zeroValue214
 t233:=Tryz.underlying215
 a233:=Tryz.isAgg215
 z233:=Tryz.sizeOf215
 v233:=Tryz.zeroValue215
 g15:=by kernel_rfl
 g16:=by kernel_rfl
 g17:=by kernel_rfl
 g18:=by kernel_rfl
 g19:=by kernel_rfl
 t80:=Tryz.underlying117
 a80:=Tryz.isAgg117
 z80:=Tryz.sizeOf117
 v80:=Tryz.zeroValue117
 i0:=by kernel_rfl
 i2:=by kernel_rfl
 i3:=by kernel_rfl
 i4:=by kernel_rfl
 i5:=by kernel_rfl
 i9:=by kernel_rfl
 i20:=by kernel_rfl
 i21:=by kernel_rfl
 i37:=by kernel_rfl
 i46:=by kernel_rfl
 i51:=by kernel_rfl
 i53:=by kernel_rfl
 i75:=by kernel_rfl
 i80:=by kernel_rfl
 i85:=by kernel_rfl
 i127:=by kernel_rfl
 i143:=by kernel_rfl
 i145:=by kernel_rfl
 i167:=by kernel_rfl
 i168:=by kernel_rfl
 i171:=by kernel_rfl
 i173:=by kernel_rfl
 i175:=by kernel_rfl
 i210:=by kernel_rfl
 i212:=by kernel_rfl
 i232:=by kernel_rfl
 i233:=by kernel_rfl
 m15:=by kernel_rfl
 m16:=by kernel_rfl
 m17:=by kernel_rfl
 m18:=by kernel_rfl
 m19:=by kernel_rfl
 c0:=by kernel_rfl
 c2:=by kernel_rfl
 c3:=by kernel_rfl
 c4:=by kernel_rfl
 c5:=by kernel_rfl
 c9:=by kernel_rfl
 c20:=by kernel_rfl
 c21:=by kernel_rfl
 c37:=by kernel_rfl
 c46:=by kernel_rfl
 c51:=by kernel_rfl
 c53:=by kernel_rfl
 c75:=by kernel_rfl
 c80:=by kernel_rfl
 c85:=by kernel_rfl
 c127:=by kernel_rfl
 c143:=by kernel_rfl
 c145:=by kernel_rfl
 c167:=by kernel_rfl
 c168:=by kernel_rfl
 c171:=by kernel_rfl
 c173:=by kernel_rfl
 c175:=by kernel_rfl
 c210:=by kernel_rfl
 c212:=by kernel_rfl
 c213:=by kernel_rfl
 c232:=by kernel_rfl
 c233:=by kernel_rfl}
open Go.RowKit in
theorem Tryz.strconv_ParseInt_10_at64_ok (s:ByteArray) (hmax:s.size≤9223372036854775806) (v:Int) (h:Lib.parseIntB 64 s.data.toList= .ok v) (w:World):
 Calls Tryz.prog 68 #[.string s,.int .i64 10,.int .i64 64] w fun e w'=>e= .returned (.tuple #[.int .i64 v,.nilIface])∧(w'=w∨∃t,w'=Lib.bytesWorld w 5 t):=Any.strconv_ParseInt_10_at64_ok Gj s hmax v h w
def V4:Go.Shelf.Ren:=⟨fun|219=>145|217=>39|225=>175|224=>176|267=>177|266=>62|314=>195|n=>n,fun|9=>9|3=>3|4=>4|5=>5|46=>157|146=>207|51=>189|n=>n,fun|1=>2|n=>n⟩
theorem V3:Go.Proofs.Lays.n219 Tryz.prog V4:={
 mixed:=by kernel_rfl
 f217:=Tryz.func39.trans (congrArg some (by kernel_rfl))
 f219:=Tryz.func145.trans (congrArg some (by kernel_rfl))
 f224:=Tryz.func176.trans (congrArg some (by kernel_rfl))
 f225:=Tryz.func175.trans (congrArg some (by kernel_rfl))
 f266:=Tryz.func62.trans (congrArg some (by kernel_rfl))
 f267:=Tryz.func177.trans (congrArg some (by kernel_rfl))
 f314:=Tryz.func195.trans (congrArg some (by kernel_rfl))
 t3:=Tryz.underlying3
 a3:=Tryz.isAgg3
 z3:=Tryz.sizeOf3
 v3:=Tryz.zeroValue3
 t4:=Tryz.underlying4
 a4:=Tryz.isAgg4
 z4:=Tryz.sizeOf4
 v4:=Tryz.zeroValue4
 t5:=Tryz.underlying5
 a5:=Tryz.isAgg5
 z5:=Tryz.sizeOf5
 v5:=Tryz.zeroValue5
 t9:=Tryz.underlying9
 a9:=Tryz.isAgg9
 z9:=Tryz.sizeOf9
 v9:=Tryz.zeroValue9
 t46:=Tryz.underlying157
 a46:=Tryz.isAgg157
 z46:=Tryz.sizeOf157
 v46:=Tryz.zeroValue157
 t51:=Tryz.underlying189
 a51:=Tryz.isAgg189
 z51:=Tryz.sizeOf189
 v51:=Tryz.zeroValue189
 t146:=Tryz.underlying207
 a146:=Tryz.isAgg207
 z146:=Tryz.sizeOf207
 v146:=Tryz.zeroValue207
 g1:=by kernel_rfl}
open Go.RowKit Go.Lib in
theorem Tryz.stringslite_Index_one (s:ByteArray) (c:UInt8) (w:World):
 Calls Tryz.prog 145 #[.string s,.string ⟨#[c]⟩] w fun e w'=>e= .returned (.int .i64 (Lib.indexByte s.data.toList c))∧w'=w:=Any.stringslite_Index_one V3 s c w
def Wg:Go.Shelf.Ren:=⟨fun|99=>46|206=>70|n=>n,fun|9=>9|4=>4|3=>3|n=>n,fun|n=>n⟩
theorem Wf:Go.Proofs.Lays.n99 Tryz.prog Wg:={
 mixed:=by kernel_rfl
 f99:=Tryz.func46.trans (congrArg some (by kernel_rfl))
 f206:=Tryz.func70.trans (congrArg some (by kernel_rfl))
 t3:=Tryz.underlying3
 a3:=Tryz.isAgg3
 z3:=Tryz.sizeOf3
 v3:=Tryz.zeroValue3
 t4:=Tryz.underlying4
 a4:=Tryz.isAgg4
 z4:=Tryz.sizeOf4
 v4:=Tryz.zeroValue4
 t9:=Tryz.underlying9
 a9:=Tryz.isAgg9
 z9:=Tryz.sizeOf9
 v9:=Tryz.zeroValue9}
open Go.RowKit Go.Lib in
theorem Tryz.strings_HasPrefix (s p:ByteArray) (w:World):
 Calls Tryz.prog 46 #[.string s,.string p] w fun e w'=>e= .returned (.bool (Lib.hasPrefix s.data.toList p.data.toList))∧w'=w:=Any.strings_HasPrefix Wf s p w
def VV:Go.Shelf.Ren:=⟨fun|101=>67|208=>92|206=>70|n=>n,fun|9=>9|4=>4|3=>3|n=>n,fun|n=>n⟩
theorem VU:Go.Proofs.Lays.n101 Tryz.prog VV:={
 mixed:=by kernel_rfl
 f101:=Tryz.func67.trans (congrArg some (by kernel_rfl))
 f206:=Tryz.func70.trans (congrArg some (by kernel_rfl))
 f208:=Tryz.func92.trans (congrArg some (by kernel_rfl))
 t3:=Tryz.underlying3
 a3:=Tryz.isAgg3
 z3:=Tryz.sizeOf3
 v3:=Tryz.zeroValue3
 t4:=Tryz.underlying4
 a4:=Tryz.isAgg4
 z4:=Tryz.sizeOf4
 v4:=Tryz.zeroValue4
 t9:=Tryz.underlying9
 a9:=Tryz.isAgg9
 z9:=Tryz.sizeOf9
 v9:=Tryz.zeroValue9}
open Go.RowKit Go.Lib in
theorem Tryz.strings_TrimPrefix (s p:ByteArray) (w:World):
 Calls Tryz.prog 67 #[.string s,.string p] w fun e w'=>e= .returned (.string ⟨(Lib.trimPrefix s.data.toList p.data.toList).toArray⟩)∧w'=w:=Any.strings_TrimPrefix VU s p w
end Go.Proofs
