import Derived.Shelf.Strings.Builder1
import Derived.Shelf.Strings.Builder2
import Derived.Shelf.Strings.OnBuilder
import Derived.Shelf.Strings.Trim
import Derived.Shelf.Small.Utf8
import Derived.Shelf.Small.Strs
import Derived.Shelf.Small.Wraps
import Derived.Shelf.Strings.BuilderF
import Derived.Shelf.Strings.BuilderK
import Derived.Shelf.Strconv.Atoi
import Derived.Shelf.Strconv.Itoa0
import Derived.Shelf.Strconv.Itoa1
import Derived.Shelf.LaysM
import Derived.Shelf.Strconv.Itoa2
import Derived.Shelf.Strconv.Itoa3
import Derived.Shelf.Strconv.Itoa4
import Derived.Shelf.Strconv.AtoiErrFast
import Derived.Shelf.Strconv.ParseIntEmpty
import Derived.Shelf.Strconv.AtoiFail
import Derived.Shelf.Strconv.Clone
import Derived.Shelf.Strconv.SyntaxError
import Derived.Shelf.LaysC
import Derived.Shelf.Strconv.ToError
import Derived.Shelf.Strconv.Lower
import Derived.Shelf.Strconv.ParseUint10
import Derived.Shelf.Strconv.ParseUint10Empty
import Derived.Shelf.Strconv.ParseUint10Any
import Derived.Shelf.Strconv.ParseInt10
import Derived.Shelf.Strconv.AtoiLong
import Derived.Shelf.Strconv.AtoiInnerAll
import Derived.Shelf.Strconv.RangeError
import Derived.Shelf.Strconv.ToErrorRange
import Derived.Shelf.Strconv.AtoiAll
import Derived.Shelf.Strconv.ErrVarAll
import Derived.Shelf.Strconv.ParseUintEmpty
import Derived.Shelf.Strconv.ParseUint10b64
import Derived.Shelf.Strconv.ParseUint10b32
import Derived.Shelf.Strconv.ParseUint10b16
import Derived.Shelf.Strconv.ParseUint10b8
import Derived.Shelf.Strconv.ParseUint10At
import Derived.Shelf.Strconv.ParseInt10At64
import Derived.Shelf.Strconv.ParseInt10At32
import Derived.Shelf.Strconv.ParseInt10At16
import Derived.Shelf.Strconv.ParseInt10At8
import Derived.Shelf.Strconv.ParseInt10All
import Derived.Shelf.Strconv.ParseIntPublic10
import Derived.Shelf.Strconv.ErrVarParseInt
import Derived.Ground.MpProg
import Derived.Shelf.Pu.ParseUintPublic10
import Derived.Shelf.Pu.ErrVarParseUint
import Derived.Shelf.Strings.Search1
import Derived.Shelf.Strings.Search2
import Derived.Shelf.Strings.Search3
import Derived.Shelf.Strings.Cut
import Derived.Shelf.Strings.Count
import Derived.Shelf.Strings.Shaped
import Derived.Shelf.Sort.Plain
import Derived.Shelf.Strings.Prefix
import Derived.Shelf.Strings.Split
import Derived.Shelf.Strings.Runes
import Derived.Shelf.Strings.AsciiSet
import Derived.Shelf.Unicode.DecodeSlow
import Derived.Shelf.Slices.In.SortNone
import Derived.Test.YtjmlknjbhbfneaaGreatDoorProg
namespace Go.Proofs
open Go.Shelf
def NS:Go.Shelf.Ren:=⟨fun|169=>28|n=>n,fun|70=>65|9=>9|0=>0|72=>67|37=>22|127=>108|3=>3|5=>5|n=>n,fun|n=>n⟩
theorem Wo:Go.Proofs.Lays.n169 Tryz.prog NS:={
 mixed:=by kernel_rfl
 f169:=Tryz.func28.trans (congrArg some (by kernel_rfl))
 t0:=Tryz.underlying0
 a0:=Tryz.isAgg0
 z0:=Tryz.sizeOf0
 v0:=Tryz.zeroValue0
 t3:=Tryz.underlying3
 a3:=Tryz.isAgg3
 z3:=Tryz.sizeOf3
 v3:=Tryz.zeroValue3
 t9:=Tryz.underlying9
 a9:=Tryz.isAgg9
 z9:=Tryz.sizeOf9
 v9:=Tryz.zeroValue9
 t37:=Tryz.underlying22
 a37:=Tryz.isAgg22
 z37:=Tryz.sizeOf22
 v37:=Tryz.zeroValue22
 t70:=Tryz.underlying65
 a70:=Tryz.isAgg65
 z70:=Tryz.sizeOf65
 v70:=Tryz.zeroValue65
 t72:=Tryz.underlying67
 a72:=Tryz.isAgg67
 z72:=Tryz.sizeOf67
 v72:=Tryz.zeroValue67
 t127:=Tryz.underlying108
 a127:=Tryz.isAgg108
 z127:=Tryz.sizeOf108
 v127:=Tryz.zeroValue108}
theorem VZ:Builder.Extra Tryz.prog NS:={
 sizeBuilder:=by kernel_rfl
 liesBuilder:=by kernel_rfl
 t5:=Tryz.underlying5
 a5:=Tryz.isAgg5
 z5:=Tryz.sizeOf5
 v5:=Tryz.zeroValue5
 infoByte:=by kernel_rfl
 cellsByte:=by kernel_rfl
 sizeByte:=by kernel_rfl
 neB5:=by decide}
open Go.RowKit in
theorem Tryz.Builder_String_any (B b:Nat) (l:List UInt8) (w:World) (h:Lib.IsBuilder 67 5 B b (Lib.byteCells l) w) (hBw:B≤w.heap.size):
 Calls Tryz.prog 28 #[.pointer (some ⟨b,0,none⟩)] w fun e w'=>e= .returned (.string ⟨l.toArray⟩)∧Below B w w':=Any.Builder_String_any Wo VZ B b l w h hBw
def Wj:Go.Shelf.Ren:=⟨fun|161=>40|231=>71|227=>65|233=>72|235=>73|228=>100|197=>104|151=>102|260=>146|152=>145|137=>42|119=>184|224=>148|225=>147|217=>75|266=>107|n=>n,fun|9=>9|4=>4|3=>3|5=>5|117=>122|116=>121|0=>0|124=>125|105=>153|21=>21|119=>222|46=>148|139=>225|138=>224|n=>n,fun|3=>2|4=>3|n=>n⟩
theorem NR:Go.Proofs.Lays.n161 Tryz.prog Wj:={
 mixed:=by kernel_rfl
 f119:=Tryz.func184.trans (congrArg some (by kernel_rfl))
 f137:=Tryz.func42.trans (congrArg some (by kernel_rfl))
 f151:=Tryz.func102.trans (congrArg some (by kernel_rfl))
 f152:=Tryz.func145.trans (congrArg some (by kernel_rfl))
 f161:=Tryz.func40.trans (congrArg some (by kernel_rfl))
 f197:=Tryz.func104.trans (congrArg some (by kernel_rfl))
 f217:=Tryz.func75.trans (congrArg some (by kernel_rfl))
 f224:=Tryz.func148.trans (congrArg some (by kernel_rfl))
 f225:=Tryz.func147.trans (congrArg some (by kernel_rfl))
 f227:=Tryz.func65.trans (congrArg some (by kernel_rfl))
 f228:=Tryz.func100.trans (congrArg some (by kernel_rfl))
 f231:=Tryz.func71.trans (congrArg some (by kernel_rfl))
 f233:=Tryz.func72.trans (congrArg some (by kernel_rfl))
 f235:=Tryz.func73.trans (congrArg some (by kernel_rfl))
 f260:=Tryz.func146.trans (congrArg some (by kernel_rfl))
 f266:=Tryz.func107.trans (congrArg some (by kernel_rfl))
 t0:=Tryz.underlying0
 a0:=Tryz.isAgg0
 z0:=Tryz.sizeOf0
 v0:=Tryz.zeroValue0
 t3:=Tryz.underlying3
 a3:=Tryz.isAgg3
 z3:=Tryz.sizeOf3
 v3:=Tryz.zeroValue3
 t4:=Tryz.underlying4
 a4:=Tryz.isAgg4
 z4:=Tryz.sizeOf4
 v4:=Tryz.zeroValue4
 t5:=Tryz.underlying5
 a5:=Tryz.isAgg5
 z5:=Tryz.sizeOf5
 v5:=Tryz.zeroValue5
 t9:=Tryz.underlying9
 a9:=Tryz.isAgg9
 z9:=Tryz.sizeOf9
 v9:=Tryz.zeroValue9
 t21:=Tryz.underlying21
 a21:=Tryz.isAgg21
 z21:=Tryz.sizeOf21
 v21:=Tryz.zeroValue21
 t46:=Tryz.underlying148
 a46:=Tryz.isAgg148
 z46:=Tryz.sizeOf148
 v46:=Tryz.zeroValue148
 t105:=Tryz.underlying153
 a105:=Tryz.isAgg153
 z105:=Tryz.sizeOf153
 v105:=Tryz.zeroValue153
 t116:=Tryz.underlying121
 a116:=Tryz.isAgg121
 z116:=Tryz.sizeOf121
 t117:=Tryz.underlying122
 a117:=Tryz.isAgg122
 z117:=Tryz.sizeOf122
 v117:=Tryz.zeroValue122
 t119:=Tryz.underlying222
 a119:=Tryz.isAgg222
 z119:=Tryz.sizeOf222
 t124:=Tryz.underlying125
 a124:=Tryz.isAgg125
 z124:=Tryz.sizeOf125
 v124:=Tryz.zeroValue125
 t138:=Tryz.underlying224
 a138:=Tryz.isAgg224
 z138:=Tryz.sizeOf224
 v138:=Tryz.zeroValue224
 t139:=Tryz.underlying225
 a139:=Tryz.isAgg225
 z139:=Tryz.sizeOf225
 v139:=Tryz.zeroValue225
 g3:=by kernel_rfl
 g4:=by kernel_rfl}
def We:Go.Shelf.Ren:=⟨fun|137=>42|217=>75|266=>107|n=>n,fun|9=>9|5=>5|3=>3|n=>n,fun|n=>n⟩
theorem Wd:Go.Proofs.Lays.n137 Tryz.prog We:={
 mixed:=by kernel_rfl
 f137:=Tryz.func42.trans (congrArg some (by kernel_rfl))
 f217:=Tryz.func75.trans (congrArg some (by kernel_rfl))
 f266:=Tryz.func107.trans (congrArg some (by kernel_rfl))
 t3:=Tryz.underlying3
 a3:=Tryz.isAgg3
 z3:=Tryz.sizeOf3
 v3:=Tryz.zeroValue3
 t5:=Tryz.underlying5
 a5:=Tryz.isAgg5
 z5:=Tryz.sizeOf5
 v5:=Tryz.zeroValue5
 t9:=Tryz.underlying9
 a9:=Tryz.isAgg9
 z9:=Tryz.sizeOf9
 v9:=Tryz.zeroValue9}
open Go.RowKit in
theorem Tryz.strings_IndexByte (s:ByteArray) (c:Int) (w:World):
 Calls Tryz.prog 42 #[.string s,.int .u8 c] w fun e w'=>e= .returned (.int .i64 (Lib.indexByte s.data.toList c.toNat.toUInt8))∧w'=w:=Any.strings_IndexByte Wd s c w
def V6:Go.Shelf.Ren:=⟨fun|103=>35|210=>63|206=>74|n=>n,fun|9=>9|4=>4|24=>85|3=>3|n=>n,fun|n=>n⟩
theorem V5:Go.Proofs.Lays.n103 Tryz.prog V6:={
 mixed:=by kernel_rfl
 f103:=Tryz.func35.trans (congrArg some (by kernel_rfl))
 f206:=Tryz.func74.trans (congrArg some (by kernel_rfl))
 f210:=Tryz.func63.trans (congrArg some (by kernel_rfl))
 t3:=Tryz.underlying3
 a3:=Tryz.isAgg3
 z3:=Tryz.sizeOf3
 v3:=Tryz.zeroValue3
 t4:=Tryz.underlying4
 a4:=Tryz.isAgg4
 z4:=Tryz.sizeOf4
 v4:=Tryz.zeroValue4
 t9:=Tryz.underlying9
 a9:=Tryz.isAgg9
 z9:=Tryz.sizeOf9
 v9:=Tryz.zeroValue9
 t24:=Tryz.underlying85
 a24:=Tryz.isAgg85
 z24:=Tryz.sizeOf85
 v24:=Tryz.zeroValue85}
open Go.RowKit in
theorem Tryz.strings_CutPrefix (s p:ByteArray) (w:World):
 Calls Tryz.prog 35 #[.string s,.string p] w fun e w'=>e= .returned (.tuple #[.string ⟨(Lib.trimPrefix s.data.toList p.data.toList).toArray⟩,.bool (Lib.hasPrefix s.data.toList p.data.toList)])∧w'=w:=Any.strings_CutPrefix V5 s p w
def Wb:Go.Shelf.Ren:=⟨fun|121=>85|214=>113|n=>n,fun|4=>4|9=>9|n=>n,fun|n=>n⟩
theorem V9:Go.Proofs.Lays.n121 Tryz.prog Wb:={
 mixed:=by kernel_rfl
 f121:=Tryz.func85.trans (congrArg some (by kernel_rfl))
 f214:=Tryz.func113.trans (congrArg some (by kernel_rfl))
 t4:=Tryz.underlying4
 a4:=Tryz.isAgg4
 z4:=Tryz.sizeOf4
 v4:=Tryz.zeroValue4
 t9:=Tryz.underlying9
 a9:=Tryz.isAgg9
 z9:=Tryz.sizeOf9
 v9:=Tryz.zeroValue9}
open Go.RowKit in
theorem Tryz.strconv_FormatBool (b:Bool) (w:World):
 Calls Tryz.prog 85 #[.bool b] w fun e w'=>e= .returned (.string ⟨(Lib.formatBool b).toArray⟩)∧w'=w:=Any.strconv_FormatBool V9 b w
def Wz:Go.Shelf.Ren:=⟨fun|283=>157|n=>n,fun|3=>3|9=>9|4=>4|n=>n,fun|n=>n⟩
theorem Wx:Go.Proofs.Lays.n283 Tryz.prog Wz:={
 mixed:=by kernel_rfl
 f283:=Tryz.func157.trans (congrArg some (by kernel_rfl))
 t3:=Tryz.underlying3
 a3:=Tryz.isAgg3
 z3:=Tryz.sizeOf3
 v3:=Tryz.zeroValue3
 t4:=Tryz.underlying4
 a4:=Tryz.isAgg4
 z4:=Tryz.sizeOf4
 v4:=Tryz.zeroValue4
 t9:=Tryz.underlying9
 a9:=Tryz.isAgg9
 z9:=Tryz.sizeOf9
 v9:=Tryz.zeroValue9}
open Go.Lib in
theorem Tryz.internal_strconv_small (i:Nat) (h:i<100) (w:World):
 Calls Tryz.prog 157 #[.int .i64 i] w fun e w'=>e= .returned (.string ⟨(Lib.decDigits i).toArray⟩)∧w'=w:=Any.internal_strconv_small Wx i h w
def WO:Go.Shelf.Ren:=⟨fun|284=>158|129=>135|317=>188|318=>189|n=>n,fun|53=>135|3=>3|212=>229|0=>0|4=>4|46=>148|5=>5|9=>9|n=>n,fun|17=>4|n=>n⟩
theorem WN:Go.Proofs.LaysM.n284 Tryz.prog WO:={
 mixed:=by kernel_rfl
 f129:=Tryz.func135.trans (congrArg some (by kernel_rfl))
 f284:=Tryz.func158.trans (congrArg some (by kernel_rfl))
 f317:=Tryz.func188.trans (congrArg some (by kernel_rfl))
 f318:=Tryz.func189.trans (congrArg some (by kernel_rfl))
 t0:=Tryz.underlying0
 a0:=Tryz.isAgg0
 z0:=Tryz.sizeOf0
 v0:=Tryz.zeroValue0
 t3:=Tryz.underlying3
 a3:=Tryz.isAgg3
 z3:=Tryz.sizeOf3
 v3:=Tryz.zeroValue3
 t4:=Tryz.underlying4
 a4:=Tryz.isAgg4
 z4:=Tryz.sizeOf4
 v4:=Tryz.zeroValue4
 t5:=Tryz.underlying5
 a5:=Tryz.isAgg5
 z5:=Tryz.sizeOf5
 v5:=Tryz.zeroValue5
 t9:=Tryz.underlying9
 a9:=Tryz.isAgg9
 z9:=Tryz.sizeOf9
 v9:=Tryz.zeroValue9
 t46:=Tryz.underlying148
 a46:=Tryz.isAgg148
 z46:=Tryz.sizeOf148
 v46:=Tryz.zeroValue148
 t53:=Tryz.underlying135
 a53:=Tryz.isAgg135
 z53:=Tryz.sizeOf135
 v53:=Tryz.zeroValue135
 t212:=Tryz.underlying229
 a212:=Tryz.isAgg229
 z212:=Tryz.sizeOf229
 v212:=Tryz.zeroValue229
 g17:=by kernel_rfl
 i0:=by kernel_rfl
 i3:=by kernel_rfl
 i4:=by kernel_rfl
 i5:=by kernel_rfl
 i9:=by kernel_rfl
 i46:=by kernel_rfl
 i53:=by kernel_rfl
 i212:=by kernel_rfl
 m17:=by kernel_rfl}
open Go.Lib in
theorem Tryz.internal_strconv_numDigits (u : Nat) (h1 : 1 ≤ u) (h2 : u < 18446744073709551616) (w : World) (htab : Lib.TabIs Tryz.prog w "internal/strconv.uint64pow10" .u64 Lib.pow10Tab) :
 Calls Tryz.prog 158 #[.int .u64 u] w fun e w'=>e= .returned (.int .i64 (Lib.nDigits u))∧w'=w:=Any.internal_strconv_numDigits WN u h1 h2 w htab
def WB:Go.Shelf.Ren:=⟨fun|285=>159|n=>n,fun|37=>22|53=>135|3=>3|4=>4|51=>176|9=>9|5=>5|0=>0|n=>n,fun|n=>n⟩
theorem WA:Go.Proofs.Lays.n285 Tryz.prog WB:={
 mixed:=by kernel_rfl
 f285:=Tryz.func159.trans (congrArg some (by kernel_rfl))
 t0:=Tryz.underlying0
 a0:=Tryz.isAgg0
 z0:=Tryz.sizeOf0
 v0:=Tryz.zeroValue0
 t3:=Tryz.underlying3
 a3:=Tryz.isAgg3
 z3:=Tryz.sizeOf3
 v3:=Tryz.zeroValue3
 t4:=Tryz.underlying4
 a4:=Tryz.isAgg4
 z4:=Tryz.sizeOf4
 v4:=Tryz.zeroValue4
 t5:=Tryz.underlying5
 a5:=Tryz.isAgg5
 z5:=Tryz.sizeOf5
 v5:=Tryz.zeroValue5
 t9:=Tryz.underlying9
 a9:=Tryz.isAgg9
 z9:=Tryz.sizeOf9
 v9:=Tryz.zeroValue9
 t37:=Tryz.underlying22
 a37:=Tryz.isAgg22
 z37:=Tryz.sizeOf22
 v37:=Tryz.zeroValue22
 t51:=Tryz.underlying176
 a51:=Tryz.isAgg176
 z51:=Tryz.sizeOf176
 v51:=Tryz.zeroValue176
 t53:=Tryz.underlying135
 a53:=Tryz.isAgg135
 z53:=Tryz.sizeOf135
 v53:=Tryz.zeroValue135}
open Go.RowKit Go.Sort Go.Lib in
theorem Tryz.internal_strconv_formatBase10 (blk off cap:Nat) (u:Nat) (d:Array UInt8) (w:World) (hH:Holds (fun (b:UInt8)=>Value.int .u8 (b.toNat:Int)) w blk off d) (hu:u<10 ^ d.size) (hu64:u<18446744073709551616) (hsz:d.size<4611686018427387904):
 Calls Tryz.prog 159 #[.slice (some ⟨blk,off,none⟩) d.size cap,.int .u64 u] w fun e w'=>
  e= .returned (.tuple #[])∧∃(n v':Nat) (dk:Array UInt8),w'=(putRow (fun (b:UInt8)=>Value.int .u8 (b.toNat:Int)) w blk off dk).drewN n∧FmtInv d.size u 0 v' dk:=Any.internal_strconv_formatBase10 WA blk off cap u d w hH hu hu64 hsz
def WK:Go.Shelf.Ren:=⟨fun|171=>121|243=>166|246=>114|283=>157|284=>158|285=>159|286=>160|129=>135|317=>188|318=>189|319=>190|320=>191|337=>207|338=>208|n=>n,fun|3=>3|9=>9|2=>2|4=>4|171=>188|0=>0|53=>135|37=>22|5=>5|173=>190|212=>229|51=>176|20=>20|213=>230|46=>148|232=>261|233=>262|n=>n,fun|17=>4|18=>7|19=>8|n=>n⟩
theorem WJ:Go.Proofs.LaysM.n171 Tryz.prog WK:={
 mixed:=by kernel_rfl
 f129:=Tryz.func135.trans (congrArg some (by kernel_rfl))
 f171:=Tryz.func121.trans (congrArg some (by kernel_rfl))
 f243:=Tryz.func166.trans (congrArg some (by kernel_rfl))
 f246:=Tryz.func114.trans (congrArg some (by kernel_rfl))
 f283:=Tryz.func157.trans (congrArg some (by kernel_rfl))
 f284:=Tryz.func158.trans (congrArg some (by kernel_rfl))
 f285:=Tryz.func159.trans (congrArg some (by kernel_rfl))
 f286:=Tryz.func160.trans (congrArg some (by kernel_rfl))
 f317:=Tryz.func188.trans (congrArg some (by kernel_rfl))
 f318:=Tryz.func189.trans (congrArg some (by kernel_rfl))
 f319:=Tryz.func190.trans (congrArg some (by kernel_rfl))
 f320:=Tryz.func191.trans (congrArg some (by kernel_rfl))
 f337:=Tryz.func207.trans (congrArg some (by kernel_rfl))
 f338:=Tryz.func208.trans (congrArg some (by kernel_rfl))
 t0:=Tryz.underlying0
 a0:=Tryz.isAgg0
 z0:=Tryz.sizeOf0
 v0:=Tryz.zeroValue0
 t2:=Tryz.underlying2
 a2:=Tryz.isAgg2
 z2:=Tryz.sizeOf2
 v2:=Tryz.zeroValue2
 t3:=Tryz.underlying3
 a3:=Tryz.isAgg3
 z3:=Tryz.sizeOf3
 v3:=Tryz.zeroValue3
 t4:=Tryz.underlying4
 a4:=Tryz.isAgg4
 z4:=Tryz.sizeOf4
 v4:=Tryz.zeroValue4
 t5:=Tryz.underlying5
 a5:=Tryz.isAgg5
 z5:=Tryz.sizeOf5
 v5:=Tryz.zeroValue5
 t9:=Tryz.underlying9
 a9:=Tryz.isAgg9
 z9:=Tryz.sizeOf9
 v9:=Tryz.zeroValue9
 t20:=Tryz.underlying20
 a20:=Tryz.isAgg20
 z20:=Tryz.sizeOf20
 v20:=Tryz.zeroValue20
 t37:=Tryz.underlying22
 a37:=Tryz.isAgg22
 z37:=Tryz.sizeOf22
 v37:=Tryz.zeroValue22
 t46:=Tryz.underlying148
 a46:=Tryz.isAgg148
 z46:=Tryz.sizeOf148
 v46:=Tryz.zeroValue148
 t51:=Tryz.underlying176
 a51:=Tryz.isAgg176
 z51:=Tryz.sizeOf176
 v51:=Tryz.zeroValue176
 t53:=Tryz.underlying135
 a53:=Tryz.isAgg135
 z53:=Tryz.sizeOf135
 v53:=Tryz.zeroValue135
 t171:=Tryz.underlying188
 a171:=Tryz.isAgg188
 z171:=Tryz.sizeOf188
 v171:=Tryz.zeroValue188
 t173:=Tryz.underlying190
 a173:=Tryz.isAgg190
 z173:=Tryz.sizeOf190
 v173:=Tryz.zeroValue190
 t212:=Tryz.underlying229
 a212:=Tryz.isAgg229
 z212:=Tryz.sizeOf229
 v212:=Tryz.zeroValue229
 t213:=Tryz.underlying230
 a213:=Tryz.isAgg230
 z213:=Tryz.sizeOf230
 t232:=Tryz.underlying261
 a232:=Tryz.isAgg261
 z232:=Tryz.sizeOf261
 v232:=Tryz.zeroValue261
 t233:=Tryz.underlying262
 a233:=Tryz.isAgg262
 z233:=Tryz.sizeOf262
 v233:=Tryz.zeroValue262
 g17:=by kernel_rfl
 g18:=by kernel_rfl
 g19:=by kernel_rfl
 i0:=by kernel_rfl
 i2:=by kernel_rfl
 i3:=by kernel_rfl
 i4:=by kernel_rfl
 i5:=by kernel_rfl
 i9:=by kernel_rfl
 i20:=by kernel_rfl
 i37:=by kernel_rfl
 i46:=by kernel_rfl
 i51:=by kernel_rfl
 i53:=by kernel_rfl
 i171:=by kernel_rfl
 i173:=by kernel_rfl
 i212:=by kernel_rfl
 i232:=by kernel_rfl
 i233:=by kernel_rfl
 m17:=by kernel_rfl
 m18:=by kernel_rfl
 m19:=by kernel_rfl}
open Go.RowKit Go.Sort Go.Lib in
theorem Tryz.strconv_Itoa (n : Int) (h0 : -9223372036854775808 ≤ n) (h1 : n ≤ 9223372036854775807) (w : World) (htab : Lib.TabIs Tryz.prog w "internal/strconv.uint64pow10" .u64 Lib.pow10Tab) :
 Calls Tryz.prog 121 #[.int .i64 n] w fun e w'=>e= .returned (.string ⟨(Lib.itoa n).toArray⟩)∧∃k os,w'=grow (w.drewN k) os:=Any.strconv_Itoa WJ n h0 h1 w htab
def WM:Go.Shelf.Ren:=⟨fun|173=>86|246=>114|283=>157|284=>158|285=>159|286=>160|129=>135|317=>188|318=>189|319=>190|320=>191|337=>207|338=>208|n=>n,fun|2=>2|3=>3|9=>9|4=>4|171=>188|0=>0|53=>135|37=>22|5=>5|173=>190|212=>229|51=>176|20=>20|213=>230|46=>148|232=>261|233=>262|n=>n,fun|17=>4|18=>7|19=>8|n=>n⟩
theorem WL:Go.Proofs.LaysM.n173 Tryz.prog WM:={
 mixed:=by kernel_rfl
 f129:=Tryz.func135.trans (congrArg some (by kernel_rfl))
 f173:=Tryz.func86.trans (congrArg some (by kernel_rfl))
 f246:=Tryz.func114.trans (congrArg some (by kernel_rfl))
 f283:=Tryz.func157.trans (congrArg some (by kernel_rfl))
 f284:=Tryz.func158.trans (congrArg some (by kernel_rfl))
 f285:=Tryz.func159.trans (congrArg some (by kernel_rfl))
 f286:=Tryz.func160.trans (congrArg some (by kernel_rfl))
 f317:=Tryz.func188.trans (congrArg some (by kernel_rfl))
 f318:=Tryz.func189.trans (congrArg some (by kernel_rfl))
 f319:=Tryz.func190.trans (congrArg some (by kernel_rfl))
 f320:=Tryz.func191.trans (congrArg some (by kernel_rfl))
 f337:=Tryz.func207.trans (congrArg some (by kernel_rfl))
 f338:=Tryz.func208.trans (congrArg some (by kernel_rfl))
 t0:=Tryz.underlying0
 a0:=Tryz.isAgg0
 z0:=Tryz.sizeOf0
 v0:=Tryz.zeroValue0
 t2:=Tryz.underlying2
 a2:=Tryz.isAgg2
 z2:=Tryz.sizeOf2
 v2:=Tryz.zeroValue2
 t3:=Tryz.underlying3
 a3:=Tryz.isAgg3
 z3:=Tryz.sizeOf3
 v3:=Tryz.zeroValue3
 t4:=Tryz.underlying4
 a4:=Tryz.isAgg4
 z4:=Tryz.sizeOf4
 v4:=Tryz.zeroValue4
 t5:=Tryz.underlying5
 a5:=Tryz.isAgg5
 z5:=Tryz.sizeOf5
 v5:=Tryz.zeroValue5
 t9:=Tryz.underlying9
 a9:=Tryz.isAgg9
 z9:=Tryz.sizeOf9
 v9:=Tryz.zeroValue9
 t20:=Tryz.underlying20
 a20:=Tryz.isAgg20
 z20:=Tryz.sizeOf20
 v20:=Tryz.zeroValue20
 t37:=Tryz.underlying22
 a37:=Tryz.isAgg22
 z37:=Tryz.sizeOf22
 v37:=Tryz.zeroValue22
 t46:=Tryz.underlying148
 a46:=Tryz.isAgg148
 z46:=Tryz.sizeOf148
 v46:=Tryz.zeroValue148
 t51:=Tryz.underlying176
 a51:=Tryz.isAgg176
 z51:=Tryz.sizeOf176
 v51:=Tryz.zeroValue176
 t53:=Tryz.underlying135
 a53:=Tryz.isAgg135
 z53:=Tryz.sizeOf135
 v53:=Tryz.zeroValue135
 t171:=Tryz.underlying188
 a171:=Tryz.isAgg188
 z171:=Tryz.sizeOf188
 v171:=Tryz.zeroValue188
 t173:=Tryz.underlying190
 a173:=Tryz.isAgg190
 z173:=Tryz.sizeOf190
 v173:=Tryz.zeroValue190
 t212:=Tryz.underlying229
 a212:=Tryz.isAgg229
 z212:=Tryz.sizeOf229
 v212:=Tryz.zeroValue229
 t213:=Tryz.underlying230
 a213:=Tryz.isAgg230
 z213:=Tryz.sizeOf230
 t232:=Tryz.underlying261
 a232:=Tryz.isAgg261
 z232:=Tryz.sizeOf261
 v232:=Tryz.zeroValue261
 t233:=Tryz.underlying262
 a233:=Tryz.isAgg262
 z233:=Tryz.sizeOf262
 v233:=Tryz.zeroValue262
 g17:=by kernel_rfl
 g18:=by kernel_rfl
 g19:=by kernel_rfl
 i0:=by kernel_rfl
 i2:=by kernel_rfl
 i3:=by kernel_rfl
 i4:=by kernel_rfl
 i5:=by kernel_rfl
 i9:=by kernel_rfl
 i20:=by kernel_rfl
 i37:=by kernel_rfl
 i46:=by kernel_rfl
 i51:=by kernel_rfl
 i53:=by kernel_rfl
 i171:=by kernel_rfl
 i173:=by kernel_rfl
 i212:=by kernel_rfl
 i232:=by kernel_rfl
 i233:=by kernel_rfl
 m17:=by kernel_rfl
 m18:=by kernel_rfl
 m19:=by kernel_rfl}
open Go.RowKit Go.Sort Go.Lib in
theorem Tryz.strconv_FormatInt_10 (n : Int) (h0 : -9223372036854775808 ≤ n) (h1 : n ≤ 9223372036854775807) (w : World) (htab : Lib.TabIs Tryz.prog w "internal/strconv.uint64pow10" .u64 Lib.pow10Tab) :
 Calls Tryz.prog 86 #[.int .i64 n,.int .i64 10] w fun e w'=>e= .returned (.string ⟨(Lib.itoa n).toArray⟩)∧∃k os,w'=grow (w.drewN k) os:=Any.strconv_FormatInt_10 WL n h0 h1 w htab
def WI:Go.Shelf.Ren:=⟨fun|245=>182|279=>203|280=>204|281=>205|282=>206|316=>219|171=>121|205=>220|243=>166|246=>114|283=>157|284=>158|285=>159|286=>160|129=>135|317=>188|318=>189|319=>190|320=>191|337=>207|338=>208|n=>n,fun|9=>9|3=>3|75=>69|167=>238|4=>4|168=>239|210=>259|37=>22|0=>0|127=>108|145=>279|143=>277|2=>2|171=>188|53=>135|5=>5|173=>190|212=>229|51=>176|20=>20|213=>230|46=>148|232=>261|233=>262|80=>58|n=>n,fun|15=>5|16=>6|17=>4|18=>7|19=>8|n=>n⟩
theorem NV:Go.Proofs.LaysC.n245 Tryz.prog WI:={
 mixed:=by kernel_rfl
 f129:=Tryz.func135.trans (congrArg some (by kernel_rfl))
 f171:=Tryz.func121.trans (congrArg some (by kernel_rfl))
 f205:=Tryz.func220.trans (congrArg some (by kernel_rfl))
 f243:=Tryz.func166.trans (congrArg some (by kernel_rfl))
 f245:=Tryz.func182.trans (congrArg some (by kernel_rfl))
 f246:=Tryz.func114.trans (congrArg some (by kernel_rfl))
 f279:=Tryz.func203.trans (congrArg some (by kernel_rfl))
 f280:=Tryz.func204.trans (congrArg some (by kernel_rfl))
 f281:=Tryz.func205.trans (congrArg some (by kernel_rfl))
 f282:=Tryz.func206.trans (congrArg some (by kernel_rfl))
 f283:=Tryz.func157.trans (congrArg some (by kernel_rfl))
 f284:=Tryz.func158.trans (congrArg some (by kernel_rfl))
 f285:=Tryz.func159.trans (congrArg some (by kernel_rfl))
 f286:=Tryz.func160.trans (congrArg some (by kernel_rfl))
 f316:=Tryz.func219.trans (congrArg some (by kernel_rfl))
 f317:=Tryz.func188.trans (congrArg some (by kernel_rfl))
 f318:=Tryz.func189.trans (congrArg some (by kernel_rfl))
 f319:=Tryz.func190.trans (congrArg some (by kernel_rfl))
 f320:=Tryz.func191.trans (congrArg some (by kernel_rfl))
 f337:=Tryz.func207.trans (congrArg some (by kernel_rfl))
 f338:=Tryz.func208.trans (congrArg some (by kernel_rfl))
 t0:=Tryz.underlying0
 a0:=Tryz.isAgg0
 z0:=Tryz.sizeOf0
 v0:=Tryz.zeroValue0
 t2:=Tryz.underlying2
 a2:=Tryz.isAgg2
 z2:=Tryz.sizeOf2
 v2:=Tryz.zeroValue2
 t3:=Tryz.underlying3
 a3:=Tryz.isAgg3
 z3:=Tryz.sizeOf3
 v3:=Tryz.zeroValue3
 t4:=Tryz.underlying4
 a4:=Tryz.isAgg4
 z4:=Tryz.sizeOf4
 v4:=Tryz.zeroValue4
 t5:=Tryz.underlying5
 a5:=Tryz.isAgg5
 z5:=Tryz.sizeOf5
 v5:=Tryz.zeroValue5
 t9:=Tryz.underlying9
 a9:=Tryz.isAgg9
 z9:=Tryz.sizeOf9
 v9:=Tryz.zeroValue9
 t20:=Tryz.underlying20
 a20:=Tryz.isAgg20
 z20:=Tryz.sizeOf20
 v20:=Tryz.zeroValue20
 t37:=Tryz.underlying22
 a37:=Tryz.isAgg22
 z37:=Tryz.sizeOf22
 v37:=Tryz.zeroValue22
 t46:=Tryz.underlying148
 a46:=Tryz.isAgg148
 z46:=Tryz.sizeOf148
 v46:=Tryz.zeroValue148
 t51:=Tryz.underlying176
 a51:=Tryz.isAgg176
 z51:=Tryz.sizeOf176
 v51:=Tryz.zeroValue176
 t53:=Tryz.underlying135
 a53:=Tryz.isAgg135
 z53:=Tryz.sizeOf135
 v53:=Tryz.zeroValue135
 t75:=Tryz.underlying69
 a75:=Tryz.isAgg69
 z75:=Tryz.sizeOf69
 v75:=Tryz.zeroValue69
 t127:=Tryz.underlying108
 a127:=Tryz.isAgg108
 z127:=Tryz.sizeOf108
 v127:=Tryz.zeroValue108
 t143:=Tryz.underlying277
 a143:=Tryz.isAgg277
 z143:=Tryz.sizeOf277
 v143:=Tryz.zeroValue277
 t145:=Tryz.underlying279
 a145:=Tryz.isAgg279
 z145:=Tryz.sizeOf279
 v145:=Tryz.zeroValue279
 t167:=Tryz.underlying238
 a167:=Tryz.isAgg238
 z167:=Tryz.sizeOf238
 v167:=Tryz.zeroValue238
 t168:=Tryz.underlying239
 a168:=Tryz.isAgg239
 z168:=Tryz.sizeOf239
 v168:=Tryz.zeroValue239
 t171:=Tryz.underlying188
 a171:=Tryz.isAgg188
 z171:=Tryz.sizeOf188
 v171:=Tryz.zeroValue188
 t173:=Tryz.underlying190
 a173:=Tryz.isAgg190
 z173:=Tryz.sizeOf190
 v173:=Tryz.zeroValue190
 t210:=Tryz.underlying259
 a210:=Tryz.isAgg259
 z210:=Tryz.sizeOf259
 v210:=Tryz.zeroValue259
 t212:=Tryz.underlying229
 a212:=Tryz.isAgg229
 z212:=Tryz.sizeOf229
 v212:=Tryz.zeroValue229
 t213:=Tryz.underlying230
 a213:=Tryz.isAgg230
 z213:=Tryz.sizeOf230
 t232:=Tryz.underlying261
 a232:=Tryz.isAgg261
 z232:=Tryz.sizeOf261
 v232:=Tryz.zeroValue261
 t233:=Tryz.underlying262
 a233:=Tryz.isAgg262
 z233:=Tryz.sizeOf262
 v233:=Tryz.zeroValue262
 g15:=by kernel_rfl
 g16:=by kernel_rfl
 g17:=by kernel_rfl
 g18:=by kernel_rfl
 g19:=by kernel_rfl
 t80:=Tryz.underlying58
 a80:=Tryz.isAgg58
 z80:=Tryz.sizeOf58
 v80:=Tryz.zeroValue58
 i0:=by kernel_rfl
 i2:=by kernel_rfl
 i3:=by kernel_rfl
 i4:=by kernel_rfl
 i5:=by kernel_rfl
 i9:=by kernel_rfl
 i20:=by kernel_rfl
 i37:=by kernel_rfl
 i46:=by kernel_rfl
 i51:=by kernel_rfl
 i53:=by kernel_rfl
 i75:=by kernel_rfl
 i80:=by kernel_rfl
 i127:=by kernel_rfl
 i143:=by kernel_rfl
 i145:=by kernel_rfl
 i167:=by kernel_rfl
 i168:=by kernel_rfl
 i171:=by kernel_rfl
 i173:=by kernel_rfl
 i210:=by kernel_rfl
 i212:=by kernel_rfl
 i232:=by kernel_rfl
 i233:=by kernel_rfl
 m15:=by kernel_rfl
 m16:=by kernel_rfl
 m17:=by kernel_rfl
 m18:=by kernel_rfl
 m19:=by kernel_rfl
 c0:=by kernel_rfl
 c2:=by kernel_rfl
 c3:=by kernel_rfl
 c4:=by kernel_rfl
 c5:=by kernel_rfl
 c9:=by kernel_rfl
 c20:=by kernel_rfl
 c37:=by kernel_rfl
 c46:=by kernel_rfl
 c51:=by kernel_rfl
 c53:=by kernel_rfl
 c75:=by kernel_rfl
 c80:=by kernel_rfl
 c127:=by kernel_rfl
 c143:=by kernel_rfl
 c145:=by kernel_rfl
 c167:=by kernel_rfl
 c168:=by kernel_rfl
 c171:=by kernel_rfl
 c173:=by kernel_rfl
 c210:=by kernel_rfl
 c212:=by kernel_rfl
 c213:=by kernel_rfl
 c232:=by kernel_rfl
 c233:=by kernel_rfl}
open Go.RowKit in
theorem Tryz.strconv_toError_syntax (fn s:ByteArray) (base bits:Int) (ev:Value) (w:World) (hlim:s.size≤281474976710656) (hv:w.cell? ⟨5,0,none⟩=some ev) (hev:ev= .nilIface∨∃te pe,ev= .iface te pe):
 Calls Tryz.prog 182 #[.string fn,.string s,.int .i64 base,.int .i64 bits,.iface 238 (.int .i64 2)] w fun e w'=>∃N,e= .returned (.iface 239 (.pointer (some ⟨N,0,none⟩)))∧w.heap.size≤N∧w'.heap[N]? =some (.cells #[.string fn,.string s,ev] 259 (0,0))∧Below w.heap.size w w':=Any.strconv_toError_syntax NV fn s base bits ev w hlim hv hev
def WD:Go.Shelf.Ren:=⟨fun|321=>217|n=>n,fun|5=>5|n=>n,fun|n=>n⟩
theorem WC:Go.Proofs.Lays.n321 Tryz.prog WD:={
 mixed:=by kernel_rfl
 f321:=Tryz.func217.trans (congrArg some (by kernel_rfl))
 t5:=Tryz.underlying5
 a5:=Tryz.isAgg5
 z5:=Tryz.sizeOf5
 v5:=Tryz.zeroValue5}
open Go.RowKit in
theorem Tryz.internal_strconv_lower (c:Int) (w:World):
 Calls Tryz.prog 217 #[.int .u8 c] w fun e w'=>e= .returned (.int .u8 (bits .or .u8 c 32))∧w'=w:=Any.internal_strconv_lower WC c w
open Go.RowKit in
theorem Tryz.strconv_toError_range (fn s:ByteArray) (base bits:Int) (ev:Value) (w:World) (hlim:s.size≤281474976710656) (hv:w.cell? ⟨6,0,none⟩=some ev) (hev:ev= .nilIface∨∃te pe,ev= .iface te pe):
 Calls Tryz.prog 182 #[.string fn,.string s,.int .i64 base,.int .i64 bits,.iface 238 (.int .i64 1)] w fun e w'=>∃N,e= .returned (.iface 239 (.pointer (some ⟨N,0,none⟩)))∧w.heap.size≤N∧w'.heap[N]? =some (.cells #[.string fn,.string s,ev] 259 (0,0))∧Below w.heap.size w w':=Any.strconv_toError_range NV fn s base bits ev w hlim hv hev
def WG:Go.Shelf.Ren:=⟨fun|172=>178|244=>200|245=>182|247=>181|279=>203|280=>204|281=>205|282=>206|287=>199|316=>219|171=>121|205=>220|321=>217|322=>218|243=>166|246=>114|283=>157|284=>158|285=>159|286=>160|129=>135|317=>188|318=>189|319=>190|320=>191|337=>207|338=>208|n=>n,fun|9=>9|3=>3|75=>69|76=>70|4=>4|5=>5|167=>238|37=>22|0=>0|85=>179|2=>2|168=>239|53=>135|175=>216|46=>148|210=>259|127=>108|145=>279|143=>277|21=>21|171=>188|173=>190|212=>229|51=>176|20=>20|213=>230|232=>261|233=>262|80=>58|n=>n,fun|15=>5|16=>6|17=>4|18=>7|19=>8|n=>n⟩
theorem GU:Go.Proofs.LaysC.n172 Tryz.prog WG:={
 mixed:=by kernel_rfl
 f129:=Tryz.func135.trans (congrArg some (by kernel_rfl))
 f171:=Tryz.func121.trans (congrArg some (by kernel_rfl))
 f172:=Tryz.func178.trans (congrArg some (by kernel_rfl))
 f205:=Tryz.func220.trans (congrArg some (by kernel_rfl))
 f243:=Tryz.func166.trans (congrArg some (by kernel_rfl))
 f244:=Tryz.func200.trans (congrArg some (by kernel_rfl))
 f245:=Tryz.func182.trans (congrArg some (by kernel_rfl))
 f246:=Tryz.func114.trans (congrArg some (by kernel_rfl))
 f247:=Tryz.func181.trans (congrArg some (by kernel_rfl))
 f279:=Tryz.func203.trans (congrArg some (by kernel_rfl))
 f280:=Tryz.func204.trans (congrArg some (by kernel_rfl))
 f281:=Tryz.func205.trans (congrArg some (by kernel_rfl))
 f282:=Tryz.func206.trans (congrArg some (by kernel_rfl))
 f283:=Tryz.func157.trans (congrArg some (by kernel_rfl))
 f284:=Tryz.func158.trans (congrArg some (by kernel_rfl))
 f285:=Tryz.func159.trans (congrArg some (by kernel_rfl))
 f286:=Tryz.func160.trans (congrArg some (by kernel_rfl))
 f287:=Tryz.func199.trans (congrArg some (by kernel_rfl))
 f316:=Tryz.func219.trans (congrArg some (by kernel_rfl))
 f317:=Tryz.func188.trans (congrArg some (by kernel_rfl))
 f318:=Tryz.func189.trans (congrArg some (by kernel_rfl))
 f319:=Tryz.func190.trans (congrArg some (by kernel_rfl))
 f320:=Tryz.func191.trans (congrArg some (by kernel_rfl))
 f321:=Tryz.func217.trans (congrArg some (by kernel_rfl))
 f322:=Tryz.func218.trans (congrArg some (by kernel_rfl))
 f337:=Tryz.func207.trans (congrArg some (by kernel_rfl))
 f338:=Tryz.func208.trans (congrArg some (by kernel_rfl))
 t0:=Tryz.underlying0
 a0:=Tryz.isAgg0
 z0:=Tryz.sizeOf0
 v0:=Tryz.zeroValue0
 t2:=Tryz.underlying2
 a2:=Tryz.isAgg2
 z2:=Tryz.sizeOf2
 v2:=Tryz.zeroValue2
 t3:=Tryz.underlying3
 a3:=Tryz.isAgg3
 z3:=Tryz.sizeOf3
 v3:=Tryz.zeroValue3
 t4:=Tryz.underlying4
 a4:=Tryz.isAgg4
 z4:=Tryz.sizeOf4
 v4:=Tryz.zeroValue4
 t5:=Tryz.underlying5
 a5:=Tryz.isAgg5
 z5:=Tryz.sizeOf5
 v5:=Tryz.zeroValue5
 t9:=Tryz.underlying9
 a9:=Tryz.isAgg9
 z9:=Tryz.sizeOf9
 v9:=Tryz.zeroValue9
 t20:=Tryz.underlying20
 a20:=Tryz.isAgg20
 z20:=Tryz.sizeOf20
 v20:=Tryz.zeroValue20
 t21:=Tryz.underlying21
 a21:=Tryz.isAgg21
 z21:=Tryz.sizeOf21
 v21:=Tryz.zeroValue21
 t37:=Tryz.underlying22
 a37:=Tryz.isAgg22
 z37:=Tryz.sizeOf22
 v37:=Tryz.zeroValue22
 t46:=Tryz.underlying148
 a46:=Tryz.isAgg148
 z46:=Tryz.sizeOf148
 v46:=Tryz.zeroValue148
 t51:=Tryz.underlying176
 a51:=Tryz.isAgg176
 z51:=Tryz.sizeOf176
 v51:=Tryz.zeroValue176
 t53:=Tryz.underlying135
 a53:=Tryz.isAgg135
 z53:=Tryz.sizeOf135
 v53:=Tryz.zeroValue135
 t75:=Tryz.underlying69
 a75:=Tryz.isAgg69
 z75:=Tryz.sizeOf69
 v75:=Tryz.zeroValue69
 t76:=Tryz.underlying70
 a76:=Tryz.isAgg70
 z76:=Tryz.sizeOf70
 v76:=Tryz.zeroValue70
 t85:=Tryz.underlying179
 a85:=Tryz.isAgg179
 z85:=Tryz.sizeOf179
 v85:=Tryz.zeroValue179
 t127:=Tryz.underlying108
 a127:=Tryz.isAgg108
 z127:=Tryz.sizeOf108
 v127:=Tryz.zeroValue108
 t143:=Tryz.underlying277
 a143:=Tryz.isAgg277
 z143:=Tryz.sizeOf277
 v143:=Tryz.zeroValue277
 t145:=Tryz.underlying279
 a145:=Tryz.isAgg279
 z145:=Tryz.sizeOf279
 v145:=Tryz.zeroValue279
 t167:=Tryz.underlying238
 a167:=Tryz.isAgg238
 z167:=Tryz.sizeOf238
 v167:=Tryz.zeroValue238
 t168:=Tryz.underlying239
 a168:=Tryz.isAgg239
 z168:=Tryz.sizeOf239
 v168:=Tryz.zeroValue239
 t171:=Tryz.underlying188
 a171:=Tryz.isAgg188
 z171:=Tryz.sizeOf188
 v171:=Tryz.zeroValue188
 t173:=Tryz.underlying190
 a173:=Tryz.isAgg190
 z173:=Tryz.sizeOf190
 v173:=Tryz.zeroValue190
 t175:=Tryz.underlying216
 a175:=Tryz.isAgg216
 z175:=Tryz.sizeOf216
 v175:=Tryz.zeroValue216
 t210:=Tryz.underlying259
 a210:=Tryz.isAgg259
 z210:=Tryz.sizeOf259
 v210:=Tryz.zeroValue259
 t212:=Tryz.underlying229
 a212:=Tryz.isAgg229
 z212:=Tryz.sizeOf229
 v212:=Tryz.zeroValue229
 t213:=Tryz.underlying230
 a213:=Tryz.isAgg230
 z213:=Tryz.sizeOf230
 t232:=Tryz.underlying261
 a232:=Tryz.isAgg261
 z232:=Tryz.sizeOf261
 v232:=Tryz.zeroValue261
 t233:=Tryz.underlying262
 a233:=Tryz.isAgg262
 z233:=Tryz.sizeOf262
 v233:=Tryz.zeroValue262
 g15:=by kernel_rfl
 g16:=by kernel_rfl
 g17:=by kernel_rfl
 g18:=by kernel_rfl
 g19:=by kernel_rfl
 t80:=Tryz.underlying58
 a80:=Tryz.isAgg58
 z80:=Tryz.sizeOf58
 v80:=Tryz.zeroValue58
 i0:=by kernel_rfl
 i2:=by kernel_rfl
 i3:=by kernel_rfl
 i4:=by kernel_rfl
 i5:=by kernel_rfl
 i9:=by kernel_rfl
 i20:=by kernel_rfl
 i21:=by kernel_rfl
 i37:=by kernel_rfl
 i46:=by kernel_rfl
 i51:=by kernel_rfl
 i53:=by kernel_rfl
 i75:=by kernel_rfl
 i76:=by kernel_rfl
 i80:=by kernel_rfl
 i85:=by kernel_rfl
 i127:=by kernel_rfl
 i143:=by kernel_rfl
 i145:=by kernel_rfl
 i167:=by kernel_rfl
 i168:=by kernel_rfl
 i171:=by kernel_rfl
 i173:=by kernel_rfl
 i175:=by kernel_rfl
 i210:=by kernel_rfl
 i212:=by kernel_rfl
 i232:=by kernel_rfl
 i233:=by kernel_rfl
 m15:=by kernel_rfl
 m16:=by kernel_rfl
 m17:=by kernel_rfl
 m18:=by kernel_rfl
 m19:=by kernel_rfl
 c0:=by kernel_rfl
 c2:=by kernel_rfl
 c3:=by kernel_rfl
 c4:=by kernel_rfl
 c5:=by kernel_rfl
 c9:=by kernel_rfl
 c20:=by kernel_rfl
 c21:=by kernel_rfl
 c37:=by kernel_rfl
 c46:=by kernel_rfl
 c51:=by kernel_rfl
 c53:=by kernel_rfl
 c75:=by kernel_rfl
 c76:=by kernel_rfl
 c80:=by kernel_rfl
 c85:=by kernel_rfl
 c127:=by kernel_rfl
 c143:=by kernel_rfl
 c145:=by kernel_rfl
 c167:=by kernel_rfl
 c168:=by kernel_rfl
 c171:=by kernel_rfl
 c173:=by kernel_rfl
 c175:=by kernel_rfl
 c210:=by kernel_rfl
 c212:=by kernel_rfl
 c213:=by kernel_rfl
 c232:=by kernel_rfl
 c233:=by kernel_rfl}
open Go.RowKit in
theorem Tryz.strconv_Atoi_ok (s:ByteArray) (hmax:s.size≤9223372036854775806) (v:Int) (h:Lib.atoiAll s.data.toList= .ok v) (w:World):
 Calls Tryz.prog 178 #[.string s] w fun e w'=>e= .returned (.tuple #[.int .i64 v,.nilIface])∧(w'=w∨∃t,w'=Lib.bytesWorld w 5 t):=Any.strconv_Atoi_ok GU s hmax v h w
def WH:Go.Shelf.Ren:=⟨fun|174=>141|247=>181|245=>182|287=>199|279=>203|280=>204|281=>205|282=>206|321=>217|322=>218|316=>219|171=>121|205=>220|243=>166|246=>114|283=>157|284=>158|285=>159|286=>160|129=>135|317=>188|318=>189|319=>190|320=>191|337=>207|338=>208|n=>n,fun|9=>9|3=>3|2=>2|75=>69|85=>179|4=>4|167=>238|5=>5|53=>135|175=>216|46=>148|168=>239|37=>22|0=>0|210=>259|21=>21|127=>108|145=>279|143=>277|171=>188|173=>190|212=>229|51=>176|20=>20|213=>230|232=>261|233=>262|80=>58|n=>n,fun|15=>5|16=>6|17=>4|18=>7|19=>8|n=>n⟩
theorem GW:Go.Proofs.LaysC.n174 Tryz.prog WH:={
 mixed:=by kernel_rfl
 f129:=Tryz.func135.trans (congrArg some (by kernel_rfl))
 f171:=Tryz.func121.trans (congrArg some (by kernel_rfl))
 f174:=Tryz.func141.trans (congrArg some (by kernel_rfl))
 f205:=Tryz.func220.trans (congrArg some (by kernel_rfl))
 f243:=Tryz.func166.trans (congrArg some (by kernel_rfl))
 f245:=Tryz.func182.trans (congrArg some (by kernel_rfl))
 f246:=Tryz.func114.trans (congrArg some (by kernel_rfl))
 f247:=Tryz.func181.trans (congrArg some (by kernel_rfl))
 f279:=Tryz.func203.trans (congrArg some (by kernel_rfl))
 f280:=Tryz.func204.trans (congrArg some (by kernel_rfl))
 f281:=Tryz.func205.trans (congrArg some (by kernel_rfl))
 f282:=Tryz.func206.trans (congrArg some (by kernel_rfl))
 f283:=Tryz.func157.trans (congrArg some (by kernel_rfl))
 f284:=Tryz.func158.trans (congrArg some (by kernel_rfl))
 f285:=Tryz.func159.trans (congrArg some (by kernel_rfl))
 f286:=Tryz.func160.trans (congrArg some (by kernel_rfl))
 f287:=Tryz.func199.trans (congrArg some (by kernel_rfl))
 f316:=Tryz.func219.trans (congrArg some (by kernel_rfl))
 f317:=Tryz.func188.trans (congrArg some (by kernel_rfl))
 f318:=Tryz.func189.trans (congrArg some (by kernel_rfl))
 f319:=Tryz.func190.trans (congrArg some (by kernel_rfl))
 f320:=Tryz.func191.trans (congrArg some (by kernel_rfl))
 f321:=Tryz.func217.trans (congrArg some (by kernel_rfl))
 f322:=Tryz.func218.trans (congrArg some (by kernel_rfl))
 f337:=Tryz.func207.trans (congrArg some (by kernel_rfl))
 f338:=Tryz.func208.trans (congrArg some (by kernel_rfl))
 t0:=Tryz.underlying0
 a0:=Tryz.isAgg0
 z0:=Tryz.sizeOf0
 v0:=Tryz.zeroValue0
 t2:=Tryz.underlying2
 a2:=Tryz.isAgg2
 z2:=Tryz.sizeOf2
 v2:=Tryz.zeroValue2
 t3:=Tryz.underlying3
 a3:=Tryz.isAgg3
 z3:=Tryz.sizeOf3
 v3:=Tryz.zeroValue3
 t4:=Tryz.underlying4
 a4:=Tryz.isAgg4
 z4:=Tryz.sizeOf4
 v4:=Tryz.zeroValue4
 t5:=Tryz.underlying5
 a5:=Tryz.isAgg5
 z5:=Tryz.sizeOf5
 v5:=Tryz.zeroValue5
 t9:=Tryz.underlying9
 a9:=Tryz.isAgg9
 z9:=Tryz.sizeOf9
 v9:=Tryz.zeroValue9
 t20:=Tryz.underlying20
 a20:=Tryz.isAgg20
 z20:=Tryz.sizeOf20
 v20:=Tryz.zeroValue20
 t21:=Tryz.underlying21
 a21:=Tryz.isAgg21
 z21:=Tryz.sizeOf21
 v21:=Tryz.zeroValue21
 t37:=Tryz.underlying22
 a37:=Tryz.isAgg22
 z37:=Tryz.sizeOf22
 v37:=Tryz.zeroValue22
 t46:=Tryz.underlying148
 a46:=Tryz.isAgg148
 z46:=Tryz.sizeOf148
 v46:=Tryz.zeroValue148
 t51:=Tryz.underlying176
 a51:=Tryz.isAgg176
 z51:=Tryz.sizeOf176
 v51:=Tryz.zeroValue176
 t53:=Tryz.underlying135
 a53:=Tryz.isAgg135
 z53:=Tryz.sizeOf135
 v53:=Tryz.zeroValue135
 t75:=Tryz.underlying69
 a75:=Tryz.isAgg69
 z75:=Tryz.sizeOf69
 v75:=Tryz.zeroValue69
 t85:=Tryz.underlying179
 a85:=Tryz.isAgg179
 z85:=Tryz.sizeOf179
 v85:=Tryz.zeroValue179
 t127:=Tryz.underlying108
 a127:=Tryz.isAgg108
 z127:=Tryz.sizeOf108
 v127:=Tryz.zeroValue108
 t143:=Tryz.underlying277
 a143:=Tryz.isAgg277
 z143:=Tryz.sizeOf277
 v143:=Tryz.zeroValue277
 t145:=Tryz.underlying279
 a145:=Tryz.isAgg279
 z145:=Tryz.sizeOf279
 v145:=Tryz.zeroValue279
 t167:=Tryz.underlying238
 a167:=Tryz.isAgg238
 z167:=Tryz.sizeOf238
 v167:=Tryz.zeroValue238
 t168:=Tryz.underlying239
 a168:=Tryz.isAgg239
 z168:=Tryz.sizeOf239
 v168:=Tryz.zeroValue239
 t171:=Tryz.underlying188
 a171:=Tryz.isAgg188
 z171:=Tryz.sizeOf188
 v171:=Tryz.zeroValue188
 t173:=Tryz.underlying190
 a173:=Tryz.isAgg190
 z173:=Tryz.sizeOf190
 v173:=Tryz.zeroValue190
 t175:=Tryz.underlying216
 a175:=Tryz.isAgg216
 z175:=Tryz.sizeOf216
 v175:=Tryz.zeroValue216
 t210:=Tryz.underlying259
 a210:=Tryz.isAgg259
 z210:=Tryz.sizeOf259
 v210:=Tryz.zeroValue259
 t212:=Tryz.underlying229
 a212:=Tryz.isAgg229
 z212:=Tryz.sizeOf229
 v212:=Tryz.zeroValue229
 t213:=Tryz.underlying230
 a213:=Tryz.isAgg230
 z213:=Tryz.sizeOf230
 t232:=Tryz.underlying261
 a232:=Tryz.isAgg261
 z232:=Tryz.sizeOf261
 v232:=Tryz.zeroValue261
 t233:=Tryz.underlying262
 a233:=Tryz.isAgg262
 z233:=Tryz.sizeOf262
 v233:=Tryz.zeroValue262
 g15:=by kernel_rfl
 g16:=by kernel_rfl
 g17:=by kernel_rfl
 g18:=by kernel_rfl
 g19:=by kernel_rfl
 t80:=Tryz.underlying58
 a80:=Tryz.isAgg58
 z80:=Tryz.sizeOf58
 v80:=Tryz.zeroValue58
 i0:=by kernel_rfl
 i2:=by kernel_rfl
 i3:=by kernel_rfl
 i4:=by kernel_rfl
 i5:=by kernel_rfl
 i9:=by kernel_rfl
 i20:=by kernel_rfl
 i21:=by kernel_rfl
 i37:=by kernel_rfl
 i46:=by kernel_rfl
 i51:=by kernel_rfl
 i53:=by kernel_rfl
 i75:=by kernel_rfl
 i80:=by kernel_rfl
 i85:=by kernel_rfl
 i127:=by kernel_rfl
 i143:=by kernel_rfl
 i145:=by kernel_rfl
 i167:=by kernel_rfl
 i168:=by kernel_rfl
 i171:=by kernel_rfl
 i173:=by kernel_rfl
 i175:=by kernel_rfl
 i210:=by kernel_rfl
 i212:=by kernel_rfl
 i232:=by kernel_rfl
 i233:=by kernel_rfl
 m15:=by kernel_rfl
 m16:=by kernel_rfl
 m17:=by kernel_rfl
 m18:=by kernel_rfl
 m19:=by kernel_rfl
 c0:=by kernel_rfl
 c2:=by kernel_rfl
 c3:=by kernel_rfl
 c4:=by kernel_rfl
 c5:=by kernel_rfl
 c9:=by kernel_rfl
 c20:=by kernel_rfl
 c21:=by kernel_rfl
 c37:=by kernel_rfl
 c46:=by kernel_rfl
 c51:=by kernel_rfl
 c53:=by kernel_rfl
 c75:=by kernel_rfl
 c80:=by kernel_rfl
 c85:=by kernel_rfl
 c127:=by kernel_rfl
 c143:=by kernel_rfl
 c145:=by kernel_rfl
 c167:=by kernel_rfl
 c168:=by kernel_rfl
 c171:=by kernel_rfl
 c173:=by kernel_rfl
 c175:=by kernel_rfl
 c210:=by kernel_rfl
 c212:=by kernel_rfl
 c213:=by kernel_rfl
 c232:=by kernel_rfl
 c233:=by kernel_rfl}
open Go.RowKit in
theorem Tryz.strconv_ParseInt_10_at64_ok (s:ByteArray) (hmax:s.size≤9223372036854775806) (v:Int) (h:Lib.parseIntB 64 s.data.toList= .ok v) (w:World):
 Calls Tryz.prog 141 #[.string s,.int .i64 10,.int .i64 64] w fun e w'=>e= .returned (.tuple #[.int .i64 v,.nilIface])∧(w'=w∨∃t,w'=Lib.bytesWorld w 5 t):=Any.strconv_ParseInt_10_at64_ok GW s hmax v h w
def Wt:Go.Shelf.Ren:=⟨fun|219=>106|217=>75|225=>147|224=>148|267=>149|266=>107|314=>185|n=>n,fun|9=>9|3=>3|4=>4|5=>5|46=>148|146=>226|51=>176|n=>n,fun|1=>1|n=>n⟩
theorem Wr:Go.Proofs.Lays.n219 Tryz.prog Wt:={
 mixed:=by kernel_rfl
 f217:=Tryz.func75.trans (congrArg some (by kernel_rfl))
 f219:=Tryz.func106.trans (congrArg some (by kernel_rfl))
 f224:=Tryz.func148.trans (congrArg some (by kernel_rfl))
 f225:=Tryz.func147.trans (congrArg some (by kernel_rfl))
 f266:=Tryz.func107.trans (congrArg some (by kernel_rfl))
 f267:=Tryz.func149.trans (congrArg some (by kernel_rfl))
 f314:=Tryz.func185.trans (congrArg some (by kernel_rfl))
 t3:=Tryz.underlying3
 a3:=Tryz.isAgg3
 z3:=Tryz.sizeOf3
 v3:=Tryz.zeroValue3
 t4:=Tryz.underlying4
 a4:=Tryz.isAgg4
 z4:=Tryz.sizeOf4
 v4:=Tryz.zeroValue4
 t5:=Tryz.underlying5
 a5:=Tryz.isAgg5
 z5:=Tryz.sizeOf5
 v5:=Tryz.zeroValue5
 t9:=Tryz.underlying9
 a9:=Tryz.isAgg9
 z9:=Tryz.sizeOf9
 v9:=Tryz.zeroValue9
 t46:=Tryz.underlying148
 a46:=Tryz.isAgg148
 z46:=Tryz.sizeOf148
 v46:=Tryz.zeroValue148
 t51:=Tryz.underlying176
 a51:=Tryz.isAgg176
 z51:=Tryz.sizeOf176
 v51:=Tryz.zeroValue176
 t146:=Tryz.underlying226
 a146:=Tryz.isAgg226
 z146:=Tryz.sizeOf226
 v146:=Tryz.zeroValue226
 g1:=by kernel_rfl}
open Go.RowKit Go.Lib in
theorem Tryz.stringslite_Index_one (s:ByteArray) (c:UInt8) (w:World):
 Calls Tryz.prog 106 #[.string s,.string ⟨#[c]⟩] w fun e w'=>e= .returned (.int .i64 (Lib.indexByte s.data.toList c))∧w'=w:=Any.stringslite_Index_one Wr s c w
def Wi:Go.Shelf.Ren:=⟨fun|143=>70|219=>106|217=>75|225=>147|224=>148|267=>149|266=>107|314=>185|n=>n,fun|9=>9|3=>3|4=>4|5=>5|46=>148|146=>226|51=>176|n=>n,fun|1=>1|n=>n⟩
theorem Wh:Go.Proofs.Lays.n143 Tryz.prog Wi:={
 mixed:=by kernel_rfl
 f143:=Tryz.func70.trans (congrArg some (by kernel_rfl))
 f217:=Tryz.func75.trans (congrArg some (by kernel_rfl))
 f219:=Tryz.func106.trans (congrArg some (by kernel_rfl))
 f224:=Tryz.func148.trans (congrArg some (by kernel_rfl))
 f225:=Tryz.func147.trans (congrArg some (by kernel_rfl))
 f266:=Tryz.func107.trans (congrArg some (by kernel_rfl))
 f267:=Tryz.func149.trans (congrArg some (by kernel_rfl))
 f314:=Tryz.func185.trans (congrArg some (by kernel_rfl))
 t3:=Tryz.underlying3
 a3:=Tryz.isAgg3
 z3:=Tryz.sizeOf3
 v3:=Tryz.zeroValue3
 t4:=Tryz.underlying4
 a4:=Tryz.isAgg4
 z4:=Tryz.sizeOf4
 v4:=Tryz.zeroValue4
 t5:=Tryz.underlying5
 a5:=Tryz.isAgg5
 z5:=Tryz.sizeOf5
 v5:=Tryz.zeroValue5
 t9:=Tryz.underlying9
 a9:=Tryz.isAgg9
 z9:=Tryz.sizeOf9
 v9:=Tryz.zeroValue9
 t46:=Tryz.underlying148
 a46:=Tryz.isAgg148
 z46:=Tryz.sizeOf148
 v46:=Tryz.zeroValue148
 t51:=Tryz.underlying176
 a51:=Tryz.isAgg176
 z51:=Tryz.sizeOf176
 v51:=Tryz.zeroValue176
 t146:=Tryz.underlying226
 a146:=Tryz.isAgg226
 z146:=Tryz.sizeOf226
 v146:=Tryz.zeroValue226
 g1:=by kernel_rfl}
open Go.RowKit Go.Lib in
theorem Tryz.strings_Index_one (s:ByteArray) (c:UInt8) (w:World):
 Calls Tryz.prog 70 #[.string s,.string ⟨#[c]⟩] w fun e w'=>e= .returned (.int .i64 (Lib.indexByte s.data.toList c))∧w'=w:=Any.strings_Index_one Wh s c w
def WF:Go.Shelf.Ren:=⟨fun|99=>41|206=>74|n=>n,fun|9=>9|4=>4|3=>3|n=>n,fun|n=>n⟩
theorem WE:Go.Proofs.Lays.n99 Tryz.prog WF:={
 mixed:=by kernel_rfl
 f99:=Tryz.func41.trans (congrArg some (by kernel_rfl))
 f206:=Tryz.func74.trans (congrArg some (by kernel_rfl))
 t3:=Tryz.underlying3
 a3:=Tryz.isAgg3
 z3:=Tryz.sizeOf3
 v3:=Tryz.zeroValue3
 t4:=Tryz.underlying4
 a4:=Tryz.isAgg4
 z4:=Tryz.sizeOf4
 v4:=Tryz.zeroValue4
 t9:=Tryz.underlying9
 a9:=Tryz.isAgg9
 z9:=Tryz.sizeOf9
 v9:=Tryz.zeroValue9}
open Go.RowKit Go.Lib in
theorem Tryz.strings_HasPrefix (s p:ByteArray) (w:World):
 Calls Tryz.prog 41 #[.string s,.string p] w fun e w'=>e= .returned (.bool (Lib.hasPrefix s.data.toList p.data.toList))∧w'=w:=Any.strings_HasPrefix WE s p w
def V4:Go.Shelf.Ren:=⟨fun|101=>140|208=>180|206=>74|n=>n,fun|9=>9|4=>4|3=>3|n=>n,fun|n=>n⟩
theorem V3:Go.Proofs.Lays.n101 Tryz.prog V4:={
 mixed:=by kernel_rfl
 f101:=Tryz.func140.trans (congrArg some (by kernel_rfl))
 f206:=Tryz.func74.trans (congrArg some (by kernel_rfl))
 f208:=Tryz.func180.trans (congrArg some (by kernel_rfl))
 t3:=Tryz.underlying3
 a3:=Tryz.isAgg3
 z3:=Tryz.sizeOf3
 v3:=Tryz.zeroValue3
 t4:=Tryz.underlying4
 a4:=Tryz.isAgg4
 z4:=Tryz.sizeOf4
 v4:=Tryz.zeroValue4
 t9:=Tryz.underlying9
 a9:=Tryz.isAgg9
 z9:=Tryz.sizeOf9
 v9:=Tryz.zeroValue9}
open Go.RowKit Go.Lib in
theorem Tryz.strings_TrimPrefix (s p:ByteArray) (w:World):
 Calls Tryz.prog 140 #[.string s,.string p] w fun e w'=>e= .returned (.string ⟨(Lib.trimPrefix s.data.toList p.data.toList).toArray⟩)∧w'=w:=Any.strings_TrimPrefix V3 s p w
end Go.Proofs
