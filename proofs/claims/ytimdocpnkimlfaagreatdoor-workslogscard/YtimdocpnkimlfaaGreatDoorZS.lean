/- DERIVED. -/
import Derived.Shelf.Strings.OnBuilder
import Derived.Shelf.Strings.BuilderK
import Derived.Shelf.Utf8.RuneCount
import Derived.Shelf.Strconv.Itoa3
import Derived.Shelf.Strings.Shaped
import Derived.Shelf.Strings.SplitShaped
import Derived.Shelf.Strings.Explode
import Derived.Shelf.Strings.Repeat
import Derived.Shelf.Unicode.DecodeAny
import Derived.Shelf.Slices.Clone
import Derived.Shelf.SlicesE.Clone
import Derived.Test.YtimdocpnkimlfaaGreatDoorChecked
set_option linter.unusedVariables false
set_option linter.unusedSimpArgs false
open Option renaming some→I
namespace Go.Proofs
open Go.Shelf
def Tryz.lays156_ren:Go.Shelf.Ren:=⟨fun |156=>105|165=>186|166=>187|169=>188|240=>245|241=>246|276=>290|277=>291|n=>n,fun|31=>23|9=>9|3=>3|4=>4|0=>0|20=>20|72=>251|76=>255|70=>249|37=>106|75=>254|127=>300|164=>344|5=>5|80=>100|n=>n,fun|n=>n⟩
theorem Tryz.lays156:Go.Proofs.Lays.n156 Tryz.prog Tryz.lays156_ren:={
 mixed:=by kernel_rfl
 f156:=Tryz.func105.trans (congrArg I (by kernel_rfl))
 f165:=Tryz.func186.trans (congrArg I (by kernel_rfl))
 f166:=Tryz.func187.trans (congrArg I (by kernel_rfl))
 f169:=Tryz.func188.trans (congrArg I (by kernel_rfl))
 f240:=Tryz.func245.trans (congrArg I (by kernel_rfl))
 f241:=Tryz.func246.trans (congrArg I (by kernel_rfl))
 f276:=Tryz.func290.trans (congrArg I (by kernel_rfl))
 f277:=Tryz.func291.trans (congrArg I (by kernel_rfl))
 t0:=Tryz.underlying0
 a0:=Tryz.isAgg0
 z0:=Tryz.sizeOf0
 v0:=Tryz.zeroValue0
 t3:=Tryz.underlying3
 a3:=Tryz.isAgg3
 z3:=Tryz.sizeOf3
 v3:=Tryz.zeroValue3
 t4:=Tryz.underlying4
 a4:=Tryz.isAgg4
 z4:=Tryz.sizeOf4
 v4:=Tryz.zeroValue4
 t9:=Tryz.underlying9
 a9:=Tryz.isAgg9
 z9:=Tryz.sizeOf9
 v9:=Tryz.zeroValue9
 t20:=Tryz.underlying20
 a20:=Tryz.isAgg20
 z20:=Tryz.sizeOf20
 v20:=Tryz.zeroValue20
 t31:=Tryz.underlying23
 a31:=Tryz.isAgg23
 z31:=Tryz.sizeOf23
 v31:=Tryz.zeroValue23
 t37:=Tryz.underlying106
 a37:=Tryz.isAgg106
 z37:=Tryz.sizeOf106
 v37:=Tryz.zeroValue106
 t70:=Tryz.underlying249
 a70:=Tryz.isAgg249
 z70:=Tryz.sizeOf249
 v70:=Tryz.zeroValue249
 t72:=Tryz.underlying251
 a72:=Tryz.isAgg251
 z72:=Tryz.sizeOf251
 v72:=Tryz.zeroValue251
 t75:=Tryz.underlying254
 a75:=Tryz.isAgg254
 z75:=Tryz.sizeOf254
 v75:=Tryz.zeroValue254
 t76:=Tryz.underlying255
 a76:=Tryz.isAgg255
 z76:=Tryz.sizeOf255
 v76:=Tryz.zeroValue255
 t127:=Tryz.underlying300
 a127:=Tryz.isAgg300
 z127:=Tryz.sizeOf300
 v127:=Tryz.zeroValue300
 t164:=Tryz.underlying344
 a164:=Tryz.isAgg344
 z164:=Tryz.sizeOf344
 v164:=Tryz.zeroValue344 }
theorem Tryz.Builder_Extra_156:Builder.Extra Tryz.prog Tryz.lays156_ren:={
 sizeBuilder:=by kernel_rfl
 liesBuilder:=by kernel_rfl
 t5:=Tryz.underlying5
 a5:=Tryz.isAgg5
 z5:=Tryz.sizeOf5
 v5:=Tryz.zeroValue5
 infoByte:=by kernel_rfl
 cellsByte:=by kernel_rfl
 sizeByte:=by kernel_rfl
 neB5:=by decide }
open Go.RowKit in
theorem Tryz.strings_Join_none (a:Option Addr)(c:Nat)(sep:ByteArray)(w:World):
  Calls Tryz.prog 105 #[.slice a 0 c,.string sep] w fun e w'=>e=.returned (.string ⟨#[]⟩)∧w'=w:=Any.strings_Join_none Tryz.lays156 Tryz.Builder_Extra_156 a c sep w
open Go.RowKit in
theorem Tryz.strings_Join (bk o c:Nat)(xs:List ByteArray)(sep:ByteArray)(w:World)(hcells:∀(j:Nat) x,xs[j]?=I x→w.cell? ⟨bk,o+j,none⟩=I (.string x))(hbk:bk<w.heap.size)(hN:xs.length≤140737488355328)(hcap:xs.length≤c)(hlen:(Lib.join (xs.map (·.data.toList)) sep.data.toList).length≤140737488355328):
  Calls Tryz.prog 105 #[.slice (I ⟨bk,o,none⟩) xs.length c,.string sep] w fun e w'=>e=.returned (.string ⟨(Lib.join (xs.map (·.data.toList)) sep.data.toList).toArray⟩)∧Below w.heap.size w w':=Any.strings_Join Tryz.lays156 Tryz.Builder_Extra_156 bk o c xs sep w hcells hbk hN hcap hlen
def Tryz.laysM171_ren:Go.Shelf.Ren:=⟨fun |171=>103|243=>185|246=>244|283=>286|284=>287|285=>288|286=>289|129=>302|317=>301|318=>303|319=>304|320=>305|337=>307|338=>308|n=>n,fun|3=>3|9=>9|2=>2|4=>4|171=>338|0=>0|53=>339|37=>106|5=>5|173=>342|212=>357|51=>347|20=>20|213=>358|46=>305|232=>366|233=>367|n=>n,fun|17=>1|18=>4|19=>5|n=>n⟩
theorem Tryz.laysM171:Go.Proofs.LaysM.n171 Tryz.prog Tryz.laysM171_ren:={
 mixed:=by kernel_rfl
 f129:=Tryz.func302.trans (congrArg I (by kernel_rfl))
 f171:=Tryz.func103.trans (congrArg I (by kernel_rfl))
 f243:=Tryz.func185.trans (congrArg I (by kernel_rfl))
 f246:=Tryz.func244.trans (congrArg I (by kernel_rfl))
 f283:=Tryz.func286.trans (congrArg I (by kernel_rfl))
 f284:=Tryz.func287.trans (congrArg I (by kernel_rfl))
 f285:=Tryz.func288.trans (congrArg I (by kernel_rfl))
 f286:=Tryz.func289.trans (congrArg I (by kernel_rfl))
 f317:=Tryz.func301.trans (congrArg I (by kernel_rfl))
 f318:=Tryz.func303.trans (congrArg I (by kernel_rfl))
 f319:=Tryz.func304.trans (congrArg I (by kernel_rfl))
 f320:=Tryz.func305.trans (congrArg I (by kernel_rfl))
 f337:=Tryz.func307.trans (congrArg I (by kernel_rfl))
 f338:=Tryz.func308.trans (congrArg I (by kernel_rfl))
 t0:=Tryz.underlying0
 a0:=Tryz.isAgg0
 z0:=Tryz.sizeOf0
 v0:=Tryz.zeroValue0
 t2:=Tryz.underlying2
 a2:=Tryz.isAgg2
 z2:=Tryz.sizeOf2
 v2:=Tryz.zeroValue2
 t3:=Tryz.underlying3
 a3:=Tryz.isAgg3
 z3:=Tryz.sizeOf3
 v3:=Tryz.zeroValue3
 t4:=Tryz.underlying4
 a4:=Tryz.isAgg4
 z4:=Tryz.sizeOf4
 v4:=Tryz.zeroValue4
 t5:=Tryz.underlying5
 a5:=Tryz.isAgg5
 z5:=Tryz.sizeOf5
 v5:=Tryz.zeroValue5
 t9:=Tryz.underlying9
 a9:=Tryz.isAgg9
 z9:=Tryz.sizeOf9
 v9:=Tryz.zeroValue9
 t20:=Tryz.underlying20
 a20:=Tryz.isAgg20
 z20:=Tryz.sizeOf20
 v20:=Tryz.zeroValue20
 t37:=Tryz.underlying106
 a37:=Tryz.isAgg106
 z37:=Tryz.sizeOf106
 v37:=Tryz.zeroValue106
 t46:=Tryz.underlying305
 a46:=Tryz.isAgg305
 z46:=Tryz.sizeOf305
 v46:=Tryz.zeroValue305
 t51:=Tryz.underlying347
 a51:=Tryz.isAgg347
 z51:=Tryz.sizeOf347
 v51:=Tryz.zeroValue347
 t53:=Tryz.underlying339
 a53:=Tryz.isAgg339
 z53:=Tryz.sizeOf339
 v53:=Tryz.zeroValue339
 t171:=Tryz.underlying338
 a171:=Tryz.isAgg338
 z171:=Tryz.sizeOf338
 v171:=Tryz.zeroValue338
 t173:=Tryz.underlying342
 a173:=Tryz.isAgg342
 z173:=Tryz.sizeOf342
 v173:=Tryz.zeroValue342
 t212:=Tryz.underlying357
 a212:=Tryz.isAgg357
 z212:=Tryz.sizeOf357
 v212:=Tryz.zeroValue357
 t213:=Tryz.underlying358
 a213:=Tryz.isAgg358
 z213:=Tryz.sizeOf358
 t232:=Tryz.underlying366
 a232:=Tryz.isAgg366
 z232:=Tryz.sizeOf366
 v232:=Tryz.zeroValue366
 t233:=Tryz.underlying367
 a233:=Tryz.isAgg367
 z233:=Tryz.sizeOf367
 v233:=Tryz.zeroValue367
 g17:=by kernel_rfl
 g18:=by kernel_rfl
 g19:=by kernel_rfl
 i0:=by kernel_rfl
 i2:=by kernel_rfl
 i3:=by kernel_rfl
 i4:=by kernel_rfl
 i5:=by kernel_rfl
 i9:=by kernel_rfl
 i20:=by kernel_rfl
 i37:=by kernel_rfl
 i46:=by kernel_rfl
 i51:=by kernel_rfl
 i53:=by kernel_rfl
 i171:=by kernel_rfl
 i173:=by kernel_rfl
 i212:=by kernel_rfl
 i232:=by kernel_rfl
 i233:=by kernel_rfl
 m17:=by kernel_rfl
 m18:=by kernel_rfl
 m19:=by kernel_rfl }
open Go.RowKit Go.Sort Go.Lib in
theorem Tryz.strconv_Itoa (n : Int) (h0 : -9223372036854775808 ≤ n) (h1 : n ≤ 9223372036854775807) (w : World) (htab : Lib.TabIs Tryz.prog w "internal/strconv.uint64pow10" .u64 Lib.pow10Tab) :
  Calls Tryz.prog 103 #[.int .i64 n] w fun e w'=>e=.returned (.string ⟨(Lib.itoa n).toArray⟩)∧∃k os,w'=grow (w.drewN k) os:=Any.strconv_Itoa Tryz.laysM171 n h0 h1 w htab
def Tryz.lays217_ren:Go.Shelf.Ren:=⟨fun |217=>254|266=>296|n=>n,fun|9=>9|5=>5|3=>3|n=>n,fun|n=>n⟩
theorem Tryz.lays217:Go.Proofs.Lays.n217 Tryz.prog Tryz.lays217_ren:={
 mixed:=by kernel_rfl
 f217:=Tryz.func254.trans (congrArg I (by kernel_rfl))
 f266:=Tryz.func296.trans (congrArg I (by kernel_rfl))
 t3:=Tryz.underlying3
 a3:=Tryz.isAgg3
 z3:=Tryz.sizeOf3
 v3:=Tryz.zeroValue3
 t5:=Tryz.underlying5
 a5:=Tryz.isAgg5
 z5:=Tryz.sizeOf5
 v5:=Tryz.zeroValue5
 t9:=Tryz.underlying9
 a9:=Tryz.isAgg9
 z9:=Tryz.sizeOf9
 v9:=Tryz.zeroValue9 }
open Go.RowKit Go.Lib in
theorem Tryz.stringslite_IndexByte (s:ByteArray)(c:Int)(w:World):
  Calls Tryz.prog 254 #[.string s,.int .u8 c] w fun e w'=>e=.returned (.int .i64 (Lib.indexByte s.data.toList c.toNat.toUInt8))∧w'=w:=Any.stringslite_IndexByte Tryz.lays217 s c w
def Tryz.lays146_ren:Go.Shelf.Ren:=⟨fun |146=>44|221=>107|268=>189|138=>190|143=>191|195=>247|197=>248|218=>249|219=>197|260=>292|217=>254|225=>255|224=>256|267=>257|266=>296|314=>297|n=>n,fun|9=>9|31=>23|3=>3|4=>4|0=>0|105=>301|21=>21|5=>5|46=>305|119=>360|139=>363|138=>362|146=>348|51=>347|n=>n,fun|1=>0|3=>2|4=>3|n=>n⟩
theorem Tryz.lays146:Go.Proofs.Lays.n146 Tryz.prog Tryz.lays146_ren:={
 mixed:=by kernel_rfl
 f138:=Tryz.func190.trans (congrArg I (by kernel_rfl))
 f143:=Tryz.func191.trans (congrArg I (by kernel_rfl))
 f146:=Tryz.func44.trans (congrArg I (by kernel_rfl))
 f195:=Tryz.func247.trans (congrArg I (by kernel_rfl))
 f197:=Tryz.func248.trans (congrArg I (by kernel_rfl))
 f217:=Tryz.func254.trans (congrArg I (by kernel_rfl))
 f218:=Tryz.func249.trans (congrArg I (by kernel_rfl))
 f219:=Tryz.func197.trans (congrArg I (by kernel_rfl))
 f221:=Tryz.func107.trans (congrArg I (by kernel_rfl))
 f224:=Tryz.func256.trans (congrArg I (by kernel_rfl))
 f225:=Tryz.func255.trans (congrArg I (by kernel_rfl))
 f260:=Tryz.func292.trans (congrArg I (by kernel_rfl))
 f266:=Tryz.func296.trans (congrArg I (by kernel_rfl))
 f267:=Tryz.func257.trans (congrArg I (by kernel_rfl))
 f268:=Tryz.func189.trans (congrArg I (by kernel_rfl))
 f314:=Tryz.func297.trans (congrArg I (by kernel_rfl))
 t0:=Tryz.underlying0
 a0:=Tryz.isAgg0
 z0:=Tryz.sizeOf0
 v0:=Tryz.zeroValue0
 t3:=Tryz.underlying3
 a3:=Tryz.isAgg3
 z3:=Tryz.sizeOf3
 v3:=Tryz.zeroValue3
 t4:=Tryz.underlying4
 a4:=Tryz.isAgg4
 z4:=Tryz.sizeOf4
 v4:=Tryz.zeroValue4
 t5:=Tryz.underlying5
 a5:=Tryz.isAgg5
 z5:=Tryz.sizeOf5
 v5:=Tryz.zeroValue5
 t9:=Tryz.underlying9
 a9:=Tryz.isAgg9
 z9:=Tryz.sizeOf9
 v9:=Tryz.zeroValue9
 t21:=Tryz.underlying21
 a21:=Tryz.isAgg21
 z21:=Tryz.sizeOf21
 v21:=Tryz.zeroValue21
 t31:=Tryz.underlying23
 a31:=Tryz.isAgg23
 z31:=Tryz.sizeOf23
 v31:=Tryz.zeroValue23
 t46:=Tryz.underlying305
 a46:=Tryz.isAgg305
 z46:=Tryz.sizeOf305
 v46:=Tryz.zeroValue305
 t51:=Tryz.underlying347
 a51:=Tryz.isAgg347
 z51:=Tryz.sizeOf347
 v51:=Tryz.zeroValue347
 t105:=Tryz.underlying301
 a105:=Tryz.isAgg301
 z105:=Tryz.sizeOf301
 v105:=Tryz.zeroValue301
 t119:=Tryz.underlying360
 a119:=Tryz.isAgg360
 z119:=Tryz.sizeOf360
 t138:=Tryz.underlying362
 a138:=Tryz.isAgg362
 z138:=Tryz.sizeOf362
 v138:=Tryz.zeroValue362
 t139:=Tryz.underlying363
 a139:=Tryz.isAgg363
 z139:=Tryz.sizeOf363
 v139:=Tryz.zeroValue363
 t146:=Tryz.underlying348
 a146:=Tryz.isAgg348
 z146:=Tryz.sizeOf348
 v146:=Tryz.zeroValue348
 g1:=by kernel_rfl
 g3:=by kernel_rfl
 g4:=by kernel_rfl }
open Go.RowKit Go.Lib in
theorem Tryz.strings_Split (s sep:ByteArray)(m:Int)(w:World)(hs:s.size<4294967281)(hm:w.cell? ⟨0,0,none⟩=I (.int .i64 m))(h1:1≤sep.size):
  Calls Tryz.prog 44 #[.string s,.string sep] w fun e w'=>
   e=.returned (.slice (I ⟨w.heap.size,0,none⟩) (Lib.countB s sep+1) (Lib.countB s sep+1))∧w'=w.alloc (.cells ((Lib.splitB sep 0 (Lib.countB s sep) s).map Value.string).toArray 9):=Any.strings_Split Tryz.lays146 (by kernel_rfl) s sep m w hs hm h1
def Tryz.lays105_ren:Go.Shelf.Ren:=⟨fun |105=>196|212=>251|99=>252|165=>186|166=>187|170=>253|169=>188|263=>293|264=>294|206=>295|240=>245|241=>246|276=>290|277=>291|n=>n,fun|9=>9|3=>3|4=>4|20=>20|0=>0|46=>305|109=>306|5=>5|72=>251|76=>255|51=>347|146=>348|53=>339|148=>350|70=>249|37=>106|75=>254|127=>300|164=>344|80=>100|n=>n,fun|n=>n⟩
theorem Tryz.lays105:Go.Proofs.Lays.n105 Tryz.prog Tryz.lays105_ren:={
 mixed:=by kernel_rfl
 f99:=Tryz.func252.trans (congrArg I (by kernel_rfl))
 f105:=Tryz.func196.trans (congrArg I (by kernel_rfl))
 f165:=Tryz.func186.trans (congrArg I (by kernel_rfl))
 f166:=Tryz.func187.trans (congrArg I (by kernel_rfl))
 f169:=Tryz.func188.trans (congrArg I (by kernel_rfl))
 f170:=Tryz.func253.trans (congrArg I (by kernel_rfl))
 f206:=Tryz.func295.trans (congrArg I (by kernel_rfl))
 f212:=Tryz.func251.trans (congrArg I (by kernel_rfl))
 f240:=Tryz.func245.trans (congrArg I (by kernel_rfl))
 f241:=Tryz.func246.trans (congrArg I (by kernel_rfl))
 f263:=Tryz.func293.trans (congrArg I (by kernel_rfl))
 f264:=Tryz.func294.trans (congrArg I (by kernel_rfl))
 f276:=Tryz.func290.trans (congrArg I (by kernel_rfl))
 f277:=Tryz.func291.trans (congrArg I (by kernel_rfl))
 t0:=Tryz.underlying0
 a0:=Tryz.isAgg0
 z0:=Tryz.sizeOf0
 v0:=Tryz.zeroValue0
 t3:=Tryz.underlying3
 a3:=Tryz.isAgg3
 z3:=Tryz.sizeOf3
 v3:=Tryz.zeroValue3
 t4:=Tryz.underlying4
 a4:=Tryz.isAgg4
 z4:=Tryz.sizeOf4
 v4:=Tryz.zeroValue4
 t5:=Tryz.underlying5
 a5:=Tryz.isAgg5
 z5:=Tryz.sizeOf5
 v5:=Tryz.zeroValue5
 t9:=Tryz.underlying9
 a9:=Tryz.isAgg9
 z9:=Tryz.sizeOf9
 v9:=Tryz.zeroValue9
 t20:=Tryz.underlying20
 a20:=Tryz.isAgg20
 z20:=Tryz.sizeOf20
 v20:=Tryz.zeroValue20
 t37:=Tryz.underlying106
 a37:=Tryz.isAgg106
 z37:=Tryz.sizeOf106
 v37:=Tryz.zeroValue106
 t46:=Tryz.underlying305
 a46:=Tryz.isAgg305
 z46:=Tryz.sizeOf305
 v46:=Tryz.zeroValue305
 t51:=Tryz.underlying347
 a51:=Tryz.isAgg347
 z51:=Tryz.sizeOf347
 v51:=Tryz.zeroValue347
 t53:=Tryz.underlying339
 a53:=Tryz.isAgg339
 z53:=Tryz.sizeOf339
 v53:=Tryz.zeroValue339
 t70:=Tryz.underlying249
 a70:=Tryz.isAgg249
 z70:=Tryz.sizeOf249
 v70:=Tryz.zeroValue249
 t72:=Tryz.underlying251
 a72:=Tryz.isAgg251
 z72:=Tryz.sizeOf251
 v72:=Tryz.zeroValue251
 t75:=Tryz.underlying254
 a75:=Tryz.isAgg254
 z75:=Tryz.sizeOf254
 v75:=Tryz.zeroValue254
 t76:=Tryz.underlying255
 a76:=Tryz.isAgg255
 z76:=Tryz.sizeOf255
 v76:=Tryz.zeroValue255
 t109:=Tryz.underlying306
 a109:=Tryz.isAgg306
 z109:=Tryz.sizeOf306
 v109:=Tryz.zeroValue306
 t127:=Tryz.underlying300
 a127:=Tryz.isAgg300
 z127:=Tryz.sizeOf300
 v127:=Tryz.zeroValue300
 t146:=Tryz.underlying348
 a146:=Tryz.isAgg348
 z146:=Tryz.sizeOf348
 v146:=Tryz.zeroValue348
 t148:=Tryz.underlying350
 a148:=Tryz.isAgg350
 z148:=Tryz.sizeOf350
 v148:=Tryz.zeroValue350
 t164:=Tryz.underlying344
 a164:=Tryz.isAgg344
 z164:=Tryz.sizeOf344
 v164:=Tryz.zeroValue344 }
theorem Tryz.Builder_Extra_105:Builder.Extra Tryz.prog Tryz.lays105_ren:={
 sizeBuilder:=by kernel_rfl
 liesBuilder:=by kernel_rfl
 t5:=Tryz.underlying5
 a5:=Tryz.isAgg5
 z5:=Tryz.sizeOf5
 v5:=Tryz.zeroValue5
 infoByte:=by kernel_rfl
 cellsByte:=by kernel_rfl
 sizeByte:=by kernel_rfl
 neB5:=by decide }
open Go.RowKit Go.Lib in
theorem Tryz.strings_Repeat (s:ByteArray)(c:Nat)(w:World)(hc:c≤9223372036854775807)(hlen:s.size*c≤140737488355328):
  Calls Tryz.prog 196 #[.string s,.int .i64 c] w fun e w'=>e=.returned (.string ⟨(Lib.repeatL s.data.toList c).toArray⟩)∧Below w.heap.size w w':=Any.strings_Repeat Tryz.lays105 Tryz.Builder_Extra_105 s c w hc hlen
end Go.Proofs
