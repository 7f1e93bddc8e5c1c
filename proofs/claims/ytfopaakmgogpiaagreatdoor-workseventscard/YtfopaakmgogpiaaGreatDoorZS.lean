/- DERIVED. -/
import Derived.Shelf.Strings.Builder1
import Derived.Shelf.Strings.Builder2
import Derived.Shelf.Strings.OnBuilder
import Derived.Shelf.Strings.BuilderF
import Derived.Shelf.Strings.BuilderK
import Derived.Shelf.Utf8.RuneCount
import Derived.Shelf.Strconv.Itoa0
import Derived.Shelf.Strconv.Itoa1
import Derived.Shelf.LaysM
import Derived.Shelf.Strconv.Itoa2
import Derived.Shelf.Strconv.Itoa3
import Derived.Shelf.Strings.Search1
import Derived.Shelf.Strings.Search2
import Derived.Shelf.Strings.Search3
import Derived.Shelf.Strings.Count
import Derived.Shelf.Strings.Shaped
import Derived.Shelf.Strings.Prefix
import Derived.Shelf.Strings.Split
import Derived.Shelf.Strings.SplitShaped
import Derived.Shelf.Unicode.Decode
import Derived.Shelf.Strings.RuneCount
import Derived.Shelf.Strings.Explode
import Derived.Shelf.Bits.Mul64
import Derived.Shelf.Strings.Repeat
import Derived.Shelf.Unicode.DecodeSlow
import Derived.Shelf.Unicode.DecodeAny
import Derived.Ground.Names2Prog
import Derived.Test.YtfopaakmgogpiaaGreatDoorChecked
set_option linter.unusedVariables false
set_option linter.unusedSimpArgs false
open Option renaming some→I
namespace Go.Proofs
open Go.Shelf
def Tryz.lays156_ren:Go.Shelf.Ren:=⟨fun |156=>99|165=>154|166=>155|169=>156|240=>226|241=>227|276=>259|277=>260|n=>n,fun|31=>23|9=>9|3=>3|4=>4|0=>0|20=>20|72=>229|76=>233|70=>226|37=>227|75=>232|127=>281|164=>312|5=>5|80=>85|n=>n,fun|n=>n⟩
theorem Tryz.lays156:Go.Proofs.Lays.n156 Tryz.prog Tryz.lays156_ren:={
 mixed:=by kernel_rfl
 f156:=Tryz.func99.trans (congrArg I (by kernel_rfl))
 f165:=Tryz.func154.trans (congrArg I (by kernel_rfl))
 f166:=Tryz.func155.trans (congrArg I (by kernel_rfl))
 f169:=Tryz.func156.trans (congrArg I (by kernel_rfl))
 f240:=Tryz.func226.trans (congrArg I (by kernel_rfl))
 f241:=Tryz.func227.trans (congrArg I (by kernel_rfl))
 f276:=Tryz.func259.trans (congrArg I (by kernel_rfl))
 f277:=Tryz.func260.trans (congrArg I (by kernel_rfl))
 t0:=Tryz.underlying0
 a0:=Tryz.isAgg0
 z0:=Tryz.sizeOf0
 v0:=Tryz.zeroValue0
 t3:=Tryz.underlying3
 a3:=Tryz.isAgg3
 z3:=Tryz.sizeOf3
 v3:=Tryz.zeroValue3
 t4:=Tryz.underlying4
 a4:=Tryz.isAgg4
 z4:=Tryz.sizeOf4
 v4:=Tryz.zeroValue4
 t9:=Tryz.underlying9
 a9:=Tryz.isAgg9
 z9:=Tryz.sizeOf9
 v9:=Tryz.zeroValue9
 t20:=Tryz.underlying20
 a20:=Tryz.isAgg20
 z20:=Tryz.sizeOf20
 v20:=Tryz.zeroValue20
 t31:=Tryz.underlying23
 a31:=Tryz.isAgg23
 z31:=Tryz.sizeOf23
 v31:=Tryz.zeroValue23
 t37:=Tryz.underlying227
 a37:=Tryz.isAgg227
 z37:=Tryz.sizeOf227
 v37:=Tryz.zeroValue227
 t70:=Tryz.underlying226
 a70:=Tryz.isAgg226
 z70:=Tryz.sizeOf226
 v70:=Tryz.zeroValue226
 t72:=Tryz.underlying229
 a72:=Tryz.isAgg229
 z72:=Tryz.sizeOf229
 v72:=Tryz.zeroValue229
 t75:=Tryz.underlying232
 a75:=Tryz.isAgg232
 z75:=Tryz.sizeOf232
 v75:=Tryz.zeroValue232
 t76:=Tryz.underlying233
 a76:=Tryz.isAgg233
 z76:=Tryz.sizeOf233
 v76:=Tryz.zeroValue233
 t127:=Tryz.underlying281
 a127:=Tryz.isAgg281
 z127:=Tryz.sizeOf281
 v127:=Tryz.zeroValue281
 t164:=Tryz.underlying312
 a164:=Tryz.isAgg312
 z164:=Tryz.sizeOf312
 v164:=Tryz.zeroValue312 }
theorem Tryz.Builder_Extra_156:Builder.Extra Tryz.prog Tryz.lays156_ren:={
 sizeBuilder:=by kernel_rfl
 liesBuilder:=by kernel_rfl
 t5:=Tryz.underlying5
 a5:=Tryz.isAgg5
 z5:=Tryz.sizeOf5
 v5:=Tryz.zeroValue5
 infoByte:=by kernel_rfl
 cellsByte:=by kernel_rfl
 sizeByte:=by kernel_rfl
 neB5:=by decide }
open Go.RowKit in
theorem Tryz.strings_Join_none (a:Option Addr)(c:Nat)(sep:ByteArray)(w:World):
  Calls Tryz.prog 99 #[.slice a 0 c,.string sep] w fun e w'=>e=.returned (.string ⟨#[]⟩)∧w'=w:=Any.strings_Join_none Tryz.lays156 Tryz.Builder_Extra_156 a c sep w
open Go.RowKit in
theorem Tryz.strings_Join (bk o c:Nat)(xs:List ByteArray)(sep:ByteArray)(w:World)(hcells:∀(j:Nat) x,xs[j]?=I x→w.cell? ⟨bk,o+j,none⟩=I (.string x))(hbk:bk<w.heap.size)(hN:xs.length≤140737488355328)(hcap:xs.length≤c)(hlen:(Lib.join (xs.map (·.data.toList)) sep.data.toList).length≤140737488355328):
  Calls Tryz.prog 99 #[.slice (I ⟨bk,o,none⟩) xs.length c,.string sep] w fun e w'=>e=.returned (.string ⟨(Lib.join (xs.map (·.data.toList)) sep.data.toList).toArray⟩)∧Below w.heap.size w w':=Any.strings_Join Tryz.lays156 Tryz.Builder_Extra_156 bk o c xs sep w hcells hbk hN hcap hlen
def Tryz.laysM171_ren:Go.Shelf.Ren:=⟨fun |171=>153|243=>225|246=>258|283=>273|284=>274|285=>275|286=>276|129=>284|317=>283|318=>285|319=>286|320=>287|337=>288|338=>289|n=>n,fun|3=>3|9=>9|2=>2|4=>4|171=>325|0=>0|53=>326|37=>227|5=>5|173=>329|212=>338|51=>331|20=>20|213=>339|46=>315|232=>346|233=>347|n=>n,fun|17=>1|18=>4|19=>5|n=>n⟩
theorem Tryz.laysM171:Go.Proofs.LaysM.n171 Tryz.prog Tryz.laysM171_ren:={
 mixed:=by kernel_rfl
 f129:=Tryz.func284.trans (congrArg I (by kernel_rfl))
 f171:=Tryz.func153.trans (congrArg I (by kernel_rfl))
 f243:=Tryz.func225.trans (congrArg I (by kernel_rfl))
 f246:=Tryz.func258.trans (congrArg I (by kernel_rfl))
 f283:=Tryz.func273.trans (congrArg I (by kernel_rfl))
 f284:=Tryz.func274.trans (congrArg I (by kernel_rfl))
 f285:=Tryz.func275.trans (congrArg I (by kernel_rfl))
 f286:=Tryz.func276.trans (congrArg I (by kernel_rfl))
 f317:=Tryz.func283.trans (congrArg I (by kernel_rfl))
 f318:=Tryz.func285.trans (congrArg I (by kernel_rfl))
 f319:=Tryz.func286.trans (congrArg I (by kernel_rfl))
 f320:=Tryz.func287.trans (congrArg I (by kernel_rfl))
 f337:=Tryz.func288.trans (congrArg I (by kernel_rfl))
 f338:=Tryz.func289.trans (congrArg I (by kernel_rfl))
 t0:=Tryz.underlying0
 a0:=Tryz.isAgg0
 z0:=Tryz.sizeOf0
 v0:=Tryz.zeroValue0
 t2:=Tryz.underlying2
 a2:=Tryz.isAgg2
 z2:=Tryz.sizeOf2
 v2:=Tryz.zeroValue2
 t3:=Tryz.underlying3
 a3:=Tryz.isAgg3
 z3:=Tryz.sizeOf3
 v3:=Tryz.zeroValue3
 t4:=Tryz.underlying4
 a4:=Tryz.isAgg4
 z4:=Tryz.sizeOf4
 v4:=Tryz.zeroValue4
 t5:=Tryz.underlying5
 a5:=Tryz.isAgg5
 z5:=Tryz.sizeOf5
 v5:=Tryz.zeroValue5
 t9:=Tryz.underlying9
 a9:=Tryz.isAgg9
 z9:=Tryz.sizeOf9
 v9:=Tryz.zeroValue9
 t20:=Tryz.underlying20
 a20:=Tryz.isAgg20
 z20:=Tryz.sizeOf20
 v20:=Tryz.zeroValue20
 t37:=Tryz.underlying227
 a37:=Tryz.isAgg227
 z37:=Tryz.sizeOf227
 v37:=Tryz.zeroValue227
 t46:=Tryz.underlying315
 a46:=Tryz.isAgg315
 z46:=Tryz.sizeOf315
 v46:=Tryz.zeroValue315
 t51:=Tryz.underlying331
 a51:=Tryz.isAgg331
 z51:=Tryz.sizeOf331
 v51:=Tryz.zeroValue331
 t53:=Tryz.underlying326
 a53:=Tryz.isAgg326
 z53:=Tryz.sizeOf326
 v53:=Tryz.zeroValue326
 t171:=Tryz.underlying325
 a171:=Tryz.isAgg325
 z171:=Tryz.sizeOf325
 v171:=Tryz.zeroValue325
 t173:=Tryz.underlying329
 a173:=Tryz.isAgg329
 z173:=Tryz.sizeOf329
 v173:=Tryz.zeroValue329
 t212:=Tryz.underlying338
 a212:=Tryz.isAgg338
 z212:=Tryz.sizeOf338
 v212:=Tryz.zeroValue338
 t213:=Tryz.underlying339
 a213:=Tryz.isAgg339
 z213:=Tryz.sizeOf339
 t232:=Tryz.underlying346
 a232:=Tryz.isAgg346
 z232:=Tryz.sizeOf346
 v232:=Tryz.zeroValue346
 t233:=Tryz.underlying347
 a233:=Tryz.isAgg347
 z233:=Tryz.sizeOf347
 v233:=Tryz.zeroValue347
 g17:=by kernel_rfl
 g18:=by kernel_rfl
 g19:=by kernel_rfl
 i0:=by kernel_rfl
 i2:=by kernel_rfl
 i3:=by kernel_rfl
 i4:=by kernel_rfl
 i5:=by kernel_rfl
 i9:=by kernel_rfl
 i20:=by kernel_rfl
 i37:=by kernel_rfl
 i46:=by kernel_rfl
 i51:=by kernel_rfl
 i53:=by kernel_rfl
 i171:=by kernel_rfl
 i173:=by kernel_rfl
 i212:=by kernel_rfl
 i232:=by kernel_rfl
 i233:=by kernel_rfl
 m17:=by kernel_rfl
 m18:=by kernel_rfl
 m19:=by kernel_rfl }
open Go.RowKit Go.Sort Go.Lib in
theorem Tryz.strconv_Itoa (n : Int) (h0 : -9223372036854775808 ≤ n) (h1 : n ≤ 9223372036854775807) (w : World) (htab : Lib.TabIs Tryz.prog w "internal/strconv.uint64pow10" .u64 Lib.pow10Tab) :
  Calls Tryz.prog 153 #[.int .i64 n] w fun e w'=>e=.returned (.string ⟨(Lib.itoa n).toArray⟩)∧∃k os,w'=grow (w.drewN k) os:=Any.strconv_Itoa Tryz.laysM171 n h0 h1 w htab
def Tryz.lays217_ren:Go.Shelf.Ren:=⟨fun |217=>264|266=>280|n=>n,fun|9=>9|5=>5|3=>3|n=>n,fun|n=>n⟩
theorem Tryz.lays217:Go.Proofs.Lays.n217 Tryz.prog Tryz.lays217_ren:={
 mixed:=by kernel_rfl
 f217:=Tryz.func264.trans (congrArg I (by kernel_rfl))
 f266:=Tryz.func280.trans (congrArg I (by kernel_rfl))
 t3:=Tryz.underlying3
 a3:=Tryz.isAgg3
 z3:=Tryz.sizeOf3
 v3:=Tryz.zeroValue3
 t5:=Tryz.underlying5
 a5:=Tryz.isAgg5
 z5:=Tryz.sizeOf5
 v5:=Tryz.zeroValue5
 t9:=Tryz.underlying9
 a9:=Tryz.isAgg9
 z9:=Tryz.sizeOf9
 v9:=Tryz.zeroValue9 }
open Go.RowKit Go.Lib in
theorem Tryz.stringslite_IndexByte (s:ByteArray)(c:Int)(w:World):
  Calls Tryz.prog 264 #[.string s,.int .u8 c] w fun e w'=>e=.returned (.int .i64 (Lib.indexByte s.data.toList c.toNat.toUInt8))∧w'=w:=Any.stringslite_IndexByte Tryz.lays217 s c w
def Tryz.lays146_ren:Go.Shelf.Ren:=⟨fun |146=>149|221=>212|268=>253|138=>254|143=>255|195=>270|197=>271|218=>272|219=>230|260=>282|217=>264|225=>265|224=>266|267=>267|266=>280|314=>281|n=>n,fun|9=>9|31=>23|3=>3|4=>4|0=>0|105=>323|21=>21|5=>5|46=>315|119=>341|139=>344|138=>343|146=>332|51=>331|n=>n,fun|1=>0|3=>2|4=>3|n=>n⟩
theorem Tryz.lays146:Go.Proofs.Lays.n146 Tryz.prog Tryz.lays146_ren:={
 mixed:=by kernel_rfl
 f138:=Tryz.func254.trans (congrArg I (by kernel_rfl))
 f143:=Tryz.func255.trans (congrArg I (by kernel_rfl))
 f146:=Tryz.func149.trans (congrArg I (by kernel_rfl))
 f195:=Tryz.func270.trans (congrArg I (by kernel_rfl))
 f197:=Tryz.func271.trans (congrArg I (by kernel_rfl))
 f217:=Tryz.func264.trans (congrArg I (by kernel_rfl))
 f218:=Tryz.func272.trans (congrArg I (by kernel_rfl))
 f219:=Tryz.func230.trans (congrArg I (by kernel_rfl))
 f221:=Tryz.func212.trans (congrArg I (by kernel_rfl))
 f224:=Tryz.func266.trans (congrArg I (by kernel_rfl))
 f225:=Tryz.func265.trans (congrArg I (by kernel_rfl))
 f260:=Tryz.func282.trans (congrArg I (by kernel_rfl))
 f266:=Tryz.func280.trans (congrArg I (by kernel_rfl))
 f267:=Tryz.func267.trans (congrArg I (by kernel_rfl))
 f268:=Tryz.func253.trans (congrArg I (by kernel_rfl))
 f314:=Tryz.func281.trans (congrArg I (by kernel_rfl))
 t0:=Tryz.underlying0
 a0:=Tryz.isAgg0
 z0:=Tryz.sizeOf0
 v0:=Tryz.zeroValue0
 t3:=Tryz.underlying3
 a3:=Tryz.isAgg3
 z3:=Tryz.sizeOf3
 v3:=Tryz.zeroValue3
 t4:=Tryz.underlying4
 a4:=Tryz.isAgg4
 z4:=Tryz.sizeOf4
 v4:=Tryz.zeroValue4
 t5:=Tryz.underlying5
 a5:=Tryz.isAgg5
 z5:=Tryz.sizeOf5
 v5:=Tryz.zeroValue5
 t9:=Tryz.underlying9
 a9:=Tryz.isAgg9
 z9:=Tryz.sizeOf9
 v9:=Tryz.zeroValue9
 t21:=Tryz.underlying21
 a21:=Tryz.isAgg21
 z21:=Tryz.sizeOf21
 v21:=Tryz.zeroValue21
 t31:=Tryz.underlying23
 a31:=Tryz.isAgg23
 z31:=Tryz.sizeOf23
 v31:=Tryz.zeroValue23
 t46:=Tryz.underlying315
 a46:=Tryz.isAgg315
 z46:=Tryz.sizeOf315
 v46:=Tryz.zeroValue315
 t51:=Tryz.underlying331
 a51:=Tryz.isAgg331
 z51:=Tryz.sizeOf331
 v51:=Tryz.zeroValue331
 t105:=Tryz.underlying323
 a105:=Tryz.isAgg323
 z105:=Tryz.sizeOf323
 v105:=Tryz.zeroValue323
 t119:=Tryz.underlying341
 a119:=Tryz.isAgg341
 z119:=Tryz.sizeOf341
 t138:=Tryz.underlying343
 a138:=Tryz.isAgg343
 z138:=Tryz.sizeOf343
 v138:=Tryz.zeroValue343
 t139:=Tryz.underlying344
 a139:=Tryz.isAgg344
 z139:=Tryz.sizeOf344
 v139:=Tryz.zeroValue344
 t146:=Tryz.underlying332
 a146:=Tryz.isAgg332
 z146:=Tryz.sizeOf332
 v146:=Tryz.zeroValue332
 g1:=by kernel_rfl
 g3:=by kernel_rfl
 g4:=by kernel_rfl }
open Go.RowKit Go.Lib in
theorem Tryz.strings_Split (s sep:ByteArray)(m:Int)(w:World)(hs:s.size<4294967281)(hm:w.cell? ⟨0,0,none⟩=I (.int .i64 m))(h1:1≤sep.size):
  Calls Tryz.prog 149 #[.string s,.string sep] w fun e w'=>
   e=.returned (.slice (I ⟨w.heap.size,0,none⟩) (Lib.countB s sep+1) (Lib.countB s sep+1))∧w'=w.alloc (.cells ((Lib.splitB sep 0 (Lib.countB s sep) s).map Value.string).toArray 9):=Any.strings_Split Tryz.lays146 (by kernel_rfl) s sep m w hs hm h1
def Tryz.lays105_ren:Go.Shelf.Ren:=⟨fun |105=>229|212=>261|99=>262|165=>154|166=>155|170=>263|169=>156|263=>277|264=>278|206=>279|240=>226|241=>227|276=>259|277=>260|n=>n,fun|9=>9|3=>3|4=>4|20=>20|0=>0|46=>315|109=>316|5=>5|72=>229|76=>233|51=>331|146=>332|53=>326|148=>334|70=>226|37=>227|75=>232|127=>281|164=>312|80=>85|n=>n,fun|n=>n⟩
theorem Tryz.lays105:Go.Proofs.Lays.n105 Tryz.prog Tryz.lays105_ren:={
 mixed:=by kernel_rfl
 f99:=Tryz.func262.trans (congrArg I (by kernel_rfl))
 f105:=Tryz.func229.trans (congrArg I (by kernel_rfl))
 f165:=Tryz.func154.trans (congrArg I (by kernel_rfl))
 f166:=Tryz.func155.trans (congrArg I (by kernel_rfl))
 f169:=Tryz.func156.trans (congrArg I (by kernel_rfl))
 f170:=Tryz.func263.trans (congrArg I (by kernel_rfl))
 f206:=Tryz.func279.trans (congrArg I (by kernel_rfl))
 f212:=Tryz.func261.trans (congrArg I (by kernel_rfl))
 f240:=Tryz.func226.trans (congrArg I (by kernel_rfl))
 f241:=Tryz.func227.trans (congrArg I (by kernel_rfl))
 f263:=Tryz.func277.trans (congrArg I (by kernel_rfl))
 f264:=Tryz.func278.trans (congrArg I (by kernel_rfl))
 f276:=Tryz.func259.trans (congrArg I (by kernel_rfl))
 f277:=Tryz.func260.trans (congrArg I (by kernel_rfl))
 t0:=Tryz.underlying0
 a0:=Tryz.isAgg0
 z0:=Tryz.sizeOf0
 v0:=Tryz.zeroValue0
 t3:=Tryz.underlying3
 a3:=Tryz.isAgg3
 z3:=Tryz.sizeOf3
 v3:=Tryz.zeroValue3
 t4:=Tryz.underlying4
 a4:=Tryz.isAgg4
 z4:=Tryz.sizeOf4
 v4:=Tryz.zeroValue4
 t5:=Tryz.underlying5
 a5:=Tryz.isAgg5
 z5:=Tryz.sizeOf5
 v5:=Tryz.zeroValue5
 t9:=Tryz.underlying9
 a9:=Tryz.isAgg9
 z9:=Tryz.sizeOf9
 v9:=Tryz.zeroValue9
 t20:=Tryz.underlying20
 a20:=Tryz.isAgg20
 z20:=Tryz.sizeOf20
 v20:=Tryz.zeroValue20
 t37:=Tryz.underlying227
 a37:=Tryz.isAgg227
 z37:=Tryz.sizeOf227
 v37:=Tryz.zeroValue227
 t46:=Tryz.underlying315
 a46:=Tryz.isAgg315
 z46:=Tryz.sizeOf315
 v46:=Tryz.zeroValue315
 t51:=Tryz.underlying331
 a51:=Tryz.isAgg331
 z51:=Tryz.sizeOf331
 v51:=Tryz.zeroValue331
 t53:=Tryz.underlying326
 a53:=Tryz.isAgg326
 z53:=Tryz.sizeOf326
 v53:=Tryz.zeroValue326
 t70:=Tryz.underlying226
 a70:=Tryz.isAgg226
 z70:=Tryz.sizeOf226
 v70:=Tryz.zeroValue226
 t72:=Tryz.underlying229
 a72:=Tryz.isAgg229
 z72:=Tryz.sizeOf229
 v72:=Tryz.zeroValue229
 t75:=Tryz.underlying232
 a75:=Tryz.isAgg232
 z75:=Tryz.sizeOf232
 v75:=Tryz.zeroValue232
 t76:=Tryz.underlying233
 a76:=Tryz.isAgg233
 z76:=Tryz.sizeOf233
 v76:=Tryz.zeroValue233
 t109:=Tryz.underlying316
 a109:=Tryz.isAgg316
 z109:=Tryz.sizeOf316
 v109:=Tryz.zeroValue316
 t127:=Tryz.underlying281
 a127:=Tryz.isAgg281
 z127:=Tryz.sizeOf281
 v127:=Tryz.zeroValue281
 t146:=Tryz.underlying332
 a146:=Tryz.isAgg332
 z146:=Tryz.sizeOf332
 v146:=Tryz.zeroValue332
 t148:=Tryz.underlying334
 a148:=Tryz.isAgg334
 z148:=Tryz.sizeOf334
 v148:=Tryz.zeroValue334
 t164:=Tryz.underlying312
 a164:=Tryz.isAgg312
 z164:=Tryz.sizeOf312
 v164:=Tryz.zeroValue312 }
theorem Tryz.Builder_Extra_105:Builder.Extra Tryz.prog Tryz.lays105_ren:={
 sizeBuilder:=by kernel_rfl
 liesBuilder:=by kernel_rfl
 t5:=Tryz.underlying5
 a5:=Tryz.isAgg5
 z5:=Tryz.sizeOf5
 v5:=Tryz.zeroValue5
 infoByte:=by kernel_rfl
 cellsByte:=by kernel_rfl
 sizeByte:=by kernel_rfl
 neB5:=by decide }
open Go.RowKit Go.Lib in
theorem Tryz.strings_Repeat (s:ByteArray)(c:Nat)(w:World)(hc:c≤9223372036854775807)(hlen:s.size*c≤140737488355328):
  Calls Tryz.prog 229 #[.string s,.int .i64 c] w fun e w'=>e=.returned (.string ⟨(Lib.repeatL s.data.toList c).toArray⟩)∧Below w.heap.size w w':=Any.strings_Repeat Tryz.lays105 Tryz.Builder_Extra_105 s c w hc hlen
end Go.Proofs
