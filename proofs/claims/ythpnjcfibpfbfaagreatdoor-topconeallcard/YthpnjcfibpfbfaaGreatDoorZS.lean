/- DERIVED. -/
import Derived.Shelf.Strings.OnBuilder
import Derived.Shelf.Small.Bits
import Derived.Shelf.Small.Wraps
import Derived.Shelf.Strings.BuilderK
import Derived.Shelf.Strconv.Itoa3
import Derived.Shelf.Bits.Mul64
import Derived.Shelf.Slices.SearchI
import Derived.Test.YthpnjcfibpfbfaaGreatDoorChecked
set_option linter.unusedVariables false
set_option linter.unusedSimpArgs false
namespace Go.Proofs
open Go.Shelf
def Tryz.lays169_ren:Go.Shelf.Ren:=⟨fun |169=>79|n=>n,fun|70=>139|9=>9|0=>0|72=>142|37=>140|127=>193|3=>3|5=>5|n=>n,fun|n=>n⟩
theorem Tryz.lays169:Go.Proofs.Lays.n169 Tryz.prog Tryz.lays169_ren:={
 mixed:=by kernel_rfl
 f169:=Tryz.func79.trans (congrArg some (by kernel_rfl))
 t0:=Tryz.underlying0
 a0:=Tryz.isAgg0
 z0:=Tryz.sizeOf0
 v0:=Tryz.zeroValue0
 t3:=Tryz.underlying3
 a3:=Tryz.isAgg3
 z3:=Tryz.sizeOf3
 v3:=Tryz.zeroValue3
 t9:=Tryz.underlying9
 a9:=Tryz.isAgg9
 z9:=Tryz.sizeOf9
 v9:=Tryz.zeroValue9
 t37:=Tryz.underlying140
 a37:=Tryz.isAgg140
 z37:=Tryz.sizeOf140
 v37:=Tryz.zeroValue140
 t70:=Tryz.underlying139
 a70:=Tryz.isAgg139
 z70:=Tryz.sizeOf139
 v70:=Tryz.zeroValue139
 t72:=Tryz.underlying142
 a72:=Tryz.isAgg142
 z72:=Tryz.sizeOf142
 v72:=Tryz.zeroValue142
 t127:=Tryz.underlying193
 a127:=Tryz.isAgg193
 z127:=Tryz.sizeOf193
 v127:=Tryz.zeroValue193 }
theorem Tryz.Builder_Extra_169:Builder.Extra Tryz.prog Tryz.lays169_ren:={
 sizeBuilder:=by kernel_rfl
 liesBuilder:=by kernel_rfl
 t5:=Tryz.underlying5
 a5:=Tryz.isAgg5
 z5:=Tryz.sizeOf5
 v5:=Tryz.zeroValue5
 infoByte:=by kernel_rfl
 cellsByte:=by kernel_rfl
 sizeByte:=by kernel_rfl
 neB5:=by decide }
open Go.RowKit in
theorem Tryz.Builder_String_any (B b:Nat)(l:List UInt8)(w:World)(h:Lib.IsBuilder 142 5 B b (Lib.byteCells l) w)(hBw:B≤w.heap.size):
  Calls Tryz.prog 79 #[.pointer (some ⟨b,0,none⟩)] w fun e w'=>e=.returned (.string ⟨l.toArray⟩)∧Below B w w':=Any.Builder_String_any Tryz.lays169 Tryz.Builder_Extra_169 B b l w h hBw
def Tryz.lays156_ren:Go.Shelf.Ren:=⟨fun |156=>76|165=>116|166=>75|169=>79|240=>115|241=>137|276=>136|277=>159|n=>n,fun|31=>148|9=>9|3=>3|4=>4|0=>0|20=>20|72=>142|76=>145|70=>139|37=>140|75=>144|127=>193|164=>214|5=>5|80=>151|n=>n,fun|n=>n⟩
theorem Tryz.lays156:Go.Proofs.Lays.n156 Tryz.prog Tryz.lays156_ren:={
 mixed:=by kernel_rfl
 f156:=Tryz.func76.trans (congrArg some (by kernel_rfl))
 f165:=Tryz.func116.trans (congrArg some (by kernel_rfl))
 f166:=Tryz.func75.trans (congrArg some (by kernel_rfl))
 f169:=Tryz.func79.trans (congrArg some (by kernel_rfl))
 f240:=Tryz.func115.trans (congrArg some (by kernel_rfl))
 f241:=Tryz.func137.trans (congrArg some (by kernel_rfl))
 f276:=Tryz.func136.trans (congrArg some (by kernel_rfl))
 f277:=Tryz.func159.trans (congrArg some (by kernel_rfl))
 t0:=Tryz.underlying0
 a0:=Tryz.isAgg0
 z0:=Tryz.sizeOf0
 v0:=Tryz.zeroValue0
 t3:=Tryz.underlying3
 a3:=Tryz.isAgg3
 z3:=Tryz.sizeOf3
 v3:=Tryz.zeroValue3
 t4:=Tryz.underlying4
 a4:=Tryz.isAgg4
 z4:=Tryz.sizeOf4
 v4:=Tryz.zeroValue4
 t9:=Tryz.underlying9
 a9:=Tryz.isAgg9
 z9:=Tryz.sizeOf9
 v9:=Tryz.zeroValue9
 t20:=Tryz.underlying20
 a20:=Tryz.isAgg20
 z20:=Tryz.sizeOf20
 v20:=Tryz.zeroValue20
 t31:=Tryz.underlying148
 a31:=Tryz.isAgg148
 z31:=Tryz.sizeOf148
 v31:=Tryz.zeroValue148
 t37:=Tryz.underlying140
 a37:=Tryz.isAgg140
 z37:=Tryz.sizeOf140
 v37:=Tryz.zeroValue140
 t70:=Tryz.underlying139
 a70:=Tryz.isAgg139
 z70:=Tryz.sizeOf139
 v70:=Tryz.zeroValue139
 t72:=Tryz.underlying142
 a72:=Tryz.isAgg142
 z72:=Tryz.sizeOf142
 v72:=Tryz.zeroValue142
 t75:=Tryz.underlying144
 a75:=Tryz.isAgg144
 z75:=Tryz.sizeOf144
 v75:=Tryz.zeroValue144
 t76:=Tryz.underlying145
 a76:=Tryz.isAgg145
 z76:=Tryz.sizeOf145
 v76:=Tryz.zeroValue145
 t127:=Tryz.underlying193
 a127:=Tryz.isAgg193
 z127:=Tryz.sizeOf193
 v127:=Tryz.zeroValue193
 t164:=Tryz.underlying214
 a164:=Tryz.isAgg214
 z164:=Tryz.sizeOf214
 v164:=Tryz.zeroValue214 }
theorem Tryz.Builder_Extra_156:Builder.Extra Tryz.prog Tryz.lays156_ren:={
 sizeBuilder:=by kernel_rfl
 liesBuilder:=by kernel_rfl
 t5:=Tryz.underlying5
 a5:=Tryz.isAgg5
 z5:=Tryz.sizeOf5
 v5:=Tryz.zeroValue5
 infoByte:=by kernel_rfl
 cellsByte:=by kernel_rfl
 sizeByte:=by kernel_rfl
 neB5:=by decide }
open Go.RowKit in
theorem Tryz.strings_Join (bk o c:Nat)(xs:List ByteArray)(sep:ByteArray)(w:World)(hcells:∀(j:Nat) x,xs[j]?=some x→w.cell? ⟨bk,o+j,none⟩=some (.string x))(hbk:bk<w.heap.size)(hN:xs.length≤140737488355328)(hcap:xs.length≤c)(hlen:(Lib.join (xs.map (·.data.toList)) sep.data.toList).length≤140737488355328):
  Calls Tryz.prog 76 #[.slice (some ⟨bk,o,none⟩) xs.length c,.string sep] w fun e w'=>e=.returned (.string ⟨(Lib.join (xs.map (·.data.toList)) sep.data.toList).toArray⟩)∧Below w.heap.size w w':=Any.strings_Join Tryz.lays156 Tryz.Builder_Extra_156 bk o c xs sep w hcells hbk hN hcap hlen
def Tryz.laysM171_ren:Go.Shelf.Ren:=⟨fun |171=>78|243=>117|246=>138|283=>160|284=>161|285=>162|286=>163|129=>151|317=>169|318=>170|319=>171|320=>172|337=>174|338=>175|n=>n,fun|3=>3|9=>9|2=>2|4=>4|171=>232|0=>0|53=>179|37=>140|5=>5|173=>234|212=>243|51=>228|20=>20|213=>244|46=>197|232=>248|233=>249|n=>n,fun|17=>3|18=>4|19=>5|n=>n⟩
theorem Tryz.laysM171:Go.Proofs.LaysM.n171 Tryz.prog Tryz.laysM171_ren:={
 mixed:=by kernel_rfl
 f129:=Tryz.func151.trans (congrArg some (by kernel_rfl))
 f171:=Tryz.func78.trans (congrArg some (by kernel_rfl))
 f243:=Tryz.func117.trans (congrArg some (by kernel_rfl))
 f246:=Tryz.func138.trans (congrArg some (by kernel_rfl))
 f283:=Tryz.func160.trans (congrArg some (by kernel_rfl))
 f284:=Tryz.func161.trans (congrArg some (by kernel_rfl))
 f285:=Tryz.func162.trans (congrArg some (by kernel_rfl))
 f286:=Tryz.func163.trans (congrArg some (by kernel_rfl))
 f317:=Tryz.func169.trans (congrArg some (by kernel_rfl))
 f318:=Tryz.func170.trans (congrArg some (by kernel_rfl))
 f319:=Tryz.func171.trans (congrArg some (by kernel_rfl))
 f320:=Tryz.func172.trans (congrArg some (by kernel_rfl))
 f337:=Tryz.func174.trans (congrArg some (by kernel_rfl))
 f338:=Tryz.func175.trans (congrArg some (by kernel_rfl))
 t0:=Tryz.underlying0
 a0:=Tryz.isAgg0
 z0:=Tryz.sizeOf0
 v0:=Tryz.zeroValue0
 t2:=Tryz.underlying2
 a2:=Tryz.isAgg2
 z2:=Tryz.sizeOf2
 v2:=Tryz.zeroValue2
 t3:=Tryz.underlying3
 a3:=Tryz.isAgg3
 z3:=Tryz.sizeOf3
 v3:=Tryz.zeroValue3
 t4:=Tryz.underlying4
 a4:=Tryz.isAgg4
 z4:=Tryz.sizeOf4
 v4:=Tryz.zeroValue4
 t5:=Tryz.underlying5
 a5:=Tryz.isAgg5
 z5:=Tryz.sizeOf5
 v5:=Tryz.zeroValue5
 t9:=Tryz.underlying9
 a9:=Tryz.isAgg9
 z9:=Tryz.sizeOf9
 v9:=Tryz.zeroValue9
 t20:=Tryz.underlying20
 a20:=Tryz.isAgg20
 z20:=Tryz.sizeOf20
 v20:=Tryz.zeroValue20
 t37:=Tryz.underlying140
 a37:=Tryz.isAgg140
 z37:=Tryz.sizeOf140
 v37:=Tryz.zeroValue140
 t46:=Tryz.underlying197
 a46:=Tryz.isAgg197
 z46:=Tryz.sizeOf197
 v46:=Tryz.zeroValue197
 t51:=Tryz.underlying228
 a51:=Tryz.isAgg228
 z51:=Tryz.sizeOf228
 v51:=Tryz.zeroValue228
 t53:=Tryz.underlying179
 a53:=Tryz.isAgg179
 z53:=Tryz.sizeOf179
 v53:=Tryz.zeroValue179
 t171:=Tryz.underlying232
 a171:=Tryz.isAgg232
 z171:=Tryz.sizeOf232
 v171:=Tryz.zeroValue232
 t173:=Tryz.underlying234
 a173:=Tryz.isAgg234
 z173:=Tryz.sizeOf234
 v173:=Tryz.zeroValue234
 t212:=Tryz.underlying243
 a212:=Tryz.isAgg243
 z212:=Tryz.sizeOf243
 v212:=Tryz.zeroValue243
 t213:=Tryz.underlying244
 a213:=Tryz.isAgg244
 z213:=Tryz.sizeOf244
 t232:=Tryz.underlying248
 a232:=Tryz.isAgg248
 z232:=Tryz.sizeOf248
 v232:=Tryz.zeroValue248
 t233:=Tryz.underlying249
 a233:=Tryz.isAgg249
 z233:=Tryz.sizeOf249
 v233:=Tryz.zeroValue249
 g17:=by kernel_rfl
 g18:=by kernel_rfl
 g19:=by kernel_rfl
 i0:=by kernel_rfl
 i2:=by kernel_rfl
 i3:=by kernel_rfl
 i4:=by kernel_rfl
 i5:=by kernel_rfl
 i9:=by kernel_rfl
 i20:=by kernel_rfl
 i37:=by kernel_rfl
 i46:=by kernel_rfl
 i51:=by kernel_rfl
 i53:=by kernel_rfl
 i171:=by kernel_rfl
 i173:=by kernel_rfl
 i212:=by kernel_rfl
 i232:=by kernel_rfl
 i233:=by kernel_rfl
 m17:=by kernel_rfl
 m18:=by kernel_rfl
 m19:=by kernel_rfl }
open Go.RowKit Go.Sort Go.Lib in
theorem Tryz.strconv_Itoa (n : Int) (h0 : -9223372036854775808 ≤ n) (h1 : n ≤ 9223372036854775807) (w : World) (htab : Lib.TabIs Tryz.prog w "internal/strconv.uint64pow10" .u64 Lib.pow10Tab) :
  Calls Tryz.prog 78 #[.int .i64 n] w fun e w'=>e=.returned (.string ⟨(Lib.itoa n).toArray⟩)∧∃k os,w'=grow (w.drewN k) os:=Any.strconv_Itoa Tryz.laysM171 n h0 h1 w htab
end Go.Proofs
