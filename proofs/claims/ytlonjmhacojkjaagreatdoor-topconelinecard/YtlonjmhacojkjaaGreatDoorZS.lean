/-
  DERIVED: THE SHELF's CONTRACTS AT THIS DUMP, IN PLAIN WORDS (tools/lay-plain.mjs out of 'TryzCut.lean', which tools/lay-shelf.mjs wrote): THE SAME DECLARATIONS UNDER THE SAME NAMES: 'import', 'namespace', 'open', 'def', 'theorem' AND NOTHING ELSE: no command of the shelf's: FOR A HAND-IN. Each laying: the table of numbers ('.._ren') and one theorem, a field a fact of the dump's own or the kernel's comparison; each contract: ONE APPLICATION.
-/
import Derived.Shelf.Strings.Builder1
import Derived.Shelf.Strings.Builder2
import Derived.Shelf.Strings.OnBuilder
import Derived.Shelf.Small.Strs
import Derived.Shelf.Small.Wraps
import Derived.Shelf.Strings.BuilderF
import Derived.Shelf.Strings.BuilderK
import Derived.Shelf.Utf8.RuneCount
import Derived.Shelf.Strconv.Itoa0
import Derived.Shelf.Strconv.Itoa1
import Derived.Shelf.LaysM
import Derived.Shelf.Strconv.Itoa2
import Derived.Shelf.Strconv.Itoa3
import Derived.Shelf.Strings.Search1
import Derived.Shelf.Strings.Search2
import Derived.Shelf.Strings.Search3
import Derived.Shelf.Strings.Count
import Derived.Shelf.Strings.Shaped
import Derived.Shelf.Strings.Prefix
import Derived.Shelf.Strings.Split
import Derived.Shelf.Strings.SplitShaped
import Derived.Shelf.Unicode.Decode
import Derived.Shelf.Strings.RuneCount
import Derived.Shelf.Strings.Explode
import Derived.Shelf.Unicode.DecodeSlow
import Derived.Shelf.Unicode.DecodeAny
import Derived.Shelf.Slices.Turned
import Derived.Ground.SlgnProg
import Derived.Shelf.SlicesE.Clone
import Derived.Test.YtlonjmhacojkjaaGreatDoorChecked
set_option linter.unusedVariables false
set_option linter.unusedSimpArgs false
namespace Go.Proofs
open Go.Shelf
def Tryz.lays169_ren:Go.Shelf.Ren:=⟨fun | 169=>37 | n=>n,fun | 70=>75 | 9=>9 | 0=>0 | 72=>78 | 37=>76 | 127=>117 | 3=>3 | 5=>5 | n=>n,fun | n=>n⟩
theorem Tryz.lays169:Go.Proofs.Lays.n169 Tryz.prog Tryz.lays169_ren:={
 mixed:=by kernel_rfl
 f169:=Tryz.func37.trans (congrArg some (by kernel_rfl))
 t0:=Tryz.underlying0
 a0:=Tryz.isAgg0
 z0:=Tryz.sizeOf0
 v0:=Tryz.zeroValue0
 t3:=Tryz.underlying3
 a3:=Tryz.isAgg3
 z3:=Tryz.sizeOf3
 v3:=Tryz.zeroValue3
 t9:=Tryz.underlying9
 a9:=Tryz.isAgg9
 z9:=Tryz.sizeOf9
 v9:=Tryz.zeroValue9
 t37:=Tryz.underlying76
 a37:=Tryz.isAgg76
 z37:=Tryz.sizeOf76
 v37:=Tryz.zeroValue76
 t70:=Tryz.underlying75
 a70:=Tryz.isAgg75
 z70:=Tryz.sizeOf75
 v70:=Tryz.zeroValue75
 t72:=Tryz.underlying78
 a72:=Tryz.isAgg78
 z72:=Tryz.sizeOf78
 v72:=Tryz.zeroValue78
 t127:=Tryz.underlying117
 a127:=Tryz.isAgg117
 z127:=Tryz.sizeOf117
 v127:=Tryz.zeroValue117 }
theorem Tryz.Builder_Extra_169:Builder.Extra Tryz.prog Tryz.lays169_ren:={
 sizeBuilder:=by kernel_rfl
 liesBuilder:=by kernel_rfl
 t5:=Tryz.underlying5
 a5:=Tryz.isAgg5
 z5:=Tryz.sizeOf5
 v5:=Tryz.zeroValue5
 infoByte:=by kernel_rfl
 cellsByte:=by kernel_rfl
 sizeByte:=by kernel_rfl
 neB5:=by decide }
def Tryz.lays156_ren:Go.Shelf.Ren:=⟨fun | 156=>34 | 165=>63 | 166=>33 | 169=>37 | 240=>62 | 241=>89 | 276=>88 | 277=>106 | n=>n,fun | 31=>84 | 9=>9 | 3=>3 | 4=>4 | 0=>0 | 20=>20 | 72=>78 | 76=>81 | 70=>75 | 37=>76 | 75=>80 | 127=>117 | 164=>134 | 5=>5 | 80=>86 | n=>n,fun | n=>n⟩
theorem Tryz.lays156:Go.Proofs.Lays.n156 Tryz.prog Tryz.lays156_ren:={
 mixed:=by kernel_rfl
 f156:=Tryz.func34.trans (congrArg some (by kernel_rfl))
 f165:=Tryz.func63.trans (congrArg some (by kernel_rfl))
 f166:=Tryz.func33.trans (congrArg some (by kernel_rfl))
 f169:=Tryz.func37.trans (congrArg some (by kernel_rfl))
 f240:=Tryz.func62.trans (congrArg some (by kernel_rfl))
 f241:=Tryz.func89.trans (congrArg some (by kernel_rfl))
 f276:=Tryz.func88.trans (congrArg some (by kernel_rfl))
 f277:=Tryz.func106.trans (congrArg some (by kernel_rfl))
 t0:=Tryz.underlying0
 a0:=Tryz.isAgg0
 z0:=Tryz.sizeOf0
 v0:=Tryz.zeroValue0
 t3:=Tryz.underlying3
 a3:=Tryz.isAgg3
 z3:=Tryz.sizeOf3
 v3:=Tryz.zeroValue3
 t4:=Tryz.underlying4
 a4:=Tryz.isAgg4
 z4:=Tryz.sizeOf4
 v4:=Tryz.zeroValue4
 t9:=Tryz.underlying9
 a9:=Tryz.isAgg9
 z9:=Tryz.sizeOf9
 v9:=Tryz.zeroValue9
 t20:=Tryz.underlying20
 a20:=Tryz.isAgg20
 z20:=Tryz.sizeOf20
 v20:=Tryz.zeroValue20
 t31:=Tryz.underlying84
 a31:=Tryz.isAgg84
 z31:=Tryz.sizeOf84
 v31:=Tryz.zeroValue84
 t37:=Tryz.underlying76
 a37:=Tryz.isAgg76
 z37:=Tryz.sizeOf76
 v37:=Tryz.zeroValue76
 t70:=Tryz.underlying75
 a70:=Tryz.isAgg75
 z70:=Tryz.sizeOf75
 v70:=Tryz.zeroValue75
 t72:=Tryz.underlying78
 a72:=Tryz.isAgg78
 z72:=Tryz.sizeOf78
 v72:=Tryz.zeroValue78
 t75:=Tryz.underlying80
 a75:=Tryz.isAgg80
 z75:=Tryz.sizeOf80
 v75:=Tryz.zeroValue80
 t76:=Tryz.underlying81
 a76:=Tryz.isAgg81
 z76:=Tryz.sizeOf81
 v76:=Tryz.zeroValue81
 t127:=Tryz.underlying117
 a127:=Tryz.isAgg117
 z127:=Tryz.sizeOf117
 v127:=Tryz.zeroValue117
 t164:=Tryz.underlying134
 a164:=Tryz.isAgg134
 z164:=Tryz.sizeOf134
 v164:=Tryz.zeroValue134 }
theorem Tryz.Builder_Extra_156:Builder.Extra Tryz.prog Tryz.lays156_ren:={
 sizeBuilder:=by kernel_rfl
 liesBuilder:=by kernel_rfl
 t5:=Tryz.underlying5
 a5:=Tryz.isAgg5
 z5:=Tryz.sizeOf5
 v5:=Tryz.zeroValue5
 infoByte:=by kernel_rfl
 cellsByte:=by kernel_rfl
 sizeByte:=by kernel_rfl
 neB5:=by decide }
open Go.RowKit in
theorem Tryz.strings_Join_none (a:Option Addr) (c:Nat) (sep:ByteArray) (w:World):
  Calls Tryz.prog 34 #[.slice a 0 c,.string sep] w fun e w'=>e=.returned (.string ⟨#[]⟩)∧w'=w:=Any.strings_Join_none Tryz.lays156 Tryz.Builder_Extra_156 a c sep w
open Go.RowKit in
theorem Tryz.strings_Join (bk o c:Nat) (xs:List ByteArray) (sep:ByteArray) (w:World) (hcells:∀ (j:Nat) x,xs[j]?=some x→w.cell? ⟨bk,o + j,none⟩=some (.string x)) (hbk:bk < w.heap.size) (hN:xs.length≤140737488355328) (hcap:xs.length≤c) (hlen:(Lib.join (xs.map (·.data.toList)) sep.data.toList).length≤140737488355328):
  Calls Tryz.prog 34 #[.slice (some ⟨bk,o,none⟩) xs.length c,.string sep] w fun e w'=>e=.returned (.string ⟨(Lib.join (xs.map (·.data.toList)) sep.data.toList).toArray⟩)∧Below w.heap.size w w':=Any.strings_Join Tryz.lays156 Tryz.Builder_Extra_156 bk o c xs sep w hcells hbk hN hcap hlen
def Tryz.lays137_ren:Go.Shelf.Ren:=⟨fun | 137=>66 | 217=>91 | 266=>111 | n=>n,fun | 9=>9 | 5=>5 | 3=>3 | n=>n,fun | n=>n⟩
theorem Tryz.lays137:Go.Proofs.Lays.n137 Tryz.prog Tryz.lays137_ren:={
 mixed:=by kernel_rfl
 f137:=Tryz.func66.trans (congrArg some (by kernel_rfl))
 f217:=Tryz.func91.trans (congrArg some (by kernel_rfl))
 f266:=Tryz.func111.trans (congrArg some (by kernel_rfl))
 t3:=Tryz.underlying3
 a3:=Tryz.isAgg3
 z3:=Tryz.sizeOf3
 v3:=Tryz.zeroValue3
 t5:=Tryz.underlying5
 a5:=Tryz.isAgg5
 z5:=Tryz.sizeOf5
 v5:=Tryz.zeroValue5
 t9:=Tryz.underlying9
 a9:=Tryz.isAgg9
 z9:=Tryz.sizeOf9
 v9:=Tryz.zeroValue9 }
open Go.RowKit in
theorem Tryz.strings_IndexByte (s:ByteArray) (c:Int) (w:World):
  Calls Tryz.prog 66 #[.string s,.int .u8 c] w fun e w'=>e=.returned (.int .i64 (Lib.indexByte s.data.toList c.toNat.toUInt8))∧w'=w:=Any.strings_IndexByte Tryz.lays137 s c w
def Tryz.lays103_ren:Go.Shelf.Ren:=⟨fun | 103=>115 | 210=>128 | 206=>137 | n=>n,fun | 9=>9 | 4=>4 | 24=>90 | 3=>3 | n=>n,fun | n=>n⟩
theorem Tryz.lays103:Go.Proofs.Lays.n103 Tryz.prog Tryz.lays103_ren:={
 mixed:=by kernel_rfl
 f103:=Tryz.func115.trans (congrArg some (by kernel_rfl))
 f206:=Tryz.func137.trans (congrArg some (by kernel_rfl))
 f210:=Tryz.func128.trans (congrArg some (by kernel_rfl))
 t3:=Tryz.underlying3
 a3:=Tryz.isAgg3
 z3:=Tryz.sizeOf3
 v3:=Tryz.zeroValue3
 t4:=Tryz.underlying4
 a4:=Tryz.isAgg4
 z4:=Tryz.sizeOf4
 v4:=Tryz.zeroValue4
 t9:=Tryz.underlying9
 a9:=Tryz.isAgg9
 z9:=Tryz.sizeOf9
 v9:=Tryz.zeroValue9
 t24:=Tryz.underlying90
 a24:=Tryz.isAgg90
 z24:=Tryz.sizeOf90
 v24:=Tryz.zeroValue90 }
open Go.RowKit in
theorem Tryz.strings_CutPrefix (s p:ByteArray) (w:World):
  Calls Tryz.prog 115 #[.string s,.string p] w fun e w'=>e=.returned (.tuple #[.string ⟨(Lib.trimPrefix s.data.toList p.data.toList).toArray⟩,.bool (Lib.hasPrefix s.data.toList p.data.toList)])∧w'=w:=Any.strings_CutPrefix Tryz.lays103 s p w
def Tryz.lays104_ren:Go.Shelf.Ren:=⟨fun | 104=>39 | 211=>67 | 207=>92 | n=>n,fun | 9=>9 | 4=>4 | 24=>90 | 3=>3 | n=>n,fun | n=>n⟩
theorem Tryz.lays104:Go.Proofs.Lays.n104 Tryz.prog Tryz.lays104_ren:={
 mixed:=by kernel_rfl
 f104:=Tryz.func39.trans (congrArg some (by kernel_rfl))
 f207:=Tryz.func92.trans (congrArg some (by kernel_rfl))
 f211:=Tryz.func67.trans (congrArg some (by kernel_rfl))
 t3:=Tryz.underlying3
 a3:=Tryz.isAgg3
 z3:=Tryz.sizeOf3
 v3:=Tryz.zeroValue3
 t4:=Tryz.underlying4
 a4:=Tryz.isAgg4
 z4:=Tryz.sizeOf4
 v4:=Tryz.zeroValue4
 t9:=Tryz.underlying9
 a9:=Tryz.isAgg9
 z9:=Tryz.sizeOf9
 v9:=Tryz.zeroValue9
 t24:=Tryz.underlying90
 a24:=Tryz.isAgg90
 z24:=Tryz.sizeOf90
 v24:=Tryz.zeroValue90 }
open Go.RowKit in
theorem Tryz.strings_CutSuffix (s p:ByteArray) (w:World) (hs:s.size≤9223372036854775807):
  Calls Tryz.prog 39 #[.string s,.string p] w fun e w'=>e=.returned (.tuple #[.string ⟨(Lib.trimSuffix s.data.toList p.data.toList).toArray⟩,.bool (Lib.hasSuffix s.data.toList p.data.toList)])∧w'=w:=Any.strings_CutSuffix Tryz.lays104 s p w hs
def Tryz.laysM171_ren:Go.Shelf.Ren:=⟨fun | 171=>36 | 243=>64 | 246=>90 | 283=>107 | 284=>108 | 285=>109 | 286=>110 | 129=>120 | 317=>119 | 318=>121 | 319=>122 | 320=>123 | 337=>131 | 338=>132 | n=>n,fun | 3=>3 | 9=>9 | 2=>2 | 4=>4 | 171=>150 | 0=>0 | 53=>151 | 37=>76 | 5=>5 | 173=>154 | 212=>162 | 51=>163 | 20=>20 | 213=>164 | 46=>166 | 232=>173 | 233=>174 | n=>n,fun | 17=>1 | 18=>2 | 19=>3 | n=>n⟩
theorem Tryz.laysM171:Go.Proofs.LaysM.n171 Tryz.prog Tryz.laysM171_ren:={
 mixed:=by kernel_rfl
 f129:=Tryz.func120.trans (congrArg some (by kernel_rfl))
 f171:=Tryz.func36.trans (congrArg some (by kernel_rfl))
 f243:=Tryz.func64.trans (congrArg some (by kernel_rfl))
 f246:=Tryz.func90.trans (congrArg some (by kernel_rfl))
 f283:=Tryz.func107.trans (congrArg some (by kernel_rfl))
 f284:=Tryz.func108.trans (congrArg some (by kernel_rfl))
 f285:=Tryz.func109.trans (congrArg some (by kernel_rfl))
 f286:=Tryz.func110.trans (congrArg some (by kernel_rfl))
 f317:=Tryz.func119.trans (congrArg some (by kernel_rfl))
 f318:=Tryz.func121.trans (congrArg some (by kernel_rfl))
 f319:=Tryz.func122.trans (congrArg some (by kernel_rfl))
 f320:=Tryz.func123.trans (congrArg some (by kernel_rfl))
 f337:=Tryz.func131.trans (congrArg some (by kernel_rfl))
 f338:=Tryz.func132.trans (congrArg some (by kernel_rfl))
 t0:=Tryz.underlying0
 a0:=Tryz.isAgg0
 z0:=Tryz.sizeOf0
 v0:=Tryz.zeroValue0
 t2:=Tryz.underlying2
 a2:=Tryz.isAgg2
 z2:=Tryz.sizeOf2
 v2:=Tryz.zeroValue2
 t3:=Tryz.underlying3
 a3:=Tryz.isAgg3
 z3:=Tryz.sizeOf3
 v3:=Tryz.zeroValue3
 t4:=Tryz.underlying4
 a4:=Tryz.isAgg4
 z4:=Tryz.sizeOf4
 v4:=Tryz.zeroValue4
 t5:=Tryz.underlying5
 a5:=Tryz.isAgg5
 z5:=Tryz.sizeOf5
 v5:=Tryz.zeroValue5
 t9:=Tryz.underlying9
 a9:=Tryz.isAgg9
 z9:=Tryz.sizeOf9
 v9:=Tryz.zeroValue9
 t20:=Tryz.underlying20
 a20:=Tryz.isAgg20
 z20:=Tryz.sizeOf20
 v20:=Tryz.zeroValue20
 t37:=Tryz.underlying76
 a37:=Tryz.isAgg76
 z37:=Tryz.sizeOf76
 v37:=Tryz.zeroValue76
 t46:=Tryz.underlying166
 a46:=Tryz.isAgg166
 z46:=Tryz.sizeOf166
 v46:=Tryz.zeroValue166
 t51:=Tryz.underlying163
 a51:=Tryz.isAgg163
 z51:=Tryz.sizeOf163
 v51:=Tryz.zeroValue163
 t53:=Tryz.underlying151
 a53:=Tryz.isAgg151
 z53:=Tryz.sizeOf151
 v53:=Tryz.zeroValue151
 t171:=Tryz.underlying150
 a171:=Tryz.isAgg150
 z171:=Tryz.sizeOf150
 v171:=Tryz.zeroValue150
 t173:=Tryz.underlying154
 a173:=Tryz.isAgg154
 z173:=Tryz.sizeOf154
 v173:=Tryz.zeroValue154
 t212:=Tryz.underlying162
 a212:=Tryz.isAgg162
 z212:=Tryz.sizeOf162
 v212:=Tryz.zeroValue162
 t213:=Tryz.underlying164
 a213:=Tryz.isAgg164
 z213:=Tryz.sizeOf164
 t232:=Tryz.underlying173
 a232:=Tryz.isAgg173
 z232:=Tryz.sizeOf173
 v232:=Tryz.zeroValue173
 t233:=Tryz.underlying174
 a233:=Tryz.isAgg174
 z233:=Tryz.sizeOf174
 v233:=Tryz.zeroValue174
 g17:=by kernel_rfl
 g18:=by kernel_rfl
 g19:=by kernel_rfl
 i0:=by kernel_rfl
 i2:=by kernel_rfl
 i3:=by kernel_rfl
 i4:=by kernel_rfl
 i5:=by kernel_rfl
 i9:=by kernel_rfl
 i20:=by kernel_rfl
 i37:=by kernel_rfl
 i46:=by kernel_rfl
 i51:=by kernel_rfl
 i53:=by kernel_rfl
 i171:=by kernel_rfl
 i173:=by kernel_rfl
 i212:=by kernel_rfl
 i232:=by kernel_rfl
 i233:=by kernel_rfl
 m17:=by kernel_rfl
 m18:=by kernel_rfl
 m19:=by kernel_rfl }
open Go.RowKit Go.Sort Go.Lib in
theorem Tryz.strconv_Itoa (n : Int) (h0 : -9223372036854775808 ≤ n) (h1 : n ≤ 9223372036854775807) (w : World) (htab : Lib.TabIs Tryz.prog w "internal/strconv.uint64pow10" .u64 Lib.pow10Tab) :
  Calls Tryz.prog 36 #[.int .i64 n] w fun e w'=>e=.returned (.string ⟨(Lib.itoa n).toArray⟩)∧∃ k os,w'=grow (w.drewN k) os:=Any.strconv_Itoa Tryz.laysM171 n h0 h1 w htab
def Tryz.lays146_ren:Go.Shelf.Ren:=⟨fun | 146=>68 | 221=>93 | 268=>112 | 138=>113 | 143=>114 | 195=>124 | 197=>125 | 218=>126 | 219=>127 | 260=>133 | 217=>91 | 225=>134 | 224=>135 | 267=>136 | 266=>111 | 314=>138 | n=>n,fun | 9=>9 | 31=>84 | 3=>3 | 4=>4 | 0=>0 | 105=>169 | 21=>21 | 5=>5 | 46=>166 | 119=>175 | 139=>178 | 138=>177 | 146=>179 | 51=>163 | n=>n,fun | 1=>0 | 3=>4 | 4=>5 | n=>n⟩
theorem Tryz.lays146:Go.Proofs.Lays.n146 Tryz.prog Tryz.lays146_ren:={
 mixed:=by kernel_rfl
 f138:=Tryz.func113.trans (congrArg some (by kernel_rfl))
 f143:=Tryz.func114.trans (congrArg some (by kernel_rfl))
 f146:=Tryz.func68.trans (congrArg some (by kernel_rfl))
 f195:=Tryz.func124.trans (congrArg some (by kernel_rfl))
 f197:=Tryz.func125.trans (congrArg some (by kernel_rfl))
 f217:=Tryz.func91.trans (congrArg some (by kernel_rfl))
 f218:=Tryz.func126.trans (congrArg some (by kernel_rfl))
 f219:=Tryz.func127.trans (congrArg some (by kernel_rfl))
 f221:=Tryz.func93.trans (congrArg some (by kernel_rfl))
 f224:=Tryz.func135.trans (congrArg some (by kernel_rfl))
 f225:=Tryz.func134.trans (congrArg some (by kernel_rfl))
 f260:=Tryz.func133.trans (congrArg some (by kernel_rfl))
 f266:=Tryz.func111.trans (congrArg some (by kernel_rfl))
 f267:=Tryz.func136.trans (congrArg some (by kernel_rfl))
 f268:=Tryz.func112.trans (congrArg some (by kernel_rfl))
 f314:=Tryz.func138.trans (congrArg some (by kernel_rfl))
 t0:=Tryz.underlying0
 a0:=Tryz.isAgg0
 z0:=Tryz.sizeOf0
 v0:=Tryz.zeroValue0
 t3:=Tryz.underlying3
 a3:=Tryz.isAgg3
 z3:=Tryz.sizeOf3
 v3:=Tryz.zeroValue3
 t4:=Tryz.underlying4
 a4:=Tryz.isAgg4
 z4:=Tryz.sizeOf4
 v4:=Tryz.zeroValue4
 t5:=Tryz.underlying5
 a5:=Tryz.isAgg5
 z5:=Tryz.sizeOf5
 v5:=Tryz.zeroValue5
 t9:=Tryz.underlying9
 a9:=Tryz.isAgg9
 z9:=Tryz.sizeOf9
 v9:=Tryz.zeroValue9
 t21:=Tryz.underlying21
 a21:=Tryz.isAgg21
 z21:=Tryz.sizeOf21
 v21:=Tryz.zeroValue21
 t31:=Tryz.underlying84
 a31:=Tryz.isAgg84
 z31:=Tryz.sizeOf84
 v31:=Tryz.zeroValue84
 t46:=Tryz.underlying166
 a46:=Tryz.isAgg166
 z46:=Tryz.sizeOf166
 v46:=Tryz.zeroValue166
 t51:=Tryz.underlying163
 a51:=Tryz.isAgg163
 z51:=Tryz.sizeOf163
 v51:=Tryz.zeroValue163
 t105:=Tryz.underlying169
 a105:=Tryz.isAgg169
 z105:=Tryz.sizeOf169
 v105:=Tryz.zeroValue169
 t119:=Tryz.underlying175
 a119:=Tryz.isAgg175
 z119:=Tryz.sizeOf175
 t138:=Tryz.underlying177
 a138:=Tryz.isAgg177
 z138:=Tryz.sizeOf177
 v138:=Tryz.zeroValue177
 t139:=Tryz.underlying178
 a139:=Tryz.isAgg178
 z139:=Tryz.sizeOf178
 v139:=Tryz.zeroValue178
 t146:=Tryz.underlying179
 a146:=Tryz.isAgg179
 z146:=Tryz.sizeOf179
 v146:=Tryz.zeroValue179
 g1:=by kernel_rfl
 g3:=by kernel_rfl
 g4:=by kernel_rfl }
open Go.RowKit Go.Lib in
theorem Tryz.strings_Split (s sep:ByteArray) (m:Int) (w:World) (hs:s.size < 4294967281) (hm:w.cell? ⟨0,0,none⟩=some (.int .i64 m)) (h1:1≤sep.size):
  Calls Tryz.prog 68 #[.string s,.string sep] w fun e w'=>
   e=.returned (.slice (some ⟨w.heap.size,0,none⟩) (Lib.countB s sep + 1) (Lib.countB s sep + 1))∧w'=w.alloc (.cells ((Lib.splitB sep 0 (Lib.countB s sep) s).map Value.string).toArray 9):=Any.strings_Split Tryz.lays146 (by kernel_rfl) s sep m w hs hm h1
theorem Tryz.lays240:Lays.n240 Tryz.prog Tryz.lays156_ren:={ Tryz.lays156 with }
theorem Tryz.lays166:Lays.n166 Tryz.prog Tryz.lays156_ren:={ Tryz.lays156 with }
end Go.Proofs
