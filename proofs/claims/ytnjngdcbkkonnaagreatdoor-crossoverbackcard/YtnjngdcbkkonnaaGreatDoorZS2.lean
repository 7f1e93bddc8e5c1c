/- DERIVED. -/
import Derived.Shelf.Strings.Builder1
import Derived.Shelf.Strings.Builder2
import Derived.Shelf.Strings.OnBuilder
import Derived.Shelf.Small.Bits
import Derived.Shelf.Small.Strs
import Derived.Shelf.Small.Wraps
import Derived.Shelf.Strings.BuilderF
import Derived.Shelf.Strings.BuilderK
import Derived.Shelf.Utf8.RuneCount
import Derived.Shelf.Strconv.Itoa0
import Derived.Shelf.Strconv.Itoa1
import Derived.Shelf.LaysM
import Derived.Shelf.Strconv.Itoa2
import Derived.Shelf.Strconv.Itoa3
import Derived.Shelf.Strings.Search1
import Derived.Shelf.Strings.Search2
import Derived.Shelf.Strings.Search3
import Derived.Shelf.Strings.Count
import Derived.Shelf.Strings.Shaped
import Derived.Shelf.Strings.Prefix
import Derived.Shelf.Strings.Split
import Derived.Shelf.Strings.SplitShaped
import Derived.Shelf.Unicode.Decode
import Derived.Shelf.Strings.RuneCount
import Derived.Shelf.Strings.Explode
import Derived.Shelf.Bits.Mul64
import Derived.Shelf.Unicode.DecodeSlow
import Derived.Shelf.Unicode.DecodeAny
import Derived.Ground.Names2Prog
import Derived.Shelf.Slices.SearchI
import Derived.Test.YtnjngdcbkkonnaaGreatDoorChecked
set_option linter.unusedVariables false
set_option linter.unusedSimpArgs false
namespace Go.Proofs
open Go.Shelf
def Tryz.lays137_ren:Go.Shelf.Ren:=⟨fun | 137=>187 | 217=>214 | 266=>240 | n=>n,fun | 9=>9 | 5=>5 | 3=>3 | n=>n,fun | n=>n⟩
theorem Tryz.lays137:Go.Proofs.Lays.n137 Tryz.prog Tryz.lays137_ren:={
 mixed:=by kernel_rfl
 f137:=Tryz.func187.trans (congrArg some (by kernel_rfl))
 f217:=Tryz.func214.trans (congrArg some (by kernel_rfl))
 f266:=Tryz.func240.trans (congrArg some (by kernel_rfl))
 t3:=Tryz.underlying3
 a3:=Tryz.isAgg3
 z3:=Tryz.sizeOf3
 v3:=Tryz.zeroValue3
 t5:=Tryz.underlying5
 a5:=Tryz.isAgg5
 z5:=Tryz.sizeOf5
 v5:=Tryz.zeroValue5
 t9:=Tryz.underlying9
 a9:=Tryz.isAgg9
 z9:=Tryz.sizeOf9
 v9:=Tryz.zeroValue9 }
open Go.RowKit in
theorem Tryz.strings_IndexByte (s:ByteArray) (c:Int) (w:World):
  Calls Tryz.prog 187 #[.string s,.int .u8 c] w fun e w'=>e=.returned (.int .i64 (Lib.indexByte s.data.toList c.toNat.toUInt8))∧w'=w:=Any.strings_IndexByte Tryz.lays137 s c w
def Tryz.lays104_ren:Go.Shelf.Ren:=⟨fun | 104=>151 | 211=>188 | 207=>215 | n=>n,fun | 9=>9 | 4=>4 | 24=>238 | 3=>3 | n=>n,fun | n=>n⟩
theorem Tryz.lays104:Go.Proofs.Lays.n104 Tryz.prog Tryz.lays104_ren:={
 mixed:=by kernel_rfl
 f104:=Tryz.func151.trans (congrArg some (by kernel_rfl))
 f207:=Tryz.func215.trans (congrArg some (by kernel_rfl))
 f211:=Tryz.func188.trans (congrArg some (by kernel_rfl))
 t3:=Tryz.underlying3
 a3:=Tryz.isAgg3
 z3:=Tryz.sizeOf3
 v3:=Tryz.zeroValue3
 t4:=Tryz.underlying4
 a4:=Tryz.isAgg4
 z4:=Tryz.sizeOf4
 v4:=Tryz.zeroValue4
 t9:=Tryz.underlying9
 a9:=Tryz.isAgg9
 z9:=Tryz.sizeOf9
 v9:=Tryz.zeroValue9
 t24:=Tryz.underlying238
 a24:=Tryz.isAgg238
 z24:=Tryz.sizeOf238
 v24:=Tryz.zeroValue238 }
open Go.RowKit in
theorem Tryz.strings_CutSuffix (s p:ByteArray) (w:World) (hs:s.size≤9223372036854775807):
  Calls Tryz.prog 151 #[.string s,.string p] w fun e w'=>e=.returned (.tuple #[.string ⟨(Lib.trimSuffix s.data.toList p.data.toList).toArray⟩,.bool (Lib.hasSuffix s.data.toList p.data.toList)])∧w'=w:=Any.strings_CutSuffix Tryz.lays104 s p w hs
def Tryz.lays146_ren:Go.Shelf.Ren:=⟨fun | 146=>189 | 221=>216 | 268=>241 | 138=>242 | 143=>243 | 195=>253 | 197=>254 | 218=>255 | 219=>256 | 260=>260 | 217=>214 | 225=>261 | 224=>262 | 267=>263 | 266=>240 | 314=>264 | n=>n,fun | 9=>9 | 31=>174 | 3=>3 | 4=>4 | 0=>0 | 105=>333 | 21=>21 | 5=>5 | 46=>292 | 119=>339 | 139=>342 | 138=>341 | 146=>343 | 51=>313 | n=>n,fun | 1=>2 | 3=>6 | 4=>7 | n=>n⟩
theorem Tryz.lays146:Go.Proofs.Lays.n146 Tryz.prog Tryz.lays146_ren:={
 mixed:=by kernel_rfl
 f138:=Tryz.func242.trans (congrArg some (by kernel_rfl))
 f143:=Tryz.func243.trans (congrArg some (by kernel_rfl))
 f146:=Tryz.func189.trans (congrArg some (by kernel_rfl))
 f195:=Tryz.func253.trans (congrArg some (by kernel_rfl))
 f197:=Tryz.func254.trans (congrArg some (by kernel_rfl))
 f217:=Tryz.func214.trans (congrArg some (by kernel_rfl))
 f218:=Tryz.func255.trans (congrArg some (by kernel_rfl))
 f219:=Tryz.func256.trans (congrArg some (by kernel_rfl))
 f221:=Tryz.func216.trans (congrArg some (by kernel_rfl))
 f224:=Tryz.func262.trans (congrArg some (by kernel_rfl))
 f225:=Tryz.func261.trans (congrArg some (by kernel_rfl))
 f260:=Tryz.func260.trans (congrArg some (by kernel_rfl))
 f266:=Tryz.func240.trans (congrArg some (by kernel_rfl))
 f267:=Tryz.func263.trans (congrArg some (by kernel_rfl))
 f268:=Tryz.func241.trans (congrArg some (by kernel_rfl))
 f314:=Tryz.func264.trans (congrArg some (by kernel_rfl))
 t0:=Tryz.underlying0
 a0:=Tryz.isAgg0
 z0:=Tryz.sizeOf0
 v0:=Tryz.zeroValue0
 t3:=Tryz.underlying3
 a3:=Tryz.isAgg3
 z3:=Tryz.sizeOf3
 v3:=Tryz.zeroValue3
 t4:=Tryz.underlying4
 a4:=Tryz.isAgg4
 z4:=Tryz.sizeOf4
 v4:=Tryz.zeroValue4
 t5:=Tryz.underlying5
 a5:=Tryz.isAgg5
 z5:=Tryz.sizeOf5
 v5:=Tryz.zeroValue5
 t9:=Tryz.underlying9
 a9:=Tryz.isAgg9
 z9:=Tryz.sizeOf9
 v9:=Tryz.zeroValue9
 t21:=Tryz.underlying21
 a21:=Tryz.isAgg21
 z21:=Tryz.sizeOf21
 v21:=Tryz.zeroValue21
 t31:=Tryz.underlying174
 a31:=Tryz.isAgg174
 z31:=Tryz.sizeOf174
 v31:=Tryz.zeroValue174
 t46:=Tryz.underlying292
 a46:=Tryz.isAgg292
 z46:=Tryz.sizeOf292
 v46:=Tryz.zeroValue292
 t51:=Tryz.underlying313
 a51:=Tryz.isAgg313
 z51:=Tryz.sizeOf313
 v51:=Tryz.zeroValue313
 t105:=Tryz.underlying333
 a105:=Tryz.isAgg333
 z105:=Tryz.sizeOf333
 v105:=Tryz.zeroValue333
 t119:=Tryz.underlying339
 a119:=Tryz.isAgg339
 z119:=Tryz.sizeOf339
 t138:=Tryz.underlying341
 a138:=Tryz.isAgg341
 z138:=Tryz.sizeOf341
 v138:=Tryz.zeroValue341
 t139:=Tryz.underlying342
 a139:=Tryz.isAgg342
 z139:=Tryz.sizeOf342
 v139:=Tryz.zeroValue342
 t146:=Tryz.underlying343
 a146:=Tryz.isAgg343
 z146:=Tryz.sizeOf343
 v146:=Tryz.zeroValue343
 g1:=by kernel_rfl
 g3:=by kernel_rfl
 g4:=by kernel_rfl }
open Go.RowKit Go.Lib in
theorem Tryz.strings_Split (s sep:ByteArray) (m:Int) (w:World) (hs:s.size < 4294967281) (hm:w.cell? ⟨2,0,none⟩=some (.int .i64 m)) (h1:1≤sep.size):
  Calls Tryz.prog 189 #[.string s,.string sep] w fun e w'=>
   e=.returned (.slice (some ⟨w.heap.size,0,none⟩) (Lib.countB s sep + 1) (Lib.countB s sep + 1))∧w'=w.alloc (.cells ((Lib.splitB sep 0 (Lib.countB s sep) s).map Value.string).toArray 9):=Any.strings_Split Tryz.lays146 (by kernel_rfl) s sep m w hs hm h1
end Go.Proofs
