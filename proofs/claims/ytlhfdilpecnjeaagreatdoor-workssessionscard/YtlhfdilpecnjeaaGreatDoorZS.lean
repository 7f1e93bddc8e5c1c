/- DERIVED. -/
import Derived.Shelf.Strings.OnBuilder
import Derived.Shelf.Strings.BuilderK
import Derived.Shelf.Utf8.RuneCount
import Derived.Shelf.Strconv.Itoa3
import Derived.Shelf.Strings.Shaped
import Derived.Shelf.Strings.SplitShaped
import Derived.Shelf.Strings.Explode
import Derived.Shelf.Strings.Repeat
import Derived.Shelf.Unicode.DecodeAny
import Derived.Shelf.Slices.Clone
import Derived.Shelf.SlicesE.Clone
import Derived.Test.YtlhfdilpecnjeaaGreatDoorChecked
set_option linter.all false
namespace Go.Proofs
open Go.Shelf
def Tryz.lays156_ren:Go.Shelf.Ren:=⟨fun |156=>47|165=>132|166=>133|169=>134|240=>208|241=>209|276=>251|277=>252|n=>n,fun|31=>22|9=>9|3=>3|4=>4|0=>0|20=>20|72=>194|76=>198|70=>192|37=>58|75=>197|127=>262|164=>308|5=>5|80=>47|n=>n,fun|n=>n⟩
theorem Tryz.lays156:Go.Proofs.Lays.n156 Tryz.prog Tryz.lays156_ren:=by constructor<;>intros<;>first|kernel_rfl|(constructor<;>intros<;>kernel_rfl)
theorem Tryz.Builder_Extra_156:Builder.Extra Tryz.prog Tryz.lays156_ren:=by constructor<;>intros<;>first|kernel_rfl|decide|(constructor<;>intros<;>kernel_rfl)
open Go.RowKit in
theorem Tryz.strings_Join_none (a:Option Addr)(c:Nat)(sep:ByteArray)(w:World):
  Calls Tryz.prog 47 #[.slice a 0 c,.string sep] w fun e w'=>e=.returned (.string ⟨#[]⟩)∧w'=w:=Any.strings_Join_none Tryz.lays156 Tryz.Builder_Extra_156 a c sep w
open Go.RowKit in
theorem Tryz.strings_Join (bk o c:Nat)(xs:List ByteArray)(sep:ByteArray)(w:World)(hcells:∀(j:Nat) x,xs[j]?=some x→w.cell? ⟨bk,o+j,none⟩=some (.string x))(hbk:bk<w.heap.size)(hN:xs.length≤140737488355328)(hcap:xs.length≤c)(hlen:(Lib.join (xs.map (·.data.toList)) sep.data.toList).length≤140737488355328):
  Calls Tryz.prog 47 #[.slice (some ⟨bk,o,none⟩) xs.length c,.string sep] w fun e w'=>e=.returned (.string ⟨(Lib.join (xs.map (·.data.toList)) sep.data.toList).toArray⟩)∧Below w.heap.size w w':=Any.strings_Join Tryz.lays156 Tryz.Builder_Extra_156 bk o c xs sep w hcells hbk hN hcap hlen
def Tryz.laysM171_ren:Go.Shelf.Ren:=⟨fun |171=>43|243=>130|246=>207|283=>247|284=>248|285=>249|286=>250|129=>268|317=>267|318=>269|319=>270|320=>271|337=>278|338=>279|n=>n,fun|3=>3|9=>9|2=>2|4=>4|171=>302|0=>0|53=>303|37=>58|5=>5|173=>306|212=>323|51=>324|20=>20|213=>325|46=>311|232=>338|233=>339|n=>n,fun|17=>1|18=>4|19=>5|n=>n⟩
theorem Tryz.laysM171:Go.Proofs.LaysM.n171 Tryz.prog Tryz.laysM171_ren:=by constructor<;>intros<;>first|kernel_rfl|(constructor<;>intros<;>kernel_rfl)
open Go.RowKit Go.Sort Go.Lib in
theorem Tryz.strconv_Itoa (n : Int) (h0 : -9223372036854775808 ≤ n) (h1 : n ≤ 9223372036854775807) (w : World) (htab : Lib.TabIs Tryz.prog w "internal/strconv.uint64pow10" .u64 Lib.pow10Tab) :
  Calls Tryz.prog 43 #[.int .i64 n] w fun e w'=>e=.returned (.string ⟨(Lib.itoa n).toArray⟩)∧∃k os,w'=grow (w.drewN k) os:=Any.strconv_Itoa Tryz.laysM171 n h0 h1 w htab
def Tryz.lays217_ren:Go.Shelf.Ren:=⟨fun |217=>256|266=>275|n=>n,fun|9=>9|5=>5|3=>3|n=>n,fun|n=>n⟩
theorem Tryz.lays217:Go.Proofs.Lays.n217 Tryz.prog Tryz.lays217_ren:=by constructor<;>intros<;>first|kernel_rfl|(constructor<;>intros<;>kernel_rfl)
open Go.RowKit Go.Lib in
theorem Tryz.stringslite_IndexByte (s:ByteArray)(c:Int)(w:World):
  Calls Tryz.prog 256 #[.string s,.int .u8 c] w fun e w'=>e=.returned (.int .i64 (Lib.indexByte s.data.toList c.toNat.toUInt8))∧w'=w:=Any.stringslite_IndexByte Tryz.lays217 s c w
def Tryz.lays146_ren:Go.Shelf.Ren:=⟨fun |146=>19|221=>54|268=>141|138=>142|143=>143|195=>214|197=>215|218=>216|219=>212|260=>261|217=>256|225=>257|224=>258|267=>259|266=>275|314=>276|n=>n,fun|9=>9|31=>22|3=>3|4=>4|0=>0|105=>266|21=>21|5=>5|46=>311|119=>332|139=>335|138=>334|146=>327|51=>324|n=>n,fun|1=>0|3=>2|4=>3|n=>n⟩
theorem Tryz.lays146:Go.Proofs.Lays.n146 Tryz.prog Tryz.lays146_ren:=by constructor<;>intros<;>first|kernel_rfl|(constructor<;>intros<;>kernel_rfl)
open Go.RowKit Go.Lib in
theorem Tryz.strings_Split (s sep:ByteArray)(m:Int)(w:World)(hs:s.size<4294967281)(hm:w.cell? ⟨0,0,none⟩=some (.int .i64 m))(h1:1≤sep.size):
  Calls Tryz.prog 19 #[.string s,.string sep] w fun e w'=>
   e=.returned (.slice (some ⟨w.heap.size,0,none⟩) (Lib.countB s sep+1) (Lib.countB s sep+1))∧w'=w.alloc (.cells ((Lib.splitB sep 0 (Lib.countB s sep) s).map Value.string).toArray 9):=Any.strings_Split Tryz.lays146 (by kernel_rfl) s sep m w hs hm h1
def Tryz.lays105_ren:Go.Shelf.Ren:=⟨fun |105=>211|212=>253|99=>254|165=>132|166=>133|170=>255|169=>134|263=>272|264=>273|206=>274|240=>208|241=>209|276=>251|277=>252|n=>n,fun|9=>9|3=>3|4=>4|20=>20|0=>0|46=>311|109=>312|5=>5|72=>194|76=>198|51=>324|146=>327|53=>303|148=>329|70=>192|37=>58|75=>197|127=>262|164=>308|80=>47|n=>n,fun|n=>n⟩
theorem Tryz.lays105:Go.Proofs.Lays.n105 Tryz.prog Tryz.lays105_ren:=by constructor<;>intros<;>first|kernel_rfl|(constructor<;>intros<;>kernel_rfl)
theorem Tryz.Builder_Extra_105:Builder.Extra Tryz.prog Tryz.lays105_ren:=by constructor<;>intros<;>first|kernel_rfl|decide|(constructor<;>intros<;>kernel_rfl)
open Go.RowKit Go.Lib in
theorem Tryz.strings_Repeat (s:ByteArray)(c:Nat)(w:World)(hc:c≤9223372036854775807)(hlen:s.size*c≤140737488355328):
  Calls Tryz.prog 211 #[.string s,.int .i64 c] w fun e w'=>e=.returned (.string ⟨(Lib.repeatL s.data.toList c).toArray⟩)∧Below w.heap.size w w':=Any.strings_Repeat Tryz.lays105 Tryz.Builder_Extra_105 s c w hc hlen
end Go.Proofs
