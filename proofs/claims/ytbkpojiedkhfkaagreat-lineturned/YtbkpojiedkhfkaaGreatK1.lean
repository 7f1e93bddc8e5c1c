/-
  Parts of a set of numbers that hang together: what a part is; two parts of one number have as many.
-/
import Derived.Test.YtbkpojiedkhfkaaGreatQ1
import Derived.Test.YtbkpojiedkhfkaaGreatV3
import Derived.Test.YtbkpojiedkhfkaaGreatV1
import Derived.Test.YtbkpojiedkhfkaaGreatV4
set_option linter.unusedVariables false
set_option linter.unusedSimpArgs false
set_option maxRecDepth 100000
namespace Go.Z
open Go Go.Abs
variable {adj:Int→Int→Bool} {L L':Int→Prop} {i:Int} {C C':List Int}
def near (l:List GUnit) (below:Int) (x y:Int):Bool:=decide (dAt l x y < below)
end Go.Z
/-
 LineProofs: the product's part is the part that hangs together,and is taken out of the set.
-/
namespace Go.Z
open Go Go.Abs
end Go.Z
/-
 LineProofs: the reference's part is the part that hangs together,too.
-/
namespace Go.Z
open Go Go.Abs
section
variable {l:List GUnit} {o:Option (List GUnit)} {below:Int} (hu:UnitsOk l) (ho:o.getD []=l) (hl:l.length≤100)
include hu ho hl
end
end Go.Z
/-
 LineProofs: both count the parts with an odd number alike.
-/
namespace Go.Z
open Go Go.Abs
end Go.Z
