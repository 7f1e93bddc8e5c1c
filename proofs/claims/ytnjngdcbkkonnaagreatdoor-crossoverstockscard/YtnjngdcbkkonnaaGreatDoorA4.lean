/-
  Chapter 4: the chain matrix and the divisor of a ladder, in the program: a range over a function.
-/
import Derived.Test.YtnjngdcbkkonnaaGreatDoorA1
set_option linter.unusedVariables false
set_option linter.unusedSimpArgs false
set_option maxRecDepth 100000
set_option maxHeartbeats 4000000
namespace Go.Z
open Go Go.Abs
def gcs (d:yt):List (AVal × Bool):=[(.int .i64 d.num,false),(.int .i64 d.den,false)]
section
variable (l:Option (List GEl)) (w:Int)
def z2:List (AVal × Bool):=[(.int .i64 0,false),(.int .i64 0,false)]
def tl (s:List UInt8) (b:Bool) (n:Nat) (v:yt):qn:=[.cells [(.str s,false),(.bool b,false),(.fn (.func n) [] [],false)],.cells (gcs v)]
variable {l w}
end
end Go.Z
