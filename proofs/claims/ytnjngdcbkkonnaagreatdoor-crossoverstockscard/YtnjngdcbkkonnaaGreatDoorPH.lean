/-
  Chapter 4: chain matrices and divisors of valid ladders: both sides, and their bounds.
-/
import Derived.Test.YtnjngdcbkkonnaaGreatDoorA5
import Derived.Test.YtnjngdcbkkonnaaGreatDoorPB
import Derived.Shelf.Bits.Mul64
set_option linter.unusedVariables false
set_option linter.unusedSimpArgs false
set_option maxRecDepth 100000
set_option maxHeartbeats 1000000
namespace Go.Z
open Go Go.Abs
def cm (a b:yt):yt:=⟨qm .i64 (qm .i64 (a.num * b.num) - qm .i64 (a.den * b.den)),qm .i64 (qm .i64 (a.num * b.den) + qm .i64 (a.den * b.num))⟩
def ca (a b:yt):yt:=⟨qm .i64 (a.num + b.num),qm .i64 (a.den + b.den)⟩
def en0 (m:qce):yt:=⟨m.m0,m.m1⟩
def en1 (m:qce):yt:=⟨m.m2,m.m3⟩
def en2 (m:qce):yt:=⟨m.m4,m.m5⟩
def en3 (m:qce):yt:=⟨m.m6,m.m7⟩
def mk4 (x y z w:yt):qce:=⟨x.num,x.den,y.num,y.den,z.num,z.den,w.num,w.den⟩
def mp (a b:qce):qce:=mk4 (ca (cm (en0 a) (en0 b)) (cm (en1 a) (en2 b))) (ca (cm (en0 a) (en1 b)) (cm (en1 a) (en3 b))) (ca (cm (en2 a) (en0 b)) (cm (en3 a) (en2 b))) (ca (cm (en2 a) (en1 b)) (cm (en3 a) (en3 b)))
def kM (s:List UInt8) (v:yt):qce:=if s=kSe then ⟨1,0,v.num,v.den,0,0,1,0⟩ else if s=kSh then ⟨1,0,0,0,v.num,v.den,1,0⟩ else if s=kB then ⟨v.num,v.den,1,0,0,0,v.num,v.den⟩ else ⟨v.num,v.den,0,0,1,0,v.num,v.den⟩
def vOf (w:Int) (x:GEl):yt:=⟨x.a,qm .i64 (w * x.b)⟩
def stp (w:Int) (q:qce × yt) (x:GEl):qce × yt:=(mp q.1 (kM x.kind (vOf w x)),if qdl x.kind then cm q.2 (vOf w x) else q.2)
def m1:qce:=⟨1,0,0,0,0,0,1,0⟩
def chn (w:Int) (l:List GEl):qce × yt:=l.foldl (stp w) (m1,⟨1,0⟩)
theorem qy4 {n lo hi:Int} (h:zh n lo hi=0):lo≤n∧n≤hi:=by
 unfold zh at h
 split at h
 ·cases h
 ·split at h
  ·cases h
  ·omega
end Go.Z
/-
 Chapter 4: ratios in lowest terms,comparing them: both sides.
-/
namespace Go.Z
open Go Go.Abs
def low (a b:Int):yt:=⟨a / (Nat.gcd a.toNat b.toNat:Nat),b / (Nat.gcd a.toNat b.toNat:Nat)⟩
end Go.Z
/-
 Chapter 4: levels,sums and crossings: both sides.
-/
namespace Go.Z
open Go Go.Abs
def sqV (z:yt):Int:=z.num * z.num + z.den * z.den
def isZ (z:yt):Bool:=decide (z.num=0) && decide (z.den=0)
def lev (w:Int) (l:List GEl):yt × Int:=if isZ (en0 (chn w l).1) then (⟨0,0⟩,17) else (low (sqV (chn w l).2) (sqV (en0 (chn w l).1)),0)
end Go.Z
