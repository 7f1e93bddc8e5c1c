/- The abstract machine. -/
import GoSem.Step
import GoSem.Claims
import GoSem.Core.Region
import GoSem.Core.Layout
import GoSem.Op.Equal
import Derived.CallsIn
import Derived.Deep.AppendSrc
import Derived.Laws.CopyRow
import Derived.Laws.AppendOwn
import Derived.Laws.Entries
import Derived.Lib.LaidTab
import Derived.Lib.ItoaNum
set_option linter.unusedVariables false
set_option linter.unusedSimpArgs false
open Option renaming none→I,some→Ef
open Bool renaming false→En,true→E0,xor→Gd
open Nat renaming beq→E1,ble→E3,blt→E4,lt_of_lt_of_le→E7,le_refl→Ga,succ_mul→Gb
open Array renaming getElem?_eq_some_iff→E6
open List renaming replicate→E9,flatMap_cons→Gc
namespace Go.Abs
theorem cT.{u} {α:Sort u}(a b:α):cond E0 a b=a:=rfl
theorem cF.{u} {α:Sort u}(a b:α):cond En a b=b:=rfl
theorem dT {p:Prop}[Decidable p](h:p):decide p=E0:=decide_eq_true h
theorem dF {p:Prop}[Decidable p](h:¬p):decide p=En:=decide_eq_false h
inductive qa where
 |bool (b:Bool)
 |int (k:IntKind) (n:Int)
 |str (s:List UInt8)
 |list (isNil:Bool) (sz:Nat) (xs:List qa)
 |ms (b off len:Nat)
 |ptr (b off:Nat)
 |ah (v:qa)
 |bO
 |map (b:Nat)
 |bN
 |fn (f:Fn) (first captured:List qa)
 |bY
 |agg (cs:List qa)
 |aB (vs:List qa)
 |undef
 |any
 |cE (n:Nat)
 |ak (b bz len:Nat)
 |cJ (b bz off:Nat)
 deriving Inhabited
inductive qh where
 |tmp (t:Nat)
 |const (v:qa)
 deriving Inhabited
inductive Kd where
 |int|str|bool
 deriving DecidableEq,Inhabited
inductive jc where
 |bM|fb (r:Nat)|shr|red
 deriving DecidableEq,Inhabited
inductive qw where
 |move (x:qh)
 |take (s:Nat)
 |pick (c a b:qh)
 |alloc (r:Nat) (zero:List qa)
 |box (r n:Nat) (x:qh)
 |nY (n:Nat) (x:qh)
 |fU (n:Nat)
 |dw (n s:Nat) (x:qh)
 |fE (r t e:Nat)
 |build (zero:List qa) (parts:List (Nat×Nat×qh))
 |buildSlice (sz len:Nat) (zero:List qa) (parts:List (Nat×qh))
 |load (agg:Bool) (n:Nat) (x:qh)
 |eP (agg:Bool) (n:Nat) (x:qh)
 |b8 (off:Option Nat) (x:qh)
 |store (n:Nat) (a v:qh)
 |nilCheck (x:qh)
 |bin (op:BinOp) (x y:qh)
 |eqs (ks:List Kd) (neq:Bool) (x y:qh)
 |beq (neq:Bool) (x y:qh)
 |eQ (k:Nat) (neq:Bool) (x:qh)
 |un (op:UnOp) (x:qh)
 |conv (k:IntKind) (x:qh)
 |eJ (x:qh)
 |field (agg:Bool) (off n:Nat) (x:qh)
 |index (agg:Bool) (len n:Nat) (x i:qh)
 |dM (x i:qh)
 |fieldAddr (agg:Bool) (off n:Nat) (x:qh)
 |indexAddr (sz:Nat) (x i:qh)
 |dN (agg:Bool) (len sz:Nat) (x i:qh)
 |slice (sz:Nat) (x:qh) (lo hi:Option qh)
 |eo (x:qh) (lo hi:Option qh)
 |ep (len sz:Nat) (x:qh) (lo hi:Option qh)
 |fV (f:Fn) (first captured:List qh)
 |dO (r:Nat)
 |lookup (kd:Kd) (zero:qa) (ok:Bool) (m k:qh)
 |mapUpdate (kd:Kd) (m k v:qh)
 |delete (kd:Kd) (m k:qh)
 |bW (r:Option Nat) (sz bytes:Nat) (zero:List qa) (n c:qh)
 |len (k:Nat) (x:qh)
 |append (r:Option Nat) (sz bytes:Nat) (x y:qh)
 |gH (r sz bytes:Nat) (x y:qh)
 |gI (r sz len:Nat) (zero:List qa) (parts:List (Nat×qh))
 |copy (sz:Nat) (x y:qh)
 |mx (args:List qh)
 |mn (args:List qh)
 |extract (x:qh) (i:Nat)
 |call (md:jc) (f:qh) (args:List qh)
 |dc (r:Nat) (x:qh)
 |eR (it:qh)
 |bad
 deriving Inhabited
structure qv where
 dst:Option Nat
 op:qw
 guard:Option (Nat×Bool)
 al:Option (List Nat)
 deriving Inhabited
inductive qe where
 |skip
 |region (na:Nat) (ops:List qv) (keep:Option (List Nat))
 |seq (a b:qe)
 |cond (c:qh) (a b:qe)
 |block (id:Nat) (body:qe)
 |loop (body:qe)
 |rangeFunc (f:qh) (params:List Nat) (assign body:qe)
 |exit (id:Nat)
 |ret
 |grow (sz:Nat)
 |stuck
 deriving Inhabited
abbrev Env:=List (Nat×qa×Bool)
inductive qo where
 |normal
 |exit (id:Nat)
 |ret
 deriving DecidableEq,Inhabited
structure jp where
 env:Env
 params:List Nat
 assign:qe
 body:qe
 pending:Option qo
 deriving Inhabited
def km:qe→Bool
 | .seq a b=>km a&&km b
 | .cond _ a b=>km a&&km b
 | .block _ b=>km b
 | .loop b=>km b
 | .rangeFunc ..=>En
 |_=>E0
def eS (e:Env):Env:=e.map fun x=>(x.1,x.2.1,En)
inductive qn where
 |hole
 |cells (cs:List (qa×Bool))
 |map (es:List (qa×qa))
 |iter (s:List UInt8) (pos:Nat)
 |loop (l:jp)
 |fE (t e:Nat) (l:List UInt8)
 |dead
 |vec (sz bz:Nat) (xs:List qa)
 deriving Inhabited
abbrev j8:=List qn
structure qg where
 env:Env
 heap:j8
 deriving Inhabited
inductive ja where
 |tmp (t:Nat)
 |cell (t:Nat) (agg:Bool) (n:Nat)
 deriving Inhabited
structure qd where
 ntmps:Nat
 body:qe
 results:List ja
 deriving Inhabited
abbrev vh:=Nat→Option (List qa→Option (qa×Bool))
abbrev jc9:=Nat→Option (List qa→j8→Option (qa×Bool×j8))
abbrev LU:=Nat→Option (List (qa×qa))
structure qt where
 bj:Nat→Option qd
 cq:vh
 dl:jc9:=fun _=>I
 maps:LU:=fun _=>I
def yd (t:Nat):Env→Option (qa×Bool)
 | []=>I
 |(s,x)::e=>bif E1 s t then Ef x else yd t e
def zc (e:Env):qh→Option qa
 | .tmp t=>match yd t e with
  |some x=>Ef x.1
  |none=>I
 | .const v=>Ef v
def fF (e:Env):List qh→Option (List qa)
 | []=>Ef []
 |x::xs=>match zc e x with
  |some v=>match fF e xs with
   |some vs=>Ef (v::vs)
   |none=>I
  |none=>I
def pD (e:Env):List Nat→Env
 | []=>[]
 |t::ts=>match yd t e with
  |some x=>(t,x)::pD e ts
  |none=>pD e ts
def pE:IntKind→Int→Bool
 | .i64,.ofNat m=>E3 m 9223372036854775807
 | .i64,.negSucc m=>E3 m 9223372036854775807
 | .i32,.ofNat m=>E3 m 2147483647
 | .i32,.negSucc m=>E3 m 2147483647
 | .i16,.ofNat m=>E3 m 32767
 | .i16,.negSucc m=>E3 m 32767
 | .i8,.ofNat m=>E3 m 127
 | .i8,.negSucc m=>E3 m 127
 | .u64,.ofNat m=>E3 m 18446744073709551615
 | .u32,.ofNat m=>E3 m 4294967295
 | .u16,.ofNat m=>E3 m 65535
 | .u8,.ofNat m=>E3 m 255
 |_,.negSucc _=>En
def j6 (k:IntKind)(n:Int):Int:=bif pE k n then n else k.wrap n
def qa.flat:qa→List qa
 | .agg cs=>cs
 |v=>[v]
def qa.isAgg:qa→Bool
 | .agg _=>E0
 |_=>En
def qa.cu:qa→Bool
 | .list ..=>E0
 |_=>En
def kY:Kd→qa→qa→Option Bool
 | .int,.int k a,.int k' b=>bif decide (k=k')then Ef (a == b)else I
 | .str,.str a,.str b=>Ef (a == b)
 | .bool,.bool a,.bool b=>Ef (a == b)
 |_,_,_=>I
def ky:List Kd→List qa→List qa→Option Bool
 | [],[],[]=>Ef E0
 |k::ks,x::xs,y::ys=>match kY k x y with
  |some E0=>ky ks xs ys
  |some En=>Ef En
  |none=>I
 |_,_,_=>I
def part (agg:Bool)(cs:List qa)(off n:Nat):Option qa:=
 bif agg then(bif E3 (off+n) cs.length then Ef (.agg ((cs.drop off).take n))else I)else cs[off]?
def bytesLess:List UInt8→List UInt8→Bool
 |_,[]=>En
 | [],_::_=>E0
 |a::x,b::y=>a<b||(a == b&&bytesLess x y)
def nZ (op:BinOp)(k:IntKind)(x y:Int):Option qa:=
 match op with
 | .add=>Ef (.int k (j6 k (x+y)))
 | .sub=>Ef (.int k (j6 k (x-y)))
 | .mul=>Ef (.int k (j6 k (x*y)))
 | .quo=>bif y == 0 then I else Ef (.int k (j6 k (x.tdiv y)))
 | .rem=>bif y == 0 then I else Ef (.int k (x.tmod y))
 | .eql=>Ef (.bool (x == y))
 | .neq=>Ef (.bool (x != y))
 | .lss=>Ef (.bool (decide (x<y)))
 | .leq=>Ef (.bool (decide (x≤y)))
 | .gtr=>Ef (.bool (decide (x > y)))
 | .geq=>Ef (.bool (decide (x≥y)))
 | .and=>Ef (.int k (k.wrap (BitVec.ofInt k.bits x &&& BitVec.ofInt k.bits y).toNat))
 | .or=>Ef (.int k (k.wrap (BitVec.ofInt k.bits x ||| BitVec.ofInt k.bits y).toNat))
 | .xor=>Ef (.int k (k.wrap (BitVec.ofInt k.bits x ^^^ BitVec.ofInt k.bits y).toNat))
 | .andNot=>Ef (.int k (k.wrap (BitVec.ofInt k.bits x &&& ~~~BitVec.ofInt k.bits y).toNat))
 |_=>I
def LV (op:BinOp)(k:IntKind)(x y:Int):Option qa:=
 bif decide (y<0)then I else
 match op with
 | .shl=>Ef (.int k (j6 k (x*2^(min y.toNat k.bits))))
 | .shr=>Ef (.int k (x.fdiv (2^(min y.toNat k.bits))))
 |_=>I
def EO (op:BinOp)(x y:List UInt8):Option qa:=
 match op with
 | .add=>bif E3 (x.length+y.length) 4611686018427387904 then Ef (.str (x++y))else I
 | .eql=>Ef (.bool (x == y))
 | .neq=>Ef (.bool !(x == y))
 | .lss=>Ef (.bool (bytesLess x y))
 | .leq=>Ef (.bool (bytesLess x y||x == y))
 | .gtr=>Ef (.bool !(bytesLess x y||x == y))
 | .geq=>Ef (.bool !(bytesLess x y))
 |_=>I
def fo (op:BinOp):qa→qa→Option qa
 | .int k x,.int k' y=>match op with
  | .shl=>LV .shl k x y
  | .shr=>LV .shr k x y
  |op=>bif decide (k=k')then nZ op k x y else I
 | .str x,.str y=>EO op x y
 |_,_=>I
def wL:UnOp→qa→Option qa
 | .neg,.int k n=>Ef (.int k (j6 k (0-n)))
 | .not,.bool b=>Ef (.bool !b)
 |_,_=>I
def max2:qa→qa→Option qa
 | .int k x,.int k' y=>bif decide (k=k')then Ef (.int k (if y > x then y else x))else I
 |_,_=>I
def min2:qa→qa→Option qa
 | .int k x,.int k' y=>bif decide (k=k')then Ef (.int k (if y<x then y else x))else I
 |_,_=>I
def nx (f:qa→qa→Option qa):qa→List qa→Option qa
 |x,[]=>Ef x
 |x,y::ys=>match f x y with
  |some z=>nx f z ys
  |none=>I
def jB:List qa→List (Nat×List qa)→Option (List qa)
 |cs,[]=>Ef cs
 |cs,(off,vs)::rest=>bif E3 (off+vs.length) cs.length then jB (cs.take off++vs++cs.drop (off+vs.length)) rest else I
def ze:qa→Bool
 | .agg _=>En
 | .aB _=>En
 | .undef=>En
 | .any=>En
 |_=>E0
def la (e:Env):List (Nat×Nat×qh)→Option (List (Nat×List qa))
 | []=>Ef []
 |(off,n,x)::ps=>match zc e x with
  |some v=>bif E1 v.flat.length n&&v.flat.all ze then
    (match la e ps with
     |some r=>Ef ((off,v.flat)::r)
     |none=>I)else I
  |none=>I
def lb (xs:List qa):List (Nat×qa)→Option (List qa)
 | []=>Ef xs
 |(i,v)::ps=>bif E4 i xs.length then lb (xs.set i v) ps else I
def iA (e:Env)(sz:Nat):List (Nat×qh)→Option (List (Nat×qa))
 | []=>Ef []
 |(i,x)::ps=>match zc e x with
  |some v=>bif E1 v.flat.length sz&&v.flat.all ze then
   (match iA e sz ps with
    |some r=>Ef ((i,v)::r)
    |none=>I)else I
  |none=>I
def jok (zero:List qa)(agg:Bool):Option qa:=
 bif agg then Ef (.agg zero)else match zero with
  | [z]=>Ef z
  |_=>I
def y5 (h:j8)(b:Nat):Option qn:=h[b]?
def ym (h:j8)(b:Nat):Option (List (qa×Bool)):=
 match h[b]? with
 |some (.cells cs)=>Ef cs
 |_=>I
def y8 (cs:List (qa×Bool))(off n:Nat):Option (List qa):=
 bif E3 (off+n) cs.length then Ef (((cs.drop off).take n).map (·.1))else I
def yh (cs:List (qa×Bool))(off:Nat)(vs:List qa):Option (List (qa×Bool)):=
 bif E3 (off+vs.length) cs.length&&vs.all ze then Ef (cs.take off++vs.map (·,En)++cs.drop (off+vs.length))else I
mutual
def below (n:Nat):qa→Bool
 | .ms b _ _=>E4 b n
 | .ptr b _=>E4 b n
 | .map b=>E4 b n
 | .ak b _ _=>E4 b n
 | .cJ b _ _=>E4 b n
 | .ah v=>below n v
 | .list _ _ xs=>zu n xs
 | .agg cs=>zu n cs
 | .aB vs=>zu n vs
 | .fn (.yield b) first captured=>E4 b n&&zu n first&&zu n captured
 | .fn _ first captured=>zu n first&&zu n captured
 |_=>E0
def zu (n:Nat):List qa→Bool
 | []=>E0
 |x::xs=>below n x&&zu n xs
end
def mc (n:Nat):Env→Bool
 | []=>E0
 |(_,v,_)::e=>below n v&&mc n e
def oR (n:Nat):List (qa×Bool)→Bool
 | []=>E0
 |(v,_)::e=>below n v&&oR n e
def tV (n:Nat):List (qa×qa)→Bool
 | []=>E0
 |(k,v)::e=>below n k&&below n v&&tV n e
def oS (n:Nat):qn→Bool
 | .hole=>E0
 | .cells cs=>oR n cs
 | .map es=>tV n es
 | .iter _ _=>E0
 | .fE ..=>E0
 | .dead=>E0
 | .vec ..=>E0
 | .loop l=>mc n l.env
def kh (n:Nat):j8→Bool
 | []=>E0
 |b::h=>oS n b&&kh n h
def gc (n:Nat)(st:qg):qg:=
 bif E3 st.heap.length n then st
 else bif mc n st.env&&kh n (st.heap.take n)then { st with heap:=st.heap.take n }else st
def lU (v:qa):Bool:=below 0 v
def q50 (agg:Bool)(sz:Nat):Nat→List qa→Option (List qa)
 |0,_=>Ef []
 |n+1,cs=>bif E3 sz cs.length then
   (match jok (cs.take sz) agg with
    |some v=>(match q50 agg sz n (cs.drop sz)with
     |some r=>Ef (v::r)
     |none=>I)
    |none=>I)else I
def lV (sz:Nat):Nat→List qa→List qa
 |0,_=>[]
 |n+1,cs=>(bif E1 sz 1 then cs.headD .undef else .agg (cs.take sz))::lV sz n (cs.drop sz)
def LW:qa→Bool
 | .str _=>E0
 | .list ..=>E0
 |_=>En
def Dc (off len:Nat)(cs:List (qa×Bool)):Bool:=E1 off 0&&E4 1 (cs.length / len)&&E1 (len*(cs.length / len)) cs.length&&cs.any (fun c=>LW c.1)
def iB (h:j8):qa→Option qa
 | .ms b off len=>match ym h b with
  |some cs=>bif Dc off len cs then Ef (.list En (cs.length / len) (lV (cs.length / len) len (cs.map (·.1))))else(match y8 cs off len with
   |some vs=>Ef (.list En 1 vs)
   |none=>I)
  |none=>I
 | .ak b bz len=>match h[b]? with
  |some (.vec sz df xs)=>bif E1 bz df&&E3 len xs.length then Ef (.list En sz (xs.take len))else I
  |_=>I
 |v=>Ef v
def lf (h:j8):List qa→Option (List qa)
 | []=>Ef []
 |v::vs=>match iB h v with
  |some x=>(match lf h vs with
   |some xs=>Ef (x::xs)
   |none=>I)
  |none=>I
def aC (h:j8):qa→Option qa
 | .agg cs=>match lf h cs with
  |some xs=>Ef (.agg xs)
  |none=>I
 | .aB vs=>match bn h vs with
  |some xs=>Ef (.aB xs)
  |none=>I
 |v=>iB h v
where
 bn (h:j8):List qa→Option (List qa)
  | []=>Ef []
  | .agg cs::vs=>match lf h cs with
   |some x=>(match bn h vs with
    |some xs=>Ef (.agg x::xs)
    |none=>I)
   |none=>I
  |v::vs=>match iB h v with
   |some x=>(match bn h vs with
    |some xs=>Ef (x::xs)
    |none=>I)
   |none=>I
def yx (kd:Kd)(k:qa):List (qa×qa)→Nat→Option (Option (Nat×qa))
 | [],_=>Ef I
 |(k',v)::es,i=>match kY kd k k' with
  |some E0=>Ef (Ef (i,v))
  |some En=>yx kd k es (i+1)
  |none=>I
def zg (s:List UInt8)(i:Nat):Nat×Nat:=Utf8.decode ⟨⟨s⟩⟩ i
structure qq where
 v:qa
 own:Bool
 strip:Option Nat
 heap:j8
def n5 (l:List Nat):Bool:=match l with
 | []=>En
 |k::_=>E3 1000 k
def yW (h0:Nat)(l:List Nat)(b:Nat):Bool:=match l with
 | []=>En
 |k::_=>bif E4 k 2000 then E1 b (k-1000)&&E4 b h0 else bif E4 k 4000 then E1 b (h0+(k-2000))else E4 b h0
def yv (h0:Nat)(al:Option (List Nat))(b:Nat):Bool:=
 match al with
 |none=>E0
 |some l=>bif n5 l then yW h0 l b else(E4 b h0||l.contains (b-h0))
def oT (al:Option (List Nat)):Bool:=
 match al with
 |some (k::_)=>E3 4000 k
 |_=>En
def tW (h0:Nat)(al:Option (List Nat))(b:Nat):Bool:=yv h0 al b&&!(oT al)
def yl (h:j8)(b:Nat)(x:qn):Option j8:=bif E4 b h.length then Ef (h.set b x)else I
def aJ (h0:Nat)(h:j8)(r:Nat)(x:qn):Option j8:=
 match h[h0+r]? with
 |some .hole=>Ef (h.set (h0+r) x)
 |_=>I
def val (h:j8)(v:qa):Option qq:=Ef ⟨v,En,I,h⟩
def fW (h:j8):Option qa→Option qq
 |some v=>Ef ⟨v,En,I,h⟩
 |none=>I
def idx (n:Nat):qa→Option Nat
 | .int _ (.ofNat i)=>bif E4 i n then Ef i else I
 |_=>I
def yX (n:Nat):qa→Option Nat
 | .int _ (.ofNat i)=>bif E3 i n then Ef i else I
 |_=>I
def eT (e:Env)(lg n:Nat):Option qh→Option Nat
 |none=>Ef lg
 |some x=>match zc e x with
  |some v=>yX n v
  |none=>I
def kg (e:Env):qh→Option Nat
 | .tmp t=>match yd t e with
  |some (_,E0)=>Ef t
  |_=>I
 |_=>I
def kj (sz:Nat):qa→Option (List qa)
 | .list _ sy ys=>bif E1 sz sy||ys.isEmpty then Ef ys else I
 | .str s=>bif E1 sz 1 then Ef (s.map fun(c:UInt8)=>qa.int .u8 c.toNat)else I
 |_=>I
def pF (n:Bool)(sz:Nat)(xs ys:List qa):qa:=bif n&&ys.isEmpty then .list E0 0 []else .list En sz (xs++ys)
def zh (e:Env)(h:j8):qw→Option qq
 | .move x=>fW h (zc e x)
 | .take s=>match yd s e with
  |some (v,o)=>Ef ⟨v,o,Ef s,h⟩
  |none=>I
 | .pick c a b=>match zc e c with
  |some (.bool t)=>(match zc e a,zc e b with
    |some x,Ef y=>val h (bif t then x else y)
    |_,_=>I)
  |_=>I
 | .nY n x=>match zc e x with
  |some v=>bif E1 v.flat.length n&&v.flat.all ze then val h (.ah v)else I
  |none=>I
 | .build zero parts=>match la e parts with
  |some ps=>match jB zero ps with
   |some cs=>val h (.agg cs)
   |none=>I
  |none=>I
 | .buildSlice sz len zero parts=>match iA e sz parts with
  |some ps=>match lb (E9 len (bif E1 sz 1 then zero.headD .undef else .agg zero)) ps with
   |some xs=>Ef ⟨.list En sz xs,E0,I,h⟩
   |none=>I
  |none=>I
 | .fU n=>Ef ⟨.cE n,E0,I,h⟩
 | .dw n s x=>match yd s e,zc e x with
  |some (.cE m,E0),Ef v=>bif E1 m n&&E1 v.flat.length n&&v.flat.all ze then val h (.ah v)else I
  |_,_=>I
 | .eP agg n x=>match zc e x with
  |some (.ah v)=>bif Gd agg v.isAgg||!(E1 v.flat.length n)then I else val h v
  |_=>I
 | .nilCheck x=>match zc e x with
  |some (.ptr b o)=>val h (.ptr b o)
  |some (.ah v)=>val h (.ah v)
  |some (.fn (.func f) a b)=>val h (.fn (.func f) a b)
  |_=>I
 | .bin op x y=>match zc e x,zc e y with
  |some a,Ef b=>fW h (fo op a b)
  |_,_=>I
 | .eqs ks neq x y=>match zc e x,zc e y with
  |some (.agg a),Ef (.agg b)=>bif E1 a.length ks.length&&E1 b.length ks.length then(match ky ks a b with
   |some t=>val h (.bool (bif neq then !t else t))
   |none=>I)else I
  |_,_=>I
 | .beq neq x y=>match zc e x,zc e y with
  |some (.bool a),Ef (.bool b)=>val h (.bool (bif neq then !(a == b)else a == b))
  |_,_=>I
 | .eQ k neq x=>match k,zc e x with
  |0,Ef (.list n _ _)=>val h (.bool (bif neq then !n else n))
  |0,Ef (.ms ..)=>val h (.bool neq)
  |1,Ef .bO=>val h (.bool (!neq))
  |1,Ef (.ptr ..)=>val h (.bool neq)
  |1,Ef (.ah ..)=>val h (.bool neq)
  |2,Ef .bN=>val h (.bool (!neq))
  |2,Ef (.map ..)=>val h (.bool neq)
  |3,Ef .bY=>val h (.bool (!neq))
  |3,Ef (.fn ..)=>val h (.bool neq)
  |_,_=>I
 | .un op x=>match zc e x with
  |some v=>fW h (wL op v)
  |none=>I
 | .conv k x=>match zc e x with
  |some (.int _ n)=>val h (.int k (j6 k n))
  |_=>I
 | .eJ x=>match zc e x with
  |some (.str s)=>val h (.str s)
  |some (.int _ n)=>val h (.str (Utf8.encode n).data.toList)
  |_=>I
 | .field agg off n x=>match zc e x with
  |some (.agg cs)=>fW h (part agg cs off n)
  |_=>I
 | .index agg len n x i=>match zc e x,zc e i with
  |some (.agg cs),Ef j=>(match idx len j with
   |some j=>fW h (part agg cs (j*n) n)
   |none=>I)
  |_,_=>I
 | .dM x i=>match zc e x,zc e i with
  |some (.str s),Ef j=>(match idx s.length j with
   |some j=>(match s[j]? with
    |some c=>val h (.int .u8 c.toNat)
    |none=>I)
   |none=>I)
  |_,_=>I
 | .fieldAddr agg off n x=>match zc e x with
  |some (.ptr b o)=>val h (.ptr b (o+off))
  |some (.ah (.agg cs))=>(match part agg cs off n with
   |some v=>bif Gd agg v.isAgg then I else val h (.ah v)
   |none=>I)
  |some (.cJ b bz o)=>val h (.cJ b bz (o+off))
  |_=>I
 | .indexAddr sz x i=>match zc e x,zc e i with
  |some (.list _ cK xs),Ef j=>bif E1 sz cK||xs.isEmpty then(match idx xs.length j with
   |some j=>(match xs[j]? with
    |some v=>val h (.ah v)
    |none=>I)
   |none=>I)else I
  |some (.ms b o len),Ef j=>(match idx len j with
   |some j=>val h (.ptr b (o+j*sz))
   |none=>I)
  |some (.ak b bz len),Ef j=>(match idx len j with
   |some j=>val h (.cJ b bz (j*sz))
   |none=>I)
  |_,_=>I
 | .dN agg len sz x i=>match zc e x,zc e i with
  |some (.ptr b o),Ef j=>(match idx len j with
   |some j=>val h (.ptr b (o+j*sz))
   |none=>I)
  |some (.ah (.agg cs)),Ef j=>(match idx len j with
   |some j=>(match part agg cs (j*sz) sz with
    |some v=>bif Gd agg v.isAgg then I else val h (.ah v)
    |none=>I)
   |none=>I)
  |_,_=>I
 | .slice sz x lo hi=>match zc e x with
  |some (.list n cK xs)=>bif E1 sz cK||xs.isEmpty then(match eT e xs.length xs.length hi with
   |some j=>(match eT e 0 j lo with
    |some i=>val h (.list n cK ((xs.take j).drop i))
    |none=>I)
   |none=>I)else I
  |some (.ms b o len)=>(match eT e len len hi with
   |some j=>(match eT e 0 j lo with
    |some i=>bif E1 i 0||E4 i j then val h (.ms b (o+i*sz) (j-i))else I
    |none=>I)
   |none=>I)
  |some (.ak b bz len)=>(match eT e len len hi with
   |some j=>(match eT e 0 j lo with
    |some i=>bif E1 i 0 then val h (.ak b bz j)else I
    |none=>I)
   |none=>I)
  |_=>I
 | .eo x lo hi=>match zc e x with
  |some (.str s)=>(match eT e s.length s.length hi with
   |some j=>(match eT e 0 j lo with
    |some i=>val h (.str ((s.take j).drop i))
    |none=>I)
   |none=>I)
  |_=>I
 | .ep len sz x lo hi=>match zc e x with
  |some (.ptr b o)=>(match eT e len len hi with
   |some j=>(match eT e 0 j lo with
    |some i=>bif E1 i 0||E4 i j then val h (.ms b (o+i*sz) (j-i))else I
    |none=>I)
   |none=>I)
  |_=>I
 | .fV f first captured=>match fF e first,fF e captured with
  |some a,Ef b=>val h (.fn f a b)
  |_,_=>I
 | .len k x=>match k,zc e x with
  |1,Ef (.list _ _ xs)=>val h (.int .i64 xs.length)
  |1,Ef (.ms _ _ n)=>val h (.int .i64 n)
  |1,Ef (.ak _ _ n)=>val h (.int .i64 n)
  |2,Ef (.list E0 _ _)=>val h (.int .i64 0)
  |0,Ef (.str s)=>val h (.int .i64 s.length)
  |_,_=>I
 | .append I sz bytes x y=>match zc e x,zc e y with
  |some (.list n cK xs),Ef vy=>
   bif n||(kg e x).isSome then
    (match kj sz vy with
     |some ys=>
      bif (E1 sz cK||(xs.isEmpty&&n))&&E3 (xs.length+ys.length) 1073741824&&E3 bytes 4096&&E4 0 sz then
       Ef ⟨pF n sz xs ys,E0,kg e x,h⟩
      else I
     |none=>I)
   else I
  |_,_=>I
 | .bW I sz bytes zero n c=>match zc e n,zc e c with
  |some (.int .i64 (.ofNat n)),Ef (.int .i64 (.ofNat c))=>
   bif E1 n c&&E3 n 1073741824&&E3 bytes 4096&&E1 zero.length sz&&E4 0 sz&&zero.all ze then
    Ef ⟨.list En sz (E9 n (bif E1 sz 1 then zero.headD .undef else .agg zero)),E0,I,h⟩else I
  |_,_=>I
 | .mx args=>match fF e args with
  |some (v::vs)=>fW h (nx max2 v vs)
  |_=>I
 | .mn args=>match fF e args with
  |some (v::vs)=>fW h (nx min2 v vs)
  |_=>I
 | .extract x i=>match zc e x with
  |some (.aB vs)=>fW h vs[i]?
  |_=>I
 |_=>I
def pG (es:List (qa×qa))(i:Nat)(v:qa):List (qa×qa):=
 match es,i with
 | [],_=>[]
 |(k,_)::r,0=>(k,v)::r
 |x::r,i+1=>x::pG r i v
def gW (h0:Nat)(al:Option (List Nat))(e:Env)(h:j8):qw→Option qq
 | .load agg n x=>match zc e x with
  |some (.ptr b o)=>bif yv h0 al b then(match ym h b with
   |some cs=>(match y8 cs o n with
    |some vs=>bif agg then val h (.agg vs)else(match vs with
     | [v]=>val h v
     |_=>I)
    |none=>I)
   |none=>I)else I
  |some (.ah v)=>bif Gd agg v.isAgg||!(E1 v.flat.length n)then I else val h v
  |some (.cJ b bz o)=>bif tW h0 al b then(match y5 h b with
   |some (.vec _ df xs)=>bif E1 bz df&&E3 (o+n) (xs.flatMap qa.flat).length then(bif agg then val h (.agg (((xs.flatMap qa.flat).drop o).take n))else(match((xs.flatMap qa.flat).drop o).take n with
     | [v]=>val h v
     |_=>I))else I
   |_=>I)else I
  |_=>I
 | .lookup kd zero ok m k=>match zc e m,zc e k with
  |some (.map b),Ef kv=>bif yv h0 al b then(match y5 h b with
   |some (.map es)=>(match yx kd kv es 0 with
    |some (Ef (_,v))=>val h (bif ok then .aB [v,.bool E0]else v)
    |some I=>val h (bif ok then .aB [zero,.bool En]else zero)
    |none=>I)
   |_=>I)else I
  |some .bN,Ef _=>val h (bif ok then .aB [zero,.bool En]else zero)
  |_,_=>I
 | .len _ x=>match zc e x with
  |some (.map b)=>bif yv h0 al b then(match y5 h b with
   |some (.map es)=>val h (.int .i64 es.length)
   |_=>I)else I
  |some .bN=>val h (.int .i64 0)
  |_=>I
 |_=>I
def q3g (es:List (qa×qa)):Option (Nat×qa)→List (qa×qa)
 |some (i,_)=>es.eraseIdx i
 |none=>es
def tX:Option Nat→Nat→Bool
 |none,_=>E0
 |some a,o=>E1 a o
def yY (sz len:Nat):qa→Option (Nat×List qa)
 | .list _ sy ys=>bif E1 sz sy||ys.isEmpty then Ef (min ys.length len,(ys.take len).flatMap qa.flat)else I
 |_=>I
def cellsOf (vs:List qa):List (qa×Bool):=vs.map (·,En)
def zj (h0:Nat)(al:Option (List Nat))(e:Env)(h:j8):qw→Option qq
 | .alloc r zero=>bif zero.all ze then(match aJ h0 h r (.cells (cellsOf zero))with
  |some h'=>val h' (.ptr (h0+r) 0)
  |none=>I)else I
 | .box r n x=>match zc e x with
  |some v=>bif E1 v.flat.length n&&v.flat.all ze then(match aJ h0 h r (.cells (cellsOf v.flat))with
   |some h'=>val h' (.ptr (h0+r) 0)
   |none=>I)else I
  |none=>I
 | .b8 off x=>match zc e x with
  |some (.ptr b o)=>bif yv h0 al b&&tX off o then(match ym h b with
   |some cs=>(match cs[o]? with
    |some (v,w)=>(match yl h b (.cells (cs.set o (v,En)))with
     |some h'=>Ef ⟨v,w,I,h'⟩
     |none=>I)
    |none=>I)
   |none=>I)else I
  |_=>I
 | .store n a x=>match zc e a,zc e x with
  |some (.ptr b o),Ef v=>bif yv h0 al b then(match ym h b with
   |some cs=>(match kg e x with
    |some t=>bif E1 n 1&&v.cu&&E4 o cs.length then(match yl h b (.cells (cs.set o (v,E0)))with
      |some h'=>Ef ⟨.undef,En,Ef t,h'⟩
      |none=>I)else I
    |none=>bif E1 v.flat.length n then(match yh cs o v.flat with
     |some dV=>(match yl h b (.cells dV)with
      |some h'=>val h' .undef
      |none=>I)
     |none=>I)else I)
   |none=>I)else I
  |_,_=>I
 | .fE r t e=>match aJ h0 h r (.fE t e [])with
  |some h'=>val h' (.ptr (h0+r) 0)
  |none=>I
 | .dO r=>match aJ h0 h r (.map [])with
  |some h'=>val h' (.map (h0+r))
  |none=>I
 | .mapUpdate kd m k x=>match zc e m,zc e k,zc e x with
  |some (.map b),Ef kv,Ef v=>bif yv h0 al b then(match y5 h b with
   |some (.map es)=>(match yx kd kv es 0 with
    |some (Ef (i,_))=>(match yl h b (.map (pG es i v))with
     |some h'=>val h' .undef
     |none=>I)
    |some I=>bif E3 es.length 1073741824 then(match yl h b (.map (es++[(kv,v)]))with
     |some h'=>val h' .undef
     |none=>I)else I
    |none=>I)
   |_=>I)else I
  |_,_,_=>I
 | .delete kd m k=>match zc e m,zc e k with
  |some (.map b),Ef kv=>bif yv h0 al b then(match y5 h b with
   |some (.map es)=>(match yx kd kv es 0 with
    |some r=>(match yl h b (.map (q3g es r))with
     |some h'=>val h' (.aB [])
     |none=>I)
    |none=>I)
   |_=>I)else I
  |_,_=>I
 | .bW (Ef r) sz bytes zero n c=>match zc e n,zc e c with
  |some (.int .i64 (.ofNat n)),Ef (.int .i64 (.ofNat c))=>
   bif E1 n c&&E3 n 1073741824&&E3 bytes 4096&&E1 zero.length sz&&E4 0 sz&&zero.all ze then
    (match aJ h0 h r (.cells (cellsOf (E9 n zero).flatten))with
     |some h'=>val h' (.ms (h0+r) 0 n)
     |none=>I)else I
  |_,_=>I
 | .append (Ef r) sz bytes x y=>match zc e x,zc e y with
  |some (.list En cK []),Ef vy=>
   bif (kg e x).isSome&&E1 sz cK then
    (match kj sz vy with
     |some ys=>
      bif E3 ys.length 1073741824&&E3 bytes 4096&&E4 0 sz then
       (match aJ h0 h r (.cells (cellsOf (ys.flatMap qa.flat)))with
        |some h'=>Ef ⟨.ms (h0+r) 0 ys.length,En,kg e x,h'⟩
        |none=>I)
      else I
     |none=>I)
   else I
  |_,_=>I
 | .gH r sz bytes x y=>match zc e x,zc e y with
  |some (.list E0 _ []),Ef vy=>(match kj sz vy with
    |some ys=>
     bif E3 ys.length 1073741824&&E3 bytes 4096&&E4 0 sz&&!ys.isEmpty&&zu 0 ys&&E4 r 1000 then
      (match aJ h0 h r (.vec sz 0 ys)with
       |some h'=>val h' (.ak (h0+r) 0 ys.length)
       |none=>I)else I
    |none=>I)
  |some (.ak b bz len),Ef vy=>(match y5 h b with
   |some (.vec cK df xs)=>(match kj sz vy with
    |some ys=>
     bif E1 bz df&&E1 sz cK&&E3 len xs.length&&E3 (len+ys.length) 1073741824&&E3 bytes 4096&&E4 0 sz&&zu 0 ys&&E4 r 1000 then
      (match yl h b (.vec sz (bz+1) (xs.take len++ys))with
       |some h'=>val h' (.ak b (bz+1) (len+ys.length))
       |none=>I)else I
    |none=>I)
   |_=>I)
  |_,_=>I
 | .gI r sz len zero parts=>match iA e sz parts with
  |some ps=>match lb (E9 len (bif E1 sz 1 then zero.headD .undef else .agg zero)) ps with
   |some xs=>bif zu 0 xs then(match aJ h0 h r (.vec sz 0 xs)with
    |some h'=>val h' (.ak (h0+r) 0 xs.length)
    |none=>I)else I
   |none=>I
  |none=>I
 | .copy sz x y=>match zc e x,zc e y with
  |some (.ms b o len),Ef vy=>bif yv h0 al b then(match ym h b with
   |some cs=>(match yY sz len vy with
    |some (n,vs)=>(match yh cs o vs with
     |some dV=>bif E1 vs.length (n*sz)then(match yl h b (.cells dV)with
      |some h'=>val h' (.int .i64 n)
      |none=>I)else I
     |none=>I)
    |none=>I)
   |none=>I)else I
  |_,_=>I
 | .dc r x=>match zc e x with
  |some (.str s)=>(match aJ h0 h r (.iter s 0)with
   |some h'=>val h' (.ptr (h0+r) 0)
   |none=>I)
  |_=>I
 | .eR it=>match zc e it with
  |some (.ptr b 0)=>bif yv h0 al b then(match y5 h b with
   |some (.iter s pos)=>bif E4 pos s.length then
     (match yl h b (.iter s (pos+(zg s pos).2))with
      |some h'=>val h' (.aB [.bool E0,.int .i64 pos,.int .i32 (zg s pos).1])
      |none=>I)else val h (.aB [.bool En])
   |_=>I)else I
  |_=>I
 |_=>I
def n6:Nat→List qa→Env
 |_,[]=>[]
 |i,v::vs=>(i,v,En)::n6 (i+1) vs
def tY (st:qg):ja→Option (qa×Bool)
 | .tmp t=>yd t st.env
 | .cell t agg n=>match yd t st.env with
  |some (.ptr b o,_)=>(match ym st.heap b with
   |some cs=>(match y8 cs o n with
    |some vs=>bif agg then Ef (.agg vs,En)else(match cs[o]? with
     |some x=>Ef x
     |none=>I)
    |none=>I)
   |none=>I)
  |_=>I
def lh (st:qg):List ja→Option (List (qa×Bool))
 | []=>Ef []
 |r::rs=>match tY st r with
  |some x=>(match lh st rs with
   |some xs=>Ef (x::xs)
   |none=>I)
  |none=>I
def yr:List (qa×Bool)→qa×Bool
 | [x]=>x
 |xs=>(.aB (xs.map (·.1)),En)
abbrev XC:=qe→qg→Option (qo×qg)
def kL (st:qg):List ja→j8
 | [.cell t En _]=>match yd t st.env with
  |some (.ptr b o,_)=>(match ym st.heap b with
   |some cs=>(match cs[o]? with
    |some (v,E0)=>st.heap.set b (.cells (cs.set o (v,En)))
    |_=>st.heap)
   |none=>st.heap)
  |_=>st.heap
 |_=>st.heap
def oU (xc:XC)(f:qd)(args:List qa)(h:j8):Option (qa×Bool×j8):=
 bif E3 args.length f.ntmps then
  match xc f.body ⟨n6 0 args,h⟩with
  |some (.normal,st)=>(match lh st f.results with
   |some xs=>Ef ((yr xs).1,(yr xs).2,kL st f.results)
   |none=>I)
  |some (.ret,st)=>(match lh st f.results with
   |some xs=>Ef ((yr xs).1,(yr xs).2,kL st f.results)
   |none=>I)
  |_=>I
 else I
def zf (p:qt)(xc:XC)(k:Nat)(args:List qa)(h:j8):Option (qa×Bool×j8):=
 match p.bj k with
 |some f=>oU xc f args h
 |none=>match p.dl k with
  |some f=>f args h
  |none=>I
def jy (p:qt)(xc:XC)(k:Nat)(args:List qa):Option (qa×Bool):=
 match p.cq k with
 |some f=>(match f args with
  |some (v,o)=>bif lU v then Ef (v,o)else I
  |none=>I)
 |none=>match zf p xc k args []with
  |some (v,o,h)=>(match aC h v with
   |some v'=>bif lU v' then Ef (v',o&&v.cu)else I
   |none=>I)
  |none=>I
def yi (n:Nat)(v:qa)(h:j8):j8:=
 bif E3 h.length n then h else bif below n v&&kh n (h.take n)then h.take n else h
def vi (e:Env):List Nat→List qa→Option Env
 | [],[]=>Ef e
 |t::ts,v::vs=>vi ((t,v,En)::e) ts vs
 |_,_=>I
def jO (xc:XC)(b:Nat)(args:List qa)(h:j8):Option (qa×j8):=
 match y5 h b with
 |some (.loop l)=>match l.pending,vi (eS l.env) l.params args with
  |none,Ef e=>(match xc l.assign ⟨e,h⟩with
   |some (.normal,st)=>(match y5 st.heap b with
    |some (.loop l1)=>bif l1.pending.isNone then(match xc l.body { st with heap:=st.heap.set b (.loop { l1 with pending:=Ef .normal }) }with
     |some (x,bL)=>(match y5 bL.heap b with
      |some (.loop l2)=>Ef (.bool (match x with | .normal=>E0|_=>En),yi h.length (.bool E0) (bL.heap.set b (.loop { l2 with pending:=match x with | .normal=>I|x=>Ef x })))
      |_=>I)
     |none=>I)else I
    |_=>I)
   |_=>I)
  |_,_=>I
 |_=>I
def ny:qa→Bool
 | .bool _=>E0
 | .int _ _=>E0
 | .str _=>E0
 |_=>En
def RS (h:j8):qa→Option qa
 | .ms b 0 len=>(match ym h b with
  |some cs=>bif E1 (len*(cs.length / len)) cs.length&&E4 0 (cs.length / len)&&cs.all (fun c=>ny c.1)then Ef (.list En (cs.length / len) (lV (cs.length / len) len (cs.map (·.1))))else(bif E1 len 0 then Ef (.list En 8 [])else I)
  |none=>I)
 |v=>Ef v
def wM (h:j8):List qa→Option (List qa)
 | []=>Ef []
 |v::vs=>match RS h v,wM h vs with
  |some x,Ef xs=>Ef (x::xs)
  |_,_=>I
def wN:qa→Bool
 | .agg cs=>cs.all ny
 |v=>ny v
def Dd (v:qa):qa:=bif wN v then v else .any
def LX:qa→Bool→Option (qa×Bool)
 | .list En sz xs,E0=>bif (xs.flatMap qa.flat).all ny then Ef (.list En sz xs,E0)else I
 | .list E0 sz [],_=>Ef (.list E0 sz [],En)
 | .aB vs,_=>Ef (.aB (vs.map Dd),En)
 |v,_=>bif wN v then Ef (v,En)else I
def pH (h0:Nat)(h:j8)(r:Nat):qa→Bool→Option qq
 | .list E0 sz [],_=>(match aJ h0 h r .dead with
  |some h'=>val h' (.list E0 sz [])
  |none=>I)
 | .list En sz xs,E0=>bif (xs.flatMap qa.flat).all ny then(match aJ h0 h r (.cells (cellsOf (xs.flatMap qa.flat)))with
  |some h'=>val h' (.ms (h0+r) 0 xs.length)
  |none=>I)else I
 |_,_=>I
def iC (p:qt)(xc:XC)(h0:Nat)(e:Env)(h:j8)(md:jc)(f:qh)(args:List qh):Option qq:=
 match zc e f,fF e args with
 |some (.fn (.func k) first captured),Ef vs=>
  (match md with
   | .bM=>bif zu 0 (first++vs++captured)then(match jy p xc k (first++vs++captured)with
     |some (v,o)=>Ef ⟨v,o,I,h⟩
     |none=>I)else I
   | .fb r=>bif (first++vs++captured).isEmpty then(match p.maps k with
     |some es=>(match aJ h0 h r (.map es)with
      |some h'=>val h' (.map (h0+r))
      |none=>I)
     |none=>I)else bif zu 0 (first++vs++captured)then(match jy p xc k (first++vs++captured)with
     |some (v,o)=>pH h0 h r v o
     |none=>I)else I
   | .red=>(match wM h (first++vs++captured)with
    |some us=>bif zu 0 us then(match jy p xc k us with
     |some (v,o)=>(match LX v o with
      |some (v',o')=>Ef ⟨v',o',I,h⟩
      |none=>I)
     |none=>I)else I
    |none=>I)
   | .shr=>(match zf p xc k (first++vs++captured) h with
    |some (v,o,h')=>Ef ⟨v,o,I,yi h.length v h'⟩
    |none=>I))
 |some (.fn (.yield b) [] []),Ef vs=>
  (match md with
   | .shr=>(match jO xc b vs h with
    |some (v,h')=>val h' v
    |none=>I)
   |_=>I)
 |_,_=>I
def j9 (p:qt)(xc:XC)(h0:Nat)(al:Option (List Nat))(e:Env)(h:j8)(op:qw):Option qq:=
 match op with
 | .call md f args=>iC p xc h0 e h md f args
 | .load agg n x=>gW h0 al e h (.load agg n x)
 | .lookup kd z ok m k=>gW h0 al e h (.lookup kd z ok m k)
 | .alloc r z=>zj h0 al e h (.alloc r z)
 | .box r n x=>zj h0 al e h (.box r n x)
 | .b8 off x=>zj h0 al e h (.b8 off x)
 | .store n a x=>zj h0 al e h (.store n a x)
 | .fE r t e'=>zj h0 al e h (.fE r t e')
 | .dO r=>zj h0 al e h (.dO r)
 | .mapUpdate kd m k x=>zj h0 al e h (.mapUpdate kd m k x)
 | .delete kd m k=>zj h0 al e h (.delete kd m k)
 | .bW (Ef r) sz b z n c=>zj h0 al e h (.bW (Ef r) sz b z n c)
 | .append (Ef r) sz b x y=>zj h0 al e h (.append (Ef r) sz b x y)
 | .gH r sz b x y=>zj h0 al e h (.gH r sz b x y)
 | .gI r sz n z ps=>zj h0 al e h (.gI r sz n z ps)
 | .copy sz x y=>zj h0 al e h (.copy sz x y)
 | .dc r x=>zj h0 al e h (.dc r x)
 | .eR it=>zj h0 al e h (.eR it)
 |op=>zh e h op
def kz (e:Env):Option Nat→Env
 |none=>e
 |some s=>match yd s e with
  |some (v,_)=>(s,v,En)::e
  |none=>e
def nz (e:Env)(d:Option Nat)(v:qa)(o:Bool):Env:=
 match d with
 |some d=>(d,v,o)::e
 |none=>e
def mf (e:Env):Option (Nat×Bool)→Option Bool
 |none=>Ef E0
 |some (s,want)=>match yd s e with
  |some (.bool b,_)=>Ef (b == want)
  |some (.undef,_)=>Ef En
  |_=>I
def iD (p:qt)(xc:XC)(h0:Nat)(o:qv)(st:qg):Option qg:=
 match mf st.env o.guard with
 |some E0=>(match j9 p xc h0 o.al st.env st.heap o.op with
  |some r=>Ef ⟨nz (kz st.env r.strip) o.dst r.v r.own,r.heap⟩
  |none=>I)
 |some En=>Ef ⟨nz st.env o.dst .undef En,st.heap⟩
 |none=>I
def fG (p:qt)(xc:XC)(h0:Nat):List qv→qg→Option qg
 | [],st=>Ef st
 |o::os,st=>match iD p xc h0 o st with
  |some bL=>fG p xc h0 os bL
  |none=>I
def yZ (st:qg):Option (List Nat)→qg
 |none=>st
 |some l=>{ st with env:=pD st.env l }
def mg (p:qt)(xc:XC)(na:Nat)(ops:List qv)(keep:Option (List Nat))(st:qg):Option (qo×qg):=
 match fG p xc st.heap.length ops { st with heap:=st.heap++E9 na .hole }with
 |some bL=>Ef (.normal,yZ bL keep)
 |none=>I
def mr (p:qt)(xc:XC)(f:qh)(params:List Nat)(assign body:qe)(st:qg):Option (qo×qg):=
 bif km assign&&km body then
  match zc st.env f with
  |some (.fn (.func k) first captured)=>
   (match zf p xc k (first++[.fn (.yield st.heap.length) [] []]++captured) (st.heap++[.loop ⟨st.env,params,assign,body,I⟩])with
    |some (_,_,h')=>(match y5 h' st.heap.length with
     |some (.loop l)=>bif kh st.heap.length (h'.take st.heap.length)then
       (match l.pending with
       |none=>Ef (.normal,{ st with heap:=h'.take st.heap.length })
       |some .normal=>I
       |some x=>Ef (x,{ st with heap:=h'.take st.heap.length }))else I
     |_=>I)
    |none=>I)
  |_=>I
 else I
def ye (p:qt):Nat→XC
 |0,_,_=>I
 |n+1,c,st=>match c with
  | .skip=>Ef (.normal,st)
  | .region na ops keep=>mg p (ye p n) na ops keep st
  | .seq a b=>match ye p n a st with
   |some (.normal,bL)=>ye p n b bL
   |r=>r
  | .cond c a b=>match zc st.env c with
   |some (.bool t)=>bif t then ye p n a st else ye p n b st
   |_=>I
  | .block id body=>match ye p n body st with
   |some (.exit fp,bL)=>bif E1 fp id then Ef (.normal,bL)else Ef (.exit fp,bL)
   |r=>r
  | .loop body=>match ye p n body st with
   |some (.normal,bL)=>ye p n (.loop body) (gc st.heap.length bL)
   |r=>r
  | .rangeFunc f params assign body=>mr p (ye p n) f params assign body st
  | .exit id=>Ef (.exit id,st)
  | .ret=>Ef (.ret,st)
  | .grow sz=>match yd 0 st.env,yd 1 st.env with
   |some (.list E0 _ _,_),Ef (.int .i64 (.ofNat m),_)=>bif E4 0 m&&E3 m 1073741824 then Ef (.normal,{ st with env:=[(0,.list En sz [],E0)] })else I
   |_,_=>I
  | .stuck=>I
structure qb where
 takes:List Nat:=[]
 bC:List Nat:=[]
 bD:List (Nat×Nat):=[]
 shr:List (Nat×Nat):=[]
 fb:List (Nat×Nat):=[]
 red:List (Nat×Nat):=[]
 keep:List (Nat×List Nat):=[]
 vl:List Nat:=[]
 vec:List Nat:=[]
 ex:List ((Nat×Nat)×Nat):=[]
 deriving Inhabited
def De:Value→Option qa
 | .bool b=>Ef (.bool b)
 | .int k n=>Ef (.int k n)
 | .string s=>Ef (.str s.data.toList)
 | .slice I 0 0=>Ef (.list E0 0 [])
 | .pointer I=>Ef .bO
 | .map I=>Ef .bN
 | .nilFunc=>Ef .bY
 |_=>I
def vj:List Value→Option (List qa)
 | []=>Ef []
 |v::vs=>match De v with
  |some x=>match vj vs with
   |some xs=>Ef (x::xs)
   |none=>I
  |none=>I
def ofValue:Value→Option qa
 | .agg cs=>match vj cs.toList with
  |some xs=>Ef (.agg xs)
  |none=>I
 |v=>De v
def zq:Operand→Option qh
 | .tmp t=>Ef (.tmp t)
 | .const v=>match ofValue v with
  |some x=>Ef (.const x)
  |none=>I
 | .func f=>Ef (.const (.fn (.func f) [] []))
 | .global _=>I
def oV:List Operand→Option (List qh)
 | []=>Ef []
 |x::xs=>match zq x with
  |some y=>match oV xs with
   |some ys=>Ef (y::ys)
   |none=>I
  |none=>I
def mA:Option Operand→Option (Option qh)
 |none=>Ef I
 |some x=>match zq x with
  |some y=>Ef (Ef y)
  |none=>I
def fc (P:Program)(t:TypeId):Option Bool:=
 match P.underlying t with
 |some (.struct _)=>Ef E0
 |some (.array _ _)=>Ef E0
 |some _=>Ef En
 |none=>I
def yg (P:Program)(t:TypeId):Option Nat:=(P.info? t).map (·.size)
def nA (P:Program)(t:TypeId):Option Nat:=(P.info? t).map (·.bytes)
def ek (P:Program)(t:TypeId):Option (List qa):=
 match P.info? t with
 |some i=>match i.zero with
  |some z=>vj z.cells.toList
  |none=>I
 |none=>I
def RT (P:Program)(t:TypeId):Option TypeId:=
 match P.underlying t with
 |some (.struct fs)=>match fs.toList with
  | [f0,f1]=>match P.underlying f0.type,P.underlying f1.type with
   |some (.pointer t'),Ef (.slice e)=>match P.underlying e,ek P t with
    |some (.int .u8),Ef [.bO,.list E0 _ []]=>if t' == t then Ef e else I
    |_,_=>I
   |_,_=>I
  |_=>I
 |_=>I
def RU (P:Program)(t:TypeId):Option qa:=
 match P.info? t with
 |some i=>match i.zero with
  |some z=>ofValue z
  |none=>I
 |none=>I
def EP (g:TypeId→Option (List Kd)):Nat→List Field→Option (List Kd)
 |_,[]=>Ef []
 | off, f :: fs => if f.name != "_" && f.offset == off then (match g f.type with
   |some ks=>(match EP g (off+ks.length) fs with
    |some r=>Ef (ks++r)
    |none=>I)
   |none=>I)else I
def tZ (P:Program):Nat→TypeId→Option (List Kd)
 |0,_=>I
 |n+1,t=>match P.underlying t with
  |some (.int _)=>if yg P t == Ef 1 then Ef [.int]else I
  |some .string=>if yg P t == Ef 1 then Ef [.str]else I
  |some .bool=>if yg P t == Ef 1 then Ef [.bool]else I
  |some (.struct fs)=>(match EP (tZ P n) 0 fs.toList with
   |some ks=>if !P.stoodInHeld t&&yg P t == Ef ks.length then Ef ks else I
   |none=>I)
  |some (.array len e)=>(match tZ P n e with
   |some ks=>if yg P t == Ef (len*ks.length)then Ef (E9 len ks).flatten else I
   |none=>I)
  |_=>I
def LY:Nat:=12
def jP (P:Program)(t:TypeId):Option Kd:=
 match P.underlying t with
 |some (.int _)=>Ef .int
 |some .string=>Ef .str
 |some .bool=>Ef .bool
 |_=>I
def Df (P:Program)(op:BinOp)(neq:Bool)(t:TypeId)(x y:Operand):Option qw:=
 match P.underlying t with
 |some (.int _)|some .string=>match zq x,zq y with
  |some a,Ef b=>Ef (.bin op a b)
  |_,_=>I
 |some .bool=>match zq x,zq y with
  |some a,Ef b=>Ef (.beq neq a b)
  |_,_=>I
 |some (.struct _)|some (.array _ _)=>
  if !P.eqGuardType P.depth t then match tZ P LY t,zq x,zq y with
   |some ks,Ef a,Ef b=>Ef (.eqs ks neq a b)
   |_,_,_=>I
  else I
 |some (.slice _)=>match y with
  | .const (.slice I 0 0)=>(zq x).map (.eQ 0 neq)
  |_=>I
 |some (.pointer _)=>match y with
  | .const (.pointer I)=>(zq x).map (.eQ 1 neq)
  |_=>I
 |some (.map _ _)=>match y with
  | .const (.map I)=>(zq x).map (.eQ 2 neq)
  |_=>I
 |some (.func _ _ _)=>match y with
  | .const .nilFunc=>(zq x).map (.eQ 3 neq)
  |_=>I
 |_=>I
def RV (P:Program)(op:BinOp)(t:TypeId)(x y:Operand):Option qw:=
 match op with
 | .eql=>Df P .eql En t x y
 | .neq=>Df P .neq E0 t x y
 |op=>match zq x,zq y with
  |some a,Ef b=>Ef (.bin op a b)
  |_,_=>I
def wO (P:Program)(place:Nat→Option (Nat×Nat)):List (Nat×Operand)→Option (List (Nat×Nat×qh))
 | []=>Ef []
 |(i,x)::ps=>match place i,zq x,wO P place ps with
  |some (off,n),Ef y,Ef r=>Ef ((off,n,y)::r)
  |_,_,_=>I
def wP:List (Nat×Operand)→Option (List (Nat×qh))
 | []=>Ef []
 |(i,x)::ps=>match zq x,wP ps with
  |some y,Ef r=>Ef ((i,y)::r)
  |_,_=>I
def q6z (h:qb)(dst:Option Nat)(x:Operand):Option Nat:=
 match x,dst with
 | .tmp s,Ef d=>if h.takes.contains d then Ef s else I
 |_,_=>I
def zb:TypeDesc→Bool
 | .slice _=>E0
 | .string=>E0
 |_=>En
def jc.at (r:Nat):jc→jc
 | .fb _=>.fb r
 |m=>m
def zi (P:Program)(h:qb)(md:jc)(r:Nat)(dst:Option Nat)(c:Call):Option qw:=
 match c.callee with
 | .value f=>match zq f,oV c.args.toList with
  |some f,Ef args=>Ef (.call (md.at r) f args)
  |_,_=>I
 | .builtin .len=>match c.args.toList,c.argTypes.toList with
  | [x],[t]=>match P.underlying t with
   |some .string=>(zq x).map (.len 0)
   |some (.slice _)=>(zq x).map (.len 1)
   |_=>I
  |_,_=>I
 | .builtin .cap=>match c.args.toList,c.argTypes.toList with
  | [x],[t]=>match P.underlying t with
   |some (.slice _)=>(zq x).map (.len 2)
   |_=>I
  |_,_=>I
 | .builtin .append=>match c.args.toList,c.argTypes.toList with
  | [x,y],[t,u]=>match P.underlying t,P.underlying u with
   |some (.slice e),Ef ut=>if zb ut&&(ek P e).map (·.length) == yg P e then match yg P e,nA P e,zq x,zq y with
     |some sz,Ef b,Ef x,Ef y=>Ef (if(dst.map (h.vec.contains ·)).getD En then .gH r sz b x y else .append (if(dst.map (h.bC.contains ·)).getD En then Ef r else I) sz b x y)
     |_,_,_,_=>I
    else I
   |_,_=>I
  |_,_=>I
 | .builtin .copy=>match c.args.toList,c.argTypes.toList with
  | [x,y],t::_=>match P.underlying t with
   |some (.slice e)=>match yg P e,zq x,zq y with
    |some sz,Ef x,Ef y=>Ef (.copy sz x y)
    |_,_,_=>I
   |_=>I
  |_,_=>I
 | .builtin .delete=>match c.args.toList,c.argTypes.toList with
  | [m,k],t::_=>match P.underlying t with
   |some (.map kt _)=>match jP P kt,zq m,zq k with
    |some kd,Ef m,Ef k=>Ef (.delete kd m k)
    |_,_,_=>I
   |_=>I
  |_,_=>I
 | .builtin .max=>(oV c.args.toList).map .mx
 | .builtin .min=>(oV c.args.toList).map .mn
 |_=>I
def Dg : List (String × List Int) := [("woofer/network.none", [0, 0]), ("woofer/network.one", [1, 0]), ("woofer/network.turns", [1, 0, 0, 1, -1, 0, 0, -1])]
def EQ (P:Program)(g:Nat):List (String×List Int)→Option (List Int)
 | []=>I
 |(n,cs)::l=>if P.globalNamed n == Ef g then Ef cs else EQ P g l
def LZ (P:Program)(t:TypeId)(g:Nat):Option qw:=match EQ P g Dg,fc P t,yg P t with
 |some cs,Ef E0,Ef n=>if cs.length == n then Ef (.move (.const (.agg (cs.map (qa.int .i64)))))else I
 |_,_,_=>I
def L0 (h:qb):qh→Option Nat
 | .tmp s=>if h.vl.contains s then Ef s else I
 |_=>I
def cx (P:Program)(h:qb)(md:jc)(r:Nat)(dst:Option Nat):Op→Option qw
 | .move x=>match q6z h dst x with
  |some s=>Ef (.take s)
  |none=>(zq x).map .move
 | .assign (.tmp s)=>Ef (.take s)
 | .assign x=>(zq x).map .move
 | .pick c a b=>match zq c,zq a,zq b with
  |some c,Ef a,Ef b=>Ef (.pick c a b)
  |_,_,_=>I
 | .alloc t=>match RT P t with
  |some e=>Ef (.fE r t e)
  |none=>bif (dst.map (h.vl.contains ·)).getD En then(match ek P t with
   |some z=>bif z.all ze then Ef (.fU z.length)else I
   |none=>I)else(ek P t).map (.alloc r)
 | .box t x=>match yg P t,zq x with
  |some n,Ef x=>Ef (bif (dst.map (h.vl.contains ·)).getD En then .nY n x else .box r n x)
  |_,_=>I
 | .build t ps=>match P.underlying t,ek P t with
  |some (.struct fs),Ef z=>if fs.toList.all (fun f=>(yg P f.type).isSome)then(wO P (fun i=>match fs[i]? with
    |some f=>(yg P f.type).map fun n=>(f.offset,n)
    |none=>I) ps.toList).map (.build z)else I
  |some (.array _ e),Ef z=>match yg P e with
   |some n=>(wO P (fun i=>Ef (i*n,n)) ps.toList).map (.build z)
   |none=>I
  |_,_=>I
 | .buildSlice t n ps=>match P.underlying t with
  |some (.slice e)=>match yg P e,ek P e,fc P e,wP ps.toList with
   |some sz,Ef z,Ef ag,Ef es=>if sz*n≤65536&&0<sz&&z.length == sz&&(ag||sz == 1)&&(!ag||sz != 1)then Ef (if(dst.map (h.vec.contains ·)).getD En then .gI r sz n z es else .buildSlice sz n z es)else I
   |_,_,_,_=>I
  |_=>I
 | .load t (.global g)=>LZ P t g
 | .load t x=>match fc P t,yg P t,zq x with
  |some En,Ef 1,Ef x=>if(dst.map (h.takes.contains ·)).getD En then Ef (.b8 ((dst.bind fun d=>h.bD.find? fun y=>y.1 == d).map (·.2)) x)else Ef (bif (dst.map (h.vl.contains ·)).getD En then .eP En 1 x else .load En 1 x)
  |some E0,Ef n,Ef x=>Ef (bif (dst.map (h.vl.contains ·)).getD En then .eP E0 n x else .load E0 n x)
  |_,_,_=>I
 | .store t a v=>match yg P t,zq a,zq v with
  |some n,Ef a,Ef v=>Ef (match L0 h a with
   |some s=>.dw n s v
   |none=>.store n a v)
  |_,_,_=>I
 | .nilCheck x=>(zq x).map .nilCheck
 | .binOp op t x y _=>RV P op t x y
 | .unOp op _ x=>(zq x).map (.un op)
 | .convert s d x=>match P.underlying s,P.underlying d with
  |some (.int _),Ef (.int k)=>(zq x).map (.conv k)
  |some .string,Ef .string=>(zq x).map .eJ
  |some (.int _),Ef .string=>(zq x).map .eJ
  |_,_=>I
 | .makeFunc f a b=>match f with
  | .func k=>match oV a.toList,oV b.toList with
   |some a,Ef b=>Ef (.fV (.func k) a b)
   |_,_=>I
  |_=>I
 | .makeMap t I=>match P.underlying t with
  |some (.map _ _)=>Ef (.dO r)
  |_=>I
 | .makeSlice t n c=>match P.underlying t with
  |some (.slice e)=>match yg P e,nA P e,ek P e,fc P e,zq n,zq c with
   |some sz,Ef b,Ef z,Ef ag,Ef n,Ef c=>
    if(ag||sz == 1)&&(!ag||sz != 1)then Ef (.bW (if(dst.map (h.bC.contains ·)).getD En then Ef r else I) sz b z n c)else I
   |_,_,_,_,_,_=>I
  |_=>I
 | .slice t x lo hi I=>match zq x,mA lo,mA hi with
  |some x,Ef lo,Ef hi=>match P.underlying t with
   |some .string=>Ef (.eo x lo hi)
   |some (.slice e)=>(yg P e).map fun sz=>.slice sz x lo hi
   |some (.array n e)=>(yg P e).map fun sz=>.ep n sz x lo hi
   |_=>I
  |_,_,_=>I
 | .fieldAddr t x i=>match P.underlying t with
  |some (.struct fs)=>match fs[i]? with
   |some f=>match fc P f.type,yg P f.type,zq x with
    |some ag,Ef n,Ef x=>if 0<n&&(ag||n == 1)then Ef (.fieldAddr ag f.offset n x)else I
    |_,_,_=>I
   |none=>I
  |_=>I
 | .field t x i=>match P.underlying t with
  |some (.struct fs)=>match fs[i]? with
   |some f=>match fc P f.type,yg P f.type,zq x with
    |some ag,Ef n,Ef x=>Ef (.field ag f.offset n x)
    |_,_,_=>I
   |none=>I
  |_=>I
 | .indexAddr t x i=>match zq x,zq i with
  |some x,Ef i=>match P.underlying t with
   |some (.slice e)=>match yg P e with
    |some sz=>if 0<sz then Ef (.indexAddr sz x i)else I
    |none=>I
   |some (.array n e)=>match yg P e,fc P e with
    |some sz,Ef ag=>if 0<sz&&(ag||sz == 1)then Ef (.dN ag n sz x i)else I
    |_,_=>I
   |_=>I
  |_,_=>I
 | .index t x i=>match zq x,zq i with
  |some x,Ef i=>match P.underlying t with
   |some .string=>Ef (.dM x i)
   |some (.array n e)=>match yg P e,fc P e with
    |some sz,Ef ag=>Ef (.index ag n sz x i)
    |_,_=>I
   |_=>I
  |_,_=>I
 | .lookup t m k ok=>match P.underlying t with
  |some (.map kt e)=>match jP P kt,RU P e,zq m,zq k with
   |some kd,Ef z,Ef m,Ef k=>Ef (.lookup kd z ok m k)
   |_,_,_,_=>I
  |_=>I
 | .mapUpdate t m k v=>match P.underlying t with
  |some (.map kt _)=>match jP P kt,zq m,zq k,zq v with
   |some kd,Ef m,Ef k,Ef v=>Ef (.mapUpdate kd m k v)
   |_,_,_,_=>I
  |_=>I
 | .insert t m k v=>match P.underlying t with
  |some (.map kt _)=>match jP P kt,zq m,zq k,zq v with
   |some kd,Ef m,Ef k,Ef v=>Ef (.mapUpdate kd m k v)
   |_,_,_,_=>I
  |_=>I
 | .range t x=>match P.underlying t with
  |some .string=>(zq x).map (.dc r)
  |_=>I
 | .next it E0=>(zq it).map .eR
 | .extract x i=>(zq x).map fun x=>.extract x i
 | .call c=>zi P h md r dst c
 |_=>I
def qw.makes:qw→Bool
 | .alloc ..=>E0
 | .box ..=>E0
 | .fE ..=>E0
 | .dO ..=>E0
 | .bW (Ef _) ..=>E0
 | .append (Ef _) ..=>E0
 | .gH ..=>E0
 | .gI ..=>E0
 | .dc ..=>E0
 | .call (.fb _) ..=>E0
 |_=>En
def qw.gJ:qw→Option Nat
 | .dw _ s _=>Ef s
 |_=>I
def qw.wQ (d:Option Nat):qw→Option Nat
 | .dw _ s _=>Ef s
 |_=>d
def Dh (ops:Array Oper):Option (Nat×Bool)→Option (Option (Nat×Bool))
 |none=>Ef I
 |some (j,b)=>match(ops[j]?).bind (·.dst)with
  |some d=>Ef (Ef (d,b))
  |none=>I
def jcj (h:qb)(id i:Nat):jc:=if h.shr.contains (id,i)then .shr else if h.fb.contains (id,i)then .fb 0 else if h.red.contains (id,i)then .red else .bM
def ER (P:Program)(h:qb)(nt:Nat)(id:Nat)(ops:Array Oper)(gX:Array Nat)(draw:Bool):List Oper→Nat→List (Nat×Nat)→Option (List qv×List (Nat×Nat))
 | [],_,rs=>Ef ([],rs)
 |o::os,i,rs=>
  match(cx P h (jcj h id i) rs.length o.dst o.op).getD .bad,Dh ops o.guard with
  |a,Ef g=>
   if(o.dst.map (decide <| · < nt)).getD E0&&(a.gJ.map (decide <| · < nt)).getD E0&&(a.gJ.isNone||(o.dst.isNone&&o.guard.isNone))then
    let Di:=if a.makes then(i,rs.length)::rs else rs
    let al:=if draw then(match h.ex.find? fun x=>x.1 == (id,i)with
     |some x=>Ef [x.2]
     |none=>Ef ((rs.filter fun x=>(gX.getD i 0).testBit x.1).map (·.2)))else I
    match ER P h nt id ops gX draw os (i+1) Di with
    |some (l,RW)=>Ef (⟨a.wQ o.dst,a,g,al⟩::l,RW)
    |none=>I
   else I
  |_,_=>I
def yz:qh→List Nat
 | .tmp t=>[t]
 | .const _=>[]
def wR (l:List qh):List Nat:=l.flatMap yz
def zk:Option qh→List Nat
 |some x=>yz x
 |none=>[]
def qw.reads:qw→List Nat
 | .move x=>yz x
 | .take s=>[s]
 | .pick c a b=>yz c++yz a++yz b
 | .alloc _ _=>[]
 | .box _ _ x=>yz x
 | .nY _ x=>yz x
 | .fU _=>[]
 | .dw _ s x=>s::yz x
 | .fE _ _ _=>[]
 | .build _ ps=>ps.flatMap fun p=>yz p.2.2
 | .buildSlice _ _ _ ps=>ps.flatMap fun p=>yz p.2
 | .load _ _ x=>yz x
 | .eP _ _ x=>yz x
 | .b8 _ x=>yz x
 | .store _ a v=>yz a++yz v
 | .nilCheck x=>yz x
 | .bin _ x y=>yz x++yz y
 | .eqs _ _ x y=>yz x++yz y
 | .beq _ x y=>yz x++yz y
 | .eQ _ _ x=>yz x
 | .un _ x=>yz x
 | .conv _ x=>yz x
 | .eJ x=>yz x
 | .field _ _ _ x=>yz x
 | .index _ _ _ x i=>yz x++yz i
 | .dM x i=>yz x++yz i
 | .fieldAddr _ _ _ x=>yz x
 | .indexAddr _ x i=>yz x++yz i
 | .dN _ _ _ x i=>yz x++yz i
 | .slice _ x lo hi=>yz x++zk lo++zk hi
 | .eo x lo hi=>yz x++zk lo++zk hi
 | .ep _ _ x lo hi=>yz x++zk lo++zk hi
 | .fV _ a b=>wR a++wR b
 | .dO _=>[]
 | .lookup _ _ _ m k=>yz m++yz k
 | .mapUpdate _ m k v=>yz m++yz k++yz v
 | .delete _ m k=>yz m++yz k
 | .bW _ _ _ _ n c=>yz n++yz c
 | .len _ x=>yz x
 | .append _ _ _ x y=>yz x++yz y
 | .gH _ _ _ x y=>yz x++yz y
 | .gI _ _ _ _ ps=>ps.flatMap fun p=>yz p.2
 | .copy _ x y=>yz x++yz y
 | .mx l=>wR l
 | .mn l=>wR l
 | .extract x _=>yz x
 | .call _ f l=>yz f++wR l
 | .dc _ x=>yz x
 | .eR x=>yz x
 | .bad=>[]
def qw.fe:qw→List Nat
 | .take s=>[s]
 | .append _ _ _ x _=>yz x
 | .store _ _ v=>yz v
 |_=>[]
def qv.reads (o:qv):List Nat:=o.op.reads++(match o.guard with|some g=>[g.1]|none=>[])
def qv.writes (o:qv):List Nat:=o.dst.toList++o.op.fe
inductive jq where
 |pure|read|write|alloc|take|fb|shr|nB
 deriving DecidableEq,Inhabited
def qw.cl:qw→jq
 | .load ..=>.read
 | .lookup ..=>.read
 | .alloc ..=>.alloc
 | .box ..=>.alloc
 | .fE ..=>.alloc
 | .dO ..=>.alloc
 | .bW (Ef _) ..=>.alloc
 | .append (Ef _) ..=>.alloc
 | .dc ..=>.alloc
 | .b8 I _=>.write
 | .b8 (Ef _) _=>.take
 | .store ..=>.write
 | .mapUpdate ..=>.write
 | .delete ..=>.write
 | .copy ..=>.write
 | .eR ..=>.write
 | .call .bM ..=>.pure
 | .call (.fb _) ..=>.alloc
 | .call .shr ..=>.shr
 | .call .red ..=>.shr
 | .gH ..=>.nB
 | .gI ..=>.shr
 |_=>.pure
def qw.cA:qw→Nat
 | .alloc r _=>r
 | .box r _ _=>r
 | .fE r _ _=>r
 | .dO r=>r
 | .bW (Ef r) ..=>r
 | .append (Ef r) ..=>r
 | .dc r _=>r
 | .call (.fb r) ..=>r
 | .b8 (Ef o) _=>o
 | .gH r sz ..=>r+1000*sz
 |_=>0
def mC (al:Option (List Nat))(r:Nat):Bool:=match al with
 |none=>E0
 |some l=>bif n5 l then E1 (l.headD 0) (2000+r)else l.contains r
def Dj (a b:Option (List Nat)):Bool:=match a,b with
 |some l,Ef m=>bif n5 l then(bif n5 m then !(E1 (l.headD 0) (m.headD 0))&&E4 (l.headD 0) 4000&&E4 (m.headD 0) 4000 else E3 2000 (l.headD 0)&&E4 (l.headD 0) 4000&&!(m.contains (l.headD 0-2000)))else n5 m&&E3 2000 (m.headD 0)&&E4 (m.headD 0) 4000&&!(l.contains (m.headD 0-2000))
 |_,_=>En
def jq.box:jq→Bool
 | .read=>E0
 | .write=>E0
 | .take=>E0
 |_=>En
def RX (a b:qv):Bool:=(a.op.cl.box&&b.op.cl.box&&Dj a.al b.al) ||
  (match a.op.cl,b.op.cl with
 | .pure,_=>E0
 |_,.pure=>E0
 | .read,.read=>E0
 | .read,.fb=>E0
 | .fb,.read=>E0
 | .fb,.fb=>E0
 | .alloc,.alloc=>a.op.cA != b.op.cA
 | .alloc,.read=>!mC b.al a.op.cA
 | .alloc,.write=>!mC b.al a.op.cA
 | .alloc,.take=>!mC b.al a.op.cA
 | .take,.alloc=>!mC a.al b.op.cA
 | .take,.take=>a.op.cA != b.op.cA
 | .read,.alloc=>!mC a.al b.op.cA
 | .write,.alloc=>!mC a.al b.op.cA
 | .nB,.nB=>a.op.cA % 1000 != b.op.cA % 1000&&a.op.cA / 1000 != b.op.cA / 1000
 | .nB,.read=>oT b.al
 | .nB,.write=>oT b.al
 | .nB,.take=>oT b.al
 | .read,.nB=>oT a.al
 | .write,.nB=>oT a.al
 | .take,.nB=>oT a.al
 |_,_=>En)
def ES (a b:List Nat):Bool:=a.all fun x=>!b.contains x
def zm (a b:qv):Bool:=
 RX a b&&ES a.writes b.reads&&ES a.writes b.writes&&ES b.writes a.reads
def RY (gX:Array Nat)(l:List qv):Bool:=
 (l.zipIdx).all fun(b,j)=>(l.zipIdx).all fun(a,i)=>!(decide (i<j))||(gX.getD j 0).testBit i||zm a b
def RZ (ops:Array Oper):Bool:=ops.toList.zipIdx.all fun(o,i)=>o.after.all fun e=>!Region.binds .any e||decide (e.on<i)
def R0 (gX:Array Nat)(ops:Array Oper):Bool:=
 ops.toList.zipIdx.all fun(o,i)=>(List.range ops.size).all fun j=>!((gX.getD i 0).testBit j)||o.after.any fun e=>Region.binds .any e&&(e.on == j||(gX.getD e.on 0).testBit j)
def ET (P:Program)(h:qb)(nt:Nat)(id:Nat)(ops:Array Oper)(draw:Bool):Option qe:=
 match ER P h nt id ops (Region.before ops) draw ops.toList 0 []with
 |some (l,rs)=>
  if !draw||(RY (Region.before ops) l&&RZ ops&&R0 (Region.before ops) ops)then
   Ef (.region rs.length l ((h.keep.find? fun x=>x.1 == id).map (·.2)))
  else I
 |none=>I
def Dk (s d:Nat)(o:Oper):Bool:=match o.op,o.dst,o.guard with
 | .move (.tmp s'),Ef d',I=>s' == s&&d' == d
 |_,_,_=>En
def R1 (s d:Nat)(o:Oper):Bool:=match o.op,o.dst,o.guard with
 | .assign (.tmp s'),Ef d',I=>s' == s&&d' == d
 |_,_,_=>En
def R2 (x d:Nat)(o:Oper):Option TypeId:=match o.op,o.dst,o.guard with
 | .call c,Ef d',I=>match c.callee,c.args.toList,c.argTypes.toList with
  | .builtin .cap,[.tmp x'],[t]=>if x' == x&&d' == d then Ef t else I
  |_,_,_=>I
 |_,_,_=>I
def R3 (x d:Nat)(o:Oper):Option TypeId:=match o.op,o.dst,o.guard with
 | .call c,Ef d',I=>match c.callee,c.args.toList,c.argTypes.toList with
  | .builtin .len,[.tmp x'],[t]=>if x' == x&&d' == d then Ef t else I
  |_,_,_=>I
 |_,_,_=>I
def L2 (x h d:Nat)(o:Oper):Option TypeId:=match o.op,o.dst,o.guard with
 | .slice t (.tmp x') I (Ef (.tmp h')) I,Ef d',I=>if x' == x&&h' == h&&d' == d then Ef t else I
 |_,_,_=>I
def R4 (x y d:Nat)(o:Oper):Option (TypeId×TypeId):=match o.op,o.dst,o.guard with
 | .call c,Ef d',I=>match c.callee,c.args.toList,c.argTypes.toList with
  | .builtin .append,[.tmp x',.tmp y'],[t,u]=>if x' == x&&y' == y&&d' == d then Ef (t,u)else I
  |_,_,_=>I
 |_,_,_=>I
def jkm (ops:Array Oper):Option (TypeId×TypeId):=match ops.toList with
 | [o0,o1,o2,o3,o4,o5,o6,o7,o8,o9]=>match R2 18 19 o2,L2 17 19 20 o3,R4 20 21 22 o5,R3 23 24 o7,L2 22 24 25 o8 with
  |some t2,Ef t3,Ef (t,u),Ef t7,Ef t8=>if Dk 0 17 o0&&Dk 0 18 o1&&Dk 1 21 o4&&Dk 0 23 o6&&R1 25 0 o9&&t2 == t&&t3 == t&&t7 == t&&t8 == t then Ef (t,u)else I
  |_,_,_,_,_=>I
 |_=>I
def L3 (P:Program)(nt:Nat)(ops:Array Oper):Option Nat:=match jkm ops with
 |some (t,u)=>match P.underlying t,P.underlying u with
  |some (.slice e),Ef (.int _)=>match P.info? e with
   |some i=>if i.zero.isSome&&0<i.size&&i.bytes≤4096&&26≤nt&&(ek P e).isSome&&(ek P e).map (·.length) == Ef i.size then Ef i.size else I
   |none=>I
  |_,_=>I
 |none=>I
def gw (P:Program)(h:qb)(nt:Nat):Code→Option qe
 | .skip=>Ef .skip
 | .label _=>Ef .skip
 | .region id ops draw=>match draw,L3 P nt ops with
  |false,Ef sz=>Ef (.grow sz)
  |_,_=>ET P h nt id ops draw
 | .seq a b=>match gw P h nt a,gw P h nt b with
  |some x,Ef y=>Ef (.seq x y)
  |_,_=>I
 | .cond c a b=>match zq c,gw P h nt a,gw P h nt b with
  |some c,Ef x,Ef y=>Ef (.cond c x y)
  |_,_,_=>I
 | .block id b=>(gw P h nt b).map (.block id)
 | .loop b=>(gw P h nt b).map .loop
 | .scope b=>(gw P h nt b).map fun x=>.seq x .skip
 | .rangeFunc f ps a b=>match zq f,gw P h nt a,gw P h nt b with
  |some f,Ef x,Ef y=>if ps.all (decide <| · < nt)then Ef (.rangeFunc f ps.toList x y)else I
  |_,_,_=>I
 | .exit id=>Ef (.exit id)
 | .ret=>Ef .ret
 |_=>Ef .stuck
def L4 (P:Program):ResultVar→Option ja
 | .tmp t=>Ef (.tmp t)
 | .cell t ty=>match fc P ty,yg P ty with
  |some E0,Ef n=>Ef (.cell t E0 n)
  |some En,Ef 1=>Ef (.cell t En 1)
  |_,_=>I
def zy (P:Program):List ResultVar→Option (List ja)
 | []=>Ef []
 |r::rs=>match L4 P r,zy P rs with
  |some x,Ef xs=>Ef (x::xs)
  |_,_=>I
def EU (P:Program)(h:qb)(f:Func):Option qd:=
 match f.body with
 |some c=>match gw P h f.ntmps c,zy P f.results.toList with
  | some b, Ef rs => if f.name == "runtime.NumGoroutine" then I else Ef ⟨f.ntmps, b, rs⟩
  |_,_=>I
 |none=>I
structure ay where
 K:Nat→Nat→Option Value
 β:Nat→Option Nat
 W:Nat→Prop
 D:Nat→Prop
 T:Nat×Nat×Nat×Nat→Prop
def ay.bM (K:Nat→Nat→Option Value):ay:=⟨K,fun _=>I,fun _=>False,fun _=>False,fun _=>False⟩
def eU (C:ay):Fn→Fn→Prop
 | .yield b,f=>∃r,C.β b=Ef r∧f=.yield r
 |f,f'=>f'=f
inductive jh where
 |val (x:qa) (v:Value)
 |cells (r:Nat) (xs:List qa) (o:Nat)
 |row (r sz:Nat) (xs:List qa) (o:Nat)
 |eM (xs:List qa) (vs:List Value)
inductive qp (C:ay):jh→Prop where
 |bool (b:Bool):qp C (.val (.bool b) (.bool b))
 |int (k:IntKind) (n:Int):qp C (.val (.int k n) (.int k n))
 |str (s:List UInt8):qp C (.val (.str s) (.string ⟨⟨s⟩⟩))
 |iI (sz:Nat):qp C (.val (.list E0 sz []) (.slice I 0 0))
 |list (sz:Nat) (xs:List qa) (r o cap:Nat) (hl:xs.length≤cap) (hr:qp C (.row r sz xs o)):qp C (.val (.list En sz xs) (.slice (Ef ⟨r,o,I⟩) xs.length cap))
 |iJ (sz:Nat) (a:Addr) (hs:a.spot≠I):qp C (.val (.list En sz []) (.slice (Ef a) 0 0))
 |ms (b o len r cap:Nat) (hb:C.β b=Ef r) (hl:len≤cap):qp C (.val (.ms b o len) (.slice (Ef ⟨r,o,I⟩) len cap))
 |ptr (b o r:Nat) (hb:C.β b=Ef r):qp C (.val (.ptr b o) (.pointer (Ef ⟨r,o,I⟩)))
 |ah (x:qa) (r o:Nat) (h:qp C (.cells r x.flat o)):qp C (.val (.ah x) (.pointer (Ef ⟨r,o,I⟩)))
 |bO:qp C (.val .bO (.pointer I))
 |map (b r:Nat) (hb:C.β b=Ef r):qp C (.val (.map b) (.map (Ef r)))
 |bN:qp C (.val .bN (.map I))
 |fn (f f':Fn) (a b:List qa) (as bs:List Value) (hf:eU C f f') (ha:qp C (.eM a as)) (hb:qp C (.eM b bs)):qp C (.val (.fn f a b) (.func f' ⟨as⟩ ⟨bs⟩))
 |bY:qp C (.val .bY .nilFunc)
 |agg (cs:List qa) (vs:List Value) (h:qp C (.eM cs vs)):qp C (.val (.agg cs) (.agg ⟨vs⟩))
 |aB (cs:List qa) (vs:List Value) (h:qp C (.eM cs vs)):qp C (.val (.aB cs) (.tuple ⟨vs⟩))
 |undef:qp C (.val .undef (.tuple #[]))
 |any (v:Value):qp C (.val .any v)
 |cE (n:Nat) (a:Addr):qp C (.val (.cE n) (.pointer (Ef a)))
 |ak (b bz len r0 r cap:Nat) (hb:C.β b=Ef r0) (ht:C.T (r0,bz,r,cap)) (hl:len≤cap):qp C (.val (.ak b bz len) (.slice (Ef ⟨r,0,I⟩) len cap))
 |cJ (b bz off r0 r cap:Nat) (hb:C.β b=Ef r0) (ht:C.T (r0,bz,r,cap)):qp C (.val (.cJ b bz off) (.pointer (Ef ⟨r,off,I⟩)))
 |gK (r o:Nat):qp C (.cells r [] o)
 |dh (r o:Nat) (x:qa) (xs:List qa) (v:Value) (hv:C.K r o=Ef v) (hx:qp C (.val x v)) (h:qp C (.cells r xs (o+1))):qp C (.cells r (x::xs) o)
 |fg (r sz o:Nat):qp C (.row r sz [] o)
 |db (r sz o:Nat) (x:qa) (xs:List qa) (hs:x.flat.length=sz) (hx:qp C (.cells r x.flat o)) (h:qp C (.row r sz xs (o+sz))):qp C (.row r sz (x::xs) o)
 |nil:qp C (.eM [] [])
 |cons (x:qa) (xs:List qa) (v:Value) (vs:List Value) (hx:qp C (.val x v)) (h:qp C (.eM xs vs)):qp C (.eM (x::xs) (v::vs))
abbrev bF (C:ay)(x:qa)(v:Value):Prop:=qp C (.val x v)
abbrev aM (C:ay)(xs:List qa)(vs:List Value):Prop:=qp C (.eM xs vs)
abbrev bZ (C:ay)(r:Nat)(xs:List qa)(o:Nat):Prop:=qp C (.cells r xs o)
abbrev aX (C:ay)(r sz:Nat)(xs:List qa)(o:Nat):Prop:=qp C (.row r sz xs o)
structure ay.le (C C':ay):Prop where
 k:∀r o v,C.K r o=Ef v→C'.K r o=Ef v
 b:∀b r,C.β b=Ef r→C'.β b=Ef r
 w:C'.W=C.W
 d:∀r,C.D r→C'.D r
 t:∀q,C.T q→C'.T q:=by exact fun _ h=>h
theorem ay.le_refl (C:ay):C.le C:=⟨fun _ _ _ h=>h,fun _ _ h=>h,rfl,fun _ h=>h,fun _ h=>h⟩
theorem ay.le_trans {A B C:ay}(h:A.le B)(k:B.le C):A.le C:=⟨fun r o v x=>k.1 r o v (h.1 r o v x),fun b r x=>k.2 b r (h.2 b r x),k.w.trans h.w,fun r x=>k.d r (h.d r x),fun r x=>k.t r (h.t r x)⟩
theorem eU.imp {C C':ay}(h:(∀r o v,C.K r o=Ef v→C'.K r o=Ef v)∧(∀b r,C.β b=Ef r→C'.β b=Ef r)){f f':Fn}(hf:eU C f f'):eU C' f f':=by
 cases f<;>simp only[eU]at *<;>first|exact hf|exact⟨hf.choose,h.2 _ _ hf.choose_spec.1,hf.choose_spec.2⟩
theorem qp.imp {C C':ay}(h:(∀r o v,C.K r o=some v→C'.K r o=some v)∧(∀b r,C.β b=some r→C'.β b=some r)){i:jh}(hr:qp C i)(hT:∀q,C.T q→C'.T q:=by first|exact fun _ h=>h|exact fun _ h=>False.elim h):qp C' i:=by
 induction hr with
 |bool b=>exact .bool b
 |int k n=>exact .int k n
 |str s=>exact .str s
 |iI sz=>exact .iI sz
 |list sz xs r o cap hl _ ih=>exact .list sz xs r o cap hl ih
 |iJ sz a hs=>exact .iJ sz a hs
 |ms b o len r cap hb hl=>exact .ms b o len r cap (h.2 _ _ hb) hl
 |ptr b o r hb=>exact .ptr b o r (h.2 _ _ hb)
 |ah x r o _ ih=>exact .ah x r o ih
 |bO=>exact .bO
 |map b r hb=>exact .map b r (h.2 _ _ hb)
 |bN=>exact .bN
 |fn f f' a b as bs hf _ _ ha hb=>exact .fn f f' a b as bs (hf.imp h) ha hb
 |bY=>exact .bY
 |agg cs vs _ ih=>exact .agg cs vs ih
 |aB cs vs _ ih=>exact .aB cs vs ih
 |undef=>exact .undef
 |any v=>exact .any v
 |cE n a=>exact .cE n a
 |ak b bz len r0 r cap hb ht hl=>exact .ak b bz len r0 r cap (h.2 _ _ hb) (hT _ ht) hl
 |cJ b bz off r0 r cap hb ht=>exact .cJ b bz off r0 r cap (h.2 _ _ hb) (hT _ ht)
 |gK r o=>exact .gK r o
 |dh r o x xs v hv _ _ nC ih=>exact .dh r o x xs v (h.1 _ _ _ hv) nC ih
 |fg r sz o=>exact .fg r sz o
 |db r sz o x xs hs _ _ nC ih=>exact .db r sz o x xs hs nC ih
 |nil=>exact .nil
 |cons x xs v vs _ _ nC ih=>exact .cons x xs v vs nC ih
theorem qp.mono {C C':ay}(h:C.le C'){i:jh}(hr:qp C i):qp C' i:=hr.imp ⟨h.k,h.b⟩ h.t
def jh.below (n:Nat):jh→Bool
 | .val x _=>Abs.below n x
 | .cells _ xs _=>zu n xs
 | .row _ _ xs _=>zu n xs
 | .eM xs _=>zu n xs
theorem L5 (n:Nat)(x:qa):zu n x.flat=Abs.below n x:=by
 cases x<;>simp[qa.flat,zu,Abs.below]
theorem qp.shift {C C':ay}(n:Nat)(hK:∀r o v,C.K r o=some v→C'.K r o=some v)(hβ:∀b r,b<n→C.β b=some r→C'.β b=some r){i:jh}(hr:qp C i)(hb:i.below n=true)(hT:∀q,0<n→C.T q→C'.T q:=by first|exact fun _ _ h=>h|exact fun _ h=>absurd h (Nat.lt_irrefl 0)|exact fun _ _ h=>False.elim h):qp C' i:=by
 induction hr with
 |bool b=>exact .bool b
 |int k n=>exact .int k n
 |str s=>exact .str s
 |iI sz=>exact .iI sz
 |list sz xs r o cap hl _ ih=>exact .list sz xs r o cap hl (ih (by simpa[jh.below,Abs.below]using hb))
 |iJ sz a hs=>exact .iJ sz a hs
 |ms b o len r cap h1 hl=>exact .ms b o len r cap (hβ _ _ (by simpa[jh.below,Abs.below]using hb) h1) hl
 |ptr b o r h1=>exact .ptr b o r (hβ _ _ (by simpa[jh.below,Abs.below]using hb) h1)
 |ah x r o _ ih=>exact .ah x r o (ih (by simpa[jh.below,Abs.below,L5]using hb))
 |bO=>exact .bO
 |map b r h1=>exact .map b r (hβ _ _ (by simpa[jh.below,Abs.below]using hb) h1)
 |bN=>exact .bN
 |fn f f' a b as bs hf _ _ iha ihb=>
  have R5:eU C' f f':=by
   cases f<;>simp only[eU]at *<;>first|exact hf|skip
   obtain⟨r,h1,rfl⟩:=hf
   simp[jh.below,Abs.below]at hb
   exact⟨r,hβ _ _ hb.1.1 h1,rfl⟩
  have pI:zu n a=E0∧zu n b=E0:=by
   cases f<;>simp[jh.below,Abs.below]at hb<;>first|exact hb|exact⟨hb.1.2,hb.2⟩
  exact .fn f f' a b as bs R5 (iha pI.1) (ihb pI.2)
 |bY=>exact .bY
 |agg cs vs _ ih=>exact .agg cs vs (ih (by simpa[jh.below,Abs.below]using hb))
 |aB cs vs _ ih=>exact .aB cs vs (ih (by simpa[jh.below,Abs.below]using hb))
 |undef=>exact .undef
 |any v=>exact .any v
 |cE n a=>exact .cE n a
 |ak b bz len r0 r cap h1 ht hl=>
  have zA:b<n:=by simpa[jh.below,Abs.below]using hb
  exact .ak b bz len r0 r cap (hβ _ _ zA h1) (hT _ (by omega) ht) hl
 |cJ b bz off r0 r cap h1 ht=>
  have zA:b<n:=by simpa[jh.below,Abs.below]using hb
  exact .cJ b bz off r0 r cap (hβ _ _ zA h1) (hT _ (by omega) ht)
 |gK r o=>exact .gK r o
 |dh r o x xs v hv _ _ nC ih=>
  simp[jh.below,zu]at hb nC ih
  exact .dh r o x xs v (hK _ _ _ hv) (nC hb.1) (ih hb.2)
 |fg r sz o=>exact .fg r sz o
 |db r sz o x xs hs _ _ nC ih=>
  simp[jh.below,zu,L5]at hb nC ih
  exact .db r sz o x xs hs (nC hb.1) (ih hb.2)
 |nil=>exact .nil
 |cons x xs v vs _ _ nC ih=>
  simp[jh.below,zu]at hb nC ih
  exact .cons x xs v vs (nC hb.1) (ih hb.2)
theorem aM.length {C:ay}{xs:List qa}:∀ {vs:List Value},aM C xs vs→vs.length=xs.length:=by
 induction xs with
 |nil=>intro vs h;cases h;rfl
 |cons x xs ih=>intro vs h;cases h with|cons _ _ v vs hx h=>simp[ih h]
theorem aM.get {C:ay}{xs:List qa}:∀ {vs:List Value},aM C xs vs→∀ {i:Nat} {x:qa},xs[i]?=Ef x→∃v,vs[i]?=Ef v∧bF C x v:=by
 induction xs with
 |nil=>intro vs _ i x h;simp at h
 |cons y ys ih=>
  intro vs h i x hi
  cases h with
  |cons _ _ v vs hx h=>
   cases i with
   |zero=>simp at hi;subst hi;exact⟨v,rfl,hx⟩
   |succ i=>simp at hi;obtain⟨w,h1,h2⟩:=ih h hi;exact⟨w,by simpa using h1,h2⟩
theorem aM.append {C:ay}{xs ys:List qa}:∀ {vs ws:List Value},aM C xs vs→aM C ys ws→aM C (xs++ys) (vs++ws):=by
 induction xs with
 |nil=>intro vs ws h k;cases h;exact k
 |cons x xs ih=>intro vs ws h k;cases h with|cons _ _ v vs hx h=>exact .cons _ _ _ _ hx (ih h k)
theorem aM.take {C:ay}{xs:List qa}:∀ {vs:List Value} (n:Nat),aM C xs vs→aM C (xs.take n) (vs.take n):=by
 induction xs with
 |nil=>intro vs n h;cases h;simpa using qp.nil
 |cons x xs ih=>intro vs n h;cases h with|cons _ _ v vs hx h=>cases n with
  |zero=>simpa using qp.nil
  |succ n=>exact .cons _ _ _ _ hx (ih n h)
theorem aM.drop {C:ay}{xs:List qa}:∀ {vs:List Value} (n:Nat),aM C xs vs→aM C (xs.drop n) (vs.drop n):=by
 induction xs with
 |nil=>intro vs n h;cases h;simpa using qp.nil
 |cons x xs ih=>intro vs n h;cases h with|cons _ _ v vs hx h=>cases n with
  |zero=>exact .cons _ _ _ _ hx h
  |succ n=>simpa using ih n h
theorem bZ.get {C:ay}{r:Nat}{xs:List qa}:∀ {o:Nat},bZ C r xs o→∀ {i:Nat} {x:qa},xs[i]?=Ef x→∃v,C.K r (o+i)=Ef v∧bF C x v:=by
 induction xs with
 |nil=>intro o _ i x h;simp at h
 |cons y ys ih=>
  intro o h i x hi
  cases h with
  |dh _ _ _ _ v hv hx h=>
   cases i with
   |zero=>simp at hi;subst hi;exact⟨v,hv,hx⟩
   |succ i=>simp at hi;obtain⟨w,h1,h2⟩:=ih h hi;exact⟨w,by rw[show o+(i+1)=o+1+i from by omega];exact h1,h2⟩
theorem bZ.drop {C:ay}{r:Nat}{xs:List qa}:∀ {o:Nat} (n:Nat),bZ C r xs o→bZ C r (xs.drop n) (o+n):=by
 induction xs with
 |nil=>intro o n h;simpa using qp.gK r (o+n)
 |cons x xs ih=>intro o n h;cases h with|dh _ _ _ _ v hv hx h=>cases n with
  |zero=>exact .dh _ _ _ _ _ hv hx h
  |succ n=>have:=ih n h;rw[show o+(n+1)=o+1+n from by omega];simpa using this
theorem bZ.take {C:ay}{r:Nat}{xs:List qa}:∀ {o:Nat} (n:Nat),bZ C r xs o→bZ C r (xs.take n) o:=by
 induction xs with
 |nil=>intro o n h;simpa using qp.gK r o
 |cons x xs ih=>intro o n h;cases h with|dh _ _ _ _ v hv hx h=>cases n with
  |zero=>simpa using qp.gK r o
  |succ n=>exact .dh _ _ _ _ _ hv hx (ih n h)
theorem bZ.append {C:ay}{r:Nat}{xs ys:List qa}:∀ {o:Nat},bZ C r xs o→bZ C r ys (o+xs.length)→bZ C r (xs++ys) o:=by
 induction xs with
 |nil=>intro o _ k;simpa using k
 |cons x xs ih=>intro o h k;cases h with|dh _ _ _ _ v hv hx h=>exact .dh _ _ _ _ _ hv hx (ih h (by simpa[Nat.add_assoc,Nat.add_comm 1]using k))
theorem aX.get {C:ay}{r sz:Nat}{xs:List qa}:∀ {o:Nat},aX C r sz xs o→∀ {i:Nat} {x:qa},xs[i]?=Ef x→bZ C r x.flat (o+i*sz):=by
 induction xs with
 |nil=>intro o _ i x h;simp at h
 |cons y ys ih=>
  intro o h i x hi
  cases h with
  |db _ _ _ _ _ hs hx h=>
   cases i with
   |zero=>simp at hi;subst hi;simpa using hx
   |succ i=>simp at hi;have:=ih h hi;rw[show o+(i+1)*sz=o+sz+i*sz from by rw[Gb];omega];exact this
theorem aX.drop {C:ay}{r sz:Nat}{xs:List qa}:∀ {o:Nat} (n:Nat),aX C r sz xs o→aX C r sz (xs.drop n) (o+n*sz):=by
 induction xs with
 |nil=>intro o n h;simpa using qp.fg r sz (o+n*sz)
 |cons x xs ih=>intro o n h;cases h with|db _ _ _ _ _ hs hx h=>cases n with
  |zero=>simpa using qp.db _ _ _ _ _ hs hx h
  |succ n=>have:=ih n h;rw[show o+(n+1)*sz=o+sz+n*sz from by rw[Gb];omega];simpa using this
theorem aX.take {C:ay}{r sz:Nat}{xs:List qa}:∀ {o:Nat} (n:Nat),aX C r sz xs o→aX C r sz (xs.take n) o:=by
 induction xs with
 |nil=>intro o n h;simpa using qp.fg r sz o
 |cons x xs ih=>intro o n h;cases h with|db _ _ _ _ _ hs hx h=>cases n with
  |zero=>simpa using qp.fg r sz o
  |succ n=>exact .db _ _ _ _ _ hs hx (ih n h)
theorem aX.append {C:ay}{r sz:Nat}{xs ys:List qa}:∀ {o:Nat},aX C r sz xs o→aX C r sz ys (o+xs.length*sz)→aX C r sz (xs++ys) o:=by
 induction xs with
 |nil=>intro o _ k;simpa using k
 |cons x xs ih=>
  intro o h k
  cases h with
  |db _ _ _ _ _ hs hx h=>
   refine .db _ _ _ _ _ hs hx (ih h ?_)
   have e:o+sz+xs.length*sz=o+(x::xs).length*sz:=by simp[Gb];omega
   rw[e];exact k
theorem aX.sized {C:ay}{r sz:Nat}{xs:List qa}:∀ {o:Nat},aX C r sz xs o→∀x∈xs,x.flat.length=sz:=by
 induction xs with
 |nil=>intro o _ x hx;cases hx
 |cons y ys ih=>
  intro o h x hx
  cases h with
  |db _ _ _ _ _ hs _ h=>
   rcases List.mem_cons.1 hx with rfl|hx
   ·exact hs
   ·exact ih h x hx
theorem aX.cells {C:ay}{r sz:Nat}{xs:List qa}:∀ {o:Nat},aX C r sz xs o→bZ C r (xs.flatMap qa.flat) o:=by
 induction xs with
 |nil=>intro o _;exact .gK _ _
 |cons x xs ih=>
  intro o h
  cases h with
  |db _ _ _ _ _ hs hx h=>
   simp only[Gc]
   refine bZ.append hx ?_
   rw[hs]
   exact ih h
theorem aX.et {C:ay}{r sz:Nat}{xs:List qa}:∀ {o:Nat},bZ C r (xs.flatMap qa.flat) o→(∀x∈xs,x.flat.length=sz)→aX C r sz xs o:=by
 induction xs with
 |nil=>intro o _ _;exact .fg _ _ _
 |cons x xs ih=>
  intro o h hl
  simp only[Gc]at h
  have h1:=bZ.take (x.flat.length) h
  have h2:=bZ.drop (x.flat.length) h
  rw[List.take_left' rfl]at h1
  rw[List.drop_left' rfl,hl x (by simp)]at h2
  exact .db _ _ _ _ _ (hl x (by simp)) h1 (ih h2 fun y hy=>hl y (by simp[hy]))
theorem bZ.vals {C:ay}{r:Nat}{xs:List qa}:∀ {o:Nat},bZ C r xs o→∃vs,aM C xs vs∧∀j v,vs[j]?=Ef v→C.K r (o+j)=Ef v:=by
 induction xs with
 |nil=>intro o _;exact⟨[],.nil,by simp⟩
 |cons x xs ih=>
  intro o h
  cases h with
  |dh _ _ _ _ v hv hx h=>
   obtain⟨vs,h1,h2⟩:=ih h
   refine⟨v::vs,.cons _ _ _ _ hx h1,?_⟩
   intro j u hj
   cases j with
   |zero=>simp at hj;subst hj;exact hv
   |succ j=>simp at hj;rw[show o+(j+1)=o+1+j from by omega];exact h2 j u hj
inductive Loc where
 |slot (s:Nat)
 |cell (b j:Nat)
 deriving DecidableEq
def eu (sz:Nat)(xs:List qa)(cells:Array Value)(elem:TypeId)(len cap:Nat):Prop:=
 ∀(e:Nat) (l:List UInt8),sz=0→xs=[.int .u64 (e:Int),.str l]→elem=e∧len=l.length∧len≤cap∧cap≤maxLen∧cells.size=cap∧cells.toList.take len=l.map fun b=>Value.int .u8 b.toNat
theorem eu.pos {sz:Nat}{xs:List qa}{cells:Array Value}{elem:TypeId}{len cap:Nat}(h:0<sz):eu sz xs cells elem len cap:=fun _ _ h0=>by omega
theorem eu.sized {sz:Nat}{xs:List qa}{cells:Array Value}{elem:TypeId}{len cap:Nat}(h:∀x∈xs,x.flat.length=sz):eu sz xs cells elem len cap:=fun e l h0 hx=>by
 have:=h (.str l) (by rw[hx];simp)
 simp[qa.flat,h0]at this
def aF (C:ay)(ω:Nat→Option Loc)(w:World)(B:Nat)(ℓ:Loc):qa→Value→Prop
 | .list _ sz xs,.slice (Ef a) len cap=>ω a.block=Ef ℓ∧(B≤a.block∨C.W a.block)∧(∀b,C.β b≠Ef a.block)∧a.spot=I∧a.off=0 ∧
   (∃cells elem,w.heap[a.block]?=Ef (.cells cells elem (0,0))∧a.off+cap*sz≤cells.size∧eu sz xs cells elem len cap)∧∀o,a.off+len*sz≤o→C.K a.block o=I
 | .cE n,.pointer (Ef a)=>ω a.block=Ef ℓ∧(B≤a.block∨C.W a.block)∧(∀b,C.β b≠Ef a.block)∧a.spot=I∧a.off=0 ∧
   (∃cells elem,w.heap[a.block]?=Ef (.cells cells elem (0,0))∧a.off+n*1≤cells.size∧eu 0 [] cells elem 0 0)∧∀o,a.off+0*0≤o→C.K a.block o=I
 |_,_=>True
structure Ext (w w':World):Prop where
 size:w.heap.size≤w'.heap.size
 same:∀r,r<w.heap.size→w'.heap[r]?=w.heap[r]?
 os:w'.os=w.os
 output:w'.output=w.output
theorem Ext.refl (w:World):Ext w w:=⟨Ga _,fun _ _=>rfl,rfl,rfl⟩
theorem Ext.get {w w':World}(h:Ext w w'){r:Nat}{o:Obj}(hr:w.heap[r]?=Ef o):w'.heap[r]?=Ef o:=by
 rw[h.same r (E6.1 hr).1];exact hr
theorem Ext.trans {a b c:World}(h:Ext a b)(k:Ext b c):Ext a c where
 size:=Nat.le_trans h.size k.size
 same r hr:=by rw[k.same r (E7 hr h.size),h.same r hr]
 os:=k.os.trans h.os
 output:=k.output.trans h.output
theorem vk (w:World)(o:Obj)(r:Nat):(w.alloc o).heap[r]?=if r=w.heap.size then Ef o else w.heap[r]?:=by
 show(w.heap.push o)[r]?=_
 rw[Array.getElem?_push]
theorem Ext.alloc (w:World)(o:Obj)(ho:∀c t fr,o=.cells c t fr→fr=(0,0)):Ext w (w.alloc o) where
 size:=by rw[World.size_alloc];omega
 same r hr:=by rw[vk,if_neg (by omega)]
 os:=rfl
 output:=rfl
theorem Ext.drew (w:World):Ext w w.drew:=⟨Ga _,fun _ _=>rfl,rfl,rfl⟩
theorem Ext.cell {w w':World}(h:Ext w w'){a:Addr}{v:Value}(hc:w.cell? a=Ef v):w'.cell? a=Ef v:=by
 unfold World.cell? at *
 cases hr:w.heap[a.block]? with
 |none=>rw[hr]at hc;cases hc
 |some o=>rw[h.get hr];rw[hr]at hc;exact hc
theorem aF.ext {C:ay}{ω:Nat→Option Loc}{w w':World}{B:Nat}{ℓ:Loc}{x:qa}{v:Value}(h:Ext w w')(ho:aF C ω w B ℓ x v):aF C ω w' B ℓ x v:=by
 unfold aF at *
 split at ho
 ·obtain⟨h1,h2,h3,h4,h8,⟨cells,elem,h5,h6⟩,h7⟩:=ho
  exact⟨h1,h2,h3,h4,h8,⟨cells,elem,h.get h5,h6⟩,h7⟩
 ·obtain⟨h1,h2,h3,h4,h8,⟨cells,elem,h5,h6⟩,h7⟩:=ho
  exact⟨h1,h2,h3,h4,h8,⟨cells,elem,h.get h5,h6⟩,h7⟩
 ·trivial
inductive qy (C:ay):List (qa×qa)→List MapEntry→Prop where
 |nil:qy C [] []
 |cons (k v:qa) (es:List (qa×qa)) (m:MapEntry) (ms:List MapEntry) (hk:bF C k m.key) (hv:bF C v m.val) (h:qy C es ms):qy C ((k,v)::es) (m::ms)
theorem qy.imp {C C':ay}(h:(∀r o v,C.K r o=some v→C'.K r o=some v)∧(∀b r,C.β b=some r→C'.β b=some r)){es:List (qa×qa)}{ms:List MapEntry}(hr:qy C es ms)(hT:∀q,C.T q→C'.T q:=by first|exact fun _ h=>h|exact fun _ h=>False.elim h):qy C' es ms:=by
 induction hr with
 |nil=>exact .nil
 |cons k v es m ms hk hv _ ih=>exact .cons k v es m ms (qp.imp h hk hT) (qp.imp h hv hT) ih
theorem qy.mono {C C':ay}(h:C.le C'){es:List (qa×qa)}{ms:List MapEntry}(hr:qy C es ms):qy C' es ms:=hr.imp ⟨h.k,h.b⟩ h.t
def aW (C:ay)(e:Env)(tmps:Array Value):Prop:=∀s x,yd s e=Ef x→∃v,tmps[s]?=Ef v∧bF C x.1 v
def EV (P:Program)(nt:Nat)(c:Code)(a:qe):Prop:=∃h,gw P h nt c=Ef a
structure q9 (P:Program)(C:ay)(l:jp)(lp:Loop):Prop where
 assign:EV P lp.tmps.size lp.assign l.assign
 body:EV P lp.tmps.size lp.body l.body
 params:lp.params.toList=l.params
 fits:∀t∈l.params,t<lp.tmps.size
 nr:km l.assign=E0∧km l.body=E0
 env:aW C l.env lp.tmps
 state:lp.state=match l.pending with
  |none=>.ready
  |some .normal=>.busy
  |some _=>.done
 pending:lp.pending=match l.pending with
  |none=>I
  |some .normal=>I
  |some (.exit id)=>Ef (.exit id)
  |some .ret=>Ef .ret
def dP (K:Nat→Nat→Option Value)(w:World)(q sz:Nat)(xs:List qa)(cap:Nat):Prop:=
 ∃cells t vs,w.heap[q]?=Ef (.cells cells t (0,0))∧xs.length≤cap∧cap*sz≤cells.size∧(∀x∈xs,x.flat.length=sz)∧aM (.bM K) (xs.flatMap qa.flat) vs ∧
  (∀(j:Nat) v,vs[j]?=Ef v→cells[j]?=Ef v)∧∀v∈vs,v.oneCell'=E0
theorem dP.imp {K K':Nat→Nat→Option Value}{w w':World}{q sz cap:Nat}{xs:List qa}(hK:∀r o v,K r o=Ef v→K' r o=Ef v)(hw:w'.heap[q]?=w.heap[q]?)(h:dP K w q sz xs cap):dP K' w' q sz xs cap:=by
 obtain⟨cells,t,vs,h1,h2,h3,h4,h5,h6⟩:=h
 exact⟨cells,t,vs,hw.trans h1,h2,h3,h4,qp.imp (C:=.bM K) (C':=.bM K') ⟨hK,fun _ _ h=>h⟩ h5,h6⟩
abbrev wS (C:ay)(ω:Nat→Option Loc)(w:World)(B b q n cap:Nat):Prop:=aF C ω w B (.cell b 0) (.list En 0 []) (.slice (Ef ⟨q,0,I⟩) n cap)
def dH (C:ay)(ω:Nat→Option Loc)(w:World)(B b r sz bz:Nat)(xs:List qa):Prop:=
 ∃q cap,C.T (r,bz,q,cap)∧(∀x,C.T x→x.1=r→x.2.1≤bz∧(x.2.1=bz→x.2.2=(q,cap)))∧dP C.K w q sz xs cap∧(q=r∨wS C ω w B b q xs.length cap)∧∃cs t,w.heap[r]?=Ef (.cells cs t (0,0))
theorem dH.imp {C C':ay}{ω ω':Nat→Option Loc}{w w':World}{B B' b r sz bz:Nat}{xs:List qa}(hK:∀r o v,C.K r o=Ef v→C'.K r o=Ef v)(hT:∀q,C.T q→C'.T q)(EW:∀x,C'.T x→x.1=r→C.T x)(hw:w'.heap[r]?=w.heap[r]?)
  (hq:∀q n cap,wS C ω w B b q n cap→w'.heap[q]?=w.heap[q]?∧wS C' ω' w' B' b q n cap) (h:dH C ω w B b r sz bz xs):dH C' ω' w' B' b r sz bz xs:=by
 obtain⟨q,cap,h1,h2,h3,h4,cs,t,h5⟩:=h
 refine⟨q,cap,hT _ h1,fun x hx hr=>h2 x (EW x hx hr) hr,?_,?_,cs,t,hw.trans h5⟩
 ·rcases h4 with rfl|h4
  ·exact h3.imp hK hw
  ·exact h3.imp hK (hq _ _ _ h4).1
 ·exact h4.imp id fun h=>(hq _ _ _ h).2
def br (P:Program)(C:ay)(ω:Nat→Option Loc)(w:World)(B b r:Nat):qn→Prop
 | .hole=>False
 | .cells cs=>∃vs elem,w.heap[r]?=Ef (.cells vs elem (0,0))∧cs.length≤vs.size ∧
   ∀j c,cs[j]?=Ef c→∃v,vs[j]?=Ef v∧v.oneCell'=E0∧bF C c.1 v∧(c.2=E0→aF C ω w B (.cell b j) c.1 v)
 | .map es=>∃bQ clock,w.heap[r]?=Ef (.map bQ clock)∧qy C es bQ.toList
 | .iter s pos=>w.heap[r]?=Ef (.stringIter ⟨⟨s⟩⟩ pos)
 | .loop l=>∃lp,w.heap[r]?=Ef (.loop lp)∧q9 P C l lp
 | .fE t e l=>∃p v,w.heap[r]?=Ef (.cells #[p,v] t (0,0))∧(p=.pointer I∨p=.pointer (Ef ⟨r,0,I⟩))∧((v=.slice I 0 0∧l=[])∨∃a len cap,v=.slice (Ef a) len cap)∧aF C ω w B (.cell b 1) (.list En 0 [.int .u64 (e:Int),.str l]) v
 | .dead=>∃cs t,w.heap[r]?=Ef (.cells cs t (0,0))
 | .vec sz bz xs=>dH C ω w B b r sz bz xs
def nD : String := "internal/strconv.uint64pow10"
def wT : String := "internal/bytealg.MaxLen"
def jx5 (P:Program)(w:World)(g:Nat):Prop:=
 (P.globalNamed nD=Ef g→Lib.TabIs P w nD .u64 Lib.pow10Tab)∧(P.globalNamed wT=Ef g→∃m,w.cell? ⟨g,0,I⟩=Ef (.int .i64 m)) ∧
 (∀x∈Dg,P.globalNamed x.1=Ef g→∀j n,x.2[j]?=Ef n→w.cell? ⟨g,j,I⟩=Ef (.int .i64 n))
def R6 (P:Program)(g:Nat):Prop:=P.globalNamed nD=Ef g∨P.globalNamed wT=Ef g∨∃x∈Dg,P.globalNamed x.1=Ef g
def Tabs (P:Program)(w:World):Prop:=∀g,R6 P g→g<w.heap.size∧jx5 P w g
theorem Tabs.same {P:Program}{w w':World}(h:Tabs P w)(hs:w.heap.size≤w'.heap.size)(hg:∀g,R6 P g→w'.heap[g]?=w.heap[g]?):Tabs P w':=by
 intro g hn
 obtain⟨h1,h2,h3,h5⟩:=h g hn
 refine⟨E7 h1 hs,fun Dl=>?_,fun Dl=>?_,fun x hx Dl j n hj=>?_⟩
 ·have h2:=h2 Dl
  unfold Lib.TabIs World.var? at *
  rw[Dl]at h2 ⊢
  simp only[Option.bind_some]at h2 ⊢
  rw[hg g hn]
  exact h2
 ·obtain⟨m,h4⟩:=h3 Dl
  refine⟨m,?_⟩
  unfold World.cell? at *
  simp only[]at h4 ⊢
  rw[hg g hn]
  exact h4
 ·have h4:=h5 x hx Dl j n hj
  unfold World.cell? at *
  simp only[]at h4 ⊢
  rw[hg g hn]
  exact h4
theorem Tabs.none {P:Program}{w:World}(h:P.globalNamed nD=I∧P.globalNamed wT=I∧∀x∈Dg,P.globalNamed x.1=I):Tabs P w:=fun g hn=>by
 rcases hn with hn|hn|⟨x,hx,hn⟩
 ·rw[h.1]at hn;cases hn
 ·rw[h.2.1]at hn;cases hn
 ·rw[h.2.2 x hx]at hn;cases hn
def zb0 (P:Program)(w0:World)(C0:ay):Prop:=Tabs P w0∧∀g,R6 P g→(∀b,C0.β b≠Ef g)∧¬C0.W g
structure av (P:Program)(C:ay)(ω:Nat→Option Loc)(w0:World)(C0:ay)(h:j8)(w:World):Prop where
 base:zb0 P w0 C0
 know:∀r o v,C.K r o=Ef v→w.cell? ⟨r,o,I⟩=Ef v
 cR:∀r o v,C.K r o=Ef v→v.oneCell'=E0
 apart:∀b r o,C.β b=Ef r→C.K r o=I
 inj:∀b b' r,C.β b=Ef r→C.β b'=Ef r→b=b'
 lt:∀b r,C.β b=Ef r→r<w.heap.size∧b<h.length
 size:w0.heap.size≤w.heap.size
 frame:∀r,r<w0.heap.size→(∀b,C0.β b≠Ef r)→¬C0.W r→w.heap[r]?=w0.heap[r]?
 eN:∀r,C.D r→w.heap[r]?=Ef (.deferred (Ef []))
 os:w.os=w0.os
 output:w.output=w0.output
 fresh:∀b r,C.β b=Ef r→C0.β b=Ef r∨w0.heap.size≤r∨C0.W r
 grown:C0.le C
 old:∀r o,r<w0.heap.size→¬C0.W r→C.K r o=C0.K r o
 box:∀b x r,h[b]?=Ef x→C.β b=Ef r→br P C ω w w0.heap.size b r x
 gY:∀q,C.T q→q.1<w.heap.size
def aj (C:ay)(ω:Nat→Option Loc)(w:World)(B:Nat)(e:Env)(tmps:Array Value):Prop:=
 ∀s x,yd s e=Ef x→∃v,tmps[s]?=Ef v∧bF C x.1 v∧(x.2=E0→aF C ω w B (.slot s) x.1 v)
theorem aj.bV {C:ay}{ω:Nat→Option Loc}{w:World}{B:Nat}{e:Env}{tmps:Array Value}(h:aj C ω w B e tmps):aW C e tmps:=
 fun s x hx=>let ⟨v,h1,h2,_⟩:=h s x hx; ⟨v,h1,h2⟩
theorem br.ext {P:Program}{C:ay}{ω:Nat→Option Loc}{w w':World}{B b r:Nat}{x:qn}(h:Ext w w')(hb:br P C ω w B b r x):br P C ω w' B b r x:=by
 cases x with
 |hole=>exact hb
 |cells cs=>
  obtain⟨vs,elem,h1,h2,h3⟩:=hb
  exact⟨vs,elem,h.get h1,h2,fun j c hc=>let ⟨v,a,q,b,d⟩:=h3 j c hc; ⟨v,a,q,b,fun e=>(d e).ext h⟩⟩
 |map es=>obtain⟨bQ,clock,h1,h2⟩:=hb;exact⟨bQ,clock,h.get h1,h2⟩
 |iter s pos=>exact h.get hb
 |loop l=>obtain⟨lp,h1,h2⟩:=hb;exact⟨lp,h.get h1,h2⟩
 |fE t e l=>obtain⟨p,v,h1,h2,h3,h4⟩:=hb;exact⟨p,v,h.get h1,h2,h3,h4.ext h⟩
 |dead=>obtain⟨cs,t,h1⟩:=hb;exact⟨cs,t,h.get h1⟩
 |vec sz bz xs=>
  obtain⟨q,cap,h1,h2,h3,h4,cs,t,h5⟩:=hb
  have hex:∀ {k:Nat} {o:Obj},w.heap[k]?=Ef o→w'.heap[k]?=w.heap[k]?:=fun hk=>by rw[h.get hk,hk]
  refine⟨q,cap,h1,h2,h3.imp (fun _ _ _ h=>h) ?_,h4.imp id fun h4=>h4.ext h,cs,t,h.get h5⟩
  obtain⟨cells,t',_,g1,_⟩:=h3
  exact hex g1
theorem av.tabs {P:Program}{C:ay}{ω:Nat→Option Loc}{w0 w:World}{C0:ay}{hp:j8}(m:av P C ω w0 C0 hp w):Tabs P w:=
 m.base.1.same m.size fun g hg=>m.frame g (m.base.1 g hg).1 (m.base.2 g hg).1 (m.base.2 g hg).2
theorem av.ext {P:Program}{C:ay}{ω:Nat→Option Loc}{w0 w w':World}{C0:ay}{hp:j8}(h:Ext w w')(m:av P C ω w0 C0 hp w):av P C ω w0 C0 hp w' where
 base:=m.base
 know r o v hk:=h.cell (m.know r o v hk)
 cR:=m.cR
 apart:=m.apart
 inj:=m.inj
 lt b r hb:=⟨E7 (m.lt b r hb).1 h.size,(m.lt b r hb).2⟩
 size:=Nat.le_trans m.size h.size
 frame r hr hn hw:=by rw[h.same r (E7 hr m.size)];exact m.frame r hr hn hw
 eN r hr:=h.get (m.eN r hr)
 os:=h.os.trans m.os
 output:=h.output.trans m.output
 fresh:=m.fresh
 grown:=m.grown
 old:=m.old
 box b x r hx hb:=(m.box b x r hx hb).ext h
 gY q hq:=E7 (m.gY q hq) h.size
theorem aj.ext {C:ay}{ω:Nat→Option Loc}{w w':World}{B:Nat}{e:Env}{tmps:Array Value}(h:Ext w w')(he:aj C ω w B e tmps):aj C ω w' B e tmps:=
 fun s x hx=>let ⟨v,a,b,d⟩:=he s x hx; ⟨v,a,b,fun e=>(d e).ext h⟩
def ay.put (C:ay)(r off:Nat)(vs:List Value):ay:={ C with K:=fun b o=>if b=r∧off≤o∧o<off+vs.length then vs[o-off]? else C.K b o }
theorem ay.fX {C:ay}{r off:Nat}(vs:List Value)(h:∀o,off≤o→C.K r o=I):C.le (C.put r off vs):=
 ⟨fun b o v hk=>(by
  simp only[ay.put]
  rw[if_neg]
  ·exact hk
  ·rintro ⟨rfl,h1,_⟩;rw[h o h1]at hk;cases hk),fun _ _ h=>h,rfl,fun _ h=>h,fun _ h=>h⟩
theorem ay.zB {C:ay}{r off:Nat}{vs:List Value}{j:Nat}{v:Value}(h:vs[j]?=Ef v):(C.put r off vs).K r (off+j)=Ef v:=by
 have hj:j<vs.length:=(List.getElem?_eq_some_iff.1 h).1
 show(if r=r∧off≤off+j∧off+j<off+vs.length then vs[off+j-off]? else C.K r (off+j))=Ef v
 rw[if_pos ⟨rfl,by omega,by omega⟩,show off+j-off=j from by omega,h]
theorem bZ.gZ {C:ay}{r:Nat}{xs:List qa}:∀ {vs:List Value} {o:Nat},aM C xs vs→(∀j v,vs[j]?=Ef v→C.K r (o+j)=Ef v)→bZ C r xs o:=by
 induction xs with
 |nil=>intro vs o _ _;exact .gK _ _
 |cons x xs ih=>
  intro vs o h hk
  cases h with
  |cons _ _ v vs hx h=>
   refine .dh _ _ _ _ v (by simpa using hk 0 v rfl) hx (ih h ?_)
   intro j u hj
   rw[show o+1+j=o+(j+1)from by omega]
   exact hk (j+1) u (by simpa using hj)
theorem ay.eK {C:ay}{r off:Nat}{xs:List qa}{vs:List Value}(hn:∀o,off≤o→C.K r o=I)(h:aM C xs vs):bZ (C.put r off vs) r xs off:=
 bZ.gZ (qp.mono (ay.fX vs hn) h) fun _ _ hj=>ay.zB hj
theorem av.jC {P:Program}{C:ay}{ω:Nat→Option Loc}{w0 w:World}{C0:ay}{hp:j8}(m:av P C ω w0 C0 hp w)(r:Nat)(hr:w.heap.size≤r)(o:Nat):C.K r o=I:=by
 cases h:C.K r o with
 |none=>rfl
 |some v=>
  have:=m.know r o v h
  unfold World.cell? at this
  rw[show w.heap[(⟨r,o,I⟩:Addr).block]?=I from Array.getElem?_eq_none hr]at this
  cases this
theorem aF.put {C:ay}{ω:Nat→Option Loc}{w:World}{B r off:Nat}{ℓ:Loc}{x:qa}{v:Value}(vs:List Value)(hr:w.heap.size≤r∨ω r≠Ef ℓ)(ho:aF C ω w B ℓ x v):aF (C.put r off vs) ω w B ℓ x v:=by
 unfold aF at *
 split at ho
 ·rename_i a len cap
  obtain⟨h1,h2,h3,h4,h8,⟨cells,elem,h5,h6⟩,h7⟩:=ho
  have aY:a.block<w.heap.size:=(E6.1 h5).1
  refine⟨h1,h2,h3,h4,h8,⟨cells,elem,h5,h6⟩,fun o ho=>?_⟩
  simp only[ay.put]
  rw[if_neg]
  ·exact h7 o ho
  ·rintro ⟨rfl,_⟩
   rcases hr with hr|hr
   ·omega
   ·exact hr h1
 ·rename_i a
  obtain⟨h1,h2,h3,h4,h8,⟨cells,elem,h5,h6⟩,h7⟩:=ho
  have aY:a.block<w.heap.size:=(E6.1 h5).1
  refine⟨h1,h2,h3,h4,h8,⟨cells,elem,h5,h6⟩,fun o ho=>?_⟩
  simp only[ay.put]
  rw[if_neg]
  ·exact h7 o ho
  ·rintro ⟨rfl,_⟩
   rcases hr with hr|hr
   ·omega
   ·exact hr h1
 ·trivial
theorem q9.imp {P:Program}{C C':ay}(h:(∀r o v,C.K r o=some v→C'.K r o=some v)∧(∀b r,C.β b=some r→C'.β b=some r)){l:jp}{lp:Loop}(k:q9 P C l lp)(hT:∀q,C.T q→C'.T q:=by first|exact fun _ h=>h|exact fun _ h=>False.elim h):q9 P C' l lp:=
 { k with env:=fun s x hx=>let ⟨v,a,b⟩:=k.env s x hx; ⟨v,a,qp.imp h b hT⟩ }
theorem q9.mono {P:Program}{C C':ay}(h:C.le C'){l:jp}{lp:Loop}(k:q9 P C l lp):q9 P C' l lp:=k.imp ⟨h.k,h.b⟩ h.t
theorem br.imp {P:Program}{C C':ay}{ω ω':Nat→Option Loc}{w w':World}{B B' b r:Nat}{x:qn}(h:(∀r o v,C.K r o=Ef v→C'.K r o=Ef v)∧(∀b r,C.β b=Ef r→C'.β b=Ef r))(hw:w'.heap[r]?=w.heap[r]?)
  (ho:∀j y v,aF C ω w B (.cell b j) y v→aF C' ω' w' B' (.cell b j) y v) (hb:br P C ω w B b r x) (hT:∀q,C.T q→C'.T q:=by exact fun _ h=>h) (EW:∀x,C'.T x→x.1=r→C.T x:=by exact fun _ h _=>h)
  (hq:∀q n cap,wS C ω w B b q n cap→w'.heap[q]?=w.heap[q]?:=by exact fun _ _ _ _=>rfl):br P C' ω' w' B' b r x:=by
 cases x with
 |hole=>exact hb
 |cells cs=>
  obtain⟨vs,elem,h1,h2,h3⟩:=hb
  exact⟨vs,elem,hw.trans h1,h2,fun j c hc=>let ⟨v,a,q,b,d⟩:=h3 j c hc; ⟨v,a,q,qp.imp h b hT,fun e=>ho _ _ _ (d e)⟩⟩
 |map es=>obtain⟨bQ,clock,h1,h2⟩:=hb;exact⟨bQ,clock,hw.trans h1,h2.imp h hT⟩
 |iter s pos=>exact hw.trans hb
 |loop l=>obtain⟨lp,h1,h2⟩:=hb;exact⟨lp,hw.trans h1,h2.imp h hT⟩
 |fE t e l=>obtain⟨p,v,h1,h2,h3,h4⟩:=hb;exact⟨p,v,hw.trans h1,h2,h3,ho _ _ _ h4⟩
 |dead=>obtain⟨cs,t,h1⟩:=hb;exact⟨cs,t,hw.trans h1⟩
 |vec sz bz xs=>exact dH.imp h.1 hT EW hw (fun q n cap k=>⟨hq q n cap k,ho _ _ _ k⟩) hb
theorem br.mono {P:Program}{C C':ay}{ω ω':Nat→Option Loc}{w:World}{B b r:Nat}{x:qn}(h:C.le C')
  (ho:∀j y v,aF C ω w B (.cell b j) y v→aF C' ω' w B (.cell b j) y v) (hb:br P C ω w B b r x) (EW:∀x,C'.T x→x.1=r→C.T x:=by exact fun _ h _=>h):br P C' ω' w B b r x:=hb.imp ⟨h.k,h.b⟩ rfl ho h.t EW
theorem av.newRow {P:Program}{C:ay}{ω:Nat→Option Loc}{w0 w:World}{C0:ay}{hp:j8}(m:av P C ω w0 C0 hp w)(cells:Array Value)(t:TypeId)(vs:List Value)
  (hv:∀(j:Nat) v,vs[j]?=Ef v→cells[j]?=Ef v) (h1:∀v∈vs,v.oneCell'=E0):
  av P (C.put w.heap.size 0 vs) ω w0 C0 hp (w.alloc (.cells cells t)):=by
 have hx:Ext w (w.alloc (.cells cells t)):=Ext.alloc w _ (fun c t fr h=>by cases h;rfl)
 have m':=m.ext hx
 have hn:∀o,C.K w.heap.size o=I:=m.jC _ (Ga _)
 have hle:=ay.fX (C:=C) (off:=0) vs (fun o _=>hn o)
 refine { m' with know:=?_,cR:=?_,apart:=?_,grown:=ay.le_trans m.grown hle,old:=?_,box:=?_ }
 ·intro r o v hk
  simp only[ay.put]at hk
  split at hk
  ·rename_i hc
   obtain⟨rfl,_,_⟩:=hc
   simp only[World.cell?]
   rw[vk,if_pos rfl]
   simpa using hv _ _ hk
  ·exact m'.know r o v hk
 ·intro r o v hk
  simp only[ay.put]at hk
  split at hk
  ·exact h1 v (List.mem_of_getElem? hk)
  ·exact m.cR r o v hk
 ·intro b r o hb
  have:=(m.lt b r hb).1
  simp only[ay.put]
  rw[if_neg (by omega)]
  exact m.apart b r o hb
 ·intro r o hr hw
  have:=m.size
  simp only[ay.put]
  rw[if_neg (by omega)]
  exact m.old r o hr hw
 ·intro b x r fh hb
  exact((m.box b x r fh hb).mono (ω':=ω) hle fun j y v ho=>ho.put vs (.inl (Ga _))).ext hx
theorem aj.put {C:ay}{ω:Nat→Option Loc}{w:World}{B:Nat}{e:Env}{tmps:Array Value}{r off:Nat}(vs:List Value)(hr:w.heap.size≤r∨∀s,yd s e≠I→(yd s e).any (·.2)=E0→ω r≠Ef (.slot s))(hn:∀o,off≤o→C.K r o=I)(he:aj C ω w B e tmps):aj (C.put r off vs) ω w B e tmps:=
 fun s x hx=>let ⟨v,a,b,d⟩:=he s x hx; ⟨v,a,qp.mono (ay.fX vs hn) b,fun e=>(d e).put vs (hr.imp id fun h=>h s (by rw[hx];simp) (by rw[hx];exact e))⟩
def ct (ω:Nat→Option Loc)(r:Nat)(ℓ:Loc):Nat→Option Loc:=fun b=>if b=r then Ef ℓ else ω b
theorem aF.other {C:ay}{ω:Nat→Option Loc}{w:World}{B r:Nat}{ℓ ℓ':Loc}{x:qa}{v:Value}(hr:ω r≠Ef ℓ∨ℓ=ℓ')(ho:aF C ω w B ℓ x v):aF C (Abs.ct ω r ℓ') w B ℓ x v:=by
 unfold aF at *
 split at ho
 ·rename_i a len cap
  obtain⟨h1,h2⟩:=ho
  refine⟨?_,h2⟩
  simp only[Abs.ct]
  by_cases hb:a.block=r
  ·rw[if_pos hb]
   rcases hr with hr|hr
   ·exact absurd (hb▸h1) hr
   ·rw[hr]
  ·rw[if_neg hb];exact h1
 ·rename_i a
  obtain⟨h1,h2⟩:=ho
  refine⟨?_,h2⟩
  simp only[Abs.ct]
  by_cases hb:a.block=r
  ·rw[if_pos hb]
   rcases hr with hr|hr
   ·exact absurd (hb▸h1) hr
   ·rw[hr]
  ·rw[if_neg hb];exact h1
 ·trivial
theorem aF.fresh {C:ay}{ω:Nat→Option Loc}{w:World}{B r:Nat}{ℓ ℓ':Loc}{x:qa}{v:Value}(hr:w.heap.size≤r)(ho:aF C ω w B ℓ x v):aF C (Abs.ct ω r ℓ') w B ℓ x v:=by
 unfold aF at *
 split at ho
 ·rename_i a len cap
  obtain⟨h1,h2,h3,h4,h8,⟨cells,elem,h5,h6⟩,h7⟩:=ho
  have aY:a.block<w.heap.size:=(E6.1 h5).1
  refine⟨?_,h2,h3,h4,h8,⟨cells,elem,h5,h6⟩,h7⟩
  simp only[Abs.ct]
  rw[if_neg (by omega)]
  exact h1
 ·rename_i a
  obtain⟨h1,h2,h3,h4,h8,⟨cells,elem,h5,h6⟩,h7⟩:=ho
  have aY:a.block<w.heap.size:=(E6.1 h5).1
  refine⟨?_,h2,h3,h4,h8,⟨cells,elem,h5,h6⟩,h7⟩
  simp only[Abs.ct]
  rw[if_neg (by omega)]
  exact h1
 ·trivial
theorem aj.fresh {C:ay}{ω:Nat→Option Loc}{w:World}{B r:Nat}{ℓ:Loc}{e:Env}{tmps:Array Value}(hr:w.heap.size≤r)(he:aj C ω w B e tmps):aj C (Abs.ct ω r ℓ) w B e tmps:=
 fun s x hx=>let ⟨v,a,b,d⟩:=he s x hx; ⟨v,a,b,fun e=>(d e).fresh hr⟩
theorem av.jQ {P:Program}{C:ay}{ω:Nat→Option Loc}{w0 w:World}{C0:ay}{hp:j8}(m:av P C ω w0 C0 hp w)(r:Nat)(ℓ:Loc)(hr:w.heap.size≤r):av P C (Abs.ct ω r ℓ) w0 C0 hp w:=
 { m with box:=fun b x r' hx hb=>(m.box b x r' hx hb).mono (ay.le_refl C) fun _ _ _ ho=>ho.fresh hr }
theorem av.ct {P:Program}{C:ay}{ω:Nat→Option Loc}{w0 w:World}{C0:ay}{hp:j8}(m:av P C ω w0 C0 hp w)(r:Nat)(ℓ:Loc)(hr:∀b j,ω r≠Ef (.cell b j)):av P C (Abs.ct ω r ℓ) w0 C0 hp w:=
 { m with box:=fun b x r' hx hb=>(m.box b x r' hx hb).mono (ay.le_refl C) fun j _ _ ho=>ho.other (.inl (hr b j)) }
end Go.Abs
