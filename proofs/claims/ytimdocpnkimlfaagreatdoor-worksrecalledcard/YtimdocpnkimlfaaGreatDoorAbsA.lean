/- The abstract machine. -/
import Derived.Deep.AppendSrc
import Derived.Lib.LaidTab
import Derived.Lib.ItoaNum
import Derived.WalkSpells
import Derived.Laws.Cover3
set_option linter.unusedVariables false
set_option linter.unusedSimpArgs false
open Option renaming some→I,none→En,isSome_iff_exists→Gz,map_some→Hb
open Bool renaming false→E3,true→Ga,false_eq_true→Gv,xor→Gw,and_eq_true→Ha,not_true→Hd
open Nat renaming ble→Gc,beq→Gd,blt→Gg,succ_mul→Gl,le_refl→Gm,le_of_ble_eq_true→Gq,lt_of_lt_of_le→Gr,eq_of_beq_eq_true→G8,add_assoc→G9
open List renaming drop_eq_nil_of_le→Gh,replicate→Gp,flatMap_cons→Gs,getElem?_eq_some_iff→Gx,getElem?_toArray→G7,mem_cons→Hc,map_cons→If
open Array renaming getElem?_eq_some_iff→Gi,ext'→G6
namespace Go.Abs
inductive AVal where
 |bool (b:Bool)
 |int (k:IntKind) (n:Int)
 |str (s:List UInt8)
 |list (isNil:Bool) (sz:Nat) (xs:List AVal)
 |ms (b off len:Nat)
 |ptr (b off:Nat)
 |ah (v:AVal)
 |bZ
 |map (b:Nat)
 |bX
 |fn (f:Fn) (first captured:List AVal)
 |cr
 |agg (cs:List AVal)
 |aC (vs:List AVal)
 |undef
 |any
 |cT (n:Nat)
 |ay (b bJ len:Nat)
 |dH (b bJ off:Nat)
 deriving Inhabited
inductive jt where
 |tmp (t:Nat)
 |const (v:AVal)
 deriving Inhabited
inductive Kd where
 |int|str|bool
 deriving DecidableEq,Inhabited
inductive ei where
 |bV|fI (r:Nat)|shr|red
 deriving DecidableEq,Inhabited
inductive cL where
 |move (x:jt)
 |take (s:Nat)
 |pick (c a b:jt)
 |alloc (r:Nat) (zero:List AVal)
 |box (r n:Nat) (x:jt)
 |oH (n:Nat) (x:jt)
 |gB (n:Nat)
 |dM (n s:Nat) (x:jt)
 |fV (r t e:Nat)
 |build (zero:List AVal) (parts:List (Nat×Nat×jt))
 |buildSlice (sz len:Nat) (zero:List AVal) (parts:List (Nat×jt))
 |load (agg:Bool) (n:Nat) (x:jt)
 |ft (agg:Bool) (n:Nat) (x:jt)
 |cy (off:Option Nat) (x:jt)
 |store (n:Nat) (a v:jt)
 |nilCheck (x:jt)
 |bin (op:BinOp) (x y:jt)
 |eqs (ks:List Kd) (neq:Bool) (x y:jt)
 |beq (neq:Bool) (x y:jt)
 |fA (k:Nat) (neq:Bool) (x:jt)
 |un (op:UnOp) (x:jt)
 |conv (k:IntKind) (x:jt)
 |fe (x:jt)
 |field (agg:Bool) (off n:Nat) (x:jt)
 |index (agg:Bool) (len n:Nat) (x i:jt)
 |ej (x i:jt)
 |fieldAddr (agg:Bool) (off n:Nat) (x:jt)
 |indexAddr (sz:Nat) (x i:jt)
 |ek (agg:Bool) (len sz:Nat) (x i:jt)
 |slice (sz:Nat) (x:jt) (lo hi:Option jt)
 |eN (x:jt) (lo hi:Option jt)
 |fW (len sz:Nat) (x:jt) (lo hi:Option jt)
 |gC (f:Fn) (first captured:List jt)
 |dN (r:Nat)
 |lookup (kd:Kd) (zero:AVal) (ok:Bool) (m k:jt)
 |mapUpdate (kd:Kd) (m k v:jt)
 |delete (kd:Kd) (m k:jt)
 |cn (r:Option Nat) (sz bytes:Nat) (zero:List AVal) (n c:jt)
 |len (k:Nat) (x:jt)
 |append (r:Option Nat) (sz bytes:Nat) (x y:jt)
 |ia (r sz bytes:Nat) (x y:jt)
 |iG (r sz len:Nat) (zero:List AVal) (parts:List (Nat×jt))
 |copy (sz:Nat) (x y:jt)
 |mx (args:List jt)
 |mn (args:List jt)
 |extract (x:jt) (i:Nat)
 |call (md:ei) (f:jt) (args:List jt)
 |dw (r:Nat) (x:jt)
 |fB (it:jt)
 |bad
 deriving Inhabited
structure b4 where
 dst:Option Nat
 op:cL
 guard:Option (Nat×Bool)
 al:Option (List Nat)
 deriving Inhabited
inductive aw where
 |skip
 |region (na:Nat) (ops:List b4) (keep:Option (List Nat))
 |seq (a b:aw)
 |cond (c:jt) (a b:aw)
 |block (id:Nat) (body:aw)
 |loop (body:aw)
 |rangeFunc (f:jt) (params:List Nat) (assign body:aw)
 |exit (id:Nat)
 |ret
 |grow (sz:Nat)
 |stuck
 deriving Inhabited
abbrev Env:=List (Nat×AVal×Bool)
inductive jg where
 |normal
 |exit (id:Nat)
 |ret
 deriving DecidableEq,Inhabited
structure jmy where
 env:Env
 params:List Nat
 assign:aw
 body:aw
 pending:Option jg
 deriving Inhabited
def z6:aw→Bool
 | .seq a b=>z6 a&&z6 b
 | .cond _ a b=>z6 a&&z6 b
 | .block _ b=>z6 b
 | .loop b=>z6 b
 | .rangeFunc ..=>E3
 |_=>Ga
def fC (e:Env):Env:=e.map fun x=>(x.1,x.2.1,E3)
inductive bg where
 |hole
 |cells (cs:List (AVal×Bool))
 |map (es:List (AVal×AVal))
 |iter (s:List UInt8) (pos:Nat)
 |loop (l:jmy)
 |fV (t e:Nat) (l:List UInt8)
 |dead
 |vec (sz bJ:Nat) (xs:List AVal)
 deriving Inhabited
abbrev qh:=List bg
structure bf where
 env:Env
 heap:qh
 deriving Inhabited
inductive mU where
 |tmp (t:Nat)
 |cell (t:Nat) (agg:Bool) (n:Nat)
 deriving Inhabited
structure av where
 ntmps:Nat
 body:aw
 results:List mU
 deriving Inhabited
abbrev xK:=Nat→Option (List AVal→Option (AVal×Bool))
abbrev jde:=Nat→Option (List AVal→qh→Option (AVal×Bool×qh))
abbrev Qv:=Nat→Option (List (AVal×AVal))
structure j8 where
 bM:Nat→Option av
 cG:xK
 dG:jde:=fun _=>En
 maps:Qv:=fun _=>En
def jj (t:Nat):Env→Option (AVal×Bool)
 | []=>En
 |(s,x)::e=>bif Gd s t then I x else jj t e
def qi (e:Env):jt→Option AVal
 | .tmp t=>match jj t e with
  |some x=>I x.1
  |none=>En
 | .const v=>I v
def fX (e:Env):List jt→Option (List AVal)
 | []=>I []
 |x::xs=>match qi e x with
  |some v=>match fX e xs with
   |some vs=>I (v::vs)
   |none=>En
  |none=>En
def qG (e:Env):List Nat→Env
 | []=>[]
 |t::ts=>match jj t e with
  |some x=>(t,x)::qG e ts
  |none=>qG e ts
def qH:IntKind→Int→Bool
 | .i64,.ofNat m=>Gc m 9223372036854775807
 | .i64,.negSucc m=>Gc m 9223372036854775807
 | .i32,.ofNat m=>Gc m 2147483647
 | .i32,.negSucc m=>Gc m 2147483647
 | .i16,.ofNat m=>Gc m 32767
 | .i16,.negSucc m=>Gc m 32767
 | .i8,.ofNat m=>Gc m 127
 | .i8,.negSucc m=>Gc m 127
 | .u64,.ofNat m=>Gc m 18446744073709551615
 | .u32,.ofNat m=>Gc m 4294967295
 | .u16,.ofNat m=>Gc m 65535
 | .u8,.ofNat m=>Gc m 255
 |_,.negSucc _=>E3
def qe (k:IntKind)(n:Int):Int:=bif qH k n then n else k.wrap n
def AVal.flat:AVal→List AVal
 | .agg cs=>cs
 |v=>[v]
def AVal.isAgg:AVal→Bool
 | .agg _=>Ga
 |_=>E3
def AVal.cJ:AVal→Bool
 | .list ..=>Ga
 |_=>E3
def mg:Kd→AVal→AVal→Option Bool
 | .int,.int k a,.int k' b=>bif decide (k=k')then I (a == b)else En
 | .str,.str a,.str b=>I (a == b)
 | .bool,.bool a,.bool b=>I (a == b)
 |_,_,_=>En
def yv:List Kd→List AVal→List AVal→Option Bool
 | [],[],[]=>I Ga
 |k::ks,x::xs,y::ys=>match mg k x y with
  |some Ga=>yv ks xs ys
  |some E3=>I E3
  |none=>En
 |_,_,_=>En
def part (agg:Bool)(cs:List AVal)(off n:Nat):Option AVal:=
 bif agg then(bif Gc (off+n) cs.length then I (.agg ((cs.drop off).take n))else En)else cs[off]?
def bytesLess:List UInt8→List UInt8→Bool
 |_,[]=>E3
 | [],_::_=>Ga
 |a::x,b::y=>a<b||(a == b&&bytesLess x y)
def nW (op:BinOp)(k:IntKind)(x y:Int):Option AVal:=
 match op with
 | .add=>I (.int k (qe k (x+y)))
 | .sub=>I (.int k (qe k (x-y)))
 | .mul=>I (.int k (qe k (x*y)))
 | .quo=>bif y == 0 then En else I (.int k (qe k (x.tdiv y)))
 | .rem=>bif y == 0 then En else I (.int k (x.tmod y))
 | .eql=>I (.bool (x == y))
 | .neq=>I (.bool (x != y))
 | .lss=>I (.bool (decide (x<y)))
 | .leq=>I (.bool (decide (x≤y)))
 | .gtr=>I (.bool (decide (x > y)))
 | .geq=>I (.bool (decide (x≥y)))
 | .and=>I (.int k (k.wrap (BitVec.ofInt k.bits x &&& BitVec.ofInt k.bits y).toNat))
 | .or=>I (.int k (k.wrap (BitVec.ofInt k.bits x ||| BitVec.ofInt k.bits y).toNat))
 | .xor=>I (.int k (k.wrap (BitVec.ofInt k.bits x ^^^ BitVec.ofInt k.bits y).toNat))
 | .andNot=>I (.int k (k.wrap (BitVec.ofInt k.bits x &&& ~~~BitVec.ofInt k.bits y).toNat))
 |_=>En
def KJ (op:BinOp)(k:IntKind)(x y:Int):Option AVal:=
 bif decide (y<0)then En else
 match op with
 | .shl=>I (.int k (qe k (x*2^(min y.toNat k.bits))))
 | .shr=>I (.int k (x.fdiv (2^(min y.toNat k.bits))))
 |_=>En
def Fg (op:BinOp)(x y:List UInt8):Option AVal:=
 match op with
 | .add=>bif Gc (x.length+y.length) 4611686018427387904 then I (.str (x++y))else En
 | .eql=>I (.bool (x == y))
 | .neq=>I (.bool !(x == y))
 | .lss=>I (.bool (bytesLess x y))
 | .leq=>I (.bool (bytesLess x y||x == y))
 | .gtr=>I (.bool !(bytesLess x y||x == y))
 | .geq=>I (.bool !(bytesLess x y))
 |_=>En
def yg (op:BinOp):AVal→AVal→Option AVal
 | .int k x,.int k' y=>match op with
  | .shl=>KJ .shl k x y
  | .shr=>KJ .shr k x y
  |op=>bif decide (k=k')then nW op k x y else En
 | .str x,.str y=>Fg op x y
 |_,_=>En
def xM:UnOp→AVal→Option AVal
 | .neg,.int k n=>I (.int k (qe k (0-n)))
 | .not,.bool b=>I (.bool !b)
 |_,_=>En
def max2:AVal→AVal→Option AVal
 | .int k x,.int k' y=>bif decide (k=k')then I (.int k (if y > x then y else x))else En
 |_,_=>En
def min2:AVal→AVal→Option AVal
 | .int k x,.int k' y=>bif decide (k=k')then I (.int k (if y<x then y else x))else En
 |_,_=>En
def nX (f:AVal→AVal→Option AVal):AVal→List AVal→Option AVal
 |x,[]=>I x
 |x,y::ys=>match f x y with
  |some z=>nX f z ys
  |none=>En
def jQ:List AVal→List (Nat×List AVal)→Option (List AVal)
 |cs,[]=>I cs
 |cs,(off,vs)::rest=>bif Gc (off+vs.length) cs.length then jQ (cs.take off++vs++cs.drop (off+vs.length)) rest else En
def qk:AVal→Bool
 | .agg _=>E3
 | .aC _=>E3
 | .undef=>E3
 | .any=>E3
 |_=>Ga
def kn (e:Env):List (Nat×Nat×jt)→Option (List (Nat×List AVal))
 | []=>I []
 |(off,n,x)::ps=>match qi e x with
  |some v=>bif Gd v.flat.length n&&v.flat.all qk then
    (match kn e ps with
     |some r=>I ((off,v.flat)::r)
     |none=>En)else En
  |none=>En
def lE (xs:List AVal):List (Nat×AVal)→Option (List AVal)
 | []=>I xs
 |(i,v)::ps=>bif Gg i xs.length then lE (xs.set i v) ps else En
def ye (e:Env)(sz:Nat):List (Nat×jt)→Option (List (Nat×AVal))
 | []=>I []
 |(i,x)::ps=>match qi e x with
  |some v=>bif Gd v.flat.length sz&&v.flat.all qk then
   (match ye e sz ps with
    |some r=>I ((i,v)::r)
    |none=>En)else En
  |none=>En
def jtk (zero:List AVal)(agg:Bool):Option AVal:=
 bif agg then I (.agg zero)else match zero with
  | [z]=>I z
  |_=>En
def zg (h:qh)(b:Nat):Option bg:=h[b]?
def jw (h:qh)(b:Nat):Option (List (AVal×Bool)):=
 match h[b]? with
 |some (.cells cs)=>I cs
 |_=>En
def zj (cs:List (AVal×Bool))(off n:Nat):Option (List AVal):=
 bif Gc (off+n) cs.length then I (((cs.drop off).take n).map (·.1))else En
def jr (cs:List (AVal×Bool))(off:Nat)(vs:List AVal):Option (List (AVal×Bool)):=
 bif Gc (off+vs.length) cs.length&&vs.all qk then I (cs.take off++vs.map (·,E3)++cs.drop (off+vs.length))else En
mutual
def below (n:Nat):AVal→Bool
 | .ms b _ _=>Gg b n
 | .ptr b _=>Gg b n
 | .map b=>Gg b n
 | .ay b _ _=>Gg b n
 | .dH b _ _=>Gg b n
 | .ah v=>below n v
 | .list _ _ xs=>qw n xs
 | .agg cs=>qw n cs
 | .aC vs=>qw n vs
 | .fn (.yield b) first captured=>Gg b n&&qw n first&&qw n captured
 | .fn _ first captured=>qw n first&&qw n captured
 |_=>Ga
def qw (n:Nat):List AVal→Bool
 | []=>Ga
 |x::xs=>below n x&&qw n xs
end
def mV (n:Nat):Env→Bool
 | []=>Ga
 |(_,v,_)::e=>below n v&&mV n e
def pw (n:Nat):List (AVal×Bool)→Bool
 | []=>Ga
 |(v,_)::e=>below n v&&pw n e
def qI (n:Nat):List (AVal×AVal)→Bool
 | []=>Ga
 |(k,v)::e=>below n k&&below n v&&qI n e
def nY (n:Nat):bg→Bool
 | .hole=>Ga
 | .cells cs=>pw n cs
 | .map es=>qI n es
 | .iter _ _=>Ga
 | .fV ..=>Ga
 | .dead=>Ga
 | .vec ..=>Ga
 | .loop l=>mV n l.env
def zr (n:Nat):qh→Bool
 | []=>Ga
 |b::h=>nY n b&&zr n h
def gc (n:Nat)(st:bf):bf:=
 bif Gc st.heap.length n then st
 else bif mV n st.env&&zr n (st.heap.take n)then { st with heap:=st.heap.take n }else st
def mr (v:AVal):Bool:=below 0 v
def q68 (agg:Bool)(sz:Nat):Nat→List AVal→Option (List AVal)
 |0,_=>I []
 |n+1,cs=>bif Gc sz cs.length then
   (match jtk (cs.take sz) agg with
    |some v=>(match q68 agg sz n (cs.drop sz)with
     |some r=>I (v::r)
     |none=>En)
    |none=>En)else En
def mA (sz:Nat):Nat→List AVal→List AVal
 |0,_=>[]
 |n+1,cs=>(bif Gd sz 1 then cs.headD .undef else .agg (cs.take sz))::mA sz n (cs.drop sz)
def KK:AVal→Bool
 | .str _=>Ga
 | .list ..=>Ga
 |_=>E3
def Dq (off len:Nat)(cs:List (AVal×Bool)):Bool:=Gd off 0&&Gg 1 (cs.length / len)&&Gd (len*(cs.length / len)) cs.length&&cs.any (fun c=>KK c.1)
def ko (h:qh):AVal→Option AVal
 | .ms b off len=>match jw h b with
  |some cs=>bif Dq off len cs then I (.list E3 (cs.length / len) (mA (cs.length / len) len (cs.map (·.1))))else(match zj cs off len with
   |some vs=>I (.list E3 1 vs)
   |none=>En)
  |none=>En
 | .ay b bJ len=>match h[b]? with
  |some (.vec sz dA xs)=>bif Gd bJ dA&&Gc len xs.length then I (.list E3 sz (xs.take len))else En
  |_=>En
 |v=>I v
def lF (h:qh):List AVal→Option (List AVal)
 | []=>I []
 |v::vs=>match ko h v with
  |some x=>(match lF h vs with
   |some xs=>I (x::xs)
   |none=>En)
  |none=>En
def aF (h:qh):AVal→Option AVal
 | .agg cs=>match lF h cs with
  |some xs=>I (.agg xs)
  |none=>En
 | .aC vs=>match bC h vs with
  |some xs=>I (.aC xs)
  |none=>En
 |v=>ko h v
where
 bC (h:qh):List AVal→Option (List AVal)
  | []=>I []
  | .agg cs::vs=>match lF h cs with
   |some x=>(match bC h vs with
    |some xs=>I (.agg x::xs)
    |none=>En)
   |none=>En
  |v::vs=>match ko h v with
   |some x=>(match bC h vs with
    |some xs=>I (x::xs)
    |none=>En)
   |none=>En
def jl (kd:Kd)(k:AVal):List (AVal×AVal)→Nat→Option (Option (Nat×AVal))
 | [],_=>I En
 |(k',v)::es,i=>match mg kd k k' with
  |some Ga=>I (I (i,v))
  |some E3=>jl kd k es (i+1)
  |none=>En
def qn (s:List UInt8)(i:Nat):Nat×Nat:=Utf8.decode ⟨⟨s⟩⟩ i
structure bh where
 v:AVal
 own:Bool
 strip:Option Nat
 heap:qh
def oI (l:List Nat):Bool:=match l with
 | []=>E3
 |k::_=>Gc 1000 k
def Ac (h0:Nat)(l:List Nat)(b:Nat):Bool:=match l with
 | []=>E3
 |k::_=>bif Gg k 2000 then Gd b (k-1000)&&Gg b h0 else bif Gg k 4000 then Gd b (h0+(k-2000))else Gg b h0
def zc (h0:Nat)(al:Option (List Nat))(b:Nat):Bool:=
 match al with
 |none=>Ga
 |some l=>bif oI l then Ac h0 l b else(Gg b h0||l.contains (b-h0))
def px (al:Option (List Nat)):Bool:=
 match al with
 |some (k::_)=>Gc 4000 k
 |_=>E3
def uX (h0:Nat)(al:Option (List Nat))(b:Nat):Bool:=zc h0 al b&&!(px al)
def jo (h:qh)(b:Nat)(x:bg):Option qh:=bif Gg b h.length then I (h.set b x)else En
def aK (h0:Nat)(h:qh)(r:Nat)(x:bg):Option qh:=
 match h[h0+r]? with
 |some .hole=>I (h.set (h0+r) x)
 |_=>En
def val (h:qh)(v:AVal):Option bh:=I ⟨v,E3,En,h⟩
def gD (h:qh):Option AVal→Option bh
 |some v=>I ⟨v,E3,En,h⟩
 |none=>En
def idx (n:Nat):AVal→Option Nat
 | .int _ (.ofNat i)=>bif Gg i n then I i else En
 |_=>En
def Ad (n:Nat):AVal→Option Nat
 | .int _ (.ofNat i)=>bif Gc i n then I i else En
 |_=>En
def fD (e:Env)(lG n:Nat):Option jt→Option Nat
 |none=>I lG
 |some x=>match qi e x with
  |some v=>Ad n v
  |none=>En
def zq (e:Env):jt→Option Nat
 | .tmp t=>match jj t e with
  |some (_,Ga)=>I t
  |_=>En
 |_=>En
def zy (sz:Nat):AVal→Option (List AVal)
 | .list _ sy ys=>bif Gd sz sy||ys.isEmpty then I ys else En
 | .str s=>bif Gd sz 1 then I (s.map fun(c:UInt8)=>AVal.int .u8 c.toNat)else En
 |_=>En
def qJ (n:Bool)(sz:Nat)(xs ys:List AVal):AVal:=bif n&&ys.isEmpty then .list Ga 0 []else .list E3 sz (xs++ys)
def qo (e:Env)(h:qh):cL→Option bh
 | .move x=>gD h (qi e x)
 | .take s=>match jj s e with
  |some (v,o)=>I ⟨v,o,I s,h⟩
  |none=>En
 | .pick c a b=>match qi e c with
  |some (.bool t)=>(match qi e a,qi e b with
    |some x,I y=>val h (bif t then x else y)
    |_,_=>En)
  |_=>En
 | .oH n x=>match qi e x with
  |some v=>bif Gd v.flat.length n&&v.flat.all qk then val h (.ah v)else En
  |none=>En
 | .build zero parts=>match kn e parts with
  |some ps=>match jQ zero ps with
   |some cs=>val h (.agg cs)
   |none=>En
  |none=>En
 | .buildSlice sz len zero parts=>match ye e sz parts with
  |some ps=>match lE (Gp len (bif Gd sz 1 then zero.headD .undef else .agg zero)) ps with
   |some xs=>I ⟨.list E3 sz xs,Ga,En,h⟩
   |none=>En
  |none=>En
 | .gB n=>I ⟨.cT n,Ga,En,h⟩
 | .dM n s x=>match jj s e,qi e x with
  |some (.cT m,Ga),I v=>bif Gd m n&&Gd v.flat.length n&&v.flat.all qk then val h (.ah v)else En
  |_,_=>En
 | .ft agg n x=>match qi e x with
  |some (.ah v)=>bif Gw agg v.isAgg||!(Gd v.flat.length n)then En else val h v
  |_=>En
 | .nilCheck x=>match qi e x with
  |some (.ptr b o)=>val h (.ptr b o)
  |some (.ah v)=>val h (.ah v)
  |some (.fn (.func f) a b)=>val h (.fn (.func f) a b)
  |_=>En
 | .bin op x y=>match qi e x,qi e y with
  |some a,I b=>gD h (yg op a b)
  |_,_=>En
 | .eqs ks neq x y=>match qi e x,qi e y with
  |some (.agg a),I (.agg b)=>bif Gd a.length ks.length&&Gd b.length ks.length then(match yv ks a b with
   |some t=>val h (.bool (bif neq then !t else t))
   |none=>En)else En
  |_,_=>En
 | .beq neq x y=>match qi e x,qi e y with
  |some (.bool a),I (.bool b)=>val h (.bool (bif neq then !(a == b)else a == b))
  |_,_=>En
 | .fA k neq x=>match k,qi e x with
  |0,I (.list n _ _)=>val h (.bool (bif neq then !n else n))
  |0,I (.ms ..)=>val h (.bool neq)
  |1,I .bZ=>val h (.bool (!neq))
  |1,I (.ptr ..)=>val h (.bool neq)
  |1,I (.ah ..)=>val h (.bool neq)
  |2,I .bX=>val h (.bool (!neq))
  |2,I (.map ..)=>val h (.bool neq)
  |3,I .cr=>val h (.bool (!neq))
  |3,I (.fn ..)=>val h (.bool neq)
  |_,_=>En
 | .un op x=>match qi e x with
  |some v=>gD h (xM op v)
  |none=>En
 | .conv k x=>match qi e x with
  |some (.int _ n)=>val h (.int k (qe k n))
  |_=>En
 | .fe x=>match qi e x with
  |some (.str s)=>val h (.str s)
  |some (.int _ n)=>val h (.str (Utf8.encode n).data.toList)
  |_=>En
 | .field agg off n x=>match qi e x with
  |some (.agg cs)=>gD h (part agg cs off n)
  |_=>En
 | .index agg len n x i=>match qi e x,qi e i with
  |some (.agg cs),I j=>(match idx len j with
   |some j=>gD h (part agg cs (j*n) n)
   |none=>En)
  |_,_=>En
 | .ej x i=>match qi e x,qi e i with
  |some (.str s),I j=>(match idx s.length j with
   |some j=>(match s[j]? with
    |some c=>val h (.int .u8 c.toNat)
    |none=>En)
   |none=>En)
  |_,_=>En
 | .fieldAddr agg off n x=>match qi e x with
  |some (.ptr b o)=>val h (.ptr b (o+off))
  |some (.ah (.agg cs))=>(match part agg cs off n with
   |some v=>bif Gw agg v.isAgg then En else val h (.ah v)
   |none=>En)
  |some (.dH b bJ o)=>val h (.dH b bJ (o+off))
  |_=>En
 | .indexAddr sz x i=>match qi e x,qi e i with
  |some (.list _ c8 xs),I j=>bif Gd sz c8||xs.isEmpty then(match idx xs.length j with
   |some j=>(match xs[j]? with
    |some v=>val h (.ah v)
    |none=>En)
   |none=>En)else En
  |some (.ms b o len),I j=>(match idx len j with
   |some j=>val h (.ptr b (o+j*sz))
   |none=>En)
  |some (.ay b bJ len),I j=>(match idx len j with
   |some j=>val h (.dH b bJ (j*sz))
   |none=>En)
  |_,_=>En
 | .ek agg len sz x i=>match qi e x,qi e i with
  |some (.ptr b o),I j=>(match idx len j with
   |some j=>val h (.ptr b (o+j*sz))
   |none=>En)
  |some (.ah (.agg cs)),I j=>(match idx len j with
   |some j=>(match part agg cs (j*sz) sz with
    |some v=>bif Gw agg v.isAgg then En else val h (.ah v)
    |none=>En)
   |none=>En)
  |_,_=>En
 | .slice sz x lo hi=>match qi e x with
  |some (.list n c8 xs)=>bif Gd sz c8||xs.isEmpty then(match fD e xs.length xs.length hi with
   |some j=>(match fD e 0 j lo with
    |some i=>val h (.list n c8 ((xs.take j).drop i))
    |none=>En)
   |none=>En)else En
  |some (.ms b o len)=>(match fD e len len hi with
   |some j=>(match fD e 0 j lo with
    |some i=>bif Gd i 0||Gg i j then val h (.ms b (o+i*sz) (j-i))else En
    |none=>En)
   |none=>En)
  |some (.ay b bJ len)=>(match fD e len len hi with
   |some j=>(match fD e 0 j lo with
    |some i=>bif Gd i 0 then val h (.ay b bJ j)else En
    |none=>En)
   |none=>En)
  |_=>En
 | .eN x lo hi=>match qi e x with
  |some (.str s)=>(match fD e s.length s.length hi with
   |some j=>(match fD e 0 j lo with
    |some i=>val h (.str ((s.take j).drop i))
    |none=>En)
   |none=>En)
  |_=>En
 | .fW len sz x lo hi=>match qi e x with
  |some (.ptr b o)=>(match fD e len len hi with
   |some j=>(match fD e 0 j lo with
    |some i=>bif Gd i 0||Gg i j then val h (.ms b (o+i*sz) (j-i))else En
    |none=>En)
   |none=>En)
  |_=>En
 | .gC f first captured=>match fX e first,fX e captured with
  |some a,I b=>val h (.fn f a b)
  |_,_=>En
 | .len k x=>match k,qi e x with
  |1,I (.list _ _ xs)=>val h (.int .i64 xs.length)
  |1,I (.ms _ _ n)=>val h (.int .i64 n)
  |1,I (.ay _ _ n)=>val h (.int .i64 n)
  |2,I (.list Ga _ _)=>val h (.int .i64 0)
  |0,I (.str s)=>val h (.int .i64 s.length)
  |_,_=>En
 | .append En sz bytes x y=>match qi e x,qi e y with
  |some (.list n c8 xs),I vy=>
   bif n||(zq e x).isSome then
    (match zy sz vy with
     |some ys=>
      bif (Gd sz c8||(xs.isEmpty&&n))&&Gc (xs.length+ys.length) 1073741824&&Gc bytes 4096&&Gg 0 sz then
       I ⟨qJ n sz xs ys,Ga,zq e x,h⟩
      else En
     |none=>En)
   else En
  |_,_=>En
 | .cn En sz bytes zero n c=>match qi e n,qi e c with
  |some (.int .i64 (.ofNat n)),I (.int .i64 (.ofNat c))=>
   bif Gd n c&&Gc n 1073741824&&Gc bytes 4096&&Gd zero.length sz&&Gg 0 sz&&zero.all qk then
    I ⟨.list E3 sz (Gp n (bif Gd sz 1 then zero.headD .undef else .agg zero)),Ga,En,h⟩else En
  |_,_=>En
 | .mx args=>match fX e args with
  |some (v::vs)=>gD h (nX max2 v vs)
  |_=>En
 | .mn args=>match fX e args with
  |some (v::vs)=>gD h (nX min2 v vs)
  |_=>En
 | .extract x i=>match qi e x with
  |some (.aC vs)=>gD h vs[i]?
  |_=>En
 |_=>En
def mW (es:List (AVal×AVal))(i:Nat)(v:AVal):List (AVal×AVal):=
 match es,i with
 | [],_=>[]
 |(k,_)::r,0=>(k,v)::r
 |x::r,i+1=>x::mW r i v
def yi (h0:Nat)(al:Option (List Nat))(e:Env)(h:qh):cL→Option bh
 | .load agg n x=>match qi e x with
  |some (.ptr b o)=>bif zc h0 al b then(match jw h b with
   |some cs=>(match zj cs o n with
    |some vs=>bif agg then val h (.agg vs)else(match vs with
     | [v]=>val h v
     |_=>En)
    |none=>En)
   |none=>En)else En
  |some (.ah v)=>bif Gw agg v.isAgg||!(Gd v.flat.length n)then En else val h v
  |some (.dH b bJ o)=>bif uX h0 al b then(match zg h b with
   |some (.vec _ dA xs)=>bif Gd bJ dA&&Gc (o+n) (xs.flatMap AVal.flat).length then(bif agg then val h (.agg (((xs.flatMap AVal.flat).drop o).take n))else(match((xs.flatMap AVal.flat).drop o).take n with
     | [v]=>val h v
     |_=>En))else En
   |_=>En)else En
  |_=>En
 | .lookup kd zero ok m k=>match qi e m,qi e k with
  |some (.map b),I kv=>bif zc h0 al b then(match zg h b with
   |some (.map es)=>(match jl kd kv es 0 with
    |some (I (_,v))=>val h (bif ok then .aC [v,.bool Ga]else v)
    |some En=>val h (bif ok then .aC [zero,.bool E3]else zero)
    |none=>En)
   |_=>En)else En
  |some .bX,I _=>val h (bif ok then .aC [zero,.bool E3]else zero)
  |_,_=>En
 | .len _ x=>match qi e x with
  |some (.map b)=>bif zc h0 al b then(match zg h b with
   |some (.map es)=>val h (.int .i64 es.length)
   |_=>En)else En
  |some .bX=>val h (.int .i64 0)
  |_=>En
 |_=>En
def q38 (es:List (AVal×AVal)):Option (Nat×AVal)→List (AVal×AVal)
 |some (i,_)=>es.eraseIdx i
 |none=>es
def uY:Option Nat→Nat→Bool
 |none,_=>Ga
 |some a,o=>Gd a o
def Ae (sz len:Nat):AVal→Option (Nat×List AVal)
 | .list _ sy ys=>bif Gd sz sy||ys.isEmpty then I (min ys.length len,(ys.take len).flatMap AVal.flat)else En
 |_=>En
def cellsOf (vs:List AVal):List (AVal×Bool):=vs.map (·,E3)
def qp (h0:Nat)(al:Option (List Nat))(e:Env)(h:qh):cL→Option bh
 | .alloc r zero=>bif zero.all qk then(match aK h0 h r (.cells (cellsOf zero))with
  |some h'=>val h' (.ptr (h0+r) 0)
  |none=>En)else En
 | .box r n x=>match qi e x with
  |some v=>bif Gd v.flat.length n&&v.flat.all qk then(match aK h0 h r (.cells (cellsOf v.flat))with
   |some h'=>val h' (.ptr (h0+r) 0)
   |none=>En)else En
  |none=>En
 | .cy off x=>match qi e x with
  |some (.ptr b o)=>bif zc h0 al b&&uY off o then(match jw h b with
   |some cs=>(match cs[o]? with
    |some (v,w)=>(match jo h b (.cells (cs.set o (v,E3)))with
     |some h'=>I ⟨v,w,En,h'⟩
     |none=>En)
    |none=>En)
   |none=>En)else En
  |_=>En
 | .store n a x=>match qi e a,qi e x with
  |some (.ptr b o),I v=>bif zc h0 al b then(match jw h b with
   |some cs=>(match zq e x with
    |some t=>bif Gd n 1&&v.cJ&&Gg o cs.length then(match jo h b (.cells (cs.set o (v,Ga)))with
      |some h'=>I ⟨.undef,E3,I t,h'⟩
      |none=>En)else En
    |none=>bif Gd v.flat.length n then(match jr cs o v.flat with
     |some ez=>(match jo h b (.cells ez)with
      |some h'=>val h' .undef
      |none=>En)
     |none=>En)else En)
   |none=>En)else En
  |_,_=>En
 | .fV r t e=>match aK h0 h r (.fV t e [])with
  |some h'=>val h' (.ptr (h0+r) 0)
  |none=>En
 | .dN r=>match aK h0 h r (.map [])with
  |some h'=>val h' (.map (h0+r))
  |none=>En
 | .mapUpdate kd m k x=>match qi e m,qi e k,qi e x with
  |some (.map b),I kv,I v=>bif zc h0 al b then(match zg h b with
   |some (.map es)=>(match jl kd kv es 0 with
    |some (I (i,_))=>(match jo h b (.map (mW es i v))with
     |some h'=>val h' .undef
     |none=>En)
    |some En=>bif Gc es.length 1073741824 then(match jo h b (.map (es++[(kv,v)]))with
     |some h'=>val h' .undef
     |none=>En)else En
    |none=>En)
   |_=>En)else En
  |_,_,_=>En
 | .delete kd m k=>match qi e m,qi e k with
  |some (.map b),I kv=>bif zc h0 al b then(match zg h b with
   |some (.map es)=>(match jl kd kv es 0 with
    |some r=>(match jo h b (.map (q38 es r))with
     |some h'=>val h' (.aC [])
     |none=>En)
    |none=>En)
   |_=>En)else En
  |_,_=>En
 | .cn (I r) sz bytes zero n c=>match qi e n,qi e c with
  |some (.int .i64 (.ofNat n)),I (.int .i64 (.ofNat c))=>
   bif Gd n c&&Gc n 1073741824&&Gc bytes 4096&&Gd zero.length sz&&Gg 0 sz&&zero.all qk then
    (match aK h0 h r (.cells (cellsOf (Gp n zero).flatten))with
     |some h'=>val h' (.ms (h0+r) 0 n)
     |none=>En)else En
  |_,_=>En
 | .append (I r) sz bytes x y=>match qi e x,qi e y with
  |some (.list E3 c8 []),I vy=>
   bif (zq e x).isSome&&Gd sz c8 then
    (match zy sz vy with
     |some ys=>
      bif Gc ys.length 1073741824&&Gc bytes 4096&&Gg 0 sz then
       (match aK h0 h r (.cells (cellsOf (ys.flatMap AVal.flat)))with
        |some h'=>I ⟨.ms (h0+r) 0 ys.length,E3,zq e x,h'⟩
        |none=>En)
      else En
     |none=>En)
   else En
  |_,_=>En
 | .ia r sz bytes x y=>match qi e x,qi e y with
  |some (.list Ga _ []),I vy=>(match zy sz vy with
    |some ys=>
     bif Gc ys.length 1073741824&&Gc bytes 4096&&Gg 0 sz&&!ys.isEmpty&&qw 0 ys&&Gg r 1000 then
      (match aK h0 h r (.vec sz 0 ys)with
       |some h'=>val h' (.ay (h0+r) 0 ys.length)
       |none=>En)else En
    |none=>En)
  |some (.ay b bJ len),I vy=>(match zg h b with
   |some (.vec c8 dA xs)=>(match zy sz vy with
    |some ys=>
     bif Gd bJ dA&&Gd sz c8&&Gc len xs.length&&Gc (len+ys.length) 1073741824&&Gc bytes 4096&&Gg 0 sz&&qw 0 ys&&Gg r 1000 then
      (match jo h b (.vec sz (bJ+1) (xs.take len++ys))with
       |some h'=>val h' (.ay b (bJ+1) (len+ys.length))
       |none=>En)else En
    |none=>En)
   |_=>En)
  |_,_=>En
 | .iG r sz len zero parts=>match ye e sz parts with
  |some ps=>match lE (Gp len (bif Gd sz 1 then zero.headD .undef else .agg zero)) ps with
   |some xs=>bif qw 0 xs then(match aK h0 h r (.vec sz 0 xs)with
    |some h'=>val h' (.ay (h0+r) 0 xs.length)
    |none=>En)else En
   |none=>En
  |none=>En
 | .copy sz x y=>match qi e x,qi e y with
  |some (.ms b o len),I vy=>bif zc h0 al b then(match jw h b with
   |some cs=>(match Ae sz len vy with
    |some (n,vs)=>(match jr cs o vs with
     |some ez=>bif Gd vs.length (n*sz)then(match jo h b (.cells ez)with
      |some h'=>val h' (.int .i64 n)
      |none=>En)else En
     |none=>En)
    |none=>En)
   |none=>En)else En
  |_,_=>En
 | .dw r x=>match qi e x with
  |some (.str s)=>(match aK h0 h r (.iter s 0)with
   |some h'=>val h' (.ptr (h0+r) 0)
   |none=>En)
  |_=>En
 | .fB it=>match qi e it with
  |some (.ptr b 0)=>bif zc h0 al b then(match zg h b with
   |some (.iter s pos)=>bif Gg pos s.length then
     (match jo h b (.iter s (pos+(qn s pos).2))with
      |some h'=>val h' (.aC [.bool Ga,.int .i64 pos,.int .i32 (qn s pos).1])
      |none=>En)else val h (.aC [.bool E3])
   |_=>En)else En
  |_=>En
 |_=>En
def oJ:Nat→List AVal→Env
 |_,[]=>[]
 |i,v::vs=>(i,v,E3)::oJ (i+1) vs
def uZ (st:bf):mU→Option (AVal×Bool)
 | .tmp t=>jj t st.env
 | .cell t agg n=>match jj t st.env with
  |some (.ptr b o,_)=>(match jw st.heap b with
   |some cs=>(match zj cs o n with
    |some vs=>bif agg then I (.agg vs,E3)else(match cs[o]? with
     |some x=>I x
     |none=>En)
    |none=>En)
   |none=>En)
  |_=>En
def km (st:bf):List mU→Option (List (AVal×Bool))
 | []=>I []
 |r::rs=>match uZ st r with
  |some x=>(match km st rs with
   |some xs=>I (x::xs)
   |none=>En)
  |none=>En
def j9:List (AVal×Bool)→AVal×Bool
 | [x]=>x
 |xs=>(.aC (xs.map (·.1)),E3)
abbrev XC:=aw→bf→Option (jg×bf)
def kz (st:bf):List mU→qh
 | [.cell t E3 _]=>match jj t st.env with
  |some (.ptr b o,_)=>(match jw st.heap b with
   |some cs=>(match cs[o]? with
    |some (v,Ga)=>st.heap.set b (.cells (cs.set o (v,E3)))
    |_=>st.heap)
   |none=>st.heap)
  |_=>st.heap
 |_=>st.heap
def py (xc:XC)(f:av)(args:List AVal)(h:qh):Option (AVal×Bool×qh):=
 bif Gc args.length f.ntmps then
  match xc f.body ⟨oJ 0 args,h⟩with
  |some (.normal,st)=>(match km st f.results with
   |some xs=>I ((j9 xs).1,(j9 xs).2,kz st f.results)
   |none=>En)
  |some (.ret,st)=>(match km st f.results with
   |some xs=>I ((j9 xs).1,(j9 xs).2,kz st f.results)
   |none=>En)
  |_=>En
 else En
def ql (p:j8)(xc:XC)(k:Nat)(args:List AVal)(h:qh):Option (AVal×Bool×qh):=
 match p.bM k with
 |some f=>py xc f args h
 |none=>match p.dG k with
  |some f=>f args h
  |none=>En
def qc (p:j8)(xc:XC)(k:Nat)(args:List AVal):Option (AVal×Bool):=
 match p.cG k with
 |some f=>(match f args with
  |some (v,o)=>bif mr v then I (v,o)else En
  |none=>En)
 |none=>match ql p xc k args []with
  |some (v,o,h)=>(match aF h v with
   |some v'=>bif mr v' then I (v',o&&v.cJ)else En
   |none=>En)
  |none=>En
def zd (n:Nat)(v:AVal)(h:qh):qh:=
 bif Gc h.length n then h else bif below n v&&zr n (h.take n)then h.take n else h
def wu (e:Env):List Nat→List AVal→Option Env
 | [],[]=>I e
 |t::ts,v::vs=>wu ((t,v,E3)::e) ts vs
 |_,_=>En
def kE (xc:XC)(b:Nat)(args:List AVal)(h:qh):Option (AVal×qh):=
 match zg h b with
 |some (.loop l)=>match l.pending,wu (fC l.env) l.params args with
  |none,I e=>(match xc l.assign ⟨e,h⟩with
   |some (.normal,st)=>(match zg st.heap b with
    |some (.loop l1)=>bif l1.pending.isNone then(match xc l.body { st with heap:=st.heap.set b (.loop { l1 with pending:=I .normal }) }with
     |some (x,bT)=>(match zg bT.heap b with
      |some (.loop l2)=>I (.bool (match x with | .normal=>Ga|_=>E3),zd h.length (.bool Ga) (bT.heap.set b (.loop { l2 with pending:=match x with | .normal=>En|x=>I x })))
      |_=>En)
     |none=>En)else En
    |_=>En)
   |_=>En)
  |_,_=>En
 |_=>En
def nZ:AVal→Bool
 | .bool _=>Ga
 | .int _ _=>Ga
 | .str _=>Ga
 |_=>E3
def Qw (h:qh):AVal→Option AVal
 | .ms b 0 len=>(match jw h b with
  |some cs=>bif Gd (len*(cs.length / len)) cs.length&&Gg 0 (cs.length / len)&&cs.all (fun c=>nZ c.1)then I (.list E3 (cs.length / len) (mA (cs.length / len) len (cs.map (·.1))))else(bif Gd len 0 then I (.list E3 8 [])else En)
  |none=>En)
 |v=>I v
def xN (h:qh):List AVal→Option (List AVal)
 | []=>I []
 |v::vs=>match Qw h v,xN h vs with
  |some x,I xs=>I (x::xs)
  |_,_=>En
def xO:AVal→Bool
 | .agg cs=>cs.all nZ
 |v=>nZ v
def Dr (v:AVal):AVal:=bif xO v then v else .any
def KL:AVal→Bool→Option (AVal×Bool)
 | .list E3 sz xs,Ga=>bif (xs.flatMap AVal.flat).all nZ then I (.list E3 sz xs,Ga)else En
 | .list Ga sz [],_=>I (.list Ga sz [],E3)
 | .aC vs,_=>I (.aC (vs.map Dr),E3)
 |v,_=>bif xO v then I (v,E3)else En
def qK (h0:Nat)(h:qh)(r:Nat):AVal→Bool→Option bh
 | .list Ga sz [],_=>(match aK h0 h r .dead with
  |some h'=>val h' (.list Ga sz [])
  |none=>En)
 | .list E3 sz xs,Ga=>bif (xs.flatMap AVal.flat).all nZ then(match aK h0 h r (.cells (cellsOf (xs.flatMap AVal.flat)))with
  |some h'=>val h' (.ms (h0+r) 0 xs.length)
  |none=>En)else En
 |_,_=>En
def yt (p:j8)(xc:XC)(h0:Nat)(e:Env)(h:qh)(md:ei)(f:jt)(args:List jt):Option bh:=
 match qi e f,fX e args with
 |some (.fn (.func k) first captured),I vs=>
  (match md with
   | .bV=>bif qw 0 (first++vs++captured)then(match qc p xc k (first++vs++captured)with
     |some (v,o)=>I ⟨v,o,En,h⟩
     |none=>En)else En
   | .fI r=>bif (first++vs++captured).isEmpty then(match p.maps k with
     |some es=>(match aK h0 h r (.map es)with
      |some h'=>val h' (.map (h0+r))
      |none=>En)
     |none=>En)else bif qw 0 (first++vs++captured)then(match qc p xc k (first++vs++captured)with
     |some (v,o)=>qK h0 h r v o
     |none=>En)else En
   | .red=>(match xN h (first++vs++captured)with
    |some us=>bif qw 0 us then(match qc p xc k us with
     |some (v,o)=>(match KL v o with
      |some (v',o')=>I ⟨v',o',En,h⟩
      |none=>En)
     |none=>En)else En
    |none=>En)
   | .shr=>(match ql p xc k (first++vs++captured) h with
    |some (v,o,h')=>I ⟨v,o,En,zd h.length v h'⟩
    |none=>En))
 |some (.fn (.yield b) [] []),I vs=>
  (match md with
   | .shr=>(match kE xc b vs h with
    |some (v,h')=>val h' v
    |none=>En)
   |_=>En)
 |_,_=>En
def qf (p:j8)(xc:XC)(h0:Nat)(al:Option (List Nat))(e:Env)(h:qh)(op:cL):Option bh:=
 match op with
 | .call md f args=>yt p xc h0 e h md f args
 | .load agg n x=>yi h0 al e h (.load agg n x)
 | .lookup kd z ok m k=>yi h0 al e h (.lookup kd z ok m k)
 | .alloc r z=>qp h0 al e h (.alloc r z)
 | .box r n x=>qp h0 al e h (.box r n x)
 | .cy off x=>qp h0 al e h (.cy off x)
 | .store n a x=>qp h0 al e h (.store n a x)
 | .fV r t e'=>qp h0 al e h (.fV r t e')
 | .dN r=>qp h0 al e h (.dN r)
 | .mapUpdate kd m k x=>qp h0 al e h (.mapUpdate kd m k x)
 | .delete kd m k=>qp h0 al e h (.delete kd m k)
 | .cn (I r) sz b z n c=>qp h0 al e h (.cn (I r) sz b z n c)
 | .append (I r) sz b x y=>qp h0 al e h (.append (I r) sz b x y)
 | .ia r sz b x y=>qp h0 al e h (.ia r sz b x y)
 | .iG r sz n z ps=>qp h0 al e h (.iG r sz n z ps)
 | .copy sz x y=>qp h0 al e h (.copy sz x y)
 | .dw r x=>qp h0 al e h (.dw r x)
 | .fB it=>qp h0 al e h (.fB it)
 |op=>qo e h op
def yc (e:Env):Option Nat→Env
 |none=>e
 |some s=>match jj s e with
  |some (v,_)=>(s,v,E3)::e
  |none=>e
def n5 (e:Env)(d:Option Nat)(v:AVal)(o:Bool):Env:=
 match d with
 |some d=>(d,v,o)::e
 |none=>e
def mX (e:Env):Option (Nat×Bool)→Option Bool
 |none=>I Ga
 |some (s,want)=>match jj s e with
  |some (.bool b,_)=>I (b == want)
  |some (.undef,_)=>I E3
  |_=>En
def yu (p:j8)(xc:XC)(h0:Nat)(o:b4)(st:bf):Option bf:=
 match mX st.env o.guard with
 |some Ga=>(match qf p xc h0 o.al st.env st.heap o.op with
  |some r=>I ⟨n5 (yc st.env r.strip) o.dst r.v r.own,r.heap⟩
  |none=>En)
 |some E3=>I ⟨n5 st.env o.dst .undef E3,st.heap⟩
 |none=>En
def fY (p:j8)(xc:XC)(h0:Nat):List b4→bf→Option bf
 | [],st=>I st
 |o::os,st=>match yu p xc h0 o st with
  |some bT=>fY p xc h0 os bT
  |none=>En
def Af (st:bf):Option (List Nat)→bf
 |none=>st
 |some l=>{ st with env:=qG st.env l }
def mY (p:j8)(xc:XC)(na:Nat)(ops:List b4)(keep:Option (List Nat))(st:bf):Option (jg×bf):=
 match fY p xc st.heap.length ops { st with heap:=st.heap++Gp na .hole }with
 |some bT=>I (.normal,Af bT keep)
 |none=>En
def mZ (p:j8)(xc:XC)(f:jt)(params:List Nat)(assign body:aw)(st:bf):Option (jg×bf):=
 bif z6 assign&&z6 body then
  match qi st.env f with
  |some (.fn (.func k) first captured)=>
   (match ql p xc k (first++[.fn (.yield st.heap.length) [] []]++captured) (st.heap++[.loop ⟨st.env,params,assign,body,En⟩])with
    |some (_,_,h')=>(match zg h' st.heap.length with
     |some (.loop l)=>bif zr st.heap.length (h'.take st.heap.length)then
       (match l.pending with
       |none=>I (.normal,{ st with heap:=h'.take st.heap.length })
       |some .normal=>En
       |some x=>I (x,{ st with heap:=h'.take st.heap.length }))else En
     |_=>En)
    |none=>En)
  |_=>En
 else En
def jk (p:j8):Nat→XC
 |0,_,_=>En
 |n+1,c,st=>match c with
  | .skip=>I (.normal,st)
  | .region na ops keep=>mY p (jk p n) na ops keep st
  | .seq a b=>match jk p n a st with
   |some (.normal,bT)=>jk p n b bT
   |r=>r
  | .cond c a b=>match qi st.env c with
   |some (.bool t)=>bif t then jk p n a st else jk p n b st
   |_=>En
  | .block id body=>match jk p n body st with
   |some (.exit fQ,bT)=>bif Gd fQ id then I (.normal,bT)else I (.exit fQ,bT)
   |r=>r
  | .loop body=>match jk p n body st with
   |some (.normal,bT)=>jk p n (.loop body) (gc st.heap.length bT)
   |r=>r
  | .rangeFunc f params assign body=>mZ p (jk p n) f params assign body st
  | .exit id=>I (.exit id,st)
  | .ret=>I (.ret,st)
  | .grow sz=>match jj 0 st.env,jj 1 st.env with
   |some (.list Ga _ _,_),I (.int .i64 (.ofNat m),_)=>bif Gg 0 m&&Gc m 1073741824 then I (.normal,{ st with env:=[(0,.list E3 sz [],Ga)] })else En
   |_,_=>En
  | .stuck=>En
structure qj where
 takes:List Nat:=[]
 bR:List Nat:=[]
 bS:List (Nat×Nat):=[]
 shr:List (Nat×Nat):=[]
 fI:List (Nat×Nat):=[]
 red:List (Nat×Nat):=[]
 keep:List (Nat×List Nat):=[]
 vl:List Nat:=[]
 vec:List Nat:=[]
 ex:List ((Nat×Nat)×Nat):=[]
 deriving Inhabited
def Ds:Value→Option AVal
 | .bool b=>I (.bool b)
 | .int k n=>I (.int k n)
 | .string s=>I (.str s.data.toList)
 | .slice En 0 0=>I (.list Ga 0 [])
 | .pointer En=>I .bZ
 | .map En=>I .bX
 | .nilFunc=>I .cr
 |_=>En
def wv:List Value→Option (List AVal)
 | []=>I []
 |v::vs=>match Ds v with
  |some x=>match wv vs with
   |some xs=>I (x::xs)
   |none=>En
  |none=>En
def ofValue:Value→Option AVal
 | .agg cs=>match wv cs.toList with
  |some xs=>I (.agg xs)
  |none=>En
 |v=>Ds v
def qt:Operand→Option jt
 | .tmp t=>I (.tmp t)
 | .const v=>match ofValue v with
  |some x=>I (.const x)
  |none=>En
 | .func f=>I (.const (.fn (.func f) [] []))
 | .global _=>En
def pz:List Operand→Option (List jt)
 | []=>I []
 |x::xs=>match qt x with
  |some y=>match pz xs with
   |some ys=>I (y::ys)
   |none=>En
  |none=>En
def nc:Option Operand→Option (Option jt)
 |none=>I En
 |some x=>match qt x with
  |some y=>I (I y)
  |none=>En
def yo (P:Program)(t:TypeId):Option Bool:=
 match P.underlying t with
 |some (.struct _)=>I Ga
 |some (.array _ _)=>I Ga
 |some _=>I E3
 |none=>En
def jp (P:Program)(t:TypeId):Option Nat:=(P.info? t).map (·.size)
def n6 (P:Program)(t:TypeId):Option Nat:=(P.info? t).map (·.bytes)
def yr (P:Program)(t:TypeId):Option (List AVal):=
 match P.info? t with
 |some i=>match i.zero with
  |some z=>wv z.cells.toList
  |none=>En
 |none=>En
def Qx (P:Program)(t:TypeId):Option TypeId:=
 match P.underlying t with
 |some (.struct fs)=>match fs.toList with
  | [f0,f1]=>match P.underlying f0.type,P.underlying f1.type with
   |some (.pointer t'),I (.slice e)=>match P.underlying e,yr P t with
    |some (.int .u8),I [.bZ,.list Ga _ []]=>if t' == t then I e else En
    |_,_=>En
   |_,_=>En
  |_=>En
 |_=>En
def Qy (P:Program)(t:TypeId):Option AVal:=
 match P.info? t with
 |some i=>match i.zero with
  |some z=>ofValue z
  |none=>En
 |none=>En
def Fh (g:TypeId→Option (List Kd)):Nat→List Field→Option (List Kd)
 |_,[]=>I []
 | off, f :: fs => if f.name != "_" && f.offset == off then (match g f.type with
   |some ks=>(match Fh g (off+ks.length) fs with
    |some r=>I (ks++r)
    |none=>En)
   |none=>En)else En
def vb (P:Program):Nat→TypeId→Option (List Kd)
 |0,_=>En
 |n+1,t=>match P.underlying t with
  |some (.int _)=>if jp P t == I 1 then I [.int]else En
  |some .string=>if jp P t == I 1 then I [.str]else En
  |some .bool=>if jp P t == I 1 then I [.bool]else En
  |some (.struct fs)=>(match Fh (vb P n) 0 fs.toList with
   |some ks=>if !P.stoodInHeld t&&jp P t == I ks.length then I ks else En
   |none=>En)
  |some (.array len e)=>(match vb P n e with
   |some ks=>if jp P t == I (len*ks.length)then I (Gp len ks).flatten else En
   |none=>En)
  |_=>En
def KM:Nat:=12
def kF (P:Program)(t:TypeId):Option Kd:=
 match P.underlying t with
 |some (.int _)=>I .int
 |some .string=>I .str
 |some .bool=>I .bool
 |_=>En
def Dt (P:Program)(op:BinOp)(neq:Bool)(t:TypeId)(x y:Operand):Option cL:=
 match P.underlying t with
 |some (.int _)|some .string=>match qt x,qt y with
  |some a,I b=>I (.bin op a b)
  |_,_=>En
 |some .bool=>match qt x,qt y with
  |some a,I b=>I (.beq neq a b)
  |_,_=>En
 |some (.struct _)|some (.array _ _)=>
  if !P.eqGuardType P.depth t then match vb P KM t,qt x,qt y with
   |some ks,I a,I b=>I (.eqs ks neq a b)
   |_,_,_=>En
  else En
 |some (.slice _)=>match y with
  | .const (.slice En 0 0)=>(qt x).map (.fA 0 neq)
  |_=>En
 |some (.pointer _)=>match y with
  | .const (.pointer En)=>(qt x).map (.fA 1 neq)
  |_=>En
 |some (.map _ _)=>match y with
  | .const (.map En)=>(qt x).map (.fA 2 neq)
  |_=>En
 |some (.func _ _ _)=>match y with
  | .const .nilFunc=>(qt x).map (.fA 3 neq)
  |_=>En
 |_=>En
def Qz (P:Program)(op:BinOp)(t:TypeId)(x y:Operand):Option cL:=
 match op with
 | .eql=>Dt P .eql E3 t x y
 | .neq=>Dt P .neq Ga t x y
 |op=>match qt x,qt y with
  |some a,I b=>I (.bin op a b)
  |_,_=>En
def xP (P:Program)(place:Nat→Option (Nat×Nat)):List (Nat×Operand)→Option (List (Nat×Nat×jt))
 | []=>I []
 |(i,x)::ps=>match place i,qt x,xP P place ps with
  |some (off,n),I y,I r=>I ((off,n,y)::r)
  |_,_,_=>En
def xQ:List (Nat×Operand)→Option (List (Nat×jt))
 | []=>I []
 |(i,x)::ps=>match qt x,xQ ps with
  |some y,I r=>I ((i,y)::r)
  |_,_=>En
def q8p (h:qj)(dst:Option Nat)(x:Operand):Option Nat:=
 match x,dst with
 | .tmp s,I d=>if h.takes.contains d then I s else En
 |_,_=>En
def Ag:TypeDesc→Bool
 | .slice _=>Ga
 | .string=>Ga
 |_=>E3
def ei.at (r:Nat):ei→ei
 | .fI _=>.fI r
 |m=>m
def Ah (P:Program)(h:qj)(md:ei)(r:Nat)(dst:Option Nat)(c:Call):Option cL:=
 match c.callee with
 | .value f=>match qt f,pz c.args.toList with
  |some f,I args=>I (.call (md.at r) f args)
  |_,_=>En
 | .builtin .len=>match c.args.toList,c.argTypes.toList with
  | [x],[t]=>match P.underlying t with
   |some .string=>(qt x).map (.len 0)
   |some (.slice _)=>(qt x).map (.len 1)
   |_=>En
  |_,_=>En
 | .builtin .cap=>match c.args.toList,c.argTypes.toList with
  | [x],[t]=>match P.underlying t with
   |some (.slice _)=>(qt x).map (.len 2)
   |_=>En
  |_,_=>En
 | .builtin .append=>match c.args.toList,c.argTypes.toList with
  | [x,y],[t,u]=>match P.underlying t,P.underlying u with
   |some (.slice e),I ut=>if Ag ut&&(yr P e).map (·.length) == jp P e then match jp P e,n6 P e,qt x,qt y with
     |some sz,I b,I x,I y=>I (if(dst.map (h.vec.contains ·)).getD E3 then .ia r sz b x y else .append (if(dst.map (h.bR.contains ·)).getD E3 then I r else En) sz b x y)
     |_,_,_,_=>En
    else En
   |_,_=>En
  |_,_=>En
 | .builtin .copy=>match c.args.toList,c.argTypes.toList with
  | [x,y],t::_=>match P.underlying t with
   |some (.slice e)=>match jp P e,qt x,qt y with
    |some sz,I x,I y=>I (.copy sz x y)
    |_,_,_=>En
   |_=>En
  |_,_=>En
 | .builtin .delete=>match c.args.toList,c.argTypes.toList with
  | [m,k],t::_=>match P.underlying t with
   |some (.map kt _)=>match kF P kt,qt m,qt k with
    |some kd,I m,I k=>I (.delete kd m k)
    |_,_,_=>En
   |_=>En
  |_,_=>En
 | .builtin .max=>(pz c.args.toList).map .mx
 | .builtin .min=>(pz c.args.toList).map .mn
 |_=>En
def Du : List (String × List Int) := [("woofer/network.none", [0, 0]), ("woofer/network.one", [1, 0]), ("woofer/network.turns", [1, 0, 0, 1, -1, 0, 0, -1])]
def Fi (P:Program)(g:Nat):List (String×List Int)→Option (List Int)
 | []=>En
 |(n,cs)::l=>if P.globalNamed n == I g then I cs else Fi P g l
def KN (P:Program)(t:TypeId)(g:Nat):Option cL:=match Fi P g Du,yo P t,jp P t with
 |some cs,I Ga,I n=>if cs.length == n then I (.move (.const (.agg (cs.map (AVal.int .i64)))))else En
 |_,_,_=>En
def KO (h:qj):jt→Option Nat
 | .tmp s=>if h.vl.contains s then I s else En
 |_=>En
def cM (P:Program)(h:qj)(md:ei)(r:Nat)(dst:Option Nat):Op→Option cL
 | .move x=>match q8p h dst x with
  |some s=>I (.take s)
  |none=>(qt x).map .move
 | .assign (.tmp s)=>I (.take s)
 | .assign x=>(qt x).map .move
 | .pick c a b=>match qt c,qt a,qt b with
  |some c,I a,I b=>I (.pick c a b)
  |_,_,_=>En
 | .alloc t=>match Qx P t with
  |some e=>I (.fV r t e)
  |none=>bif (dst.map (h.vl.contains ·)).getD E3 then(match yr P t with
   |some z=>bif z.all qk then I (.gB z.length)else En
   |none=>En)else(yr P t).map (.alloc r)
 | .box t x=>match jp P t,qt x with
  |some n,I x=>I (bif (dst.map (h.vl.contains ·)).getD E3 then .oH n x else .box r n x)
  |_,_=>En
 | .build t ps=>match P.underlying t,yr P t with
  |some (.struct fs),I z=>if fs.toList.all (fun f=>(jp P f.type).isSome)then(xP P (fun i=>match fs[i]? with
    |some f=>(jp P f.type).map fun n=>(f.offset,n)
    |none=>En) ps.toList).map (.build z)else En
  |some (.array _ e),I z=>match jp P e with
   |some n=>(xP P (fun i=>I (i*n,n)) ps.toList).map (.build z)
   |none=>En
  |_,_=>En
 | .buildSlice t n ps=>match P.underlying t with
  |some (.slice e)=>match jp P e,yr P e,yo P e,xQ ps.toList with
   |some sz,I z,I ag,I es=>if sz*n≤65536&&0<sz&&z.length == sz&&(ag||sz == 1)&&(!ag||sz != 1)then I (if(dst.map (h.vec.contains ·)).getD E3 then .iG r sz n z es else .buildSlice sz n z es)else En
   |_,_,_,_=>En
  |_=>En
 | .load t (.global g)=>KN P t g
 | .load t x=>match yo P t,jp P t,qt x with
  |some E3,I 1,I x=>if(dst.map (h.takes.contains ·)).getD E3 then I (.cy ((dst.bind fun d=>h.bS.find? fun y=>y.1 == d).map (·.2)) x)else I (bif (dst.map (h.vl.contains ·)).getD E3 then .ft E3 1 x else .load E3 1 x)
  |some Ga,I n,I x=>I (bif (dst.map (h.vl.contains ·)).getD E3 then .ft Ga n x else .load Ga n x)
  |_,_,_=>En
 | .store t a v=>match jp P t,qt a,qt v with
  |some n,I a,I v=>I (match KO h a with
   |some s=>.dM n s v
   |none=>.store n a v)
  |_,_,_=>En
 | .nilCheck x=>(qt x).map .nilCheck
 | .binOp op t x y _=>Qz P op t x y
 | .unOp op _ x=>(qt x).map (.un op)
 | .convert s d x=>match P.underlying s,P.underlying d with
  |some (.int _),I (.int k)=>(qt x).map (.conv k)
  |some .string,I .string=>(qt x).map .fe
  |some (.int _),I .string=>(qt x).map .fe
  |_,_=>En
 | .makeFunc f a b=>match f with
  | .func k=>match pz a.toList,pz b.toList with
   |some a,I b=>I (.gC (.func k) a b)
   |_,_=>En
  |_=>En
 | .makeMap t En=>match P.underlying t with
  |some (.map _ _)=>I (.dN r)
  |_=>En
 | .makeSlice t n c=>match P.underlying t with
  |some (.slice e)=>match jp P e,n6 P e,yr P e,yo P e,qt n,qt c with
   |some sz,I b,I z,I ag,I n,I c=>
    if(ag||sz == 1)&&(!ag||sz != 1)then I (.cn (if(dst.map (h.bR.contains ·)).getD E3 then I r else En) sz b z n c)else En
   |_,_,_,_,_,_=>En
  |_=>En
 | .slice t x lo hi En=>match qt x,nc lo,nc hi with
  |some x,I lo,I hi=>match P.underlying t with
   |some .string=>I (.eN x lo hi)
   |some (.slice e)=>(jp P e).map fun sz=>.slice sz x lo hi
   |some (.array n e)=>(jp P e).map fun sz=>.fW n sz x lo hi
   |_=>En
  |_,_,_=>En
 | .fieldAddr t x i=>match P.underlying t with
  |some (.struct fs)=>match fs[i]? with
   |some f=>match yo P f.type,jp P f.type,qt x with
    |some ag,I n,I x=>if 0<n&&(ag||n == 1)then I (.fieldAddr ag f.offset n x)else En
    |_,_,_=>En
   |none=>En
  |_=>En
 | .field t x i=>match P.underlying t with
  |some (.struct fs)=>match fs[i]? with
   |some f=>match yo P f.type,jp P f.type,qt x with
    |some ag,I n,I x=>I (.field ag f.offset n x)
    |_,_,_=>En
   |none=>En
  |_=>En
 | .indexAddr t x i=>match qt x,qt i with
  |some x,I i=>match P.underlying t with
   |some (.slice e)=>match jp P e with
    |some sz=>if 0<sz then I (.indexAddr sz x i)else En
    |none=>En
   |some (.array n e)=>match jp P e,yo P e with
    |some sz,I ag=>if 0<sz&&(ag||sz == 1)then I (.ek ag n sz x i)else En
    |_,_=>En
   |_=>En
  |_,_=>En
 | .index t x i=>match qt x,qt i with
  |some x,I i=>match P.underlying t with
   |some .string=>I (.ej x i)
   |some (.array n e)=>match jp P e,yo P e with
    |some sz,I ag=>I (.index ag n sz x i)
    |_,_=>En
   |_=>En
  |_,_=>En
 | .lookup t m k ok=>match P.underlying t with
  |some (.map kt e)=>match kF P kt,Qy P e,qt m,qt k with
   |some kd,I z,I m,I k=>I (.lookup kd z ok m k)
   |_,_,_,_=>En
  |_=>En
 | .mapUpdate t m k v=>match P.underlying t with
  |some (.map kt _)=>match kF P kt,qt m,qt k,qt v with
   |some kd,I m,I k,I v=>I (.mapUpdate kd m k v)
   |_,_,_,_=>En
  |_=>En
 | .insert t m k v=>match P.underlying t with
  |some (.map kt _)=>match kF P kt,qt m,qt k,qt v with
   |some kd,I m,I k,I v=>I (.mapUpdate kd m k v)
   |_,_,_,_=>En
  |_=>En
 | .range t x=>match P.underlying t with
  |some .string=>(qt x).map (.dw r)
  |_=>En
 | .next it Ga=>(qt it).map .fB
 | .extract x i=>(qt x).map fun x=>.extract x i
 | .call c=>Ah P h md r dst c
 |_=>En
def cL.makes:cL→Bool
 | .alloc ..=>Ga
 | .box ..=>Ga
 | .fV ..=>Ga
 | .dN ..=>Ga
 | .cn (I _) ..=>Ga
 | .append (I _) ..=>Ga
 | .ia ..=>Ga
 | .iG ..=>Ga
 | .dw ..=>Ga
 | .call (.fI _) ..=>Ga
 |_=>E3
def cL.ib:cL→Option Nat
 | .dM _ s _=>I s
 |_=>En
def cL.xR (d:Option Nat):cL→Option Nat
 | .dM _ s _=>I s
 |_=>d
def Dv (ops:Array Oper):Option (Nat×Bool)→Option (Option (Nat×Bool))
 |none=>I En
 |some (j,b)=>match(ops[j]?).bind (·.dst)with
  |some d=>I (I (d,b))
  |none=>En
def jfj (h:qj)(id i:Nat):ei:=if h.shr.contains (id,i)then .shr else if h.fI.contains (id,i)then .fI 0 else if h.red.contains (id,i)then .red else .bV
def Fj (P:Program)(h:qj)(nt:Nat)(id:Nat)(ops:Array Oper)(iz:Array Nat)(draw:Bool):List Oper→Nat→List (Nat×Nat)→Option (List b4×List (Nat×Nat))
 | [],_,rs=>I ([],rs)
 |o::os,i,rs=>
  match(cM P h (jfj h id i) rs.length o.dst o.op).getD .bad,Dv ops o.guard with
  |a,I g=>
   if(o.dst.map (decide <| · < nt)).getD Ga&&(a.ib.map (decide <| · < nt)).getD Ga&&(a.ib.isNone||(o.dst.isNone&&o.guard.isNone))then
    let Dw:=if a.makes then(i,rs.length)::rs else rs
    let al:=if draw then(match h.ex.find? fun x=>x.1 == (id,i)with
     |some x=>I [x.2]
     |none=>I ((rs.filter fun x=>(iz.getD i 0).testBit x.1).map (·.2)))else En
    match Fj P h nt id ops iz draw os (i+1) Dw with
    |some (l,QA)=>I (⟨a.xR o.dst,a,g,al⟩::l,QA)
    |none=>En
   else En
  |_,_=>En
def ze:jt→List Nat
 | .tmp t=>[t]
 | .const _=>[]
def xS (l:List jt):List Nat:=l.flatMap ze
def Ai:Option jt→List Nat
 |some x=>ze x
 |none=>[]
def cL.reads:cL→List Nat
 | .move x=>ze x
 | .take s=>[s]
 | .pick c a b=>ze c++ze a++ze b
 | .alloc _ _=>[]
 | .box _ _ x=>ze x
 | .oH _ x=>ze x
 | .gB _=>[]
 | .dM _ s x=>s::ze x
 | .fV _ _ _=>[]
 | .build _ ps=>ps.flatMap fun p=>ze p.2.2
 | .buildSlice _ _ _ ps=>ps.flatMap fun p=>ze p.2
 | .load _ _ x=>ze x
 | .ft _ _ x=>ze x
 | .cy _ x=>ze x
 | .store _ a v=>ze a++ze v
 | .nilCheck x=>ze x
 | .bin _ x y=>ze x++ze y
 | .eqs _ _ x y=>ze x++ze y
 | .beq _ x y=>ze x++ze y
 | .fA _ _ x=>ze x
 | .un _ x=>ze x
 | .conv _ x=>ze x
 | .fe x=>ze x
 | .field _ _ _ x=>ze x
 | .index _ _ _ x i=>ze x++ze i
 | .ej x i=>ze x++ze i
 | .fieldAddr _ _ _ x=>ze x
 | .indexAddr _ x i=>ze x++ze i
 | .ek _ _ _ x i=>ze x++ze i
 | .slice _ x lo hi=>ze x++Ai lo++Ai hi
 | .eN x lo hi=>ze x++Ai lo++Ai hi
 | .fW _ _ x lo hi=>ze x++Ai lo++Ai hi
 | .gC _ a b=>xS a++xS b
 | .dN _=>[]
 | .lookup _ _ _ m k=>ze m++ze k
 | .mapUpdate _ m k v=>ze m++ze k++ze v
 | .delete _ m k=>ze m++ze k
 | .cn _ _ _ _ n c=>ze n++ze c
 | .len _ x=>ze x
 | .append _ _ _ x y=>ze x++ze y
 | .ia _ _ _ x y=>ze x++ze y
 | .iG _ _ _ _ ps=>ps.flatMap fun p=>ze p.2
 | .copy _ x y=>ze x++ze y
 | .mx l=>xS l
 | .mn l=>xS l
 | .extract x _=>ze x
 | .call _ f l=>ze f++xS l
 | .dw _ x=>ze x
 | .fB x=>ze x
 | .bad=>[]
def cL.fJ:cL→List Nat
 | .take s=>[s]
 | .append _ _ _ x _=>ze x
 | .store _ _ v=>ze v
 |_=>[]
def b4.reads (o:b4):List Nat:=o.op.reads++(match o.guard with|some g=>[g.1]|none=>[])
def b4.writes (o:b4):List Nat:=o.dst.toList++o.op.fJ
inductive Aj where
 |pure|read|write|alloc|take|fI|shr|n8
 deriving DecidableEq,Inhabited
def cL.cl:cL→Aj
 | .load ..=>.read
 | .lookup ..=>.read
 | .alloc ..=>.alloc
 | .box ..=>.alloc
 | .fV ..=>.alloc
 | .dN ..=>.alloc
 | .cn (I _) ..=>.alloc
 | .append (I _) ..=>.alloc
 | .dw ..=>.alloc
 | .cy En _=>.write
 | .cy (I _) _=>.take
 | .store ..=>.write
 | .mapUpdate ..=>.write
 | .delete ..=>.write
 | .copy ..=>.write
 | .fB ..=>.write
 | .call .bV ..=>.pure
 | .call (.fI _) ..=>.alloc
 | .call .shr ..=>.shr
 | .call .red ..=>.shr
 | .ia ..=>.n8
 | .iG ..=>.shr
 |_=>.pure
def cL.cP:cL→Nat
 | .alloc r _=>r
 | .box r _ _=>r
 | .fV r _ _=>r
 | .dN r=>r
 | .cn (I r) ..=>r
 | .append (I r) ..=>r
 | .dw r _=>r
 | .call (.fI r) ..=>r
 | .cy (I o) _=>o
 | .ia r sz ..=>r+1000*sz
 |_=>0
def nf (al:Option (List Nat))(r:Nat):Bool:=match al with
 |none=>Ga
 |some l=>bif oI l then Gd (l.headD 0) (2000+r)else l.contains r
def Dx (a b:Option (List Nat)):Bool:=match a,b with
 |some l,I m=>bif oI l then(bif oI m then !(Gd (l.headD 0) (m.headD 0))&&Gg (l.headD 0) 4000&&Gg (m.headD 0) 4000 else Gc 2000 (l.headD 0)&&Gg (l.headD 0) 4000&&!(m.contains (l.headD 0-2000)))else oI m&&Gc 2000 (m.headD 0)&&Gg (m.headD 0) 4000&&!(l.contains (m.headD 0-2000))
 |_,_=>E3
def Aj.box:Aj→Bool
 | .read=>Ga
 | .write=>Ga
 | .take=>Ga
 |_=>E3
def QB (a b:b4):Bool:=(a.op.cl.box&&b.op.cl.box&&Dx a.al b.al) ||
  (match a.op.cl,b.op.cl with
 | .pure,_=>Ga
 |_,.pure=>Ga
 | .read,.read=>Ga
 | .read,.fI=>Ga
 | .fI,.read=>Ga
 | .fI,.fI=>Ga
 | .alloc,.alloc=>a.op.cP != b.op.cP
 | .alloc,.read=>!nf b.al a.op.cP
 | .alloc,.write=>!nf b.al a.op.cP
 | .alloc,.take=>!nf b.al a.op.cP
 | .take,.alloc=>!nf a.al b.op.cP
 | .take,.take=>a.op.cP != b.op.cP
 | .read,.alloc=>!nf a.al b.op.cP
 | .write,.alloc=>!nf a.al b.op.cP
 | .n8,.n8=>a.op.cP % 1000 != b.op.cP % 1000&&a.op.cP / 1000 != b.op.cP / 1000
 | .n8,.read=>px b.al
 | .n8,.write=>px b.al
 | .n8,.take=>px b.al
 | .read,.n8=>px a.al
 | .write,.n8=>px a.al
 | .take,.n8=>px a.al
 |_,_=>E3)
def Fk (a b:List Nat):Bool:=a.all fun x=>!b.contains x
def Ak (a b:b4):Bool:=
 QB a b&&Fk a.writes b.reads&&Fk a.writes b.writes&&Fk b.writes a.reads
def QC (iz:Array Nat)(l:List b4):Bool:=
 (l.zipIdx).all fun(b,j)=>(l.zipIdx).all fun(a,i)=>!(decide (i<j))||(iz.getD j 0).testBit i||Ak a b
def QD (ops:Array Oper):Bool:=ops.toList.zipIdx.all fun(o,i)=>o.after.all fun e=>!Region.binds .any e||decide (e.on<i)
def QE (iz:Array Nat)(ops:Array Oper):Bool:=
 ops.toList.zipIdx.all fun(o,i)=>(List.range ops.size).all fun j=>!((iz.getD i 0).testBit j)||o.after.any fun e=>Region.binds .any e&&(e.on == j||(iz.getD e.on 0).testBit j)
def Fl (P:Program)(h:qj)(nt:Nat)(id:Nat)(ops:Array Oper)(draw:Bool):Option aw:=
 match Fj P h nt id ops (Region.before ops) draw ops.toList 0 []with
 |some (l,rs)=>
  if !draw||(QC (Region.before ops) l&&QD ops&&QE (Region.before ops) ops)then
   I (.region rs.length l ((h.keep.find? fun x=>x.1 == id).map (·.2)))
  else En
 |none=>En
def Dy (s d:Nat)(o:Oper):Bool:=match o.op,o.dst,o.guard with
 | .move (.tmp s'),I d',En=>s' == s&&d' == d
 |_,_,_=>E3
def QF (s d:Nat)(o:Oper):Bool:=match o.op,o.dst,o.guard with
 | .assign (.tmp s'),I d',En=>s' == s&&d' == d
 |_,_,_=>E3
def QG (x d:Nat)(o:Oper):Option TypeId:=match o.op,o.dst,o.guard with
 | .call c,I d',En=>match c.callee,c.args.toList,c.argTypes.toList with
  | .builtin .cap,[.tmp x'],[t]=>if x' == x&&d' == d then I t else En
  |_,_,_=>En
 |_,_,_=>En
def QH (x d:Nat)(o:Oper):Option TypeId:=match o.op,o.dst,o.guard with
 | .call c,I d',En=>match c.callee,c.args.toList,c.argTypes.toList with
  | .builtin .len,[.tmp x'],[t]=>if x' == x&&d' == d then I t else En
  |_,_,_=>En
 |_,_,_=>En
def KP (x h d:Nat)(o:Oper):Option TypeId:=match o.op,o.dst,o.guard with
 | .slice t (.tmp x') En (I (.tmp h')) En,I d',En=>if x' == x&&h' == h&&d' == d then I t else En
 |_,_,_=>En
def QI (x y d:Nat)(o:Oper):Option (TypeId×TypeId):=match o.op,o.dst,o.guard with
 | .call c,I d',En=>match c.callee,c.args.toList,c.argTypes.toList with
  | .builtin .append,[.tmp x',.tmp y'],[t,u]=>if x' == x&&y' == y&&d' == d then I (t,u)else En
  |_,_,_=>En
 |_,_,_=>En
def jm4 (ops:Array Oper):Option (TypeId×TypeId):=match ops.toList with
 | [o0,o1,o2,o3,o4,o5,o6,o7,o8,o9]=>match QG 18 19 o2,KP 17 19 20 o3,QI 20 21 22 o5,QH 23 24 o7,KP 22 24 25 o8 with
  |some t2,I t3,I (t,u),I t7,I t8=>if Dy 0 17 o0&&Dy 0 18 o1&&Dy 1 21 o4&&Dy 0 23 o6&&QF 25 0 o9&&t2 == t&&t3 == t&&t7 == t&&t8 == t then I (t,u)else En
  |_,_,_,_,_=>En
 |_=>En
def KQ (P:Program)(nt:Nat)(ops:Array Oper):Option Nat:=match jm4 ops with
 |some (t,u)=>match P.underlying t,P.underlying u with
  |some (.slice e),I (.int _)=>match P.info? e with
   |some i=>if i.zero.isSome&&0<i.size&&i.bytes≤4096&&26≤nt&&(yr P e).isSome&&(yr P e).map (·.length) == I i.size then I i.size else En
   |none=>En
  |_,_=>En
 |none=>En
def gT (P:Program)(h:qj)(nt:Nat):Code→Option aw
 | .skip=>I .skip
 | .label _=>I .skip
 | .region id ops draw=>match draw,KQ P nt ops with
  |false,I sz=>I (.grow sz)
  |_,_=>Fl P h nt id ops draw
 | .seq a b=>match gT P h nt a,gT P h nt b with
  |some x,I y=>I (.seq x y)
  |_,_=>En
 | .cond c a b=>match qt c,gT P h nt a,gT P h nt b with
  |some c,I x,I y=>I (.cond c x y)
  |_,_,_=>En
 | .block id b=>(gT P h nt b).map (.block id)
 | .loop b=>(gT P h nt b).map .loop
 | .scope b=>(gT P h nt b).map fun x=>.seq x .skip
 | .rangeFunc f ps a b=>match qt f,gT P h nt a,gT P h nt b with
  |some f,I x,I y=>if ps.all (decide <| · < nt)then I (.rangeFunc f ps.toList x y)else En
  |_,_,_=>En
 | .exit id=>I (.exit id)
 | .ret=>I .ret
 |_=>I .stuck
def KR (P:Program):ResultVar→Option mU
 | .tmp t=>I (.tmp t)
 | .cell t ty=>match yo P ty,jp P ty with
  |some Ga,I n=>I (.cell t Ga n)
  |some E3,I 1=>I (.cell t E3 1)
  |_,_=>En
def Al (P:Program):List ResultVar→Option (List mU)
 | []=>I []
 |r::rs=>match KR P r,Al P rs with
  |some x,I xs=>I (x::xs)
  |_,_=>En
def Fm (P:Program)(h:qj)(f:Func):Option av:=
 match f.body with
 |some c=>match gT P h f.ntmps c,Al P f.results.toList with
  | some b, I rs => if f.name == "runtime.NumGoroutine" then En else I ⟨f.ntmps, b, rs⟩
  |_,_=>En
 |none=>En
structure aI where
 K:Nat→Nat→Option Value
 β:Nat→Option Nat
 W:Nat→Prop
 D:Nat→Prop
 T:Nat×Nat×Nat×Nat→Prop
def aI.bV (K:Nat→Nat→Option Value):aI:=⟨K,fun _=>En,fun _=>False,fun _=>False,fun _=>False⟩
def fE (C:aI):Fn→Fn→Prop
 | .yield b,f=>∃r,C.β b=I r∧f=.yield r
 |f,f'=>f'=f
inductive ln where
 |val (x:AVal) (v:Value)
 |cells (r:Nat) (xs:List AVal) (o:Nat)
 |row (r sz:Nat) (xs:List AVal) (o:Nat)
 |fm (xs:List AVal) (vs:List Value)
inductive aB (C:aI):ln→Prop where
 |bool (b:Bool):aB C (.val (.bool b) (.bool b))
 |int (k:IntKind) (n:Int):aB C (.val (.int k n) (.int k n))
 |str (s:List UInt8):aB C (.val (.str s) (.string ⟨⟨s⟩⟩))
 |jF (sz:Nat):aB C (.val (.list Ga sz []) (.slice En 0 0))
 |list (sz:Nat) (xs:List AVal) (r o cap:Nat) (hl:xs.length≤cap) (hr:aB C (.row r sz xs o)):aB C (.val (.list E3 sz xs) (.slice (I ⟨r,o,En⟩) xs.length cap))
 |jG (sz:Nat) (a:Addr) (hs:a.spot≠En):aB C (.val (.list E3 sz []) (.slice (I a) 0 0))
 |ms (b o len r cap:Nat) (hb:C.β b=I r) (hl:len≤cap):aB C (.val (.ms b o len) (.slice (I ⟨r,o,En⟩) len cap))
 |ptr (b o r:Nat) (hb:C.β b=I r):aB C (.val (.ptr b o) (.pointer (I ⟨r,o,En⟩)))
 |ah (x:AVal) (r o:Nat) (h:aB C (.cells r x.flat o)):aB C (.val (.ah x) (.pointer (I ⟨r,o,En⟩)))
 |bZ:aB C (.val .bZ (.pointer En))
 |map (b r:Nat) (hb:C.β b=I r):aB C (.val (.map b) (.map (I r)))
 |bX:aB C (.val .bX (.map En))
 |fn (f f':Fn) (a b:List AVal) (as bs:List Value) (hf:fE C f f') (ha:aB C (.fm a as)) (hb:aB C (.fm b bs)):aB C (.val (.fn f a b) (.func f' ⟨as⟩ ⟨bs⟩))
 |cr:aB C (.val .cr .nilFunc)
 |agg (cs:List AVal) (vs:List Value) (h:aB C (.fm cs vs)):aB C (.val (.agg cs) (.agg ⟨vs⟩))
 |aC (cs:List AVal) (vs:List Value) (h:aB C (.fm cs vs)):aB C (.val (.aC cs) (.tuple ⟨vs⟩))
 |undef:aB C (.val .undef (.tuple #[]))
 |any (v:Value):aB C (.val .any v)
 |cT (n:Nat) (a:Addr):aB C (.val (.cT n) (.pointer (I a)))
 |ay (b bJ len r0 r cap:Nat) (hb:C.β b=I r0) (ht:C.T (r0,bJ,r,cap)) (hl:len≤cap):aB C (.val (.ay b bJ len) (.slice (I ⟨r,0,En⟩) len cap))
 |dH (b bJ off r0 r cap:Nat) (hb:C.β b=I r0) (ht:C.T (r0,bJ,r,cap)):aB C (.val (.dH b bJ off) (.pointer (I ⟨r,off,En⟩)))
 |ic (r o:Nat):aB C (.cells r [] o)
 |dB (r o:Nat) (x:AVal) (xs:List AVal) (v:Value) (hv:C.K r o=I v) (hx:aB C (.val x v)) (h:aB C (.cells r xs (o+1))):aB C (.cells r (x::xs) o)
 |fK (r sz o:Nat):aB C (.row r sz [] o)
 |dr (r sz o:Nat) (x:AVal) (xs:List AVal) (hs:x.flat.length=sz) (hx:aB C (.cells r x.flat o)) (h:aB C (.row r sz xs (o+sz))):aB C (.row r sz (x::xs) o)
 |nil:aB C (.fm [] [])
 |cons (x:AVal) (xs:List AVal) (v:Value) (vs:List Value) (hx:aB C (.val x v)) (h:aB C (.fm xs vs)):aB C (.fm (x::xs) (v::vs))
abbrev bP (C:aI)(x:AVal)(v:Value):Prop:=aB C (.val x v)
abbrev aS (C:aI)(xs:List AVal)(vs:List Value):Prop:=aB C (.fm xs vs)
abbrev cu (C:aI)(r:Nat)(xs:List AVal)(o:Nat):Prop:=aB C (.cells r xs o)
abbrev bu (C:aI)(r sz:Nat)(xs:List AVal)(o:Nat):Prop:=aB C (.row r sz xs o)
structure aI.le (C C':aI):Prop where
 k:∀r o v,C.K r o=I v→C'.K r o=I v
 b:∀b r,C.β b=I r→C'.β b=I r
 w:C'.W=C.W
 d:∀r,C.D r→C'.D r
 t:∀q,C.T q→C'.T q:=by exact fun _ h=>h
theorem aI.le_refl (C:aI):C.le C:=⟨fun _ _ _ h=>h,fun _ _ h=>h,rfl,fun _ h=>h,fun _ h=>h⟩
theorem aI.le_trans {A B C:aI}(h:A.le B)(k:B.le C):A.le C:=⟨fun r o v x=>k.1 r o v (h.1 r o v x),fun b r x=>k.2 b r (h.2 b r x),k.w.trans h.w,fun r x=>k.d r (h.d r x),fun r x=>k.t r (h.t r x)⟩
theorem fE.imp {C C'}(h:(∀r o v,C.K r o=I v→C'.K r o=I v)∧(∀b r,C.β b=I r→C'.β b=I r)){f f'}(hf:fE C f f'):fE C' f f':=by
 cases f<;>simp only[fE]at *<;>first|exact hf|exact⟨hf.choose,h.2 _ _ hf.choose_spec.1,hf.choose_spec.2⟩
theorem aB.imp {C C'}(h:(∀r o v,C.K r o=some v→C'.K r o=some v)∧(∀b r,C.β b=some r→C'.β b=some r)){i}(hr:aB C i)(hT:∀q,C.T q→C'.T q:=by first|exact fun _ h=>h|exact fun _ h=>False.elim h):aB C' i:=by
 induction hr with
 |bool b=>exact .bool b
 |int k n=>exact .int k n
 |str s=>exact .str s
 |jF sz=>exact .jF sz
 |list sz xs r o cap hl _ ih=>exact .list sz xs r o cap hl ih
 |jG sz a hs=>exact .jG sz a hs
 |ms b o len r cap hb hl=>exact .ms b o len r cap (h.2 _ _ hb) hl
 |ptr b o r hb=>exact .ptr b o r (h.2 _ _ hb)
 |ah x r o _ ih=>exact .ah x r o ih
 |bZ=>exact .bZ
 |map b r hb=>exact .map b r (h.2 _ _ hb)
 |bX=>exact .bX
 |fn f f' a b as bs hf _ _ ha hb=>exact .fn f f' a b as bs (hf.imp h) ha hb
 |cr=>exact .cr
 |agg cs vs _ ih=>exact .agg cs vs ih
 |aC cs vs _ ih=>exact .aC cs vs ih
 |undef=>exact .undef
 |any v=>exact .any v
 |cT n a=>exact .cT n a
 |ay b bJ len r0 r cap hb ht hl=>exact .ay b bJ len r0 r cap (h.2 _ _ hb) (hT _ ht) hl
 |dH b bJ off r0 r cap hb ht=>exact .dH b bJ off r0 r cap (h.2 _ _ hb) (hT _ ht)
 |ic r o=>exact .ic r o
 |dB r o x xs v hv _ _ n9 ih=>exact .dB r o x xs v (h.1 _ _ _ hv) n9 ih
 |fK r sz o=>exact .fK r sz o
 |dr r sz o x xs hs _ _ n9 ih=>exact .dr r sz o x xs hs n9 ih
 |nil=>exact .nil
 |cons x xs v vs _ _ n9 ih=>exact .cons x xs v vs n9 ih
theorem aB.mono {C C'}(h:C.le C'){i}(hr:aB C i):aB C' i:=hr.imp ⟨h.k,h.b⟩ h.t
def ln.below (n:Nat):ln→Bool
 | .val x _=>Abs.below n x
 | .cells _ xs _=>qw n xs
 | .row _ _ xs _=>qw n xs
 | .fm xs _=>qw n xs
theorem KS (n:Nat)(x:AVal):qw n x.flat=Abs.below n x:=by
 cases x<;>simp[AVal.flat,qw,Abs.below]
theorem aB.shift {C C'}(n:Nat)(hK:∀r o v,C.K r o=some v→C'.K r o=some v)(hβ:∀b r,b<n→C.β b=some r→C'.β b=some r){i}(hr:aB C i)(hb:i.below n=true)(hT:∀q,0<n→C.T q→C'.T q:=by first|exact fun _ _ h=>h|exact fun _ h=>absurd h (Nat.lt_irrefl 0)|exact fun _ _ h=>False.elim h):aB C' i:=by
 induction hr with
 |bool b=>exact .bool b
 |int k n=>exact .int k n
 |str s=>exact .str s
 |jF sz=>exact .jF sz
 |list sz xs r o cap hl _ ih=>exact .list sz xs r o cap hl (ih (by simpa[ln.below,Abs.below]using hb))
 |jG sz a hs=>exact .jG sz a hs
 |ms b o len r cap h1 hl=>exact .ms b o len r cap (hβ _ _ (by simpa[ln.below,Abs.below]using hb) h1) hl
 |ptr b o r h1=>exact .ptr b o r (hβ _ _ (by simpa[ln.below,Abs.below]using hb) h1)
 |ah x r o _ ih=>exact .ah x r o (ih (by simpa[ln.below,Abs.below,KS]using hb))
 |bZ=>exact .bZ
 |map b r h1=>exact .map b r (hβ _ _ (by simpa[ln.below,Abs.below]using hb) h1)
 |bX=>exact .bX
 |fn f f' a b as bs hf _ _ iha ihb=>
  have QJ:fE C' f f':=by
   cases f<;>simp only[fE]at *<;>first|exact hf|skip
   obtain⟨r,h1,rfl⟩:=hf
   simp[ln.below,Abs.below]at hb
   exact⟨r,hβ _ _ hb.1.1 h1,rfl⟩
  have qL:qw n a=Ga∧qw n b=Ga:=by
   cases f<;>simp[ln.below,Abs.below]at hb<;>first|exact hb|exact⟨hb.1.2,hb.2⟩
  exact .fn f f' a b as bs QJ (iha qL.1) (ihb qL.2)
 |cr=>exact .cr
 |agg cs vs _ ih=>exact .agg cs vs (ih (by simpa[ln.below,Abs.below]using hb))
 |aC cs vs _ ih=>exact .aC cs vs (ih (by simpa[ln.below,Abs.below]using hb))
 |undef=>exact .undef
 |any v=>exact .any v
 |cT n a=>exact .cT n a
 |ay b bJ len r0 r cap h1 ht hl=>
  have Am:b<n:=by simpa[ln.below,Abs.below]using hb
  exact .ay b bJ len r0 r cap (hβ _ _ Am h1) (hT _ (by omega) ht) hl
 |dH b bJ off r0 r cap h1 ht=>
  have Am:b<n:=by simpa[ln.below,Abs.below]using hb
  exact .dH b bJ off r0 r cap (hβ _ _ Am h1) (hT _ (by omega) ht)
 |ic r o=>exact .ic r o
 |dB r o x xs v hv _ _ n9 ih=>
  simp[ln.below,qw]at hb n9 ih
  exact .dB r o x xs v (hK _ _ _ hv) (n9 hb.1) (ih hb.2)
 |fK r sz o=>exact .fK r sz o
 |dr r sz o x xs hs _ _ n9 ih=>
  simp[ln.below,qw,KS]at hb n9 ih
  exact .dr r sz o x xs hs (n9 hb.1) (ih hb.2)
 |nil=>exact .nil
 |cons x xs v vs _ _ n9 ih=>
  simp[ln.below,qw]at hb n9 ih
  exact .cons x xs v vs (n9 hb.1) (ih hb.2)
theorem aS.length {C xs}:∀ {vs:List Value},aS C xs vs→vs.length=xs.length:=by
 induction xs with
 |nil=>intro vs h;cases h;rfl
 |cons x xs ih=>intro vs h;cases h with|cons _ _ v vs hx h=>simp[ih h]
theorem aS.get {C xs}:∀ {vs:List Value},aS C xs vs→∀ {i:Nat} {x:AVal},xs[i]?=I x→∃v,vs[i]?=I v∧bP C x v:=by
 induction xs with
 |nil=>intro vs _ i x h;simp at h
 |cons y ys ih=>
  intro vs h i x hi
  cases h with
  |cons _ _ v vs hx h=>
   cases i with
   |zero=>simp at hi;subst hi;exact⟨v,rfl,hx⟩
   |succ i=>simp at hi;obtain⟨w,h1,h2⟩:=ih h hi;exact⟨w,by simpa using h1,h2⟩
theorem aS.append {C xs ys}:∀ {vs ws:List Value},aS C xs vs→aS C ys ws→aS C (xs++ys) (vs++ws):=by
 induction xs with
 |nil=>intro vs ws h k;cases h;exact k
 |cons x xs ih=>intro vs ws h k;cases h with|cons _ _ v vs hx h=>exact .cons _ _ _ _ hx (ih h k)
theorem aS.take {C xs}:∀ {vs:List Value} (n:Nat),aS C xs vs→aS C (xs.take n) (vs.take n):=by
 induction xs with
 |nil=>intro vs n h;cases h;simpa using aB.nil
 |cons x xs ih=>intro vs n h;cases h with|cons _ _ v vs hx h=>cases n with
  |zero=>simpa using aB.nil
  |succ n=>exact .cons _ _ _ _ hx (ih n h)
theorem aS.drop {C xs}:∀ {vs:List Value} (n:Nat),aS C xs vs→aS C (xs.drop n) (vs.drop n):=by
 induction xs with
 |nil=>intro vs n h;cases h;simpa using aB.nil
 |cons x xs ih=>intro vs n h;cases h with|cons _ _ v vs hx h=>cases n with
  |zero=>exact .cons _ _ _ _ hx h
  |succ n=>simpa using ih n h
theorem cu.get {C r xs}:∀ {o:Nat},cu C r xs o→∀ {i:Nat} {x:AVal},xs[i]?=I x→∃v,C.K r (o+i)=I v∧bP C x v:=by
 induction xs with
 |nil=>intro o _ i x h;simp at h
 |cons y ys ih=>
  intro o h i x hi
  cases h with
  |dB _ _ _ _ v hv hx h=>
   cases i with
   |zero=>simp at hi;subst hi;exact⟨v,hv,hx⟩
   |succ i=>simp at hi;obtain⟨w,h1,h2⟩:=ih h hi;exact⟨w,by rw[show o+(i+1)=o+1+i from by omega];exact h1,h2⟩
theorem cu.drop {C r xs}:∀ {o:Nat} (n:Nat),cu C r xs o→cu C r (xs.drop n) (o+n):=by
 induction xs with
 |nil=>intro o n h;simpa using aB.ic r (o+n)
 |cons x xs ih=>intro o n h;cases h with|dB _ _ _ _ v hv hx h=>cases n with
  |zero=>exact .dB _ _ _ _ _ hv hx h
  |succ n=>have:=ih n h;rw[show o+(n+1)=o+1+n from by omega];simpa using this
theorem cu.take {C r xs}:∀ {o:Nat} (n:Nat),cu C r xs o→cu C r (xs.take n) o:=by
 induction xs with
 |nil=>intro o n h;simpa using aB.ic r o
 |cons x xs ih=>intro o n h;cases h with|dB _ _ _ _ v hv hx h=>cases n with
  |zero=>simpa using aB.ic r o
  |succ n=>exact .dB _ _ _ _ _ hv hx (ih n h)
theorem cu.append {C r xs ys}:∀ {o:Nat},cu C r xs o→cu C r ys (o+xs.length)→cu C r (xs++ys) o:=by
 induction xs with
 |nil=>intro o _ k;simpa using k
 |cons x xs ih=>intro o h k;cases h with|dB _ _ _ _ v hv hx h=>exact .dB _ _ _ _ _ hv hx (ih h (by simpa[G9,Nat.add_comm 1]using k))
theorem bu.get {C r sz xs}:∀ {o:Nat},bu C r sz xs o→∀ {i:Nat} {x:AVal},xs[i]?=I x→cu C r x.flat (o+i*sz):=by
 induction xs with
 |nil=>intro o _ i x h;simp at h
 |cons y ys ih=>
  intro o h i x hi
  cases h with
  |dr _ _ _ _ _ hs hx h=>
   cases i with
   |zero=>simp at hi;subst hi;simpa using hx
   |succ i=>simp at hi;have:=ih h hi;rw[show o+(i+1)*sz=o+sz+i*sz from by rw[Gl];omega];exact this
theorem bu.drop {C r sz xs}:∀ {o:Nat} (n:Nat),bu C r sz xs o→bu C r sz (xs.drop n) (o+n*sz):=by
 induction xs with
 |nil=>intro o n h;simpa using aB.fK r sz (o+n*sz)
 |cons x xs ih=>intro o n h;cases h with|dr _ _ _ _ _ hs hx h=>cases n with
  |zero=>simpa using aB.dr _ _ _ _ _ hs hx h
  |succ n=>have:=ih n h;rw[show o+(n+1)*sz=o+sz+n*sz from by rw[Gl];omega];simpa using this
theorem bu.take {C r sz xs}:∀ {o:Nat} (n:Nat),bu C r sz xs o→bu C r sz (xs.take n) o:=by
 induction xs with
 |nil=>intro o n h;simpa using aB.fK r sz o
 |cons x xs ih=>intro o n h;cases h with|dr _ _ _ _ _ hs hx h=>cases n with
  |zero=>simpa using aB.fK r sz o
  |succ n=>exact .dr _ _ _ _ _ hs hx (ih n h)
theorem bu.append {C r sz xs ys}:∀ {o:Nat},bu C r sz xs o→bu C r sz ys (o+xs.length*sz)→bu C r sz (xs++ys) o:=by
 induction xs with
 |nil=>intro o _ k;simpa using k
 |cons x xs ih=>
  intro o h k
  cases h with
  |dr _ _ _ _ _ hs hx h=>
   refine .dr _ _ _ _ _ hs hx (ih h ?_)
   have e:o+sz+xs.length*sz=o+(x::xs).length*sz:=by simp[Gl];omega
   rw[e];exact k
theorem bu.sized {C r sz xs}:∀ {o:Nat},bu C r sz xs o→∀x∈xs,x.flat.length=sz:=by
 induction xs with
 |nil=>intro o _ x hx;cases hx
 |cons y ys ih=>
  intro o h x hx
  cases h with
  |dr _ _ _ _ _ hs _ h=>
   rcases Hc.1 hx with rfl|hx
   ·exact hs
   ·exact ih h x hx
theorem bu.cells {C r sz xs}:∀ {o:Nat},bu C r sz xs o→cu C r (xs.flatMap AVal.flat) o:=by
 induction xs with
 |nil=>intro o _;exact .ic _ _
 |cons x xs ih=>
  intro o h
  cases h with
  |dr _ _ _ _ _ hs hx h=>
   simp only[Gs]
   refine cu.append hx ?_
   rw[hs]
   exact ih h
theorem bu.eO {C r sz xs}:∀ {o:Nat},cu C r (xs.flatMap AVal.flat) o→(∀x∈xs,x.flat.length=sz)→bu C r sz xs o:=by
 induction xs with
 |nil=>intro o _ _;exact .fK _ _ _
 |cons x xs ih=>
  intro o h hl
  simp only[Gs]at h
  have h1:=cu.take (x.flat.length) h
  have h2:=cu.drop (x.flat.length) h
  rw[List.take_left' rfl]at h1
  rw[List.drop_left' rfl,hl x (by simp)]at h2
  exact .dr _ _ _ _ _ (hl x (by simp)) h1 (ih h2 fun y hy=>hl y (by simp[hy]))
theorem cu.vals {C r xs}:∀ {o:Nat},cu C r xs o→∃vs,aS C xs vs∧∀j v,vs[j]?=I v→C.K r (o+j)=I v:=by
 induction xs with
 |nil=>intro o _;exact⟨[],.nil,by simp⟩
 |cons x xs ih=>
  intro o h
  cases h with
  |dB _ _ _ _ v hv hx h=>
   obtain⟨vs,h1,h2⟩:=ih h
   refine⟨v::vs,.cons _ _ _ _ hx h1,?_⟩
   intro j u hj
   cases j with
   |zero=>simp at hj;subst hj;exact hv
   |succ j=>simp at hj;rw[show o+(j+1)=o+1+j from by omega];exact h2 j u hj
inductive Loc where
 |slot (s:Nat)
 |cell (b j:Nat)
 deriving DecidableEq
def eP (sz:Nat)(xs:List AVal)(cells:Array Value)(elem:TypeId)(len cap:Nat):Prop:=
 ∀(e:Nat) (l:List UInt8),sz=0→xs=[.int .u64 (e:Int),.str l]→elem=e∧len=l.length∧len≤cap∧cap≤maxLen∧cells.size=cap∧cells.toList.take len=l.map fun b=>Value.int .u8 b.toNat
theorem eP.pos {sz xs cells}{elem:TypeId}{len cap}(h:0<sz):eP sz xs cells elem len cap:=fun _ _ h0=>by omega
theorem eP.sized {sz xs cells}{elem:TypeId}{len cap}(h:∀x∈xs,x.flat.length=sz):eP sz xs cells elem len cap:=fun e l h0 hx=>by
 have:=h (.str l) (by rw[hx];simp)
 simp[AVal.flat,h0]at this
def aJ (C:aI)(ω:Nat→Option Loc)(w:World)(B:Nat)(ℓ:Loc):AVal→Value→Prop
 | .list _ sz xs,.slice (I a) len cap=>ω a.block=I ℓ∧(B≤a.block∨C.W a.block)∧(∀b,C.β b≠I a.block)∧a.spot=En∧a.off=0 ∧
   (∃cells elem,w.heap[a.block]?=I (.cells cells elem (0,0))∧a.off+cap*sz≤cells.size∧eP sz xs cells elem len cap)∧∀o,a.off+len*sz≤o→C.K a.block o=En
 | .cT n,.pointer (I a)=>ω a.block=I ℓ∧(B≤a.block∨C.W a.block)∧(∀b,C.β b≠I a.block)∧a.spot=En∧a.off=0 ∧
   (∃cells elem,w.heap[a.block]?=I (.cells cells elem (0,0))∧a.off+n*1≤cells.size∧eP 0 [] cells elem 0 0)∧∀o,a.off+0*0≤o→C.K a.block o=En
 |_,_=>True
structure Ext (w w':World):Prop where
 size:w.heap.size≤w'.heap.size
 same:∀r,r<w.heap.size→w'.heap[r]?=w.heap[r]?
 os:w'.os=w.os
 output:w'.output=w.output
theorem Ext.refl (w:World):Ext w w:=⟨Gm _,fun _ _=>rfl,rfl,rfl⟩
theorem Ext.get {w w':World}(h:Ext w w'){r:Nat}{o}(hr:w.heap[r]?=I o):w'.heap[r]?=I o:=by
 rw[h.same r (Gi.1 hr).1];exact hr
theorem Ext.trans {a b c}(h:Ext a b)(k:Ext b c):Ext a c where
 size:=Nat.le_trans h.size k.size
 same r hr:=by rw[k.same r (Gr hr h.size),h.same r hr]
 os:=k.os.trans h.os
 output:=k.output.trans h.output
theorem wx (w:World)(o:Obj)(r:Nat):(w.alloc o).heap[r]?=if r=w.heap.size then I o else w.heap[r]?:=by
 show(w.heap.push o)[r]?=_
 rw[Array.getElem?_push]
theorem Ext.alloc (w:World)(o:Obj)(ho:∀c t fr,o=.cells c t fr→fr=(0,0)):Ext w (w.alloc o) where
 size:=by rw[World.size_alloc];omega
 same r hr:=by rw[wx,if_neg (by omega)]
 os:=rfl
 output:=rfl
theorem Ext.drew (w:World):Ext w w.drew:=⟨Gm _,fun _ _=>rfl,rfl,rfl⟩
theorem Ext.cell {w w':World}(h:Ext w w'){a:Addr}{v}(hc:w.cell? a=I v):w'.cell? a=I v:=by
 unfold World.cell? at *
 cases hr:w.heap[a.block]? with
 |none=>rw[hr]at hc;cases hc
 |some o=>rw[h.get hr];rw[hr]at hc;exact hc
theorem aJ.ext {C:aI}{ω:Nat→Option Loc}{w w' B ℓ x v}(h:Ext w w')(ho:aJ C ω w B ℓ x v):aJ C ω w' B ℓ x v:=by
 unfold aJ at *
 split at ho
 ·obtain⟨h1,h2,h3,h4,h8,⟨cells,elem,h5,h6⟩,h7⟩:=ho
  exact⟨h1,h2,h3,h4,h8,⟨cells,elem,h.get h5,h6⟩,h7⟩
 ·obtain⟨h1,h2,h3,h4,h8,⟨cells,elem,h5,h6⟩,h7⟩:=ho
  exact⟨h1,h2,h3,h4,h8,⟨cells,elem,h.get h5,h6⟩,h7⟩
 ·trivial
inductive cB (C:aI):List (AVal×AVal)→List MapEntry→Prop where
 |nil:cB C [] []
 |cons (k v:AVal) (es:List (AVal×AVal)) (m:MapEntry) (ms:List MapEntry) (hk:bP C k m.key) (hv:bP C v m.val) (h:cB C es ms):cB C ((k,v)::es) (m::ms)
theorem cB.imp {C C'}(h:(∀r o v,C.K r o=some v→C'.K r o=some v)∧(∀b r,C.β b=some r→C'.β b=some r)){es ms}(hr:cB C es ms)(hT:∀q,C.T q→C'.T q:=by first|exact fun _ h=>h|exact fun _ h=>False.elim h):cB C' es ms:=by
 induction hr with
 |nil=>exact .nil
 |cons k v es m ms hk hv _ ih=>exact .cons k v es m ms (aB.imp h hk hT) (aB.imp h hv hT) ih
theorem cB.mono {C C'}(h:C.le C'){es ms}(hr:cB C es ms):cB C' es ms:=hr.imp ⟨h.k,h.b⟩ h.t
def bn (C:aI)(e:Env)(tmps:Array Value):Prop:=∀s x,jj s e=I x→∃v,tmps[s]?=I v∧bP C x.1 v
def Fo (P:Program)(nt:Nat)(c:Code)(a:aw):Prop:=∃h,gT P h nt c=I a
structure cx (P:Program)(C:aI)(l:jmy)(lp:Loop):Prop where
 assign:Fo P lp.tmps.size lp.assign l.assign
 body:Fo P lp.tmps.size lp.body l.body
 params:lp.params.toList=l.params
 fits:∀t∈l.params,t<lp.tmps.size
 nr:z6 l.assign=Ga∧z6 l.body=Ga
 env:bn C l.env lp.tmps
 state:lp.state=match l.pending with
  |none=>.ready
  |some .normal=>.busy
  |some _=>.done
 pending:lp.pending=match l.pending with
  |none=>En
  |some .normal=>En
  |some (.exit id)=>I (.exit id)
  |some .ret=>I .ret
def en (K:Nat→Nat→Option Value)(w:World)(q sz:Nat)(xs:List AVal)(cap:Nat):Prop:=
 ∃cells t vs,w.heap[q]?=I (.cells cells t (0,0))∧xs.length≤cap∧cap*sz≤cells.size∧(∀x∈xs,x.flat.length=sz)∧aS (.bV K) (xs.flatMap AVal.flat) vs ∧
  (∀(j:Nat) v,vs[j]?=I v→cells[j]?=I v)∧∀v∈vs,v.oneCell'=Ga
theorem en.imp {K K' w w' q sz cap xs}(hK:∀r o v,K r o=I v→K' r o=I v)(hw:w'.heap[q]?=w.heap[q]?)(h:en K w q sz xs cap):en K' w' q sz xs cap:=by
 obtain⟨cells,t,vs,h1,h2,h3,h4,h5,h6⟩:=h
 exact⟨cells,t,vs,hw.trans h1,h2,h3,h4,aB.imp (C:=.bV K) (C':=.bV K') ⟨hK,fun _ _ h=>h⟩ h5,h6⟩
abbrev xT (C:aI)(ω:Nat→Option Loc)(w:World)(B b q n cap:Nat):Prop:=aJ C ω w B (.cell b 0) (.list E3 0 []) (.slice (I ⟨q,0,En⟩) n cap)
def ea (C:aI)(ω:Nat→Option Loc)(w:World)(B b r sz bJ:Nat)(xs:List AVal):Prop:=
 ∃q cap,C.T (r,bJ,q,cap)∧(∀x,C.T x→x.1=r→x.2.1≤bJ∧(x.2.1=bJ→x.2.2=(q,cap)))∧en C.K w q sz xs cap∧(q=r∨xT C ω w B b q xs.length cap)∧∃cs t,w.heap[r]?=I (.cells cs t (0,0))
theorem ea.imp {C C' ω ω' w w' B B' b r sz bJ xs}(hK:∀r o v,C.K r o=I v→C'.K r o=I v)(hT:∀q,C.T q→C'.T q)(Fp:∀x,C'.T x→x.1=r→C.T x)(hw:w'.heap[r]?=w.heap[r]?)
  (hq:∀q n cap,xT C ω w B b q n cap→w'.heap[q]?=w.heap[q]?∧xT C' ω' w' B' b q n cap) (h:ea C ω w B b r sz bJ xs):ea C' ω' w' B' b r sz bJ xs:=by
 obtain⟨q,cap,h1,h2,h3,h4,cs,t,h5⟩:=h
 refine⟨q,cap,hT _ h1,fun x hx hr=>h2 x (Fp x hx hr) hr,?_,?_,cs,t,hw.trans h5⟩
 ·rcases h4 with rfl|h4
  ·exact h3.imp hK hw
  ·exact h3.imp hK (hq _ _ _ h4).1
 ·exact h4.imp id fun h=>(hq _ _ _ h).2
def bE (P:Program)(C:aI)(ω:Nat→Option Loc)(w:World)(B b r:Nat):bg→Prop
 | .hole=>False
 | .cells cs=>∃vs elem,w.heap[r]?=I (.cells vs elem (0,0))∧cs.length≤vs.size ∧
   ∀j c,cs[j]?=I c→∃v,vs[j]?=I v∧v.oneCell'=Ga∧bP C c.1 v∧(c.2=Ga→aJ C ω w B (.cell b j) c.1 v)
 | .map es=>∃b9 clock,w.heap[r]?=I (.map b9 clock)∧cB C es b9.toList
 | .iter s pos=>w.heap[r]?=I (.stringIter ⟨⟨s⟩⟩ pos)
 | .loop l=>∃lp,w.heap[r]?=I (.loop lp)∧cx P C l lp
 | .fV t e l=>∃p v,w.heap[r]?=I (.cells #[p,v] t (0,0))∧(p=.pointer En∨p=.pointer (I ⟨r,0,En⟩))∧((v=.slice En 0 0∧l=[])∨∃a len cap,v=.slice (I a) len cap)∧aJ C ω w B (.cell b 1) (.list E3 0 [.int .u64 (e:Int),.str l]) v
 | .dead=>∃cs t,w.heap[r]?=I (.cells cs t (0,0))
 | .vec sz bJ xs=>ea C ω w B b r sz bJ xs
def oc : String := "internal/strconv.uint64pow10"
def xU : String := "internal/bytealg.MaxLen"
def j7r (P:Program)(w:World)(g:Nat):Prop:=
 (P.globalNamed oc=I g→Lib.TabIs P w oc .u64 Lib.pow10Tab)∧(P.globalNamed xU=I g→∃m,w.cell? ⟨g,0,En⟩=I (.int .i64 m)) ∧
 (∀x∈Du,P.globalNamed x.1=I g→∀j n,x.2[j]?=I n→w.cell? ⟨g,j,En⟩=I (.int .i64 n))
def QK (P:Program)(g:Nat):Prop:=P.globalNamed oc=I g∨P.globalNamed xU=I g∨∃x∈Du,P.globalNamed x.1=I g
def Tabs (P:Program)(w:World):Prop:=∀g,QK P g→g<w.heap.size∧j7r P w g
theorem Tabs.same {P w w'}(h:Tabs P w)(hs:w.heap.size≤w'.heap.size)(hg:∀g,QK P g→w'.heap[g]?=w.heap[g]?):Tabs P w':=by
 intro g hn
 obtain⟨h1,h2,h3,h5⟩:=h g hn
 refine⟨Gr h1 hs,fun Dz=>?_,fun Dz=>?_,fun x hx Dz j n hj=>?_⟩
 ·have h2:=h2 Dz
  unfold Lib.TabIs World.var? at *
  rw[Dz]at h2 ⊢
  simp only[Option.bind_some]at h2 ⊢
  rw[hg g hn]
  exact h2
 ·obtain⟨m,h4⟩:=h3 Dz
  refine⟨m,?_⟩
  unfold World.cell? at *
  simp only[]at h4 ⊢
  rw[hg g hn]
  exact h4
 ·have h4:=h5 x hx Dz j n hj
  unfold World.cell? at *
  simp only[]at h4 ⊢
  rw[hg g hn]
  exact h4
theorem Tabs.none {P w}(h:P.globalNamed oc=En∧P.globalNamed xU=En∧∀x∈Du,P.globalNamed x.1=En):Tabs P w:=fun g hn=>by
 rcases hn with hn|hn|⟨x,hx,hn⟩
 ·rw[h.1]at hn;cases hn
 ·rw[h.2.1]at hn;cases hn
 ·rw[h.2.2 x hx]at hn;cases hn
def zkk (P:Program)(w0:World)(C0:aI):Prop:=Tabs P w0∧∀g,QK P g→(∀b,C0.β b≠I g)∧¬C0.W g
structure az (P:Program)(C:aI)(ω:Nat→Option Loc)(w0:World)(C0:aI)(h:qh)(w:World):Prop where
 base:zkk P w0 C0
 know:∀r o v,C.K r o=I v→w.cell? ⟨r,o,En⟩=I v
 de:∀r o v,C.K r o=I v→v.oneCell'=Ga
 apart:∀b r o,C.β b=I r→C.K r o=En
 inj:∀b b' r,C.β b=I r→C.β b'=I r→b=b'
 lt:∀b r,C.β b=I r→r<w.heap.size∧b<h.length
 size:w0.heap.size≤w.heap.size
 frame:∀r,r<w0.heap.size→(∀b,C0.β b≠I r)→¬C0.W r→w.heap[r]?=w0.heap[r]?
 fo:∀r,C.D r→w.heap[r]?=I (.deferred (I []))
 os:w.os=w0.os
 output:w.output=w0.output
 fresh:∀b r,C.β b=I r→C0.β b=I r∨w0.heap.size≤r∨C0.W r
 grown:C0.le C
 old:∀r o,r<w0.heap.size→¬C0.W r→C.K r o=C0.K r o
 box:∀b x r,h[b]?=I x→C.β b=I r→bE P C ω w w0.heap.size b r x
 iA:∀q,C.T q→q.1<w.heap.size
def aq (C:aI)(ω:Nat→Option Loc)(w:World)(B:Nat)(e:Env)(tmps:Array Value):Prop:=
 ∀s x,jj s e=I x→∃v,tmps[s]?=I v∧bP C x.1 v∧(x.2=Ga→aJ C ω w B (.slot s) x.1 v)
theorem aq.cm {C ω w B e tmps}(h:aq C ω w B e tmps):bn C e tmps:=
 fun s x hx=>let ⟨v,h1,h2,_⟩:=h s x hx; ⟨v,h1,h2⟩
theorem bE.ext {P:Program}{C:aI}{ω w w' B b r x}(h:Ext w w')(hb:bE P C ω w B b r x):bE P C ω w' B b r x:=by
 cases x with
 |hole=>exact hb
 |cells cs=>
  obtain⟨vs,elem,h1,h2,h3⟩:=hb
  exact⟨vs,elem,h.get h1,h2,fun j c hc=>let ⟨v,a,q,b,d⟩:=h3 j c hc; ⟨v,a,q,b,fun e=>(d e).ext h⟩⟩
 |map es=>obtain⟨b9,clock,h1,h2⟩:=hb;exact⟨b9,clock,h.get h1,h2⟩
 |iter s pos=>exact h.get hb
 |loop l=>obtain⟨lp,h1,h2⟩:=hb;exact⟨lp,h.get h1,h2⟩
 |fV t e l=>obtain⟨p,v,h1,h2,h3,h4⟩:=hb;exact⟨p,v,h.get h1,h2,h3,h4.ext h⟩
 |dead=>obtain⟨cs,t,h1⟩:=hb;exact⟨cs,t,h.get h1⟩
 |vec sz bJ xs=>
  obtain⟨q,cap,h1,h2,h3,h4,cs,t,h5⟩:=hb
  have hex:∀ {k:Nat} {o:Obj},w.heap[k]?=I o→w'.heap[k]?=w.heap[k]?:=fun hk=>by rw[h.get hk,hk]
  refine⟨q,cap,h1,h2,h3.imp (fun _ _ _ h=>h) ?_,h4.imp id fun h4=>h4.ext h,cs,t,h.get h5⟩
  obtain⟨cells,t',_,g1,_⟩:=h3
  exact hex g1
theorem az.tabs {P C ω w0 w C0 hp}(m:az P C ω w0 C0 hp w):Tabs P w:=
 m.base.1.same m.size fun g hg=>m.frame g (m.base.1 g hg).1 (m.base.2 g hg).1 (m.base.2 g hg).2
theorem az.ext {P:Program}{C:aI}{ω w0 w w' C0 hp}(h:Ext w w')(m:az P C ω w0 C0 hp w):az P C ω w0 C0 hp w' where
 base:=m.base
 know r o v hk:=h.cell (m.know r o v hk)
 de:=m.de
 apart:=m.apart
 inj:=m.inj
 lt b r hb:=⟨Gr (m.lt b r hb).1 h.size,(m.lt b r hb).2⟩
 size:=Nat.le_trans m.size h.size
 frame r hr hn hw:=by rw[h.same r (Gr hr m.size)];exact m.frame r hr hn hw
 fo r hr:=h.get (m.fo r hr)
 os:=h.os.trans m.os
 output:=h.output.trans m.output
 fresh:=m.fresh
 grown:=m.grown
 old:=m.old
 box b x r hx hb:=(m.box b x r hx hb).ext h
 iA q hq:=Gr (m.iA q hq) h.size
theorem aq.ext {C ω w w' B e tmps}(h:Ext w w')(he:aq C ω w B e tmps):aq C ω w' B e tmps:=
 fun s x hx=>let ⟨v,a,b,d⟩:=he s x hx; ⟨v,a,b,fun e=>(d e).ext h⟩
def aI.put (C:aI)(r off:Nat)(vs:List Value):aI:={ C with K:=fun b o=>if b=r∧off≤o∧o<off+vs.length then vs[o-off]? else C.K b o }
theorem aI.gE {C:aI}{r off}(vs:List Value)(h:∀o,off≤o→C.K r o=En):C.le (C.put r off vs):=
 ⟨fun b o v hk=>(by
  simp only[aI.put]
  rw[if_neg]
  ·exact hk
  ·rintro ⟨rfl,h1,_⟩;rw[h o h1]at hk;cases hk),fun _ _ h=>h,rfl,fun _ h=>h,fun _ h=>h⟩
theorem aI.Ao {C:aI}{r off vs j v}(h:vs[j]?=I v):(C.put r off vs).K r (off+j)=I v:=by
 have hj:j<vs.length:=(Gx.1 h).1
 show(if r=r∧off≤off+j∧off+j<off+vs.length then vs[off+j-off]? else C.K r (off+j))=I v
 rw[if_pos ⟨rfl,by omega,by omega⟩,show off+j-off=j from by omega,h]
theorem cu.iB {C r xs}:∀ {vs:List Value} {o:Nat},aS C xs vs→(∀j v,vs[j]?=I v→C.K r (o+j)=I v)→cu C r xs o:=by
 induction xs with
 |nil=>intro vs o _ _;exact .ic _ _
 |cons x xs ih=>
  intro vs o h hk
  cases h with
  |cons _ _ v vs hx h=>
   refine .dB _ _ _ _ v (by simpa using hk 0 v rfl) hx (ih h ?_)
   intro j u hj
   rw[show o+1+j=o+(j+1)from by omega]
   exact hk (j+1) u (by simpa using hj)
theorem aI.fg {C:aI}{r off xs vs}(hn:∀o,off≤o→C.K r o=En)(h:aS C xs vs):cu (C.put r off vs) r xs off:=
 cu.iB (aB.mono (aI.gE vs hn) h) fun _ _ hj=>aI.Ao hj
theorem az.jR {P C ω w0 w C0 hp}(m:az P C ω w0 C0 hp w)(r:Nat)(hr:w.heap.size≤r)(o:Nat):C.K r o=En:=by
 cases h:C.K r o with
 |none=>rfl
 |some v=>
  have:=m.know r o v h
  unfold World.cell? at this
  rw[show w.heap[(⟨r,o,En⟩:Addr).block]?=En from Array.getElem?_eq_none hr]at this
  cases this
theorem aJ.put {C ω w B r off ℓ x v}(vs:List Value)(hr:w.heap.size≤r∨ω r≠I ℓ)(ho:aJ C ω w B ℓ x v):aJ (C.put r off vs) ω w B ℓ x v:=by
 unfold aJ at *
 split at ho
 ·rename_i a len cap
  obtain⟨h1,h2,h3,h4,h8,⟨cells,elem,h5,h6⟩,h7⟩:=ho
  have bw:a.block<w.heap.size:=(Gi.1 h5).1
  refine⟨h1,h2,h3,h4,h8,⟨cells,elem,h5,h6⟩,fun o ho=>?_⟩
  simp only[aI.put]
  rw[if_neg]
  ·exact h7 o ho
  ·rintro ⟨rfl,_⟩
   rcases hr with hr|hr
   ·omega
   ·exact hr h1
 ·rename_i a
  obtain⟨h1,h2,h3,h4,h8,⟨cells,elem,h5,h6⟩,h7⟩:=ho
  have bw:a.block<w.heap.size:=(Gi.1 h5).1
  refine⟨h1,h2,h3,h4,h8,⟨cells,elem,h5,h6⟩,fun o ho=>?_⟩
  simp only[aI.put]
  rw[if_neg]
  ·exact h7 o ho
  ·rintro ⟨rfl,_⟩
   rcases hr with hr|hr
   ·omega
   ·exact hr h1
 ·trivial
theorem cx.imp {P C C'}(h:(∀r o v,C.K r o=some v→C'.K r o=some v)∧(∀b r,C.β b=some r→C'.β b=some r)){l lp}(k:cx P C l lp)(hT:∀q,C.T q→C'.T q:=by first|exact fun _ h=>h|exact fun _ h=>False.elim h):cx P C' l lp:=
 { k with env:=fun s x hx=>let ⟨v,a,b⟩:=k.env s x hx; ⟨v,a,aB.imp h b hT⟩ }
theorem cx.mono {P C C'}(h:C.le C'){l lp}(k:cx P C l lp):cx P C' l lp:=k.imp ⟨h.k,h.b⟩ h.t
theorem bE.imp {P C C' ω ω' w w' B B' b r x}(h:(∀r o v,C.K r o=I v→C'.K r o=I v)∧(∀b r,C.β b=I r→C'.β b=I r))(hw:w'.heap[r]?=w.heap[r]?)
  (ho:∀j y v,aJ C ω w B (.cell b j) y v→aJ C' ω' w' B' (.cell b j) y v) (hb:bE P C ω w B b r x) (hT:∀q,C.T q→C'.T q:=by exact fun _ h=>h) (Fp:∀x,C'.T x→x.1=r→C.T x:=by exact fun _ h _=>h)
  (hq:∀q n cap,xT C ω w B b q n cap→w'.heap[q]?=w.heap[q]?:=by exact fun _ _ _ _=>rfl):bE P C' ω' w' B' b r x:=by
 cases x with
 |hole=>exact hb
 |cells cs=>
  obtain⟨vs,elem,h1,h2,h3⟩:=hb
  exact⟨vs,elem,hw.trans h1,h2,fun j c hc=>let ⟨v,a,q,b,d⟩:=h3 j c hc; ⟨v,a,q,aB.imp h b hT,fun e=>ho _ _ _ (d e)⟩⟩
 |map es=>obtain⟨b9,clock,h1,h2⟩:=hb;exact⟨b9,clock,hw.trans h1,h2.imp h hT⟩
 |iter s pos=>exact hw.trans hb
 |loop l=>obtain⟨lp,h1,h2⟩:=hb;exact⟨lp,hw.trans h1,h2.imp h hT⟩
 |fV t e l=>obtain⟨p,v,h1,h2,h3,h4⟩:=hb;exact⟨p,v,hw.trans h1,h2,h3,ho _ _ _ h4⟩
 |dead=>obtain⟨cs,t,h1⟩:=hb;exact⟨cs,t,hw.trans h1⟩
 |vec sz bJ xs=>exact ea.imp h.1 hT Fp hw (fun q n cap k=>⟨hq q n cap k,ho _ _ _ k⟩) hb
theorem bE.mono {P C C' ω ω' w B b r x}(h:C.le C')
  (ho:∀j y v,aJ C ω w B (.cell b j) y v→aJ C' ω' w B (.cell b j) y v) (hb:bE P C ω w B b r x) (Fp:∀x,C'.T x→x.1=r→C.T x:=by exact fun _ h _=>h):bE P C' ω' w B b r x:=hb.imp ⟨h.k,h.b⟩ rfl ho h.t Fp
theorem az.newRow {P:Program}{C ω w0 w C0 hp}(m:az P C ω w0 C0 hp w)(cells:Array Value)(t:TypeId)(vs:List Value)
  (hv:∀(j:Nat) v,vs[j]?=I v→cells[j]?=I v) (h1:∀v∈vs,v.oneCell'=Ga):
  az P (C.put w.heap.size 0 vs) ω w0 C0 hp (w.alloc (.cells cells t)):=by
 have hx:Ext w (w.alloc (.cells cells t)):=Ext.alloc w _ (fun c t fr h=>by cases h;rfl)
 have m':=m.ext hx
 have hn:∀o,C.K w.heap.size o=En:=m.jR _ (Gm _)
 have hle:=aI.gE (C:=C) (off:=0) vs (fun o _=>hn o)
 refine { m' with know:=?_,de:=?_,apart:=?_,grown:=aI.le_trans m.grown hle,old:=?_,box:=?_ }
 ·intro r o v hk
  simp only[aI.put]at hk
  split at hk
  ·rename_i hc
   obtain⟨rfl,_,_⟩:=hc
   simp only[World.cell?]
   rw[wx,if_pos rfl]
   simpa using hv _ _ hk
  ·exact m'.know r o v hk
 ·intro r o v hk
  simp only[aI.put]at hk
  split at hk
  ·exact h1 v (List.mem_of_getElem? hk)
  ·exact m.de r o v hk
 ·intro b r o hb
  have:=(m.lt b r hb).1
  simp only[aI.put]
  rw[if_neg (by omega)]
  exact m.apart b r o hb
 ·intro r o hr hw
  have:=m.size
  simp only[aI.put]
  rw[if_neg (by omega)]
  exact m.old r o hr hw
 ·intro b x r fh hb
  exact((m.box b x r fh hb).mono (ω':=ω) hle fun j y v ho=>ho.put vs (.inl (Gm _))).ext hx
theorem aq.put {C:aI}{ω w B e tmps r off}(vs:List Value)(hr:w.heap.size≤r∨∀s,jj s e≠En→(jj s e).any (·.2)=Ga→ω r≠I (.slot s))(hn:∀o,off≤o→C.K r o=En)(he:aq C ω w B e tmps):aq (C.put r off vs) ω w B e tmps:=
 fun s x hx=>let ⟨v,a,b,d⟩:=he s x hx; ⟨v,a,aB.mono (aI.gE vs hn) b,fun e=>(d e).put vs (hr.imp id fun h=>h s (by rw[hx];simp) (by rw[hx];exact e))⟩
def cI (ω:Nat→Option Loc)(r:Nat)(ℓ:Loc):Nat→Option Loc:=fun b=>if b=r then I ℓ else ω b
theorem aJ.other {C ω w B r ℓ ℓ' x v}(hr:ω r≠I ℓ∨ℓ=ℓ')(ho:aJ C ω w B ℓ x v):aJ C (Abs.cI ω r ℓ') w B ℓ x v:=by
 unfold aJ at *
 split at ho
 ·rename_i a len cap
  obtain⟨h1,h2⟩:=ho
  refine⟨?_,h2⟩
  simp only[Abs.cI]
  by_cases hb:a.block=r
  ·rw[if_pos hb]
   rcases hr with hr|hr
   ·exact absurd (hb▸h1) hr
   ·rw[hr]
  ·rw[if_neg hb];exact h1
 ·rename_i a
  obtain⟨h1,h2⟩:=ho
  refine⟨?_,h2⟩
  simp only[Abs.cI]
  by_cases hb:a.block=r
  ·rw[if_pos hb]
   rcases hr with hr|hr
   ·exact absurd (hb▸h1) hr
   ·rw[hr]
  ·rw[if_neg hb];exact h1
 ·trivial
theorem aJ.fresh {C ω w B r ℓ ℓ' x v}(hr:w.heap.size≤r)(ho:aJ C ω w B ℓ x v):aJ C (Abs.cI ω r ℓ') w B ℓ x v:=by
 unfold aJ at *
 split at ho
 ·rename_i a len cap
  obtain⟨h1,h2,h3,h4,h8,⟨cells,elem,h5,h6⟩,h7⟩:=ho
  have bw:a.block<w.heap.size:=(Gi.1 h5).1
  refine⟨?_,h2,h3,h4,h8,⟨cells,elem,h5,h6⟩,h7⟩
  simp only[Abs.cI]
  rw[if_neg (by omega)]
  exact h1
 ·rename_i a
  obtain⟨h1,h2,h3,h4,h8,⟨cells,elem,h5,h6⟩,h7⟩:=ho
  have bw:a.block<w.heap.size:=(Gi.1 h5).1
  refine⟨?_,h2,h3,h4,h8,⟨cells,elem,h5,h6⟩,h7⟩
  simp only[Abs.cI]
  rw[if_neg (by omega)]
  exact h1
 ·trivial
theorem aq.fresh {C ω w B r ℓ e tmps}(hr:w.heap.size≤r)(he:aq C ω w B e tmps):aq C (Abs.cI ω r ℓ) w B e tmps:=
 fun s x hx=>let ⟨v,a,b,d⟩:=he s x hx; ⟨v,a,b,fun e=>(d e).fresh hr⟩
theorem az.kG {P C ω w0 w C0 hp}(m:az P C ω w0 C0 hp w)(r:Nat)(ℓ:Loc)(hr:w.heap.size≤r):az P C (Abs.cI ω r ℓ) w0 C0 hp w:=
 { m with box:=fun b x r' hx hb=>(m.box b x r' hx hb).mono (aI.le_refl C) fun _ _ _ ho=>ho.fresh hr }
theorem az.cI {P C ω w0 w C0 hp}(m:az P C ω w0 C0 hp w)(r:Nat)(ℓ:Loc)(hr:∀b j,ω r≠I (.cell b j)):az P C (Abs.cI ω r ℓ) w0 C0 hp w:=
 { m with box:=fun b x r' hx hb=>(m.box b x r' hx hb).mono (aI.le_refl C) fun j _ _ ho=>ho.other (.inl (hr b j)) }
def zo (P:Program)(C0:aI)(w0:World)(C:aI)(tmps:Array Value)(d:Loc)(env:Env)(res:bh)(v:Value)(w':World):Prop:=
 ∃C' ω',C.le C'∧az P C' ω' w0 C0 res.heap w'∧aq C' ω' w' w0.heap.size (yc env res.strip) tmps∧bP C' res.v v∧(res.own=Ga→aJ C' ω' w' w0.heap.size d res.v v)
theorem qv5 (C:aI){v x}(h:Ds v=I x):bP C x v:=by
 unfold Ds at h
 split at h<;>first|cases h|skip
 ·exact .bool _
 ·exact .int _ _
 ·exact .str _
 ·exact .jF _
 ·exact .bZ
 ·exact .bX
 ·exact .cr
theorem KT (C:aI):∀ {vs:List Value} {xs:List AVal},wv vs=I xs→aS C xs vs
 | [],xs,h=>by simp[wv]at h;subst h;exact .nil
 |v::vs,xs,h=>by
  simp only[wv]at h
  split at h
  ·rename_i x hx
   split at h
   ·rename_i ys ng
    cases h
    exact .cons _ _ _ _ (qv5 C hx) (KT C ng)
   ·cases h
  ·cases h
theorem qsz (C:aI){v x}(h:ofValue v=I x):bP C x v:=by
 unfold ofValue at h
 split at h
 ·rename_i cs
  split at h
  ·rename_i xs hx
   cases h
   exact .agg _ _ (KT C hx)
  ·cases h
 ·exact qv5 C h
section
variable {P:Program}{C C0:aI}{ω:Nat→Option Loc}{w w0:World}{hp:qh}{env:Env}{a:Act}{B:Nat}
theorem qv {x y v}(he:bn C env a.tmps)(hc:qt x=I y)(hv:qi env y=I v):bP C v (a.eval x):=by
 cases x with
 |tmp t=>
  simp only[qt]at hc
  cases hc
  simp only[qi]at hv
  split at hv
  ·rename_i x hx
   cases hv
   obtain⟨u,h1,h2⟩:=he t x hx
   have:a.eval (.tmp t)=u:=by simp[Act.eval,Array.getD_eq_getD_getElem?,h1]
   rw[this];exact h2
  ·cases hv
 |const u=>
  simp only[qt]at hc
  split at hc
  ·rename_i z hz
   cases hc
   simp only[qi]at hv
   cases hv
   exact qsz C hz
  ·cases hc
 |func f=>
  simp only[qt]at hc
  cases hc
  simp only[qi]at hv
  cases hv
  exact .fn (.func f) (.func f) [] [] [] [] rfl .nil .nil
 |global g=>simp[qt]at hc
theorem DA (he:bn C env a.tmps):∀ {xs:List Operand} {ys:List jt} {vs:List AVal},pz xs=I ys→fX env ys=I vs→aS C vs (xs.map a.eval)
 | [],ys,vs,hc,hv=>by simp[pz]at hc;subst hc;simp[fX]at hv;subst hv;exact .nil
 |x::xs,ys,vs,hc,hv=>by
  simp only[pz]at hc
  split at hc
  ·rename_i y hy
   split at hc
   ·rename_i zs qM
    cases hc
    simp only[fX]at hv
    split at hv
    ·rename_i v od
     split at hv
     ·rename_i us gU
      cases hv
      exact .cons _ _ _ _ (qv he hy od) (DA he qM gU)
     ·cases hv
    ·cases hv
   ·cases hc
  ·cases hc
theorem bP.di {b v}(h:bP C (.bool b) v):v=.bool b:=by cases h;rfl
theorem bP.bQ {k n v}(h:bP C (.int k n) v):v=.int k n:=by cases h;rfl
theorem bP.cq {s v}(h:bP C (.str s) v):v=.string ⟨⟨s⟩⟩:=by cases h;rfl
theorem bP.dj {b o v}(h:bP C (.ptr b o) v):∃r,C.β b=I r∧v=.pointer (I ⟨r,o,En⟩):=by cases h;exact⟨_,‹_›,rfl⟩
theorem bP.eQ {x v}(h:bP C (.ah x) v):∃r o,v=.pointer (I ⟨r,o,En⟩)∧cu C r x.flat o:=by cases h;exact⟨_,_,rfl,‹_›⟩
theorem bP.eA {cs v}(h:bP C (.agg cs) v):∃vs,v=.agg ⟨vs⟩∧aS C cs vs:=by cases h;exact⟨_,rfl,‹_›⟩
theorem bP.oe {cs v}(h:bP C (.aC cs) v):∃vs,v=.tuple ⟨vs⟩∧aS C cs vs:=by cases h;exact⟨_,rfl,‹_›⟩
theorem bP.eR {b o len v}(h:bP C (.ms b o len) v):∃r cap,C.β b=I r∧len≤cap∧v=.slice (I ⟨r,o,En⟩) len cap:=by cases h;exact⟨_,_,‹_›,‹_›,rfl⟩
theorem bP.cU {n sz xs v}(h:bP C (.list n sz xs) v):
  (n=Ga∧xs=[]∧v=.slice En 0 0)∨(n=E3∧∃r o cap,v=.slice (I ⟨r,o,En⟩) xs.length cap∧xs.length≤cap∧bu C r sz xs o)∨(n=E3∧xs=[]∧∃a,a.spot≠En∧v=.slice (I a) 0 0):=by
 cases h
 ·exact .inl ⟨rfl,rfl,rfl⟩
 ·exact .inr (.inl ⟨rfl,_,_,_,rfl,‹_›,‹_›⟩)
 ·exact .inr (.inr ⟨rfl,rfl,_,‹_›,rfl⟩)
theorem bP.len {n sz xs v}(h:bP C (.list n sz xs) v):∃b cap,v=.slice b xs.length cap:=by
 rcases h.cU with⟨rfl,rfl,rfl⟩|⟨rfl,r,o,cap,rfl,_,_⟩|⟨rfl,rfl,a,_,rfl⟩
 ·exact⟨En,0,rfl⟩
 ·exact⟨_,_,rfl⟩
 ·exact⟨_,_,rfl⟩
theorem add_lit (r o n:Nat):(⟨r,o,En⟩:Addr).add n=⟨r,o+n,En⟩:=by unfold Addr.add;split<;>simp_all
theorem Ap (k:IntKind)(n:Int):qe k n=k.wrap n:=by
 unfold qe
 cases h:qH k n with
 |false=>rfl
 |true=>
  simp only[cond_true]
  symm
  have key:∀m:Nat,IntKind.min k≤n→n≤IntKind.max k→k.wrap n=n:=by
   intro _ h1 h2
   unfold IntKind.wrap
   cases k<;>simp[IntKind.bits,IntKind.signed,IntKind.min,IntKind.max]at *<;>omega
  refine key 0 ?_ ?_
  ·cases k<;>cases n<;>simp[qH,IntKind.min,IntKind.signed,IntKind.bits]at *<;>omega
  ·cases k<;>cases n<;>simp[qH,IntKind.max,IntKind.signed,IntKind.bits]at *<;>omega
theorem DB {t:TypeId}{b}(h:yo P t=I b)(w:World):(isAgg t).run P w=.ok b w:=by
 unfold yo at h
 unfold isAgg
 cases hu:P.underlying t with
 |none=>simp[hu]at h
 |some d=>rw[hu]at h;simp[run_underlying hu];cases d<;>simp at h<;>subst h<;>rfl
theorem yl {t:TypeId}{n}(h:jp P t=I n)(w:World):(sizeOf t).run P w=.ok n w:=by
 unfold jp at h
 cases hi:P.info? t with
 |none=>simp[hi]at h
 |some i=>simp[hi]at h;simp[sizeOf,typeInfo,hi,h]
theorem q4b {t:TypeId}{ag n off cs vs x}(hg:yo P t=I ag)(hn:jp P t=I n)(hp:part ag cs off n=I x)(hr:aS C cs vs)(w:World):
  ∃v,(Go.part t ⟨vs⟩ off).run P w=.ok v w∧bP C x v:=by
 unfold part at hp
 cases ag with
 |true=>
  simp only[cond_true]at hp
  cases hb:Gc (off+n) cs.length with
  |false=>simp[hb]at hp
  |true=>
   simp[hb]at hp
   subst hp
   refine⟨.agg ⟨(vs.drop off).take n⟩,?_,.agg _ _ ((hr.drop off).take n)⟩
   simp[Go.part,DB hg,yl hn]
 |false=>
  simp only[cond_false]at hp
  obtain⟨v,h1,h2⟩:=hr.get hp
  exact⟨v,by simp[Go.part,DB hg,h1],h2⟩
theorem qp2 (a:List UInt8):(⟨⟨a⟩⟩:ByteArray).toList=a:=by
 rw[ByteArray.toList_eq]
end
theorem QL:∀ {ks:List Kd} {xs ys:List AVal} (Fq:List Kd) (fR og:List AVal),xs.length=ks.length→ys.length=ks.length →
  yv (ks++Fq) (xs++fR) (ys++og)=match yv ks xs ys with|some Ga=>yv Fq fR og|r=>r
 | [],[],[],Fq,fR,og,_,_=>by simp[yv]
 |k::ks,x::xs,y::ys,Fq,fR,og,h,h'=>by
  simp only[List.cons_append,yv]
  cases he:mg k x y with
  |none=>simp
  |some b=>cases b with
   |false=>simp
   |true=>simpa using QL Fq fR og (by simpa using h) (by simpa using h')
 | [],_::_,_,_,_,_,h,_=>by simp at h
 | [],[],_::_,_,_,_,_,h=>by simp at h
 |_::_,[],_,_,_,_,h,_=>by simp at h
 |_::_,_::_,[],_,_,_,_,h=>by simp at h
def vd (ag:Bool)(us:List Value):Value:=if ag then .agg ⟨us⟩else us.headD undef
def KU:TypeDesc→Bool
 | .struct _=>Ga
 | .array _ _=>Ga
 |_=>E3
section
variable {P:Program}{C:aI}
theorem jep {t:TypeId}{d:TypeDesc}(h:P.underlying t=I d):yo P t=I (KU d):=by
 unfold yo
 rw[h]
 cases d<;>rfl
theorem KW {t:TypeId}{ag n off us}(hg:yo P t=I ag)(hn:jp P t=I n)(h1:ag=E3→n=1)(hl:off+n≤us.length)(w:World):
  (Go.part t ⟨us⟩ off).run P w=.ok (vd ag ((us.drop off).take n)) w:=by
 cases ag with
 |true=>simp[Go.part,DB hg,yl hn,vd]
 |false=>
  obtain rfl:=h1 rfl
  have bw:off<us.length:=by omega
  simp only[Go.part,Sem.run_bind,DB hg,Result.andThen_ok,vd,Gv,if_false]
  have e:(⟨us⟩:Array Value)[off]?=I us[off]:=by
   show(List.toArray us)[off]?=_
   rw[G7,List.getElem?_eq_getElem bw]
  rw[e,List.drop_eq_getElem_cons bw]
  rfl
def QM (P:Program)(C:aI)(n:Nat)(t:TypeId)(ks:List Kd):Prop:=
 ∃ag,yo P t=I ag∧jp P t=I ks.length∧(ag=E3→ks.length=1)∧∀d,n≤d→∀xs ys us vs b w,aS C xs us→aS C ys vs→xs.length=ks.length→ys.length=ks.length→yv ks xs ys=I b →
  (Op.equalIn d t (vd ag us) (vd ag vs)).run P w=.ok b w
theorem KX {α:Type}(xs:List α)(off n:Nat):xs.drop off=(xs.drop off).take n++xs.drop (off+n):=by
 rw[←List.drop_drop];exact(List.take_append_drop _ _).symm
theorem qsx {n d}(hd:n≤d):∀(fs:List Field) (off:Nat) (ks:List Kd) (xs ys:List AVal) (us vs:List Value) (b:Bool) (w:World),
  Fh (vb P n) off fs=I ks →
  (∀f∈fs,∀ks,vb P n f.type=I ks→QM P C n f.type ks) →
  aS C xs us→aS C ys vs→xs.length=off+ks.length→ys.length=off+ks.length→yv ks (xs.drop off) (ys.drop off)=I b →
  (Op.eqFields d ⟨us⟩ ⟨vs⟩ fs).run P w=.ok b w
 | [],off,ks,xs,ys,us,vs,b,w,hf,_,hx,hy,nh,oK,he=>by
  simp[Fh]at hf
  subst hf
  rw[Gh (by simp at nh;omega),Gh (by simp at oK;omega)]at he
  simp[yv]at he
  subst he
  simp[Op.eqFields]
 |f::fs,off,ks,xs,ys,us,vs,b,w,hf,dE,hx,hy,nh,oK,he=>by
  simp only[Fh]at hf
  split at hf
  ·rename_i hc
   simp at hc
   obtain⟨Fs,wy⟩:=hc
   split at hf
   ·rename_i k1 fZ
    split at hf
    ·rename_i k2 dk
     cases hf
     obtain⟨ag,da,cS,h1,heq⟩:=dE f (by simp) k1 fZ
     have QN:=hx.length
     have wz:=hy.length
     simp at nh oK
     have p1:=KW (P:=P) (us:=us) (off:=f.offset) da cS h1 (by omega) w
     have p2:=KW (P:=P) (us:=vs) (off:=f.offset) da cS h1 (by omega) w
     rw[KX xs off k1.length,KX ys off k1.length,QL _ _ _ (by simp;omega) (by simp;omega)]at he
     simp only[Op.eqFields,ne_eq,Fs,not_false_eq_true,if_true,Sem.run_bind,p1,p2,Result.andThen_ok]
     rw[wy]
     cases hb:yv k1 ((xs.drop off).take k1.length) ((ys.drop off).take k1.length)with
     |none=>rw[hb]at he;cases he
     |some b1=>
      rw[hb]at he
      rw[heq d hd _ _ _ _ b1 w ((hx.drop off).take _) ((hy.drop off).take _) (by simp;omega) (by simp;omega) hb]
      cases b1 with
      |false=>simp at he;subst he;simp
      |true=>
       simp only[Result.andThen_ok,Hd,Gv,if_false]
       exact qsx hd fs (off+k1.length) k2 xs ys us vs b w dk (fun g hg=>dE g (by simp[hg])) hx hy (by omega) (by omega) he
    ·cases hf
   ·cases hf
  ·cases hf
theorem qvv {n d}(hd:n≤d){e:TypeId}{ag k1}(da:yo P e=I ag)(cS:jp P e=I k1.length)(h1:ag=E3→k1.length=1)
  (heq:∀d,n≤d→∀xs ys us vs b w,aS C xs us→aS C ys vs→xs.length=k1.length→ys.length=k1.length→yv k1 xs ys=I b→(Op.equalIn d e (vd ag us) (vd ag vs)).run P w=.ok b w):
  ∀(len i:Nat) (xs ys:List AVal) (us vs:List Value) (b:Bool) (w:World),
  aS C xs us→aS C ys vs→xs.length=i*k1.length+len*k1.length→ys.length=i*k1.length+len*k1.length→yv (Gp len k1).flatten (xs.drop (i*k1.length)) (ys.drop (i*k1.length))=I b →
  (Op.eqItems d e k1.length ⟨us⟩ ⟨vs⟩ (List.range' i len)).run P w=.ok b w
 |0,i,xs,ys,us,vs,b,w,hx,hy,nh,oK,he=>by
  rw[Gh (by simp at nh;omega),Gh (by simp at oK;omega)]at he
  simp[yv]at he
  subst he
  simp[Op.eqItems]
 |len+1,i,xs,ys,us,vs,b,w,hx,hy,nh,oK,he=>by
  have QN:=hx.length
  have wz:=hy.length
  rw[Gl]at nh oK
  have p1:=KW (P:=P) (us:=us) (off:=i*k1.length) da cS h1 (by omega) w
  have p2:=KW (P:=P) (us:=vs) (off:=i*k1.length) da cS h1 (by omega) w
  rw[List.replicate_succ,List.flatten_cons,KX xs (i*k1.length) k1.length,KX ys (i*k1.length) k1.length,QL _ _ _ (by simp;omega) (by simp;omega)]at he
  simp only[List.range'_succ,Op.eqItems,Sem.run_bind,p1,p2,Result.andThen_ok]
  cases hb:yv k1 ((xs.drop (i*k1.length)).take k1.length) ((ys.drop (i*k1.length)).take k1.length)with
  |none=>rw[hb]at he;cases he
  |some b1=>
   rw[hb]at he
   rw[heq d hd _ _ _ _ b1 w ((hx.drop _).take _) ((hy.drop _).take _) (by simp;omega) (by simp;omega) hb]
   cases b1 with
   |false=>simp at he;subst he;simp
   |true=>
    simp only[Result.andThen_ok,Hd,Gv,if_false]
    refine qvv hd da cS h1 heq len (i+1) xs ys us vs b w hx hy (by rw[nh,Gl];omega) (by rw[oK,Gl];omega) ?_
    rw[Gl];exact he
theorem q0t {t:TypeId}{n}(h:jp P t=I n):P.cellsOf t=n:=by
 unfold jp at h
 unfold Program.cellsOf
 rw[h];rfl
theorem q0v {t:TypeId}{n}(h:jp P t=I n):∃i,P.info? t=I i∧i.size=n:=by
 unfold jp at h
 cases hi:P.info? t with
 |none=>simp[hi]at h
 |some i=>exact⟨i,rfl,by simpa[hi]using h⟩
theorem q6p {k x y b}(h:yv [k] [x] [y]=I b):mg k x y=I b:=by
 simp only[yv]at h
 split at h<;>simp_all
theorem jda {xs us}(h:aS C xs us)(hl:xs.length=1):∃x u,xs=[x]∧us=[u]∧bP C x u:=by
 obtain⟨x,rfl⟩:=List.length_eq_one_iff.1 hl
 cases h with
 |cons _ _ u vs hx h=>cases h;exact⟨x,u,rfl,rfl,hx⟩
theorem q5x {k x y b u v}(h:mg k x y=I b)(hx:bP C x u)(hy:bP C y v):
  match k with
  | .int=>∃kd a c,u=.int kd a∧v=.int kd c∧b=(a == c)
  | .str=>∃a c:List UInt8,u=.string ⟨⟨a⟩⟩∧v=.string ⟨⟨c⟩⟩∧b=(a == c)
  | .bool=>∃a c,u=.bool a∧v=.bool c∧b=(a == c):=by
 unfold mg at h
 split at h
 ·rename_i k a k' c
  cases hx;cases hy
  by_cases hk:k=k'
  ·subst hk;simp at h;exact⟨_,_,_,rfl,rfl,h.symm⟩
  ·simp[hk]at h
 ·cases hx;cases hy;cases h;exact⟨_,_,rfl,rfl,rfl⟩
 ·cases hx;cases hy;cases h;exact⟨_,_,rfl,rfl,rfl⟩
 ·cases h
theorem q4f {t:TypeId}{k x y b u v}(hk:kF P t=I k)(h:mg k x y=I b)(hx:bP C x u)(hy:bP C y v)(d:Nat)(w:World):
  (Op.equalIn (d+1) t u v).run P w=.ok b w:=by
 have hc:=q5x h hx hy
 unfold kF at hk
 cases hu:P.underlying t with
 |none=>simp[hu]at hk
 |some D=>
  rw[hu]at hk
  cases D<;>simp at hk<;>subst hk<;>simp only[]at hc
  ·obtain⟨a,c,rfl,rfl,rfl⟩:=hc;exact run_equalIn_bool w d t a c hu
  ·obtain⟨kd,a,c,rfl,rfl,rfl⟩:=hc;exact run_equalIn_int w d t kd _ a c hu
  ·obtain⟨a,c,rfl,rfl,rfl⟩:=hc
   rw[run_equalIn_string w d t _ _ hu,qp2,qp2]
theorem QO:∀ (n:Nat) (t:TypeId) (ks:List Kd),vb P n t=I ks→QM P C n t ks
 |0,t,ks,h=>by simp[vb]at h
 |n+1,t,ks,h=>by
  unfold vb at h
  cases hu:P.underlying t with
  |none=>simp[hu]at h
  |some D=>
   rw[hu]at h
   have da:=jep hu
   have scalar:∀k,ks=[k]→jp P t=I 1→kF P t=I k→KU D=E3→QM P C (n+1) t ks:=by
    intro k hks hs hk ha
    subst hks
    refine⟨E3,by rw[da,ha],hs,fun _=>rfl,?_⟩
    intro d hd xs ys us vs b w hx hy nh oK he
    obtain⟨d,rfl⟩:∃m,d=m+1:=⟨d-1,by omega⟩
    obtain⟨x,u,rfl,rfl,Aq⟩:=jda hx nh
    obtain⟨y,v,rfl,rfl,hy1⟩:=jda hy oK
    exact q4f hk (q6p he) Aq hy1 d w
   cases D<;>simp only[]at h<;>first|(simp at h;done)|skip
   case int k=>
    split at h<;>first|cases h|skip
    rename_i hs
    exact scalar .int rfl (by simpa using hs) (by simp[kF,hu]) rfl
   case bool=>
    split at h<;>first|cases h|skip
    rename_i hs
    exact scalar .bool rfl (by simpa using hs) (by simp[kF,hu]) rfl
   case string=>
    split at h<;>first|cases h|skip
    rename_i hs
    exact scalar .str rfl (by simpa using hs) (by simp[kF,hu]) rfl
   case array len e=>
    split at h
    ·rename_i k1 fZ
     split at h
     ·rename_i hs
      cases h
      obtain⟨ag,QP,cS,h1,heq⟩:=QO n e k1 fZ
      have hlen:(Gp len k1).flatten.length=len*k1.length:=by simp[List.length_flatten]
      refine⟨Ga,by simpa[KU]using da,by rw[hlen];simpa using hs,(fun h=>by cases h),?_⟩
      intro d hd xs ys us vs b w hx hy nh oK he
      obtain⟨d,rfl⟩:∃m,d=m+1:=⟨d-1,by omega⟩
      obtain⟨i,hi,_⟩:=q0v cS
      simp only[vd,if_true]
      rw[run_equalIn_array w d _ _ hu hi,q0t cS,List.range_eq_range']
      exact qvv (by omega) QP cS h1 heq len 0 xs ys us vs b w hx hy (by rw[nh,hlen];omega) (by rw[oK,hlen];omega) (by simpa using he)
     ·cases h
    ·cases h
   case struct fs=>
    split at h
    ·rename_i k1 fZ
     split at h
     ·rename_i hs
      cases h
      simp at hs
      obtain⟨hso,cS⟩:=hs
      refine⟨Ga,by simpa[KU]using da,cS,(fun h=>by cases h),?_⟩
      intro d hd xs ys us vs b w hx hy nh oK he
      obtain⟨d,rfl⟩:∃m,d=m+1:=⟨d-1,by omega⟩
      simp only[vd,if_true]
      have hf:P.fieldsOf t=fs:=by simp[Program.fieldsOf,hu]
      rw[run_equalIn_struct w d t _ _ (by rw[hf];exact hu) hso,hf]
      exact qsx (n:=n) (by omega) fs.toList 0 _ xs ys us vs b w fZ (fun f _ ks hp=>QO n f.type ks hp) hx hy (by omega) (by omega) (by simpa using he)
     ·cases h
    ·cases h
end
section
variable {P:Program}{C:aI}{w:World}{env:Env}{a:Act}{o:Oper}
def Val (P:Program)(C:aI)(a:Act)(o:Oper)(w:World)(x:AVal):Prop:=∃v,(execOp a.eval o).run P w=.ok (.value v) w∧bP C x v
theorem jg7 {x y v}(he:bn C env a.tmps)(ho:o.op=.move x∨o.op=.assign x)(hc:qt x=I y)(hv:qi env y=I v):Val P C a o w v:=by
 refine⟨a.eval x,?_,qv he hc hv⟩
 rcases ho with ho|ho<;>simp[execOp,ho]
theorem jhh {c x y c' x' y' b u v}(he:bn C env a.tmps)(ho:o.op=.pick c x y)(h1:qt c=I c')(h2:qt x=I x')(h3:qt y=I y')
  (e1:qi env c'=I (.bool b)) (e2:qi env x'=I u) (e3:qi env y'=I v):Val P C a o w (bif b then u else v):=by
 have r1:=(qv he h1 e1).di
 have r2:=qv he h2 e2
 have r3:=qv he h3 e3
 refine⟨if b then a.eval x else a.eval y,by simp[execOp,ho,r1,asBool],?_⟩
 cases b<;>simpa
theorem qpm {x y v}(he:bn C env a.tmps)(ho:o.op=.nilCheck x)(hc:qt x=I y)(hv:qi env y=I v)
  (hk:(∃b p,v=.ptr b p)∨(∃z,v=.ah z)):Val P C a o w v:=by
 have r:=qv he hc hv
 rcases hk with⟨b,p,rfl⟩|⟨z,rfl⟩
 ·obtain⟨q,_,hq⟩:=r.dj
  exact⟨a.eval x,by simp[execOp,ho,hq],r⟩
 ·obtain⟨q,p,hq,_⟩:=r.eQ
  exact⟨a.eval x,by simp[execOp,ho,hq],r⟩
theorem QQ (op:BinOp)(k:IntKind)(x y:Int)(t:TypeId)(h1:op≠.shl)(h2:op≠.shr):binOp op t (.int k x) (.int k y)=match op with
  | .add | .sub | .mul=>Op.intArith op k x y
  | .quo | .rem=>Op.intDiv op k x y
  | .and | .or | .xor | .andNot=>Op.intBits op k x y
  |_=>Op.intCmp op x y:=by
 cases op<;>simp at h1 h2<;>simp[binOp]
theorem jb2 {op k x y v}(h:nW op k x y=I v)(t:TypeId)(w:World):∃u,(binOp op t (.int k x) (.int k y)).run P w=.ok u w∧bP C v u:=by
 unfold nW at h
 cases op<;>simp only[]at h<;>first|(cases h;done)|skip
 case quo=>
  cases hy:(y == 0)with
  |true=>simp[hy]at h
  |false=>
   simp[hy]at h
   subst h
   have:y≠0:=by simpa using hy
   rw[Ap,QQ _ _ _ _ _ (by simp) (by simp)]
   refine⟨_,?_,.int _ _⟩
   simp[Op.intDiv,this]
 case rem=>
  cases hy:(y == 0)with
  |true=>simp[hy]at h
  |false=>
   simp[hy]at h
   subst h
   have:y≠0:=by simpa using hy
   rw[QQ _ _ _ _ _ (by simp) (by simp)]
   refine⟨_,?_,.int _ _⟩
   simp[Op.intDiv,this]
 all_goals (cases h;rw[QQ _ _ _ _ _ (by simp) (by simp)];try rw[Ap])
 all_goals first
  |exact⟨_,rfl,.int _ _⟩
  |exact⟨_,rfl,.bool _⟩
theorem qqj:∀ (x y:List UInt8),bytesLess x y=Op.bytesLess x y
 |x,[]=>by cases x<;>rfl
 | [],_::_=>rfl
 |a::x,b::y=>by simp only[bytesLess,Op.bytesLess,qqj x y]
theorem q9l {op x y v}(h:Fg op x y=I v)(t:TypeId)(w:World):∃u,(binOp op t (.string ⟨⟨x⟩⟩) (.string ⟨⟨y⟩⟩)).run P w=.ok u w∧bP C v u:=by
 unfold Fg at h
 cases op<;>simp only[]at h<;>first|(cases h;done)|skip
 ·cases hb:Gc (x.length+y.length) 4611686018427387904 with
  |false=>simp[hb]at h
  |true=>
   simp[hb]at h
   subst h
   have hle:x.length+y.length≤4611686018427387904:=Gq hb
   refine⟨.string ⟨⟨x++y⟩⟩,?_,.str _⟩
   have e1:(⟨⟨x⟩⟩:ByteArray).size=x.length:=rfl
   have e2:(⟨⟨y⟩⟩:ByteArray).size=y.length:=rfl
   have e3:(⟨⟨x⟩⟩:ByteArray)++⟨⟨y⟩⟩=⟨⟨x++y⟩⟩:=by
    apply ByteArray.ext
    simp[ByteArray.data_append]
   simp only[binOp,Op.stringOp,e1,e2,e3,IntKind.max,IntKind.signed,IntKind.bits]
   rw[if_neg (by simp;omega)]
   rfl
 all_goals (cases h;refine⟨_,?_,.bool _⟩;simp[binOp,Op.stringOp,qqj])
theorem q9m {op x y v u u'}(h:yg op x y=I v)(hx:bP C x u)(hy:bP C y u')(t:TypeId)(w:World):∃z,(binOp op t u u').run P w=.ok z w∧bP C v z:=by
 unfold yg at h
 split at h
 ·rename_i k a k' b
  obtain rfl:=hx.bQ
  obtain rfl:=hy.bQ
  have hsh:∀(op:BinOp),(op=.shl∨op=.shr)→KJ op k a b=I v→∃z,(binOp op t (.int k a) (.int k' b)).run P w=.ok z w∧bP C v z:=by
   intro op hop h
   unfold KJ at h
   cases hb:decide (b<0)with
   |true=>simp[hb]at h
   |false=>
    have fi:¬b<0:=by simpa using hb
    rcases hop with rfl|rfl<;>simp[hb]at h<;>subst h
    ·rw[Ap]; (refine⟨_,?_,.int _ _⟩;simp[binOp,Op.shift,fi])
    ·(refine⟨_,?_,.int _ _⟩;simp[binOp,Op.shift,fi])
  have hin:op≠.shl→op≠.shr→(bif decide (k=k')then nW op k a b else En)=I v→∃z,(binOp op t (.int k a) (.int k' b)).run P w=.ok z w∧bP C v z:=by
   intro _ _ h
   by_cases hk:k=k'
   ·subst hk;simp at h;exact jb2 h t w
   ·simp[hk]at h
  cases op<;>simp only[]at h<;>first|exact hsh _ (.inl rfl) h|exact hsh _ (.inr rfl) h|exact hin (by simp) (by simp) h
 ·obtain rfl:=hx.cq
  obtain rfl:=hy.cq
  exact q9l h t w
 ·cases h
theorem q6v (op:BinOp)(t:TypeId)(x y:Operand)(u v:Value)(w:World)(h1:¬(u=.nilIface∧v=.nilIface))(h2:(∀cs,u≠.agg cs)∨P.eqGuardType P.depth t=E3):(eqGuard op t x y u v).run P w=.ok () w:=by
 unfold eqGuard
 by_cases hop:(!(match op with | .eql | .neq=>Ga|_=>E3))=Ga
 ·cases op<;>simp_all
 ·cases op<;>simp at hop ⊢
  all_goals (
   split
   ·exact absurd ⟨rfl,rfl⟩ h1
   ·rcases h2 with h2|h2
    ·rename_i cs _ ;exact absurd rfl (h2 cs)
    ·simp[h2]
   ·rfl)
theorem KY {op}{t u:TypeId}{x y p q z}(ho:o.op=.binOp op t x y u)(hx:a.eval x=p)(hy:a.eval y=q)(h1:¬(p=.nilIface∧q=.nilIface))(h2:(∀cs,p≠.agg cs)∨P.eqGuardType P.depth t=E3)
  (hz:(binOp op t p q).run P w=.ok z w):(execOp a.eval o).run P w=.ok (.value z) w:=by
 have hg:=q6v (P:=P) op t x y p q w h1 h2
 subst hx;subst hy
 simp only[execOp,ho,Sem.run_bind,hg,Result.andThen_ok,hz,Sem.run_pure]
theorem q0f {x v}(h:bP C x v)(hx:x≠.undef)(hy:x≠.any:=by simp):v≠.nilIface:=by
 cases h<;>simp at hx hy ⊢
theorem q0w {op x y v}(h:yg op x y=I v):(x≠.undef∧(∀cs,x≠.agg cs)∧x≠.any):=by
 unfold yg at h
 split at h<;>simp at h ⊢
theorem q62 {x v}(h:bP C x v)(hx:x≠.undef)(ha:∀cs,x≠.agg cs)(hy:x≠.any:=by simp):∀cs,v≠.agg cs:=by
 cases h<;>simp at hx ha hy ⊢
theorem jpc {op}{t u:TypeId}{x y x' y' p q v}(he:bn C env a.tmps)(ho:o.op=.binOp op t x y u)(h1:qt x=I x')(h2:qt y=I y')
  (e1:qi env x'=I p) (e2:qi env y'=I q) (hv:yg op p q=I v):Val P C a o w v:=by
 have r1:=qv he h1 e1
 have r2:=qv he h2 e2
 obtain⟨hn,ha,hy⟩:=q0w hv
 obtain⟨z,hz,hr⟩:=q9m (P:=P) hv r1 r2 t w
 refine⟨z,?_,hr⟩
 exact KY ho rfl rfl (fun h=>q0f r1 hn hy h.1) (.inl (q62 r1 hn ha hy)) hz
theorem QR {neq}{t:TypeId}{u v b}(w:World)(hu:(∀k n,u≠.int k n)∧(∀s,u≠.string s)∧(∀k n,u≠.float k n)∧(∀k n m,u≠.complex k n m))
  (h:(Op.equal t u v).run P w=.ok b w):(binOp (if neq then .neq else .eql) t u v).run P w=.ok (.bool (bif neq then !b else b)) w:=by
 obtain⟨h1,h2,h3,h4⟩:=hu
 cases neq<;>cases u<;>simp_all [binOp]
theorem jrb {op neq}{t u:TypeId}{x y x' y' p q ks b}(he:bn C env a.tmps)(ho:o.op=.binOp op t x y u)(hop:op=if neq then .neq else .eql)
  (h1:qt x=I x') (h2:qt y=I y') (e1:qi env x'=I (.agg p)) (e2:qi env y'=I (.agg q)) (hg:P.eqGuardType P.depth t=E3) (hk:vb P KM t=I ks) (da:yo P t=I Ga)
  (ie:p.length=ks.length) (oL:q.length=ks.length) (hb:yv ks p q=I b):Val P C a o w (.bool (bif neq then !b else b)):=by
 obtain⟨us,hu,ru⟩:=(qv he h1 e1).eA
 obtain⟨vs,hv,rv⟩:=(qv he h2 e2).eA
 obtain⟨ag,ha,_,_,heq⟩:=QO (C:=C) KM t ks hk
 rw[da]at ha;cases ha
 have hq:=heq 10000 (by decide) p q us vs b w ru rv ie oL hb
 simp only[vd,if_true]at hq
 refine⟨_,?_,.bool _⟩
 have qN:=QR (P:=P) (neq:=neq) (t:=t) (u:=.agg ⟨us⟩) (v:=.agg ⟨vs⟩) (b:=b) w ⟨by simp,by simp,by simp,by simp⟩ hq
 exact KY (hop▸ho) hu hv (by simp) (.inr hg) qN
theorem jnw {op neq}{t u:TypeId}{x y x' y' p q}(he:bn C env a.tmps)(ho:o.op=.binOp op t x y u)(hop:op=if neq then .neq else .eql)
  (h1:qt x=I x') (h2:qt y=I y') (e1:qi env x'=I (.bool p)) (e2:qi env y'=I (.bool q)) (ht:P.underlying t=I .bool):Val P C a o w (.bool (bif neq then !(p == q)else p == q)):=by
 have hu:=(qv he h1 e1).di
 have hv:=(qv he h2 e2).di
 refine⟨_,?_,.bool _⟩
 have qN:=QR (P:=P) (neq:=neq) (t:=t) (u:=.bool p) (v:=.bool q) (b:=p == q) w ⟨by simp,by simp,by simp,by simp⟩ (run_equalIn_bool w 9999 t p q ht)
 exact KY (hop▸ho) hu hv (by simp) (.inl (by simp)) qN
theorem jeu {op neq b}{t u:TypeId}{x y c}(ho:o.op=.binOp op t x y u)(hop:op=if neq then .neq else .eql)
  (hy:a.eval y=c) (bG:(∀k n,a.eval x≠.int k n)∧(∀s,a.eval x≠.string s)∧(∀k n,a.eval x≠.float k n)∧(∀k n m,a.eval x≠.complex k n m)) (da:∀cs,a.eval x≠.agg cs) (QS:a.eval x≠.nilIface)
  (h:(Op.equal t (a.eval x) c).run P w=.ok b w):Val P C a o w (.bool (bif neq then !b else b)):=by
 refine⟨_,?_,.bool _⟩
 have qN:=QR (P:=P) (neq:=neq) w bG h
 exact KY (hop▸ho) rfl hy (fun h=>QS h.1) (.inl da) qN
theorem jtp {op}{t:TypeId}{x x' p v}(he:bn C env a.tmps)(ho:o.op=.unOp op t x)(h1:qt x=I x')(e1:qi env x'=I p)(hv:xM op p=I v):Val P C a o w v:=by
 have r1:=qv he h1 e1
 unfold xM at hv
 split at hv
 ·obtain hu:=r1.bQ
  cases hv
  rw[Ap]
  (refine⟨_,?_,.int _ _⟩;simp[execOp,ho,hu,Op.unary,Op.intArith])
 ·obtain hu:=r1.di
  cases hv
  (refine⟨_,?_,.bool _⟩;simp[execOp,ho,hu,Op.unary])
 ·cases hv
theorem jks {s d:TypeId}{k k0 x x' k1 n}(he:bn C env a.tmps)(ho:o.op=.convert s d x)(hs:P.underlying s=I (.int k0))(hd:P.underlying d=I (.int k))
  (h1:qt x=I x') (e1:qi env x'=I (.int k1 n)):Val P C a o w (.int k (qe k n)):=by
 have hu:=(qv he h1 e1).bQ
 rw[Ap]
 (refine⟨_,?_,.int _ _⟩;simp[execOp,ho,hu,convert,run_underlying hs,run_underlying hd,Conv.intToInt])
theorem q6t {s d:TypeId}{x x' v}(he:bn C env a.tmps)(ho:o.op=.convert s d x)(hs:P.underlying s=I .string)(hd:P.underlying d=I .string)
  (h1:qt x=I x') (e1:qi env x'=I v) (hv:∃l,v=.str l):Val P C a o w v:=by
 obtain⟨l,rfl⟩:=hv
 have r:=qv he h1 e1
 have hu:=r.cq
 exact⟨_,by simp[execOp,ho,hu,convert,run_underlying hs,run_underlying hd];rfl,by rw[←hu];exact r⟩
theorem q3r {s d:TypeId}{x x' v k0}(he:bn C env a.tmps)(ho:o.op=.convert s d x)(hs:P.underlying s=I (.int k0))(hd:P.underlying d=I .string)
  (h1:qt x=I x') (e1:qi env x'=I v) (hv:∃l,v=.str l):Val P C a o w v:=by
 obtain⟨l,rfl⟩:=hv
 have r:=qv he h1 e1
 have hu:=r.cq
 exact⟨_,by simp[execOp,ho,hu,convert,run_underlying hs,run_underlying hd];rfl,by rw[←hu];exact r⟩
theorem q7k {s d:TypeId}{x x' k0 k1 n}(he:bn C env a.tmps)(ho:o.op=.convert s d x)(hs:P.underlying s=I (.int k0))(hd:P.underlying d=I .string)
  (h1:qt x=I x') (e1:qi env x'=I (.int k1 n)):Val P C a o w (.str (Utf8.encode n).data.toList):=by
 have hu:=(qv he h1 e1).bQ
 exact⟨.string (Utf8.encode n),by simp[execOp,ho,hu,convert,run_underlying hs,run_underlying hd,Conv.intToString],.str _⟩
theorem q31 {s d:TypeId}{x x' k1 n}(he:bn C env a.tmps)(ho:o.op=.convert s d x)(hs:P.underlying s=I .string)(hd:P.underlying d=I .string)
  (h1:qt x=I x') (e1:qi env x'=I (.int k1 n)):Val P C a o w (.str (Utf8.encode n).data.toList):=by
 have hu:=(qv he h1 e1).bQ
 exact⟨.string (Utf8.encode n),by simp[execOp,ho,hu,convert,run_underlying hs,run_underlying hd,Conv.intToString],.str _⟩
theorem jf3 {t:TypeId}{x x' i fs f ag n cs v}(he:bn C env a.tmps)(ho:o.op=.field t x i)(ht:P.underlying t=I (.struct fs))(hf:fs[i]?=I f)
  (da:yo P f.type=I ag) (hn:jp P f.type=I n) (h1:qt x=I x') (e1:qi env x'=I (.agg cs)) (hv:Abs.part ag cs f.offset n=I v):Val P C a o w v:=by
 obtain⟨us,hu,ru⟩:=(qv he h1 e1).eA
 obtain⟨z,hz,hr⟩:=q4b da hn hv ru w
 refine⟨z,?_,hr⟩
 simp[execOp,ho,hu,Instr.field,run_underlying ht,hf,asAgg,hz]
theorem Ft {n v j}(h:idx n v=I j):∃k,v=.int k (j:Int)∧j<n:=by
 unfold idx at h
 split at h
 ·rename_i k i
  cases hb:Gg i n with
  |false=>simp[hb]at h
  |true=>
   simp[hb]at h
   subst h
   exact⟨k,rfl,by have:=Gq hb;omega⟩
 ·cases h
theorem jej {n v j}(h:Ad n v=I j):∃k,v=.int k (j:Int)∧j≤n:=by
 unfold Ad at h
 split at h
 ·rename_i k i
  cases hb:Gc i n with
  |false=>simp[hb]at h
  |true=>
   simp[hb]at h
   subst h
   exact⟨k,rfl,Gq hb⟩
 ·cases h
theorem jd5 {t e:TypeId}{x i x' i' len n ag cs iv v j}(he:bn C env a.tmps)(ho:o.op=.index t x i)(ht:P.underlying t=I (.array len e))
  (da:yo P e=I ag) (hn:jp P e=I n) (h1:qt x=I x') (h2:qt i=I i') (e1:qi env x'=I (.agg cs)) (e2:qi env i'=I iv) (hj:idx len iv=I j) (hv:Abs.part ag cs (j*n) n=I v):Val P C a o w v:=by
 obtain⟨us,hu,ru⟩:=(qv he h1 e1).eA
 obtain⟨k,rfl,bw⟩:=Ft hj
 have hi:=(qv he h2 e2).bQ
 obtain⟨z,hz,hr⟩:=q4b da hn hv ru w
 refine⟨z,?_,hr⟩
 simp[execOp,ho,hu,hi,Instr.index,asIntOf,run_underlying ht,bw,yl hn,hz]
theorem q2m {t:TypeId}{x i x' i' s iv j c}(he:bn C env a.tmps)(ho:o.op=.index t x i)(ht:P.underlying t=I .string)
  (h1:qt x=I x') (h2:qt i=I i') (e1:qi env x'=I (.str s)) (e2:qi env i'=I iv) (hj:idx s.length iv=I j) (hc:s[j]?=I c):Val P C a o w (.int .u8 c.toNat):=by
 have hu:=(qv he h1 e1).cq
 obtain⟨k,rfl,bw⟩:=Ft hj
 have hi:=(qv he h2 e2).bQ
 refine⟨_,?_,.int _ _⟩
 have hb:(⟨⟨s⟩⟩:ByteArray)[j]?=I c:=by
  rw[getElem?_pos (ByteArray.mk ⟨s⟩) j bw]
  exact congrArg I (Gx.1 hc).2
 simp[execOp,ho,hu,hi,Instr.index,asIntOf,run_underlying ht,hb]
end
section
variable {P:Program}{C:aI}{w:World}{env:Env}{a:Act}{o:Oper}
theorem qby {z:AVal}(h:z.isAgg=E3):z.flat=[z]:=by cases z<;>simp[AVal.isAgg,AVal.flat]at *
theorem q8q {ag:Bool}{cs off n r q z}(hc:cu C r cs q)(hz:Abs.part ag cs off n=I z)(hx:Gw ag z.isAgg=E3):cu C r z.flat (q+off):=by
 unfold Abs.part at hz
 cases ag with
 |true=>
  simp only[cond_true]at hz
  cases hb:Gc (off+n) cs.length with
  |false=>simp[hb]at hz
  |true=>simp[hb]at hz;subst hz;exact cu.take n (cu.drop off hc)
 |false=>
  simp only[cond_false]at hz
  rw[qby (by simpa using hx)]
  obtain⟨u,h1,h2⟩:=hc.get hz
  exact .dB _ _ _ _ u h1 h2 (.ic _ _)
theorem qox {t:TypeId}{x x' i fs f ag n p v}(he:bn C env a.tmps)(ho:o.op=.fieldAddr t x i)(ht:P.underlying t=I (.struct fs))(hf:fs[i]?=I f)
  (hn:jp P f.type=I n) (Ar:0<n) (h1:qt x=I x') (e1:qi env x'=I p)
  (hv:(∃b q,p=.ptr b q∧v=.ptr b (q+f.offset))∨(∃cs z,p=.ah (.agg cs)∧Abs.part ag cs f.offset n=I z∧Gw ag z.isAgg=E3∧v=.ah z)):Val P C a o w v:=by
 have bF:∀r q,a.eval x=.pointer (I ⟨r,q,En⟩)→(execOp a.eval o).run P w=.ok (.value (.pointer (I ⟨r,q+f.offset,En⟩))) w:=by
  intro r q hq
  simp[execOp,ho,Instr.fieldAt,run_underlying ht,hf,hq,Instr.sureAddr,fieldPlace,yl hn,Nat.pos_iff_ne_zero.1 Ar,add_lit]
 rcases hv with⟨b,q,rfl,rfl⟩|⟨cs,z,rfl,hz,hx,rfl⟩
 ·obtain⟨r,hr,hq⟩:=(qv he h1 e1).dj
  exact⟨_,bF r q hq,.ptr _ _ _ hr⟩
 ·obtain⟨r,q,hq,hc⟩:=(qv he h1 e1).eQ
  exact⟨_,bF r q hq,.ah _ _ _ (q8q hc hz hx)⟩
theorem qo0 {t e:TypeId}{x i x' i' sz p iv v}(he:bn C env a.tmps)(ho:o.op=.indexAddr t x i)(ht:P.underlying t=I (.slice e))
  (hn:jp P e=I sz) (h1:qt x=I x') (h2:qt i=I i') (e1:qi env x'=I p) (e2:qi env i'=I iv)
  (hv:(∃b q len j,p=.ms b q len∧idx len iv=I j∧v=.ptr b (q+j*sz))∨(∃nl xs z j,p=.list nl sz xs∧idx xs.length iv=I j∧xs[j]?=I z∧v=.ah z)):Val P C a o w v:=by
 have bF:∀r q len cap j,a.eval x=.slice (I ⟨r,q,En⟩) len cap→idx len iv=I j→(execOp a.eval o).run P w=.ok (.value (.pointer (I ⟨r,q+j*sz,En⟩))) w:=by
  intro r q len cap j hq hj
  obtain⟨k,rfl,bw⟩:=Ft hj
  have hi:=(qv he h2 e2).bQ
  simp[execOp,ho,Instr.indexAt,run_underlying ht,hq,hi,asIntOf,yl hn,bw,add_lit]
 rcases hv with⟨b,q,len,j,rfl,hj,rfl⟩|⟨nl,xs,z,j,rfl,hj,hz,rfl⟩
 ·obtain⟨r,cap,hr,_,hq⟩:=(qv he h1 e1).eR
  exact⟨_,bF r q len cap j hq hj,.ptr _ _ _ hr⟩
 ·rcases(qv he h1 e1).cU with⟨rfl,rfl,hq⟩|⟨rfl,r,q,cap,hq,_,db⟩|⟨rfl,rfl,_⟩
  ·simp at hz
  ·exact⟨_,bF r q _ cap j hq hj,.ah _ _ _ (db.get hz)⟩
  ·simp at hz
theorem qqb {t e:TypeId}{x i x' i' len sz ag p iv v j}(he:bn C env a.tmps)(ho:o.op=.indexAddr t x i)(ht:P.underlying t=I (.array len e))
  (hn:jp P e=I sz) (h1:qt x=I x') (h2:qt i=I i') (e1:qi env x'=I p) (e2:qi env i'=I iv) (hj:idx len iv=I j)
  (hv:(∃b q,p=.ptr b q∧v=.ptr b (q+j*sz))∨(∃cs z,p=.ah (.agg cs)∧Abs.part ag cs (j*sz) sz=I z∧Gw ag z.isAgg=E3∧v=.ah z)):Val P C a o w v:=by
 have bF:∀r q,a.eval x=.pointer (I ⟨r,q,En⟩)→(execOp a.eval o).run P w=.ok (.value (.pointer (I ⟨r,q+j*sz,En⟩))) w:=by
  intro r q hq
  obtain⟨k,rfl,bw⟩:=Ft hj
  have hi:=(qv he h2 e2).bQ
  simp[execOp,ho,Instr.indexAt,run_underlying ht,hq,hi,asIntOf,Instr.sureAddr,yl hn,bw,add_lit]
 rcases hv with⟨b,q,rfl,rfl⟩|⟨cs,z,rfl,hz,hx,rfl⟩
 ·obtain⟨r,hr,hq⟩:=(qv he h1 e1).dj
  exact⟨_,bF r q hq,.ptr _ _ _ hr⟩
 ·obtain⟨r,q,hq,hc⟩:=(qv he h1 e1).eQ
  exact⟨_,bF r q hq,.ah _ _ _ (q8q hc hz hx)⟩
theorem KZ {x x' d n j}(he:bn C env a.tmps)(hc:nc x=I x')(hb:fD env d n x'=I j):
  (x=En∧j=d)∨(∃y k,x=I y∧a.eval y=.int k (j:Int)∧j≤n):=by
 cases x with
 |none=>simp[nc]at hc;subst hc;simp[fD]at hb;exact .inl ⟨rfl,hb.symm⟩
 |some x=>
  simp only[nc]at hc
  split at hc
  ·rename_i z hz
   cases hc
   simp only[fD]at hb
   split at hb
   ·rename_i v hv
    obtain⟨k,rfl,hle⟩:=jej hb
    exact .inr ⟨x,k,rfl,(qv he hz hv).bQ,hle⟩
   ·cases hb
  ·cases hc
theorem K0 {lo hi lH fL len cap i j isS}(he:bn C env a.tmps)(h1:nc lo=I lH)(h2:nc hi=I fL)(b2:fD env len len fL=I j)(b1:fD env 0 j lH=I i)(hc:len≤cap)(w:World):
  (Instr.sliceBounds isS len cap (lo.map a.eval) (hi.map a.eval) En).run P w=.ok (i,j,cap) w∧i≤j∧j≤len:=by
 have k2:j≤len:=by
  rcases KZ he h2 b2 with⟨_,rfl⟩|⟨_,_,_,_,h⟩
  ·exact Gm _
  ·exact h
 have k1:i≤j:=by
  rcases KZ he h1 b1 with⟨_,rfl⟩|⟨_,_,_,_,h⟩
  ·exact Nat.zero_le _
  ·exact h
 refine⟨?_,k1,k2⟩
 have hj:j≤cap:=by omega
 rcases KZ he h2 b2 with⟨rfl,rfl⟩|⟨y,k,rfl,hy,_⟩<;>rcases KZ he h1 b1 with⟨rfl,rfl⟩|⟨z,k',rfl,hz,_⟩
 ·simp[Instr.sliceBounds]
 ·simp[Instr.sliceBounds,hz,Instr.sliceBound,asIntOf,k1]
 ·simp[Instr.sliceBounds,hy,Instr.sliceBound,asIntOf,hj]
 ·simp[Instr.sliceBounds,hy,hz,Instr.sliceBound,asIntOf,hj,k1]
theorem qz4 {t e:TypeId}{x lo hi x' lH fL sz i j p v}(he:bn C env a.tmps)(ho:o.op=.slice t x lo hi En)(ht:P.underlying t=I (.slice e))
  (hn:jp P e=I sz) (h1:qt x=I x') (h2:nc lo=I lH) (h3:nc hi=I fL) (e1:qi env x'=I p)
  (hv:(∃b q len,p=.ms b q len∧fD env len len fL=I j∧fD env 0 j lH=I i∧(i=0∨i<j)∧v=.ms b (q+i*sz) (j-i)) ∨
   (∃nl c8 xs,p=.list nl c8 xs∧(sz=c8∨xs=[])∧fD env xs.length xs.length fL=I j∧fD env 0 j lH=I i∧v=.list nl c8 ((xs.take j).drop i))):Val P C a o w v:=by
 have bF:∀b len cap,a.eval x=.slice b len cap→len≤cap→fD env len len fL=I j→fD env 0 j lH=I i →
   (execOp a.eval o).run P w=.ok (.value (.slice (if cap=i then b else b.map (·.add (i*sz))) (j-i) (cap-i))) w∧i≤j∧j≤len:=by
  intro b len cap hq hle b2 b1
  obtain⟨hb,k1,k2⟩:=K0 (P:=P) (isS:=true) he h2 h3 b2 b1 hle w
  refine⟨?_,k1,k2⟩
  simp[execOp,ho,Instr.sliceAt,Instr.slice,run_underlying ht,hq,hb,yl hn]
 rcases hv with⟨b,q,len,rfl,b2,b1,qO,rfl⟩|⟨nl,c8,xs,rfl,cS,b2,b1,rfl⟩
 ·obtain⟨r,cap,hr,hle,hq⟩:=(qv he h1 e1).eR
  obtain⟨hw,k1,k2⟩:=bF _ len cap hq hle b2 b1
  refine⟨_,hw,?_⟩
  by_cases hc:cap=i
  ·rw[if_pos hc]
   obtain rfl:i=0:=by omega
   simpa using aB.ms b q (j-0) r (cap-0) hr (by omega)
  ·rw[if_neg hc]
   simp only[Hb,add_lit]
   exact .ms _ _ _ _ _ hr (by omega)
 ·rcases(qv he h1 e1).cU with⟨rfl,rfl,hq⟩|⟨rfl,r,q,cap,hq,hle,db⟩|⟨rfl,rfl,ad,mC,hq⟩
  ·obtain⟨hw,k1,k2⟩:=bF _ 0 0 hq (Gm _) b2 b1
   simp at k2
   obtain rfl:=k2
   obtain rfl:i=0:=by omega
   exact⟨_,hw,by simpa using aB.jF c8⟩
  ·obtain⟨hw,k1,k2⟩:=bF _ _ cap hq hle b2 b1
   refine⟨_,hw,?_⟩
   have hl:((xs.take j).drop i).length=j-i:=by simp;omega
   rw[←hl]
   by_cases hc:cap=i
   ·rw[if_pos hc]
    have kH:(xs.take j).drop i=[]:=Gh (by simp;omega)
    rw[kH]
    exact .list _ _ _ _ _ (by simp) (.fK _ _ _)
   ·rw[if_neg hc]
    simp only[Hb,add_lit]
    refine .list _ _ _ _ _ (by rw[hl];omega) ?_
    rcases cS with rfl|rfl
    ·exact bu.drop i (bu.take j db)
    ·simpa using aB.fK _ _ _
  ·obtain⟨hw,k1,k2⟩:=bF _ 0 0 hq (Gm _) b2 b1
   simp at k2
   obtain rfl:=k2
   obtain rfl:i=0:=by omega
   exact⟨_,hw,by simpa using aB.jG c8 ad mC⟩
theorem q5t {t e:TypeId}{x lo hi x' lH fL len sz i j b q}(he:bn C env a.tmps)(ho:o.op=.slice t x lo hi En)(ht:P.underlying t=I (.array len e))
  (hn:jp P e=I sz) (h1:qt x=I x') (h2:nc lo=I lH) (h3:nc hi=I fL) (e1:qi env x'=I (.ptr b q)) (b2:fD env len len fL=I j) (b1:fD env 0 j lH=I i) (qO:i=0∨i<j):Val P C a o w (.ms b (q+i*sz) (j-i)):=by
 obtain⟨r,hr,hq⟩:=(qv he h1 e1).dj
 obtain⟨hb,k1,k2⟩:=K0 (P:=P) (isS:=false) he h2 h3 b2 b1 (Gm len) w
 refine⟨_,by simp[execOp,ho,Instr.sliceAt,Instr.sureAddr,run_underlying ht,hq,hb,yl hn];rfl,?_⟩
 by_cases hc:len=i
 ·rw[if_pos hc]
  obtain rfl:i=0:=by omega
  simpa using aB.ms b q (j-0) r (len-0) hr (by omega)
 ·rw[if_neg hc]
  simp only[add_lit]
  exact .ms _ _ _ _ _ hr (by omega)
theorem q0r (s:List UInt8)(i j:Nat):(⟨⟨s⟩⟩:ByteArray).extract i j=⟨⟨(s.take j).drop i⟩⟩:=by
 apply ByteArray.ext
 rw[ByteArray.data_extract]
 apply G6
 simp[List.extract_eq_take_drop,List.drop_take]
theorem q4o {t:TypeId}{x lo hi x' lH fL i j s}(he:bn C env a.tmps)(ho:o.op=.slice t x lo hi En)(ht:P.underlying t=I .string)
  (h1:qt x=I x') (h2:nc lo=I lH) (h3:nc hi=I fL) (e1:qi env x'=I (.str s)) (b2:fD env s.length s.length fL=I j) (b1:fD env 0 j lH=I i):Val P C a o w (.str ((s.take j).drop i)):=by
 have hq:=(qv he h1 e1).cq
 obtain⟨hb,k1,k2⟩:=K0 (P:=P) (isS:=false) he h2 h3 b2 b1 (Gm s.length) w
 have cS:(⟨⟨s⟩⟩:ByteArray).size=s.length:=rfl
 refine⟨.string ⟨⟨(s.take j).drop i⟩⟩,?_,.str _⟩
 simp[execOp,ho,Instr.sliceAt,Instr.slice,run_underlying ht,hq,cS,hb,q0r]
theorem jbu {k xs ys fR og us vs}(he:bn C env a.tmps)(ho:o.op=.makeFunc (.func k) xs ys)(h1:pz xs.toList=I fR)(h2:pz ys.toList=I og)(e1:fX env fR=I us)(e2:fX env og=I vs):
  Val P C a o w (.fn (.func k) us vs):=by
 refine⟨.func (.func k) (xs.map a.eval) (ys.map a.eval),by simp[execOp,ho,Instr.makeFunc],?_⟩
 have r1:=DA he h1 e1
 have r2:=DA he h2 e2
 have q1:xs.map a.eval=⟨xs.toList.map a.eval⟩:=by apply G6;simp
 have q2:ys.map a.eval=⟨ys.toList.map a.eval⟩:=by apply G6;simp
 rw[q1,q2]
 exact .fn _ _ _ _ _ _ rfl r1 r2
theorem QT {c x}{t:TypeId}{x' p n}(he:bn C env a.tmps)(ho:o.op=.call c)(dU:c.callee=.builtin .len)(eg:c.args.toList=[x])(eI:c.argTypes.toList=[t])
  (h1:qt x=I x') (e1:qi env x'=I p)
  (hv:(P.underlying t=I .string∧∃s,p=.str s∧n=s.length)∨((∃e,P.underlying t=I (.slice e))∧((∃nl sz xs,p=.list nl sz xs∧n=xs.length)∨(∃b q,p=.ms b q n)))):Val P C a o w (.int .i64 n):=by
 have ha:c.args=#[x]:=by apply G6;simpa using eg
 have lI:c.argTypes=#[t]:=by apply G6;simpa using eI
 refine⟨.int .i64 n,?_,.int _ _⟩
 simp only[execOp,ho,resolve,dU,ha,lI,Sem.run_bind,Sem.run_pure,Result.andThen_ok,invoke,builtin,Builtin.len_]
 rcases hv with⟨ht,s,rfl,rfl⟩|⟨⟨e,ht⟩,⟨nl,sz,xs,rfl,rfl⟩|⟨b,q,rfl⟩⟩
 ·have hq:=(qv he h1 e1).cq
  simp[run_underlying ht,hq,goInt]
  rfl
 ·obtain⟨b,cap,hq⟩:=(qv he h1 e1).len
  simp[run_underlying ht,hq,goInt]
 ·obtain⟨r,cap,_,_,hq⟩:=(qv he h1 e1).eR
  simp[run_underlying ht,hq,goInt]
theorem QU {f:AVal→AVal→Option AVal}{g:Value→Value→Sem Value}(hfg:∀x y z u v,f x y=I z→bP C x u→bP C y v→∃q,(g u v).run P w=.ok q w∧bP C z q):
  ∀(ys:List AVal) (x z:AVal) (u:Value) (vs:List Value),nX f x ys=I z→bP C x u→aS C ys vs→∃q,(vs.foldlM g u).run P w=.ok q w∧bP C z q
 | [],x,z,u,vs,h,hx,hy=>by
  cases hy
  simp[nX]at h;subst h
  exact⟨u,rfl,hx⟩
 |y::ys,x,z,u,vs,h,hx,hy=>by
  cases hy with
  |cons _ _ v vs hy hr=>
   simp only[nX]at h
   split at h
   ·rename_i z1 lJ
    obtain⟨q,hq,rq⟩:=hfg x y z1 u v lJ hx hy
    obtain⟨q2,hq2,rq2⟩:=QU hfg ys z1 z q vs h rq hr
    exact⟨q2,by simp[List.foldlM_cons,hq,hq2],rq2⟩
   ·cases h
theorem jfv {c:Call}{fR:List jt}{p v:AVal}{ps:List AVal}{mx:Bool}(he:bn C env a.tmps)(ho:o.op=.call c)(dU:c.callee=.builtin (if mx then .max else .min))(h1:pz c.args.toList=I fR)(e1:fX env fR=I (p::ps))
  (hv:nX (if mx then max2 else min2) p ps=I v):Val P C a o w v:=by
 have r1:=DA he h1 e1
 have eo:(c.args.map a.eval).toList=c.args.toList.map a.eval:=by simp
 cases mx
 ·generalize hl:c.args.toList.map a.eval=l at r1
  cases r1 with
  |cons _ _ u us hu gU=>
   obtain⟨q,hq,rq⟩:=QU (P:=P) (w:=w) (C:=C) (f:=min2) (g:=Builtin.min2) (fun x y z u v h hx hy=>by
    unfold min2 at h
    split at h<;>first|cases h|skip
    rename_i k n k' m
    by_cases hk:k=k'
    ·subst hk;simp at h;subst h
     obtain rfl:=hx.bQ
     obtain rfl:=hy.bQ
     exact⟨_,rfl,.int _ _⟩
    ·simp[hk]at h) ps p v u us (by simpa using hv) hu gU
   refine⟨q,?_,rq⟩
   simp only[Gv,if_false]at dU
   simp[execOp,ho,resolve,dU,invoke,builtin,Builtin.min_,hl,hq]
 ·generalize hl:c.args.toList.map a.eval=l at r1
  cases r1 with
  |cons _ _ u us hu gU=>
   obtain⟨q,hq,rq⟩:=QU (P:=P) (w:=w) (C:=C) (f:=max2) (g:=Builtin.max2) (fun x y z u v h hx hy=>by
    unfold max2 at h
    split at h<;>first|cases h|skip
    rename_i k n k' m
    by_cases hk:k=k'
    ·subst hk;simp at h;subst h
     obtain rfl:=hx.bQ
     obtain rfl:=hy.bQ
     exact⟨_,rfl,.int _ _⟩
    ·simp[hk]at h) ps p v u us (by simpa using hv) hu gU
   refine⟨q,?_,rq⟩
   simp only[if_true]at dU
   simp[execOp,ho,resolve,dU,invoke,builtin,Builtin.max_,hl,hq]
theorem q7d {x x' i vs v}(he:bn C env a.tmps)(ho:o.op=.extract x i)(h1:qt x=I x')(e1:qi env x'=I (.aC vs))(hv:vs[i]?=I v):Val P C a o w v:=by
 obtain⟨us,hu,ru⟩:=(qv he h1 e1).oe
 obtain⟨u,h1,h2⟩:=ru.get hv
 exact⟨u,by simp[execOp,ho,hu,Instr.extract,h1],h2⟩
end
section
variable {P:Program}{C:aI}{w:World}{env:Env}{a:Act}{o:Oper}
theorem As {x v}(h:bP C x v)(hs:x.flat.all qk=Ga):aS C x.flat v.cells.toList:=by
 cases h<;>first
  |(simp only[AVal.flat,Value.cells];exact .cons _ _ _ _ (by constructor<;>assumption) .nil)
  |skip
 ·simpa[AVal.flat,Value.cells]
 all_goals first|done|exact absurd hs (by simp[AVal.flat,qk])|skip
theorem qzs (off:Nat):∀(l:List Value) (k:Nat) (cs:Array Value),off+k+l.length≤cs.size →
  ((l.zipIdx k).foldl (fun cs (x:Value×Nat)=>cs.setIfInBounds (off+x.2) x.1) cs).toList=cs.toList.take (off+k)++l++cs.toList.drop (off+k+l.length)
 | [],k,cs,_=>by simp
 |v::l,k,cs,h=>by
  simp only[List.zipIdx_cons,List.foldl_cons]
  simp at h
  rw[qzs off l (k+1) (cs.setIfInBounds (off+k) v) (by simp;omega)]
  have bw:off+k<cs.toList.length:=by simp;omega
  rw[Array.toList_setIfInBounds]
  have e1:(cs.toList.set (off+k) v).take (off+(k+1))=cs.toList.take (off+k)++[v]:=by
   rw[←G9,List.take_succ_eq_append_getElem (by simpa using bw),List.take_set,List.set_eq_of_length_le (by simp;omega),List.getElem_set_self]
  have e2:(cs.toList.set (off+k) v).drop (off+(k+1)+l.length)=cs.toList.drop (off+k+(v::l).length):=by
   rw[List.drop_set_of_lt (by omega)]
   congr 1
   simp;omega
  rw[e1,e2]
  simp
inductive DC (C:aI)(place:Nat→Option (Nat×Nat)):List (Nat×Value)→List (Nat×List AVal)→Prop where
 |nil:DC C place [] []
 |cons (i:Nat) (v:Value) (off:Nat) (vs:List AVal) (ps:List (Nat×Value)) (qs:List (Nat×List AVal)) (h1:place i=I (off,vs.length)) (h2:aS C vs v.cells.toList) (h:DC C place ps qs):DC C place ((i,v)::ps) ((off,vs)::qs)
theorem K1 {place}:∀(ps:List (Nat×Value)) (qs:List (Nat×List AVal)) (xs ys:List AVal) (cs:Array Value),aS C xs cs.toList→jQ xs qs=I ys →
  DC C place ps qs →
  ∃ds,Instr.fill place cs ps=I ds∧aS C ys ds.toList
 | [],qs,xs,ys,cs,hx,hf,hp=>by
  cases hp
  simp[jQ]at hf
  subst hf
  exact⟨cs,rfl,hx⟩
 |_::ps,qs,xs,ys,cs,hx,hf,hp=>by
  cases hp with
  |cons i v off vs _ qs Fu hr htl=>
   simp only[jQ]at hf
   cases hb:Gc (off+vs.length) xs.length with
   |false=>simp[hb]at hf
   |true=>
    simp only[hb,cond_true]at hf
    have hle:=Gq hb
    have ie:=hx.length
    have oL:=hr.length
    simp at ie oL
    have qP:=qzs off v.cells.toList 0 cs (by simp;omega)
    have hz:v.cells.zipIdx.foldl (fun cs (x:Value×Nat)=>cs.setIfInBounds (off+x.2) x.1) cs=(v.cells.toList.zipIdx 0).foldl (fun cs (x:Value×Nat)=>cs.setIfInBounds (off+x.2) x.1) cs:=by
     rw[←Array.foldl_toList,Array.toList_zipIdx]
    obtain⟨ds,h1,h2⟩:=K1 (place:=place) ps qs _ ys (v.cells.zipIdx.foldl (fun cs (x:Value×Nat)=>cs.setIfInBounds (off+x.2) x.1) cs) (by
     rw[hz,qP]
     simp only[Nat.add_zero,Array.length_toList,oL]
     exact aS.append (aS.append (hx.take off) hr) (hx.drop _)) hf htl
    refine⟨ds,?_,h2⟩
    simp only[Instr.fill,Fu]
    rw[if_neg (by simp;omega)]
    exact h1
theorem QV {place}(he:bn C env a.tmps):∀(ps:List (Nat×Operand)) (fS:List (Nat×Nat×jt)) (qs:List (Nat×List AVal)),xP P place ps=I fS→kn env fS=I qs →
  DC C place (ps.map fun x=>(x.1,a.eval x.2)) qs
 | [],fS,qs,hc,hv=>by
  simp[xP]at hc;subst hc
  simp[kn]at hv;subst hv
  exact .nil
 |(i,x)::ps,fS,qs,hc,hv=>by
  simp only[xP]at hc
  split at hc
  ·rename_i off n y r Fu hy hr
   cases hc
   simp only[kn]at hv
   split at hv
   ·rename_i v od
    cases hb:(Gd v.flat.length n&&v.flat.all qk)with
    |false=>simp[hb]at hv
    |true=>
     simp only[hb,cond_true]at hv
     simp only[Ha]at hb
     split at hv
     ·rename_i r' jS
      cases hv
      have hl:=G8 hb.1
      exact .cons _ _ _ _ _ _ (by rw[Fu,hl]) (As (qv he hy od) hb.2) (QV he ps r r' hr jS)
     ·cases hv
   ·cases hv
  ·cases hc
theorem qzv {t:TypeId}{z}(h:yr P t=I z)(w:World):∃v,(zeroValue t).run P w=.ok v w∧aS C z v.cells.toList∧∃i,P.info? t=I i∧i.zero=I v:=by
 unfold yr at h
 split at h
 ·rename_i i hi
  split at h
  ·rename_i v hv
   exact⟨v,by simp[zeroValue,typeInfo,hi,hv],KT C h,i,hi,hv⟩
  ·cases h
 ·cases h
theorem qsy {fs:Array Field}(w:World):∀(l:List Field),(∀f∈l,(jp P f.type).isSome)→(l.mapM fun(f:Field)=>(do pure (f.offset,←sizeOf f.type):Sem (Nat×Nat))).run P w=.ok (l.map fun f=>(f.offset,(jp P f.type).getD 0)) w
 | [],_=>rfl
 |f::l,h=>by
  obtain⟨n,hn⟩:=Gz.1 (h f (by simp))
  simp only[List.mapM_cons,Sem.run_bind,yl hn,Result.andThen_ok,Sem.run_pure,qsy (fs:=fs) w l (fun g hg=>h g (by simp[hg])),If,hn,Option.getD_some]
theorem qwb {t:TypeId}{ps fs z fS qs cs}(he:bn C env a.tmps)(ho:o.op=.build t ps)(ht:P.underlying t=I (.struct fs))(hz:yr P t=I z)
  (hall:∀f∈fs.toList,(jp P f.type).isSome) (mE:xP P (fun i=>match fs[i]? with|some f=>(jp P f.type).map fun n=>(f.offset,n)|none=>En) ps.toList=I fS) (hq:kn env fS=I qs) (hf:jQ z qs=I cs):Val P C a o w (.agg cs):=by
 obtain⟨zv,lq,cK,_⟩:=qzv (C:=C) hz w
 have hm:=qsy (P:=P) (fs:=fs) w fs.toList hall
 have qQ:=QV (P:=P) he ps.toList fS qs mE hq
 have Au:(fun(i:Nat)=>match fs[i]? with|some f=>(jp P f.type).map fun n=>(f.offset,n)|none=>En)=fun(i:Nat)=>((fs.toList.map fun f=>(f.offset,(jp P f.type).getD 0)).toArray)[i]?:=by
  funext i
  have hm:∀f,fs[i]?=I f→f∈fs.toList:=fun f h=>by rw[Array.mem_toList_iff];exact Array.mem_of_getElem? h
  obtain⟨l⟩:=fs
  simp only[G7,List.getElem?_map]at hm ⊢
  cases h:l[i]? with
  |none=>rfl
  |some f=>
   obtain⟨n,hn⟩:=Gz.1 (hall f (hm f h))
   simp[hn]
 rw[Au]at qQ
 obtain⟨ds,hd,hr⟩:=K1 (ps.toList.map fun x=>(x.1,a.eval x.2)) qs z cs zv.cells cK hf qQ
 refine⟨.agg ds,?_,.agg cs ds.toList hr⟩
 have lK:(fs.mapM fun(f:Field)=>(do pure (f.offset,←sizeOf f.type):Sem (Nat×Nat))).run P w=.ok ((fs.toList.map fun f=>(f.offset,(jp P f.type).getD 0)).toArray) w:=by
  rw[Array.mapM_eq_mapM_toList]
  simp only[Sem.run_map]
  rw[hm]
  rfl
 have vf:(ps.map fun(x:Nat×Operand)=>(x.1,a.eval x.2)).toList=ps.toList.map fun x=>(x.1,a.eval x.2):=by simp
 simp only[execOp,ho,Instr.build,Sem.run_bind,lq,Result.andThen_ok,run_underlying ht,lK,vf,hd,Sem.run_pure]
theorem qy1 {t e:TypeId}{ps len n z fS qs cs}(he:bn C env a.tmps)(ho:o.op=.build t ps)(ht:P.underlying t=I (.array len e))(hz:yr P t=I z)
  (hn:jp P e=I n) (mE:xP P (fun i=>I (i*n,n)) ps.toList=I fS) (hq:kn env fS=I qs) (hf:jQ z qs=I cs):Val P C a o w (.agg cs):=by
 obtain⟨zv,lq,cK,_⟩:=qzv (C:=C) hz w
 have qQ:=QV (P:=P) he ps.toList fS qs mE hq
 obtain⟨ds,hd,hr⟩:=K1 (ps.toList.map fun x=>(x.1,a.eval x.2)) qs z cs zv.cells cK hf qQ
 refine⟨.agg ds,?_,.agg cs ds.toList hr⟩
 have vf:(ps.map fun(x:Nat×Operand)=>(x.1,a.eval x.2)).toList=ps.toList.map fun x=>(x.1,a.eval x.2):=by simp
 simp only[execOp,ho,Instr.build,Sem.run_bind,lq,Result.andThen_ok,run_underlying ht,yl hn,vf,hd,Sem.run_pure]
theorem qo3 {sz}(he:bn C env a.tmps):∀(ps:List (Nat×Operand)) (fS:List (Nat×jt)) (qs:List (Nat×AVal)),xQ ps=I fS→ye env sz fS=I qs →
  DC C (fun i=>I (i*sz,sz)) (ps.map fun x=>(x.1,a.eval x.2)) (qs.map fun x=>(x.1*sz,x.2.flat))∧∀q∈qs,q.2.flat.length=sz
 | [],fS,qs,hc,hv=>by
  simp[xQ]at hc;subst hc
  simp[ye]at hv;subst hv
  exact⟨.nil,by simp⟩
 |(i,x)::ps,fS,qs,hc,hv=>by
  simp only[xQ]at hc
  split at hc
  ·rename_i y r hy hr
   cases hc
   simp only[ye]at hv
   split at hv
   ·rename_i v od
    cases hb:(Gd v.flat.length sz&&v.flat.all qk)with
    |false=>simp[hb]at hv
    |true=>
     simp only[hb,cond_true]at hv
     simp only[Ha]at hb
     split at hv
     ·rename_i r' jS
      cases hv
      have hl:=G8 hb.1
      obtain⟨h1,h2⟩:=qo3 he ps r r' hr jS
      refine⟨.cons _ _ _ _ _ _ (by rw[hl]) (As (qv he hy od) hb.2) h1,?_⟩
      intro q hq
      rcases Hc.1 hq with rfl|hq
      ·exact hl
      ·exact h2 q hq
     ·cases hv
   ·cases hv
  ·cases hc
theorem qtd {sz}:∀(xs:List AVal) (i:Nat) (v:AVal),(∀x∈xs,x.flat.length=sz)→v.flat.length=sz→i<xs.length →
  (xs.set i v).flatMap AVal.flat=(xs.flatMap AVal.flat).take (i*sz)++v.flat++(xs.flatMap AVal.flat).drop (i*sz+sz)
 | [],i,v,_,_,h=>by simp at h
 |x::xs,0,v,hl,hv,_=>by
  simp only[List.set_cons_zero,Gs,Nat.zero_mul,List.take_zero,List.nil_append,Nat.zero_add]
  rw[List.drop_append_of_le_length (by rw[hl x (by simp)];exact Gm _),Gh (by rw[hl x (by simp)];exact Gm _)]
  simp
 |x::xs,i+1,v,hl,hv,h=>by
  simp only[List.set_cons_succ,Gs]
  rw[qtd xs i v (fun y hy=>hl y (by simp[hy])) hv (by simpa using h)]
  have hx:=hl x (by simp)
  have e1:(i+1)*sz=x.flat.length+i*sz:=by rw[hx,Gl];omega
  have t1:List.take (x.flat.length+i*sz) (x.flat++xs.flatMap AVal.flat)=x.flat++(xs.flatMap AVal.flat).take (i*sz):=List.take_length_add_append _
  have t2:List.drop (x.flat.length+i*sz+sz) (x.flat++xs.flatMap AVal.flat)=(xs.flatMap AVal.flat).drop (i*sz+sz):=by
   rw[G9];exact List.drop_length_add_append _
  rw[e1,t1,t2]
  simp
theorem ym {sz}:∀(xs:List AVal),(∀x∈xs,x.flat.length=sz)→(xs.flatMap AVal.flat).length=xs.length*sz
 | [],_=>by simp
 |x::xs,h=>by
  simp only[Gs,List.length_append,List.length_cons]
  rw[ym xs (fun y hy=>h y (by simp[hy])),h x (by simp),Gl];omega
theorem qxo {sz}:∀(qs:List (Nat×AVal)) (xs ys:List AVal),lE xs qs=I ys→(∀x∈xs,x.flat.length=sz)→(∀q∈qs,q.2.flat.length=sz) →
  jQ (xs.flatMap AVal.flat) (qs.map fun x=>(x.1*sz,x.2.flat))=I (ys.flatMap AVal.flat)∧(∀y∈ys,y.flat.length=sz)∧ys.length=xs.length
 | [],xs,ys,h,hx,_=>by simp[lE]at h;subst h;exact⟨rfl,hx,rfl⟩
 |(i,v)::qs,xs,ys,h,hx,hq=>by
  simp only[lE]at h
  cases hb:Gg i xs.length with
  |false=>simp[hb]at h
  |true=>
   simp only[hb,cond_true]at h
   have bw:i<xs.length:=by have:=Gq hb;omega
   have hv:=hq (i,v) (by simp)
   obtain⟨h1,h2,h3⟩:=qxo qs (xs.set i v) ys h (fun y hy=>by
    rcases List.mem_or_eq_of_mem_set hy with h|rfl
    ·exact hx y h
    ·exact hv) (fun q h=>hq q (by simp[h]))
   refine⟨?_,h2,by simpa using h3⟩
   have hl:=ym xs hx
   have hle:i*sz+sz≤xs.length*sz:=by rw[←Gl];exact Nat.mul_le_mul_right _ bw
   simp only[If,jQ]
   rw[show Gc (i*sz+v.flat.length) (xs.flatMap AVal.flat).length=Ga from by rw[Nat.ble_eq];simp only at hv;omega]
   simp only[cond_true]
   rw[qtd xs i v hx hv bw]at h1
   simp only at hv
   rw[hv]
   exact h1
end
end Go.Abs
