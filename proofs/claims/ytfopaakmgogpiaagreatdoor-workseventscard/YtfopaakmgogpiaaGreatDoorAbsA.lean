/- The abstract machine. -/
import GoSem.Step
import GoSem.Claims
import GoSem.Core.Region
import GoSem.Core.Layout
import GoSem.Op.Equal
import Derived.CallsIn
import Derived.Deep.AppendSrc
import Derived.Laws.CopyRow
import Derived.Laws.AppendOwn
import Derived.Laws.Entries
import Derived.Lib.LaidTab
import Derived.Lib.ItoaNum
set_option linter.unusedVariables false
set_option linter.unusedSimpArgs false
namespace Go.Abs
theorem cT.{u} {α:Sort u}(a b:α):cond true a b=a:=rfl
theorem cF.{u} {α:Sort u}(a b:α):cond false a b=b:=rfl
theorem dT {p:Prop}[Decidable p](h:p):decide p=true:=decide_eq_true h
theorem dF {p:Prop}[Decidable p](h:¬p):decide p=false:=decide_eq_false h
inductive qa where
 |bool (b:Bool)
 |int (k:IntKind) (n:Int)
 |str (s:List UInt8)
 |list (isNil:Bool) (sz:Nat) (xs:List qa)
 |ms (b off len:Nat)
 |ptr (b off:Nat)
 |vptr (v:qa)
 |nilptr
 |map (b:Nat)
 |nilmap
 |fn (f:Fn) (first captured:List qa)
 |nilfn
 |agg (cs:List qa)
 |tup (vs:List qa)
 |undef
 |any
 |pend (n:Nat)
 |vref (b ver len:Nat)
 |vel (b ver off:Nat)
 deriving Inhabited
inductive qh where
 |tmp (t:Nat)
 |const (v:qa)
 deriving Inhabited
inductive Kd where
 |int|str|bool
 deriving DecidableEq,Inhabited
inductive jc where
 |iso|frz (r:Nat)|shr|red
 deriving DecidableEq,Inhabited
inductive qw where
 |move (x:qh)
 |take (s:Nat)
 |pick (c a b:qh)
 |alloc (r:Nat) (zero:List qa)
 |box (r n:Nat) (x:qh)
 |vbox (n:Nat) (x:qh)
 |valloc (n:Nat)
 |vstore (n s:Nat) (x:qh)
 |bld (r t e:Nat)
 |build (zero:List qa) (parts:List (Nat×Nat×qh))
 |buildSlice (sz len:Nat) (zero:List qa) (parts:List (Nat×qh))
 |load (agg:Bool) (n:Nat) (x:qh)
 |vload (agg:Bool) (n:Nat) (x:qh)
 |loadTake (off:Option Nat) (x:qh)
 |store (n:Nat) (a v:qh)
 |nilCheck (x:qh)
 |bin (op:BinOp) (x y:qh)
 |eqs (ks:List Kd) (neq:Bool) (x y:qh)
 |beq (neq:Bool) (x y:qh)
 |nilEq (k:Nat) (neq:Bool) (x:qh)
 |un (op:UnOp) (x:qh)
 |conv (k:IntKind) (x:qh)
 |convStr (x:qh)
 |field (agg:Bool) (off n:Nat) (x:qh)
 |index (agg:Bool) (len n:Nat) (x i:qh)
 |strIndex (x i:qh)
 |fieldAddr (agg:Bool) (off n:Nat) (x:qh)
 |indexAddr (sz:Nat) (x i:qh)
 |indexArr (agg:Bool) (len sz:Nat) (x i:qh)
 |slice (sz:Nat) (x:qh) (lo hi:Option qh)
 |strSlice (x:qh) (lo hi:Option qh)
 |sliceArr (len sz:Nat) (x:qh) (lo hi:Option qh)
 |mkfunc (f:Fn) (first captured:List qh)
 |mkmap (r:Nat)
 |lookup (kd:Kd) (zero:qa) (ok:Bool) (m k:qh)
 |mapUpdate (kd:Kd) (m k v:qh)
 |delete (kd:Kd) (m k:qh)
 |mkslice (r:Option Nat) (sz bytes:Nat) (zero:List qa) (n c:qh)
 |len (k:Nat) (x:qh)
 |append (r:Option Nat) (sz bytes:Nat) (x y:qh)
 |vapp (r sz bytes:Nat) (x y:qh)
 |vlit (r sz len:Nat) (zero:List qa) (parts:List (Nat×qh))
 |copy (sz:Nat) (x y:qh)
 |mx (args:List qh)
 |mn (args:List qh)
 |extract (x:qh) (i:Nat)
 |call (md:jc) (f:qh) (args:List qh)
 |srange (r:Nat) (x:qh)
 |snext (it:qh)
 |bad
 deriving Inhabited
structure qu where
 dst:Option Nat
 op:qw
 guard:Option (Nat×Bool)
 al:Option (List Nat)
 deriving Inhabited
inductive qe where
 |skip
 |region (na:Nat) (ops:List qu) (keep:Option (List Nat))
 |seq (a b:qe)
 |cond (c:qh) (a b:qe)
 |block (id:Nat) (body:qe)
 |loop (body:qe)
 |rangeFunc (f:qh) (params:List Nat) (assign body:qe)
 |exit (id:Nat)
 |ret
 |grow (sz:Nat)
 |stuck
 deriving Inhabited
abbrev Env:=List (Nat×qa×Bool)
inductive qo where
 |normal
 |exit (id:Nat)
 |ret
 deriving DecidableEq,Inhabited
structure jp where
 env:Env
 params:List Nat
 assign:qe
 body:qe
 pending:Option qo
 deriving Inhabited
def kn:qe→Bool
 | .seq a b=>kn a&&kn b
 | .cond _ a b=>kn a&&kn b
 | .block _ b=>kn b
 | .loop b=>kn b
 | .rangeFunc ..=>false
 |_=>true
def noOwn (e:Env):Env:=e.map fun x=>(x.1,x.2.1,false)
inductive qn where
 |hole
 |cells (cs:List (qa×Bool))
 |map (es:List (qa×qa))
 |iter (s:List UInt8) (pos:Nat)
 |loop (l:jp)
 |bld (t e:Nat) (l:List UInt8)
 |dead
 |vec (sz ver:Nat) (xs:List qa)
 deriving Inhabited
abbrev j8:=List qn
structure qg where
 env:Env
 heap:j8
 deriving Inhabited
inductive ja where
 |tmp (t:Nat)
 |cell (t:Nat) (agg:Bool) (n:Nat)
 deriving Inhabited
structure qd where
 ntmps:Nat
 body:qe
 results:List ja
 deriving Inhabited
abbrev qjx:=Nat→Option (List qa→Option (qa×Bool))
abbrev jat:=Nat→Option (List qa→j8→Option (qa×Bool×j8))
abbrev q7z:=Nat→Option (List (qa×qa))
structure qt where
 fns:Nat→Option qd
 prims:qjx
 sprims:jat:=fun _=>none
 maps:q7z:=fun _=>none
def ye (t:Nat):Env→Option (qa×Bool)
 | []=>none
 |(s,x)::e=>bif Nat.beq s t then some x else ye t e
def zc (e:Env):qh→Option qa
 | .tmp t=>match ye t e with
  |some x=>some x.1
  |none=>none
 | .const v=>some v
def qa9 (e:Env):List qh→Option (List qa)
 | []=>some []
 |x::xs=>match zc e x with
  |some v=>match qa9 e xs with
   |some vs=>some (v::vs)
   |none=>none
  |none=>none
def qen (e:Env):List Nat→Env
 | []=>[]
 |t::ts=>match ye t e with
  |some x=>(t,x)::qen e ts
  |none=>qen e ts
def qfi:IntKind→Int→Bool
 | .i64,.ofNat m=>Nat.ble m 9223372036854775807
 | .i64,.negSucc m=>Nat.ble m 9223372036854775807
 | .i32,.ofNat m=>Nat.ble m 2147483647
 | .i32,.negSucc m=>Nat.ble m 2147483647
 | .i16,.ofNat m=>Nat.ble m 32767
 | .i16,.negSucc m=>Nat.ble m 32767
 | .i8,.ofNat m=>Nat.ble m 127
 | .i8,.negSucc m=>Nat.ble m 127
 | .u64,.ofNat m=>Nat.ble m 18446744073709551615
 | .u32,.ofNat m=>Nat.ble m 4294967295
 | .u16,.ofNat m=>Nat.ble m 65535
 | .u8,.ofNat m=>Nat.ble m 255
 |_,.negSucc _=>false
def j6 (k:IntKind)(n:Int):Int:=bif qfi k n then n else k.wrap n
def qa.flat:qa→List qa
 | .agg cs=>cs
 |v=>[v]
def qa.isAgg:qa→Bool
 | .agg _=>true
 |_=>false
def qa.isList:qa→Bool
 | .list ..=>true
 |_=>false
def qcm:Kd→qa→qa→Option Bool
 | .int,.int k a,.int k' b=>bif decide (k=k')then some (a == b)else none
 | .str,.str a,.str b=>some (a == b)
 | .bool,.bool a,.bool b=>some (a == b)
 |_,_,_=>none
def kz:List Kd→List qa→List qa→Option Bool
 | [],[],[]=>some true
 |k::ks,x::xs,y::ys=>match qcm k x y with
  |some true=>kz ks xs ys
  |some false=>some false
  |none=>none
 |_,_,_=>none
def part (agg:Bool)(cs:List qa)(off n:Nat):Option qa:=
 bif agg then(bif Nat.ble (off+n) cs.length then some (.agg ((cs.drop off).take n))else none)else cs[off]?
def bytesLess:List UInt8→List UInt8→Bool
 |_,[]=>false
 | [],_::_=>true
 |a::x,b::y=>a<b||(a == b&&bytesLess x y)
def qei (op:BinOp)(k:IntKind)(x y:Int):Option qa:=
 match op with
 | .add=>some (.int k (j6 k (x+y)))
 | .sub=>some (.int k (j6 k (x-y)))
 | .mul=>some (.int k (j6 k (x*y)))
 | .quo=>bif y == 0 then none else some (.int k (j6 k (x.tdiv y)))
 | .rem=>bif y == 0 then none else some (.int k (x.tmod y))
 | .eql=>some (.bool (x == y))
 | .neq=>some (.bool (x != y))
 | .lss=>some (.bool (decide (x<y)))
 | .leq=>some (.bool (decide (x≤y)))
 | .gtr=>some (.bool (decide (x > y)))
 | .geq=>some (.bool (decide (x≥y)))
 | .and=>some (.int k (k.wrap (BitVec.ofInt k.bits x &&& BitVec.ofInt k.bits y).toNat))
 | .or=>some (.int k (k.wrap (BitVec.ofInt k.bits x ||| BitVec.ofInt k.bits y).toNat))
 | .xor=>some (.int k (k.wrap (BitVec.ofInt k.bits x ^^^ BitVec.ofInt k.bits y).toNat))
 | .andNot=>some (.int k (k.wrap (BitVec.ofInt k.bits x &&& ~~~BitVec.ofInt k.bits y).toNat))
 |_=>none
def qoi (op:BinOp)(k:IntKind)(x y:Int):Option qa:=
 bif decide (y<0)then none else
 match op with
 | .shl=>some (.int k (j6 k (x*2^(min y.toNat k.bits))))
 | .shr=>some (.int k (x.fdiv (2^(min y.toNat k.bits))))
 |_=>none
def qqg (op:BinOp)(x y:List UInt8):Option qa:=
 match op with
 | .add=>bif Nat.ble (x.length+y.length) 4611686018427387904 then some (.str (x++y))else none
 | .eql=>some (.bool (x == y))
 | .neq=>some (.bool !(x == y))
 | .lss=>some (.bool (bytesLess x y))
 | .leq=>some (.bool (bytesLess x y||x == y))
 | .gtr=>some (.bool !(bytesLess x y||x == y))
 | .geq=>some (.bool !(bytesLess x y))
 |_=>none
def qam (op:BinOp):qa→qa→Option qa
 | .int k x,.int k' y=>match op with
  | .shl=>qoi .shl k x y
  | .shr=>qoi .shr k x y
  |op=>bif decide (k=k')then qei op k x y else none
 | .str x,.str y=>qqg op x y
 |_,_=>none
def ql4:UnOp→qa→Option qa
 | .neg,.int k n=>some (.int k (j6 k (0-n)))
 | .not,.bool b=>some (.bool !b)
 |_,_=>none
def max2:qa→qa→Option qa
 | .int k x,.int k' y=>bif decide (k=k')then some (.int k (if y > x then y else x))else none
 |_,_=>none
def min2:qa→qa→Option qa
 | .int k x,.int k' y=>bif decide (k=k')then some (.int k (if y<x then y else x))else none
 |_,_=>none
def qff (f:qa→qa→Option qa):qa→List qa→Option qa
 |x,[]=>some x
 |x,y::ys=>match f x y with
  |some z=>qff f z ys
  |none=>none
def qcr:List qa→List (Nat×List qa)→Option (List qa)
 |cs,[]=>some cs
 |cs,(off,vs)::rest=>bif Nat.ble (off+vs.length) cs.length then qcr (cs.take off++vs++cs.drop (off+vs.length)) rest else none
def ze:qa→Bool
 | .agg _=>false
 | .tup _=>false
 | .undef=>false
 | .any=>false
 |_=>true
def qa2 (e:Env):List (Nat×Nat×qh)→Option (List (Nat×List qa))
 | []=>some []
 |(off,n,x)::ps=>match zc e x with
  |some v=>bif Nat.beq v.flat.length n&&v.flat.all ze then
    (match qa2 e ps with
     |some r=>some ((off,v.flat)::r)
     |none=>none)else none
  |none=>none
def qdp (xs:List qa):List (Nat×qa)→Option (List qa)
 | []=>some xs
 |(i,v)::ps=>bif Nat.blt i xs.length then qdp (xs.set i v) ps else none
def qac (e:Env)(sz:Nat):List (Nat×qh)→Option (List (Nat×qa))
 | []=>some []
 |(i,x)::ps=>match zc e x with
  |some v=>bif Nat.beq v.flat.length sz&&v.flat.all ze then
   (match qac e sz ps with
    |some r=>some ((i,v)::r)
    |none=>none)else none
  |none=>none
def jse (zero:List qa)(agg:Bool):Option qa:=
 bif agg then some (.agg zero)else match zero with
  | [z]=>some z
  |_=>none
def y6 (h:j8)(b:Nat):Option qn:=h[b]?
def yn (h:j8)(b:Nat):Option (List (qa×Bool)):=
 match h[b]? with
 |some (.cells cs)=>some cs
 |_=>none
def y9 (cs:List (qa×Bool))(off n:Nat):Option (List qa):=
 bif Nat.ble (off+n) cs.length then some (((cs.drop off).take n).map (·.1))else none
def yj (cs:List (qa×Bool))(off:Nat)(vs:List qa):Option (List (qa×Bool)):=
 bif Nat.ble (off+vs.length) cs.length&&vs.all ze then some (cs.take off++vs.map (·,false)++cs.drop (off+vs.length))else none
mutual
def below (n:Nat):qa→Bool
 | .ms b _ _=>Nat.blt b n
 | .ptr b _=>Nat.blt b n
 | .map b=>Nat.blt b n
 | .vref b _ _=>Nat.blt b n
 | .vel b _ _=>Nat.blt b n
 | .vptr v=>below n v
 | .list _ _ xs=>zu n xs
 | .agg cs=>zu n cs
 | .tup vs=>zu n vs
 | .fn (.yield b) first captured=>Nat.blt b n&&zu n first&&zu n captured
 | .fn _ first captured=>zu n first&&zu n captured
 |_=>true
def zu (n:Nat):List qa→Bool
 | []=>true
 |x::xs=>below n x&&zu n xs
end
def qbw (n:Nat):Env→Bool
 | []=>true
 |(_,v,_)::e=>below n v&&qbw n e
def qbt (n:Nat):List (qa×Bool)→Bool
 | []=>true
 |(v,_)::e=>below n v&&qbt n e
def qbp (n:Nat):List (qa×qa)→Bool
 | []=>true
 |(k,v)::e=>below n k&&below n v&&qbp n e
def qcx (n:Nat):qn→Bool
 | .hole=>true
 | .cells cs=>qbt n cs
 | .map es=>qbp n es
 | .iter _ _=>true
 | .bld ..=>true
 | .dead=>true
 | .vec ..=>true
 | .loop l=>qbw n l.env
def ki (n:Nat):j8→Bool
 | []=>true
 |b::h=>qcx n b&&ki n h
def gc (n:Nat)(st:qg):qg:=
 bif Nat.ble st.heap.length n then st
 else bif qbw n st.env&&ki n (st.heap.take n)then { st with heap:=st.heap.take n }else st
def qea (v:qa):Bool:=below 0 v
def q5d (agg:Bool)(sz:Nat):Nat→List qa→Option (List qa)
 |0,_=>some []
 |n+1,cs=>bif Nat.ble sz cs.length then
   (match jse (cs.take sz) agg with
    |some v=>(match q5d agg sz n (cs.drop sz)with
     |some r=>some (v::r)
     |none=>none)
    |none=>none)else none
def qc3 (sz:Nat):Nat→List qa→List qa
 |0,_=>[]
 |n+1,cs=>(bif Nat.beq sz 1 then cs.headD .undef else .agg (cs.take sz))::qc3 sz n (cs.drop sz)
def q62:qa→Bool
 | .str _=>true
 | .list ..=>true
 |_=>false
def qye (off len:Nat)(cs:List (qa×Bool)):Bool:=Nat.beq off 0&&Nat.blt 1 (cs.length / len)&&Nat.beq (len*(cs.length / len)) cs.length&&cs.any (fun c=>q62 c.1)
def qa4 (h:j8):qa→Option qa
 | .ms b off len=>match yn h b with
  |some cs=>bif qye off len cs then some (.list false (cs.length / len) (qc3 (cs.length / len) len (cs.map (·.1))))else(match y9 cs off len with
   |some vs=>some (.list false 1 vs)
   |none=>none)
  |none=>none
 | .vref b ver len=>match h[b]? with
  |some (.vec sz ver' xs)=>bif Nat.beq ver ver'&&Nat.ble len xs.length then some (.list false sz (xs.take len))else none
  |_=>none
 |v=>some v
def qby (h:j8):List qa→Option (List qa)
 | []=>some []
 |v::vs=>match qa4 h v with
  |some x=>(match qby h vs with
   |some xs=>some (x::xs)
   |none=>none)
  |none=>none
def freezeR (h:j8):qa→Option qa
 | .agg cs=>match qby h cs with
  |some xs=>some (.agg xs)
  |none=>none
 | .tup vs=>match freezeT h vs with
  |some xs=>some (.tup xs)
  |none=>none
 |v=>qa4 h v
where
 freezeT (h:j8):List qa→Option (List qa)
  | []=>some []
  | .agg cs::vs=>match qby h cs with
   |some x=>(match freezeT h vs with
    |some xs=>some (.agg x::xs)
    |none=>none)
   |none=>none
  |v::vs=>match qa4 h v with
   |some x=>(match freezeT h vs with
    |some xs=>some (x::xs)
    |none=>none)
   |none=>none
def yz (kd:Kd)(k:qa):List (qa×qa)→Nat→Option (Option (Nat×qa))
 | [],_=>some none
 |(k',v)::es,i=>match qcm kd k k' with
  |some true=>some (some (i,v))
  |some false=>yz kd k es (i+1)
  |none=>none
def zg (s:List UInt8)(i:Nat):Nat×Nat:=Utf8.decode ⟨⟨s⟩⟩ i
structure qq where
 v:qa
 own:Bool
 strip:Option Nat
 heap:j8
def exl (l:List Nat):Bool:=match l with
 | []=>false
 |k::_=>Nat.ble 1000 k
def exq (h0:Nat)(l:List Nat)(b:Nat):Bool:=match l with
 | []=>false
 |k::_=>bif Nat.blt k 2000 then Nat.beq b (k-1000)&&Nat.blt b h0 else bif Nat.blt k 4000 then Nat.beq b (h0+(k-2000))else Nat.blt b h0
def yv (h0:Nat)(al:Option (List Nat))(b:Nat):Bool:=
 match al with
 |none=>true
 |some l=>bif exl l then exq h0 l b else(Nat.blt b h0||l.contains (b-h0))
def qgq (al:Option (List Nat)):Bool:=
 match al with
 |some (k::_)=>Nat.ble 4000 k
 |_=>false
def qgl (h0:Nat)(al:Option (List Nat))(b:Nat):Bool:=yv h0 al b&&!(qgq al)
def ym (h:j8)(b:Nat)(x:qn):Option j8:=bif Nat.blt b h.length then some (h.set b x)else none
def newBox (h0:Nat)(h:j8)(r:Nat)(x:qn):Option j8:=
 match h[h0+r]? with
 |some .hole=>some (h.set (h0+r) x)
 |_=>none
def val (h:j8)(v:qa):Option qq:=some ⟨v,false,none,h⟩
def qcj (h:j8):Option qa→Option qq
 |some v=>some ⟨v,false,none,h⟩
 |none=>none
def idx (n:Nat):qa→Option Nat
 | .int _ (.ofNat i)=>bif Nat.blt i n then some i else none
 |_=>none
def qo3 (n:Nat):qa→Option Nat
 | .int _ (.ofNat i)=>bif Nat.ble i n then some i else none
 |_=>none
def bnd (e:Env)(dflt n:Nat):Option qh→Option Nat
 |none=>some dflt
 |some x=>match zc e x with
  |some v=>qo3 n v
  |none=>none
def kh (e:Env):qh→Option Nat
 | .tmp t=>match ye t e with
  |some (_,true)=>some t
  |_=>none
 |_=>none
def kl (sz:Nat):qa→Option (List qa)
 | .list _ sy ys=>bif Nat.beq sz sy||ys.isEmpty then some ys else none
 | .str s=>bif Nat.beq sz 1 then some (s.map fun(c:UInt8)=>qa.int .u8 c.toNat)else none
 |_=>none
def qht (n:Bool)(sz:Nat)(xs ys:List qa):qa:=bif n&&ys.isEmpty then .list true 0 []else .list false sz (xs++ys)
def zh (e:Env)(h:j8):qw→Option qq
 | .move x=>qcj h (zc e x)
 | .take s=>match ye s e with
  |some (v,o)=>some ⟨v,o,some s,h⟩
  |none=>none
 | .pick c a b=>match zc e c with
  |some (.bool t)=>(match zc e a,zc e b with
    |some x,some y=>val h (bif t then x else y)
    |_,_=>none)
  |_=>none
 | .vbox n x=>match zc e x with
  |some v=>bif Nat.beq v.flat.length n&&v.flat.all ze then val h (.vptr v)else none
  |none=>none
 | .build zero parts=>match qa2 e parts with
  |some ps=>match qcr zero ps with
   |some cs=>val h (.agg cs)
   |none=>none
  |none=>none
 | .buildSlice sz len zero parts=>match qac e sz parts with
  |some ps=>match qdp (List.replicate len (bif Nat.beq sz 1 then zero.headD .undef else .agg zero)) ps with
   |some xs=>some ⟨.list false sz xs,true,none,h⟩
   |none=>none
  |none=>none
 | .valloc n=>some ⟨.pend n,true,none,h⟩
 | .vstore n s x=>match ye s e,zc e x with
  |some (.pend m,true),some v=>bif Nat.beq m n&&Nat.beq v.flat.length n&&v.flat.all ze then val h (.vptr v)else none
  |_,_=>none
 | .vload agg n x=>match zc e x with
  |some (.vptr v)=>bif Bool.xor agg v.isAgg||!(Nat.beq v.flat.length n)then none else val h v
  |_=>none
 | .nilCheck x=>match zc e x with
  |some (.ptr b o)=>val h (.ptr b o)
  |some (.vptr v)=>val h (.vptr v)
  |some (.fn (.func f) a b)=>val h (.fn (.func f) a b)
  |_=>none
 | .bin op x y=>match zc e x,zc e y with
  |some a,some b=>qcj h (qam op a b)
  |_,_=>none
 | .eqs ks neq x y=>match zc e x,zc e y with
  |some (.agg a),some (.agg b)=>bif Nat.beq a.length ks.length&&Nat.beq b.length ks.length then(match kz ks a b with
   |some t=>val h (.bool (bif neq then !t else t))
   |none=>none)else none
  |_,_=>none
 | .beq neq x y=>match zc e x,zc e y with
  |some (.bool a),some (.bool b)=>val h (.bool (bif neq then !(a == b)else a == b))
  |_,_=>none
 | .nilEq k neq x=>match k,zc e x with
  |0,some (.list n _ _)=>val h (.bool (bif neq then !n else n))
  |0,some (.ms ..)=>val h (.bool neq)
  |1,some .nilptr=>val h (.bool (!neq))
  |1,some (.ptr ..)=>val h (.bool neq)
  |1,some (.vptr ..)=>val h (.bool neq)
  |2,some .nilmap=>val h (.bool (!neq))
  |2,some (.map ..)=>val h (.bool neq)
  |3,some .nilfn=>val h (.bool (!neq))
  |3,some (.fn ..)=>val h (.bool neq)
  |_,_=>none
 | .un op x=>match zc e x with
  |some v=>qcj h (ql4 op v)
  |none=>none
 | .conv k x=>match zc e x with
  |some (.int _ n)=>val h (.int k (j6 k n))
  |_=>none
 | .convStr x=>match zc e x with
  |some (.str s)=>val h (.str s)
  |some (.int _ n)=>val h (.str (Utf8.encode n).data.toList)
  |_=>none
 | .field agg off n x=>match zc e x with
  |some (.agg cs)=>qcj h (part agg cs off n)
  |_=>none
 | .index agg len n x i=>match zc e x,zc e i with
  |some (.agg cs),some j=>(match idx len j with
   |some j=>qcj h (part agg cs (j*n) n)
   |none=>none)
  |_,_=>none
 | .strIndex x i=>match zc e x,zc e i with
  |some (.str s),some j=>(match idx s.length j with
   |some j=>(match s[j]? with
    |some c=>val h (.int .u8 c.toNat)
    |none=>none)
   |none=>none)
  |_,_=>none
 | .fieldAddr agg off n x=>match zc e x with
  |some (.ptr b o)=>val h (.ptr b (o+off))
  |some (.vptr (.agg cs))=>(match part agg cs off n with
   |some v=>bif Bool.xor agg v.isAgg then none else val h (.vptr v)
   |none=>none)
  |some (.vel b ver o)=>val h (.vel b ver (o+off))
  |_=>none
 | .indexAddr sz x i=>match zc e x,zc e i with
  |some (.list _ sz' xs),some j=>bif Nat.beq sz sz'||xs.isEmpty then(match idx xs.length j with
   |some j=>(match xs[j]? with
    |some v=>val h (.vptr v)
    |none=>none)
   |none=>none)else none
  |some (.ms b o len),some j=>(match idx len j with
   |some j=>val h (.ptr b (o+j*sz))
   |none=>none)
  |some (.vref b ver len),some j=>(match idx len j with
   |some j=>val h (.vel b ver (j*sz))
   |none=>none)
  |_,_=>none
 | .indexArr agg len sz x i=>match zc e x,zc e i with
  |some (.ptr b o),some j=>(match idx len j with
   |some j=>val h (.ptr b (o+j*sz))
   |none=>none)
  |some (.vptr (.agg cs)),some j=>(match idx len j with
   |some j=>(match part agg cs (j*sz) sz with
    |some v=>bif Bool.xor agg v.isAgg then none else val h (.vptr v)
    |none=>none)
   |none=>none)
  |_,_=>none
 | .slice sz x lo hi=>match zc e x with
  |some (.list n sz' xs)=>bif Nat.beq sz sz'||xs.isEmpty then(match bnd e xs.length xs.length hi with
   |some j=>(match bnd e 0 j lo with
    |some i=>val h (.list n sz' ((xs.take j).drop i))
    |none=>none)
   |none=>none)else none
  |some (.ms b o len)=>(match bnd e len len hi with
   |some j=>(match bnd e 0 j lo with
    |some i=>bif Nat.beq i 0||Nat.blt i j then val h (.ms b (o+i*sz) (j-i))else none
    |none=>none)
   |none=>none)
  |some (.vref b ver len)=>(match bnd e len len hi with
   |some j=>(match bnd e 0 j lo with
    |some i=>bif Nat.beq i 0 then val h (.vref b ver j)else none
    |none=>none)
   |none=>none)
  |_=>none
 | .strSlice x lo hi=>match zc e x with
  |some (.str s)=>(match bnd e s.length s.length hi with
   |some j=>(match bnd e 0 j lo with
    |some i=>val h (.str ((s.take j).drop i))
    |none=>none)
   |none=>none)
  |_=>none
 | .sliceArr len sz x lo hi=>match zc e x with
  |some (.ptr b o)=>(match bnd e len len hi with
   |some j=>(match bnd e 0 j lo with
    |some i=>bif Nat.beq i 0||Nat.blt i j then val h (.ms b (o+i*sz) (j-i))else none
    |none=>none)
   |none=>none)
  |_=>none
 | .mkfunc f first captured=>match qa9 e first,qa9 e captured with
  |some a,some b=>val h (.fn f a b)
  |_,_=>none
 | .len k x=>match k,zc e x with
  |1,some (.list _ _ xs)=>val h (.int .i64 xs.length)
  |1,some (.ms _ _ n)=>val h (.int .i64 n)
  |1,some (.vref _ _ n)=>val h (.int .i64 n)
  |2,some (.list true _ _)=>val h (.int .i64 0)
  |0,some (.str s)=>val h (.int .i64 s.length)
  |_,_=>none
 | .append none sz bytes x y=>match zc e x,zc e y with
  |some (.list n sz' xs),some vy=>
   bif n||(kh e x).isSome then
    (match kl sz vy with
     |some ys=>
      bif (Nat.beq sz sz'||(xs.isEmpty&&n))&&Nat.ble (xs.length+ys.length) 1073741824&&Nat.ble bytes 4096&&Nat.blt 0 sz then
       some ⟨qht n sz xs ys,true,kh e x,h⟩
      else none
     |none=>none)
   else none
  |_,_=>none
 | .mkslice none sz bytes zero n c=>match zc e n,zc e c with
  |some (.int .i64 (.ofNat n)),some (.int .i64 (.ofNat c))=>
   bif Nat.beq n c&&Nat.ble n 1073741824&&Nat.ble bytes 4096&&Nat.beq zero.length sz&&Nat.blt 0 sz&&zero.all ze then
    some ⟨.list false sz (List.replicate n (bif Nat.beq sz 1 then zero.headD .undef else .agg zero)),true,none,h⟩else none
  |_,_=>none
 | .mx args=>match qa9 e args with
  |some (v::vs)=>qcj h (qff max2 v vs)
  |_=>none
 | .mn args=>match qa9 e args with
  |some (v::vs)=>qcj h (qff min2 v vs)
  |_=>none
 | .extract x i=>match zc e x with
  |some (.tup vs)=>qcj h vs[i]?
  |_=>none
 |_=>none
def qde (es:List (qa×qa))(i:Nat)(v:qa):List (qa×qa):=
 match es,i with
 | [],_=>[]
 |(k,_)::r,0=>(k,v)::r
 |x::r,i+1=>x::qde r i v
def qaf (h0:Nat)(al:Option (List Nat))(e:Env)(h:j8):qw→Option qq
 | .load agg n x=>match zc e x with
  |some (.ptr b o)=>bif yv h0 al b then(match yn h b with
   |some cs=>(match y9 cs o n with
    |some vs=>bif agg then val h (.agg vs)else(match vs with
     | [v]=>val h v
     |_=>none)
    |none=>none)
   |none=>none)else none
  |some (.vptr v)=>bif Bool.xor agg v.isAgg||!(Nat.beq v.flat.length n)then none else val h v
  |some (.vel b ver o)=>bif qgl h0 al b then(match y6 h b with
   |some (.vec _ ver' xs)=>bif Nat.beq ver ver'&&Nat.ble (o+n) (xs.flatMap qa.flat).length then(bif agg then val h (.agg (((xs.flatMap qa.flat).drop o).take n))else(match((xs.flatMap qa.flat).drop o).take n with
     | [v]=>val h v
     |_=>none))else none
   |_=>none)else none
  |_=>none
 | .lookup kd zero ok m k=>match zc e m,zc e k with
  |some (.map b),some kv=>bif yv h0 al b then(match y6 h b with
   |some (.map es)=>(match yz kd kv es 0 with
    |some (some (_,v))=>val h (bif ok then .tup [v,.bool true]else v)
    |some none=>val h (bif ok then .tup [zero,.bool false]else zero)
    |none=>none)
   |_=>none)else none
  |some .nilmap,some _=>val h (bif ok then .tup [zero,.bool false]else zero)
  |_,_=>none
 | .len _ x=>match zc e x with
  |some (.map b)=>bif yv h0 al b then(match y6 h b with
   |some (.map es)=>val h (.int .i64 es.length)
   |_=>none)else none
  |some .nilmap=>val h (.int .i64 0)
  |_=>none
 |_=>none
def q3s (es:List (qa×qa)):Option (Nat×qa)→List (qa×qa)
 |some (i,_)=>es.eraseIdx i
 |none=>es
def qim:Option Nat→Nat→Bool
 |none,_=>true
 |some a,o=>Nat.beq a o
def qig (sz len:Nat):qa→Option (Nat×List qa)
 | .list _ sy ys=>bif Nat.beq sz sy||ys.isEmpty then some (min ys.length len,(ys.take len).flatMap qa.flat)else none
 |_=>none
def cellsOf (vs:List qa):List (qa×Bool):=vs.map (·,false)
def zj (h0:Nat)(al:Option (List Nat))(e:Env)(h:j8):qw→Option qq
 | .alloc r zero=>bif zero.all ze then(match newBox h0 h r (.cells (cellsOf zero))with
  |some h'=>val h' (.ptr (h0+r) 0)
  |none=>none)else none
 | .box r n x=>match zc e x with
  |some v=>bif Nat.beq v.flat.length n&&v.flat.all ze then(match newBox h0 h r (.cells (cellsOf v.flat))with
   |some h'=>val h' (.ptr (h0+r) 0)
   |none=>none)else none
  |none=>none
 | .loadTake off x=>match zc e x with
  |some (.ptr b o)=>bif yv h0 al b&&qim off o then(match yn h b with
   |some cs=>(match cs[o]? with
    |some (v,w)=>(match ym h b (.cells (cs.set o (v,false)))with
     |some h'=>some ⟨v,w,none,h'⟩
     |none=>none)
    |none=>none)
   |none=>none)else none
  |_=>none
 | .store n a x=>match zc e a,zc e x with
  |some (.ptr b o),some v=>bif yv h0 al b then(match yn h b with
   |some cs=>(match kh e x with
    |some t=>bif Nat.beq n 1&&v.isList&&Nat.blt o cs.length then(match ym h b (.cells (cs.set o (v,true)))with
      |some h'=>some ⟨.undef,false,some t,h'⟩
      |none=>none)else none
    |none=>bif Nat.beq v.flat.length n then(match yj cs o v.flat with
     |some cs'=>(match ym h b (.cells cs')with
      |some h'=>val h' .undef
      |none=>none)
     |none=>none)else none)
   |none=>none)else none
  |_,_=>none
 | .bld r t e=>match newBox h0 h r (.bld t e [])with
  |some h'=>val h' (.ptr (h0+r) 0)
  |none=>none
 | .mkmap r=>match newBox h0 h r (.map [])with
  |some h'=>val h' (.map (h0+r))
  |none=>none
 | .mapUpdate kd m k x=>match zc e m,zc e k,zc e x with
  |some (.map b),some kv,some v=>bif yv h0 al b then(match y6 h b with
   |some (.map es)=>(match yz kd kv es 0 with
    |some (some (i,_))=>(match ym h b (.map (qde es i v))with
     |some h'=>val h' .undef
     |none=>none)
    |some none=>bif Nat.ble es.length 1073741824 then(match ym h b (.map (es++[(kv,v)]))with
     |some h'=>val h' .undef
     |none=>none)else none
    |none=>none)
   |_=>none)else none
  |_,_,_=>none
 | .delete kd m k=>match zc e m,zc e k with
  |some (.map b),some kv=>bif yv h0 al b then(match y6 h b with
   |some (.map es)=>(match yz kd kv es 0 with
    |some r=>(match ym h b (.map (q3s es r))with
     |some h'=>val h' (.tup [])
     |none=>none)
    |none=>none)
   |_=>none)else none
  |_,_=>none
 | .mkslice (some r) sz bytes zero n c=>match zc e n,zc e c with
  |some (.int .i64 (.ofNat n)),some (.int .i64 (.ofNat c))=>
   bif Nat.beq n c&&Nat.ble n 1073741824&&Nat.ble bytes 4096&&Nat.beq zero.length sz&&Nat.blt 0 sz&&zero.all ze then
    (match newBox h0 h r (.cells (cellsOf (List.replicate n zero).flatten))with
     |some h'=>val h' (.ms (h0+r) 0 n)
     |none=>none)else none
  |_,_=>none
 | .append (some r) sz bytes x y=>match zc e x,zc e y with
  |some (.list false sz' []),some vy=>
   bif (kh e x).isSome&&Nat.beq sz sz' then
    (match kl sz vy with
     |some ys=>
      bif Nat.ble ys.length 1073741824&&Nat.ble bytes 4096&&Nat.blt 0 sz then
       (match newBox h0 h r (.cells (cellsOf (ys.flatMap qa.flat)))with
        |some h'=>some ⟨.ms (h0+r) 0 ys.length,false,kh e x,h'⟩
        |none=>none)
      else none
     |none=>none)
   else none
  |_,_=>none
 | .vapp r sz bytes x y=>match zc e x,zc e y with
  |some (.list true _ []),some vy=>(match kl sz vy with
    |some ys=>
     bif Nat.ble ys.length 1073741824&&Nat.ble bytes 4096&&Nat.blt 0 sz&&!ys.isEmpty&&zu 0 ys&&Nat.blt r 1000 then
      (match newBox h0 h r (.vec sz 0 ys)with
       |some h'=>val h' (.vref (h0+r) 0 ys.length)
       |none=>none)else none
    |none=>none)
  |some (.vref b ver len),some vy=>(match y6 h b with
   |some (.vec sz' ver' xs)=>(match kl sz vy with
    |some ys=>
     bif Nat.beq ver ver'&&Nat.beq sz sz'&&Nat.ble len xs.length&&Nat.ble (len+ys.length) 1073741824&&Nat.ble bytes 4096&&Nat.blt 0 sz&&zu 0 ys&&Nat.blt r 1000 then
      (match ym h b (.vec sz (ver+1) (xs.take len++ys))with
       |some h'=>val h' (.vref b (ver+1) (len+ys.length))
       |none=>none)else none
    |none=>none)
   |_=>none)
  |_,_=>none
 | .vlit r sz len zero parts=>match qac e sz parts with
  |some ps=>match qdp (List.replicate len (bif Nat.beq sz 1 then zero.headD .undef else .agg zero)) ps with
   |some xs=>bif zu 0 xs then(match newBox h0 h r (.vec sz 0 xs)with
    |some h'=>val h' (.vref (h0+r) 0 xs.length)
    |none=>none)else none
   |none=>none
  |none=>none
 | .copy sz x y=>match zc e x,zc e y with
  |some (.ms b o len),some vy=>bif yv h0 al b then(match yn h b with
   |some cs=>(match qig sz len vy with
    |some (n,vs)=>(match yj cs o vs with
     |some cs'=>bif Nat.beq vs.length (n*sz)then(match ym h b (.cells cs')with
      |some h'=>val h' (.int .i64 n)
      |none=>none)else none
     |none=>none)
    |none=>none)
   |none=>none)else none
  |_,_=>none
 | .srange r x=>match zc e x with
  |some (.str s)=>(match newBox h0 h r (.iter s 0)with
   |some h'=>val h' (.ptr (h0+r) 0)
   |none=>none)
  |_=>none
 | .snext it=>match zc e it with
  |some (.ptr b 0)=>bif yv h0 al b then(match y6 h b with
   |some (.iter s pos)=>bif Nat.blt pos s.length then
     (match ym h b (.iter s (pos+(zg s pos).2))with
      |some h'=>val h' (.tup [.bool true,.int .i64 pos,.int .i32 (zg s pos).1])
      |none=>none)else val h (.tup [.bool false])
   |_=>none)else none
  |_=>none
 |_=>none
def qeo:Nat→List qa→Env
 |_,[]=>[]
 |i,v::vs=>(i,v,false)::qeo (i+1) vs
def qd4 (st:qg):ja→Option (qa×Bool)
 | .tmp t=>ye t st.env
 | .cell t agg n=>match ye t st.env with
  |some (.ptr b o,_)=>(match yn st.heap b with
   |some cs=>(match y9 cs o n with
    |some vs=>bif agg then some (.agg vs,false)else(match cs[o]? with
     |some x=>some x
     |none=>none)
    |none=>none)
   |none=>none)
  |_=>none
def qa1 (st:qg):List ja→Option (List (qa×Bool))
 | []=>some []
 |r::rs=>match qd4 st r with
  |some x=>(match qa1 st rs with
   |some xs=>some (x::xs)
   |none=>none)
  |none=>none
def yt:List (qa×Bool)→qa×Bool
 | [x]=>x
 |xs=>(.tup (xs.map (·.1)),false)
abbrev XC:=qe→qg→Option (qo×qg)
def qa8 (st:qg):List ja→j8
 | [.cell t false _]=>match ye t st.env with
  |some (.ptr b o,_)=>(match yn st.heap b with
   |some cs=>(match cs[o]? with
    |some (v,true)=>st.heap.set b (.cells (cs.set o (v,false)))
    |_=>st.heap)
   |none=>st.heap)
  |_=>st.heap
 |_=>st.heap
def qcy (xc:XC)(f:qd)(args:List qa)(h:j8):Option (qa×Bool×j8):=
 bif Nat.ble args.length f.ntmps then
  match xc f.body ⟨qeo 0 args,h⟩with
  |some (.normal,st)=>(match qa1 st f.results with
   |some xs=>some ((yt xs).1,(yt xs).2,qa8 st f.results)
   |none=>none)
  |some (.ret,st)=>(match qa1 st f.results with
   |some xs=>some ((yt xs).1,(yt xs).2,qa8 st f.results)
   |none=>none)
  |_=>none
 else none
def zf (p:qt)(xc:XC)(k:Nat)(args:List qa)(h:j8):Option (qa×Bool×j8):=
 match p.fns k with
 |some f=>qcy xc f args h
 |none=>match p.sprims k with
  |some f=>f args h
  |none=>none
def jy (p:qt)(xc:XC)(k:Nat)(args:List qa):Option (qa×Bool):=
 match p.prims k with
 |some f=>(match f args with
  |some (v,o)=>bif qea v then some (v,o)else none
  |none=>none)
 |none=>match zf p xc k args []with
  |some (v,o,h)=>(match freezeR h v with
   |some v'=>bif qea v' then some (v',o&&v.isList)else none
   |none=>none)
  |none=>none
def yi (n:Nat)(v:qa)(h:j8):j8:=
 bif Nat.ble h.length n then h else bif below n v&&ki n (h.take n)then h.take n else h
def qf2 (e:Env):List Nat→List qa→Option Env
 | [],[]=>some e
 |t::ts,v::vs=>qf2 ((t,v,false)::e) ts vs
 |_,_=>none
def qbh (xc:XC)(b:Nat)(args:List qa)(h:j8):Option (qa×j8):=
 match y6 h b with
 |some (.loop l)=>match l.pending,qf2 (noOwn l.env) l.params args with
  |none,some e=>(match xc l.assign ⟨e,h⟩with
   |some (.normal,st)=>(match y6 st.heap b with
    |some (.loop l1)=>bif l1.pending.isNone then(match xc l.body { st with heap:=st.heap.set b (.loop { l1 with pending:=some .normal }) }with
     |some (x,st')=>(match y6 st'.heap b with
      |some (.loop l2)=>some (.bool (match x with | .normal=>true|_=>false),yi h.length (.bool true) (st'.heap.set b (.loop { l2 with pending:=match x with | .normal=>none|x=>some x })))
      |_=>none)
     |none=>none)else none
    |_=>none)
   |_=>none)
  |_,_=>none
 |_=>none
def qdo:qa→Bool
 | .bool _=>true
 | .int _ _=>true
 | .str _=>true
 |_=>false
def q29 (h:j8):qa→Option qa
 | .ms b 0 len=>(match yn h b with
  |some cs=>bif Nat.beq (len*(cs.length / len)) cs.length&&Nat.blt 0 (cs.length / len)&&cs.all (fun c=>qdo c.1)then some (.list false (cs.length / len) (qc3 (cs.length / len) len (cs.map (·.1))))else(bif Nat.beq len 0 then some (.list false 8 [])else none)
  |none=>none)
 |v=>some v
def qg9 (h:j8):List qa→Option (List qa)
 | []=>some []
 |v::vs=>match q29 h v,qg9 h vs with
  |some x,some xs=>some (x::xs)
  |_,_=>none
def qjb:qa→Bool
 | .agg cs=>cs.all qdo
 |v=>qdo v
def qs0 (v:qa):qa:=bif qjb v then v else .any
def q9w:qa→Bool→Option (qa×Bool)
 | .list false sz xs,true=>bif (xs.flatMap qa.flat).all qdo then some (.list false sz xs,true)else none
 | .list true sz [],_=>some (.list true sz [],false)
 | .tup vs,_=>some (.tup (vs.map qs0),false)
 |v,_=>bif qjb v then some (v,false)else none
def qhc (h0:Nat)(h:j8)(r:Nat):qa→Bool→Option qq
 | .list true sz [],_=>(match newBox h0 h r .dead with
  |some h'=>val h' (.list true sz [])
  |none=>none)
 | .list false sz xs,true=>bif (xs.flatMap qa.flat).all qdo then(match newBox h0 h r (.cells (cellsOf (xs.flatMap qa.flat)))with
  |some h'=>val h' (.ms (h0+r) 0 xs.length)
  |none=>none)else none
 |_,_=>none
def qap (p:qt)(xc:XC)(h0:Nat)(e:Env)(h:j8)(md:jc)(f:qh)(args:List qh):Option qq:=
 match zc e f,qa9 e args with
 |some (.fn (.func k) first captured),some vs=>
  (match md with
   | .iso=>bif zu 0 (first++vs++captured)then(match jy p xc k (first++vs++captured)with
     |some (v,o)=>some ⟨v,o,none,h⟩
     |none=>none)else none
   | .frz r=>bif (first++vs++captured).isEmpty then(match p.maps k with
     |some es=>(match newBox h0 h r (.map es)with
      |some h'=>val h' (.map (h0+r))
      |none=>none)
     |none=>none)else bif zu 0 (first++vs++captured)then(match jy p xc k (first++vs++captured)with
     |some (v,o)=>qhc h0 h r v o
     |none=>none)else none
   | .red=>(match qg9 h (first++vs++captured)with
    |some us=>bif zu 0 us then(match jy p xc k us with
     |some (v,o)=>(match q9w v o with
      |some (v',o')=>some ⟨v',o',none,h⟩
      |none=>none)
     |none=>none)else none
    |none=>none)
   | .shr=>(match zf p xc k (first++vs++captured) h with
    |some (v,o,h')=>some ⟨v,o,none,yi h.length v h'⟩
    |none=>none))
 |some (.fn (.yield b) [] []),some vs=>
  (match md with
   | .shr=>(match qbh xc b vs h with
    |some (v,h')=>val h' v
    |none=>none)
   |_=>none)
 |_,_=>none
def j9 (p:qt)(xc:XC)(h0:Nat)(al:Option (List Nat))(e:Env)(h:j8)(op:qw):Option qq:=
 match op with
 | .call md f args=>qap p xc h0 e h md f args
 | .load agg n x=>qaf h0 al e h (.load agg n x)
 | .lookup kd z ok m k=>qaf h0 al e h (.lookup kd z ok m k)
 | .alloc r z=>zj h0 al e h (.alloc r z)
 | .box r n x=>zj h0 al e h (.box r n x)
 | .loadTake off x=>zj h0 al e h (.loadTake off x)
 | .store n a x=>zj h0 al e h (.store n a x)
 | .bld r t e'=>zj h0 al e h (.bld r t e')
 | .mkmap r=>zj h0 al e h (.mkmap r)
 | .mapUpdate kd m k x=>zj h0 al e h (.mapUpdate kd m k x)
 | .delete kd m k=>zj h0 al e h (.delete kd m k)
 | .mkslice (some r) sz b z n c=>zj h0 al e h (.mkslice (some r) sz b z n c)
 | .append (some r) sz b x y=>zj h0 al e h (.append (some r) sz b x y)
 | .vapp r sz b x y=>zj h0 al e h (.vapp r sz b x y)
 | .vlit r sz n z ps=>zj h0 al e h (.vlit r sz n z ps)
 | .copy sz x y=>zj h0 al e h (.copy sz x y)
 | .srange r x=>zj h0 al e h (.srange r x)
 | .snext it=>zj h0 al e h (.snext it)
 |op=>zh e h op
def k9 (e:Env):Option Nat→Env
 |none=>e
 |some s=>match ye s e with
  |some (v,_)=>(s,v,false)::e
  |none=>e
def qdq (e:Env)(d:Option Nat)(v:qa)(o:Bool):Env:=
 match d with
 |some d=>(d,v,o)::e
 |none=>e
def qcb (e:Env):Option (Nat×Bool)→Option Bool
 |none=>some true
 |some (s,want)=>match ye s e with
  |some (.bool b,_)=>some (b == want)
  |some (.undef,_)=>some false
  |_=>none
def qao (p:qt)(xc:XC)(h0:Nat)(o:qu)(st:qg):Option qg:=
 match qcb st.env o.guard with
 |some true=>(match j9 p xc h0 o.al st.env st.heap o.op with
  |some r=>some ⟨qdq (k9 st.env r.strip) o.dst r.v r.own,r.heap⟩
  |none=>none)
 |some false=>some ⟨qdq st.env o.dst .undef false,st.heap⟩
 |none=>none
def qb3 (p:qt)(xc:XC)(h0:Nat):List qu→qg→Option qg
 | [],st=>some st
 |o::os,st=>match qao p xc h0 o st with
  |some st'=>qb3 p xc h0 os st'
  |none=>none
def qkd (st:qg):Option (List Nat)→qg
 |none=>st
 |some l=>{ st with env:=qen st.env l }
def qci (p:qt)(xc:XC)(na:Nat)(ops:List qu)(keep:Option (List Nat))(st:qg):Option (qo×qg):=
 match qb3 p xc st.heap.length ops { st with heap:=st.heap++List.replicate na .hole }with
 |some st'=>some (.normal,qkd st' keep)
 |none=>none
def qdd (p:qt)(xc:XC)(f:qh)(params:List Nat)(assign body:qe)(st:qg):Option (qo×qg):=
 bif kn assign&&kn body then
  match zc st.env f with
  |some (.fn (.func k) first captured)=>
   (match zf p xc k (first++[.fn (.yield st.heap.length) [] []]++captured) (st.heap++[.loop ⟨st.env,params,assign,body,none⟩])with
    |some (_,_,h')=>(match y6 h' st.heap.length with
     |some (.loop l)=>bif ki st.heap.length (h'.take st.heap.length)then
       (match l.pending with
       |none=>some (.normal,{ st with heap:=h'.take st.heap.length })
       |some .normal=>none
       |some x=>some (x,{ st with heap:=h'.take st.heap.length }))else none
     |_=>none)
    |none=>none)
  |_=>none
 else none
def yf (p:qt):Nat→XC
 |0,_,_=>none
 |n+1,c,st=>match c with
  | .skip=>some (.normal,st)
  | .region na ops keep=>qci p (yf p n) na ops keep st
  | .seq a b=>match yf p n a st with
   |some (.normal,st')=>yf p n b st'
   |r=>r
  | .cond c a b=>match zc st.env c with
   |some (.bool t)=>bif t then yf p n a st else yf p n b st
   |_=>none
  | .block id body=>match yf p n body st with
   |some (.exit id',st')=>bif Nat.beq id' id then some (.normal,st')else some (.exit id',st')
   |r=>r
  | .loop body=>match yf p n body st with
   |some (.normal,st')=>yf p n (.loop body) (gc st.heap.length st')
   |r=>r
  | .rangeFunc f params assign body=>qdd p (yf p n) f params assign body st
  | .exit id=>some (.exit id,st)
  | .ret=>some (.ret,st)
  | .grow sz=>match ye 0 st.env,ye 1 st.env with
   |some (.list true _ _,_),some (.int .i64 (.ofNat m),_)=>bif Nat.blt 0 m&&Nat.ble m 1073741824 then some (.normal,{ st with env:=[(0,.list false sz [],true)] })else none
   |_,_=>none
  | .stuck=>none
structure qb where
 takes:List Nat:=[]
 muts:List Nat:=[]
 offs:List (Nat×Nat):=[]
 shr:List (Nat×Nat):=[]
 frz:List (Nat×Nat):=[]
 red:List (Nat×Nat):=[]
 keep:List (Nat×List Nat):=[]
 vl:List Nat:=[]
 vec:List Nat:=[]
 ex:List ((Nat×Nat)×Nat):=[]
 deriving Inhabited
def qof:Value→Option qa
 | .bool b=>some (.bool b)
 | .int k n=>some (.int k n)
 | .string s=>some (.str s.data.toList)
 | .slice none 0 0=>some (.list true 0 [])
 | .pointer none=>some .nilptr
 | .map none=>some .nilmap
 | .nilFunc=>some .nilfn
 |_=>none
def qf6:List Value→Option (List qa)
 | []=>some []
 |v::vs=>match qof v with
  |some x=>match qf6 vs with
   |some xs=>some (x::xs)
   |none=>none
  |none=>none
def ofValue:Value→Option qa
 | .agg cs=>match qf6 cs.toList with
  |some xs=>some (.agg xs)
  |none=>none
 |v=>qof v
def zq:Operand→Option qh
 | .tmp t=>some (.tmp t)
 | .const v=>match ofValue v with
  |some x=>some (.const x)
  |none=>none
 | .func f=>some (.const (.fn (.func f) [] []))
 | .global _=>none
def qgt:List Operand→Option (List qh)
 | []=>some []
 |x::xs=>match zq x with
  |some y=>match qgt xs with
   |some ys=>some (y::ys)
   |none=>none
  |none=>none
def qew:Option Operand→Option (Option qh)
 |none=>some none
 |some x=>match zq x with
  |some y=>some (some y)
  |none=>none
def qak (P:Program)(t:TypeId):Option Bool:=
 match P.underlying t with
 |some (.struct _)=>some true
 |some (.array _ _)=>some true
 |some _=>some false
 |none=>none
def yh (P:Program)(t:TypeId):Option Nat:=(P.info? t).map (·.size)
def qds (P:Program)(t:TypeId):Option Nat:=(P.info? t).map (·.bytes)
def qan (P:Program)(t:TypeId):Option (List qa):=
 match P.info? t with
 |some i=>match i.zero with
  |some z=>qf6 z.cells.toList
  |none=>none
 |none=>none
def jfs (P:Program)(t:TypeId):Option TypeId:=
 match P.underlying t with
 |some (.struct fs)=>match fs.toList with
  | [f0,f1]=>match P.underlying f0.type,P.underlying f1.type with
   |some (.pointer t'),some (.slice e)=>match P.underlying e,qan P t with
    |some (.int .u8),some [.nilptr,.list true _ []]=>if t' == t then some e else none
    |_,_=>none
   |_,_=>none
  |_=>none
 |_=>none
def jac (P:Program)(t:TypeId):Option qa:=
 match P.info? t with
 |some i=>match i.zero with
  |some z=>ofValue z
  |none=>none
 |none=>none
def qn2 (g:TypeId→Option (List Kd)):Nat→List Field→Option (List Kd)
 |_,[]=>some []
 | off, f :: fs => if f.name != "_" && f.offset == off then (match g f.type with
   |some ks=>(match qn2 g (off+ks.length) fs with
    |some r=>some (ks++r)
    |none=>none)
   |none=>none)else none
def qgf (P:Program):Nat→TypeId→Option (List Kd)
 |0,_=>none
 |n+1,t=>match P.underlying t with
  |some (.int _)=>if yh P t == some 1 then some [.int]else none
  |some .string=>if yh P t == some 1 then some [.str]else none
  |some .bool=>if yh P t == some 1 then some [.bool]else none
  |some (.struct fs)=>(match qn2 (qgf P n) 0 fs.toList with
   |some ks=>if !P.stoodInHeld t&&yh P t == some ks.length then some ks else none
   |none=>none)
  |some (.array len e)=>(match qgf P n e with
   |some ks=>if yh P t == some (len*ks.length)then some (List.replicate len ks).flatten else none
   |none=>none)
  |_=>none
def qjr:Nat:=12
def kdT (P:Program)(t:TypeId):Option Kd:=
 match P.underlying t with
 |some (.int _)=>some .int
 |some .string=>some .str
 |some .bool=>some .bool
 |_=>none
def cEq (P:Program)(op:BinOp)(neq:Bool)(t:TypeId)(x y:Operand):Option qw:=
 match P.underlying t with
 |some (.int _)|some .string=>match zq x,zq y with
  |some a,some b=>some (.bin op a b)
  |_,_=>none
 |some .bool=>match zq x,zq y with
  |some a,some b=>some (.beq neq a b)
  |_,_=>none
 |some (.struct _)|some (.array _ _)=>
  if !P.eqGuardType P.depth t then match qgf P qjr t,zq x,zq y with
   |some ks,some a,some b=>some (.eqs ks neq a b)
   |_,_,_=>none
  else none
 |some (.slice _)=>match y with
  | .const (.slice none 0 0)=>(zq x).map (.nilEq 0 neq)
  |_=>none
 |some (.pointer _)=>match y with
  | .const (.pointer none)=>(zq x).map (.nilEq 1 neq)
  |_=>none
 |some (.map _ _)=>match y with
  | .const (.map none)=>(zq x).map (.nilEq 2 neq)
  |_=>none
 |some (.func _ _ _)=>match y with
  | .const .nilFunc=>(zq x).map (.nilEq 3 neq)
  |_=>none
 |_=>none
def jhy (P:Program)(op:BinOp)(t:TypeId)(x y:Operand):Option qw:=
 match op with
 | .eql=>cEq P .eql false t x y
 | .neq=>cEq P .neq true t x y
 |op=>match zq x,zq y with
  |some a,some b=>some (.bin op a b)
  |_,_=>none
def qi4 (P:Program)(place:Nat→Option (Nat×Nat)):List (Nat×Operand)→Option (List (Nat×Nat×qh))
 | []=>some []
 |(i,x)::ps=>match place i,zq x,qi4 P place ps with
  |some (off,n),some y,some r=>some ((off,n,y)::r)
  |_,_,_=>none
def qi3:List (Nat×Operand)→Option (List (Nat×qh))
 | []=>some []
 |(i,x)::ps=>match zq x,qi3 ps with
  |some y,some r=>some ((i,y)::r)
  |_,_=>none
def q6f (h:qb)(dst:Option Nat)(x:Operand):Option Nat:=
 match x,dst with
 | .tmp s,some d=>if h.takes.contains d then some s else none
 |_,_=>none
def qey:TypeDesc→Bool
 | .slice _=>true
 | .string=>true
 |_=>false
def jc.at (r:Nat):jc→jc
 | .frz _=>.frz r
 |m=>m
def qo8 (P:Program)(h:qb)(md:jc)(r:Nat)(dst:Option Nat)(c:Call):Option qw:=
 match c.callee with
 | .value f=>match zq f,qgt c.args.toList with
  |some f,some args=>some (.call (md.at r) f args)
  |_,_=>none
 | .builtin .len=>match c.args.toList,c.argTypes.toList with
  | [x],[t]=>match P.underlying t with
   |some .string=>(zq x).map (.len 0)
   |some (.slice _)=>(zq x).map (.len 1)
   |_=>none
  |_,_=>none
 | .builtin .cap=>match c.args.toList,c.argTypes.toList with
  | [x],[t]=>match P.underlying t with
   |some (.slice _)=>(zq x).map (.len 2)
   |_=>none
  |_,_=>none
 | .builtin .append=>match c.args.toList,c.argTypes.toList with
  | [x,y],[t,u]=>match P.underlying t,P.underlying u with
   |some (.slice e),some ut=>if qey ut&&(qan P e).map (·.length) == yh P e then match yh P e,qds P e,zq x,zq y with
     |some sz,some b,some x,some y=>some (if(dst.map (h.vec.contains ·)).getD false then .vapp r sz b x y else .append (if(dst.map (h.muts.contains ·)).getD false then some r else none) sz b x y)
     |_,_,_,_=>none
    else none
   |_,_=>none
  |_,_=>none
 | .builtin .copy=>match c.args.toList,c.argTypes.toList with
  | [x,y],t::_=>match P.underlying t with
   |some (.slice e)=>match yh P e,zq x,zq y with
    |some sz,some x,some y=>some (.copy sz x y)
    |_,_,_=>none
   |_=>none
  |_,_=>none
 | .builtin .delete=>match c.args.toList,c.argTypes.toList with
  | [m,k],t::_=>match P.underlying t with
   |some (.map kt _)=>match kdT P kt,zq m,zq k with
    |some kd,some m,some k=>some (.delete kd m k)
    |_,_,_=>none
   |_=>none
  |_,_=>none
 | .builtin .max=>(qgt c.args.toList).map .mx
 | .builtin .min=>(qgt c.args.toList).map .mn
 |_=>none
def qtb : List (String × List Int) := [("woofer/network.none", [0, 0]), ("woofer/network.one", [1, 0]), ("woofer/network.turns", [1, 0, 0, 1, -1, 0, 0, -1])]
def qvw (P:Program)(g:Nat):List (String×List Int)→Option (List Int)
 | []=>none
 |(n,cs)::l=>if P.globalNamed n == some g then some cs else qvw P g l
def q09 (P:Program)(t:TypeId)(g:Nat):Option qw:=match qvw P g qtb,qak P t,yh P t with
 |some cs,some true,some n=>if cs.length == n then some (.move (.const (.agg (cs.map (qa.int .i64)))))else none
 |_,_,_=>none
def q8z (h:qb):qh→Option Nat
 | .tmp s=>if h.vl.contains s then some s else none
 |_=>none
def cOp (P:Program)(h:qb)(md:jc)(r:Nat)(dst:Option Nat):Op→Option qw
 | .move x=>match q6f h dst x with
  |some s=>some (.take s)
  |none=>(zq x).map .move
 | .assign (.tmp s)=>some (.take s)
 | .assign x=>(zq x).map .move
 | .pick c a b=>match zq c,zq a,zq b with
  |some c,some a,some b=>some (.pick c a b)
  |_,_,_=>none
 | .alloc t=>match jfs P t with
  |some e=>some (.bld r t e)
  |none=>bif (dst.map (h.vl.contains ·)).getD false then(match qan P t with
   |some z=>bif z.all ze then some (.valloc z.length)else none
   |none=>none)else(qan P t).map (.alloc r)
 | .box t x=>match yh P t,zq x with
  |some n,some x=>some (bif (dst.map (h.vl.contains ·)).getD false then .vbox n x else .box r n x)
  |_,_=>none
 | .build t ps=>match P.underlying t,qan P t with
  |some (.struct fs),some z=>if fs.toList.all (fun f=>(yh P f.type).isSome)then(qi4 P (fun i=>match fs[i]? with
    |some f=>(yh P f.type).map fun n=>(f.offset,n)
    |none=>none) ps.toList).map (.build z)else none
  |some (.array _ e),some z=>match yh P e with
   |some n=>(qi4 P (fun i=>some (i*n,n)) ps.toList).map (.build z)
   |none=>none
  |_,_=>none
 | .buildSlice t n ps=>match P.underlying t with
  |some (.slice e)=>match yh P e,qan P e,qak P e,qi3 ps.toList with
   |some sz,some z,some ag,some es=>if sz*n≤65536&&0<sz&&z.length == sz&&(ag||sz == 1)&&(!ag||sz != 1)then some (if(dst.map (h.vec.contains ·)).getD false then .vlit r sz n z es else .buildSlice sz n z es)else none
   |_,_,_,_=>none
  |_=>none
 | .load t (.global g)=>q09 P t g
 | .load t x=>match qak P t,yh P t,zq x with
  |some false,some 1,some x=>if(dst.map (h.takes.contains ·)).getD false then some (.loadTake ((dst.bind fun d=>h.offs.find? fun y=>y.1 == d).map (·.2)) x)else some (bif (dst.map (h.vl.contains ·)).getD false then .vload false 1 x else .load false 1 x)
  |some true,some n,some x=>some (bif (dst.map (h.vl.contains ·)).getD false then .vload true n x else .load true n x)
  |_,_,_=>none
 | .store t a v=>match yh P t,zq a,zq v with
  |some n,some a,some v=>some (match q8z h a with
   |some s=>.vstore n s v
   |none=>.store n a v)
  |_,_,_=>none
 | .nilCheck x=>(zq x).map .nilCheck
 | .binOp op t x y _=>jhy P op t x y
 | .unOp op _ x=>(zq x).map (.un op)
 | .convert s d x=>match P.underlying s,P.underlying d with
  |some (.int _),some (.int k)=>(zq x).map (.conv k)
  |some .string,some .string=>(zq x).map .convStr
  |some (.int _),some .string=>(zq x).map .convStr
  |_,_=>none
 | .makeFunc f a b=>match f with
  | .func k=>match qgt a.toList,qgt b.toList with
   |some a,some b=>some (.mkfunc (.func k) a b)
   |_,_=>none
  |_=>none
 | .makeMap t none=>match P.underlying t with
  |some (.map _ _)=>some (.mkmap r)
  |_=>none
 | .makeSlice t n c=>match P.underlying t with
  |some (.slice e)=>match yh P e,qds P e,qan P e,qak P e,zq n,zq c with
   |some sz,some b,some z,some ag,some n,some c=>
    if(ag||sz == 1)&&(!ag||sz != 1)then some (.mkslice (if(dst.map (h.muts.contains ·)).getD false then some r else none) sz b z n c)else none
   |_,_,_,_,_,_=>none
  |_=>none
 | .slice t x lo hi none=>match zq x,qew lo,qew hi with
  |some x,some lo,some hi=>match P.underlying t with
   |some .string=>some (.strSlice x lo hi)
   |some (.slice e)=>(yh P e).map fun sz=>.slice sz x lo hi
   |some (.array n e)=>(yh P e).map fun sz=>.sliceArr n sz x lo hi
   |_=>none
  |_,_,_=>none
 | .fieldAddr t x i=>match P.underlying t with
  |some (.struct fs)=>match fs[i]? with
   |some f=>match qak P f.type,yh P f.type,zq x with
    |some ag,some n,some x=>if 0<n&&(ag||n == 1)then some (.fieldAddr ag f.offset n x)else none
    |_,_,_=>none
   |none=>none
  |_=>none
 | .field t x i=>match P.underlying t with
  |some (.struct fs)=>match fs[i]? with
   |some f=>match qak P f.type,yh P f.type,zq x with
    |some ag,some n,some x=>some (.field ag f.offset n x)
    |_,_,_=>none
   |none=>none
  |_=>none
 | .indexAddr t x i=>match zq x,zq i with
  |some x,some i=>match P.underlying t with
   |some (.slice e)=>match yh P e with
    |some sz=>if 0<sz then some (.indexAddr sz x i)else none
    |none=>none
   |some (.array n e)=>match yh P e,qak P e with
    |some sz,some ag=>if 0<sz&&(ag||sz == 1)then some (.indexArr ag n sz x i)else none
    |_,_=>none
   |_=>none
  |_,_=>none
 | .index t x i=>match zq x,zq i with
  |some x,some i=>match P.underlying t with
   |some .string=>some (.strIndex x i)
   |some (.array n e)=>match yh P e,qak P e with
    |some sz,some ag=>some (.index ag n sz x i)
    |_,_=>none
   |_=>none
  |_,_=>none
 | .lookup t m k ok=>match P.underlying t with
  |some (.map kt e)=>match kdT P kt,jac P e,zq m,zq k with
   |some kd,some z,some m,some k=>some (.lookup kd z ok m k)
   |_,_,_,_=>none
  |_=>none
 | .mapUpdate t m k v=>match P.underlying t with
  |some (.map kt _)=>match kdT P kt,zq m,zq k,zq v with
   |some kd,some m,some k,some v=>some (.mapUpdate kd m k v)
   |_,_,_,_=>none
  |_=>none
 | .insert t m k v=>match P.underlying t with
  |some (.map kt _)=>match kdT P kt,zq m,zq k,zq v with
   |some kd,some m,some k,some v=>some (.mapUpdate kd m k v)
   |_,_,_,_=>none
  |_=>none
 | .range t x=>match P.underlying t with
  |some .string=>(zq x).map (.srange r)
  |_=>none
 | .next it true=>(zq it).map .snext
 | .extract x i=>(zq x).map fun x=>.extract x i
 | .call c=>qo8 P h md r dst c
 |_=>none
def qw.makes:qw→Bool
 | .alloc ..=>true
 | .box ..=>true
 | .bld ..=>true
 | .mkmap ..=>true
 | .mkslice (some _) ..=>true
 | .append (some _) ..=>true
 | .vapp ..=>true
 | .vlit ..=>true
 | .srange ..=>true
 | .call (.frz _) ..=>true
 |_=>false
def qw.vdst:qw→Option Nat
 | .vstore _ s _=>some s
 |_=>none
def qw.dstOf (d:Option Nat):qw→Option Nat
 | .vstore _ s _=>some s
 |_=>d
def qms (ops:Array Oper):Option (Nat×Bool)→Option (Option (Nat×Bool))
 |none=>some none
 |some (j,b)=>match(ops[j]?).bind (·.dst)with
  |some d=>some (some (d,b))
  |none=>none
def jby (h:qb)(id i:Nat):jc:=if h.shr.contains (id,i)then .shr else if h.frz.contains (id,i)then .frz 0 else if h.red.contains (id,i)then .red else .iso
def q2s (P:Program)(h:qb)(nt:Nat)(id:Nat)(ops:Array Oper)(bef:Array Nat)(draw:Bool):List Oper→Nat→List (Nat×Nat)→Option (List qu×List (Nat×Nat))
 | [],_,rs=>some ([],rs)
 |o::os,i,rs=>
  match(cOp P h (jby h id i) rs.length o.dst o.op).getD .bad,qms ops o.guard with
  |a,some g=>
   if(o.dst.map (decide <| · < nt)).getD true&&(a.vdst.map (decide <| · < nt)).getD true&&(a.vdst.isNone||(o.dst.isNone&&o.guard.isNone))then
    let rs':=if a.makes then(i,rs.length)::rs else rs
    let al:=if draw then(match h.ex.find? fun x=>x.1 == (id,i)with
     |some x=>some [x.2]
     |none=>some ((rs.filter fun x=>(bef.getD i 0).testBit x.1).map (·.2)))else none
    match q2s P h nt id ops bef draw os (i+1) rs' with
    |some (l,rs'')=>some (⟨a.dstOf o.dst,a,g,al⟩::l,rs'')
    |none=>none
   else none
  |_,_=>none
def y5:qh→List Nat
 | .tmp t=>[t]
 | .const _=>[]
def qlv (l:List qh):List Nat:=l.flatMap y5
def qo2:Option qh→List Nat
 |some x=>y5 x
 |none=>[]
def qw.reads:qw→List Nat
 | .move x=>y5 x
 | .take s=>[s]
 | .pick c a b=>y5 c++y5 a++y5 b
 | .alloc _ _=>[]
 | .box _ _ x=>y5 x
 | .vbox _ x=>y5 x
 | .valloc _=>[]
 | .vstore _ s x=>s::y5 x
 | .bld _ _ _=>[]
 | .build _ ps=>ps.flatMap fun p=>y5 p.2.2
 | .buildSlice _ _ _ ps=>ps.flatMap fun p=>y5 p.2
 | .load _ _ x=>y5 x
 | .vload _ _ x=>y5 x
 | .loadTake _ x=>y5 x
 | .store _ a v=>y5 a++y5 v
 | .nilCheck x=>y5 x
 | .bin _ x y=>y5 x++y5 y
 | .eqs _ _ x y=>y5 x++y5 y
 | .beq _ x y=>y5 x++y5 y
 | .nilEq _ _ x=>y5 x
 | .un _ x=>y5 x
 | .conv _ x=>y5 x
 | .convStr x=>y5 x
 | .field _ _ _ x=>y5 x
 | .index _ _ _ x i=>y5 x++y5 i
 | .strIndex x i=>y5 x++y5 i
 | .fieldAddr _ _ _ x=>y5 x
 | .indexAddr _ x i=>y5 x++y5 i
 | .indexArr _ _ _ x i=>y5 x++y5 i
 | .slice _ x lo hi=>y5 x++qo2 lo++qo2 hi
 | .strSlice x lo hi=>y5 x++qo2 lo++qo2 hi
 | .sliceArr _ _ x lo hi=>y5 x++qo2 lo++qo2 hi
 | .mkfunc _ a b=>qlv a++qlv b
 | .mkmap _=>[]
 | .lookup _ _ _ m k=>y5 m++y5 k
 | .mapUpdate _ m k v=>y5 m++y5 k++y5 v
 | .delete _ m k=>y5 m++y5 k
 | .mkslice _ _ _ _ n c=>y5 n++y5 c
 | .len _ x=>y5 x
 | .append _ _ _ x y=>y5 x++y5 y
 | .vapp _ _ _ x y=>y5 x++y5 y
 | .vlit _ _ _ _ ps=>ps.flatMap fun p=>y5 p.2
 | .copy _ x y=>y5 x++y5 y
 | .mx l=>qlv l
 | .mn l=>qlv l
 | .extract x _=>y5 x
 | .call _ f l=>y5 f++qlv l
 | .srange _ x=>y5 x
 | .snext x=>y5 x
 | .bad=>[]
def qw.strips:qw→List Nat
 | .take s=>[s]
 | .append _ _ _ x _=>y5 x
 | .store _ _ v=>y5 v
 |_=>[]
def qu.reads (o:qu):List Nat:=o.op.reads++(match o.guard with|some g=>[g.1]|none=>[])
def qu.writes (o:qu):List Nat:=o.dst.toList++o.op.strips
inductive jq where
 |pure|read|write|alloc|take|frz|shr|vap
 deriving DecidableEq,Inhabited
def qw.cl:qw→jq
 | .load ..=>.read
 | .lookup ..=>.read
 | .alloc ..=>.alloc
 | .box ..=>.alloc
 | .bld ..=>.alloc
 | .mkmap ..=>.alloc
 | .mkslice (some _) ..=>.alloc
 | .append (some _) ..=>.alloc
 | .srange ..=>.alloc
 | .loadTake none _=>.write
 | .loadTake (some _) _=>.take
 | .store ..=>.write
 | .mapUpdate ..=>.write
 | .delete ..=>.write
 | .copy ..=>.write
 | .snext ..=>.write
 | .call .iso ..=>.pure
 | .call (.frz _) ..=>.alloc
 | .call .shr ..=>.shr
 | .call .red ..=>.shr
 | .vapp ..=>.vap
 | .vlit ..=>.shr
 |_=>.pure
def qw.rank:qw→Nat
 | .alloc r _=>r
 | .box r _ _=>r
 | .bld r _ _=>r
 | .mkmap r=>r
 | .mkslice (some r) ..=>r
 | .append (some r) ..=>r
 | .srange r _=>r
 | .call (.frz r) ..=>r
 | .loadTake (some o) _=>o
 | .vapp r sz ..=>r+1000*sz
 |_=>0
def qez (al:Option (List Nat))(r:Nat):Bool:=match al with
 |none=>true
 |some l=>bif exl l then Nat.beq (l.headD 0) (2000+r)else l.contains r
def qj2 (a b:Option (List Nat)):Bool:=match a,b with
 |some l,some m=>bif exl l then(bif exl m then !(Nat.beq (l.headD 0) (m.headD 0))&&Nat.blt (l.headD 0) 4000&&Nat.blt (m.headD 0) 4000 else Nat.ble 2000 (l.headD 0)&&Nat.blt (l.headD 0) 4000&&!(m.contains (l.headD 0-2000)))else exl m&&Nat.ble 2000 (m.headD 0)&&Nat.blt (m.headD 0) 4000&&!(l.contains (m.headD 0-2000))
 |_,_=>false
def jq.box:jq→Bool
 | .read=>true
 | .write=>true
 | .take=>true
 |_=>false
def jag (a b:qu):Bool:=(a.op.cl.box&&b.op.cl.box&&qj2 a.al b.al) ||
  (match a.op.cl,b.op.cl with
 | .pure,_=>true
 |_,.pure=>true
 | .read,.read=>true
 | .read,.frz=>true
 | .frz,.read=>true
 | .frz,.frz=>true
 | .alloc,.alloc=>a.op.rank != b.op.rank
 | .alloc,.read=>!qez b.al a.op.rank
 | .alloc,.write=>!qez b.al a.op.rank
 | .alloc,.take=>!qez b.al a.op.rank
 | .take,.alloc=>!qez a.al b.op.rank
 | .take,.take=>a.op.rank != b.op.rank
 | .read,.alloc=>!qez a.al b.op.rank
 | .write,.alloc=>!qez a.al b.op.rank
 | .vap,.vap=>a.op.rank % 1000 != b.op.rank % 1000&&a.op.rank / 1000 != b.op.rank / 1000
 | .vap,.read=>qgq b.al
 | .vap,.write=>qgq b.al
 | .vap,.take=>qgq b.al
 | .read,.vap=>qgq a.al
 | .write,.vap=>qgq a.al
 | .take,.vap=>qgq a.al
 |_,_=>false)
def qlb (a b:List Nat):Bool:=a.all fun x=>!b.contains x
def qid (a b:qu):Bool:=
 jag a b&&qlb a.writes b.reads&&qlb a.writes b.writes&&qlb b.writes a.reads
def q35 (bef:Array Nat)(l:List qu):Bool:=
 (l.zipIdx).all fun(b,j)=>(l.zipIdx).all fun(a,i)=>!(decide (i<j))||(bef.getD j 0).testBit i||qid a b
def qzu (ops:Array Oper):Bool:=ops.toList.zipIdx.all fun(o,i)=>o.after.all fun e=>!Region.binds .any e||decide (e.on<i)
def q86 (bef:Array Nat)(ops:Array Oper):Bool:=
 ops.toList.zipIdx.all fun(o,i)=>(List.range ops.size).all fun j=>!((bef.getD i 0).testBit j)||o.after.any fun e=>Region.binds .any e&&(e.on == j||(bef.getD e.on 0).testBit j)
def qnw (P:Program)(h:qb)(nt:Nat)(id:Nat)(ops:Array Oper)(draw:Bool):Option qe:=
 match q2s P h nt id ops (Region.before ops) draw ops.toList 0 []with
 |some (l,rs)=>
  if !draw||(q35 (Region.before ops) l&&qzu ops&&q86 (Region.before ops) ops)then
   some (.region rs.length l ((h.keep.find? fun x=>x.1 == id).map (·.2)))
  else none
 |none=>none
def qmq (s d:Nat)(o:Oper):Bool:=match o.op,o.dst,o.guard with
 | .move (.tmp s'),some d',none=>s' == s&&d' == d
 |_,_,_=>false
def quw (s d:Nat)(o:Oper):Bool:=match o.op,o.dst,o.guard with
 | .assign (.tmp s'),some d',none=>s' == s&&d' == d
 |_,_,_=>false
def jfc (x d:Nat)(o:Oper):Option TypeId:=match o.op,o.dst,o.guard with
 | .call c,some d',none=>match c.callee,c.args.toList,c.argTypes.toList with
  | .builtin .cap,[.tmp x'],[t]=>if x' == x&&d' == d then some t else none
  |_,_,_=>none
 |_,_,_=>none
def jd1 (x d:Nat)(o:Oper):Option TypeId:=match o.op,o.dst,o.guard with
 | .call c,some d',none=>match c.callee,c.args.toList,c.argTypes.toList with
  | .builtin .len,[.tmp x'],[t]=>if x' == x&&d' == d then some t else none
  |_,_,_=>none
 |_,_,_=>none
def q9x (x h d:Nat)(o:Oper):Option TypeId:=match o.op,o.dst,o.guard with
 | .slice t (.tmp x') none (some (.tmp h')) none,some d',none=>if x' == x&&h' == h&&d' == d then some t else none
 |_,_,_=>none
def ji5 (x y d:Nat)(o:Oper):Option (TypeId×TypeId):=match o.op,o.dst,o.guard with
 | .call c,some d',none=>match c.callee,c.args.toList,c.argTypes.toList with
  | .builtin .append,[.tmp x',.tmp y'],[t,u]=>if x' == x&&y' == y&&d' == d then some (t,u)else none
  |_,_,_=>none
 |_,_,_=>none
def jjo (ops:Array Oper):Option (TypeId×TypeId):=match ops.toList with
 | [o0,o1,o2,o3,o4,o5,o6,o7,o8,o9]=>match jfc 18 19 o2,q9x 17 19 20 o3,ji5 20 21 22 o5,jd1 23 24 o7,q9x 22 24 25 o8 with
  |some t2,some t3,some (t,u),some t7,some t8=>if qmq 0 17 o0&&qmq 0 18 o1&&qmq 1 21 o4&&qmq 0 23 o6&&quw 25 0 o9&&t2 == t&&t3 == t&&t7 == t&&t8 == t then some (t,u)else none
  |_,_,_,_,_=>none
 |_=>none
def qwa (P:Program)(nt:Nat)(ops:Array Oper):Option Nat:=match jjo ops with
 |some (t,u)=>match P.underlying t,P.underlying u with
  |some (.slice e),some (.int _)=>match P.info? e with
   |some i=>if i.zero.isSome&&0<i.size&&i.bytes≤4096&&26≤nt&&(qan P e).isSome&&(qan P e).map (·.length) == some i.size then some i.size else none
   |none=>none
  |_,_=>none
 |none=>none
def qbl (P:Program)(h:qb)(nt:Nat):Code→Option qe
 | .skip=>some .skip
 | .label _=>some .skip
 | .region id ops draw=>match draw,qwa P nt ops with
  |false,some sz=>some (.grow sz)
  |_,_=>qnw P h nt id ops draw
 | .seq a b=>match qbl P h nt a,qbl P h nt b with
  |some x,some y=>some (.seq x y)
  |_,_=>none
 | .cond c a b=>match zq c,qbl P h nt a,qbl P h nt b with
  |some c,some x,some y=>some (.cond c x y)
  |_,_,_=>none
 | .block id b=>(qbl P h nt b).map (.block id)
 | .loop b=>(qbl P h nt b).map .loop
 | .scope b=>(qbl P h nt b).map fun x=>.seq x .skip
 | .rangeFunc f ps a b=>match zq f,qbl P h nt a,qbl P h nt b with
  |some f,some x,some y=>if ps.all (decide <| · < nt)then some (.rangeFunc f ps.toList x y)else none
  |_,_,_=>none
 | .exit id=>some (.exit id)
 | .ret=>some .ret
 |_=>some .stuck
def q7k (P:Program):ResultVar→Option ja
 | .tmp t=>some (.tmp t)
 | .cell t ty=>match qak P ty,yh P ty with
  |some true,some n=>some (.cell t true n)
  |some false,some 1=>some (.cell t false 1)
  |_,_=>none
def qo9 (P:Program):List ResultVar→Option (List ja)
 | []=>some []
 |r::rs=>match q7k P r,qo9 P rs with
  |some x,some xs=>some (x::xs)
  |_,_=>none
def q3t (P:Program)(h:qb)(f:Func):Option qd:=
 match f.body with
 |some c=>match qbl P h f.ntmps c,qo9 P f.results.toList with
  | some b, some rs => if f.name == "runtime.NumGoroutine" then none else some ⟨f.ntmps, b, rs⟩
  |_,_=>none
 |none=>none
structure Ctx where
 K:Nat→Nat→Option Value
 β:Nat→Option Nat
 W:Nat→Prop
 D:Nat→Prop
 T:Nat×Nat×Nat×Nat→Prop
def Ctx.iso (K:Nat→Nat→Option Value):Ctx:=⟨K,fun _=>none,fun _=>False,fun _=>False,fun _=>False⟩
def RepFn (C:Ctx):Fn→Fn→Prop
 | .yield b,f=>∃r,C.β b=some r∧f=.yield r
 |f,f'=>f'=f
inductive jh where
 |val (x:qa) (v:Value)
 |cells (r:Nat) (xs:List qa) (o:Nat)
 |row (r sz:Nat) (xs:List qa) (o:Nat)
 |lst (xs:List qa) (vs:List Value)
inductive qp (C:Ctx):jh→Prop where
 |bool (b:Bool):qp C (.val (.bool b) (.bool b))
 |int (k:IntKind) (n:Int):qp C (.val (.int k n) (.int k n))
 |str (s:List UInt8):qp C (.val (.str s) (.string ⟨⟨s⟩⟩))
 |lnil (sz:Nat):qp C (.val (.list true sz []) (.slice none 0 0))
 |list (sz:Nat) (xs:List qa) (r o cap:Nat) (hl:xs.length≤cap) (hr:qp C (.row r sz xs o)):qp C (.val (.list false sz xs) (.slice (some ⟨r,o,none⟩) xs.length cap))
 |lemp (sz:Nat) (a:Addr) (hs:a.spot≠none):qp C (.val (.list false sz []) (.slice (some a) 0 0))
 |ms (b o len r cap:Nat) (hb:C.β b=some r) (hl:len≤cap):qp C (.val (.ms b o len) (.slice (some ⟨r,o,none⟩) len cap))
 |ptr (b o r:Nat) (hb:C.β b=some r):qp C (.val (.ptr b o) (.pointer (some ⟨r,o,none⟩)))
 |vptr (x:qa) (r o:Nat) (h:qp C (.cells r x.flat o)):qp C (.val (.vptr x) (.pointer (some ⟨r,o,none⟩)))
 |nilptr:qp C (.val .nilptr (.pointer none))
 |map (b r:Nat) (hb:C.β b=some r):qp C (.val (.map b) (.map (some r)))
 |nilmap:qp C (.val .nilmap (.map none))
 |fn (f f':Fn) (a b:List qa) (as bs:List Value) (hf:RepFn C f f') (ha:qp C (.lst a as)) (hb:qp C (.lst b bs)):qp C (.val (.fn f a b) (.func f' ⟨as⟩ ⟨bs⟩))
 |nilfn:qp C (.val .nilfn .nilFunc)
 |agg (cs:List qa) (vs:List Value) (h:qp C (.lst cs vs)):qp C (.val (.agg cs) (.agg ⟨vs⟩))
 |tup (cs:List qa) (vs:List Value) (h:qp C (.lst cs vs)):qp C (.val (.tup cs) (.tuple ⟨vs⟩))
 |undef:qp C (.val .undef (.tuple #[]))
 |any (v:Value):qp C (.val .any v)
 |pend (n:Nat) (a:Addr):qp C (.val (.pend n) (.pointer (some a)))
 |vref (b ver len r0 r cap:Nat) (hb:C.β b=some r0) (ht:C.T (r0,ver,r,cap)) (hl:len≤cap):qp C (.val (.vref b ver len) (.slice (some ⟨r,0,none⟩) len cap))
 |vel (b ver off r0 r cap:Nat) (hb:C.β b=some r0) (ht:C.T (r0,ver,r,cap)):qp C (.val (.vel b ver off) (.pointer (some ⟨r,off,none⟩)))
 |cnil (r o:Nat):qp C (.cells r [] o)
 |ccons (r o:Nat) (x:qa) (xs:List qa) (v:Value) (hv:C.K r o=some v) (hx:qp C (.val x v)) (h:qp C (.cells r xs (o+1))):qp C (.cells r (x::xs) o)
 |rnil (r sz o:Nat):qp C (.row r sz [] o)
 |rcons (r sz o:Nat) (x:qa) (xs:List qa) (hs:x.flat.length=sz) (hx:qp C (.cells r x.flat o)) (h:qp C (.row r sz xs (o+sz))):qp C (.row r sz (x::xs) o)
 |nil:qp C (.lst [] [])
 |cons (x:qa) (xs:List qa) (v:Value) (vs:List Value) (hx:qp C (.val x v)) (h:qp C (.lst xs vs)):qp C (.lst (x::xs) (v::vs))
abbrev Rep (C:Ctx)(x:qa)(v:Value):Prop:=qp C (.val x v)
abbrev RepL (C:Ctx)(xs:List qa)(vs:List Value):Prop:=qp C (.lst xs vs)
abbrev RepC (C:Ctx)(r:Nat)(xs:List qa)(o:Nat):Prop:=qp C (.cells r xs o)
abbrev RepRow (C:Ctx)(r sz:Nat)(xs:List qa)(o:Nat):Prop:=qp C (.row r sz xs o)
structure Ctx.le (C C':Ctx):Prop where
 k:∀r o v,C.K r o=some v→C'.K r o=some v
 b:∀b r,C.β b=some r→C'.β b=some r
 w:C'.W=C.W
 d:∀r,C.D r→C'.D r
 t:∀q,C.T q→C'.T q:=by exact fun _ h=>h
theorem Ctx.le_refl (C:Ctx):C.le C:=⟨fun _ _ _ h=>h,fun _ _ h=>h,rfl,fun _ h=>h,fun _ h=>h⟩
theorem Ctx.le_trans {A B C:Ctx}(h:A.le B)(k:B.le C):A.le C:=⟨fun r o v x=>k.1 r o v (h.1 r o v x),fun b r x=>k.2 b r (h.2 b r x),k.w.trans h.w,fun r x=>k.d r (h.d r x),fun r x=>k.t r (h.t r x)⟩
theorem RepFn.imp {C C':Ctx}(h:(∀r o v,C.K r o=some v→C'.K r o=some v)∧(∀b r,C.β b=some r→C'.β b=some r)){f f':Fn}(hf:RepFn C f f'):RepFn C' f f':=by
 cases f<;>simp only[RepFn]at *<;>first|exact hf|exact⟨hf.choose,h.2 _ _ hf.choose_spec.1,hf.choose_spec.2⟩
theorem qp.imp {C C':Ctx}(h:(∀r o v,C.K r o=some v→C'.K r o=some v)∧(∀b r,C.β b=some r→C'.β b=some r)){i:jh}(hr:qp C i)(hT:∀q,C.T q→C'.T q:=by first|exact fun _ h=>h|exact fun _ h=>False.elim h):qp C' i:=by
 induction hr with
 |bool b=>exact .bool b
 |int k n=>exact .int k n
 |str s=>exact .str s
 |lnil sz=>exact .lnil sz
 |list sz xs r o cap hl _ ih=>exact .list sz xs r o cap hl ih
 |lemp sz a hs=>exact .lemp sz a hs
 |ms b o len r cap hb hl=>exact .ms b o len r cap (h.2 _ _ hb) hl
 |ptr b o r hb=>exact .ptr b o r (h.2 _ _ hb)
 |vptr x r o _ ih=>exact .vptr x r o ih
 |nilptr=>exact .nilptr
 |map b r hb=>exact .map b r (h.2 _ _ hb)
 |nilmap=>exact .nilmap
 |fn f f' a b as bs hf _ _ ha hb=>exact .fn f f' a b as bs (hf.imp h) ha hb
 |nilfn=>exact .nilfn
 |agg cs vs _ ih=>exact .agg cs vs ih
 |tup cs vs _ ih=>exact .tup cs vs ih
 |undef=>exact .undef
 |any v=>exact .any v
 |pend n a=>exact .pend n a
 |vref b ver len r0 r cap hb ht hl=>exact .vref b ver len r0 r cap (h.2 _ _ hb) (hT _ ht) hl
 |vel b ver off r0 r cap hb ht=>exact .vel b ver off r0 r cap (h.2 _ _ hb) (hT _ ht)
 |cnil r o=>exact .cnil r o
 |ccons r o x xs v hv _ _ ihx ih=>exact .ccons r o x xs v (h.1 _ _ _ hv) ihx ih
 |rnil r sz o=>exact .rnil r sz o
 |rcons r sz o x xs hs _ _ ihx ih=>exact .rcons r sz o x xs hs ihx ih
 |nil=>exact .nil
 |cons x xs v vs _ _ ihx ih=>exact .cons x xs v vs ihx ih
theorem qp.mono {C C':Ctx}(h:C.le C'){i:jh}(hr:qp C i):qp C' i:=hr.imp ⟨h.k,h.b⟩ h.t
def jh.below (n:Nat):jh→Bool
 | .val x _=>Abs.below n x
 | .cells _ xs _=>zu n xs
 | .row _ _ xs _=>zu n xs
 | .lst xs _=>zu n xs
theorem qj1 (n:Nat)(x:qa):zu n x.flat=Abs.below n x:=by
 cases x<;>simp[qa.flat,zu,Abs.below]
theorem qp.shift {C C':Ctx}(n:Nat)(hK:∀r o v,C.K r o=some v→C'.K r o=some v)(hβ:∀b r,b<n→C.β b=some r→C'.β b=some r){i:jh}(hr:qp C i)(hb:i.below n=true)(hT:∀q,0<n→C.T q→C'.T q:=by first|exact fun _ _ h=>h|exact fun _ h=>absurd h (Nat.lt_irrefl 0)|exact fun _ _ h=>False.elim h):qp C' i:=by
 induction hr with
 |bool b=>exact .bool b
 |int k n=>exact .int k n
 |str s=>exact .str s
 |lnil sz=>exact .lnil sz
 |list sz xs r o cap hl _ ih=>exact .list sz xs r o cap hl (ih (by simpa[jh.below,Abs.below]using hb))
 |lemp sz a hs=>exact .lemp sz a hs
 |ms b o len r cap h1 hl=>exact .ms b o len r cap (hβ _ _ (by simpa[jh.below,Abs.below]using hb) h1) hl
 |ptr b o r h1=>exact .ptr b o r (hβ _ _ (by simpa[jh.below,Abs.below]using hb) h1)
 |vptr x r o _ ih=>exact .vptr x r o (ih (by simpa[jh.below,Abs.below,qj1]using hb))
 |nilptr=>exact .nilptr
 |map b r h1=>exact .map b r (hβ _ _ (by simpa[jh.below,Abs.below]using hb) h1)
 |nilmap=>exact .nilmap
 |fn f f' a b as bs hf _ _ iha ihb=>
  have hf':RepFn C' f f':=by
   cases f<;>simp only[RepFn]at *<;>first|exact hf|skip
   obtain⟨r,h1,rfl⟩:=hf
   simp[jh.below,Abs.below]at hb
   exact⟨r,hβ _ _ hb.1.1 h1,rfl⟩
  have hab:zu n a=true∧zu n b=true:=by
   cases f<;>simp[jh.below,Abs.below]at hb<;>first|exact hb|exact⟨hb.1.2,hb.2⟩
  exact .fn f f' a b as bs hf' (iha hab.1) (ihb hab.2)
 |nilfn=>exact .nilfn
 |agg cs vs _ ih=>exact .agg cs vs (ih (by simpa[jh.below,Abs.below]using hb))
 |tup cs vs _ ih=>exact .tup cs vs (ih (by simpa[jh.below,Abs.below]using hb))
 |undef=>exact .undef
 |any v=>exact .any v
 |pend n a=>exact .pend n a
 |vref b ver len r0 r cap h1 ht hl=>
  have hbn:b<n:=by simpa[jh.below,Abs.below]using hb
  exact .vref b ver len r0 r cap (hβ _ _ hbn h1) (hT _ (by omega) ht) hl
 |vel b ver off r0 r cap h1 ht=>
  have hbn:b<n:=by simpa[jh.below,Abs.below]using hb
  exact .vel b ver off r0 r cap (hβ _ _ hbn h1) (hT _ (by omega) ht)
 |cnil r o=>exact .cnil r o
 |ccons r o x xs v hv _ _ ihx ih=>
  simp[jh.below,zu]at hb ihx ih
  exact .ccons r o x xs v (hK _ _ _ hv) (ihx hb.1) (ih hb.2)
 |rnil r sz o=>exact .rnil r sz o
 |rcons r sz o x xs hs _ _ ihx ih=>
  simp[jh.below,zu,qj1]at hb ihx ih
  exact .rcons r sz o x xs hs (ihx hb.1) (ih hb.2)
 |nil=>exact .nil
 |cons x xs v vs _ _ ihx ih=>
  simp[jh.below,zu]at hb ihx ih
  exact .cons x xs v vs (ihx hb.1) (ih hb.2)
theorem RepL.length {C:Ctx}{xs:List qa}:∀ {vs:List Value},RepL C xs vs→vs.length=xs.length:=by
 induction xs with
 |nil=>intro vs h;cases h;rfl
 |cons x xs ih=>intro vs h;cases h with|cons _ _ v vs hx h=>simp[ih h]
theorem RepL.get {C:Ctx}{xs:List qa}:∀ {vs:List Value},RepL C xs vs→∀ {i:Nat} {x:qa},xs[i]?=some x→∃v,vs[i]?=some v∧Rep C x v:=by
 induction xs with
 |nil=>intro vs _ i x h;simp at h
 |cons y ys ih=>
  intro vs h i x hi
  cases h with
  |cons _ _ v vs hx h=>
   cases i with
   |zero=>simp at hi;subst hi;exact⟨v,rfl,hx⟩
   |succ i=>simp at hi;obtain⟨w,h1,h2⟩:=ih h hi;exact⟨w,by simpa using h1,h2⟩
theorem RepL.append {C:Ctx}{xs ys:List qa}:∀ {vs ws:List Value},RepL C xs vs→RepL C ys ws→RepL C (xs++ys) (vs++ws):=by
 induction xs with
 |nil=>intro vs ws h k;cases h;exact k
 |cons x xs ih=>intro vs ws h k;cases h with|cons _ _ v vs hx h=>exact .cons _ _ _ _ hx (ih h k)
theorem RepL.take {C:Ctx}{xs:List qa}:∀ {vs:List Value} (n:Nat),RepL C xs vs→RepL C (xs.take n) (vs.take n):=by
 induction xs with
 |nil=>intro vs n h;cases h;simpa using qp.nil
 |cons x xs ih=>intro vs n h;cases h with|cons _ _ v vs hx h=>cases n with
  |zero=>simpa using qp.nil
  |succ n=>exact .cons _ _ _ _ hx (ih n h)
theorem RepL.drop {C:Ctx}{xs:List qa}:∀ {vs:List Value} (n:Nat),RepL C xs vs→RepL C (xs.drop n) (vs.drop n):=by
 induction xs with
 |nil=>intro vs n h;cases h;simpa using qp.nil
 |cons x xs ih=>intro vs n h;cases h with|cons _ _ v vs hx h=>cases n with
  |zero=>exact .cons _ _ _ _ hx h
  |succ n=>simpa using ih n h
theorem RepC.get {C:Ctx}{r:Nat}{xs:List qa}:∀ {o:Nat},RepC C r xs o→∀ {i:Nat} {x:qa},xs[i]?=some x→∃v,C.K r (o+i)=some v∧Rep C x v:=by
 induction xs with
 |nil=>intro o _ i x h;simp at h
 |cons y ys ih=>
  intro o h i x hi
  cases h with
  |ccons _ _ _ _ v hv hx h=>
   cases i with
   |zero=>simp at hi;subst hi;exact⟨v,hv,hx⟩
   |succ i=>simp at hi;obtain⟨w,h1,h2⟩:=ih h hi;exact⟨w,by rw[show o+(i+1)=o+1+i from by omega];exact h1,h2⟩
theorem RepC.drop {C:Ctx}{r:Nat}{xs:List qa}:∀ {o:Nat} (n:Nat),RepC C r xs o→RepC C r (xs.drop n) (o+n):=by
 induction xs with
 |nil=>intro o n h;simpa using qp.cnil r (o+n)
 |cons x xs ih=>intro o n h;cases h with|ccons _ _ _ _ v hv hx h=>cases n with
  |zero=>exact .ccons _ _ _ _ _ hv hx h
  |succ n=>have:=ih n h;rw[show o+(n+1)=o+1+n from by omega];simpa using this
theorem RepC.take {C:Ctx}{r:Nat}{xs:List qa}:∀ {o:Nat} (n:Nat),RepC C r xs o→RepC C r (xs.take n) o:=by
 induction xs with
 |nil=>intro o n h;simpa using qp.cnil r o
 |cons x xs ih=>intro o n h;cases h with|ccons _ _ _ _ v hv hx h=>cases n with
  |zero=>simpa using qp.cnil r o
  |succ n=>exact .ccons _ _ _ _ _ hv hx (ih n h)
theorem RepC.append {C:Ctx}{r:Nat}{xs ys:List qa}:∀ {o:Nat},RepC C r xs o→RepC C r ys (o+xs.length)→RepC C r (xs++ys) o:=by
 induction xs with
 |nil=>intro o _ k;simpa using k
 |cons x xs ih=>intro o h k;cases h with|ccons _ _ _ _ v hv hx h=>exact .ccons _ _ _ _ _ hv hx (ih h (by simpa[Nat.add_assoc,Nat.add_comm 1]using k))
theorem RepRow.get {C:Ctx}{r sz:Nat}{xs:List qa}:∀ {o:Nat},RepRow C r sz xs o→∀ {i:Nat} {x:qa},xs[i]?=some x→RepC C r x.flat (o+i*sz):=by
 induction xs with
 |nil=>intro o _ i x h;simp at h
 |cons y ys ih=>
  intro o h i x hi
  cases h with
  |rcons _ _ _ _ _ hs hx h=>
   cases i with
   |zero=>simp at hi;subst hi;simpa using hx
   |succ i=>simp at hi;have:=ih h hi;rw[show o+(i+1)*sz=o+sz+i*sz from by rw[Nat.succ_mul];omega];exact this
theorem RepRow.drop {C:Ctx}{r sz:Nat}{xs:List qa}:∀ {o:Nat} (n:Nat),RepRow C r sz xs o→RepRow C r sz (xs.drop n) (o+n*sz):=by
 induction xs with
 |nil=>intro o n h;simpa using qp.rnil r sz (o+n*sz)
 |cons x xs ih=>intro o n h;cases h with|rcons _ _ _ _ _ hs hx h=>cases n with
  |zero=>simpa using qp.rcons _ _ _ _ _ hs hx h
  |succ n=>have:=ih n h;rw[show o+(n+1)*sz=o+sz+n*sz from by rw[Nat.succ_mul];omega];simpa using this
theorem RepRow.take {C:Ctx}{r sz:Nat}{xs:List qa}:∀ {o:Nat} (n:Nat),RepRow C r sz xs o→RepRow C r sz (xs.take n) o:=by
 induction xs with
 |nil=>intro o n h;simpa using qp.rnil r sz o
 |cons x xs ih=>intro o n h;cases h with|rcons _ _ _ _ _ hs hx h=>cases n with
  |zero=>simpa using qp.rnil r sz o
  |succ n=>exact .rcons _ _ _ _ _ hs hx (ih n h)
theorem RepRow.append {C:Ctx}{r sz:Nat}{xs ys:List qa}:∀ {o:Nat},RepRow C r sz xs o→RepRow C r sz ys (o+xs.length*sz)→RepRow C r sz (xs++ys) o:=by
 induction xs with
 |nil=>intro o _ k;simpa using k
 |cons x xs ih=>
  intro o h k
  cases h with
  |rcons _ _ _ _ _ hs hx h=>
   refine .rcons _ _ _ _ _ hs hx (ih h ?_)
   have e:o+sz+xs.length*sz=o+(x::xs).length*sz:=by simp[Nat.succ_mul];omega
   rw[e];exact k
theorem RepRow.sized {C:Ctx}{r sz:Nat}{xs:List qa}:∀ {o:Nat},RepRow C r sz xs o→∀x∈xs,x.flat.length=sz:=by
 induction xs with
 |nil=>intro o _ x hx;cases hx
 |cons y ys ih=>
  intro o h x hx
  cases h with
  |rcons _ _ _ _ _ hs _ h=>
   rcases List.mem_cons.1 hx with rfl|hx
   ·exact hs
   ·exact ih h x hx
theorem RepRow.cells {C:Ctx}{r sz:Nat}{xs:List qa}:∀ {o:Nat},RepRow C r sz xs o→RepC C r (xs.flatMap qa.flat) o:=by
 induction xs with
 |nil=>intro o _;exact .cnil _ _
 |cons x xs ih=>
  intro o h
  cases h with
  |rcons _ _ _ _ _ hs hx h=>
   simp only[List.flatMap_cons]
   refine RepC.append hx ?_
   rw[hs]
   exact ih h
theorem RepRow.of_cells {C:Ctx}{r sz:Nat}{xs:List qa}:∀ {o:Nat},RepC C r (xs.flatMap qa.flat) o→(∀x∈xs,x.flat.length=sz)→RepRow C r sz xs o:=by
 induction xs with
 |nil=>intro o _ _;exact .rnil _ _ _
 |cons x xs ih=>
  intro o h hl
  simp only[List.flatMap_cons]at h
  have h1:=RepC.take (x.flat.length) h
  have h2:=RepC.drop (x.flat.length) h
  rw[List.take_left' rfl]at h1
  rw[List.drop_left' rfl,hl x (by simp)]at h2
  exact .rcons _ _ _ _ _ (hl x (by simp)) h1 (ih h2 fun y hy=>hl y (by simp[hy]))
theorem RepC.vals {C:Ctx}{r:Nat}{xs:List qa}:∀ {o:Nat},RepC C r xs o→∃vs,RepL C xs vs∧∀j v,vs[j]?=some v→C.K r (o+j)=some v:=by
 induction xs with
 |nil=>intro o _;exact⟨[],.nil,by simp⟩
 |cons x xs ih=>
  intro o h
  cases h with
  |ccons _ _ _ _ v hv hx h=>
   obtain⟨vs,h1,h2⟩:=ih h
   refine⟨v::vs,.cons _ _ _ _ hx h1,?_⟩
   intro j u hj
   cases j with
   |zero=>simp at hj;subst hj;exact hv
   |succ j=>simp at hj;rw[show o+(j+1)=o+1+j from by omega];exact h2 j u hj
inductive Loc where
 |slot (s:Nat)
 |cell (b j:Nat)
 deriving DecidableEq
def Strict (sz:Nat)(xs:List qa)(cells:Array Value)(elem:TypeId)(len cap:Nat):Prop:=
 ∀(e:Nat) (l:List UInt8),sz=0→xs=[.int .u64 (e:Int),.str l]→elem=e∧len=l.length∧len≤cap∧cap≤maxLen∧cells.size=cap∧cells.toList.take len=l.map fun b=>Value.int .u8 b.toNat
theorem Strict.pos {sz:Nat}{xs:List qa}{cells:Array Value}{elem:TypeId}{len cap:Nat}(h:0<sz):Strict sz xs cells elem len cap:=fun _ _ h0=>by omega
theorem Strict.sized {sz:Nat}{xs:List qa}{cells:Array Value}{elem:TypeId}{len cap:Nat}(h:∀x∈xs,x.flat.length=sz):Strict sz xs cells elem len cap:=fun e l h0 hx=>by
 have:=h (.str l) (by rw[hx];simp)
 simp[qa.flat,h0]at this
def OwnV (C:Ctx)(ω:Nat→Option Loc)(w:World)(B:Nat)(ℓ:Loc):qa→Value→Prop
 | .list _ sz xs,.slice (some a) len cap=>ω a.block=some ℓ∧(B≤a.block∨C.W a.block)∧(∀b,C.β b≠some a.block)∧a.spot=none∧a.off=0 ∧
   (∃cells elem,w.heap[a.block]?=some (.cells cells elem (0,0))∧a.off+cap*sz≤cells.size∧Strict sz xs cells elem len cap)∧∀o,a.off+len*sz≤o→C.K a.block o=none
 | .pend n,.pointer (some a)=>ω a.block=some ℓ∧(B≤a.block∨C.W a.block)∧(∀b,C.β b≠some a.block)∧a.spot=none∧a.off=0 ∧
   (∃cells elem,w.heap[a.block]?=some (.cells cells elem (0,0))∧a.off+n*1≤cells.size∧Strict 0 [] cells elem 0 0)∧∀o,a.off+0*0≤o→C.K a.block o=none
 |_,_=>True
structure Ext (w w':World):Prop where
 size:w.heap.size≤w'.heap.size
 same:∀r,r<w.heap.size→w'.heap[r]?=w.heap[r]?
 os:w'.os=w.os
 output:w'.output=w.output
theorem Ext.refl (w:World):Ext w w:=⟨Nat.le_refl _,fun _ _=>rfl,rfl,rfl⟩
theorem Ext.get {w w':World}(h:Ext w w'){r:Nat}{o:Obj}(hr:w.heap[r]?=some o):w'.heap[r]?=some o:=by
 rw[h.same r (Array.getElem?_eq_some_iff.1 hr).1];exact hr
theorem Ext.trans {a b c:World}(h:Ext a b)(k:Ext b c):Ext a c where
 size:=Nat.le_trans h.size k.size
 same r hr:=by rw[k.same r (Nat.lt_of_lt_of_le hr h.size),h.same r hr]
 os:=k.os.trans h.os
 output:=k.output.trans h.output
theorem qdn (w:World)(o:Obj)(r:Nat):(w.alloc o).heap[r]?=if r=w.heap.size then some o else w.heap[r]?:=by
 show(w.heap.push o)[r]?=_
 rw[Array.getElem?_push]
theorem Ext.alloc (w:World)(o:Obj)(ho:∀c t fr,o=.cells c t fr→fr=(0,0)):Ext w (w.alloc o) where
 size:=by rw[World.size_alloc];omega
 same r hr:=by rw[qdn,if_neg (by omega)]
 os:=rfl
 output:=rfl
theorem Ext.drew (w:World):Ext w w.drew:=⟨Nat.le_refl _,fun _ _=>rfl,rfl,rfl⟩
theorem Ext.cell {w w':World}(h:Ext w w'){a:Addr}{v:Value}(hc:w.cell? a=some v):w'.cell? a=some v:=by
 unfold World.cell? at *
 cases hr:w.heap[a.block]? with
 |none=>rw[hr]at hc;cases hc
 |some o=>rw[h.get hr];rw[hr]at hc;exact hc
theorem OwnV.ext {C:Ctx}{ω:Nat→Option Loc}{w w':World}{B:Nat}{ℓ:Loc}{x:qa}{v:Value}(h:Ext w w')(ho:OwnV C ω w B ℓ x v):OwnV C ω w' B ℓ x v:=by
 unfold OwnV at *
 split at ho
 ·obtain⟨h1,h2,h3,h4,h8,⟨cells,elem,h5,h6⟩,h7⟩:=ho
  exact⟨h1,h2,h3,h4,h8,⟨cells,elem,h.get h5,h6⟩,h7⟩
 ·obtain⟨h1,h2,h3,h4,h8,⟨cells,elem,h5,h6⟩,h7⟩:=ho
  exact⟨h1,h2,h3,h4,h8,⟨cells,elem,h.get h5,h6⟩,h7⟩
 ·trivial
inductive qy (C:Ctx):List (qa×qa)→List MapEntry→Prop where
 |nil:qy C [] []
 |cons (k v:qa) (es:List (qa×qa)) (m:MapEntry) (ms:List MapEntry) (hk:Rep C k m.key) (hv:Rep C v m.val) (h:qy C es ms):qy C ((k,v)::es) (m::ms)
theorem qy.imp {C C':Ctx}(h:(∀r o v,C.K r o=some v→C'.K r o=some v)∧(∀b r,C.β b=some r→C'.β b=some r)){es:List (qa×qa)}{ms:List MapEntry}(hr:qy C es ms)(hT:∀q,C.T q→C'.T q:=by first|exact fun _ h=>h|exact fun _ h=>False.elim h):qy C' es ms:=by
 induction hr with
 |nil=>exact .nil
 |cons k v es m ms hk hv _ ih=>exact .cons k v es m ms (qp.imp h hk hT) (qp.imp h hv hT) ih
theorem qy.mono {C C':Ctx}(h:C.le C'){es:List (qa×qa)}{ms:List MapEntry}(hr:qy C es ms):qy C' es ms:=hr.imp ⟨h.k,h.b⟩ h.t
def EnvRep (C:Ctx)(e:Env)(tmps:Array Value):Prop:=∀s x,ye s e=some x→∃v,tmps[s]?=some v∧Rep C x.1 v
def q36 (P:Program)(nt:Nat)(c:Code)(a:qe):Prop:=∃h,qbl P h nt c=some a
structure q9 (P:Program)(C:Ctx)(l:jp)(lp:Loop):Prop where
 assign:q36 P lp.tmps.size lp.assign l.assign
 body:q36 P lp.tmps.size lp.body l.body
 params:lp.params.toList=l.params
 fits:∀t∈l.params,t<lp.tmps.size
 nr:kn l.assign=true∧kn l.body=true
 env:EnvRep C l.env lp.tmps
 state:lp.state=match l.pending with
  |none=>.ready
  |some .normal=>.busy
  |some _=>.done
 pending:lp.pending=match l.pending with
  |none=>none
  |some .normal=>none
  |some (.exit id)=>some (.exit id)
  |some .ret=>some .ret
def VecIs (K:Nat→Nat→Option Value)(w:World)(q sz:Nat)(xs:List qa)(cap:Nat):Prop:=
 ∃cells t vs,w.heap[q]?=some (.cells cells t (0,0))∧xs.length≤cap∧cap*sz≤cells.size∧(∀x∈xs,x.flat.length=sz)∧RepL (.iso K) (xs.flatMap qa.flat) vs ∧
  (∀(j:Nat) v,vs[j]?=some v→cells[j]?=some v)∧∀v∈vs,v.oneCell'=true
theorem VecIs.imp {K K':Nat→Nat→Option Value}{w w':World}{q sz cap:Nat}{xs:List qa}(hK:∀r o v,K r o=some v→K' r o=some v)(hw:w'.heap[q]?=w.heap[q]?)(h:VecIs K w q sz xs cap):VecIs K' w' q sz xs cap:=by
 obtain⟨cells,t,vs,h1,h2,h3,h4,h5,h6⟩:=h
 exact⟨cells,t,vs,hw.trans h1,h2,h3,h4,qp.imp (C:=.iso K) (C':=.iso K') ⟨hK,fun _ _ h=>h⟩ h5,h6⟩
abbrev qi5 (C:Ctx)(ω:Nat→Option Loc)(w:World)(B b q n cap:Nat):Prop:=OwnV C ω w B (.cell b 0) (.list false 0 []) (.slice (some ⟨q,0,none⟩) n cap)
def VecRel (C:Ctx)(ω:Nat→Option Loc)(w:World)(B b r sz ver:Nat)(xs:List qa):Prop:=
 ∃q cap,C.T (r,ver,q,cap)∧(∀x,C.T x→x.1=r→x.2.1≤ver∧(x.2.1=ver→x.2.2=(q,cap)))∧VecIs C.K w q sz xs cap∧(q=r∨qi5 C ω w B b q xs.length cap)∧∃cs t,w.heap[r]?=some (.cells cs t (0,0))
theorem VecRel.imp {C C':Ctx}{ω ω':Nat→Option Loc}{w w':World}{B B' b r sz ver:Nat}{xs:List qa}(hK:∀r o v,C.K r o=some v→C'.K r o=some v)(hT:∀q,C.T q→C'.T q)(hT':∀x,C'.T x→x.1=r→C.T x)(hw:w'.heap[r]?=w.heap[r]?)
  (hq:∀q n cap,qi5 C ω w B b q n cap→w'.heap[q]?=w.heap[q]?∧qi5 C' ω' w' B' b q n cap) (h:VecRel C ω w B b r sz ver xs):VecRel C' ω' w' B' b r sz ver xs:=by
 obtain⟨q,cap,h1,h2,h3,h4,cs,t,h5⟩:=h
 refine⟨q,cap,hT _ h1,fun x hx hr=>h2 x (hT' x hx hr) hr,?_,?_,cs,t,hw.trans h5⟩
 ·rcases h4 with rfl|h4
  ·exact h3.imp hK hw
  ·exact h3.imp hK (hq _ _ _ h4).1
 ·exact h4.imp id fun h=>(hq _ _ _ h).2
def BoxRel (P:Program)(C:Ctx)(ω:Nat→Option Loc)(w:World)(B b r:Nat):qn→Prop
 | .hole=>False
 | .cells cs=>∃vs elem,w.heap[r]?=some (.cells vs elem (0,0))∧cs.length≤vs.size ∧
   ∀j c,cs[j]?=some c→∃v,vs[j]?=some v∧v.oneCell'=true∧Rep C c.1 v∧(c.2=true→OwnV C ω w B (.cell b j) c.1 v)
 | .map es=>∃ents clock,w.heap[r]?=some (.map ents clock)∧qy C es ents.toList
 | .iter s pos=>w.heap[r]?=some (.stringIter ⟨⟨s⟩⟩ pos)
 | .loop l=>∃lp,w.heap[r]?=some (.loop lp)∧q9 P C l lp
 | .bld t e l=>∃p v,w.heap[r]?=some (.cells #[p,v] t (0,0))∧(p=.pointer none∨p=.pointer (some ⟨r,0,none⟩))∧((v=.slice none 0 0∧l=[])∨∃a len cap,v=.slice (some a) len cap)∧OwnV C ω w B (.cell b 1) (.list false 0 [.int .u64 (e:Int),.str l]) v
 | .dead=>∃cs t,w.heap[r]?=some (.cells cs t (0,0))
 | .vec sz ver xs=>VecRel C ω w B b r sz ver xs
def qcs : String := "internal/strconv.uint64pow10"
def qg4 : String := "internal/bytealg.MaxLen"
def j11 (P:Program)(w:World)(g:Nat):Prop:=
 (P.globalNamed qcs=some g→Lib.TabIs P w qcs .u64 Lib.pow10Tab)∧(P.globalNamed qg4=some g→∃m,w.cell? ⟨g,0,none⟩=some (.int .i64 m)) ∧
 (∀x∈qtb,P.globalNamed x.1=some g→∀j n,x.2[j]?=some n→w.cell? ⟨g,j,none⟩=some (.int .i64 n))
def q8l (P:Program)(g:Nat):Prop:=P.globalNamed qcs=some g∨P.globalNamed qg4=some g∨∃x∈qtb,P.globalNamed x.1=some g
def Tabs (P:Program)(w:World):Prop:=∀g,q8l P g→g<w.heap.size∧j11 P w g
theorem Tabs.same {P:Program}{w w':World}(h:Tabs P w)(hs:w.heap.size≤w'.heap.size)(hg:∀g,q8l P g→w'.heap[g]?=w.heap[g]?):Tabs P w':=by
 intro g hn
 obtain⟨h1,h2,h3,h5⟩:=h g hn
 refine⟨Nat.lt_of_lt_of_le h1 hs,fun hn2=>?_,fun hn2=>?_,fun x hx hn2 j n hj=>?_⟩
 ·have h2:=h2 hn2
  unfold Lib.TabIs World.var? at *
  rw[hn2]at h2 ⊢
  simp only[Option.bind_some]at h2 ⊢
  rw[hg g hn]
  exact h2
 ·obtain⟨m,h4⟩:=h3 hn2
  refine⟨m,?_⟩
  unfold World.cell? at *
  simp only[]at h4 ⊢
  rw[hg g hn]
  exact h4
 ·have h4:=h5 x hx hn2 j n hj
  unfold World.cell? at *
  simp only[]at h4 ⊢
  rw[hg g hn]
  exact h4
theorem Tabs.none {P:Program}{w:World}(h:P.globalNamed qcs=none∧P.globalNamed qg4=none∧∀x∈qtb,P.globalNamed x.1=none):Tabs P w:=fun g hn=>by
 rcases hn with hn|hn|⟨x,hx,hn⟩
 ·rw[h.1]at hn;cases hn
 ·rw[h.2.1]at hn;cases hn
 ·rw[h.2.2 x hx]at hn;cases hn
def ze7 (P:Program)(w0:World)(C0:Ctx):Prop:=Tabs P w0∧∀g,q8l P g→(∀b,C0.β b≠some g)∧¬C0.W g
structure MInv (P:Program)(C:Ctx)(ω:Nat→Option Loc)(w0:World)(C0:Ctx)(h:j8)(w:World):Prop where
 base:ze7 P w0 C0
 know:∀r o v,C.K r o=some v→w.cell? ⟨r,o,none⟩=some v
 kone:∀r o v,C.K r o=some v→v.oneCell'=true
 apart:∀b r o,C.β b=some r→C.K r o=none
 inj:∀b b' r,C.β b=some r→C.β b'=some r→b=b'
 lt:∀b r,C.β b=some r→r<w.heap.size∧b<h.length
 size:w0.heap.size≤w.heap.size
 frame:∀r,r<w0.heap.size→(∀b,C0.β b≠some r)→¬C0.W r→w.heap[r]?=w0.heap[r]?
 dfr:∀r,C.D r→w.heap[r]?=some (.deferred (some []))
 os:w.os=w0.os
 output:w.output=w0.output
 fresh:∀b r,C.β b=some r→C0.β b=some r∨w0.heap.size≤r∨C0.W r
 grown:C0.le C
 old:∀r o,r<w0.heap.size→¬C0.W r→C.K r o=C0.K r o
 box:∀b x r,h[b]?=some x→C.β b=some r→BoxRel P C ω w w0.heap.size b r x
 tlt:∀q,C.T q→q.1<w.heap.size
def EnvRel (C:Ctx)(ω:Nat→Option Loc)(w:World)(B:Nat)(e:Env)(tmps:Array Value):Prop:=
 ∀s x,ye s e=some x→∃v,tmps[s]?=some v∧Rep C x.1 v∧(x.2=true→OwnV C ω w B (.slot s) x.1 v)
theorem EnvRel.rep {C:Ctx}{ω:Nat→Option Loc}{w:World}{B:Nat}{e:Env}{tmps:Array Value}(h:EnvRel C ω w B e tmps):EnvRep C e tmps:=
 fun s x hx=>let ⟨v,h1,h2,_⟩:=h s x hx; ⟨v,h1,h2⟩
theorem BoxRel.ext {P:Program}{C:Ctx}{ω:Nat→Option Loc}{w w':World}{B b r:Nat}{x:qn}(h:Ext w w')(hb:BoxRel P C ω w B b r x):BoxRel P C ω w' B b r x:=by
 cases x with
 |hole=>exact hb
 |cells cs=>
  obtain⟨vs,elem,h1,h2,h3⟩:=hb
  exact⟨vs,elem,h.get h1,h2,fun j c hc=>let ⟨v,a,q,b,d⟩:=h3 j c hc; ⟨v,a,q,b,fun e=>(d e).ext h⟩⟩
 |map es=>obtain⟨ents,clock,h1,h2⟩:=hb;exact⟨ents,clock,h.get h1,h2⟩
 |iter s pos=>exact h.get hb
 |loop l=>obtain⟨lp,h1,h2⟩:=hb;exact⟨lp,h.get h1,h2⟩
 |bld t e l=>obtain⟨p,v,h1,h2,h3,h4⟩:=hb;exact⟨p,v,h.get h1,h2,h3,h4.ext h⟩
 |dead=>obtain⟨cs,t,h1⟩:=hb;exact⟨cs,t,h.get h1⟩
 |vec sz ver xs=>
  obtain⟨q,cap,h1,h2,h3,h4,cs,t,h5⟩:=hb
  have hex:∀ {k:Nat} {o:Obj},w.heap[k]?=some o→w'.heap[k]?=w.heap[k]?:=fun hk=>by rw[h.get hk,hk]
  refine⟨q,cap,h1,h2,h3.imp (fun _ _ _ h=>h) ?_,h4.imp id fun h4=>h4.ext h,cs,t,h.get h5⟩
  obtain⟨cells,t',_,g1,_⟩:=h3
  exact hex g1
theorem MInv.tabs {P:Program}{C:Ctx}{ω:Nat→Option Loc}{w0 w:World}{C0:Ctx}{hp:j8}(m:MInv P C ω w0 C0 hp w):Tabs P w:=
 m.base.1.same m.size fun g hg=>m.frame g (m.base.1 g hg).1 (m.base.2 g hg).1 (m.base.2 g hg).2
theorem MInv.ext {P:Program}{C:Ctx}{ω:Nat→Option Loc}{w0 w w':World}{C0:Ctx}{hp:j8}(h:Ext w w')(m:MInv P C ω w0 C0 hp w):MInv P C ω w0 C0 hp w' where
 base:=m.base
 know r o v hk:=h.cell (m.know r o v hk)
 kone:=m.kone
 apart:=m.apart
 inj:=m.inj
 lt b r hb:=⟨Nat.lt_of_lt_of_le (m.lt b r hb).1 h.size,(m.lt b r hb).2⟩
 size:=Nat.le_trans m.size h.size
 frame r hr hn hw:=by rw[h.same r (Nat.lt_of_lt_of_le hr m.size)];exact m.frame r hr hn hw
 dfr r hr:=h.get (m.dfr r hr)
 os:=h.os.trans m.os
 output:=h.output.trans m.output
 fresh:=m.fresh
 grown:=m.grown
 old:=m.old
 box b x r hx hb:=(m.box b x r hx hb).ext h
 tlt q hq:=Nat.lt_of_lt_of_le (m.tlt q hq) h.size
theorem EnvRel.ext {C:Ctx}{ω:Nat→Option Loc}{w w':World}{B:Nat}{e:Env}{tmps:Array Value}(h:Ext w w')(he:EnvRel C ω w B e tmps):EnvRel C ω w' B e tmps:=
 fun s x hx=>let ⟨v,a,b,d⟩:=he s x hx; ⟨v,a,b,fun e=>(d e).ext h⟩
def Ctx.put (C:Ctx)(r off:Nat)(vs:List Value):Ctx:={ C with K:=fun b o=>if b=r∧off≤o∧o<off+vs.length then vs[o-off]? else C.K b o }
theorem Ctx.put_le {C:Ctx}{r off:Nat}(vs:List Value)(h:∀o,off≤o→C.K r o=none):C.le (C.put r off vs):=
 ⟨fun b o v hk=>(by
  simp only[Ctx.put]
  rw[if_neg]
  ·exact hk
  ·rintro ⟨rfl,h1,_⟩;rw[h o h1]at hk;cases hk),fun _ _ h=>h,rfl,fun _ h=>h,fun _ h=>h⟩
theorem Ctx.put_at {C:Ctx}{r off:Nat}{vs:List Value}{j:Nat}{v:Value}(h:vs[j]?=some v):(C.put r off vs).K r (off+j)=some v:=by
 have hj:j<vs.length:=(List.getElem?_eq_some_iff.1 h).1
 show(if r=r∧off≤off+j∧off+j<off+vs.length then vs[off+j-off]? else C.K r (off+j))=some v
 rw[if_pos ⟨rfl,by omega,by omega⟩,show off+j-off=j from by omega,h]
theorem RepC.of_vals {C:Ctx}{r:Nat}{xs:List qa}:∀ {vs:List Value} {o:Nat},RepL C xs vs→(∀j v,vs[j]?=some v→C.K r (o+j)=some v)→RepC C r xs o:=by
 induction xs with
 |nil=>intro vs o _ _;exact .cnil _ _
 |cons x xs ih=>
  intro vs o h hk
  cases h with
  |cons _ _ v vs hx h=>
   refine .ccons _ _ _ _ v (by simpa using hk 0 v rfl) hx (ih h ?_)
   intro j u hj
   rw[show o+1+j=o+(j+1)from by omega]
   exact hk (j+1) u (by simpa using hj)
theorem Ctx.put_cells {C:Ctx}{r off:Nat}{xs:List qa}{vs:List Value}(hn:∀o,off≤o→C.K r o=none)(h:RepL C xs vs):RepC (C.put r off vs) r xs off:=
 RepC.of_vals (qp.mono (Ctx.put_le vs hn) h) fun _ _ hj=>Ctx.put_at hj
theorem MInv.K_new {P:Program}{C:Ctx}{ω:Nat→Option Loc}{w0 w:World}{C0:Ctx}{hp:j8}(m:MInv P C ω w0 C0 hp w)(r:Nat)(hr:w.heap.size≤r)(o:Nat):C.K r o=none:=by
 cases h:C.K r o with
 |none=>rfl
 |some v=>
  have:=m.know r o v h
  unfold World.cell? at this
  rw[show w.heap[(⟨r,o,none⟩:Addr).block]?=none from Array.getElem?_eq_none hr]at this
  cases this
theorem OwnV.put {C:Ctx}{ω:Nat→Option Loc}{w:World}{B r off:Nat}{ℓ:Loc}{x:qa}{v:Value}(vs:List Value)(hr:w.heap.size≤r∨ω r≠some ℓ)(ho:OwnV C ω w B ℓ x v):OwnV (C.put r off vs) ω w B ℓ x v:=by
 unfold OwnV at *
 split at ho
 ·rename_i a len cap
  obtain⟨h1,h2,h3,h4,h8,⟨cells,elem,h5,h6⟩,h7⟩:=ho
  have hlt:a.block<w.heap.size:=(Array.getElem?_eq_some_iff.1 h5).1
  refine⟨h1,h2,h3,h4,h8,⟨cells,elem,h5,h6⟩,fun o ho=>?_⟩
  simp only[Ctx.put]
  rw[if_neg]
  ·exact h7 o ho
  ·rintro ⟨rfl,_⟩
   rcases hr with hr|hr
   ·omega
   ·exact hr h1
 ·rename_i a
  obtain⟨h1,h2,h3,h4,h8,⟨cells,elem,h5,h6⟩,h7⟩:=ho
  have hlt:a.block<w.heap.size:=(Array.getElem?_eq_some_iff.1 h5).1
  refine⟨h1,h2,h3,h4,h8,⟨cells,elem,h5,h6⟩,fun o ho=>?_⟩
  simp only[Ctx.put]
  rw[if_neg]
  ·exact h7 o ho
  ·rintro ⟨rfl,_⟩
   rcases hr with hr|hr
   ·omega
   ·exact hr h1
 ·trivial
theorem q9.imp {P:Program}{C C':Ctx}(h:(∀r o v,C.K r o=some v→C'.K r o=some v)∧(∀b r,C.β b=some r→C'.β b=some r)){l:jp}{lp:Loop}(k:q9 P C l lp)(hT:∀q,C.T q→C'.T q:=by first|exact fun _ h=>h|exact fun _ h=>False.elim h):q9 P C' l lp:=
 { k with env:=fun s x hx=>let ⟨v,a,b⟩:=k.env s x hx; ⟨v,a,qp.imp h b hT⟩ }
theorem q9.mono {P:Program}{C C':Ctx}(h:C.le C'){l:jp}{lp:Loop}(k:q9 P C l lp):q9 P C' l lp:=k.imp ⟨h.k,h.b⟩ h.t
theorem BoxRel.imp {P:Program}{C C':Ctx}{ω ω':Nat→Option Loc}{w w':World}{B B' b r:Nat}{x:qn}(h:(∀r o v,C.K r o=some v→C'.K r o=some v)∧(∀b r,C.β b=some r→C'.β b=some r))(hw:w'.heap[r]?=w.heap[r]?)
  (ho:∀j y v,OwnV C ω w B (.cell b j) y v→OwnV C' ω' w' B' (.cell b j) y v) (hb:BoxRel P C ω w B b r x) (hT:∀q,C.T q→C'.T q:=by exact fun _ h=>h) (hT':∀x,C'.T x→x.1=r→C.T x:=by exact fun _ h _=>h)
  (hq:∀q n cap,qi5 C ω w B b q n cap→w'.heap[q]?=w.heap[q]?:=by exact fun _ _ _ _=>rfl):BoxRel P C' ω' w' B' b r x:=by
 cases x with
 |hole=>exact hb
 |cells cs=>
  obtain⟨vs,elem,h1,h2,h3⟩:=hb
  exact⟨vs,elem,hw.trans h1,h2,fun j c hc=>let ⟨v,a,q,b,d⟩:=h3 j c hc; ⟨v,a,q,qp.imp h b hT,fun e=>ho _ _ _ (d e)⟩⟩
 |map es=>obtain⟨ents,clock,h1,h2⟩:=hb;exact⟨ents,clock,hw.trans h1,h2.imp h hT⟩
 |iter s pos=>exact hw.trans hb
 |loop l=>obtain⟨lp,h1,h2⟩:=hb;exact⟨lp,hw.trans h1,h2.imp h hT⟩
 |bld t e l=>obtain⟨p,v,h1,h2,h3,h4⟩:=hb;exact⟨p,v,hw.trans h1,h2,h3,ho _ _ _ h4⟩
 |dead=>obtain⟨cs,t,h1⟩:=hb;exact⟨cs,t,hw.trans h1⟩
 |vec sz ver xs=>exact VecRel.imp h.1 hT hT' hw (fun q n cap k=>⟨hq q n cap k,ho _ _ _ k⟩) hb
theorem BoxRel.mono {P:Program}{C C':Ctx}{ω ω':Nat→Option Loc}{w:World}{B b r:Nat}{x:qn}(h:C.le C')
  (ho:∀j y v,OwnV C ω w B (.cell b j) y v→OwnV C' ω' w B (.cell b j) y v) (hb:BoxRel P C ω w B b r x) (hT':∀x,C'.T x→x.1=r→C.T x:=by exact fun _ h _=>h):BoxRel P C' ω' w B b r x:=hb.imp ⟨h.k,h.b⟩ rfl ho h.t hT'
theorem MInv.newRow {P:Program}{C:Ctx}{ω:Nat→Option Loc}{w0 w:World}{C0:Ctx}{hp:j8}(m:MInv P C ω w0 C0 hp w)(cells:Array Value)(t:TypeId)(vs:List Value)
  (hv:∀(j:Nat) v,vs[j]?=some v→cells[j]?=some v) (h1:∀v∈vs,v.oneCell'=true):
  MInv P (C.put w.heap.size 0 vs) ω w0 C0 hp (w.alloc (.cells cells t)):=by
 have hx:Ext w (w.alloc (.cells cells t)):=Ext.alloc w _ (fun c t fr h=>by cases h;rfl)
 have m':=m.ext hx
 have hn:∀o,C.K w.heap.size o=none:=m.K_new _ (Nat.le_refl _)
 have hle:=Ctx.put_le (C:=C) (off:=0) vs (fun o _=>hn o)
 refine { m' with know:=?_,kone:=?_,apart:=?_,grown:=Ctx.le_trans m.grown hle,old:=?_,box:=?_ }
 ·intro r o v hk
  simp only[Ctx.put]at hk
  split at hk
  ·rename_i hc
   obtain⟨rfl,_,_⟩:=hc
   simp only[World.cell?]
   rw[qdn,if_pos rfl]
   simpa using hv _ _ hk
  ·exact m'.know r o v hk
 ·intro r o v hk
  simp only[Ctx.put]at hk
  split at hk
  ·exact h1 v (List.mem_of_getElem? hk)
  ·exact m.kone r o v hk
 ·intro b r o hb
  have:=(m.lt b r hb).1
  simp only[Ctx.put]
  rw[if_neg (by omega)]
  exact m.apart b r o hb
 ·intro r o hr hw
  have:=m.size
  simp only[Ctx.put]
  rw[if_neg (by omega)]
  exact m.old r o hr hw
 ·intro b x r hx' hb
  exact((m.box b x r hx' hb).mono (ω':=ω) hle fun j y v ho=>ho.put vs (.inl (Nat.le_refl _))).ext hx
theorem EnvRel.put {C:Ctx}{ω:Nat→Option Loc}{w:World}{B:Nat}{e:Env}{tmps:Array Value}{r off:Nat}(vs:List Value)(hr:w.heap.size≤r∨∀s,ye s e≠none→(ye s e).any (·.2)=true→ω r≠some (.slot s))(hn:∀o,off≤o→C.K r o=none)(he:EnvRel C ω w B e tmps):EnvRel (C.put r off vs) ω w B e tmps:=
 fun s x hx=>let ⟨v,a,b,d⟩:=he s x hx; ⟨v,a,qp.mono (Ctx.put_le vs hn) b,fun e=>(d e).put vs (hr.imp id fun h=>h s (by rw[hx];simp) (by rw[hx];exact e))⟩
def own1 (ω:Nat→Option Loc)(r:Nat)(ℓ:Loc):Nat→Option Loc:=fun b=>if b=r then some ℓ else ω b
theorem OwnV.other {C:Ctx}{ω:Nat→Option Loc}{w:World}{B r:Nat}{ℓ ℓ':Loc}{x:qa}{v:Value}(hr:ω r≠some ℓ∨ℓ=ℓ')(ho:OwnV C ω w B ℓ x v):OwnV C (Abs.own1 ω r ℓ') w B ℓ x v:=by
 unfold OwnV at *
 split at ho
 ·rename_i a len cap
  obtain⟨h1,h2⟩:=ho
  refine⟨?_,h2⟩
  simp only[Abs.own1]
  by_cases hb:a.block=r
  ·rw[if_pos hb]
   rcases hr with hr|hr
   ·exact absurd (hb▸h1) hr
   ·rw[hr]
  ·rw[if_neg hb];exact h1
 ·rename_i a
  obtain⟨h1,h2⟩:=ho
  refine⟨?_,h2⟩
  simp only[Abs.own1]
  by_cases hb:a.block=r
  ·rw[if_pos hb]
   rcases hr with hr|hr
   ·exact absurd (hb▸h1) hr
   ·rw[hr]
  ·rw[if_neg hb];exact h1
 ·trivial
theorem OwnV.fresh {C:Ctx}{ω:Nat→Option Loc}{w:World}{B r:Nat}{ℓ ℓ':Loc}{x:qa}{v:Value}(hr:w.heap.size≤r)(ho:OwnV C ω w B ℓ x v):OwnV C (Abs.own1 ω r ℓ') w B ℓ x v:=by
 unfold OwnV at *
 split at ho
 ·rename_i a len cap
  obtain⟨h1,h2,h3,h4,h8,⟨cells,elem,h5,h6⟩,h7⟩:=ho
  have hlt:a.block<w.heap.size:=(Array.getElem?_eq_some_iff.1 h5).1
  refine⟨?_,h2,h3,h4,h8,⟨cells,elem,h5,h6⟩,h7⟩
  simp only[Abs.own1]
  rw[if_neg (by omega)]
  exact h1
 ·rename_i a
  obtain⟨h1,h2,h3,h4,h8,⟨cells,elem,h5,h6⟩,h7⟩:=ho
  have hlt:a.block<w.heap.size:=(Array.getElem?_eq_some_iff.1 h5).1
  refine⟨?_,h2,h3,h4,h8,⟨cells,elem,h5,h6⟩,h7⟩
  simp only[Abs.own1]
  rw[if_neg (by omega)]
  exact h1
 ·trivial
theorem EnvRel.fresh {C:Ctx}{ω:Nat→Option Loc}{w:World}{B r:Nat}{ℓ:Loc}{e:Env}{tmps:Array Value}(hr:w.heap.size≤r)(he:EnvRel C ω w B e tmps):EnvRel C (Abs.own1 ω r ℓ) w B e tmps:=
 fun s x hx=>let ⟨v,a,b,d⟩:=he s x hx; ⟨v,a,b,fun e=>(d e).fresh hr⟩
theorem MInv.fresh1 {P:Program}{C:Ctx}{ω:Nat→Option Loc}{w0 w:World}{C0:Ctx}{hp:j8}(m:MInv P C ω w0 C0 hp w)(r:Nat)(ℓ:Loc)(hr:w.heap.size≤r):MInv P C (Abs.own1 ω r ℓ) w0 C0 hp w:=
 { m with box:=fun b x r' hx hb=>(m.box b x r' hx hb).mono (Ctx.le_refl C) fun _ _ _ ho=>ho.fresh hr }
theorem MInv.own1 {P:Program}{C:Ctx}{ω:Nat→Option Loc}{w0 w:World}{C0:Ctx}{hp:j8}(m:MInv P C ω w0 C0 hp w)(r:Nat)(ℓ:Loc)(hr:∀b j,ω r≠some (.cell b j)):MInv P C (Abs.own1 ω r ℓ) w0 C0 hp w:=
 { m with box:=fun b x r' hx hb=>(m.box b x r' hx hb).mono (Ctx.le_refl C) fun j _ _ ho=>ho.other (.inl (hr b j)) }
end Go.Abs
