/- The abstract machine. -/
import GoSem.Step
import GoSem.Claims
import GoSem.Core.Region
import GoSem.Core.Layout
import GoSem.Op.Equal
import Derived.CallsIn
import Derived.Deep.AppendSrc
import Derived.Laws.CopyRow
import Derived.Laws.AppendOwn
import Derived.Laws.Entries
import Derived.Lib.LaidTab
import Derived.Lib.ItoaNum
set_option linter.unusedVariables false
set_option linter.unusedSimpArgs false
namespace Go.Abs
theorem cT.{u} {α:Sort u}(a b:α):cond true a b=a:=rfl
theorem cF.{u} {α:Sort u}(a b:α):cond false a b=b:=rfl
theorem dT {p:Prop}[Decidable p](h:p):decide p=true:=decide_eq_true h
theorem dF {p:Prop}[Decidable p](h:¬p):decide p=false:=decide_eq_false h
inductive qa where
 |bool (b:Bool)
 |int (k:IntKind) (n:Int)
 |str (s:List UInt8)
 |list (isNil:Bool) (sz:Nat) (xs:List qa)
 |ms (b off len:Nat)
 |ptr (b off:Nat)
 |vptr (v:qa)
 |nilptr
 |map (b:Nat)
 |nilmap
 |fn (f:Fn) (first captured:List qa)
 |nilfn
 |agg (cs:List qa)
 |tup (vs:List qa)
 |undef
 |any
 |pend (n:Nat)
 |vref (b ver len:Nat)
 |vel (b ver off:Nat)
 deriving Inhabited
inductive qf where
 |tmp (t:Nat)
 |const (v:qa)
 deriving Inhabited
inductive Kd where
 |int|str|bool
 deriving DecidableEq,Inhabited
inductive jc where
 |iso|frz (r:Nat)|shr|red
 deriving DecidableEq,Inhabited
inductive qw where
 |move (x:qf)
 |take (s:Nat)
 |pick (c a b:qf)
 |alloc (r:Nat) (zero:List qa)
 |box (r n:Nat) (x:qf)
 |vbox (n:Nat) (x:qf)
 |valloc (n:Nat)
 |vstore (n s:Nat) (x:qf)
 |bld (r t e:Nat)
 |build (zero:List qa) (parts:List (Nat×Nat×qf))
 |buildSlice (sz len:Nat) (zero:List qa) (parts:List (Nat×qf))
 |load (agg:Bool) (n:Nat) (x:qf)
 |vload (agg:Bool) (n:Nat) (x:qf)
 |loadTake (off:Option Nat) (x:qf)
 |store (n:Nat) (a v:qf)
 |nilCheck (x:qf)
 |bin (op:BinOp) (x y:qf)
 |eqs (ks:List Kd) (neq:Bool) (x y:qf)
 |beq (neq:Bool) (x y:qf)
 |nilEq (k:Nat) (neq:Bool) (x:qf)
 |un (op:UnOp) (x:qf)
 |conv (k:IntKind) (x:qf)
 |convStr (x:qf)
 |field (agg:Bool) (off n:Nat) (x:qf)
 |index (agg:Bool) (len n:Nat) (x i:qf)
 |strIndex (x i:qf)
 |fieldAddr (agg:Bool) (off n:Nat) (x:qf)
 |indexAddr (sz:Nat) (x i:qf)
 |indexArr (agg:Bool) (len sz:Nat) (x i:qf)
 |slice (sz:Nat) (x:qf) (lo hi:Option qf)
 |strSlice (x:qf) (lo hi:Option qf)
 |sliceArr (len sz:Nat) (x:qf) (lo hi:Option qf)
 |mkfunc (f:Fn) (first captured:List qf)
 |mkmap (r:Nat)
 |lookup (kd:Kd) (zero:qa) (ok:Bool) (m k:qf)
 |mapUpdate (kd:Kd) (m k v:qf)
 |delete (kd:Kd) (m k:qf)
 |mkslice (r:Option Nat) (sz bytes:Nat) (zero:List qa) (n c:qf)
 |len (k:Nat) (x:qf)
 |append (r:Option Nat) (sz bytes:Nat) (x y:qf)
 |vapp (r sz bytes:Nat) (x y:qf)
 |vlit (r sz len:Nat) (zero:List qa) (parts:List (Nat×qf))
 |copy (sz:Nat) (x y:qf)
 |mx (args:List qf)
 |mn (args:List qf)
 |extract (x:qf) (i:Nat)
 |call (md:jc) (f:qf) (args:List qf)
 |srange (r:Nat) (x:qf)
 |snext (it:qf)
 |bad
 deriving Inhabited
structure qt where
 dst:Option Nat
 op:qw
 guard:Option (Nat×Bool)
 al:Option (List Nat)
 deriving Inhabited
inductive qh where
 |skip
 |region (na:Nat) (ops:List qt) (keep:Option (List Nat))
 |seq (a b:qh)
 |cond (c:qf) (a b:qh)
 |block (id:Nat) (body:qh)
 |loop (body:qh)
 |rangeFunc (f:qf) (params:List Nat) (assign body:qh)
 |exit (id:Nat)
 |ret
 |grow (sz:Nat)
 |stuck
 deriving Inhabited
abbrev Env:=List (Nat×qa×Bool)
inductive qn where
 |normal
 |exit (id:Nat)
 |ret
 deriving DecidableEq,Inhabited
structure jp where
 env:Env
 params:List Nat
 assign:qh
 body:qh
 pending:Option qn
 deriving Inhabited
def qad:qh→Bool
 | .seq a b=>qad a&&qad b
 | .cond _ a b=>qad a&&qad b
 | .block _ b=>qad b
 | .loop b=>qad b
 | .rangeFunc ..=>false
 |_=>true
def noOwn (e:Env):Env:=e.map fun x=>(x.1,x.2.1,false)
inductive qr where
 |hole
 |cells (cs:List (qa×Bool))
 |map (es:List (qa×qa))
 |iter (s:List UInt8) (pos:Nat)
 |loop (l:jp)
 |bld (t e:Nat) (l:List UInt8)
 |dead
 |vec (sz ver:Nat) (xs:List qa)
 deriving Inhabited
abbrev zb:=List qr
structure qg where
 env:Env
 heap:zb
 deriving Inhabited
inductive ja where
 |tmp (t:Nat)
 |cell (t:Nat) (agg:Bool) (n:Nat)
 deriving Inhabited
structure qd where
 ntmps:Nat
 body:qh
 results:List ja
 deriving Inhabited
abbrev qll:=Nat→Option (List qa→Option (qa×Bool))
abbrev jaa:=Nat→Option (List qa→zb→Option (qa×Bool×zb))
abbrev q7j:=Nat→Option (List (qa×qa))
structure qu where
 fns:Nat→Option qd
 prims:qll
 sprims:jaa:=fun _=>none
 maps:q7j:=fun _=>none
def yl (t:Nat):Env→Option (qa×Bool)
 | []=>none
 |(s,x)::e=>bif Nat.beq s t then some x else yl t e
def zh (e:Env):qf→Option qa
 | .tmp t=>match yl t e with
  |some x=>some x.1
  |none=>none
 | .const v=>some v
def qbq (e:Env):List qf→Option (List qa)
 | []=>some []
 |x::xs=>match zh e x with
  |some v=>match qbq e xs with
   |some vs=>some (v::vs)
   |none=>none
  |none=>none
def qe5 (e:Env):List Nat→Env
 | []=>[]
 |t::ts=>match yl t e with
  |some x=>(t,x)::qe5 e ts
  |none=>qe5 e ts
def qgw:IntKind→Int→Bool
 | .i64,.ofNat m=>Nat.ble m 9223372036854775807
 | .i64,.negSucc m=>Nat.ble m 9223372036854775807
 | .i32,.ofNat m=>Nat.ble m 2147483647
 | .i32,.negSucc m=>Nat.ble m 2147483647
 | .i16,.ofNat m=>Nat.ble m 32767
 | .i16,.negSucc m=>Nat.ble m 32767
 | .i8,.ofNat m=>Nat.ble m 127
 | .i8,.negSucc m=>Nat.ble m 127
 | .u64,.ofNat m=>Nat.ble m 18446744073709551615
 | .u32,.ofNat m=>Nat.ble m 4294967295
 | .u16,.ofNat m=>Nat.ble m 65535
 | .u8,.ofNat m=>Nat.ble m 255
 |_,.negSucc _=>false
def j8 (k:IntKind)(n:Int):Int:=bif qgw k n then n else k.wrap n
def qa.flat:qa→List qa
 | .agg cs=>cs
 |v=>[v]
def qa.isAgg:qa→Bool
 | .agg _=>true
 |_=>false
def qa.isList:qa→Bool
 | .list ..=>true
 |_=>false
def qc7:Kd→qa→qa→Option Bool
 | .int,.int k a,.int k' b=>bif decide (k=k')then some (a == b)else none
 | .str,.str a,.str b=>some (a == b)
 | .bool,.bool a,.bool b=>some (a == b)
 |_,_,_=>none
def qal:List Kd→List qa→List qa→Option Bool
 | [],[],[]=>some true
 |k::ks,x::xs,y::ys=>match qc7 k x y with
  |some true=>qal ks xs ys
  |some false=>some false
  |none=>none
 |_,_,_=>none
def part (agg:Bool)(cs:List qa)(off n:Nat):Option qa:=
 bif agg then(bif Nat.ble (off+n) cs.length then some (.agg ((cs.drop off).take n))else none)else cs[off]?
def bytesLess:List UInt8→List UInt8→Bool
 |_,[]=>false
 | [],_::_=>true
 |a::x,b::y=>a<b||(a == b&&bytesLess x y)
def qfe (op:BinOp)(k:IntKind)(x y:Int):Option qa:=
 match op with
 | .add=>some (.int k (j8 k (x+y)))
 | .sub=>some (.int k (j8 k (x-y)))
 | .mul=>some (.int k (j8 k (x*y)))
 | .quo=>bif y == 0 then none else some (.int k (j8 k (x.tdiv y)))
 | .rem=>bif y == 0 then none else some (.int k (x.tmod y))
 | .eql=>some (.bool (x == y))
 | .neq=>some (.bool (x != y))
 | .lss=>some (.bool (decide (x<y)))
 | .leq=>some (.bool (decide (x≤y)))
 | .gtr=>some (.bool (decide (x > y)))
 | .geq=>some (.bool (decide (x≥y)))
 | .and=>some (.int k (k.wrap (BitVec.ofInt k.bits x &&& BitVec.ofInt k.bits y).toNat))
 | .or=>some (.int k (k.wrap (BitVec.ofInt k.bits x ||| BitVec.ofInt k.bits y).toNat))
 | .xor=>some (.int k (k.wrap (BitVec.ofInt k.bits x ^^^ BitVec.ofInt k.bits y).toNat))
 | .andNot=>some (.int k (k.wrap (BitVec.ofInt k.bits x &&& ~~~BitVec.ofInt k.bits y).toNat))
 |_=>none
def qrk (op:BinOp)(k:IntKind)(x y:Int):Option qa:=
 bif decide (y<0)then none else
 match op with
 | .shl=>some (.int k (j8 k (x*2^(min y.toNat k.bits))))
 | .shr=>some (.int k (x.fdiv (2^(min y.toNat k.bits))))
 |_=>none
def qsa (op:BinOp)(x y:List UInt8):Option qa:=
 match op with
 | .add=>bif Nat.ble (x.length+y.length) 4611686018427387904 then some (.str (x++y))else none
 | .eql=>some (.bool (x == y))
 | .neq=>some (.bool !(x == y))
 | .lss=>some (.bool (bytesLess x y))
 | .leq=>some (.bool (bytesLess x y||x == y))
 | .gtr=>some (.bool !(bytesLess x y||x == y))
 | .geq=>some (.bool !(bytesLess x y))
 |_=>none
def qay (op:BinOp):qa→qa→Option qa
 | .int k x,.int k' y=>match op with
  | .shl=>qrk .shl k x y
  | .shr=>qrk .shr k x y
  |op=>bif decide (k=k')then qfe op k x y else none
 | .str x,.str y=>qsa op x y
 |_,_=>none
def qnl:UnOp→qa→Option qa
 | .neg,.int k n=>some (.int k (j8 k (0-n)))
 | .not,.bool b=>some (.bool !b)
 |_,_=>none
def max2:qa→qa→Option qa
 | .int k x,.int k' y=>bif decide (k=k')then some (.int k (if y > x then y else x))else none
 |_,_=>none
def min2:qa→qa→Option qa
 | .int k x,.int k' y=>bif decide (k=k')then some (.int k (if y<x then y else x))else none
 |_,_=>none
def qgb (f:qa→qa→Option qa):qa→List qa→Option qa
 |x,[]=>some x
 |x,y::ys=>match f x y with
  |some z=>qgb f z ys
  |none=>none
def qdc:List qa→List (Nat×List qa)→Option (List qa)
 |cs,[]=>some cs
 |cs,(off,vs)::rest=>bif Nat.ble (off+vs.length) cs.length then qdc (cs.take off++vs++cs.drop (off+vs.length)) rest else none
def zm:qa→Bool
 | .agg _=>false
 | .tup _=>false
 | .undef=>false
 | .any=>false
 |_=>true
def qbg (e:Env):List (Nat×Nat×qf)→Option (List (Nat×List qa))
 | []=>some []
 |(off,n,x)::ps=>match zh e x with
  |some v=>bif Nat.beq v.flat.length n&&v.flat.all zm then
    (match qbg e ps with
     |some r=>some ((off,v.flat)::r)
     |none=>none)else none
  |none=>none
def qeo (xs:List qa):List (Nat×qa)→Option (List qa)
 | []=>some xs
 |(i,v)::ps=>bif Nat.blt i xs.length then qeo (xs.set i v) ps else none
def qap (e:Env)(sz:Nat):List (Nat×qf)→Option (List (Nat×qa))
 | []=>some []
 |(i,x)::ps=>match zh e x with
  |some v=>bif Nat.beq v.flat.length sz&&v.flat.all zm then
   (match qap e sz ps with
    |some r=>some ((i,v)::r)
    |none=>none)else none
  |none=>none
def jlv (zero:List qa)(agg:Bool):Option qa:=
 bif agg then some (.agg zero)else match zero with
  | [z]=>some z
  |_=>none
def kl (h:zb)(b:Nat):Option qr:=h[b]?
def yw (h:zb)(b:Nat):Option (List (qa×Bool)):=
 match h[b]? with
 |some (.cells cs)=>some cs
 |_=>none
def kn (cs:List (qa×Bool))(off n:Nat):Option (List qa):=
 bif Nat.ble (off+n) cs.length then some (((cs.drop off).take n).map (·.1))else none
def yu (cs:List (qa×Bool))(off:Nat)(vs:List qa):Option (List (qa×Bool)):=
 bif Nat.ble (off+vs.length) cs.length&&vs.all zm then some (cs.take off++vs.map (·,false)++cs.drop (off+vs.length))else none
mutual
def below (n:Nat):qa→Bool
 | .ms b _ _=>Nat.blt b n
 | .ptr b _=>Nat.blt b n
 | .map b=>Nat.blt b n
 | .vref b _ _=>Nat.blt b n
 | .vel b _ _=>Nat.blt b n
 | .vptr v=>below n v
 | .list _ _ xs=>z8 n xs
 | .agg cs=>z8 n cs
 | .tup vs=>z8 n vs
 | .fn (.yield b) first captured=>Nat.blt b n&&z8 n first&&z8 n captured
 | .fn _ first captured=>z8 n first&&z8 n captured
 |_=>true
def z8 (n:Nat):List qa→Bool
 | []=>true
 |x::xs=>below n x&&z8 n xs
end
def qce (n:Nat):Env→Bool
 | []=>true
 |(_,v,_)::e=>below n v&&qce n e
def qcc (n:Nat):List (qa×Bool)→Bool
 | []=>true
 |(v,_)::e=>below n v&&qcc n e
def qb5 (n:Nat):List (qa×qa)→Bool
 | []=>true
 |(k,v)::e=>below n k&&below n v&&qb5 n e
def qdl (n:Nat):qr→Bool
 | .hole=>true
 | .cells cs=>qcc n cs
 | .map es=>qb5 n es
 | .iter _ _=>true
 | .bld ..=>true
 | .dead=>true
 | .vec ..=>true
 | .loop l=>qce n l.env
def ky (n:Nat):zb→Bool
 | []=>true
 |b::h=>qdl n b&&ky n h
def gc (n:Nat)(st:qg):qg:=
 bif Nat.ble st.heap.length n then st
 else bif qce n st.env&&ky n (st.heap.take n)then { st with heap:=st.heap.take n }else st
def qe3 (v:qa):Bool:=below 0 v
def q5j (agg:Bool)(sz:Nat):Nat→List qa→Option (List qa)
 |0,_=>some []
 |n+1,cs=>bif Nat.ble sz cs.length then
   (match jlv (cs.take sz) agg with
    |some v=>(match q5j agg sz n (cs.drop sz)with
     |some r=>some (v::r)
     |none=>none)
    |none=>none)else none
def qdq (sz:Nat):Nat→List qa→List qa
 |0,_=>[]
 |n+1,cs=>(bif Nat.beq sz 1 then cs.headD .undef else .agg (cs.take sz))::qdq sz n (cs.drop sz)
def q79:qa→Bool
 | .str _=>true
 | .list ..=>true
 |_=>false
def qze (off len:Nat)(cs:List (qa×Bool)):Bool:=Nat.beq off 0&&Nat.blt 1 (cs.length / len)&&Nat.beq (len*(cs.length / len)) cs.length&&cs.any (fun c=>q79 c.1)
def qbd (h:zb):qa→Option qa
 | .ms b off len=>match yw h b with
  |some cs=>bif qze off len cs then some (.list false (cs.length / len) (qdq (cs.length / len) len (cs.map (·.1))))else(match kn cs off len with
   |some vs=>some (.list false 1 vs)
   |none=>none)
  |none=>none
 | .vref b ver len=>match h[b]? with
  |some (.vec sz ver' xs)=>bif Nat.beq ver ver'&&Nat.ble len xs.length then some (.list false sz (xs.take len))else none
  |_=>none
 |v=>some v
def qch (h:zb):List qa→Option (List qa)
 | []=>some []
 |v::vs=>match qbd h v with
  |some x=>(match qch h vs with
   |some xs=>some (x::xs)
   |none=>none)
  |none=>none
def freezeR (h:zb):qa→Option qa
 | .agg cs=>match qch h cs with
  |some xs=>some (.agg xs)
  |none=>none
 | .tup vs=>match freezeT h vs with
  |some xs=>some (.tup xs)
  |none=>none
 |v=>qbd h v
where
 freezeT (h:zb):List qa→Option (List qa)
  | []=>some []
  | .agg cs::vs=>match qch h cs with
   |some x=>(match freezeT h vs with
    |some xs=>some (.agg x::xs)
    |none=>none)
   |none=>none
  |v::vs=>match qbd h v with
   |some x=>(match freezeT h vs with
    |some xs=>some (x::xs)
    |none=>none)
   |none=>none
def kg (kd:Kd)(k:qa):List (qa×qa)→Nat→Option (Option (Nat×qa))
 | [],_=>some none
 |(k',v)::es,i=>match qc7 kd k k' with
  |some true=>some (some (i,v))
  |some false=>kg kd k es (i+1)
  |none=>none
def zo (s:List UInt8)(i:Nat):Nat×Nat:=Utf8.decode ⟨⟨s⟩⟩ i
structure qp where
 v:qa
 own:Bool
 strip:Option Nat
 heap:zb
def exl (l:List Nat):Bool:=match l with
 | []=>false
 |k::_=>Nat.ble 1000 k
def exq (h0:Nat)(l:List Nat)(b:Nat):Bool:=match l with
 | []=>false
 |k::_=>bif Nat.blt k 2000 then Nat.beq b (k-1000)&&Nat.blt b h0 else bif Nat.blt k 4000 then Nat.beq b (h0+(k-2000))else Nat.blt b h0
def ke (h0:Nat)(al:Option (List Nat))(b:Nat):Bool:=
 match al with
 |none=>true
 |some l=>bif exl l then exq h0 l b else(Nat.blt b h0||l.contains (b-h0))
def qhq (al:Option (List Nat)):Bool:=
 match al with
 |some (k::_)=>Nat.ble 4000 k
 |_=>false
def qhe (h0:Nat)(al:Option (List Nat))(b:Nat):Bool:=ke h0 al b&&!(qhq al)
def yv (h:zb)(b:Nat)(x:qr):Option zb:=bif Nat.blt b h.length then some (h.set b x)else none
def newBox (h0:Nat)(h:zb)(r:Nat)(x:qr):Option zb:=
 match h[h0+r]? with
 |some .hole=>some (h.set (h0+r) x)
 |_=>none
def val (h:zb)(v:qa):Option qp:=some ⟨v,false,none,h⟩
def qcx (h:zb):Option qa→Option qp
 |some v=>some ⟨v,false,none,h⟩
 |none=>none
def idx (n:Nat):qa→Option Nat
 | .int _ (.ofNat i)=>bif Nat.blt i n then some i else none
 |_=>none
def qq7 (n:Nat):qa→Option Nat
 | .int _ (.ofNat i)=>bif Nat.ble i n then some i else none
 |_=>none
def bnd (e:Env)(dflt n:Nat):Option qf→Option Nat
 |none=>some dflt
 |some x=>match zh e x with
  |some v=>qq7 n v
  |none=>none
def kx (e:Env):qf→Option Nat
 | .tmp t=>match yl t e with
  |some (_,true)=>some t
  |_=>none
 |_=>none
def qaa (sz:Nat):qa→Option (List qa)
 | .list _ sy ys=>bif Nat.beq sz sy||ys.isEmpty then some ys else none
 | .str s=>bif Nat.beq sz 1 then some (s.map fun(c:UInt8)=>qa.int .u8 c.toNat)else none
 |_=>none
def qiq (n:Bool)(sz:Nat)(xs ys:List qa):qa:=bif n&&ys.isEmpty then .list true 0 []else .list false sz (xs++ys)
def zr (e:Env)(h:zb):qw→Option qp
 | .move x=>qcx h (zh e x)
 | .take s=>match yl s e with
  |some (v,o)=>some ⟨v,o,some s,h⟩
  |none=>none
 | .pick c a b=>match zh e c with
  |some (.bool t)=>(match zh e a,zh e b with
    |some x,some y=>val h (bif t then x else y)
    |_,_=>none)
  |_=>none
 | .vbox n x=>match zh e x with
  |some v=>bif Nat.beq v.flat.length n&&v.flat.all zm then val h (.vptr v)else none
  |none=>none
 | .build zero parts=>match qbg e parts with
  |some ps=>match qdc zero ps with
   |some cs=>val h (.agg cs)
   |none=>none
  |none=>none
 | .buildSlice sz len zero parts=>match qap e sz parts with
  |some ps=>match qeo (List.replicate len (bif Nat.beq sz 1 then zero.headD .undef else .agg zero)) ps with
   |some xs=>some ⟨.list false sz xs,true,none,h⟩
   |none=>none
  |none=>none
 | .valloc n=>some ⟨.pend n,true,none,h⟩
 | .vstore n s x=>match yl s e,zh e x with
  |some (.pend m,true),some v=>bif Nat.beq m n&&Nat.beq v.flat.length n&&v.flat.all zm then val h (.vptr v)else none
  |_,_=>none
 | .vload agg n x=>match zh e x with
  |some (.vptr v)=>bif Bool.xor agg v.isAgg||!(Nat.beq v.flat.length n)then none else val h v
  |_=>none
 | .nilCheck x=>match zh e x with
  |some (.ptr b o)=>val h (.ptr b o)
  |some (.vptr v)=>val h (.vptr v)
  |some (.fn (.func f) a b)=>val h (.fn (.func f) a b)
  |_=>none
 | .bin op x y=>match zh e x,zh e y with
  |some a,some b=>qcx h (qay op a b)
  |_,_=>none
 | .eqs ks neq x y=>match zh e x,zh e y with
  |some (.agg a),some (.agg b)=>bif Nat.beq a.length ks.length&&Nat.beq b.length ks.length then(match qal ks a b with
   |some t=>val h (.bool (bif neq then !t else t))
   |none=>none)else none
  |_,_=>none
 | .beq neq x y=>match zh e x,zh e y with
  |some (.bool a),some (.bool b)=>val h (.bool (bif neq then !(a == b)else a == b))
  |_,_=>none
 | .nilEq k neq x=>match k,zh e x with
  |0,some (.list n _ _)=>val h (.bool (bif neq then !n else n))
  |0,some (.ms ..)=>val h (.bool neq)
  |1,some .nilptr=>val h (.bool (!neq))
  |1,some (.ptr ..)=>val h (.bool neq)
  |1,some (.vptr ..)=>val h (.bool neq)
  |2,some .nilmap=>val h (.bool (!neq))
  |2,some (.map ..)=>val h (.bool neq)
  |3,some .nilfn=>val h (.bool (!neq))
  |3,some (.fn ..)=>val h (.bool neq)
  |_,_=>none
 | .un op x=>match zh e x with
  |some v=>qcx h (qnl op v)
  |none=>none
 | .conv k x=>match zh e x with
  |some (.int _ n)=>val h (.int k (j8 k n))
  |_=>none
 | .convStr x=>match zh e x with
  |some (.str s)=>val h (.str s)
  |some (.int _ n)=>val h (.str (Utf8.encode n).data.toList)
  |_=>none
 | .field agg off n x=>match zh e x with
  |some (.agg cs)=>qcx h (part agg cs off n)
  |_=>none
 | .index agg len n x i=>match zh e x,zh e i with
  |some (.agg cs),some j=>(match idx len j with
   |some j=>qcx h (part agg cs (j*n) n)
   |none=>none)
  |_,_=>none
 | .strIndex x i=>match zh e x,zh e i with
  |some (.str s),some j=>(match idx s.length j with
   |some j=>(match s[j]? with
    |some c=>val h (.int .u8 c.toNat)
    |none=>none)
   |none=>none)
  |_,_=>none
 | .fieldAddr agg off n x=>match zh e x with
  |some (.ptr b o)=>val h (.ptr b (o+off))
  |some (.vptr (.agg cs))=>(match part agg cs off n with
   |some v=>bif Bool.xor agg v.isAgg then none else val h (.vptr v)
   |none=>none)
  |some (.vel b ver o)=>val h (.vel b ver (o+off))
  |_=>none
 | .indexAddr sz x i=>match zh e x,zh e i with
  |some (.list _ sz' xs),some j=>bif Nat.beq sz sz'||xs.isEmpty then(match idx xs.length j with
   |some j=>(match xs[j]? with
    |some v=>val h (.vptr v)
    |none=>none)
   |none=>none)else none
  |some (.ms b o len),some j=>(match idx len j with
   |some j=>val h (.ptr b (o+j*sz))
   |none=>none)
  |some (.vref b ver len),some j=>(match idx len j with
   |some j=>val h (.vel b ver (j*sz))
   |none=>none)
  |_,_=>none
 | .indexArr agg len sz x i=>match zh e x,zh e i with
  |some (.ptr b o),some j=>(match idx len j with
   |some j=>val h (.ptr b (o+j*sz))
   |none=>none)
  |some (.vptr (.agg cs)),some j=>(match idx len j with
   |some j=>(match part agg cs (j*sz) sz with
    |some v=>bif Bool.xor agg v.isAgg then none else val h (.vptr v)
    |none=>none)
   |none=>none)
  |_,_=>none
 | .slice sz x lo hi=>match zh e x with
  |some (.list n sz' xs)=>bif Nat.beq sz sz'||xs.isEmpty then(match bnd e xs.length xs.length hi with
   |some j=>(match bnd e 0 j lo with
    |some i=>val h (.list n sz' ((xs.take j).drop i))
    |none=>none)
   |none=>none)else none
  |some (.ms b o len)=>(match bnd e len len hi with
   |some j=>(match bnd e 0 j lo with
    |some i=>bif Nat.beq i 0||Nat.blt i j then val h (.ms b (o+i*sz) (j-i))else none
    |none=>none)
   |none=>none)
  |some (.vref b ver len)=>(match bnd e len len hi with
   |some j=>(match bnd e 0 j lo with
    |some i=>bif Nat.beq i 0 then val h (.vref b ver j)else none
    |none=>none)
   |none=>none)
  |_=>none
 | .strSlice x lo hi=>match zh e x with
  |some (.str s)=>(match bnd e s.length s.length hi with
   |some j=>(match bnd e 0 j lo with
    |some i=>val h (.str ((s.take j).drop i))
    |none=>none)
   |none=>none)
  |_=>none
 | .sliceArr len sz x lo hi=>match zh e x with
  |some (.ptr b o)=>(match bnd e len len hi with
   |some j=>(match bnd e 0 j lo with
    |some i=>bif Nat.beq i 0||Nat.blt i j then val h (.ms b (o+i*sz) (j-i))else none
    |none=>none)
   |none=>none)
  |_=>none
 | .mkfunc f first captured=>match qbq e first,qbq e captured with
  |some a,some b=>val h (.fn f a b)
  |_,_=>none
 | .len k x=>match k,zh e x with
  |1,some (.list _ _ xs)=>val h (.int .i64 xs.length)
  |1,some (.ms _ _ n)=>val h (.int .i64 n)
  |1,some (.vref _ _ n)=>val h (.int .i64 n)
  |2,some (.list true _ _)=>val h (.int .i64 0)
  |0,some (.str s)=>val h (.int .i64 s.length)
  |_,_=>none
 | .append none sz bytes x y=>match zh e x,zh e y with
  |some (.list n sz' xs),some vy=>
   bif n||(kx e x).isSome then
    (match qaa sz vy with
     |some ys=>
      bif (Nat.beq sz sz'||(xs.isEmpty&&n))&&Nat.ble (xs.length+ys.length) 1073741824&&Nat.ble bytes 4096&&Nat.blt 0 sz then
       some ⟨qiq n sz xs ys,true,kx e x,h⟩
      else none
     |none=>none)
   else none
  |_,_=>none
 | .mkslice none sz bytes zero n c=>match zh e n,zh e c with
  |some (.int .i64 (.ofNat n)),some (.int .i64 (.ofNat c))=>
   bif Nat.beq n c&&Nat.ble n 1073741824&&Nat.ble bytes 4096&&Nat.beq zero.length sz&&Nat.blt 0 sz&&zero.all zm then
    some ⟨.list false sz (List.replicate n (bif Nat.beq sz 1 then zero.headD .undef else .agg zero)),true,none,h⟩else none
  |_,_=>none
 | .mx args=>match qbq e args with
  |some (v::vs)=>qcx h (qgb max2 v vs)
  |_=>none
 | .mn args=>match qbq e args with
  |some (v::vs)=>qcx h (qgb min2 v vs)
  |_=>none
 | .extract x i=>match zh e x with
  |some (.tup vs)=>qcx h vs[i]?
  |_=>none
 |_=>none
def qd3 (es:List (qa×qa))(i:Nat)(v:qa):List (qa×qa):=
 match es,i with
 | [],_=>[]
 |(k,_)::r,0=>(k,v)::r
 |x::r,i+1=>x::qd3 r i v
def qas (h0:Nat)(al:Option (List Nat))(e:Env)(h:zb):qw→Option qp
 | .load agg n x=>match zh e x with
  |some (.ptr b o)=>bif ke h0 al b then(match yw h b with
   |some cs=>(match kn cs o n with
    |some vs=>bif agg then val h (.agg vs)else(match vs with
     | [v]=>val h v
     |_=>none)
    |none=>none)
   |none=>none)else none
  |some (.vptr v)=>bif Bool.xor agg v.isAgg||!(Nat.beq v.flat.length n)then none else val h v
  |some (.vel b ver o)=>bif qhe h0 al b then(match kl h b with
   |some (.vec _ ver' xs)=>bif Nat.beq ver ver'&&Nat.ble (o+n) (xs.flatMap qa.flat).length then(bif agg then val h (.agg (((xs.flatMap qa.flat).drop o).take n))else(match((xs.flatMap qa.flat).drop o).take n with
     | [v]=>val h v
     |_=>none))else none
   |_=>none)else none
  |_=>none
 | .lookup kd zero ok m k=>match zh e m,zh e k with
  |some (.map b),some kv=>bif ke h0 al b then(match kl h b with
   |some (.map es)=>(match kg kd kv es 0 with
    |some (some (_,v))=>val h (bif ok then .tup [v,.bool true]else v)
    |some none=>val h (bif ok then .tup [zero,.bool false]else zero)
    |none=>none)
   |_=>none)else none
  |some .nilmap,some _=>val h (bif ok then .tup [zero,.bool false]else zero)
  |_,_=>none
 | .len _ x=>match zh e x with
  |some (.map b)=>bif ke h0 al b then(match kl h b with
   |some (.map es)=>val h (.int .i64 es.length)
   |_=>none)else none
  |some .nilmap=>val h (.int .i64 0)
  |_=>none
 |_=>none
def q21 (es:List (qa×qa)):Option (Nat×qa)→List (qa×qa)
 |some (i,_)=>es.eraseIdx i
 |none=>es
def qj8:Option Nat→Nat→Bool
 |none,_=>true
 |some a,o=>Nat.beq a o
def qjd (sz len:Nat):qa→Option (Nat×List qa)
 | .list _ sy ys=>bif Nat.beq sz sy||ys.isEmpty then some (min ys.length len,(ys.take len).flatMap qa.flat)else none
 |_=>none
def cellsOf (vs:List qa):List (qa×Bool):=vs.map (·,false)
def zu (h0:Nat)(al:Option (List Nat))(e:Env)(h:zb):qw→Option qp
 | .alloc r zero=>bif zero.all zm then(match newBox h0 h r (.cells (cellsOf zero))with
  |some h'=>val h' (.ptr (h0+r) 0)
  |none=>none)else none
 | .box r n x=>match zh e x with
  |some v=>bif Nat.beq v.flat.length n&&v.flat.all zm then(match newBox h0 h r (.cells (cellsOf v.flat))with
   |some h'=>val h' (.ptr (h0+r) 0)
   |none=>none)else none
  |none=>none
 | .loadTake off x=>match zh e x with
  |some (.ptr b o)=>bif ke h0 al b&&qj8 off o then(match yw h b with
   |some cs=>(match cs[o]? with
    |some (v,w)=>(match yv h b (.cells (cs.set o (v,false)))with
     |some h'=>some ⟨v,w,none,h'⟩
     |none=>none)
    |none=>none)
   |none=>none)else none
  |_=>none
 | .store n a x=>match zh e a,zh e x with
  |some (.ptr b o),some v=>bif ke h0 al b then(match yw h b with
   |some cs=>(match kx e x with
    |some t=>bif Nat.beq n 1&&v.isList&&Nat.blt o cs.length then(match yv h b (.cells (cs.set o (v,true)))with
      |some h'=>some ⟨.undef,false,some t,h'⟩
      |none=>none)else none
    |none=>bif Nat.beq v.flat.length n then(match yu cs o v.flat with
     |some cs'=>(match yv h b (.cells cs')with
      |some h'=>val h' .undef
      |none=>none)
     |none=>none)else none)
   |none=>none)else none
  |_,_=>none
 | .bld r t e=>match newBox h0 h r (.bld t e [])with
  |some h'=>val h' (.ptr (h0+r) 0)
  |none=>none
 | .mkmap r=>match newBox h0 h r (.map [])with
  |some h'=>val h' (.map (h0+r))
  |none=>none
 | .mapUpdate kd m k x=>match zh e m,zh e k,zh e x with
  |some (.map b),some kv,some v=>bif ke h0 al b then(match kl h b with
   |some (.map es)=>(match kg kd kv es 0 with
    |some (some (i,_))=>(match yv h b (.map (qd3 es i v))with
     |some h'=>val h' .undef
     |none=>none)
    |some none=>bif Nat.ble es.length 1073741824 then(match yv h b (.map (es++[(kv,v)]))with
     |some h'=>val h' .undef
     |none=>none)else none
    |none=>none)
   |_=>none)else none
  |_,_,_=>none
 | .delete kd m k=>match zh e m,zh e k with
  |some (.map b),some kv=>bif ke h0 al b then(match kl h b with
   |some (.map es)=>(match kg kd kv es 0 with
    |some r=>(match yv h b (.map (q21 es r))with
     |some h'=>val h' (.tup [])
     |none=>none)
    |none=>none)
   |_=>none)else none
  |_,_=>none
 | .mkslice (some r) sz bytes zero n c=>match zh e n,zh e c with
  |some (.int .i64 (.ofNat n)),some (.int .i64 (.ofNat c))=>
   bif Nat.beq n c&&Nat.ble n 1073741824&&Nat.ble bytes 4096&&Nat.beq zero.length sz&&Nat.blt 0 sz&&zero.all zm then
    (match newBox h0 h r (.cells (cellsOf (List.replicate n zero).flatten))with
     |some h'=>val h' (.ms (h0+r) 0 n)
     |none=>none)else none
  |_,_=>none
 | .append (some r) sz bytes x y=>match zh e x,zh e y with
  |some (.list false sz' []),some vy=>
   bif (kx e x).isSome&&Nat.beq sz sz' then
    (match qaa sz vy with
     |some ys=>
      bif Nat.ble ys.length 1073741824&&Nat.ble bytes 4096&&Nat.blt 0 sz then
       (match newBox h0 h r (.cells (cellsOf (ys.flatMap qa.flat)))with
        |some h'=>some ⟨.ms (h0+r) 0 ys.length,false,kx e x,h'⟩
        |none=>none)
      else none
     |none=>none)
   else none
  |_,_=>none
 | .vapp r sz bytes x y=>match zh e x,zh e y with
  |some (.list true _ []),some vy=>(match qaa sz vy with
    |some ys=>
     bif Nat.ble ys.length 1073741824&&Nat.ble bytes 4096&&Nat.blt 0 sz&&!ys.isEmpty&&z8 0 ys&&Nat.blt r 1000 then
      (match newBox h0 h r (.vec sz 0 ys)with
       |some h'=>val h' (.vref (h0+r) 0 ys.length)
       |none=>none)else none
    |none=>none)
  |some (.vref b ver len),some vy=>(match kl h b with
   |some (.vec sz' ver' xs)=>(match qaa sz vy with
    |some ys=>
     bif Nat.beq ver ver'&&Nat.beq sz sz'&&Nat.ble len xs.length&&Nat.ble (len+ys.length) 1073741824&&Nat.ble bytes 4096&&Nat.blt 0 sz&&z8 0 ys&&Nat.blt r 1000 then
      (match yv h b (.vec sz (ver+1) (xs.take len++ys))with
       |some h'=>val h' (.vref b (ver+1) (len+ys.length))
       |none=>none)else none
    |none=>none)
   |_=>none)
  |_,_=>none
 | .vlit r sz len zero parts=>match qap e sz parts with
  |some ps=>match qeo (List.replicate len (bif Nat.beq sz 1 then zero.headD .undef else .agg zero)) ps with
   |some xs=>bif z8 0 xs then(match newBox h0 h r (.vec sz 0 xs)with
    |some h'=>val h' (.vref (h0+r) 0 xs.length)
    |none=>none)else none
   |none=>none
  |none=>none
 | .copy sz x y=>match zh e x,zh e y with
  |some (.ms b o len),some vy=>bif ke h0 al b then(match yw h b with
   |some cs=>(match qjd sz len vy with
    |some (n,vs)=>(match yu cs o vs with
     |some cs'=>bif Nat.beq vs.length (n*sz)then(match yv h b (.cells cs')with
      |some h'=>val h' (.int .i64 n)
      |none=>none)else none
     |none=>none)
    |none=>none)
   |none=>none)else none
  |_,_=>none
 | .srange r x=>match zh e x with
  |some (.str s)=>(match newBox h0 h r (.iter s 0)with
   |some h'=>val h' (.ptr (h0+r) 0)
   |none=>none)
  |_=>none
 | .snext it=>match zh e it with
  |some (.ptr b 0)=>bif ke h0 al b then(match kl h b with
   |some (.iter s pos)=>bif Nat.blt pos s.length then
     (match yv h b (.iter s (pos+(zo s pos).2))with
      |some h'=>val h' (.tup [.bool true,.int .i64 pos,.int .i32 (zo s pos).1])
      |none=>none)else val h (.tup [.bool false])
   |_=>none)else none
  |_=>none
 |_=>none
def qe9:Nat→List qa→Env
 |_,[]=>[]
 |i,v::vs=>(i,v,false)::qe9 (i+1) vs
def qeu (st:qg):ja→Option (qa×Bool)
 | .tmp t=>yl t st.env
 | .cell t agg n=>match yl t st.env with
  |some (.ptr b o,_)=>(match yw st.heap b with
   |some cs=>(match kn cs o n with
    |some vs=>bif agg then some (.agg vs,false)else(match cs[o]? with
     |some x=>some x
     |none=>none)
    |none=>none)
   |none=>none)
  |_=>none
def qbf (st:qg):List ja→Option (List (qa×Bool))
 | []=>some []
 |r::rs=>match qeu st r with
  |some x=>(match qbf st rs with
   |some xs=>some (x::xs)
   |none=>none)
  |none=>none
def y9:List (qa×Bool)→qa×Bool
 | [x]=>x
 |xs=>(.tup (xs.map (·.1)),false)
abbrev XC:=qh→qg→Option (qn×qg)
def qbp (st:qg):List ja→zb
 | [.cell t false _]=>match yl t st.env with
  |some (.ptr b o,_)=>(match yw st.heap b with
   |some cs=>(match cs[o]? with
    |some (v,true)=>st.heap.set b (.cells (cs.set o (v,false)))
    |_=>st.heap)
   |none=>st.heap)
  |_=>st.heap
 |_=>st.heap
def qdj (xc:XC)(f:qd)(args:List qa)(h:zb):Option (qa×Bool×zb):=
 bif Nat.ble args.length f.ntmps then
  match xc f.body ⟨qe9 0 args,h⟩with
  |some (.normal,st)=>(match qbf st f.results with
   |some xs=>some ((y9 xs).1,(y9 xs).2,qbp st f.results)
   |none=>none)
  |some (.ret,st)=>(match qbf st f.results with
   |some xs=>some ((y9 xs).1,(y9 xs).2,qbp st f.results)
   |none=>none)
  |_=>none
 else none
def zj (p:qu)(xc:XC)(k:Nat)(args:List qa)(h:zb):Option (qa×Bool×zb):=
 match p.fns k with
 |some f=>qdj xc f args h
 |none=>match p.sprims k with
  |some f=>f args h
  |none=>none
def j6 (p:qu)(xc:XC)(k:Nat)(args:List qa):Option (qa×Bool):=
 match p.prims k with
 |some f=>(match f args with
  |some (v,o)=>bif qe3 v then some (v,o)else none
  |none=>none)
 |none=>match zj p xc k args []with
  |some (v,o,h)=>(match freezeR h v with
   |some v'=>bif qe3 v' then some (v',o&&v.isList)else none
   |none=>none)
  |none=>none
def yt (n:Nat)(v:qa)(h:zb):zb:=
 bif Nat.ble h.length n then h else bif below n v&&ky n (h.take n)then h.take n else h
def qg6 (e:Env):List Nat→List qa→Option Env
 | [],[]=>some e
 |t::ts,v::vs=>qg6 ((t,v,false)::e) ts vs
 |_,_=>none
def qbx (xc:XC)(b:Nat)(args:List qa)(h:zb):Option (qa×zb):=
 match kl h b with
 |some (.loop l)=>match l.pending,qg6 (noOwn l.env) l.params args with
  |none,some e=>(match xc l.assign ⟨e,h⟩with
   |some (.normal,st)=>(match kl st.heap b with
    |some (.loop l1)=>bif l1.pending.isNone then(match xc l.body { st with heap:=st.heap.set b (.loop { l1 with pending:=some .normal }) }with
     |some (x,st')=>(match kl st'.heap b with
      |some (.loop l2)=>some (.bool (match x with | .normal=>true|_=>false),yt h.length (.bool true) (st'.heap.set b (.loop { l2 with pending:=match x with | .normal=>none|x=>some x })))
      |_=>none)
     |none=>none)else none
    |_=>none)
   |_=>none)
  |_,_=>none
 |_=>none
def qei:qa→Bool
 | .bool _=>true
 | .int _ _=>true
 | .str _=>true
 |_=>false
def q4o (h:zb):qa→Option qa
 | .ms b 0 len=>(match yw h b with
  |some cs=>bif Nat.beq (len*(cs.length / len)) cs.length&&Nat.blt 0 (cs.length / len)&&cs.all (fun c=>qei c.1)then some (.list false (cs.length / len) (qdq (cs.length / len) len (cs.map (·.1))))else(bif Nat.beq len 0 then some (.list false 8 [])else none)
  |none=>none)
 |v=>some v
def qh7 (h:zb):List qa→Option (List qa)
 | []=>some []
 |v::vs=>match q4o h v,qh7 h vs with
  |some x,some xs=>some (x::xs)
  |_,_=>none
def qkj:qa→Bool
 | .agg cs=>cs.all qei
 |v=>qei v
def qtg (v:qa):qa:=bif qkj v then v else .any
def q7w:qa→Bool→Option (qa×Bool)
 | .list false sz xs,true=>bif (xs.flatMap qa.flat).all qei then some (.list false sz xs,true)else none
 | .list true sz [],_=>some (.list true sz [],false)
 | .tup vs,_=>some (.tup (vs.map qtg),false)
 |v,_=>bif qkj v then some (v,false)else none
def qij (h0:Nat)(h:zb)(r:Nat):qa→Bool→Option qp
 | .list true sz [],_=>(match newBox h0 h r .dead with
  |some h'=>val h' (.list true sz [])
  |none=>none)
 | .list false sz xs,true=>bif (xs.flatMap qa.flat).all qei then(match newBox h0 h r (.cells (cellsOf (xs.flatMap qa.flat)))with
  |some h'=>val h' (.ms (h0+r) 0 xs.length)
  |none=>none)else none
 |_,_=>none
def qa1 (p:qu)(xc:XC)(h0:Nat)(e:Env)(h:zb)(md:jc)(f:qf)(args:List qf):Option qp:=
 match zh e f,qbq e args with
 |some (.fn (.func k) first captured),some vs=>
  (match md with
   | .iso=>bif z8 0 (first++vs++captured)then(match j6 p xc k (first++vs++captured)with
     |some (v,o)=>some ⟨v,o,none,h⟩
     |none=>none)else none
   | .frz r=>bif (first++vs++captured).isEmpty then(match p.maps k with
     |some es=>(match newBox h0 h r (.map es)with
      |some h'=>val h' (.map (h0+r))
      |none=>none)
     |none=>none)else bif z8 0 (first++vs++captured)then(match j6 p xc k (first++vs++captured)with
     |some (v,o)=>qij h0 h r v o
     |none=>none)else none
   | .red=>(match qh7 h (first++vs++captured)with
    |some us=>bif z8 0 us then(match j6 p xc k us with
     |some (v,o)=>(match q7w v o with
      |some (v',o')=>some ⟨v',o',none,h⟩
      |none=>none)
     |none=>none)else none
    |none=>none)
   | .shr=>(match zj p xc k (first++vs++captured) h with
    |some (v,o,h')=>some ⟨v,o,none,yt h.length v h'⟩
    |none=>none))
 |some (.fn (.yield b) [] []),some vs=>
  (match md with
   | .shr=>(match qbx xc b vs h with
    |some (v,h')=>val h' v
    |none=>none)
   |_=>none)
 |_,_=>none
def j9 (p:qu)(xc:XC)(h0:Nat)(al:Option (List Nat))(e:Env)(h:zb)(op:qw):Option qp:=
 match op with
 | .call md f args=>qa1 p xc h0 e h md f args
 | .load agg n x=>qas h0 al e h (.load agg n x)
 | .lookup kd z ok m k=>qas h0 al e h (.lookup kd z ok m k)
 | .alloc r z=>zu h0 al e h (.alloc r z)
 | .box r n x=>zu h0 al e h (.box r n x)
 | .loadTake off x=>zu h0 al e h (.loadTake off x)
 | .store n a x=>zu h0 al e h (.store n a x)
 | .bld r t e'=>zu h0 al e h (.bld r t e')
 | .mkmap r=>zu h0 al e h (.mkmap r)
 | .mapUpdate kd m k x=>zu h0 al e h (.mapUpdate kd m k x)
 | .delete kd m k=>zu h0 al e h (.delete kd m k)
 | .mkslice (some r) sz b z n c=>zu h0 al e h (.mkslice (some r) sz b z n c)
 | .append (some r) sz b x y=>zu h0 al e h (.append (some r) sz b x y)
 | .vapp r sz b x y=>zu h0 al e h (.vapp r sz b x y)
 | .vlit r sz n z ps=>zu h0 al e h (.vlit r sz n z ps)
 | .copy sz x y=>zu h0 al e h (.copy sz x y)
 | .srange r x=>zu h0 al e h (.srange r x)
 | .snext it=>zu h0 al e h (.snext it)
 |op=>zr e h op
def qan (e:Env):Option Nat→Env
 |none=>e
 |some s=>match yl s e with
  |some (v,_)=>(s,v,false)::e
  |none=>e
def qel (e:Env)(d:Option Nat)(v:qa)(o:Bool):Env:=
 match d with
 |some d=>(d,v,o)::e
 |none=>e
def qc2 (e:Env):Option (Nat×Bool)→Option Bool
 |none=>some true
 |some (s,want)=>match yl s e with
  |some (.bool b,_)=>some (b == want)
  |some (.undef,_)=>some false
  |_=>none
def qa2 (p:qu)(xc:XC)(h0:Nat)(o:qt)(st:qg):Option qg:=
 match qc2 st.env o.guard with
 |some true=>(match j9 p xc h0 o.al st.env st.heap o.op with
  |some r=>some ⟨qel (qan st.env r.strip) o.dst r.v r.own,r.heap⟩
  |none=>none)
 |some false=>some ⟨qel st.env o.dst .undef false,st.heap⟩
 |none=>none
def qcn (p:qu)(xc:XC)(h0:Nat):List qt→qg→Option qg
 | [],st=>some st
 |o::os,st=>match qa2 p xc h0 o st with
  |some st'=>qcn p xc h0 os st'
  |none=>none
def qmt (st:qg):Option (List Nat)→qg
 |none=>st
 |some l=>{ st with env:=qe5 st.env l }
def qcz (p:qu)(xc:XC)(na:Nat)(ops:List qt)(keep:Option (List Nat))(st:qg):Option (qn×qg):=
 match qcn p xc st.heap.length ops { st with heap:=st.heap++List.replicate na .hole }with
 |some st'=>some (.normal,qmt st' keep)
 |none=>none
def qd5 (p:qu)(xc:XC)(f:qf)(params:List Nat)(assign body:qh)(st:qg):Option (qn×qg):=
 bif qad assign&&qad body then
  match zh st.env f with
  |some (.fn (.func k) first captured)=>
   (match zj p xc k (first++[.fn (.yield st.heap.length) [] []]++captured) (st.heap++[.loop ⟨st.env,params,assign,body,none⟩])with
    |some (_,_,h')=>(match kl h' st.heap.length with
     |some (.loop l)=>bif ky st.heap.length (h'.take st.heap.length)then
       (match l.pending with
       |none=>some (.normal,{ st with heap:=h'.take st.heap.length })
       |some .normal=>none
       |some x=>some (x,{ st with heap:=h'.take st.heap.length }))else none
     |_=>none)
    |none=>none)
  |_=>none
 else none
def ym (p:qu):Nat→XC
 |0,_,_=>none
 |n+1,c,st=>match c with
  | .skip=>some (.normal,st)
  | .region na ops keep=>qcz p (ym p n) na ops keep st
  | .seq a b=>match ym p n a st with
   |some (.normal,st')=>ym p n b st'
   |r=>r
  | .cond c a b=>match zh st.env c with
   |some (.bool t)=>bif t then ym p n a st else ym p n b st
   |_=>none
  | .block id body=>match ym p n body st with
   |some (.exit id',st')=>bif Nat.beq id' id then some (.normal,st')else some (.exit id',st')
   |r=>r
  | .loop body=>match ym p n body st with
   |some (.normal,st')=>ym p n (.loop body) (gc st.heap.length st')
   |r=>r
  | .rangeFunc f params assign body=>qd5 p (ym p n) f params assign body st
  | .exit id=>some (.exit id,st)
  | .ret=>some (.ret,st)
  | .grow sz=>match yl 0 st.env,yl 1 st.env with
   |some (.list true _ _,_),some (.int .i64 (.ofNat m),_)=>bif Nat.blt 0 m&&Nat.ble m 1073741824 then some (.normal,{ st with env:=[(0,.list false sz [],true)] })else none
   |_,_=>none
  | .stuck=>none
structure qb where
 takes:List Nat:=[]
 muts:List Nat:=[]
 offs:List (Nat×Nat):=[]
 shr:List (Nat×Nat):=[]
 frz:List (Nat×Nat):=[]
 red:List (Nat×Nat):=[]
 keep:List (Nat×List Nat):=[]
 vl:List Nat:=[]
 vec:List Nat:=[]
 ex:List ((Nat×Nat)×Nat):=[]
 deriving Inhabited
def qpj:Value→Option qa
 | .bool b=>some (.bool b)
 | .int k n=>some (.int k n)
 | .string s=>some (.str s.data.toList)
 | .slice none 0 0=>some (.list true 0 [])
 | .pointer none=>some .nilptr
 | .map none=>some .nilmap
 | .nilFunc=>some .nilfn
 |_=>none
def qg8:List Value→Option (List qa)
 | []=>some []
 |v::vs=>match qpj v with
  |some x=>match qg8 vs with
   |some xs=>some (x::xs)
   |none=>none
  |none=>none
def ofValue:Value→Option qa
 | .agg cs=>match qg8 cs.toList with
  |some xs=>some (.agg xs)
  |none=>none
 |v=>qpj v
def z6:Operand→Option qf
 | .tmp t=>some (.tmp t)
 | .const v=>match ofValue v with
  |some x=>some (.const x)
  |none=>none
 | .func f=>some (.const (.fn (.func f) [] []))
 | .global _=>none
def qhs:List Operand→Option (List qf)
 | []=>some []
 |x::xs=>match z6 x with
  |some y=>match qhs xs with
   |some ys=>some (y::ys)
   |none=>none
  |none=>none
def qfm:Option Operand→Option (Option qf)
 |none=>some none
 |some x=>match z6 x with
  |some y=>some (some y)
  |none=>none
def qaw (P:Program)(t:TypeId):Option Bool:=
 match P.underlying t with
 |some (.struct _)=>some true
 |some (.array _ _)=>some true
 |some _=>some false
 |none=>none
def yp (P:Program)(t:TypeId):Option Nat:=(P.info? t).map (·.size)
def qed (P:Program)(t:TypeId):Option Nat:=(P.info? t).map (·.bytes)
def qa0 (P:Program)(t:TypeId):Option (List qa):=
 match P.info? t with
 |some i=>match i.zero with
  |some z=>qg8 z.cells.toList
  |none=>none
 |none=>none
def jd2 (P:Program)(t:TypeId):Option TypeId:=
 match P.underlying t with
 |some (.struct fs)=>match fs.toList with
  | [f0,f1]=>match P.underlying f0.type,P.underlying f1.type with
   |some (.pointer t'),some (.slice e)=>match P.underlying e,qa0 P t with
    |some (.int .u8),some [.nilptr,.list true _ []]=>if t' == t then some e else none
    |_,_=>none
   |_,_=>none
  |_=>none
 |_=>none
def q8m (P:Program)(t:TypeId):Option qa:=
 match P.info? t with
 |some i=>match i.zero with
  |some z=>ofValue z
  |none=>none
 |none=>none
def qpm (g:TypeId→Option (List Kd)):Nat→List Field→Option (List Kd)
 |_,[]=>some []
 | off, f :: fs => if f.name != "_" && f.offset == off then (match g f.type with
   |some ks=>(match qpm g (off+ks.length) fs with
    |some r=>some (ks++r)
    |none=>none)
   |none=>none)else none
def qho (P:Program):Nat→TypeId→Option (List Kd)
 |0,_=>none
 |n+1,t=>match P.underlying t with
  |some (.int _)=>if yp P t == some 1 then some [.int]else none
  |some .string=>if yp P t == some 1 then some [.str]else none
  |some .bool=>if yp P t == some 1 then some [.bool]else none
  |some (.struct fs)=>(match qpm (qho P n) 0 fs.toList with
   |some ks=>if !P.stoodInHeld t&&yp P t == some ks.length then some ks else none
   |none=>none)
  |some (.array len e)=>(match qho P n e with
   |some ks=>if yp P t == some (len*ks.length)then some (List.replicate len ks).flatten else none
   |none=>none)
  |_=>none
def qlo:Nat:=12
def kdT (P:Program)(t:TypeId):Option Kd:=
 match P.underlying t with
 |some (.int _)=>some .int
 |some .string=>some .str
 |some .bool=>some .bool
 |_=>none
def cEq (P:Program)(op:BinOp)(neq:Bool)(t:TypeId)(x y:Operand):Option qw:=
 match P.underlying t with
 |some (.int _)|some .string=>match z6 x,z6 y with
  |some a,some b=>some (.bin op a b)
  |_,_=>none
 |some .bool=>match z6 x,z6 y with
  |some a,some b=>some (.beq neq a b)
  |_,_=>none
 |some (.struct _)|some (.array _ _)=>
  if !P.eqGuardType P.depth t then match qho P qlo t,z6 x,z6 y with
   |some ks,some a,some b=>some (.eqs ks neq a b)
   |_,_,_=>none
  else none
 |some (.slice _)=>match y with
  | .const (.slice none 0 0)=>(z6 x).map (.nilEq 0 neq)
  |_=>none
 |some (.pointer _)=>match y with
  | .const (.pointer none)=>(z6 x).map (.nilEq 1 neq)
  |_=>none
 |some (.map _ _)=>match y with
  | .const (.map none)=>(z6 x).map (.nilEq 2 neq)
  |_=>none
 |some (.func _ _ _)=>match y with
  | .const .nilFunc=>(z6 x).map (.nilEq 3 neq)
  |_=>none
 |_=>none
def jeu (P:Program)(op:BinOp)(t:TypeId)(x y:Operand):Option qw:=
 match op with
 | .eql=>cEq P .eql false t x y
 | .neq=>cEq P .neq true t x y
 |op=>match z6 x,z6 y with
  |some a,some b=>some (.bin op a b)
  |_,_=>none
def qkh (P:Program)(place:Nat→Option (Nat×Nat)):List (Nat×Operand)→Option (List (Nat×Nat×qf))
 | []=>some []
 |(i,x)::ps=>match place i,z6 x,qkh P place ps with
  |some (off,n),some y,some r=>some ((off,n,y)::r)
  |_,_,_=>none
def qkt:List (Nat×Operand)→Option (List (Nat×qf))
 | []=>some []
 |(i,x)::ps=>match z6 x,qkt ps with
  |some y,some r=>some ((i,y)::r)
  |_,_=>none
def q6e (h:qb)(dst:Option Nat)(x:Operand):Option Nat:=
 match x,dst with
 | .tmp s,some d=>if h.takes.contains d then some s else none
 |_,_=>none
def qfo:TypeDesc→Bool
 | .slice _=>true
 | .string=>true
 |_=>false
def jc.at (r:Nat):jc→jc
 | .frz _=>.frz r
 |m=>m
def qqb (P:Program)(h:qb)(md:jc)(r:Nat)(dst:Option Nat)(c:Call):Option qw:=
 match c.callee with
 | .value f=>match z6 f,qhs c.args.toList with
  |some f,some args=>some (.call (md.at r) f args)
  |_,_=>none
 | .builtin .len=>match c.args.toList,c.argTypes.toList with
  | [x],[t]=>match P.underlying t with
   |some .string=>(z6 x).map (.len 0)
   |some (.slice _)=>(z6 x).map (.len 1)
   |_=>none
  |_,_=>none
 | .builtin .cap=>match c.args.toList,c.argTypes.toList with
  | [x],[t]=>match P.underlying t with
   |some (.slice _)=>(z6 x).map (.len 2)
   |_=>none
  |_,_=>none
 | .builtin .append=>match c.args.toList,c.argTypes.toList with
  | [x,y],[t,u]=>match P.underlying t,P.underlying u with
   |some (.slice e),some ut=>if qfo ut&&(qa0 P e).map (·.length) == yp P e then match yp P e,qed P e,z6 x,z6 y with
     |some sz,some b,some x,some y=>some (if(dst.map (h.vec.contains ·)).getD false then .vapp r sz b x y else .append (if(dst.map (h.muts.contains ·)).getD false then some r else none) sz b x y)
     |_,_,_,_=>none
    else none
   |_,_=>none
  |_,_=>none
 | .builtin .copy=>match c.args.toList,c.argTypes.toList with
  | [x,y],t::_=>match P.underlying t with
   |some (.slice e)=>match yp P e,z6 x,z6 y with
    |some sz,some x,some y=>some (.copy sz x y)
    |_,_,_=>none
   |_=>none
  |_,_=>none
 | .builtin .delete=>match c.args.toList,c.argTypes.toList with
  | [m,k],t::_=>match P.underlying t with
   |some (.map kt _)=>match kdT P kt,z6 m,z6 k with
    |some kd,some m,some k=>some (.delete kd m k)
    |_,_,_=>none
   |_=>none
  |_,_=>none
 | .builtin .max=>(qhs c.args.toList).map .mx
 | .builtin .min=>(qhs c.args.toList).map .mn
 |_=>none
def qtd : List (String × List Int) := [("woofer/network.none", [0, 0]), ("woofer/network.one", [1, 0]), ("woofer/network.turns", [1, 0, 0, 1, -1, 0, 0, -1])]
def qxu (P:Program)(g:Nat):List (String×List Int)→Option (List Int)
 | []=>none
 |(n,cs)::l=>if P.globalNamed n == some g then some cs else qxu P g l
def q1h (P:Program)(t:TypeId)(g:Nat):Option qw:=match qxu P g qtd,qaw P t,yp P t with
 |some cs,some true,some n=>if cs.length == n then some (.move (.const (.agg (cs.map (qa.int .i64)))))else none
 |_,_,_=>none
def q77 (h:qb):qf→Option Nat
 | .tmp s=>if h.vl.contains s then some s else none
 |_=>none
def cOp (P:Program)(h:qb)(md:jc)(r:Nat)(dst:Option Nat):Op→Option qw
 | .move x=>match q6e h dst x with
  |some s=>some (.take s)
  |none=>(z6 x).map .move
 | .assign (.tmp s)=>some (.take s)
 | .assign x=>(z6 x).map .move
 | .pick c a b=>match z6 c,z6 a,z6 b with
  |some c,some a,some b=>some (.pick c a b)
  |_,_,_=>none
 | .alloc t=>match jd2 P t with
  |some e=>some (.bld r t e)
  |none=>bif (dst.map (h.vl.contains ·)).getD false then(match qa0 P t with
   |some z=>bif z.all zm then some (.valloc z.length)else none
   |none=>none)else(qa0 P t).map (.alloc r)
 | .box t x=>match yp P t,z6 x with
  |some n,some x=>some (bif (dst.map (h.vl.contains ·)).getD false then .vbox n x else .box r n x)
  |_,_=>none
 | .build t ps=>match P.underlying t,qa0 P t with
  |some (.struct fs),some z=>if fs.toList.all (fun f=>(yp P f.type).isSome)then(qkh P (fun i=>match fs[i]? with
    |some f=>(yp P f.type).map fun n=>(f.offset,n)
    |none=>none) ps.toList).map (.build z)else none
  |some (.array _ e),some z=>match yp P e with
   |some n=>(qkh P (fun i=>some (i*n,n)) ps.toList).map (.build z)
   |none=>none
  |_,_=>none
 | .buildSlice t n ps=>match P.underlying t with
  |some (.slice e)=>match yp P e,qa0 P e,qaw P e,qkt ps.toList with
   |some sz,some z,some ag,some es=>if sz*n≤65536&&0<sz&&z.length == sz&&(ag||sz == 1)&&(!ag||sz != 1)then some (if(dst.map (h.vec.contains ·)).getD false then .vlit r sz n z es else .buildSlice sz n z es)else none
   |_,_,_,_=>none
  |_=>none
 | .load t (.global g)=>q1h P t g
 | .load t x=>match qaw P t,yp P t,z6 x with
  |some false,some 1,some x=>if(dst.map (h.takes.contains ·)).getD false then some (.loadTake ((dst.bind fun d=>h.offs.find? fun y=>y.1 == d).map (·.2)) x)else some (bif (dst.map (h.vl.contains ·)).getD false then .vload false 1 x else .load false 1 x)
  |some true,some n,some x=>some (bif (dst.map (h.vl.contains ·)).getD false then .vload true n x else .load true n x)
  |_,_,_=>none
 | .store t a v=>match yp P t,z6 a,z6 v with
  |some n,some a,some v=>some (match q77 h a with
   |some s=>.vstore n s v
   |none=>.store n a v)
  |_,_,_=>none
 | .nilCheck x=>(z6 x).map .nilCheck
 | .binOp op t x y _=>jeu P op t x y
 | .unOp op _ x=>(z6 x).map (.un op)
 | .convert s d x=>match P.underlying s,P.underlying d with
  |some (.int _),some (.int k)=>(z6 x).map (.conv k)
  |some .string,some .string=>(z6 x).map .convStr
  |some (.int _),some .string=>(z6 x).map .convStr
  |_,_=>none
 | .makeFunc f a b=>match f with
  | .func k=>match qhs a.toList,qhs b.toList with
   |some a,some b=>some (.mkfunc (.func k) a b)
   |_,_=>none
  |_=>none
 | .makeMap t none=>match P.underlying t with
  |some (.map _ _)=>some (.mkmap r)
  |_=>none
 | .makeSlice t n c=>match P.underlying t with
  |some (.slice e)=>match yp P e,qed P e,qa0 P e,qaw P e,z6 n,z6 c with
   |some sz,some b,some z,some ag,some n,some c=>
    if(ag||sz == 1)&&(!ag||sz != 1)then some (.mkslice (if(dst.map (h.muts.contains ·)).getD false then some r else none) sz b z n c)else none
   |_,_,_,_,_,_=>none
  |_=>none
 | .slice t x lo hi none=>match z6 x,qfm lo,qfm hi with
  |some x,some lo,some hi=>match P.underlying t with
   |some .string=>some (.strSlice x lo hi)
   |some (.slice e)=>(yp P e).map fun sz=>.slice sz x lo hi
   |some (.array n e)=>(yp P e).map fun sz=>.sliceArr n sz x lo hi
   |_=>none
  |_,_,_=>none
 | .fieldAddr t x i=>match P.underlying t with
  |some (.struct fs)=>match fs[i]? with
   |some f=>match qaw P f.type,yp P f.type,z6 x with
    |some ag,some n,some x=>if 0<n&&(ag||n == 1)then some (.fieldAddr ag f.offset n x)else none
    |_,_,_=>none
   |none=>none
  |_=>none
 | .field t x i=>match P.underlying t with
  |some (.struct fs)=>match fs[i]? with
   |some f=>match qaw P f.type,yp P f.type,z6 x with
    |some ag,some n,some x=>some (.field ag f.offset n x)
    |_,_,_=>none
   |none=>none
  |_=>none
 | .indexAddr t x i=>match z6 x,z6 i with
  |some x,some i=>match P.underlying t with
   |some (.slice e)=>match yp P e with
    |some sz=>if 0<sz then some (.indexAddr sz x i)else none
    |none=>none
   |some (.array n e)=>match yp P e,qaw P e with
    |some sz,some ag=>if 0<sz&&(ag||sz == 1)then some (.indexArr ag n sz x i)else none
    |_,_=>none
   |_=>none
  |_,_=>none
 | .index t x i=>match z6 x,z6 i with
  |some x,some i=>match P.underlying t with
   |some .string=>some (.strIndex x i)
   |some (.array n e)=>match yp P e,qaw P e with
    |some sz,some ag=>some (.index ag n sz x i)
    |_,_=>none
   |_=>none
  |_,_=>none
 | .lookup t m k ok=>match P.underlying t with
  |some (.map kt e)=>match kdT P kt,q8m P e,z6 m,z6 k with
   |some kd,some z,some m,some k=>some (.lookup kd z ok m k)
   |_,_,_,_=>none
  |_=>none
 | .mapUpdate t m k v=>match P.underlying t with
  |some (.map kt _)=>match kdT P kt,z6 m,z6 k,z6 v with
   |some kd,some m,some k,some v=>some (.mapUpdate kd m k v)
   |_,_,_,_=>none
  |_=>none
 | .insert t m k v=>match P.underlying t with
  |some (.map kt _)=>match kdT P kt,z6 m,z6 k,z6 v with
   |some kd,some m,some k,some v=>some (.mapUpdate kd m k v)
   |_,_,_,_=>none
  |_=>none
 | .range t x=>match P.underlying t with
  |some .string=>(z6 x).map (.srange r)
  |_=>none
 | .next it true=>(z6 it).map .snext
 | .extract x i=>(z6 x).map fun x=>.extract x i
 | .call c=>qqb P h md r dst c
 |_=>none
def qw.makes:qw→Bool
 | .alloc ..=>true
 | .box ..=>true
 | .bld ..=>true
 | .mkmap ..=>true
 | .mkslice (some _) ..=>true
 | .append (some _) ..=>true
 | .vapp ..=>true
 | .vlit ..=>true
 | .srange ..=>true
 | .call (.frz _) ..=>true
 |_=>false
def qw.vdst:qw→Option Nat
 | .vstore _ s _=>some s
 |_=>none
def qw.dstOf (d:Option Nat):qw→Option Nat
 | .vstore _ s _=>some s
 |_=>d
def qpn (ops:Array Oper):Option (Nat×Bool)→Option (Option (Nat×Bool))
 |none=>some none
 |some (j,b)=>match(ops[j]?).bind (·.dst)with
  |some d=>some (some (d,b))
  |none=>none
def jbg (h:qb)(id i:Nat):jc:=if h.shr.contains (id,i)then .shr else if h.frz.contains (id,i)then .frz 0 else if h.red.contains (id,i)then .red else .iso
def q18 (P:Program)(h:qb)(nt:Nat)(id:Nat)(ops:Array Oper)(bef:Array Nat)(draw:Bool):List Oper→Nat→List (Nat×Nat)→Option (List qt×List (Nat×Nat))
 | [],_,rs=>some ([],rs)
 |o::os,i,rs=>
  match(cOp P h (jbg h id i) rs.length o.dst o.op).getD .bad,qpn ops o.guard with
  |a,some g=>
   if(o.dst.map (decide <| · < nt)).getD true&&(a.vdst.map (decide <| · < nt)).getD true&&(a.vdst.isNone||(o.dst.isNone&&o.guard.isNone))then
    let rs':=if a.makes then(i,rs.length)::rs else rs
    let al:=if draw then(match h.ex.find? fun x=>x.1 == (id,i)with
     |some x=>some [x.2]
     |none=>some ((rs.filter fun x=>(bef.getD i 0).testBit x.1).map (·.2)))else none
    match q18 P h nt id ops bef draw os (i+1) rs' with
    |some (l,rs'')=>some (⟨a.dstOf o.dst,a,g,al⟩::l,rs'')
    |none=>none
   else none
  |_,_=>none
def kh:qf→List Nat
 | .tmp t=>[t]
 | .const _=>[]
def qng (l:List qf):List Nat:=l.flatMap kh
def qrl:Option qf→List Nat
 |some x=>kh x
 |none=>[]
def qw.reads:qw→List Nat
 | .move x=>kh x
 | .take s=>[s]
 | .pick c a b=>kh c++kh a++kh b
 | .alloc _ _=>[]
 | .box _ _ x=>kh x
 | .vbox _ x=>kh x
 | .valloc _=>[]
 | .vstore _ s x=>s::kh x
 | .bld _ _ _=>[]
 | .build _ ps=>ps.flatMap fun p=>kh p.2.2
 | .buildSlice _ _ _ ps=>ps.flatMap fun p=>kh p.2
 | .load _ _ x=>kh x
 | .vload _ _ x=>kh x
 | .loadTake _ x=>kh x
 | .store _ a v=>kh a++kh v
 | .nilCheck x=>kh x
 | .bin _ x y=>kh x++kh y
 | .eqs _ _ x y=>kh x++kh y
 | .beq _ x y=>kh x++kh y
 | .nilEq _ _ x=>kh x
 | .un _ x=>kh x
 | .conv _ x=>kh x
 | .convStr x=>kh x
 | .field _ _ _ x=>kh x
 | .index _ _ _ x i=>kh x++kh i
 | .strIndex x i=>kh x++kh i
 | .fieldAddr _ _ _ x=>kh x
 | .indexAddr _ x i=>kh x++kh i
 | .indexArr _ _ _ x i=>kh x++kh i
 | .slice _ x lo hi=>kh x++qrl lo++qrl hi
 | .strSlice x lo hi=>kh x++qrl lo++qrl hi
 | .sliceArr _ _ x lo hi=>kh x++qrl lo++qrl hi
 | .mkfunc _ a b=>qng a++qng b
 | .mkmap _=>[]
 | .lookup _ _ _ m k=>kh m++kh k
 | .mapUpdate _ m k v=>kh m++kh k++kh v
 | .delete _ m k=>kh m++kh k
 | .mkslice _ _ _ _ n c=>kh n++kh c
 | .len _ x=>kh x
 | .append _ _ _ x y=>kh x++kh y
 | .vapp _ _ _ x y=>kh x++kh y
 | .vlit _ _ _ _ ps=>ps.flatMap fun p=>kh p.2
 | .copy _ x y=>kh x++kh y
 | .mx l=>qng l
 | .mn l=>qng l
 | .extract x _=>kh x
 | .call _ f l=>kh f++qng l
 | .srange _ x=>kh x
 | .snext x=>kh x
 | .bad=>[]
def qw.strips:qw→List Nat
 | .take s=>[s]
 | .append _ _ _ x _=>kh x
 | .store _ _ v=>kh v
 |_=>[]
def qt.reads (o:qt):List Nat:=o.op.reads++(match o.guard with|some g=>[g.1]|none=>[])
def qt.writes (o:qt):List Nat:=o.dst.toList++o.op.strips
inductive jq where
 |pure|read|write|alloc|take|frz|shr|vap
 deriving DecidableEq,Inhabited
def qw.cl:qw→jq
 | .load ..=>.read
 | .lookup ..=>.read
 | .alloc ..=>.alloc
 | .box ..=>.alloc
 | .bld ..=>.alloc
 | .mkmap ..=>.alloc
 | .mkslice (some _) ..=>.alloc
 | .append (some _) ..=>.alloc
 | .srange ..=>.alloc
 | .loadTake none _=>.write
 | .loadTake (some _) _=>.take
 | .store ..=>.write
 | .mapUpdate ..=>.write
 | .delete ..=>.write
 | .copy ..=>.write
 | .snext ..=>.write
 | .call .iso ..=>.pure
 | .call (.frz _) ..=>.alloc
 | .call .shr ..=>.shr
 | .call .red ..=>.shr
 | .vapp ..=>.vap
 | .vlit ..=>.shr
 |_=>.pure
def qw.rank:qw→Nat
 | .alloc r _=>r
 | .box r _ _=>r
 | .bld r _ _=>r
 | .mkmap r=>r
 | .mkslice (some r) ..=>r
 | .append (some r) ..=>r
 | .srange r _=>r
 | .call (.frz r) ..=>r
 | .loadTake (some o) _=>o
 | .vapp r sz ..=>r+1000*sz
 |_=>0
def qft (al:Option (List Nat))(r:Nat):Bool:=match al with
 |none=>true
 |some l=>bif exl l then Nat.beq (l.headD 0) (2000+r)else l.contains r
def ql3 (a b:Option (List Nat)):Bool:=match a,b with
 |some l,some m=>bif exl l then(bif exl m then !(Nat.beq (l.headD 0) (m.headD 0))&&Nat.blt (l.headD 0) 4000&&Nat.blt (m.headD 0) 4000 else Nat.ble 2000 (l.headD 0)&&Nat.blt (l.headD 0) 4000&&!(m.contains (l.headD 0-2000)))else exl m&&Nat.ble 2000 (m.headD 0)&&Nat.blt (m.headD 0) 4000&&!(l.contains (m.headD 0-2000))
 |_,_=>false
def jq.box:jq→Bool
 | .read=>true
 | .write=>true
 | .take=>true
 |_=>false
def q80 (a b:qt):Bool:=(a.op.cl.box&&b.op.cl.box&&ql3 a.al b.al) ||
  (match a.op.cl,b.op.cl with
 | .pure,_=>true
 |_,.pure=>true
 | .read,.read=>true
 | .read,.frz=>true
 | .frz,.read=>true
 | .frz,.frz=>true
 | .alloc,.alloc=>a.op.rank != b.op.rank
 | .alloc,.read=>!qft b.al a.op.rank
 | .alloc,.write=>!qft b.al a.op.rank
 | .alloc,.take=>!qft b.al a.op.rank
 | .take,.alloc=>!qft a.al b.op.rank
 | .take,.take=>a.op.rank != b.op.rank
 | .read,.alloc=>!qft a.al b.op.rank
 | .write,.alloc=>!qft a.al b.op.rank
 | .vap,.vap=>a.op.rank % 1000 != b.op.rank % 1000&&a.op.rank / 1000 != b.op.rank / 1000
 | .vap,.read=>qhq b.al
 | .vap,.write=>qhq b.al
 | .vap,.take=>qhq b.al
 | .read,.vap=>qhq a.al
 | .write,.vap=>qhq a.al
 | .take,.vap=>qhq a.al
 |_,_=>false)
def qm3 (a b:List Nat):Bool:=a.all fun x=>!b.contains x
def qje (a b:qt):Bool:=
 q80 a b&&qm3 a.writes b.reads&&qm3 a.writes b.writes&&qm3 b.writes a.reads
def q4g (bef:Array Nat)(l:List qt):Bool:=
 (l.zipIdx).all fun(b,j)=>(l.zipIdx).all fun(a,i)=>!(decide (i<j))||(bef.getD j 0).testBit i||qje a b
def qzz (ops:Array Oper):Bool:=ops.toList.zipIdx.all fun(o,i)=>o.after.all fun e=>!Region.binds .any e||decide (e.on<i)
def q89 (bef:Array Nat)(ops:Array Oper):Bool:=
 ops.toList.zipIdx.all fun(o,i)=>(List.range ops.size).all fun j=>!((bef.getD i 0).testBit j)||o.after.any fun e=>Region.binds .any e&&(e.on == j||(bef.getD e.on 0).testBit j)
def qp5 (P:Program)(h:qb)(nt:Nat)(id:Nat)(ops:Array Oper)(draw:Bool):Option qh:=
 match q18 P h nt id ops (Region.before ops) draw ops.toList 0 []with
 |some (l,rs)=>
  if !draw||(q4g (Region.before ops) l&&qzz ops&&q89 (Region.before ops) ops)then
   some (.region rs.length l ((h.keep.find? fun x=>x.1 == id).map (·.2)))
  else none
 |none=>none
def qpd (s d:Nat)(o:Oper):Bool:=match o.op,o.dst,o.guard with
 | .move (.tmp s'),some d',none=>s' == s&&d' == d
 |_,_,_=>false
def qvb (s d:Nat)(o:Oper):Bool:=match o.op,o.dst,o.guard with
 | .assign (.tmp s'),some d',none=>s' == s&&d' == d
 |_,_,_=>false
def jeq (x d:Nat)(o:Oper):Option TypeId:=match o.op,o.dst,o.guard with
 | .call c,some d',none=>match c.callee,c.args.toList,c.argTypes.toList with
  | .builtin .cap,[.tmp x'],[t]=>if x' == x&&d' == d then some t else none
  |_,_,_=>none
 |_,_,_=>none
def jcu (x d:Nat)(o:Oper):Option TypeId:=match o.op,o.dst,o.guard with
 | .call c,some d',none=>match c.callee,c.args.toList,c.argTypes.toList with
  | .builtin .len,[.tmp x'],[t]=>if x' == x&&d' == d then some t else none
  |_,_,_=>none
 |_,_,_=>none
def q8w (x h d:Nat)(o:Oper):Option TypeId:=match o.op,o.dst,o.guard with
 | .slice t (.tmp x') none (some (.tmp h')) none,some d',none=>if x' == x&&h' == h&&d' == d then some t else none
 |_,_,_=>none
def jd1 (x y d:Nat)(o:Oper):Option (TypeId×TypeId):=match o.op,o.dst,o.guard with
 | .call c,some d',none=>match c.callee,c.args.toList,c.argTypes.toList with
  | .builtin .append,[.tmp x',.tmp y'],[t,u]=>if x' == x&&y' == y&&d' == d then some (t,u)else none
  |_,_,_=>none
 |_,_,_=>none
def jgv (ops:Array Oper):Option (TypeId×TypeId):=match ops.toList with
 | [o0,o1,o2,o3,o4,o5,o6,o7,o8,o9]=>match jeq 18 19 o2,q8w 17 19 20 o3,jd1 20 21 22 o5,jcu 23 24 o7,q8w 22 24 25 o8 with
  |some t2,some t3,some (t,u),some t7,some t8=>if qpd 0 17 o0&&qpd 0 18 o1&&qpd 1 21 o4&&qpd 0 23 o6&&qvb 25 0 o9&&t2 == t&&t3 == t&&t7 == t&&t8 == t then some (t,u)else none
  |_,_,_,_,_=>none
 |_=>none
def qx3 (P:Program)(nt:Nat)(ops:Array Oper):Option Nat:=match jgv ops with
 |some (t,u)=>match P.underlying t,P.underlying u with
  |some (.slice e),some (.int _)=>match P.info? e with
   |some i=>if i.zero.isSome&&0<i.size&&i.bytes≤4096&&26≤nt&&(qa0 P e).isSome&&(qa0 P e).map (·.length) == some i.size then some i.size else none
   |none=>none
  |_,_=>none
 |none=>none
def qb2 (P:Program)(h:qb)(nt:Nat):Code→Option qh
 | .skip=>some .skip
 | .label _=>some .skip
 | .region id ops draw=>match draw,qx3 P nt ops with
  |false,some sz=>some (.grow sz)
  |_,_=>qp5 P h nt id ops draw
 | .seq a b=>match qb2 P h nt a,qb2 P h nt b with
  |some x,some y=>some (.seq x y)
  |_,_=>none
 | .cond c a b=>match z6 c,qb2 P h nt a,qb2 P h nt b with
  |some c,some x,some y=>some (.cond c x y)
  |_,_,_=>none
 | .block id b=>(qb2 P h nt b).map (.block id)
 | .loop b=>(qb2 P h nt b).map .loop
 | .scope b=>(qb2 P h nt b).map fun x=>.seq x .skip
 | .rangeFunc f ps a b=>match z6 f,qb2 P h nt a,qb2 P h nt b with
  |some f,some x,some y=>if ps.all (decide <| · < nt)then some (.rangeFunc f ps.toList x y)else none
  |_,_,_=>none
 | .exit id=>some (.exit id)
 | .ret=>some .ret
 |_=>some .stuck
def q9m (P:Program):ResultVar→Option ja
 | .tmp t=>some (.tmp t)
 | .cell t ty=>match qaw P ty,yp P ty with
  |some true,some n=>some (.cell t true n)
  |some false,some 1=>some (.cell t false 1)
  |_,_=>none
def qqz (P:Program):List ResultVar→Option (List ja)
 | []=>some []
 |r::rs=>match q9m P r,qqz P rs with
  |some x,some xs=>some (x::xs)
  |_,_=>none
def q2l (P:Program)(h:qb)(f:Func):Option qd:=
 match f.body with
 |some c=>match qb2 P h f.ntmps c,qqz P f.results.toList with
  | some b, some rs => if f.name == "runtime.NumGoroutine" then none else some ⟨f.ntmps, b, rs⟩
  |_,_=>none
 |none=>none
structure Ctx where
 K:Nat→Nat→Option Value
 β:Nat→Option Nat
 W:Nat→Prop
 D:Nat→Prop
 T:Nat×Nat×Nat×Nat→Prop
def Ctx.iso (K:Nat→Nat→Option Value):Ctx:=⟨K,fun _=>none,fun _=>False,fun _=>False,fun _=>False⟩
def RepFn (C:Ctx):Fn→Fn→Prop
 | .yield b,f=>∃r,C.β b=some r∧f=.yield r
 |f,f'=>f'=f
inductive jh where
 |val (x:qa) (v:Value)
 |cells (r:Nat) (xs:List qa) (o:Nat)
 |row (r sz:Nat) (xs:List qa) (o:Nat)
 |lst (xs:List qa) (vs:List Value)
inductive qo (C:Ctx):jh→Prop where
 |bool (b:Bool):qo C (.val (.bool b) (.bool b))
 |int (k:IntKind) (n:Int):qo C (.val (.int k n) (.int k n))
 |str (s:List UInt8):qo C (.val (.str s) (.string ⟨⟨s⟩⟩))
 |lnil (sz:Nat):qo C (.val (.list true sz []) (.slice none 0 0))
 |list (sz:Nat) (xs:List qa) (r o cap:Nat) (hl:xs.length≤cap) (hr:qo C (.row r sz xs o)):qo C (.val (.list false sz xs) (.slice (some ⟨r,o,none⟩) xs.length cap))
 |lemp (sz:Nat) (a:Addr) (hs:a.spot≠none):qo C (.val (.list false sz []) (.slice (some a) 0 0))
 |ms (b o len r cap:Nat) (hb:C.β b=some r) (hl:len≤cap):qo C (.val (.ms b o len) (.slice (some ⟨r,o,none⟩) len cap))
 |ptr (b o r:Nat) (hb:C.β b=some r):qo C (.val (.ptr b o) (.pointer (some ⟨r,o,none⟩)))
 |vptr (x:qa) (r o:Nat) (h:qo C (.cells r x.flat o)):qo C (.val (.vptr x) (.pointer (some ⟨r,o,none⟩)))
 |nilptr:qo C (.val .nilptr (.pointer none))
 |map (b r:Nat) (hb:C.β b=some r):qo C (.val (.map b) (.map (some r)))
 |nilmap:qo C (.val .nilmap (.map none))
 |fn (f f':Fn) (a b:List qa) (as bs:List Value) (hf:RepFn C f f') (ha:qo C (.lst a as)) (hb:qo C (.lst b bs)):qo C (.val (.fn f a b) (.func f' ⟨as⟩ ⟨bs⟩))
 |nilfn:qo C (.val .nilfn .nilFunc)
 |agg (cs:List qa) (vs:List Value) (h:qo C (.lst cs vs)):qo C (.val (.agg cs) (.agg ⟨vs⟩))
 |tup (cs:List qa) (vs:List Value) (h:qo C (.lst cs vs)):qo C (.val (.tup cs) (.tuple ⟨vs⟩))
 |undef:qo C (.val .undef (.tuple #[]))
 |any (v:Value):qo C (.val .any v)
 |pend (n:Nat) (a:Addr):qo C (.val (.pend n) (.pointer (some a)))
 |vref (b ver len r0 r cap:Nat) (hb:C.β b=some r0) (ht:C.T (r0,ver,r,cap)) (hl:len≤cap):qo C (.val (.vref b ver len) (.slice (some ⟨r,0,none⟩) len cap))
 |vel (b ver off r0 r cap:Nat) (hb:C.β b=some r0) (ht:C.T (r0,ver,r,cap)):qo C (.val (.vel b ver off) (.pointer (some ⟨r,off,none⟩)))
 |cnil (r o:Nat):qo C (.cells r [] o)
 |ccons (r o:Nat) (x:qa) (xs:List qa) (v:Value) (hv:C.K r o=some v) (hx:qo C (.val x v)) (h:qo C (.cells r xs (o+1))):qo C (.cells r (x::xs) o)
 |rnil (r sz o:Nat):qo C (.row r sz [] o)
 |rcons (r sz o:Nat) (x:qa) (xs:List qa) (hs:x.flat.length=sz) (hx:qo C (.cells r x.flat o)) (h:qo C (.row r sz xs (o+sz))):qo C (.row r sz (x::xs) o)
 |nil:qo C (.lst [] [])
 |cons (x:qa) (xs:List qa) (v:Value) (vs:List Value) (hx:qo C (.val x v)) (h:qo C (.lst xs vs)):qo C (.lst (x::xs) (v::vs))
abbrev Rep (C:Ctx)(x:qa)(v:Value):Prop:=qo C (.val x v)
abbrev RepL (C:Ctx)(xs:List qa)(vs:List Value):Prop:=qo C (.lst xs vs)
abbrev RepC (C:Ctx)(r:Nat)(xs:List qa)(o:Nat):Prop:=qo C (.cells r xs o)
abbrev RepRow (C:Ctx)(r sz:Nat)(xs:List qa)(o:Nat):Prop:=qo C (.row r sz xs o)
structure Ctx.le (C C':Ctx):Prop where
 k:∀r o v,C.K r o=some v→C'.K r o=some v
 b:∀b r,C.β b=some r→C'.β b=some r
 w:C'.W=C.W
 d:∀r,C.D r→C'.D r
 t:∀q,C.T q→C'.T q:=by exact fun _ h=>h
theorem Ctx.le_refl (C:Ctx):C.le C:=⟨fun _ _ _ h=>h,fun _ _ h=>h,rfl,fun _ h=>h,fun _ h=>h⟩
theorem Ctx.le_trans {A B C:Ctx}(h:A.le B)(k:B.le C):A.le C:=⟨fun r o v x=>k.1 r o v (h.1 r o v x),fun b r x=>k.2 b r (h.2 b r x),k.w.trans h.w,fun r x=>k.d r (h.d r x),fun r x=>k.t r (h.t r x)⟩
theorem RepFn.imp {C C':Ctx}(h:(∀r o v,C.K r o=some v→C'.K r o=some v)∧(∀b r,C.β b=some r→C'.β b=some r)){f f':Fn}(hf:RepFn C f f'):RepFn C' f f':=by
 cases f<;>simp only[RepFn]at *<;>first|exact hf|exact⟨hf.choose,h.2 _ _ hf.choose_spec.1,hf.choose_spec.2⟩
theorem qo.imp {C C':Ctx}(h:(∀r o v,C.K r o=some v→C'.K r o=some v)∧(∀b r,C.β b=some r→C'.β b=some r)){i:jh}(hr:qo C i)(hT:∀q,C.T q→C'.T q:=by first|exact fun _ h=>h|exact fun _ h=>False.elim h):qo C' i:=by
 induction hr with
 |bool b=>exact .bool b
 |int k n=>exact .int k n
 |str s=>exact .str s
 |lnil sz=>exact .lnil sz
 |list sz xs r o cap hl _ ih=>exact .list sz xs r o cap hl ih
 |lemp sz a hs=>exact .lemp sz a hs
 |ms b o len r cap hb hl=>exact .ms b o len r cap (h.2 _ _ hb) hl
 |ptr b o r hb=>exact .ptr b o r (h.2 _ _ hb)
 |vptr x r o _ ih=>exact .vptr x r o ih
 |nilptr=>exact .nilptr
 |map b r hb=>exact .map b r (h.2 _ _ hb)
 |nilmap=>exact .nilmap
 |fn f f' a b as bs hf _ _ ha hb=>exact .fn f f' a b as bs (hf.imp h) ha hb
 |nilfn=>exact .nilfn
 |agg cs vs _ ih=>exact .agg cs vs ih
 |tup cs vs _ ih=>exact .tup cs vs ih
 |undef=>exact .undef
 |any v=>exact .any v
 |pend n a=>exact .pend n a
 |vref b ver len r0 r cap hb ht hl=>exact .vref b ver len r0 r cap (h.2 _ _ hb) (hT _ ht) hl
 |vel b ver off r0 r cap hb ht=>exact .vel b ver off r0 r cap (h.2 _ _ hb) (hT _ ht)
 |cnil r o=>exact .cnil r o
 |ccons r o x xs v hv _ _ ihx ih=>exact .ccons r o x xs v (h.1 _ _ _ hv) ihx ih
 |rnil r sz o=>exact .rnil r sz o
 |rcons r sz o x xs hs _ _ ihx ih=>exact .rcons r sz o x xs hs ihx ih
 |nil=>exact .nil
 |cons x xs v vs _ _ ihx ih=>exact .cons x xs v vs ihx ih
theorem qo.mono {C C':Ctx}(h:C.le C'){i:jh}(hr:qo C i):qo C' i:=hr.imp ⟨h.k,h.b⟩ h.t
def jh.below (n:Nat):jh→Bool
 | .val x _=>Abs.below n x
 | .cells _ xs _=>z8 n xs
 | .row _ _ xs _=>z8 n xs
 | .lst xs _=>z8 n xs
theorem qln (n:Nat)(x:qa):z8 n x.flat=Abs.below n x:=by
 cases x<;>simp[qa.flat,z8,Abs.below]
theorem qo.shift {C C':Ctx}(n:Nat)(hK:∀r o v,C.K r o=some v→C'.K r o=some v)(hβ:∀b r,b<n→C.β b=some r→C'.β b=some r){i:jh}(hr:qo C i)(hb:i.below n=true)(hT:∀q,0<n→C.T q→C'.T q:=by first|exact fun _ _ h=>h|exact fun _ h=>absurd h (Nat.lt_irrefl 0)|exact fun _ _ h=>False.elim h):qo C' i:=by
 induction hr with
 |bool b=>exact .bool b
 |int k n=>exact .int k n
 |str s=>exact .str s
 |lnil sz=>exact .lnil sz
 |list sz xs r o cap hl _ ih=>exact .list sz xs r o cap hl (ih (by simpa[jh.below,Abs.below]using hb))
 |lemp sz a hs=>exact .lemp sz a hs
 |ms b o len r cap h1 hl=>exact .ms b o len r cap (hβ _ _ (by simpa[jh.below,Abs.below]using hb) h1) hl
 |ptr b o r h1=>exact .ptr b o r (hβ _ _ (by simpa[jh.below,Abs.below]using hb) h1)
 |vptr x r o _ ih=>exact .vptr x r o (ih (by simpa[jh.below,Abs.below,qln]using hb))
 |nilptr=>exact .nilptr
 |map b r h1=>exact .map b r (hβ _ _ (by simpa[jh.below,Abs.below]using hb) h1)
 |nilmap=>exact .nilmap
 |fn f f' a b as bs hf _ _ iha ihb=>
  have hf':RepFn C' f f':=by
   cases f<;>simp only[RepFn]at *<;>first|exact hf|skip
   obtain⟨r,h1,rfl⟩:=hf
   simp[jh.below,Abs.below]at hb
   exact⟨r,hβ _ _ hb.1.1 h1,rfl⟩
  have hab:z8 n a=true∧z8 n b=true:=by
   cases f<;>simp[jh.below,Abs.below]at hb<;>first|exact hb|exact⟨hb.1.2,hb.2⟩
  exact .fn f f' a b as bs hf' (iha hab.1) (ihb hab.2)
 |nilfn=>exact .nilfn
 |agg cs vs _ ih=>exact .agg cs vs (ih (by simpa[jh.below,Abs.below]using hb))
 |tup cs vs _ ih=>exact .tup cs vs (ih (by simpa[jh.below,Abs.below]using hb))
 |undef=>exact .undef
 |any v=>exact .any v
 |pend n a=>exact .pend n a
 |vref b ver len r0 r cap h1 ht hl=>
  have hbn:b<n:=by simpa[jh.below,Abs.below]using hb
  exact .vref b ver len r0 r cap (hβ _ _ hbn h1) (hT _ (by omega) ht) hl
 |vel b ver off r0 r cap h1 ht=>
  have hbn:b<n:=by simpa[jh.below,Abs.below]using hb
  exact .vel b ver off r0 r cap (hβ _ _ hbn h1) (hT _ (by omega) ht)
 |cnil r o=>exact .cnil r o
 |ccons r o x xs v hv _ _ ihx ih=>
  simp[jh.below,z8]at hb ihx ih
  exact .ccons r o x xs v (hK _ _ _ hv) (ihx hb.1) (ih hb.2)
 |rnil r sz o=>exact .rnil r sz o
 |rcons r sz o x xs hs _ _ ihx ih=>
  simp[jh.below,z8,qln]at hb ihx ih
  exact .rcons r sz o x xs hs (ihx hb.1) (ih hb.2)
 |nil=>exact .nil
 |cons x xs v vs _ _ ihx ih=>
  simp[jh.below,z8]at hb ihx ih
  exact .cons x xs v vs (ihx hb.1) (ih hb.2)
theorem RepL.length {C:Ctx}{xs:List qa}:∀ {vs:List Value},RepL C xs vs→vs.length=xs.length:=by
 induction xs with
 |nil=>intro vs h;cases h;rfl
 |cons x xs ih=>intro vs h;cases h with|cons _ _ v vs hx h=>simp[ih h]
theorem RepL.get {C:Ctx}{xs:List qa}:∀ {vs:List Value},RepL C xs vs→∀ {i:Nat} {x:qa},xs[i]?=some x→∃v,vs[i]?=some v∧Rep C x v:=by
 induction xs with
 |nil=>intro vs _ i x h;simp at h
 |cons y ys ih=>
  intro vs h i x hi
  cases h with
  |cons _ _ v vs hx h=>
   cases i with
   |zero=>simp at hi;subst hi;exact⟨v,rfl,hx⟩
   |succ i=>simp at hi;obtain⟨w,h1,h2⟩:=ih h hi;exact⟨w,by simpa using h1,h2⟩
theorem RepL.append {C:Ctx}{xs ys:List qa}:∀ {vs ws:List Value},RepL C xs vs→RepL C ys ws→RepL C (xs++ys) (vs++ws):=by
 induction xs with
 |nil=>intro vs ws h k;cases h;exact k
 |cons x xs ih=>intro vs ws h k;cases h with|cons _ _ v vs hx h=>exact .cons _ _ _ _ hx (ih h k)
theorem RepL.take {C:Ctx}{xs:List qa}:∀ {vs:List Value} (n:Nat),RepL C xs vs→RepL C (xs.take n) (vs.take n):=by
 induction xs with
 |nil=>intro vs n h;cases h;simpa using qo.nil
 |cons x xs ih=>intro vs n h;cases h with|cons _ _ v vs hx h=>cases n with
  |zero=>simpa using qo.nil
  |succ n=>exact .cons _ _ _ _ hx (ih n h)
theorem RepL.drop {C:Ctx}{xs:List qa}:∀ {vs:List Value} (n:Nat),RepL C xs vs→RepL C (xs.drop n) (vs.drop n):=by
 induction xs with
 |nil=>intro vs n h;cases h;simpa using qo.nil
 |cons x xs ih=>intro vs n h;cases h with|cons _ _ v vs hx h=>cases n with
  |zero=>exact .cons _ _ _ _ hx h
  |succ n=>simpa using ih n h
theorem RepC.get {C:Ctx}{r:Nat}{xs:List qa}:∀ {o:Nat},RepC C r xs o→∀ {i:Nat} {x:qa},xs[i]?=some x→∃v,C.K r (o+i)=some v∧Rep C x v:=by
 induction xs with
 |nil=>intro o _ i x h;simp at h
 |cons y ys ih=>
  intro o h i x hi
  cases h with
  |ccons _ _ _ _ v hv hx h=>
   cases i with
   |zero=>simp at hi;subst hi;exact⟨v,hv,hx⟩
   |succ i=>simp at hi;obtain⟨w,h1,h2⟩:=ih h hi;exact⟨w,by rw[show o+(i+1)=o+1+i from by omega];exact h1,h2⟩
theorem RepC.drop {C:Ctx}{r:Nat}{xs:List qa}:∀ {o:Nat} (n:Nat),RepC C r xs o→RepC C r (xs.drop n) (o+n):=by
 induction xs with
 |nil=>intro o n h;simpa using qo.cnil r (o+n)
 |cons x xs ih=>intro o n h;cases h with|ccons _ _ _ _ v hv hx h=>cases n with
  |zero=>exact .ccons _ _ _ _ _ hv hx h
  |succ n=>have:=ih n h;rw[show o+(n+1)=o+1+n from by omega];simpa using this
theorem RepC.take {C:Ctx}{r:Nat}{xs:List qa}:∀ {o:Nat} (n:Nat),RepC C r xs o→RepC C r (xs.take n) o:=by
 induction xs with
 |nil=>intro o n h;simpa using qo.cnil r o
 |cons x xs ih=>intro o n h;cases h with|ccons _ _ _ _ v hv hx h=>cases n with
  |zero=>simpa using qo.cnil r o
  |succ n=>exact .ccons _ _ _ _ _ hv hx (ih n h)
theorem RepC.append {C:Ctx}{r:Nat}{xs ys:List qa}:∀ {o:Nat},RepC C r xs o→RepC C r ys (o+xs.length)→RepC C r (xs++ys) o:=by
 induction xs with
 |nil=>intro o _ k;simpa using k
 |cons x xs ih=>intro o h k;cases h with|ccons _ _ _ _ v hv hx h=>exact .ccons _ _ _ _ _ hv hx (ih h (by simpa[Nat.add_assoc,Nat.add_comm 1]using k))
theorem RepRow.get {C:Ctx}{r sz:Nat}{xs:List qa}:∀ {o:Nat},RepRow C r sz xs o→∀ {i:Nat} {x:qa},xs[i]?=some x→RepC C r x.flat (o+i*sz):=by
 induction xs with
 |nil=>intro o _ i x h;simp at h
 |cons y ys ih=>
  intro o h i x hi
  cases h with
  |rcons _ _ _ _ _ hs hx h=>
   cases i with
   |zero=>simp at hi;subst hi;simpa using hx
   |succ i=>simp at hi;have:=ih h hi;rw[show o+(i+1)*sz=o+sz+i*sz from by rw[Nat.succ_mul];omega];exact this
theorem RepRow.drop {C:Ctx}{r sz:Nat}{xs:List qa}:∀ {o:Nat} (n:Nat),RepRow C r sz xs o→RepRow C r sz (xs.drop n) (o+n*sz):=by
 induction xs with
 |nil=>intro o n h;simpa using qo.rnil r sz (o+n*sz)
 |cons x xs ih=>intro o n h;cases h with|rcons _ _ _ _ _ hs hx h=>cases n with
  |zero=>simpa using qo.rcons _ _ _ _ _ hs hx h
  |succ n=>have:=ih n h;rw[show o+(n+1)*sz=o+sz+n*sz from by rw[Nat.succ_mul];omega];simpa using this
theorem RepRow.take {C:Ctx}{r sz:Nat}{xs:List qa}:∀ {o:Nat} (n:Nat),RepRow C r sz xs o→RepRow C r sz (xs.take n) o:=by
 induction xs with
 |nil=>intro o n h;simpa using qo.rnil r sz o
 |cons x xs ih=>intro o n h;cases h with|rcons _ _ _ _ _ hs hx h=>cases n with
  |zero=>simpa using qo.rnil r sz o
  |succ n=>exact .rcons _ _ _ _ _ hs hx (ih n h)
theorem RepRow.append {C:Ctx}{r sz:Nat}{xs ys:List qa}:∀ {o:Nat},RepRow C r sz xs o→RepRow C r sz ys (o+xs.length*sz)→RepRow C r sz (xs++ys) o:=by
 induction xs with
 |nil=>intro o _ k;simpa using k
 |cons x xs ih=>
  intro o h k
  cases h with
  |rcons _ _ _ _ _ hs hx h=>
   refine .rcons _ _ _ _ _ hs hx (ih h ?_)
   have e:o+sz+xs.length*sz=o+(x::xs).length*sz:=by simp[Nat.succ_mul];omega
   rw[e];exact k
theorem RepRow.sized {C:Ctx}{r sz:Nat}{xs:List qa}:∀ {o:Nat},RepRow C r sz xs o→∀x∈xs,x.flat.length=sz:=by
 induction xs with
 |nil=>intro o _ x hx;cases hx
 |cons y ys ih=>
  intro o h x hx
  cases h with
  |rcons _ _ _ _ _ hs _ h=>
   rcases List.mem_cons.1 hx with rfl|hx
   ·exact hs
   ·exact ih h x hx
theorem RepRow.cells {C:Ctx}{r sz:Nat}{xs:List qa}:∀ {o:Nat},RepRow C r sz xs o→RepC C r (xs.flatMap qa.flat) o:=by
 induction xs with
 |nil=>intro o _;exact .cnil _ _
 |cons x xs ih=>
  intro o h
  cases h with
  |rcons _ _ _ _ _ hs hx h=>
   simp only[List.flatMap_cons]
   refine RepC.append hx ?_
   rw[hs]
   exact ih h
theorem RepRow.of_cells {C:Ctx}{r sz:Nat}{xs:List qa}:∀ {o:Nat},RepC C r (xs.flatMap qa.flat) o→(∀x∈xs,x.flat.length=sz)→RepRow C r sz xs o:=by
 induction xs with
 |nil=>intro o _ _;exact .rnil _ _ _
 |cons x xs ih=>
  intro o h hl
  simp only[List.flatMap_cons]at h
  have h1:=RepC.take (x.flat.length) h
  have h2:=RepC.drop (x.flat.length) h
  rw[List.take_left' rfl]at h1
  rw[List.drop_left' rfl,hl x (by simp)]at h2
  exact .rcons _ _ _ _ _ (hl x (by simp)) h1 (ih h2 fun y hy=>hl y (by simp[hy]))
theorem RepC.vals {C:Ctx}{r:Nat}{xs:List qa}:∀ {o:Nat},RepC C r xs o→∃vs,RepL C xs vs∧∀j v,vs[j]?=some v→C.K r (o+j)=some v:=by
 induction xs with
 |nil=>intro o _;exact⟨[],.nil,by simp⟩
 |cons x xs ih=>
  intro o h
  cases h with
  |ccons _ _ _ _ v hv hx h=>
   obtain⟨vs,h1,h2⟩:=ih h
   refine⟨v::vs,.cons _ _ _ _ hx h1,?_⟩
   intro j u hj
   cases j with
   |zero=>simp at hj;subst hj;exact hv
   |succ j=>simp at hj;rw[show o+(j+1)=o+1+j from by omega];exact h2 j u hj
inductive Loc where
 |slot (s:Nat)
 |cell (b j:Nat)
 deriving DecidableEq
def Strict (sz:Nat)(xs:List qa)(cells:Array Value)(elem:TypeId)(len cap:Nat):Prop:=
 ∀(e:Nat) (l:List UInt8),sz=0→xs=[.int .u64 (e:Int),.str l]→elem=e∧len=l.length∧len≤cap∧cap≤maxLen∧cells.size=cap∧cells.toList.take len=l.map fun b=>Value.int .u8 b.toNat
theorem Strict.pos {sz:Nat}{xs:List qa}{cells:Array Value}{elem:TypeId}{len cap:Nat}(h:0<sz):Strict sz xs cells elem len cap:=fun _ _ h0=>by omega
theorem Strict.sized {sz:Nat}{xs:List qa}{cells:Array Value}{elem:TypeId}{len cap:Nat}(h:∀x∈xs,x.flat.length=sz):Strict sz xs cells elem len cap:=fun e l h0 hx=>by
 have:=h (.str l) (by rw[hx];simp)
 simp[qa.flat,h0]at this
def OwnV (C:Ctx)(ω:Nat→Option Loc)(w:World)(B:Nat)(ℓ:Loc):qa→Value→Prop
 | .list _ sz xs,.slice (some a) len cap=>ω a.block=some ℓ∧(B≤a.block∨C.W a.block)∧(∀b,C.β b≠some a.block)∧a.spot=none∧a.off=0 ∧
   (∃cells elem,w.heap[a.block]?=some (.cells cells elem (0,0))∧a.off+cap*sz≤cells.size∧Strict sz xs cells elem len cap)∧∀o,a.off+len*sz≤o→C.K a.block o=none
 | .pend n,.pointer (some a)=>ω a.block=some ℓ∧(B≤a.block∨C.W a.block)∧(∀b,C.β b≠some a.block)∧a.spot=none∧a.off=0 ∧
   (∃cells elem,w.heap[a.block]?=some (.cells cells elem (0,0))∧a.off+n*1≤cells.size∧Strict 0 [] cells elem 0 0)∧∀o,a.off+0*0≤o→C.K a.block o=none
 |_,_=>True
structure Ext (w w':World):Prop where
 size:w.heap.size≤w'.heap.size
 same:∀r,r<w.heap.size→w'.heap[r]?=w.heap[r]?
 os:w'.os=w.os
 output:w'.output=w.output
theorem Ext.refl (w:World):Ext w w:=⟨Nat.le_refl _,fun _ _=>rfl,rfl,rfl⟩
theorem Ext.get {w w':World}(h:Ext w w'){r:Nat}{o:Obj}(hr:w.heap[r]?=some o):w'.heap[r]?=some o:=by
 rw[h.same r (Array.getElem?_eq_some_iff.1 hr).1];exact hr
theorem Ext.trans {a b c:World}(h:Ext a b)(k:Ext b c):Ext a c where
 size:=Nat.le_trans h.size k.size
 same r hr:=by rw[k.same r (Nat.lt_of_lt_of_le hr h.size),h.same r hr]
 os:=k.os.trans h.os
 output:=k.output.trans h.output
theorem qef (w:World)(o:Obj)(r:Nat):(w.alloc o).heap[r]?=if r=w.heap.size then some o else w.heap[r]?:=by
 show(w.heap.push o)[r]?=_
 rw[Array.getElem?_push]
theorem Ext.alloc (w:World)(o:Obj)(ho:∀c t fr,o=.cells c t fr→fr=(0,0)):Ext w (w.alloc o) where
 size:=by rw[World.size_alloc];omega
 same r hr:=by rw[qef,if_neg (by omega)]
 os:=rfl
 output:=rfl
theorem Ext.drew (w:World):Ext w w.drew:=⟨Nat.le_refl _,fun _ _=>rfl,rfl,rfl⟩
theorem Ext.cell {w w':World}(h:Ext w w'){a:Addr}{v:Value}(hc:w.cell? a=some v):w'.cell? a=some v:=by
 unfold World.cell? at *
 cases hr:w.heap[a.block]? with
 |none=>rw[hr]at hc;cases hc
 |some o=>rw[h.get hr];rw[hr]at hc;exact hc
theorem OwnV.ext {C:Ctx}{ω:Nat→Option Loc}{w w':World}{B:Nat}{ℓ:Loc}{x:qa}{v:Value}(h:Ext w w')(ho:OwnV C ω w B ℓ x v):OwnV C ω w' B ℓ x v:=by
 unfold OwnV at *
 split at ho
 ·obtain⟨h1,h2,h3,h4,h8,⟨cells,elem,h5,h6⟩,h7⟩:=ho
  exact⟨h1,h2,h3,h4,h8,⟨cells,elem,h.get h5,h6⟩,h7⟩
 ·obtain⟨h1,h2,h3,h4,h8,⟨cells,elem,h5,h6⟩,h7⟩:=ho
  exact⟨h1,h2,h3,h4,h8,⟨cells,elem,h.get h5,h6⟩,h7⟩
 ·trivial
inductive qy (C:Ctx):List (qa×qa)→List MapEntry→Prop where
 |nil:qy C [] []
 |cons (k v:qa) (es:List (qa×qa)) (m:MapEntry) (ms:List MapEntry) (hk:Rep C k m.key) (hv:Rep C v m.val) (h:qy C es ms):qy C ((k,v)::es) (m::ms)
theorem qy.imp {C C':Ctx}(h:(∀r o v,C.K r o=some v→C'.K r o=some v)∧(∀b r,C.β b=some r→C'.β b=some r)){es:List (qa×qa)}{ms:List MapEntry}(hr:qy C es ms)(hT:∀q,C.T q→C'.T q:=by first|exact fun _ h=>h|exact fun _ h=>False.elim h):qy C' es ms:=by
 induction hr with
 |nil=>exact .nil
 |cons k v es m ms hk hv _ ih=>exact .cons k v es m ms (qo.imp h hk hT) (qo.imp h hv hT) ih
theorem qy.mono {C C':Ctx}(h:C.le C'){es:List (qa×qa)}{ms:List MapEntry}(hr:qy C es ms):qy C' es ms:=hr.imp ⟨h.k,h.b⟩ h.t
def EnvRep (C:Ctx)(e:Env)(tmps:Array Value):Prop:=∀s x,yl s e=some x→∃v,tmps[s]?=some v∧Rep C x.1 v
def q2h (P:Program)(nt:Nat)(c:Code)(a:qh):Prop:=∃h,qb2 P h nt c=some a
structure q9 (P:Program)(C:Ctx)(l:jp)(lp:Loop):Prop where
 assign:q2h P lp.tmps.size lp.assign l.assign
 body:q2h P lp.tmps.size lp.body l.body
 params:lp.params.toList=l.params
 fits:∀t∈l.params,t<lp.tmps.size
 nr:qad l.assign=true∧qad l.body=true
 env:EnvRep C l.env lp.tmps
 state:lp.state=match l.pending with
  |none=>.ready
  |some .normal=>.busy
  |some _=>.done
 pending:lp.pending=match l.pending with
  |none=>none
  |some .normal=>none
  |some (.exit id)=>some (.exit id)
  |some .ret=>some .ret
def VecIs (K:Nat→Nat→Option Value)(w:World)(q sz:Nat)(xs:List qa)(cap:Nat):Prop:=
 ∃cells t vs,w.heap[q]?=some (.cells cells t (0,0))∧xs.length≤cap∧cap*sz≤cells.size∧(∀x∈xs,x.flat.length=sz)∧RepL (.iso K) (xs.flatMap qa.flat) vs ∧
  (∀(j:Nat) v,vs[j]?=some v→cells[j]?=some v)∧∀v∈vs,v.oneCell'=true
theorem VecIs.imp {K K':Nat→Nat→Option Value}{w w':World}{q sz cap:Nat}{xs:List qa}(hK:∀r o v,K r o=some v→K' r o=some v)(hw:w'.heap[q]?=w.heap[q]?)(h:VecIs K w q sz xs cap):VecIs K' w' q sz xs cap:=by
 obtain⟨cells,t,vs,h1,h2,h3,h4,h5,h6⟩:=h
 exact⟨cells,t,vs,hw.trans h1,h2,h3,h4,qo.imp (C:=.iso K) (C':=.iso K') ⟨hK,fun _ _ h=>h⟩ h5,h6⟩
abbrev qkw (C:Ctx)(ω:Nat→Option Loc)(w:World)(B b q n cap:Nat):Prop:=OwnV C ω w B (.cell b 0) (.list false 0 []) (.slice (some ⟨q,0,none⟩) n cap)
def VecRel (C:Ctx)(ω:Nat→Option Loc)(w:World)(B b r sz ver:Nat)(xs:List qa):Prop:=
 ∃q cap,C.T (r,ver,q,cap)∧(∀x,C.T x→x.1=r→x.2.1≤ver∧(x.2.1=ver→x.2.2=(q,cap)))∧VecIs C.K w q sz xs cap∧(q=r∨qkw C ω w B b q xs.length cap)∧∃cs t,w.heap[r]?=some (.cells cs t (0,0))
theorem VecRel.imp {C C':Ctx}{ω ω':Nat→Option Loc}{w w':World}{B B' b r sz ver:Nat}{xs:List qa}(hK:∀r o v,C.K r o=some v→C'.K r o=some v)(hT:∀q,C.T q→C'.T q)(hT':∀x,C'.T x→x.1=r→C.T x)(hw:w'.heap[r]?=w.heap[r]?)
  (hq:∀q n cap,qkw C ω w B b q n cap→w'.heap[q]?=w.heap[q]?∧qkw C' ω' w' B' b q n cap) (h:VecRel C ω w B b r sz ver xs):VecRel C' ω' w' B' b r sz ver xs:=by
 obtain⟨q,cap,h1,h2,h3,h4,cs,t,h5⟩:=h
 refine⟨q,cap,hT _ h1,fun x hx hr=>h2 x (hT' x hx hr) hr,?_,?_,cs,t,hw.trans h5⟩
 ·rcases h4 with rfl|h4
  ·exact h3.imp hK hw
  ·exact h3.imp hK (hq _ _ _ h4).1
 ·exact h4.imp id fun h=>(hq _ _ _ h).2
def BoxRel (P:Program)(C:Ctx)(ω:Nat→Option Loc)(w:World)(B b r:Nat):qr→Prop
 | .hole=>False
 | .cells cs=>∃vs elem,w.heap[r]?=some (.cells vs elem (0,0))∧cs.length≤vs.size ∧
   ∀j c,cs[j]?=some c→∃v,vs[j]?=some v∧v.oneCell'=true∧Rep C c.1 v∧(c.2=true→OwnV C ω w B (.cell b j) c.1 v)
 | .map es=>∃ents clock,w.heap[r]?=some (.map ents clock)∧qy C es ents.toList
 | .iter s pos=>w.heap[r]?=some (.stringIter ⟨⟨s⟩⟩ pos)
 | .loop l=>∃lp,w.heap[r]?=some (.loop lp)∧q9 P C l lp
 | .bld t e l=>∃p v,w.heap[r]?=some (.cells #[p,v] t (0,0))∧(p=.pointer none∨p=.pointer (some ⟨r,0,none⟩))∧((v=.slice none 0 0∧l=[])∨∃a len cap,v=.slice (some a) len cap)∧OwnV C ω w B (.cell b 1) (.list false 0 [.int .u64 (e:Int),.str l]) v
 | .dead=>∃cs t,w.heap[r]?=some (.cells cs t (0,0))
 | .vec sz ver xs=>VecRel C ω w B b r sz ver xs
def qdg : String := "internal/strconv.uint64pow10"
def qic : String := "internal/bytealg.MaxLen"
def jqm (P:Program)(w:World)(g:Nat):Prop:=
 (P.globalNamed qdg=some g→Lib.TabIs P w qdg .u64 Lib.pow10Tab)∧(P.globalNamed qic=some g→∃m,w.cell? ⟨g,0,none⟩=some (.int .i64 m)) ∧
 (∀x∈qtd,P.globalNamed x.1=some g→∀j n,x.2[j]?=some n→w.cell? ⟨g,j,none⟩=some (.int .i64 n))
def q8u (P:Program)(g:Nat):Prop:=P.globalNamed qdg=some g∨P.globalNamed qic=some g∨∃x∈qtd,P.globalNamed x.1=some g
def Tabs (P:Program)(w:World):Prop:=∀g,q8u P g→g<w.heap.size∧jqm P w g
theorem Tabs.same {P:Program}{w w':World}(h:Tabs P w)(hs:w.heap.size≤w'.heap.size)(hg:∀g,q8u P g→w'.heap[g]?=w.heap[g]?):Tabs P w':=by
 intro g hn
 obtain⟨h1,h2,h3,h5⟩:=h g hn
 refine⟨Nat.lt_of_lt_of_le h1 hs,fun hn2=>?_,fun hn2=>?_,fun x hx hn2 j n hj=>?_⟩
 ·have h2:=h2 hn2
  unfold Lib.TabIs World.var? at *
  rw[hn2]at h2 ⊢
  simp only[Option.bind_some]at h2 ⊢
  rw[hg g hn]
  exact h2
 ·obtain⟨m,h4⟩:=h3 hn2
  refine⟨m,?_⟩
  unfold World.cell? at *
  simp only[]at h4 ⊢
  rw[hg g hn]
  exact h4
 ·have h4:=h5 x hx hn2 j n hj
  unfold World.cell? at *
  simp only[]at h4 ⊢
  rw[hg g hn]
  exact h4
theorem Tabs.none {P:Program}{w:World}(h:P.globalNamed qdg=none∧P.globalNamed qic=none∧∀x∈qtd,P.globalNamed x.1=none):Tabs P w:=fun g hn=>by
 rcases hn with hn|hn|⟨x,hx,hn⟩
 ·rw[h.1]at hn;cases hn
 ·rw[h.2.1]at hn;cases hn
 ·rw[h.2.2 x hx]at hn;cases hn
def j9l (P:Program)(w0:World)(C0:Ctx):Prop:=Tabs P w0∧∀g,q8u P g→(∀b,C0.β b≠some g)∧¬C0.W g
structure MInv (P:Program)(C:Ctx)(ω:Nat→Option Loc)(w0:World)(C0:Ctx)(h:zb)(w:World):Prop where
 base:j9l P w0 C0
 know:∀r o v,C.K r o=some v→w.cell? ⟨r,o,none⟩=some v
 kone:∀r o v,C.K r o=some v→v.oneCell'=true
 apart:∀b r o,C.β b=some r→C.K r o=none
 inj:∀b b' r,C.β b=some r→C.β b'=some r→b=b'
 lt:∀b r,C.β b=some r→r<w.heap.size∧b<h.length
 size:w0.heap.size≤w.heap.size
 frame:∀r,r<w0.heap.size→(∀b,C0.β b≠some r)→¬C0.W r→w.heap[r]?=w0.heap[r]?
 dfr:∀r,C.D r→w.heap[r]?=some (.deferred (some []))
 os:w.os=w0.os
 output:w.output=w0.output
 fresh:∀b r,C.β b=some r→C0.β b=some r∨w0.heap.size≤r∨C0.W r
 grown:C0.le C
 old:∀r o,r<w0.heap.size→¬C0.W r→C.K r o=C0.K r o
 box:∀b x r,h[b]?=some x→C.β b=some r→BoxRel P C ω w w0.heap.size b r x
 tlt:∀q,C.T q→q.1<w.heap.size
def EnvRel (C:Ctx)(ω:Nat→Option Loc)(w:World)(B:Nat)(e:Env)(tmps:Array Value):Prop:=
 ∀s x,yl s e=some x→∃v,tmps[s]?=some v∧Rep C x.1 v∧(x.2=true→OwnV C ω w B (.slot s) x.1 v)
theorem EnvRel.rep {C:Ctx}{ω:Nat→Option Loc}{w:World}{B:Nat}{e:Env}{tmps:Array Value}(h:EnvRel C ω w B e tmps):EnvRep C e tmps:=
 fun s x hx=>let ⟨v,h1,h2,_⟩:=h s x hx; ⟨v,h1,h2⟩
theorem BoxRel.ext {P:Program}{C:Ctx}{ω:Nat→Option Loc}{w w':World}{B b r:Nat}{x:qr}(h:Ext w w')(hb:BoxRel P C ω w B b r x):BoxRel P C ω w' B b r x:=by
 cases x with
 |hole=>exact hb
 |cells cs=>
  obtain⟨vs,elem,h1,h2,h3⟩:=hb
  exact⟨vs,elem,h.get h1,h2,fun j c hc=>let ⟨v,a,q,b,d⟩:=h3 j c hc; ⟨v,a,q,b,fun e=>(d e).ext h⟩⟩
 |map es=>obtain⟨ents,clock,h1,h2⟩:=hb;exact⟨ents,clock,h.get h1,h2⟩
 |iter s pos=>exact h.get hb
 |loop l=>obtain⟨lp,h1,h2⟩:=hb;exact⟨lp,h.get h1,h2⟩
 |bld t e l=>obtain⟨p,v,h1,h2,h3,h4⟩:=hb;exact⟨p,v,h.get h1,h2,h3,h4.ext h⟩
 |dead=>obtain⟨cs,t,h1⟩:=hb;exact⟨cs,t,h.get h1⟩
 |vec sz ver xs=>
  obtain⟨q,cap,h1,h2,h3,h4,cs,t,h5⟩:=hb
  have hex:∀ {k:Nat} {o:Obj},w.heap[k]?=some o→w'.heap[k]?=w.heap[k]?:=fun hk=>by rw[h.get hk,hk]
  refine⟨q,cap,h1,h2,h3.imp (fun _ _ _ h=>h) ?_,h4.imp id fun h4=>h4.ext h,cs,t,h.get h5⟩
  obtain⟨cells,t',_,g1,_⟩:=h3
  exact hex g1
theorem MInv.tabs {P:Program}{C:Ctx}{ω:Nat→Option Loc}{w0 w:World}{C0:Ctx}{hp:zb}(m:MInv P C ω w0 C0 hp w):Tabs P w:=
 m.base.1.same m.size fun g hg=>m.frame g (m.base.1 g hg).1 (m.base.2 g hg).1 (m.base.2 g hg).2
theorem MInv.ext {P:Program}{C:Ctx}{ω:Nat→Option Loc}{w0 w w':World}{C0:Ctx}{hp:zb}(h:Ext w w')(m:MInv P C ω w0 C0 hp w):MInv P C ω w0 C0 hp w' where
 base:=m.base
 know r o v hk:=h.cell (m.know r o v hk)
 kone:=m.kone
 apart:=m.apart
 inj:=m.inj
 lt b r hb:=⟨Nat.lt_of_lt_of_le (m.lt b r hb).1 h.size,(m.lt b r hb).2⟩
 size:=Nat.le_trans m.size h.size
 frame r hr hn hw:=by rw[h.same r (Nat.lt_of_lt_of_le hr m.size)];exact m.frame r hr hn hw
 dfr r hr:=h.get (m.dfr r hr)
 os:=h.os.trans m.os
 output:=h.output.trans m.output
 fresh:=m.fresh
 grown:=m.grown
 old:=m.old
 box b x r hx hb:=(m.box b x r hx hb).ext h
 tlt q hq:=Nat.lt_of_lt_of_le (m.tlt q hq) h.size
theorem EnvRel.ext {C:Ctx}{ω:Nat→Option Loc}{w w':World}{B:Nat}{e:Env}{tmps:Array Value}(h:Ext w w')(he:EnvRel C ω w B e tmps):EnvRel C ω w' B e tmps:=
 fun s x hx=>let ⟨v,a,b,d⟩:=he s x hx; ⟨v,a,b,fun e=>(d e).ext h⟩
def Ctx.put (C:Ctx)(r off:Nat)(vs:List Value):Ctx:={ C with K:=fun b o=>if b=r∧off≤o∧o<off+vs.length then vs[o-off]? else C.K b o }
theorem Ctx.put_le {C:Ctx}{r off:Nat}(vs:List Value)(h:∀o,off≤o→C.K r o=none):C.le (C.put r off vs):=
 ⟨fun b o v hk=>(by
  simp only[Ctx.put]
  rw[if_neg]
  ·exact hk
  ·rintro ⟨rfl,h1,_⟩;rw[h o h1]at hk;cases hk),fun _ _ h=>h,rfl,fun _ h=>h,fun _ h=>h⟩
theorem Ctx.put_at {C:Ctx}{r off:Nat}{vs:List Value}{j:Nat}{v:Value}(h:vs[j]?=some v):(C.put r off vs).K r (off+j)=some v:=by
 have hj:j<vs.length:=(List.getElem?_eq_some_iff.1 h).1
 show(if r=r∧off≤off+j∧off+j<off+vs.length then vs[off+j-off]? else C.K r (off+j))=some v
 rw[if_pos ⟨rfl,by omega,by omega⟩,show off+j-off=j from by omega,h]
theorem RepC.of_vals {C:Ctx}{r:Nat}{xs:List qa}:∀ {vs:List Value} {o:Nat},RepL C xs vs→(∀j v,vs[j]?=some v→C.K r (o+j)=some v)→RepC C r xs o:=by
 induction xs with
 |nil=>intro vs o _ _;exact .cnil _ _
 |cons x xs ih=>
  intro vs o h hk
  cases h with
  |cons _ _ v vs hx h=>
   refine .ccons _ _ _ _ v (by simpa using hk 0 v rfl) hx (ih h ?_)
   intro j u hj
   rw[show o+1+j=o+(j+1)from by omega]
   exact hk (j+1) u (by simpa using hj)
theorem Ctx.put_cells {C:Ctx}{r off:Nat}{xs:List qa}{vs:List Value}(hn:∀o,off≤o→C.K r o=none)(h:RepL C xs vs):RepC (C.put r off vs) r xs off:=
 RepC.of_vals (qo.mono (Ctx.put_le vs hn) h) fun _ _ hj=>Ctx.put_at hj
theorem MInv.K_new {P:Program}{C:Ctx}{ω:Nat→Option Loc}{w0 w:World}{C0:Ctx}{hp:zb}(m:MInv P C ω w0 C0 hp w)(r:Nat)(hr:w.heap.size≤r)(o:Nat):C.K r o=none:=by
 cases h:C.K r o with
 |none=>rfl
 |some v=>
  have:=m.know r o v h
  unfold World.cell? at this
  rw[show w.heap[(⟨r,o,none⟩:Addr).block]?=none from Array.getElem?_eq_none hr]at this
  cases this
theorem OwnV.put {C:Ctx}{ω:Nat→Option Loc}{w:World}{B r off:Nat}{ℓ:Loc}{x:qa}{v:Value}(vs:List Value)(hr:w.heap.size≤r∨ω r≠some ℓ)(ho:OwnV C ω w B ℓ x v):OwnV (C.put r off vs) ω w B ℓ x v:=by
 unfold OwnV at *
 split at ho
 ·rename_i a len cap
  obtain⟨h1,h2,h3,h4,h8,⟨cells,elem,h5,h6⟩,h7⟩:=ho
  have hlt:a.block<w.heap.size:=(Array.getElem?_eq_some_iff.1 h5).1
  refine⟨h1,h2,h3,h4,h8,⟨cells,elem,h5,h6⟩,fun o ho=>?_⟩
  simp only[Ctx.put]
  rw[if_neg]
  ·exact h7 o ho
  ·rintro ⟨rfl,_⟩
   rcases hr with hr|hr
   ·omega
   ·exact hr h1
 ·rename_i a
  obtain⟨h1,h2,h3,h4,h8,⟨cells,elem,h5,h6⟩,h7⟩:=ho
  have hlt:a.block<w.heap.size:=(Array.getElem?_eq_some_iff.1 h5).1
  refine⟨h1,h2,h3,h4,h8,⟨cells,elem,h5,h6⟩,fun o ho=>?_⟩
  simp only[Ctx.put]
  rw[if_neg]
  ·exact h7 o ho
  ·rintro ⟨rfl,_⟩
   rcases hr with hr|hr
   ·omega
   ·exact hr h1
 ·trivial
theorem q9.imp {P:Program}{C C':Ctx}(h:(∀r o v,C.K r o=some v→C'.K r o=some v)∧(∀b r,C.β b=some r→C'.β b=some r)){l:jp}{lp:Loop}(k:q9 P C l lp)(hT:∀q,C.T q→C'.T q:=by first|exact fun _ h=>h|exact fun _ h=>False.elim h):q9 P C' l lp:=
 { k with env:=fun s x hx=>let ⟨v,a,b⟩:=k.env s x hx; ⟨v,a,qo.imp h b hT⟩ }
theorem q9.mono {P:Program}{C C':Ctx}(h:C.le C'){l:jp}{lp:Loop}(k:q9 P C l lp):q9 P C' l lp:=k.imp ⟨h.k,h.b⟩ h.t
theorem BoxRel.imp {P:Program}{C C':Ctx}{ω ω':Nat→Option Loc}{w w':World}{B B' b r:Nat}{x:qr}(h:(∀r o v,C.K r o=some v→C'.K r o=some v)∧(∀b r,C.β b=some r→C'.β b=some r))(hw:w'.heap[r]?=w.heap[r]?)
  (ho:∀j y v,OwnV C ω w B (.cell b j) y v→OwnV C' ω' w' B' (.cell b j) y v) (hb:BoxRel P C ω w B b r x) (hT:∀q,C.T q→C'.T q:=by exact fun _ h=>h) (hT':∀x,C'.T x→x.1=r→C.T x:=by exact fun _ h _=>h)
  (hq:∀q n cap,qkw C ω w B b q n cap→w'.heap[q]?=w.heap[q]?:=by exact fun _ _ _ _=>rfl):BoxRel P C' ω' w' B' b r x:=by
 cases x with
 |hole=>exact hb
 |cells cs=>
  obtain⟨vs,elem,h1,h2,h3⟩:=hb
  exact⟨vs,elem,hw.trans h1,h2,fun j c hc=>let ⟨v,a,q,b,d⟩:=h3 j c hc; ⟨v,a,q,qo.imp h b hT,fun e=>ho _ _ _ (d e)⟩⟩
 |map es=>obtain⟨ents,clock,h1,h2⟩:=hb;exact⟨ents,clock,hw.trans h1,h2.imp h hT⟩
 |iter s pos=>exact hw.trans hb
 |loop l=>obtain⟨lp,h1,h2⟩:=hb;exact⟨lp,hw.trans h1,h2.imp h hT⟩
 |bld t e l=>obtain⟨p,v,h1,h2,h3,h4⟩:=hb;exact⟨p,v,hw.trans h1,h2,h3,ho _ _ _ h4⟩
 |dead=>obtain⟨cs,t,h1⟩:=hb;exact⟨cs,t,hw.trans h1⟩
 |vec sz ver xs=>exact VecRel.imp h.1 hT hT' hw (fun q n cap k=>⟨hq q n cap k,ho _ _ _ k⟩) hb
theorem BoxRel.mono {P:Program}{C C':Ctx}{ω ω':Nat→Option Loc}{w:World}{B b r:Nat}{x:qr}(h:C.le C')
  (ho:∀j y v,OwnV C ω w B (.cell b j) y v→OwnV C' ω' w B (.cell b j) y v) (hb:BoxRel P C ω w B b r x) (hT':∀x,C'.T x→x.1=r→C.T x:=by exact fun _ h _=>h):BoxRel P C' ω' w B b r x:=hb.imp ⟨h.k,h.b⟩ rfl ho h.t hT'
theorem MInv.newRow {P:Program}{C:Ctx}{ω:Nat→Option Loc}{w0 w:World}{C0:Ctx}{hp:zb}(m:MInv P C ω w0 C0 hp w)(cells:Array Value)(t:TypeId)(vs:List Value)
  (hv:∀(j:Nat) v,vs[j]?=some v→cells[j]?=some v) (h1:∀v∈vs,v.oneCell'=true):
  MInv P (C.put w.heap.size 0 vs) ω w0 C0 hp (w.alloc (.cells cells t)):=by
 have hx:Ext w (w.alloc (.cells cells t)):=Ext.alloc w _ (fun c t fr h=>by cases h;rfl)
 have m':=m.ext hx
 have hn:∀o,C.K w.heap.size o=none:=m.K_new _ (Nat.le_refl _)
 have hle:=Ctx.put_le (C:=C) (off:=0) vs (fun o _=>hn o)
 refine { m' with know:=?_,kone:=?_,apart:=?_,grown:=Ctx.le_trans m.grown hle,old:=?_,box:=?_ }
 ·intro r o v hk
  simp only[Ctx.put]at hk
  split at hk
  ·rename_i hc
   obtain⟨rfl,_,_⟩:=hc
   simp only[World.cell?]
   rw[qef,if_pos rfl]
   simpa using hv _ _ hk
  ·exact m'.know r o v hk
 ·intro r o v hk
  simp only[Ctx.put]at hk
  split at hk
  ·exact h1 v (List.mem_of_getElem? hk)
  ·exact m.kone r o v hk
 ·intro b r o hb
  have:=(m.lt b r hb).1
  simp only[Ctx.put]
  rw[if_neg (by omega)]
  exact m.apart b r o hb
 ·intro r o hr hw
  have:=m.size
  simp only[Ctx.put]
  rw[if_neg (by omega)]
  exact m.old r o hr hw
 ·intro b x r hx' hb
  exact((m.box b x r hx' hb).mono (ω':=ω) hle fun j y v ho=>ho.put vs (.inl (Nat.le_refl _))).ext hx
theorem EnvRel.put {C:Ctx}{ω:Nat→Option Loc}{w:World}{B:Nat}{e:Env}{tmps:Array Value}{r off:Nat}(vs:List Value)(hr:w.heap.size≤r∨∀s,yl s e≠none→(yl s e).any (·.2)=true→ω r≠some (.slot s))(hn:∀o,off≤o→C.K r o=none)(he:EnvRel C ω w B e tmps):EnvRel (C.put r off vs) ω w B e tmps:=
 fun s x hx=>let ⟨v,a,b,d⟩:=he s x hx; ⟨v,a,qo.mono (Ctx.put_le vs hn) b,fun e=>(d e).put vs (hr.imp id fun h=>h s (by rw[hx];simp) (by rw[hx];exact e))⟩
def own1 (ω:Nat→Option Loc)(r:Nat)(ℓ:Loc):Nat→Option Loc:=fun b=>if b=r then some ℓ else ω b
theorem OwnV.other {C:Ctx}{ω:Nat→Option Loc}{w:World}{B r:Nat}{ℓ ℓ':Loc}{x:qa}{v:Value}(hr:ω r≠some ℓ∨ℓ=ℓ')(ho:OwnV C ω w B ℓ x v):OwnV C (Abs.own1 ω r ℓ') w B ℓ x v:=by
 unfold OwnV at *
 split at ho
 ·rename_i a len cap
  obtain⟨h1,h2⟩:=ho
  refine⟨?_,h2⟩
  simp only[Abs.own1]
  by_cases hb:a.block=r
  ·rw[if_pos hb]
   rcases hr with hr|hr
   ·exact absurd (hb▸h1) hr
   ·rw[hr]
  ·rw[if_neg hb];exact h1
 ·rename_i a
  obtain⟨h1,h2⟩:=ho
  refine⟨?_,h2⟩
  simp only[Abs.own1]
  by_cases hb:a.block=r
  ·rw[if_pos hb]
   rcases hr with hr|hr
   ·exact absurd (hb▸h1) hr
   ·rw[hr]
  ·rw[if_neg hb];exact h1
 ·trivial
theorem OwnV.fresh {C:Ctx}{ω:Nat→Option Loc}{w:World}{B r:Nat}{ℓ ℓ':Loc}{x:qa}{v:Value}(hr:w.heap.size≤r)(ho:OwnV C ω w B ℓ x v):OwnV C (Abs.own1 ω r ℓ') w B ℓ x v:=by
 unfold OwnV at *
 split at ho
 ·rename_i a len cap
  obtain⟨h1,h2,h3,h4,h8,⟨cells,elem,h5,h6⟩,h7⟩:=ho
  have hlt:a.block<w.heap.size:=(Array.getElem?_eq_some_iff.1 h5).1
  refine⟨?_,h2,h3,h4,h8,⟨cells,elem,h5,h6⟩,h7⟩
  simp only[Abs.own1]
  rw[if_neg (by omega)]
  exact h1
 ·rename_i a
  obtain⟨h1,h2,h3,h4,h8,⟨cells,elem,h5,h6⟩,h7⟩:=ho
  have hlt:a.block<w.heap.size:=(Array.getElem?_eq_some_iff.1 h5).1
  refine⟨?_,h2,h3,h4,h8,⟨cells,elem,h5,h6⟩,h7⟩
  simp only[Abs.own1]
  rw[if_neg (by omega)]
  exact h1
 ·trivial
theorem EnvRel.fresh {C:Ctx}{ω:Nat→Option Loc}{w:World}{B r:Nat}{ℓ:Loc}{e:Env}{tmps:Array Value}(hr:w.heap.size≤r)(he:EnvRel C ω w B e tmps):EnvRel C (Abs.own1 ω r ℓ) w B e tmps:=
 fun s x hx=>let ⟨v,a,b,d⟩:=he s x hx; ⟨v,a,b,fun e=>(d e).fresh hr⟩
theorem MInv.fresh1 {P:Program}{C:Ctx}{ω:Nat→Option Loc}{w0 w:World}{C0:Ctx}{hp:zb}(m:MInv P C ω w0 C0 hp w)(r:Nat)(ℓ:Loc)(hr:w.heap.size≤r):MInv P C (Abs.own1 ω r ℓ) w0 C0 hp w:=
 { m with box:=fun b x r' hx hb=>(m.box b x r' hx hb).mono (Ctx.le_refl C) fun _ _ _ ho=>ho.fresh hr }
theorem MInv.own1 {P:Program}{C:Ctx}{ω:Nat→Option Loc}{w0 w:World}{C0:Ctx}{hp:zb}(m:MInv P C ω w0 C0 hp w)(r:Nat)(ℓ:Loc)(hr:∀b j,ω r≠some (.cell b j)):MInv P C (Abs.own1 ω r ℓ) w0 C0 hp w:=
 { m with box:=fun b x r' hx hb=>(m.box b x r' hx hb).mono (Ctx.le_refl C) fun j _ _ ho=>ho.other (.inl (hr b j)) }
end Go.Abs
