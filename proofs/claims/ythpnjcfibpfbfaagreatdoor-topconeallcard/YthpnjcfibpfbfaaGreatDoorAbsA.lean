/- The abstract machine. -/
import Derived.Deep.AppendSrc
import Derived.Lib.LaidTab
import Derived.Lib.ItoaNum
import Derived.WalkSpells
import Derived.Laws.Cover3
set_option linter.unusedVariables false
set_option linter.unusedSimpArgs false
namespace Go.Abs
inductive AVal where
 |bool (b:Bool)
 |int (k:IntKind) (n:Int)
 |str (s:List UInt8)
 |list (isNil:Bool) (sz:Nat) (xs:List AVal)
 |ms (b off len:Nat)
 |ptr (b off:Nat)
 |vptr (v:AVal)
 |nilptr
 |map (b:Nat)
 |nilmap
 |fn (f:Fn) (first captured:List AVal)
 |nilfn
 |agg (cs:List AVal)
 |tup (vs:List AVal)
 |undef
 |any
 |pend (n:Nat)
 |vref (b ver len:Nat)
 |vel (b ver off:Nat)
 deriving Inhabited
inductive qz where
 |tmp (t:Nat)
 |const (v:AVal)
 deriving Inhabited
inductive Kd where
 |int|str|bool
 deriving DecidableEq,Inhabited
inductive CMode where
 |iso|frz (r:Nat)|shr|red
 deriving DecidableEq,Inhabited
inductive AOp where
 |move (x:qz)
 |take (s:Nat)
 |pick (c a b:qz)
 |alloc (r:Nat) (zero:List AVal)
 |box (r n:Nat) (x:qz)
 |vbox (n:Nat) (x:qz)
 |valloc (n:Nat)
 |vstore (n s:Nat) (x:qz)
 |bld (r t e:Nat)
 |build (zero:List AVal) (parts:List (Nat×Nat×qz))
 |buildSlice (sz len:Nat) (zero:List AVal) (parts:List (Nat×qz))
 |load (agg:Bool) (n:Nat) (x:qz)
 |vload (agg:Bool) (n:Nat) (x:qz)
 |loadTake (off:Option Nat) (x:qz)
 |store (n:Nat) (a v:qz)
 |nilCheck (x:qz)
 |bin (op:BinOp) (x y:qz)
 |eqs (ks:List Kd) (neq:Bool) (x y:qz)
 |beq (neq:Bool) (x y:qz)
 |nilEq (k:Nat) (neq:Bool) (x:qz)
 |un (op:UnOp) (x:qz)
 |conv (k:IntKind) (x:qz)
 |convStr (x:qz)
 |field (agg:Bool) (off n:Nat) (x:qz)
 |index (agg:Bool) (len n:Nat) (x i:qz)
 |strIndex (x i:qz)
 |fieldAddr (agg:Bool) (off n:Nat) (x:qz)
 |indexAddr (sz:Nat) (x i:qz)
 |indexArr (agg:Bool) (len sz:Nat) (x i:qz)
 |slice (sz:Nat) (x:qz) (lo hi:Option qz)
 |strSlice (x:qz) (lo hi:Option qz)
 |sliceArr (len sz:Nat) (x:qz) (lo hi:Option qz)
 |mkfunc (f:Fn) (first captured:List qz)
 |mkmap (r:Nat)
 |lookup (kd:Kd) (zero:AVal) (ok:Bool) (m k:qz)
 |mapUpdate (kd:Kd) (m k v:qz)
 |delete (kd:Kd) (m k:qz)
 |mkslice (r:Option Nat) (sz bytes:Nat) (zero:List AVal) (n c:qz)
 |len (k:Nat) (x:qz)
 |append (r:Option Nat) (sz bytes:Nat) (x y:qz)
 |vapp (r sz bytes:Nat) (x y:qz)
 |vlit (r sz len:Nat) (zero:List AVal) (parts:List (Nat×qz))
 |copy (sz:Nat) (x y:qz)
 |mx (args:List qz)
 |mn (args:List qz)
 |extract (x:qz) (i:Nat)
 |call (md:CMode) (f:qz) (args:List qz)
 |srange (r:Nat) (x:qz)
 |snext (it:qz)
 |bad
 deriving Inhabited
structure AOper where
 dst:Option Nat
 op:AOp
 guard:Option (Nat×Bool)
 al:Option (List Nat)
 deriving Inhabited
inductive ACode where
 |skip
 |region (na:Nat) (ops:List AOper) (keep:Option (List Nat))
 |seq (a b:ACode)
 |cond (c:qz) (a b:ACode)
 |block (id:Nat) (body:ACode)
 |loop (body:ACode)
 |rangeFunc (f:qz) (params:List Nat) (assign body:ACode)
 |exit (id:Nat)
 |ret
 |grow (sz:Nat)
 |stuck
 deriving Inhabited
abbrev Env:=List (Nat×AVal×Bool)
inductive jo where
 |normal
 |exit (id:Nat)
 |ret
 deriving DecidableEq,Inhabited
structure qxh where
 env:Env
 params:List Nat
 assign:ACode
 body:ACode
 pending:Option jo
 deriving Inhabited
def jr:ACode→Bool
 | .seq a b=>jr a&&jr b
 | .cond _ a b=>jr a&&jr b
 | .block _ b=>jr b
 | .loop b=>jr b
 | .rangeFunc ..=>false
 |_=>true
def noOwn (e:Env):Env:=e.map fun x=>(x.1,x.2.1,false)
inductive ABox where
 |hole
 |cells (cs:List (AVal×Bool))
 |map (es:List (AVal×AVal))
 |iter (s:List UInt8) (pos:Nat)
 |loop (l:qxh)
 |bld (t e:Nat) (l:List UInt8)
 |dead
 |vec (sz ver:Nat) (xs:List AVal)
 deriving Inhabited
abbrev qi:=List ABox
structure ASt where
 env:Env
 heap:qi
 deriving Inhabited
inductive qcl where
 |tmp (t:Nat)
 |cell (t:Nat) (agg:Bool) (n:Nat)
 deriving Inhabited
structure qx where
 ntmps:Nat
 body:ACode
 results:List qcl
 deriving Inhabited
abbrev qff:=Nat→Option (List AVal→Option (AVal×Bool))
abbrev qz7:=Nat→Option (List AVal→qi→Option (AVal×Bool×qi))
abbrev qvc:=Nat→Option (List (AVal×AVal))
structure je where
 fns:Nat→Option qx
 prims:qff
 sprims:qz7:=fun _=>none
 maps:qvc:=fun _=>none
def qv (t:Nat):Env→Option (AVal×Bool)
 | []=>none
 |(s,x)::e=>bif Nat.beq s t then some x else qv t e
def qe (e:Env):qz→Option AVal
 | .tmp t=>match qv t e with
  |some x=>some x.1
  |none=>none
 | .const v=>some v
def zw (e:Env):List qz→Option (List AVal)
 | []=>some []
 |x::xs=>match qe e x with
  |some v=>match zw e xs with
   |some vs=>some (v::vs)
   |none=>none
  |none=>none
def qak (e:Env):List Nat→Env
 | []=>[]
 |t::ts=>match qv t e with
  |some x=>(t,x)::qak e ts
  |none=>qak e ts
def qbg:IntKind→Int→Bool
 | .i64,.ofNat m=>Nat.ble m 9223372036854775807
 | .i64,.negSucc m=>Nat.ble m 9223372036854775807
 | .i32,.ofNat m=>Nat.ble m 2147483647
 | .i32,.negSucc m=>Nat.ble m 2147483647
 | .i16,.ofNat m=>Nat.ble m 32767
 | .i16,.negSucc m=>Nat.ble m 32767
 | .i8,.ofNat m=>Nat.ble m 127
 | .i8,.negSucc m=>Nat.ble m 127
 | .u64,.ofNat m=>Nat.ble m 18446744073709551615
 | .u32,.ofNat m=>Nat.ble m 4294967295
 | .u16,.ofNat m=>Nat.ble m 65535
 | .u8,.ofNat m=>Nat.ble m 255
 |_,.negSucc _=>false
def qa (k:IntKind)(n:Int):Int:=bif qbg k n then n else k.wrap n
def AVal.flat:AVal→List AVal
 | .agg cs=>cs
 |v=>[v]
def AVal.isAgg:AVal→Bool
 | .agg _=>true
 |_=>false
def AVal.isList:AVal→Bool
 | .list ..=>true
 |_=>false
def yu:Kd→AVal→AVal→Option Bool
 | .int,.int k a,.int k' b=>bif decide (k=k')then some (a == b)else none
 | .str,.str a,.str b=>some (a == b)
 | .bool,.bool a,.bool b=>some (a == b)
 |_,_,_=>none
def zg:List Kd→List AVal→List AVal→Option Bool
 | [],[],[]=>some true
 |k::ks,x::xs,y::ys=>match yu k x y with
  |some true=>zg ks xs ys
  |some false=>some false
  |none=>none
 |_,_,_=>none
def part (agg:Bool)(cs:List AVal)(off n:Nat):Option AVal:=
 bif agg then(bif Nat.ble (off+n) cs.length then some (.agg ((cs.drop off).take n))else none)else cs[off]?
def bytesLess:List UInt8→List UInt8→Bool
 |_,[]=>false
 | [],_::_=>true
 |a::x,b::y=>a<b||(a == b&&bytesLess x y)
def kf (op:BinOp)(k:IntKind)(x y:Int):Option AVal:=
 match op with
 | .add=>some (.int k (qa k (x+y)))
 | .sub=>some (.int k (qa k (x-y)))
 | .mul=>some (.int k (qa k (x*y)))
 | .quo=>bif y == 0 then none else some (.int k (qa k (x.tdiv y)))
 | .rem=>bif y == 0 then none else some (.int k (x.tmod y))
 | .eql=>some (.bool (x == y))
 | .neq=>some (.bool (x != y))
 | .lss=>some (.bool (decide (x<y)))
 | .leq=>some (.bool (decide (x≤y)))
 | .gtr=>some (.bool (decide (x > y)))
 | .geq=>some (.bool (decide (x≥y)))
 | .and=>some (.int k (k.wrap (BitVec.ofInt k.bits x &&& BitVec.ofInt k.bits y).toNat))
 | .or=>some (.int k (k.wrap (BitVec.ofInt k.bits x ||| BitVec.ofInt k.bits y).toNat))
 | .xor=>some (.int k (k.wrap (BitVec.ofInt k.bits x ^^^ BitVec.ofInt k.bits y).toNat))
 | .andNot=>some (.int k (k.wrap (BitVec.ofInt k.bits x &&& ~~~BitVec.ofInt k.bits y).toNat))
 |_=>none
def qb3 (op:BinOp)(k:IntKind)(x y:Int):Option AVal:=
 bif decide (y<0)then none else
 match op with
 | .shl=>some (.int k (qa k (x*2^(min y.toNat k.bits))))
 | .shr=>some (.int k (x.fdiv (2^(min y.toNat k.bits))))
 |_=>none
def qnr (op:BinOp)(x y:List UInt8):Option AVal:=
 match op with
 | .add=>bif Nat.ble (x.length+y.length) 4611686018427387904 then some (.str (x++y))else none
 | .eql=>some (.bool (x == y))
 | .neq=>some (.bool !(x == y))
 | .lss=>some (.bool (bytesLess x y))
 | .leq=>some (.bool (bytesLess x y||x == y))
 | .gtr=>some (.bool !(bytesLess x y||x == y))
 | .geq=>some (.bool !(bytesLess x y))
 |_=>none
def jw (op:BinOp):AVal→AVal→Option AVal
 | .int k x,.int k' y=>match op with
  | .shl=>qb3 .shl k x y
  | .shr=>qb3 .shr k x y
  |op=>bif decide (k=k')then kf op k x y else none
 | .str x,.str y=>qnr op x y
 |_,_=>none
def qe7:UnOp→AVal→Option AVal
 | .neg,.int k n=>some (.int k (qa k (0-n)))
 | .not,.bool b=>some (.bool !b)
 |_,_=>none
def max2:AVal→AVal→Option AVal
 | .int k x,.int k' y=>bif decide (k=k')then some (.int k (if y > x then y else x))else none
 |_,_=>none
def min2:AVal→AVal→Option AVal
 | .int k x,.int k' y=>bif decide (k=k')then some (.int k (if y<x then y else x))else none
 |_,_=>none
def qbc (f:AVal→AVal→Option AVal):AVal→List AVal→Option AVal
 |x,[]=>some x
 |x,y::ys=>match f x y with
  |some z=>qbc f z ys
  |none=>none
def kg:List AVal→List (Nat×List AVal)→Option (List AVal)
 |cs,[]=>some cs
 |cs,(off,vs)::rest=>bif Nat.ble (off+vs.length) cs.length then kg (cs.take off++vs++cs.drop (off+vs.length)) rest else none
def qf:AVal→Bool
 | .agg _=>false
 | .tup _=>false
 | .undef=>false
 | .any=>false
 |_=>true
def zo (e:Env):List (Nat×Nat×qz)→Option (List (Nat×List AVal))
 | []=>some []
 |(off,n,x)::ps=>match qe e x with
  |some v=>bif Nat.beq v.flat.length n&&v.flat.all qf then
    (match zo e ps with
     |some r=>some ((off,v.flat)::r)
     |none=>none)else none
  |none=>none
def qaa (xs:List AVal):List (Nat×AVal)→Option (List AVal)
 | []=>some xs
 |(i,v)::ps=>bif Nat.blt i xs.length then qaa (xs.set i v) ps else none
def jy (e:Env)(sz:Nat):List (Nat×qz)→Option (List (Nat×AVal))
 | []=>some []
 |(i,x)::ps=>match qe e x with
  |some v=>bif Nat.beq v.flat.length sz&&v.flat.all qf then
   (match jy e sz ps with
    |some r=>some ((i,v)::r)
    |none=>none)else none
  |none=>none
def q1u (zero:List AVal)(agg:Bool):Option AVal:=
 bif agg then some (.agg zero)else match zero with
  | [z]=>some z
  |_=>none
def jl (h:qi)(b:Nat):Option ABox:=h[b]?
def ja (h:qi)(b:Nat):Option (List (AVal×Bool)):=
 match h[b]? with
 |some (.cells cs)=>some cs
 |_=>none
def zc (cs:List (AVal×Bool))(off n:Nat):Option (List AVal):=
 bif Nat.ble (off+n) cs.length then some (((cs.drop off).take n).map (·.1))else none
def zn (cs:List (AVal×Bool))(off:Nat)(vs:List AVal):Option (List (AVal×Bool)):=
 bif Nat.ble (off+vs.length) cs.length&&vs.all qf then some (cs.take off++vs.map (·,false)++cs.drop (off+vs.length))else none
mutual
def below (n:Nat):AVal→Bool
 | .ms b _ _=>Nat.blt b n
 | .ptr b _=>Nat.blt b n
 | .map b=>Nat.blt b n
 | .vref b _ _=>Nat.blt b n
 | .vel b _ _=>Nat.blt b n
 | .vptr v=>below n v
 | .list _ _ xs=>qo n xs
 | .agg cs=>qo n cs
 | .tup vs=>qo n vs
 | .fn (.yield b) first captured=>Nat.blt b n&&qo n first&&qo n captured
 | .fn _ first captured=>qo n first&&qo n captured
 |_=>true
def qo (n:Nat):List AVal→Bool
 | []=>true
 |x::xs=>below n x&&qo n xs
end
def yd (n:Nat):Env→Bool
 | []=>true
 |(_,v,_)::e=>below n v&&yd n e
def ku (n:Nat):List (AVal×Bool)→Bool
 | []=>true
 |(v,_)::e=>below n v&&ku n e
def y8 (n:Nat):List (AVal×AVal)→Bool
 | []=>true
 |(k,v)::e=>below n k&&below n v&&y8 n e
def qag (n:Nat):ABox→Bool
 | .hole=>true
 | .cells cs=>ku n cs
 | .map es=>y8 n es
 | .iter _ _=>true
 | .bld ..=>true
 | .dead=>true
 | .vec ..=>true
 | .loop l=>yd n l.env
def js (n:Nat):qi→Bool
 | []=>true
 |b::h=>qag n b&&js n h
def gc (n:Nat)(st:ASt):ASt:=
 bif Nat.ble st.heap.length n then st
 else bif yd n st.env&&js n (st.heap.take n)then { st with heap:=st.heap.take n }else st
def qa0 (v:AVal):Bool:=below 0 v
def qp9 (agg:Bool)(sz:Nat):Nat→List AVal→Option (List AVal)
 |0,_=>some []
 |n+1,cs=>bif Nat.ble sz cs.length then
   (match q1u (cs.take sz) agg with
    |some v=>(match qp9 agg sz n (cs.drop sz)with
     |some r=>some (v::r)
     |none=>none)
    |none=>none)else none
def qaj (sz:Nat):Nat→List AVal→List AVal
 |0,_=>[]
 |n+1,cs=>(bif Nat.beq sz 1 then cs.headD .undef else .agg (cs.take sz))::qaj sz n (cs.drop sz)
def jbx:AVal→Bool
 | .str _=>true
 | .list ..=>true
 |_=>false
def qu2 (off len:Nat)(cs:List (AVal×Bool)):Bool:=Nat.beq off 0&&Nat.blt 1 (cs.length / len)&&Nat.beq (len*(cs.length / len)) cs.length&&cs.any (fun c=>jbx c.1)
def yv (h:qi):AVal→Option AVal
 | .ms b off len=>match ja h b with
  |some cs=>bif qu2 off len cs then some (.list false (cs.length / len) (qaj (cs.length / len) len (cs.map (·.1))))else(match zc cs off len with
   |some vs=>some (.list false 1 vs)
   |none=>none)
  |none=>none
 | .vref b ver len=>match h[b]? with
  |some (.vec sz ver' xs)=>bif Nat.beq ver ver'&&Nat.ble len xs.length then some (.list false sz (xs.take len))else none
  |_=>none
 |v=>some v
def yz (h:qi):List AVal→Option (List AVal)
 | []=>some []
 |v::vs=>match yv h v with
  |some x=>(match yz h vs with
   |some xs=>some (x::xs)
   |none=>none)
  |none=>none
def freezeR (h:qi):AVal→Option AVal
 | .agg cs=>match yz h cs with
  |some xs=>some (.agg xs)
  |none=>none
 | .tup vs=>match freezeT h vs with
  |some xs=>some (.tup xs)
  |none=>none
 |v=>yv h v
where
 freezeT (h:qi):List AVal→Option (List AVal)
  | []=>some []
  | .agg cs::vs=>match yz h cs with
   |some x=>(match freezeT h vs with
    |some xs=>some (.agg x::xs)
    |none=>none)
   |none=>none
  |v::vs=>match yv h v with
   |some x=>(match freezeT h vs with
    |some xs=>some (x::xs)
    |none=>none)
   |none=>none
def jj (kd:Kd)(k:AVal):List (AVal×AVal)→Nat→Option (Option (Nat×AVal))
 | [],_=>some none
 |(k',v)::es,i=>match yu kd k k' with
  |some true=>some (some (i,v))
  |some false=>jj kd k es (i+1)
  |none=>none
def qam (s:List UInt8)(i:Nat):Nat×Nat:=Utf8.decode ⟨⟨s⟩⟩ i
structure ORes where
 v:AVal
 own:Bool
 strip:Option Nat
 heap:qi
def exl (l:List Nat):Bool:=match l with
 | []=>false
 |k::_=>Nat.ble 1000 k
def exq (h0:Nat)(l:List Nat)(b:Nat):Bool:=match l with
 | []=>false
 |k::_=>bif Nat.blt k 2000 then Nat.beq b (k-1000)&&Nat.blt b h0 else bif Nat.blt k 4000 then Nat.beq b (h0+(k-2000))else Nat.blt b h0
def jf (h0:Nat)(al:Option (List Nat))(b:Nat):Bool:=
 match al with
 |none=>true
 |some l=>bif exl l then exq h0 l b else(Nat.blt b h0||l.contains (b-h0))
def qbx (al:Option (List Nat)):Bool:=
 match al with
 |some (k::_)=>Nat.ble 4000 k
 |_=>false
def qbv (h0:Nat)(al:Option (List Nat))(b:Nat):Bool:=jf h0 al b&&!(qbx al)
def jb (h:qi)(b:Nat)(x:ABox):Option qi:=bif Nat.blt b h.length then some (h.set b x)else none
def newBox (h0:Nat)(h:qi)(r:Nat)(x:ABox):Option qi:=
 match h[h0+r]? with
 |some .hole=>some (h.set (h0+r) x)
 |_=>none
def val (h:qi)(v:AVal):Option ORes:=some ⟨v,false,none,h⟩
def y9 (h:qi):Option AVal→Option ORes
 |some v=>some ⟨v,false,none,h⟩
 |none=>none
def idx (n:Nat):AVal→Option Nat
 | .int _ (.ofNat i)=>bif Nat.blt i n then some i else none
 |_=>none
def qr1 (n:Nat):AVal→Option Nat
 | .int _ (.ofNat i)=>bif Nat.ble i n then some i else none
 |_=>none
def bnd (e:Env)(dflt n:Nat):Option qz→Option Nat
 |none=>some dflt
 |some x=>match qe e x with
  |some v=>qr1 n v
  |none=>none
def jn (e:Env):qz→Option Nat
 | .tmp t=>match qv t e with
  |some (_,true)=>some t
  |_=>none
 |_=>none
def jx (sz:Nat):AVal→Option (List AVal)
 | .list _ sy ys=>bif Nat.beq sz sy||ys.isEmpty then some ys else none
 | .str s=>bif Nat.beq sz 1 then some (s.map fun(c:UInt8)=>AVal.int .u8 c.toNat)else none
 |_=>none
def qeb (n:Bool)(sz:Nat)(xs ys:List AVal):AVal:=bif n&&ys.isEmpty then .list true 0 []else .list false sz (xs++ys)
def qg (e:Env)(h:qi):AOp→Option ORes
 | .move x=>y9 h (qe e x)
 | .take s=>match qv s e with
  |some (v,o)=>some ⟨v,o,some s,h⟩
  |none=>none
 | .pick c a b=>match qe e c with
  |some (.bool t)=>(match qe e a,qe e b with
    |some x,some y=>val h (bif t then x else y)
    |_,_=>none)
  |_=>none
 | .vbox n x=>match qe e x with
  |some v=>bif Nat.beq v.flat.length n&&v.flat.all qf then val h (.vptr v)else none
  |none=>none
 | .build zero parts=>match zo e parts with
  |some ps=>match kg zero ps with
   |some cs=>val h (.agg cs)
   |none=>none
  |none=>none
 | .buildSlice sz len zero parts=>match jy e sz parts with
  |some ps=>match qaa (List.replicate len (bif Nat.beq sz 1 then zero.headD .undef else .agg zero)) ps with
   |some xs=>some ⟨.list false sz xs,true,none,h⟩
   |none=>none
  |none=>none
 | .valloc n=>some ⟨.pend n,true,none,h⟩
 | .vstore n s x=>match qv s e,qe e x with
  |some (.pend m,true),some v=>bif Nat.beq m n&&Nat.beq v.flat.length n&&v.flat.all qf then val h (.vptr v)else none
  |_,_=>none
 | .vload agg n x=>match qe e x with
  |some (.vptr v)=>bif Bool.xor agg v.isAgg||!(Nat.beq v.flat.length n)then none else val h v
  |_=>none
 | .nilCheck x=>match qe e x with
  |some (.ptr b o)=>val h (.ptr b o)
  |some (.vptr v)=>val h (.vptr v)
  |some (.fn (.func f) a b)=>val h (.fn (.func f) a b)
  |_=>none
 | .bin op x y=>match qe e x,qe e y with
  |some a,some b=>y9 h (jw op a b)
  |_,_=>none
 | .eqs ks neq x y=>match qe e x,qe e y with
  |some (.agg a),some (.agg b)=>bif Nat.beq a.length ks.length&&Nat.beq b.length ks.length then(match zg ks a b with
   |some t=>val h (.bool (bif neq then !t else t))
   |none=>none)else none
  |_,_=>none
 | .beq neq x y=>match qe e x,qe e y with
  |some (.bool a),some (.bool b)=>val h (.bool (bif neq then !(a == b)else a == b))
  |_,_=>none
 | .nilEq k neq x=>match k,qe e x with
  |0,some (.list n _ _)=>val h (.bool (bif neq then !n else n))
  |0,some (.ms ..)=>val h (.bool neq)
  |1,some .nilptr=>val h (.bool (!neq))
  |1,some (.ptr ..)=>val h (.bool neq)
  |1,some (.vptr ..)=>val h (.bool neq)
  |2,some .nilmap=>val h (.bool (!neq))
  |2,some (.map ..)=>val h (.bool neq)
  |3,some .nilfn=>val h (.bool (!neq))
  |3,some (.fn ..)=>val h (.bool neq)
  |_,_=>none
 | .un op x=>match qe e x with
  |some v=>y9 h (qe7 op v)
  |none=>none
 | .conv k x=>match qe e x with
  |some (.int _ n)=>val h (.int k (qa k n))
  |_=>none
 | .convStr x=>match qe e x with
  |some (.str s)=>val h (.str s)
  |some (.int _ n)=>val h (.str (Utf8.encode n).data.toList)
  |_=>none
 | .field agg off n x=>match qe e x with
  |some (.agg cs)=>y9 h (part agg cs off n)
  |_=>none
 | .index agg len n x i=>match qe e x,qe e i with
  |some (.agg cs),some j=>(match idx len j with
   |some j=>y9 h (part agg cs (j*n) n)
   |none=>none)
  |_,_=>none
 | .strIndex x i=>match qe e x,qe e i with
  |some (.str s),some j=>(match idx s.length j with
   |some j=>(match s[j]? with
    |some c=>val h (.int .u8 c.toNat)
    |none=>none)
   |none=>none)
  |_,_=>none
 | .fieldAddr agg off n x=>match qe e x with
  |some (.ptr b o)=>val h (.ptr b (o+off))
  |some (.vptr (.agg cs))=>(match part agg cs off n with
   |some v=>bif Bool.xor agg v.isAgg then none else val h (.vptr v)
   |none=>none)
  |some (.vel b ver o)=>val h (.vel b ver (o+off))
  |_=>none
 | .indexAddr sz x i=>match qe e x,qe e i with
  |some (.list _ sz' xs),some j=>bif Nat.beq sz sz'||xs.isEmpty then(match idx xs.length j with
   |some j=>(match xs[j]? with
    |some v=>val h (.vptr v)
    |none=>none)
   |none=>none)else none
  |some (.ms b o len),some j=>(match idx len j with
   |some j=>val h (.ptr b (o+j*sz))
   |none=>none)
  |some (.vref b ver len),some j=>(match idx len j with
   |some j=>val h (.vel b ver (j*sz))
   |none=>none)
  |_,_=>none
 | .indexArr agg len sz x i=>match qe e x,qe e i with
  |some (.ptr b o),some j=>(match idx len j with
   |some j=>val h (.ptr b (o+j*sz))
   |none=>none)
  |some (.vptr (.agg cs)),some j=>(match idx len j with
   |some j=>(match part agg cs (j*sz) sz with
    |some v=>bif Bool.xor agg v.isAgg then none else val h (.vptr v)
    |none=>none)
   |none=>none)
  |_,_=>none
 | .slice sz x lo hi=>match qe e x with
  |some (.list n sz' xs)=>bif Nat.beq sz sz'||xs.isEmpty then(match bnd e xs.length xs.length hi with
   |some j=>(match bnd e 0 j lo with
    |some i=>val h (.list n sz' ((xs.take j).drop i))
    |none=>none)
   |none=>none)else none
  |some (.ms b o len)=>(match bnd e len len hi with
   |some j=>(match bnd e 0 j lo with
    |some i=>bif Nat.beq i 0||Nat.blt i j then val h (.ms b (o+i*sz) (j-i))else none
    |none=>none)
   |none=>none)
  |some (.vref b ver len)=>(match bnd e len len hi with
   |some j=>(match bnd e 0 j lo with
    |some i=>bif Nat.beq i 0 then val h (.vref b ver j)else none
    |none=>none)
   |none=>none)
  |_=>none
 | .strSlice x lo hi=>match qe e x with
  |some (.str s)=>(match bnd e s.length s.length hi with
   |some j=>(match bnd e 0 j lo with
    |some i=>val h (.str ((s.take j).drop i))
    |none=>none)
   |none=>none)
  |_=>none
 | .sliceArr len sz x lo hi=>match qe e x with
  |some (.ptr b o)=>(match bnd e len len hi with
   |some j=>(match bnd e 0 j lo with
    |some i=>bif Nat.beq i 0||Nat.blt i j then val h (.ms b (o+i*sz) (j-i))else none
    |none=>none)
   |none=>none)
  |_=>none
 | .mkfunc f first captured=>match zw e first,zw e captured with
  |some a,some b=>val h (.fn f a b)
  |_,_=>none
 | .len k x=>match k,qe e x with
  |1,some (.list _ _ xs)=>val h (.int .i64 xs.length)
  |1,some (.ms _ _ n)=>val h (.int .i64 n)
  |1,some (.vref _ _ n)=>val h (.int .i64 n)
  |2,some (.list true _ _)=>val h (.int .i64 0)
  |0,some (.str s)=>val h (.int .i64 s.length)
  |_,_=>none
 | .append none sz bytes x y=>match qe e x,qe e y with
  |some (.list n sz' xs),some vy=>
   bif n||(jn e x).isSome then
    (match jx sz vy with
     |some ys=>
      bif (Nat.beq sz sz'||(xs.isEmpty&&n))&&Nat.ble (xs.length+ys.length) 1073741824&&Nat.ble bytes 4096&&Nat.blt 0 sz then
       some ⟨qeb n sz xs ys,true,jn e x,h⟩
      else none
     |none=>none)
   else none
  |_,_=>none
 | .mkslice none sz bytes zero n c=>match qe e n,qe e c with
  |some (.int .i64 (.ofNat n)),some (.int .i64 (.ofNat c))=>
   bif Nat.beq n c&&Nat.ble n 1073741824&&Nat.ble bytes 4096&&Nat.beq zero.length sz&&Nat.blt 0 sz&&zero.all qf then
    some ⟨.list false sz (List.replicate n (bif Nat.beq sz 1 then zero.headD .undef else .agg zero)),true,none,h⟩else none
  |_,_=>none
 | .mx args=>match zw e args with
  |some (v::vs)=>y9 h (qbc max2 v vs)
  |_=>none
 | .mn args=>match zw e args with
  |some (v::vs)=>y9 h (qbc min2 v vs)
  |_=>none
 | .extract x i=>match qe e x with
  |some (.tup vs)=>y9 h vs[i]?
  |_=>none
 |_=>none
def qaw (es:List (AVal×AVal))(i:Nat)(v:AVal):List (AVal×AVal):=
 match es,i with
 | [],_=>[]
 |(k,_)::r,0=>(k,v)::r
 |x::r,i+1=>x::qaw r i v
def j0 (h0:Nat)(al:Option (List Nat))(e:Env)(h:qi):AOp→Option ORes
 | .load agg n x=>match qe e x with
  |some (.ptr b o)=>bif jf h0 al b then(match ja h b with
   |some cs=>(match zc cs o n with
    |some vs=>bif agg then val h (.agg vs)else(match vs with
     | [v]=>val h v
     |_=>none)
    |none=>none)
   |none=>none)else none
  |some (.vptr v)=>bif Bool.xor agg v.isAgg||!(Nat.beq v.flat.length n)then none else val h v
  |some (.vel b ver o)=>bif qbv h0 al b then(match jl h b with
   |some (.vec _ ver' xs)=>bif Nat.beq ver ver'&&Nat.ble (o+n) (xs.flatMap AVal.flat).length then(bif agg then val h (.agg (((xs.flatMap AVal.flat).drop o).take n))else(match((xs.flatMap AVal.flat).drop o).take n with
     | [v]=>val h v
     |_=>none))else none
   |_=>none)else none
  |_=>none
 | .lookup kd zero ok m k=>match qe e m,qe e k with
  |some (.map b),some kv=>bif jf h0 al b then(match jl h b with
   |some (.map es)=>(match jj kd kv es 0 with
    |some (some (_,v))=>val h (bif ok then .tup [v,.bool true]else v)
    |some none=>val h (bif ok then .tup [zero,.bool false]else zero)
    |none=>none)
   |_=>none)else none
  |some .nilmap,some _=>val h (bif ok then .tup [zero,.bool false]else zero)
  |_,_=>none
 | .len _ x=>match qe e x with
  |some (.map b)=>bif jf h0 al b then(match jl h b with
   |some (.map es)=>val h (.int .i64 es.length)
   |_=>none)else none
  |some .nilmap=>val h (.int .i64 0)
  |_=>none
 |_=>none
def qno (es:List (AVal×AVal)):Option (Nat×AVal)→List (AVal×AVal)
 |some (i,_)=>es.eraseIdx i
 |none=>es
def qde:Option Nat→Nat→Bool
 |none,_=>true
 |some a,o=>Nat.beq a o
def qh9 (sz len:Nat):AVal→Option (Nat×List AVal)
 | .list _ sy ys=>bif Nat.beq sz sy||ys.isEmpty then some (min ys.length len,(ys.take len).flatMap AVal.flat)else none
 |_=>none
def cellsOf (vs:List AVal):List (AVal×Bool):=vs.map (·,false)
def qj (h0:Nat)(al:Option (List Nat))(e:Env)(h:qi):AOp→Option ORes
 | .alloc r zero=>bif zero.all qf then(match newBox h0 h r (.cells (cellsOf zero))with
  |some h'=>val h' (.ptr (h0+r) 0)
  |none=>none)else none
 | .box r n x=>match qe e x with
  |some v=>bif Nat.beq v.flat.length n&&v.flat.all qf then(match newBox h0 h r (.cells (cellsOf v.flat))with
   |some h'=>val h' (.ptr (h0+r) 0)
   |none=>none)else none
  |none=>none
 | .loadTake off x=>match qe e x with
  |some (.ptr b o)=>bif jf h0 al b&&qde off o then(match ja h b with
   |some cs=>(match cs[o]? with
    |some (v,w)=>(match jb h b (.cells (cs.set o (v,false)))with
     |some h'=>some ⟨v,w,none,h'⟩
     |none=>none)
    |none=>none)
   |none=>none)else none
  |_=>none
 | .store n a x=>match qe e a,qe e x with
  |some (.ptr b o),some v=>bif jf h0 al b then(match ja h b with
   |some cs=>(match jn e x with
    |some t=>bif Nat.beq n 1&&v.isList&&Nat.blt o cs.length then(match jb h b (.cells (cs.set o (v,true)))with
      |some h'=>some ⟨.undef,false,some t,h'⟩
      |none=>none)else none
    |none=>bif Nat.beq v.flat.length n then(match zn cs o v.flat with
     |some cs'=>(match jb h b (.cells cs')with
      |some h'=>val h' .undef
      |none=>none)
     |none=>none)else none)
   |none=>none)else none
  |_,_=>none
 | .bld r t e=>match newBox h0 h r (.bld t e [])with
  |some h'=>val h' (.ptr (h0+r) 0)
  |none=>none
 | .mkmap r=>match newBox h0 h r (.map [])with
  |some h'=>val h' (.map (h0+r))
  |none=>none
 | .mapUpdate kd m k x=>match qe e m,qe e k,qe e x with
  |some (.map b),some kv,some v=>bif jf h0 al b then(match jl h b with
   |some (.map es)=>(match jj kd kv es 0 with
    |some (some (i,_))=>(match jb h b (.map (qaw es i v))with
     |some h'=>val h' .undef
     |none=>none)
    |some none=>bif Nat.ble es.length 1073741824 then(match jb h b (.map (es++[(kv,v)]))with
     |some h'=>val h' .undef
     |none=>none)else none
    |none=>none)
   |_=>none)else none
  |_,_,_=>none
 | .delete kd m k=>match qe e m,qe e k with
  |some (.map b),some kv=>bif jf h0 al b then(match jl h b with
   |some (.map es)=>(match jj kd kv es 0 with
    |some r=>(match jb h b (.map (qno es r))with
     |some h'=>val h' (.tup [])
     |none=>none)
    |none=>none)
   |_=>none)else none
  |_,_=>none
 | .mkslice (some r) sz bytes zero n c=>match qe e n,qe e c with
  |some (.int .i64 (.ofNat n)),some (.int .i64 (.ofNat c))=>
   bif Nat.beq n c&&Nat.ble n 1073741824&&Nat.ble bytes 4096&&Nat.beq zero.length sz&&Nat.blt 0 sz&&zero.all qf then
    (match newBox h0 h r (.cells (cellsOf (List.replicate n zero).flatten))with
     |some h'=>val h' (.ms (h0+r) 0 n)
     |none=>none)else none
  |_,_=>none
 | .append (some r) sz bytes x y=>match qe e x,qe e y with
  |some (.list false sz' []),some vy=>
   bif (jn e x).isSome&&Nat.beq sz sz' then
    (match jx sz vy with
     |some ys=>
      bif Nat.ble ys.length 1073741824&&Nat.ble bytes 4096&&Nat.blt 0 sz then
       (match newBox h0 h r (.cells (cellsOf (ys.flatMap AVal.flat)))with
        |some h'=>some ⟨.ms (h0+r) 0 ys.length,false,jn e x,h'⟩
        |none=>none)
      else none
     |none=>none)
   else none
  |_,_=>none
 | .vapp r sz bytes x y=>match qe e x,qe e y with
  |some (.list true _ []),some vy=>(match jx sz vy with
    |some ys=>
     bif Nat.ble ys.length 1073741824&&Nat.ble bytes 4096&&Nat.blt 0 sz&&!ys.isEmpty&&qo 0 ys&&Nat.blt r 1000 then
      (match newBox h0 h r (.vec sz 0 ys)with
       |some h'=>val h' (.vref (h0+r) 0 ys.length)
       |none=>none)else none
    |none=>none)
  |some (.vref b ver len),some vy=>(match jl h b with
   |some (.vec sz' ver' xs)=>(match jx sz vy with
    |some ys=>
     bif Nat.beq ver ver'&&Nat.beq sz sz'&&Nat.ble len xs.length&&Nat.ble (len+ys.length) 1073741824&&Nat.ble bytes 4096&&Nat.blt 0 sz&&qo 0 ys&&Nat.blt r 1000 then
      (match jb h b (.vec sz (ver+1) (xs.take len++ys))with
       |some h'=>val h' (.vref b (ver+1) (len+ys.length))
       |none=>none)else none
    |none=>none)
   |_=>none)
  |_,_=>none
 | .vlit r sz len zero parts=>match jy e sz parts with
  |some ps=>match qaa (List.replicate len (bif Nat.beq sz 1 then zero.headD .undef else .agg zero)) ps with
   |some xs=>bif qo 0 xs then(match newBox h0 h r (.vec sz 0 xs)with
    |some h'=>val h' (.vref (h0+r) 0 xs.length)
    |none=>none)else none
   |none=>none
  |none=>none
 | .copy sz x y=>match qe e x,qe e y with
  |some (.ms b o len),some vy=>bif jf h0 al b then(match ja h b with
   |some cs=>(match qh9 sz len vy with
    |some (n,vs)=>(match zn cs o vs with
     |some cs'=>bif Nat.beq vs.length (n*sz)then(match jb h b (.cells cs')with
      |some h'=>val h' (.int .i64 n)
      |none=>none)else none
     |none=>none)
    |none=>none)
   |none=>none)else none
  |_,_=>none
 | .srange r x=>match qe e x with
  |some (.str s)=>(match newBox h0 h r (.iter s 0)with
   |some h'=>val h' (.ptr (h0+r) 0)
   |none=>none)
  |_=>none
 | .snext it=>match qe e it with
  |some (.ptr b 0)=>bif jf h0 al b then(match jl h b with
   |some (.iter s pos)=>bif Nat.blt pos s.length then
     (match jb h b (.iter s (pos+(qam s pos).2))with
      |some h'=>val h' (.tup [.bool true,.int .i64 pos,.int .i32 (qam s pos).1])
      |none=>none)else val h (.tup [.bool false])
   |_=>none)else none
  |_=>none
 |_=>none
def qbk:Nat→List AVal→Env
 |_,[]=>[]
 |i,v::vs=>(i,v,false)::qbk (i+1) vs
def qac (st:ASt):qcl→Option (AVal×Bool)
 | .tmp t=>qv t st.env
 | .cell t agg n=>match qv t st.env with
  |some (.ptr b o,_)=>(match ja st.heap b with
   |some cs=>(match zc cs o n with
    |some vs=>bif agg then some (.agg vs,false)else(match cs[o]? with
     |some x=>some x
     |none=>none)
    |none=>none)
   |none=>none)
  |_=>none
def zp (st:ASt):List qcl→Option (List (AVal×Bool))
 | []=>some []
 |r::rs=>match qac st r with
  |some x=>(match zp st rs with
   |some xs=>some (x::xs)
   |none=>none)
  |none=>none
def jc:List (AVal×Bool)→AVal×Bool
 | [x]=>x
 |xs=>(.tup (xs.map (·.1)),false)
abbrev XC:=ACode→ASt→Option (jo×ASt)
def zu (st:ASt):List qcl→qi
 | [.cell t false _]=>match qv t st.env with
  |some (.ptr b o,_)=>(match ja st.heap b with
   |some cs=>(match cs[o]? with
    |some (v,true)=>st.heap.set b (.cells (cs.set o (v,false)))
    |_=>st.heap)
   |none=>st.heap)
  |_=>st.heap
 |_=>st.heap
def ki (xc:XC)(f:qx)(args:List AVal)(h:qi):Option (AVal×Bool×qi):=
 bif Nat.ble args.length f.ntmps then
  match xc f.body ⟨qbk 0 args,h⟩with
  |some (.normal,st)=>(match zp st f.results with
   |some xs=>some ((jc xs).1,(jc xs).2,zu st f.results)
   |none=>none)
  |some (.ret,st)=>(match zp st f.results with
   |some xs=>some ((jc xs).1,(jc xs).2,zu st f.results)
   |none=>none)
  |_=>none
 else none
def jq (p:je)(xc:XC)(k:Nat)(args:List AVal)(h:qi):Option (AVal×Bool×qi):=
 match p.fns k with
 |some f=>ki xc f args h
 |none=>match p.sprims k with
  |some f=>f args h
  |none=>none
def qd (p:je)(xc:XC)(k:Nat)(args:List AVal):Option (AVal×Bool):=
 match p.prims k with
 |some f=>(match f args with
  |some (v,o)=>bif qa0 v then some (v,o)else none
  |none=>none)
 |none=>match jq p xc k args []with
  |some (v,o,h)=>(match freezeR h v with
   |some v'=>bif qa0 v' then some (v',o&&v.isList)else none
   |none=>none)
  |none=>none
def ya (n:Nat)(v:AVal)(h:qi):qi:=
 bif Nat.ble h.length n then h else bif below n v&&js n (h.take n)then h.take n else h
def qb7 (e:Env):List Nat→List AVal→Option Env
 | [],[]=>some e
 |t::ts,v::vs=>qb7 ((t,v,false)::e) ts vs
 |_,_=>none
def y5 (xc:XC)(b:Nat)(args:List AVal)(h:qi):Option (AVal×qi):=
 match jl h b with
 |some (.loop l)=>match l.pending,qb7 (noOwn l.env) l.params args with
  |none,some e=>(match xc l.assign ⟨e,h⟩with
   |some (.normal,st)=>(match jl st.heap b with
    |some (.loop l1)=>bif l1.pending.isNone then(match xc l.body { st with heap:=st.heap.set b (.loop { l1 with pending:=some .normal }) }with
     |some (x,st')=>(match jl st'.heap b with
      |some (.loop l2)=>some (.bool (match x with | .normal=>true|_=>false),ya h.length (.bool true) (st'.heap.set b (.loop { l2 with pending:=match x with | .normal=>none|x=>some x })))
      |_=>none)
     |none=>none)else none
    |_=>none)
   |_=>none)
  |_,_=>none
 |_=>none
def kx:AVal→Bool
 | .bool _=>true
 | .int _ _=>true
 | .str _=>true
 |_=>false
def qor (h:qi):AVal→Option AVal
 | .ms b 0 len=>(match ja h b with
  |some cs=>bif Nat.beq (len*(cs.length / len)) cs.length&&Nat.blt 0 (cs.length / len)&&cs.all (fun c=>kx c.1)then some (.list false (cs.length / len) (qaj (cs.length / len) len (cs.map (·.1))))else(bif Nat.beq len 0 then some (.list false 8 [])else none)
  |none=>none)
 |v=>some v
def qca (h:qi):List AVal→Option (List AVal)
 | []=>some []
 |v::vs=>match qor h v,qca h vs with
  |some x,some xs=>some (x::xs)
  |_,_=>none
def qdi:AVal→Bool
 | .agg cs=>cs.all kx
 |v=>kx v
def qif (v:AVal):AVal:=bif qdi v then v else .any
def qrq:AVal→Bool→Option (AVal×Bool)
 | .list false sz xs,true=>bif (xs.flatMap AVal.flat).all kx then some (.list false sz xs,true)else none
 | .list true sz [],_=>some (.list true sz [],false)
 | .tup vs,_=>some (.tup (vs.map qif),false)
 |v,_=>bif qdi v then some (v,false)else none
def qcf (h0:Nat)(h:qi)(r:Nat):AVal→Bool→Option ORes
 | .list true sz [],_=>(match newBox h0 h r .dead with
  |some h'=>val h' (.list true sz [])
  |none=>none)
 | .list false sz xs,true=>bif (xs.flatMap AVal.flat).all kx then(match newBox h0 h r (.cells (cellsOf (xs.flatMap AVal.flat)))with
  |some h'=>val h' (.ms (h0+r) 0 xs.length)
  |none=>none)else none
 |_,_=>none
def ze (p:je)(xc:XC)(h0:Nat)(e:Env)(h:qi)(md:CMode)(f:qz)(args:List qz):Option ORes:=
 match qe e f,zw e args with
 |some (.fn (.func k) first captured),some vs=>
  (match md with
   | .iso=>bif qo 0 (first++vs++captured)then(match qd p xc k (first++vs++captured)with
     |some (v,o)=>some ⟨v,o,none,h⟩
     |none=>none)else none
   | .frz r=>bif (first++vs++captured).isEmpty then(match p.maps k with
     |some es=>(match newBox h0 h r (.map es)with
      |some h'=>val h' (.map (h0+r))
      |none=>none)
     |none=>none)else bif qo 0 (first++vs++captured)then(match qd p xc k (first++vs++captured)with
     |some (v,o)=>qcf h0 h r v o
     |none=>none)else none
   | .red=>(match qca h (first++vs++captured)with
    |some us=>bif qo 0 us then(match qd p xc k us with
     |some (v,o)=>(match qrq v o with
      |some (v',o')=>some ⟨v',o',none,h⟩
      |none=>none)
     |none=>none)else none
    |none=>none)
   | .shr=>(match jq p xc k (first++vs++captured) h with
    |some (v,o,h')=>some ⟨v,o,none,ya h.length v h'⟩
    |none=>none))
 |some (.fn (.yield b) [] []),some vs=>
  (match md with
   | .shr=>(match y5 xc b vs h with
    |some (v,h')=>val h' v
    |none=>none)
   |_=>none)
 |_,_=>none
def qb (p:je)(xc:XC)(h0:Nat)(al:Option (List Nat))(e:Env)(h:qi)(op:AOp):Option ORes:=
 match op with
 | .call md f args=>ze p xc h0 e h md f args
 | .load agg n x=>j0 h0 al e h (.load agg n x)
 | .lookup kd z ok m k=>j0 h0 al e h (.lookup kd z ok m k)
 | .alloc r z=>qj h0 al e h (.alloc r z)
 | .box r n x=>qj h0 al e h (.box r n x)
 | .loadTake off x=>qj h0 al e h (.loadTake off x)
 | .store n a x=>qj h0 al e h (.store n a x)
 | .bld r t e'=>qj h0 al e h (.bld r t e')
 | .mkmap r=>qj h0 al e h (.mkmap r)
 | .mapUpdate kd m k x=>qj h0 al e h (.mapUpdate kd m k x)
 | .delete kd m k=>qj h0 al e h (.delete kd m k)
 | .mkslice (some r) sz b z n c=>qj h0 al e h (.mkslice (some r) sz b z n c)
 | .append (some r) sz b x y=>qj h0 al e h (.append (some r) sz b x y)
 | .vapp r sz b x y=>qj h0 al e h (.vapp r sz b x y)
 | .vlit r sz n z ps=>qj h0 al e h (.vlit r sz n z ps)
 | .copy sz x y=>qj h0 al e h (.copy sz x y)
 | .srange r x=>qj h0 al e h (.srange r x)
 | .snext it=>qj h0 al e h (.snext it)
 |op=>qg e h op
def jt (e:Env):Option Nat→Env
 |none=>e
 |some s=>match qv s e with
  |some (v,_)=>(s,v,false)::e
  |none=>e
def k9 (e:Env)(d:Option Nat)(v:AVal)(o:Bool):Env:=
 match d with
 |some d=>(d,v,o)::e
 |none=>e
def yw (e:Env):Option (Nat×Bool)→Option Bool
 |none=>some true
 |some (s,want)=>match qv s e with
  |some (.bool b,_)=>some (b == want)
  |some (.undef,_)=>some false
  |_=>none
def zf (p:je)(xc:XC)(h0:Nat)(o:AOper)(st:ASt):Option ASt:=
 match yw st.env o.guard with
 |some true=>(match qb p xc h0 o.al st.env st.heap o.op with
  |some r=>some ⟨k9 (jt st.env r.strip) o.dst r.v r.own,r.heap⟩
  |none=>none)
 |some false=>some ⟨k9 st.env o.dst .undef false,st.heap⟩
 |none=>none
def yo (p:je)(xc:XC)(h0:Nat):List AOper→ASt→Option ASt
 | [],st=>some st
 |o::os,st=>match zf p xc h0 o st with
  |some st'=>yo p xc h0 os st'
  |none=>none
def qev (st:ASt):Option (List Nat)→ASt
 |none=>st
 |some l=>{ st with env:=qak st.env l }
def yx (p:je)(xc:XC)(na:Nat)(ops:List AOper)(keep:Option (List Nat))(st:ASt):Option (jo×ASt):=
 match yo p xc st.heap.length ops { st with heap:=st.heap++List.replicate na .hole }with
 |some st'=>some (.normal,qev st' keep)
 |none=>none
def ky (p:je)(xc:XC)(f:qz)(params:List Nat)(assign body:ACode)(st:ASt):Option (jo×ASt):=
 bif jr assign&&jr body then
  match qe st.env f with
  |some (.fn (.func k) first captured)=>
   (match jq p xc k (first++[.fn (.yield st.heap.length) [] []]++captured) (st.heap++[.loop ⟨st.env,params,assign,body,none⟩])with
    |some (_,_,h')=>(match jl h' st.heap.length with
     |some (.loop l)=>bif js st.heap.length (h'.take st.heap.length)then
       (match l.pending with
       |none=>some (.normal,{ st with heap:=h'.take st.heap.length })
       |some .normal=>none
       |some x=>some (x,{ st with heap:=h'.take st.heap.length }))else none
     |_=>none)
    |none=>none)
  |_=>none
 else none
def qw (p:je):Nat→XC
 |0,_,_=>none
 |n+1,c,st=>match c with
  | .skip=>some (.normal,st)
  | .region na ops keep=>yx p (qw p n) na ops keep st
  | .seq a b=>match qw p n a st with
   |some (.normal,st')=>qw p n b st'
   |r=>r
  | .cond c a b=>match qe st.env c with
   |some (.bool t)=>bif t then qw p n a st else qw p n b st
   |_=>none
  | .block id body=>match qw p n body st with
   |some (.exit id',st')=>bif Nat.beq id' id then some (.normal,st')else some (.exit id',st')
   |r=>r
  | .loop body=>match qw p n body st with
   |some (.normal,st')=>qw p n (.loop body) (gc st.heap.length st')
   |r=>r
  | .rangeFunc f params assign body=>ky p (qw p n) f params assign body st
  | .exit id=>some (.exit id,st)
  | .ret=>some (.ret,st)
  | .grow sz=>match qv 0 st.env,qv 1 st.env with
   |some (.list true _ _,_),some (.int .i64 (.ofNat m),_)=>bif Nat.blt 0 m&&Nat.ble m 1073741824 then some (.normal,{ st with env:=[(0,.list false sz [],true)] })else none
   |_,_=>none
  | .stuck=>none
structure qt where
 takes:List Nat:=[]
 muts:List Nat:=[]
 offs:List (Nat×Nat):=[]
 shr:List (Nat×Nat):=[]
 frz:List (Nat×Nat):=[]
 red:List (Nat×Nat):=[]
 keep:List (Nat×List Nat):=[]
 vl:List Nat:=[]
 vec:List Nat:=[]
 ex:List ((Nat×Nat)×Nat):=[]
 deriving Inhabited
def qf6:Value→Option AVal
 | .bool b=>some (.bool b)
 | .int k n=>some (.int k n)
 | .string s=>some (.str s.data.toList)
 | .slice none 0 0=>some (.list true 0 [])
 | .pointer none=>some .nilptr
 | .map none=>some .nilmap
 | .nilFunc=>some .nilfn
 |_=>none
def qbp:List Value→Option (List AVal)
 | []=>some []
 |v::vs=>match qf6 v with
  |some x=>match qbp vs with
   |some xs=>some (x::xs)
   |none=>none
  |none=>none
def ofValue:Value→Option AVal
 | .agg cs=>match qbp cs.toList with
  |some xs=>some (.agg xs)
  |none=>none
 |v=>qf6 v
def ql:Operand→Option qz
 | .tmp t=>some (.tmp t)
 | .const v=>match ofValue v with
  |some x=>some (.const x)
  |none=>none
 | .func f=>some (.const (.fn (.func f) [] []))
 | .global _=>none
def qby:List Operand→Option (List qz)
 | []=>some []
 |x::xs=>match ql x with
  |some y=>match qby xs with
   |some ys=>some (y::ys)
   |none=>none
  |none=>none
def qav:Option Operand→Option (Option qz)
 |none=>some none
 |some x=>match ql x with
  |some y=>some (some y)
  |none=>none
def zb (P:Program)(t:TypeId):Option Bool:=
 match P.underlying t with
 |some (.struct _)=>some true
 |some (.array _ _)=>some true
 |some _=>some false
 |none=>none
def qy (P:Program)(t:TypeId):Option Nat:=(P.info? t).map (·.size)
def kz (P:Program)(t:TypeId):Option Nat:=(P.info? t).map (·.bytes)
def zd (P:Program)(t:TypeId):Option (List AVal):=
 match P.info? t with
 |some i=>match i.zero with
  |some z=>qbp z.cells.toList
  |none=>none
 |none=>none
def qv3 (P:Program)(t:TypeId):Option TypeId:=
 match P.underlying t with
 |some (.struct fs)=>match fs.toList with
  | [f0,f1]=>match P.underlying f0.type,P.underlying f1.type with
   |some (.pointer t'),some (.slice e)=>match P.underlying e,zd P t with
    |some (.int .u8),some [.nilptr,.list true _ []]=>if t' == t then some e else none
    |_,_=>none
   |_,_=>none
  |_=>none
 |_=>none
def qs3 (P:Program)(t:TypeId):Option AVal:=
 match P.info? t with
 |some i=>match i.zero with
  |some z=>ofValue z
  |none=>none
 |none=>none
def qfy (g:TypeId→Option (List Kd)):Nat→List Field→Option (List Kd)
 |_,[]=>some []
 | off, f :: fs => if f.name != "_" && f.offset == off then (match g f.type with
   |some ks=>(match qfy g (off+ks.length) fs with
    |some r=>some (ks++r)
    |none=>none)
   |none=>none)else none
def qbr (P:Program):Nat→TypeId→Option (List Kd)
 |0,_=>none
 |n+1,t=>match P.underlying t with
  |some (.int _)=>if qy P t == some 1 then some [.int]else none
  |some .string=>if qy P t == some 1 then some [.str]else none
  |some .bool=>if qy P t == some 1 then some [.bool]else none
  |some (.struct fs)=>(match qfy (qbr P n) 0 fs.toList with
   |some ks=>if !P.stoodInHeld t&&qy P t == some ks.length then some ks else none
   |none=>none)
  |some (.array len e)=>(match qbr P n e with
   |some ks=>if qy P t == some (len*ks.length)then some (List.replicate len ks).flatten else none
   |none=>none)
  |_=>none
def qeg:Nat:=12
def kdT (P:Program)(t:TypeId):Option Kd:=
 match P.underlying t with
 |some (.int _)=>some .int
 |some .string=>some .str
 |some .bool=>some .bool
 |_=>none
def cEq (P:Program)(op:BinOp)(neq:Bool)(t:TypeId)(x y:Operand):Option AOp:=
 match P.underlying t with
 |some (.int _)|some .string=>match ql x,ql y with
  |some a,some b=>some (.bin op a b)
  |_,_=>none
 |some .bool=>match ql x,ql y with
  |some a,some b=>some (.beq neq a b)
  |_,_=>none
 |some (.struct _)|some (.array _ _)=>
  if !P.eqGuardType P.depth t then match qbr P qeg t,ql x,ql y with
   |some ks,some a,some b=>some (.eqs ks neq a b)
   |_,_,_=>none
  else none
 |some (.slice _)=>match y with
  | .const (.slice none 0 0)=>(ql x).map (.nilEq 0 neq)
  |_=>none
 |some (.pointer _)=>match y with
  | .const (.pointer none)=>(ql x).map (.nilEq 1 neq)
  |_=>none
 |some (.map _ _)=>match y with
  | .const (.map none)=>(ql x).map (.nilEq 2 neq)
  |_=>none
 |some (.func _ _ _)=>match y with
  | .const .nilFunc=>(ql x).map (.nilEq 3 neq)
  |_=>none
 |_=>none
def qvd (P:Program)(op:BinOp)(t:TypeId)(x y:Operand):Option AOp:=
 match op with
 | .eql=>cEq P .eql false t x y
 | .neq=>cEq P .neq true t x y
 |op=>match ql x,ql y with
  |some a,some b=>some (.bin op a b)
  |_,_=>none
def qdl (P:Program)(place:Nat→Option (Nat×Nat)):List (Nat×Operand)→Option (List (Nat×Nat×qz))
 | []=>some []
 |(i,x)::ps=>match place i,ql x,qdl P place ps with
  |some (off,n),some y,some r=>some ((off,n,y)::r)
  |_,_,_=>none
def qdm:List (Nat×Operand)→Option (List (Nat×qz))
 | []=>some []
 |(i,x)::ps=>match ql x,qdm ps with
  |some y,some r=>some ((i,y)::r)
  |_,_=>none
def qqy (h:qt)(dst:Option Nat)(x:Operand):Option Nat:=
 match x,dst with
 | .tmp s,some d=>if h.takes.contains d then some s else none
 |_,_=>none
def qau:TypeDesc→Bool
 | .slice _=>true
 | .string=>true
 |_=>false
def CMode.at (r:Nat):CMode→CMode
 | .frz _=>.frz r
 |m=>m
def qgk (P:Program)(h:qt)(md:CMode)(r:Nat)(dst:Option Nat)(c:Call):Option AOp:=
 match c.callee with
 | .value f=>match ql f,qby c.args.toList with
  |some f,some args=>some (.call (md.at r) f args)
  |_,_=>none
 | .builtin .len=>match c.args.toList,c.argTypes.toList with
  | [x],[t]=>match P.underlying t with
   |some .string=>(ql x).map (.len 0)
   |some (.slice _)=>(ql x).map (.len 1)
   |_=>none
  |_,_=>none
 | .builtin .cap=>match c.args.toList,c.argTypes.toList with
  | [x],[t]=>match P.underlying t with
   |some (.slice _)=>(ql x).map (.len 2)
   |_=>none
  |_,_=>none
 | .builtin .append=>match c.args.toList,c.argTypes.toList with
  | [x,y],[t,u]=>match P.underlying t,P.underlying u with
   |some (.slice e),some ut=>if qau ut&&(zd P e).map (·.length) == qy P e then match qy P e,kz P e,ql x,ql y with
     |some sz,some b,some x,some y=>some (if(dst.map (h.vec.contains ·)).getD false then .vapp r sz b x y else .append (if(dst.map (h.muts.contains ·)).getD false then some r else none) sz b x y)
     |_,_,_,_=>none
    else none
   |_,_=>none
  |_,_=>none
 | .builtin .copy=>match c.args.toList,c.argTypes.toList with
  | [x,y],t::_=>match P.underlying t with
   |some (.slice e)=>match qy P e,ql x,ql y with
    |some sz,some x,some y=>some (.copy sz x y)
    |_,_,_=>none
   |_=>none
  |_,_=>none
 | .builtin .delete=>match c.args.toList,c.argTypes.toList with
  | [m,k],t::_=>match P.underlying t with
   |some (.map kt _)=>match kdT P kt,ql m,ql k with
    |some kd,some m,some k=>some (.delete kd m k)
    |_,_,_=>none
   |_=>none
  |_,_=>none
 | .builtin .max=>(qby c.args.toList).map .mx
 | .builtin .min=>(qby c.args.toList).map .mn
 |_=>none
def qih : List (String × List Int) := [("woofer/network.none", [0, 0]), ("woofer/network.one", [1, 0]), ("woofer/network.turns", [1, 0, 0, 1, -1, 0, 0, -1])]
def qj4 (P:Program)(g:Nat):List (String×List Int)→Option (List Int)
 | []=>none
 |(n,cs)::l=>if P.globalNamed n == some g then some cs else qj4 P g l
def qnd (P:Program)(t:TypeId)(g:Nat):Option AOp:=match qj4 P g qih,zb P t,qy P t with
 |some cs,some true,some n=>if cs.length == n then some (.move (.const (.agg (cs.map (AVal.int .i64)))))else none
 |_,_,_=>none
def qsv (h:qt):qz→Option Nat
 | .tmp s=>if h.vl.contains s then some s else none
 |_=>none
def cOp (P:Program)(h:qt)(md:CMode)(r:Nat)(dst:Option Nat):Op→Option AOp
 | .move x=>match qqy h dst x with
  |some s=>some (.take s)
  |none=>(ql x).map .move
 | .assign (.tmp s)=>some (.take s)
 | .assign x=>(ql x).map .move
 | .pick c a b=>match ql c,ql a,ql b with
  |some c,some a,some b=>some (.pick c a b)
  |_,_,_=>none
 | .alloc t=>match qv3 P t with
  |some e=>some (.bld r t e)
  |none=>bif (dst.map (h.vl.contains ·)).getD false then(match zd P t with
   |some z=>bif z.all qf then some (.valloc z.length)else none
   |none=>none)else(zd P t).map (.alloc r)
 | .box t x=>match qy P t,ql x with
  |some n,some x=>some (bif (dst.map (h.vl.contains ·)).getD false then .vbox n x else .box r n x)
  |_,_=>none
 | .build t ps=>match P.underlying t,zd P t with
  |some (.struct fs),some z=>if fs.toList.all (fun f=>(qy P f.type).isSome)then(qdl P (fun i=>match fs[i]? with
    |some f=>(qy P f.type).map fun n=>(f.offset,n)
    |none=>none) ps.toList).map (.build z)else none
  |some (.array _ e),some z=>match qy P e with
   |some n=>(qdl P (fun i=>some (i*n,n)) ps.toList).map (.build z)
   |none=>none
  |_,_=>none
 | .buildSlice t n ps=>match P.underlying t with
  |some (.slice e)=>match qy P e,zd P e,zb P e,qdm ps.toList with
   |some sz,some z,some ag,some es=>if sz*n≤65536&&0<sz&&z.length == sz&&(ag||sz == 1)&&(!ag||sz != 1)then some (if(dst.map (h.vec.contains ·)).getD false then .vlit r sz n z es else .buildSlice sz n z es)else none
   |_,_,_,_=>none
  |_=>none
 | .load t (.global g)=>qnd P t g
 | .load t x=>match zb P t,qy P t,ql x with
  |some false,some 1,some x=>if(dst.map (h.takes.contains ·)).getD false then some (.loadTake ((dst.bind fun d=>h.offs.find? fun y=>y.1 == d).map (·.2)) x)else some (bif (dst.map (h.vl.contains ·)).getD false then .vload false 1 x else .load false 1 x)
  |some true,some n,some x=>some (bif (dst.map (h.vl.contains ·)).getD false then .vload true n x else .load true n x)
  |_,_,_=>none
 | .store t a v=>match qy P t,ql a,ql v with
  |some n,some a,some v=>some (match qsv h a with
   |some s=>.vstore n s v
   |none=>.store n a v)
  |_,_,_=>none
 | .nilCheck x=>(ql x).map .nilCheck
 | .binOp op t x y _=>qvd P op t x y
 | .unOp op _ x=>(ql x).map (.un op)
 | .convert s d x=>match P.underlying s,P.underlying d with
  |some (.int _),some (.int k)=>(ql x).map (.conv k)
  |some .string,some .string=>(ql x).map .convStr
  |some (.int _),some .string=>(ql x).map .convStr
  |_,_=>none
 | .makeFunc f a b=>match f with
  | .func k=>match qby a.toList,qby b.toList with
   |some a,some b=>some (.mkfunc (.func k) a b)
   |_,_=>none
  |_=>none
 | .makeMap t none=>match P.underlying t with
  |some (.map _ _)=>some (.mkmap r)
  |_=>none
 | .makeSlice t n c=>match P.underlying t with
  |some (.slice e)=>match qy P e,kz P e,zd P e,zb P e,ql n,ql c with
   |some sz,some b,some z,some ag,some n,some c=>
    if(ag||sz == 1)&&(!ag||sz != 1)then some (.mkslice (if(dst.map (h.muts.contains ·)).getD false then some r else none) sz b z n c)else none
   |_,_,_,_,_,_=>none
  |_=>none
 | .slice t x lo hi none=>match ql x,qav lo,qav hi with
  |some x,some lo,some hi=>match P.underlying t with
   |some .string=>some (.strSlice x lo hi)
   |some (.slice e)=>(qy P e).map fun sz=>.slice sz x lo hi
   |some (.array n e)=>(qy P e).map fun sz=>.sliceArr n sz x lo hi
   |_=>none
  |_,_,_=>none
 | .fieldAddr t x i=>match P.underlying t with
  |some (.struct fs)=>match fs[i]? with
   |some f=>match zb P f.type,qy P f.type,ql x with
    |some ag,some n,some x=>if 0<n&&(ag||n == 1)then some (.fieldAddr ag f.offset n x)else none
    |_,_,_=>none
   |none=>none
  |_=>none
 | .field t x i=>match P.underlying t with
  |some (.struct fs)=>match fs[i]? with
   |some f=>match zb P f.type,qy P f.type,ql x with
    |some ag,some n,some x=>some (.field ag f.offset n x)
    |_,_,_=>none
   |none=>none
  |_=>none
 | .indexAddr t x i=>match ql x,ql i with
  |some x,some i=>match P.underlying t with
   |some (.slice e)=>match qy P e with
    |some sz=>if 0<sz then some (.indexAddr sz x i)else none
    |none=>none
   |some (.array n e)=>match qy P e,zb P e with
    |some sz,some ag=>if 0<sz&&(ag||sz == 1)then some (.indexArr ag n sz x i)else none
    |_,_=>none
   |_=>none
  |_,_=>none
 | .index t x i=>match ql x,ql i with
  |some x,some i=>match P.underlying t with
   |some .string=>some (.strIndex x i)
   |some (.array n e)=>match qy P e,zb P e with
    |some sz,some ag=>some (.index ag n sz x i)
    |_,_=>none
   |_=>none
  |_,_=>none
 | .lookup t m k ok=>match P.underlying t with
  |some (.map kt e)=>match kdT P kt,qs3 P e,ql m,ql k with
   |some kd,some z,some m,some k=>some (.lookup kd z ok m k)
   |_,_,_,_=>none
  |_=>none
 | .mapUpdate t m k v=>match P.underlying t with
  |some (.map kt _)=>match kdT P kt,ql m,ql k,ql v with
   |some kd,some m,some k,some v=>some (.mapUpdate kd m k v)
   |_,_,_,_=>none
  |_=>none
 | .insert t m k v=>match P.underlying t with
  |some (.map kt _)=>match kdT P kt,ql m,ql k,ql v with
   |some kd,some m,some k,some v=>some (.mapUpdate kd m k v)
   |_,_,_,_=>none
  |_=>none
 | .range t x=>match P.underlying t with
  |some .string=>(ql x).map (.srange r)
  |_=>none
 | .next it true=>(ql it).map .snext
 | .extract x i=>(ql x).map fun x=>.extract x i
 | .call c=>qgk P h md r dst c
 |_=>none
def AOp.makes:AOp→Bool
 | .alloc ..=>true
 | .box ..=>true
 | .bld ..=>true
 | .mkmap ..=>true
 | .mkslice (some _) ..=>true
 | .append (some _) ..=>true
 | .vapp ..=>true
 | .vlit ..=>true
 | .srange ..=>true
 | .call (.frz _) ..=>true
 |_=>false
def AOp.vdst:AOp→Option Nat
 | .vstore _ s _=>some s
 |_=>none
def AOp.dstOf (d:Option Nat):AOp→Option Nat
 | .vstore _ s _=>some s
 |_=>d
def qgd (ops:Array Oper):Option (Nat×Bool)→Option (Option (Nat×Bool))
 |none=>some none
 |some (j,b)=>match(ops[j]?).bind (·.dst)with
  |some d=>some (some (d,b))
  |none=>none
def qut (h:qt)(id i:Nat):CMode:=if h.shr.contains (id,i)then .shr else if h.frz.contains (id,i)then .frz 0 else if h.red.contains (id,i)then .red else .iso
def qo2 (P:Program)(h:qt)(nt:Nat)(id:Nat)(ops:Array Oper)(bef:Array Nat)(draw:Bool):List Oper→Nat→List (Nat×Nat)→Option (List AOper×List (Nat×Nat))
 | [],_,rs=>some ([],rs)
 |o::os,i,rs=>
  match(cOp P h (qut h id i) rs.length o.dst o.op).getD .bad,qgd ops o.guard with
  |a,some g=>
   if(o.dst.map (decide <| · < nt)).getD true&&(a.vdst.map (decide <| · < nt)).getD true&&(a.vdst.isNone||(o.dst.isNone&&o.guard.isNone))then
    let rs':=if a.makes then(i,rs.length)::rs else rs
    let al:=if draw then(match h.ex.find? fun x=>x.1 == (id,i)with
     |some x=>some [x.2]
     |none=>some ((rs.filter fun x=>(bef.getD i 0).testBit x.1).map (·.2)))else none
    match qo2 P h nt id ops bef draw os (i+1) rs' with
    |some (l,rs'')=>some (⟨a.dstOf o.dst,a,g,al⟩::l,rs'')
    |none=>none
   else none
  |_,_=>none
def jd:qz→List Nat
 | .tmp t=>[t]
 | .const _=>[]
def qfa (l:List qz):List Nat:=l.flatMap jd
def qgm:Option qz→List Nat
 |some x=>jd x
 |none=>[]
def AOp.reads:AOp→List Nat
 | .move x=>jd x
 | .take s=>[s]
 | .pick c a b=>jd c++jd a++jd b
 | .alloc _ _=>[]
 | .box _ _ x=>jd x
 | .vbox _ x=>jd x
 | .valloc _=>[]
 | .vstore _ s x=>s::jd x
 | .bld _ _ _=>[]
 | .build _ ps=>ps.flatMap fun p=>jd p.2.2
 | .buildSlice _ _ _ ps=>ps.flatMap fun p=>jd p.2
 | .load _ _ x=>jd x
 | .vload _ _ x=>jd x
 | .loadTake _ x=>jd x
 | .store _ a v=>jd a++jd v
 | .nilCheck x=>jd x
 | .bin _ x y=>jd x++jd y
 | .eqs _ _ x y=>jd x++jd y
 | .beq _ x y=>jd x++jd y
 | .nilEq _ _ x=>jd x
 | .un _ x=>jd x
 | .conv _ x=>jd x
 | .convStr x=>jd x
 | .field _ _ _ x=>jd x
 | .index _ _ _ x i=>jd x++jd i
 | .strIndex x i=>jd x++jd i
 | .fieldAddr _ _ _ x=>jd x
 | .indexAddr _ x i=>jd x++jd i
 | .indexArr _ _ _ x i=>jd x++jd i
 | .slice _ x lo hi=>jd x++qgm lo++qgm hi
 | .strSlice x lo hi=>jd x++qgm lo++qgm hi
 | .sliceArr _ _ x lo hi=>jd x++qgm lo++qgm hi
 | .mkfunc _ a b=>qfa a++qfa b
 | .mkmap _=>[]
 | .lookup _ _ _ m k=>jd m++jd k
 | .mapUpdate _ m k v=>jd m++jd k++jd v
 | .delete _ m k=>jd m++jd k
 | .mkslice _ _ _ _ n c=>jd n++jd c
 | .len _ x=>jd x
 | .append _ _ _ x y=>jd x++jd y
 | .vapp _ _ _ x y=>jd x++jd y
 | .vlit _ _ _ _ ps=>ps.flatMap fun p=>jd p.2
 | .copy _ x y=>jd x++jd y
 | .mx l=>qfa l
 | .mn l=>qfa l
 | .extract x _=>jd x
 | .call _ f l=>jd f++qfa l
 | .srange _ x=>jd x
 | .snext x=>jd x
 | .bad=>[]
def AOp.strips:AOp→List Nat
 | .take s=>[s]
 | .append _ _ _ x _=>jd x
 | .store _ _ v=>jd v
 |_=>[]
def AOper.reads (o:AOper):List Nat:=o.op.reads++(match o.guard with|some g=>[g.1]|none=>[])
def AOper.writes (o:AOper):List Nat:=o.dst.toList++o.op.strips
inductive Cls where
 |pure|read|write|alloc|take|frz|shr|vap
 deriving DecidableEq,Inhabited
def AOp.cl:AOp→Cls
 | .load ..=>.read
 | .lookup ..=>.read
 | .alloc ..=>.alloc
 | .box ..=>.alloc
 | .bld ..=>.alloc
 | .mkmap ..=>.alloc
 | .mkslice (some _) ..=>.alloc
 | .append (some _) ..=>.alloc
 | .srange ..=>.alloc
 | .loadTake none _=>.write
 | .loadTake (some _) _=>.take
 | .store ..=>.write
 | .mapUpdate ..=>.write
 | .delete ..=>.write
 | .copy ..=>.write
 | .snext ..=>.write
 | .call .iso ..=>.pure
 | .call (.frz _) ..=>.alloc
 | .call .shr ..=>.shr
 | .call .red ..=>.shr
 | .vapp ..=>.vap
 | .vlit ..=>.shr
 |_=>.pure
def AOp.rank:AOp→Nat
 | .alloc r _=>r
 | .box r _ _=>r
 | .bld r _ _=>r
 | .mkmap r=>r
 | .mkslice (some r) ..=>r
 | .append (some r) ..=>r
 | .srange r _=>r
 | .call (.frz r) ..=>r
 | .loadTake (some o) _=>o
 | .vapp r sz ..=>r+1000*sz
 |_=>0
def qaz (al:Option (List Nat))(r:Nat):Bool:=match al with
 |none=>true
 |some l=>bif exl l then Nat.beq (l.headD 0) (2000+r)else l.contains r
def qen (a b:Option (List Nat)):Bool:=match a,b with
 |some l,some m=>bif exl l then(bif exl m then !(Nat.beq (l.headD 0) (m.headD 0))&&Nat.blt (l.headD 0) 4000&&Nat.blt (m.headD 0) 4000 else Nat.ble 2000 (l.headD 0)&&Nat.blt (l.headD 0) 4000&&!(m.contains (l.headD 0-2000)))else exl m&&Nat.ble 2000 (m.headD 0)&&Nat.blt (m.headD 0) 4000&&!(l.contains (m.headD 0-2000))
 |_,_=>false
def Cls.box:Cls→Bool
 | .read=>true
 | .write=>true
 | .take=>true
 |_=>false
def qrl (a b:AOper):Bool:=(a.op.cl.box&&b.op.cl.box&&qen a.al b.al) ||
  (match a.op.cl,b.op.cl with
 | .pure,_=>true
 |_,.pure=>true
 | .read,.read=>true
 | .read,.frz=>true
 | .frz,.read=>true
 | .frz,.frz=>true
 | .alloc,.alloc=>a.op.rank != b.op.rank
 | .alloc,.read=>!qaz b.al a.op.rank
 | .alloc,.write=>!qaz b.al a.op.rank
 | .alloc,.take=>!qaz b.al a.op.rank
 | .take,.alloc=>!qaz a.al b.op.rank
 | .take,.take=>a.op.rank != b.op.rank
 | .read,.alloc=>!qaz a.al b.op.rank
 | .write,.alloc=>!qaz a.al b.op.rank
 | .vap,.vap=>a.op.rank % 1000 != b.op.rank % 1000&&a.op.rank / 1000 != b.op.rank / 1000
 | .vap,.read=>qbx b.al
 | .vap,.write=>qbx b.al
 | .vap,.take=>qbx b.al
 | .read,.vap=>qbx a.al
 | .write,.vap=>qbx a.al
 | .take,.vap=>qbx a.al
 |_,_=>false)
def qez (a b:List Nat):Bool:=a.all fun x=>!b.contains x
def qc6 (a b:AOper):Bool:=
 qrl a b&&qez a.writes b.reads&&qez a.writes b.writes&&qez b.writes a.reads
def qn3 (bef:Array Nat)(l:List AOper):Bool:=
 (l.zipIdx).all fun(b,j)=>(l.zipIdx).all fun(a,i)=>!(decide (i<j))||(bef.getD j 0).testBit i||qc6 a b
def qlo (ops:Array Oper):Bool:=ops.toList.zipIdx.all fun(o,i)=>o.after.all fun e=>!Region.binds .any e||decide (e.on<i)
def qrr (bef:Array Nat)(ops:Array Oper):Bool:=
 ops.toList.zipIdx.all fun(o,i)=>(List.range ops.size).all fun j=>!((bef.getD i 0).testBit j)||o.after.any fun e=>Region.binds .any e&&(e.on == j||(bef.getD e.on 0).testBit j)
def qgb (P:Program)(h:qt)(nt:Nat)(id:Nat)(ops:Array Oper)(draw:Bool):Option ACode:=
 match qo2 P h nt id ops (Region.before ops) draw ops.toList 0 []with
 |some (l,rs)=>
  if !draw||(qn3 (Region.before ops) l&&qlo ops&&qrr (Region.before ops) ops)then
   some (.region rs.length l ((h.keep.find? fun x=>x.1 == id).map (·.2)))
  else none
 |none=>none
def qgf (s d:Nat)(o:Oper):Bool:=match o.op,o.dst,o.guard with
 | .move (.tmp s'),some d',none=>s' == s&&d' == d
 |_,_,_=>false
def qjh (s d:Nat)(o:Oper):Bool:=match o.op,o.dst,o.guard with
 | .assign (.tmp s'),some d',none=>s' == s&&d' == d
 |_,_,_=>false
def qwd (x d:Nat)(o:Oper):Option TypeId:=match o.op,o.dst,o.guard with
 | .call c,some d',none=>match c.callee,c.args.toList,c.argTypes.toList with
  | .builtin .cap,[.tmp x'],[t]=>if x' == x&&d' == d then some t else none
  |_,_,_=>none
 |_,_,_=>none
def qu6 (x d:Nat)(o:Oper):Option TypeId:=match o.op,o.dst,o.guard with
 | .call c,some d',none=>match c.callee,c.args.toList,c.argTypes.toList with
  | .builtin .len,[.tmp x'],[t]=>if x' == x&&d' == d then some t else none
  |_,_,_=>none
 |_,_,_=>none
def qsq (x h d:Nat)(o:Oper):Option TypeId:=match o.op,o.dst,o.guard with
 | .slice t (.tmp x') none (some (.tmp h')) none,some d',none=>if x' == x&&h' == h&&d' == d then some t else none
 |_,_,_=>none
def qu0 (x y d:Nat)(o:Oper):Option (TypeId×TypeId):=match o.op,o.dst,o.guard with
 | .call c,some d',none=>match c.callee,c.args.toList,c.argTypes.toList with
  | .builtin .append,[.tmp x',.tmp y'],[t,u]=>if x' == x&&y' == y&&d' == d then some (t,u)else none
  |_,_,_=>none
 |_,_,_=>none
def qw4 (ops:Array Oper):Option (TypeId×TypeId):=match ops.toList with
 | [o0,o1,o2,o3,o4,o5,o6,o7,o8,o9]=>match qwd 18 19 o2,qsq 17 19 20 o3,qu0 20 21 22 o5,qu6 23 24 o7,qsq 22 24 25 o8 with
  |some t2,some t3,some (t,u),some t7,some t8=>if qgf 0 17 o0&&qgf 0 18 o1&&qgf 1 21 o4&&qgf 0 23 o6&&qjh 25 0 o9&&t2 == t&&t3 == t&&t7 == t&&t8 == t then some (t,u)else none
  |_,_,_,_,_=>none
 |_=>none
def qkm (P:Program)(nt:Nat)(ops:Array Oper):Option Nat:=match qw4 ops with
 |some (t,u)=>match P.underlying t,P.underlying u with
  |some (.slice e),some (.int _)=>match P.info? e with
   |some i=>if i.zero.isSome&&0<i.size&&i.bytes≤4096&&26≤nt&&(zd P e).isSome&&(zd P e).map (·.length) == some i.size then some i.size else none
   |none=>none
  |_,_=>none
 |none=>none
def ye (P:Program)(h:qt)(nt:Nat):Code→Option ACode
 | .skip=>some .skip
 | .label _=>some .skip
 | .region id ops draw=>match draw,qkm P nt ops with
  |false,some sz=>some (.grow sz)
  |_,_=>qgb P h nt id ops draw
 | .seq a b=>match ye P h nt a,ye P h nt b with
  |some x,some y=>some (.seq x y)
  |_,_=>none
 | .cond c a b=>match ql c,ye P h nt a,ye P h nt b with
  |some c,some x,some y=>some (.cond c x y)
  |_,_,_=>none
 | .block id b=>(ye P h nt b).map (.block id)
 | .loop b=>(ye P h nt b).map .loop
 | .scope b=>(ye P h nt b).map fun x=>.seq x .skip
 | .rangeFunc f ps a b=>match ql f,ye P h nt a,ye P h nt b with
  |some f,some x,some y=>if ps.all (decide <| · < nt)then some (.rangeFunc f ps.toList x y)else none
  |_,_,_=>none
 | .exit id=>some (.exit id)
 | .ret=>some .ret
 |_=>some .stuck
def qsl (P:Program):ResultVar→Option qcl
 | .tmp t=>some (.tmp t)
 | .cell t ty=>match zb P ty,qy P ty with
  |some true,some n=>some (.cell t true n)
  |some false,some 1=>some (.cell t false 1)
  |_,_=>none
def qgq (P:Program):List ResultVar→Option (List qcl)
 | []=>some []
 |r::rs=>match qsl P r,qgq P rs with
  |some x,some xs=>some (x::xs)
  |_,_=>none
def qn9 (P:Program)(h:qt)(f:Func):Option qx:=
 match f.body with
 |some c=>match ye P h f.ntmps c,qgq P f.results.toList with
  | some b, some rs => if f.name == "runtime.NumGoroutine" then none else some ⟨f.ntmps, b, rs⟩
  |_,_=>none
 |none=>none
structure Ctx where
 K:Nat→Nat→Option Value
 β:Nat→Option Nat
 W:Nat→Prop
 D:Nat→Prop
 T:Nat×Nat×Nat×Nat→Prop
def Ctx.iso (K:Nat→Nat→Option Value):Ctx:=⟨K,fun _=>none,fun _=>False,fun _=>False,fun _=>False⟩
def RepFn (C:Ctx):Fn→Fn→Prop
 | .yield b,f=>∃r,C.β b=some r∧f=.yield r
 |f,f'=>f'=f
inductive RIx where
 |val (x:AVal) (v:Value)
 |cells (r:Nat) (xs:List AVal) (o:Nat)
 |row (r sz:Nat) (xs:List AVal) (o:Nat)
 |lst (xs:List AVal) (vs:List Value)
inductive RepI (C:Ctx):RIx→Prop where
 |bool (b:Bool):RepI C (.val (.bool b) (.bool b))
 |int (k:IntKind) (n:Int):RepI C (.val (.int k n) (.int k n))
 |str (s:List UInt8):RepI C (.val (.str s) (.string ⟨⟨s⟩⟩))
 |lnil (sz:Nat):RepI C (.val (.list true sz []) (.slice none 0 0))
 |list (sz:Nat) (xs:List AVal) (r o cap:Nat) (hl:xs.length≤cap) (hr:RepI C (.row r sz xs o)):RepI C (.val (.list false sz xs) (.slice (some ⟨r,o,none⟩) xs.length cap))
 |lemp (sz:Nat) (a:Addr) (hs:a.spot≠none):RepI C (.val (.list false sz []) (.slice (some a) 0 0))
 |ms (b o len r cap:Nat) (hb:C.β b=some r) (hl:len≤cap):RepI C (.val (.ms b o len) (.slice (some ⟨r,o,none⟩) len cap))
 |ptr (b o r:Nat) (hb:C.β b=some r):RepI C (.val (.ptr b o) (.pointer (some ⟨r,o,none⟩)))
 |vptr (x:AVal) (r o:Nat) (h:RepI C (.cells r x.flat o)):RepI C (.val (.vptr x) (.pointer (some ⟨r,o,none⟩)))
 |nilptr:RepI C (.val .nilptr (.pointer none))
 |map (b r:Nat) (hb:C.β b=some r):RepI C (.val (.map b) (.map (some r)))
 |nilmap:RepI C (.val .nilmap (.map none))
 |fn (f f':Fn) (a b:List AVal) (as bs:List Value) (hf:RepFn C f f') (ha:RepI C (.lst a as)) (hb:RepI C (.lst b bs)):RepI C (.val (.fn f a b) (.func f' ⟨as⟩ ⟨bs⟩))
 |nilfn:RepI C (.val .nilfn .nilFunc)
 |agg (cs:List AVal) (vs:List Value) (h:RepI C (.lst cs vs)):RepI C (.val (.agg cs) (.agg ⟨vs⟩))
 |tup (cs:List AVal) (vs:List Value) (h:RepI C (.lst cs vs)):RepI C (.val (.tup cs) (.tuple ⟨vs⟩))
 |undef:RepI C (.val .undef (.tuple #[]))
 |any (v:Value):RepI C (.val .any v)
 |pend (n:Nat) (a:Addr):RepI C (.val (.pend n) (.pointer (some a)))
 |vref (b ver len r0 r cap:Nat) (hb:C.β b=some r0) (ht:C.T (r0,ver,r,cap)) (hl:len≤cap):RepI C (.val (.vref b ver len) (.slice (some ⟨r,0,none⟩) len cap))
 |vel (b ver off r0 r cap:Nat) (hb:C.β b=some r0) (ht:C.T (r0,ver,r,cap)):RepI C (.val (.vel b ver off) (.pointer (some ⟨r,off,none⟩)))
 |cnil (r o:Nat):RepI C (.cells r [] o)
 |ccons (r o:Nat) (x:AVal) (xs:List AVal) (v:Value) (hv:C.K r o=some v) (hx:RepI C (.val x v)) (h:RepI C (.cells r xs (o+1))):RepI C (.cells r (x::xs) o)
 |rnil (r sz o:Nat):RepI C (.row r sz [] o)
 |rcons (r sz o:Nat) (x:AVal) (xs:List AVal) (hs:x.flat.length=sz) (hx:RepI C (.cells r x.flat o)) (h:RepI C (.row r sz xs (o+sz))):RepI C (.row r sz (x::xs) o)
 |nil:RepI C (.lst [] [])
 |cons (x:AVal) (xs:List AVal) (v:Value) (vs:List Value) (hx:RepI C (.val x v)) (h:RepI C (.lst xs vs)):RepI C (.lst (x::xs) (v::vs))
abbrev Rep (C:Ctx)(x:AVal)(v:Value):Prop:=RepI C (.val x v)
abbrev RepL (C:Ctx)(xs:List AVal)(vs:List Value):Prop:=RepI C (.lst xs vs)
abbrev RepC (C:Ctx)(r:Nat)(xs:List AVal)(o:Nat):Prop:=RepI C (.cells r xs o)
abbrev RepRow (C:Ctx)(r sz:Nat)(xs:List AVal)(o:Nat):Prop:=RepI C (.row r sz xs o)
structure Ctx.le (C C':Ctx):Prop where
 k:∀r o v,C.K r o=some v→C'.K r o=some v
 b:∀b r,C.β b=some r→C'.β b=some r
 w:C'.W=C.W
 d:∀r,C.D r→C'.D r
 t:∀q,C.T q→C'.T q:=by exact fun _ h=>h
theorem Ctx.le_refl (C:Ctx):C.le C:=⟨fun _ _ _ h=>h,fun _ _ h=>h,rfl,fun _ h=>h,fun _ h=>h⟩
theorem Ctx.le_trans {A B C:Ctx}(h:A.le B)(k:B.le C):A.le C:=⟨fun r o v x=>k.1 r o v (h.1 r o v x),fun b r x=>k.2 b r (h.2 b r x),k.w.trans h.w,fun r x=>k.d r (h.d r x),fun r x=>k.t r (h.t r x)⟩
theorem RepFn.imp {C C'}(h:(∀r o v,C.K r o=some v→C'.K r o=some v)∧(∀b r,C.β b=some r→C'.β b=some r)){f f'}(hf:RepFn C f f'):RepFn C' f f':=by
 cases f<;>simp only[RepFn]at *<;>first|exact hf|exact⟨hf.choose,h.2 _ _ hf.choose_spec.1,hf.choose_spec.2⟩
theorem RepI.imp {C C'}(h:(∀r o v,C.K r o=some v→C'.K r o=some v)∧(∀b r,C.β b=some r→C'.β b=some r)){i}(hr:RepI C i)(hT:∀q,C.T q→C'.T q:=by first|exact fun _ h=>h|exact fun _ h=>False.elim h):RepI C' i:=by
 induction hr with
 |bool b=>exact .bool b
 |int k n=>exact .int k n
 |str s=>exact .str s
 |lnil sz=>exact .lnil sz
 |list sz xs r o cap hl _ ih=>exact .list sz xs r o cap hl ih
 |lemp sz a hs=>exact .lemp sz a hs
 |ms b o len r cap hb hl=>exact .ms b o len r cap (h.2 _ _ hb) hl
 |ptr b o r hb=>exact .ptr b o r (h.2 _ _ hb)
 |vptr x r o _ ih=>exact .vptr x r o ih
 |nilptr=>exact .nilptr
 |map b r hb=>exact .map b r (h.2 _ _ hb)
 |nilmap=>exact .nilmap
 |fn f f' a b as bs hf _ _ ha hb=>exact .fn f f' a b as bs (hf.imp h) ha hb
 |nilfn=>exact .nilfn
 |agg cs vs _ ih=>exact .agg cs vs ih
 |tup cs vs _ ih=>exact .tup cs vs ih
 |undef=>exact .undef
 |any v=>exact .any v
 |pend n a=>exact .pend n a
 |vref b ver len r0 r cap hb ht hl=>exact .vref b ver len r0 r cap (h.2 _ _ hb) (hT _ ht) hl
 |vel b ver off r0 r cap hb ht=>exact .vel b ver off r0 r cap (h.2 _ _ hb) (hT _ ht)
 |cnil r o=>exact .cnil r o
 |ccons r o x xs v hv _ _ ihx ih=>exact .ccons r o x xs v (h.1 _ _ _ hv) ihx ih
 |rnil r sz o=>exact .rnil r sz o
 |rcons r sz o x xs hs _ _ ihx ih=>exact .rcons r sz o x xs hs ihx ih
 |nil=>exact .nil
 |cons x xs v vs _ _ ihx ih=>exact .cons x xs v vs ihx ih
theorem RepI.mono {C C'}(h:C.le C'){i}(hr:RepI C i):RepI C' i:=hr.imp ⟨h.k,h.b⟩ h.t
def RIx.below (n:Nat):RIx→Bool
 | .val x _=>Abs.below n x
 | .cells _ xs _=>qo n xs
 | .row _ _ xs _=>qo n xs
 | .lst xs _=>qo n xs
theorem qef (n:Nat)(x:AVal):qo n x.flat=Abs.below n x:=by
 cases x<;>simp[AVal.flat,qo,Abs.below]
theorem RepI.shift {C C'}(n:Nat)(hK:∀r o v,C.K r o=some v→C'.K r o=some v)(hβ:∀b r,b<n→C.β b=some r→C'.β b=some r){i}(hr:RepI C i)(hb:i.below n=true)(hT:∀q,0<n→C.T q→C'.T q:=by first|exact fun _ _ h=>h|exact fun _ h=>absurd h (Nat.lt_irrefl 0)|exact fun _ _ h=>False.elim h):RepI C' i:=by
 induction hr with
 |bool b=>exact .bool b
 |int k n=>exact .int k n
 |str s=>exact .str s
 |lnil sz=>exact .lnil sz
 |list sz xs r o cap hl _ ih=>exact .list sz xs r o cap hl (ih (by simpa[RIx.below,Abs.below]using hb))
 |lemp sz a hs=>exact .lemp sz a hs
 |ms b o len r cap h1 hl=>exact .ms b o len r cap (hβ _ _ (by simpa[RIx.below,Abs.below]using hb) h1) hl
 |ptr b o r h1=>exact .ptr b o r (hβ _ _ (by simpa[RIx.below,Abs.below]using hb) h1)
 |vptr x r o _ ih=>exact .vptr x r o (ih (by simpa[RIx.below,Abs.below,qef]using hb))
 |nilptr=>exact .nilptr
 |map b r h1=>exact .map b r (hβ _ _ (by simpa[RIx.below,Abs.below]using hb) h1)
 |nilmap=>exact .nilmap
 |fn f f' a b as bs hf _ _ iha ihb=>
  have hf':RepFn C' f f':=by
   cases f<;>simp only[RepFn]at *<;>first|exact hf|skip
   obtain⟨r,h1,rfl⟩:=hf
   simp[RIx.below,Abs.below]at hb
   exact⟨r,hβ _ _ hb.1.1 h1,rfl⟩
  have hab:qo n a=true∧qo n b=true:=by
   cases f<;>simp[RIx.below,Abs.below]at hb<;>first|exact hb|exact⟨hb.1.2,hb.2⟩
  exact .fn f f' a b as bs hf' (iha hab.1) (ihb hab.2)
 |nilfn=>exact .nilfn
 |agg cs vs _ ih=>exact .agg cs vs (ih (by simpa[RIx.below,Abs.below]using hb))
 |tup cs vs _ ih=>exact .tup cs vs (ih (by simpa[RIx.below,Abs.below]using hb))
 |undef=>exact .undef
 |any v=>exact .any v
 |pend n a=>exact .pend n a
 |vref b ver len r0 r cap h1 ht hl=>
  have hbn:b<n:=by simpa[RIx.below,Abs.below]using hb
  exact .vref b ver len r0 r cap (hβ _ _ hbn h1) (hT _ (by omega) ht) hl
 |vel b ver off r0 r cap h1 ht=>
  have hbn:b<n:=by simpa[RIx.below,Abs.below]using hb
  exact .vel b ver off r0 r cap (hβ _ _ hbn h1) (hT _ (by omega) ht)
 |cnil r o=>exact .cnil r o
 |ccons r o x xs v hv _ _ ihx ih=>
  simp[RIx.below,qo]at hb ihx ih
  exact .ccons r o x xs v (hK _ _ _ hv) (ihx hb.1) (ih hb.2)
 |rnil r sz o=>exact .rnil r sz o
 |rcons r sz o x xs hs _ _ ihx ih=>
  simp[RIx.below,qo,qef]at hb ihx ih
  exact .rcons r sz o x xs hs (ihx hb.1) (ih hb.2)
 |nil=>exact .nil
 |cons x xs v vs _ _ ihx ih=>
  simp[RIx.below,qo]at hb ihx ih
  exact .cons x xs v vs (ihx hb.1) (ih hb.2)
theorem RepL.length {C xs}:∀ {vs:List Value},RepL C xs vs→vs.length=xs.length:=by
 induction xs with
 |nil=>intro vs h;cases h;rfl
 |cons x xs ih=>intro vs h;cases h with|cons _ _ v vs hx h=>simp[ih h]
theorem RepL.get {C xs}:∀ {vs:List Value},RepL C xs vs→∀ {i:Nat} {x:AVal},xs[i]?=some x→∃v,vs[i]?=some v∧Rep C x v:=by
 induction xs with
 |nil=>intro vs _ i x h;simp at h
 |cons y ys ih=>
  intro vs h i x hi
  cases h with
  |cons _ _ v vs hx h=>
   cases i with
   |zero=>simp at hi;subst hi;exact⟨v,rfl,hx⟩
   |succ i=>simp at hi;obtain⟨w,h1,h2⟩:=ih h hi;exact⟨w,by simpa using h1,h2⟩
theorem RepL.append {C xs ys}:∀ {vs ws:List Value},RepL C xs vs→RepL C ys ws→RepL C (xs++ys) (vs++ws):=by
 induction xs with
 |nil=>intro vs ws h k;cases h;exact k
 |cons x xs ih=>intro vs ws h k;cases h with|cons _ _ v vs hx h=>exact .cons _ _ _ _ hx (ih h k)
theorem RepL.take {C xs}:∀ {vs:List Value} (n:Nat),RepL C xs vs→RepL C (xs.take n) (vs.take n):=by
 induction xs with
 |nil=>intro vs n h;cases h;simpa using RepI.nil
 |cons x xs ih=>intro vs n h;cases h with|cons _ _ v vs hx h=>cases n with
  |zero=>simpa using RepI.nil
  |succ n=>exact .cons _ _ _ _ hx (ih n h)
theorem RepL.drop {C xs}:∀ {vs:List Value} (n:Nat),RepL C xs vs→RepL C (xs.drop n) (vs.drop n):=by
 induction xs with
 |nil=>intro vs n h;cases h;simpa using RepI.nil
 |cons x xs ih=>intro vs n h;cases h with|cons _ _ v vs hx h=>cases n with
  |zero=>exact .cons _ _ _ _ hx h
  |succ n=>simpa using ih n h
theorem RepC.get {C r xs}:∀ {o:Nat},RepC C r xs o→∀ {i:Nat} {x:AVal},xs[i]?=some x→∃v,C.K r (o+i)=some v∧Rep C x v:=by
 induction xs with
 |nil=>intro o _ i x h;simp at h
 |cons y ys ih=>
  intro o h i x hi
  cases h with
  |ccons _ _ _ _ v hv hx h=>
   cases i with
   |zero=>simp at hi;subst hi;exact⟨v,hv,hx⟩
   |succ i=>simp at hi;obtain⟨w,h1,h2⟩:=ih h hi;exact⟨w,by rw[show o+(i+1)=o+1+i from by omega];exact h1,h2⟩
theorem RepC.drop {C r xs}:∀ {o:Nat} (n:Nat),RepC C r xs o→RepC C r (xs.drop n) (o+n):=by
 induction xs with
 |nil=>intro o n h;simpa using RepI.cnil r (o+n)
 |cons x xs ih=>intro o n h;cases h with|ccons _ _ _ _ v hv hx h=>cases n with
  |zero=>exact .ccons _ _ _ _ _ hv hx h
  |succ n=>have:=ih n h;rw[show o+(n+1)=o+1+n from by omega];simpa using this
theorem RepC.take {C r xs}:∀ {o:Nat} (n:Nat),RepC C r xs o→RepC C r (xs.take n) o:=by
 induction xs with
 |nil=>intro o n h;simpa using RepI.cnil r o
 |cons x xs ih=>intro o n h;cases h with|ccons _ _ _ _ v hv hx h=>cases n with
  |zero=>simpa using RepI.cnil r o
  |succ n=>exact .ccons _ _ _ _ _ hv hx (ih n h)
theorem RepC.append {C r xs ys}:∀ {o:Nat},RepC C r xs o→RepC C r ys (o+xs.length)→RepC C r (xs++ys) o:=by
 induction xs with
 |nil=>intro o _ k;simpa using k
 |cons x xs ih=>intro o h k;cases h with|ccons _ _ _ _ v hv hx h=>exact .ccons _ _ _ _ _ hv hx (ih h (by simpa[Nat.add_assoc,Nat.add_comm 1]using k))
theorem RepRow.get {C r sz xs}:∀ {o:Nat},RepRow C r sz xs o→∀ {i:Nat} {x:AVal},xs[i]?=some x→RepC C r x.flat (o+i*sz):=by
 induction xs with
 |nil=>intro o _ i x h;simp at h
 |cons y ys ih=>
  intro o h i x hi
  cases h with
  |rcons _ _ _ _ _ hs hx h=>
   cases i with
   |zero=>simp at hi;subst hi;simpa using hx
   |succ i=>simp at hi;have:=ih h hi;rw[show o+(i+1)*sz=o+sz+i*sz from by rw[Nat.succ_mul];omega];exact this
theorem RepRow.drop {C r sz xs}:∀ {o:Nat} (n:Nat),RepRow C r sz xs o→RepRow C r sz (xs.drop n) (o+n*sz):=by
 induction xs with
 |nil=>intro o n h;simpa using RepI.rnil r sz (o+n*sz)
 |cons x xs ih=>intro o n h;cases h with|rcons _ _ _ _ _ hs hx h=>cases n with
  |zero=>simpa using RepI.rcons _ _ _ _ _ hs hx h
  |succ n=>have:=ih n h;rw[show o+(n+1)*sz=o+sz+n*sz from by rw[Nat.succ_mul];omega];simpa using this
theorem RepRow.take {C r sz xs}:∀ {o:Nat} (n:Nat),RepRow C r sz xs o→RepRow C r sz (xs.take n) o:=by
 induction xs with
 |nil=>intro o n h;simpa using RepI.rnil r sz o
 |cons x xs ih=>intro o n h;cases h with|rcons _ _ _ _ _ hs hx h=>cases n with
  |zero=>simpa using RepI.rnil r sz o
  |succ n=>exact .rcons _ _ _ _ _ hs hx (ih n h)
theorem RepRow.append {C r sz xs ys}:∀ {o:Nat},RepRow C r sz xs o→RepRow C r sz ys (o+xs.length*sz)→RepRow C r sz (xs++ys) o:=by
 induction xs with
 |nil=>intro o _ k;simpa using k
 |cons x xs ih=>
  intro o h k
  cases h with
  |rcons _ _ _ _ _ hs hx h=>
   refine .rcons _ _ _ _ _ hs hx (ih h ?_)
   have e:o+sz+xs.length*sz=o+(x::xs).length*sz:=by simp[Nat.succ_mul];omega
   rw[e];exact k
theorem RepRow.sized {C r sz xs}:∀ {o:Nat},RepRow C r sz xs o→∀x∈xs,x.flat.length=sz:=by
 induction xs with
 |nil=>intro o _ x hx;cases hx
 |cons y ys ih=>
  intro o h x hx
  cases h with
  |rcons _ _ _ _ _ hs _ h=>
   rcases List.mem_cons.1 hx with rfl|hx
   ·exact hs
   ·exact ih h x hx
theorem RepRow.cells {C r sz xs}:∀ {o:Nat},RepRow C r sz xs o→RepC C r (xs.flatMap AVal.flat) o:=by
 induction xs with
 |nil=>intro o _;exact .cnil _ _
 |cons x xs ih=>
  intro o h
  cases h with
  |rcons _ _ _ _ _ hs hx h=>
   simp only[List.flatMap_cons]
   refine RepC.append hx ?_
   rw[hs]
   exact ih h
theorem RepRow.of_cells {C r sz xs}:∀ {o:Nat},RepC C r (xs.flatMap AVal.flat) o→(∀x∈xs,x.flat.length=sz)→RepRow C r sz xs o:=by
 induction xs with
 |nil=>intro o _ _;exact .rnil _ _ _
 |cons x xs ih=>
  intro o h hl
  simp only[List.flatMap_cons]at h
  have h1:=RepC.take (x.flat.length) h
  have h2:=RepC.drop (x.flat.length) h
  rw[List.take_left' rfl]at h1
  rw[List.drop_left' rfl,hl x (by simp)]at h2
  exact .rcons _ _ _ _ _ (hl x (by simp)) h1 (ih h2 fun y hy=>hl y (by simp[hy]))
theorem RepC.vals {C r xs}:∀ {o:Nat},RepC C r xs o→∃vs,RepL C xs vs∧∀j v,vs[j]?=some v→C.K r (o+j)=some v:=by
 induction xs with
 |nil=>intro o _;exact⟨[],.nil,by simp⟩
 |cons x xs ih=>
  intro o h
  cases h with
  |ccons _ _ _ _ v hv hx h=>
   obtain⟨vs,h1,h2⟩:=ih h
   refine⟨v::vs,.cons _ _ _ _ hx h1,?_⟩
   intro j u hj
   cases j with
   |zero=>simp at hj;subst hj;exact hv
   |succ j=>simp at hj;rw[show o+(j+1)=o+1+j from by omega];exact h2 j u hj
inductive Loc where
 |slot (s:Nat)
 |cell (b j:Nat)
 deriving DecidableEq
def Strict (sz:Nat)(xs:List AVal)(cells:Array Value)(elem:TypeId)(len cap:Nat):Prop:=
 ∀(e:Nat) (l:List UInt8),sz=0→xs=[.int .u64 (e:Int),.str l]→elem=e∧len=l.length∧len≤cap∧cap≤maxLen∧cells.size=cap∧cells.toList.take len=l.map fun b=>Value.int .u8 b.toNat
theorem Strict.pos {sz xs cells}{elem:TypeId}{len cap}(h:0<sz):Strict sz xs cells elem len cap:=fun _ _ h0=>by omega
theorem Strict.sized {sz xs cells}{elem:TypeId}{len cap}(h:∀x∈xs,x.flat.length=sz):Strict sz xs cells elem len cap:=fun e l h0 hx=>by
 have:=h (.str l) (by rw[hx];simp)
 simp[AVal.flat,h0]at this
def OwnV (C:Ctx)(ω:Nat→Option Loc)(w:World)(B:Nat)(ℓ:Loc):AVal→Value→Prop
 | .list _ sz xs,.slice (some a) len cap=>ω a.block=some ℓ∧(B≤a.block∨C.W a.block)∧(∀b,C.β b≠some a.block)∧a.spot=none∧a.off=0 ∧
   (∃cells elem,w.heap[a.block]?=some (.cells cells elem (0,0))∧a.off+cap*sz≤cells.size∧Strict sz xs cells elem len cap)∧∀o,a.off+len*sz≤o→C.K a.block o=none
 | .pend n,.pointer (some a)=>ω a.block=some ℓ∧(B≤a.block∨C.W a.block)∧(∀b,C.β b≠some a.block)∧a.spot=none∧a.off=0 ∧
   (∃cells elem,w.heap[a.block]?=some (.cells cells elem (0,0))∧a.off+n*1≤cells.size∧Strict 0 [] cells elem 0 0)∧∀o,a.off+0*0≤o→C.K a.block o=none
 |_,_=>True
structure Ext (w w':World):Prop where
 size:w.heap.size≤w'.heap.size
 same:∀r,r<w.heap.size→w'.heap[r]?=w.heap[r]?
 os:w'.os=w.os
 output:w'.output=w.output
theorem Ext.refl (w:World):Ext w w:=⟨Nat.le_refl _,fun _ _=>rfl,rfl,rfl⟩
theorem Ext.get {w w':World}(h:Ext w w'){r:Nat}{o}(hr:w.heap[r]?=some o):w'.heap[r]?=some o:=by
 rw[h.same r (Array.getElem?_eq_some_iff.1 hr).1];exact hr
theorem Ext.trans {a b c}(h:Ext a b)(k:Ext b c):Ext a c where
 size:=Nat.le_trans h.size k.size
 same r hr:=by rw[k.same r (Nat.lt_of_lt_of_le hr h.size),h.same r hr]
 os:=k.os.trans h.os
 output:=k.output.trans h.output
theorem qat (w:World)(o:Obj)(r:Nat):(w.alloc o).heap[r]?=if r=w.heap.size then some o else w.heap[r]?:=by
 show(w.heap.push o)[r]?=_
 rw[Array.getElem?_push]
theorem Ext.alloc (w:World)(o:Obj)(ho:∀c t fr,o=.cells c t fr→fr=(0,0)):Ext w (w.alloc o) where
 size:=by rw[World.size_alloc];omega
 same r hr:=by rw[qat,if_neg (by omega)]
 os:=rfl
 output:=rfl
theorem Ext.drew (w:World):Ext w w.drew:=⟨Nat.le_refl _,fun _ _=>rfl,rfl,rfl⟩
theorem Ext.cell {w w':World}(h:Ext w w'){a:Addr}{v}(hc:w.cell? a=some v):w'.cell? a=some v:=by
 unfold World.cell? at *
 cases hr:w.heap[a.block]? with
 |none=>rw[hr]at hc;cases hc
 |some o=>rw[h.get hr];rw[hr]at hc;exact hc
theorem OwnV.ext {C:Ctx}{ω:Nat→Option Loc}{w w' B ℓ x v}(h:Ext w w')(ho:OwnV C ω w B ℓ x v):OwnV C ω w' B ℓ x v:=by
 unfold OwnV at *
 split at ho
 ·obtain⟨h1,h2,h3,h4,h8,⟨cells,elem,h5,h6⟩,h7⟩:=ho
  exact⟨h1,h2,h3,h4,h8,⟨cells,elem,h.get h5,h6⟩,h7⟩
 ·obtain⟨h1,h2,h3,h4,h8,⟨cells,elem,h5,h6⟩,h7⟩:=ho
  exact⟨h1,h2,h3,h4,h8,⟨cells,elem,h.get h5,h6⟩,h7⟩
 ·trivial
inductive RepE (C:Ctx):List (AVal×AVal)→List MapEntry→Prop where
 |nil:RepE C [] []
 |cons (k v:AVal) (es:List (AVal×AVal)) (m:MapEntry) (ms:List MapEntry) (hk:Rep C k m.key) (hv:Rep C v m.val) (h:RepE C es ms):RepE C ((k,v)::es) (m::ms)
theorem RepE.imp {C C'}(h:(∀r o v,C.K r o=some v→C'.K r o=some v)∧(∀b r,C.β b=some r→C'.β b=some r)){es ms}(hr:RepE C es ms)(hT:∀q,C.T q→C'.T q:=by first|exact fun _ h=>h|exact fun _ h=>False.elim h):RepE C' es ms:=by
 induction hr with
 |nil=>exact .nil
 |cons k v es m ms hk hv _ ih=>exact .cons k v es m ms (RepI.imp h hk hT) (RepI.imp h hv hT) ih
theorem RepE.mono {C C'}(h:C.le C'){es ms}(hr:RepE C es ms):RepE C' es ms:=hr.imp ⟨h.k,h.b⟩ h.t
def EnvRep (C:Ctx)(e:Env)(tmps:Array Value):Prop:=∀s x,qv s e=some x→∃v,tmps[s]?=some v∧Rep C x.1 v
def qou (P:Program)(nt:Nat)(c:Code)(a:ACode):Prop:=∃h,ye P h nt c=some a
structure LoopRep (P:Program)(C:Ctx)(l:qxh)(lp:Loop):Prop where
 assign:qou P lp.tmps.size lp.assign l.assign
 body:qou P lp.tmps.size lp.body l.body
 params:lp.params.toList=l.params
 fits:∀t∈l.params,t<lp.tmps.size
 nr:jr l.assign=true∧jr l.body=true
 env:EnvRep C l.env lp.tmps
 state:lp.state=match l.pending with
  |none=>.ready
  |some .normal=>.busy
  |some _=>.done
 pending:lp.pending=match l.pending with
  |none=>none
  |some .normal=>none
  |some (.exit id)=>some (.exit id)
  |some .ret=>some .ret
def VecIs (K:Nat→Nat→Option Value)(w:World)(q sz:Nat)(xs:List AVal)(cap:Nat):Prop:=
 ∃cells t vs,w.heap[q]?=some (.cells cells t (0,0))∧xs.length≤cap∧cap*sz≤cells.size∧(∀x∈xs,x.flat.length=sz)∧RepL (.iso K) (xs.flatMap AVal.flat) vs ∧
  (∀(j:Nat) v,vs[j]?=some v→cells[j]?=some v)∧∀v∈vs,v.oneCell'=true
theorem VecIs.imp {K K' w w' q sz cap xs}(hK:∀r o v,K r o=some v→K' r o=some v)(hw:w'.heap[q]?=w.heap[q]?)(h:VecIs K w q sz xs cap):VecIs K' w' q sz xs cap:=by
 obtain⟨cells,t,vs,h1,h2,h3,h4,h5,h6⟩:=h
 exact⟨cells,t,vs,hw.trans h1,h2,h3,h4,RepI.imp (C:=.iso K) (C':=.iso K') ⟨hK,fun _ _ h=>h⟩ h5,h6⟩
abbrev qdo (C:Ctx)(ω:Nat→Option Loc)(w:World)(B b q n cap:Nat):Prop:=OwnV C ω w B (.cell b 0) (.list false 0 []) (.slice (some ⟨q,0,none⟩) n cap)
def VecRel (C:Ctx)(ω:Nat→Option Loc)(w:World)(B b r sz ver:Nat)(xs:List AVal):Prop:=
 ∃q cap,C.T (r,ver,q,cap)∧(∀x,C.T x→x.1=r→x.2.1≤ver∧(x.2.1=ver→x.2.2=(q,cap)))∧VecIs C.K w q sz xs cap∧(q=r∨qdo C ω w B b q xs.length cap)∧∃cs t,w.heap[r]?=some (.cells cs t (0,0))
theorem VecRel.imp {C C' ω ω' w w' B B' b r sz ver xs}(hK:∀r o v,C.K r o=some v→C'.K r o=some v)(hT:∀q,C.T q→C'.T q)(hT':∀x,C'.T x→x.1=r→C.T x)(hw:w'.heap[r]?=w.heap[r]?)
  (hq:∀q n cap,qdo C ω w B b q n cap→w'.heap[q]?=w.heap[q]?∧qdo C' ω' w' B' b q n cap) (h:VecRel C ω w B b r sz ver xs):VecRel C' ω' w' B' b r sz ver xs:=by
 obtain⟨q,cap,h1,h2,h3,h4,cs,t,h5⟩:=h
 refine⟨q,cap,hT _ h1,fun x hx hr=>h2 x (hT' x hx hr) hr,?_,?_,cs,t,hw.trans h5⟩
 ·rcases h4 with rfl|h4
  ·exact h3.imp hK hw
  ·exact h3.imp hK (hq _ _ _ h4).1
 ·exact h4.imp id fun h=>(hq _ _ _ h).2
def BoxRel (P:Program)(C:Ctx)(ω:Nat→Option Loc)(w:World)(B b r:Nat):ABox→Prop
 | .hole=>False
 | .cells cs=>∃vs elem,w.heap[r]?=some (.cells vs elem (0,0))∧cs.length≤vs.size ∧
   ∀j c,cs[j]?=some c→∃v,vs[j]?=some v∧v.oneCell'=true∧Rep C c.1 v∧(c.2=true→OwnV C ω w B (.cell b j) c.1 v)
 | .map es=>∃ents clock,w.heap[r]?=some (.map ents clock)∧RepE C es ents.toList
 | .iter s pos=>w.heap[r]?=some (.stringIter ⟨⟨s⟩⟩ pos)
 | .loop l=>∃lp,w.heap[r]?=some (.loop lp)∧LoopRep P C l lp
 | .bld t e l=>∃p v,w.heap[r]?=some (.cells #[p,v] t (0,0))∧(p=.pointer none∨p=.pointer (some ⟨r,0,none⟩))∧((v=.slice none 0 0∧l=[])∨∃a len cap,v=.slice (some a) len cap)∧OwnV C ω w B (.cell b 1) (.list false 0 [.int .u64 (e:Int),.str l]) v
 | .dead=>∃cs t,w.heap[r]?=some (.cells cs t (0,0))
 | .vec sz ver xs=>VecRel C ω w B b r sz ver xs
def kh : String := "internal/strconv.uint64pow10"
def qc3 : String := "internal/bytealg.MaxLen"
def q51 (P:Program)(w:World)(g:Nat):Prop:=
 (P.globalNamed kh=some g→Lib.TabIs P w kh .u64 Lib.pow10Tab)∧(P.globalNamed qc3=some g→∃m,w.cell? ⟨g,0,none⟩=some (.int .i64 m)) ∧
 (∀x∈qih,P.globalNamed x.1=some g→∀j n,x.2[j]?=some n→w.cell? ⟨g,j,none⟩=some (.int .i64 n))
def qsm (P:Program)(g:Nat):Prop:=P.globalNamed kh=some g∨P.globalNamed qc3=some g∨∃x∈qih,P.globalNamed x.1=some g
def Tabs (P:Program)(w:World):Prop:=∀g,qsm P g→g<w.heap.size∧q51 P w g
theorem Tabs.same {P w w'}(h:Tabs P w)(hs:w.heap.size≤w'.heap.size)(hg:∀g,qsm P g→w'.heap[g]?=w.heap[g]?):Tabs P w':=by
 intro g hn
 obtain⟨h1,h2,h3,h5⟩:=h g hn
 refine⟨Nat.lt_of_lt_of_le h1 hs,fun hn2=>?_,fun hn2=>?_,fun x hx hn2 j n hj=>?_⟩
 ·have h2:=h2 hn2
  unfold Lib.TabIs World.var? at *
  rw[hn2]at h2 ⊢
  simp only[Option.bind_some]at h2 ⊢
  rw[hg g hn]
  exact h2
 ·obtain⟨m,h4⟩:=h3 hn2
  refine⟨m,?_⟩
  unfold World.cell? at *
  simp only[]at h4 ⊢
  rw[hg g hn]
  exact h4
 ·have h4:=h5 x hx hn2 j n hj
  unfold World.cell? at *
  simp only[]at h4 ⊢
  rw[hg g hn]
  exact h4
theorem Tabs.none {P w}(h:P.globalNamed kh=none∧P.globalNamed qc3=none∧∀x∈qih,P.globalNamed x.1=none):Tabs P w:=fun g hn=>by
 rcases hn with hn|hn|⟨x,hx,hn⟩
 ·rw[h.1]at hn;cases hn
 ·rw[h.2.1]at hn;cases hn
 ·rw[h.2.2 x hx]at hn;cases hn
def jax (P:Program)(w0:World)(C0:Ctx):Prop:=Tabs P w0∧∀g,qsm P g→(∀b,C0.β b≠some g)∧¬C0.W g
structure MInv (P:Program)(C:Ctx)(ω:Nat→Option Loc)(w0:World)(C0:Ctx)(h:qi)(w:World):Prop where
 base:jax P w0 C0
 know:∀r o v,C.K r o=some v→w.cell? ⟨r,o,none⟩=some v
 kone:∀r o v,C.K r o=some v→v.oneCell'=true
 apart:∀b r o,C.β b=some r→C.K r o=none
 inj:∀b b' r,C.β b=some r→C.β b'=some r→b=b'
 lt:∀b r,C.β b=some r→r<w.heap.size∧b<h.length
 size:w0.heap.size≤w.heap.size
 frame:∀r,r<w0.heap.size→(∀b,C0.β b≠some r)→¬C0.W r→w.heap[r]?=w0.heap[r]?
 dfr:∀r,C.D r→w.heap[r]?=some (.deferred (some []))
 os:w.os=w0.os
 output:w.output=w0.output
 fresh:∀b r,C.β b=some r→C0.β b=some r∨w0.heap.size≤r∨C0.W r
 grown:C0.le C
 old:∀r o,r<w0.heap.size→¬C0.W r→C.K r o=C0.K r o
 box:∀b x r,h[b]?=some x→C.β b=some r→BoxRel P C ω w w0.heap.size b r x
 tlt:∀q,C.T q→q.1<w.heap.size
def EnvRel (C:Ctx)(ω:Nat→Option Loc)(w:World)(B:Nat)(e:Env)(tmps:Array Value):Prop:=
 ∀s x,qv s e=some x→∃v,tmps[s]?=some v∧Rep C x.1 v∧(x.2=true→OwnV C ω w B (.slot s) x.1 v)
theorem EnvRel.rep {C ω w B e tmps}(h:EnvRel C ω w B e tmps):EnvRep C e tmps:=
 fun s x hx=>let ⟨v,h1,h2,_⟩:=h s x hx; ⟨v,h1,h2⟩
theorem BoxRel.ext {P:Program}{C:Ctx}{ω w w' B b r x}(h:Ext w w')(hb:BoxRel P C ω w B b r x):BoxRel P C ω w' B b r x:=by
 cases x with
 |hole=>exact hb
 |cells cs=>
  obtain⟨vs,elem,h1,h2,h3⟩:=hb
  exact⟨vs,elem,h.get h1,h2,fun j c hc=>let ⟨v,a,q,b,d⟩:=h3 j c hc; ⟨v,a,q,b,fun e=>(d e).ext h⟩⟩
 |map es=>obtain⟨ents,clock,h1,h2⟩:=hb;exact⟨ents,clock,h.get h1,h2⟩
 |iter s pos=>exact h.get hb
 |loop l=>obtain⟨lp,h1,h2⟩:=hb;exact⟨lp,h.get h1,h2⟩
 |bld t e l=>obtain⟨p,v,h1,h2,h3,h4⟩:=hb;exact⟨p,v,h.get h1,h2,h3,h4.ext h⟩
 |dead=>obtain⟨cs,t,h1⟩:=hb;exact⟨cs,t,h.get h1⟩
 |vec sz ver xs=>
  obtain⟨q,cap,h1,h2,h3,h4,cs,t,h5⟩:=hb
  have hex:∀ {k:Nat} {o:Obj},w.heap[k]?=some o→w'.heap[k]?=w.heap[k]?:=fun hk=>by rw[h.get hk,hk]
  refine⟨q,cap,h1,h2,h3.imp (fun _ _ _ h=>h) ?_,h4.imp id fun h4=>h4.ext h,cs,t,h.get h5⟩
  obtain⟨cells,t',_,g1,_⟩:=h3
  exact hex g1
theorem MInv.tabs {P C ω w0 w C0 hp}(m:MInv P C ω w0 C0 hp w):Tabs P w:=
 m.base.1.same m.size fun g hg=>m.frame g (m.base.1 g hg).1 (m.base.2 g hg).1 (m.base.2 g hg).2
theorem MInv.ext {P:Program}{C:Ctx}{ω w0 w w' C0 hp}(h:Ext w w')(m:MInv P C ω w0 C0 hp w):MInv P C ω w0 C0 hp w' where
 base:=m.base
 know r o v hk:=h.cell (m.know r o v hk)
 kone:=m.kone
 apart:=m.apart
 inj:=m.inj
 lt b r hb:=⟨Nat.lt_of_lt_of_le (m.lt b r hb).1 h.size,(m.lt b r hb).2⟩
 size:=Nat.le_trans m.size h.size
 frame r hr hn hw:=by rw[h.same r (Nat.lt_of_lt_of_le hr m.size)];exact m.frame r hr hn hw
 dfr r hr:=h.get (m.dfr r hr)
 os:=h.os.trans m.os
 output:=h.output.trans m.output
 fresh:=m.fresh
 grown:=m.grown
 old:=m.old
 box b x r hx hb:=(m.box b x r hx hb).ext h
 tlt q hq:=Nat.lt_of_lt_of_le (m.tlt q hq) h.size
theorem EnvRel.ext {C ω w w' B e tmps}(h:Ext w w')(he:EnvRel C ω w B e tmps):EnvRel C ω w' B e tmps:=
 fun s x hx=>let ⟨v,a,b,d⟩:=he s x hx; ⟨v,a,b,fun e=>(d e).ext h⟩
def Ctx.put (C:Ctx)(r off:Nat)(vs:List Value):Ctx:={ C with K:=fun b o=>if b=r∧off≤o∧o<off+vs.length then vs[o-off]? else C.K b o }
theorem Ctx.put_le {C:Ctx}{r off}(vs:List Value)(h:∀o,off≤o→C.K r o=none):C.le (C.put r off vs):=
 ⟨fun b o v hk=>(by
  simp only[Ctx.put]
  rw[if_neg]
  ·exact hk
  ·rintro ⟨rfl,h1,_⟩;rw[h o h1]at hk;cases hk),fun _ _ h=>h,rfl,fun _ h=>h,fun _ h=>h⟩
theorem Ctx.put_at {C:Ctx}{r off vs j v}(h:vs[j]?=some v):(C.put r off vs).K r (off+j)=some v:=by
 have hj:j<vs.length:=(List.getElem?_eq_some_iff.1 h).1
 show(if r=r∧off≤off+j∧off+j<off+vs.length then vs[off+j-off]? else C.K r (off+j))=some v
 rw[if_pos ⟨rfl,by omega,by omega⟩,show off+j-off=j from by omega,h]
theorem RepC.of_vals {C r xs}:∀ {vs:List Value} {o:Nat},RepL C xs vs→(∀j v,vs[j]?=some v→C.K r (o+j)=some v)→RepC C r xs o:=by
 induction xs with
 |nil=>intro vs o _ _;exact .cnil _ _
 |cons x xs ih=>
  intro vs o h hk
  cases h with
  |cons _ _ v vs hx h=>
   refine .ccons _ _ _ _ v (by simpa using hk 0 v rfl) hx (ih h ?_)
   intro j u hj
   rw[show o+1+j=o+(j+1)from by omega]
   exact hk (j+1) u (by simpa using hj)
theorem Ctx.put_cells {C:Ctx}{r off xs vs}(hn:∀o,off≤o→C.K r o=none)(h:RepL C xs vs):RepC (C.put r off vs) r xs off:=
 RepC.of_vals (RepI.mono (Ctx.put_le vs hn) h) fun _ _ hj=>Ctx.put_at hj
theorem MInv.K_new {P C ω w0 w C0 hp}(m:MInv P C ω w0 C0 hp w)(r:Nat)(hr:w.heap.size≤r)(o:Nat):C.K r o=none:=by
 cases h:C.K r o with
 |none=>rfl
 |some v=>
  have:=m.know r o v h
  unfold World.cell? at this
  rw[show w.heap[(⟨r,o,none⟩:Addr).block]?=none from Array.getElem?_eq_none hr]at this
  cases this
theorem OwnV.put {C ω w B r off ℓ x v}(vs:List Value)(hr:w.heap.size≤r∨ω r≠some ℓ)(ho:OwnV C ω w B ℓ x v):OwnV (C.put r off vs) ω w B ℓ x v:=by
 unfold OwnV at *
 split at ho
 ·rename_i a len cap
  obtain⟨h1,h2,h3,h4,h8,⟨cells,elem,h5,h6⟩,h7⟩:=ho
  have hlt:a.block<w.heap.size:=(Array.getElem?_eq_some_iff.1 h5).1
  refine⟨h1,h2,h3,h4,h8,⟨cells,elem,h5,h6⟩,fun o ho=>?_⟩
  simp only[Ctx.put]
  rw[if_neg]
  ·exact h7 o ho
  ·rintro ⟨rfl,_⟩
   rcases hr with hr|hr
   ·omega
   ·exact hr h1
 ·rename_i a
  obtain⟨h1,h2,h3,h4,h8,⟨cells,elem,h5,h6⟩,h7⟩:=ho
  have hlt:a.block<w.heap.size:=(Array.getElem?_eq_some_iff.1 h5).1
  refine⟨h1,h2,h3,h4,h8,⟨cells,elem,h5,h6⟩,fun o ho=>?_⟩
  simp only[Ctx.put]
  rw[if_neg]
  ·exact h7 o ho
  ·rintro ⟨rfl,_⟩
   rcases hr with hr|hr
   ·omega
   ·exact hr h1
 ·trivial
theorem LoopRep.imp {P C C'}(h:(∀r o v,C.K r o=some v→C'.K r o=some v)∧(∀b r,C.β b=some r→C'.β b=some r)){l lp}(k:LoopRep P C l lp)(hT:∀q,C.T q→C'.T q:=by first|exact fun _ h=>h|exact fun _ h=>False.elim h):LoopRep P C' l lp:=
 { k with env:=fun s x hx=>let ⟨v,a,b⟩:=k.env s x hx; ⟨v,a,RepI.imp h b hT⟩ }
theorem LoopRep.mono {P C C'}(h:C.le C'){l lp}(k:LoopRep P C l lp):LoopRep P C' l lp:=k.imp ⟨h.k,h.b⟩ h.t
theorem BoxRel.imp {P C C' ω ω' w w' B B' b r x}(h:(∀r o v,C.K r o=some v→C'.K r o=some v)∧(∀b r,C.β b=some r→C'.β b=some r))(hw:w'.heap[r]?=w.heap[r]?)
  (ho:∀j y v,OwnV C ω w B (.cell b j) y v→OwnV C' ω' w' B' (.cell b j) y v) (hb:BoxRel P C ω w B b r x) (hT:∀q,C.T q→C'.T q:=by exact fun _ h=>h) (hT':∀x,C'.T x→x.1=r→C.T x:=by exact fun _ h _=>h)
  (hq:∀q n cap,qdo C ω w B b q n cap→w'.heap[q]?=w.heap[q]?:=by exact fun _ _ _ _=>rfl):BoxRel P C' ω' w' B' b r x:=by
 cases x with
 |hole=>exact hb
 |cells cs=>
  obtain⟨vs,elem,h1,h2,h3⟩:=hb
  exact⟨vs,elem,hw.trans h1,h2,fun j c hc=>let ⟨v,a,q,b,d⟩:=h3 j c hc; ⟨v,a,q,RepI.imp h b hT,fun e=>ho _ _ _ (d e)⟩⟩
 |map es=>obtain⟨ents,clock,h1,h2⟩:=hb;exact⟨ents,clock,hw.trans h1,h2.imp h hT⟩
 |iter s pos=>exact hw.trans hb
 |loop l=>obtain⟨lp,h1,h2⟩:=hb;exact⟨lp,hw.trans h1,h2.imp h hT⟩
 |bld t e l=>obtain⟨p,v,h1,h2,h3,h4⟩:=hb;exact⟨p,v,hw.trans h1,h2,h3,ho _ _ _ h4⟩
 |dead=>obtain⟨cs,t,h1⟩:=hb;exact⟨cs,t,hw.trans h1⟩
 |vec sz ver xs=>exact VecRel.imp h.1 hT hT' hw (fun q n cap k=>⟨hq q n cap k,ho _ _ _ k⟩) hb
theorem BoxRel.mono {P C C' ω ω' w B b r x}(h:C.le C')
  (ho:∀j y v,OwnV C ω w B (.cell b j) y v→OwnV C' ω' w B (.cell b j) y v) (hb:BoxRel P C ω w B b r x) (hT':∀x,C'.T x→x.1=r→C.T x:=by exact fun _ h _=>h):BoxRel P C' ω' w B b r x:=hb.imp ⟨h.k,h.b⟩ rfl ho h.t hT'
theorem MInv.newRow {P:Program}{C ω w0 w C0 hp}(m:MInv P C ω w0 C0 hp w)(cells:Array Value)(t:TypeId)(vs:List Value)
  (hv:∀(j:Nat) v,vs[j]?=some v→cells[j]?=some v) (h1:∀v∈vs,v.oneCell'=true):
  MInv P (C.put w.heap.size 0 vs) ω w0 C0 hp (w.alloc (.cells cells t)):=by
 have hx:Ext w (w.alloc (.cells cells t)):=Ext.alloc w _ (fun c t fr h=>by cases h;rfl)
 have m':=m.ext hx
 have hn:∀o,C.K w.heap.size o=none:=m.K_new _ (Nat.le_refl _)
 have hle:=Ctx.put_le (C:=C) (off:=0) vs (fun o _=>hn o)
 refine { m' with know:=?_,kone:=?_,apart:=?_,grown:=Ctx.le_trans m.grown hle,old:=?_,box:=?_ }
 ·intro r o v hk
  simp only[Ctx.put]at hk
  split at hk
  ·rename_i hc
   obtain⟨rfl,_,_⟩:=hc
   simp only[World.cell?]
   rw[qat,if_pos rfl]
   simpa using hv _ _ hk
  ·exact m'.know r o v hk
 ·intro r o v hk
  simp only[Ctx.put]at hk
  split at hk
  ·exact h1 v (List.mem_of_getElem? hk)
  ·exact m.kone r o v hk
 ·intro b r o hb
  have:=(m.lt b r hb).1
  simp only[Ctx.put]
  rw[if_neg (by omega)]
  exact m.apart b r o hb
 ·intro r o hr hw
  have:=m.size
  simp only[Ctx.put]
  rw[if_neg (by omega)]
  exact m.old r o hr hw
 ·intro b x r hx' hb
  exact((m.box b x r hx' hb).mono (ω':=ω) hle fun j y v ho=>ho.put vs (.inl (Nat.le_refl _))).ext hx
theorem EnvRel.put {C:Ctx}{ω w B e tmps r off}(vs:List Value)(hr:w.heap.size≤r∨∀s,qv s e≠none→(qv s e).any (·.2)=true→ω r≠some (.slot s))(hn:∀o,off≤o→C.K r o=none)(he:EnvRel C ω w B e tmps):EnvRel (C.put r off vs) ω w B e tmps:=
 fun s x hx=>let ⟨v,a,b,d⟩:=he s x hx; ⟨v,a,RepI.mono (Ctx.put_le vs hn) b,fun e=>(d e).put vs (hr.imp id fun h=>h s (by rw[hx];simp) (by rw[hx];exact e))⟩
def own1 (ω:Nat→Option Loc)(r:Nat)(ℓ:Loc):Nat→Option Loc:=fun b=>if b=r then some ℓ else ω b
theorem OwnV.other {C ω w B r ℓ ℓ' x v}(hr:ω r≠some ℓ∨ℓ=ℓ')(ho:OwnV C ω w B ℓ x v):OwnV C (Abs.own1 ω r ℓ') w B ℓ x v:=by
 unfold OwnV at *
 split at ho
 ·rename_i a len cap
  obtain⟨h1,h2⟩:=ho
  refine⟨?_,h2⟩
  simp only[Abs.own1]
  by_cases hb:a.block=r
  ·rw[if_pos hb]
   rcases hr with hr|hr
   ·exact absurd (hb▸h1) hr
   ·rw[hr]
  ·rw[if_neg hb];exact h1
 ·rename_i a
  obtain⟨h1,h2⟩:=ho
  refine⟨?_,h2⟩
  simp only[Abs.own1]
  by_cases hb:a.block=r
  ·rw[if_pos hb]
   rcases hr with hr|hr
   ·exact absurd (hb▸h1) hr
   ·rw[hr]
  ·rw[if_neg hb];exact h1
 ·trivial
theorem OwnV.fresh {C ω w B r ℓ ℓ' x v}(hr:w.heap.size≤r)(ho:OwnV C ω w B ℓ x v):OwnV C (Abs.own1 ω r ℓ') w B ℓ x v:=by
 unfold OwnV at *
 split at ho
 ·rename_i a len cap
  obtain⟨h1,h2,h3,h4,h8,⟨cells,elem,h5,h6⟩,h7⟩:=ho
  have hlt:a.block<w.heap.size:=(Array.getElem?_eq_some_iff.1 h5).1
  refine⟨?_,h2,h3,h4,h8,⟨cells,elem,h5,h6⟩,h7⟩
  simp only[Abs.own1]
  rw[if_neg (by omega)]
  exact h1
 ·rename_i a
  obtain⟨h1,h2,h3,h4,h8,⟨cells,elem,h5,h6⟩,h7⟩:=ho
  have hlt:a.block<w.heap.size:=(Array.getElem?_eq_some_iff.1 h5).1
  refine⟨?_,h2,h3,h4,h8,⟨cells,elem,h5,h6⟩,h7⟩
  simp only[Abs.own1]
  rw[if_neg (by omega)]
  exact h1
 ·trivial
theorem EnvRel.fresh {C ω w B r ℓ e tmps}(hr:w.heap.size≤r)(he:EnvRel C ω w B e tmps):EnvRel C (Abs.own1 ω r ℓ) w B e tmps:=
 fun s x hx=>let ⟨v,a,b,d⟩:=he s x hx; ⟨v,a,b,fun e=>(d e).fresh hr⟩
theorem MInv.fresh1 {P C ω w0 w C0 hp}(m:MInv P C ω w0 C0 hp w)(r:Nat)(ℓ:Loc)(hr:w.heap.size≤r):MInv P C (Abs.own1 ω r ℓ) w0 C0 hp w:=
 { m with box:=fun b x r' hx hb=>(m.box b x r' hx hb).mono (Ctx.le_refl C) fun _ _ _ ho=>ho.fresh hr }
theorem MInv.own1 {P C ω w0 w C0 hp}(m:MInv P C ω w0 C0 hp w)(r:Nat)(ℓ:Loc)(hr:∀b j,ω r≠some (.cell b j)):MInv P C (Abs.own1 ω r ℓ) w0 C0 hp w:=
 { m with box:=fun b x r' hx hb=>(m.box b x r' hx hb).mono (Ctx.le_refl C) fun j _ _ ho=>ho.other (.inl (hr b j)) }
def jk (P:Program)(C0:Ctx)(w0:World)(C:Ctx)(tmps:Array Value)(d:Loc)(env:Env)(res:ORes)(v:Value)(w':World):Prop:=
 ∃C' ω',C.le C'∧MInv P C' ω' w0 C0 res.heap w'∧EnvRel C' ω' w' w0.heap.size (jt env res.strip) tmps∧Rep C' res.v v∧(res.own=true→OwnV C' ω' w' w0.heap.size d res.v v)
theorem qkz (C:Ctx){v x}(h:qf6 v=some x):Rep C x v:=by
 unfold qf6 at h
 split at h<;>first|cases h|skip
 ·exact .bool _
 ·exact .int _ _
 ·exact .str _
 ·exact .lnil _
 ·exact .nilptr
 ·exact .nilmap
 ·exact .nilfn
theorem qdf (C:Ctx):∀ {vs:List Value} {xs:List AVal},qbp vs=some xs→RepL C xs vs
 | [],xs,h=>by simp[qbp]at h;subst h;exact .nil
 |v::vs,xs,h=>by
  simp only[qbp]at h
  split at h
  ·rename_i x hx
   split at h
   ·rename_i ys hys
    cases h
    exact .cons _ _ _ _ (qkz C hx) (qdf C hys)
   ·cases h
  ·cases h
theorem qi4 (C:Ctx){v x}(h:ofValue v=some x):Rep C x v:=by
 unfold ofValue at h
 split at h
 ·rename_i cs
  split at h
  ·rename_i xs hx
   cases h
   exact .agg _ _ (qdf C hx)
  ·cases h
 ·exact qkz C h
section
variable {P:Program}{C C0:Ctx}{ω:Nat→Option Loc}{w w0:World}{hp:qi}{env:Env}{a:Act}{B:Nat}
theorem qn {x y v}(he:EnvRep C env a.tmps)(hc:ql x=some y)(hv:qe env y=some v):Rep C v (a.eval x):=by
 cases x with
 |tmp t=>
  simp only[ql]at hc
  cases hc
  simp only[qe]at hv
  split at hv
  ·rename_i x hx
   cases hv
   obtain⟨u,h1,h2⟩:=he t x hx
   have:a.eval (.tmp t)=u:=by simp[Act.eval,Array.getD_eq_getD_getElem?,h1]
   rw[this];exact h2
  ·cases hv
 |const u=>
  simp only[ql]at hc
  split at hc
  ·rename_i z hz
   cases hc
   simp only[qe]at hv
   cases hv
   exact qi4 C hz
  ·cases hc
 |func f=>
  simp only[ql]at hc
  cases hc
  simp only[qe]at hv
  cases hv
  exact .fn (.func f) (.func f) [] [] [] [] rfl .nil .nil
 |global g=>simp[ql]at hc
theorem qcz (he:EnvRep C env a.tmps):∀ {xs:List Operand} {ys:List qz} {vs:List AVal},qby xs=some ys→zw env ys=some vs→RepL C vs (xs.map a.eval)
 | [],ys,vs,hc,hv=>by simp[qby]at hc;subst hc;simp[zw]at hv;subst hv;exact .nil
 |x::xs,ys,vs,hc,hv=>by
  simp only[qby]at hc
  split at hc
  ·rename_i y hy
   split at hc
   ·rename_i zs hzs
    cases hc
    simp only[zw]at hv
    split at hv
    ·rename_i v hv1
     split at hv
     ·rename_i us hus
      cases hv
      exact .cons _ _ _ _ (qn he hy hv1) (qcz he hzs hus)
     ·cases hv
    ·cases hv
   ·cases hc
  ·cases hc
theorem Rep.bool_inv {b v}(h:Rep C (.bool b) v):v=.bool b:=by cases h;rfl
theorem Rep.int_inv {k n v}(h:Rep C (.int k n) v):v=.int k n:=by cases h;rfl
theorem Rep.str_inv {s v}(h:Rep C (.str s) v):v=.string ⟨⟨s⟩⟩:=by cases h;rfl
theorem Rep.ptr_inv {b o v}(h:Rep C (.ptr b o) v):∃r,C.β b=some r∧v=.pointer (some ⟨r,o,none⟩):=by cases h;exact⟨_,‹_›,rfl⟩
theorem Rep.vptr_inv {x v}(h:Rep C (.vptr x) v):∃r o,v=.pointer (some ⟨r,o,none⟩)∧RepC C r x.flat o:=by cases h;exact⟨_,_,rfl,‹_›⟩
theorem Rep.agg_inv {cs v}(h:Rep C (.agg cs) v):∃vs,v=.agg ⟨vs⟩∧RepL C cs vs:=by cases h;exact⟨_,rfl,‹_›⟩
theorem Rep.tup_inv {cs v}(h:Rep C (.tup cs) v):∃vs,v=.tuple ⟨vs⟩∧RepL C cs vs:=by cases h;exact⟨_,rfl,‹_›⟩
theorem Rep.ms_inv {b o len v}(h:Rep C (.ms b o len) v):∃r cap,C.β b=some r∧len≤cap∧v=.slice (some ⟨r,o,none⟩) len cap:=by cases h;exact⟨_,_,‹_›,‹_›,rfl⟩
theorem Rep.list_inv {n sz xs v}(h:Rep C (.list n sz xs) v):
  (n=true∧xs=[]∧v=.slice none 0 0)∨(n=false∧∃r o cap,v=.slice (some ⟨r,o,none⟩) xs.length cap∧xs.length≤cap∧RepRow C r sz xs o)∨(n=false∧xs=[]∧∃a,a.spot≠none∧v=.slice (some a) 0 0):=by
 cases h
 ·exact .inl ⟨rfl,rfl,rfl⟩
 ·exact .inr (.inl ⟨rfl,_,_,_,rfl,‹_›,‹_›⟩)
 ·exact .inr (.inr ⟨rfl,rfl,_,‹_›,rfl⟩)
theorem Rep.len {n sz xs v}(h:Rep C (.list n sz xs) v):∃b cap,v=.slice b xs.length cap:=by
 rcases h.list_inv with⟨rfl,rfl,rfl⟩|⟨rfl,r,o,cap,rfl,_,_⟩|⟨rfl,rfl,a,_,rfl⟩
 ·exact⟨none,0,rfl⟩
 ·exact⟨_,_,rfl⟩
 ·exact⟨_,_,rfl⟩
theorem add_lit (r o n:Nat):(⟨r,o,none⟩:Addr).add n=⟨r,o+n,none⟩:=by unfold Addr.add;split<;>simp_all
theorem qax (k:IntKind)(n:Int):qa k n=k.wrap n:=by
 unfold qa
 cases h:qbg k n with
 |false=>rfl
 |true=>
  simp only[cond_true]
  symm
  have key:∀m:Nat,IntKind.min k≤n→n≤IntKind.max k→k.wrap n=n:=by
   intro _ h1 h2
   unfold IntKind.wrap
   cases k<;>simp[IntKind.bits,IntKind.signed,IntKind.min,IntKind.max]at *<;>omega
  refine key 0 ?_ ?_
  ·cases k<;>cases n<;>simp[qbg,IntKind.min,IntKind.signed,IntKind.bits]at *<;>omega
  ·cases k<;>cases n<;>simp[qbg,IntKind.max,IntKind.signed,IntKind.bits]at *<;>omega
theorem qbn {t:TypeId}{b}(h:zb P t=some b)(w:World):(isAgg t).run P w=.ok b w:=by
 unfold zb at h
 unfold isAgg
 cases hu:P.underlying t with
 |none=>simp[hu]at h
 |some d=>rw[hu]at h;simp[run_underlying hu];cases d<;>simp at h<;>subst h<;>rfl
theorem j9 {t:TypeId}{n}(h:qy P t=some n)(w:World):(sizeOf t).run P w=.ok n w:=by
 unfold qy at h
 cases hi:P.info? t with
 |none=>simp[hi]at h
 |some i=>simp[hi]at h;simp[sizeOf,typeInfo,hi,h]
theorem qn2 {t:TypeId}{ag n off cs vs x}(hg:zb P t=some ag)(hn:qy P t=some n)(hp:part ag cs off n=some x)(hr:RepL C cs vs)(w:World):
  ∃v,(Go.part t ⟨vs⟩ off).run P w=.ok v w∧Rep C x v:=by
 unfold part at hp
 cases ag with
 |true=>
  simp only[cond_true]at hp
  cases hb:Nat.ble (off+n) cs.length with
  |false=>simp[hb]at hp
  |true=>
   simp[hb]at hp
   subst hp
   refine⟨.agg ⟨(vs.drop off).take n⟩,?_,.agg _ _ ((hr.drop off).take n)⟩
   simp[Go.part,qbn hg,j9 hn]
 |false=>
  simp only[cond_false]at hp
  obtain⟨v,h1,h2⟩:=hr.get hp
  exact⟨v,by simp[Go.part,qbn hg,h1],h2⟩
theorem qh1 (a:List UInt8):(⟨⟨a⟩⟩:ByteArray).toList=a:=by
 rw[ByteArray.toList_eq]
end
theorem qc8:∀ {ks:List Kd} {xs ys:List AVal} (ks':List Kd) (xs' ys':List AVal),xs.length=ks.length→ys.length=ks.length →
  zg (ks++ks') (xs++xs') (ys++ys')=match zg ks xs ys with|some true=>zg ks' xs' ys'|r=>r
 | [],[],[],ks',xs',ys',_,_=>by simp[zg]
 |k::ks,x::xs,y::ys,ks',xs',ys',h,h'=>by
  simp only[List.cons_append,zg]
  cases he:yu k x y with
  |none=>simp
  |some b=>cases b with
   |false=>simp
   |true=>simpa using qc8 ks' xs' ys' (by simpa using h) (by simpa using h')
 | [],_::_,_,_,_,_,h,_=>by simp at h
 | [],[],_::_,_,_,_,_,h=>by simp at h
 |_::_,[],_,_,_,_,h,_=>by simp at h
 |_::_,_::_,[],_,_,_,_,h=>by simp at h
def qdb (ag:Bool)(us:List Value):Value:=if ag then .agg ⟨us⟩else us.headD undef
def qrn:TypeDesc→Bool
 | .struct _=>true
 | .array _ _=>true
 |_=>false
section
variable {P:Program}{C:Ctx}
theorem qum {t:TypeId}{d:TypeDesc}(h:P.underlying t=some d):zb P t=some (qrn d):=by
 unfold zb
 rw[h]
 cases d<;>rfl
theorem qe4 {t:TypeId}{ag n off us}(hg:zb P t=some ag)(hn:qy P t=some n)(h1:ag=false→n=1)(hl:off+n≤us.length)(w:World):
  (Go.part t ⟨us⟩ off).run P w=.ok (qdb ag ((us.drop off).take n)) w:=by
 cases ag with
 |true=>simp[Go.part,qbn hg,j9 hn,qdb]
 |false=>
  obtain rfl:=h1 rfl
  have hlt:off<us.length:=by omega
  simp only[Go.part,Sem.run_bind,qbn hg,Result.andThen_ok,qdb,Bool.false_eq_true,if_false]
  have e:(⟨us⟩:Array Value)[off]?=some us[off]:=by
   show(List.toArray us)[off]?=_
   rw[List.getElem?_toArray,List.getElem?_eq_getElem hlt]
  rw[e,List.drop_eq_getElem_cons hlt]
  rfl
def qv7 (P:Program)(C:Ctx)(n:Nat)(t:TypeId)(ks:List Kd):Prop:=
 ∃ag,zb P t=some ag∧qy P t=some ks.length∧(ag=false→ks.length=1)∧∀d,n≤d→∀xs ys us vs b w,RepL C xs us→RepL C ys vs→xs.length=ks.length→ys.length=ks.length→zg ks xs ys=some b →
  (Op.equalIn d t (qdb ag us) (qdb ag vs)).run P w=.ok b w
theorem qd5 {α:Type}(xs:List α)(off n:Nat):xs.drop off=(xs.drop off).take n++xs.drop (off+n):=by
 rw[←List.drop_drop];exact(List.take_append_drop _ _).symm
theorem qi2 {n d}(hd:n≤d):∀(fs:List Field) (off:Nat) (ks:List Kd) (xs ys:List AVal) (us vs:List Value) (b:Bool) (w:World),
  qfy (qbr P n) off fs=some ks →
  (∀f∈fs,∀ks,qbr P n f.type=some ks→qv7 P C n f.type ks) →
  RepL C xs us→RepL C ys vs→xs.length=off+ks.length→ys.length=off+ks.length→zg ks (xs.drop off) (ys.drop off)=some b →
  (Op.eqFields d ⟨us⟩ ⟨vs⟩ fs).run P w=.ok b w
 | [],off,ks,xs,ys,us,vs,b,w,hf,_,hx,hy,hxl,hyl,he=>by
  simp[qfy]at hf
  subst hf
  rw[List.drop_eq_nil_of_le (by simp at hxl;omega),List.drop_eq_nil_of_le (by simp at hyl;omega)]at he
  simp[zg]at he
  subst he
  simp[Op.eqFields]
 |f::fs,off,ks,xs,ys,us,vs,b,w,hf,hok,hx,hy,hxl,hyl,he=>by
  simp only[qfy]at hf
  split at hf
  ·rename_i hc
   simp at hc
   obtain⟨hname,hoff⟩:=hc
   split at hf
   ·rename_i k1 hk1
    split at hf
    ·rename_i k2 hk2
     cases hf
     obtain⟨ag,hag,hsz,h1,heq⟩:=hok f (by simp) k1 hk1
     have hul:=hx.length
     have hvl:=hy.length
     simp at hxl hyl
     have p1:=qe4 (P:=P) (us:=us) (off:=f.offset) hag hsz h1 (by omega) w
     have p2:=qe4 (P:=P) (us:=vs) (off:=f.offset) hag hsz h1 (by omega) w
     rw[qd5 xs off k1.length,qd5 ys off k1.length,qc8 _ _ _ (by simp;omega) (by simp;omega)]at he
     simp only[Op.eqFields,ne_eq,hname,not_false_eq_true,if_true,Sem.run_bind,p1,p2,Result.andThen_ok]
     rw[hoff]
     cases hb:zg k1 ((xs.drop off).take k1.length) ((ys.drop off).take k1.length)with
     |none=>rw[hb]at he;cases he
     |some b1=>
      rw[hb]at he
      rw[heq d hd _ _ _ _ b1 w ((hx.drop off).take _) ((hy.drop off).take _) (by simp;omega) (by simp;omega) hb]
      cases b1 with
      |false=>simp at he;subst he;simp
      |true=>
       simp only[Result.andThen_ok,Bool.not_true,Bool.false_eq_true,if_false]
       exact qi2 hd fs (off+k1.length) k2 xs ys us vs b w hk2 (fun g hg=>hok g (by simp[hg])) hx hy (by omega) (by omega) he
    ·cases hf
   ·cases hf
  ·cases hf
theorem qky {n d}(hd:n≤d){e:TypeId}{ag k1}(hag:zb P e=some ag)(hsz:qy P e=some k1.length)(h1:ag=false→k1.length=1)
  (heq:∀d,n≤d→∀xs ys us vs b w,RepL C xs us→RepL C ys vs→xs.length=k1.length→ys.length=k1.length→zg k1 xs ys=some b→(Op.equalIn d e (qdb ag us) (qdb ag vs)).run P w=.ok b w):
  ∀(len i:Nat) (xs ys:List AVal) (us vs:List Value) (b:Bool) (w:World),
  RepL C xs us→RepL C ys vs→xs.length=i*k1.length+len*k1.length→ys.length=i*k1.length+len*k1.length→zg (List.replicate len k1).flatten (xs.drop (i*k1.length)) (ys.drop (i*k1.length))=some b →
  (Op.eqItems d e k1.length ⟨us⟩ ⟨vs⟩ (List.range' i len)).run P w=.ok b w
 |0,i,xs,ys,us,vs,b,w,hx,hy,hxl,hyl,he=>by
  rw[List.drop_eq_nil_of_le (by simp at hxl;omega),List.drop_eq_nil_of_le (by simp at hyl;omega)]at he
  simp[zg]at he
  subst he
  simp[Op.eqItems]
 |len+1,i,xs,ys,us,vs,b,w,hx,hy,hxl,hyl,he=>by
  have hul:=hx.length
  have hvl:=hy.length
  rw[Nat.succ_mul]at hxl hyl
  have p1:=qe4 (P:=P) (us:=us) (off:=i*k1.length) hag hsz h1 (by omega) w
  have p2:=qe4 (P:=P) (us:=vs) (off:=i*k1.length) hag hsz h1 (by omega) w
  rw[List.replicate_succ,List.flatten_cons,qd5 xs (i*k1.length) k1.length,qd5 ys (i*k1.length) k1.length,qc8 _ _ _ (by simp;omega) (by simp;omega)]at he
  simp only[List.range'_succ,Op.eqItems,Sem.run_bind,p1,p2,Result.andThen_ok]
  cases hb:zg k1 ((xs.drop (i*k1.length)).take k1.length) ((ys.drop (i*k1.length)).take k1.length)with
  |none=>rw[hb]at he;cases he
  |some b1=>
   rw[hb]at he
   rw[heq d hd _ _ _ _ b1 w ((hx.drop _).take _) ((hy.drop _).take _) (by simp;omega) (by simp;omega) hb]
   cases b1 with
   |false=>simp at he;subst he;simp
   |true=>
    simp only[Result.andThen_ok,Bool.not_true,Bool.false_eq_true,if_false]
    refine qky hd hag hsz h1 heq len (i+1) xs ys us vs b w hx hy (by rw[hxl,Nat.succ_mul];omega) (by rw[hyl,Nat.succ_mul];omega) ?_
    rw[Nat.succ_mul];exact he
theorem qmi {t:TypeId}{n}(h:qy P t=some n):P.cellsOf t=n:=by
 unfold qy at h
 unfold Program.cellsOf
 rw[h];rfl
theorem qmx {t:TypeId}{n}(h:qy P t=some n):∃i,P.info? t=some i∧i.size=n:=by
 unfold qy at h
 cases hi:P.info? t with
 |none=>simp[hi]at h
 |some i=>exact⟨i,rfl,by simpa[hi]using h⟩
theorem qp7 {k x y b}(h:zg [k] [x] [y]=some b):yu k x y=some b:=by
 simp only[zg]at h
 split at h<;>simp_all
theorem qtn {xs us}(h:RepL C xs us)(hl:xs.length=1):∃x u,xs=[x]∧us=[u]∧Rep C x u:=by
 obtain⟨x,rfl⟩:=List.length_eq_one_iff.1 hl
 cases h with
 |cons _ _ u vs hx h=>cases h;exact⟨x,u,rfl,rfl,hx⟩
theorem qoa {k x y b u v}(h:yu k x y=some b)(hx:Rep C x u)(hy:Rep C y v):
  match k with
  | .int=>∃kd a c,u=.int kd a∧v=.int kd c∧b=(a == c)
  | .str=>∃a c:List UInt8,u=.string ⟨⟨a⟩⟩∧v=.string ⟨⟨c⟩⟩∧b=(a == c)
  | .bool=>∃a c,u=.bool a∧v=.bool c∧b=(a == c):=by
 unfold yu at h
 split at h
 ·rename_i k a k' c
  cases hx;cases hy
  by_cases hk:k=k'
  ·subst hk;simp at h;exact⟨_,_,_,rfl,rfl,h.symm⟩
  ·simp[hk]at h
 ·cases hx;cases hy;cases h;exact⟨_,_,rfl,rfl,rfl⟩
 ·cases hx;cases hy;cases h;exact⟨_,_,rfl,rfl,rfl⟩
 ·cases h
theorem qnq {t:TypeId}{k x y b u v}(hk:kdT P t=some k)(h:yu k x y=some b)(hx:Rep C x u)(hy:Rep C y v)(d:Nat)(w:World):
  (Op.equalIn (d+1) t u v).run P w=.ok b w:=by
 have hc:=qoa h hx hy
 unfold kdT at hk
 cases hu:P.underlying t with
 |none=>simp[hu]at hk
 |some D=>
  rw[hu]at hk
  cases D<;>simp at hk<;>subst hk<;>simp only[]at hc
  ·obtain⟨a,c,rfl,rfl,rfl⟩:=hc;exact run_equalIn_bool w d t a c hu
  ·obtain⟨kd,a,c,rfl,rfl,rfl⟩:=hc;exact run_equalIn_int w d t kd _ a c hu
  ·obtain⟨a,c,rfl,rfl,rfl⟩:=hc
   rw[run_equalIn_string w d t _ _ hu,qh1,qh1]
theorem qd3:∀ (n:Nat) (t:TypeId) (ks:List Kd),qbr P n t=some ks→qv7 P C n t ks
 |0,t,ks,h=>by simp[qbr]at h
 |n+1,t,ks,h=>by
  unfold qbr at h
  cases hu:P.underlying t with
  |none=>simp[hu]at h
  |some D=>
   rw[hu]at h
   have hag:=qum hu
   have scalar:∀k,ks=[k]→qy P t=some 1→kdT P t=some k→qrn D=false→qv7 P C (n+1) t ks:=by
    intro k hks hs hk ha
    subst hks
    refine⟨false,by rw[hag,ha],hs,fun _=>rfl,?_⟩
    intro d hd xs ys us vs b w hx hy hxl hyl he
    obtain⟨d,rfl⟩:∃m,d=m+1:=⟨d-1,by omega⟩
    obtain⟨x,u,rfl,rfl,hx1⟩:=qtn hx hxl
    obtain⟨y,v,rfl,rfl,hy1⟩:=qtn hy hyl
    exact qnq hk (qp7 he) hx1 hy1 d w
   cases D<;>simp only[]at h<;>first|(simp at h;done)|skip
   case int k=>
    split at h<;>first|cases h|skip
    rename_i hs
    exact scalar .int rfl (by simpa using hs) (by simp[kdT,hu]) rfl
   case bool=>
    split at h<;>first|cases h|skip
    rename_i hs
    exact scalar .bool rfl (by simpa using hs) (by simp[kdT,hu]) rfl
   case string=>
    split at h<;>first|cases h|skip
    rename_i hs
    exact scalar .str rfl (by simpa using hs) (by simp[kdT,hu]) rfl
   case array len e=>
    split at h
    ·rename_i k1 hk1
     split at h
     ·rename_i hs
      cases h
      obtain⟨ag,hag',hsz,h1,heq⟩:=qd3 n e k1 hk1
      have hlen:(List.replicate len k1).flatten.length=len*k1.length:=by simp[List.length_flatten]
      refine⟨true,by simpa[qrn]using hag,by rw[hlen];simpa using hs,(fun h=>by cases h),?_⟩
      intro d hd xs ys us vs b w hx hy hxl hyl he
      obtain⟨d,rfl⟩:∃m,d=m+1:=⟨d-1,by omega⟩
      obtain⟨i,hi,_⟩:=qmx hsz
      simp only[qdb,if_true]
      rw[run_equalIn_array w d _ _ hu hi,qmi hsz,List.range_eq_range']
      exact qky (by omega) hag' hsz h1 heq len 0 xs ys us vs b w hx hy (by rw[hxl,hlen];omega) (by rw[hyl,hlen];omega) (by simpa using he)
     ·cases h
    ·cases h
   case struct fs=>
    split at h
    ·rename_i k1 hk1
     split at h
     ·rename_i hs
      cases h
      simp at hs
      obtain⟨hso,hsz⟩:=hs
      refine⟨true,by simpa[qrn]using hag,hsz,(fun h=>by cases h),?_⟩
      intro d hd xs ys us vs b w hx hy hxl hyl he
      obtain⟨d,rfl⟩:∃m,d=m+1:=⟨d-1,by omega⟩
      simp only[qdb,if_true]
      have hf:P.fieldsOf t=fs:=by simp[Program.fieldsOf,hu]
      rw[run_equalIn_struct w d t _ _ (by rw[hf];exact hu) hso,hf]
      exact qi2 (n:=n) (by omega) fs.toList 0 _ xs ys us vs b w hk1 (fun f _ ks hp=>qd3 n f.type ks hp) hx hy (by omega) (by omega) (by simpa using he)
     ·cases h
    ·cases h
end
section
variable {P:Program}{C:Ctx}{w:World}{env:Env}{a:Act}{o:Oper}
def Val (P:Program)(C:Ctx)(a:Act)(o:Oper)(w:World)(x:AVal):Prop:=∃v,(execOp a.eval o).run P w=.ok (.value v) w∧Rep C x v
theorem qu4 {x y v}(he:EnvRep C env a.tmps)(ho:o.op=.move x∨o.op=.assign x)(hc:ql x=some y)(hv:qe env y=some v):Val P C a o w v:=by
 refine⟨a.eval x,?_,qn he hc hv⟩
 rcases ho with ho|ho<;>simp[execOp,ho]
theorem qwl {c x y c' x' y' b u v}(he:EnvRep C env a.tmps)(ho:o.op=.pick c x y)(h1:ql c=some c')(h2:ql x=some x')(h3:ql y=some y')
  (e1:qe env c'=some (.bool b)) (e2:qe env x'=some u) (e3:qe env y'=some v):Val P C a o w (bif b then u else v):=by
 have r1:=(qn he h1 e1).bool_inv
 have r2:=qn he h2 e2
 have r3:=qn he h3 e3
 refine⟨if b then a.eval x else a.eval y,by simp[execOp,ho,r1,asBool],?_⟩
 cases b<;>simpa
theorem qhg {x y v}(he:EnvRep C env a.tmps)(ho:o.op=.nilCheck x)(hc:ql x=some y)(hv:qe env y=some v)
  (hk:(∃b p,v=.ptr b p)∨(∃z,v=.vptr z)):Val P C a o w v:=by
 have r:=qn he hc hv
 rcases hk with⟨b,p,rfl⟩|⟨z,rfl⟩
 ·obtain⟨q,_,hq⟩:=r.ptr_inv
  exact⟨a.eval x,by simp[execOp,ho,hq],r⟩
 ·obtain⟨q,p,hq,_⟩:=r.vptr_inv
  exact⟨a.eval x,by simp[execOp,ho,hq],r⟩
theorem qgv (op:BinOp)(k:IntKind)(x y:Int)(t:TypeId)(h1:op≠.shl)(h2:op≠.shr):binOp op t (.int k x) (.int k y)=match op with
  | .add | .sub | .mul=>Op.intArith op k x y
  | .quo | .rem=>Op.intDiv op k x y
  | .and | .or | .xor | .andNot=>Op.intBits op k x y
  |_=>Op.intCmp op x y:=by
 cases op<;>simp at h1 h2<;>simp[binOp]
theorem qr8 {op k x y v}(h:kf op k x y=some v)(t:TypeId)(w:World):∃u,(binOp op t (.int k x) (.int k y)).run P w=.ok u w∧Rep C v u:=by
 unfold kf at h
 cases op<;>simp only[]at h<;>first|(cases h;done)|skip
 case quo=>
  cases hy:(y == 0)with
  |true=>simp[hy]at h
  |false=>
   simp[hy]at h
   subst h
   have:y≠0:=by simpa using hy
   rw[qax,qgv _ _ _ _ _ (by simp) (by simp)]
   refine⟨_,?_,.int _ _⟩
   simp[Op.intDiv,this]
 case rem=>
  cases hy:(y == 0)with
  |true=>simp[hy]at h
  |false=>
   simp[hy]at h
   subst h
   have:y≠0:=by simpa using hy
   rw[qgv _ _ _ _ _ (by simp) (by simp)]
   refine⟨_,?_,.int _ _⟩
   simp[Op.intDiv,this]
 all_goals (cases h;rw[qgv _ _ _ _ _ (by simp) (by simp)];try rw[qax])
 all_goals first
  |exact⟨_,rfl,.int _ _⟩
  |exact⟨_,rfl,.bool _⟩
theorem qhy:∀ (x y:List UInt8),bytesLess x y=Op.bytesLess x y
 |x,[]=>by cases x<;>rfl
 | [],_::_=>rfl
 |a::x,b::y=>by simp only[bytesLess,Op.bytesLess,qhy x y]
theorem qq8 {op x y v}(h:qnr op x y=some v)(t:TypeId)(w:World):∃u,(binOp op t (.string ⟨⟨x⟩⟩) (.string ⟨⟨y⟩⟩)).run P w=.ok u w∧Rep C v u:=by
 unfold qnr at h
 cases op<;>simp only[]at h<;>first|(cases h;done)|skip
 ·cases hb:Nat.ble (x.length+y.length) 4611686018427387904 with
  |false=>simp[hb]at h
  |true=>
   simp[hb]at h
   subst h
   have hle:x.length+y.length≤4611686018427387904:=Nat.le_of_ble_eq_true hb
   refine⟨.string ⟨⟨x++y⟩⟩,?_,.str _⟩
   have e1:(⟨⟨x⟩⟩:ByteArray).size=x.length:=rfl
   have e2:(⟨⟨y⟩⟩:ByteArray).size=y.length:=rfl
   have e3:(⟨⟨x⟩⟩:ByteArray)++⟨⟨y⟩⟩=⟨⟨x++y⟩⟩:=by
    apply ByteArray.ext
    simp[ByteArray.data_append]
   simp only[binOp,Op.stringOp,e1,e2,e3,IntKind.max,IntKind.signed,IntKind.bits]
   rw[if_neg (by simp;omega)]
   rfl
 all_goals (cases h;refine⟨_,?_,.bool _⟩;simp[binOp,Op.stringOp,qhy])
theorem qry {op x y v u u'}(h:jw op x y=some v)(hx:Rep C x u)(hy:Rep C y u')(t:TypeId)(w:World):∃z,(binOp op t u u').run P w=.ok z w∧Rep C v z:=by
 unfold jw at h
 split at h
 ·rename_i k a k' b
  obtain rfl:=hx.int_inv
  obtain rfl:=hy.int_inv
  have hsh:∀(op:BinOp),(op=.shl∨op=.shr)→qb3 op k a b=some v→∃z,(binOp op t (.int k a) (.int k' b)).run P w=.ok z w∧Rep C v z:=by
   intro op hop h
   unfold qb3 at h
   cases hb:decide (b<0)with
   |true=>simp[hb]at h
   |false=>
    have hb':¬b<0:=by simpa using hb
    rcases hop with rfl|rfl<;>simp[hb]at h<;>subst h
    ·rw[qax]; (refine⟨_,?_,.int _ _⟩;simp[binOp,Op.shift,hb'])
    ·(refine⟨_,?_,.int _ _⟩;simp[binOp,Op.shift,hb'])
  have hin:op≠.shl→op≠.shr→(bif decide (k=k')then kf op k a b else none)=some v→∃z,(binOp op t (.int k a) (.int k' b)).run P w=.ok z w∧Rep C v z:=by
   intro _ _ h
   by_cases hk:k=k'
   ·subst hk;simp at h;exact qr8 h t w
   ·simp[hk]at h
  cases op<;>simp only[]at h<;>first|exact hsh _ (.inl rfl) h|exact hsh _ (.inr rfl) h|exact hin (by simp) (by simp) h
 ·obtain rfl:=hx.str_inv
  obtain rfl:=hy.str_inv
  exact qq8 h t w
 ·cases h
theorem qpn (op:BinOp)(t:TypeId)(x y:Operand)(u v:Value)(w:World)(h1:¬(u=.nilIface∧v=.nilIface))(h2:(∀cs,u≠.agg cs)∨P.eqGuardType P.depth t=false):(eqGuard op t x y u v).run P w=.ok () w:=by
 unfold eqGuard
 by_cases hop:(!(match op with | .eql | .neq=>true|_=>false))=true
 ·cases op<;>simp_all
 ·cases op<;>simp at hop ⊢
  all_goals (
   split
   ·exact absurd ⟨rfl,rfl⟩ h1
   ·rcases h2 with h2|h2
    ·rename_i cs _ ;exact absurd rfl (h2 cs)
    ·simp[h2]
   ·rfl)
theorem qd9 {op}{t u:TypeId}{x y p q z}(ho:o.op=.binOp op t x y u)(hx:a.eval x=p)(hy:a.eval y=q)(h1:¬(p=.nilIface∧q=.nilIface))(h2:(∀cs,p≠.agg cs)∨P.eqGuardType P.depth t=false)
  (hz:(binOp op t p q).run P w=.ok z w):(execOp a.eval o).run P w=.ok (.value z) w:=by
 have hg:=qpn (P:=P) op t x y p q w h1 h2
 subst hx;subst hy
 simp only[execOp,ho,Sem.run_bind,hg,Result.andThen_ok,hz,Sem.run_pure]
theorem qmp {x v}(h:Rep C x v)(hx:x≠.undef)(hy:x≠.any:=by simp):v≠.nilIface:=by
 cases h<;>simp at hx hy ⊢
theorem qmo {op x y v}(h:jw op x y=some v):(x≠.undef∧(∀cs,x≠.agg cs)∧x≠.any):=by
 unfold jw at h
 split at h<;>simp at h ⊢
theorem qpx {x v}(h:Rep C x v)(hx:x≠.undef)(ha:∀cs,x≠.agg cs)(hy:x≠.any:=by simp):∀cs,v≠.agg cs:=by
 cases h<;>simp at hx ha hy ⊢
theorem qxm {op}{t u:TypeId}{x y x' y' p q v}(he:EnvRep C env a.tmps)(ho:o.op=.binOp op t x y u)(h1:ql x=some x')(h2:ql y=some y')
  (e1:qe env x'=some p) (e2:qe env y'=some q) (hv:jw op p q=some v):Val P C a o w v:=by
 have r1:=qn he h1 e1
 have r2:=qn he h2 e2
 obtain⟨hn,ha,hy⟩:=qmo hv
 obtain⟨z,hz,hr⟩:=qry (P:=P) hv r1 r2 t w
 refine⟨z,?_,hr⟩
 exact qd9 ho rfl rfl (fun h=>qmp r1 hn hy h.1) (.inl (qpx r1 hn ha hy)) hz
theorem qeq {neq}{t:TypeId}{u v b}(w:World)(hu:(∀k n,u≠.int k n)∧(∀s,u≠.string s)∧(∀k n,u≠.float k n)∧(∀k n m,u≠.complex k n m))
  (h:(Op.equal t u v).run P w=.ok b w):(binOp (if neq then .neq else .eql) t u v).run P w=.ok (.bool (bif neq then !b else b)) w:=by
 obtain⟨h1,h2,h3,h4⟩:=hu
 cases neq<;>cases u<;>simp_all [binOp]
theorem qxx {op neq}{t u:TypeId}{x y x' y' p q ks b}(he:EnvRep C env a.tmps)(ho:o.op=.binOp op t x y u)(hop:op=if neq then .neq else .eql)
  (h1:ql x=some x') (h2:ql y=some y') (e1:qe env x'=some (.agg p)) (e2:qe env y'=some (.agg q)) (hg:P.eqGuardType P.depth t=false) (hk:qbr P qeg t=some ks) (hag:zb P t=some true)
  (hl1:p.length=ks.length) (hl2:q.length=ks.length) (hb:zg ks p q=some b):Val P C a o w (.bool (bif neq then !b else b)):=by
 obtain⟨us,hu,ru⟩:=(qn he h1 e1).agg_inv
 obtain⟨vs,hv,rv⟩:=(qn he h2 e2).agg_inv
 obtain⟨ag,ha,_,_,heq⟩:=qd3 (C:=C) qeg t ks hk
 rw[hag]at ha;cases ha
 have hq:=heq 10000 (by decide) p q us vs b w ru rv hl1 hl2 hb
 simp only[qdb,if_true]at hq
 refine⟨_,?_,.bool _⟩
 have hbin:=qeq (P:=P) (neq:=neq) (t:=t) (u:=.agg ⟨us⟩) (v:=.agg ⟨vs⟩) (b:=b) w ⟨by simp,by simp,by simp,by simp⟩ hq
 exact qd9 (hop▸ho) hu hv (by simp) (.inr hg) hbin
theorem qx6 {op neq}{t u:TypeId}{x y x' y' p q}(he:EnvRep C env a.tmps)(ho:o.op=.binOp op t x y u)(hop:op=if neq then .neq else .eql)
  (h1:ql x=some x') (h2:ql y=some y') (e1:qe env x'=some (.bool p)) (e2:qe env y'=some (.bool q)) (ht:P.underlying t=some .bool):Val P C a o w (.bool (bif neq then !(p == q)else p == q)):=by
 have hu:=(qn he h1 e1).bool_inv
 have hv:=(qn he h2 e2).bool_inv
 refine⟨_,?_,.bool _⟩
 have hbin:=qeq (P:=P) (neq:=neq) (t:=t) (u:=.bool p) (v:=.bool q) (b:=p == q) w ⟨by simp,by simp,by simp,by simp⟩ (run_equalIn_bool w 9999 t p q ht)
 exact qd9 (hop▸ho) hu hv (by simp) (.inl (by simp)) hbin
theorem qub {op neq b}{t u:TypeId}{x y c}(ho:o.op=.binOp op t x y u)(hop:op=if neq then .neq else .eql)
  (hy:a.eval y=c) (hne:(∀k n,a.eval x≠.int k n)∧(∀s,a.eval x≠.string s)∧(∀k n,a.eval x≠.float k n)∧(∀k n m,a.eval x≠.complex k n m)) (hag:∀cs,a.eval x≠.agg cs) (hif:a.eval x≠.nilIface)
  (h:(Op.equal t (a.eval x) c).run P w=.ok b w):Val P C a o w (.bool (bif neq then !b else b)):=by
 refine⟨_,?_,.bool _⟩
 have hbin:=qeq (P:=P) (neq:=neq) w hne h
 exact qd9 (hop▸ho) rfl hy (fun h=>hif h.1) (.inl hag) hbin
theorem qzq {op}{t:TypeId}{x x' p v}(he:EnvRep C env a.tmps)(ho:o.op=.unOp op t x)(h1:ql x=some x')(e1:qe env x'=some p)(hv:qe7 op p=some v):Val P C a o w v:=by
 have r1:=qn he h1 e1
 unfold qe7 at hv
 split at hv
 ·obtain hu:=r1.int_inv
  cases hv
  rw[qax]
  (refine⟨_,?_,.int _ _⟩;simp[execOp,ho,hu,Op.unary,Op.intArith])
 ·obtain hu:=r1.bool_inv
  cases hv
  (refine⟨_,?_,.bool _⟩;simp[execOp,ho,hu,Op.unary])
 ·cases hv
theorem qws {s d:TypeId}{k k0 x x' k1 n}(he:EnvRep C env a.tmps)(ho:o.op=.convert s d x)(hs:P.underlying s=some (.int k0))(hd:P.underlying d=some (.int k))
  (h1:ql x=some x') (e1:qe env x'=some (.int k1 n)):Val P C a o w (.int k (qa k n)):=by
 have hu:=(qn he h1 e1).int_inv
 rw[qax]
 (refine⟨_,?_,.int _ _⟩;simp[execOp,ho,hu,convert,run_underlying hs,run_underlying hd,Conv.intToInt])
theorem qpk {s d:TypeId}{x x' v}(he:EnvRep C env a.tmps)(ho:o.op=.convert s d x)(hs:P.underlying s=some .string)(hd:P.underlying d=some .string)
  (h1:ql x=some x') (e1:qe env x'=some v) (hv:∃l,v=.str l):Val P C a o w v:=by
 obtain⟨l,rfl⟩:=hv
 have r:=qn he h1 e1
 have hu:=r.str_inv
 exact⟨_,by simp[execOp,ho,hu,convert,run_underlying hs,run_underlying hd];rfl,by rw[←hu];exact r⟩
theorem qpa {s d:TypeId}{x x' v k0}(he:EnvRep C env a.tmps)(ho:o.op=.convert s d x)(hs:P.underlying s=some (.int k0))(hd:P.underlying d=some .string)
  (h1:ql x=some x') (e1:qe env x'=some v) (hv:∃l,v=.str l):Val P C a o w v:=by
 obtain⟨l,rfl⟩:=hv
 have r:=qn he h1 e1
 have hu:=r.str_inv
 exact⟨_,by simp[execOp,ho,hu,convert,run_underlying hs,run_underlying hd];rfl,by rw[←hu];exact r⟩
theorem qpy {s d:TypeId}{x x' k0 k1 n}(he:EnvRep C env a.tmps)(ho:o.op=.convert s d x)(hs:P.underlying s=some (.int k0))(hd:P.underlying d=some .string)
  (h1:ql x=some x') (e1:qe env x'=some (.int k1 n)):Val P C a o w (.str (Utf8.encode n).data.toList):=by
 have hu:=(qn he h1 e1).int_inv
 exact⟨.string (Utf8.encode n),by simp[execOp,ho,hu,convert,run_underlying hs,run_underlying hd,Conv.intToString],.str _⟩
theorem qn0 {s d:TypeId}{x x' k1 n}(he:EnvRep C env a.tmps)(ho:o.op=.convert s d x)(hs:P.underlying s=some .string)(hd:P.underlying d=some .string)
  (h1:ql x=some x') (e1:qe env x'=some (.int k1 n)):Val P C a o w (.str (Utf8.encode n).data.toList):=by
 have hu:=(qn he h1 e1).int_inv
 exact⟨.string (Utf8.encode n),by simp[execOp,ho,hu,convert,run_underlying hs,run_underlying hd,Conv.intToString],.str _⟩
theorem qtf {t:TypeId}{x x' i fs f ag n cs v}(he:EnvRep C env a.tmps)(ho:o.op=.field t x i)(ht:P.underlying t=some (.struct fs))(hf:fs[i]?=some f)
  (hag:zb P f.type=some ag) (hn:qy P f.type=some n) (h1:ql x=some x') (e1:qe env x'=some (.agg cs)) (hv:Abs.part ag cs f.offset n=some v):Val P C a o w v:=by
 obtain⟨us,hu,ru⟩:=(qn he h1 e1).agg_inv
 obtain⟨z,hz,hr⟩:=qn2 hag hn hv ru w
 refine⟨z,?_,hr⟩
 simp[execOp,ho,hu,Instr.field,run_underlying ht,hf,asAgg,hz]
theorem qgc {n v j}(h:idx n v=some j):∃k,v=.int k (j:Int)∧j<n:=by
 unfold idx at h
 split at h
 ·rename_i k i
  cases hb:Nat.blt i n with
  |false=>simp[hb]at h
  |true=>
   simp[hb]at h
   subst h
   exact⟨k,rfl,by have:=Nat.le_of_ble_eq_true hb;omega⟩
 ·cases h
theorem qtx {n v j}(h:qr1 n v=some j):∃k,v=.int k (j:Int)∧j≤n:=by
 unfold qr1 at h
 split at h
 ·rename_i k i
  cases hb:Nat.ble i n with
  |false=>simp[hb]at h
  |true=>
   simp[hb]at h
   subst h
   exact⟨k,rfl,Nat.le_of_ble_eq_true hb⟩
 ·cases h
theorem qui {t e:TypeId}{x i x' i' len n ag cs iv v j}(he:EnvRep C env a.tmps)(ho:o.op=.index t x i)(ht:P.underlying t=some (.array len e))
  (hag:zb P e=some ag) (hn:qy P e=some n) (h1:ql x=some x') (h2:ql i=some i') (e1:qe env x'=some (.agg cs)) (e2:qe env i'=some iv) (hj:idx len iv=some j) (hv:Abs.part ag cs (j*n) n=some v):Val P C a o w v:=by
 obtain⟨us,hu,ru⟩:=(qn he h1 e1).agg_inv
 obtain⟨k,rfl,hlt⟩:=qgc hj
 have hi:=(qn he h2 e2).int_inv
 obtain⟨z,hz,hr⟩:=qn2 hag hn hv ru w
 refine⟨z,?_,hr⟩
 simp[execOp,ho,hu,hi,Instr.index,asIntOf,run_underlying ht,hlt,j9 hn,hz]
theorem qoz {t:TypeId}{x i x' i' s iv j c}(he:EnvRep C env a.tmps)(ho:o.op=.index t x i)(ht:P.underlying t=some .string)
  (h1:ql x=some x') (h2:ql i=some i') (e1:qe env x'=some (.str s)) (e2:qe env i'=some iv) (hj:idx s.length iv=some j) (hc:s[j]?=some c):Val P C a o w (.int .u8 c.toNat):=by
 have hu:=(qn he h1 e1).str_inv
 obtain⟨k,rfl,hlt⟩:=qgc hj
 have hi:=(qn he h2 e2).int_inv
 refine⟨_,?_,.int _ _⟩
 have hb:(⟨⟨s⟩⟩:ByteArray)[j]?=some c:=by
  rw[getElem?_pos (ByteArray.mk ⟨s⟩) j hlt]
  exact congrArg some (List.getElem?_eq_some_iff.1 hc).2
 simp[execOp,ho,hu,hi,Instr.index,asIntOf,run_underlying ht,hb]
end
section
variable {P:Program}{C:Ctx}{w:World}{env:Env}{a:Act}{o:Oper}
theorem kj {z:AVal}(h:z.isAgg=false):z.flat=[z]:=by cases z<;>simp[AVal.isAgg,AVal.flat]at *
theorem qqh {ag:Bool}{cs off n r q z}(hc:RepC C r cs q)(hz:Abs.part ag cs off n=some z)(hx:Bool.xor ag z.isAgg=false):RepC C r z.flat (q+off):=by
 unfold Abs.part at hz
 cases ag with
 |true=>
  simp only[cond_true]at hz
  cases hb:Nat.ble (off+n) cs.length with
  |false=>simp[hb]at hz
  |true=>simp[hb]at hz;subst hz;exact RepC.take n (RepC.drop off hc)
 |false=>
  simp only[cond_false]at hz
  rw[kj (by simpa using hx)]
  obtain⟨u,h1,h2⟩:=hc.get hz
  exact .ccons _ _ _ _ u h1 h2 (.cnil _ _)
theorem qhb {t:TypeId}{x x' i fs f ag n p v}(he:EnvRep C env a.tmps)(ho:o.op=.fieldAddr t x i)(ht:P.underlying t=some (.struct fs))(hf:fs[i]?=some f)
  (hn:qy P f.type=some n) (hn0:0<n) (h1:ql x=some x') (e1:qe env x'=some p)
  (hv:(∃b q,p=.ptr b q∧v=.ptr b (q+f.offset))∨(∃cs z,p=.vptr (.agg cs)∧Abs.part ag cs f.offset n=some z∧Bool.xor ag z.isAgg=false∧v=.vptr z)):Val P C a o w v:=by
 have hrun:∀r q,a.eval x=.pointer (some ⟨r,q,none⟩)→(execOp a.eval o).run P w=.ok (.value (.pointer (some ⟨r,q+f.offset,none⟩))) w:=by
  intro r q hq
  simp[execOp,ho,Instr.fieldAt,run_underlying ht,hf,hq,Instr.sureAddr,fieldPlace,j9 hn,Nat.pos_iff_ne_zero.1 hn0,add_lit]
 rcases hv with⟨b,q,rfl,rfl⟩|⟨cs,z,rfl,hz,hx,rfl⟩
 ·obtain⟨r,hr,hq⟩:=(qn he h1 e1).ptr_inv
  exact⟨_,hrun r q hq,.ptr _ _ _ hr⟩
 ·obtain⟨r,q,hq,hc⟩:=(qn he h1 e1).vptr_inv
  exact⟨_,hrun r q hq,.vptr _ _ _ (qqh hc hz hx)⟩
theorem qg2 {t e:TypeId}{x i x' i' sz p iv v}(he:EnvRep C env a.tmps)(ho:o.op=.indexAddr t x i)(ht:P.underlying t=some (.slice e))
  (hn:qy P e=some sz) (h1:ql x=some x') (h2:ql i=some i') (e1:qe env x'=some p) (e2:qe env i'=some iv)
  (hv:(∃b q len j,p=.ms b q len∧idx len iv=some j∧v=.ptr b (q+j*sz))∨(∃nl xs z j,p=.list nl sz xs∧idx xs.length iv=some j∧xs[j]?=some z∧v=.vptr z)):Val P C a o w v:=by
 have hrun:∀r q len cap j,a.eval x=.slice (some ⟨r,q,none⟩) len cap→idx len iv=some j→(execOp a.eval o).run P w=.ok (.value (.pointer (some ⟨r,q+j*sz,none⟩))) w:=by
  intro r q len cap j hq hj
  obtain⟨k,rfl,hlt⟩:=qgc hj
  have hi:=(qn he h2 e2).int_inv
  simp[execOp,ho,Instr.indexAt,run_underlying ht,hq,hi,asIntOf,j9 hn,hlt,add_lit]
 rcases hv with⟨b,q,len,j,rfl,hj,rfl⟩|⟨nl,xs,z,j,rfl,hj,hz,rfl⟩
 ·obtain⟨r,cap,hr,_,hq⟩:=(qn he h1 e1).ms_inv
  exact⟨_,hrun r q len cap j hq hj,.ptr _ _ _ hr⟩
 ·rcases(qn he h1 e1).list_inv with⟨rfl,rfl,hq⟩|⟨rfl,r,q,cap,hq,_,hrow⟩|⟨rfl,rfl,_⟩
  ·simp at hz
  ·exact⟨_,hrun r q _ cap j hq hj,.vptr _ _ _ (hrow.get hz)⟩
  ·simp at hz
theorem qhw {t e:TypeId}{x i x' i' len sz ag p iv v j}(he:EnvRep C env a.tmps)(ho:o.op=.indexAddr t x i)(ht:P.underlying t=some (.array len e))
  (hn:qy P e=some sz) (h1:ql x=some x') (h2:ql i=some i') (e1:qe env x'=some p) (e2:qe env i'=some iv) (hj:idx len iv=some j)
  (hv:(∃b q,p=.ptr b q∧v=.ptr b (q+j*sz))∨(∃cs z,p=.vptr (.agg cs)∧Abs.part ag cs (j*sz) sz=some z∧Bool.xor ag z.isAgg=false∧v=.vptr z)):Val P C a o w v:=by
 have hrun:∀r q,a.eval x=.pointer (some ⟨r,q,none⟩)→(execOp a.eval o).run P w=.ok (.value (.pointer (some ⟨r,q+j*sz,none⟩))) w:=by
  intro r q hq
  obtain⟨k,rfl,hlt⟩:=qgc hj
  have hi:=(qn he h2 e2).int_inv
  simp[execOp,ho,Instr.indexAt,run_underlying ht,hq,hi,asIntOf,Instr.sureAddr,j9 hn,hlt,add_lit]
 rcases hv with⟨b,q,rfl,rfl⟩|⟨cs,z,rfl,hz,hx,rfl⟩
 ·obtain⟨r,hr,hq⟩:=(qn he h1 e1).ptr_inv
  exact⟨_,hrun r q hq,.ptr _ _ _ hr⟩
 ·obtain⟨r,q,hq,hc⟩:=(qn he h1 e1).vptr_inv
  exact⟨_,hrun r q hq,.vptr _ _ _ (qqh hc hz hx)⟩
theorem qid {x x' d n j}(he:EnvRep C env a.tmps)(hc:qav x=some x')(hb:bnd env d n x'=some j):
  (x=none∧j=d)∨(∃y k,x=some y∧a.eval y=.int k (j:Int)∧j≤n):=by
 cases x with
 |none=>simp[qav]at hc;subst hc;simp[bnd]at hb;exact .inl ⟨rfl,hb.symm⟩
 |some x=>
  simp only[qav]at hc
  split at hc
  ·rename_i z hz
   cases hc
   simp only[bnd]at hb
   split at hb
   ·rename_i v hv
    obtain⟨k,rfl,hle⟩:=qtx hb
    exact .inr ⟨x,k,rfl,(qn he hz hv).int_inv,hle⟩
   ·cases hb
  ·cases hc
theorem qgy {lo hi lo' hi' len cap i j isS}(he:EnvRep C env a.tmps)(h1:qav lo=some lo')(h2:qav hi=some hi')(b2:bnd env len len hi'=some j)(b1:bnd env 0 j lo'=some i)(hc:len≤cap)(w:World):
  (Instr.sliceBounds isS len cap (lo.map a.eval) (hi.map a.eval) none).run P w=.ok (i,j,cap) w∧i≤j∧j≤len:=by
 have k2:j≤len:=by
  rcases qid he h2 b2 with⟨_,rfl⟩|⟨_,_,_,_,h⟩
  ·exact Nat.le_refl _
  ·exact h
 have k1:i≤j:=by
  rcases qid he h1 b1 with⟨_,rfl⟩|⟨_,_,_,_,h⟩
  ·exact Nat.zero_le _
  ·exact h
 refine⟨?_,k1,k2⟩
 have hj:j≤cap:=by omega
 rcases qid he h2 b2 with⟨rfl,rfl⟩|⟨y,k,rfl,hy,_⟩<;>rcases qid he h1 b1 with⟨rfl,rfl⟩|⟨z,k',rfl,hz,_⟩
 ·simp[Instr.sliceBounds]
 ·simp[Instr.sliceBounds,hz,Instr.sliceBound,asIntOf,k1]
 ·simp[Instr.sliceBounds,hy,Instr.sliceBound,asIntOf,hj]
 ·simp[Instr.sliceBounds,hy,hz,Instr.sliceBound,asIntOf,hj,k1]
theorem ql8 {t e:TypeId}{x lo hi x' lo' hi' sz i j p v}(he:EnvRep C env a.tmps)(ho:o.op=.slice t x lo hi none)(ht:P.underlying t=some (.slice e))
  (hn:qy P e=some sz) (h1:ql x=some x') (h2:qav lo=some lo') (h3:qav hi=some hi') (e1:qe env x'=some p)
  (hv:(∃b q len,p=.ms b q len∧bnd env len len hi'=some j∧bnd env 0 j lo'=some i∧(i=0∨i<j)∧v=.ms b (q+i*sz) (j-i)) ∨
   (∃nl sz' xs,p=.list nl sz' xs∧(sz=sz'∨xs=[])∧bnd env xs.length xs.length hi'=some j∧bnd env 0 j lo'=some i∧v=.list nl sz' ((xs.take j).drop i))):Val P C a o w v:=by
 have hrun:∀b len cap,a.eval x=.slice b len cap→len≤cap→bnd env len len hi'=some j→bnd env 0 j lo'=some i →
   (execOp a.eval o).run P w=.ok (.value (.slice (if cap=i then b else b.map (·.add (i*sz))) (j-i) (cap-i))) w∧i≤j∧j≤len:=by
  intro b len cap hq hle b2 b1
  obtain⟨hb,k1,k2⟩:=qgy (P:=P) (isS:=true) he h2 h3 b2 b1 hle w
  refine⟨?_,k1,k2⟩
  simp[execOp,ho,Instr.sliceAt,Instr.slice,run_underlying ht,hq,hb,j9 hn]
 rcases hv with⟨b,q,len,rfl,b2,b1,hij,rfl⟩|⟨nl,sz',xs,rfl,hsz,b2,b1,rfl⟩
 ·obtain⟨r,cap,hr,hle,hq⟩:=(qn he h1 e1).ms_inv
  obtain⟨hw,k1,k2⟩:=hrun _ len cap hq hle b2 b1
  refine⟨_,hw,?_⟩
  by_cases hc:cap=i
  ·rw[if_pos hc]
   obtain rfl:i=0:=by omega
   simpa using RepI.ms b q (j-0) r (cap-0) hr (by omega)
  ·rw[if_neg hc]
   simp only[Option.map_some,add_lit]
   exact .ms _ _ _ _ _ hr (by omega)
 ·rcases(qn he h1 e1).list_inv with⟨rfl,rfl,hq⟩|⟨rfl,r,q,cap,hq,hle,hrow⟩|⟨rfl,rfl,ad,hsp,hq⟩
  ·obtain⟨hw,k1,k2⟩:=hrun _ 0 0 hq (Nat.le_refl _) b2 b1
   simp at k2
   obtain rfl:=k2
   obtain rfl:i=0:=by omega
   exact⟨_,hw,by simpa using RepI.lnil sz'⟩
  ·obtain⟨hw,k1,k2⟩:=hrun _ _ cap hq hle b2 b1
   refine⟨_,hw,?_⟩
   have hl:((xs.take j).drop i).length=j-i:=by simp;omega
   rw[←hl]
   by_cases hc:cap=i
   ·rw[if_pos hc]
    have hnil:(xs.take j).drop i=[]:=List.drop_eq_nil_of_le (by simp;omega)
    rw[hnil]
    exact .list _ _ _ _ _ (by simp) (.rnil _ _ _)
   ·rw[if_neg hc]
    simp only[Option.map_some,add_lit]
    refine .list _ _ _ _ _ (by rw[hl];omega) ?_
    rcases hsz with rfl|rfl
    ·exact RepRow.drop i (RepRow.take j hrow)
    ·simpa using RepI.rnil _ _ _
  ·obtain⟨hw,k1,k2⟩:=hrun _ 0 0 hq (Nat.le_refl _) b2 b1
   simp at k2
   obtain rfl:=k2
   obtain rfl:i=0:=by omega
   exact⟨_,hw,by simpa using RepI.lemp sz' ad hsp⟩
theorem qo7 {t e:TypeId}{x lo hi x' lo' hi' len sz i j b q}(he:EnvRep C env a.tmps)(ho:o.op=.slice t x lo hi none)(ht:P.underlying t=some (.array len e))
  (hn:qy P e=some sz) (h1:ql x=some x') (h2:qav lo=some lo') (h3:qav hi=some hi') (e1:qe env x'=some (.ptr b q)) (b2:bnd env len len hi'=some j) (b1:bnd env 0 j lo'=some i) (hij:i=0∨i<j):Val P C a o w (.ms b (q+i*sz) (j-i)):=by
 obtain⟨r,hr,hq⟩:=(qn he h1 e1).ptr_inv
 obtain⟨hb,k1,k2⟩:=qgy (P:=P) (isS:=false) he h2 h3 b2 b1 (Nat.le_refl len) w
 refine⟨_,by simp[execOp,ho,Instr.sliceAt,Instr.sureAddr,run_underlying ht,hq,hb,j9 hn];rfl,?_⟩
 by_cases hc:len=i
 ·rw[if_pos hc]
  obtain rfl:i=0:=by omega
  simpa using RepI.ms b q (j-0) r (len-0) hr (by omega)
 ·rw[if_neg hc]
  simp only[add_lit]
  exact .ms _ _ _ _ _ hr (by omega)
theorem qmr (s:List UInt8)(i j:Nat):(⟨⟨s⟩⟩:ByteArray).extract i j=⟨⟨(s.take j).drop i⟩⟩:=by
 apply ByteArray.ext
 rw[ByteArray.data_extract]
 apply Array.ext'
 simp[List.extract_eq_take_drop,List.drop_take]
theorem qo9 {t:TypeId}{x lo hi x' lo' hi' i j s}(he:EnvRep C env a.tmps)(ho:o.op=.slice t x lo hi none)(ht:P.underlying t=some .string)
  (h1:ql x=some x') (h2:qav lo=some lo') (h3:qav hi=some hi') (e1:qe env x'=some (.str s)) (b2:bnd env s.length s.length hi'=some j) (b1:bnd env 0 j lo'=some i):Val P C a o w (.str ((s.take j).drop i)):=by
 have hq:=(qn he h1 e1).str_inv
 obtain⟨hb,k1,k2⟩:=qgy (P:=P) (isS:=false) he h2 h3 b2 b1 (Nat.le_refl s.length) w
 have hsz:(⟨⟨s⟩⟩:ByteArray).size=s.length:=rfl
 refine⟨.string ⟨⟨(s.take j).drop i⟩⟩,?_,.str _⟩
 simp[execOp,ho,Instr.sliceAt,Instr.slice,run_underlying ht,hq,hsz,hb,qmr]
theorem qq7 {k xs ys xs' ys' us vs}(he:EnvRep C env a.tmps)(ho:o.op=.makeFunc (.func k) xs ys)(h1:qby xs.toList=some xs')(h2:qby ys.toList=some ys')(e1:zw env xs'=some us)(e2:zw env ys'=some vs):
  Val P C a o w (.fn (.func k) us vs):=by
 refine⟨.func (.func k) (xs.map a.eval) (ys.map a.eval),by simp[execOp,ho,Instr.makeFunc],?_⟩
 have r1:=qcz he h1 e1
 have r2:=qcz he h2 e2
 have q1:xs.map a.eval=⟨xs.toList.map a.eval⟩:=by apply Array.ext';simp
 have q2:ys.map a.eval=⟨ys.toList.map a.eval⟩:=by apply Array.ext';simp
 rw[q1,q2]
 exact .fn _ _ _ _ _ _ rfl r1 r2
theorem qlf {c x}{t:TypeId}{x' p n}(he:EnvRep C env a.tmps)(ho:o.op=.call c)(hcb:c.callee=.builtin .len)(hca:c.args.toList=[x])(hct:c.argTypes.toList=[t])
  (h1:ql x=some x') (e1:qe env x'=some p)
  (hv:(P.underlying t=some .string∧∃s,p=.str s∧n=s.length)∨((∃e,P.underlying t=some (.slice e))∧((∃nl sz xs,p=.list nl sz xs∧n=xs.length)∨(∃b q,p=.ms b q n)))):Val P C a o w (.int .i64 n):=by
 have ha:c.args=#[x]:=by apply Array.ext';simpa using hca
 have hty:c.argTypes=#[t]:=by apply Array.ext';simpa using hct
 refine⟨.int .i64 n,?_,.int _ _⟩
 simp only[execOp,ho,resolve,hcb,ha,hty,Sem.run_bind,Sem.run_pure,Result.andThen_ok,invoke,builtin,Builtin.len_]
 rcases hv with⟨ht,s,rfl,rfl⟩|⟨⟨e,ht⟩,⟨nl,sz,xs,rfl,rfl⟩|⟨b,q,rfl⟩⟩
 ·have hq:=(qn he h1 e1).str_inv
  simp[run_underlying ht,hq,goInt]
  rfl
 ·obtain⟨b,cap,hq⟩:=(qn he h1 e1).len
  simp[run_underlying ht,hq,goInt]
 ·obtain⟨r,cap,_,_,hq⟩:=(qn he h1 e1).ms_inv
  simp[run_underlying ht,hq,goInt]
theorem qhs {f:AVal→AVal→Option AVal}{g:Value→Value→Sem Value}(hfg:∀x y z u v,f x y=some z→Rep C x u→Rep C y v→∃q,(g u v).run P w=.ok q w∧Rep C z q):
  ∀(ys:List AVal) (x z:AVal) (u:Value) (vs:List Value),qbc f x ys=some z→Rep C x u→RepL C ys vs→∃q,(vs.foldlM g u).run P w=.ok q w∧Rep C z q
 | [],x,z,u,vs,h,hx,hy=>by
  cases hy
  simp[qbc]at h;subst h
  exact⟨u,rfl,hx⟩
 |y::ys,x,z,u,vs,h,hx,hy=>by
  cases hy with
  |cons _ _ v vs hy hr=>
   simp only[qbc]at h
   split at h
   ·rename_i z1 hz1
    obtain⟨q,hq,rq⟩:=hfg x y z1 u v hz1 hx hy
    obtain⟨q2,hq2,rq2⟩:=qhs hfg ys z1 z q vs h rq hr
    exact⟨q2,by simp[List.foldlM_cons,hq,hq2],rq2⟩
   ·cases h
theorem qs5 {c:Call}{xs':List qz}{p v:AVal}{ps:List AVal}{mx:Bool}(he:EnvRep C env a.tmps)(ho:o.op=.call c)(hcb:c.callee=.builtin (if mx then .max else .min))(h1:qby c.args.toList=some xs')(e1:zw env xs'=some (p::ps))
  (hv:qbc (if mx then max2 else min2) p ps=some v):Val P C a o w v:=by
 have r1:=qcz he h1 e1
 have hargs:(c.args.map a.eval).toList=c.args.toList.map a.eval:=by simp
 cases mx
 ·generalize hl:c.args.toList.map a.eval=l at r1
  cases r1 with
  |cons _ _ u us hu hus=>
   obtain⟨q,hq,rq⟩:=qhs (P:=P) (w:=w) (C:=C) (f:=min2) (g:=Builtin.min2) (fun x y z u v h hx hy=>by
    unfold min2 at h
    split at h<;>first|cases h|skip
    rename_i k n k' m
    by_cases hk:k=k'
    ·subst hk;simp at h;subst h
     obtain rfl:=hx.int_inv
     obtain rfl:=hy.int_inv
     exact⟨_,rfl,.int _ _⟩
    ·simp[hk]at h) ps p v u us (by simpa using hv) hu hus
   refine⟨q,?_,rq⟩
   simp only[Bool.false_eq_true,if_false]at hcb
   simp[execOp,ho,resolve,hcb,invoke,builtin,Builtin.min_,hl,hq]
 ·generalize hl:c.args.toList.map a.eval=l at r1
  cases r1 with
  |cons _ _ u us hu hus=>
   obtain⟨q,hq,rq⟩:=qhs (P:=P) (w:=w) (C:=C) (f:=max2) (g:=Builtin.max2) (fun x y z u v h hx hy=>by
    unfold max2 at h
    split at h<;>first|cases h|skip
    rename_i k n k' m
    by_cases hk:k=k'
    ·subst hk;simp at h;subst h
     obtain rfl:=hx.int_inv
     obtain rfl:=hy.int_inv
     exact⟨_,rfl,.int _ _⟩
    ·simp[hk]at h) ps p v u us (by simpa using hv) hu hus
   refine⟨q,?_,rq⟩
   simp only[if_true]at hcb
   simp[execOp,ho,resolve,hcb,invoke,builtin,Builtin.max_,hl,hq]
theorem qp6 {x x' i vs v}(he:EnvRep C env a.tmps)(ho:o.op=.extract x i)(h1:ql x=some x')(e1:qe env x'=some (.tup vs))(hv:vs[i]?=some v):Val P C a o w v:=by
 obtain⟨us,hu,ru⟩:=(qn he h1 e1).tup_inv
 obtain⟨u,h1,h2⟩:=ru.get hv
 exact⟨u,by simp[execOp,ho,hu,Instr.extract,h1],h2⟩
end
section
variable {P:Program}{C:Ctx}{w:World}{env:Env}{a:Act}{o:Oper}
theorem qay {x v}(h:Rep C x v)(hs:x.flat.all qf=true):RepL C x.flat v.cells.toList:=by
 cases h<;>first
  |(simp only[AVal.flat,Value.cells];exact .cons _ _ _ _ (by constructor<;>assumption) .nil)
  |skip
 ·simpa[AVal.flat,Value.cells]
 all_goals first|done|exact absurd hs (by simp[AVal.flat,qf])|skip
theorem ql2 (off:Nat):∀(l:List Value) (k:Nat) (cs:Array Value),off+k+l.length≤cs.size →
  ((l.zipIdx k).foldl (fun cs (x:Value×Nat)=>cs.setIfInBounds (off+x.2) x.1) cs).toList=cs.toList.take (off+k)++l++cs.toList.drop (off+k+l.length)
 | [],k,cs,_=>by simp
 |v::l,k,cs,h=>by
  simp only[List.zipIdx_cons,List.foldl_cons]
  simp at h
  rw[ql2 off l (k+1) (cs.setIfInBounds (off+k) v) (by simp;omega)]
  have hlt:off+k<cs.toList.length:=by simp;omega
  rw[Array.toList_setIfInBounds]
  have e1:(cs.toList.set (off+k) v).take (off+(k+1))=cs.toList.take (off+k)++[v]:=by
   rw[←Nat.add_assoc,List.take_succ_eq_append_getElem (by simpa using hlt),List.take_set,List.set_eq_of_length_le (by simp;omega),List.getElem_set_self]
  have e2:(cs.toList.set (off+k) v).drop (off+(k+1)+l.length)=cs.toList.drop (off+k+(v::l).length):=by
   rw[List.drop_set_of_lt (by omega)]
   congr 1
   simp;omega
  rw[e1,e2]
  simp
inductive qc5 (C:Ctx)(place:Nat→Option (Nat×Nat)):List (Nat×Value)→List (Nat×List AVal)→Prop where
 |nil:qc5 C place [] []
 |cons (i:Nat) (v:Value) (off:Nat) (vs:List AVal) (ps:List (Nat×Value)) (qs:List (Nat×List AVal)) (h1:place i=some (off,vs.length)) (h2:RepL C vs v.cells.toList) (h:qc5 C place ps qs):qc5 C place ((i,v)::ps) ((off,vs)::qs)
theorem qe6 {place}:∀(ps:List (Nat×Value)) (qs:List (Nat×List AVal)) (xs ys:List AVal) (cs:Array Value),RepL C xs cs.toList→kg xs qs=some ys →
  qc5 C place ps qs →
  ∃ds,Instr.fill place cs ps=some ds∧RepL C ys ds.toList
 | [],qs,xs,ys,cs,hx,hf,hp=>by
  cases hp
  simp[kg]at hf
  subst hf
  exact⟨cs,rfl,hx⟩
 |_::ps,qs,xs,ys,cs,hx,hf,hp=>by
  cases hp with
  |cons i v off vs _ qs hpl hr htl=>
   simp only[kg]at hf
   cases hb:Nat.ble (off+vs.length) xs.length with
   |false=>simp[hb]at hf
   |true=>
    simp only[hb,cond_true]at hf
    have hle:=Nat.le_of_ble_eq_true hb
    have hl1:=hx.length
    have hl2:=hr.length
    simp at hl1 hl2
    have hfold:=ql2 off v.cells.toList 0 cs (by simp;omega)
    have hz:v.cells.zipIdx.foldl (fun cs (x:Value×Nat)=>cs.setIfInBounds (off+x.2) x.1) cs=(v.cells.toList.zipIdx 0).foldl (fun cs (x:Value×Nat)=>cs.setIfInBounds (off+x.2) x.1) cs:=by
     rw[←Array.foldl_toList,Array.toList_zipIdx]
    obtain⟨ds,h1,h2⟩:=qe6 (place:=place) ps qs _ ys (v.cells.zipIdx.foldl (fun cs (x:Value×Nat)=>cs.setIfInBounds (off+x.2) x.1) cs) (by
     rw[hz,hfold]
     simp only[Nat.add_zero,Array.length_toList,hl2]
     exact RepL.append (RepL.append (hx.take off) hr) (hx.drop _)) hf htl
    refine⟨ds,?_,h2⟩
    simp only[Instr.fill,hpl]
    rw[if_neg (by simp;omega)]
    exact h1
theorem qdy {place}(he:EnvRep C env a.tmps):∀(ps:List (Nat×Operand)) (ps':List (Nat×Nat×qz)) (qs:List (Nat×List AVal)),qdl P place ps=some ps'→zo env ps'=some qs →
  qc5 C place (ps.map fun x=>(x.1,a.eval x.2)) qs
 | [],ps',qs,hc,hv=>by
  simp[qdl]at hc;subst hc
  simp[zo]at hv;subst hv
  exact .nil
 |(i,x)::ps,ps',qs,hc,hv=>by
  simp only[qdl]at hc
  split at hc
  ·rename_i off n y r hpl hy hr
   cases hc
   simp only[zo]at hv
   split at hv
   ·rename_i v hv1
    cases hb:(Nat.beq v.flat.length n&&v.flat.all qf)with
    |false=>simp[hb]at hv
    |true=>
     simp only[hb,cond_true]at hv
     simp only[Bool.and_eq_true]at hb
     split at hv
     ·rename_i r' hr'
      cases hv
      have hl:=Nat.eq_of_beq_eq_true hb.1
      exact .cons _ _ _ _ _ _ (by rw[hpl,hl]) (qay (qn he hy hv1) hb.2) (qdy he ps r r' hr hr')
     ·cases hv
   ·cases hv
  ·cases hc
theorem qmb {t:TypeId}{z}(h:zd P t=some z)(w:World):∃v,(zeroValue t).run P w=.ok v w∧RepL C z v.cells.toList∧∃i,P.info? t=some i∧i.zero=some v:=by
 unfold zd at h
 split at h
 ·rename_i i hi
  split at h
  ·rename_i v hv
   exact⟨v,by simp[zeroValue,typeInfo,hi,hv],qdf C h,i,hi,hv⟩
  ·cases h
 ·cases h
theorem qiz {fs:Array Field}(w:World):∀(l:List Field),(∀f∈l,(qy P f.type).isSome)→(l.mapM fun(f:Field)=>(do pure (f.offset,←sizeOf f.type):Sem (Nat×Nat))).run P w=.ok (l.map fun f=>(f.offset,(qy P f.type).getD 0)) w
 | [],_=>rfl
 |f::l,h=>by
  obtain⟨n,hn⟩:=Option.isSome_iff_exists.1 (h f (by simp))
  simp only[List.mapM_cons,Sem.run_bind,j9 hn,Result.andThen_ok,Sem.run_pure,qiz (fs:=fs) w l (fun g hg=>h g (by simp[hg])),List.map_cons,hn,Option.getD_some]
theorem qkq {t:TypeId}{ps fs z ps' qs cs}(he:EnvRep C env a.tmps)(ho:o.op=.build t ps)(ht:P.underlying t=some (.struct fs))(hz:zd P t=some z)
  (hall:∀f∈fs.toList,(qy P f.type).isSome) (hps:qdl P (fun i=>match fs[i]? with|some f=>(qy P f.type).map fun n=>(f.offset,n)|none=>none) ps.toList=some ps') (hq:zo env ps'=some qs) (hf:kg z qs=some cs):Val P C a o w (.agg cs):=by
 obtain⟨zv,hzr,hzrep,_⟩:=qmb (C:=C) hz w
 have hm:=qiz (P:=P) (fs:=fs) w fs.toList hall
 have hpr:=qdy (P:=P) he ps.toList ps' qs hps hq
 have hplace:(fun(i:Nat)=>match fs[i]? with|some f=>(qy P f.type).map fun n=>(f.offset,n)|none=>none)=fun(i:Nat)=>((fs.toList.map fun f=>(f.offset,(qy P f.type).getD 0)).toArray)[i]?:=by
  funext i
  have hm:∀f,fs[i]?=some f→f∈fs.toList:=fun f h=>by rw[Array.mem_toList_iff];exact Array.mem_of_getElem? h
  obtain⟨l⟩:=fs
  simp only[List.getElem?_toArray,List.getElem?_map]at hm ⊢
  cases h:l[i]? with
  |none=>rfl
  |some f=>
   obtain⟨n,hn⟩:=Option.isSome_iff_exists.1 (hall f (hm f h))
   simp[hn]
 rw[hplace]at hpr
 obtain⟨ds,hd,hr⟩:=qe6 (ps.toList.map fun x=>(x.1,a.eval x.2)) qs z cs zv.cells hzrep hf hpr
 refine⟨.agg ds,?_,.agg cs ds.toList hr⟩
 have hmap:(fs.mapM fun(f:Field)=>(do pure (f.offset,←sizeOf f.type):Sem (Nat×Nat))).run P w=.ok ((fs.toList.map fun f=>(f.offset,(qy P f.type).getD 0)).toArray) w:=by
  rw[Array.mapM_eq_mapM_toList]
  simp only[Sem.run_map]
  rw[hm]
  rfl
 have hpa:(ps.map fun(x:Nat×Operand)=>(x.1,a.eval x.2)).toList=ps.toList.map fun x=>(x.1,a.eval x.2):=by simp
 simp only[execOp,ho,Instr.build,Sem.run_bind,hzr,Result.andThen_ok,run_underlying ht,hmap,hpa,hd,Sem.run_pure]
theorem qk6 {t e:TypeId}{ps len n z ps' qs cs}(he:EnvRep C env a.tmps)(ho:o.op=.build t ps)(ht:P.underlying t=some (.array len e))(hz:zd P t=some z)
  (hn:qy P e=some n) (hps:qdl P (fun i=>some (i*n,n)) ps.toList=some ps') (hq:zo env ps'=some qs) (hf:kg z qs=some cs):Val P C a o w (.agg cs):=by
 obtain⟨zv,hzr,hzrep,_⟩:=qmb (C:=C) hz w
 have hpr:=qdy (P:=P) he ps.toList ps' qs hps hq
 obtain⟨ds,hd,hr⟩:=qe6 (ps.toList.map fun x=>(x.1,a.eval x.2)) qs z cs zv.cells hzrep hf hpr
 refine⟨.agg ds,?_,.agg cs ds.toList hr⟩
 have hpa:(ps.map fun(x:Nat×Operand)=>(x.1,a.eval x.2)).toList=ps.toList.map fun x=>(x.1,a.eval x.2):=by simp
 simp only[execOp,ho,Instr.build,Sem.run_bind,hzr,Result.andThen_ok,run_underlying ht,j9 hn,hpa,hd,Sem.run_pure]
theorem qg3 {sz}(he:EnvRep C env a.tmps):∀(ps:List (Nat×Operand)) (ps':List (Nat×qz)) (qs:List (Nat×AVal)),qdm ps=some ps'→jy env sz ps'=some qs →
  qc5 C (fun i=>some (i*sz,sz)) (ps.map fun x=>(x.1,a.eval x.2)) (qs.map fun x=>(x.1*sz,x.2.flat))∧∀q∈qs,q.2.flat.length=sz
 | [],ps',qs,hc,hv=>by
  simp[qdm]at hc;subst hc
  simp[jy]at hv;subst hv
  exact⟨.nil,by simp⟩
 |(i,x)::ps,ps',qs,hc,hv=>by
  simp only[qdm]at hc
  split at hc
  ·rename_i y r hy hr
   cases hc
   simp only[jy]at hv
   split at hv
   ·rename_i v hv1
    cases hb:(Nat.beq v.flat.length sz&&v.flat.all qf)with
    |false=>simp[hb]at hv
    |true=>
     simp only[hb,cond_true]at hv
     simp only[Bool.and_eq_true]at hb
     split at hv
     ·rename_i r' hr'
      cases hv
      have hl:=Nat.eq_of_beq_eq_true hb.1
      obtain⟨h1,h2⟩:=qg3 he ps r r' hr hr'
      refine⟨.cons _ _ _ _ _ _ (by rw[hl]) (qay (qn he hy hv1) hb.2) h1,?_⟩
      intro q hq
      rcases List.mem_cons.1 hq with rfl|hq
      ·exact hl
      ·exact h2 q hq
     ·cases hv
   ·cases hv
  ·cases hc
theorem qi1 {sz}:∀(xs:List AVal) (i:Nat) (v:AVal),(∀x∈xs,x.flat.length=sz)→v.flat.length=sz→i<xs.length →
  (xs.set i v).flatMap AVal.flat=(xs.flatMap AVal.flat).take (i*sz)++v.flat++(xs.flatMap AVal.flat).drop (i*sz+sz)
 | [],i,v,_,_,h=>by simp at h
 |x::xs,0,v,hl,hv,_=>by
  simp only[List.set_cons_zero,List.flatMap_cons,Nat.zero_mul,List.take_zero,List.nil_append,Nat.zero_add]
  rw[List.drop_append_of_le_length (by rw[hl x (by simp)];exact Nat.le_refl _),List.drop_eq_nil_of_le (by rw[hl x (by simp)];exact Nat.le_refl _)]
  simp
 |x::xs,i+1,v,hl,hv,h=>by
  simp only[List.set_cons_succ,List.flatMap_cons]
  rw[qi1 xs i v (fun y hy=>hl y (by simp[hy])) hv (by simpa using h)]
  have hx:=hl x (by simp)
  have e1:(i+1)*sz=x.flat.length+i*sz:=by rw[hx,Nat.succ_mul];omega
  have t1:List.take (x.flat.length+i*sz) (x.flat++xs.flatMap AVal.flat)=x.flat++(xs.flatMap AVal.flat).take (i*sz):=List.take_length_add_append _
  have t2:List.drop (x.flat.length+i*sz+sz) (x.flat++xs.flatMap AVal.flat)=(xs.flatMap AVal.flat).drop (i*sz+sz):=by
   rw[Nat.add_assoc];exact List.drop_length_add_append _
  rw[e1,t1,t2]
  simp
theorem z6 {sz}:∀(xs:List AVal),(∀x∈xs,x.flat.length=sz)→(xs.flatMap AVal.flat).length=xs.length*sz
 | [],_=>by simp
 |x::xs,h=>by
  simp only[List.flatMap_cons,List.length_append,List.length_cons]
  rw[z6 xs (fun y hy=>h y (by simp[hy])),h x (by simp),Nat.succ_mul];omega
theorem qjs {sz}:∀(qs:List (Nat×AVal)) (xs ys:List AVal),qaa xs qs=some ys→(∀x∈xs,x.flat.length=sz)→(∀q∈qs,q.2.flat.length=sz) →
  kg (xs.flatMap AVal.flat) (qs.map fun x=>(x.1*sz,x.2.flat))=some (ys.flatMap AVal.flat)∧(∀y∈ys,y.flat.length=sz)∧ys.length=xs.length
 | [],xs,ys,h,hx,_=>by simp[qaa]at h;subst h;exact⟨rfl,hx,rfl⟩
 |(i,v)::qs,xs,ys,h,hx,hq=>by
  simp only[qaa]at h
  cases hb:Nat.blt i xs.length with
  |false=>simp[hb]at h
  |true=>
   simp only[hb,cond_true]at h
   have hlt:i<xs.length:=by have:=Nat.le_of_ble_eq_true hb;omega
   have hv:=hq (i,v) (by simp)
   obtain⟨h1,h2,h3⟩:=qjs qs (xs.set i v) ys h (fun y hy=>by
    rcases List.mem_or_eq_of_mem_set hy with h|rfl
    ·exact hx y h
    ·exact hv) (fun q h=>hq q (by simp[h]))
   refine⟨?_,h2,by simpa using h3⟩
   have hl:=z6 xs hx
   have hle:i*sz+sz≤xs.length*sz:=by rw[←Nat.succ_mul];exact Nat.mul_le_mul_right _ hlt
   simp only[List.map_cons,kg]
   rw[show Nat.ble (i*sz+v.flat.length) (xs.flatMap AVal.flat).length=true from by rw[Nat.ble_eq];simp only at hv;omega]
   simp only[cond_true]
   rw[qi1 xs i v hx hv hlt]at h1
   simp only at hv
   rw[hv]
   exact h1
end
end Go.Abs
