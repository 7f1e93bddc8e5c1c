/- The abstract machine. -/
import GoSem.Step
import GoSem.Claims
import GoSem.Core.Region
import GoSem.Core.Layout
import GoSem.Op.Equal
import Derived.CallsIn
import Derived.Deep.AppendSrc
import Derived.Laws.CopyRow
import Derived.Laws.AppendOwn
import Derived.Laws.Entries
import Derived.Lib.LaidTab
import Derived.Lib.ItoaNum
set_option linter.unusedVariables false
set_option linter.unusedSimpArgs false
namespace Go.Abs
inductive AVal where
 | bool (b:Bool)
 | int (k:IntKind) (n:Int)
 | str (s:List UInt8)
 | list (isNil:Bool) (sz:Nat) (xs:List AVal)
 | ms (b off len:Nat)
 | ptr (b off:Nat)
 | vptr (v:AVal)
 | nilptr
 | map (b:Nat)
 | nilmap
 | fn (f:Fn) (first captured:List AVal)
 | nilfn
 | agg (cs:List AVal)
 | tup (vs:List AVal)
 | undef
 | any
 deriving Inhabited
inductive qp where
 | tmp (t:Nat)
 | const (v:AVal)
 deriving Inhabited
inductive Kd where
 | int | str | bool
 deriving DecidableEq,Inhabited
inductive CMode where
 | iso | frz (r:Nat) | shr
 deriving DecidableEq,Inhabited
inductive AOp where
 | move (x:qp)
 | take (s:Nat)
 | pick (c a b:qp)
 | alloc (r:Nat) (zero:List AVal)
 | box (r n:Nat) (x:qp)
 | vbox (n:Nat) (x:qp)
 | bld (r t e:Nat)
 | build (zero:List AVal) (parts:List (Nat × Nat × qp))
 | buildSlice (sz len:Nat) (zero:List AVal) (parts:List (Nat × qp))
 | load (agg:Bool) (n:Nat) (x:qp)
 | vload (agg:Bool) (n:Nat) (x:qp)
 | loadTake (off:Option Nat) (x:qp)
 | store (n:Nat) (a v:qp)
 | nilCheck (x:qp)
 | bin (op:BinOp) (x y:qp)
 | eqs (ks:List Kd) (neq:Bool) (x y:qp)
 | beq (neq:Bool) (x y:qp)
 | nilEq (k:Nat) (neq:Bool) (x:qp)
 | un (op:UnOp) (x:qp)
 | conv (k:IntKind) (x:qp)
 | convStr (x:qp)
 | field (agg:Bool) (off n:Nat) (x:qp)
 | index (agg:Bool) (len n:Nat) (x i:qp)
 | strIndex (x i:qp)
 | fieldAddr (agg:Bool) (off n:Nat) (x:qp)
 | indexAddr (sz:Nat) (x i:qp)
 | indexArr (agg:Bool) (len sz:Nat) (x i:qp)
 | slice (sz:Nat) (x:qp) (lo hi:Option qp)
 | strSlice (x:qp) (lo hi:Option qp)
 | sliceArr (len sz:Nat) (x:qp) (lo hi:Option qp)
 | mkfunc (f:Fn) (first captured:List qp)
 | mkmap (r:Nat)
 | lookup (kd:Kd) (zero:AVal) (ok:Bool) (m k:qp)
 | mapUpdate (kd:Kd) (m k v:qp)
 | delete (kd:Kd) (m k:qp)
 | mkslice (r:Option Nat) (sz bytes:Nat) (zero:List AVal) (n c:qp)
 | len (k:Nat) (x:qp)
 | append (r:Option Nat) (sz bytes:Nat) (x y:qp)
 | copy (sz:Nat) (x y:qp)
 | mx (args:List qp)
 | mn (args:List qp)
 | extract (x:qp) (i:Nat)
 | call (md:CMode) (f:qp) (args:List qp)
 | srange (r:Nat) (x:qp)
 | snext (it:qp)
 | bad
 deriving Inhabited
structure AOper where
 dst:Option Nat
 op:AOp
 guard:Option (Nat × Bool)
 al:Option (List Nat)
 deriving Inhabited
inductive ACode where
 | skip
 | region (na:Nat) (ops:List AOper) (keep:Option (List Nat))
 | seq (a b:ACode)
 | cond (c:qp) (a b:ACode)
 | block (id:Nat) (body:ACode)
 | loop (body:ACode)
 | rangeFunc (f:qp) (params:List Nat) (assign body:ACode)
 | exit (id:Nat)
 | ret
 | grow (sz:Nat)
 | stuck
 deriving Inhabited
abbrev Env:=List (Nat × AVal × Bool)
inductive jg where
 | normal
 | exit (id:Nat)
 | ret
 deriving DecidableEq,Inhabited
structure ql0 where
 env:Env
 params:List Nat
 assign:ACode
 body:ACode
 pending:Option jg
 deriving Inhabited
def j7:ACode→Bool
 | .seq a b=>j7 a && j7 b
 | .cond _ a b=>j7 a && j7 b
 | .block _ b=>j7 b
 | .loop b=>j7 b
 | .rangeFunc ..=>false
 | _=>true
def noOwn (e:Env):Env:=e.map fun x=>(x.1,x.2.1,false)
inductive ABox where
 | hole
 | cells (cs:List (AVal × Bool))
 | map (es:List (AVal × AVal))
 | iter (s:List UInt8) (pos:Nat)
 | loop (l:ql0)
 | bld (t e:Nat) (l:List UInt8)
 | dead
 deriving Inhabited
abbrev qh:=List ABox
structure ASt where
 env:Env
 heap:qh
 deriving Inhabited
inductive qae where
 | tmp (t:Nat)
 | cell (t:Nat) (agg:Bool) (n:Nat)
 deriving Inhabited
structure qy where
 ntmps:Nat
 body:ACode
 results:List qae
 deriving Inhabited
abbrev qd6:=Nat→Option (List AVal→Option (AVal × Bool))
abbrev qkj:=Nat→Option (List AVal→qh→Option (AVal × Bool × qh))
abbrev qx1:=Nat→Option (List (AVal × AVal))
structure jk where
 fns:Nat→Option qy
 prims:qd6
 sprims:qkj:=fun _=>none
 maps:qx1:=fun _=>none
def jf (t:Nat):Env→Option (AVal × Bool)
 | []=>none
 | (s,x)::e=>bif Nat.beq s t then some x else jf t e
def qf (e:Env):qp→Option AVal
 | .tmp t=>match jf t e with
  | some x=>some x.1
  | none=>none
 | .const v=>some v
def ym (e:Env):List qp→Option (List AVal)
 | []=>some []
 | x::xs=>match qf e x with
  | some v=>match ym e xs with
   | some vs=>some (v::vs)
   | none=>none
  | none=>none
def qbc (e:Env):List Nat→Env
 | []=>[]
 | t::ts=>match jf t e with
  | some x=>(t,x)::qbc e ts
  | none=>qbc e ts
def qb7:IntKind→Int→Bool
 | .i64,.ofNat m=>Nat.ble m 9223372036854775807
 | .i64,.negSucc m=>Nat.ble m 9223372036854775807
 | .i32,.ofNat m=>Nat.ble m 2147483647
 | .i32,.negSucc m=>Nat.ble m 2147483647
 | .i16,.ofNat m=>Nat.ble m 32767
 | .i16,.negSucc m=>Nat.ble m 32767
 | .i8,.ofNat m=>Nat.ble m 127
 | .i8,.negSucc m=>Nat.ble m 127
 | .u64,.ofNat m=>Nat.ble m 18446744073709551615
 | .u32,.ofNat m=>Nat.ble m 4294967295
 | .u16,.ofNat m=>Nat.ble m 65535
 | .u8,.ofNat m=>Nat.ble m 255
 | _,.negSucc _=>false
def qk (k:IntKind) (n:Int):Int:=bif qb7 k n then n else k.wrap n
def AVal.flat:AVal→List AVal
 | .agg cs=>cs
 | v=>[v]
def AVal.isAgg:AVal→Bool
 | .agg _=>true
 | _=>false
def AVal.isList:AVal→Bool
 | .list ..=>true
 | _=>false
def ki:Kd→AVal→AVal→Option Bool
 | .int,.int k a,.int k' b=>bif decide (k=k') then some (a == b) else none
 | .str,.str a,.str b=>some (a == b)
 | .bool,.bool a,.bool b=>some (a == b)
 | _,_,_=>none
def zq:List Kd→List AVal→List AVal→Option Bool
 | [],[],[]=>some true
 | k::ks,x::xs,y::ys=>match ki k x y with
  | some true=>zq ks xs ys
  | some false=>some false
  | none=>none
 | _,_,_=>none
def part (agg:Bool) (cs:List AVal) (off n:Nat):Option AVal:=
 bif agg then (bif Nat.ble (off + n) cs.length then some (.agg ((cs.drop off).take n)) else none) else cs[off]?
def bytesLess:List UInt8→List UInt8→Bool
 | _,[]=>false
 | [],_::_=>true
 | a::x,b::y=>a < b || (a == b && bytesLess x y)
def qbf (op:BinOp) (k:IntKind) (x y:Int):Option AVal:=
 match op with
 | .add=>some (.int k (qk k (x + y)))
 | .sub=>some (.int k (qk k (x - y)))
 | .mul=>some (.int k (qk k (x * y)))
 | .quo=>bif y == 0 then none else some (.int k (qk k (x.tdiv y)))
 | .rem=>bif y == 0 then none else some (.int k (x.tmod y))
 | .eql=>some (.bool (x == y))
 | .neq=>some (.bool (x != y))
 | .lss=>some (.bool (decide (x < y)))
 | .leq=>some (.bool (decide (x≤y)))
 | .gtr=>some (.bool (decide (x > y)))
 | .geq=>some (.bool (decide (x ≥ y)))
 | .and=>some (.int k (k.wrap (BitVec.ofInt k.bits x &&& BitVec.ofInt k.bits y).toNat))
 | .or=>some (.int k (k.wrap (BitVec.ofInt k.bits x ||| BitVec.ofInt k.bits y).toNat))
 | .xor=>some (.int k (k.wrap (BitVec.ofInt k.bits x ^^^ BitVec.ofInt k.bits y).toNat))
 | .andNot=>some (.int k (k.wrap (BitVec.ofInt k.bits x &&& ~~~BitVec.ofInt k.bits y).toNat))
 | _=>none
def qje (op:BinOp) (k:IntKind) (x y:Int):Option AVal:=
 bif decide (y < 0) then none else
 match op with
 | .shl=>some (.int k (qk k (x * 2 ^ (min y.toNat k.bits))))
 | .shr=>some (.int k (x.fdiv (2 ^ (min y.toNat k.bits))))
 | _=>none
def qhs (op:BinOp) (x y:List UInt8):Option AVal:=
 match op with
 | .add=>bif Nat.ble (x.length + y.length) 4611686018427387904 then some (.str (x++y)) else none
 | .eql=>some (.bool (x == y))
 | .neq=>some (.bool !(x == y))
 | .lss=>some (.bool (bytesLess x y))
 | .leq=>some (.bool (bytesLess x y || x == y))
 | .gtr=>some (.bool !(bytesLess x y || x == y))
 | .geq=>some (.bool !(bytesLess x y))
 | _=>none
def zg (op:BinOp):AVal→AVal→Option AVal
 | .int k x,.int k' y=>match op with
  | .shl=>qje .shl k x y
  | .shr=>qje .shr k x y
  | op=>bif decide (k=k') then qbf op k x y else none
 | .str x,.str y=>qhs op x y
 | _,_=>none
def qgn:UnOp→AVal→Option AVal
 | .neg,.int k n=>some (.int k (qk k (0 - n)))
 | .not,.bool b=>some (.bool !b)
 | _,_=>none
def max2:AVal→AVal→Option AVal
 | .int k x,.int k' y=>bif decide (k=k') then some (.int k (if y > x then y else x)) else none
 | _,_=>none
def min2:AVal→AVal→Option AVal
 | .int k x,.int k' y=>bif decide (k=k') then some (.int k (if y < x then y else x)) else none
 | _,_=>none
def qbw (f:AVal→AVal→Option AVal):AVal→List AVal→Option AVal
 | x,[]=>some x
 | x,y::ys=>match f x y with
  | some z=>qbw f z ys
  | none=>none
def qak:List AVal→List (Nat × List AVal)→Option (List AVal)
 | cs,[]=>some cs
 | cs,(off,vs)::rest=>bif Nat.ble (off + vs.length) cs.length then qak (cs.take off++vs++cs.drop (off + vs.length)) rest else none
def qn:AVal→Bool
 | .agg _=>false
 | .tup _=>false
 | .undef=>false
 | .any=>false
 | _=>true
def ye (e:Env):List (Nat × Nat × qp)→Option (List (Nat × List AVal))
 | []=>some []
 | (off,n,x)::ps=>match qf e x with
  | some v=>bif Nat.beq v.flat.length n && v.flat.all qn then
    (match ye e ps with
     | some r=>some ((off,v.flat)::r)
     | none=>none) else none
  | none=>none
def qbv (xs:List AVal):List (Nat × AVal)→Option (List AVal)
 | []=>some xs
 | (i,v)::ps=>bif Nat.blt i xs.length then qbv (xs.set i v) ps else none
def zu (e:Env) (sz:Nat):List (Nat × qp)→Option (List (Nat × AVal))
 | []=>some []
 | (i,x)::ps=>match qf e x with
  | some v=>bif Nat.beq v.flat.length sz && v.flat.all qn then
   (match zu e sz ps with
    | some r=>some ((i,v)::r)
    | none=>none) else none
  | none=>none
def zh (h:qh) (b:Nat):Option ABox:=h[b]?
def jq (h:qh) (b:Nat):Option (List (AVal × Bool)):=
 match h[b]? with
 | some (.cells cs)=>some cs
 | _=>none
def yf (cs:List (AVal × Bool)) (off n:Nat):Option (List AVal):=
 bif Nat.ble (off + n) cs.length then some (((cs.drop off).take n).map (·.1)) else none
def yr (cs:List (AVal × Bool)) (off:Nat) (vs:List AVal):Option (List (AVal × Bool)):=
 bif Nat.ble (off + vs.length) cs.length && vs.all qn then some (cs.take off++vs.map (·,false)++cs.drop (off + vs.length)) else none
mutual
def below (n:Nat):AVal→Bool
 | .ms b _ _=>Nat.blt b n
 | .ptr b _=>Nat.blt b n
 | .map b=>Nat.blt b n
 | .vptr v=>below n v
 | .list _ _ xs=>ju n xs
 | .agg cs=>ju n cs
 | .tup vs=>ju n vs
 | .fn (.yield b) first captured=>Nat.blt b n && ju n first && ju n captured
 | .fn _ first captured=>ju n first && ju n captured
 | _=>true
def ju (n:Nat):List AVal→Bool
 | []=>true
 | x::xs=>below n x && ju n xs
end
def qam (n:Nat):Env→Bool
 | []=>true
 | (_,v,_)::e=>below n v && qam n e
def qav (n:Nat):List (AVal × Bool)→Bool
 | []=>true
 | (v,_)::e=>below n v && qav n e
def kj (n:Nat):List (AVal × AVal)→Bool
 | []=>true
 | (k,v)::e=>below n k && below n v && kj n e
def qa0 (n:Nat):ABox→Bool
 | .hole=>true
 | .cells cs=>qav n cs
 | .map es=>kj n es
 | .iter _ _=>true
 | .bld ..=>true
 | .dead=>true
 | .loop l=>qam n l.env
def zt (n:Nat):qh→Bool
 | []=>true
 | b::h=>qa0 n b && zt n h
def gc (n:Nat) (st:ASt):ASt:=
 bif Nat.ble st.heap.length n then st
 else bif qam n st.env && zt n (st.heap.take n) then { st with heap:=st.heap.take n } else st
def qcf (v:AVal):Bool:=below 0 v
def ku (h:qh):AVal→Option AVal
 | .ms b off len=>match jq h b with
  | some cs=>match yf cs off len with
   | some vs=>some (.list false 1 vs)
   | none=>none
  | none=>none
 | v=>some v
def k8 (h:qh):List AVal→Option (List AVal)
 | []=>some []
 | v::vs=>match ku h v with
  | some x=>(match k8 h vs with
   | some xs=>some (x::xs)
   | none=>none)
  | none=>none
def freezeR (h:qh):AVal→Option AVal
 | .agg cs=>match k8 h cs with
  | some xs=>some (.agg xs)
  | none=>none
 | .tup vs=>match freezeT h vs with
  | some xs=>some (.tup xs)
  | none=>none
 | v=>ku h v
where
 freezeT (h:qh):List AVal→Option (List AVal)
  | []=>some []
  | .agg cs::vs=>match k8 h cs with
   | some x=>(match freezeT h vs with
    | some xs=>some (.agg x::xs)
    | none=>none)
   | none=>none
  | v::vs=>match ku h v with
   | some x=>(match freezeT h vs with
    | some xs=>some (x::xs)
    | none=>none)
   | none=>none
def js (kd:Kd) (k:AVal):List (AVal × AVal)→Nat→Option (Option (Nat × AVal))
 | [],_=>some none
 | (k',v)::es,i=>match ki kd k k' with
  | some true=>some (some (i,v))
  | some false=>js kd k es (i + 1)
  | none=>none
def qe (s:List UInt8) (i:Nat):Nat × Nat:=Utf8.decode ⟨⟨s⟩⟩ i
structure ORes where
 v:AVal
 own:Bool
 strip:Option Nat
 heap:qh
def exl (l:List Nat):Bool:=match l with
 | []=>false
 | k::_=>Nat.ble 1000 k
def exq (h0:Nat) (l:List Nat) (b:Nat):Bool:=match l with
 | []=>false
 | k::_=>bif Nat.blt k 2000 then Nat.beq b (k - 1000) && Nat.blt b h0 else Nat.beq b (h0 + (k - 2000))
def jx (h0:Nat) (al:Option (List Nat)) (b:Nat):Bool:=
 match al with
 | none=>true
 | some l=>bif exl l then exq h0 l b else (Nat.blt b h0 || l.contains (b - h0))
def jo (h:qh) (b:Nat) (x:ABox):Option qh:=bif Nat.blt b h.length then some (h.set b x) else none
def newBox (h0:Nat) (h:qh) (r:Nat) (x:ABox):Option qh:=
 match h[h0 + r]? with
 | some .hole=>some (h.set (h0 + r) x)
 | _=>none
def val (h:qh) (v:AVal):Option ORes:=some ⟨v,false,none,h⟩
def kq (h:qh):Option AVal→Option ORes
 | some v=>some ⟨v,false,none,h⟩
 | none=>none
def idx (n:Nat):AVal→Option Nat
 | .int _ (.ofNat i)=>bif Nat.blt i n then some i else none
 | _=>none
def qll (n:Nat):AVal→Option Nat
 | .int _ (.ofNat i)=>bif Nat.ble i n then some i else none
 | _=>none
def bnd (e:Env) (dflt n:Nat):Option qp→Option Nat
 | none=>some dflt
 | some x=>match qf e x with
  | some v=>qll n v
  | none=>none
def j4 (e:Env):qp→Option Nat
 | .tmp t=>match jf t e with
  | some (_,true)=>some t
  | _=>none
 | _=>none
def z8 (sz:Nat):AVal→Option (List AVal)
 | .list _ sy ys=>bif Nat.beq sz sy || ys.isEmpty then some ys else none
 | .str s=>bif Nat.beq sz 1 then some (s.map fun (c:UInt8)=>AVal.int .u8 c.toNat) else none
 | _=>none
def qdl (n:Bool) (sz:Nat) (xs ys:List AVal):AVal:=bif n && ys.isEmpty then .list true 0 [] else .list false sz (xs++ys)
def qo (e:Env) (h:qh):AOp→Option ORes
 | .move x=>kq h (qf e x)
 | .take s=>match jf s e with
  | some (v,o)=>some ⟨v,o,some s,h⟩
  | none=>none
 | .pick c a b=>match qf e c with
  | some (.bool t)=>(match qf e a,qf e b with
    | some x,some y=>val h (bif t then x else y)
    | _,_=>none)
  | _=>none
 | .vbox n x=>match qf e x with
  | some v=>bif Nat.beq v.flat.length n && v.flat.all qn then val h (.vptr v) else none
  | none=>none
 | .build zero parts=>match ye e parts with
  | some ps=>match qak zero ps with
   | some cs=>val h (.agg cs)
   | none=>none
  | none=>none
 | .buildSlice sz len zero parts=>match zu e sz parts with
  | some ps=>match qbv (List.replicate len (bif Nat.beq sz 1 then zero.headD .undef else .agg zero)) ps with
   | some xs=>some ⟨.list false sz xs,true,none,h⟩
   | none=>none
  | none=>none
 | .vload agg n x=>match qf e x with
  | some (.vptr v)=>bif Bool.xor agg v.isAgg || !(Nat.beq v.flat.length n) then none else val h v
  | _=>none
 | .nilCheck x=>match qf e x with
  | some (.ptr b o)=>val h (.ptr b o)
  | some (.vptr v)=>val h (.vptr v)
  | some (.fn (.func f) a b)=>val h (.fn (.func f) a b)
  | _=>none
 | .bin op x y=>match qf e x,qf e y with
  | some a,some b=>kq h (zg op a b)
  | _,_=>none
 | .eqs ks neq x y=>match qf e x,qf e y with
  | some (.agg a),some (.agg b)=>bif Nat.beq a.length ks.length && Nat.beq b.length ks.length then (match zq ks a b with
   | some t=>val h (.bool (bif neq then !t else t))
   | none=>none) else none
  | _,_=>none
 | .beq neq x y=>match qf e x,qf e y with
  | some (.bool a),some (.bool b)=>val h (.bool (bif neq then !(a == b) else a == b))
  | _,_=>none
 | .nilEq k neq x=>match k,qf e x with
  | 0,some (.list n _ _)=>val h (.bool (bif neq then !n else n))
  | 0,some (.ms ..)=>val h (.bool neq)
  | 1,some .nilptr=>val h (.bool (!neq))
  | 1,some (.ptr ..)=>val h (.bool neq)
  | 1,some (.vptr ..)=>val h (.bool neq)
  | 2,some .nilmap=>val h (.bool (!neq))
  | 2,some (.map ..)=>val h (.bool neq)
  | 3,some .nilfn=>val h (.bool (!neq))
  | 3,some (.fn ..)=>val h (.bool neq)
  | _,_=>none
 | .un op x=>match qf e x with
  | some v=>kq h (qgn op v)
  | none=>none
 | .conv k x=>match qf e x with
  | some (.int _ n)=>val h (.int k (qk k n))
  | _=>none
 | .convStr x=>match qf e x with
  | some (.str s)=>val h (.str s)
  | some (.int _ n)=>val h (.str (Utf8.encode n).data.toList)
  | _=>none
 | .field agg off n x=>match qf e x with
  | some (.agg cs)=>kq h (part agg cs off n)
  | _=>none
 | .index agg len n x i=>match qf e x,qf e i with
  | some (.agg cs),some j=>(match idx len j with
   | some j=>kq h (part agg cs (j * n) n)
   | none=>none)
  | _,_=>none
 | .strIndex x i=>match qf e x,qf e i with
  | some (.str s),some j=>(match idx s.length j with
   | some j=>(match s[j]? with
    | some c=>val h (.int .u8 c.toNat)
    | none=>none)
   | none=>none)
  | _,_=>none
 | .fieldAddr agg off n x=>match qf e x with
  | some (.ptr b o)=>val h (.ptr b (o + off))
  | some (.vptr (.agg cs))=>(match part agg cs off n with
   | some v=>bif Bool.xor agg v.isAgg then none else val h (.vptr v)
   | none=>none)
  | _=>none
 | .indexAddr sz x i=>match qf e x,qf e i with
  | some (.list _ sz' xs),some j=>bif Nat.beq sz sz' || xs.isEmpty then (match idx xs.length j with
   | some j=>(match xs[j]? with
    | some v=>val h (.vptr v)
    | none=>none)
   | none=>none) else none
  | some (.ms b o len),some j=>(match idx len j with
   | some j=>val h (.ptr b (o + j * sz))
   | none=>none)
  | _,_=>none
 | .indexArr agg len sz x i=>match qf e x,qf e i with
  | some (.ptr b o),some j=>(match idx len j with
   | some j=>val h (.ptr b (o + j * sz))
   | none=>none)
  | some (.vptr (.agg cs)),some j=>(match idx len j with
   | some j=>(match part agg cs (j * sz) sz with
    | some v=>bif Bool.xor agg v.isAgg then none else val h (.vptr v)
    | none=>none)
   | none=>none)
  | _,_=>none
 | .slice sz x lo hi=>match qf e x with
  | some (.list n sz' xs)=>bif Nat.beq sz sz' || xs.isEmpty then (match bnd e xs.length xs.length hi with
   | some j=>(match bnd e 0 j lo with
    | some i=>val h (.list n sz' ((xs.take j).drop i))
    | none=>none)
   | none=>none) else none
  | some (.ms b o len)=>(match bnd e len len hi with
   | some j=>(match bnd e 0 j lo with
    | some i=>bif Nat.beq i 0 || Nat.blt i j then val h (.ms b (o + i * sz) (j - i)) else none
    | none=>none)
   | none=>none)
  | _=>none
 | .strSlice x lo hi=>match qf e x with
  | some (.str s)=>(match bnd e s.length s.length hi with
   | some j=>(match bnd e 0 j lo with
    | some i=>val h (.str ((s.take j).drop i))
    | none=>none)
   | none=>none)
  | _=>none
 | .sliceArr len sz x lo hi=>match qf e x with
  | some (.ptr b o)=>(match bnd e len len hi with
   | some j=>(match bnd e 0 j lo with
    | some i=>bif Nat.beq i 0 || Nat.blt i j then val h (.ms b (o + i * sz) (j - i)) else none
    | none=>none)
   | none=>none)
  | _=>none
 | .mkfunc f first captured=>match ym e first,ym e captured with
  | some a,some b=>val h (.fn f a b)
  | _,_=>none
 | .len k x=>match k,qf e x with
  | 1,some (.list _ _ xs)=>val h (.int .i64 xs.length)
  | 1,some (.ms _ _ n)=>val h (.int .i64 n)
  | 2,some (.list true _ _)=>val h (.int .i64 0)
  | 0,some (.str s)=>val h (.int .i64 s.length)
  | _,_=>none
 | .append none sz bytes x y=>match qf e x,qf e y with
  | some (.list n sz' xs),some vy=>
   bif n || (j4 e x).isSome then
    (match z8 sz vy with
     | some ys=>
      bif (Nat.beq sz sz' || (xs.isEmpty && n)) && Nat.ble (xs.length + ys.length) 1073741824 && Nat.ble bytes 4096 && Nat.blt 0 sz then
       some ⟨qdl n sz xs ys,true,j4 e x,h⟩
      else none
     | none=>none)
   else none
  | _,_=>none
 | .mkslice none sz bytes zero n c=>match qf e n,qf e c with
  | some (.int .i64 (.ofNat n)),some (.int .i64 (.ofNat c))=>
   bif Nat.beq n c && Nat.ble n 1073741824 && Nat.ble bytes 4096 && Nat.beq zero.length sz && Nat.blt 0 sz && zero.all qn then
    some ⟨.list false sz (List.replicate n (bif Nat.beq sz 1 then zero.headD .undef else .agg zero)),true,none,h⟩ else none
  | _,_=>none
 | .mx args=>match ym e args with
  | some (v::vs)=>kq h (qbw max2 v vs)
  | _=>none
 | .mn args=>match ym e args with
  | some (v::vs)=>kq h (qbw min2 v vs)
  | _=>none
 | .extract x i=>match qf e x with
  | some (.tup vs)=>kq h vs[i]?
  | _=>none
 | _=>none
def kw (es:List (AVal × AVal)) (i:Nat) (v:AVal):List (AVal × AVal):=
 match es,i with
 | [],_=>[]
 | (k,_)::r,0=>(k,v)::r
 | x::r,i + 1=>x::kw r i v
def zp (h0:Nat) (al:Option (List Nat)) (e:Env) (h:qh):AOp→Option ORes
 | .load agg n x=>match qf e x with
  | some (.ptr b o)=>bif jx h0 al b then (match jq h b with
   | some cs=>(match yf cs o n with
    | some vs=>bif agg then val h (.agg vs) else (match vs with
     | [v]=>val h v
     | _=>none)
    | none=>none)
   | none=>none) else none
  | some (.vptr v)=>bif Bool.xor agg v.isAgg || !(Nat.beq v.flat.length n) then none else val h v
  | _=>none
 | .lookup kd zero ok m k=>match qf e m,qf e k with
  | some (.map b),some kv=>bif jx h0 al b then (match zh h b with
   | some (.map es)=>(match js kd kv es 0 with
    | some (some (_,v))=>val h (bif ok then .tup [v,.bool true] else v)
    | some none=>val h (bif ok then .tup [zero,.bool false] else zero)
    | none=>none)
   | _=>none) else none
  | some .nilmap,some _=>val h (bif ok then .tup [zero,.bool false] else zero)
  | _,_=>none
 | .len _ x=>match qf e x with
  | some (.map b)=>bif jx h0 al b then (match zh h b with
   | some (.map es)=>val h (.int .i64 es.length)
   | _=>none) else none
  | some .nilmap=>val h (.int .i64 0)
  | _=>none
 | _=>none
def qs1 (es:List (AVal × AVal)):Option (Nat × AVal)→List (AVal × AVal)
 | some (i,_)=>es.eraseIdx i
 | none=>es
def qd3:Option Nat→Nat→Bool
 | none,_=>true
 | some a,o=>Nat.beq a o
def qlw (sz len:Nat):AVal→Option (Nat × List AVal)
 | .list _ sy ys=>bif Nat.beq sz sy || ys.isEmpty then some (min ys.length len,(ys.take len).flatMap AVal.flat) else none
 | _=>none
def cellsOf (vs:List AVal):List (AVal × Bool):=vs.map (·,false)
def qu (h0:Nat) (al:Option (List Nat)) (e:Env) (h:qh):AOp→Option ORes
 | .alloc r zero=>bif zero.all qn then (match newBox h0 h r (.cells (cellsOf zero)) with
  | some h'=>val h' (.ptr (h0 + r) 0)
  | none=>none) else none
 | .box r n x=>match qf e x with
  | some v=>bif Nat.beq v.flat.length n && v.flat.all qn then (match newBox h0 h r (.cells (cellsOf v.flat)) with
   | some h'=>val h' (.ptr (h0 + r) 0)
   | none=>none) else none
  | none=>none
 | .loadTake off x=>match qf e x with
  | some (.ptr b o)=>bif jx h0 al b && qd3 off o then (match jq h b with
   | some cs=>(match cs[o]? with
    | some (v,w)=>(match jo h b (.cells (cs.set o (v,false))) with
     | some h'=>some ⟨v,w,none,h'⟩
     | none=>none)
    | none=>none)
   | none=>none) else none
  | _=>none
 | .store n a x=>match qf e a,qf e x with
  | some (.ptr b o),some v=>bif jx h0 al b then (match jq h b with
   | some cs=>(match j4 e x with
    | some t=>bif Nat.beq n 1 && v.isList && Nat.blt o cs.length then (match jo h b (.cells (cs.set o (v,true))) with
      | some h'=>some ⟨.undef,false,some t,h'⟩
      | none=>none) else none
    | none=>bif Nat.beq v.flat.length n then (match yr cs o v.flat with
     | some cs'=>(match jo h b (.cells cs') with
      | some h'=>val h' .undef
      | none=>none)
     | none=>none) else none)
   | none=>none) else none
  | _,_=>none
 | .bld r t e=>match newBox h0 h r (.bld t e []) with
  | some h'=>val h' (.ptr (h0 + r) 0)
  | none=>none
 | .mkmap r=>match newBox h0 h r (.map []) with
  | some h'=>val h' (.map (h0 + r))
  | none=>none
 | .mapUpdate kd m k x=>match qf e m,qf e k,qf e x with
  | some (.map b),some kv,some v=>bif jx h0 al b then (match zh h b with
   | some (.map es)=>(match js kd kv es 0 with
    | some (some (i,_))=>(match jo h b (.map (kw es i v)) with
     | some h'=>val h' .undef
     | none=>none)
    | some none=>bif Nat.ble es.length 1073741824 then (match jo h b (.map (es++[(kv,v)])) with
     | some h'=>val h' .undef
     | none=>none) else none
    | none=>none)
   | _=>none) else none
  | _,_,_=>none
 | .delete kd m k=>match qf e m,qf e k with
  | some (.map b),some kv=>bif jx h0 al b then (match zh h b with
   | some (.map es)=>(match js kd kv es 0 with
    | some r=>(match jo h b (.map (qs1 es r)) with
     | some h'=>val h' (.tup [])
     | none=>none)
    | none=>none)
   | _=>none) else none
  | _,_=>none
 | .mkslice (some r) sz bytes zero n c=>match qf e n,qf e c with
  | some (.int .i64 (.ofNat n)),some (.int .i64 (.ofNat c))=>
   bif Nat.beq n c && Nat.ble n 1073741824 && Nat.ble bytes 4096 && Nat.beq zero.length sz && Nat.blt 0 sz && zero.all qn then
    (match newBox h0 h r (.cells (cellsOf (List.replicate n zero).flatten)) with
     | some h'=>val h' (.ms (h0 + r) 0 n)
     | none=>none) else none
  | _,_=>none
 | .append (some r) sz bytes x y=>match qf e x,qf e y with
  | some (.list false sz' []),some vy=>
   bif (j4 e x).isSome && Nat.beq sz sz' then
    (match z8 sz vy with
     | some ys=>
      bif Nat.ble ys.length 1073741824 && Nat.ble bytes 4096 && Nat.blt 0 sz then
       (match newBox h0 h r (.cells (cellsOf (ys.flatMap AVal.flat))) with
        | some h'=>some ⟨.ms (h0 + r) 0 ys.length,false,j4 e x,h'⟩
        | none=>none)
      else none
     | none=>none)
   else none
  | _,_=>none
 | .copy sz x y=>match qf e x,qf e y with
  | some (.ms b o len),some vy=>bif jx h0 al b then (match jq h b with
   | some cs=>(match qlw sz len vy with
    | some (n,vs)=>(match yr cs o vs with
     | some cs'=>bif Nat.beq vs.length (n * sz) then (match jo h b (.cells cs') with
      | some h'=>val h' (.int .i64 n)
      | none=>none) else none
     | none=>none)
    | none=>none)
   | none=>none) else none
  | _,_=>none
 | .srange r x=>match qf e x with
  | some (.str s)=>(match newBox h0 h r (.iter s 0) with
   | some h'=>val h' (.ptr (h0 + r) 0)
   | none=>none)
  | _=>none
 | .snext it=>match qf e it with
  | some (.ptr b 0)=>bif jx h0 al b then (match zh h b with
   | some (.iter s pos)=>bif Nat.blt pos s.length then
     (match jo h b (.iter s (pos + (qe s pos).2)) with
      | some h'=>val h' (.tup [.bool true,.int .i64 pos,.int .i32 (qe s pos).1])
      | none=>none) else val h (.tup [.bool false])
   | _=>none) else none
  | _=>none
 | _=>none
def qb9:Nat→List AVal→Env
 | _,[]=>[]
 | i,v::vs=>(i,v,false)::qb9 (i + 1) vs
def qa5 (st:ASt):qae→Option (AVal × Bool)
 | .tmp t=>jf t st.env
 | .cell t agg n=>match jf t st.env with
  | some (.ptr b o,_)=>(match jq st.heap b with
   | some cs=>(match yf cs o n with
    | some vs=>bif agg then some (.agg vs,false) else (match cs[o]? with
     | some x=>some x
     | none=>none)
    | none=>none)
   | none=>none)
  | _=>none
def yd (st:ASt):List qae→Option (List (AVal × Bool))
 | []=>some []
 | r::rs=>match qa5 st r with
  | some x=>(match yd st rs with
   | some xs=>some (x::xs)
   | none=>none)
  | none=>none
def jp:List (AVal × Bool)→AVal × Bool
 | [x]=>x
 | xs=>(.tup (xs.map (·.1)),false)
abbrev XC:=ACode→ASt→Option (jg × ASt)
def yi (st:ASt):List qae→qh
 | [.cell t false _]=>match jf t st.env with
  | some (.ptr b o,_)=>(match jq st.heap b with
   | some cs=>(match cs[o]? with
    | some (v,true)=>st.heap.set b (.cells (cs.set o (v,false)))
    | _=>st.heap)
   | none=>st.heap)
  | _=>st.heap
 | _=>st.heap
def qan (xc:XC) (f:qy) (args:List AVal) (h:qh):Option (AVal × Bool × qh):=
 bif Nat.ble args.length f.ntmps then
  match xc f.body ⟨qb9 0 args,h⟩ with
  | some (.normal,st)=>(match yd st f.results with
   | some xs=>some ((jp xs).1,(jp xs).2,yi st f.results)
   | none=>none)
  | some (.ret,st)=>(match yd st f.results with
   | some xs=>some ((jp xs).1,(jp xs).2,yi st f.results)
   | none=>none)
  | _=>none
 else none
def jc (p:jk) (xc:XC) (k:Nat) (args:List AVal) (h:qh):Option (AVal × Bool × qh):=
 match p.fns k with
 | some f=>qan xc f args h
 | none=>match p.sprims k with
  | some f=>f args h
  | none=>none
def qd (p:jk) (xc:XC) (k:Nat) (args:List AVal):Option (AVal × Bool):=
 match p.prims k with
 | some f=>(match f args with
  | some (v,o)=>bif qcf v then some (v,o) else none
  | none=>none)
 | none=>match jc p xc k args [] with
  | some (v,o,h)=>(match freezeR h v with
   | some v'=>bif qcf v' then some (v',o && v.isList) else none
   | none=>none)
  | none=>none
def zm (n:Nat) (v:AVal) (h:qh):qh:=
 bif Nat.ble h.length n then h else bif below n v && zt n (h.take n) then h.take n else h
def qc5 (e:Env):List Nat→List AVal→Option Env
 | [],[]=>some e
 | t::ts,v::vs=>qc5 ((t,v,false)::e) ts vs
 | _,_=>none
def kr (xc:XC) (b:Nat) (args:List AVal) (h:qh):Option (AVal × qh):=
 match zh h b with
 | some (.loop l)=>match l.pending,qc5 (noOwn l.env) l.params args with
  | none,some e=>(match xc l.assign ⟨e,h⟩ with
   | some (.normal,st)=>(match zh st.heap b with
    | some (.loop l1)=>bif l1.pending.isNone then (match xc l.body { st with heap:=st.heap.set b (.loop { l1 with pending:=some .normal }) } with
     | some (x,st')=>(match zh st'.heap b with
      | some (.loop l2)=>some (.bool (match x with | .normal=>true | _=>false),zm h.length (.bool true) (st'.heap.set b (.loop { l2 with pending:=match x with | .normal=>none | x=>some x })))
      | _=>none)
     | none=>none) else none
    | _=>none)
   | _=>none)
  | _,_=>none
 | _=>none
def yg (p:jk) (xc:XC) (h0:Nat) (e:Env) (h:qh) (md:CMode) (f:qp) (args:List qp):Option ORes:=
 match qf e f,ym e args with
 | some (.fn (.func k) first captured),some vs=>
  (match md with
   | .iso=>bif ju 0 (first++vs++captured) then (match qd p xc k (first++vs++captured) with
     | some (v,o)=>some ⟨v,o,none,h⟩
     | none=>none) else none
   | .frz r=>bif (first++vs++captured).isEmpty then (match p.maps k with
     | some es=>(match newBox h0 h r (.map es) with
      | some h'=>val h' (.map (h0 + r))
      | none=>none)
     | none=>none) else none
   | .shr=>(match jc p xc k (first++vs++captured) h with
    | some (v,o,h')=>some ⟨v,o,none,zm h.length v h'⟩
    | none=>none))
 | some (.fn (.yield b) [] []),some vs=>
  (match md with
   | .shr=>(match kr xc b vs h with
    | some (v,h')=>val h' v
    | none=>none)
   | _=>none)
 | _,_=>none
def qc (p:jk) (xc:XC) (h0:Nat) (al:Option (List Nat)) (e:Env) (h:qh) (op:AOp):Option ORes:=
 match op with
 | .call md f args=>yg p xc h0 e h md f args
 | .load agg n x=>zp h0 al e h (.load agg n x)
 | .lookup kd z ok m k=>zp h0 al e h (.lookup kd z ok m k)
 | .alloc r z=>qu h0 al e h (.alloc r z)
 | .box r n x=>qu h0 al e h (.box r n x)
 | .loadTake off x=>qu h0 al e h (.loadTake off x)
 | .store n a x=>qu h0 al e h (.store n a x)
 | .bld r t e'=>qu h0 al e h (.bld r t e')
 | .mkmap r=>qu h0 al e h (.mkmap r)
 | .mapUpdate kd m k x=>qu h0 al e h (.mapUpdate kd m k x)
 | .delete kd m k=>qu h0 al e h (.delete kd m k)
 | .mkslice (some r) sz b z n c=>qu h0 al e h (.mkslice (some r) sz b z n c)
 | .append (some r) sz b x y=>qu h0 al e h (.append (some r) sz b x y)
 | .copy sz x y=>qu h0 al e h (.copy sz x y)
 | .srange r x=>qu h0 al e h (.srange r x)
 | .snext it=>qu h0 al e h (.snext it)
 | op=>qo e h op
def zd (e:Env):Option Nat→Env
 | none=>e
 | some s=>match jf s e with
  | some (v,_)=>(s,v,false)::e
  | none=>e
def qau (e:Env) (d:Option Nat) (v:AVal) (o:Bool):Env:=
 match d with
 | some d=>(d,v,o)::e
 | none=>e
def qaj (e:Env):Option (Nat × Bool)→Option Bool
 | none=>some true
 | some (s,want)=>match jf s e with
  | some (.bool b,_)=>some (b == want)
  | some (.undef,_)=>some false
  | _=>none
def zo (p:jk) (xc:XC) (h0:Nat) (o:AOper) (st:ASt):Option ASt:=
 match qaj st.env o.guard with
 | some true=>(match qc p xc h0 o.al st.env st.heap o.op with
  | some r=>some ⟨qau (zd st.env r.strip) o.dst r.v r.own,r.heap⟩
  | none=>none)
 | some false=>some ⟨qau st.env o.dst .undef false,st.heap⟩
 | none=>none
def kh (p:jk) (xc:XC) (h0:Nat):List AOper→ASt→Option ASt
 | [],st=>some st
 | o::os,st=>match zo p xc h0 o st with
  | some st'=>kh p xc h0 os st'
  | none=>none
def qfw (st:ASt):Option (List Nat)→ASt
 | none=>st
 | some l=>{ st with env:=qbc st.env l }
def ky (p:jk) (xc:XC) (na:Nat) (ops:List AOper) (keep:Option (List Nat)) (st:ASt):Option (jg × ASt):=
 match kh p xc st.heap.length ops { st with heap:=st.heap++List.replicate na .hole } with
 | some st'=>some (.normal,qfw st' keep)
 | none=>none
def qaw (p:jk) (xc:XC) (f:qp) (params:List Nat) (assign body:ACode) (st:ASt):Option (jg × ASt):=
 bif j7 assign && j7 body then
  match qf st.env f with
  | some (.fn (.func k) first captured)=>
   (match jc p xc k (first++[.fn (.yield st.heap.length) [] []]++captured) (st.heap++[.loop ⟨st.env,params,assign,body,none⟩]) with
    | some (_,_,h')=>(match zh h' st.heap.length with
     | some (.loop l)=>bif zt st.heap.length (h'.take st.heap.length) then
       (match l.pending with
       | none=>some (.normal,{ st with heap:=h'.take st.heap.length })
       | some .normal=>none
       | some x=>some (x,{ st with heap:=h'.take st.heap.length })) else none
     | _=>none)
    | none=>none)
  | _=>none
 else none
def jd (p:jk):Nat→XC
 | 0,_,_=>none
 | n + 1,c,st=>match c with
  | .skip=>some (.normal,st)
  | .region na ops keep=>ky p (jd p n) na ops keep st
  | .seq a b=>match jd p n a st with
   | some (.normal,st')=>jd p n b st'
   | r=>r
  | .cond c a b=>match qf st.env c with
   | some (.bool t)=>bif t then jd p n a st else jd p n b st
   | _=>none
  | .block id body=>match jd p n body st with
   | some (.exit id',st')=>bif Nat.beq id' id then some (.normal,st') else some (.exit id',st')
   | r=>r
  | .loop body=>match jd p n body st with
   | some (.normal,st')=>jd p n (.loop body) (gc st.heap.length st')
   | r=>r
  | .rangeFunc f params assign body=>qaw p (jd p n) f params assign body st
  | .exit id=>some (.exit id,st)
  | .ret=>some (.ret,st)
  | .grow sz=>match jf 0 st.env,jf 1 st.env with
   | some (.list true _ _,_),some (.int .i64 (.ofNat m),_)=>bif Nat.blt 0 m && Nat.ble m 1073741824 then some (.normal,{ st with env:=[(0,.list false sz [],true)] }) else none
   | _,_=>none
  | .stuck=>none
structure qt where
 takes:List Nat:=[]
 muts:List Nat:=[]
 offs:List (Nat × Nat):=[]
 shr:List (Nat × Nat):=[]
 frz:List (Nat × Nat):=[]
 keep:List (Nat × List Nat):=[]
 vl:List Nat:=[]
 ex:List ((Nat × Nat) × Nat):=[]
 deriving Inhabited
def qhr:Value→Option AVal
 | .bool b=>some (.bool b)
 | .int k n=>some (.int k n)
 | .string s=>some (.str s.data.toList)
 | .slice none 0 0=>some (.list true 0 [])
 | .pointer none=>some .nilptr
 | .map none=>some .nilmap
 | .nilFunc=>some .nilfn
 | _=>none
def qcc:List Value→Option (List AVal)
 | []=>some []
 | v::vs=>match qhr v with
  | some x=>match qcc vs with
   | some xs=>some (x::xs)
   | none=>none
  | none=>none
def ofValue:Value→Option AVal
 | .agg cs=>match qcc cs.toList with
  | some xs=>some (.agg xs)
  | none=>none
 | v=>qhr v
def qw:Operand→Option qp
 | .tmp t=>some (.tmp t)
 | .const v=>match ofValue v with
  | some x=>some (.const x)
  | none=>none
 | .func f=>some (.const (.fn (.func f) [] []))
 | .global _=>none
def qcs:List Operand→Option (List qp)
 | []=>some []
 | x::xs=>match qw x with
  | some y=>match qcs xs with
   | some ys=>some (y::ys)
   | none=>none
  | none=>none
def qcb:Option Operand→Option (Option qp)
 | none=>some none
 | some x=>match qw x with
  | some y=>some (some y)
  | none=>none
def zn (P:Program) (t:TypeId):Option Bool:=
 match P.underlying t with
 | some (.struct _)=>some true
 | some (.array _ _)=>some true
 | some _=>some false
 | none=>none
def jm (P:Program) (t:TypeId):Option Nat:=(P.info? t).map (·.size)
def qcr (P:Program) (t:TypeId):Option Nat:=(P.info? t).map (·.bytes)
def yw (P:Program) (t:TypeId):Option (List AVal):=
 match P.info? t with
 | some i=>match i.zero with
  | some z=>qcc z.cells.toList
  | none=>none
 | none=>none
def q0k (P:Program) (t:TypeId):Option TypeId:=
 match P.underlying t with
 | some (.struct fs)=>match fs.toList with
  | [f0,f1]=>match P.underlying f0.type,P.underlying f1.type with
   | some (.pointer t'),some (.slice e)=>match P.underlying e,yw P t with
    | some (.int .u8),some [.nilptr,.list true _ []]=>if t' == t then some e else none
    | _,_=>none
   | _,_=>none
  | _=>none
 | _=>none
def qxb (P:Program) (t:TypeId):Option AVal:=
 match P.info? t with
 | some i=>match i.zero with
  | some z=>ofValue z
  | none=>none
 | none=>none
def qil (g:TypeId→Option (List Kd)):Nat→List Field→Option (List Kd)
 | _,[]=>some []
 | off, f :: fs => if f.name != "_" && f.offset == off then (match g f.type with
   | some ks=>(match qil g (off + ks.length) fs with
    | some r=>some (ks++r)
    | none=>none)
   | none=>none) else none
def qcn (P:Program):Nat→TypeId→Option (List Kd)
 | 0,_=>none
 | n + 1,t=>match P.underlying t with
  | some (.int _)=>if jm P t == some 1 then some [.int] else none
  | some .string=>if jm P t == some 1 then some [.str] else none
  | some .bool=>if jm P t == some 1 then some [.bool] else none
  | some (.struct fs)=>(match qil (qcn P n) 0 fs.toList with
   | some ks=>if !P.stoodInHeld t && jm P t == some ks.length then some ks else none
   | none=>none)
  | some (.array len e)=>(match qcn P n e with
   | some ks=>if jm P t == some (len * ks.length) then some (List.replicate len ks).flatten else none
   | none=>none)
  | _=>none
def qe9:Nat:=12
def kdT (P:Program) (t:TypeId):Option Kd:=
 match P.underlying t with
 | some (.int _)=>some .int
 | some .string=>some .str
 | some .bool=>some .bool
 | _=>none
def cEq (P:Program) (op:BinOp) (neq:Bool) (t:TypeId) (x y:Operand):Option AOp:=
 match P.underlying t with
 | some (.int _) | some .string=>match qw x,qw y with
  | some a,some b=>some (.bin op a b)
  | _,_=>none
 | some .bool=>match qw x,qw y with
  | some a,some b=>some (.beq neq a b)
  | _,_=>none
 | some (.struct _) | some (.array _ _)=>
  if !P.eqGuardType P.depth t then match qcn P qe9 t,qw x,qw y with
   | some ks,some a,some b=>some (.eqs ks neq a b)
   | _,_,_=>none
  else none
 | some (.slice _)=>match y with
  | .const (.slice none 0 0)=>(qw x).map (.nilEq 0 neq)
  | _=>none
 | some (.pointer _)=>match y with
  | .const (.pointer none)=>(qw x).map (.nilEq 1 neq)
  | _=>none
 | some (.map _ _)=>match y with
  | .const (.map none)=>(qw x).map (.nilEq 2 neq)
  | _=>none
 | some (.func _ _ _)=>match y with
  | .const .nilFunc=>(qw x).map (.nilEq 3 neq)
  | _=>none
 | _=>none
def q6d (P:Program) (op:BinOp) (t:TypeId) (x y:Operand):Option AOp:=
 match op with
 | .eql=>cEq P .eql false t x y
 | .neq=>cEq P .neq true t x y
 | op=>match qw x,qw y with
  | some a,some b=>some (.bin op a b)
  | _,_=>none
def qef (P:Program) (place:Nat→Option (Nat × Nat)):List (Nat × Operand)→Option (List (Nat × Nat × qp))
 | []=>some []
 | (i,x)::ps=>match place i,qw x,qef P place ps with
  | some (off,n),some y,some r=>some ((off,n,y)::r)
  | _,_,_=>none
def qih:List (Nat × Operand)→Option (List (Nat × qp))
 | []=>some []
 | (i,x)::ps=>match qw x,qih ps with
  | some y,some r=>some ((i,y)::r)
  | _,_=>none
def qvy (h:qt) (dst:Option Nat) (x:Operand):Option Nat:=
 match x,dst with
 | .tmp s,some d=>if h.takes.contains d then some s else none
 | _,_=>none
def qc9:TypeDesc→Bool
 | .slice _=>true
 | .string=>true
 | _=>false
def CMode.at (r:Nat):CMode→CMode
 | .frz _=>.frz r
 | m=>m
def qly (P:Program) (h:qt) (md:CMode) (r:Nat) (dst:Option Nat) (c:Call):Option AOp:=
 match c.callee with
 | .value f=>match qw f,qcs c.args.toList with
  | some f,some args=>some (.call (md.at r) f args)
  | _,_=>none
 | .builtin .len=>match c.args.toList,c.argTypes.toList with
  | [x],[t]=>match P.underlying t with
   | some .string=>(qw x).map (.len 0)
   | some (.slice _)=>(qw x).map (.len 1)
   | _=>none
  | _,_=>none
 | .builtin .cap=>match c.args.toList,c.argTypes.toList with
  | [x],[t]=>match P.underlying t with
   | some (.slice _)=>(qw x).map (.len 2)
   | _=>none
  | _,_=>none
 | .builtin .append=>match c.args.toList,c.argTypes.toList with
  | [x,y],[t,u]=>match P.underlying t,P.underlying u with
   | some (.slice e),some ut=>if qc9 ut && (yw P e).map (·.length) == jm P e then match jm P e,qcr P e,qw x,qw y with
     | some sz,some b,some x,some y=>some (.append (if (dst.map (h.muts.contains ·)).getD false then some r else none) sz b x y)
     | _,_,_,_=>none
    else none
   | _,_=>none
  | _,_=>none
 | .builtin .copy=>match c.args.toList,c.argTypes.toList with
  | [x,y],t::_=>match P.underlying t with
   | some (.slice e)=>match jm P e,qw x,qw y with
    | some sz,some x,some y=>some (.copy sz x y)
    | _,_,_=>none
   | _=>none
  | _,_=>none
 | .builtin .delete=>match c.args.toList,c.argTypes.toList with
  | [m,k],t::_=>match P.underlying t with
   | some (.map kt _)=>match kdT P kt,qw m,qw k with
    | some kd,some m,some k=>some (.delete kd m k)
    | _,_,_=>none
   | _=>none
  | _,_=>none
 | .builtin .max=>(qcs c.args.toList).map .mx
 | .builtin .min=>(qcs c.args.toList).map .mn
 | _=>none
def qlz : List (String × List Int) := [("woofer/network.none", [0, 0]), ("woofer/network.one", [1, 0]), ("woofer/network.turns", [1, 0, 0, 1, -1, 0, 0, -1])]
def qm7 (P:Program) (g:Nat):List (String × List Int)→Option (List Int)
 | []=>none
 | (n,cs)::l=>if P.globalNamed n == some g then some cs else qm7 P g l
def qwb (P:Program) (t:TypeId) (g:Nat):Option AOp:=match qm7 P g qlz,zn P t,jm P t with
 | some cs,some true,some n=>if cs.length == n then some (.move (.const (.agg (cs.map (AVal.int .i64))))) else none
 | _,_,_=>none
def cOp (P:Program) (h:qt) (md:CMode) (r:Nat) (dst:Option Nat):Op→Option AOp
 | .move x=>match qvy h dst x with
  | some s=>some (.take s)
  | none=>(qw x).map .move
 | .assign (.tmp s)=>some (.take s)
 | .assign x=>(qw x).map .move
 | .pick c a b=>match qw c,qw a,qw b with
  | some c,some a,some b=>some (.pick c a b)
  | _,_,_=>none
 | .alloc t=>match q0k P t with
  | some e=>some (.bld r t e)
  | none=>(yw P t).map (.alloc r)
 | .box t x=>match jm P t,qw x with
  | some n,some x=>some (bif (dst.map (h.vl.contains ·)).getD false then .vbox n x else .box r n x)
  | _,_=>none
 | .build t ps=>match P.underlying t,yw P t with
  | some (.struct fs),some z=>if fs.toList.all (fun f=>(jm P f.type).isSome) then (qef P (fun i=>match fs[i]? with
    | some f=>(jm P f.type).map fun n=>(f.offset,n)
    | none=>none) ps.toList).map (.build z) else none
  | some (.array _ e),some z=>match jm P e with
   | some n=>(qef P (fun i=>some (i * n,n)) ps.toList).map (.build z)
   | none=>none
  | _,_=>none
 | .buildSlice t n ps=>match P.underlying t with
  | some (.slice e)=>match jm P e,yw P e,zn P e,qih ps.toList with
   | some sz,some z,some ag,some es=>if sz * n≤65536 && 0 < sz && z.length == sz && (ag || sz == 1) && (!ag || sz != 1) then some (.buildSlice sz n z es) else none
   | _,_,_,_=>none
  | _=>none
 | .load t (.global g)=>qwb P t g
 | .load t x=>match zn P t,jm P t,qw x with
  | some false,some 1,some x=>if (dst.map (h.takes.contains ·)).getD false then some (.loadTake ((dst.bind fun d=>h.offs.find? fun y=>y.1 == d).map (·.2)) x) else some (bif (dst.map (h.vl.contains ·)).getD false then .vload false 1 x else .load false 1 x)
  | some true,some n,some x=>some (bif (dst.map (h.vl.contains ·)).getD false then .vload true n x else .load true n x)
  | _,_,_=>none
 | .store t a v=>match jm P t,qw a,qw v with
  | some n,some a,some v=>some (.store n a v)
  | _,_,_=>none
 | .nilCheck x=>(qw x).map .nilCheck
 | .binOp op t x y _=>q6d P op t x y
 | .unOp op _ x=>(qw x).map (.un op)
 | .convert s d x=>match P.underlying s,P.underlying d with
  | some (.int _),some (.int k)=>(qw x).map (.conv k)
  | some .string,some .string=>(qw x).map .convStr
  | some (.int _),some .string=>(qw x).map .convStr
  | _,_=>none
 | .makeFunc f a b=>match f with
  | .func k=>match qcs a.toList,qcs b.toList with
   | some a,some b=>some (.mkfunc (.func k) a b)
   | _,_=>none
  | _=>none
 | .makeMap t none=>match P.underlying t with
  | some (.map _ _)=>some (.mkmap r)
  | _=>none
 | .makeSlice t n c=>match P.underlying t with
  | some (.slice e)=>match jm P e,qcr P e,yw P e,zn P e,qw n,qw c with
   | some sz,some b,some z,some ag,some n,some c=>
    if (ag || sz == 1) && (!ag || sz != 1) then some (.mkslice (if (dst.map (h.muts.contains ·)).getD false then some r else none) sz b z n c) else none
   | _,_,_,_,_,_=>none
  | _=>none
 | .slice t x lo hi none=>match qw x,qcb lo,qcb hi with
  | some x,some lo,some hi=>match P.underlying t with
   | some .string=>some (.strSlice x lo hi)
   | some (.slice e)=>(jm P e).map fun sz=>.slice sz x lo hi
   | some (.array n e)=>(jm P e).map fun sz=>.sliceArr n sz x lo hi
   | _=>none
  | _,_,_=>none
 | .fieldAddr t x i=>match P.underlying t with
  | some (.struct fs)=>match fs[i]? with
   | some f=>match zn P f.type,jm P f.type,qw x with
    | some ag,some n,some x=>if 0 < n && (ag || n == 1) then some (.fieldAddr ag f.offset n x) else none
    | _,_,_=>none
   | none=>none
  | _=>none
 | .field t x i=>match P.underlying t with
  | some (.struct fs)=>match fs[i]? with
   | some f=>match zn P f.type,jm P f.type,qw x with
    | some ag,some n,some x=>some (.field ag f.offset n x)
    | _,_,_=>none
   | none=>none
  | _=>none
 | .indexAddr t x i=>match qw x,qw i with
  | some x,some i=>match P.underlying t with
   | some (.slice e)=>match jm P e with
    | some sz=>if 0 < sz then some (.indexAddr sz x i) else none
    | none=>none
   | some (.array n e)=>match jm P e,zn P e with
    | some sz,some ag=>if 0 < sz && (ag || sz == 1) then some (.indexArr ag n sz x i) else none
    | _,_=>none
   | _=>none
  | _,_=>none
 | .index t x i=>match qw x,qw i with
  | some x,some i=>match P.underlying t with
   | some .string=>some (.strIndex x i)
   | some (.array n e)=>match jm P e,zn P e with
    | some sz,some ag=>some (.index ag n sz x i)
    | _,_=>none
   | _=>none
  | _,_=>none
 | .lookup t m k ok=>match P.underlying t with
  | some (.map kt e)=>match kdT P kt,qxb P e,qw m,qw k with
   | some kd,some z,some m,some k=>some (.lookup kd z ok m k)
   | _,_,_,_=>none
  | _=>none
 | .mapUpdate t m k v=>match P.underlying t with
  | some (.map kt _)=>match kdT P kt,qw m,qw k,qw v with
   | some kd,some m,some k,some v=>some (.mapUpdate kd m k v)
   | _,_,_,_=>none
  | _=>none
 | .insert t m k v=>match P.underlying t with
  | some (.map kt _)=>match kdT P kt,qw m,qw k,qw v with
   | some kd,some m,some k,some v=>some (.mapUpdate kd m k v)
   | _,_,_,_=>none
  | _=>none
 | .range t x=>match P.underlying t with
  | some .string=>(qw x).map (.srange r)
  | _=>none
 | .next it true=>(qw it).map .snext
 | .extract x i=>(qw x).map fun x=>.extract x i
 | .call c=>qly P h md r dst c
 | _=>none
def AOp.makes:AOp→Bool
 | .alloc ..=>true
 | .box ..=>true
 | .bld ..=>true
 | .mkmap ..=>true
 | .mkslice (some _) ..=>true
 | .append (some _) ..=>true
 | .srange ..=>true
 | .call (.frz _) ..=>true
 | _=>false
def qkh (ops:Array Oper):Option (Nat × Bool)→Option (Option (Nat × Bool))
 | none=>some none
 | some (j,b)=>match (ops[j]?).bind (·.dst) with
  | some d=>some (some (d,b))
  | none=>none
def qzx (h:qt) (id i:Nat):CMode:=if h.shr.contains (id,i) then .shr else if h.frz.contains (id,i) then .frz 0 else .iso
def qr4 (P:Program) (h:qt) (nt:Nat) (id:Nat) (ops:Array Oper) (bef:Array Nat) (draw:Bool):List Oper→Nat→List (Nat × Nat)→Option (List AOper × List (Nat × Nat))
 | [],_,rs=>some ([],rs)
 | o::os,i,rs=>
  match (cOp P h (qzx h id i) rs.length o.dst o.op).getD .bad,qkh ops o.guard with
  | a,some g=>
   if (o.dst.map (decide <| · < nt)).getD true then
    let rs':=if a.makes then (i,rs.length)::rs else rs
    let al:=if draw then (match h.ex.find? fun x=>x.1 == (id,i) with
     | some x=>some [x.2]
     | none=>some ((rs.filter fun x=>(bef.getD i 0).testBit x.1).map (·.2))) else none
    match qr4 P h nt id ops bef draw os (i + 1) rs' with
    | some (l,rs'')=>some (⟨o.dst,a,g,al⟩::l,rs'')
    | none=>none
   else none
  | _,_=>none
def jy:qp→List Nat
 | .tmp t=>[t]
 | .const _=>[]
def qgy (l:List qp):List Nat:=l.flatMap jy
def qjn:Option qp→List Nat
 | some x=>jy x
 | none=>[]
def AOp.reads:AOp→List Nat
 | .move x=>jy x
 | .take s=>[s]
 | .pick c a b=>jy c++jy a++jy b
 | .alloc _ _=>[]
 | .box _ _ x=>jy x
 | .vbox _ x=>jy x
 | .bld _ _ _=>[]
 | .build _ ps=>ps.flatMap fun p=>jy p.2.2
 | .buildSlice _ _ _ ps=>ps.flatMap fun p=>jy p.2
 | .load _ _ x=>jy x
 | .vload _ _ x=>jy x
 | .loadTake _ x=>jy x
 | .store _ a v=>jy a++jy v
 | .nilCheck x=>jy x
 | .bin _ x y=>jy x++jy y
 | .eqs _ _ x y=>jy x++jy y
 | .beq _ x y=>jy x++jy y
 | .nilEq _ _ x=>jy x
 | .un _ x=>jy x
 | .conv _ x=>jy x
 | .convStr x=>jy x
 | .field _ _ _ x=>jy x
 | .index _ _ _ x i=>jy x++jy i
 | .strIndex x i=>jy x++jy i
 | .fieldAddr _ _ _ x=>jy x
 | .indexAddr _ x i=>jy x++jy i
 | .indexArr _ _ _ x i=>jy x++jy i
 | .slice _ x lo hi=>jy x++qjn lo++qjn hi
 | .strSlice x lo hi=>jy x++qjn lo++qjn hi
 | .sliceArr _ _ x lo hi=>jy x++qjn lo++qjn hi
 | .mkfunc _ a b=>qgy a++qgy b
 | .mkmap _=>[]
 | .lookup _ _ _ m k=>jy m++jy k
 | .mapUpdate _ m k v=>jy m++jy k++jy v
 | .delete _ m k=>jy m++jy k
 | .mkslice _ _ _ _ n c=>jy n++jy c
 | .len _ x=>jy x
 | .append _ _ _ x y=>jy x++jy y
 | .copy _ x y=>jy x++jy y
 | .mx l=>qgy l
 | .mn l=>qgy l
 | .extract x _=>jy x
 | .call _ f l=>jy f++qgy l
 | .srange _ x=>jy x
 | .snext x=>jy x
 | .bad=>[]
def AOp.strips:AOp→List Nat
 | .take s=>[s]
 | .append _ _ _ x _=>jy x
 | .store _ _ v=>jy v
 | _=>[]
def AOper.reads (o:AOper):List Nat:=o.op.reads++(match o.guard with | some g=>[g.1] | none=>[])
def AOper.writes (o:AOper):List Nat:=o.dst.toList++o.op.strips
inductive Cls where
 | pure | read | write | alloc | take | frz | shr
 deriving DecidableEq,Inhabited
def AOp.cl:AOp→Cls
 | .load ..=>.read
 | .lookup ..=>.read
 | .alloc ..=>.alloc
 | .box ..=>.alloc
 | .bld ..=>.alloc
 | .mkmap ..=>.alloc
 | .mkslice (some _) ..=>.alloc
 | .append (some _) ..=>.alloc
 | .srange ..=>.alloc
 | .loadTake none _=>.write
 | .loadTake (some _) _=>.take
 | .store ..=>.write
 | .mapUpdate ..=>.write
 | .delete ..=>.write
 | .copy ..=>.write
 | .snext ..=>.write
 | .call .iso ..=>.pure
 | .call (.frz _) ..=>.alloc
 | .call .shr ..=>.shr
 | _=>.pure
def AOp.rank:AOp→Nat
 | .alloc r _=>r
 | .box r _ _=>r
 | .bld r _ _=>r
 | .mkmap r=>r
 | .mkslice (some r) ..=>r
 | .append (some r) ..=>r
 | .srange r _=>r
 | .call (.frz r) ..=>r
 | .loadTake (some o) _=>o
 | _=>0
def qbl (al:Option (List Nat)) (r:Nat):Bool:=match al with
 | none=>true
 | some l=>bif exl l then Nat.beq (l.headD 0) (2000 + r) else l.contains r
def qfk (a b:Option (List Nat)):Bool:=match a,b with
 | some l,some m=>bif exl l then (bif exl m then !(Nat.beq (l.headD 0) (m.headD 0)) else Nat.ble 2000 (l.headD 0) && !(m.contains (l.headD 0 - 2000))) else exl m && Nat.ble 2000 (m.headD 0) && !(l.contains (m.headD 0 - 2000))
 | _,_=>false
def Cls.box:Cls→Bool
 | .read=>true
 | .write=>true
 | .take=>true
 | _=>false
def qwm (a b:AOper):Bool:=(a.op.cl.box && b.op.cl.box && qfk a.al b.al) ||
  (match a.op.cl,b.op.cl with
 | .pure,_=>true
 | _,.pure=>true
 | .read,.read=>true
 | .read,.frz=>true
 | .frz,.read=>true
 | .frz,.frz=>true
 | .alloc,.alloc=>a.op.rank != b.op.rank
 | .alloc,.read=>!qbl b.al a.op.rank
 | .alloc,.write=>!qbl b.al a.op.rank
 | .alloc,.take=>!qbl b.al a.op.rank
 | .take,.alloc=>!qbl a.al b.op.rank
 | .take,.take=>a.op.rank != b.op.rank
 | .read,.alloc=>!qbl a.al b.op.rank
 | .write,.alloc=>!qbl a.al b.op.rank
 | _,_=>false)
def qga (a b:List Nat):Bool:=a.all fun x=>!b.contains x
def qdz (a b:AOper):Bool:=
 qwm a b && qga a.writes b.reads && qga a.writes b.writes && qga b.writes a.reads
def qtd (bef:Array Nat) (l:List AOper):Bool:=
 (l.zipIdx).all fun (b,j)=>(l.zipIdx).all fun (a,i)=>!(decide (i < j)) || (bef.getD j 0).testBit i || qdz a b
def qoj (ops:Array Oper):Bool:=ops.toList.zipIdx.all fun (o,i)=>o.after.all fun e=>!Region.binds .any e || decide (e.on < i)
def qwd (bef:Array Nat) (ops:Array Oper):Bool:=
 ops.toList.zipIdx.all fun (o,i)=>(List.range ops.size).all fun j=>!((bef.getD i 0).testBit j) || o.after.any fun e=>Region.binds .any e && (e.on == j || (bef.getD e.on 0).testBit j)
def qik (P:Program) (h:qt) (nt:Nat) (id:Nat) (ops:Array Oper) (draw:Bool):Option ACode:=
 match qr4 P h nt id ops (Region.before ops) draw ops.toList 0 [] with
 | some (l,rs)=>
  if !draw || (qtd (Region.before ops) l && qoj ops && qwd (Region.before ops) ops) then
   some (.region rs.length l ((h.keep.find? fun x=>x.1 == id).map (·.2)))
  else none
 | none=>none
def qht (s d:Nat) (o:Oper):Bool:=match o.op,o.dst,o.guard with
 | .move (.tmp s'),some d',none=>s' == s && d' == d
 | _,_,_=>false
def qmx (s d:Nat) (o:Oper):Bool:=match o.op,o.dst,o.guard with
 | .assign (.tmp s'),some d',none=>s' == s && d' == d
 | _,_,_=>false
def q2c (x d:Nat) (o:Oper):Option TypeId:=match o.op,o.dst,o.guard with
 | .call c,some d',none=>match c.callee,c.args.toList,c.argTypes.toList with
  | .builtin .cap,[.tmp x'],[t]=>if x' == x && d' == d then some t else none
  | _,_,_=>none
 | _,_,_=>none
def q1w (x d:Nat) (o:Oper):Option TypeId:=match o.op,o.dst,o.guard with
 | .call c,some d',none=>match c.callee,c.args.toList,c.argTypes.toList with
  | .builtin .len,[.tmp x'],[t]=>if x' == x && d' == d then some t else none
  | _,_,_=>none
 | _,_,_=>none
def qb0 (x h d:Nat) (o:Oper):Option TypeId:=match o.op,o.dst,o.guard with
 | .slice t (.tmp x') none (some (.tmp h')) none,some d',none=>if x' == x && h' == h && d' == d then some t else none
 | _,_,_=>none
def q1m (x y d:Nat) (o:Oper):Option (TypeId × TypeId):=match o.op,o.dst,o.guard with
 | .call c,some d',none=>match c.callee,c.args.toList,c.argTypes.toList with
  | .builtin .append,[.tmp x',.tmp y'],[t,u]=>if x' == x && y' == y && d' == d then some (t,u) else none
  | _,_,_=>none
 | _,_,_=>none
def q2x (ops:Array Oper):Option (TypeId × TypeId):=match ops.toList with
 | [o0,o1,o2,o3,o4,o5,o6,o7,o8,o9]=>match q2c 18 19 o2,qb0 17 19 20 o3,q1m 20 21 22 o5,q1w 23 24 o7,qb0 22 24 25 o8 with
  | some t2,some t3,some (t,u),some t7,some t8=>if qht 0 17 o0 && qht 0 18 o1 && qht 1 21 o4 && qht 0 23 o6 && qmx 25 0 o9 && t2 == t && t3 == t && t7 == t && t8 == t then some (t,u) else none
  | _,_,_,_,_=>none
 | _=>none
def qno (P:Program) (nt:Nat) (ops:Array Oper):Option Nat:=match q2x ops with
 | some (t,u)=>match P.underlying t,P.underlying u with
  | some (.slice e),some (.int _)=>match P.info? e with
   | some i=>if i.zero.isSome && 0 < i.size && i.bytes≤4096 && 26≤nt && (yw P e).isSome && (yw P e).map (·.length) == some i.size then some i.size else none
   | none=>none
  | _,_=>none
 | none=>none
def yx (P:Program) (h:qt) (nt:Nat):Code→Option ACode
 | .skip=>some .skip
 | .label _=>some .skip
 | .region id ops draw=>match draw,qno P nt ops with
  | false,some sz=>some (.grow sz)
  | _,_=>qik P h nt id ops draw
 | .seq a b=>match yx P h nt a,yx P h nt b with
  | some x,some y=>some (.seq x y)
  | _,_=>none
 | .cond c a b=>match qw c,yx P h nt a,yx P h nt b with
  | some c,some x,some y=>some (.cond c x y)
  | _,_,_=>none
 | .block id b=>(yx P h nt b).map (.block id)
 | .loop b=>(yx P h nt b).map .loop
 | .scope b=>(yx P h nt b).map fun x=>.seq x .skip
 | .rangeFunc f ps a b=>match qw f,yx P h nt a,yx P h nt b with
  | some f,some x,some y=>if ps.all (decide <| · < nt) then some (.rangeFunc f ps.toList x y) else none
  | _,_,_=>none
 | .exit id=>some (.exit id)
 | .ret=>some .ret
 | _=>some .stuck
def qxp (P:Program):ResultVar→Option qae
 | .tmp t=>some (.tmp t)
 | .cell t ty=>match zn P ty,jm P ty with
  | some true,some n=>some (.cell t true n)
  | some false,some 1=>some (.cell t false 1)
  | _,_=>none
def qi0 (P:Program):List ResultVar→Option (List qae)
 | []=>some []
 | r::rs=>match qxp P r,qi0 P rs with
  | some x,some xs=>some (x::xs)
  | _,_=>none
def qsn (P:Program) (h:qt) (f:Func):Option qy:=
 match f.body with
 | some c=>match yx P h f.ntmps c,qi0 P f.results.toList with
  | some b, some rs => if f.name == "runtime.NumGoroutine" then none else some ⟨f.ntmps, b, rs⟩
  | _,_=>none
 | none=>none
structure Ctx where
 K:Nat→Nat→Option Value
 β:Nat→Option Nat
 W:Nat→Prop
 D:Nat→Prop
def Ctx.iso (K:Nat→Nat→Option Value):Ctx:=⟨K,fun _=>none,fun _=>False,fun _=>False⟩
def RepFn (C:Ctx):Fn→Fn→Prop
 | .yield b,f=>∃ r,C.β b=some r∧f=.yield r
 | f,f'=>f'=f
inductive RIx where
 | val (x:AVal) (v:Value)
 | cells (r:Nat) (xs:List AVal) (o:Nat)
 | row (r sz:Nat) (xs:List AVal) (o:Nat)
 | lst (xs:List AVal) (vs:List Value)
inductive RepI (C:Ctx):RIx→Prop where
 | bool (b:Bool):RepI C (.val (.bool b) (.bool b))
 | int (k:IntKind) (n:Int):RepI C (.val (.int k n) (.int k n))
 | str (s:List UInt8):RepI C (.val (.str s) (.string ⟨⟨s⟩⟩))
 | lnil (sz:Nat):RepI C (.val (.list true sz []) (.slice none 0 0))
 | list (sz:Nat) (xs:List AVal) (r o cap:Nat) (hl:xs.length≤cap) (hr:RepI C (.row r sz xs o)):RepI C (.val (.list false sz xs) (.slice (some ⟨r,o,none⟩) xs.length cap))
 | lemp (sz:Nat) (a:Addr) (hs:a.spot ≠ none):RepI C (.val (.list false sz []) (.slice (some a) 0 0))
 | ms (b o len r cap:Nat) (hb:C.β b=some r) (hl:len≤cap):RepI C (.val (.ms b o len) (.slice (some ⟨r,o,none⟩) len cap))
 | ptr (b o r:Nat) (hb:C.β b=some r):RepI C (.val (.ptr b o) (.pointer (some ⟨r,o,none⟩)))
 | vptr (x:AVal) (r o:Nat) (h:RepI C (.cells r x.flat o)):RepI C (.val (.vptr x) (.pointer (some ⟨r,o,none⟩)))
 | nilptr:RepI C (.val .nilptr (.pointer none))
 | map (b r:Nat) (hb:C.β b=some r):RepI C (.val (.map b) (.map (some r)))
 | nilmap:RepI C (.val .nilmap (.map none))
 | fn (f f':Fn) (a b:List AVal) (as bs:List Value) (hf:RepFn C f f') (ha:RepI C (.lst a as)) (hb:RepI C (.lst b bs)):RepI C (.val (.fn f a b) (.func f' ⟨as⟩ ⟨bs⟩))
 | nilfn:RepI C (.val .nilfn .nilFunc)
 | agg (cs:List AVal) (vs:List Value) (h:RepI C (.lst cs vs)):RepI C (.val (.agg cs) (.agg ⟨vs⟩))
 | tup (cs:List AVal) (vs:List Value) (h:RepI C (.lst cs vs)):RepI C (.val (.tup cs) (.tuple ⟨vs⟩))
 | undef:RepI C (.val .undef (.tuple #[]))
 | any (v:Value):RepI C (.val .any v)
 | cnil (r o:Nat):RepI C (.cells r [] o)
 | ccons (r o:Nat) (x:AVal) (xs:List AVal) (v:Value) (hv:C.K r o=some v) (hx:RepI C (.val x v)) (h:RepI C (.cells r xs (o + 1))):RepI C (.cells r (x::xs) o)
 | rnil (r sz o:Nat):RepI C (.row r sz [] o)
 | rcons (r sz o:Nat) (x:AVal) (xs:List AVal) (hs:x.flat.length=sz) (hx:RepI C (.cells r x.flat o)) (h:RepI C (.row r sz xs (o + sz))):RepI C (.row r sz (x::xs) o)
 | nil:RepI C (.lst [] [])
 | cons (x:AVal) (xs:List AVal) (v:Value) (vs:List Value) (hx:RepI C (.val x v)) (h:RepI C (.lst xs vs)):RepI C (.lst (x::xs) (v::vs))
abbrev Rep (C:Ctx) (x:AVal) (v:Value):Prop:=RepI C (.val x v)
abbrev RepL (C:Ctx) (xs:List AVal) (vs:List Value):Prop:=RepI C (.lst xs vs)
abbrev RepC (C:Ctx) (r:Nat) (xs:List AVal) (o:Nat):Prop:=RepI C (.cells r xs o)
abbrev RepRow (C:Ctx) (r sz:Nat) (xs:List AVal) (o:Nat):Prop:=RepI C (.row r sz xs o)
structure Ctx.le (C C':Ctx):Prop where
 k:∀ r o v,C.K r o=some v→C'.K r o=some v
 b:∀ b r,C.β b=some r→C'.β b=some r
 w:C'.W=C.W
 d:∀ r,C.D r→C'.D r
theorem Ctx.le_refl (C:Ctx):C.le C:=⟨fun _ _ _ h=>h,fun _ _ h=>h,rfl,fun _ h=>h⟩
theorem Ctx.le_trans {A B C:Ctx} (h:A.le B) (k:B.le C):A.le C:=⟨fun r o v x=>k.1 r o v (h.1 r o v x),fun b r x=>k.2 b r (h.2 b r x),k.w.trans h.w,fun r x=>k.d r (h.d r x)⟩
theorem RepFn.imp {C C':Ctx} (h:(∀ r o v,C.K r o=some v→C'.K r o=some v)∧(∀ b r,C.β b=some r→C'.β b=some r)) {f f':Fn} (hf:RepFn C f f'):RepFn C' f f':=by
 cases f <;> simp only [RepFn] at * <;> first | exact hf | exact ⟨hf.choose,h.2 _ _ hf.choose_spec.1,hf.choose_spec.2⟩
theorem RepI.imp {C C':Ctx} (h:(∀ r o v,C.K r o=some v→C'.K r o=some v)∧(∀ b r,C.β b=some r→C'.β b=some r)) {i:RIx} (hr:RepI C i):RepI C' i:=by
 induction hr with
 | bool b=>exact .bool b
 | int k n=>exact .int k n
 | str s=>exact .str s
 | lnil sz=>exact .lnil sz
 | list sz xs r o cap hl _ ih=>exact .list sz xs r o cap hl ih
 | lemp sz a hs=>exact .lemp sz a hs
 | ms b o len r cap hb hl=>exact .ms b o len r cap (h.2 _ _ hb) hl
 | ptr b o r hb=>exact .ptr b o r (h.2 _ _ hb)
 | vptr x r o _ ih=>exact .vptr x r o ih
 | nilptr=>exact .nilptr
 | map b r hb=>exact .map b r (h.2 _ _ hb)
 | nilmap=>exact .nilmap
 | fn f f' a b as bs hf _ _ ha hb=>exact .fn f f' a b as bs (hf.imp h) ha hb
 | nilfn=>exact .nilfn
 | agg cs vs _ ih=>exact .agg cs vs ih
 | tup cs vs _ ih=>exact .tup cs vs ih
 | undef=>exact .undef
 | any v=>exact .any v
 | cnil r o=>exact .cnil r o
 | ccons r o x xs v hv _ _ ihx ih=>exact .ccons r o x xs v (h.1 _ _ _ hv) ihx ih
 | rnil r sz o=>exact .rnil r sz o
 | rcons r sz o x xs hs _ _ ihx ih=>exact .rcons r sz o x xs hs ihx ih
 | nil=>exact .nil
 | cons x xs v vs _ _ ihx ih=>exact .cons x xs v vs ihx ih
theorem RepI.mono {C C':Ctx} (h:C.le C') {i:RIx} (hr:RepI C i):RepI C' i:=hr.imp ⟨h.k,h.b⟩
def RIx.below (n:Nat):RIx→Bool
 | .val x _=>Abs.below n x
 | .cells _ xs _=>ju n xs
 | .row _ _ xs _=>ju n xs
 | .lst xs _=>ju n xs
theorem qoa (n:Nat) (x:AVal):ju n x.flat=Abs.below n x:=by
 cases x <;> simp [AVal.flat,ju,Abs.below]
theorem RepI.shift {C C':Ctx} (n:Nat) (hK:∀ r o v,C.K r o=some v→C'.K r o=some v) (hβ:∀ b r,b < n→C.β b=some r→C'.β b=some r) {i:RIx} (hr:RepI C i) (hb:i.below n=true):RepI C' i:=by
 induction hr with
 | bool b=>exact .bool b
 | int k n=>exact .int k n
 | str s=>exact .str s
 | lnil sz=>exact .lnil sz
 | list sz xs r o cap hl _ ih=>exact .list sz xs r o cap hl (ih (by simpa [RIx.below,Abs.below] using hb))
 | lemp sz a hs=>exact .lemp sz a hs
 | ms b o len r cap h1 hl=>exact .ms b o len r cap (hβ _ _ (by simpa [RIx.below,Abs.below] using hb) h1) hl
 | ptr b o r h1=>exact .ptr b o r (hβ _ _ (by simpa [RIx.below,Abs.below] using hb) h1)
 | vptr x r o _ ih=>exact .vptr x r o (ih (by simpa [RIx.below,Abs.below,qoa] using hb))
 | nilptr=>exact .nilptr
 | map b r h1=>exact .map b r (hβ _ _ (by simpa [RIx.below,Abs.below] using hb) h1)
 | nilmap=>exact .nilmap
 | fn f f' a b as bs hf _ _ iha ihb=>
  have hf':RepFn C' f f':=by
   cases f <;> simp only [RepFn] at * <;> first | exact hf | skip
   obtain ⟨r,h1,rfl⟩:=hf
   simp [RIx.below,Abs.below] at hb
   exact ⟨r,hβ _ _ hb.1.1 h1,rfl⟩
  have hab:ju n a=true∧ju n b=true:=by
   cases f <;> simp [RIx.below,Abs.below] at hb <;> first | exact hb | exact ⟨hb.1.2,hb.2⟩
  exact .fn f f' a b as bs hf' (iha hab.1) (ihb hab.2)
 | nilfn=>exact .nilfn
 | agg cs vs _ ih=>exact .agg cs vs (ih (by simpa [RIx.below,Abs.below] using hb))
 | tup cs vs _ ih=>exact .tup cs vs (ih (by simpa [RIx.below,Abs.below] using hb))
 | undef=>exact .undef
 | any v=>exact .any v
 | cnil r o=>exact .cnil r o
 | ccons r o x xs v hv _ _ ihx ih=>
  simp [RIx.below,ju] at hb ihx ih
  exact .ccons r o x xs v (hK _ _ _ hv) (ihx hb.1) (ih hb.2)
 | rnil r sz o=>exact .rnil r sz o
 | rcons r sz o x xs hs _ _ ihx ih=>
  simp [RIx.below,ju,qoa] at hb ihx ih
  exact .rcons r sz o x xs hs (ihx hb.1) (ih hb.2)
 | nil=>exact .nil
 | cons x xs v vs _ _ ihx ih=>
  simp [RIx.below,ju] at hb ihx ih
  exact .cons x xs v vs (ihx hb.1) (ih hb.2)
theorem RepL.length {C:Ctx} {xs:List AVal}:∀ {vs:List Value},RepL C xs vs→vs.length=xs.length:=by
 induction xs with
 | nil=>intro vs h; cases h; rfl
 | cons x xs ih=>intro vs h; cases h with | cons _ _ v vs hx h=>simp [ih h]
theorem RepL.get {C:Ctx} {xs:List AVal}:∀ {vs:List Value},RepL C xs vs→∀ {i:Nat} {x:AVal},xs[i]?=some x→∃ v,vs[i]?=some v∧Rep C x v:=by
 induction xs with
 | nil=>intro vs _ i x h; simp at h
 | cons y ys ih=>
  intro vs h i x hi
  cases h with
  | cons _ _ v vs hx h=>
   cases i with
   | zero=>simp at hi; subst hi; exact ⟨v,rfl,hx⟩
   | succ i=>simp at hi; obtain ⟨w,h1,h2⟩:=ih h hi; exact ⟨w,by simpa using h1,h2⟩
theorem RepL.append {C:Ctx} {xs ys:List AVal}:∀ {vs ws:List Value},RepL C xs vs→RepL C ys ws→RepL C (xs++ys) (vs++ws):=by
 induction xs with
 | nil=>intro vs ws h k; cases h; exact k
 | cons x xs ih=>intro vs ws h k; cases h with | cons _ _ v vs hx h=>exact .cons _ _ _ _ hx (ih h k)
theorem RepL.take {C:Ctx} {xs:List AVal}:∀ {vs:List Value} (n:Nat),RepL C xs vs→RepL C (xs.take n) (vs.take n):=by
 induction xs with
 | nil=>intro vs n h; cases h; simpa using RepI.nil
 | cons x xs ih=>intro vs n h; cases h with | cons _ _ v vs hx h=>cases n with
  | zero=>simpa using RepI.nil
  | succ n=>exact .cons _ _ _ _ hx (ih n h)
theorem RepL.drop {C:Ctx} {xs:List AVal}:∀ {vs:List Value} (n:Nat),RepL C xs vs→RepL C (xs.drop n) (vs.drop n):=by
 induction xs with
 | nil=>intro vs n h; cases h; simpa using RepI.nil
 | cons x xs ih=>intro vs n h; cases h with | cons _ _ v vs hx h=>cases n with
  | zero=>exact .cons _ _ _ _ hx h
  | succ n=>simpa using ih n h
theorem RepC.get {C:Ctx} {r:Nat} {xs:List AVal}:∀ {o:Nat},RepC C r xs o→∀ {i:Nat} {x:AVal},xs[i]?=some x→∃ v,C.K r (o + i)=some v∧Rep C x v:=by
 induction xs with
 | nil=>intro o _ i x h; simp at h
 | cons y ys ih=>
  intro o h i x hi
  cases h with
  | ccons _ _ _ _ v hv hx h=>
   cases i with
   | zero=>simp at hi; subst hi; exact ⟨v,hv,hx⟩
   | succ i=>simp at hi; obtain ⟨w,h1,h2⟩:=ih h hi; exact ⟨w,by rw [show o + (i + 1)=o + 1 + i from by omega]; exact h1,h2⟩
theorem RepC.drop {C:Ctx} {r:Nat} {xs:List AVal}:∀ {o:Nat} (n:Nat),RepC C r xs o→RepC C r (xs.drop n) (o + n):=by
 induction xs with
 | nil=>intro o n h; simpa using RepI.cnil r (o + n)
 | cons x xs ih=>intro o n h; cases h with | ccons _ _ _ _ v hv hx h=>cases n with
  | zero=>exact .ccons _ _ _ _ _ hv hx h
  | succ n=>have:=ih n h; rw [show o + (n + 1)=o + 1 + n from by omega]; simpa using this
theorem RepC.take {C:Ctx} {r:Nat} {xs:List AVal}:∀ {o:Nat} (n:Nat),RepC C r xs o→RepC C r (xs.take n) o:=by
 induction xs with
 | nil=>intro o n h; simpa using RepI.cnil r o
 | cons x xs ih=>intro o n h; cases h with | ccons _ _ _ _ v hv hx h=>cases n with
  | zero=>simpa using RepI.cnil r o
  | succ n=>exact .ccons _ _ _ _ _ hv hx (ih n h)
theorem RepC.append {C:Ctx} {r:Nat} {xs ys:List AVal}:∀ {o:Nat},RepC C r xs o→RepC C r ys (o + xs.length)→RepC C r (xs++ys) o:=by
 induction xs with
 | nil=>intro o _ k; simpa using k
 | cons x xs ih=>intro o h k; cases h with | ccons _ _ _ _ v hv hx h=>exact .ccons _ _ _ _ _ hv hx (ih h (by simpa [Nat.add_assoc,Nat.add_comm 1] using k))
theorem RepRow.get {C:Ctx} {r sz:Nat} {xs:List AVal}:∀ {o:Nat},RepRow C r sz xs o→∀ {i:Nat} {x:AVal},xs[i]?=some x→RepC C r x.flat (o + i * sz):=by
 induction xs with
 | nil=>intro o _ i x h; simp at h
 | cons y ys ih=>
  intro o h i x hi
  cases h with
  | rcons _ _ _ _ _ hs hx h=>
   cases i with
   | zero=>simp at hi; subst hi; simpa using hx
   | succ i=>simp at hi; have:=ih h hi; rw [show o + (i + 1) * sz=o + sz + i * sz from by rw [Nat.succ_mul]; omega]; exact this
theorem RepRow.drop {C:Ctx} {r sz:Nat} {xs:List AVal}:∀ {o:Nat} (n:Nat),RepRow C r sz xs o→RepRow C r sz (xs.drop n) (o + n * sz):=by
 induction xs with
 | nil=>intro o n h; simpa using RepI.rnil r sz (o + n * sz)
 | cons x xs ih=>intro o n h; cases h with | rcons _ _ _ _ _ hs hx h=>cases n with
  | zero=>simpa using RepI.rcons _ _ _ _ _ hs hx h
  | succ n=>have:=ih n h; rw [show o + (n + 1) * sz=o + sz + n * sz from by rw [Nat.succ_mul]; omega]; simpa using this
theorem RepRow.take {C:Ctx} {r sz:Nat} {xs:List AVal}:∀ {o:Nat} (n:Nat),RepRow C r sz xs o→RepRow C r sz (xs.take n) o:=by
 induction xs with
 | nil=>intro o n h; simpa using RepI.rnil r sz o
 | cons x xs ih=>intro o n h; cases h with | rcons _ _ _ _ _ hs hx h=>cases n with
  | zero=>simpa using RepI.rnil r sz o
  | succ n=>exact .rcons _ _ _ _ _ hs hx (ih n h)
theorem RepRow.append {C:Ctx} {r sz:Nat} {xs ys:List AVal}:∀ {o:Nat},RepRow C r sz xs o→RepRow C r sz ys (o + xs.length * sz)→RepRow C r sz (xs++ys) o:=by
 induction xs with
 | nil=>intro o _ k; simpa using k
 | cons x xs ih=>
  intro o h k
  cases h with
  | rcons _ _ _ _ _ hs hx h=>
   refine .rcons _ _ _ _ _ hs hx (ih h ?_)
   have e:o + sz + xs.length * sz=o + (x::xs).length * sz:=by simp [Nat.succ_mul]; omega
   rw [e]; exact k
theorem RepRow.sized {C:Ctx} {r sz:Nat} {xs:List AVal}:∀ {o:Nat},RepRow C r sz xs o→∀ x∈xs,x.flat.length=sz:=by
 induction xs with
 | nil=>intro o _ x hx; cases hx
 | cons y ys ih=>
  intro o h x hx
  cases h with
  | rcons _ _ _ _ _ hs _ h=>
   rcases List.mem_cons.1 hx with rfl | hx
   ·exact hs
   ·exact ih h x hx
theorem RepRow.cells {C:Ctx} {r sz:Nat} {xs:List AVal}:∀ {o:Nat},RepRow C r sz xs o→RepC C r (xs.flatMap AVal.flat) o:=by
 induction xs with
 | nil=>intro o _; exact .cnil _ _
 | cons x xs ih=>
  intro o h
  cases h with
  | rcons _ _ _ _ _ hs hx h=>
   simp only [List.flatMap_cons]
   refine RepC.append hx ?_
   rw [hs]
   exact ih h
theorem RepRow.of_cells {C:Ctx} {r sz:Nat} {xs:List AVal}:∀ {o:Nat},RepC C r (xs.flatMap AVal.flat) o→(∀ x∈xs,x.flat.length=sz)→RepRow C r sz xs o:=by
 induction xs with
 | nil=>intro o _ _; exact .rnil _ _ _
 | cons x xs ih=>
  intro o h hl
  simp only [List.flatMap_cons] at h
  have h1:=RepC.take (x.flat.length) h
  have h2:=RepC.drop (x.flat.length) h
  rw [List.take_left' rfl] at h1
  rw [List.drop_left' rfl,hl x (by simp)] at h2
  exact .rcons _ _ _ _ _ (hl x (by simp)) h1 (ih h2 fun y hy=>hl y (by simp [hy]))
theorem RepC.vals {C:Ctx} {r:Nat} {xs:List AVal}:∀ {o:Nat},RepC C r xs o→∃ vs,RepL C xs vs∧∀ j v,vs[j]?=some v→C.K r (o + j)=some v:=by
 induction xs with
 | nil=>intro o _; exact ⟨[],.nil,by simp⟩
 | cons x xs ih=>
  intro o h
  cases h with
  | ccons _ _ _ _ v hv hx h=>
   obtain ⟨vs,h1,h2⟩:=ih h
   refine ⟨v::vs,.cons _ _ _ _ hx h1,?_⟩
   intro j u hj
   cases j with
   | zero=>simp at hj; subst hj; exact hv
   | succ j=>simp at hj; rw [show o + (j + 1)=o + 1 + j from by omega]; exact h2 j u hj
inductive Loc where
 | slot (s:Nat)
 | cell (b j:Nat)
 deriving DecidableEq
def Strict (sz:Nat) (xs:List AVal) (cells:Array Value) (elem:TypeId) (len cap:Nat):Prop:=
 ∀ (e:Nat) (l:List UInt8),sz=0→xs=[.int .u64 (e:Int),.str l]→elem=e∧len=l.length∧len≤cap∧cap≤maxLen∧cells.size=cap∧cells.toList.take len=l.map fun b=>Value.int .u8 b.toNat
theorem Strict.pos {sz:Nat} {xs:List AVal} {cells:Array Value} {elem:TypeId} {len cap:Nat} (h:0 < sz):Strict sz xs cells elem len cap:=fun _ _ h0=>by omega
theorem Strict.sized {sz:Nat} {xs:List AVal} {cells:Array Value} {elem:TypeId} {len cap:Nat} (h:∀ x∈xs,x.flat.length=sz):Strict sz xs cells elem len cap:=fun e l h0 hx=>by
 have:=h (.str l) (by rw [hx]; simp)
 simp [AVal.flat,h0] at this
def OwnV (C:Ctx) (ω:Nat→Option Loc) (w:World) (B:Nat) (ℓ:Loc):AVal→Value→Prop
 | .list _ sz xs,.slice (some a) len cap=>ω a.block=some ℓ∧(B≤a.block∨C.W a.block)∧(∀ b,C.β b ≠ some a.block)∧a.spot=none∧a.off=0 ∧
   (∃ cells elem,w.heap[a.block]?=some (.cells cells elem (0,0))∧a.off + cap * sz≤cells.size∧Strict sz xs cells elem len cap)∧∀ o,a.off + len * sz≤o→C.K a.block o=none
 | _,_=>True
structure Ext (w w':World):Prop where
 size:w.heap.size≤w'.heap.size
 same:∀ r,r < w.heap.size→w'.heap[r]?=w.heap[r]?
 os:w'.os=w.os
 output:w'.output=w.output
theorem Ext.refl (w:World):Ext w w:=⟨Nat.le_refl _,fun _ _=>rfl,rfl,rfl⟩
theorem Ext.get {w w':World} (h:Ext w w') {r:Nat} {o:Obj} (hr:w.heap[r]?=some o):w'.heap[r]?=some o:=by
 rw [h.same r (Array.getElem?_eq_some_iff.1 hr).1]; exact hr
theorem Ext.trans {a b c:World} (h:Ext a b) (k:Ext b c):Ext a c where
 size:=Nat.le_trans h.size k.size
 same r hr:=by rw [k.same r (Nat.lt_of_lt_of_le hr h.size),h.same r hr]
 os:=k.os.trans h.os
 output:=k.output.trans h.output
theorem qc7 (w:World) (o:Obj) (r:Nat):(w.alloc o).heap[r]?=if r=w.heap.size then some o else w.heap[r]?:=by
 show (w.heap.push o)[r]?=_
 rw [Array.getElem?_push]
theorem Ext.alloc (w:World) (o:Obj) (ho:∀ c t fr,o=.cells c t fr→fr=(0,0)):Ext w (w.alloc o) where
 size:=by rw [World.size_alloc]; omega
 same r hr:=by rw [qc7,if_neg (by omega)]
 os:=rfl
 output:=rfl
theorem Ext.drew (w:World):Ext w w.drew:=⟨Nat.le_refl _,fun _ _=>rfl,rfl,rfl⟩
theorem Ext.cell {w w':World} (h:Ext w w') {a:Addr} {v:Value} (hc:w.cell? a=some v):w'.cell? a=some v:=by
 unfold World.cell? at *
 cases hr:w.heap[a.block]? with
 | none=>rw [hr] at hc; cases hc
 | some o=>rw [h.get hr]; rw [hr] at hc; exact hc
theorem OwnV.ext {C:Ctx} {ω:Nat→Option Loc} {w w':World} {B:Nat} {ℓ:Loc} {x:AVal} {v:Value} (h:Ext w w') (ho:OwnV C ω w B ℓ x v):OwnV C ω w' B ℓ x v:=by
 unfold OwnV at *
 split at ho
 ·obtain ⟨h1,h2,h3,h4,h8,⟨cells,elem,h5,h6⟩,h7⟩:=ho
  exact ⟨h1,h2,h3,h4,h8,⟨cells,elem,h.get h5,h6⟩,h7⟩
 ·trivial
inductive RepE (C:Ctx):List (AVal × AVal)→List MapEntry→Prop where
 | nil:RepE C [] []
 | cons (k v:AVal) (es:List (AVal × AVal)) (m:MapEntry) (ms:List MapEntry) (hk:Rep C k m.key) (hv:Rep C v m.val) (h:RepE C es ms):RepE C ((k,v)::es) (m::ms)
theorem RepE.imp {C C':Ctx} (h:(∀ r o v,C.K r o=some v→C'.K r o=some v)∧(∀ b r,C.β b=some r→C'.β b=some r)) {es:List (AVal × AVal)} {ms:List MapEntry} (hr:RepE C es ms):RepE C' es ms:=by
 induction hr with
 | nil=>exact .nil
 | cons k v es m ms hk hv _ ih=>exact .cons k v es m ms (RepI.imp h hk) (RepI.imp h hv) ih
theorem RepE.mono {C C':Ctx} (h:C.le C') {es:List (AVal × AVal)} {ms:List MapEntry} (hr:RepE C es ms):RepE C' es ms:=hr.imp ⟨h.k,h.b⟩
def EnvRep (C:Ctx) (e:Env) (tmps:Array Value):Prop:=∀ s x,jf s e=some x→∃ v,tmps[s]?=some v∧Rep C x.1 v
def qr0 (P:Program) (nt:Nat) (c:Code) (a:ACode):Prop:=∃ h,yx P h nt c=some a
structure LoopRep (P:Program) (C:Ctx) (l:ql0) (lp:Loop):Prop where
 assign:qr0 P lp.tmps.size lp.assign l.assign
 body:qr0 P lp.tmps.size lp.body l.body
 params:lp.params.toList=l.params
 fits:∀ t∈l.params,t < lp.tmps.size
 nr:j7 l.assign=true∧j7 l.body=true
 env:EnvRep C l.env lp.tmps
 state:lp.state=match l.pending with
  | none=>.ready
  | some .normal=>.busy
  | some _=>.done
 pending:lp.pending=match l.pending with
  | none=>none
  | some .normal=>none
  | some (.exit id)=>some (.exit id)
  | some .ret=>some .ret
def BoxRel (P:Program) (C:Ctx) (ω:Nat→Option Loc) (w:World) (B b r:Nat):ABox→Prop
 | .hole=>False
 | .cells cs=>∃ vs elem,w.heap[r]?=some (.cells vs elem (0,0))∧cs.length≤vs.size ∧
   ∀ j c,cs[j]?=some c→∃ v,vs[j]?=some v∧v.oneCell'=true∧Rep C c.1 v∧(c.2=true→OwnV C ω w B (.cell b j) c.1 v)
 | .map es=>∃ ents clock,w.heap[r]?=some (.map ents clock)∧RepE C es ents.toList
 | .iter s pos=>w.heap[r]?=some (.stringIter ⟨⟨s⟩⟩ pos)
 | .loop l=>∃ lp,w.heap[r]?=some (.loop lp)∧LoopRep P C l lp
 | .bld t e l=>∃ p v,w.heap[r]?=some (.cells #[p,v] t (0,0))∧(p=.pointer none∨p=.pointer (some ⟨r,0,none⟩))∧((v=.slice none 0 0∧l=[])∨∃ a len cap,v=.slice (some a) len cap)∧OwnV C ω w B (.cell b 1) (.list false 0 [.int .u64 (e:Int),.str l]) v
 | .dead=>∃ cs t,w.heap[r]?=some (.cells cs t (0,0))
def qai : String := "internal/strconv.uint64pow10"
def qc6 : String := "internal/bytealg.MaxLen"
def q9t (P:Program) (w:World) (g:Nat):Prop:=
 (P.globalNamed qai=some g→Lib.TabIs P w qai .u64 Lib.pow10Tab)∧(P.globalNamed qc6=some g→∃ m,w.cell? ⟨g,0,none⟩=some (.int .i64 m)) ∧
 (∀ x∈qlz,P.globalNamed x.1=some g→∀ j n,x.2[j]?=some n→w.cell? ⟨g,j,none⟩=some (.int .i64 n))
def qxy (P:Program) (g:Nat):Prop:=P.globalNamed qai=some g∨P.globalNamed qc6=some g∨∃ x∈qlz,P.globalNamed x.1=some g
def Tabs (P:Program) (w:World):Prop:=∀ g,qxy P g→g < w.heap.size∧q9t P w g
theorem Tabs.same {P:Program} {w w':World} (h:Tabs P w) (hs:w.heap.size≤w'.heap.size) (hg:∀ g,qxy P g→w'.heap[g]?=w.heap[g]?):Tabs P w':=by
 intro g hn
 obtain ⟨h1,h2,h3,h5⟩:=h g hn
 refine ⟨Nat.lt_of_lt_of_le h1 hs,fun hn2=>?_,fun hn2=>?_,fun x hx hn2 j n hj=>?_⟩
 ·have h2:=h2 hn2
  unfold Lib.TabIs World.var? at *
  rw [hn2] at h2 ⊢
  simp only [Option.bind_some] at h2 ⊢
  rw [hg g hn]
  exact h2
 ·obtain ⟨m,h4⟩:=h3 hn2
  refine ⟨m,?_⟩
  unfold World.cell? at *
  simp only [] at h4 ⊢
  rw [hg g hn]
  exact h4
 ·have h4:=h5 x hx hn2 j n hj
  unfold World.cell? at *
  simp only [] at h4 ⊢
  rw [hg g hn]
  exact h4
theorem Tabs.none {P:Program} {w:World} (h:P.globalNamed qai=none∧P.globalNamed qc6=none∧∀ x∈qlz,P.globalNamed x.1=none):Tabs P w:=fun g hn=>by
 rcases hn with hn | hn | ⟨x,hx,hn⟩
 ·rw [h.1] at hn; cases hn
 ·rw [h.2.1] at hn; cases hn
 ·rw [h.2.2 x hx] at hn; cases hn
def jjf (P:Program) (w0:World) (C0:Ctx):Prop:=Tabs P w0∧∀ g,qxy P g→(∀ b,C0.β b ≠ some g)∧¬ C0.W g
structure MInv (P:Program) (C:Ctx) (ω:Nat→Option Loc) (w0:World) (C0:Ctx) (h:qh) (w:World):Prop where
 base:jjf P w0 C0
 know:∀ r o v,C.K r o=some v→w.cell? ⟨r,o,none⟩=some v
 kone:∀ r o v,C.K r o=some v→v.oneCell'=true
 apart:∀ b r o,C.β b=some r→C.K r o=none
 inj:∀ b b' r,C.β b=some r→C.β b'=some r→b=b'
 lt:∀ b r,C.β b=some r→r < w.heap.size∧b < h.length
 size:w0.heap.size≤w.heap.size
 frame:∀ r,r < w0.heap.size→(∀ b,C0.β b ≠ some r)→¬ C0.W r→w.heap[r]?=w0.heap[r]?
 dfr:∀ r,C.D r→w.heap[r]?=some (.deferred (some []))
 os:w.os=w0.os
 output:w.output=w0.output
 fresh:∀ b r,C.β b=some r→C0.β b=some r∨w0.heap.size≤r∨C0.W r
 grown:C0.le C
 old:∀ r o,r < w0.heap.size→¬ C0.W r→C.K r o=C0.K r o
 box:∀ b x r,h[b]?=some x→C.β b=some r→BoxRel P C ω w w0.heap.size b r x
def EnvRel (C:Ctx) (ω:Nat→Option Loc) (w:World) (B:Nat) (e:Env) (tmps:Array Value):Prop:=
 ∀ s x,jf s e=some x→∃ v,tmps[s]?=some v∧Rep C x.1 v∧(x.2=true→OwnV C ω w B (.slot s) x.1 v)
theorem EnvRel.rep {C:Ctx} {ω:Nat→Option Loc} {w:World} {B:Nat} {e:Env} {tmps:Array Value} (h:EnvRel C ω w B e tmps):EnvRep C e tmps:=
 fun s x hx=>let ⟨v,h1,h2,_⟩:=h s x hx; ⟨v,h1,h2⟩
theorem BoxRel.ext {P:Program} {C:Ctx} {ω:Nat→Option Loc} {w w':World} {B b r:Nat} {x:ABox} (h:Ext w w') (hb:BoxRel P C ω w B b r x):BoxRel P C ω w' B b r x:=by
 cases x with
 | hole=>exact hb
 | cells cs=>
  obtain ⟨vs,elem,h1,h2,h3⟩:=hb
  exact ⟨vs,elem,h.get h1,h2,fun j c hc=>let ⟨v,a,q,b,d⟩:=h3 j c hc; ⟨v,a,q,b,fun e=>(d e).ext h⟩⟩
 | map es=>obtain ⟨ents,clock,h1,h2⟩:=hb; exact ⟨ents,clock,h.get h1,h2⟩
 | iter s pos=>exact h.get hb
 | loop l=>obtain ⟨lp,h1,h2⟩:=hb; exact ⟨lp,h.get h1,h2⟩
 | bld t e l=>obtain ⟨p,v,h1,h2,h3,h4⟩:=hb; exact ⟨p,v,h.get h1,h2,h3,h4.ext h⟩
 | dead=>obtain ⟨cs,t,h1⟩:=hb; exact ⟨cs,t,h.get h1⟩
theorem MInv.tabs {P:Program} {C:Ctx} {ω:Nat→Option Loc} {w0 w:World} {C0:Ctx} {hp:qh} (m:MInv P C ω w0 C0 hp w):Tabs P w:=
 m.base.1.same m.size fun g hg=>m.frame g (m.base.1 g hg).1 (m.base.2 g hg).1 (m.base.2 g hg).2
theorem MInv.ext {P:Program} {C:Ctx} {ω:Nat→Option Loc} {w0 w w':World} {C0:Ctx} {hp:qh} (h:Ext w w') (m:MInv P C ω w0 C0 hp w):MInv P C ω w0 C0 hp w' where
 base:=m.base
 know r o v hk:=h.cell (m.know r o v hk)
 kone:=m.kone
 apart:=m.apart
 inj:=m.inj
 lt b r hb:=⟨Nat.lt_of_lt_of_le (m.lt b r hb).1 h.size,(m.lt b r hb).2⟩
 size:=Nat.le_trans m.size h.size
 frame r hr hn hw:=by rw [h.same r (Nat.lt_of_lt_of_le hr m.size)]; exact m.frame r hr hn hw
 dfr r hr:=h.get (m.dfr r hr)
 os:=h.os.trans m.os
 output:=h.output.trans m.output
 fresh:=m.fresh
 grown:=m.grown
 old:=m.old
 box b x r hx hb:=(m.box b x r hx hb).ext h
theorem EnvRel.ext {C:Ctx} {ω:Nat→Option Loc} {w w':World} {B:Nat} {e:Env} {tmps:Array Value} (h:Ext w w') (he:EnvRel C ω w B e tmps):EnvRel C ω w' B e tmps:=
 fun s x hx=>let ⟨v,a,b,d⟩:=he s x hx; ⟨v,a,b,fun e=>(d e).ext h⟩
def Ctx.put (C:Ctx) (r off:Nat) (vs:List Value):Ctx:={ C with K:=fun b o=>if b=r∧off≤o∧o < off + vs.length then vs[o - off]? else C.K b o }
theorem Ctx.put_le {C:Ctx} {r off:Nat} (vs:List Value) (h:∀ o,off≤o→C.K r o=none):C.le (C.put r off vs):=
 ⟨fun b o v hk=>(by
  simp only [Ctx.put]
  rw [if_neg]
  ·exact hk
  ·rintro ⟨rfl,h1,_⟩; rw [h o h1] at hk; cases hk),fun _ _ h=>h,rfl,fun _ h=>h⟩
theorem Ctx.put_at {C:Ctx} {r off:Nat} {vs:List Value} {j:Nat} {v:Value} (h:vs[j]?=some v):(C.put r off vs).K r (off + j)=some v:=by
 have hj:j < vs.length:=(List.getElem?_eq_some_iff.1 h).1
 show (if r=r∧off≤off + j∧off + j < off + vs.length then vs[off + j - off]? else C.K r (off + j))=some v
 rw [if_pos ⟨rfl,by omega,by omega⟩,show off + j - off=j from by omega,h]
theorem RepC.of_vals {C:Ctx} {r:Nat} {xs:List AVal}:∀ {vs:List Value} {o:Nat},RepL C xs vs→(∀ j v,vs[j]?=some v→C.K r (o + j)=some v)→RepC C r xs o:=by
 induction xs with
 | nil=>intro vs o _ _; exact .cnil _ _
 | cons x xs ih=>
  intro vs o h hk
  cases h with
  | cons _ _ v vs hx h=>
   refine .ccons _ _ _ _ v (by simpa using hk 0 v rfl) hx (ih h ?_)
   intro j u hj
   rw [show o + 1 + j=o + (j + 1) from by omega]
   exact hk (j + 1) u (by simpa using hj)
theorem Ctx.put_cells {C:Ctx} {r off:Nat} {xs:List AVal} {vs:List Value} (hn:∀ o,off≤o→C.K r o=none) (h:RepL C xs vs):RepC (C.put r off vs) r xs off:=
 RepC.of_vals (RepI.mono (Ctx.put_le vs hn) h) fun _ _ hj=>Ctx.put_at hj
theorem MInv.K_new {P:Program} {C:Ctx} {ω:Nat→Option Loc} {w0 w:World} {C0:Ctx} {hp:qh} (m:MInv P C ω w0 C0 hp w) (r:Nat) (hr:w.heap.size≤r) (o:Nat):C.K r o=none:=by
 cases h:C.K r o with
 | none=>rfl
 | some v=>
  have:=m.know r o v h
  unfold World.cell? at this
  rw [show w.heap[(⟨r,o,none⟩:Addr).block]?=none from Array.getElem?_eq_none hr] at this
  cases this
theorem OwnV.put {C:Ctx} {ω:Nat→Option Loc} {w:World} {B r off:Nat} {ℓ:Loc} {x:AVal} {v:Value} (vs:List Value) (hr:w.heap.size≤r∨ω r ≠ some ℓ) (ho:OwnV C ω w B ℓ x v):OwnV (C.put r off vs) ω w B ℓ x v:=by
 unfold OwnV at *
 split at ho
 ·rename_i a len cap
  obtain ⟨h1,h2,h3,h4,h8,⟨cells,elem,h5,h6⟩,h7⟩:=ho
  have hlt:a.block < w.heap.size:=(Array.getElem?_eq_some_iff.1 h5).1
  refine ⟨h1,h2,h3,h4,h8,⟨cells,elem,h5,h6⟩,fun o ho=>?_⟩
  simp only [Ctx.put]
  rw [if_neg]
  ·exact h7 o ho
  ·rintro ⟨rfl,_⟩
   rcases hr with hr | hr
   ·omega
   ·exact hr h1
 ·trivial
theorem LoopRep.imp {P:Program} {C C':Ctx} (h:(∀ r o v,C.K r o=some v→C'.K r o=some v)∧(∀ b r,C.β b=some r→C'.β b=some r)) {l:ql0} {lp:Loop} (k:LoopRep P C l lp):LoopRep P C' l lp:=
 { k with env:=fun s x hx=>let ⟨v,a,b⟩:=k.env s x hx; ⟨v,a,RepI.imp h b⟩ }
theorem LoopRep.mono {P:Program} {C C':Ctx} (h:C.le C') {l:ql0} {lp:Loop} (k:LoopRep P C l lp):LoopRep P C' l lp:=k.imp ⟨h.k,h.b⟩
theorem BoxRel.imp {P:Program} {C C':Ctx} {ω ω':Nat→Option Loc} {w w':World} {B B' b r:Nat} {x:ABox} (h:(∀ r o v,C.K r o=some v→C'.K r o=some v)∧(∀ b r,C.β b=some r→C'.β b=some r)) (hw:w'.heap[r]?=w.heap[r]?)
  (ho:∀ j y v,OwnV C ω w B (.cell b j) y v→OwnV C' ω' w' B' (.cell b j) y v) (hb:BoxRel P C ω w B b r x):BoxRel P C' ω' w' B' b r x:=by
 cases x with
 | hole=>exact hb
 | cells cs=>
  obtain ⟨vs,elem,h1,h2,h3⟩:=hb
  exact ⟨vs,elem,hw.trans h1,h2,fun j c hc=>let ⟨v,a,q,b,d⟩:=h3 j c hc; ⟨v,a,q,RepI.imp h b,fun e=>ho _ _ _ (d e)⟩⟩
 | map es=>obtain ⟨ents,clock,h1,h2⟩:=hb; exact ⟨ents,clock,hw.trans h1,h2.imp h⟩
 | iter s pos=>exact hw.trans hb
 | loop l=>obtain ⟨lp,h1,h2⟩:=hb; exact ⟨lp,hw.trans h1,h2.imp h⟩
 | bld t e l=>obtain ⟨p,v,h1,h2,h3,h4⟩:=hb; exact ⟨p,v,hw.trans h1,h2,h3,ho _ _ _ h4⟩
 | dead=>obtain ⟨cs,t,h1⟩:=hb; exact ⟨cs,t,hw.trans h1⟩
theorem BoxRel.mono {P:Program} {C C':Ctx} {ω ω':Nat→Option Loc} {w:World} {B b r:Nat} {x:ABox} (h:C.le C')
  (ho:∀ j y v,OwnV C ω w B (.cell b j) y v→OwnV C' ω' w B (.cell b j) y v) (hb:BoxRel P C ω w B b r x):BoxRel P C' ω' w B b r x:=hb.imp ⟨h.k,h.b⟩ rfl ho
theorem MInv.newRow {P:Program} {C:Ctx} {ω:Nat→Option Loc} {w0 w:World} {C0:Ctx} {hp:qh} (m:MInv P C ω w0 C0 hp w) (cells:Array Value) (t:TypeId) (vs:List Value)
  (hv:∀ (j:Nat) v,vs[j]?=some v→cells[j]?=some v) (h1:∀ v∈vs,v.oneCell'=true):
  MInv P (C.put w.heap.size 0 vs) ω w0 C0 hp (w.alloc (.cells cells t)):=by
 have hx:Ext w (w.alloc (.cells cells t)):=Ext.alloc w _ (fun c t fr h=>by cases h; rfl)
 have m':=m.ext hx
 have hn:∀ o,C.K w.heap.size o=none:=m.K_new _ (Nat.le_refl _)
 have hle:=Ctx.put_le (C:=C) (off:=0) vs (fun o _=>hn o)
 refine { m' with know:=?_,kone:=?_,apart:=?_,grown:=Ctx.le_trans m.grown hle,old:=?_,box:=?_ }
 ·intro r o v hk
  simp only [Ctx.put] at hk
  split at hk
  ·rename_i hc
   obtain ⟨rfl,_,_⟩:=hc
   simp only [World.cell?]
   rw [qc7,if_pos rfl]
   simpa using hv _ _ hk
  ·exact m'.know r o v hk
 ·intro r o v hk
  simp only [Ctx.put] at hk
  split at hk
  ·exact h1 v (List.mem_of_getElem? hk)
  ·exact m.kone r o v hk
 ·intro b r o hb
  have:=(m.lt b r hb).1
  simp only [Ctx.put]
  rw [if_neg (by omega)]
  exact m.apart b r o hb
 ·intro r o hr hw
  have:=m.size
  simp only [Ctx.put]
  rw [if_neg (by omega)]
  exact m.old r o hr hw
 ·intro b x r hx' hb
  exact ((m.box b x r hx' hb).mono (ω':=ω) hle fun j y v ho=>ho.put vs (.inl (Nat.le_refl _))).ext hx
theorem EnvRel.put {C:Ctx} {ω:Nat→Option Loc} {w:World} {B:Nat} {e:Env} {tmps:Array Value} {r off:Nat} (vs:List Value) (hr:w.heap.size≤r∨∀ s,jf s e ≠ none→(jf s e).any (·.2)=true→ω r ≠ some (.slot s)) (hn:∀ o,off≤o→C.K r o=none) (he:EnvRel C ω w B e tmps):EnvRel (C.put r off vs) ω w B e tmps:=
 fun s x hx=>let ⟨v,a,b,d⟩:=he s x hx; ⟨v,a,RepI.mono (Ctx.put_le vs hn) b,fun e=>(d e).put vs (hr.imp id fun h=>h s (by rw [hx]; simp) (by rw [hx]; exact e))⟩
def own1 (ω:Nat→Option Loc) (r:Nat) (ℓ:Loc):Nat→Option Loc:=fun b=>if b=r then some ℓ else ω b
theorem OwnV.own1 {C:Ctx} {ω:Nat→Option Loc} {w:World} {B r:Nat} {ℓ ℓ':Loc} {x:AVal} {v:Value} (hn:∀ a len cap,v=.slice (some a) len cap→a.block ≠ r) (ho:OwnV C ω w B ℓ x v):OwnV C (own1 ω r ℓ') w B ℓ x v:=by
 unfold OwnV at *
 split at ho
 ·rename_i a len cap
  obtain ⟨h1,h2⟩:=ho
  exact ⟨by simp only [Abs.own1]; rw [if_neg (hn a len cap rfl)]; exact h1,h2⟩
 ·trivial
theorem OwnV.other {C:Ctx} {ω:Nat→Option Loc} {w:World} {B r:Nat} {ℓ ℓ':Loc} {x:AVal} {v:Value} (hr:ω r ≠ some ℓ∨ℓ=ℓ') (ho:OwnV C ω w B ℓ x v):OwnV C (Abs.own1 ω r ℓ') w B ℓ x v:=by
 unfold OwnV at *
 split at ho
 ·rename_i a len cap
  obtain ⟨h1,h2⟩:=ho
  refine ⟨?_,h2⟩
  simp only [Abs.own1]
  by_cases hb:a.block=r
  ·rw [if_pos hb]
   rcases hr with hr | hr
   ·exact absurd (hb ▸ h1) hr
   ·rw [hr]
  ·rw [if_neg hb]; exact h1
 ·trivial
theorem OwnV.fresh {C:Ctx} {ω:Nat→Option Loc} {w:World} {B r:Nat} {ℓ ℓ':Loc} {x:AVal} {v:Value} (hr:w.heap.size≤r) (ho:OwnV C ω w B ℓ x v):OwnV C (Abs.own1 ω r ℓ') w B ℓ x v:=by
 unfold OwnV at *
 split at ho
 ·rename_i a len cap
  obtain ⟨h1,h2,h3,h4,h8,⟨cells,elem,h5,h6⟩,h7⟩:=ho
  have hlt:a.block < w.heap.size:=(Array.getElem?_eq_some_iff.1 h5).1
  refine ⟨?_,h2,h3,h4,h8,⟨cells,elem,h5,h6⟩,h7⟩
  simp only [Abs.own1]
  rw [if_neg (by omega)]
  exact h1
 ·trivial
theorem EnvRel.fresh {C:Ctx} {ω:Nat→Option Loc} {w:World} {B r:Nat} {ℓ:Loc} {e:Env} {tmps:Array Value} (hr:w.heap.size≤r) (he:EnvRel C ω w B e tmps):EnvRel C (Abs.own1 ω r ℓ) w B e tmps:=
 fun s x hx=>let ⟨v,a,b,d⟩:=he s x hx; ⟨v,a,b,fun e=>(d e).fresh hr⟩
theorem MInv.fresh1 {P:Program} {C:Ctx} {ω:Nat→Option Loc} {w0 w:World} {C0:Ctx} {hp:qh} (m:MInv P C ω w0 C0 hp w) (r:Nat) (ℓ:Loc) (hr:w.heap.size≤r):MInv P C (Abs.own1 ω r ℓ) w0 C0 hp w:=
 { m with box:=fun b x r' hx hb=>(m.box b x r' hx hb).mono (Ctx.le_refl C) fun _ _ _ ho=>ho.fresh hr }
theorem MInv.own1 {P:Program} {C:Ctx} {ω:Nat→Option Loc} {w0 w:World} {C0:Ctx} {hp:qh} (m:MInv P C ω w0 C0 hp w) (r:Nat) (ℓ:Loc) (hr:∀ b j,ω r ≠ some (.cell b j)):MInv P C (Abs.own1 ω r ℓ) w0 C0 hp w:=
 { m with box:=fun b x r' hx hb=>(m.box b x r' hx hb).mono (Ctx.le_refl C) fun j _ _ ho=>ho.other (.inl (hr b j)) }
end Go.Abs
