/- The abstract machine. -/
import GoSem.Step
import GoSem.Claims
import GoSem.Core.Region
import GoSem.Core.Layout
import GoSem.Op.Equal
import Derived.CallsIn
import Derived.Deep.AppendSrc
import Derived.Laws.CopyRow
import Derived.Laws.AppendOwn
import Derived.Laws.Entries
import Derived.Lib.LaidTab
import Derived.Lib.ItoaNum
set_option linter.unusedVariables false
set_option linter.unusedSimpArgs false
namespace Go.Abs
inductive AVal where
 | bool (b:Bool)
 | int (k:IntKind) (n:Int)
 | str (s:List UInt8)
 | list (isNil:Bool) (sz:Nat) (xs:List AVal)
 | ms (b off len:Nat)
 | ptr (b off:Nat)
 | vptr (v:AVal)
 | nilptr
 | map (b:Nat)
 | nilmap
 | fn (f:Fn) (first captured:List AVal)
 | nilfn
 | agg (cs:List AVal)
 | tup (vs:List AVal)
 | undef
 | any
 | pend (n:Nat)
 | vref (b ver len:Nat)
 | vel (b ver off:Nat)
 deriving Inhabited
inductive qq where
 | tmp (t:Nat)
 | const (v:AVal)
 deriving Inhabited
inductive Kd where
 | int | str | bool
 deriving DecidableEq,Inhabited
inductive CMode where
 | iso | frz (r:Nat) | shr | red
 deriving DecidableEq,Inhabited
inductive AOp where
 | move (x:qq)
 | take (s:Nat)
 | pick (c a b:qq)
 | alloc (r:Nat) (zero:List AVal)
 | box (r n:Nat) (x:qq)
 | vbox (n:Nat) (x:qq)
 | valloc (n:Nat)
 | vstore (n s:Nat) (x:qq)
 | bld (r t e:Nat)
 | build (zero:List AVal) (parts:List (Nat × Nat × qq))
 | buildSlice (sz len:Nat) (zero:List AVal) (parts:List (Nat × qq))
 | load (agg:Bool) (n:Nat) (x:qq)
 | vload (agg:Bool) (n:Nat) (x:qq)
 | loadTake (off:Option Nat) (x:qq)
 | store (n:Nat) (a v:qq)
 | nilCheck (x:qq)
 | bin (op:BinOp) (x y:qq)
 | eqs (ks:List Kd) (neq:Bool) (x y:qq)
 | beq (neq:Bool) (x y:qq)
 | nilEq (k:Nat) (neq:Bool) (x:qq)
 | un (op:UnOp) (x:qq)
 | conv (k:IntKind) (x:qq)
 | convStr (x:qq)
 | field (agg:Bool) (off n:Nat) (x:qq)
 | index (agg:Bool) (len n:Nat) (x i:qq)
 | strIndex (x i:qq)
 | fieldAddr (agg:Bool) (off n:Nat) (x:qq)
 | indexAddr (sz:Nat) (x i:qq)
 | indexArr (agg:Bool) (len sz:Nat) (x i:qq)
 | slice (sz:Nat) (x:qq) (lo hi:Option qq)
 | strSlice (x:qq) (lo hi:Option qq)
 | sliceArr (len sz:Nat) (x:qq) (lo hi:Option qq)
 | mkfunc (f:Fn) (first captured:List qq)
 | mkmap (r:Nat)
 | lookup (kd:Kd) (zero:AVal) (ok:Bool) (m k:qq)
 | mapUpdate (kd:Kd) (m k v:qq)
 | delete (kd:Kd) (m k:qq)
 | mkslice (r:Option Nat) (sz bytes:Nat) (zero:List AVal) (n c:qq)
 | len (k:Nat) (x:qq)
 | append (r:Option Nat) (sz bytes:Nat) (x y:qq)
 | vapp (r sz bytes:Nat) (x y:qq)
 | vlit (r sz len:Nat) (zero:List AVal) (parts:List (Nat × qq))
 | copy (sz:Nat) (x y:qq)
 | mx (args:List qq)
 | mn (args:List qq)
 | extract (x:qq) (i:Nat)
 | call (md:CMode) (f:qq) (args:List qq)
 | srange (r:Nat) (x:qq)
 | snext (it:qq)
 | bad
 deriving Inhabited
structure AOper where
 dst:Option Nat
 op:AOp
 guard:Option (Nat × Bool)
 al:Option (List Nat)
 deriving Inhabited
inductive ACode where
 | skip
 | region (na:Nat) (ops:List AOper) (keep:Option (List Nat))
 | seq (a b:ACode)
 | cond (c:qq) (a b:ACode)
 | block (id:Nat) (body:ACode)
 | loop (body:ACode)
 | rangeFunc (f:qq) (params:List Nat) (assign body:ACode)
 | exit (id:Nat)
 | ret
 | grow (sz:Nat)
 | stuck
 deriving Inhabited
abbrev Env:=List (Nat × AVal × Bool)
inductive jd where
 | normal
 | exit (id:Nat)
 | ret
 deriving DecidableEq,Inhabited
structure qry where
 env:Env
 params:List Nat
 assign:ACode
 body:ACode
 pending:Option jd
 deriving Inhabited
def zr:ACode→Bool
 | .seq a b=>zr a && zr b
 | .cond _ a b=>zr a && zr b
 | .block _ b=>zr b
 | .loop b=>zr b
 | .rangeFunc ..=>false
 | _=>true
def noOwn (e:Env):Env:=e.map fun x=>(x.1,x.2.1,false)
inductive ABox where
 | hole
 | cells (cs:List (AVal × Bool))
 | map (es:List (AVal × AVal))
 | iter (s:List UInt8) (pos:Nat)
 | loop (l:qry)
 | bld (t e:Nat) (l:List UInt8)
 | dead
 | vec (sz ver:Nat) (xs:List AVal)
 deriving Inhabited
abbrev qf:=List ABox
structure ASt where
 env:Env
 heap:qf
 deriving Inhabited
inductive qa8 where
 | tmp (t:Nat)
 | cell (t:Nat) (agg:Bool) (n:Nat)
 deriving Inhabited
structure qm where
 ntmps:Nat
 body:ACode
 results:List qa8
 deriving Inhabited
abbrev qig:=Nat→Option (List AVal→Option (AVal × Bool))
abbrev jao:=Nat→Option (List AVal→qf→Option (AVal × Bool × qf))
abbrev q7j:=Nat→Option (List (AVal × AVal))
structure jw where
 fns:Nat→Option qm
 prims:qig
 sprims:jao:=fun _=>none
 maps:q7j:=fun _=>none
def jm (t:Nat):Env→Option (AVal × Bool)
 | []=>none
 | (s,x)::e=>bif Nat.beq s t then some x else jm t e
def qj (e:Env):qq→Option AVal
 | .tmp t=>match jm t e with
  | some x=>some x.1
  | none=>none
 | .const v=>some v
def kl (e:Env):List qq→Option (List AVal)
 | []=>some []
 | x::xs=>match qj e x with
  | some v=>match kl e xs with
   | some vs=>some (v::vs)
   | none=>none
  | none=>none
def qc5 (e:Env):List Nat→Env
 | []=>[]
 | t::ts=>match jm t e with
  | some x=>(t,x)::qc5 e ts
  | none=>qc5 e ts
def qd5:IntKind→Int→Bool
 | .i64,.ofNat m=>Nat.ble m 9223372036854775807
 | .i64,.negSucc m=>Nat.ble m 9223372036854775807
 | .i32,.ofNat m=>Nat.ble m 2147483647
 | .i32,.negSucc m=>Nat.ble m 2147483647
 | .i16,.ofNat m=>Nat.ble m 32767
 | .i16,.negSucc m=>Nat.ble m 32767
 | .i8,.ofNat m=>Nat.ble m 127
 | .i8,.negSucc m=>Nat.ble m 127
 | .u64,.ofNat m=>Nat.ble m 18446744073709551615
 | .u32,.ofNat m=>Nat.ble m 4294967295
 | .u16,.ofNat m=>Nat.ble m 65535
 | .u8,.ofNat m=>Nat.ble m 255
 | _,.negSucc _=>false
def qe (k:IntKind) (n:Int):Int:=bif qd5 k n then n else k.wrap n
def AVal.flat:AVal→List AVal
 | .agg cs=>cs
 | v=>[v]
def AVal.isAgg:AVal→Bool
 | .agg _=>true
 | _=>false
def AVal.isList:AVal→Bool
 | .list ..=>true
 | _=>false
def qbb:Kd→AVal→AVal→Option Bool
 | .int,.int k a,.int k' b=>bif decide (k=k') then some (a == b) else none
 | .str,.str a,.str b=>some (a == b)
 | .bool,.bool a,.bool b=>some (a == b)
 | _,_,_=>none
def z7:List Kd→List AVal→List AVal→Option Bool
 | [],[],[]=>some true
 | k::ks,x::xs,y::ys=>match qbb k x y with
  | some true=>z7 ks xs ys
  | some false=>some false
  | none=>none
 | _,_,_=>none
def part (agg:Bool) (cs:List AVal) (off n:Nat):Option AVal:=
 bif agg then (bif Nat.ble (off + n) cs.length then some (.agg ((cs.drop off).take n)) else none) else cs[off]?
def bytesLess:List UInt8→List UInt8→Bool
 | _,[]=>false
 | [],_::_=>true
 | a::x,b::y=>a < b || (a == b && bytesLess x y)
def qdb (op:BinOp) (k:IntKind) (x y:Int):Option AVal:=
 match op with
 | .add=>some (.int k (qe k (x + y)))
 | .sub=>some (.int k (qe k (x - y)))
 | .mul=>some (.int k (qe k (x * y)))
 | .quo=>bif y == 0 then none else some (.int k (qe k (x.tdiv y)))
 | .rem=>bif y == 0 then none else some (.int k (x.tmod y))
 | .eql=>some (.bool (x == y))
 | .neq=>some (.bool (x != y))
 | .lss=>some (.bool (decide (x < y)))
 | .leq=>some (.bool (decide (x≤y)))
 | .gtr=>some (.bool (decide (x > y)))
 | .geq=>some (.bool (decide (x ≥ y)))
 | .and=>some (.int k (k.wrap (BitVec.ofInt k.bits x &&& BitVec.ofInt k.bits y).toNat))
 | .or=>some (.int k (k.wrap (BitVec.ofInt k.bits x ||| BitVec.ofInt k.bits y).toNat))
 | .xor=>some (.int k (k.wrap (BitVec.ofInt k.bits x ^^^ BitVec.ofInt k.bits y).toNat))
 | .andNot=>some (.int k (k.wrap (BitVec.ofInt k.bits x &&& ~~~BitVec.ofInt k.bits y).toNat))
 | _=>none
def qni (op:BinOp) (k:IntKind) (x y:Int):Option AVal:=
 bif decide (y < 0) then none else
 match op with
 | .shl=>some (.int k (qe k (x * 2 ^ (min y.toNat k.bits))))
 | .shr=>some (.int k (x.fdiv (2 ^ (min y.toNat k.bits))))
 | _=>none
def qq1 (op:BinOp) (x y:List UInt8):Option AVal:=
 match op with
 | .add=>bif Nat.ble (x.length + y.length) 4611686018427387904 then some (.str (x++y)) else none
 | .eql=>some (.bool (x == y))
 | .neq=>some (.bool !(x == y))
 | .lss=>some (.bool (bytesLess x y))
 | .leq=>some (.bool (bytesLess x y || x == y))
 | .gtr=>some (.bool !(bytesLess x y || x == y))
 | .geq=>some (.bool !(bytesLess x y))
 | _=>none
def ym (op:BinOp):AVal→AVal→Option AVal
 | .int k x,.int k' y=>match op with
  | .shl=>qni .shl k x y
  | .shr=>qni .shr k x y
  | op=>bif decide (k=k') then qdb op k x y else none
 | .str x,.str y=>qq1 op x y
 | _,_=>none
def qkn:UnOp→AVal→Option AVal
 | .neg,.int k n=>some (.int k (qe k (0 - n)))
 | .not,.bool b=>some (.bool !b)
 | _,_=>none
def max2:AVal→AVal→Option AVal
 | .int k x,.int k' y=>bif decide (k=k') then some (.int k (if y > x then y else x)) else none
 | _,_=>none
def min2:AVal→AVal→Option AVal
 | .int k x,.int k' y=>bif decide (k=k') then some (.int k (if y < x then y else x)) else none
 | _,_=>none
def qd2 (f:AVal→AVal→Option AVal):AVal→List AVal→Option AVal
 | x,[]=>some x
 | x,y::ys=>match f x y with
  | some z=>qd2 f z ys
  | none=>none
def qbj:List AVal→List (Nat × List AVal)→Option (List AVal)
 | cs,[]=>some cs
 | cs,(off,vs)::rest=>bif Nat.ble (off + vs.length) cs.length then qbj (cs.take off++vs++cs.drop (off + vs.length)) rest else none
def ql:AVal→Bool
 | .agg _=>false
 | .tup _=>false
 | .undef=>false
 | .any=>false
 | _=>true
def y9 (e:Env):List (Nat × Nat × qq)→Option (List (Nat × List AVal))
 | []=>some []
 | (off,n,x)::ps=>match qj e x with
  | some v=>bif Nat.beq v.flat.length n && v.flat.all ql then
    (match y9 e ps with
     | some r=>some ((off,v.flat)::r)
     | none=>none) else none
  | none=>none
def qcj (xs:List AVal):List (Nat × AVal)→Option (List AVal)
 | []=>some xs
 | (i,v)::ps=>bif Nat.blt i xs.length then qcj (xs.set i v) ps else none
def yc (e:Env) (sz:Nat):List (Nat × qq)→Option (List (Nat × AVal))
 | []=>some []
 | (i,x)::ps=>match qj e x with
  | some v=>bif Nat.beq v.flat.length sz && v.flat.all ql then
   (match yc e sz ps with
    | some r=>some ((i,v)::r)
    | none=>none) else none
  | none=>none
def jrh (zero:List AVal) (agg:Bool):Option AVal:=
 bif agg then some (.agg zero) else match zero with
  | [z]=>some z
  | _=>none
def ze (h:qf) (b:Nat):Option ABox:=h[b]?
def ju (h:qf) (b:Nat):Option (List (AVal × Bool)):=
 match h[b]? with
 | some (.cells cs)=>some cs
 | _=>none
def zh (cs:List (AVal × Bool)) (off n:Nat):Option (List AVal):=
 bif Nat.ble (off + n) cs.length then some (((cs.drop off).take n).map (·.1)) else none
def jq (cs:List (AVal × Bool)) (off:Nat) (vs:List AVal):Option (List (AVal × Bool)):=
 bif Nat.ble (off + vs.length) cs.length && vs.all ql then some (cs.take off++vs.map (·,false)++cs.drop (off + vs.length)) else none
mutual
def below (n:Nat):AVal→Bool
 | .ms b _ _=>Nat.blt b n
 | .ptr b _=>Nat.blt b n
 | .map b=>Nat.blt b n
 | .vref b _ _=>Nat.blt b n
 | .vel b _ _=>Nat.blt b n
 | .vptr v=>below n v
 | .list _ _ xs=>ja n xs
 | .agg cs=>ja n cs
 | .tup vs=>ja n vs
 | .fn (.yield b) first captured=>Nat.blt b n && ja n first && ja n captured
 | .fn _ first captured=>ja n first && ja n captured
 | _=>true
def ja (n:Nat):List AVal→Bool
 | []=>true
 | x::xs=>below n x && ja n xs
end
def qam (n:Nat):Env→Bool
 | []=>true
 | (_,v,_)::e=>below n v && qam n e
def qah (n:Nat):List (AVal × Bool)→Bool
 | []=>true
 | (v,_)::e=>below n v && qah n e
def qaf (n:Nat):List (AVal × AVal)→Bool
 | []=>true
 | (k,v)::e=>below n k && below n v && qaf n e
def qbn (n:Nat):ABox→Bool
 | .hole=>true
 | .cells cs=>qah n cs
 | .map es=>qaf n es
 | .iter _ _=>true
 | .bld ..=>true
 | .dead=>true
 | .vec ..=>true
 | .loop l=>qam n l.env
def zn (n:Nat):qf→Bool
 | []=>true
 | b::h=>qbn n b && zn n h
def gc (n:Nat) (st:ASt):ASt:=
 bif Nat.ble st.heap.length n then st
 else bif qam n st.env && zn n (st.heap.take n) then { st with heap:=st.heap.take n } else st
def qcx (v:AVal):Bool:=below 0 v
def q3z (agg:Bool) (sz:Nat):Nat→List AVal→Option (List AVal)
 | 0,_=>some []
 | n + 1,cs=>bif Nat.ble sz cs.length then
   (match jrh (cs.take sz) agg with
    | some v=>(match q3z agg sz n (cs.drop sz) with
     | some r=>some (v::r)
     | none=>none)
    | none=>none) else none
def qbs (sz:Nat):Nat→List AVal→List AVal
 | 0,_=>[]
 | n + 1,cs=>(bif Nat.beq sz 1 then cs.headD .undef else .agg (cs.take sz))::qbs sz n (cs.drop sz)
def q50:AVal→Bool
 | .str _=>true
 | .list ..=>true
 | _=>false
def qw8 (off len:Nat) (cs:List (AVal × Bool)):Bool:=Nat.beq off 0 && Nat.blt 1 (cs.length / len) && Nat.beq (len * (cs.length / len)) cs.length && cs.any (fun c=>q50 c.1)
def kf (h:qf):AVal→Option AVal
 | .ms b off len=>match ju h b with
  | some cs=>bif qw8 off len cs then some (.list false (cs.length / len) (qbs (cs.length / len) len (cs.map (·.1)))) else (match zh cs off len with
   | some vs=>some (.list false 1 vs)
   | none=>none)
  | none=>none
 | .vref b ver len=>match h[b]? with
  | some (.vec sz ver' xs)=>bif Nat.beq ver ver' && Nat.ble len xs.length then some (.list false sz (xs.take len)) else none
  | _=>none
 | v=>some v
def qao (h:qf):List AVal→Option (List AVal)
 | []=>some []
 | v::vs=>match kf h v with
  | some x=>(match qao h vs with
   | some xs=>some (x::xs)
   | none=>none)
  | none=>none
def freezeR (h:qf):AVal→Option AVal
 | .agg cs=>match qao h cs with
  | some xs=>some (.agg xs)
  | none=>none
 | .tup vs=>match freezeT h vs with
  | some xs=>some (.tup xs)
  | none=>none
 | v=>kf h v
where
 freezeT (h:qf):List AVal→Option (List AVal)
  | []=>some []
  | .agg cs::vs=>match qao h cs with
   | some x=>(match freezeT h vs with
    | some xs=>some (.agg x::xs)
    | none=>none)
   | none=>none
  | v::vs=>match kf h v with
   | some x=>(match freezeT h vs with
    | some xs=>some (x::xs)
    | none=>none)
   | none=>none
def zc (kd:Kd) (k:AVal):List (AVal × AVal)→Nat→Option (Option (Nat × AVal))
 | [],_=>some none
 | (k',v)::es,i=>match qbb kd k k' with
  | some true=>some (some (i,v))
  | some false=>zc kd k es (i + 1)
  | none=>none
def qo (s:List UInt8) (i:Nat):Nat × Nat:=Utf8.decode ⟨⟨s⟩⟩ i
structure ORes where
 v:AVal
 own:Bool
 strip:Option Nat
 heap:qf
def exl (l:List Nat):Bool:=match l with
 | []=>false
 | k::_=>Nat.ble 1000 k
def exq (h0:Nat) (l:List Nat) (b:Nat):Bool:=match l with
 | []=>false
 | k::_=>bif Nat.blt k 2000 then Nat.beq b (k - 1000) && Nat.blt b h0 else bif Nat.blt k 4000 then Nat.beq b (h0 + (k - 2000)) else Nat.blt b h0
def j9 (h0:Nat) (al:Option (List Nat)) (b:Nat):Bool:=
 match al with
 | none=>true
 | some l=>bif exl l then exq h0 l b else (Nat.blt b h0 || l.contains (b - h0))
def qfh (al:Option (List Nat)):Bool:=
 match al with
 | some (k::_)=>Nat.ble 4000 k
 | _=>false
def qe3 (h0:Nat) (al:Option (List Nat)) (b:Nat):Bool:=j9 h0 al b && !(qfh al)
def jt (h:qf) (b:Nat) (x:ABox):Option qf:=bif Nat.blt b h.length then some (h.set b x) else none
def newBox (h0:Nat) (h:qf) (r:Nat) (x:ABox):Option qf:=
 match h[h0 + r]? with
 | some .hole=>some (h.set (h0 + r) x)
 | _=>none
def val (h:qf) (v:AVal):Option ORes:=some ⟨v,false,none,h⟩
def qa5 (h:qf):Option AVal→Option ORes
 | some v=>some ⟨v,false,none,h⟩
 | none=>none
def idx (n:Nat):AVal→Option Nat
 | .int _ (.ofNat i)=>bif Nat.blt i n then some i else none
 | _=>none
def qne (n:Nat):AVal→Option Nat
 | .int _ (.ofNat i)=>bif Nat.ble i n then some i else none
 | _=>none
def bnd (e:Env) (dflt n:Nat):Option qq→Option Nat
 | none=>some dflt
 | some x=>match qj e x with
  | some v=>qne n v
  | none=>none
def zm (e:Env):qq→Option Nat
 | .tmp t=>match jm t e with
  | some (_,true)=>some t
  | _=>none
 | _=>none
def zp (sz:Nat):AVal→Option (List AVal)
 | .list _ sy ys=>bif Nat.beq sz sy || ys.isEmpty then some ys else none
 | .str s=>bif Nat.beq sz 1 then some (s.map fun (c:UInt8)=>AVal.int .u8 c.toNat) else none
 | _=>none
def qf3 (n:Bool) (sz:Nat) (xs ys:List AVal):AVal:=bif n && ys.isEmpty then .list true 0 [] else .list false sz (xs++ys)
def qp (e:Env) (h:qf):AOp→Option ORes
 | .move x=>qa5 h (qj e x)
 | .take s=>match jm s e with
  | some (v,o)=>some ⟨v,o,some s,h⟩
  | none=>none
 | .pick c a b=>match qj e c with
  | some (.bool t)=>(match qj e a,qj e b with
    | some x,some y=>val h (bif t then x else y)
    | _,_=>none)
  | _=>none
 | .vbox n x=>match qj e x with
  | some v=>bif Nat.beq v.flat.length n && v.flat.all ql then val h (.vptr v) else none
  | none=>none
 | .build zero parts=>match y9 e parts with
  | some ps=>match qbj zero ps with
   | some cs=>val h (.agg cs)
   | none=>none
  | none=>none
 | .buildSlice sz len zero parts=>match yc e sz parts with
  | some ps=>match qcj (List.replicate len (bif Nat.beq sz 1 then zero.headD .undef else .agg zero)) ps with
   | some xs=>some ⟨.list false sz xs,true,none,h⟩
   | none=>none
  | none=>none
 | .valloc n=>some ⟨.pend n,true,none,h⟩
 | .vstore n s x=>match jm s e,qj e x with
  | some (.pend m,true),some v=>bif Nat.beq m n && Nat.beq v.flat.length n && v.flat.all ql then val h (.vptr v) else none
  | _,_=>none
 | .vload agg n x=>match qj e x with
  | some (.vptr v)=>bif Bool.xor agg v.isAgg || !(Nat.beq v.flat.length n) then none else val h v
  | _=>none
 | .nilCheck x=>match qj e x with
  | some (.ptr b o)=>val h (.ptr b o)
  | some (.vptr v)=>val h (.vptr v)
  | some (.fn (.func f) a b)=>val h (.fn (.func f) a b)
  | _=>none
 | .bin op x y=>match qj e x,qj e y with
  | some a,some b=>qa5 h (ym op a b)
  | _,_=>none
 | .eqs ks neq x y=>match qj e x,qj e y with
  | some (.agg a),some (.agg b)=>bif Nat.beq a.length ks.length && Nat.beq b.length ks.length then (match z7 ks a b with
   | some t=>val h (.bool (bif neq then !t else t))
   | none=>none) else none
  | _,_=>none
 | .beq neq x y=>match qj e x,qj e y with
  | some (.bool a),some (.bool b)=>val h (.bool (bif neq then !(a == b) else a == b))
  | _,_=>none
 | .nilEq k neq x=>match k,qj e x with
  | 0,some (.list n _ _)=>val h (.bool (bif neq then !n else n))
  | 0,some (.ms ..)=>val h (.bool neq)
  | 1,some .nilptr=>val h (.bool (!neq))
  | 1,some (.ptr ..)=>val h (.bool neq)
  | 1,some (.vptr ..)=>val h (.bool neq)
  | 2,some .nilmap=>val h (.bool (!neq))
  | 2,some (.map ..)=>val h (.bool neq)
  | 3,some .nilfn=>val h (.bool (!neq))
  | 3,some (.fn ..)=>val h (.bool neq)
  | _,_=>none
 | .un op x=>match qj e x with
  | some v=>qa5 h (qkn op v)
  | none=>none
 | .conv k x=>match qj e x with
  | some (.int _ n)=>val h (.int k (qe k n))
  | _=>none
 | .convStr x=>match qj e x with
  | some (.str s)=>val h (.str s)
  | some (.int _ n)=>val h (.str (Utf8.encode n).data.toList)
  | _=>none
 | .field agg off n x=>match qj e x with
  | some (.agg cs)=>qa5 h (part agg cs off n)
  | _=>none
 | .index agg len n x i=>match qj e x,qj e i with
  | some (.agg cs),some j=>(match idx len j with
   | some j=>qa5 h (part agg cs (j * n) n)
   | none=>none)
  | _,_=>none
 | .strIndex x i=>match qj e x,qj e i with
  | some (.str s),some j=>(match idx s.length j with
   | some j=>(match s[j]? with
    | some c=>val h (.int .u8 c.toNat)
    | none=>none)
   | none=>none)
  | _,_=>none
 | .fieldAddr agg off n x=>match qj e x with
  | some (.ptr b o)=>val h (.ptr b (o + off))
  | some (.vptr (.agg cs))=>(match part agg cs off n with
   | some v=>bif Bool.xor agg v.isAgg then none else val h (.vptr v)
   | none=>none)
  | some (.vel b ver o)=>val h (.vel b ver (o + off))
  | _=>none
 | .indexAddr sz x i=>match qj e x,qj e i with
  | some (.list _ sz' xs),some j=>bif Nat.beq sz sz' || xs.isEmpty then (match idx xs.length j with
   | some j=>(match xs[j]? with
    | some v=>val h (.vptr v)
    | none=>none)
   | none=>none) else none
  | some (.ms b o len),some j=>(match idx len j with
   | some j=>val h (.ptr b (o + j * sz))
   | none=>none)
  | some (.vref b ver len),some j=>(match idx len j with
   | some j=>val h (.vel b ver (j * sz))
   | none=>none)
  | _,_=>none
 | .indexArr agg len sz x i=>match qj e x,qj e i with
  | some (.ptr b o),some j=>(match idx len j with
   | some j=>val h (.ptr b (o + j * sz))
   | none=>none)
  | some (.vptr (.agg cs)),some j=>(match idx len j with
   | some j=>(match part agg cs (j * sz) sz with
    | some v=>bif Bool.xor agg v.isAgg then none else val h (.vptr v)
    | none=>none)
   | none=>none)
  | _,_=>none
 | .slice sz x lo hi=>match qj e x with
  | some (.list n sz' xs)=>bif Nat.beq sz sz' || xs.isEmpty then (match bnd e xs.length xs.length hi with
   | some j=>(match bnd e 0 j lo with
    | some i=>val h (.list n sz' ((xs.take j).drop i))
    | none=>none)
   | none=>none) else none
  | some (.ms b o len)=>(match bnd e len len hi with
   | some j=>(match bnd e 0 j lo with
    | some i=>bif Nat.beq i 0 || Nat.blt i j then val h (.ms b (o + i * sz) (j - i)) else none
    | none=>none)
   | none=>none)
  | some (.vref b ver len)=>(match bnd e len len hi with
   | some j=>(match bnd e 0 j lo with
    | some i=>bif Nat.beq i 0 then val h (.vref b ver j) else none
    | none=>none)
   | none=>none)
  | _=>none
 | .strSlice x lo hi=>match qj e x with
  | some (.str s)=>(match bnd e s.length s.length hi with
   | some j=>(match bnd e 0 j lo with
    | some i=>val h (.str ((s.take j).drop i))
    | none=>none)
   | none=>none)
  | _=>none
 | .sliceArr len sz x lo hi=>match qj e x with
  | some (.ptr b o)=>(match bnd e len len hi with
   | some j=>(match bnd e 0 j lo with
    | some i=>bif Nat.beq i 0 || Nat.blt i j then val h (.ms b (o + i * sz) (j - i)) else none
    | none=>none)
   | none=>none)
  | _=>none
 | .mkfunc f first captured=>match kl e first,kl e captured with
  | some a,some b=>val h (.fn f a b)
  | _,_=>none
 | .len k x=>match k,qj e x with
  | 1,some (.list _ _ xs)=>val h (.int .i64 xs.length)
  | 1,some (.ms _ _ n)=>val h (.int .i64 n)
  | 1,some (.vref _ _ n)=>val h (.int .i64 n)
  | 2,some (.list true _ _)=>val h (.int .i64 0)
  | 0,some (.str s)=>val h (.int .i64 s.length)
  | _,_=>none
 | .append none sz bytes x y=>match qj e x,qj e y with
  | some (.list n sz' xs),some vy=>
   bif n || (zm e x).isSome then
    (match zp sz vy with
     | some ys=>
      bif (Nat.beq sz sz' || (xs.isEmpty && n)) && Nat.ble (xs.length + ys.length) 1073741824 && Nat.ble bytes 4096 && Nat.blt 0 sz then
       some ⟨qf3 n sz xs ys,true,zm e x,h⟩
      else none
     | none=>none)
   else none
  | _,_=>none
 | .mkslice none sz bytes zero n c=>match qj e n,qj e c with
  | some (.int .i64 (.ofNat n)),some (.int .i64 (.ofNat c))=>
   bif Nat.beq n c && Nat.ble n 1073741824 && Nat.ble bytes 4096 && Nat.beq zero.length sz && Nat.blt 0 sz && zero.all ql then
    some ⟨.list false sz (List.replicate n (bif Nat.beq sz 1 then zero.headD .undef else .agg zero)),true,none,h⟩ else none
  | _,_=>none
 | .mx args=>match kl e args with
  | some (v::vs)=>qa5 h (qd2 max2 v vs)
  | _=>none
 | .mn args=>match kl e args with
  | some (v::vs)=>qa5 h (qd2 min2 v vs)
  | _=>none
 | .extract x i=>match qj e x with
  | some (.tup vs)=>qa5 h vs[i]?
  | _=>none
 | _=>none
def qb1 (es:List (AVal × AVal)) (i:Nat) (v:AVal):List (AVal × AVal):=
 match es,i with
 | [],_=>[]
 | (k,_)::r,0=>(k,v)::r
 | x::r,i + 1=>x::qb1 r i v
def yg (h0:Nat) (al:Option (List Nat)) (e:Env) (h:qf):AOp→Option ORes
 | .load agg n x=>match qj e x with
  | some (.ptr b o)=>bif j9 h0 al b then (match ju h b with
   | some cs=>(match zh cs o n with
    | some vs=>bif agg then val h (.agg vs) else (match vs with
     | [v]=>val h v
     | _=>none)
    | none=>none)
   | none=>none) else none
  | some (.vptr v)=>bif Bool.xor agg v.isAgg || !(Nat.beq v.flat.length n) then none else val h v
  | some (.vel b ver o)=>bif qe3 h0 al b then (match ze h b with
   | some (.vec _ ver' xs)=>bif Nat.beq ver ver' && Nat.ble (o + n) (xs.flatMap AVal.flat).length then (bif agg then val h (.agg (((xs.flatMap AVal.flat).drop o).take n)) else (match ((xs.flatMap AVal.flat).drop o).take n with
     | [v]=>val h v
     | _=>none)) else none
   | _=>none) else none
  | _=>none
 | .lookup kd zero ok m k=>match qj e m,qj e k with
  | some (.map b),some kv=>bif j9 h0 al b then (match ze h b with
   | some (.map es)=>(match zc kd kv es 0 with
    | some (some (_,v))=>val h (bif ok then .tup [v,.bool true] else v)
    | some none=>val h (bif ok then .tup [zero,.bool false] else zero)
    | none=>none)
   | _=>none) else none
  | some .nilmap,some _=>val h (bif ok then .tup [zero,.bool false] else zero)
  | _,_=>none
 | .len _ x=>match qj e x with
  | some (.map b)=>bif j9 h0 al b then (match ze h b with
   | some (.map es)=>val h (.int .i64 es.length)
   | _=>none) else none
  | some .nilmap=>val h (.int .i64 0)
  | _=>none
 | _=>none
def q28 (es:List (AVal × AVal)):Option (Nat × AVal)→List (AVal × AVal)
 | some (i,_)=>es.eraseIdx i
 | none=>es
def qhc:Option Nat→Nat→Bool
 | none,_=>true
 | some a,o=>Nat.beq a o
def qg5 (sz len:Nat):AVal→Option (Nat × List AVal)
 | .list _ sy ys=>bif Nat.beq sz sy || ys.isEmpty then some (min ys.length len,(ys.take len).flatMap AVal.flat) else none
 | _=>none
def cellsOf (vs:List AVal):List (AVal × Bool):=vs.map (·,false)
def qr (h0:Nat) (al:Option (List Nat)) (e:Env) (h:qf):AOp→Option ORes
 | .alloc r zero=>bif zero.all ql then (match newBox h0 h r (.cells (cellsOf zero)) with
  | some h'=>val h' (.ptr (h0 + r) 0)
  | none=>none) else none
 | .box r n x=>match qj e x with
  | some v=>bif Nat.beq v.flat.length n && v.flat.all ql then (match newBox h0 h r (.cells (cellsOf v.flat)) with
   | some h'=>val h' (.ptr (h0 + r) 0)
   | none=>none) else none
  | none=>none
 | .loadTake off x=>match qj e x with
  | some (.ptr b o)=>bif j9 h0 al b && qhc off o then (match ju h b with
   | some cs=>(match cs[o]? with
    | some (v,w)=>(match jt h b (.cells (cs.set o (v,false))) with
     | some h'=>some ⟨v,w,none,h'⟩
     | none=>none)
    | none=>none)
   | none=>none) else none
  | _=>none
 | .store n a x=>match qj e a,qj e x with
  | some (.ptr b o),some v=>bif j9 h0 al b then (match ju h b with
   | some cs=>(match zm e x with
    | some t=>bif Nat.beq n 1 && v.isList && Nat.blt o cs.length then (match jt h b (.cells (cs.set o (v,true))) with
      | some h'=>some ⟨.undef,false,some t,h'⟩
      | none=>none) else none
    | none=>bif Nat.beq v.flat.length n then (match jq cs o v.flat with
     | some cs'=>(match jt h b (.cells cs') with
      | some h'=>val h' .undef
      | none=>none)
     | none=>none) else none)
   | none=>none) else none
  | _,_=>none
 | .bld r t e=>match newBox h0 h r (.bld t e []) with
  | some h'=>val h' (.ptr (h0 + r) 0)
  | none=>none
 | .mkmap r=>match newBox h0 h r (.map []) with
  | some h'=>val h' (.map (h0 + r))
  | none=>none
 | .mapUpdate kd m k x=>match qj e m,qj e k,qj e x with
  | some (.map b),some kv,some v=>bif j9 h0 al b then (match ze h b with
   | some (.map es)=>(match zc kd kv es 0 with
    | some (some (i,_))=>(match jt h b (.map (qb1 es i v)) with
     | some h'=>val h' .undef
     | none=>none)
    | some none=>bif Nat.ble es.length 1073741824 then (match jt h b (.map (es++[(kv,v)])) with
     | some h'=>val h' .undef
     | none=>none) else none
    | none=>none)
   | _=>none) else none
  | _,_,_=>none
 | .delete kd m k=>match qj e m,qj e k with
  | some (.map b),some kv=>bif j9 h0 al b then (match ze h b with
   | some (.map es)=>(match zc kd kv es 0 with
    | some r=>(match jt h b (.map (q28 es r)) with
     | some h'=>val h' (.tup [])
     | none=>none)
    | none=>none)
   | _=>none) else none
  | _,_=>none
 | .mkslice (some r) sz bytes zero n c=>match qj e n,qj e c with
  | some (.int .i64 (.ofNat n)),some (.int .i64 (.ofNat c))=>
   bif Nat.beq n c && Nat.ble n 1073741824 && Nat.ble bytes 4096 && Nat.beq zero.length sz && Nat.blt 0 sz && zero.all ql then
    (match newBox h0 h r (.cells (cellsOf (List.replicate n zero).flatten)) with
     | some h'=>val h' (.ms (h0 + r) 0 n)
     | none=>none) else none
  | _,_=>none
 | .append (some r) sz bytes x y=>match qj e x,qj e y with
  | some (.list false sz' []),some vy=>
   bif (zm e x).isSome && Nat.beq sz sz' then
    (match zp sz vy with
     | some ys=>
      bif Nat.ble ys.length 1073741824 && Nat.ble bytes 4096 && Nat.blt 0 sz then
       (match newBox h0 h r (.cells (cellsOf (ys.flatMap AVal.flat))) with
        | some h'=>some ⟨.ms (h0 + r) 0 ys.length,false,zm e x,h'⟩
        | none=>none)
      else none
     | none=>none)
   else none
  | _,_=>none
 | .vapp r sz bytes x y=>match qj e x,qj e y with
  | some (.list true _ []),some vy=>(match zp sz vy with
    | some ys=>
     bif Nat.ble ys.length 1073741824 && Nat.ble bytes 4096 && Nat.blt 0 sz && !ys.isEmpty && ja 0 ys && Nat.blt r 1000 then
      (match newBox h0 h r (.vec sz 0 ys) with
       | some h'=>val h' (.vref (h0 + r) 0 ys.length)
       | none=>none) else none
    | none=>none)
  | some (.vref b ver len),some vy=>(match ze h b with
   | some (.vec sz' ver' xs)=>(match zp sz vy with
    | some ys=>
     bif Nat.beq ver ver' && Nat.beq sz sz' && Nat.ble len xs.length && Nat.ble (len + ys.length) 1073741824 && Nat.ble bytes 4096 && Nat.blt 0 sz && ja 0 ys && Nat.blt r 1000 then
      (match jt h b (.vec sz (ver + 1) (xs.take len++ys)) with
       | some h'=>val h' (.vref b (ver + 1) (len + ys.length))
       | none=>none) else none
    | none=>none)
   | _=>none)
  | _,_=>none
 | .vlit r sz len zero parts=>match yc e sz parts with
  | some ps=>match qcj (List.replicate len (bif Nat.beq sz 1 then zero.headD .undef else .agg zero)) ps with
   | some xs=>bif ja 0 xs then (match newBox h0 h r (.vec sz 0 xs) with
    | some h'=>val h' (.vref (h0 + r) 0 xs.length)
    | none=>none) else none
   | none=>none
  | none=>none
 | .copy sz x y=>match qj e x,qj e y with
  | some (.ms b o len),some vy=>bif j9 h0 al b then (match ju h b with
   | some cs=>(match qg5 sz len vy with
    | some (n,vs)=>(match jq cs o vs with
     | some cs'=>bif Nat.beq vs.length (n * sz) then (match jt h b (.cells cs') with
      | some h'=>val h' (.int .i64 n)
      | none=>none) else none
     | none=>none)
    | none=>none)
   | none=>none) else none
  | _,_=>none
 | .srange r x=>match qj e x with
  | some (.str s)=>(match newBox h0 h r (.iter s 0) with
   | some h'=>val h' (.ptr (h0 + r) 0)
   | none=>none)
  | _=>none
 | .snext it=>match qj e it with
  | some (.ptr b 0)=>bif j9 h0 al b then (match ze h b with
   | some (.iter s pos)=>bif Nat.blt pos s.length then
     (match jt h b (.iter s (pos + (qo s pos).2)) with
      | some h'=>val h' (.tup [.bool true,.int .i64 pos,.int .i32 (qo s pos).1])
      | none=>none) else val h (.tup [.bool false])
   | _=>none) else none
  | _=>none
 | _=>none
def qdc:Nat→List AVal→Env
 | _,[]=>[]
 | i,v::vs=>(i,v,false)::qdc (i + 1) vs
def qcm (st:ASt):qa8→Option (AVal × Bool)
 | .tmp t=>jm t st.env
 | .cell t agg n=>match jm t st.env with
  | some (.ptr b o,_)=>(match ju st.heap b with
   | some cs=>(match zh cs o n with
    | some vs=>bif agg then some (.agg vs,false) else (match cs[o]? with
     | some x=>some x
     | none=>none)
    | none=>none)
   | none=>none)
  | _=>none
def y8 (st:ASt):List qa8→Option (List (AVal × Bool))
 | []=>some []
 | r::rs=>match qcm st r with
  | some x=>(match y8 st rs with
   | some xs=>some (x::xs)
   | none=>none)
  | none=>none
def j6:List (AVal × Bool)→AVal × Bool
 | [x]=>x
 | xs=>(.tup (xs.map (·.1)),false)
abbrev XC:=ACode→ASt→Option (jd × ASt)
def kj (st:ASt):List qa8→qf
 | [.cell t false _]=>match jm t st.env with
  | some (.ptr b o,_)=>(match ju st.heap b with
   | some cs=>(match cs[o]? with
    | some (v,true)=>st.heap.set b (.cells (cs.set o (v,false)))
    | _=>st.heap)
   | none=>st.heap)
  | _=>st.heap
 | _=>st.heap
def qbm (xc:XC) (f:qm) (args:List AVal) (h:qf):Option (AVal × Bool × qf):=
 bif Nat.ble args.length f.ntmps then
  match xc f.body ⟨qdc 0 args,h⟩ with
  | some (.normal,st)=>(match y8 st f.results with
   | some xs=>some ((j6 xs).1,(j6 xs).2,kj st f.results)
   | none=>none)
  | some (.ret,st)=>(match y8 st f.results with
   | some xs=>some ((j6 xs).1,(j6 xs).2,kj st f.results)
   | none=>none)
  | _=>none
 else none
def qn (p:jw) (xc:XC) (k:Nat) (args:List AVal) (h:qf):Option (AVal × Bool × qf):=
 match p.fns k with
 | some f=>qbm xc f args h
 | none=>match p.sprims k with
  | some f=>f args h
  | none=>none
def qc (p:jw) (xc:XC) (k:Nat) (args:List AVal):Option (AVal × Bool):=
 match p.prims k with
 | some f=>(match f args with
  | some (v,o)=>bif qcx v then some (v,o) else none
  | none=>none)
 | none=>match qn p xc k args [] with
  | some (v,o,h)=>(match freezeR h v with
   | some v'=>bif qcx v' then some (v',o && v.isList) else none
   | none=>none)
  | none=>none
def jr (n:Nat) (v:AVal) (h:qf):qf:=
 bif Nat.ble h.length n then h else bif below n v && zn n (h.take n) then h.take n else h
def qe0 (e:Env):List Nat→List AVal→Option Env
 | [],[]=>some e
 | t::ts,v::vs=>qe0 ((t,v,false)::e) ts vs
 | _,_=>none
def kx (xc:XC) (b:Nat) (args:List AVal) (h:qf):Option (AVal × qf):=
 match ze h b with
 | some (.loop l)=>match l.pending,qe0 (noOwn l.env) l.params args with
  | none,some e=>(match xc l.assign ⟨e,h⟩ with
   | some (.normal,st)=>(match ze st.heap b with
    | some (.loop l1)=>bif l1.pending.isNone then (match xc l.body { st with heap:=st.heap.set b (.loop { l1 with pending:=some .normal }) } with
     | some (x,st')=>(match ze st'.heap b with
      | some (.loop l2)=>some (.bool (match x with | .normal=>true | _=>false),jr h.length (.bool true) (st'.heap.set b (.loop { l2 with pending:=match x with | .normal=>none | x=>some x })))
      | _=>none)
     | none=>none) else none
    | _=>none)
   | _=>none)
  | _,_=>none
 | _=>none
def qca:AVal→Bool
 | .bool _=>true
 | .int _ _=>true
 | .str _=>true
 | _=>false
def q3e (h:qf):AVal→Option AVal
 | .ms b 0 len=>(match ju h b with
  | some cs=>bif Nat.beq (len * (cs.length / len)) cs.length && Nat.blt 0 (cs.length / len) && cs.all (fun c=>qca c.1) then some (.list false (cs.length / len) (qbs (cs.length / len) len (cs.map (·.1)))) else (bif Nat.beq len 0 then some (.list false 8 []) else none)
  | none=>none)
 | v=>some v
def qfx (h:qf):List AVal→Option (List AVal)
 | []=>some []
 | v::vs=>match q3e h v,qfx h vs with
  | some x,some xs=>some (x::xs)
  | _,_=>none
def qhh:AVal→Bool
 | .agg cs=>cs.all qca
 | v=>qca v
def qr8 (v:AVal):AVal:=bif qhh v then v else .any
def q7o:AVal→Bool→Option (AVal × Bool)
 | .list false sz xs,true=>bif (xs.flatMap AVal.flat).all qca then some (.list false sz xs,true) else none
 | .list true sz [],_=>some (.list true sz [],false)
 | .tup vs,_=>some (.tup (vs.map qr8),false)
 | v,_=>bif qhh v then some (v,false) else none
def qgh (h0:Nat) (h:qf) (r:Nat):AVal→Bool→Option ORes
 | .list true sz [],_=>(match newBox h0 h r .dead with
  | some h'=>val h' (.list true sz [])
  | none=>none)
 | .list false sz xs,true=>bif (xs.flatMap AVal.flat).all qca then (match newBox h0 h r (.cells (cellsOf (xs.flatMap AVal.flat))) with
  | some h'=>val h' (.ms (h0 + r) 0 xs.length)
  | none=>none) else none
 | _,_=>none
def yp (p:jw) (xc:XC) (h0:Nat) (e:Env) (h:qf) (md:CMode) (f:qq) (args:List qq):Option ORes:=
 match qj e f,kl e args with
 | some (.fn (.func k) first captured),some vs=>
  (match md with
   | .iso=>bif ja 0 (first++vs++captured) then (match qc p xc k (first++vs++captured) with
     | some (v,o)=>some ⟨v,o,none,h⟩
     | none=>none) else none
   | .frz r=>bif (first++vs++captured).isEmpty then (match p.maps k with
     | some es=>(match newBox h0 h r (.map es) with
      | some h'=>val h' (.map (h0 + r))
      | none=>none)
     | none=>none) else bif ja 0 (first++vs++captured) then (match qc p xc k (first++vs++captured) with
     | some (v,o)=>qgh h0 h r v o
     | none=>none) else none
   | .red=>(match qfx h (first++vs++captured) with
    | some us=>bif ja 0 us then (match qc p xc k us with
     | some (v,o)=>(match q7o v o with
      | some (v',o')=>some ⟨v',o',none,h⟩
      | none=>none)
     | none=>none) else none
    | none=>none)
   | .shr=>(match qn p xc k (first++vs++captured) h with
    | some (v,o,h')=>some ⟨v,o,none,jr h.length v h'⟩
    | none=>none))
 | some (.fn (.yield b) [] []),some vs=>
  (match md with
   | .shr=>(match kx xc b vs h with
    | some (v,h')=>val h' v
    | none=>none)
   | _=>none)
 | _,_=>none
def qg (p:jw) (xc:XC) (h0:Nat) (al:Option (List Nat)) (e:Env) (h:qf) (op:AOp):Option ORes:=
 match op with
 | .call md f args=>yp p xc h0 e h md f args
 | .load agg n x=>yg h0 al e h (.load agg n x)
 | .lookup kd z ok m k=>yg h0 al e h (.lookup kd z ok m k)
 | .alloc r z=>qr h0 al e h (.alloc r z)
 | .box r n x=>qr h0 al e h (.box r n x)
 | .loadTake off x=>qr h0 al e h (.loadTake off x)
 | .store n a x=>qr h0 al e h (.store n a x)
 | .bld r t e'=>qr h0 al e h (.bld r t e')
 | .mkmap r=>qr h0 al e h (.mkmap r)
 | .mapUpdate kd m k x=>qr h0 al e h (.mapUpdate kd m k x)
 | .delete kd m k=>qr h0 al e h (.delete kd m k)
 | .mkslice (some r) sz b z n c=>qr h0 al e h (.mkslice (some r) sz b z n c)
 | .append (some r) sz b x y=>qr h0 al e h (.append (some r) sz b x y)
 | .vapp r sz b x y=>qr h0 al e h (.vapp r sz b x y)
 | .vlit r sz n z ps=>qr h0 al e h (.vlit r sz n z ps)
 | .copy sz x y=>qr h0 al e h (.copy sz x y)
 | .srange r x=>qr h0 al e h (.srange r x)
 | .snext it=>qr h0 al e h (.snext it)
 | op=>qp e h op
def z8 (e:Env):Option Nat→Env
 | none=>e
 | some s=>match jm s e with
  | some (v,_)=>(s,v,false)::e
  | none=>e
def qb9 (e:Env) (d:Option Nat) (v:AVal) (o:Bool):Env:=
 match d with
 | some d=>(d,v,o)::e
 | none=>e
def qa6 (e:Env):Option (Nat × Bool)→Option Bool
 | none=>some true
 | some (s,want)=>match jm s e with
  | some (.bool b,_)=>some (b == want)
  | some (.undef,_)=>some false
  | _=>none
def yq (p:jw) (xc:XC) (h0:Nat) (o:AOper) (st:ASt):Option ASt:=
 match qa6 st.env o.guard with
 | some true=>(match qg p xc h0 o.al st.env st.heap o.op with
  | some r=>some ⟨qb9 (z8 st.env r.strip) o.dst r.v r.own,r.heap⟩
  | none=>none)
 | some false=>some ⟨qb9 st.env o.dst .undef false,st.heap⟩
 | none=>none
def qar (p:jw) (xc:XC) (h0:Nat):List AOper→ASt→Option ASt
 | [],st=>some st
 | o::os,st=>match yq p xc h0 o st with
  | some st'=>qar p xc h0 os st'
  | none=>none
def qj6 (st:ASt):Option (List Nat)→ASt
 | none=>st
 | some l=>{ st with env:=qc5 st.env l }
def qa4 (p:jw) (xc:XC) (na:Nat) (ops:List AOper) (keep:Option (List Nat)) (st:ASt):Option (jd × ASt):=
 match qar p xc st.heap.length ops { st with heap:=st.heap++List.replicate na .hole } with
 | some st'=>some (.normal,qj6 st' keep)
 | none=>none
def qb2 (p:jw) (xc:XC) (f:qq) (params:List Nat) (assign body:ACode) (st:ASt):Option (jd × ASt):=
 bif zr assign && zr body then
  match qj st.env f with
  | some (.fn (.func k) first captured)=>
   (match qn p xc k (first++[.fn (.yield st.heap.length) [] []]++captured) (st.heap++[.loop ⟨st.env,params,assign,body,none⟩]) with
    | some (_,_,h')=>(match ze h' st.heap.length with
     | some (.loop l)=>bif zn st.heap.length (h'.take st.heap.length) then
       (match l.pending with
       | none=>some (.normal,{ st with heap:=h'.take st.heap.length })
       | some .normal=>none
       | some x=>some (x,{ st with heap:=h'.take st.heap.length })) else none
     | _=>none)
    | none=>none)
  | _=>none
 else none
def jn (p:jw):Nat→XC
 | 0,_,_=>none
 | n + 1,c,st=>match c with
  | .skip=>some (.normal,st)
  | .region na ops keep=>qa4 p (jn p n) na ops keep st
  | .seq a b=>match jn p n a st with
   | some (.normal,st')=>jn p n b st'
   | r=>r
  | .cond c a b=>match qj st.env c with
   | some (.bool t)=>bif t then jn p n a st else jn p n b st
   | _=>none
  | .block id body=>match jn p n body st with
   | some (.exit id',st')=>bif Nat.beq id' id then some (.normal,st') else some (.exit id',st')
   | r=>r
  | .loop body=>match jn p n body st with
   | some (.normal,st')=>jn p n (.loop body) (gc st.heap.length st')
   | r=>r
  | .rangeFunc f params assign body=>qb2 p (jn p n) f params assign body st
  | .exit id=>some (.exit id,st)
  | .ret=>some (.ret,st)
  | .grow sz=>match jm 0 st.env,jm 1 st.env with
   | some (.list true _ _,_),some (.int .i64 (.ofNat m),_)=>bif Nat.blt 0 m && Nat.ble m 1073741824 then some (.normal,{ st with env:=[(0,.list false sz [],true)] }) else none
   | _,_=>none
  | .stuck=>none
structure qi where
 takes:List Nat:=[]
 muts:List Nat:=[]
 offs:List (Nat × Nat):=[]
 shr:List (Nat × Nat):=[]
 frz:List (Nat × Nat):=[]
 red:List (Nat × Nat):=[]
 keep:List (Nat × List Nat):=[]
 vl:List Nat:=[]
 vec:List Nat:=[]
 ex:List ((Nat × Nat) × Nat):=[]
 deriving Inhabited
def qll:Value→Option AVal
 | .bool b=>some (.bool b)
 | .int k n=>some (.int k n)
 | .string s=>some (.str s.data.toList)
 | .slice none 0 0=>some (.list true 0 [])
 | .pointer none=>some .nilptr
 | .map none=>some .nilmap
 | .nilFunc=>some .nilfn
 | _=>none
def qes:List Value→Option (List AVal)
 | []=>some []
 | v::vs=>match qll v with
  | some x=>match qes vs with
   | some xs=>some (x::xs)
   | none=>none
  | none=>none
def ofValue:Value→Option AVal
 | .agg cs=>match qes cs.toList with
  | some xs=>some (.agg xs)
  | none=>none
 | v=>qll v
def qy:Operand→Option qq
 | .tmp t=>some (.tmp t)
 | .const v=>match ofValue v with
  | some x=>some (.const x)
  | none=>none
 | .func f=>some (.const (.fn (.func f) [] []))
 | .global _=>none
def qfi:List Operand→Option (List qq)
 | []=>some []
 | x::xs=>match qy x with
  | some y=>match qfi xs with
   | some ys=>some (y::ys)
   | none=>none
  | none=>none
def qdh:Option Operand→Option (Option qq)
 | none=>some none
 | some x=>match qy x with
  | some y=>some (some y)
  | none=>none
def yj (P:Program) (t:TypeId):Option Bool:=
 match P.underlying t with
 | some (.struct _)=>some true
 | some (.array _ _)=>some true
 | some _=>some false
 | none=>none
def jp (P:Program) (t:TypeId):Option Nat:=(P.info? t).map (·.size)
def qce (P:Program) (t:TypeId):Option Nat:=(P.info? t).map (·.bytes)
def yo (P:Program) (t:TypeId):Option (List AVal):=
 match P.info? t with
 | some i=>match i.zero with
  | some z=>qes z.cells.toList
  | none=>none
 | none=>none
def jdn (P:Program) (t:TypeId):Option TypeId:=
 match P.underlying t with
 | some (.struct fs)=>match fs.toList with
  | [f0,f1]=>match P.underlying f0.type,P.underlying f1.type with
   | some (.pointer t'),some (.slice e)=>match P.underlying e,yo P t with
    | some (.int .u8),some [.nilptr,.list true _ []]=>if t' == t then some e else none
    | _,_=>none
   | _,_=>none
  | _=>none
 | _=>none
def q8z (P:Program) (t:TypeId):Option AVal:=
 match P.info? t with
 | some i=>match i.zero with
  | some z=>ofValue z
  | none=>none
 | none=>none
def qmx (g:TypeId→Option (List Kd)):Nat→List Field→Option (List Kd)
 | _,[]=>some []
 | off, f :: fs => if f.name != "_" && f.offset == off then (match g f.type with
   | some ks=>(match qmx g (off + ks.length) fs with
    | some r=>some (ks++r)
    | none=>none)
   | none=>none) else none
def qe5 (P:Program):Nat→TypeId→Option (List Kd)
 | 0,_=>none
 | n + 1,t=>match P.underlying t with
  | some (.int _)=>if jp P t == some 1 then some [.int] else none
  | some .string=>if jp P t == some 1 then some [.str] else none
  | some .bool=>if jp P t == some 1 then some [.bool] else none
  | some (.struct fs)=>(match qmx (qe5 P n) 0 fs.toList with
   | some ks=>if !P.stoodInHeld t && jp P t == some ks.length then some ks else none
   | none=>none)
  | some (.array len e)=>(match qe5 P n e with
   | some ks=>if jp P t == some (len * ks.length) then some (List.replicate len ks).flatten else none
   | none=>none)
  | _=>none
def qio:Nat:=12
def kdT (P:Program) (t:TypeId):Option Kd:=
 match P.underlying t with
 | some (.int _)=>some .int
 | some .string=>some .str
 | some .bool=>some .bool
 | _=>none
def cEq (P:Program) (op:BinOp) (neq:Bool) (t:TypeId) (x y:Operand):Option AOp:=
 match P.underlying t with
 | some (.int _) | some .string=>match qy x,qy y with
  | some a,some b=>some (.bin op a b)
  | _,_=>none
 | some .bool=>match qy x,qy y with
  | some a,some b=>some (.beq neq a b)
  | _,_=>none
 | some (.struct _) | some (.array _ _)=>
  if !P.eqGuardType P.depth t then match qe5 P qio t,qy x,qy y with
   | some ks,some a,some b=>some (.eqs ks neq a b)
   | _,_,_=>none
  else none
 | some (.slice _)=>match y with
  | .const (.slice none 0 0)=>(qy x).map (.nilEq 0 neq)
  | _=>none
 | some (.pointer _)=>match y with
  | .const (.pointer none)=>(qy x).map (.nilEq 1 neq)
  | _=>none
 | some (.map _ _)=>match y with
  | .const (.map none)=>(qy x).map (.nilEq 2 neq)
  | _=>none
 | some (.func _ _ _)=>match y with
  | .const .nilFunc=>(qy x).map (.nilEq 3 neq)
  | _=>none
 | _=>none
def jfg (P:Program) (op:BinOp) (t:TypeId) (x y:Operand):Option AOp:=
 match op with
 | .eql=>cEq P .eql false t x y
 | .neq=>cEq P .neq true t x y
 | op=>match qy x,qy y with
  | some a,some b=>some (.bin op a b)
  | _,_=>none
def qhz (P:Program) (place:Nat→Option (Nat × Nat)):List (Nat × Operand)→Option (List (Nat × Nat × qq))
 | []=>some []
 | (i,x)::ps=>match place i,qy x,qhz P place ps with
  | some (off,n),some y,some r=>some ((off,n,y)::r)
  | _,_,_=>none
def qhw:List (Nat × Operand)→Option (List (Nat × qq))
 | []=>some []
 | (i,x)::ps=>match qy x,qhw ps with
  | some y,some r=>some ((i,y)::r)
  | _,_=>none
def q5a (h:qi) (dst:Option Nat) (x:Operand):Option Nat:=
 match x,dst with
 | .tmp s,some d=>if h.takes.contains d then some s else none
 | _,_=>none
def qdi:TypeDesc→Bool
 | .slice _=>true
 | .string=>true
 | _=>false
def CMode.at (r:Nat):CMode→CMode
 | .frz _=>.frz r
 | m=>m
def qn0 (P:Program) (h:qi) (md:CMode) (r:Nat) (dst:Option Nat) (c:Call):Option AOp:=
 match c.callee with
 | .value f=>match qy f,qfi c.args.toList with
  | some f,some args=>some (.call (md.at r) f args)
  | _,_=>none
 | .builtin .len=>match c.args.toList,c.argTypes.toList with
  | [x],[t]=>match P.underlying t with
   | some .string=>(qy x).map (.len 0)
   | some (.slice _)=>(qy x).map (.len 1)
   | _=>none
  | _,_=>none
 | .builtin .cap=>match c.args.toList,c.argTypes.toList with
  | [x],[t]=>match P.underlying t with
   | some (.slice _)=>(qy x).map (.len 2)
   | _=>none
  | _,_=>none
 | .builtin .append=>match c.args.toList,c.argTypes.toList with
  | [x,y],[t,u]=>match P.underlying t,P.underlying u with
   | some (.slice e),some ut=>if qdi ut && (yo P e).map (·.length) == jp P e then match jp P e,qce P e,qy x,qy y with
     | some sz,some b,some x,some y=>some (if (dst.map (h.vec.contains ·)).getD false then .vapp r sz b x y else .append (if (dst.map (h.muts.contains ·)).getD false then some r else none) sz b x y)
     | _,_,_,_=>none
    else none
   | _,_=>none
  | _,_=>none
 | .builtin .copy=>match c.args.toList,c.argTypes.toList with
  | [x,y],t::_=>match P.underlying t with
   | some (.slice e)=>match jp P e,qy x,qy y with
    | some sz,some x,some y=>some (.copy sz x y)
    | _,_,_=>none
   | _=>none
  | _,_=>none
 | .builtin .delete=>match c.args.toList,c.argTypes.toList with
  | [m,k],t::_=>match P.underlying t with
   | some (.map kt _)=>match kdT P kt,qy m,qy k with
    | some kd,some m,some k=>some (.delete kd m k)
    | _,_,_=>none
   | _=>none
  | _,_=>none
 | .builtin .max=>(qfi c.args.toList).map .mx
 | .builtin .min=>(qfi c.args.toList).map .mn
 | _=>none
def qru : List (String × List Int) := [("woofer/network.none", [0, 0]), ("woofer/network.one", [1, 0]), ("woofer/network.turns", [1, 0, 0, 1, -1, 0, 0, -1])]
def qwt (P:Program) (g:Nat):List (String × List Int)→Option (List Int)
 | []=>none
 | (n,cs)::l=>if P.globalNamed n == some g then some cs else qwt P g l
def qzx (P:Program) (t:TypeId) (g:Nat):Option AOp:=match qwt P g qru,yj P t,jp P t with
 | some cs,some true,some n=>if cs.length == n then some (.move (.const (.agg (cs.map (AVal.int .i64))))) else none
 | _,_,_=>none
def q7p (h:qi):qq→Option Nat
 | .tmp s=>if h.vl.contains s then some s else none
 | _=>none
def cOp (P:Program) (h:qi) (md:CMode) (r:Nat) (dst:Option Nat):Op→Option AOp
 | .move x=>match q5a h dst x with
  | some s=>some (.take s)
  | none=>(qy x).map .move
 | .assign (.tmp s)=>some (.take s)
 | .assign x=>(qy x).map .move
 | .pick c a b=>match qy c,qy a,qy b with
  | some c,some a,some b=>some (.pick c a b)
  | _,_,_=>none
 | .alloc t=>match jdn P t with
  | some e=>some (.bld r t e)
  | none=>bif (dst.map (h.vl.contains ·)).getD false then (match yo P t with
   | some z=>bif z.all ql then some (.valloc z.length) else none
   | none=>none) else (yo P t).map (.alloc r)
 | .box t x=>match jp P t,qy x with
  | some n,some x=>some (bif (dst.map (h.vl.contains ·)).getD false then .vbox n x else .box r n x)
  | _,_=>none
 | .build t ps=>match P.underlying t,yo P t with
  | some (.struct fs),some z=>if fs.toList.all (fun f=>(jp P f.type).isSome) then (qhz P (fun i=>match fs[i]? with
    | some f=>(jp P f.type).map fun n=>(f.offset,n)
    | none=>none) ps.toList).map (.build z) else none
  | some (.array _ e),some z=>match jp P e with
   | some n=>(qhz P (fun i=>some (i * n,n)) ps.toList).map (.build z)
   | none=>none
  | _,_=>none
 | .buildSlice t n ps=>match P.underlying t with
  | some (.slice e)=>match jp P e,yo P e,yj P e,qhw ps.toList with
   | some sz,some z,some ag,some es=>if sz * n≤65536 && 0 < sz && z.length == sz && (ag || sz == 1) && (!ag || sz != 1) then some (if (dst.map (h.vec.contains ·)).getD false then .vlit r sz n z es else .buildSlice sz n z es) else none
   | _,_,_,_=>none
  | _=>none
 | .load t (.global g)=>qzx P t g
 | .load t x=>match yj P t,jp P t,qy x with
  | some false,some 1,some x=>if (dst.map (h.takes.contains ·)).getD false then some (.loadTake ((dst.bind fun d=>h.offs.find? fun y=>y.1 == d).map (·.2)) x) else some (bif (dst.map (h.vl.contains ·)).getD false then .vload false 1 x else .load false 1 x)
  | some true,some n,some x=>some (bif (dst.map (h.vl.contains ·)).getD false then .vload true n x else .load true n x)
  | _,_,_=>none
 | .store t a v=>match jp P t,qy a,qy v with
  | some n,some a,some v=>some (match q7p h a with
   | some s=>.vstore n s v
   | none=>.store n a v)
  | _,_,_=>none
 | .nilCheck x=>(qy x).map .nilCheck
 | .binOp op t x y _=>jfg P op t x y
 | .unOp op _ x=>(qy x).map (.un op)
 | .convert s d x=>match P.underlying s,P.underlying d with
  | some (.int _),some (.int k)=>(qy x).map (.conv k)
  | some .string,some .string=>(qy x).map .convStr
  | some (.int _),some .string=>(qy x).map .convStr
  | _,_=>none
 | .makeFunc f a b=>match f with
  | .func k=>match qfi a.toList,qfi b.toList with
   | some a,some b=>some (.mkfunc (.func k) a b)
   | _,_=>none
  | _=>none
 | .makeMap t none=>match P.underlying t with
  | some (.map _ _)=>some (.mkmap r)
  | _=>none
 | .makeSlice t n c=>match P.underlying t with
  | some (.slice e)=>match jp P e,qce P e,yo P e,yj P e,qy n,qy c with
   | some sz,some b,some z,some ag,some n,some c=>
    if (ag || sz == 1) && (!ag || sz != 1) then some (.mkslice (if (dst.map (h.muts.contains ·)).getD false then some r else none) sz b z n c) else none
   | _,_,_,_,_,_=>none
  | _=>none
 | .slice t x lo hi none=>match qy x,qdh lo,qdh hi with
  | some x,some lo,some hi=>match P.underlying t with
   | some .string=>some (.strSlice x lo hi)
   | some (.slice e)=>(jp P e).map fun sz=>.slice sz x lo hi
   | some (.array n e)=>(jp P e).map fun sz=>.sliceArr n sz x lo hi
   | _=>none
  | _,_,_=>none
 | .fieldAddr t x i=>match P.underlying t with
  | some (.struct fs)=>match fs[i]? with
   | some f=>match yj P f.type,jp P f.type,qy x with
    | some ag,some n,some x=>if 0 < n && (ag || n == 1) then some (.fieldAddr ag f.offset n x) else none
    | _,_,_=>none
   | none=>none
  | _=>none
 | .field t x i=>match P.underlying t with
  | some (.struct fs)=>match fs[i]? with
   | some f=>match yj P f.type,jp P f.type,qy x with
    | some ag,some n,some x=>some (.field ag f.offset n x)
    | _,_,_=>none
   | none=>none
  | _=>none
 | .indexAddr t x i=>match qy x,qy i with
  | some x,some i=>match P.underlying t with
   | some (.slice e)=>match jp P e with
    | some sz=>if 0 < sz then some (.indexAddr sz x i) else none
    | none=>none
   | some (.array n e)=>match jp P e,yj P e with
    | some sz,some ag=>if 0 < sz && (ag || sz == 1) then some (.indexArr ag n sz x i) else none
    | _,_=>none
   | _=>none
  | _,_=>none
 | .index t x i=>match qy x,qy i with
  | some x,some i=>match P.underlying t with
   | some .string=>some (.strIndex x i)
   | some (.array n e)=>match jp P e,yj P e with
    | some sz,some ag=>some (.index ag n sz x i)
    | _,_=>none
   | _=>none
  | _,_=>none
 | .lookup t m k ok=>match P.underlying t with
  | some (.map kt e)=>match kdT P kt,q8z P e,qy m,qy k with
   | some kd,some z,some m,some k=>some (.lookup kd z ok m k)
   | _,_,_,_=>none
  | _=>none
 | .mapUpdate t m k v=>match P.underlying t with
  | some (.map kt _)=>match kdT P kt,qy m,qy k,qy v with
   | some kd,some m,some k,some v=>some (.mapUpdate kd m k v)
   | _,_,_,_=>none
  | _=>none
 | .insert t m k v=>match P.underlying t with
  | some (.map kt _)=>match kdT P kt,qy m,qy k,qy v with
   | some kd,some m,some k,some v=>some (.mapUpdate kd m k v)
   | _,_,_,_=>none
  | _=>none
 | .range t x=>match P.underlying t with
  | some .string=>(qy x).map (.srange r)
  | _=>none
 | .next it true=>(qy it).map .snext
 | .extract x i=>(qy x).map fun x=>.extract x i
 | .call c=>qn0 P h md r dst c
 | _=>none
def AOp.makes:AOp→Bool
 | .alloc ..=>true
 | .box ..=>true
 | .bld ..=>true
 | .mkmap ..=>true
 | .mkslice (some _) ..=>true
 | .append (some _) ..=>true
 | .vapp ..=>true
 | .vlit ..=>true
 | .srange ..=>true
 | .call (.frz _) ..=>true
 | _=>false
def AOp.vdst:AOp→Option Nat
 | .vstore _ s _=>some s
 | _=>none
def AOp.dstOf (d:Option Nat):AOp→Option Nat
 | .vstore _ s _=>some s
 | _=>d
def qlj (ops:Array Oper):Option (Nat × Bool)→Option (Option (Nat × Bool))
 | none=>some none
 | some (j,b)=>match (ops[j]?).bind (·.dst) with
  | some d=>some (some (d,b))
  | none=>none
def q87 (h:qi) (id i:Nat):CMode:=if h.shr.contains (id,i) then .shr else if h.frz.contains (id,i) then .frz 0 else if h.red.contains (id,i) then .red else .iso
def q2p (P:Program) (h:qi) (nt:Nat) (id:Nat) (ops:Array Oper) (bef:Array Nat) (draw:Bool):List Oper→Nat→List (Nat × Nat)→Option (List AOper × List (Nat × Nat))
 | [],_,rs=>some ([],rs)
 | o::os,i,rs=>
  match (cOp P h (q87 h id i) rs.length o.dst o.op).getD .bad,qlj ops o.guard with
  | a,some g=>
   if (o.dst.map (decide <| · < nt)).getD true && (a.vdst.map (decide <| · < nt)).getD true && (a.vdst.isNone || (o.dst.isNone && o.guard.isNone)) then
    let rs':=if a.makes then (i,rs.length)::rs else rs
    let al:=if draw then (match h.ex.find? fun x=>x.1 == (id,i) with
     | some x=>some [x.2]
     | none=>some ((rs.filter fun x=>(bef.getD i 0).testBit x.1).map (·.2))) else none
    match q2p P h nt id ops bef draw os (i + 1) rs' with
    | some (l,rs'')=>some (⟨a.dstOf o.dst,a,g,al⟩::l,rs'')
    | none=>none
   else none
  | _,_=>none
def zd:qq→List Nat
 | .tmp t=>[t]
 | .const _=>[]
def qkr (l:List qq):List Nat:=l.flatMap zd
def qoa:Option qq→List Nat
 | some x=>zd x
 | none=>[]
def AOp.reads:AOp→List Nat
 | .move x=>zd x
 | .take s=>[s]
 | .pick c a b=>zd c++zd a++zd b
 | .alloc _ _=>[]
 | .box _ _ x=>zd x
 | .vbox _ x=>zd x
 | .valloc _=>[]
 | .vstore _ s x=>s::zd x
 | .bld _ _ _=>[]
 | .build _ ps=>ps.flatMap fun p=>zd p.2.2
 | .buildSlice _ _ _ ps=>ps.flatMap fun p=>zd p.2
 | .load _ _ x=>zd x
 | .vload _ _ x=>zd x
 | .loadTake _ x=>zd x
 | .store _ a v=>zd a++zd v
 | .nilCheck x=>zd x
 | .bin _ x y=>zd x++zd y
 | .eqs _ _ x y=>zd x++zd y
 | .beq _ x y=>zd x++zd y
 | .nilEq _ _ x=>zd x
 | .un _ x=>zd x
 | .conv _ x=>zd x
 | .convStr x=>zd x
 | .field _ _ _ x=>zd x
 | .index _ _ _ x i=>zd x++zd i
 | .strIndex x i=>zd x++zd i
 | .fieldAddr _ _ _ x=>zd x
 | .indexAddr _ x i=>zd x++zd i
 | .indexArr _ _ _ x i=>zd x++zd i
 | .slice _ x lo hi=>zd x++qoa lo++qoa hi
 | .strSlice x lo hi=>zd x++qoa lo++qoa hi
 | .sliceArr _ _ x lo hi=>zd x++qoa lo++qoa hi
 | .mkfunc _ a b=>qkr a++qkr b
 | .mkmap _=>[]
 | .lookup _ _ _ m k=>zd m++zd k
 | .mapUpdate _ m k v=>zd m++zd k++zd v
 | .delete _ m k=>zd m++zd k
 | .mkslice _ _ _ _ n c=>zd n++zd c
 | .len _ x=>zd x
 | .append _ _ _ x y=>zd x++zd y
 | .vapp _ _ _ x y=>zd x++zd y
 | .vlit _ _ _ _ ps=>ps.flatMap fun p=>zd p.2
 | .copy _ x y=>zd x++zd y
 | .mx l=>qkr l
 | .mn l=>qkr l
 | .extract x _=>zd x
 | .call _ f l=>zd f++qkr l
 | .srange _ x=>zd x
 | .snext x=>zd x
 | .bad=>[]
def AOp.strips:AOp→List Nat
 | .take s=>[s]
 | .append _ _ _ x _=>zd x
 | .store _ _ v=>zd v
 | _=>[]
def AOper.reads (o:AOper):List Nat:=o.op.reads++(match o.guard with | some g=>[g.1] | none=>[])
def AOper.writes (o:AOper):List Nat:=o.dst.toList++o.op.strips
inductive Cls where
 | pure | read | write | alloc | take | frz | shr | vap
 deriving DecidableEq,Inhabited
def AOp.cl:AOp→Cls
 | .load ..=>.read
 | .lookup ..=>.read
 | .alloc ..=>.alloc
 | .box ..=>.alloc
 | .bld ..=>.alloc
 | .mkmap ..=>.alloc
 | .mkslice (some _) ..=>.alloc
 | .append (some _) ..=>.alloc
 | .srange ..=>.alloc
 | .loadTake none _=>.write
 | .loadTake (some _) _=>.take
 | .store ..=>.write
 | .mapUpdate ..=>.write
 | .delete ..=>.write
 | .copy ..=>.write
 | .snext ..=>.write
 | .call .iso ..=>.pure
 | .call (.frz _) ..=>.alloc
 | .call .shr ..=>.shr
 | .call .red ..=>.shr
 | .vapp ..=>.vap
 | .vlit ..=>.shr
 | _=>.pure
def AOp.rank:AOp→Nat
 | .alloc r _=>r
 | .box r _ _=>r
 | .bld r _ _=>r
 | .mkmap r=>r
 | .mkslice (some r) ..=>r
 | .append (some r) ..=>r
 | .srange r _=>r
 | .call (.frz r) ..=>r
 | .loadTake (some o) _=>o
 | .vapp r sz ..=>r + 1000 * sz
 | _=>0
def qdl (al:Option (List Nat)) (r:Nat):Bool:=match al with
 | none=>true
 | some l=>bif exl l then Nat.beq (l.headD 0) (2000 + r) else l.contains r
def qir (a b:Option (List Nat)):Bool:=match a,b with
 | some l,some m=>bif exl l then (bif exl m then !(Nat.beq (l.headD 0) (m.headD 0)) && Nat.blt (l.headD 0) 4000 && Nat.blt (m.headD 0) 4000 else Nat.ble 2000 (l.headD 0) && Nat.blt (l.headD 0) 4000 && !(m.contains (l.headD 0 - 2000))) else exl m && Nat.ble 2000 (m.headD 0) && Nat.blt (m.headD 0) 4000 && !(l.contains (m.headD 0 - 2000))
 | _,_=>false
def Cls.box:Cls→Bool
 | .read=>true
 | .write=>true
 | .take=>true
 | _=>false
def q69 (a b:AOper):Bool:=(a.op.cl.box && b.op.cl.box && qir a.al b.al) ||
  (match a.op.cl,b.op.cl with
 | .pure,_=>true
 | _,.pure=>true
 | .read,.read=>true
 | .read,.frz=>true
 | .frz,.read=>true
 | .frz,.frz=>true
 | .alloc,.alloc=>a.op.rank != b.op.rank
 | .alloc,.read=>!qdl b.al a.op.rank
 | .alloc,.write=>!qdl b.al a.op.rank
 | .alloc,.take=>!qdl b.al a.op.rank
 | .take,.alloc=>!qdl a.al b.op.rank
 | .take,.take=>a.op.rank != b.op.rank
 | .read,.alloc=>!qdl a.al b.op.rank
 | .write,.alloc=>!qdl a.al b.op.rank
 | .vap,.vap=>a.op.rank % 1000 != b.op.rank % 1000 && a.op.rank / 1000 != b.op.rank / 1000
 | .vap,.read=>qfh b.al
 | .vap,.write=>qfh b.al
 | .vap,.take=>qfh b.al
 | .read,.vap=>qfh a.al
 | .write,.vap=>qfh a.al
 | .take,.vap=>qfh a.al
 | _,_=>false)
def qjl (a b:List Nat):Bool:=a.all fun x=>!b.contains x
def qgq (a b:AOper):Bool:=
 q69 a b && qjl a.writes b.reads && qjl a.writes b.writes && qjl b.writes a.reads
def q27 (bef:Array Nat) (l:List AOper):Bool:=
 (l.zipIdx).all fun (b,j)=>(l.zipIdx).all fun (a,i)=>!(decide (i < j)) || (bef.getD j 0).testBit i || qgq a b
def qyd (ops:Array Oper):Bool:=ops.toList.zipIdx.all fun (o,i)=>o.after.all fun e=>!Region.binds .any e || decide (e.on < i)
def q6m (bef:Array Nat) (ops:Array Oper):Bool:=
 ops.toList.zipIdx.all fun (o,i)=>(List.range ops.size).all fun j=>!((bef.getD i 0).testBit j) || o.after.any fun e=>Region.binds .any e && (e.on == j || (bef.getD e.on 0).testBit j)
def ql0 (P:Program) (h:qi) (nt:Nat) (id:Nat) (ops:Array Oper) (draw:Bool):Option ACode:=
 match q2p P h nt id ops (Region.before ops) draw ops.toList 0 [] with
 | some (l,rs)=>
  if !draw || (q27 (Region.before ops) l && qyd ops && q6m (Region.before ops) ops) then
   some (.region rs.length l ((h.keep.find? fun x=>x.1 == id).map (·.2)))
  else none
 | none=>none
def qmz (s d:Nat) (o:Oper):Bool:=match o.op,o.dst,o.guard with
 | .move (.tmp s'),some d',none=>s' == s && d' == d
 | _,_,_=>false
def qs3 (s d:Nat) (o:Oper):Bool:=match o.op,o.dst,o.guard with
 | .assign (.tmp s'),some d',none=>s' == s && d' == d
 | _,_,_=>false
def jga (x d:Nat) (o:Oper):Option TypeId:=match o.op,o.dst,o.guard with
 | .call c,some d',none=>match c.callee,c.args.toList,c.argTypes.toList with
  | .builtin .cap,[.tmp x'],[t]=>if x' == x && d' == d then some t else none
  | _,_,_=>none
 | _,_,_=>none
def jd8 (x d:Nat) (o:Oper):Option TypeId:=match o.op,o.dst,o.guard with
 | .call c,some d',none=>match c.callee,c.args.toList,c.argTypes.toList with
  | .builtin .len,[.tmp x'],[t]=>if x' == x && d' == d then some t else none
  | _,_,_=>none
 | _,_,_=>none
def q6u (x h d:Nat) (o:Oper):Option TypeId:=match o.op,o.dst,o.guard with
 | .slice t (.tmp x') none (some (.tmp h')) none,some d',none=>if x' == x && h' == h && d' == d then some t else none
 | _,_,_=>none
def jf9 (x y d:Nat) (o:Oper):Option (TypeId × TypeId):=match o.op,o.dst,o.guard with
 | .call c,some d',none=>match c.callee,c.args.toList,c.argTypes.toList with
  | .builtin .append,[.tmp x',.tmp y'],[t,u]=>if x' == x && y' == y && d' == d then some (t,u) else none
  | _,_,_=>none
 | _,_,_=>none
def jii (ops:Array Oper):Option (TypeId × TypeId):=match ops.toList with
 | [o0,o1,o2,o3,o4,o5,o6,o7,o8,o9]=>match jga 18 19 o2,q6u 17 19 20 o3,jf9 20 21 22 o5,jd8 23 24 o7,q6u 22 24 25 o8 with
  | some t2,some t3,some (t,u),some t7,some t8=>if qmz 0 17 o0 && qmz 0 18 o1 && qmz 1 21 o4 && qmz 0 23 o6 && qs3 25 0 o9 && t2 == t && t3 == t && t7 == t && t8 == t then some (t,u) else none
  | _,_,_,_,_=>none
 | _=>none
def qv3 (P:Program) (nt:Nat) (ops:Array Oper):Option Nat:=match jii ops with
 | some (t,u)=>match P.underlying t,P.underlying u with
  | some (.slice e),some (.int _)=>match P.info? e with
   | some i=>if i.zero.isSome && 0 < i.size && i.bytes≤4096 && 26≤nt && (yo P e).isSome && (yo P e).map (·.length) == some i.size then some i.size else none
   | none=>none
  | _,_=>none
 | none=>none
def qaa (P:Program) (h:qi) (nt:Nat):Code→Option ACode
 | .skip=>some .skip
 | .label _=>some .skip
 | .region id ops draw=>match draw,qv3 P nt ops with
  | false,some sz=>some (.grow sz)
  | _,_=>ql0 P h nt id ops draw
 | .seq a b=>match qaa P h nt a,qaa P h nt b with
  | some x,some y=>some (.seq x y)
  | _,_=>none
 | .cond c a b=>match qy c,qaa P h nt a,qaa P h nt b with
  | some c,some x,some y=>some (.cond c x y)
  | _,_,_=>none
 | .block id b=>(qaa P h nt b).map (.block id)
 | .loop b=>(qaa P h nt b).map .loop
 | .scope b=>(qaa P h nt b).map fun x=>.seq x .skip
 | .rangeFunc f ps a b=>match qy f,qaa P h nt a,qaa P h nt b with
  | some f,some x,some y=>if ps.all (decide <| · < nt) then some (.rangeFunc f ps.toList x y) else none
  | _,_,_=>none
 | .exit id=>some (.exit id)
 | .ret=>some .ret
 | _=>some .stuck
def q51 (P:Program):ResultVar→Option qa8
 | .tmp t=>some (.tmp t)
 | .cell t ty=>match yj P ty,jp P ty with
  | some true,some n=>some (.cell t true n)
  | some false,some 1=>some (.cell t false 1)
  | _,_=>none
def qn6 (P:Program):List ResultVar→Option (List qa8)
 | []=>some []
 | r::rs=>match q51 P r,qn6 P rs with
  | some x,some xs=>some (x::xs)
  | _,_=>none
def q2o (P:Program) (h:qi) (f:Func):Option qm:=
 match f.body with
 | some c=>match qaa P h f.ntmps c,qn6 P f.results.toList with
  | some b, some rs => if f.name == "runtime.NumGoroutine" then none else some ⟨f.ntmps, b, rs⟩
  | _,_=>none
 | none=>none
structure Ctx where
 K:Nat→Nat→Option Value
 β:Nat→Option Nat
 W:Nat→Prop
 D:Nat→Prop
 T:Nat × Nat × Nat × Nat→Prop
def Ctx.iso (K:Nat→Nat→Option Value):Ctx:=⟨K,fun _=>none,fun _=>False,fun _=>False,fun _=>False⟩
def RepFn (C:Ctx):Fn→Fn→Prop
 | .yield b,f=>∃ r,C.β b=some r∧f=.yield r
 | f,f'=>f'=f
inductive RIx where
 | val (x:AVal) (v:Value)
 | cells (r:Nat) (xs:List AVal) (o:Nat)
 | row (r sz:Nat) (xs:List AVal) (o:Nat)
 | lst (xs:List AVal) (vs:List Value)
inductive RepI (C:Ctx):RIx→Prop where
 | bool (b:Bool):RepI C (.val (.bool b) (.bool b))
 | int (k:IntKind) (n:Int):RepI C (.val (.int k n) (.int k n))
 | str (s:List UInt8):RepI C (.val (.str s) (.string ⟨⟨s⟩⟩))
 | lnil (sz:Nat):RepI C (.val (.list true sz []) (.slice none 0 0))
 | list (sz:Nat) (xs:List AVal) (r o cap:Nat) (hl:xs.length≤cap) (hr:RepI C (.row r sz xs o)):RepI C (.val (.list false sz xs) (.slice (some ⟨r,o,none⟩) xs.length cap))
 | lemp (sz:Nat) (a:Addr) (hs:a.spot ≠ none):RepI C (.val (.list false sz []) (.slice (some a) 0 0))
 | ms (b o len r cap:Nat) (hb:C.β b=some r) (hl:len≤cap):RepI C (.val (.ms b o len) (.slice (some ⟨r,o,none⟩) len cap))
 | ptr (b o r:Nat) (hb:C.β b=some r):RepI C (.val (.ptr b o) (.pointer (some ⟨r,o,none⟩)))
 | vptr (x:AVal) (r o:Nat) (h:RepI C (.cells r x.flat o)):RepI C (.val (.vptr x) (.pointer (some ⟨r,o,none⟩)))
 | nilptr:RepI C (.val .nilptr (.pointer none))
 | map (b r:Nat) (hb:C.β b=some r):RepI C (.val (.map b) (.map (some r)))
 | nilmap:RepI C (.val .nilmap (.map none))
 | fn (f f':Fn) (a b:List AVal) (as bs:List Value) (hf:RepFn C f f') (ha:RepI C (.lst a as)) (hb:RepI C (.lst b bs)):RepI C (.val (.fn f a b) (.func f' ⟨as⟩ ⟨bs⟩))
 | nilfn:RepI C (.val .nilfn .nilFunc)
 | agg (cs:List AVal) (vs:List Value) (h:RepI C (.lst cs vs)):RepI C (.val (.agg cs) (.agg ⟨vs⟩))
 | tup (cs:List AVal) (vs:List Value) (h:RepI C (.lst cs vs)):RepI C (.val (.tup cs) (.tuple ⟨vs⟩))
 | undef:RepI C (.val .undef (.tuple #[]))
 | any (v:Value):RepI C (.val .any v)
 | pend (n:Nat) (a:Addr):RepI C (.val (.pend n) (.pointer (some a)))
 | vref (b ver len r0 r cap:Nat) (hb:C.β b=some r0) (ht:C.T (r0,ver,r,cap)) (hl:len≤cap):RepI C (.val (.vref b ver len) (.slice (some ⟨r,0,none⟩) len cap))
 | vel (b ver off r0 r cap:Nat) (hb:C.β b=some r0) (ht:C.T (r0,ver,r,cap)):RepI C (.val (.vel b ver off) (.pointer (some ⟨r,off,none⟩)))
 | cnil (r o:Nat):RepI C (.cells r [] o)
 | ccons (r o:Nat) (x:AVal) (xs:List AVal) (v:Value) (hv:C.K r o=some v) (hx:RepI C (.val x v)) (h:RepI C (.cells r xs (o + 1))):RepI C (.cells r (x::xs) o)
 | rnil (r sz o:Nat):RepI C (.row r sz [] o)
 | rcons (r sz o:Nat) (x:AVal) (xs:List AVal) (hs:x.flat.length=sz) (hx:RepI C (.cells r x.flat o)) (h:RepI C (.row r sz xs (o + sz))):RepI C (.row r sz (x::xs) o)
 | nil:RepI C (.lst [] [])
 | cons (x:AVal) (xs:List AVal) (v:Value) (vs:List Value) (hx:RepI C (.val x v)) (h:RepI C (.lst xs vs)):RepI C (.lst (x::xs) (v::vs))
abbrev Rep (C:Ctx) (x:AVal) (v:Value):Prop:=RepI C (.val x v)
abbrev RepL (C:Ctx) (xs:List AVal) (vs:List Value):Prop:=RepI C (.lst xs vs)
abbrev RepC (C:Ctx) (r:Nat) (xs:List AVal) (o:Nat):Prop:=RepI C (.cells r xs o)
abbrev RepRow (C:Ctx) (r sz:Nat) (xs:List AVal) (o:Nat):Prop:=RepI C (.row r sz xs o)
structure Ctx.le (C C':Ctx):Prop where
 k:∀ r o v,C.K r o=some v→C'.K r o=some v
 b:∀ b r,C.β b=some r→C'.β b=some r
 w:C'.W=C.W
 d:∀ r,C.D r→C'.D r
 t:∀ q,C.T q→C'.T q:=by exact fun _ h=>h
theorem Ctx.le_refl (C:Ctx):C.le C:=⟨fun _ _ _ h=>h,fun _ _ h=>h,rfl,fun _ h=>h,fun _ h=>h⟩
theorem Ctx.le_trans {A B C:Ctx} (h:A.le B) (k:B.le C):A.le C:=⟨fun r o v x=>k.1 r o v (h.1 r o v x),fun b r x=>k.2 b r (h.2 b r x),k.w.trans h.w,fun r x=>k.d r (h.d r x),fun r x=>k.t r (h.t r x)⟩
theorem RepFn.imp {C C':Ctx} (h:(∀ r o v,C.K r o=some v→C'.K r o=some v)∧(∀ b r,C.β b=some r→C'.β b=some r)) {f f':Fn} (hf:RepFn C f f'):RepFn C' f f':=by
 cases f <;> simp only [RepFn] at * <;> first | exact hf | exact ⟨hf.choose,h.2 _ _ hf.choose_spec.1,hf.choose_spec.2⟩
theorem RepI.imp {C C':Ctx} (h:(∀ r o v,C.K r o=some v→C'.K r o=some v)∧(∀ b r,C.β b=some r→C'.β b=some r)) {i:RIx} (hr:RepI C i) (hT:∀ q,C.T q→C'.T q:=by first | exact fun _ h=>h | exact fun _ h=>False.elim h):RepI C' i:=by
 induction hr with
 | bool b=>exact .bool b
 | int k n=>exact .int k n
 | str s=>exact .str s
 | lnil sz=>exact .lnil sz
 | list sz xs r o cap hl _ ih=>exact .list sz xs r o cap hl ih
 | lemp sz a hs=>exact .lemp sz a hs
 | ms b o len r cap hb hl=>exact .ms b o len r cap (h.2 _ _ hb) hl
 | ptr b o r hb=>exact .ptr b o r (h.2 _ _ hb)
 | vptr x r o _ ih=>exact .vptr x r o ih
 | nilptr=>exact .nilptr
 | map b r hb=>exact .map b r (h.2 _ _ hb)
 | nilmap=>exact .nilmap
 | fn f f' a b as bs hf _ _ ha hb=>exact .fn f f' a b as bs (hf.imp h) ha hb
 | nilfn=>exact .nilfn
 | agg cs vs _ ih=>exact .agg cs vs ih
 | tup cs vs _ ih=>exact .tup cs vs ih
 | undef=>exact .undef
 | any v=>exact .any v
 | pend n a=>exact .pend n a
 | vref b ver len r0 r cap hb ht hl=>exact .vref b ver len r0 r cap (h.2 _ _ hb) (hT _ ht) hl
 | vel b ver off r0 r cap hb ht=>exact .vel b ver off r0 r cap (h.2 _ _ hb) (hT _ ht)
 | cnil r o=>exact .cnil r o
 | ccons r o x xs v hv _ _ ihx ih=>exact .ccons r o x xs v (h.1 _ _ _ hv) ihx ih
 | rnil r sz o=>exact .rnil r sz o
 | rcons r sz o x xs hs _ _ ihx ih=>exact .rcons r sz o x xs hs ihx ih
 | nil=>exact .nil
 | cons x xs v vs _ _ ihx ih=>exact .cons x xs v vs ihx ih
theorem RepI.mono {C C':Ctx} (h:C.le C') {i:RIx} (hr:RepI C i):RepI C' i:=hr.imp ⟨h.k,h.b⟩ h.t
def RIx.below (n:Nat):RIx→Bool
 | .val x _=>Abs.below n x
 | .cells _ xs _=>ja n xs
 | .row _ _ xs _=>ja n xs
 | .lst xs _=>ja n xs
theorem qie (n:Nat) (x:AVal):ja n x.flat=Abs.below n x:=by
 cases x <;> simp [AVal.flat,ja,Abs.below]
theorem RepI.shift {C C':Ctx} (n:Nat) (hK:∀ r o v,C.K r o=some v→C'.K r o=some v) (hβ:∀ b r,b < n→C.β b=some r→C'.β b=some r) {i:RIx} (hr:RepI C i) (hb:i.below n=true) (hT:∀ q,0 < n→C.T q→C'.T q:=by first | exact fun _ _ h=>h | exact fun _ h=>absurd h (Nat.lt_irrefl 0) | exact fun _ _ h=>False.elim h):RepI C' i:=by
 induction hr with
 | bool b=>exact .bool b
 | int k n=>exact .int k n
 | str s=>exact .str s
 | lnil sz=>exact .lnil sz
 | list sz xs r o cap hl _ ih=>exact .list sz xs r o cap hl (ih (by simpa [RIx.below,Abs.below] using hb))
 | lemp sz a hs=>exact .lemp sz a hs
 | ms b o len r cap h1 hl=>exact .ms b o len r cap (hβ _ _ (by simpa [RIx.below,Abs.below] using hb) h1) hl
 | ptr b o r h1=>exact .ptr b o r (hβ _ _ (by simpa [RIx.below,Abs.below] using hb) h1)
 | vptr x r o _ ih=>exact .vptr x r o (ih (by simpa [RIx.below,Abs.below,qie] using hb))
 | nilptr=>exact .nilptr
 | map b r h1=>exact .map b r (hβ _ _ (by simpa [RIx.below,Abs.below] using hb) h1)
 | nilmap=>exact .nilmap
 | fn f f' a b as bs hf _ _ iha ihb=>
  have hf':RepFn C' f f':=by
   cases f <;> simp only [RepFn] at * <;> first | exact hf | skip
   obtain ⟨r,h1,rfl⟩:=hf
   simp [RIx.below,Abs.below] at hb
   exact ⟨r,hβ _ _ hb.1.1 h1,rfl⟩
  have hab:ja n a=true∧ja n b=true:=by
   cases f <;> simp [RIx.below,Abs.below] at hb <;> first | exact hb | exact ⟨hb.1.2,hb.2⟩
  exact .fn f f' a b as bs hf' (iha hab.1) (ihb hab.2)
 | nilfn=>exact .nilfn
 | agg cs vs _ ih=>exact .agg cs vs (ih (by simpa [RIx.below,Abs.below] using hb))
 | tup cs vs _ ih=>exact .tup cs vs (ih (by simpa [RIx.below,Abs.below] using hb))
 | undef=>exact .undef
 | any v=>exact .any v
 | pend n a=>exact .pend n a
 | vref b ver len r0 r cap h1 ht hl=>
  have hbn:b < n:=by simpa [RIx.below,Abs.below] using hb
  exact .vref b ver len r0 r cap (hβ _ _ hbn h1) (hT _ (by omega) ht) hl
 | vel b ver off r0 r cap h1 ht=>
  have hbn:b < n:=by simpa [RIx.below,Abs.below] using hb
  exact .vel b ver off r0 r cap (hβ _ _ hbn h1) (hT _ (by omega) ht)
 | cnil r o=>exact .cnil r o
 | ccons r o x xs v hv _ _ ihx ih=>
  simp [RIx.below,ja] at hb ihx ih
  exact .ccons r o x xs v (hK _ _ _ hv) (ihx hb.1) (ih hb.2)
 | rnil r sz o=>exact .rnil r sz o
 | rcons r sz o x xs hs _ _ ihx ih=>
  simp [RIx.below,ja,qie] at hb ihx ih
  exact .rcons r sz o x xs hs (ihx hb.1) (ih hb.2)
 | nil=>exact .nil
 | cons x xs v vs _ _ ihx ih=>
  simp [RIx.below,ja] at hb ihx ih
  exact .cons x xs v vs (ihx hb.1) (ih hb.2)
theorem RepL.length {C:Ctx} {xs:List AVal}:∀ {vs:List Value},RepL C xs vs→vs.length=xs.length:=by
 induction xs with
 | nil=>intro vs h; cases h; rfl
 | cons x xs ih=>intro vs h; cases h with | cons _ _ v vs hx h=>simp [ih h]
theorem RepL.get {C:Ctx} {xs:List AVal}:∀ {vs:List Value},RepL C xs vs→∀ {i:Nat} {x:AVal},xs[i]?=some x→∃ v,vs[i]?=some v∧Rep C x v:=by
 induction xs with
 | nil=>intro vs _ i x h; simp at h
 | cons y ys ih=>
  intro vs h i x hi
  cases h with
  | cons _ _ v vs hx h=>
   cases i with
   | zero=>simp at hi; subst hi; exact ⟨v,rfl,hx⟩
   | succ i=>simp at hi; obtain ⟨w,h1,h2⟩:=ih h hi; exact ⟨w,by simpa using h1,h2⟩
theorem RepL.append {C:Ctx} {xs ys:List AVal}:∀ {vs ws:List Value},RepL C xs vs→RepL C ys ws→RepL C (xs++ys) (vs++ws):=by
 induction xs with
 | nil=>intro vs ws h k; cases h; exact k
 | cons x xs ih=>intro vs ws h k; cases h with | cons _ _ v vs hx h=>exact .cons _ _ _ _ hx (ih h k)
theorem RepL.take {C:Ctx} {xs:List AVal}:∀ {vs:List Value} (n:Nat),RepL C xs vs→RepL C (xs.take n) (vs.take n):=by
 induction xs with
 | nil=>intro vs n h; cases h; simpa using RepI.nil
 | cons x xs ih=>intro vs n h; cases h with | cons _ _ v vs hx h=>cases n with
  | zero=>simpa using RepI.nil
  | succ n=>exact .cons _ _ _ _ hx (ih n h)
theorem RepL.drop {C:Ctx} {xs:List AVal}:∀ {vs:List Value} (n:Nat),RepL C xs vs→RepL C (xs.drop n) (vs.drop n):=by
 induction xs with
 | nil=>intro vs n h; cases h; simpa using RepI.nil
 | cons x xs ih=>intro vs n h; cases h with | cons _ _ v vs hx h=>cases n with
  | zero=>exact .cons _ _ _ _ hx h
  | succ n=>simpa using ih n h
theorem RepC.get {C:Ctx} {r:Nat} {xs:List AVal}:∀ {o:Nat},RepC C r xs o→∀ {i:Nat} {x:AVal},xs[i]?=some x→∃ v,C.K r (o + i)=some v∧Rep C x v:=by
 induction xs with
 | nil=>intro o _ i x h; simp at h
 | cons y ys ih=>
  intro o h i x hi
  cases h with
  | ccons _ _ _ _ v hv hx h=>
   cases i with
   | zero=>simp at hi; subst hi; exact ⟨v,hv,hx⟩
   | succ i=>simp at hi; obtain ⟨w,h1,h2⟩:=ih h hi; exact ⟨w,by rw [show o + (i + 1)=o + 1 + i from by omega]; exact h1,h2⟩
theorem RepC.drop {C:Ctx} {r:Nat} {xs:List AVal}:∀ {o:Nat} (n:Nat),RepC C r xs o→RepC C r (xs.drop n) (o + n):=by
 induction xs with
 | nil=>intro o n h; simpa using RepI.cnil r (o + n)
 | cons x xs ih=>intro o n h; cases h with | ccons _ _ _ _ v hv hx h=>cases n with
  | zero=>exact .ccons _ _ _ _ _ hv hx h
  | succ n=>have:=ih n h; rw [show o + (n + 1)=o + 1 + n from by omega]; simpa using this
theorem RepC.take {C:Ctx} {r:Nat} {xs:List AVal}:∀ {o:Nat} (n:Nat),RepC C r xs o→RepC C r (xs.take n) o:=by
 induction xs with
 | nil=>intro o n h; simpa using RepI.cnil r o
 | cons x xs ih=>intro o n h; cases h with | ccons _ _ _ _ v hv hx h=>cases n with
  | zero=>simpa using RepI.cnil r o
  | succ n=>exact .ccons _ _ _ _ _ hv hx (ih n h)
theorem RepC.append {C:Ctx} {r:Nat} {xs ys:List AVal}:∀ {o:Nat},RepC C r xs o→RepC C r ys (o + xs.length)→RepC C r (xs++ys) o:=by
 induction xs with
 | nil=>intro o _ k; simpa using k
 | cons x xs ih=>intro o h k; cases h with | ccons _ _ _ _ v hv hx h=>exact .ccons _ _ _ _ _ hv hx (ih h (by simpa [Nat.add_assoc,Nat.add_comm 1] using k))
theorem RepRow.get {C:Ctx} {r sz:Nat} {xs:List AVal}:∀ {o:Nat},RepRow C r sz xs o→∀ {i:Nat} {x:AVal},xs[i]?=some x→RepC C r x.flat (o + i * sz):=by
 induction xs with
 | nil=>intro o _ i x h; simp at h
 | cons y ys ih=>
  intro o h i x hi
  cases h with
  | rcons _ _ _ _ _ hs hx h=>
   cases i with
   | zero=>simp at hi; subst hi; simpa using hx
   | succ i=>simp at hi; have:=ih h hi; rw [show o + (i + 1) * sz=o + sz + i * sz from by rw [Nat.succ_mul]; omega]; exact this
theorem RepRow.drop {C:Ctx} {r sz:Nat} {xs:List AVal}:∀ {o:Nat} (n:Nat),RepRow C r sz xs o→RepRow C r sz (xs.drop n) (o + n * sz):=by
 induction xs with
 | nil=>intro o n h; simpa using RepI.rnil r sz (o + n * sz)
 | cons x xs ih=>intro o n h; cases h with | rcons _ _ _ _ _ hs hx h=>cases n with
  | zero=>simpa using RepI.rcons _ _ _ _ _ hs hx h
  | succ n=>have:=ih n h; rw [show o + (n + 1) * sz=o + sz + n * sz from by rw [Nat.succ_mul]; omega]; simpa using this
theorem RepRow.take {C:Ctx} {r sz:Nat} {xs:List AVal}:∀ {o:Nat} (n:Nat),RepRow C r sz xs o→RepRow C r sz (xs.take n) o:=by
 induction xs with
 | nil=>intro o n h; simpa using RepI.rnil r sz o
 | cons x xs ih=>intro o n h; cases h with | rcons _ _ _ _ _ hs hx h=>cases n with
  | zero=>simpa using RepI.rnil r sz o
  | succ n=>exact .rcons _ _ _ _ _ hs hx (ih n h)
theorem RepRow.append {C:Ctx} {r sz:Nat} {xs ys:List AVal}:∀ {o:Nat},RepRow C r sz xs o→RepRow C r sz ys (o + xs.length * sz)→RepRow C r sz (xs++ys) o:=by
 induction xs with
 | nil=>intro o _ k; simpa using k
 | cons x xs ih=>
  intro o h k
  cases h with
  | rcons _ _ _ _ _ hs hx h=>
   refine .rcons _ _ _ _ _ hs hx (ih h ?_)
   have e:o + sz + xs.length * sz=o + (x::xs).length * sz:=by simp [Nat.succ_mul]; omega
   rw [e]; exact k
theorem RepRow.sized {C:Ctx} {r sz:Nat} {xs:List AVal}:∀ {o:Nat},RepRow C r sz xs o→∀ x∈xs,x.flat.length=sz:=by
 induction xs with
 | nil=>intro o _ x hx; cases hx
 | cons y ys ih=>
  intro o h x hx
  cases h with
  | rcons _ _ _ _ _ hs _ h=>
   rcases List.mem_cons.1 hx with rfl | hx
   ·exact hs
   ·exact ih h x hx
theorem RepRow.cells {C:Ctx} {r sz:Nat} {xs:List AVal}:∀ {o:Nat},RepRow C r sz xs o→RepC C r (xs.flatMap AVal.flat) o:=by
 induction xs with
 | nil=>intro o _; exact .cnil _ _
 | cons x xs ih=>
  intro o h
  cases h with
  | rcons _ _ _ _ _ hs hx h=>
   simp only [List.flatMap_cons]
   refine RepC.append hx ?_
   rw [hs]
   exact ih h
theorem RepRow.of_cells {C:Ctx} {r sz:Nat} {xs:List AVal}:∀ {o:Nat},RepC C r (xs.flatMap AVal.flat) o→(∀ x∈xs,x.flat.length=sz)→RepRow C r sz xs o:=by
 induction xs with
 | nil=>intro o _ _; exact .rnil _ _ _
 | cons x xs ih=>
  intro o h hl
  simp only [List.flatMap_cons] at h
  have h1:=RepC.take (x.flat.length) h
  have h2:=RepC.drop (x.flat.length) h
  rw [List.take_left' rfl] at h1
  rw [List.drop_left' rfl,hl x (by simp)] at h2
  exact .rcons _ _ _ _ _ (hl x (by simp)) h1 (ih h2 fun y hy=>hl y (by simp [hy]))
theorem RepC.vals {C:Ctx} {r:Nat} {xs:List AVal}:∀ {o:Nat},RepC C r xs o→∃ vs,RepL C xs vs∧∀ j v,vs[j]?=some v→C.K r (o + j)=some v:=by
 induction xs with
 | nil=>intro o _; exact ⟨[],.nil,by simp⟩
 | cons x xs ih=>
  intro o h
  cases h with
  | ccons _ _ _ _ v hv hx h=>
   obtain ⟨vs,h1,h2⟩:=ih h
   refine ⟨v::vs,.cons _ _ _ _ hx h1,?_⟩
   intro j u hj
   cases j with
   | zero=>simp at hj; subst hj; exact hv
   | succ j=>simp at hj; rw [show o + (j + 1)=o + 1 + j from by omega]; exact h2 j u hj
inductive Loc where
 | slot (s:Nat)
 | cell (b j:Nat)
 deriving DecidableEq
def Strict (sz:Nat) (xs:List AVal) (cells:Array Value) (elem:TypeId) (len cap:Nat):Prop:=
 ∀ (e:Nat) (l:List UInt8),sz=0→xs=[.int .u64 (e:Int),.str l]→elem=e∧len=l.length∧len≤cap∧cap≤maxLen∧cells.size=cap∧cells.toList.take len=l.map fun b=>Value.int .u8 b.toNat
theorem Strict.pos {sz:Nat} {xs:List AVal} {cells:Array Value} {elem:TypeId} {len cap:Nat} (h:0 < sz):Strict sz xs cells elem len cap:=fun _ _ h0=>by omega
theorem Strict.sized {sz:Nat} {xs:List AVal} {cells:Array Value} {elem:TypeId} {len cap:Nat} (h:∀ x∈xs,x.flat.length=sz):Strict sz xs cells elem len cap:=fun e l h0 hx=>by
 have:=h (.str l) (by rw [hx]; simp)
 simp [AVal.flat,h0] at this
def OwnV (C:Ctx) (ω:Nat→Option Loc) (w:World) (B:Nat) (ℓ:Loc):AVal→Value→Prop
 | .list _ sz xs,.slice (some a) len cap=>ω a.block=some ℓ∧(B≤a.block∨C.W a.block)∧(∀ b,C.β b ≠ some a.block)∧a.spot=none∧a.off=0 ∧
   (∃ cells elem,w.heap[a.block]?=some (.cells cells elem (0,0))∧a.off + cap * sz≤cells.size∧Strict sz xs cells elem len cap)∧∀ o,a.off + len * sz≤o→C.K a.block o=none
 | .pend n,.pointer (some a)=>ω a.block=some ℓ∧(B≤a.block∨C.W a.block)∧(∀ b,C.β b ≠ some a.block)∧a.spot=none∧a.off=0 ∧
   (∃ cells elem,w.heap[a.block]?=some (.cells cells elem (0,0))∧a.off + n * 1≤cells.size∧Strict 0 [] cells elem 0 0)∧∀ o,a.off + 0 * 0≤o→C.K a.block o=none
 | _,_=>True
structure Ext (w w':World):Prop where
 size:w.heap.size≤w'.heap.size
 same:∀ r,r < w.heap.size→w'.heap[r]?=w.heap[r]?
 os:w'.os=w.os
 output:w'.output=w.output
theorem Ext.refl (w:World):Ext w w:=⟨Nat.le_refl _,fun _ _=>rfl,rfl,rfl⟩
theorem Ext.get {w w':World} (h:Ext w w') {r:Nat} {o:Obj} (hr:w.heap[r]?=some o):w'.heap[r]?=some o:=by
 rw [h.same r (Array.getElem?_eq_some_iff.1 hr).1]; exact hr
theorem Ext.trans {a b c:World} (h:Ext a b) (k:Ext b c):Ext a c where
 size:=Nat.le_trans h.size k.size
 same r hr:=by rw [k.same r (Nat.lt_of_lt_of_le hr h.size),h.same r hr]
 os:=k.os.trans h.os
 output:=k.output.trans h.output
theorem qcl (w:World) (o:Obj) (r:Nat):(w.alloc o).heap[r]?=if r=w.heap.size then some o else w.heap[r]?:=by
 show (w.heap.push o)[r]?=_
 rw [Array.getElem?_push]
theorem Ext.alloc (w:World) (o:Obj) (ho:∀ c t fr,o=.cells c t fr→fr=(0,0)):Ext w (w.alloc o) where
 size:=by rw [World.size_alloc]; omega
 same r hr:=by rw [qcl,if_neg (by omega)]
 os:=rfl
 output:=rfl
theorem Ext.drew (w:World):Ext w w.drew:=⟨Nat.le_refl _,fun _ _=>rfl,rfl,rfl⟩
theorem Ext.cell {w w':World} (h:Ext w w') {a:Addr} {v:Value} (hc:w.cell? a=some v):w'.cell? a=some v:=by
 unfold World.cell? at *
 cases hr:w.heap[a.block]? with
 | none=>rw [hr] at hc; cases hc
 | some o=>rw [h.get hr]; rw [hr] at hc; exact hc
theorem OwnV.ext {C:Ctx} {ω:Nat→Option Loc} {w w':World} {B:Nat} {ℓ:Loc} {x:AVal} {v:Value} (h:Ext w w') (ho:OwnV C ω w B ℓ x v):OwnV C ω w' B ℓ x v:=by
 unfold OwnV at *
 split at ho
 ·obtain ⟨h1,h2,h3,h4,h8,⟨cells,elem,h5,h6⟩,h7⟩:=ho
  exact ⟨h1,h2,h3,h4,h8,⟨cells,elem,h.get h5,h6⟩,h7⟩
 ·obtain ⟨h1,h2,h3,h4,h8,⟨cells,elem,h5,h6⟩,h7⟩:=ho
  exact ⟨h1,h2,h3,h4,h8,⟨cells,elem,h.get h5,h6⟩,h7⟩
 ·trivial
inductive RepE (C:Ctx):List (AVal × AVal)→List MapEntry→Prop where
 | nil:RepE C [] []
 | cons (k v:AVal) (es:List (AVal × AVal)) (m:MapEntry) (ms:List MapEntry) (hk:Rep C k m.key) (hv:Rep C v m.val) (h:RepE C es ms):RepE C ((k,v)::es) (m::ms)
theorem RepE.imp {C C':Ctx} (h:(∀ r o v,C.K r o=some v→C'.K r o=some v)∧(∀ b r,C.β b=some r→C'.β b=some r)) {es:List (AVal × AVal)} {ms:List MapEntry} (hr:RepE C es ms) (hT:∀ q,C.T q→C'.T q:=by first | exact fun _ h=>h | exact fun _ h=>False.elim h):RepE C' es ms:=by
 induction hr with
 | nil=>exact .nil
 | cons k v es m ms hk hv _ ih=>exact .cons k v es m ms (RepI.imp h hk hT) (RepI.imp h hv hT) ih
theorem RepE.mono {C C':Ctx} (h:C.le C') {es:List (AVal × AVal)} {ms:List MapEntry} (hr:RepE C es ms):RepE C' es ms:=hr.imp ⟨h.k,h.b⟩ h.t
def EnvRep (C:Ctx) (e:Env) (tmps:Array Value):Prop:=∀ s x,jm s e=some x→∃ v,tmps[s]?=some v∧Rep C x.1 v
def q2u (P:Program) (nt:Nat) (c:Code) (a:ACode):Prop:=∃ h,qaa P h nt c=some a
structure LoopRep (P:Program) (C:Ctx) (l:qry) (lp:Loop):Prop where
 assign:q2u P lp.tmps.size lp.assign l.assign
 body:q2u P lp.tmps.size lp.body l.body
 params:lp.params.toList=l.params
 fits:∀ t∈l.params,t < lp.tmps.size
 nr:zr l.assign=true∧zr l.body=true
 env:EnvRep C l.env lp.tmps
 state:lp.state=match l.pending with
  | none=>.ready
  | some .normal=>.busy
  | some _=>.done
 pending:lp.pending=match l.pending with
  | none=>none
  | some .normal=>none
  | some (.exit id)=>some (.exit id)
  | some .ret=>some .ret
def VecIs (K:Nat→Nat→Option Value) (w:World) (q sz:Nat) (xs:List AVal) (cap:Nat):Prop:=
 ∃ cells t vs,w.heap[q]?=some (.cells cells t (0,0))∧xs.length≤cap∧cap * sz≤cells.size∧(∀ x∈xs,x.flat.length=sz)∧RepL (.iso K) (xs.flatMap AVal.flat) vs ∧
  (∀ (j:Nat) v,vs[j]?=some v→cells[j]?=some v)∧∀ v∈vs,v.oneCell'=true
theorem VecIs.imp {K K':Nat→Nat→Option Value} {w w':World} {q sz cap:Nat} {xs:List AVal} (hK:∀ r o v,K r o=some v→K' r o=some v) (hw:w'.heap[q]?=w.heap[q]?) (h:VecIs K w q sz xs cap):VecIs K' w' q sz xs cap:=by
 obtain ⟨cells,t,vs,h1,h2,h3,h4,h5,h6⟩:=h
 exact ⟨cells,t,vs,hw.trans h1,h2,h3,h4,RepI.imp (C:=.iso K) (C':=.iso K') ⟨hK,fun _ _ h=>h⟩ h5,h6⟩
abbrev qhm (C:Ctx) (ω:Nat→Option Loc) (w:World) (B b q n cap:Nat):Prop:=OwnV C ω w B (.cell b 0) (.list false 0 []) (.slice (some ⟨q,0,none⟩) n cap)
def VecRel (C:Ctx) (ω:Nat→Option Loc) (w:World) (B b r sz ver:Nat) (xs:List AVal):Prop:=
 ∃ q cap,C.T (r,ver,q,cap)∧(∀ x,C.T x→x.1=r→x.2.1≤ver∧(x.2.1=ver→x.2.2=(q,cap)))∧VecIs C.K w q sz xs cap∧(q=r∨qhm C ω w B b q xs.length cap)∧∃ cs t,w.heap[r]?=some (.cells cs t (0,0))
theorem VecRel.imp {C C':Ctx} {ω ω':Nat→Option Loc} {w w':World} {B B' b r sz ver:Nat} {xs:List AVal} (hK:∀ r o v,C.K r o=some v→C'.K r o=some v) (hT:∀ q,C.T q→C'.T q) (hT':∀ x,C'.T x→x.1=r→C.T x) (hw:w'.heap[r]?=w.heap[r]?)
  (hq:∀ q n cap,qhm C ω w B b q n cap→w'.heap[q]?=w.heap[q]?∧qhm C' ω' w' B' b q n cap) (h:VecRel C ω w B b r sz ver xs):VecRel C' ω' w' B' b r sz ver xs:=by
 obtain ⟨q,cap,h1,h2,h3,h4,cs,t,h5⟩:=h
 refine ⟨q,cap,hT _ h1,fun x hx hr=>h2 x (hT' x hx hr) hr,?_,?_,cs,t,hw.trans h5⟩
 ·rcases h4 with rfl | h4
  ·exact h3.imp hK hw
  ·exact h3.imp hK (hq _ _ _ h4).1
 ·exact h4.imp id fun h=>(hq _ _ _ h).2
def BoxRel (P:Program) (C:Ctx) (ω:Nat→Option Loc) (w:World) (B b r:Nat):ABox→Prop
 | .hole=>False
 | .cells cs=>∃ vs elem,w.heap[r]?=some (.cells vs elem (0,0))∧cs.length≤vs.size ∧
   ∀ j c,cs[j]?=some c→∃ v,vs[j]?=some v∧v.oneCell'=true∧Rep C c.1 v∧(c.2=true→OwnV C ω w B (.cell b j) c.1 v)
 | .map es=>∃ ents clock,w.heap[r]?=some (.map ents clock)∧RepE C es ents.toList
 | .iter s pos=>w.heap[r]?=some (.stringIter ⟨⟨s⟩⟩ pos)
 | .loop l=>∃ lp,w.heap[r]?=some (.loop lp)∧LoopRep P C l lp
 | .bld t e l=>∃ p v,w.heap[r]?=some (.cells #[p,v] t (0,0))∧(p=.pointer none∨p=.pointer (some ⟨r,0,none⟩))∧((v=.slice none 0 0∧l=[])∨∃ a len cap,v=.slice (some a) len cap)∧OwnV C ω w B (.cell b 1) (.list false 0 [.int .u64 (e:Int),.str l]) v
 | .dead=>∃ cs t,w.heap[r]?=some (.cells cs t (0,0))
 | .vec sz ver xs=>VecRel C ω w B b r sz ver xs
def qbh : String := "internal/strconv.uint64pow10"
def qfv : String := "internal/bytealg.MaxLen"
def j2l (P:Program) (w:World) (g:Nat):Prop:=
 (P.globalNamed qbh=some g→Lib.TabIs P w qbh .u64 Lib.pow10Tab)∧(P.globalNamed qfv=some g→∃ m,w.cell? ⟨g,0,none⟩=some (.int .i64 m)) ∧
 (∀ x∈qru,P.globalNamed x.1=some g→∀ j n,x.2[j]?=some n→w.cell? ⟨g,j,none⟩=some (.int .i64 n))
def q7s (P:Program) (g:Nat):Prop:=P.globalNamed qbh=some g∨P.globalNamed qfv=some g∨∃ x∈qru,P.globalNamed x.1=some g
def Tabs (P:Program) (w:World):Prop:=∀ g,q7s P g→g < w.heap.size∧j2l P w g
theorem Tabs.same {P:Program} {w w':World} (h:Tabs P w) (hs:w.heap.size≤w'.heap.size) (hg:∀ g,q7s P g→w'.heap[g]?=w.heap[g]?):Tabs P w':=by
 intro g hn
 obtain ⟨h1,h2,h3,h5⟩:=h g hn
 refine ⟨Nat.lt_of_lt_of_le h1 hs,fun hn2=>?_,fun hn2=>?_,fun x hx hn2 j n hj=>?_⟩
 ·have h2:=h2 hn2
  unfold Lib.TabIs World.var? at *
  rw [hn2] at h2 ⊢
  simp only [Option.bind_some] at h2 ⊢
  rw [hg g hn]
  exact h2
 ·obtain ⟨m,h4⟩:=h3 hn2
  refine ⟨m,?_⟩
  unfold World.cell? at *
  simp only [] at h4 ⊢
  rw [hg g hn]
  exact h4
 ·have h4:=h5 x hx hn2 j n hj
  unfold World.cell? at *
  simp only [] at h4 ⊢
  rw [hg g hn]
  exact h4
theorem Tabs.none {P:Program} {w:World} (h:P.globalNamed qbh=none∧P.globalNamed qfv=none∧∀ x∈qru,P.globalNamed x.1=none):Tabs P w:=fun g hn=>by
 rcases hn with hn | hn | ⟨x,hx,hn⟩
 ·rw [h.1] at hn; cases hn
 ·rw [h.2.1] at hn; cases hn
 ·rw [h.2.2 x hx] at hn; cases hn
def j7y (P:Program) (w0:World) (C0:Ctx):Prop:=Tabs P w0∧∀ g,q7s P g→(∀ b,C0.β b ≠ some g)∧¬ C0.W g
structure MInv (P:Program) (C:Ctx) (ω:Nat→Option Loc) (w0:World) (C0:Ctx) (h:qf) (w:World):Prop where
 base:j7y P w0 C0
 know:∀ r o v,C.K r o=some v→w.cell? ⟨r,o,none⟩=some v
 kone:∀ r o v,C.K r o=some v→v.oneCell'=true
 apart:∀ b r o,C.β b=some r→C.K r o=none
 inj:∀ b b' r,C.β b=some r→C.β b'=some r→b=b'
 lt:∀ b r,C.β b=some r→r < w.heap.size∧b < h.length
 size:w0.heap.size≤w.heap.size
 frame:∀ r,r < w0.heap.size→(∀ b,C0.β b ≠ some r)→¬ C0.W r→w.heap[r]?=w0.heap[r]?
 dfr:∀ r,C.D r→w.heap[r]?=some (.deferred (some []))
 os:w.os=w0.os
 output:w.output=w0.output
 fresh:∀ b r,C.β b=some r→C0.β b=some r∨w0.heap.size≤r∨C0.W r
 grown:C0.le C
 old:∀ r o,r < w0.heap.size→¬ C0.W r→C.K r o=C0.K r o
 box:∀ b x r,h[b]?=some x→C.β b=some r→BoxRel P C ω w w0.heap.size b r x
 tlt:∀ q,C.T q→q.1 < w.heap.size
def EnvRel (C:Ctx) (ω:Nat→Option Loc) (w:World) (B:Nat) (e:Env) (tmps:Array Value):Prop:=
 ∀ s x,jm s e=some x→∃ v,tmps[s]?=some v∧Rep C x.1 v∧(x.2=true→OwnV C ω w B (.slot s) x.1 v)
theorem EnvRel.rep {C:Ctx} {ω:Nat→Option Loc} {w:World} {B:Nat} {e:Env} {tmps:Array Value} (h:EnvRel C ω w B e tmps):EnvRep C e tmps:=
 fun s x hx=>let ⟨v,h1,h2,_⟩:=h s x hx; ⟨v,h1,h2⟩
theorem BoxRel.ext {P:Program} {C:Ctx} {ω:Nat→Option Loc} {w w':World} {B b r:Nat} {x:ABox} (h:Ext w w') (hb:BoxRel P C ω w B b r x):BoxRel P C ω w' B b r x:=by
 cases x with
 | hole=>exact hb
 | cells cs=>
  obtain ⟨vs,elem,h1,h2,h3⟩:=hb
  exact ⟨vs,elem,h.get h1,h2,fun j c hc=>let ⟨v,a,q,b,d⟩:=h3 j c hc; ⟨v,a,q,b,fun e=>(d e).ext h⟩⟩
 | map es=>obtain ⟨ents,clock,h1,h2⟩:=hb; exact ⟨ents,clock,h.get h1,h2⟩
 | iter s pos=>exact h.get hb
 | loop l=>obtain ⟨lp,h1,h2⟩:=hb; exact ⟨lp,h.get h1,h2⟩
 | bld t e l=>obtain ⟨p,v,h1,h2,h3,h4⟩:=hb; exact ⟨p,v,h.get h1,h2,h3,h4.ext h⟩
 | dead=>obtain ⟨cs,t,h1⟩:=hb; exact ⟨cs,t,h.get h1⟩
 | vec sz ver xs=>
  obtain ⟨q,cap,h1,h2,h3,h4,cs,t,h5⟩:=hb
  have hex:∀ {k:Nat} {o:Obj},w.heap[k]?=some o→w'.heap[k]?=w.heap[k]?:=fun hk=>by rw [h.get hk,hk]
  refine ⟨q,cap,h1,h2,h3.imp (fun _ _ _ h=>h) ?_,h4.imp id fun h4=>h4.ext h,cs,t,h.get h5⟩
  obtain ⟨cells,t',_,g1,_⟩:=h3
  exact hex g1
theorem MInv.tabs {P:Program} {C:Ctx} {ω:Nat→Option Loc} {w0 w:World} {C0:Ctx} {hp:qf} (m:MInv P C ω w0 C0 hp w):Tabs P w:=
 m.base.1.same m.size fun g hg=>m.frame g (m.base.1 g hg).1 (m.base.2 g hg).1 (m.base.2 g hg).2
theorem MInv.ext {P:Program} {C:Ctx} {ω:Nat→Option Loc} {w0 w w':World} {C0:Ctx} {hp:qf} (h:Ext w w') (m:MInv P C ω w0 C0 hp w):MInv P C ω w0 C0 hp w' where
 base:=m.base
 know r o v hk:=h.cell (m.know r o v hk)
 kone:=m.kone
 apart:=m.apart
 inj:=m.inj
 lt b r hb:=⟨Nat.lt_of_lt_of_le (m.lt b r hb).1 h.size,(m.lt b r hb).2⟩
 size:=Nat.le_trans m.size h.size
 frame r hr hn hw:=by rw [h.same r (Nat.lt_of_lt_of_le hr m.size)]; exact m.frame r hr hn hw
 dfr r hr:=h.get (m.dfr r hr)
 os:=h.os.trans m.os
 output:=h.output.trans m.output
 fresh:=m.fresh
 grown:=m.grown
 old:=m.old
 box b x r hx hb:=(m.box b x r hx hb).ext h
 tlt q hq:=Nat.lt_of_lt_of_le (m.tlt q hq) h.size
theorem EnvRel.ext {C:Ctx} {ω:Nat→Option Loc} {w w':World} {B:Nat} {e:Env} {tmps:Array Value} (h:Ext w w') (he:EnvRel C ω w B e tmps):EnvRel C ω w' B e tmps:=
 fun s x hx=>let ⟨v,a,b,d⟩:=he s x hx; ⟨v,a,b,fun e=>(d e).ext h⟩
def Ctx.put (C:Ctx) (r off:Nat) (vs:List Value):Ctx:={ C with K:=fun b o=>if b=r∧off≤o∧o < off + vs.length then vs[o - off]? else C.K b o }
theorem Ctx.put_le {C:Ctx} {r off:Nat} (vs:List Value) (h:∀ o,off≤o→C.K r o=none):C.le (C.put r off vs):=
 ⟨fun b o v hk=>(by
  simp only [Ctx.put]
  rw [if_neg]
  ·exact hk
  ·rintro ⟨rfl,h1,_⟩; rw [h o h1] at hk; cases hk),fun _ _ h=>h,rfl,fun _ h=>h,fun _ h=>h⟩
theorem Ctx.put_at {C:Ctx} {r off:Nat} {vs:List Value} {j:Nat} {v:Value} (h:vs[j]?=some v):(C.put r off vs).K r (off + j)=some v:=by
 have hj:j < vs.length:=(List.getElem?_eq_some_iff.1 h).1
 show (if r=r∧off≤off + j∧off + j < off + vs.length then vs[off + j - off]? else C.K r (off + j))=some v
 rw [if_pos ⟨rfl,by omega,by omega⟩,show off + j - off=j from by omega,h]
theorem RepC.of_vals {C:Ctx} {r:Nat} {xs:List AVal}:∀ {vs:List Value} {o:Nat},RepL C xs vs→(∀ j v,vs[j]?=some v→C.K r (o + j)=some v)→RepC C r xs o:=by
 induction xs with
 | nil=>intro vs o _ _; exact .cnil _ _
 | cons x xs ih=>
  intro vs o h hk
  cases h with
  | cons _ _ v vs hx h=>
   refine .ccons _ _ _ _ v (by simpa using hk 0 v rfl) hx (ih h ?_)
   intro j u hj
   rw [show o + 1 + j=o + (j + 1) from by omega]
   exact hk (j + 1) u (by simpa using hj)
theorem Ctx.put_cells {C:Ctx} {r off:Nat} {xs:List AVal} {vs:List Value} (hn:∀ o,off≤o→C.K r o=none) (h:RepL C xs vs):RepC (C.put r off vs) r xs off:=
 RepC.of_vals (RepI.mono (Ctx.put_le vs hn) h) fun _ _ hj=>Ctx.put_at hj
theorem MInv.K_new {P:Program} {C:Ctx} {ω:Nat→Option Loc} {w0 w:World} {C0:Ctx} {hp:qf} (m:MInv P C ω w0 C0 hp w) (r:Nat) (hr:w.heap.size≤r) (o:Nat):C.K r o=none:=by
 cases h:C.K r o with
 | none=>rfl
 | some v=>
  have:=m.know r o v h
  unfold World.cell? at this
  rw [show w.heap[(⟨r,o,none⟩:Addr).block]?=none from Array.getElem?_eq_none hr] at this
  cases this
theorem OwnV.put {C:Ctx} {ω:Nat→Option Loc} {w:World} {B r off:Nat} {ℓ:Loc} {x:AVal} {v:Value} (vs:List Value) (hr:w.heap.size≤r∨ω r ≠ some ℓ) (ho:OwnV C ω w B ℓ x v):OwnV (C.put r off vs) ω w B ℓ x v:=by
 unfold OwnV at *
 split at ho
 ·rename_i a len cap
  obtain ⟨h1,h2,h3,h4,h8,⟨cells,elem,h5,h6⟩,h7⟩:=ho
  have hlt:a.block < w.heap.size:=(Array.getElem?_eq_some_iff.1 h5).1
  refine ⟨h1,h2,h3,h4,h8,⟨cells,elem,h5,h6⟩,fun o ho=>?_⟩
  simp only [Ctx.put]
  rw [if_neg]
  ·exact h7 o ho
  ·rintro ⟨rfl,_⟩
   rcases hr with hr | hr
   ·omega
   ·exact hr h1
 ·rename_i a
  obtain ⟨h1,h2,h3,h4,h8,⟨cells,elem,h5,h6⟩,h7⟩:=ho
  have hlt:a.block < w.heap.size:=(Array.getElem?_eq_some_iff.1 h5).1
  refine ⟨h1,h2,h3,h4,h8,⟨cells,elem,h5,h6⟩,fun o ho=>?_⟩
  simp only [Ctx.put]
  rw [if_neg]
  ·exact h7 o ho
  ·rintro ⟨rfl,_⟩
   rcases hr with hr | hr
   ·omega
   ·exact hr h1
 ·trivial
theorem LoopRep.imp {P:Program} {C C':Ctx} (h:(∀ r o v,C.K r o=some v→C'.K r o=some v)∧(∀ b r,C.β b=some r→C'.β b=some r)) {l:qry} {lp:Loop} (k:LoopRep P C l lp) (hT:∀ q,C.T q→C'.T q:=by first | exact fun _ h=>h | exact fun _ h=>False.elim h):LoopRep P C' l lp:=
 { k with env:=fun s x hx=>let ⟨v,a,b⟩:=k.env s x hx; ⟨v,a,RepI.imp h b hT⟩ }
theorem LoopRep.mono {P:Program} {C C':Ctx} (h:C.le C') {l:qry} {lp:Loop} (k:LoopRep P C l lp):LoopRep P C' l lp:=k.imp ⟨h.k,h.b⟩ h.t
theorem BoxRel.imp {P:Program} {C C':Ctx} {ω ω':Nat→Option Loc} {w w':World} {B B' b r:Nat} {x:ABox} (h:(∀ r o v,C.K r o=some v→C'.K r o=some v)∧(∀ b r,C.β b=some r→C'.β b=some r)) (hw:w'.heap[r]?=w.heap[r]?)
  (ho:∀ j y v,OwnV C ω w B (.cell b j) y v→OwnV C' ω' w' B' (.cell b j) y v) (hb:BoxRel P C ω w B b r x) (hT:∀ q,C.T q→C'.T q:=by exact fun _ h=>h) (hT':∀ x,C'.T x→x.1=r→C.T x:=by exact fun _ h _=>h)
  (hq:∀ q n cap,qhm C ω w B b q n cap→w'.heap[q]?=w.heap[q]?:=by exact fun _ _ _ _=>rfl):BoxRel P C' ω' w' B' b r x:=by
 cases x with
 | hole=>exact hb
 | cells cs=>
  obtain ⟨vs,elem,h1,h2,h3⟩:=hb
  exact ⟨vs,elem,hw.trans h1,h2,fun j c hc=>let ⟨v,a,q,b,d⟩:=h3 j c hc; ⟨v,a,q,RepI.imp h b hT,fun e=>ho _ _ _ (d e)⟩⟩
 | map es=>obtain ⟨ents,clock,h1,h2⟩:=hb; exact ⟨ents,clock,hw.trans h1,h2.imp h hT⟩
 | iter s pos=>exact hw.trans hb
 | loop l=>obtain ⟨lp,h1,h2⟩:=hb; exact ⟨lp,hw.trans h1,h2.imp h hT⟩
 | bld t e l=>obtain ⟨p,v,h1,h2,h3,h4⟩:=hb; exact ⟨p,v,hw.trans h1,h2,h3,ho _ _ _ h4⟩
 | dead=>obtain ⟨cs,t,h1⟩:=hb; exact ⟨cs,t,hw.trans h1⟩
 | vec sz ver xs=>exact VecRel.imp h.1 hT hT' hw (fun q n cap k=>⟨hq q n cap k,ho _ _ _ k⟩) hb
theorem BoxRel.mono {P:Program} {C C':Ctx} {ω ω':Nat→Option Loc} {w:World} {B b r:Nat} {x:ABox} (h:C.le C')
  (ho:∀ j y v,OwnV C ω w B (.cell b j) y v→OwnV C' ω' w B (.cell b j) y v) (hb:BoxRel P C ω w B b r x) (hT':∀ x,C'.T x→x.1=r→C.T x:=by exact fun _ h _=>h):BoxRel P C' ω' w B b r x:=hb.imp ⟨h.k,h.b⟩ rfl ho h.t hT'
theorem MInv.newRow {P:Program} {C:Ctx} {ω:Nat→Option Loc} {w0 w:World} {C0:Ctx} {hp:qf} (m:MInv P C ω w0 C0 hp w) (cells:Array Value) (t:TypeId) (vs:List Value)
  (hv:∀ (j:Nat) v,vs[j]?=some v→cells[j]?=some v) (h1:∀ v∈vs,v.oneCell'=true):
  MInv P (C.put w.heap.size 0 vs) ω w0 C0 hp (w.alloc (.cells cells t)):=by
 have hx:Ext w (w.alloc (.cells cells t)):=Ext.alloc w _ (fun c t fr h=>by cases h; rfl)
 have m':=m.ext hx
 have hn:∀ o,C.K w.heap.size o=none:=m.K_new _ (Nat.le_refl _)
 have hle:=Ctx.put_le (C:=C) (off:=0) vs (fun o _=>hn o)
 refine { m' with know:=?_,kone:=?_,apart:=?_,grown:=Ctx.le_trans m.grown hle,old:=?_,box:=?_ }
 ·intro r o v hk
  simp only [Ctx.put] at hk
  split at hk
  ·rename_i hc
   obtain ⟨rfl,_,_⟩:=hc
   simp only [World.cell?]
   rw [qcl,if_pos rfl]
   simpa using hv _ _ hk
  ·exact m'.know r o v hk
 ·intro r o v hk
  simp only [Ctx.put] at hk
  split at hk
  ·exact h1 v (List.mem_of_getElem? hk)
  ·exact m.kone r o v hk
 ·intro b r o hb
  have:=(m.lt b r hb).1
  simp only [Ctx.put]
  rw [if_neg (by omega)]
  exact m.apart b r o hb
 ·intro r o hr hw
  have:=m.size
  simp only [Ctx.put]
  rw [if_neg (by omega)]
  exact m.old r o hr hw
 ·intro b x r hx' hb
  exact ((m.box b x r hx' hb).mono (ω':=ω) hle fun j y v ho=>ho.put vs (.inl (Nat.le_refl _))).ext hx
theorem EnvRel.put {C:Ctx} {ω:Nat→Option Loc} {w:World} {B:Nat} {e:Env} {tmps:Array Value} {r off:Nat} (vs:List Value) (hr:w.heap.size≤r∨∀ s,jm s e ≠ none→(jm s e).any (·.2)=true→ω r ≠ some (.slot s)) (hn:∀ o,off≤o→C.K r o=none) (he:EnvRel C ω w B e tmps):EnvRel (C.put r off vs) ω w B e tmps:=
 fun s x hx=>let ⟨v,a,b,d⟩:=he s x hx; ⟨v,a,RepI.mono (Ctx.put_le vs hn) b,fun e=>(d e).put vs (hr.imp id fun h=>h s (by rw [hx]; simp) (by rw [hx]; exact e))⟩
def own1 (ω:Nat→Option Loc) (r:Nat) (ℓ:Loc):Nat→Option Loc:=fun b=>if b=r then some ℓ else ω b
theorem OwnV.other {C:Ctx} {ω:Nat→Option Loc} {w:World} {B r:Nat} {ℓ ℓ':Loc} {x:AVal} {v:Value} (hr:ω r ≠ some ℓ∨ℓ=ℓ') (ho:OwnV C ω w B ℓ x v):OwnV C (Abs.own1 ω r ℓ') w B ℓ x v:=by
 unfold OwnV at *
 split at ho
 ·rename_i a len cap
  obtain ⟨h1,h2⟩:=ho
  refine ⟨?_,h2⟩
  simp only [Abs.own1]
  by_cases hb:a.block=r
  ·rw [if_pos hb]
   rcases hr with hr | hr
   ·exact absurd (hb ▸ h1) hr
   ·rw [hr]
  ·rw [if_neg hb]; exact h1
 ·rename_i a
  obtain ⟨h1,h2⟩:=ho
  refine ⟨?_,h2⟩
  simp only [Abs.own1]
  by_cases hb:a.block=r
  ·rw [if_pos hb]
   rcases hr with hr | hr
   ·exact absurd (hb ▸ h1) hr
   ·rw [hr]
  ·rw [if_neg hb]; exact h1
 ·trivial
theorem OwnV.fresh {C:Ctx} {ω:Nat→Option Loc} {w:World} {B r:Nat} {ℓ ℓ':Loc} {x:AVal} {v:Value} (hr:w.heap.size≤r) (ho:OwnV C ω w B ℓ x v):OwnV C (Abs.own1 ω r ℓ') w B ℓ x v:=by
 unfold OwnV at *
 split at ho
 ·rename_i a len cap
  obtain ⟨h1,h2,h3,h4,h8,⟨cells,elem,h5,h6⟩,h7⟩:=ho
  have hlt:a.block < w.heap.size:=(Array.getElem?_eq_some_iff.1 h5).1
  refine ⟨?_,h2,h3,h4,h8,⟨cells,elem,h5,h6⟩,h7⟩
  simp only [Abs.own1]
  rw [if_neg (by omega)]
  exact h1
 ·rename_i a
  obtain ⟨h1,h2,h3,h4,h8,⟨cells,elem,h5,h6⟩,h7⟩:=ho
  have hlt:a.block < w.heap.size:=(Array.getElem?_eq_some_iff.1 h5).1
  refine ⟨?_,h2,h3,h4,h8,⟨cells,elem,h5,h6⟩,h7⟩
  simp only [Abs.own1]
  rw [if_neg (by omega)]
  exact h1
 ·trivial
theorem EnvRel.fresh {C:Ctx} {ω:Nat→Option Loc} {w:World} {B r:Nat} {ℓ:Loc} {e:Env} {tmps:Array Value} (hr:w.heap.size≤r) (he:EnvRel C ω w B e tmps):EnvRel C (Abs.own1 ω r ℓ) w B e tmps:=
 fun s x hx=>let ⟨v,a,b,d⟩:=he s x hx; ⟨v,a,b,fun e=>(d e).fresh hr⟩
theorem MInv.fresh1 {P:Program} {C:Ctx} {ω:Nat→Option Loc} {w0 w:World} {C0:Ctx} {hp:qf} (m:MInv P C ω w0 C0 hp w) (r:Nat) (ℓ:Loc) (hr:w.heap.size≤r):MInv P C (Abs.own1 ω r ℓ) w0 C0 hp w:=
 { m with box:=fun b x r' hx hb=>(m.box b x r' hx hb).mono (Ctx.le_refl C) fun _ _ _ ho=>ho.fresh hr }
theorem MInv.own1 {P:Program} {C:Ctx} {ω:Nat→Option Loc} {w0 w:World} {C0:Ctx} {hp:qf} (m:MInv P C ω w0 C0 hp w) (r:Nat) (ℓ:Loc) (hr:∀ b j,ω r ≠ some (.cell b j)):MInv P C (Abs.own1 ω r ℓ) w0 C0 hp w:=
 { m with box:=fun b x r' hx hb=>(m.box b x r' hx hb).mono (Ctx.le_refl C) fun j _ _ ho=>ho.other (.inl (hr b j)) }
end Go.Abs
