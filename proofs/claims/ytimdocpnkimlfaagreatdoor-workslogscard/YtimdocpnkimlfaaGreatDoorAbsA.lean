/- The abstract machine. -/
import Derived.Deep.AppendSrc
import Derived.Lib.LaidTab
import Derived.Lib.ItoaNum
import Derived.WalkSpells
import Derived.Laws.Cover3
set_option linter.unusedVariables false
set_option linter.unusedSimpArgs false
open Option renaming some→I,none→Ea,isSome_iff_exists→Jp,map_some→N9
open Bool renaming false→Eb,true→Ec,false_eq_true→If,xor→Jg,and_eq_true→N7,not_true→Od
open Nat renaming ble→Ek,beq→En,blt→E3,succ_mul→Ha,le_refl→Hb,le_of_ble_eq_true→Hz,lt_of_lt_of_le→H2,eq_of_beq_eq_true→N4,add_assoc→N5
open List renaming drop_eq_nil_of_le→Ga,replicate→Hy,flatMap_cons→Ib,getElem?_eq_some_iff→Jn,getElem?_toArray→N1,mem_cons→Oc,map_cons→Oe
open Array renaming getElem?_eq_some_iff→Gc,ext'→Jq
namespace Go.Abs
inductive AVal where
 |bool (b:Bool)
 |int (k:IntKind) (n:Int)
 |str (s:List UInt8)
 |list (isNil:Bool) (sz:Nat) (xs:List AVal)
 |ms (b off len:Nat)
 |ptr (b off:Nat)
 |ax (v:AVal)
 |bC
 |map (b:Nat)
 |bB
 |fn (f:Fn) (first captured:List AVal)
 |bN
 |agg (cs:List AVal)
 |av (vs:List AVal)
 |undef
 |any
 |ct (n:Nat)
 |aA (b bm len:Nat)
 |dK (b bm off:Nat)
 deriving Inhabited
inductive jd where
 |tmp (t:Nat)
 |const (v:AVal)
 deriving Inhabited
inductive Kd where
 |int|str|bool
 deriving DecidableEq,Inhabited
inductive dA where
 |bw|eH (r:Nat)|shr|red
 deriving DecidableEq,Inhabited
inductive cc where
 |move (x:jd)
 |take (s:Nat)
 |pick (c a b:jd)
 |alloc (r:Nat) (zero:List AVal)
 |box (r n:Nat) (x:jd)
 |mW (n:Nat) (x:jd)
 |fK (n:Nat)
 |db (n s:Nat) (x:jd)
 |fm (r t e:Nat)
 |build (zero:List AVal) (parts:List (Nat×Nat×jd))
 |buildSlice (sz len:Nat) (zero:List AVal) (parts:List (Nat×jd))
 |load (agg:Bool) (n:Nat) (x:jd)
 |eI (agg:Bool) (n:Nat) (x:jd)
 |bS (off:Option Nat) (x:jd)
 |store (n:Nat) (a v:jd)
 |nilCheck (x:jd)
 |bin (op:BinOp) (x y:jd)
 |eqs (ks:List Kd) (neq:Bool) (x y:jd)
 |beq (neq:Bool) (x y:jd)
 |eJ (k:Nat) (neq:Bool) (x:jd)
 |un (op:UnOp) (x:jd)
 |conv (k:IntKind) (x:jd)
 |dN (x:jd)
 |field (agg:Bool) (off n:Nat) (x:jd)
 |index (agg:Bool) (len n:Nat) (x i:jd)
 |dB (x i:jd)
 |fieldAddr (agg:Bool) (off n:Nat) (x:jd)
 |indexAddr (sz:Nat) (x i:jd)
 |dZ (agg:Bool) (len sz:Nat) (x i:jd)
 |slice (sz:Nat) (x:jd) (lo hi:Option jd)
 |dC (x:jd) (lo hi:Option jd)
 |fo (len sz:Nat) (x:jd) (lo hi:Option jd)
 |fL (f:Fn) (first captured:List jd)
 |dD (r:Nat)
 |lookup (kd:Kd) (zero:AVal) (ok:Bool) (m k:jd)
 |mapUpdate (kd:Kd) (m k v:jd)
 |delete (kd:Kd) (m k:jd)
 |bK (r:Option Nat) (sz bytes:Nat) (zero:List AVal) (n c:jd)
 |len (k:Nat) (x:jd)
 |append (r:Option Nat) (sz bytes:Nat) (x y:jd)
 |gp (r sz bytes:Nat) (x y:jd)
 |ib (r sz len:Nat) (zero:List AVal) (parts:List (Nat×jd))
 |copy (sz:Nat) (x y:jd)
 |mx (args:List jd)
 |mn (args:List jd)
 |extract (x:jd) (i:Nat)
 |call (md:dA) (f:jd) (args:List jd)
 |cR (r:Nat) (x:jd)
 |eK (it:jd)
 |bad
 deriving Inhabited
structure bD where
 dst:Option Nat
 op:cc
 guard:Option (Nat×Bool)
 al:Option (List Nat)
 deriving Inhabited
inductive au where
 |skip
 |region (na:Nat) (ops:List bD) (keep:Option (List Nat))
 |seq (a b:au)
 |cond (c:jd) (a b:au)
 |block (id:Nat) (body:au)
 |loop (body:au)
 |rangeFunc (f:jd) (params:List Nat) (assign body:au)
 |exit (id:Nat)
 |ret
 |grow (sz:Nat)
 |stuck
 deriving Inhabited
abbrev Env:=List (Nat×AVal×Bool)
inductive je where
 |normal
 |exit (id:Nat)
 |ret
 deriving DecidableEq,Inhabited
structure W4 where
 env:Env
 params:List Nat
 assign:au
 body:au
 pending:Option je
 deriving Inhabited
def za:au→Bool
 | .seq a b=>za a&&za b
 | .cond _ a b=>za a&&za b
 | .block _ b=>za b
 | .loop b=>za b
 | .rangeFunc ..=>Eb
 |_=>Ec
def gf (e:Env):Env:=e.map fun x=>(x.1,x.2.1,Eb)
inductive aJ where
 |hole
 |cells (cs:List (AVal×Bool))
 |map (es:List (AVal×AVal))
 |iter (s:List UInt8) (pos:Nat)
 |loop (l:W4)
 |fm (t e:Nat) (l:List UInt8)
 |dead
 |vec (sz bm:Nat) (xs:List AVal)
 deriving Inhabited
abbrev ql:=List aJ
structure aV where
 env:Env
 heap:ql
 deriving Inhabited
inductive lv where
 |tmp (t:Nat)
 |cell (t:Nat) (agg:Bool) (n:Nat)
 deriving Inhabited
structure aj where
 ntmps:Nat
 body:au
 results:List lv
 deriving Inhabited
abbrev uL:=Nat→Option (List AVal→Option (AVal×Bool))
abbrev W5:=Nat→Option (List AVal→ql→Option (AVal×Bool×ql))
abbrev Nz:=Nat→Option (List (AVal×AVal))
structure jg where
 bn:Nat→Option aj
 bM:uL
 bR:W5:=fun _=>Ea
 maps:Nz:=fun _=>Ea
def ja (t:Nat):Env→Option (AVal×Bool)
 | []=>Ea
 |(s,x)::e=>bif En s t then I x else ja t e
def qg (e:Env):jd→Option AVal
 | .tmp t=>match ja t e with
  |some x=>I x.1
  |none=>Ea
 | .const v=>I v
def yg (e:Env):List jd→Option (List AVal)
 | []=>I []
 |x::xs=>match qg e x with
  |some v=>match yg e xs with
   |some vs=>I (v::vs)
   |none=>Ea
  |none=>Ea
def oh (e:Env):List Nat→Env
 | []=>[]
 |t::ts=>match ja t e with
  |some x=>(t,x)::oh e ts
  |none=>oh e ts
def oi:IntKind→Int→Bool
 | .i64,.ofNat m=>Ek m 9223372036854775807
 | .i64,.negSucc m=>Ek m 9223372036854775807
 | .i32,.ofNat m=>Ek m 2147483647
 | .i32,.negSucc m=>Ek m 2147483647
 | .i16,.ofNat m=>Ek m 32767
 | .i16,.negSucc m=>Ek m 32767
 | .i8,.ofNat m=>Ek m 127
 | .i8,.negSucc m=>Ek m 127
 | .u64,.ofNat m=>Ek m 18446744073709551615
 | .u32,.ofNat m=>Ek m 4294967295
 | .u16,.ofNat m=>Ek m 65535
 | .u8,.ofNat m=>Ek m 255
 |_,.negSucc _=>Eb
def qh (k:IntKind)(n:Int):Int:=bif oi k n then n else k.wrap n
def AVal.flat:AVal→List AVal
 | .agg cs=>cs
 |v=>[v]
def AVal.isAgg:AVal→Bool
 | .agg _=>Ec
 |_=>Eb
def AVal.b6:AVal→Bool
 | .list ..=>Ec
 |_=>Eb
def mX:Kd→AVal→AVal→Option Bool
 | .int,.int k a,.int k' b=>bif decide (k=k')then I (a == b)else Ea
 | .str,.str a,.str b=>I (a == b)
 | .bool,.bool a,.bool b=>I (a == b)
 |_,_,_=>Ea
def yd:List Kd→List AVal→List AVal→Option Bool
 | [],[],[]=>I Ec
 |k::ks,x::xs,y::ys=>match mX k x y with
  |some Ec=>yd ks xs ys
  |some Eb=>I Eb
  |none=>Ea
 |_,_,_=>Ea
def part (agg:Bool)(cs:List AVal)(off n:Nat):Option AVal:=
 bif agg then(bif Ek (off+n) cs.length then I (.agg ((cs.drop off).take n))else Ea)else cs[off]?
def bytesLess:List UInt8→List UInt8→Bool
 |_,[]=>Eb
 | [],_::_=>Ec
 |a::x,b::y=>a<b||(a == b&&bytesLess x y)
def lx (op:BinOp)(k:IntKind)(x y:Int):Option AVal:=
 match op with
 | .add=>I (.int k (qh k (x+y)))
 | .sub=>I (.int k (qh k (x-y)))
 | .mul=>I (.int k (qh k (x*y)))
 | .quo=>bif y == 0 then Ea else I (.int k (qh k (x.tdiv y)))
 | .rem=>bif y == 0 then Ea else I (.int k (x.tmod y))
 | .eql=>I (.bool (x == y))
 | .neq=>I (.bool (x != y))
 | .lss=>I (.bool (decide (x<y)))
 | .leq=>I (.bool (decide (x≤y)))
 | .gtr=>I (.bool (decide (x > y)))
 | .geq=>I (.bool (decide (x≥y)))
 | .and=>I (.int k (k.wrap (BitVec.ofInt k.bits x &&& BitVec.ofInt k.bits y).toNat))
 | .or=>I (.int k (k.wrap (BitVec.ofInt k.bits x ||| BitVec.ofInt k.bits y).toNat))
 | .xor=>I (.int k (k.wrap (BitVec.ofInt k.bits x ^^^ BitVec.ofInt k.bits y).toNat))
 | .andNot=>I (.int k (k.wrap (BitVec.ofInt k.bits x &&& ~~~BitVec.ofInt k.bits y).toNat))
 |_=>Ea
def G9 (op:BinOp)(k:IntKind)(x y:Int):Option AVal:=
 bif decide (y<0)then Ea else
 match op with
 | .shl=>I (.int k (qh k (x*2^(min y.toNat k.bits))))
 | .shr=>I (.int k (x.fdiv (2^(min y.toNat k.bits))))
 |_=>Ea
def AR (op:BinOp)(x y:List UInt8):Option AVal:=
 match op with
 | .add=>bif Ek (x.length+y.length) 4611686018427387904 then I (.str (x++y))else Ea
 | .eql=>I (.bool (x == y))
 | .neq=>I (.bool !(x == y))
 | .lss=>I (.bool (bytesLess x y))
 | .leq=>I (.bool (bytesLess x y||x == y))
 | .gtr=>I (.bool !(bytesLess x y||x == y))
 | .geq=>I (.bool !(bytesLess x y))
 |_=>Ea
def zc (op:BinOp):AVal→AVal→Option AVal
 | .int k x,.int k' y=>match op with
  | .shl=>G9 .shl k x y
  | .shr=>G9 .shr k x y
  |op=>bif decide (k=k')then lx op k x y else Ea
 | .str x,.str y=>AR op x y
 |_,_=>Ea
def s7:UnOp→AVal→Option AVal
 | .neg,.int k n=>I (.int k (qh k (0-n)))
 | .not,.bool b=>I (.bool !b)
 |_,_=>Ea
def max2:AVal→AVal→Option AVal
 | .int k x,.int k' y=>bif decide (k=k')then I (.int k (if y > x then y else x))else Ea
 |_,_=>Ea
def min2:AVal→AVal→Option AVal
 | .int k x,.int k' y=>bif decide (k=k')then I (.int k (if y<x then y else x))else Ea
 |_,_=>Ea
def lZ (f:AVal→AVal→Option AVal):AVal→List AVal→Option AVal
 |x,[]=>I x
 |x,y::ys=>match f x y with
  |some z=>lZ f z ys
  |none=>Ea
def iD:List AVal→List (Nat×List AVal)→Option (List AVal)
 |cs,[]=>I cs
 |cs,(off,vs)::rest=>bif Ek (off+vs.length) cs.length then iD (cs.take off++vs++cs.drop (off+vs.length)) rest else Ea
def qk:AVal→Bool
 | .agg _=>Eb
 | .av _=>Eb
 | .undef=>Eb
 | .any=>Eb
 |_=>Ec
def z8 (e:Env):List (Nat×Nat×jd)→Option (List (Nat×List AVal))
 | []=>I []
 |(off,n,x)::ps=>match qg e x with
  |some v=>bif En v.flat.length n&&v.flat.all qk then
    (match z8 e ps with
     |some r=>I ((off,v.flat)::r)
     |none=>Ea)else Ea
  |none=>Ea
def kB (xs:List AVal):List (Nat×AVal)→Option (List AVal)
 | []=>I xs
 |(i,v)::ps=>bif E3 i xs.length then kB (xs.set i v) ps else Ea
def zh (e:Env)(sz:Nat):List (Nat×jd)→Option (List (Nat×AVal))
 | []=>I []
 |(i,x)::ps=>match qg e x with
  |some v=>bif En v.flat.length sz&&v.flat.all qk then
   (match zh e sz ps with
    |some r=>I ((i,v)::r)
    |none=>Ea)else Ea
  |none=>Ea
def jky (zero:List AVal)(agg:Bool):Option AVal:=
 bif agg then I (.agg zero)else match zero with
  | [z]=>I z
  |_=>Ea
def j6 (h:ql)(b:Nat):Option aJ:=h[b]?
def ji (h:ql)(b:Nat):Option (List (AVal×Bool)):=
 match h[b]? with
 |some (.cells cs)=>I cs
 |_=>Ea
def zp (cs:List (AVal×Bool))(off n:Nat):Option (List AVal):=
 bif Ek (off+n) cs.length then I (((cs.drop off).take n).map (·.1))else Ea
def z7 (cs:List (AVal×Bool))(off:Nat)(vs:List AVal):Option (List (AVal×Bool)):=
 bif Ek (off+vs.length) cs.length&&vs.all qk then I (cs.take off++vs.map (·,Eb)++cs.drop (off+vs.length))else Ea
mutual
def below (n:Nat):AVal→Bool
 | .ms b _ _=>E3 b n
 | .ptr b _=>E3 b n
 | .map b=>E3 b n
 | .aA b _ _=>E3 b n
 | .dK b _ _=>E3 b n
 | .ax v=>below n v
 | .list _ _ xs=>qr n xs
 | .agg cs=>qr n cs
 | .av vs=>qr n vs
 | .fn (.yield b) first captured=>E3 b n&&qr n first&&qr n captured
 | .fn _ first captured=>qr n first&&qr n captured
 |_=>Ec
def qr (n:Nat):List AVal→Bool
 | []=>Ec
 |x::xs=>below n x&&qr n xs
end
def oj (n:Nat):Env→Bool
 | []=>Ec
 |(_,v,_)::e=>below n v&&oj n e
def s9 (n:Nat):List (AVal×Bool)→Bool
 | []=>Ec
 |(v,_)::e=>below n v&&s9 n e
def kx (n:Nat):List (AVal×AVal)→Bool
 | []=>Ec
 |(k,v)::e=>below n k&&below n v&&kx n e
def AU (n:Nat):aJ→Bool
 | .hole=>Ec
 | .cells cs=>s9 n cs
 | .map es=>kx n es
 | .iter _ _=>Ec
 | .fm ..=>Ec
 | .dead=>Ec
 | .vec ..=>Ec
 | .loop l=>oj n l.env
def yk (n:Nat):ql→Bool
 | []=>Ec
 |b::h=>AU n b&&yk n h
def gc (n:Nat)(st:aV):aV:=
 bif Ek st.heap.length n then st
 else bif oj n st.env&&yk n (st.heap.take n)then { st with heap:=st.heap.take n }else st
def jQ (v:AVal):Bool:=below 0 v
def q0d (agg:Bool)(sz:Nat):Nat→List AVal→Option (List AVal)
 |0,_=>I []
 |n+1,cs=>bif Ek sz cs.length then
   (match jky (cs.take sz) agg with
    |some v=>(match q0d agg sz n (cs.drop sz)with
     |some r=>I (v::r)
     |none=>Ea)
    |none=>Ea)else Ea
def mY (sz:Nat):Nat→List AVal→List AVal
 |0,_=>[]
 |n+1,cs=>(bif En sz 1 then cs.headD .undef else .agg (cs.take sz))::mY sz n (cs.drop sz)
def jzu:AVal→Bool
 | .str _=>Ec
 | .list ..=>Ec
 |_=>Eb
def NA (off len:Nat)(cs:List (AVal×Bool)):Bool:=En off 0&&E3 1 (cs.length / len)&&En (len*(cs.length / len)) cs.length&&cs.any (fun c=>jzu c.1)
def y6 (h:ql):AVal→Option AVal
 | .ms b off len=>match ji h b with
  |some cs=>bif NA off len cs then I (.list Eb (cs.length / len) (mY (cs.length / len) len (cs.map (·.1))))else(match zp cs off len with
   |some vs=>I (.list Eb 1 vs)
   |none=>Ea)
  |none=>Ea
 | .aA b bm len=>match h[b]? with
  |some (.vec sz cU xs)=>bif En bm cU&&Ek len xs.length then I (.list Eb sz (xs.take len))else Ea
  |_=>Ea
 |v=>I v
def y5 (h:ql):List AVal→Option (List AVal)
 | []=>I []
 |v::vs=>match y6 h v with
  |some x=>(match y5 h vs with
   |some xs=>I (x::xs)
   |none=>Ea)
  |none=>Ea
def aH (h:ql):AVal→Option AVal
 | .agg cs=>match y5 h cs with
  |some xs=>I (.agg xs)
  |none=>Ea
 | .av vs=>match aW h vs with
  |some xs=>I (.av xs)
  |none=>Ea
 |v=>y6 h v
where
 aW (h:ql):List AVal→Option (List AVal)
  | []=>I []
  | .agg cs::vs=>match y5 h cs with
   |some x=>(match aW h vs with
    |some xs=>I (.agg x::xs)
    |none=>Ea)
   |none=>Ea
  |v::vs=>match y6 h v with
   |some x=>(match aW h vs with
    |some xs=>I (x::xs)
    |none=>Ea)
   |none=>Ea
def zb (kd:Kd)(k:AVal):List (AVal×AVal)→Nat→Option (Option (Nat×AVal))
 | [],_=>I Ea
 |(k',v)::es,i=>match mX kd k k' with
  |some Ec=>I (I (i,v))
  |some Eb=>zb kd k es (i+1)
  |none=>Ea
def qf (s:List UInt8)(i:Nat):Nat×Nat:=Utf8.decode ⟨⟨s⟩⟩ i
structure aK where
 v:AVal
 own:Bool
 strip:Option Nat
 heap:ql
def mZ (l:List Nat):Bool:=match l with
 | []=>Eb
 |k::_=>Ek 1000 k
def uM (h0:Nat)(l:List Nat)(b:Nat):Bool:=match l with
 | []=>Eb
 |k::_=>bif E3 k 2000 then En b (k-1000)&&E3 b h0 else bif E3 k 4000 then En b (h0+(k-2000))else E3 b h0
def jm (h0:Nat)(al:Option (List Nat))(b:Nat):Bool:=
 match al with
 |none=>Ec
 |some l=>bif mZ l then uM h0 l b else(E3 b h0||l.contains (b-h0))
def nE (al:Option (List Nat)):Bool:=
 match al with
 |some (k::_)=>Ek 4000 k
 |_=>Eb
def qC (h0:Nat)(al:Option (List Nat))(b:Nat):Bool:=jm h0 al b&&!(nE al)
def jh (h:ql)(b:Nat)(x:aJ):Option ql:=bif E3 b h.length then I (h.set b x)else Ea
def aG (h0:Nat)(h:ql)(r:Nat)(x:aJ):Option ql:=
 match h[h0+r]? with
 |some .hole=>I (h.set (h0+r) x)
 |_=>Ea
def val (h:ql)(v:AVal):Option aK:=I ⟨v,Eb,Ea,h⟩
def kl (h:ql):Option AVal→Option aK
 |some v=>I ⟨v,Eb,Ea,h⟩
 |none=>Ea
def idx (n:Nat):AVal→Option Nat
 | .int _ (.ofNat i)=>bif E3 i n then I i else Ea
 |_=>Ea
def AV (n:Nat):AVal→Option Nat
 | .int _ (.ofNat i)=>bif Ek i n then I i else Ea
 |_=>Ea
def eL (e:Env)(kC n:Nat):Option jd→Option Nat
 |none=>I kC
 |some x=>match qg e x with
  |some v=>AV n v
  |none=>Ea
def jy (e:Env):jd→Option Nat
 | .tmp t=>match ja t e with
  |some (_,Ec)=>I t
  |_=>Ea
 |_=>Ea
def j9 (sz:Nat):AVal→Option (List AVal)
 | .list _ sy ys=>bif En sz sy||ys.isEmpty then I ys else Ea
 | .str s=>bif En sz 1 then I (s.map fun(c:UInt8)=>AVal.int .u8 c.toNat)else Ea
 |_=>Ea
def ol (n:Bool)(sz:Nat)(xs ys:List AVal):AVal:=bif n&&ys.isEmpty then .list Ec 0 []else .list Eb sz (xs++ys)
def qo (e:Env)(h:ql):cc→Option aK
 | .move x=>kl h (qg e x)
 | .take s=>match ja s e with
  |some (v,o)=>I ⟨v,o,I s,h⟩
  |none=>Ea
 | .pick c a b=>match qg e c with
  |some (.bool t)=>(match qg e a,qg e b with
    |some x,I y=>val h (bif t then x else y)
    |_,_=>Ea)
  |_=>Ea
 | .mW n x=>match qg e x with
  |some v=>bif En v.flat.length n&&v.flat.all qk then val h (.ax v)else Ea
  |none=>Ea
 | .build zero parts=>match z8 e parts with
  |some ps=>match iD zero ps with
   |some cs=>val h (.agg cs)
   |none=>Ea
  |none=>Ea
 | .buildSlice sz len zero parts=>match zh e sz parts with
  |some ps=>match kB (Hy len (bif En sz 1 then zero.headD .undef else .agg zero)) ps with
   |some xs=>I ⟨.list Eb sz xs,Ec,Ea,h⟩
   |none=>Ea
  |none=>Ea
 | .fK n=>I ⟨.ct n,Ec,Ea,h⟩
 | .db n s x=>match ja s e,qg e x with
  |some (.ct m,Ec),I v=>bif En m n&&En v.flat.length n&&v.flat.all qk then val h (.ax v)else Ea
  |_,_=>Ea
 | .eI agg n x=>match qg e x with
  |some (.ax v)=>bif Jg agg v.isAgg||!(En v.flat.length n)then Ea else val h v
  |_=>Ea
 | .nilCheck x=>match qg e x with
  |some (.ptr b o)=>val h (.ptr b o)
  |some (.ax v)=>val h (.ax v)
  |some (.fn (.func f) a b)=>val h (.fn (.func f) a b)
  |_=>Ea
 | .bin op x y=>match qg e x,qg e y with
  |some a,I b=>kl h (zc op a b)
  |_,_=>Ea
 | .eqs ks neq x y=>match qg e x,qg e y with
  |some (.agg a),I (.agg b)=>bif En a.length ks.length&&En b.length ks.length then(match yd ks a b with
   |some t=>val h (.bool (bif neq then !t else t))
   |none=>Ea)else Ea
  |_,_=>Ea
 | .beq neq x y=>match qg e x,qg e y with
  |some (.bool a),I (.bool b)=>val h (.bool (bif neq then !(a == b)else a == b))
  |_,_=>Ea
 | .eJ k neq x=>match k,qg e x with
  |0,I (.list n _ _)=>val h (.bool (bif neq then !n else n))
  |0,I (.ms ..)=>val h (.bool neq)
  |1,I .bC=>val h (.bool (!neq))
  |1,I (.ptr ..)=>val h (.bool neq)
  |1,I (.ax ..)=>val h (.bool neq)
  |2,I .bB=>val h (.bool (!neq))
  |2,I (.map ..)=>val h (.bool neq)
  |3,I .bN=>val h (.bool (!neq))
  |3,I (.fn ..)=>val h (.bool neq)
  |_,_=>Ea
 | .un op x=>match qg e x with
  |some v=>kl h (s7 op v)
  |none=>Ea
 | .conv k x=>match qg e x with
  |some (.int _ n)=>val h (.int k (qh k n))
  |_=>Ea
 | .dN x=>match qg e x with
  |some (.str s)=>val h (.str s)
  |some (.int _ n)=>val h (.str (Utf8.encode n).data.toList)
  |_=>Ea
 | .field agg off n x=>match qg e x with
  |some (.agg cs)=>kl h (part agg cs off n)
  |_=>Ea
 | .index agg len n x i=>match qg e x,qg e i with
  |some (.agg cs),I j=>(match idx len j with
   |some j=>kl h (part agg cs (j*n) n)
   |none=>Ea)
  |_,_=>Ea
 | .dB x i=>match qg e x,qg e i with
  |some (.str s),I j=>(match idx s.length j with
   |some j=>(match s[j]? with
    |some c=>val h (.int .u8 c.toNat)
    |none=>Ea)
   |none=>Ea)
  |_,_=>Ea
 | .fieldAddr agg off n x=>match qg e x with
  |some (.ptr b o)=>val h (.ptr b (o+off))
  |some (.ax (.agg cs))=>(match part agg cs off n with
   |some v=>bif Jg agg v.isAgg then Ea else val h (.ax v)
   |none=>Ea)
  |some (.dK b bm o)=>val h (.dK b bm (o+off))
  |_=>Ea
 | .indexAddr sz x i=>match qg e x,qg e i with
  |some (.list _ cD xs),I j=>bif En sz cD||xs.isEmpty then(match idx xs.length j with
   |some j=>(match xs[j]? with
    |some v=>val h (.ax v)
    |none=>Ea)
   |none=>Ea)else Ea
  |some (.ms b o len),I j=>(match idx len j with
   |some j=>val h (.ptr b (o+j*sz))
   |none=>Ea)
  |some (.aA b bm len),I j=>(match idx len j with
   |some j=>val h (.dK b bm (j*sz))
   |none=>Ea)
  |_,_=>Ea
 | .dZ agg len sz x i=>match qg e x,qg e i with
  |some (.ptr b o),I j=>(match idx len j with
   |some j=>val h (.ptr b (o+j*sz))
   |none=>Ea)
  |some (.ax (.agg cs)),I j=>(match idx len j with
   |some j=>(match part agg cs (j*sz) sz with
    |some v=>bif Jg agg v.isAgg then Ea else val h (.ax v)
    |none=>Ea)
   |none=>Ea)
  |_,_=>Ea
 | .slice sz x lo hi=>match qg e x with
  |some (.list n cD xs)=>bif En sz cD||xs.isEmpty then(match eL e xs.length xs.length hi with
   |some j=>(match eL e 0 j lo with
    |some i=>val h (.list n cD ((xs.take j).drop i))
    |none=>Ea)
   |none=>Ea)else Ea
  |some (.ms b o len)=>(match eL e len len hi with
   |some j=>(match eL e 0 j lo with
    |some i=>bif En i 0||E3 i j then val h (.ms b (o+i*sz) (j-i))else Ea
    |none=>Ea)
   |none=>Ea)
  |some (.aA b bm len)=>(match eL e len len hi with
   |some j=>(match eL e 0 j lo with
    |some i=>bif En i 0 then val h (.aA b bm j)else Ea
    |none=>Ea)
   |none=>Ea)
  |_=>Ea
 | .dC x lo hi=>match qg e x with
  |some (.str s)=>(match eL e s.length s.length hi with
   |some j=>(match eL e 0 j lo with
    |some i=>val h (.str ((s.take j).drop i))
    |none=>Ea)
   |none=>Ea)
  |_=>Ea
 | .fo len sz x lo hi=>match qg e x with
  |some (.ptr b o)=>(match eL e len len hi with
   |some j=>(match eL e 0 j lo with
    |some i=>bif En i 0||E3 i j then val h (.ms b (o+i*sz) (j-i))else Ea
    |none=>Ea)
   |none=>Ea)
  |_=>Ea
 | .fL f first captured=>match yg e first,yg e captured with
  |some a,I b=>val h (.fn f a b)
  |_,_=>Ea
 | .len k x=>match k,qg e x with
  |1,I (.list _ _ xs)=>val h (.int .i64 xs.length)
  |1,I (.ms _ _ n)=>val h (.int .i64 n)
  |1,I (.aA _ _ n)=>val h (.int .i64 n)
  |2,I (.list Ec _ _)=>val h (.int .i64 0)
  |0,I (.str s)=>val h (.int .i64 s.length)
  |_,_=>Ea
 | .append Ea sz bytes x y=>match qg e x,qg e y with
  |some (.list n cD xs),I vy=>
   bif n||(jy e x).isSome then
    (match j9 sz vy with
     |some ys=>
      bif (En sz cD||(xs.isEmpty&&n))&&Ek (xs.length+ys.length) 1073741824&&Ek bytes 4096&&E3 0 sz then
       I ⟨ol n sz xs ys,Ec,jy e x,h⟩
      else Ea
     |none=>Ea)
   else Ea
  |_,_=>Ea
 | .bK Ea sz bytes zero n c=>match qg e n,qg e c with
  |some (.int .i64 (.ofNat n)),I (.int .i64 (.ofNat c))=>
   bif En n c&&Ek n 1073741824&&Ek bytes 4096&&En zero.length sz&&E3 0 sz&&zero.all qk then
    I ⟨.list Eb sz (Hy n (bif En sz 1 then zero.headD .undef else .agg zero)),Ec,Ea,h⟩else Ea
  |_,_=>Ea
 | .mx args=>match yg e args with
  |some (v::vs)=>kl h (lZ max2 v vs)
  |_=>Ea
 | .mn args=>match yg e args with
  |some (v::vs)=>kl h (lZ min2 v vs)
  |_=>Ea
 | .extract x i=>match qg e x with
  |some (.av vs)=>kl h vs[i]?
  |_=>Ea
 |_=>Ea
def rN (es:List (AVal×AVal))(i:Nat)(v:AVal):List (AVal×AVal):=
 match es,i with
 | [],_=>[]
 |(k,_)::r,0=>(k,v)::r
 |x::r,i+1=>x::rN r i v
def zm (h0:Nat)(al:Option (List Nat))(e:Env)(h:ql):cc→Option aK
 | .load agg n x=>match qg e x with
  |some (.ptr b o)=>bif jm h0 al b then(match ji h b with
   |some cs=>(match zp cs o n with
    |some vs=>bif agg then val h (.agg vs)else(match vs with
     | [v]=>val h v
     |_=>Ea)
    |none=>Ea)
   |none=>Ea)else Ea
  |some (.ax v)=>bif Jg agg v.isAgg||!(En v.flat.length n)then Ea else val h v
  |some (.dK b bm o)=>bif qC h0 al b then(match j6 h b with
   |some (.vec _ cU xs)=>bif En bm cU&&Ek (o+n) (xs.flatMap AVal.flat).length then(bif agg then val h (.agg (((xs.flatMap AVal.flat).drop o).take n))else(match((xs.flatMap AVal.flat).drop o).take n with
     | [v]=>val h v
     |_=>Ea))else Ea
   |_=>Ea)else Ea
  |_=>Ea
 | .lookup kd zero ok m k=>match qg e m,qg e k with
  |some (.map b),I kv=>bif jm h0 al b then(match j6 h b with
   |some (.map es)=>(match zb kd kv es 0 with
    |some (I (_,v))=>val h (bif ok then .av [v,.bool Ec]else v)
    |some Ea=>val h (bif ok then .av [zero,.bool Eb]else zero)
    |none=>Ea)
   |_=>Ea)else Ea
  |some .bB,I _=>val h (bif ok then .av [zero,.bool Eb]else zero)
  |_,_=>Ea
 | .len _ x=>match qg e x with
  |some (.map b)=>bif jm h0 al b then(match j6 h b with
   |some (.map es)=>val h (.int .i64 es.length)
   |_=>Ea)else Ea
  |some .bB=>val h (.int .i64 0)
  |_=>Ea
 |_=>Ea
def W6 (es:List (AVal×AVal)):Option (Nat×AVal)→List (AVal×AVal)
 |some (i,_)=>es.eraseIdx i
 |none=>es
def qD:Option Nat→Nat→Bool
 |none,_=>Ec
 |some a,o=>En a o
def Hc (sz len:Nat):AVal→Option (Nat×List AVal)
 | .list _ sy ys=>bif En sz sy||ys.isEmpty then I (min ys.length len,(ys.take len).flatMap AVal.flat)else Ea
 |_=>Ea
def cellsOf (vs:List AVal):List (AVal×Bool):=vs.map (·,Eb)
def qp (h0:Nat)(al:Option (List Nat))(e:Env)(h:ql):cc→Option aK
 | .alloc r zero=>bif zero.all qk then(match aG h0 h r (.cells (cellsOf zero))with
  |some h'=>val h' (.ptr (h0+r) 0)
  |none=>Ea)else Ea
 | .box r n x=>match qg e x with
  |some v=>bif En v.flat.length n&&v.flat.all qk then(match aG h0 h r (.cells (cellsOf v.flat))with
   |some h'=>val h' (.ptr (h0+r) 0)
   |none=>Ea)else Ea
  |none=>Ea
 | .bS off x=>match qg e x with
  |some (.ptr b o)=>bif jm h0 al b&&qD off o then(match ji h b with
   |some cs=>(match cs[o]? with
    |some (v,w)=>(match jh h b (.cells (cs.set o (v,Eb)))with
     |some h'=>I ⟨v,w,Ea,h'⟩
     |none=>Ea)
    |none=>Ea)
   |none=>Ea)else Ea
  |_=>Ea
 | .store n a x=>match qg e a,qg e x with
  |some (.ptr b o),I v=>bif jm h0 al b then(match ji h b with
   |some cs=>(match jy e x with
    |some t=>bif En n 1&&v.b6&&E3 o cs.length then(match jh h b (.cells (cs.set o (v,Ec)))with
      |some h'=>I ⟨.undef,Eb,I t,h'⟩
      |none=>Ea)else Ea
    |none=>bif En v.flat.length n then(match z7 cs o v.flat with
     |some dV=>(match jh h b (.cells dV)with
      |some h'=>val h' .undef
      |none=>Ea)
     |none=>Ea)else Ea)
   |none=>Ea)else Ea
  |_,_=>Ea
 | .fm r t e=>match aG h0 h r (.fm t e [])with
  |some h'=>val h' (.ptr (h0+r) 0)
  |none=>Ea
 | .dD r=>match aG h0 h r (.map [])with
  |some h'=>val h' (.map (h0+r))
  |none=>Ea
 | .mapUpdate kd m k x=>match qg e m,qg e k,qg e x with
  |some (.map b),I kv,I v=>bif jm h0 al b then(match j6 h b with
   |some (.map es)=>(match zb kd kv es 0 with
    |some (I (i,_))=>(match jh h b (.map (rN es i v))with
     |some h'=>val h' .undef
     |none=>Ea)
    |some Ea=>bif Ek es.length 1073741824 then(match jh h b (.map (es++[(kv,v)]))with
     |some h'=>val h' .undef
     |none=>Ea)else Ea
    |none=>Ea)
   |_=>Ea)else Ea
  |_,_,_=>Ea
 | .delete kd m k=>match qg e m,qg e k with
  |some (.map b),I kv=>bif jm h0 al b then(match j6 h b with
   |some (.map es)=>(match zb kd kv es 0 with
    |some r=>(match jh h b (.map (W6 es r))with
     |some h'=>val h' (.av [])
     |none=>Ea)
    |none=>Ea)
   |_=>Ea)else Ea
  |_,_=>Ea
 | .bK (I r) sz bytes zero n c=>match qg e n,qg e c with
  |some (.int .i64 (.ofNat n)),I (.int .i64 (.ofNat c))=>
   bif En n c&&Ek n 1073741824&&Ek bytes 4096&&En zero.length sz&&E3 0 sz&&zero.all qk then
    (match aG h0 h r (.cells (cellsOf (Hy n zero).flatten))with
     |some h'=>val h' (.ms (h0+r) 0 n)
     |none=>Ea)else Ea
  |_,_=>Ea
 | .append (I r) sz bytes x y=>match qg e x,qg e y with
  |some (.list Eb cD []),I vy=>
   bif (jy e x).isSome&&En sz cD then
    (match j9 sz vy with
     |some ys=>
      bif Ek ys.length 1073741824&&Ek bytes 4096&&E3 0 sz then
       (match aG h0 h r (.cells (cellsOf (ys.flatMap AVal.flat)))with
        |some h'=>I ⟨.ms (h0+r) 0 ys.length,Eb,jy e x,h'⟩
        |none=>Ea)
      else Ea
     |none=>Ea)
   else Ea
  |_,_=>Ea
 | .gp r sz bytes x y=>match qg e x,qg e y with
  |some (.list Ec _ []),I vy=>(match j9 sz vy with
    |some ys=>
     bif Ek ys.length 1073741824&&Ek bytes 4096&&E3 0 sz&&!ys.isEmpty&&qr 0 ys&&E3 r 1000 then
      (match aG h0 h r (.vec sz 0 ys)with
       |some h'=>val h' (.aA (h0+r) 0 ys.length)
       |none=>Ea)else Ea
    |none=>Ea)
  |some (.aA b bm len),I vy=>(match j6 h b with
   |some (.vec cD cU xs)=>(match j9 sz vy with
    |some ys=>
     bif En bm cU&&En sz cD&&Ek len xs.length&&Ek (len+ys.length) 1073741824&&Ek bytes 4096&&E3 0 sz&&qr 0 ys&&E3 r 1000 then
      (match jh h b (.vec sz (bm+1) (xs.take len++ys))with
       |some h'=>val h' (.aA b (bm+1) (len+ys.length))
       |none=>Ea)else Ea
    |none=>Ea)
   |_=>Ea)
  |_,_=>Ea
 | .ib r sz len zero parts=>match zh e sz parts with
  |some ps=>match kB (Hy len (bif En sz 1 then zero.headD .undef else .agg zero)) ps with
   |some xs=>bif qr 0 xs then(match aG h0 h r (.vec sz 0 xs)with
    |some h'=>val h' (.aA (h0+r) 0 xs.length)
    |none=>Ea)else Ea
   |none=>Ea
  |none=>Ea
 | .copy sz x y=>match qg e x,qg e y with
  |some (.ms b o len),I vy=>bif jm h0 al b then(match ji h b with
   |some cs=>(match Hc sz len vy with
    |some (n,vs)=>(match z7 cs o vs with
     |some dV=>bif En vs.length (n*sz)then(match jh h b (.cells dV)with
      |some h'=>val h' (.int .i64 n)
      |none=>Ea)else Ea
     |none=>Ea)
    |none=>Ea)
   |none=>Ea)else Ea
  |_,_=>Ea
 | .cR r x=>match qg e x with
  |some (.str s)=>(match aG h0 h r (.iter s 0)with
   |some h'=>val h' (.ptr (h0+r) 0)
   |none=>Ea)
  |_=>Ea
 | .eK it=>match qg e it with
  |some (.ptr b 0)=>bif jm h0 al b then(match j6 h b with
   |some (.iter s pos)=>bif E3 pos s.length then
     (match jh h b (.iter s (pos+(qf s pos).2))with
      |some h'=>val h' (.av [.bool Ec,.int .i64 pos,.int .i32 (qf s pos).1])
      |none=>Ea)else val h (.av [.bool Eb])
   |_=>Ea)else Ea
  |_=>Ea
 |_=>Ea
def nc:Nat→List AVal→Env
 |_,[]=>[]
 |i,v::vs=>(i,v,Eb)::nc (i+1) vs
def qE (st:aV):lv→Option (AVal×Bool)
 | .tmp t=>ja t st.env
 | .cell t agg n=>match ja t st.env with
  |some (.ptr b o,_)=>(match ji st.heap b with
   |some cs=>(match zp cs o n with
    |some vs=>bif agg then I (.agg vs,Eb)else(match cs[o]? with
     |some x=>I x
     |none=>Ea)
    |none=>Ea)
   |none=>Ea)
  |_=>Ea
def ya (st:aV):List lv→Option (List (AVal×Bool))
 | []=>I []
 |r::rs=>match qE st r with
  |some x=>(match ya st rs with
   |some xs=>I (x::xs)
   |none=>Ea)
  |none=>Ea
def jj:List (AVal×Bool)→AVal×Bool
 | [x]=>x
 |xs=>(.av (xs.map (·.1)),Eb)
abbrev XC:=au→aV→Option (je×aV)
def yf (st:aV):List lv→ql
 | [.cell t Eb _]=>match ja t st.env with
  |some (.ptr b o,_)=>(match ji st.heap b with
   |some cs=>(match cs[o]? with
    |some (v,Ec)=>st.heap.set b (.cells (cs.set o (v,Eb)))
    |_=>st.heap)
   |none=>st.heap)
  |_=>st.heap
 |_=>st.heap
def nF (xc:XC)(f:aj)(args:List AVal)(h:ql):Option (AVal×Bool×ql):=
 bif Ek args.length f.ntmps then
  match xc f.body ⟨nc 0 args,h⟩with
  |some (.normal,st)=>(match ya st f.results with
   |some xs=>I ((jj xs).1,(jj xs).2,yf st f.results)
   |none=>Ea)
  |some (.ret,st)=>(match ya st f.results with
   |some xs=>I ((jj xs).1,(jj xs).2,yf st f.results)
   |none=>Ea)
  |_=>Ea
 else Ea
def ah (p:jg)(xc:XC)(k:Nat)(args:List AVal)(h:ql):Option (AVal×Bool×ql):=
 match p.bn k with
 |some f=>nF xc f args h
 |none=>match p.bR k with
  |some f=>f args h
  |none=>Ea
def ae (p:jg)(xc:XC)(k:Nat)(args:List AVal):Option (AVal×Bool):=
 match p.bM k with
 |some f=>(match f args with
  |some (v,o)=>bif jQ v then I (v,o)else Ea
  |none=>Ea)
 |none=>match ah p xc k args []with
  |some (v,o,h)=>(match aH h v with
   |some v'=>bif jQ v' then I (v',o&&v.b6)else Ea
   |none=>Ea)
  |none=>Ea
def ko (n:Nat)(v:AVal)(h:ql):ql:=
 bif Ek h.length n then h else bif below n v&&yk n (h.take n)then h.take n else h
def uN (e:Env):List Nat→List AVal→Option Env
 | [],[]=>I e
 |t::ts,v::vs=>uN ((t,v,Eb)::e) ts vs
 |_,_=>Ea
def nf (xc:XC)(b:Nat)(args:List AVal)(h:ql):Option (AVal×ql):=
 match j6 h b with
 |some (.loop l)=>match l.pending,uN (gf l.env) l.params args with
  |none,I e=>(match xc l.assign ⟨e,h⟩with
   |some (.normal,st)=>(match j6 st.heap b with
    |some (.loop l1)=>bif l1.pending.isNone then(match xc l.body { st with heap:=st.heap.set b (.loop { l1 with pending:=I .normal }) }with
     |some (x,aN)=>(match j6 aN.heap b with
      |some (.loop l2)=>I (.bool (match x with | .normal=>Ec|_=>Eb),ko h.length (.bool Ec) (aN.heap.set b (.loop { l2 with pending:=match x with | .normal=>Ea|x=>I x })))
      |_=>Ea)
     |none=>Ea)else Ea
    |_=>Ea)
   |_=>Ea)
  |_,_=>Ea
 |_=>Ea
def l4:AVal→Bool
 | .bool _=>Ec
 | .int _ _=>Ec
 | .str _=>Ec
 |_=>Eb
def NB (h:ql):AVal→Option AVal
 | .ms b 0 len=>(match ji h b with
  |some cs=>bif En (len*(cs.length / len)) cs.length&&E3 0 (cs.length / len)&&cs.all (fun c=>l4 c.1)then I (.list Eb (cs.length / len) (mY (cs.length / len) len (cs.map (·.1))))else(bif En len 0 then I (.list Eb 8 [])else Ea)
  |none=>Ea)
 |v=>I v
def tc (h:ql):List AVal→Option (List AVal)
 | []=>I []
 |v::vs=>match NB h v,tc h vs with
  |some x,I xs=>I (x::xs)
  |_,_=>Ea
def tf:AVal→Bool
 | .agg cs=>cs.all l4
 |v=>l4 v
def AW (v:AVal):AVal:=bif tf v then v else .any
def Hd:AVal→Bool→Option (AVal×Bool)
 | .list Eb sz xs,Ec=>bif (xs.flatMap AVal.flat).all l4 then I (.list Eb sz xs,Ec)else Ea
 | .list Ec sz [],_=>I (.list Ec sz [],Eb)
 | .av vs,_=>I (.av (vs.map AW),Eb)
 |v,_=>bif tf v then I (v,Eb)else Ea
def oo (h0:Nat)(h:ql)(r:Nat):AVal→Bool→Option aK
 | .list Ec sz [],_=>(match aG h0 h r .dead with
  |some h'=>val h' (.list Ec sz [])
  |none=>Ea)
 | .list Eb sz xs,Ec=>bif (xs.flatMap AVal.flat).all l4 then(match aG h0 h r (.cells (cellsOf (xs.flatMap AVal.flat)))with
  |some h'=>val h' (.ms (h0+r) 0 xs.length)
  |none=>Ea)else Ea
 |_,_=>Ea
def zf (p:jg)(xc:XC)(h0:Nat)(e:Env)(h:ql)(md:dA)(f:jd)(args:List jd):Option aK:=
 match qg e f,yg e args with
 |some (.fn (.func k) first captured),I vs=>
  (match md with
   | .bw=>bif qr 0 (first++vs++captured)then(match ae p xc k (first++vs++captured)with
     |some (v,o)=>I ⟨v,o,Ea,h⟩
     |none=>Ea)else Ea
   | .eH r=>bif (first++vs++captured).isEmpty then(match p.maps k with
     |some es=>(match aG h0 h r (.map es)with
      |some h'=>val h' (.map (h0+r))
      |none=>Ea)
     |none=>Ea)else bif qr 0 (first++vs++captured)then(match ae p xc k (first++vs++captured)with
     |some (v,o)=>oo h0 h r v o
     |none=>Ea)else Ea
   | .red=>(match tc h (first++vs++captured)with
    |some us=>bif qr 0 us then(match ae p xc k us with
     |some (v,o)=>(match Hd v o with
      |some (v',o')=>I ⟨v',o',Ea,h⟩
      |none=>Ea)
     |none=>Ea)else Ea
    |none=>Ea)
   | .shr=>(match ah p xc k (first++vs++captured) h with
    |some (v,o,h')=>I ⟨v,o,Ea,ko h.length v h'⟩
    |none=>Ea))
 |some (.fn (.yield b) [] []),I vs=>
  (match md with
   | .shr=>(match nf xc b vs h with
    |some (v,h')=>val h' v
    |none=>Ea)
   |_=>Ea)
 |_,_=>Ea
def qb (p:jg)(xc:XC)(h0:Nat)(al:Option (List Nat))(e:Env)(h:ql)(op:cc):Option aK:=
 match op with
 | .call md f args=>zf p xc h0 e h md f args
 | .load agg n x=>zm h0 al e h (.load agg n x)
 | .lookup kd z ok m k=>zm h0 al e h (.lookup kd z ok m k)
 | .alloc r z=>qp h0 al e h (.alloc r z)
 | .box r n x=>qp h0 al e h (.box r n x)
 | .bS off x=>qp h0 al e h (.bS off x)
 | .store n a x=>qp h0 al e h (.store n a x)
 | .fm r t e'=>qp h0 al e h (.fm r t e')
 | .dD r=>qp h0 al e h (.dD r)
 | .mapUpdate kd m k x=>qp h0 al e h (.mapUpdate kd m k x)
 | .delete kd m k=>qp h0 al e h (.delete kd m k)
 | .bK (I r) sz b z n c=>qp h0 al e h (.bK (I r) sz b z n c)
 | .append (I r) sz b x y=>qp h0 al e h (.append (I r) sz b x y)
 | .gp r sz b x y=>qp h0 al e h (.gp r sz b x y)
 | .ib r sz n z ps=>qp h0 al e h (.ib r sz n z ps)
 | .copy sz x y=>qp h0 al e h (.copy sz x y)
 | .cR r x=>qp h0 al e h (.cR r x)
 | .eK it=>qp h0 al e h (.eK it)
 |op=>qo e h op
def ze (e:Env):Option Nat→Env
 |none=>e
 |some s=>match ja s e with
  |some (v,_)=>(s,v,Eb)::e
  |none=>e
def l5 (e:Env)(d:Option Nat)(v:AVal)(o:Bool):Env:=
 match d with
 |some d=>(d,v,o)::e
 |none=>e
def km (e:Env):Option (Nat×Bool)→Option Bool
 |none=>I Ec
 |some (s,want)=>match ja s e with
  |some (.bool b,_)=>I (b == want)
  |some (.undef,_)=>I Eb
  |_=>Ea
def zg (p:jg)(xc:XC)(h0:Nat)(o:bD)(st:aV):Option aV:=
 match km st.env o.guard with
 |some Ec=>(match qb p xc h0 o.al st.env st.heap o.op with
  |some r=>I ⟨l5 (ze st.env r.strip) o.dst r.v r.own,r.heap⟩
  |none=>Ea)
 |some Eb=>I ⟨l5 st.env o.dst .undef Eb,st.heap⟩
 |none=>Ea
def yv (p:jg)(xc:XC)(h0:Nat):List bD→aV→Option aV
 | [],st=>I st
 |o::os,st=>match zg p xc h0 o st with
  |some aN=>yv p xc h0 os aN
  |none=>Ea
def uO (st:aV):Option (List Nat)→aV
 |none=>st
 |some l=>{ st with env:=oh st.env l }
def yq (p:jg)(xc:XC)(na:Nat)(ops:List bD)(keep:Option (List Nat))(st:aV):Option (je×aV):=
 match yv p xc st.heap.length ops { st with heap:=st.heap++Hy na .hole }with
 |some aN=>I (.normal,uO aN keep)
 |none=>Ea
def kZ (p:jg)(xc:XC)(f:jd)(params:List Nat)(assign body:au)(st:aV):Option (je×aV):=
 bif za assign&&za body then
  match qg st.env f with
  |some (.fn (.func k) first captured)=>
   (match ah p xc k (first++[.fn (.yield st.heap.length) [] []]++captured) (st.heap++[.loop ⟨st.env,params,assign,body,Ea⟩])with
    |some (_,_,h')=>(match j6 h' st.heap.length with
     |some (.loop l)=>bif yk st.heap.length (h'.take st.heap.length)then
       (match l.pending with
       |none=>I (.normal,{ st with heap:=h'.take st.heap.length })
       |some .normal=>Ea
       |some x=>I (x,{ st with heap:=h'.take st.heap.length }))else Ea
     |_=>Ea)
    |none=>Ea)
  |_=>Ea
 else Ea
def ar (p:jg):Nat→XC
 |0,_,_=>Ea
 |n+1,c,st=>match c with
  | .skip=>I (.normal,st)
  | .region na ops keep=>yq p (ar p n) na ops keep st
  | .seq a b=>match ar p n a st with
   |some (.normal,aN)=>ar p n b aN
   |r=>r
  | .cond c a b=>match qg st.env c with
   |some (.bool t)=>bif t then ar p n a st else ar p n b st
   |_=>Ea
  | .block id body=>match ar p n body st with
   |some (.exit eM,aN)=>bif En eM id then I (.normal,aN)else I (.exit eM,aN)
   |r=>r
  | .loop body=>match ar p n body st with
   |some (.normal,aN)=>ar p n (.loop body) (gc st.heap.length aN)
   |r=>r
  | .rangeFunc f params assign body=>kZ p (ar p n) f params assign body st
  | .exit id=>I (.exit id,st)
  | .ret=>I (.ret,st)
  | .grow sz=>match ja 0 st.env,ja 1 st.env with
   |some (.list Ec _ _,_),I (.int .i64 (.ofNat m),_)=>bif E3 0 m&&Ek m 1073741824 then I (.normal,{ st with env:=[(0,.list Eb sz [],Ec)] })else Ea
   |_,_=>Ea
  | .stuck=>Ea
structure qj where
 takes:List Nat:=[]
 bz:List Nat:=[]
 bA:List (Nat×Nat):=[]
 shr:List (Nat×Nat):=[]
 eH:List (Nat×Nat):=[]
 red:List (Nat×Nat):=[]
 keep:List (Nat×List Nat):=[]
 vl:List Nat:=[]
 vec:List Nat:=[]
 ex:List ((Nat×Nat)×Nat):=[]
 deriving Inhabited
def AX:Value→Option AVal
 | .bool b=>I (.bool b)
 | .int k n=>I (.int k n)
 | .string s=>I (.str s.data.toList)
 | .slice Ea 0 0=>I (.list Ec 0 [])
 | .pointer Ea=>I .bC
 | .map Ea=>I .bB
 | .nilFunc=>I .bN
 |_=>Ea
def rO:List Value→Option (List AVal)
 | []=>I []
 |v::vs=>match AX v with
  |some x=>match rO vs with
   |some xs=>I (x::xs)
   |none=>Ea
  |none=>Ea
def ofValue:Value→Option AVal
 | .agg cs=>match rO cs.toList with
  |some xs=>I (.agg xs)
  |none=>Ea
 |v=>AX v
def qt:Operand→Option jd
 | .tmp t=>I (.tmp t)
 | .const v=>match ofValue v with
  |some x=>I (.const x)
  |none=>Ea
 | .func f=>I (.const (.fn (.func f) [] []))
 | .global _=>Ea
def nG:List Operand→Option (List jd)
 | []=>I []
 |x::xs=>match qt x with
  |some y=>match nG xs with
   |some ys=>I (y::ys)
   |none=>Ea
  |none=>Ea
def ly:Option Operand→Option (Option jd)
 |none=>I Ea
 |some x=>match qt x with
  |some y=>I (I y)
  |none=>Ea
def zn (P:Program)(t:TypeId):Option Bool:=
 match P.underlying t with
 |some (.struct _)=>I Ec
 |some (.array _ _)=>I Ec
 |some _=>I Eb
 |none=>Ea
def jc (P:Program)(t:TypeId):Option Nat:=(P.info? t).map (·.size)
def l6 (P:Program)(t:TypeId):Option Nat:=(P.info? t).map (·.bytes)
def zq (P:Program)(t:TypeId):Option (List AVal):=
 match P.info? t with
 |some i=>match i.zero with
  |some z=>rO z.cells.toList
  |none=>Ea
 |none=>Ea
def NC (P:Program)(t:TypeId):Option TypeId:=
 match P.underlying t with
 |some (.struct fs)=>match fs.toList with
  | [f0,f1]=>match P.underlying f0.type,P.underlying f1.type with
   |some (.pointer t'),I (.slice e)=>match P.underlying e,zq P t with
    |some (.int .u8),I [.bC,.list Ec _ []]=>if t' == t then I e else Ea
    |_,_=>Ea
   |_,_=>Ea
  |_=>Ea
 |_=>Ea
def ND (P:Program)(t:TypeId):Option AVal:=
 match P.info? t with
 |some i=>match i.zero with
  |some z=>ofValue z
  |none=>Ea
 |none=>Ea
def CL (g:TypeId→Option (List Kd)):Nat→List Field→Option (List Kd)
 |_,[]=>I []
 | off, f :: fs => if f.name != "_" && f.offset == off then (match g f.type with
   |some ks=>(match CL g (off+ks.length) fs with
    |some r=>I (ks++r)
    |none=>Ea)
   |none=>Ea)else Ea
def qF (P:Program):Nat→TypeId→Option (List Kd)
 |0,_=>Ea
 |n+1,t=>match P.underlying t with
  |some (.int _)=>if jc P t == I 1 then I [.int]else Ea
  |some .string=>if jc P t == I 1 then I [.str]else Ea
  |some .bool=>if jc P t == I 1 then I [.bool]else Ea
  |some (.struct fs)=>(match CL (qF P n) 0 fs.toList with
   |some ks=>if !P.stoodInHeld t&&jc P t == I ks.length then I ks else Ea
   |none=>Ea)
  |some (.array len e)=>(match qF P n e with
   |some ks=>if jc P t == I (len*ks.length)then I (Hy len ks).flatten else Ea
   |none=>Ea)
  |_=>Ea
def He:Nat:=12
def iV (P:Program)(t:TypeId):Option Kd:=
 match P.underlying t with
 |some (.int _)=>I .int
 |some .string=>I .str
 |some .bool=>I .bool
 |_=>Ea
def AY (P:Program)(op:BinOp)(neq:Bool)(t:TypeId)(x y:Operand):Option cc:=
 match P.underlying t with
 |some (.int _)|some .string=>match qt x,qt y with
  |some a,I b=>I (.bin op a b)
  |_,_=>Ea
 |some .bool=>match qt x,qt y with
  |some a,I b=>I (.beq neq a b)
  |_,_=>Ea
 |some (.struct _)|some (.array _ _)=>
  if !P.eqGuardType P.depth t then match qF P He t,qt x,qt y with
   |some ks,I a,I b=>I (.eqs ks neq a b)
   |_,_,_=>Ea
  else Ea
 |some (.slice _)=>match y with
  | .const (.slice Ea 0 0)=>(qt x).map (.eJ 0 neq)
  |_=>Ea
 |some (.pointer _)=>match y with
  | .const (.pointer Ea)=>(qt x).map (.eJ 1 neq)
  |_=>Ea
 |some (.map _ _)=>match y with
  | .const (.map Ea)=>(qt x).map (.eJ 2 neq)
  |_=>Ea
 |some (.func _ _ _)=>match y with
  | .const .nilFunc=>(qt x).map (.eJ 3 neq)
  |_=>Ea
 |_=>Ea
def NE (P:Program)(op:BinOp)(t:TypeId)(x y:Operand):Option cc:=
 match op with
 | .eql=>AY P .eql Eb t x y
 | .neq=>AY P .neq Ec t x y
 |op=>match qt x,qt y with
  |some a,I b=>I (.bin op a b)
  |_,_=>Ea
def ti (P:Program)(place:Nat→Option (Nat×Nat)):List (Nat×Operand)→Option (List (Nat×Nat×jd))
 | []=>I []
 |(i,x)::ps=>match place i,qt x,ti P place ps with
  |some (off,n),I y,I r=>I ((off,n,y)::r)
  |_,_,_=>Ea
def tj:List (Nat×Operand)→Option (List (Nat×jd))
 | []=>I []
 |(i,x)::ps=>match qt x,tj ps with
  |some y,I r=>I ((i,y)::r)
  |_,_=>Ea
def W7 (h:qj)(dst:Option Nat)(x:Operand):Option Nat:=
 match x,dst with
 | .tmp s,I d=>if h.takes.contains d then I s else Ea
 |_,_=>Ea
def uP:TypeDesc→Bool
 | .slice _=>Ec
 | .string=>Ec
 |_=>Eb
def dA.at (r:Nat):dA→dA
 | .eH _=>.eH r
 |m=>m
def uQ (P:Program)(h:qj)(md:dA)(r:Nat)(dst:Option Nat)(c:Call):Option cc:=
 match c.callee with
 | .value f=>match qt f,nG c.args.toList with
  |some f,I args=>I (.call (md.at r) f args)
  |_,_=>Ea
 | .builtin .len=>match c.args.toList,c.argTypes.toList with
  | [x],[t]=>match P.underlying t with
   |some .string=>(qt x).map (.len 0)
   |some (.slice _)=>(qt x).map (.len 1)
   |_=>Ea
  |_,_=>Ea
 | .builtin .cap=>match c.args.toList,c.argTypes.toList with
  | [x],[t]=>match P.underlying t with
   |some (.slice _)=>(qt x).map (.len 2)
   |_=>Ea
  |_,_=>Ea
 | .builtin .append=>match c.args.toList,c.argTypes.toList with
  | [x,y],[t,u]=>match P.underlying t,P.underlying u with
   |some (.slice e),I ut=>if uP ut&&(zq P e).map (·.length) == jc P e then match jc P e,l6 P e,qt x,qt y with
     |some sz,I b,I x,I y=>I (if(dst.map (h.vec.contains ·)).getD Eb then .gp r sz b x y else .append (if(dst.map (h.bz.contains ·)).getD Eb then I r else Ea) sz b x y)
     |_,_,_,_=>Ea
    else Ea
   |_,_=>Ea
  |_,_=>Ea
 | .builtin .copy=>match c.args.toList,c.argTypes.toList with
  | [x,y],t::_=>match P.underlying t with
   |some (.slice e)=>match jc P e,qt x,qt y with
    |some sz,I x,I y=>I (.copy sz x y)
    |_,_,_=>Ea
   |_=>Ea
  |_,_=>Ea
 | .builtin .delete=>match c.args.toList,c.argTypes.toList with
  | [m,k],t::_=>match P.underlying t with
   |some (.map kt _)=>match iV P kt,qt m,qt k with
    |some kd,I m,I k=>I (.delete kd m k)
    |_,_,_=>Ea
   |_=>Ea
  |_,_=>Ea
 | .builtin .max=>(nG c.args.toList).map .mx
 | .builtin .min=>(nG c.args.toList).map .mn
 |_=>Ea
def AZ : List (String × List Int) := [("woofer/network.none", [0, 0]), ("woofer/network.one", [1, 0]), ("woofer/network.turns", [1, 0, 0, 1, -1, 0, 0, -1])]
def CM (P:Program)(g:Nat):List (String×List Int)→Option (List Int)
 | []=>Ea
 |(n,cs)::l=>if P.globalNamed n == I g then I cs else CM P g l
def Hf (P:Program)(t:TypeId)(g:Nat):Option cc:=match CM P g AZ,zn P t,jc P t with
 |some cs,I Ec,I n=>if cs.length == n then I (.move (.const (.agg (cs.map (AVal.int .i64)))))else Ea
 |_,_,_=>Ea
def Hg (h:qj):jd→Option Nat
 | .tmp s=>if h.vl.contains s then I s else Ea
 |_=>Ea
def cf (P:Program)(h:qj)(md:dA)(r:Nat)(dst:Option Nat):Op→Option cc
 | .move x=>match W7 h dst x with
  |some s=>I (.take s)
  |none=>(qt x).map .move
 | .assign (.tmp s)=>I (.take s)
 | .assign x=>(qt x).map .move
 | .pick c a b=>match qt c,qt a,qt b with
  |some c,I a,I b=>I (.pick c a b)
  |_,_,_=>Ea
 | .alloc t=>match NC P t with
  |some e=>I (.fm r t e)
  |none=>bif (dst.map (h.vl.contains ·)).getD Eb then(match zq P t with
   |some z=>bif z.all qk then I (.fK z.length)else Ea
   |none=>Ea)else(zq P t).map (.alloc r)
 | .box t x=>match jc P t,qt x with
  |some n,I x=>I (bif (dst.map (h.vl.contains ·)).getD Eb then .mW n x else .box r n x)
  |_,_=>Ea
 | .build t ps=>match P.underlying t,zq P t with
  |some (.struct fs),I z=>if fs.toList.all (fun f=>(jc P f.type).isSome)then(ti P (fun i=>match fs[i]? with
    |some f=>(jc P f.type).map fun n=>(f.offset,n)
    |none=>Ea) ps.toList).map (.build z)else Ea
  |some (.array _ e),I z=>match jc P e with
   |some n=>(ti P (fun i=>I (i*n,n)) ps.toList).map (.build z)
   |none=>Ea
  |_,_=>Ea
 | .buildSlice t n ps=>match P.underlying t with
  |some (.slice e)=>match jc P e,zq P e,zn P e,tj ps.toList with
   |some sz,I z,I ag,I es=>if sz*n≤65536&&0<sz&&z.length == sz&&(ag||sz == 1)&&(!ag||sz != 1)then I (if(dst.map (h.vec.contains ·)).getD Eb then .ib r sz n z es else .buildSlice sz n z es)else Ea
   |_,_,_,_=>Ea
  |_=>Ea
 | .load t (.global g)=>Hf P t g
 | .load t x=>match zn P t,jc P t,qt x with
  |some Eb,I 1,I x=>if(dst.map (h.takes.contains ·)).getD Eb then I (.bS ((dst.bind fun d=>h.bA.find? fun y=>y.1 == d).map (·.2)) x)else I (bif (dst.map (h.vl.contains ·)).getD Eb then .eI Eb 1 x else .load Eb 1 x)
  |some Ec,I n,I x=>I (bif (dst.map (h.vl.contains ·)).getD Eb then .eI Ec n x else .load Ec n x)
  |_,_,_=>Ea
 | .store t a v=>match jc P t,qt a,qt v with
  |some n,I a,I v=>I (match Hg h a with
   |some s=>.db n s v
   |none=>.store n a v)
  |_,_,_=>Ea
 | .nilCheck x=>(qt x).map .nilCheck
 | .binOp op t x y _=>NE P op t x y
 | .unOp op _ x=>(qt x).map (.un op)
 | .convert s d x=>match P.underlying s,P.underlying d with
  |some (.int _),I (.int k)=>(qt x).map (.conv k)
  |some .string,I .string=>(qt x).map .dN
  |some (.int _),I .string=>(qt x).map .dN
  |_,_=>Ea
 | .makeFunc f a b=>match f with
  | .func k=>match nG a.toList,nG b.toList with
   |some a,I b=>I (.fL (.func k) a b)
   |_,_=>Ea
  |_=>Ea
 | .makeMap t Ea=>match P.underlying t with
  |some (.map _ _)=>I (.dD r)
  |_=>Ea
 | .makeSlice t n c=>match P.underlying t with
  |some (.slice e)=>match jc P e,l6 P e,zq P e,zn P e,qt n,qt c with
   |some sz,I b,I z,I ag,I n,I c=>
    if(ag||sz == 1)&&(!ag||sz != 1)then I (.bK (if(dst.map (h.bz.contains ·)).getD Eb then I r else Ea) sz b z n c)else Ea
   |_,_,_,_,_,_=>Ea
  |_=>Ea
 | .slice t x lo hi Ea=>match qt x,ly lo,ly hi with
  |some x,I lo,I hi=>match P.underlying t with
   |some .string=>I (.dC x lo hi)
   |some (.slice e)=>(jc P e).map fun sz=>.slice sz x lo hi
   |some (.array n e)=>(jc P e).map fun sz=>.fo n sz x lo hi
   |_=>Ea
  |_,_,_=>Ea
 | .fieldAddr t x i=>match P.underlying t with
  |some (.struct fs)=>match fs[i]? with
   |some f=>match zn P f.type,jc P f.type,qt x with
    |some ag,I n,I x=>if 0<n&&(ag||n == 1)then I (.fieldAddr ag f.offset n x)else Ea
    |_,_,_=>Ea
   |none=>Ea
  |_=>Ea
 | .field t x i=>match P.underlying t with
  |some (.struct fs)=>match fs[i]? with
   |some f=>match zn P f.type,jc P f.type,qt x with
    |some ag,I n,I x=>I (.field ag f.offset n x)
    |_,_,_=>Ea
   |none=>Ea
  |_=>Ea
 | .indexAddr t x i=>match qt x,qt i with
  |some x,I i=>match P.underlying t with
   |some (.slice e)=>match jc P e with
    |some sz=>if 0<sz then I (.indexAddr sz x i)else Ea
    |none=>Ea
   |some (.array n e)=>match jc P e,zn P e with
    |some sz,I ag=>if 0<sz&&(ag||sz == 1)then I (.dZ ag n sz x i)else Ea
    |_,_=>Ea
   |_=>Ea
  |_,_=>Ea
 | .index t x i=>match qt x,qt i with
  |some x,I i=>match P.underlying t with
   |some .string=>I (.dB x i)
   |some (.array n e)=>match jc P e,zn P e with
    |some sz,I ag=>I (.index ag n sz x i)
    |_,_=>Ea
   |_=>Ea
  |_,_=>Ea
 | .lookup t m k ok=>match P.underlying t with
  |some (.map kt e)=>match iV P kt,ND P e,qt m,qt k with
   |some kd,I z,I m,I k=>I (.lookup kd z ok m k)
   |_,_,_,_=>Ea
  |_=>Ea
 | .mapUpdate t m k v=>match P.underlying t with
  |some (.map kt _)=>match iV P kt,qt m,qt k,qt v with
   |some kd,I m,I k,I v=>I (.mapUpdate kd m k v)
   |_,_,_,_=>Ea
  |_=>Ea
 | .insert t m k v=>match P.underlying t with
  |some (.map kt _)=>match iV P kt,qt m,qt k,qt v with
   |some kd,I m,I k,I v=>I (.mapUpdate kd m k v)
   |_,_,_,_=>Ea
  |_=>Ea
 | .range t x=>match P.underlying t with
  |some .string=>(qt x).map (.cR r)
  |_=>Ea
 | .next it Ec=>(qt it).map .eK
 | .extract x i=>(qt x).map fun x=>.extract x i
 | .call c=>uQ P h md r dst c
 |_=>Ea
def cc.makes:cc→Bool
 | .alloc ..=>Ec
 | .box ..=>Ec
 | .fm ..=>Ec
 | .dD ..=>Ec
 | .bK (I _) ..=>Ec
 | .append (I _) ..=>Ec
 | .gp ..=>Ec
 | .ib ..=>Ec
 | .cR ..=>Ec
 | .call (.eH _) ..=>Ec
 |_=>Eb
def cc.gq:cc→Option Nat
 | .db _ s _=>I s
 |_=>Ea
def cc.tm (d:Option Nat):cc→Option Nat
 | .db _ s _=>I s
 |_=>d
def A0 (ops:Array Oper):Option (Nat×Bool)→Option (Option (Nat×Bool))
 |none=>I Ea
 |some (j,b)=>match(ops[j]?).bind (·.dst)with
  |some d=>I (I (d,b))
  |none=>Ea
def W9 (h:qj)(id i:Nat):dA:=if h.shr.contains (id,i)then .shr else if h.eH.contains (id,i)then .eH 0 else if h.red.contains (id,i)then .red else .bw
def CN (P:Program)(h:qj)(nt:Nat)(id:Nat)(ops:Array Oper)(gJ:Array Nat)(draw:Bool):List Oper→Nat→List (Nat×Nat)→Option (List bD×List (Nat×Nat))
 | [],_,rs=>I ([],rs)
 |o::os,i,rs=>
  match(cf P h (W9 h id i) rs.length o.dst o.op).getD .bad,A0 ops o.guard with
  |a,I g=>
   if(o.dst.map (decide <| · < nt)).getD Ec&&(a.gq.map (decide <| · < nt)).getD Ec&&(a.gq.isNone||(o.dst.isNone&&o.guard.isNone))then
    let A1:=if a.makes then(i,rs.length)::rs else rs
    let al:=if draw then(match h.ex.find? fun x=>x.1 == (id,i)with
     |some x=>I [x.2]
     |none=>I ((rs.filter fun x=>(gJ.getD i 0).testBit x.1).map (·.2)))else Ea
    match CN P h nt id ops gJ draw os (i+1) A1 with
    |some (l,NF)=>I (⟨a.tm o.dst,a,g,al⟩::l,NF)
    |none=>Ea
   else Ea
  |_,_=>Ea
def jl:jd→List Nat
 | .tmp t=>[t]
 | .const _=>[]
def tn (l:List jd):List Nat:=l.flatMap jl
def uR:Option jd→List Nat
 |some x=>jl x
 |none=>[]
def cc.reads:cc→List Nat
 | .move x=>jl x
 | .take s=>[s]
 | .pick c a b=>jl c++jl a++jl b
 | .alloc _ _=>[]
 | .box _ _ x=>jl x
 | .mW _ x=>jl x
 | .fK _=>[]
 | .db _ s x=>s::jl x
 | .fm _ _ _=>[]
 | .build _ ps=>ps.flatMap fun p=>jl p.2.2
 | .buildSlice _ _ _ ps=>ps.flatMap fun p=>jl p.2
 | .load _ _ x=>jl x
 | .eI _ _ x=>jl x
 | .bS _ x=>jl x
 | .store _ a v=>jl a++jl v
 | .nilCheck x=>jl x
 | .bin _ x y=>jl x++jl y
 | .eqs _ _ x y=>jl x++jl y
 | .beq _ x y=>jl x++jl y
 | .eJ _ _ x=>jl x
 | .un _ x=>jl x
 | .conv _ x=>jl x
 | .dN x=>jl x
 | .field _ _ _ x=>jl x
 | .index _ _ _ x i=>jl x++jl i
 | .dB x i=>jl x++jl i
 | .fieldAddr _ _ _ x=>jl x
 | .indexAddr _ x i=>jl x++jl i
 | .dZ _ _ _ x i=>jl x++jl i
 | .slice _ x lo hi=>jl x++uR lo++uR hi
 | .dC x lo hi=>jl x++uR lo++uR hi
 | .fo _ _ x lo hi=>jl x++uR lo++uR hi
 | .fL _ a b=>tn a++tn b
 | .dD _=>[]
 | .lookup _ _ _ m k=>jl m++jl k
 | .mapUpdate _ m k v=>jl m++jl k++jl v
 | .delete _ m k=>jl m++jl k
 | .bK _ _ _ _ n c=>jl n++jl c
 | .len _ x=>jl x
 | .append _ _ _ x y=>jl x++jl y
 | .gp _ _ _ x y=>jl x++jl y
 | .ib _ _ _ _ ps=>ps.flatMap fun p=>jl p.2
 | .copy _ x y=>jl x++jl y
 | .mx l=>tn l
 | .mn l=>tn l
 | .extract x _=>jl x
 | .call _ f l=>jl f++tn l
 | .cR _ x=>jl x
 | .eK x=>jl x
 | .bad=>[]
def cc.eX:cc→List Nat
 | .take s=>[s]
 | .append _ _ _ x _=>jl x
 | .store _ _ v=>jl v
 |_=>[]
def bD.reads (o:bD):List Nat:=o.op.reads++(match o.guard with|some g=>[g.1]|none=>[])
def bD.writes (o:bD):List Nat:=o.dst.toList++o.op.eX
inductive uS where
 |pure|read|write|alloc|take|eH|shr|l7
 deriving DecidableEq,Inhabited
def cc.cl:cc→uS
 | .load ..=>.read
 | .lookup ..=>.read
 | .alloc ..=>.alloc
 | .box ..=>.alloc
 | .fm ..=>.alloc
 | .dD ..=>.alloc
 | .bK (I _) ..=>.alloc
 | .append (I _) ..=>.alloc
 | .cR ..=>.alloc
 | .bS Ea _=>.write
 | .bS (I _) _=>.take
 | .store ..=>.write
 | .mapUpdate ..=>.write
 | .delete ..=>.write
 | .copy ..=>.write
 | .eK ..=>.write
 | .call .bw ..=>.pure
 | .call (.eH _) ..=>.alloc
 | .call .shr ..=>.shr
 | .call .red ..=>.shr
 | .gp ..=>.l7
 | .ib ..=>.shr
 |_=>.pure
def cc.cm:cc→Nat
 | .alloc r _=>r
 | .box r _ _=>r
 | .fm r _ _=>r
 | .dD r=>r
 | .bK (I r) ..=>r
 | .append (I r) ..=>r
 | .cR r _=>r
 | .call (.eH r) ..=>r
 | .bS (I o) _=>o
 | .gp r sz ..=>r+1000*sz
 |_=>0
def lz (al:Option (List Nat))(r:Nat):Bool:=match al with
 |none=>Ec
 |some l=>bif mZ l then En (l.headD 0) (2000+r)else l.contains r
def A2 (a b:Option (List Nat)):Bool:=match a,b with
 |some l,I m=>bif mZ l then(bif mZ m then !(En (l.headD 0) (m.headD 0))&&E3 (l.headD 0) 4000&&E3 (m.headD 0) 4000 else Ek 2000 (l.headD 0)&&E3 (l.headD 0) 4000&&!(m.contains (l.headD 0-2000)))else mZ m&&Ek 2000 (m.headD 0)&&E3 (m.headD 0) 4000&&!(l.contains (m.headD 0-2000))
 |_,_=>Eb
def uS.box:uS→Bool
 | .read=>Ec
 | .write=>Ec
 | .take=>Ec
 |_=>Eb
def NG (a b:bD):Bool:=(a.op.cl.box&&b.op.cl.box&&A2 a.al b.al) ||
  (match a.op.cl,b.op.cl with
 | .pure,_=>Ec
 |_,.pure=>Ec
 | .read,.read=>Ec
 | .read,.eH=>Ec
 | .eH,.read=>Ec
 | .eH,.eH=>Ec
 | .alloc,.alloc=>a.op.cm != b.op.cm
 | .alloc,.read=>!lz b.al a.op.cm
 | .alloc,.write=>!lz b.al a.op.cm
 | .alloc,.take=>!lz b.al a.op.cm
 | .take,.alloc=>!lz a.al b.op.cm
 | .take,.take=>a.op.cm != b.op.cm
 | .read,.alloc=>!lz a.al b.op.cm
 | .write,.alloc=>!lz a.al b.op.cm
 | .l7,.l7=>a.op.cm % 1000 != b.op.cm % 1000&&a.op.cm / 1000 != b.op.cm / 1000
 | .l7,.read=>nE b.al
 | .l7,.write=>nE b.al
 | .l7,.take=>nE b.al
 | .read,.l7=>nE a.al
 | .write,.l7=>nE a.al
 | .take,.l7=>nE a.al
 |_,_=>Eb)
def CO (a b:List Nat):Bool:=a.all fun x=>!b.contains x
def uT (a b:bD):Bool:=
 NG a b&&CO a.writes b.reads&&CO a.writes b.writes&&CO b.writes a.reads
def NH (gJ:Array Nat)(l:List bD):Bool:=
 (l.zipIdx).all fun(b,j)=>(l.zipIdx).all fun(a,i)=>!(decide (i<j))||(gJ.getD j 0).testBit i||uT a b
def NI (ops:Array Oper):Bool:=ops.toList.zipIdx.all fun(o,i)=>o.after.all fun e=>!Region.binds .any e||decide (e.on<i)
def NJ (gJ:Array Nat)(ops:Array Oper):Bool:=
 ops.toList.zipIdx.all fun(o,i)=>(List.range ops.size).all fun j=>!((gJ.getD i 0).testBit j)||o.after.any fun e=>Region.binds .any e&&(e.on == j||(gJ.getD e.on 0).testBit j)
def CP (P:Program)(h:qj)(nt:Nat)(id:Nat)(ops:Array Oper)(draw:Bool):Option au:=
 match CN P h nt id ops (Region.before ops) draw ops.toList 0 []with
 |some (l,rs)=>
  if !draw||(NH (Region.before ops) l&&NI ops&&NJ (Region.before ops) ops)then
   I (.region rs.length l ((h.keep.find? fun x=>x.1 == id).map (·.2)))
  else Ea
 |none=>Ea
def A3 (s d:Nat)(o:Oper):Bool:=match o.op,o.dst,o.guard with
 | .move (.tmp s'),I d',Ea=>s' == s&&d' == d
 |_,_,_=>Eb
def NK (s d:Nat)(o:Oper):Bool:=match o.op,o.dst,o.guard with
 | .assign (.tmp s'),I d',Ea=>s' == s&&d' == d
 |_,_,_=>Eb
def NL (x d:Nat)(o:Oper):Option TypeId:=match o.op,o.dst,o.guard with
 | .call c,I d',Ea=>match c.callee,c.args.toList,c.argTypes.toList with
  | .builtin .cap,[.tmp x'],[t]=>if x' == x&&d' == d then I t else Ea
  |_,_,_=>Ea
 |_,_,_=>Ea
def NM (x d:Nat)(o:Oper):Option TypeId:=match o.op,o.dst,o.guard with
 | .call c,I d',Ea=>match c.callee,c.args.toList,c.argTypes.toList with
  | .builtin .len,[.tmp x'],[t]=>if x' == x&&d' == d then I t else Ea
  |_,_,_=>Ea
 |_,_,_=>Ea
def Hh (x h d:Nat)(o:Oper):Option TypeId:=match o.op,o.dst,o.guard with
 | .slice t (.tmp x') Ea (I (.tmp h')) Ea,I d',Ea=>if x' == x&&h' == h&&d' == d then I t else Ea
 |_,_,_=>Ea
def NN (x y d:Nat)(o:Oper):Option (TypeId×TypeId):=match o.op,o.dst,o.guard with
 | .call c,I d',Ea=>match c.callee,c.args.toList,c.argTypes.toList with
  | .builtin .append,[.tmp x',.tmp y'],[t,u]=>if x' == x&&y' == y&&d' == d then I (t,u)else Ea
  |_,_,_=>Ea
 |_,_,_=>Ea
def Xa (ops:Array Oper):Option (TypeId×TypeId):=match ops.toList with
 | [o0,o1,o2,o3,o4,o5,o6,o7,o8,o9]=>match NL 18 19 o2,Hh 17 19 20 o3,NN 20 21 22 o5,NM 23 24 o7,Hh 22 24 25 o8 with
  |some t2,I t3,I (t,u),I t7,I t8=>if A3 0 17 o0&&A3 0 18 o1&&A3 1 21 o4&&A3 0 23 o6&&NK 25 0 o9&&t2 == t&&t3 == t&&t7 == t&&t8 == t then I (t,u)else Ea
  |_,_,_,_,_=>Ea
 |_=>Ea
def Hj (P:Program)(nt:Nat)(ops:Array Oper):Option Nat:=match Xa ops with
 |some (t,u)=>match P.underlying t,P.underlying u with
  |some (.slice e),I (.int _)=>match P.info? e with
   |some i=>if i.zero.isSome&&0<i.size&&i.bytes≤4096&&26≤nt&&(zq P e).isSome&&(zq P e).map (·.length) == I i.size then I i.size else Ea
   |none=>Ea
  |_,_=>Ea
 |none=>Ea
def yo (P:Program)(h:qj)(nt:Nat):Code→Option au
 | .skip=>I .skip
 | .label _=>I .skip
 | .region id ops draw=>match draw,Hj P nt ops with
  |false,I sz=>I (.grow sz)
  |_,_=>CP P h nt id ops draw
 | .seq a b=>match yo P h nt a,yo P h nt b with
  |some x,I y=>I (.seq x y)
  |_,_=>Ea
 | .cond c a b=>match qt c,yo P h nt a,yo P h nt b with
  |some c,I x,I y=>I (.cond c x y)
  |_,_,_=>Ea
 | .block id b=>(yo P h nt b).map (.block id)
 | .loop b=>(yo P h nt b).map .loop
 | .scope b=>(yo P h nt b).map fun x=>.seq x .skip
 | .rangeFunc f ps a b=>match qt f,yo P h nt a,yo P h nt b with
  |some f,I x,I y=>if ps.all (decide <| · < nt)then I (.rangeFunc f ps.toList x y)else Ea
  |_,_,_=>Ea
 | .exit id=>I (.exit id)
 | .ret=>I .ret
 |_=>I .stuck
def Hk (P:Program):ResultVar→Option lv
 | .tmp t=>I (.tmp t)
 | .cell t ty=>match zn P ty,jc P ty with
  |some Ec,I n=>I (.cell t Ec n)
  |some Eb,I 1=>I (.cell t Eb 1)
  |_,_=>Ea
def uU (P:Program):List ResultVar→Option (List lv)
 | []=>I []
 |r::rs=>match Hk P r,uU P rs with
  |some x,I xs=>I (x::xs)
  |_,_=>Ea
def CQ (P:Program)(h:qj)(f:Func):Option aj:=
 match f.body with
 |some c=>match yo P h f.ntmps c,uU P f.results.toList with
  | some b, I rs => if f.name == "runtime.NumGoroutine" then Ea else I ⟨f.ntmps, b, rs⟩
  |_,_=>Ea
 |none=>Ea
structure az where
 K:Nat→Nat→Option Value
 β:Nat→Option Nat
 W:Nat→Prop
 D:Nat→Prop
 T:Nat×Nat×Nat×Nat→Prop
def az.bw (K:Nat→Nat→Option Value):az:=⟨K,fun _=>Ea,fun _=>False,fun _=>False,fun _=>False⟩
def eN (C:az):Fn→Fn→Prop
 | .yield b,f=>∃r,C.β b=I r∧f=.yield r
 |f,f'=>f'=f
inductive jR where
 |val (x:AVal) (v:Value)
 |cells (r:Nat) (xs:List AVal) (o:Nat)
 |row (r sz:Nat) (xs:List AVal) (o:Nat)
 |eA (xs:List AVal) (vs:List Value)
inductive ay (C:az):jR→Prop where
 |bool (b:Bool):ay C (.val (.bool b) (.bool b))
 |int (k:IntKind) (n:Int):ay C (.val (.int k n) (.int k n))
 |str (s:List UInt8):ay C (.val (.str s) (.string ⟨⟨s⟩⟩))
 |ic (sz:Nat):ay C (.val (.list Ec sz []) (.slice Ea 0 0))
 |list (sz:Nat) (xs:List AVal) (r o cap:Nat) (hl:xs.length≤cap) (hr:ay C (.row r sz xs o)):ay C (.val (.list Eb sz xs) (.slice (I ⟨r,o,Ea⟩) xs.length cap))
 |ie (sz:Nat) (a:Addr) (hs:a.spot≠Ea):ay C (.val (.list Eb sz []) (.slice (I a) 0 0))
 |ms (b o len r cap:Nat) (hb:C.β b=I r) (hl:len≤cap):ay C (.val (.ms b o len) (.slice (I ⟨r,o,Ea⟩) len cap))
 |ptr (b o r:Nat) (hb:C.β b=I r):ay C (.val (.ptr b o) (.pointer (I ⟨r,o,Ea⟩)))
 |ax (x:AVal) (r o:Nat) (h:ay C (.cells r x.flat o)):ay C (.val (.ax x) (.pointer (I ⟨r,o,Ea⟩)))
 |bC:ay C (.val .bC (.pointer Ea))
 |map (b r:Nat) (hb:C.β b=I r):ay C (.val (.map b) (.map (I r)))
 |bB:ay C (.val .bB (.map Ea))
 |fn (f f':Fn) (a b:List AVal) (as bs:List Value) (hf:eN C f f') (ha:ay C (.eA a as)) (hb:ay C (.eA b bs)):ay C (.val (.fn f a b) (.func f' ⟨as⟩ ⟨bs⟩))
 |bN:ay C (.val .bN .nilFunc)
 |agg (cs:List AVal) (vs:List Value) (h:ay C (.eA cs vs)):ay C (.val (.agg cs) (.agg ⟨vs⟩))
 |av (cs:List AVal) (vs:List Value) (h:ay C (.eA cs vs)):ay C (.val (.av cs) (.tuple ⟨vs⟩))
 |undef:ay C (.val .undef (.tuple #[]))
 |any (v:Value):ay C (.val .any v)
 |ct (n:Nat) (a:Addr):ay C (.val (.ct n) (.pointer (I a)))
 |aA (b bm len r0 r cap:Nat) (hb:C.β b=I r0) (ht:C.T (r0,bm,r,cap)) (hl:len≤cap):ay C (.val (.aA b bm len) (.slice (I ⟨r,0,Ea⟩) len cap))
 |dK (b bm off r0 r cap:Nat) (hb:C.β b=I r0) (ht:C.T (r0,bm,r,cap)):ay C (.val (.dK b bm off) (.pointer (I ⟨r,off,Ea⟩)))
 |gu (r o:Nat):ay C (.cells r [] o)
 |cV (r o:Nat) (x:AVal) (xs:List AVal) (v:Value) (hv:C.K r o=I v) (hx:ay C (.val x v)) (h:ay C (.cells r xs (o+1))):ay C (.cells r (x::xs) o)
 |eY (r sz o:Nat):ay C (.row r sz [] o)
 |cO (r sz o:Nat) (x:AVal) (xs:List AVal) (hs:x.flat.length=sz) (hx:ay C (.cells r x.flat o)) (h:ay C (.row r sz xs (o+sz))):ay C (.row r sz (x::xs) o)
 |nil:ay C (.eA [] [])
 |cons (x:AVal) (xs:List AVal) (v:Value) (vs:List Value) (hx:ay C (.val x v)) (h:ay C (.eA xs vs)):ay C (.eA (x::xs) (v::vs))
abbrev bp (C:az)(x:AVal)(v:Value):Prop:=ay C (.val x v)
abbrev aF (C:az)(xs:List AVal)(vs:List Value):Prop:=ay C (.eA xs vs)
abbrev bO (C:az)(r:Nat)(xs:List AVal)(o:Nat):Prop:=ay C (.cells r xs o)
abbrev aO (C:az)(r sz:Nat)(xs:List AVal)(o:Nat):Prop:=ay C (.row r sz xs o)
structure az.le (C C':az):Prop where
 k:∀r o v,C.K r o=I v→C'.K r o=I v
 b:∀b r,C.β b=I r→C'.β b=I r
 w:C'.W=C.W
 d:∀r,C.D r→C'.D r
 t:∀q,C.T q→C'.T q:=by exact fun _ h=>h
theorem az.le_refl (C:az):C.le C:=⟨fun _ _ _ h=>h,fun _ _ h=>h,rfl,fun _ h=>h,fun _ h=>h⟩
theorem az.le_trans {A B C:az}(h:A.le B)(k:B.le C):A.le C:=⟨fun r o v x=>k.1 r o v (h.1 r o v x),fun b r x=>k.2 b r (h.2 b r x),k.w.trans h.w,fun r x=>k.d r (h.d r x),fun r x=>k.t r (h.t r x)⟩
theorem eN.imp {C C'}(h:(∀r o v,C.K r o=I v→C'.K r o=I v)∧(∀b r,C.β b=I r→C'.β b=I r)){f f'}(hf:eN C f f'):eN C' f f':=by
 cases f<;>simp only[eN]at *<;>first|exact hf|exact⟨hf.choose,h.2 _ _ hf.choose_spec.1,hf.choose_spec.2⟩
theorem ay.imp {C C'}(h:(∀r o v,C.K r o=some v→C'.K r o=some v)∧(∀b r,C.β b=some r→C'.β b=some r)){i}(hr:ay C i)(hT:∀q,C.T q→C'.T q:=by first|exact fun _ h=>h|exact fun _ h=>False.elim h):ay C' i:=by
 induction hr with
 |bool b=>exact .bool b
 |int k n=>exact .int k n
 |str s=>exact .str s
 |ic sz=>exact .ic sz
 |list sz xs r o cap hl _ ih=>exact .list sz xs r o cap hl ih
 |ie sz a hs=>exact .ie sz a hs
 |ms b o len r cap hb hl=>exact .ms b o len r cap (h.2 _ _ hb) hl
 |ptr b o r hb=>exact .ptr b o r (h.2 _ _ hb)
 |ax x r o _ ih=>exact .ax x r o ih
 |bC=>exact .bC
 |map b r hb=>exact .map b r (h.2 _ _ hb)
 |bB=>exact .bB
 |fn f f' a b as bs hf _ _ ha hb=>exact .fn f f' a b as bs (hf.imp h) ha hb
 |bN=>exact .bN
 |agg cs vs _ ih=>exact .agg cs vs ih
 |av cs vs _ ih=>exact .av cs vs ih
 |undef=>exact .undef
 |any v=>exact .any v
 |ct n a=>exact .ct n a
 |aA b bm len r0 r cap hb ht hl=>exact .aA b bm len r0 r cap (h.2 _ _ hb) (hT _ ht) hl
 |dK b bm off r0 r cap hb ht=>exact .dK b bm off r0 r cap (h.2 _ _ hb) (hT _ ht)
 |gu r o=>exact .gu r o
 |cV r o x xs v hv _ _ l8 ih=>exact .cV r o x xs v (h.1 _ _ _ hv) l8 ih
 |eY r sz o=>exact .eY r sz o
 |cO r sz o x xs hs _ _ l8 ih=>exact .cO r sz o x xs hs l8 ih
 |nil=>exact .nil
 |cons x xs v vs _ _ l8 ih=>exact .cons x xs v vs l8 ih
theorem ay.mono {C C'}(h:C.le C'){i}(hr:ay C i):ay C' i:=hr.imp ⟨h.k,h.b⟩ h.t
def jR.below (n:Nat):jR→Bool
 | .val x _=>Abs.below n x
 | .cells _ xs _=>qr n xs
 | .row _ _ xs _=>qr n xs
 | .eA xs _=>qr n xs
theorem Hl (n:Nat)(x:AVal):qr n x.flat=Abs.below n x:=by
 cases x<;>simp[AVal.flat,qr,Abs.below]
theorem ay.shift {C C'}(n:Nat)(hK:∀r o v,C.K r o=some v→C'.K r o=some v)(hβ:∀b r,b<n→C.β b=some r→C'.β b=some r){i}(hr:ay C i)(hb:i.below n=true)(hT:∀q,0<n→C.T q→C'.T q:=by first|exact fun _ _ h=>h|exact fun _ h=>absurd h (Nat.lt_irrefl 0)|exact fun _ _ h=>False.elim h):ay C' i:=by
 induction hr with
 |bool b=>exact .bool b
 |int k n=>exact .int k n
 |str s=>exact .str s
 |ic sz=>exact .ic sz
 |list sz xs r o cap hl _ ih=>exact .list sz xs r o cap hl (ih (by simpa[jR.below,Abs.below]using hb))
 |ie sz a hs=>exact .ie sz a hs
 |ms b o len r cap h1 hl=>exact .ms b o len r cap (hβ _ _ (by simpa[jR.below,Abs.below]using hb) h1) hl
 |ptr b o r h1=>exact .ptr b o r (hβ _ _ (by simpa[jR.below,Abs.below]using hb) h1)
 |ax x r o _ ih=>exact .ax x r o (ih (by simpa[jR.below,Abs.below,Hl]using hb))
 |bC=>exact .bC
 |map b r h1=>exact .map b r (hβ _ _ (by simpa[jR.below,Abs.below]using hb) h1)
 |bB=>exact .bB
 |fn f f' a b as bs hf _ _ iha ihb=>
  have NP:eN C' f f':=by
   cases f<;>simp only[eN]at *<;>first|exact hf|skip
   obtain⟨r,h1,rfl⟩:=hf
   simp[jR.below,Abs.below]at hb
   exact⟨r,hβ _ _ hb.1.1 h1,rfl⟩
  have oq:qr n a=Ec∧qr n b=Ec:=by
   cases f<;>simp[jR.below,Abs.below]at hb<;>first|exact hb|exact⟨hb.1.2,hb.2⟩
  exact .fn f f' a b as bs NP (iha oq.1) (ihb oq.2)
 |bN=>exact .bN
 |agg cs vs _ ih=>exact .agg cs vs (ih (by simpa[jR.below,Abs.below]using hb))
 |av cs vs _ ih=>exact .av cs vs (ih (by simpa[jR.below,Abs.below]using hb))
 |undef=>exact .undef
 |any v=>exact .any v
 |ct n a=>exact .ct n a
 |aA b bm len r0 r cap h1 ht hl=>
  have uV:b<n:=by simpa[jR.below,Abs.below]using hb
  exact .aA b bm len r0 r cap (hβ _ _ uV h1) (hT _ (by omega) ht) hl
 |dK b bm off r0 r cap h1 ht=>
  have uV:b<n:=by simpa[jR.below,Abs.below]using hb
  exact .dK b bm off r0 r cap (hβ _ _ uV h1) (hT _ (by omega) ht)
 |gu r o=>exact .gu r o
 |cV r o x xs v hv _ _ l8 ih=>
  simp[jR.below,qr]at hb l8 ih
  exact .cV r o x xs v (hK _ _ _ hv) (l8 hb.1) (ih hb.2)
 |eY r sz o=>exact .eY r sz o
 |cO r sz o x xs hs _ _ l8 ih=>
  simp[jR.below,qr,Hl]at hb l8 ih
  exact .cO r sz o x xs hs (l8 hb.1) (ih hb.2)
 |nil=>exact .nil
 |cons x xs v vs _ _ l8 ih=>
  simp[jR.below,qr]at hb l8 ih
  exact .cons x xs v vs (l8 hb.1) (ih hb.2)
theorem aF.length {C xs}:∀ {vs:List Value},aF C xs vs→vs.length=xs.length:=by
 induction xs with
 |nil=>intro vs h;cases h;rfl
 |cons x xs ih=>intro vs h;cases h with|cons _ _ v vs hx h=>simp[ih h]
theorem aF.get {C xs}:∀ {vs:List Value},aF C xs vs→∀ {i:Nat} {x:AVal},xs[i]?=I x→∃v,vs[i]?=I v∧bp C x v:=by
 induction xs with
 |nil=>intro vs _ i x h;simp at h
 |cons y ys ih=>
  intro vs h i x hi
  cases h with
  |cons _ _ v vs hx h=>
   cases i with
   |zero=>simp at hi;subst hi;exact⟨v,rfl,hx⟩
   |succ i=>simp at hi;obtain⟨w,h1,h2⟩:=ih h hi;exact⟨w,by simpa using h1,h2⟩
theorem aF.append {C xs ys}:∀ {vs ws:List Value},aF C xs vs→aF C ys ws→aF C (xs++ys) (vs++ws):=by
 induction xs with
 |nil=>intro vs ws h k;cases h;exact k
 |cons x xs ih=>intro vs ws h k;cases h with|cons _ _ v vs hx h=>exact .cons _ _ _ _ hx (ih h k)
theorem aF.take {C xs}:∀ {vs:List Value} (n:Nat),aF C xs vs→aF C (xs.take n) (vs.take n):=by
 induction xs with
 |nil=>intro vs n h;cases h;simpa using ay.nil
 |cons x xs ih=>intro vs n h;cases h with|cons _ _ v vs hx h=>cases n with
  |zero=>simpa using ay.nil
  |succ n=>exact .cons _ _ _ _ hx (ih n h)
theorem aF.drop {C xs}:∀ {vs:List Value} (n:Nat),aF C xs vs→aF C (xs.drop n) (vs.drop n):=by
 induction xs with
 |nil=>intro vs n h;cases h;simpa using ay.nil
 |cons x xs ih=>intro vs n h;cases h with|cons _ _ v vs hx h=>cases n with
  |zero=>exact .cons _ _ _ _ hx h
  |succ n=>simpa using ih n h
theorem bO.get {C r xs}:∀ {o:Nat},bO C r xs o→∀ {i:Nat} {x:AVal},xs[i]?=I x→∃v,C.K r (o+i)=I v∧bp C x v:=by
 induction xs with
 |nil=>intro o _ i x h;simp at h
 |cons y ys ih=>
  intro o h i x hi
  cases h with
  |cV _ _ _ _ v hv hx h=>
   cases i with
   |zero=>simp at hi;subst hi;exact⟨v,hv,hx⟩
   |succ i=>simp at hi;obtain⟨w,h1,h2⟩:=ih h hi;exact⟨w,by rw[show o+(i+1)=o+1+i from by omega];exact h1,h2⟩
theorem bO.drop {C r xs}:∀ {o:Nat} (n:Nat),bO C r xs o→bO C r (xs.drop n) (o+n):=by
 induction xs with
 |nil=>intro o n h;simpa using ay.gu r (o+n)
 |cons x xs ih=>intro o n h;cases h with|cV _ _ _ _ v hv hx h=>cases n with
  |zero=>exact .cV _ _ _ _ _ hv hx h
  |succ n=>have:=ih n h;rw[show o+(n+1)=o+1+n from by omega];simpa using this
theorem bO.take {C r xs}:∀ {o:Nat} (n:Nat),bO C r xs o→bO C r (xs.take n) o:=by
 induction xs with
 |nil=>intro o n h;simpa using ay.gu r o
 |cons x xs ih=>intro o n h;cases h with|cV _ _ _ _ v hv hx h=>cases n with
  |zero=>simpa using ay.gu r o
  |succ n=>exact .cV _ _ _ _ _ hv hx (ih n h)
theorem bO.append {C r xs ys}:∀ {o:Nat},bO C r xs o→bO C r ys (o+xs.length)→bO C r (xs++ys) o:=by
 induction xs with
 |nil=>intro o _ k;simpa using k
 |cons x xs ih=>intro o h k;cases h with|cV _ _ _ _ v hv hx h=>exact .cV _ _ _ _ _ hv hx (ih h (by simpa[N5,Nat.add_comm 1]using k))
theorem aO.get {C r sz xs}:∀ {o:Nat},aO C r sz xs o→∀ {i:Nat} {x:AVal},xs[i]?=I x→bO C r x.flat (o+i*sz):=by
 induction xs with
 |nil=>intro o _ i x h;simp at h
 |cons y ys ih=>
  intro o h i x hi
  cases h with
  |cO _ _ _ _ _ hs hx h=>
   cases i with
   |zero=>simp at hi;subst hi;simpa using hx
   |succ i=>simp at hi;have:=ih h hi;rw[show o+(i+1)*sz=o+sz+i*sz from by rw[Ha];omega];exact this
theorem aO.drop {C r sz xs}:∀ {o:Nat} (n:Nat),aO C r sz xs o→aO C r sz (xs.drop n) (o+n*sz):=by
 induction xs with
 |nil=>intro o n h;simpa using ay.eY r sz (o+n*sz)
 |cons x xs ih=>intro o n h;cases h with|cO _ _ _ _ _ hs hx h=>cases n with
  |zero=>simpa using ay.cO _ _ _ _ _ hs hx h
  |succ n=>have:=ih n h;rw[show o+(n+1)*sz=o+sz+n*sz from by rw[Ha];omega];simpa using this
theorem aO.take {C r sz xs}:∀ {o:Nat} (n:Nat),aO C r sz xs o→aO C r sz (xs.take n) o:=by
 induction xs with
 |nil=>intro o n h;simpa using ay.eY r sz o
 |cons x xs ih=>intro o n h;cases h with|cO _ _ _ _ _ hs hx h=>cases n with
  |zero=>simpa using ay.eY r sz o
  |succ n=>exact .cO _ _ _ _ _ hs hx (ih n h)
theorem aO.append {C r sz xs ys}:∀ {o:Nat},aO C r sz xs o→aO C r sz ys (o+xs.length*sz)→aO C r sz (xs++ys) o:=by
 induction xs with
 |nil=>intro o _ k;simpa using k
 |cons x xs ih=>
  intro o h k
  cases h with
  |cO _ _ _ _ _ hs hx h=>
   refine .cO _ _ _ _ _ hs hx (ih h ?_)
   have e:o+sz+xs.length*sz=o+(x::xs).length*sz:=by simp[Ha];omega
   rw[e];exact k
theorem aO.sized {C r sz xs}:∀ {o:Nat},aO C r sz xs o→∀x∈xs,x.flat.length=sz:=by
 induction xs with
 |nil=>intro o _ x hx;cases hx
 |cons y ys ih=>
  intro o h x hx
  cases h with
  |cO _ _ _ _ _ hs _ h=>
   rcases Oc.1 hx with rfl|hx
   ·exact hs
   ·exact ih h x hx
theorem aO.cells {C r sz xs}:∀ {o:Nat},aO C r sz xs o→bO C r (xs.flatMap AVal.flat) o:=by
 induction xs with
 |nil=>intro o _;exact .gu _ _
 |cons x xs ih=>
  intro o h
  cases h with
  |cO _ _ _ _ _ hs hx h=>
   simp only[Ib]
   refine bO.append hx ?_
   rw[hs]
   exact ih h
theorem aO.ea {C r sz xs}:∀ {o:Nat},bO C r (xs.flatMap AVal.flat) o→(∀x∈xs,x.flat.length=sz)→aO C r sz xs o:=by
 induction xs with
 |nil=>intro o _ _;exact .eY _ _ _
 |cons x xs ih=>
  intro o h hl
  simp only[Ib]at h
  have h1:=bO.take (x.flat.length) h
  have h2:=bO.drop (x.flat.length) h
  rw[List.take_left' rfl]at h1
  rw[List.drop_left' rfl,hl x (by simp)]at h2
  exact .cO _ _ _ _ _ (hl x (by simp)) h1 (ih h2 fun y hy=>hl y (by simp[hy]))
theorem bO.vals {C r xs}:∀ {o:Nat},bO C r xs o→∃vs,aF C xs vs∧∀j v,vs[j]?=I v→C.K r (o+j)=I v:=by
 induction xs with
 |nil=>intro o _;exact⟨[],.nil,by simp⟩
 |cons x xs ih=>
  intro o h
  cases h with
  |cV _ _ _ _ v hv hx h=>
   obtain⟨vs,h1,h2⟩:=ih h
   refine⟨v::vs,.cons _ _ _ _ hx h1,?_⟩
   intro j u hj
   cases j with
   |zero=>simp at hj;subst hj;exact hv
   |succ j=>simp at hj;rw[show o+(j+1)=o+1+j from by omega];exact h2 j u hj
inductive Loc where
 |slot (s:Nat)
 |cell (b j:Nat)
 deriving DecidableEq
def eb (sz:Nat)(xs:List AVal)(cells:Array Value)(elem:TypeId)(len cap:Nat):Prop:=
 ∀(e:Nat) (l:List UInt8),sz=0→xs=[.int .u64 (e:Int),.str l]→elem=e∧len=l.length∧len≤cap∧cap≤maxLen∧cells.size=cap∧cells.toList.take len=l.map fun b=>Value.int .u8 b.toNat
theorem eb.pos {sz xs cells}{elem:TypeId}{len cap}(h:0<sz):eb sz xs cells elem len cap:=fun _ _ h0=>by omega
theorem eb.sized {sz xs cells}{elem:TypeId}{len cap}(h:∀x∈xs,x.flat.length=sz):eb sz xs cells elem len cap:=fun e l h0 hx=>by
 have:=h (.str l) (by rw[hx];simp)
 simp[AVal.flat,h0]at this
def aB (C:az)(ω:Nat→Option Loc)(w:World)(B:Nat)(ℓ:Loc):AVal→Value→Prop
 | .list _ sz xs,.slice (I a) len cap=>ω a.block=I ℓ∧(B≤a.block∨C.W a.block)∧(∀b,C.β b≠I a.block)∧a.spot=Ea∧a.off=0 ∧
   (∃cells elem,w.heap[a.block]?=I (.cells cells elem (0,0))∧a.off+cap*sz≤cells.size∧eb sz xs cells elem len cap)∧∀o,a.off+len*sz≤o→C.K a.block o=Ea
 | .ct n,.pointer (I a)=>ω a.block=I ℓ∧(B≤a.block∨C.W a.block)∧(∀b,C.β b≠I a.block)∧a.spot=Ea∧a.off=0 ∧
   (∃cells elem,w.heap[a.block]?=I (.cells cells elem (0,0))∧a.off+n*1≤cells.size∧eb 0 [] cells elem 0 0)∧∀o,a.off+0*0≤o→C.K a.block o=Ea
 |_,_=>True
structure Ext (w w':World):Prop where
 size:w.heap.size≤w'.heap.size
 same:∀r,r<w.heap.size→w'.heap[r]?=w.heap[r]?
 os:w'.os=w.os
 output:w'.output=w.output
theorem Ext.refl (w:World):Ext w w:=⟨Hb _,fun _ _=>rfl,rfl,rfl⟩
theorem Ext.get {w w':World}(h:Ext w w'){r:Nat}{o}(hr:w.heap[r]?=I o):w'.heap[r]?=I o:=by
 rw[h.same r (Gc.1 hr).1];exact hr
theorem Ext.trans {a b c}(h:Ext a b)(k:Ext b c):Ext a c where
 size:=Nat.le_trans h.size k.size
 same r hr:=by rw[k.same r (H2 hr h.size),h.same r hr]
 os:=k.os.trans h.os
 output:=k.output.trans h.output
theorem rP (w:World)(o:Obj)(r:Nat):(w.alloc o).heap[r]?=if r=w.heap.size then I o else w.heap[r]?:=by
 show(w.heap.push o)[r]?=_
 rw[Array.getElem?_push]
theorem Ext.alloc (w:World)(o:Obj)(ho:∀c t fr,o=.cells c t fr→fr=(0,0)):Ext w (w.alloc o) where
 size:=by rw[World.size_alloc];omega
 same r hr:=by rw[rP,if_neg (by omega)]
 os:=rfl
 output:=rfl
theorem Ext.drew (w:World):Ext w w.drew:=⟨Hb _,fun _ _=>rfl,rfl,rfl⟩
theorem Ext.cell {w w':World}(h:Ext w w'){a:Addr}{v}(hc:w.cell? a=I v):w'.cell? a=I v:=by
 unfold World.cell? at *
 cases hr:w.heap[a.block]? with
 |none=>rw[hr]at hc;cases hc
 |some o=>rw[h.get hr];rw[hr]at hc;exact hc
theorem aB.ext {C:az}{ω:Nat→Option Loc}{w w' B ℓ x v}(h:Ext w w')(ho:aB C ω w B ℓ x v):aB C ω w' B ℓ x v:=by
 unfold aB at *
 split at ho
 ·obtain⟨h1,h2,h3,h4,h8,⟨cells,elem,h5,h6⟩,h7⟩:=ho
  exact⟨h1,h2,h3,h4,h8,⟨cells,elem,h.get h5,h6⟩,h7⟩
 ·obtain⟨h1,h2,h3,h4,h8,⟨cells,elem,h5,h6⟩,h7⟩:=ho
  exact⟨h1,h2,h3,h4,h8,⟨cells,elem,h.get h5,h6⟩,h7⟩
 ·trivial
inductive bU (C:az):List (AVal×AVal)→List MapEntry→Prop where
 |nil:bU C [] []
 |cons (k v:AVal) (es:List (AVal×AVal)) (m:MapEntry) (ms:List MapEntry) (hk:bp C k m.key) (hv:bp C v m.val) (h:bU C es ms):bU C ((k,v)::es) (m::ms)
theorem bU.imp {C C'}(h:(∀r o v,C.K r o=some v→C'.K r o=some v)∧(∀b r,C.β b=some r→C'.β b=some r)){es ms}(hr:bU C es ms)(hT:∀q,C.T q→C'.T q:=by first|exact fun _ h=>h|exact fun _ h=>False.elim h):bU C' es ms:=by
 induction hr with
 |nil=>exact .nil
 |cons k v es m ms hk hv _ ih=>exact .cons k v es m ms (ay.imp h hk hT) (ay.imp h hv hT) ih
theorem bU.mono {C C'}(h:C.le C'){es ms}(hr:bU C es ms):bU C' es ms:=hr.imp ⟨h.k,h.b⟩ h.t
def aM (C:az)(e:Env)(tmps:Array Value):Prop:=∀s x,ja s e=I x→∃v,tmps[s]?=I v∧bp C x.1 v
def CR (P:Program)(nt:Nat)(c:Code)(a:au):Prop:=∃h,yo P h nt c=I a
structure bP (P:Program)(C:az)(l:W4)(lp:Loop):Prop where
 assign:CR P lp.tmps.size lp.assign l.assign
 body:CR P lp.tmps.size lp.body l.body
 params:lp.params.toList=l.params
 fits:∀t∈l.params,t<lp.tmps.size
 nr:za l.assign=Ec∧za l.body=Ec
 env:aM C l.env lp.tmps
 state:lp.state=match l.pending with
  |none=>.ready
  |some .normal=>.busy
  |some _=>.done
 pending:lp.pending=match l.pending with
  |none=>Ea
  |some .normal=>Ea
  |some (.exit id)=>I (.exit id)
  |some .ret=>I .ret
def dE (K:Nat→Nat→Option Value)(w:World)(q sz:Nat)(xs:List AVal)(cap:Nat):Prop:=
 ∃cells t vs,w.heap[q]?=I (.cells cells t (0,0))∧xs.length≤cap∧cap*sz≤cells.size∧(∀x∈xs,x.flat.length=sz)∧aF (.bw K) (xs.flatMap AVal.flat) vs ∧
  (∀(j:Nat) v,vs[j]?=I v→cells[j]?=I v)∧∀v∈vs,v.oneCell'=Ec
theorem dE.imp {K K' w w' q sz cap xs}(hK:∀r o v,K r o=I v→K' r o=I v)(hw:w'.heap[q]?=w.heap[q]?)(h:dE K w q sz xs cap):dE K' w' q sz xs cap:=by
 obtain⟨cells,t,vs,h1,h2,h3,h4,h5,h6⟩:=h
 exact⟨cells,t,vs,hw.trans h1,h2,h3,h4,ay.imp (C:=.bw K) (C':=.bw K') ⟨hK,fun _ _ h=>h⟩ h5,h6⟩
abbrev tq (C:az)(ω:Nat→Option Loc)(w:World)(B b q n cap:Nat):Prop:=aB C ω w B (.cell b 0) (.list Eb 0 []) (.slice (I ⟨q,0,Ea⟩) n cap)
def dv (C:az)(ω:Nat→Option Loc)(w:World)(B b r sz bm:Nat)(xs:List AVal):Prop:=
 ∃q cap,C.T (r,bm,q,cap)∧(∀x,C.T x→x.1=r→x.2.1≤bm∧(x.2.1=bm→x.2.2=(q,cap)))∧dE C.K w q sz xs cap∧(q=r∨tq C ω w B b q xs.length cap)∧∃cs t,w.heap[r]?=I (.cells cs t (0,0))
theorem dv.imp {C C' ω ω' w w' B B' b r sz bm xs}(hK:∀r o v,C.K r o=I v→C'.K r o=I v)(hT:∀q,C.T q→C'.T q)(CS:∀x,C'.T x→x.1=r→C.T x)(hw:w'.heap[r]?=w.heap[r]?)
  (hq:∀q n cap,tq C ω w B b q n cap→w'.heap[q]?=w.heap[q]?∧tq C' ω' w' B' b q n cap) (h:dv C ω w B b r sz bm xs):dv C' ω' w' B' b r sz bm xs:=by
 obtain⟨q,cap,h1,h2,h3,h4,cs,t,h5⟩:=h
 refine⟨q,cap,hT _ h1,fun x hx hr=>h2 x (CS x hx hr) hr,?_,?_,cs,t,hw.trans h5⟩
 ·rcases h4 with rfl|h4
  ·exact h3.imp hK hw
  ·exact h3.imp hK (hq _ _ _ h4).1
 ·exact h4.imp id fun h=>(hq _ _ _ h).2
def aX (P:Program)(C:az)(ω:Nat→Option Loc)(w:World)(B b r:Nat):aJ→Prop
 | .hole=>False
 | .cells cs=>∃vs elem,w.heap[r]?=I (.cells vs elem (0,0))∧cs.length≤vs.size ∧
   ∀j c,cs[j]?=I c→∃v,vs[j]?=I v∧v.oneCell'=Ec∧bp C c.1 v∧(c.2=Ec→aB C ω w B (.cell b j) c.1 v)
 | .map es=>∃bE clock,w.heap[r]?=I (.map bE clock)∧bU C es bE.toList
 | .iter s pos=>w.heap[r]?=I (.stringIter ⟨⟨s⟩⟩ pos)
 | .loop l=>∃lp,w.heap[r]?=I (.loop lp)∧bP P C l lp
 | .fm t e l=>∃p v,w.heap[r]?=I (.cells #[p,v] t (0,0))∧(p=.pointer Ea∨p=.pointer (I ⟨r,0,Ea⟩))∧((v=.slice Ea 0 0∧l=[])∨∃a len cap,v=.slice (I a) len cap)∧aB C ω w B (.cell b 1) (.list Eb 0 [.int .u64 (e:Int),.str l]) v
 | .dead=>∃cs t,w.heap[r]?=I (.cells cs t (0,0))
 | .vec sz bm xs=>dv C ω w B b r sz bm xs
def l9 : String := "internal/strconv.uint64pow10"
def tr : String := "internal/bytealg.MaxLen"
def jo9 (P:Program)(w:World)(g:Nat):Prop:=
 (P.globalNamed l9=I g→Lib.TabIs P w l9 .u64 Lib.pow10Tab)∧(P.globalNamed tr=I g→∃m,w.cell? ⟨g,0,Ea⟩=I (.int .i64 m)) ∧
 (∀x∈AZ,P.globalNamed x.1=I g→∀j n,x.2[j]?=I n→w.cell? ⟨g,j,Ea⟩=I (.int .i64 n))
def NQ (P:Program)(g:Nat):Prop:=P.globalNamed l9=I g∨P.globalNamed tr=I g∨∃x∈AZ,P.globalNamed x.1=I g
def Tabs (P:Program)(w:World):Prop:=∀g,NQ P g→g<w.heap.size∧jo9 P w g
theorem Tabs.same {P w w'}(h:Tabs P w)(hs:w.heap.size≤w'.heap.size)(hg:∀g,NQ P g→w'.heap[g]?=w.heap[g]?):Tabs P w':=by
 intro g hn
 obtain⟨h1,h2,h3,h5⟩:=h g hn
 refine⟨H2 h1 hs,fun uW=>?_,fun uW=>?_,fun x hx uW j n hj=>?_⟩
 ·have h2:=h2 uW
  unfold Lib.TabIs World.var? at *
  rw[uW]at h2 ⊢
  simp only[Option.bind_some]at h2 ⊢
  rw[hg g hn]
  exact h2
 ·obtain⟨m,h4⟩:=h3 uW
  refine⟨m,?_⟩
  unfold World.cell? at *
  simp only[]at h4 ⊢
  rw[hg g hn]
  exact h4
 ·have h4:=h5 x hx uW j n hj
  unfold World.cell? at *
  simp only[]at h4 ⊢
  rw[hg g hn]
  exact h4
theorem Tabs.none {P w}(h:P.globalNamed l9=Ea∧P.globalNamed tr=Ea∧∀x∈AZ,P.globalNamed x.1=Ea):Tabs P w:=fun g hn=>by
 rcases hn with hn|hn|⟨x,hx,hn⟩
 ·rw[h.1]at hn;cases hn
 ·rw[h.2.1]at hn;cases hn
 ·rw[h.2.2 x hx]at hn;cases hn
def jz5 (P:Program)(w0:World)(C0:az):Prop:=Tabs P w0∧∀g,NQ P g→(∀b,C0.β b≠I g)∧¬C0.W g
structure aq (P:Program)(C:az)(ω:Nat→Option Loc)(w0:World)(C0:az)(h:ql)(w:World):Prop where
 base:jz5 P w0 C0
 know:∀r o v,C.K r o=I v→w.cell? ⟨r,o,Ea⟩=I v
 cE:∀r o v,C.K r o=I v→v.oneCell'=Ec
 apart:∀b r o,C.β b=I r→C.K r o=Ea
 inj:∀b b' r,C.β b=I r→C.β b'=I r→b=b'
 lt:∀b r,C.β b=I r→r<w.heap.size∧b<h.length
 size:w0.heap.size≤w.heap.size
 frame:∀r,r<w0.heap.size→(∀b,C0.β b≠I r)→¬C0.W r→w.heap[r]?=w0.heap[r]?
 eC:∀r,C.D r→w.heap[r]?=I (.deferred (I []))
 os:w.os=w0.os
 output:w.output=w0.output
 fresh:∀b r,C.β b=I r→C0.β b=I r∨w0.heap.size≤r∨C0.W r
 grown:C0.le C
 old:∀r o,r<w0.heap.size→¬C0.W r→C.K r o=C0.K r o
 box:∀b x r,h[b]?=I x→C.β b=I r→aX P C ω w w0.heap.size b r x
 gK:∀q,C.T q→q.1<w.heap.size
def ai (C:az)(ω:Nat→Option Loc)(w:World)(B:Nat)(e:Env)(tmps:Array Value):Prop:=
 ∀s x,ja s e=I x→∃v,tmps[s]?=I v∧bp C x.1 v∧(x.2=Ec→aB C ω w B (.slot s) x.1 v)
theorem ai.bJ {C ω w B e tmps}(h:ai C ω w B e tmps):aM C e tmps:=
 fun s x hx=>let ⟨v,h1,h2,_⟩:=h s x hx; ⟨v,h1,h2⟩
theorem aX.ext {P:Program}{C:az}{ω w w' B b r x}(h:Ext w w')(hb:aX P C ω w B b r x):aX P C ω w' B b r x:=by
 cases x with
 |hole=>exact hb
 |cells cs=>
  obtain⟨vs,elem,h1,h2,h3⟩:=hb
  exact⟨vs,elem,h.get h1,h2,fun j c hc=>let ⟨v,a,q,b,d⟩:=h3 j c hc; ⟨v,a,q,b,fun e=>(d e).ext h⟩⟩
 |map es=>obtain⟨bE,clock,h1,h2⟩:=hb;exact⟨bE,clock,h.get h1,h2⟩
 |iter s pos=>exact h.get hb
 |loop l=>obtain⟨lp,h1,h2⟩:=hb;exact⟨lp,h.get h1,h2⟩
 |fm t e l=>obtain⟨p,v,h1,h2,h3,h4⟩:=hb;exact⟨p,v,h.get h1,h2,h3,h4.ext h⟩
 |dead=>obtain⟨cs,t,h1⟩:=hb;exact⟨cs,t,h.get h1⟩
 |vec sz bm xs=>
  obtain⟨q,cap,h1,h2,h3,h4,cs,t,h5⟩:=hb
  have hex:∀ {k:Nat} {o:Obj},w.heap[k]?=I o→w'.heap[k]?=w.heap[k]?:=fun hk=>by rw[h.get hk,hk]
  refine⟨q,cap,h1,h2,h3.imp (fun _ _ _ h=>h) ?_,h4.imp id fun h4=>h4.ext h,cs,t,h.get h5⟩
  obtain⟨cells,t',_,g1,_⟩:=h3
  exact hex g1
theorem aq.tabs {P C ω w0 w C0 hp}(m:aq P C ω w0 C0 hp w):Tabs P w:=
 m.base.1.same m.size fun g hg=>m.frame g (m.base.1 g hg).1 (m.base.2 g hg).1 (m.base.2 g hg).2
theorem aq.ext {P:Program}{C:az}{ω w0 w w' C0 hp}(h:Ext w w')(m:aq P C ω w0 C0 hp w):aq P C ω w0 C0 hp w' where
 base:=m.base
 know r o v hk:=h.cell (m.know r o v hk)
 cE:=m.cE
 apart:=m.apart
 inj:=m.inj
 lt b r hb:=⟨H2 (m.lt b r hb).1 h.size,(m.lt b r hb).2⟩
 size:=Nat.le_trans m.size h.size
 frame r hr hn hw:=by rw[h.same r (H2 hr m.size)];exact m.frame r hr hn hw
 eC r hr:=h.get (m.eC r hr)
 os:=h.os.trans m.os
 output:=h.output.trans m.output
 fresh:=m.fresh
 grown:=m.grown
 old:=m.old
 box b x r hx hb:=(m.box b x r hx hb).ext h
 gK q hq:=H2 (m.gK q hq) h.size
theorem ai.ext {C ω w w' B e tmps}(h:Ext w w')(he:ai C ω w B e tmps):ai C ω w' B e tmps:=
 fun s x hx=>let ⟨v,a,b,d⟩:=he s x hx; ⟨v,a,b,fun e=>(d e).ext h⟩
def az.put (C:az)(r off:Nat)(vs:List Value):az:={ C with K:=fun b o=>if b=r∧off≤o∧o<off+vs.length then vs[o-off]? else C.K b o }
theorem az.fM {C:az}{r off}(vs:List Value)(h:∀o,off≤o→C.K r o=Ea):C.le (C.put r off vs):=
 ⟨fun b o v hk=>(by
  simp only[az.put]
  rw[if_neg]
  ·exact hk
  ·rintro ⟨rfl,h1,_⟩;rw[h o h1]at hk;cases hk),fun _ _ h=>h,rfl,fun _ h=>h,fun _ h=>h⟩
theorem az.uX {C:az}{r off vs j v}(h:vs[j]?=I v):(C.put r off vs).K r (off+j)=I v:=by
 have hj:j<vs.length:=(Jn.1 h).1
 show(if r=r∧off≤off+j∧off+j<off+vs.length then vs[off+j-off]? else C.K r (off+j))=I v
 rw[if_pos ⟨rfl,by omega,by omega⟩,show off+j-off=j from by omega,h]
theorem bO.gL {C r xs}:∀ {vs:List Value} {o:Nat},aF C xs vs→(∀j v,vs[j]?=I v→C.K r (o+j)=I v)→bO C r xs o:=by
 induction xs with
 |nil=>intro vs o _ _;exact .gu _ _
 |cons x xs ih=>
  intro vs o h hk
  cases h with
  |cons _ _ v vs hx h=>
   refine .cV _ _ _ _ v (by simpa using hk 0 v rfl) hx (ih h ?_)
   intro j u hj
   rw[show o+1+j=o+(j+1)from by omega]
   exact hk (j+1) u (by simpa using hj)
theorem az.eu {C:az}{r off xs vs}(hn:∀o,off≤o→C.K r o=Ea)(h:aF C xs vs):bO (C.put r off vs) r xs off:=
 bO.gL (ay.mono (az.fM vs hn) h) fun _ _ hj=>az.uX hj
theorem aq.iE {P C ω w0 w C0 hp}(m:aq P C ω w0 C0 hp w)(r:Nat)(hr:w.heap.size≤r)(o:Nat):C.K r o=Ea:=by
 cases h:C.K r o with
 |none=>rfl
 |some v=>
  have:=m.know r o v h
  unfold World.cell? at this
  rw[show w.heap[(⟨r,o,Ea⟩:Addr).block]?=Ea from Array.getElem?_eq_none hr]at this
  cases this
theorem aB.put {C ω w B r off ℓ x v}(vs:List Value)(hr:w.heap.size≤r∨ω r≠I ℓ)(ho:aB C ω w B ℓ x v):aB (C.put r off vs) ω w B ℓ x v:=by
 unfold aB at *
 split at ho
 ·rename_i a len cap
  obtain⟨h1,h2,h3,h4,h8,⟨cells,elem,h5,h6⟩,h7⟩:=ho
  have aC:a.block<w.heap.size:=(Gc.1 h5).1
  refine⟨h1,h2,h3,h4,h8,⟨cells,elem,h5,h6⟩,fun o ho=>?_⟩
  simp only[az.put]
  rw[if_neg]
  ·exact h7 o ho
  ·rintro ⟨rfl,_⟩
   rcases hr with hr|hr
   ·omega
   ·exact hr h1
 ·rename_i a
  obtain⟨h1,h2,h3,h4,h8,⟨cells,elem,h5,h6⟩,h7⟩:=ho
  have aC:a.block<w.heap.size:=(Gc.1 h5).1
  refine⟨h1,h2,h3,h4,h8,⟨cells,elem,h5,h6⟩,fun o ho=>?_⟩
  simp only[az.put]
  rw[if_neg]
  ·exact h7 o ho
  ·rintro ⟨rfl,_⟩
   rcases hr with hr|hr
   ·omega
   ·exact hr h1
 ·trivial
theorem bP.imp {P C C'}(h:(∀r o v,C.K r o=some v→C'.K r o=some v)∧(∀b r,C.β b=some r→C'.β b=some r)){l lp}(k:bP P C l lp)(hT:∀q,C.T q→C'.T q:=by first|exact fun _ h=>h|exact fun _ h=>False.elim h):bP P C' l lp:=
 { k with env:=fun s x hx=>let ⟨v,a,b⟩:=k.env s x hx; ⟨v,a,ay.imp h b hT⟩ }
theorem bP.mono {P C C'}(h:C.le C'){l lp}(k:bP P C l lp):bP P C' l lp:=k.imp ⟨h.k,h.b⟩ h.t
theorem aX.imp {P C C' ω ω' w w' B B' b r x}(h:(∀r o v,C.K r o=I v→C'.K r o=I v)∧(∀b r,C.β b=I r→C'.β b=I r))(hw:w'.heap[r]?=w.heap[r]?)
  (ho:∀j y v,aB C ω w B (.cell b j) y v→aB C' ω' w' B' (.cell b j) y v) (hb:aX P C ω w B b r x) (hT:∀q,C.T q→C'.T q:=by exact fun _ h=>h) (CS:∀x,C'.T x→x.1=r→C.T x:=by exact fun _ h _=>h)
  (hq:∀q n cap,tq C ω w B b q n cap→w'.heap[q]?=w.heap[q]?:=by exact fun _ _ _ _=>rfl):aX P C' ω' w' B' b r x:=by
 cases x with
 |hole=>exact hb
 |cells cs=>
  obtain⟨vs,elem,h1,h2,h3⟩:=hb
  exact⟨vs,elem,hw.trans h1,h2,fun j c hc=>let ⟨v,a,q,b,d⟩:=h3 j c hc; ⟨v,a,q,ay.imp h b hT,fun e=>ho _ _ _ (d e)⟩⟩
 |map es=>obtain⟨bE,clock,h1,h2⟩:=hb;exact⟨bE,clock,hw.trans h1,h2.imp h hT⟩
 |iter s pos=>exact hw.trans hb
 |loop l=>obtain⟨lp,h1,h2⟩:=hb;exact⟨lp,hw.trans h1,h2.imp h hT⟩
 |fm t e l=>obtain⟨p,v,h1,h2,h3,h4⟩:=hb;exact⟨p,v,hw.trans h1,h2,h3,ho _ _ _ h4⟩
 |dead=>obtain⟨cs,t,h1⟩:=hb;exact⟨cs,t,hw.trans h1⟩
 |vec sz bm xs=>exact dv.imp h.1 hT CS hw (fun q n cap k=>⟨hq q n cap k,ho _ _ _ k⟩) hb
theorem aX.mono {P C C' ω ω' w B b r x}(h:C.le C')
  (ho:∀j y v,aB C ω w B (.cell b j) y v→aB C' ω' w B (.cell b j) y v) (hb:aX P C ω w B b r x) (CS:∀x,C'.T x→x.1=r→C.T x:=by exact fun _ h _=>h):aX P C' ω' w B b r x:=hb.imp ⟨h.k,h.b⟩ rfl ho h.t CS
theorem aq.newRow {P:Program}{C ω w0 w C0 hp}(m:aq P C ω w0 C0 hp w)(cells:Array Value)(t:TypeId)(vs:List Value)
  (hv:∀(j:Nat) v,vs[j]?=I v→cells[j]?=I v) (h1:∀v∈vs,v.oneCell'=Ec):
  aq P (C.put w.heap.size 0 vs) ω w0 C0 hp (w.alloc (.cells cells t)):=by
 have hx:Ext w (w.alloc (.cells cells t)):=Ext.alloc w _ (fun c t fr h=>by cases h;rfl)
 have m':=m.ext hx
 have hn:∀o,C.K w.heap.size o=Ea:=m.iE _ (Hb _)
 have hle:=az.fM (C:=C) (off:=0) vs (fun o _=>hn o)
 refine { m' with know:=?_,cE:=?_,apart:=?_,grown:=az.le_trans m.grown hle,old:=?_,box:=?_ }
 ·intro r o v hk
  simp only[az.put]at hk
  split at hk
  ·rename_i hc
   obtain⟨rfl,_,_⟩:=hc
   simp only[World.cell?]
   rw[rP,if_pos rfl]
   simpa using hv _ _ hk
  ·exact m'.know r o v hk
 ·intro r o v hk
  simp only[az.put]at hk
  split at hk
  ·exact h1 v (List.mem_of_getElem? hk)
  ·exact m.cE r o v hk
 ·intro b r o hb
  have:=(m.lt b r hb).1
  simp only[az.put]
  rw[if_neg (by omega)]
  exact m.apart b r o hb
 ·intro r o hr hw
  have:=m.size
  simp only[az.put]
  rw[if_neg (by omega)]
  exact m.old r o hr hw
 ·intro b x r ew hb
  exact((m.box b x r ew hb).mono (ω':=ω) hle fun j y v ho=>ho.put vs (.inl (Hb _))).ext hx
theorem ai.put {C:az}{ω w B e tmps r off}(vs:List Value)(hr:w.heap.size≤r∨∀s,ja s e≠Ea→(ja s e).any (·.2)=Ec→ω r≠I (.slot s))(hn:∀o,off≤o→C.K r o=Ea)(he:ai C ω w B e tmps):ai (C.put r off vs) ω w B e tmps:=
 fun s x hx=>let ⟨v,a,b,d⟩:=he s x hx; ⟨v,a,ay.mono (az.fM vs hn) b,fun e=>(d e).put vs (hr.imp id fun h=>h s (by rw[hx];simp) (by rw[hx];exact e))⟩
def b4 (ω:Nat→Option Loc)(r:Nat)(ℓ:Loc):Nat→Option Loc:=fun b=>if b=r then I ℓ else ω b
theorem aB.other {C ω w B r ℓ ℓ' x v}(hr:ω r≠I ℓ∨ℓ=ℓ')(ho:aB C ω w B ℓ x v):aB C (Abs.b4 ω r ℓ') w B ℓ x v:=by
 unfold aB at *
 split at ho
 ·rename_i a len cap
  obtain⟨h1,h2⟩:=ho
  refine⟨?_,h2⟩
  simp only[Abs.b4]
  by_cases hb:a.block=r
  ·rw[if_pos hb]
   rcases hr with hr|hr
   ·exact absurd (hb▸h1) hr
   ·rw[hr]
  ·rw[if_neg hb];exact h1
 ·rename_i a
  obtain⟨h1,h2⟩:=ho
  refine⟨?_,h2⟩
  simp only[Abs.b4]
  by_cases hb:a.block=r
  ·rw[if_pos hb]
   rcases hr with hr|hr
   ·exact absurd (hb▸h1) hr
   ·rw[hr]
  ·rw[if_neg hb];exact h1
 ·trivial
theorem aB.fresh {C ω w B r ℓ ℓ' x v}(hr:w.heap.size≤r)(ho:aB C ω w B ℓ x v):aB C (Abs.b4 ω r ℓ') w B ℓ x v:=by
 unfold aB at *
 split at ho
 ·rename_i a len cap
  obtain⟨h1,h2,h3,h4,h8,⟨cells,elem,h5,h6⟩,h7⟩:=ho
  have aC:a.block<w.heap.size:=(Gc.1 h5).1
  refine⟨?_,h2,h3,h4,h8,⟨cells,elem,h5,h6⟩,h7⟩
  simp only[Abs.b4]
  rw[if_neg (by omega)]
  exact h1
 ·rename_i a
  obtain⟨h1,h2,h3,h4,h8,⟨cells,elem,h5,h6⟩,h7⟩:=ho
  have aC:a.block<w.heap.size:=(Gc.1 h5).1
  refine⟨?_,h2,h3,h4,h8,⟨cells,elem,h5,h6⟩,h7⟩
  simp only[Abs.b4]
  rw[if_neg (by omega)]
  exact h1
 ·trivial
theorem ai.fresh {C ω w B r ℓ e tmps}(hr:w.heap.size≤r)(he:ai C ω w B e tmps):ai C (Abs.b4 ω r ℓ) w B e tmps:=
 fun s x hx=>let ⟨v,a,b,d⟩:=he s x hx; ⟨v,a,b,fun e=>(d e).fresh hr⟩
theorem aq.iW {P C ω w0 w C0 hp}(m:aq P C ω w0 C0 hp w)(r:Nat)(ℓ:Loc)(hr:w.heap.size≤r):aq P C (Abs.b4 ω r ℓ) w0 C0 hp w:=
 { m with box:=fun b x r' hx hb=>(m.box b x r' hx hb).mono (az.le_refl C) fun _ _ _ ho=>ho.fresh hr }
theorem aq.b4 {P C ω w0 w C0 hp}(m:aq P C ω w0 C0 hp w)(r:Nat)(ℓ:Loc)(hr:∀b j,ω r≠I (.cell b j)):aq P C (Abs.b4 ω r ℓ) w0 C0 hp w:=
 { m with box:=fun b x r' hx hb=>(m.box b x r' hx hb).mono (az.le_refl C) fun j _ _ ho=>ho.other (.inl (hr b j)) }
def jt (P:Program)(C0:az)(w0:World)(C:az)(tmps:Array Value)(d:Loc)(env:Env)(res:aK)(v:Value)(w':World):Prop:=
 ∃C' ω',C.le C'∧aq P C' ω' w0 C0 res.heap w'∧ai C' ω' w' w0.heap.size (ze env res.strip) tmps∧bp C' res.v v∧(res.own=Ec→aB C' ω' w' w0.heap.size d res.v v)
theorem Xb (C:az){v x}(h:AX v=I x):bp C x v:=by
 unfold AX at h
 split at h<;>first|cases h|skip
 ·exact .bool _
 ·exact .int _ _
 ·exact .str _
 ·exact .ic _
 ·exact .bC
 ·exact .bB
 ·exact .bN
theorem Hm (C:az):∀ {vs:List Value} {xs:List AVal},rO vs=I xs→aF C xs vs
 | [],xs,h=>by simp[rO]at h;subst h;exact .nil
 |v::vs,xs,h=>by
  simp only[rO]at h
  split at h
  ·rename_i x hx
   split at h
   ·rename_i ys lA
    cases h
    exact .cons _ _ _ _ (Xb C hx) (Hm C lA)
   ·cases h
  ·cases h
theorem Xc (C:az){v x}(h:ofValue v=I x):bp C x v:=by
 unfold ofValue at h
 split at h
 ·rename_i cs
  split at h
  ·rename_i xs hx
   cases h
   exact .agg _ _ (Hm C hx)
  ·cases h
 ·exact Xb C h
section
variable {P:Program}{C C0:az}{ω:Nat→Option Loc}{w w0:World}{hp:ql}{env:Env}{a:Act}{B:Nat}
theorem qu {x y v}(he:aM C env a.tmps)(hc:qt x=I y)(hv:qg env y=I v):bp C v (a.eval x):=by
 cases x with
 |tmp t=>
  simp only[qt]at hc
  cases hc
  simp only[qg]at hv
  split at hv
  ·rename_i x hx
   cases hv
   obtain⟨u,h1,h2⟩:=he t x hx
   have:a.eval (.tmp t)=u:=by simp[Act.eval,Array.getD_eq_getD_getElem?,h1]
   rw[this];exact h2
  ·cases hv
 |const u=>
  simp only[qt]at hc
  split at hc
  ·rename_i z hz
   cases hc
   simp only[qg]at hv
   cases hv
   exact Xc C hz
  ·cases hc
 |func f=>
  simp only[qt]at hc
  cases hc
  simp only[qg]at hv
  cases hv
  exact .fn (.func f) (.func f) [] [] [] [] rfl .nil .nil
 |global g=>simp[qt]at hc
theorem A4 (he:aM C env a.tmps):∀ {xs:List Operand} {ys:List jd} {vs:List AVal},nG xs=I ys→yg env ys=I vs→aF C vs (xs.map a.eval)
 | [],ys,vs,hc,hv=>by simp[nG]at hc;subst hc;simp[yg]at hv;subst hv;exact .nil
 |x::xs,ys,vs,hc,hv=>by
  simp only[nG]at hc
  split at hc
  ·rename_i y hy
   split at hc
   ·rename_i zs ot
    cases hc
    simp only[yg]at hv
    split at hv
    ·rename_i v mb
     split at hv
     ·rename_i us gg
      cases hv
      exact .cons _ _ _ _ (qu he hy mb) (A4 he ot gg)
     ·cases hv
    ·cases hv
   ·cases hc
  ·cases hc
theorem bp.cH {b v}(h:bp C (.bool b) v):v=.bool b:=by cases h;rfl
theorem bp.br {k n v}(h:bp C (.int k n) v):v=.int k n:=by cases h;rfl
theorem bp.bL {s v}(h:bp C (.str s) v):v=.string ⟨⟨s⟩⟩:=by cases h;rfl
theorem bp.cI {b o v}(h:bp C (.ptr b o) v):∃r,C.β b=I r∧v=.pointer (I ⟨r,o,Ea⟩):=by cases h;exact⟨_,‹_›,rfl⟩
theorem bp.ec {x v}(h:bp C (.ax x) v):∃r o,v=.pointer (I ⟨r,o,Ea⟩)∧bO C r x.flat o:=by cases h;exact⟨_,_,rfl,‹_›⟩
theorem bp.dO {cs v}(h:bp C (.agg cs) v):∃vs,v=.agg ⟨vs⟩∧aF C cs vs:=by cases h;exact⟨_,rfl,‹_›⟩
theorem bp.mc {cs v}(h:bp C (.av cs) v):∃vs,v=.tuple ⟨vs⟩∧aF C cs vs:=by cases h;exact⟨_,rfl,‹_›⟩
theorem bp.ef {b o len v}(h:bp C (.ms b o len) v):∃r cap,C.β b=I r∧len≤cap∧v=.slice (I ⟨r,o,Ea⟩) len cap:=by cases h;exact⟨_,_,‹_›,‹_›,rfl⟩
theorem bp.cu {n sz xs v}(h:bp C (.list n sz xs) v):
  (n=Ec∧xs=[]∧v=.slice Ea 0 0)∨(n=Eb∧∃r o cap,v=.slice (I ⟨r,o,Ea⟩) xs.length cap∧xs.length≤cap∧aO C r sz xs o)∨(n=Eb∧xs=[]∧∃a,a.spot≠Ea∧v=.slice (I a) 0 0):=by
 cases h
 ·exact .inl ⟨rfl,rfl,rfl⟩
 ·exact .inr (.inl ⟨rfl,_,_,_,rfl,‹_›,‹_›⟩)
 ·exact .inr (.inr ⟨rfl,rfl,_,‹_›,rfl⟩)
theorem bp.len {n sz xs v}(h:bp C (.list n sz xs) v):∃b cap,v=.slice b xs.length cap:=by
 rcases h.cu with⟨rfl,rfl,rfl⟩|⟨rfl,r,o,cap,rfl,_,_⟩|⟨rfl,rfl,a,_,rfl⟩
 ·exact⟨Ea,0,rfl⟩
 ·exact⟨_,_,rfl⟩
 ·exact⟨_,_,rfl⟩
theorem add_lit (r o n:Nat):(⟨r,o,Ea⟩:Addr).add n=⟨r,o+n,Ea⟩:=by unfold Addr.add;split<;>simp_all
theorem rQ (k:IntKind)(n:Int):qh k n=k.wrap n:=by
 unfold qh
 cases h:oi k n with
 |false=>rfl
 |true=>
  simp only[cond_true]
  symm
  have key:∀m:Nat,IntKind.min k≤n→n≤IntKind.max k→k.wrap n=n:=by
   intro _ h1 h2
   unfold IntKind.wrap
   cases k<;>simp[IntKind.bits,IntKind.signed,IntKind.min,IntKind.max]at *<;>omega
  refine key 0 ?_ ?_
  ·cases k<;>cases n<;>simp[oi,IntKind.min,IntKind.signed,IntKind.bits]at *<;>omega
  ·cases k<;>cases n<;>simp[oi,IntKind.max,IntKind.signed,IntKind.bits]at *<;>omega
theorem A5 {t:TypeId}{b}(h:zn P t=I b)(w:World):(isAgg t).run P w=.ok b w:=by
 unfold zn at h
 unfold isAgg
 cases hu:P.underlying t with
 |none=>simp[hu]at h
 |some d=>rw[hu]at h;simp[run_underlying hu];cases d<;>simp at h<;>subst h<;>rfl
theorem zk {t:TypeId}{n}(h:jc P t=I n)(w:World):(sizeOf t).run P w=.ok n w:=by
 unfold jc at h
 cases hi:P.info? t with
 |none=>simp[hi]at h
 |some i=>simp[hi]at h;simp[sizeOf,typeInfo,hi,h]
theorem Xd {t:TypeId}{ag n off cs vs x}(hg:zn P t=I ag)(hn:jc P t=I n)(hp:part ag cs off n=I x)(hr:aF C cs vs)(w:World):
  ∃v,(Go.part t ⟨vs⟩ off).run P w=.ok v w∧bp C x v:=by
 unfold part at hp
 cases ag with
 |true=>
  simp only[cond_true]at hp
  cases hb:Ek (off+n) cs.length with
  |false=>simp[hb]at hp
  |true=>
   simp[hb]at hp
   subst hp
   refine⟨.agg ⟨(vs.drop off).take n⟩,?_,.agg _ _ ((hr.drop off).take n)⟩
   simp[Go.part,A5 hg,zk hn]
 |false=>
  simp only[cond_false]at hp
  obtain⟨v,h1,h2⟩:=hr.get hp
  exact⟨v,by simp[Go.part,A5 hg,h1],h2⟩
theorem Xe (a:List UInt8):(⟨⟨a⟩⟩:ByteArray).toList=a:=by
 rw[ByteArray.toList_eq]
end
theorem NR:∀ {ks:List Kd} {xs ys:List AVal} (CT:List Kd) (fh mf:List AVal),xs.length=ks.length→ys.length=ks.length →
  yd (ks++CT) (xs++fh) (ys++mf)=match yd ks xs ys with|some Ec=>yd CT fh mf|r=>r
 | [],[],[],CT,fh,mf,_,_=>by simp[yd]
 |k::ks,x::xs,y::ys,CT,fh,mf,h,h'=>by
  simp only[List.cons_append,yd]
  cases he:mX k x y with
  |none=>simp
  |some b=>cases b with
   |false=>simp
   |true=>simpa using NR CT fh mf (by simpa using h) (by simpa using h')
 | [],_::_,_,_,_,_,h,_=>by simp at h
 | [],[],_::_,_,_,_,_,h=>by simp at h
 |_::_,[],_,_,_,_,h,_=>by simp at h
 |_::_,_::_,[],_,_,_,_,h=>by simp at h
def qG (ag:Bool)(us:List Value):Value:=if ag then .agg ⟨us⟩else us.headD undef
def Hn:TypeDesc→Bool
 | .struct _=>Ec
 | .array _ _=>Ec
 |_=>Eb
section
variable {P:Program}{C:az}
theorem q7h {t:TypeId}{d:TypeDesc}(h:P.underlying t=I d):zn P t=I (Hn d):=by
 unfold zn
 rw[h]
 cases d<;>rfl
theorem Ho {t:TypeId}{ag n off us}(hg:zn P t=I ag)(hn:jc P t=I n)(h1:ag=Eb→n=1)(hl:off+n≤us.length)(w:World):
  (Go.part t ⟨us⟩ off).run P w=.ok (qG ag ((us.drop off).take n)) w:=by
 cases ag with
 |true=>simp[Go.part,A5 hg,zk hn,qG]
 |false=>
  obtain rfl:=h1 rfl
  have aC:off<us.length:=by omega
  simp only[Go.part,Sem.run_bind,A5 hg,Result.andThen_ok,qG,If,if_false]
  have e:(⟨us⟩:Array Value)[off]?=I us[off]:=by
   show(List.toArray us)[off]?=_
   rw[N1,List.getElem?_eq_getElem aC]
  rw[e,List.drop_eq_getElem_cons aC]
  rfl
def NS (P:Program)(C:az)(n:Nat)(t:TypeId)(ks:List Kd):Prop:=
 ∃ag,zn P t=I ag∧jc P t=I ks.length∧(ag=Eb→ks.length=1)∧∀d,n≤d→∀xs ys us vs b w,aF C xs us→aF C ys vs→xs.length=ks.length→ys.length=ks.length→yd ks xs ys=I b →
  (Op.equalIn d t (qG ag us) (qG ag vs)).run P w=.ok b w
theorem Hp {α:Type}(xs:List α)(off n:Nat):xs.drop off=(xs.drop off).take n++xs.drop (off+n):=by
 rw[←List.drop_drop];exact(List.take_append_drop _ _).symm
theorem Xf {n d}(hd:n≤d):∀(fs:List Field) (off:Nat) (ks:List Kd) (xs ys:List AVal) (us vs:List Value) (b:Bool) (w:World),
  CL (qF P n) off fs=I ks →
  (∀f∈fs,∀ks,qF P n f.type=I ks→NS P C n f.type ks) →
  aF C xs us→aF C ys vs→xs.length=off+ks.length→ys.length=off+ks.length→yd ks (xs.drop off) (ys.drop off)=I b →
  (Op.eqFields d ⟨us⟩ ⟨vs⟩ fs).run P w=.ok b w
 | [],off,ks,xs,ys,us,vs,b,w,hf,_,hx,hy,kD,ng,he=>by
  simp[CL]at hf
  subst hf
  rw[Ga (by simp at kD;omega),Ga (by simp at ng;omega)]at he
  simp[yd]at he
  subst he
  simp[Op.eqFields]
 |f::fs,off,ks,xs,ys,us,vs,b,w,hf,kE,hx,hy,kD,ng,he=>by
  simp only[CL]at hf
  split at hf
  ·rename_i hc
   simp at hc
   obtain⟨CU,rR⟩:=hc
   split at hf
   ·rename_i k1 fp
    split at hf
    ·rename_i k2 cS
     cases hf
     obtain⟨ag,cz,cr,h1,heq⟩:=kE f (by simp) k1 fp
     have CV:=hx.length
     have rS:=hy.length
     simp at kD ng
     have p1:=Ho (P:=P) (us:=us) (off:=f.offset) cz cr h1 (by omega) w
     have p2:=Ho (P:=P) (us:=vs) (off:=f.offset) cz cr h1 (by omega) w
     rw[Hp xs off k1.length,Hp ys off k1.length,NR _ _ _ (by simp;omega) (by simp;omega)]at he
     simp only[Op.eqFields,ne_eq,CU,not_false_eq_true,if_true,Sem.run_bind,p1,p2,Result.andThen_ok]
     rw[rR]
     cases hb:yd k1 ((xs.drop off).take k1.length) ((ys.drop off).take k1.length)with
     |none=>rw[hb]at he;cases he
     |some b1=>
      rw[hb]at he
      rw[heq d hd _ _ _ _ b1 w ((hx.drop off).take _) ((hy.drop off).take _) (by simp;omega) (by simp;omega) hb]
      cases b1 with
      |false=>simp at he;subst he;simp
      |true=>
       simp only[Result.andThen_ok,Od,If,if_false]
       exact Xf hd fs (off+k1.length) k2 xs ys us vs b w cS (fun g hg=>kE g (by simp[hg])) hx hy (by omega) (by omega) he
    ·cases hf
   ·cases hf
  ·cases hf
theorem Xg {n d}(hd:n≤d){e:TypeId}{ag k1}(cz:zn P e=I ag)(cr:jc P e=I k1.length)(h1:ag=Eb→k1.length=1)
  (heq:∀d,n≤d→∀xs ys us vs b w,aF C xs us→aF C ys vs→xs.length=k1.length→ys.length=k1.length→yd k1 xs ys=I b→(Op.equalIn d e (qG ag us) (qG ag vs)).run P w=.ok b w):
  ∀(len i:Nat) (xs ys:List AVal) (us vs:List Value) (b:Bool) (w:World),
  aF C xs us→aF C ys vs→xs.length=i*k1.length+len*k1.length→ys.length=i*k1.length+len*k1.length→yd (Hy len k1).flatten (xs.drop (i*k1.length)) (ys.drop (i*k1.length))=I b →
  (Op.eqItems d e k1.length ⟨us⟩ ⟨vs⟩ (List.range' i len)).run P w=.ok b w
 |0,i,xs,ys,us,vs,b,w,hx,hy,kD,ng,he=>by
  rw[Ga (by simp at kD;omega),Ga (by simp at ng;omega)]at he
  simp[yd]at he
  subst he
  simp[Op.eqItems]
 |len+1,i,xs,ys,us,vs,b,w,hx,hy,kD,ng,he=>by
  have CV:=hx.length
  have rS:=hy.length
  rw[Ha]at kD ng
  have p1:=Ho (P:=P) (us:=us) (off:=i*k1.length) cz cr h1 (by omega) w
  have p2:=Ho (P:=P) (us:=vs) (off:=i*k1.length) cz cr h1 (by omega) w
  rw[List.replicate_succ,List.flatten_cons,Hp xs (i*k1.length) k1.length,Hp ys (i*k1.length) k1.length,NR _ _ _ (by simp;omega) (by simp;omega)]at he
  simp only[List.range'_succ,Op.eqItems,Sem.run_bind,p1,p2,Result.andThen_ok]
  cases hb:yd k1 ((xs.drop (i*k1.length)).take k1.length) ((ys.drop (i*k1.length)).take k1.length)with
  |none=>rw[hb]at he;cases he
  |some b1=>
   rw[hb]at he
   rw[heq d hd _ _ _ _ b1 w ((hx.drop _).take _) ((hy.drop _).take _) (by simp;omega) (by simp;omega) hb]
   cases b1 with
   |false=>simp at he;subst he;simp
   |true=>
    simp only[Result.andThen_ok,Od,If,if_false]
    refine Xg hd cz cr h1 heq len (i+1) xs ys us vs b w hx hy (by rw[kD,Ha];omega) (by rw[ng,Ha];omega) ?_
    rw[Ha];exact he
theorem quv {t:TypeId}{n}(h:jc P t=I n):P.cellsOf t=n:=by
 unfold jc at h
 unfold Program.cellsOf
 rw[h];rfl
theorem qu8 {t:TypeId}{n}(h:jc P t=I n):∃i,P.info? t=I i∧i.size=n:=by
 unfold jc at h
 cases hi:P.info? t with
 |none=>simp[hi]at h
 |some i=>exact⟨i,rfl,by simpa[hi]using h⟩
theorem qzz {k x y b}(h:yd [k] [x] [y]=I b):mX k x y=I b:=by
 simp only[yd]at h
 split at h<;>simp_all
theorem Xh {xs us}(h:aF C xs us)(hl:xs.length=1):∃x u,xs=[x]∧us=[u]∧bp C x u:=by
 obtain⟨x,rfl⟩:=List.length_eq_one_iff.1 hl
 cases h with
 |cons _ _ u vs hx h=>cases h;exact⟨x,u,rfl,rfl,hx⟩
theorem qwv {k x y b u v}(h:mX k x y=I b)(hx:bp C x u)(hy:bp C y v):
  match k with
  | .int=>∃kd a c,u=.int kd a∧v=.int kd c∧b=(a == c)
  | .str=>∃a c:List UInt8,u=.string ⟨⟨a⟩⟩∧v=.string ⟨⟨c⟩⟩∧b=(a == c)
  | .bool=>∃a c,u=.bool a∧v=.bool c∧b=(a == c):=by
 unfold mX at h
 split at h
 ·rename_i k a k' c
  cases hx;cases hy
  by_cases hk:k=k'
  ·subst hk;simp at h;exact⟨_,_,_,rfl,rfl,h.symm⟩
  ·simp[hk]at h
 ·cases hx;cases hy;cases h;exact⟨_,_,rfl,rfl,rfl⟩
 ·cases hx;cases hy;cases h;exact⟨_,_,rfl,rfl,rfl⟩
 ·cases h
theorem qyc {t:TypeId}{k x y b u v}(hk:iV P t=I k)(h:mX k x y=I b)(hx:bp C x u)(hy:bp C y v)(d:Nat)(w:World):
  (Op.equalIn (d+1) t u v).run P w=.ok b w:=by
 have hc:=qwv h hx hy
 unfold iV at hk
 cases hu:P.underlying t with
 |none=>simp[hu]at hk
 |some D=>
  rw[hu]at hk
  cases D<;>simp at hk<;>subst hk<;>simp only[]at hc
  ·obtain⟨a,c,rfl,rfl,rfl⟩:=hc;exact run_equalIn_bool w d t a c hu
  ·obtain⟨kd,a,c,rfl,rfl,rfl⟩:=hc;exact run_equalIn_int w d t kd _ a c hu
  ·obtain⟨a,c,rfl,rfl,rfl⟩:=hc
   rw[run_equalIn_string w d t _ _ hu,Xe,Xe]
theorem NT:∀ (n:Nat) (t:TypeId) (ks:List Kd),qF P n t=I ks→NS P C n t ks
 |0,t,ks,h=>by simp[qF]at h
 |n+1,t,ks,h=>by
  unfold qF at h
  cases hu:P.underlying t with
  |none=>simp[hu]at h
  |some D=>
   rw[hu]at h
   have cz:=q7h hu
   have scalar:∀k,ks=[k]→jc P t=I 1→iV P t=I k→Hn D=Eb→NS P C (n+1) t ks:=by
    intro k hks hs hk ha
    subst hks
    refine⟨Eb,by rw[cz,ha],hs,fun _=>rfl,?_⟩
    intro d hd xs ys us vs b w hx hy kD ng he
    obtain⟨d,rfl⟩:∃m,d=m+1:=⟨d-1,by omega⟩
    obtain⟨x,u,rfl,rfl,uY⟩:=Xh hx kD
    obtain⟨y,v,rfl,rfl,hy1⟩:=Xh hy ng
    exact qyc hk (qzz he) uY hy1 d w
   cases D<;>simp only[]at h<;>first|(simp at h;done)|skip
   case int k=>
    split at h<;>first|cases h|skip
    rename_i hs
    exact scalar .int rfl (by simpa using hs) (by simp[iV,hu]) rfl
   case bool=>
    split at h<;>first|cases h|skip
    rename_i hs
    exact scalar .bool rfl (by simpa using hs) (by simp[iV,hu]) rfl
   case string=>
    split at h<;>first|cases h|skip
    rename_i hs
    exact scalar .str rfl (by simpa using hs) (by simp[iV,hu]) rfl
   case array len e=>
    split at h
    ·rename_i k1 fp
     split at h
     ·rename_i hs
      cases h
      obtain⟨ag,NU,cr,h1,heq⟩:=NT n e k1 fp
      have hlen:(Hy len k1).flatten.length=len*k1.length:=by simp[List.length_flatten]
      refine⟨Ec,by simpa[Hn]using cz,by rw[hlen];simpa using hs,(fun h=>by cases h),?_⟩
      intro d hd xs ys us vs b w hx hy kD ng he
      obtain⟨d,rfl⟩:∃m,d=m+1:=⟨d-1,by omega⟩
      obtain⟨i,hi,_⟩:=qu8 cr
      simp only[qG,if_true]
      rw[run_equalIn_array w d _ _ hu hi,quv cr,List.range_eq_range']
      exact Xg (by omega) NU cr h1 heq len 0 xs ys us vs b w hx hy (by rw[kD,hlen];omega) (by rw[ng,hlen];omega) (by simpa using he)
     ·cases h
    ·cases h
   case struct fs=>
    split at h
    ·rename_i k1 fp
     split at h
     ·rename_i hs
      cases h
      simp at hs
      obtain⟨hso,cr⟩:=hs
      refine⟨Ec,by simpa[Hn]using cz,cr,(fun h=>by cases h),?_⟩
      intro d hd xs ys us vs b w hx hy kD ng he
      obtain⟨d,rfl⟩:∃m,d=m+1:=⟨d-1,by omega⟩
      simp only[qG,if_true]
      have hf:P.fieldsOf t=fs:=by simp[Program.fieldsOf,hu]
      rw[run_equalIn_struct w d t _ _ (by rw[hf];exact hu) hso,hf]
      exact Xf (n:=n) (by omega) fs.toList 0 _ xs ys us vs b w fp (fun f _ ks hp=>NT n f.type ks hp) hx hy (by omega) (by omega) (by simpa using he)
     ·cases h
    ·cases h
end
section
variable {P:Program}{C:az}{w:World}{env:Env}{a:Act}{o:Oper}
def Val (P:Program)(C:az)(a:Act)(o:Oper)(w:World)(x:AVal):Prop:=∃v,(execOp a.eval o).run P w=.ok (.value v) w∧bp C x v
theorem q7i {x y v}(he:aM C env a.tmps)(ho:o.op=.move x∨o.op=.assign x)(hc:qt x=I y)(hv:qg env y=I v):Val P C a o w v:=by
 refine⟨a.eval x,?_,qu he hc hv⟩
 rcases ho with ho|ho<;>simp[execOp,ho]
theorem q94 {c x y c' x' y' b u v}(he:aM C env a.tmps)(ho:o.op=.pick c x y)(h1:qt c=I c')(h2:qt x=I x')(h3:qt y=I y')
  (e1:qg env c'=I (.bool b)) (e2:qg env x'=I u) (e3:qg env y'=I v):Val P C a o w (bif b then u else v):=by
 have r1:=(qu he h1 e1).cH
 have r2:=qu he h2 e2
 have r3:=qu he h3 e3
 refine⟨if b then a.eval x else a.eval y,by simp[execOp,ho,r1,asBool],?_⟩
 cases b<;>simpa
theorem Xi {x y v}(he:aM C env a.tmps)(ho:o.op=.nilCheck x)(hc:qt x=I y)(hv:qg env y=I v)
  (hk:(∃b p,v=.ptr b p)∨(∃z,v=.ax z)):Val P C a o w v:=by
 have r:=qu he hc hv
 rcases hk with⟨b,p,rfl⟩|⟨z,rfl⟩
 ·obtain⟨q,_,hq⟩:=r.cI
  exact⟨a.eval x,by simp[execOp,ho,hq],r⟩
 ·obtain⟨q,p,hq,_⟩:=r.ec
  exact⟨a.eval x,by simp[execOp,ho,hq],r⟩
theorem NV (op:BinOp)(k:IntKind)(x y:Int)(t:TypeId)(h1:op≠.shl)(h2:op≠.shr):binOp op t (.int k x) (.int k y)=match op with
  | .add | .sub | .mul=>Op.intArith op k x y
  | .quo | .rem=>Op.intDiv op k x y
  | .and | .or | .xor | .andNot=>Op.intBits op k x y
  |_=>Op.intCmp op x y:=by
 cases op<;>simp at h1 h2<;>simp[binOp]
theorem q4b {op k x y v}(h:lx op k x y=I v)(t:TypeId)(w:World):∃u,(binOp op t (.int k x) (.int k y)).run P w=.ok u w∧bp C v u:=by
 unfold lx at h
 cases op<;>simp only[]at h<;>first|(cases h;done)|skip
 case quo=>
  cases hy:(y == 0)with
  |true=>simp[hy]at h
  |false=>
   simp[hy]at h
   subst h
   have:y≠0:=by simpa using hy
   rw[rQ,NV _ _ _ _ _ (by simp) (by simp)]
   refine⟨_,?_,.int _ _⟩
   simp[Op.intDiv,this]
 case rem=>
  cases hy:(y == 0)with
  |true=>simp[hy]at h
  |false=>
   simp[hy]at h
   subst h
   have:y≠0:=by simpa using hy
   rw[NV _ _ _ _ _ (by simp) (by simp)]
   refine⟨_,?_,.int _ _⟩
   simp[Op.intDiv,this]
 all_goals (cases h;rw[NV _ _ _ _ _ (by simp) (by simp)];try rw[rQ])
 all_goals first
  |exact⟨_,rfl,.int _ _⟩
  |exact⟨_,rfl,.bool _⟩
theorem Xj:∀ (x y:List UInt8),bytesLess x y=Op.bytesLess x y
 |x,[]=>by cases x<;>rfl
 | [],_::_=>rfl
 |a::x,b::y=>by simp only[bytesLess,Op.bytesLess,Xj x y]
theorem q4a {op x y v}(h:AR op x y=I v)(t:TypeId)(w:World):∃u,(binOp op t (.string ⟨⟨x⟩⟩) (.string ⟨⟨y⟩⟩)).run P w=.ok u w∧bp C v u:=by
 unfold AR at h
 cases op<;>simp only[]at h<;>first|(cases h;done)|skip
 ·cases hb:Ek (x.length+y.length) 4611686018427387904 with
  |false=>simp[hb]at h
  |true=>
   simp[hb]at h
   subst h
   have hle:x.length+y.length≤4611686018427387904:=Hz hb
   refine⟨.string ⟨⟨x++y⟩⟩,?_,.str _⟩
   have e1:(⟨⟨x⟩⟩:ByteArray).size=x.length:=rfl
   have e2:(⟨⟨y⟩⟩:ByteArray).size=y.length:=rfl
   have e3:(⟨⟨x⟩⟩:ByteArray)++⟨⟨y⟩⟩=⟨⟨x++y⟩⟩:=by
    apply ByteArray.ext
    simp[ByteArray.data_append]
   simp only[binOp,Op.stringOp,e1,e2,e3,IntKind.max,IntKind.signed,IntKind.bits]
   rw[if_neg (by simp;omega)]
   rfl
 all_goals (cases h;refine⟨_,?_,.bool _⟩;simp[binOp,Op.stringOp,Xj])
theorem q2z {op x y v u u'}(h:zc op x y=I v)(hx:bp C x u)(hy:bp C y u')(t:TypeId)(w:World):∃z,(binOp op t u u').run P w=.ok z w∧bp C v z:=by
 unfold zc at h
 split at h
 ·rename_i k a k' b
  obtain rfl:=hx.br
  obtain rfl:=hy.br
  have hsh:∀(op:BinOp),(op=.shl∨op=.shr)→G9 op k a b=I v→∃z,(binOp op t (.int k a) (.int k' b)).run P w=.ok z w∧bp C v z:=by
   intro op hop h
   unfold G9 at h
   cases hb:decide (b<0)with
   |true=>simp[hb]at h
   |false=>
    have eO:¬b<0:=by simpa using hb
    rcases hop with rfl|rfl<;>simp[hb]at h<;>subst h
    ·rw[rQ]; (refine⟨_,?_,.int _ _⟩;simp[binOp,Op.shift,eO])
    ·(refine⟨_,?_,.int _ _⟩;simp[binOp,Op.shift,eO])
  have hin:op≠.shl→op≠.shr→(bif decide (k=k')then lx op k a b else Ea)=I v→∃z,(binOp op t (.int k a) (.int k' b)).run P w=.ok z w∧bp C v z:=by
   intro _ _ h
   by_cases hk:k=k'
   ·subst hk;simp at h;exact q4b h t w
   ·simp[hk]at h
  cases op<;>simp only[]at h<;>first|exact hsh _ (.inl rfl) h|exact hsh _ (.inr rfl) h|exact hin (by simp) (by simp) h
 ·obtain rfl:=hx.bL
  obtain rfl:=hy.bL
  exact q4a h t w
 ·cases h
theorem q0j (op:BinOp)(t:TypeId)(x y:Operand)(u v:Value)(w:World)(h1:¬(u=.nilIface∧v=.nilIface))(h2:(∀cs,u≠.agg cs)∨P.eqGuardType P.depth t=Eb):(eqGuard op t x y u v).run P w=.ok () w:=by
 unfold eqGuard
 by_cases hop:(!(match op with | .eql | .neq=>Ec|_=>Eb))=Ec
 ·cases op<;>simp_all
 ·cases op<;>simp at hop ⊢
  all_goals (
   split
   ·exact absurd ⟨rfl,rfl⟩ h1
   ·rcases h2 with h2|h2
    ·rename_i cs _ ;exact absurd rfl (h2 cs)
    ·simp[h2]
   ·rfl)
theorem Hq {op}{t u:TypeId}{x y p q z}(ho:o.op=.binOp op t x y u)(hx:a.eval x=p)(hy:a.eval y=q)(h1:¬(p=.nilIface∧q=.nilIface))(h2:(∀cs,p≠.agg cs)∨P.eqGuardType P.depth t=Eb)
  (hz:(binOp op t p q).run P w=.ok z w):(execOp a.eval o).run P w=.ok (.value z) w:=by
 have hg:=q0j (P:=P) op t x y p q w h1 h2
 subst hx;subst hy
 simp only[execOp,ho,Sem.run_bind,hg,Result.andThen_ok,hz,Sem.run_pure]
theorem qux {x v}(h:bp C x v)(hx:x≠.undef)(hy:x≠.any:=by simp):v≠.nilIface:=by
 cases h<;>simp at hx hy ⊢
theorem qu5 {op x y v}(h:zc op x y=I v):(x≠.undef∧(∀cs,x≠.agg cs)∧x≠.any):=by
 unfold zc at h
 split at h<;>simp at h ⊢
theorem qz8 {x v}(h:bp C x v)(hx:x≠.undef)(ha:∀cs,x≠.agg cs)(hy:x≠.any:=by simp):∀cs,v≠.agg cs:=by
 cases h<;>simp at hx ha hy ⊢
theorem jfb {op}{t u:TypeId}{x y x' y' p q v}(he:aM C env a.tmps)(ho:o.op=.binOp op t x y u)(h1:qt x=I x')(h2:qt y=I y')
  (e1:qg env x'=I p) (e2:qg env y'=I q) (hv:zc op p q=I v):Val P C a o w v:=by
 have r1:=qu he h1 e1
 have r2:=qu he h2 e2
 obtain⟨hn,ha,hy⟩:=qu5 hv
 obtain⟨z,hz,hr⟩:=q2z (P:=P) hv r1 r2 t w
 refine⟨z,?_,hr⟩
 exact Hq ho rfl rfl (fun h=>qux r1 hn hy h.1) (.inl (qz8 r1 hn ha hy)) hz
theorem NW {neq}{t:TypeId}{u v b}(w:World)(hu:(∀k n,u≠.int k n)∧(∀s,u≠.string s)∧(∀k n,u≠.float k n)∧(∀k n m,u≠.complex k n m))
  (h:(Op.equal t u v).run P w=.ok b w):(binOp (if neq then .neq else .eql) t u v).run P w=.ok (.bool (bif neq then !b else b)) w:=by
 obtain⟨h1,h2,h3,h4⟩:=hu
 cases neq<;>cases u<;>simp_all [binOp]
theorem jfa {op neq}{t u:TypeId}{x y x' y' p q ks b}(he:aM C env a.tmps)(ho:o.op=.binOp op t x y u)(hop:op=if neq then .neq else .eql)
  (h1:qt x=I x') (h2:qt y=I y') (e1:qg env x'=I (.agg p)) (e2:qg env y'=I (.agg q)) (hg:P.eqGuardType P.depth t=Eb) (hk:qF P He t=I ks) (cz:zn P t=I Ec)
  (lB:p.length=ks.length) (A6:q.length=ks.length) (hb:yd ks p q=I b):Val P C a o w (.bool (bif neq then !b else b)):=by
 obtain⟨us,hu,ru⟩:=(qu he h1 e1).dO
 obtain⟨vs,hv,rv⟩:=(qu he h2 e2).dO
 obtain⟨ag,ha,_,_,heq⟩:=NT (C:=C) He t ks hk
 rw[cz]at ha;cases ha
 have hq:=heq 10000 (by decide) p q us vs b w ru rv lB A6 hb
 simp only[qG,if_true]at hq
 refine⟨_,?_,.bool _⟩
 have ou:=NW (P:=P) (neq:=neq) (t:=t) (u:=.agg ⟨us⟩) (v:=.agg ⟨vs⟩) (b:=b) w ⟨by simp,by simp,by simp,by simp⟩ hq
 exact Hq (hop▸ho) hu hv (by simp) (.inr hg) ou
theorem jdx {op neq}{t u:TypeId}{x y x' y' p q}(he:aM C env a.tmps)(ho:o.op=.binOp op t x y u)(hop:op=if neq then .neq else .eql)
  (h1:qt x=I x') (h2:qt y=I y') (e1:qg env x'=I (.bool p)) (e2:qg env y'=I (.bool q)) (ht:P.underlying t=I .bool):Val P C a o w (.bool (bif neq then !(p == q)else p == q)):=by
 have hu:=(qu he h1 e1).cH
 have hv:=(qu he h2 e2).cH
 refine⟨_,?_,.bool _⟩
 have ou:=NW (P:=P) (neq:=neq) (t:=t) (u:=.bool p) (v:=.bool q) (b:=p == q) w ⟨by simp,by simp,by simp,by simp⟩ (run_equalIn_bool w 9999 t p q ht)
 exact Hq (hop▸ho) hu hv (by simp) (.inl (by simp)) ou
theorem q57 {op neq b}{t u:TypeId}{x y c}(ho:o.op=.binOp op t x y u)(hop:op=if neq then .neq else .eql)
  (hy:a.eval y=c) (aS:(∀k n,a.eval x≠.int k n)∧(∀s,a.eval x≠.string s)∧(∀k n,a.eval x≠.float k n)∧(∀k n m,a.eval x≠.complex k n m)) (cz:∀cs,a.eval x≠.agg cs) (uZ:a.eval x≠.nilIface)
  (h:(Op.equal t (a.eval x) c).run P w=.ok b w):Val P C a o w (.bool (bif neq then !b else b)):=by
 refine⟨_,?_,.bool _⟩
 have ou:=NW (P:=P) (neq:=neq) w aS h
 exact Hq (hop▸ho) rfl hy (fun h=>uZ h.1) (.inl cz) ou
theorem jiu {op}{t:TypeId}{x x' p v}(he:aM C env a.tmps)(ho:o.op=.unOp op t x)(h1:qt x=I x')(e1:qg env x'=I p)(hv:s7 op p=I v):Val P C a o w v:=by
 have r1:=qu he h1 e1
 unfold s7 at hv
 split at hv
 ·obtain hu:=r1.br
  cases hv
  rw[rQ]
  (refine⟨_,?_,.int _ _⟩;simp[execOp,ho,hu,Op.unary,Op.intArith])
 ·obtain hu:=r1.cH
  cases hv
  (refine⟨_,?_,.bool _⟩;simp[execOp,ho,hu,Op.unary])
 ·cases hv
theorem jby {s d:TypeId}{k k0 x x' k1 n}(he:aM C env a.tmps)(ho:o.op=.convert s d x)(hs:P.underlying s=I (.int k0))(hd:P.underlying d=I (.int k))
  (h1:qt x=I x') (e1:qg env x'=I (.int k1 n)):Val P C a o w (.int k (qh k n)):=by
 have hu:=(qu he h1 e1).br
 rw[rQ]
 (refine⟨_,?_,.int _ _⟩;simp[execOp,ho,hu,convert,run_underlying hs,run_underlying hd,Conv.intToInt])
theorem qz3 {s d:TypeId}{x x' v}(he:aM C env a.tmps)(ho:o.op=.convert s d x)(hs:P.underlying s=I .string)(hd:P.underlying d=I .string)
  (h1:qt x=I x') (e1:qg env x'=I v) (hv:∃l,v=.str l):Val P C a o w v:=by
 obtain⟨l,rfl⟩:=hv
 have r:=qu he h1 e1
 have hu:=r.bL
 exact⟨_,by simp[execOp,ho,hu,convert,run_underlying hs,run_underlying hd];rfl,by rw[←hu];exact r⟩
theorem qy1 {s d:TypeId}{x x' v k0}(he:aM C env a.tmps)(ho:o.op=.convert s d x)(hs:P.underlying s=I (.int k0))(hd:P.underlying d=I .string)
  (h1:qt x=I x') (e1:qg env x'=I v) (hv:∃l,v=.str l):Val P C a o w v:=by
 obtain⟨l,rfl⟩:=hv
 have r:=qu he h1 e1
 have hu:=r.bL
 exact⟨_,by simp[execOp,ho,hu,convert,run_underlying hs,run_underlying hd];rfl,by rw[←hu];exact r⟩
theorem qz1 {s d:TypeId}{x x' k0 k1 n}(he:aM C env a.tmps)(ho:o.op=.convert s d x)(hs:P.underlying s=I (.int k0))(hd:P.underlying d=I .string)
  (h1:qt x=I x') (e1:qg env x'=I (.int k1 n)):Val P C a o w (.str (Utf8.encode n).data.toList):=by
 have hu:=(qu he h1 e1).br
 exact⟨.string (Utf8.encode n),by simp[execOp,ho,hu,convert,run_underlying hs,run_underlying hd,Conv.intToString],.str _⟩
theorem qww {s d:TypeId}{x x' k1 n}(he:aM C env a.tmps)(ho:o.op=.convert s d x)(hs:P.underlying s=I .string)(hd:P.underlying d=I .string)
  (h1:qt x=I x') (e1:qg env x'=I (.int k1 n)):Val P C a o w (.str (Utf8.encode n).data.toList):=by
 have hu:=(qu he h1 e1).br
 exact⟨.string (Utf8.encode n),by simp[execOp,ho,hu,convert,run_underlying hs,run_underlying hd,Conv.intToString],.str _⟩
theorem q45 {t:TypeId}{x x' i fs f ag n cs v}(he:aM C env a.tmps)(ho:o.op=.field t x i)(ht:P.underlying t=I (.struct fs))(hf:fs[i]?=I f)
  (cz:zn P f.type=I ag) (hn:jc P f.type=I n) (h1:qt x=I x') (e1:qg env x'=I (.agg cs)) (hv:Abs.part ag cs f.offset n=I v):Val P C a o w v:=by
 obtain⟨us,hu,ru⟩:=(qu he h1 e1).dO
 obtain⟨z,hz,hr⟩:=Xd cz hn hv ru w
 refine⟨z,?_,hr⟩
 simp[execOp,ho,hu,Instr.field,run_underlying ht,hf,asAgg,hz]
theorem CW {n v j}(h:idx n v=I j):∃k,v=.int k (j:Int)∧j<n:=by
 unfold idx at h
 split at h
 ·rename_i k i
  cases hb:E3 i n with
  |false=>simp[hb]at h
  |true=>
   simp[hb]at h
   subst h
   exact⟨k,rfl,by have:=Hz hb;omega⟩
 ·cases h
theorem q7d {n v j}(h:AV n v=I j):∃k,v=.int k (j:Int)∧j≤n:=by
 unfold AV at h
 split at h
 ·rename_i k i
  cases hb:Ek i n with
  |false=>simp[hb]at h
  |true=>
   simp[hb]at h
   subst h
   exact⟨k,rfl,Hz hb⟩
 ·cases h
theorem q4v {t e:TypeId}{x i x' i' len n ag cs iv v j}(he:aM C env a.tmps)(ho:o.op=.index t x i)(ht:P.underlying t=I (.array len e))
  (cz:zn P e=I ag) (hn:jc P e=I n) (h1:qt x=I x') (h2:qt i=I i') (e1:qg env x'=I (.agg cs)) (e2:qg env i'=I iv) (hj:idx len iv=I j) (hv:Abs.part ag cs (j*n) n=I v):Val P C a o w v:=by
 obtain⟨us,hu,ru⟩:=(qu he h1 e1).dO
 obtain⟨k,rfl,aC⟩:=CW hj
 have hi:=(qu he h2 e2).br
 obtain⟨z,hz,hr⟩:=Xd cz hn hv ru w
 refine⟨z,?_,hr⟩
 simp[execOp,ho,hu,hi,Instr.index,asIntOf,run_underlying ht,aC,zk hn,hz]
theorem qwd {t:TypeId}{x i x' i' s iv j c}(he:aM C env a.tmps)(ho:o.op=.index t x i)(ht:P.underlying t=I .string)
  (h1:qt x=I x') (h2:qt i=I i') (e1:qg env x'=I (.str s)) (e2:qg env i'=I iv) (hj:idx s.length iv=I j) (hc:s[j]?=I c):Val P C a o w (.int .u8 c.toNat):=by
 have hu:=(qu he h1 e1).bL
 obtain⟨k,rfl,aC⟩:=CW hj
 have hi:=(qu he h2 e2).br
 refine⟨_,?_,.int _ _⟩
 have hb:(⟨⟨s⟩⟩:ByteArray)[j]?=I c:=by
  rw[getElem?_pos (ByteArray.mk ⟨s⟩) j aC]
  exact congrArg I (Jn.1 hc).2
 simp[execOp,ho,hu,hi,Instr.index,asIntOf,run_underlying ht,hb]
end
section
variable {P:Program}{C:az}{w:World}{env:Env}{a:Act}{o:Oper}
theorem qag {z:AVal}(h:z.isAgg=Eb):z.flat=[z]:=by cases z<;>simp[AVal.isAgg,AVal.flat]at *
theorem Xk {ag:Bool}{cs off n r q z}(hc:bO C r cs q)(hz:Abs.part ag cs off n=I z)(hx:Jg ag z.isAgg=Eb):bO C r z.flat (q+off):=by
 unfold Abs.part at hz
 cases ag with
 |true=>
  simp only[cond_true]at hz
  cases hb:Ek (off+n) cs.length with
  |false=>simp[hb]at hz
  |true=>simp[hb]at hz;subst hz;exact bO.take n (bO.drop off hc)
 |false=>
  simp only[cond_false]at hz
  rw[qag (by simpa using hx)]
  obtain⟨u,h1,h2⟩:=hc.get hz
  exact .cV _ _ _ _ u h1 h2 (.gu _ _)
theorem Xl {t:TypeId}{x x' i fs f ag n p v}(he:aM C env a.tmps)(ho:o.op=.fieldAddr t x i)(ht:P.underlying t=I (.struct fs))(hf:fs[i]?=I f)
  (hn:jc P f.type=I n) (u0:0<n) (h1:qt x=I x') (e1:qg env x'=I p)
  (hv:(∃b q,p=.ptr b q∧v=.ptr b (q+f.offset))∨(∃cs z,p=.ax (.agg cs)∧Abs.part ag cs f.offset n=I z∧Jg ag z.isAgg=Eb∧v=.ax z)):Val P C a o w v:=by
 have aY:∀r q,a.eval x=.pointer (I ⟨r,q,Ea⟩)→(execOp a.eval o).run P w=.ok (.value (.pointer (I ⟨r,q+f.offset,Ea⟩))) w:=by
  intro r q hq
  simp[execOp,ho,Instr.fieldAt,run_underlying ht,hf,hq,Instr.sureAddr,fieldPlace,zk hn,Nat.pos_iff_ne_zero.1 u0,add_lit]
 rcases hv with⟨b,q,rfl,rfl⟩|⟨cs,z,rfl,hz,hx,rfl⟩
 ·obtain⟨r,hr,hq⟩:=(qu he h1 e1).cI
  exact⟨_,aY r q hq,.ptr _ _ _ hr⟩
 ·obtain⟨r,q,hq,hc⟩:=(qu he h1 e1).ec
  exact⟨_,aY r q hq,.ax _ _ _ (Xk hc hz hx)⟩
theorem Xm {t e:TypeId}{x i x' i' sz p iv v}(he:aM C env a.tmps)(ho:o.op=.indexAddr t x i)(ht:P.underlying t=I (.slice e))
  (hn:jc P e=I sz) (h1:qt x=I x') (h2:qt i=I i') (e1:qg env x'=I p) (e2:qg env i'=I iv)
  (hv:(∃b q len j,p=.ms b q len∧idx len iv=I j∧v=.ptr b (q+j*sz))∨(∃nl xs z j,p=.list nl sz xs∧idx xs.length iv=I j∧xs[j]?=I z∧v=.ax z)):Val P C a o w v:=by
 have aY:∀r q len cap j,a.eval x=.slice (I ⟨r,q,Ea⟩) len cap→idx len iv=I j→(execOp a.eval o).run P w=.ok (.value (.pointer (I ⟨r,q+j*sz,Ea⟩))) w:=by
  intro r q len cap j hq hj
  obtain⟨k,rfl,aC⟩:=CW hj
  have hi:=(qu he h2 e2).br
  simp[execOp,ho,Instr.indexAt,run_underlying ht,hq,hi,asIntOf,zk hn,aC,add_lit]
 rcases hv with⟨b,q,len,j,rfl,hj,rfl⟩|⟨nl,xs,z,j,rfl,hj,hz,rfl⟩
 ·obtain⟨r,cap,hr,_,hq⟩:=(qu he h1 e1).ef
  exact⟨_,aY r q len cap j hq hj,.ptr _ _ _ hr⟩
 ·rcases(qu he h1 e1).cu with⟨rfl,rfl,hq⟩|⟨rfl,r,q,cap,hq,_,cA⟩|⟨rfl,rfl,_⟩
  ·simp at hz
  ·exact⟨_,aY r q _ cap j hq hj,.ax _ _ _ (cA.get hz)⟩
  ·simp at hz
theorem Xn {t e:TypeId}{x i x' i' len sz ag p iv v j}(he:aM C env a.tmps)(ho:o.op=.indexAddr t x i)(ht:P.underlying t=I (.array len e))
  (hn:jc P e=I sz) (h1:qt x=I x') (h2:qt i=I i') (e1:qg env x'=I p) (e2:qg env i'=I iv) (hj:idx len iv=I j)
  (hv:(∃b q,p=.ptr b q∧v=.ptr b (q+j*sz))∨(∃cs z,p=.ax (.agg cs)∧Abs.part ag cs (j*sz) sz=I z∧Jg ag z.isAgg=Eb∧v=.ax z)):Val P C a o w v:=by
 have aY:∀r q,a.eval x=.pointer (I ⟨r,q,Ea⟩)→(execOp a.eval o).run P w=.ok (.value (.pointer (I ⟨r,q+j*sz,Ea⟩))) w:=by
  intro r q hq
  obtain⟨k,rfl,aC⟩:=CW hj
  have hi:=(qu he h2 e2).br
  simp[execOp,ho,Instr.indexAt,run_underlying ht,hq,hi,asIntOf,Instr.sureAddr,zk hn,aC,add_lit]
 rcases hv with⟨b,q,rfl,rfl⟩|⟨cs,z,rfl,hz,hx,rfl⟩
 ·obtain⟨r,hr,hq⟩:=(qu he h1 e1).cI
  exact⟨_,aY r q hq,.ptr _ _ _ hr⟩
 ·obtain⟨r,q,hq,hc⟩:=(qu he h1 e1).ec
  exact⟨_,aY r q hq,.ax _ _ _ (Xk hc hz hx)⟩
theorem Hr {x x' d n j}(he:aM C env a.tmps)(hc:ly x=I x')(hb:eL env d n x'=I j):
  (x=Ea∧j=d)∨(∃y k,x=I y∧a.eval y=.int k (j:Int)∧j≤n):=by
 cases x with
 |none=>simp[ly]at hc;subst hc;simp[eL]at hb;exact .inl ⟨rfl,hb.symm⟩
 |some x=>
  simp only[ly]at hc
  split at hc
  ·rename_i z hz
   cases hc
   simp only[eL]at hb
   split at hb
   ·rename_i v hv
    obtain⟨k,rfl,hle⟩:=q7d hb
    exact .inr ⟨x,k,rfl,(qu he hz hv).br,hle⟩
   ·cases hb
  ·cases hc
theorem Hs {lo hi kF fN len cap i j isS}(he:aM C env a.tmps)(h1:ly lo=I kF)(h2:ly hi=I fN)(b2:eL env len len fN=I j)(b1:eL env 0 j kF=I i)(hc:len≤cap)(w:World):
  (Instr.sliceBounds isS len cap (lo.map a.eval) (hi.map a.eval) Ea).run P w=.ok (i,j,cap) w∧i≤j∧j≤len:=by
 have k2:j≤len:=by
  rcases Hr he h2 b2 with⟨_,rfl⟩|⟨_,_,_,_,h⟩
  ·exact Hb _
  ·exact h
 have k1:i≤j:=by
  rcases Hr he h1 b1 with⟨_,rfl⟩|⟨_,_,_,_,h⟩
  ·exact Nat.zero_le _
  ·exact h
 refine⟨?_,k1,k2⟩
 have hj:j≤cap:=by omega
 rcases Hr he h2 b2 with⟨rfl,rfl⟩|⟨y,k,rfl,hy,_⟩<;>rcases Hr he h1 b1 with⟨rfl,rfl⟩|⟨z,k',rfl,hz,_⟩
 ·simp[Instr.sliceBounds]
 ·simp[Instr.sliceBounds,hz,Instr.sliceBound,asIntOf,k1]
 ·simp[Instr.sliceBounds,hy,Instr.sliceBound,asIntOf,hj]
 ·simp[Instr.sliceBounds,hy,hz,Instr.sliceBound,asIntOf,hj,k1]
theorem Xo {t e:TypeId}{x lo hi x' kF fN sz i j p v}(he:aM C env a.tmps)(ho:o.op=.slice t x lo hi Ea)(ht:P.underlying t=I (.slice e))
  (hn:jc P e=I sz) (h1:qt x=I x') (h2:ly lo=I kF) (h3:ly hi=I fN) (e1:qg env x'=I p)
  (hv:(∃b q len,p=.ms b q len∧eL env len len fN=I j∧eL env 0 j kF=I i∧(i=0∨i<j)∧v=.ms b (q+i*sz) (j-i)) ∨
   (∃nl cD xs,p=.list nl cD xs∧(sz=cD∨xs=[])∧eL env xs.length xs.length fN=I j∧eL env 0 j kF=I i∧v=.list nl cD ((xs.take j).drop i))):Val P C a o w v:=by
 have aY:∀b len cap,a.eval x=.slice b len cap→len≤cap→eL env len len fN=I j→eL env 0 j kF=I i →
   (execOp a.eval o).run P w=.ok (.value (.slice (if cap=i then b else b.map (·.add (i*sz))) (j-i) (cap-i))) w∧i≤j∧j≤len:=by
  intro b len cap hq hle b2 b1
  obtain⟨hb,k1,k2⟩:=Hs (P:=P) (isS:=true) he h2 h3 b2 b1 hle w
  refine⟨?_,k1,k2⟩
  simp[execOp,ho,Instr.sliceAt,Instr.slice,run_underlying ht,hq,hb,zk hn]
 rcases hv with⟨b,q,len,rfl,b2,b1,ox,rfl⟩|⟨nl,cD,xs,rfl,cr,b2,b1,rfl⟩
 ·obtain⟨r,cap,hr,hle,hq⟩:=(qu he h1 e1).ef
  obtain⟨hw,k1,k2⟩:=aY _ len cap hq hle b2 b1
  refine⟨_,hw,?_⟩
  by_cases hc:cap=i
  ·rw[if_pos hc]
   obtain rfl:i=0:=by omega
   simpa using ay.ms b q (j-0) r (cap-0) hr (by omega)
  ·rw[if_neg hc]
   simp only[N9,add_lit]
   exact .ms _ _ _ _ _ hr (by omega)
 ·rcases(qu he h1 e1).cu with⟨rfl,rfl,hq⟩|⟨rfl,r,q,cap,hq,hle,cA⟩|⟨rfl,rfl,ad,jS,hq⟩
  ·obtain⟨hw,k1,k2⟩:=aY _ 0 0 hq (Hb _) b2 b1
   simp at k2
   obtain rfl:=k2
   obtain rfl:i=0:=by omega
   exact⟨_,hw,by simpa using ay.ic cD⟩
  ·obtain⟨hw,k1,k2⟩:=aY _ _ cap hq hle b2 b1
   refine⟨_,hw,?_⟩
   have hl:((xs.take j).drop i).length=j-i:=by simp;omega
   rw[←hl]
   by_cases hc:cap=i
   ·rw[if_pos hc]
    have iX:(xs.take j).drop i=[]:=Ga (by simp;omega)
    rw[iX]
    exact .list _ _ _ _ _ (by simp) (.eY _ _ _)
   ·rw[if_neg hc]
    simp only[N9,add_lit]
    refine .list _ _ _ _ _ (by rw[hl];omega) ?_
    rcases cr with rfl|rfl
    ·exact aO.drop i (aO.take j cA)
    ·simpa using ay.eY _ _ _
  ·obtain⟨hw,k1,k2⟩:=aY _ 0 0 hq (Hb _) b2 b1
   simp at k2
   obtain rfl:=k2
   obtain rfl:i=0:=by omega
   exact⟨_,hw,by simpa using ay.ie cD ad jS⟩
theorem qyf {t e:TypeId}{x lo hi x' kF fN len sz i j b q}(he:aM C env a.tmps)(ho:o.op=.slice t x lo hi Ea)(ht:P.underlying t=I (.array len e))
  (hn:jc P e=I sz) (h1:qt x=I x') (h2:ly lo=I kF) (h3:ly hi=I fN) (e1:qg env x'=I (.ptr b q)) (b2:eL env len len fN=I j) (b1:eL env 0 j kF=I i) (ox:i=0∨i<j):Val P C a o w (.ms b (q+i*sz) (j-i)):=by
 obtain⟨r,hr,hq⟩:=(qu he h1 e1).cI
 obtain⟨hb,k1,k2⟩:=Hs (P:=P) (isS:=false) he h2 h3 b2 b1 (Hb len) w
 refine⟨_,by simp[execOp,ho,Instr.sliceAt,Instr.sureAddr,run_underlying ht,hq,hb,zk hn];rfl,?_⟩
 by_cases hc:len=i
 ·rw[if_pos hc]
  obtain rfl:i=0:=by omega
  simpa using ay.ms b q (j-0) r (len-0) hr (by omega)
 ·rw[if_neg hc]
  simp only[add_lit]
  exact .ms _ _ _ _ _ hr (by omega)
theorem qut (s:List UInt8)(i j:Nat):(⟨⟨s⟩⟩:ByteArray).extract i j=⟨⟨(s.take j).drop i⟩⟩:=by
 apply ByteArray.ext
 rw[ByteArray.data_extract]
 apply Jq
 simp[List.extract_eq_take_drop,List.drop_take]
theorem qxn {t:TypeId}{x lo hi x' kF fN i j s}(he:aM C env a.tmps)(ho:o.op=.slice t x lo hi Ea)(ht:P.underlying t=I .string)
  (h1:qt x=I x') (h2:ly lo=I kF) (h3:ly hi=I fN) (e1:qg env x'=I (.str s)) (b2:eL env s.length s.length fN=I j) (b1:eL env 0 j kF=I i):Val P C a o w (.str ((s.take j).drop i)):=by
 have hq:=(qu he h1 e1).bL
 obtain⟨hb,k1,k2⟩:=Hs (P:=P) (isS:=false) he h2 h3 b2 b1 (Hb s.length) w
 have cr:(⟨⟨s⟩⟩:ByteArray).size=s.length:=rfl
 refine⟨.string ⟨⟨(s.take j).drop i⟩⟩,?_,.str _⟩
 simp[execOp,ho,Instr.sliceAt,Instr.slice,run_underlying ht,hq,cr,hb,qut]
theorem q2f {k xs ys fh mf us vs}(he:aM C env a.tmps)(ho:o.op=.makeFunc (.func k) xs ys)(h1:nG xs.toList=I fh)(h2:nG ys.toList=I mf)(e1:yg env fh=I us)(e2:yg env mf=I vs):
  Val P C a o w (.fn (.func k) us vs):=by
 refine⟨.func (.func k) (xs.map a.eval) (ys.map a.eval),by simp[execOp,ho,Instr.makeFunc],?_⟩
 have r1:=A4 he h1 e1
 have r2:=A4 he h2 e2
 have q1:xs.map a.eval=⟨xs.toList.map a.eval⟩:=by apply Jq;simp
 have q2:ys.map a.eval=⟨ys.toList.map a.eval⟩:=by apply Jq;simp
 rw[q1,q2]
 exact .fn _ _ _ _ _ _ rfl r1 r2
theorem NY {c x}{t:TypeId}{x' p n}(he:aM C env a.tmps)(ho:o.op=.call c)(dk:c.callee=.builtin .len)(dy:c.args.toList=[x])(dX:c.argTypes.toList=[t])
  (h1:qt x=I x') (e1:qg env x'=I p)
  (hv:(P.underlying t=I .string∧∃s,p=.str s∧n=s.length)∨((∃e,P.underlying t=I (.slice e))∧((∃nl sz xs,p=.list nl sz xs∧n=xs.length)∨(∃b q,p=.ms b q n)))):Val P C a o w (.int .i64 n):=by
 have ha:c.args=#[x]:=by apply Jq;simpa using dy
 have kG:c.argTypes=#[t]:=by apply Jq;simpa using dX
 refine⟨.int .i64 n,?_,.int _ _⟩
 simp only[execOp,ho,resolve,dk,ha,kG,Sem.run_bind,Sem.run_pure,Result.andThen_ok,invoke,builtin,Builtin.len_]
 rcases hv with⟨ht,s,rfl,rfl⟩|⟨⟨e,ht⟩,⟨nl,sz,xs,rfl,rfl⟩|⟨b,q,rfl⟩⟩
 ·have hq:=(qu he h1 e1).bL
  simp[run_underlying ht,hq,goInt]
  rfl
 ·obtain⟨b,cap,hq⟩:=(qu he h1 e1).len
  simp[run_underlying ht,hq,goInt]
 ·obtain⟨r,cap,_,_,hq⟩:=(qu he h1 e1).ef
  simp[run_underlying ht,hq,goInt]
theorem NZ {f:AVal→AVal→Option AVal}{g:Value→Value→Sem Value}(Xp:∀x y z u v,f x y=I z→bp C x u→bp C y v→∃q,(g u v).run P w=.ok q w∧bp C z q):
  ∀(ys:List AVal) (x z:AVal) (u:Value) (vs:List Value),lZ f x ys=I z→bp C x u→aF C ys vs→∃q,(vs.foldlM g u).run P w=.ok q w∧bp C z q
 | [],x,z,u,vs,h,hx,hy=>by
  cases hy
  simp[lZ]at h;subst h
  exact⟨u,rfl,hx⟩
 |y::ys,x,z,u,vs,h,hx,hy=>by
  cases hy with
  |cons _ _ v vs hy hr=>
   simp only[lZ]at h
   split at h
   ·rename_i z1 kH
    obtain⟨q,hq,rq⟩:=Xp x y z1 u v kH hx hy
    obtain⟨q2,hq2,rq2⟩:=NZ Xp ys z1 z q vs h rq hr
    exact⟨q2,by simp[List.foldlM_cons,hq,hq2],rq2⟩
   ·cases h
theorem Xq {c:Call}{fh:List jd}{p v:AVal}{ps:List AVal}{mx:Bool}(he:aM C env a.tmps)(ho:o.op=.call c)(dk:c.callee=.builtin (if mx then .max else .min))(h1:nG c.args.toList=I fh)(e1:yg env fh=I (p::ps))
  (hv:lZ (if mx then max2 else min2) p ps=I v):Val P C a o w v:=by
 have r1:=A4 he h1 e1
 have dF:(c.args.map a.eval).toList=c.args.toList.map a.eval:=by simp
 cases mx
 ·generalize hl:c.args.toList.map a.eval=l at r1
  cases r1 with
  |cons _ _ u us hu gg=>
   obtain⟨q,hq,rq⟩:=NZ (P:=P) (w:=w) (C:=C) (f:=min2) (g:=Builtin.min2) (fun x y z u v h hx hy=>by
    unfold min2 at h
    split at h<;>first|cases h|skip
    rename_i k n k' m
    by_cases hk:k=k'
    ·subst hk;simp at h;subst h
     obtain rfl:=hx.br
     obtain rfl:=hy.br
     exact⟨_,rfl,.int _ _⟩
    ·simp[hk]at h) ps p v u us (by simpa using hv) hu gg
   refine⟨q,?_,rq⟩
   simp only[If,if_false]at dk
   simp[execOp,ho,resolve,dk,invoke,builtin,Builtin.min_,hl,hq]
 ·generalize hl:c.args.toList.map a.eval=l at r1
  cases r1 with
  |cons _ _ u us hu gg=>
   obtain⟨q,hq,rq⟩:=NZ (P:=P) (w:=w) (C:=C) (f:=max2) (g:=Builtin.max2) (fun x y z u v h hx hy=>by
    unfold max2 at h
    split at h<;>first|cases h|skip
    rename_i k n k' m
    by_cases hk:k=k'
    ·subst hk;simp at h;subst h
     obtain rfl:=hx.br
     obtain rfl:=hy.br
     exact⟨_,rfl,.int _ _⟩
    ·simp[hk]at h) ps p v u us (by simpa using hv) hu gg
   refine⟨q,?_,rq⟩
   simp only[if_true]at dk
   simp[execOp,ho,resolve,dk,invoke,builtin,Builtin.max_,hl,hq]
theorem qz7 {x x' i vs v}(he:aM C env a.tmps)(ho:o.op=.extract x i)(h1:qt x=I x')(e1:qg env x'=I (.av vs))(hv:vs[i]?=I v):Val P C a o w v:=by
 obtain⟨us,hu,ru⟩:=(qu he h1 e1).mc
 obtain⟨u,h1,h2⟩:=ru.get hv
 exact⟨u,by simp[execOp,ho,hu,Instr.extract,h1],h2⟩
end
section
variable {P:Program}{C:az}{w:World}{env:Env}{a:Act}{o:Oper}
theorem vb {x v}(h:bp C x v)(hs:x.flat.all qk=Ec):aF C x.flat v.cells.toList:=by
 cases h<;>first
  |(simp only[AVal.flat,Value.cells];exact .cons _ _ _ _ (by constructor<;>assumption) .nil)
  |skip
 ·simpa[AVal.flat,Value.cells]
 all_goals first|done|exact absurd hs (by simp[AVal.flat,qk])|skip
theorem Xr (off:Nat):∀(l:List Value) (k:Nat) (cs:Array Value),off+k+l.length≤cs.size →
  ((l.zipIdx k).foldl (fun cs (x:Value×Nat)=>cs.setIfInBounds (off+x.2) x.1) cs).toList=cs.toList.take (off+k)++l++cs.toList.drop (off+k+l.length)
 | [],k,cs,_=>by simp
 |v::l,k,cs,h=>by
  simp only[List.zipIdx_cons,List.foldl_cons]
  simp at h
  rw[Xr off l (k+1) (cs.setIfInBounds (off+k) v) (by simp;omega)]
  have aC:off+k<cs.toList.length:=by simp;omega
  rw[Array.toList_setIfInBounds]
  have e1:(cs.toList.set (off+k) v).take (off+(k+1))=cs.toList.take (off+k)++[v]:=by
   rw[←N5,List.take_succ_eq_append_getElem (by simpa using aC),List.take_set,List.set_eq_of_length_le (by simp;omega),List.getElem_set_self]
  have e2:(cs.toList.set (off+k) v).drop (off+(k+1)+l.length)=cs.toList.drop (off+k+(v::l).length):=by
   rw[List.drop_set_of_lt (by omega)]
   congr 1
   simp;omega
  rw[e1,e2]
  simp
inductive A7 (C:az)(place:Nat→Option (Nat×Nat)):List (Nat×Value)→List (Nat×List AVal)→Prop where
 |nil:A7 C place [] []
 |cons (i:Nat) (v:Value) (off:Nat) (vs:List AVal) (ps:List (Nat×Value)) (qs:List (Nat×List AVal)) (h1:place i=I (off,vs.length)) (h2:aF C vs v.cells.toList) (h:A7 C place ps qs):A7 C place ((i,v)::ps) ((off,vs)::qs)
theorem Ht {place}:∀(ps:List (Nat×Value)) (qs:List (Nat×List AVal)) (xs ys:List AVal) (cs:Array Value),aF C xs cs.toList→iD xs qs=I ys →
  A7 C place ps qs →
  ∃ds,Instr.fill place cs ps=I ds∧aF C ys ds.toList
 | [],qs,xs,ys,cs,hx,hf,hp=>by
  cases hp
  simp[iD]at hf
  subst hf
  exact⟨cs,rfl,hx⟩
 |_::ps,qs,xs,ys,cs,hx,hf,hp=>by
  cases hp with
  |cons i v off vs _ qs CX hr Hu=>
   simp only[iD]at hf
   cases hb:Ek (off+vs.length) xs.length with
   |false=>simp[hb]at hf
   |true=>
    simp only[hb,cond_true]at hf
    have hle:=Hz hb
    have lB:=hx.length
    have A6:=hr.length
    simp at lB A6
    have oy:=Xr off v.cells.toList 0 cs (by simp;omega)
    have hz:v.cells.zipIdx.foldl (fun cs (x:Value×Nat)=>cs.setIfInBounds (off+x.2) x.1) cs=(v.cells.toList.zipIdx 0).foldl (fun cs (x:Value×Nat)=>cs.setIfInBounds (off+x.2) x.1) cs:=by
     rw[←Array.foldl_toList,Array.toList_zipIdx]
    obtain⟨ds,h1,h2⟩:=Ht (place:=place) ps qs _ ys (v.cells.zipIdx.foldl (fun cs (x:Value×Nat)=>cs.setIfInBounds (off+x.2) x.1) cs) (by
     rw[hz,oy]
     simp only[Nat.add_zero,Array.length_toList,A6]
     exact aF.append (aF.append (hx.take off) hr) (hx.drop _)) hf Hu
    refine⟨ds,?_,h2⟩
    simp only[Instr.fill,CX]
    rw[if_neg (by simp;omega)]
    exact h1
theorem N0 {place}(he:aM C env a.tmps):∀(ps:List (Nat×Operand)) (fi:List (Nat×Nat×jd)) (qs:List (Nat×List AVal)),ti P place ps=I fi→z8 env fi=I qs →
  A7 C place (ps.map fun x=>(x.1,a.eval x.2)) qs
 | [],fi,qs,hc,hv=>by
  simp[ti]at hc;subst hc
  simp[z8]at hv;subst hv
  exact .nil
 |(i,x)::ps,fi,qs,hc,hv=>by
  simp only[ti]at hc
  split at hc
  ·rename_i off n y r CX hy hr
   cases hc
   simp only[z8]at hv
   split at hv
   ·rename_i v mb
    cases hb:(En v.flat.length n&&v.flat.all qk)with
    |false=>simp[hb]at hv
    |true=>
     simp only[hb,cond_true]at hv
     simp only[N7]at hb
     split at hv
     ·rename_i r' iF
      cases hv
      have hl:=N4 hb.1
      exact .cons _ _ _ _ _ _ (by rw[CX,hl]) (vb (qu he hy mb) hb.2) (N0 he ps r r' hr iF)
     ·cases hv
   ·cases hv
  ·cases hc
theorem Xt {t:TypeId}{z}(h:zq P t=I z)(w:World):∃v,(zeroValue t).run P w=.ok v w∧aF C z v.cells.toList∧∃i,P.info? t=I i∧i.zero=I v:=by
 unfold zq at h
 split at h
 ·rename_i i hi
  split at h
  ·rename_i v hv
   exact⟨v,by simp[zeroValue,typeInfo,hi,hv],Hm C h,i,hi,hv⟩
  ·cases h
 ·cases h
theorem Xu {fs:Array Field}(w:World):∀(l:List Field),(∀f∈l,(jc P f.type).isSome)→(l.mapM fun(f:Field)=>(do pure (f.offset,←sizeOf f.type):Sem (Nat×Nat))).run P w=.ok (l.map fun f=>(f.offset,(jc P f.type).getD 0)) w
 | [],_=>rfl
 |f::l,h=>by
  obtain⟨n,hn⟩:=Jp.1 (h f (by simp))
  simp only[List.mapM_cons,Sem.run_bind,zk hn,Result.andThen_ok,Sem.run_pure,Xu (fs:=fs) w l (fun g hg=>h g (by simp[hg])),Oe,hn,Option.getD_some]
theorem qq3 {t:TypeId}{ps fs z fi qs cs}(he:aM C env a.tmps)(ho:o.op=.build t ps)(ht:P.underlying t=I (.struct fs))(hz:zq P t=I z)
  (hall:∀f∈fs.toList,(jc P f.type).isSome) (la:ti P (fun i=>match fs[i]? with|some f=>(jc P f.type).map fun n=>(f.offset,n)|none=>Ea) ps.toList=I fi) (hq:z8 env fi=I qs) (hf:iD z qs=I cs):Val P C a o w (.agg cs):=by
 obtain⟨zv,jT,b8,_⟩:=Xt (C:=C) hz w
 have hm:=Xu (P:=P) (fs:=fs) w fs.toList hall
 have oz:=N0 (P:=P) he ps.toList fi qs la hq
 have vd:(fun(i:Nat)=>match fs[i]? with|some f=>(jc P f.type).map fun n=>(f.offset,n)|none=>Ea)=fun(i:Nat)=>((fs.toList.map fun f=>(f.offset,(jc P f.type).getD 0)).toArray)[i]?:=by
  funext i
  have hm:∀f,fs[i]?=I f→f∈fs.toList:=fun f h=>by rw[Array.mem_toList_iff];exact Array.mem_of_getElem? h
  obtain⟨l⟩:=fs
  simp only[N1,List.getElem?_map]at hm ⊢
  cases h:l[i]? with
  |none=>rfl
  |some f=>
   obtain⟨n,hn⟩:=Jp.1 (hall f (hm f h))
   simp[hn]
 rw[vd]at oz
 obtain⟨ds,hd,hr⟩:=Ht (ps.toList.map fun x=>(x.1,a.eval x.2)) qs z cs zv.cells b8 hf oz
 refine⟨.agg ds,?_,.agg cs ds.toList hr⟩
 have kI:(fs.mapM fun(f:Field)=>(do pure (f.offset,←sizeOf f.type):Sem (Nat×Nat))).run P w=.ok ((fs.toList.map fun f=>(f.offset,(jc P f.type).getD 0)).toArray) w:=by
  rw[Array.mapM_eq_mapM_toList]
  simp only[Sem.run_map]
  rw[hm]
  rfl
 have A8:(ps.map fun(x:Nat×Operand)=>(x.1,a.eval x.2)).toList=ps.toList.map fun x=>(x.1,a.eval x.2):=by simp
 simp only[execOp,ho,Instr.build,Sem.run_bind,jT,Result.andThen_ok,run_underlying ht,kI,A8,hd,Sem.run_pure]
theorem qsu {t e:TypeId}{ps len n z fi qs cs}(he:aM C env a.tmps)(ho:o.op=.build t ps)(ht:P.underlying t=I (.array len e))(hz:zq P t=I z)
  (hn:jc P e=I n) (la:ti P (fun i=>I (i*n,n)) ps.toList=I fi) (hq:z8 env fi=I qs) (hf:iD z qs=I cs):Val P C a o w (.agg cs):=by
 obtain⟨zv,jT,b8,_⟩:=Xt (C:=C) hz w
 have oz:=N0 (P:=P) he ps.toList fi qs la hq
 obtain⟨ds,hd,hr⟩:=Ht (ps.toList.map fun x=>(x.1,a.eval x.2)) qs z cs zv.cells b8 hf oz
 refine⟨.agg ds,?_,.agg cs ds.toList hr⟩
 have A8:(ps.map fun(x:Nat×Operand)=>(x.1,a.eval x.2)).toList=ps.toList.map fun x=>(x.1,a.eval x.2):=by simp
 simp only[execOp,ho,Instr.build,Sem.run_bind,jT,Result.andThen_ok,run_underlying ht,zk hn,A8,hd,Sem.run_pure]
theorem Xv {sz}(he:aM C env a.tmps):∀(ps:List (Nat×Operand)) (fi:List (Nat×jd)) (qs:List (Nat×AVal)),tj ps=I fi→zh env sz fi=I qs →
  A7 C (fun i=>I (i*sz,sz)) (ps.map fun x=>(x.1,a.eval x.2)) (qs.map fun x=>(x.1*sz,x.2.flat))∧∀q∈qs,q.2.flat.length=sz
 | [],fi,qs,hc,hv=>by
  simp[tj]at hc;subst hc
  simp[zh]at hv;subst hv
  exact⟨.nil,by simp⟩
 |(i,x)::ps,fi,qs,hc,hv=>by
  simp only[tj]at hc
  split at hc
  ·rename_i y r hy hr
   cases hc
   simp only[zh]at hv
   split at hv
   ·rename_i v mb
    cases hb:(En v.flat.length sz&&v.flat.all qk)with
    |false=>simp[hb]at hv
    |true=>
     simp only[hb,cond_true]at hv
     simp only[N7]at hb
     split at hv
     ·rename_i r' iF
      cases hv
      have hl:=N4 hb.1
      obtain⟨h1,h2⟩:=Xv he ps r r' hr iF
      refine⟨.cons _ _ _ _ _ _ (by rw[hl]) (vb (qu he hy mb) hb.2) h1,?_⟩
      intro q hq
      rcases Oc.1 hq with rfl|hq
      ·exact hl
      ·exact h2 q hq
     ·cases hv
   ·cases hv
  ·cases hc
theorem Xw {sz}:∀(xs:List AVal) (i:Nat) (v:AVal),(∀x∈xs,x.flat.length=sz)→v.flat.length=sz→i<xs.length →
  (xs.set i v).flatMap AVal.flat=(xs.flatMap AVal.flat).take (i*sz)++v.flat++(xs.flatMap AVal.flat).drop (i*sz+sz)
 | [],i,v,_,_,h=>by simp at h
 |x::xs,0,v,hl,hv,_=>by
  simp only[List.set_cons_zero,Ib,Nat.zero_mul,List.take_zero,List.nil_append,Nat.zero_add]
  rw[List.drop_append_of_le_length (by rw[hl x (by simp)];exact Hb _),Ga (by rw[hl x (by simp)];exact Hb _)]
  simp
 |x::xs,i+1,v,hl,hv,h=>by
  simp only[List.set_cons_succ,Ib]
  rw[Xw xs i v (fun y hy=>hl y (by simp[hy])) hv (by simpa using h)]
  have hx:=hl x (by simp)
  have e1:(i+1)*sz=x.flat.length+i*sz:=by rw[hx,Ha];omega
  have t1:List.take (x.flat.length+i*sz) (x.flat++xs.flatMap AVal.flat)=x.flat++(xs.flatMap AVal.flat).take (i*sz):=List.take_length_add_append _
  have t2:List.drop (x.flat.length+i*sz+sz) (x.flat++xs.flatMap AVal.flat)=(xs.flatMap AVal.flat).drop (i*sz+sz):=by
   rw[N5];exact List.drop_length_add_append _
  rw[e1,t1,t2]
  simp
theorem yl {sz}:∀(xs:List AVal),(∀x∈xs,x.flat.length=sz)→(xs.flatMap AVal.flat).length=xs.length*sz
 | [],_=>by simp
 |x::xs,h=>by
  simp only[Ib,List.length_append,List.length_cons]
  rw[yl xs (fun y hy=>h y (by simp[hy])),h x (by simp),Ha];omega
theorem Xx {sz}:∀(qs:List (Nat×AVal)) (xs ys:List AVal),kB xs qs=I ys→(∀x∈xs,x.flat.length=sz)→(∀q∈qs,q.2.flat.length=sz) →
  iD (xs.flatMap AVal.flat) (qs.map fun x=>(x.1*sz,x.2.flat))=I (ys.flatMap AVal.flat)∧(∀y∈ys,y.flat.length=sz)∧ys.length=xs.length
 | [],xs,ys,h,hx,_=>by simp[kB]at h;subst h;exact⟨rfl,hx,rfl⟩
 |(i,v)::qs,xs,ys,h,hx,hq=>by
  simp only[kB]at h
  cases hb:E3 i xs.length with
  |false=>simp[hb]at h
  |true=>
   simp only[hb,cond_true]at h
   have aC:i<xs.length:=by have:=Hz hb;omega
   have hv:=hq (i,v) (by simp)
   obtain⟨h1,h2,h3⟩:=Xx qs (xs.set i v) ys h (fun y hy=>by
    rcases List.mem_or_eq_of_mem_set hy with h|rfl
    ·exact hx y h
    ·exact hv) (fun q h=>hq q (by simp[h]))
   refine⟨?_,h2,by simpa using h3⟩
   have hl:=yl xs hx
   have hle:i*sz+sz≤xs.length*sz:=by rw[←Ha];exact Nat.mul_le_mul_right _ aC
   simp only[Oe,iD]
   rw[show Ek (i*sz+v.flat.length) (xs.flatMap AVal.flat).length=Ec from by rw[Nat.ble_eq];simp only at hv;omega]
   simp only[cond_true]
   rw[Xw xs i v hx hv aC]at h1
   simp only at hv
   rw[hv]
   exact h1
end
end Go.Abs
