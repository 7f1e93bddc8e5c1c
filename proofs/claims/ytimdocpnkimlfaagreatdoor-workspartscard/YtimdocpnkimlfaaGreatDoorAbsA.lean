/- The abstract machine. -/
import Derived.Deep.AppendSrc
import Derived.Lib.LaidTab
import Derived.Lib.ItoaNum
import Derived.WalkSpells
import Derived.Laws.Cover3
set_option linter.unusedVariables false
set_option linter.unusedSimpArgs false
open Option renaming some→I,none→En,isSome_iff_exists→He,map_some→Hq
open Bool renaming false→Gt,true→Gv,false_eq_true→Hb,xor→Hc,and_eq_true→Hp,not_true→Hu
open Nat renaming ble→Gw,beq→Gy,blt→Gz,succ_mul→G2,le_refl→G5,le_of_ble_eq_true→G7,lt_of_lt_of_le→G9,eq_of_beq_eq_true→Hl,add_assoc→Hm
open List renaming drop_eq_nil_of_le→G0,replicate→G6,flatMap_cons→Ha,getElem?_eq_some_iff→Hd,getElem?_toArray→Hj,mem_cons→Hr,map_cons→Hv
open Array renaming getElem?_eq_some_iff→G1,ext'→Hh
namespace Go.Abs
inductive AVal where
 |bool (b:Bool)
 |int (k:IntKind) (n:Int)
 |str (s:List UInt8)
 |list (isNil:Bool) (sz:Nat) (xs:List AVal)
 |ms (b off len:Nat)
 |ptr (b off:Nat)
 |ah (v:AVal)
 |b4
 |map (b:Nat)
 |bY
 |fn (f:Fn) (first captured:List AVal)
 |cz
 |agg (cs:List AVal)
 |aB (vs:List AVal)
 |undef
 |any
 |dc (n:Nat)
 |aw (b bG len:Nat)
 |dQ (b bG off:Nat)
 deriving Inhabited
inductive jx where
 |tmp (t:Nat)
 |const (v:AVal)
 deriving Inhabited
inductive Kd where
 |int|str|bool
 deriving DecidableEq,Inhabited
inductive ew where
 |bW|fT (r:Nat)|shr|red
 deriving DecidableEq,Inhabited
inductive cU where
 |move (x:jx)
 |take (s:Nat)
 |pick (c a b:jx)
 |alloc (r:Nat) (zero:List AVal)
 |box (r n:Nat) (x:jx)
 |oP (n:Nat) (x:jx)
 |gI (n:Nat)
 |dV (n s:Nat) (x:jx)
 |gi (r t e:Nat)
 |build (zero:List AVal) (parts:List (Nat×Nat×jx))
 |buildSlice (sz len:Nat) (zero:List AVal) (parts:List (Nat×jx))
 |load (agg:Bool) (n:Nat) (x:jx)
 |fH (agg:Bool) (n:Nat) (x:jx)
 |cE (off:Option Nat) (x:jx)
 |store (n:Nat) (a v:jx)
 |nilCheck (x:jx)
 |bin (op:BinOp) (x y:jx)
 |eqs (ks:List Kd) (neq:Bool) (x y:jx)
 |beq (neq:Bool) (x y:jx)
 |fI (k:Nat) (neq:Bool) (x:jx)
 |un (op:UnOp) (x:jx)
 |conv (k:IntKind) (x:jx)
 |fA (x:jx)
 |field (agg:Bool) (off n:Nat) (x:jx)
 |index (agg:Bool) (len n:Nat) (x i:jx)
 |ey (x i:jx)
 |fieldAddr (agg:Bool) (off n:Nat) (x:jx)
 |indexAddr (sz:Nat) (x i:jx)
 |eY (agg:Bool) (len sz:Nat) (x i:jx)
 |slice (sz:Nat) (x:jx) (lo hi:Option jx)
 |eZ (x:jx) (lo hi:Option jx)
 |gj (len sz:Nat) (x:jx) (lo hi:Option jx)
 |gJ (f:Fn) (first captured:List jx)
 |dW (r:Nat)
 |lookup (kd:Kd) (zero:AVal) (ok:Bool) (m k:jx)
 |mapUpdate (kd:Kd) (m k v:jx)
 |delete (kd:Kd) (m k:jx)
 |cx (r:Option Nat) (sz bytes:Nat) (zero:List AVal) (n c:jx)
 |len (k:Nat) (x:jx)
 |append (r:Option Nat) (sz bytes:Nat) (x y:jx)
 |il (r sz bytes:Nat) (x y:jx)
 |iN (r sz len:Nat) (zero:List AVal) (parts:List (Nat×jx))
 |copy (sz:Nat) (x y:jx)
 |mx (args:List jx)
 |mn (args:List jx)
 |extract (x:jx) (i:Nat)
 |call (md:ew) (f:jx) (args:List jx)
 |dI (r:Nat) (x:jx)
 |fJ (it:jx)
 |bad
 deriving Inhabited
structure b8 where
 dst:Option Nat
 op:cU
 guard:Option (Nat×Bool)
 al:Option (List Nat)
 deriving Inhabited
inductive au where
 |skip
 |region (na:Nat) (ops:List b8) (keep:Option (List Nat))
 |seq (a b:au)
 |cond (c:jx) (a b:au)
 |block (id:Nat) (body:au)
 |loop (body:au)
 |rangeFunc (f:jx) (params:List Nat) (assign body:au)
 |exit (id:Nat)
 |ret
 |grow (sz:Nat)
 |stuck
 deriving Inhabited
abbrev Env:=List (Nat×AVal×Bool)
inductive jf where
 |normal
 |exit (id:Nat)
 |ret
 deriving DecidableEq,Inhabited
structure joh where
 env:Env
 params:List Nat
 assign:au
 body:au
 pending:Option jf
 deriving Inhabited
def ya:au→Bool
 | .seq a b=>ya a&&ya b
 | .cond _ a b=>ya a&&ya b
 | .block _ b=>ya b
 | .loop b=>ya b
 | .rangeFunc ..=>Gt
 |_=>Gv
def fK (e:Env):Env:=e.map fun x=>(x.1,x.2.1,Gt)
inductive bh where
 |hole
 |cells (cs:List (AVal×Bool))
 |map (es:List (AVal×AVal))
 |iter (s:List UInt8) (pos:Nat)
 |loop (l:joh)
 |gi (t e:Nat) (l:List UInt8)
 |dead
 |vec (sz bG:Nat) (xs:List AVal)
 deriving Inhabited
abbrev qh:=List bh
structure bf where
 env:Env
 heap:qh
 deriving Inhabited
inductive nh where
 |tmp (t:Nat)
 |cell (t:Nat) (agg:Bool) (n:Nat)
 deriving Inhabited
structure ar where
 ntmps:Nat
 body:au
 results:List nh
 deriving Inhabited
abbrev yI:=Nat→Option (List AVal→Option (AVal×Bool))
abbrev jgh:=Nat→Option (List AVal→qh→Option (AVal×Bool×qh))
abbrev UE:=Nat→Option (List (AVal×AVal))
structure zb where
 bQ:Nat→Option ar
 cO:yI
 dP:jgh:=fun _=>En
 maps:UE:=fun _=>En
def jj (t:Nat):Env→Option (AVal×Bool)
 | []=>En
 |(s,x)::e=>bif Gy s t then I x else jj t e
def qi (e:Env):jx→Option AVal
 | .tmp t=>match jj t e with
  |some x=>I x.1
  |none=>En
 | .const v=>I v
def gk (e:Env):List jx→Option (List AVal)
 | []=>I []
 |x::xs=>match qi e x with
  |some v=>match gk e xs with
   |some vs=>I (v::vs)
   |none=>En
  |none=>En
def qL (e:Env):List Nat→Env
 | []=>[]
 |t::ts=>match jj t e with
  |some x=>(t,x)::qL e ts
  |none=>qL e ts
def qM:IntKind→Int→Bool
 | .i64,.ofNat m=>Gw m 9223372036854775807
 | .i64,.negSucc m=>Gw m 9223372036854775807
 | .i32,.ofNat m=>Gw m 2147483647
 | .i32,.negSucc m=>Gw m 2147483647
 | .i16,.ofNat m=>Gw m 32767
 | .i16,.negSucc m=>Gw m 32767
 | .i8,.ofNat m=>Gw m 127
 | .i8,.negSucc m=>Gw m 127
 | .u64,.ofNat m=>Gw m 18446744073709551615
 | .u32,.ofNat m=>Gw m 4294967295
 | .u16,.ofNat m=>Gw m 65535
 | .u8,.ofNat m=>Gw m 255
 |_,.negSucc _=>Gt
def qe (k:IntKind)(n:Int):Int:=bif qM k n then n else k.wrap n
def AVal.flat:AVal→List AVal
 | .agg cs=>cs
 |v=>[v]
def AVal.isAgg:AVal→Bool
 | .agg _=>Gv
 |_=>Gt
def AVal.cS:AVal→Bool
 | .list ..=>Gv
 |_=>Gt
def ni:Kd→AVal→AVal→Option Bool
 | .int,.int k a,.int k' b=>bif decide (k=k')then I (a == b)else En
 | .str,.str a,.str b=>I (a == b)
 | .bool,.bool a,.bool b=>I (a == b)
 |_,_,_=>En
def y6:List Kd→List AVal→List AVal→Option Bool
 | [],[],[]=>I Gv
 |k::ks,x::xs,y::ys=>match ni k x y with
  |some Gv=>y6 ks xs ys
  |some Gt=>I Gt
  |none=>En
 |_,_,_=>En
def part (agg:Bool)(cs:List AVal)(off n:Nat):Option AVal:=
 bif agg then(bif Gw (off+n) cs.length then I (.agg ((cs.drop off).take n))else En)else cs[off]?
def bytesLess:List UInt8→List UInt8→Bool
 |_,[]=>Gt
 | [],_::_=>Gv
 |a::x,b::y=>a<b||(a == b&&bytesLess x y)
def oQ (op:BinOp)(k:IntKind)(x y:Int):Option AVal:=
 match op with
 | .add=>I (.int k (qe k (x+y)))
 | .sub=>I (.int k (qe k (x-y)))
 | .mul=>I (.int k (qe k (x*y)))
 | .quo=>bif y == 0 then En else I (.int k (qe k (x.tdiv y)))
 | .rem=>bif y == 0 then En else I (.int k (x.tmod y))
 | .eql=>I (.bool (x == y))
 | .neq=>I (.bool (x != y))
 | .lss=>I (.bool (decide (x<y)))
 | .leq=>I (.bool (decide (x≤y)))
 | .gtr=>I (.bool (decide (x > y)))
 | .geq=>I (.bool (decide (x≥y)))
 | .and=>I (.int k (k.wrap (BitVec.ofInt k.bits x &&& BitVec.ofInt k.bits y).toNat))
 | .or=>I (.int k (k.wrap (BitVec.ofInt k.bits x ||| BitVec.ofInt k.bits y).toNat))
 | .xor=>I (.int k (k.wrap (BitVec.ofInt k.bits x ^^^ BitVec.ofInt k.bits y).toNat))
 | .andNot=>I (.int k (k.wrap (BitVec.ofInt k.bits x &&& ~~~BitVec.ofInt k.bits y).toNat))
 |_=>En
def LN (op:BinOp)(k:IntKind)(x y:Int):Option AVal:=
 bif decide (y<0)then En else
 match op with
 | .shl=>I (.int k (qe k (x*2^(min y.toNat k.bits))))
 | .shr=>I (.int k (x.fdiv (2^(min y.toNat k.bits))))
 |_=>En
def Gf (op:BinOp)(x y:List UInt8):Option AVal:=
 match op with
 | .add=>bif Gw (x.length+y.length) 4611686018427387904 then I (.str (x++y))else En
 | .eql=>I (.bool (x == y))
 | .neq=>I (.bool !(x == y))
 | .lss=>I (.bool (bytesLess x y))
 | .leq=>I (.bool (bytesLess x y||x == y))
 | .gtr=>I (.bool !(bytesLess x y||x == y))
 | .geq=>I (.bool !(bytesLess x y))
 |_=>En
def yu (op:BinOp):AVal→AVal→Option AVal
 | .int k x,.int k' y=>match op with
  | .shl=>LN .shl k x y
  | .shr=>LN .shr k x y
  |op=>bif decide (k=k')then oQ op k x y else En
 | .str x,.str y=>Gf op x y
 |_,_=>En
def yJ:UnOp→AVal→Option AVal
 | .neg,.int k n=>I (.int k (qe k (0-n)))
 | .not,.bool b=>I (.bool !b)
 |_,_=>En
def max2:AVal→AVal→Option AVal
 | .int k x,.int k' y=>bif decide (k=k')then I (.int k (if y > x then y else x))else En
 |_,_=>En
def min2:AVal→AVal→Option AVal
 | .int k x,.int k' y=>bif decide (k=k')then I (.int k (if y<x then y else x))else En
 |_,_=>En
def od (f:AVal→AVal→Option AVal):AVal→List AVal→Option AVal
 |x,[]=>I x
 |x,y::ys=>match f x y with
  |some z=>od f z ys
  |none=>En
def jW:List AVal→List (Nat×List AVal)→Option (List AVal)
 |cs,[]=>I cs
 |cs,(off,vs)::rest=>bif Gw (off+vs.length) cs.length then jW (cs.take off++vs++cs.drop (off+vs.length)) rest else En
def qk:AVal→Bool
 | .agg _=>Gt
 | .aB _=>Gt
 | .undef=>Gt
 | .any=>Gt
 |_=>Gv
def kr (e:Env):List (Nat×Nat×jx)→Option (List (Nat×List AVal))
 | []=>I []
 |(off,n,x)::ps=>match qi e x with
  |some v=>bif Gy v.flat.length n&&v.flat.all qk then
    (match kr e ps with
     |some r=>I ((off,v.flat)::r)
     |none=>En)else En
  |none=>En
def lH (xs:List AVal):List (Nat×AVal)→Option (List AVal)
 | []=>I xs
 |(i,v)::ps=>bif Gz i xs.length then lH (xs.set i v) ps else En
def yi (e:Env)(sz:Nat):List (Nat×jx)→Option (List (Nat×AVal))
 | []=>I []
 |(i,x)::ps=>match qi e x with
  |some v=>bif Gy v.flat.length sz&&v.flat.all qk then
   (match yi e sz ps with
    |some r=>I ((i,v)::r)
    |none=>En)else En
  |none=>En
def jv6 (zero:List AVal)(agg:Bool):Option AVal:=
 bif agg then I (.agg zero)else match zero with
  | [z]=>I z
  |_=>En
def zm (h:qh)(b:Nat):Option bh:=h[b]?
def jy (h:qh)(b:Nat):Option (List (AVal×Bool)):=
 match h[b]? with
 |some (.cells cs)=>I cs
 |_=>En
def zn (cs:List (AVal×Bool))(off n:Nat):Option (List AVal):=
 bif Gw (off+n) cs.length then I (((cs.drop off).take n).map (·.1))else En
def jw (cs:List (AVal×Bool))(off:Nat)(vs:List AVal):Option (List (AVal×Bool)):=
 bif Gw (off+vs.length) cs.length&&vs.all qk then I (cs.take off++vs.map (·,Gt)++cs.drop (off+vs.length))else En
mutual
def below (n:Nat):AVal→Bool
 | .ms b _ _=>Gz b n
 | .ptr b _=>Gz b n
 | .map b=>Gz b n
 | .aw b _ _=>Gz b n
 | .dQ b _ _=>Gz b n
 | .ah v=>below n v
 | .list _ _ xs=>qx n xs
 | .agg cs=>qx n cs
 | .aB vs=>qx n vs
 | .fn (.yield b) first captured=>Gz b n&&qx n first&&qx n captured
 | .fn _ first captured=>qx n first&&qx n captured
 |_=>Gv
def qx (n:Nat):List AVal→Bool
 | []=>Gv
 |x::xs=>below n x&&qx n xs
end
def nj (n:Nat):Env→Bool
 | []=>Gv
 |(_,v,_)::e=>below n v&&nj n e
def pE (n:Nat):List (AVal×Bool)→Bool
 | []=>Gv
 |(v,_)::e=>below n v&&pE n e
def vg (n:Nat):List (AVal×AVal)→Bool
 | []=>Gv
 |(k,v)::e=>below n k&&below n v&&vg n e
def pF (n:Nat):bh→Bool
 | .hole=>Gv
 | .cells cs=>pE n cs
 | .map es=>vg n es
 | .iter _ _=>Gv
 | .gi ..=>Gv
 | .dead=>Gv
 | .vec ..=>Gv
 | .loop l=>nj n l.env
def zw (n:Nat):qh→Bool
 | []=>Gv
 |b::h=>pF n b&&zw n h
def gc (n:Nat)(st:bf):bf:=
 bif Gw st.heap.length n then st
 else bif nj n st.env&&zw n (st.heap.take n)then { st with heap:=st.heap.take n }else st
def mG (v:AVal):Bool:=below 0 v
def q7e (agg:Bool)(sz:Nat):Nat→List AVal→Option (List AVal)
 |0,_=>I []
 |n+1,cs=>bif Gw sz cs.length then
   (match jv6 (cs.take sz) agg with
    |some v=>(match q7e agg sz n (cs.drop sz)with
     |some r=>I (v::r)
     |none=>En)
    |none=>En)else En
def mH (sz:Nat):Nat→List AVal→List AVal
 |0,_=>[]
 |n+1,cs=>(bif Gy sz 1 then cs.headD .undef else .agg (cs.take sz))::mH sz n (cs.drop sz)
def LO:AVal→Bool
 | .str _=>Gv
 | .list ..=>Gv
 |_=>Gt
def Er (off len:Nat)(cs:List (AVal×Bool)):Bool:=Gy off 0&&Gz 1 (cs.length / len)&&Gy (len*(cs.length / len)) cs.length&&cs.any (fun c=>LO c.1)
def kx (h:qh):AVal→Option AVal
 | .ms b off len=>match jy h b with
  |some cs=>bif Er off len cs then I (.list Gt (cs.length / len) (mH (cs.length / len) len (cs.map (·.1))))else(match zn cs off len with
   |some vs=>I (.list Gt 1 vs)
   |none=>En)
  |none=>En
 | .aw b bG len=>match h[b]? with
  |some (.vec sz dK xs)=>bif Gy bG dK&&Gw len xs.length then I (.list Gt sz (xs.take len))else En
  |_=>En
 |v=>I v
def lI (h:qh):List AVal→Option (List AVal)
 | []=>I []
 |v::vs=>match kx h v with
  |some x=>(match lI h vs with
   |some xs=>I (x::xs)
   |none=>En)
  |none=>En
def aF (h:qh):AVal→Option AVal
 | .agg cs=>match lI h cs with
  |some xs=>I (.agg xs)
  |none=>En
 | .aB vs=>match bC h vs with
  |some xs=>I (.aB xs)
  |none=>En
 |v=>kx h v
where
 bC (h:qh):List AVal→Option (List AVal)
  | []=>I []
  | .agg cs::vs=>match lI h cs with
   |some x=>(match bC h vs with
    |some xs=>I (.agg x::xs)
    |none=>En)
   |none=>En
  |v::vs=>match kx h v with
   |some x=>(match bC h vs with
    |some xs=>I (x::xs)
    |none=>En)
   |none=>En
def jq (kd:Kd)(k:AVal):List (AVal×AVal)→Nat→Option (Option (Nat×AVal))
 | [],_=>I En
 |(k',v)::es,i=>match ni kd k k' with
  |some Gv=>I (I (i,v))
  |some Gt=>jq kd k es (i+1)
  |none=>En
def ql (s:List UInt8)(i:Nat):Nat×Nat:=Utf8.decode ⟨⟨s⟩⟩ i
structure bj where
 v:AVal
 own:Bool
 strip:Option Nat
 heap:qh
def oR (l:List Nat):Bool:=match l with
 | []=>Gt
 |k::_=>Gw 1000 k
def AZ (h0:Nat)(l:List Nat)(b:Nat):Bool:=match l with
 | []=>Gt
 |k::_=>bif Gz k 2000 then Gy b (k-1000)&&Gz b h0 else bif Gz k 4000 then Gy b (h0+(k-2000))else Gz b h0
def zd (h0:Nat)(al:Option (List Nat))(b:Nat):Bool:=
 match al with
 |none=>Gv
 |some l=>bif oR l then AZ h0 l b else(Gz b h0||l.contains (b-h0))
def pG (al:Option (List Nat)):Bool:=
 match al with
 |some (k::_)=>Gw 4000 k
 |_=>Gt
def vh (h0:Nat)(al:Option (List Nat))(b:Nat):Bool:=zd h0 al b&&!(pG al)
def jt (h:qh)(b:Nat)(x:bh):Option qh:=bif Gz b h.length then I (h.set b x)else En
def aJ (h0:Nat)(h:qh)(r:Nat)(x:bh):Option qh:=
 match h[h0+r]? with
 |some .hole=>I (h.set (h0+r) x)
 |_=>En
def val (h:qh)(v:AVal):Option bj:=I ⟨v,Gt,En,h⟩
def gK (h:qh):Option AVal→Option bj
 |some v=>I ⟨v,Gt,En,h⟩
 |none=>En
def idx (n:Nat):AVal→Option Nat
 | .int _ (.ofNat i)=>bif Gz i n then I i else En
 |_=>En
def A0 (n:Nat):AVal→Option Nat
 | .int _ (.ofNat i)=>bif Gw i n then I i else En
 |_=>En
def fL (e:Env)(lJ n:Nat):Option jx→Option Nat
 |none=>I lJ
 |some x=>match qi e x with
  |some v=>A0 n v
  |none=>En
def zu (e:Env):jx→Option Nat
 | .tmp t=>match jj t e with
  |some (_,Gv)=>I t
  |_=>En
 |_=>En
def z7 (sz:Nat):AVal→Option (List AVal)
 | .list _ sy ys=>bif Gy sz sy||ys.isEmpty then I ys else En
 | .str s=>bif Gy sz 1 then I (s.map fun(c:UInt8)=>AVal.int .u8 c.toNat)else En
 |_=>En
def qN (n:Bool)(sz:Nat)(xs ys:List AVal):AVal:=bif n&&ys.isEmpty then .list Gv 0 []else .list Gt sz (xs++ys)
def qo (e:Env)(h:qh):cU→Option bj
 | .move x=>gK h (qi e x)
 | .take s=>match jj s e with
  |some (v,o)=>I ⟨v,o,I s,h⟩
  |none=>En
 | .pick c a b=>match qi e c with
  |some (.bool t)=>(match qi e a,qi e b with
    |some x,I y=>val h (bif t then x else y)
    |_,_=>En)
  |_=>En
 | .oP n x=>match qi e x with
  |some v=>bif Gy v.flat.length n&&v.flat.all qk then val h (.ah v)else En
  |none=>En
 | .build zero parts=>match kr e parts with
  |some ps=>match jW zero ps with
   |some cs=>val h (.agg cs)
   |none=>En
  |none=>En
 | .buildSlice sz len zero parts=>match yi e sz parts with
  |some ps=>match lH (G6 len (bif Gy sz 1 then zero.headD .undef else .agg zero)) ps with
   |some xs=>I ⟨.list Gt sz xs,Gv,En,h⟩
   |none=>En
  |none=>En
 | .gI n=>I ⟨.dc n,Gv,En,h⟩
 | .dV n s x=>match jj s e,qi e x with
  |some (.dc m,Gv),I v=>bif Gy m n&&Gy v.flat.length n&&v.flat.all qk then val h (.ah v)else En
  |_,_=>En
 | .fH agg n x=>match qi e x with
  |some (.ah v)=>bif Hc agg v.isAgg||!(Gy v.flat.length n)then En else val h v
  |_=>En
 | .nilCheck x=>match qi e x with
  |some (.ptr b o)=>val h (.ptr b o)
  |some (.ah v)=>val h (.ah v)
  |some (.fn (.func f) a b)=>val h (.fn (.func f) a b)
  |_=>En
 | .bin op x y=>match qi e x,qi e y with
  |some a,I b=>gK h (yu op a b)
  |_,_=>En
 | .eqs ks neq x y=>match qi e x,qi e y with
  |some (.agg a),I (.agg b)=>bif Gy a.length ks.length&&Gy b.length ks.length then(match y6 ks a b with
   |some t=>val h (.bool (bif neq then !t else t))
   |none=>En)else En
  |_,_=>En
 | .beq neq x y=>match qi e x,qi e y with
  |some (.bool a),I (.bool b)=>val h (.bool (bif neq then !(a == b)else a == b))
  |_,_=>En
 | .fI k neq x=>match k,qi e x with
  |0,I (.list n _ _)=>val h (.bool (bif neq then !n else n))
  |0,I (.ms ..)=>val h (.bool neq)
  |1,I .b4=>val h (.bool (!neq))
  |1,I (.ptr ..)=>val h (.bool neq)
  |1,I (.ah ..)=>val h (.bool neq)
  |2,I .bY=>val h (.bool (!neq))
  |2,I (.map ..)=>val h (.bool neq)
  |3,I .cz=>val h (.bool (!neq))
  |3,I (.fn ..)=>val h (.bool neq)
  |_,_=>En
 | .un op x=>match qi e x with
  |some v=>gK h (yJ op v)
  |none=>En
 | .conv k x=>match qi e x with
  |some (.int _ n)=>val h (.int k (qe k n))
  |_=>En
 | .fA x=>match qi e x with
  |some (.str s)=>val h (.str s)
  |some (.int _ n)=>val h (.str (Utf8.encode n).data.toList)
  |_=>En
 | .field agg off n x=>match qi e x with
  |some (.agg cs)=>gK h (part agg cs off n)
  |_=>En
 | .index agg len n x i=>match qi e x,qi e i with
  |some (.agg cs),I j=>(match idx len j with
   |some j=>gK h (part agg cs (j*n) n)
   |none=>En)
  |_,_=>En
 | .ey x i=>match qi e x,qi e i with
  |some (.str s),I j=>(match idx s.length j with
   |some j=>(match s[j]? with
    |some c=>val h (.int .u8 c.toNat)
    |none=>En)
   |none=>En)
  |_,_=>En
 | .fieldAddr agg off n x=>match qi e x with
  |some (.ptr b o)=>val h (.ptr b (o+off))
  |some (.ah (.agg cs))=>(match part agg cs off n with
   |some v=>bif Hc agg v.isAgg then En else val h (.ah v)
   |none=>En)
  |some (.dQ b bG o)=>val h (.dQ b bG (o+off))
  |_=>En
 | .indexAddr sz x i=>match qi e x,qi e i with
  |some (.list _ dq xs),I j=>bif Gy sz dq||xs.isEmpty then(match idx xs.length j with
   |some j=>(match xs[j]? with
    |some v=>val h (.ah v)
    |none=>En)
   |none=>En)else En
  |some (.ms b o len),I j=>(match idx len j with
   |some j=>val h (.ptr b (o+j*sz))
   |none=>En)
  |some (.aw b bG len),I j=>(match idx len j with
   |some j=>val h (.dQ b bG (j*sz))
   |none=>En)
  |_,_=>En
 | .eY agg len sz x i=>match qi e x,qi e i with
  |some (.ptr b o),I j=>(match idx len j with
   |some j=>val h (.ptr b (o+j*sz))
   |none=>En)
  |some (.ah (.agg cs)),I j=>(match idx len j with
   |some j=>(match part agg cs (j*sz) sz with
    |some v=>bif Hc agg v.isAgg then En else val h (.ah v)
    |none=>En)
   |none=>En)
  |_,_=>En
 | .slice sz x lo hi=>match qi e x with
  |some (.list n dq xs)=>bif Gy sz dq||xs.isEmpty then(match fL e xs.length xs.length hi with
   |some j=>(match fL e 0 j lo with
    |some i=>val h (.list n dq ((xs.take j).drop i))
    |none=>En)
   |none=>En)else En
  |some (.ms b o len)=>(match fL e len len hi with
   |some j=>(match fL e 0 j lo with
    |some i=>bif Gy i 0||Gz i j then val h (.ms b (o+i*sz) (j-i))else En
    |none=>En)
   |none=>En)
  |some (.aw b bG len)=>(match fL e len len hi with
   |some j=>(match fL e 0 j lo with
    |some i=>bif Gy i 0 then val h (.aw b bG j)else En
    |none=>En)
   |none=>En)
  |_=>En
 | .eZ x lo hi=>match qi e x with
  |some (.str s)=>(match fL e s.length s.length hi with
   |some j=>(match fL e 0 j lo with
    |some i=>val h (.str ((s.take j).drop i))
    |none=>En)
   |none=>En)
  |_=>En
 | .gj len sz x lo hi=>match qi e x with
  |some (.ptr b o)=>(match fL e len len hi with
   |some j=>(match fL e 0 j lo with
    |some i=>bif Gy i 0||Gz i j then val h (.ms b (o+i*sz) (j-i))else En
    |none=>En)
   |none=>En)
  |_=>En
 | .gJ f first captured=>match gk e first,gk e captured with
  |some a,I b=>val h (.fn f a b)
  |_,_=>En
 | .len k x=>match k,qi e x with
  |1,I (.list _ _ xs)=>val h (.int .i64 xs.length)
  |1,I (.ms _ _ n)=>val h (.int .i64 n)
  |1,I (.aw _ _ n)=>val h (.int .i64 n)
  |2,I (.list Gv _ _)=>val h (.int .i64 0)
  |0,I (.str s)=>val h (.int .i64 s.length)
  |_,_=>En
 | .append En sz bytes x y=>match qi e x,qi e y with
  |some (.list n dq xs),I vy=>
   bif n||(zu e x).isSome then
    (match z7 sz vy with
     |some ys=>
      bif (Gy sz dq||(xs.isEmpty&&n))&&Gw (xs.length+ys.length) 1073741824&&Gw bytes 4096&&Gz 0 sz then
       I ⟨qN n sz xs ys,Gv,zu e x,h⟩
      else En
     |none=>En)
   else En
  |_,_=>En
 | .cx En sz bytes zero n c=>match qi e n,qi e c with
  |some (.int .i64 (.ofNat n)),I (.int .i64 (.ofNat c))=>
   bif Gy n c&&Gw n 1073741824&&Gw bytes 4096&&Gy zero.length sz&&Gz 0 sz&&zero.all qk then
    I ⟨.list Gt sz (G6 n (bif Gy sz 1 then zero.headD .undef else .agg zero)),Gv,En,h⟩else En
  |_,_=>En
 | .mx args=>match gk e args with
  |some (v::vs)=>gK h (od max2 v vs)
  |_=>En
 | .mn args=>match gk e args with
  |some (v::vs)=>gK h (od min2 v vs)
  |_=>En
 | .extract x i=>match qi e x with
  |some (.aB vs)=>gK h vs[i]?
  |_=>En
 |_=>En
def pH (es:List (AVal×AVal))(i:Nat)(v:AVal):List (AVal×AVal):=
 match es,i with
 | [],_=>[]
 |(k,_)::r,0=>(k,v)::r
 |x::r,i+1=>x::pH r i v
def ym (h0:Nat)(al:Option (List Nat))(e:Env)(h:qh):cU→Option bj
 | .load agg n x=>match qi e x with
  |some (.ptr b o)=>bif zd h0 al b then(match jy h b with
   |some cs=>(match zn cs o n with
    |some vs=>bif agg then val h (.agg vs)else(match vs with
     | [v]=>val h v
     |_=>En)
    |none=>En)
   |none=>En)else En
  |some (.ah v)=>bif Hc agg v.isAgg||!(Gy v.flat.length n)then En else val h v
  |some (.dQ b bG o)=>bif vh h0 al b then(match zm h b with
   |some (.vec _ dK xs)=>bif Gy bG dK&&Gw (o+n) (xs.flatMap AVal.flat).length then(bif agg then val h (.agg (((xs.flatMap AVal.flat).drop o).take n))else(match((xs.flatMap AVal.flat).drop o).take n with
     | [v]=>val h v
     |_=>En))else En
   |_=>En)else En
  |_=>En
 | .lookup kd zero ok m k=>match qi e m,qi e k with
  |some (.map b),I kv=>bif zd h0 al b then(match zm h b with
   |some (.map es)=>(match jq kd kv es 0 with
    |some (I (_,v))=>val h (bif ok then .aB [v,.bool Gv]else v)
    |some En=>val h (bif ok then .aB [zero,.bool Gt]else zero)
    |none=>En)
   |_=>En)else En
  |some .bY,I _=>val h (bif ok then .aB [zero,.bool Gt]else zero)
  |_,_=>En
 | .len _ x=>match qi e x with
  |some (.map b)=>bif zd h0 al b then(match zm h b with
   |some (.map es)=>val h (.int .i64 es.length)
   |_=>En)else En
  |some .bY=>val h (.int .i64 0)
  |_=>En
 |_=>En
def q6g (es:List (AVal×AVal)):Option (Nat×AVal)→List (AVal×AVal)
 |some (i,_)=>es.eraseIdx i
 |none=>es
def vi:Option Nat→Nat→Bool
 |none,_=>Gv
 |some a,o=>Gy a o
def A4 (sz len:Nat):AVal→Option (Nat×List AVal)
 | .list _ sy ys=>bif Gy sz sy||ys.isEmpty then I (min ys.length len,(ys.take len).flatMap AVal.flat)else En
 |_=>En
def cellsOf (vs:List AVal):List (AVal×Bool):=vs.map (·,Gt)
def qp (h0:Nat)(al:Option (List Nat))(e:Env)(h:qh):cU→Option bj
 | .alloc r zero=>bif zero.all qk then(match aJ h0 h r (.cells (cellsOf zero))with
  |some h'=>val h' (.ptr (h0+r) 0)
  |none=>En)else En
 | .box r n x=>match qi e x with
  |some v=>bif Gy v.flat.length n&&v.flat.all qk then(match aJ h0 h r (.cells (cellsOf v.flat))with
   |some h'=>val h' (.ptr (h0+r) 0)
   |none=>En)else En
  |none=>En
 | .cE off x=>match qi e x with
  |some (.ptr b o)=>bif zd h0 al b&&vi off o then(match jy h b with
   |some cs=>(match cs[o]? with
    |some (v,w)=>(match jt h b (.cells (cs.set o (v,Gt)))with
     |some h'=>I ⟨v,w,En,h'⟩
     |none=>En)
    |none=>En)
   |none=>En)else En
  |_=>En
 | .store n a x=>match qi e a,qi e x with
  |some (.ptr b o),I v=>bif zd h0 al b then(match jy h b with
   |some cs=>(match zu e x with
    |some t=>bif Gy n 1&&v.cS&&Gz o cs.length then(match jt h b (.cells (cs.set o (v,Gv)))with
      |some h'=>I ⟨.undef,Gt,I t,h'⟩
      |none=>En)else En
    |none=>bif Gy v.flat.length n then(match jw cs o v.flat with
     |some eK=>(match jt h b (.cells eK)with
      |some h'=>val h' .undef
      |none=>En)
     |none=>En)else En)
   |none=>En)else En
  |_,_=>En
 | .gi r t e=>match aJ h0 h r (.gi t e [])with
  |some h'=>val h' (.ptr (h0+r) 0)
  |none=>En
 | .dW r=>match aJ h0 h r (.map [])with
  |some h'=>val h' (.map (h0+r))
  |none=>En
 | .mapUpdate kd m k x=>match qi e m,qi e k,qi e x with
  |some (.map b),I kv,I v=>bif zd h0 al b then(match zm h b with
   |some (.map es)=>(match jq kd kv es 0 with
    |some (I (i,_))=>(match jt h b (.map (pH es i v))with
     |some h'=>val h' .undef
     |none=>En)
    |some En=>bif Gw es.length 1073741824 then(match jt h b (.map (es++[(kv,v)]))with
     |some h'=>val h' .undef
     |none=>En)else En
    |none=>En)
   |_=>En)else En
  |_,_,_=>En
 | .delete kd m k=>match qi e m,qi e k with
  |some (.map b),I kv=>bif zd h0 al b then(match zm h b with
   |some (.map es)=>(match jq kd kv es 0 with
    |some r=>(match jt h b (.map (q6g es r))with
     |some h'=>val h' (.aB [])
     |none=>En)
    |none=>En)
   |_=>En)else En
  |_,_=>En
 | .cx (I r) sz bytes zero n c=>match qi e n,qi e c with
  |some (.int .i64 (.ofNat n)),I (.int .i64 (.ofNat c))=>
   bif Gy n c&&Gw n 1073741824&&Gw bytes 4096&&Gy zero.length sz&&Gz 0 sz&&zero.all qk then
    (match aJ h0 h r (.cells (cellsOf (G6 n zero).flatten))with
     |some h'=>val h' (.ms (h0+r) 0 n)
     |none=>En)else En
  |_,_=>En
 | .append (I r) sz bytes x y=>match qi e x,qi e y with
  |some (.list Gt dq []),I vy=>
   bif (zu e x).isSome&&Gy sz dq then
    (match z7 sz vy with
     |some ys=>
      bif Gw ys.length 1073741824&&Gw bytes 4096&&Gz 0 sz then
       (match aJ h0 h r (.cells (cellsOf (ys.flatMap AVal.flat)))with
        |some h'=>I ⟨.ms (h0+r) 0 ys.length,Gt,zu e x,h'⟩
        |none=>En)
      else En
     |none=>En)
   else En
  |_,_=>En
 | .il r sz bytes x y=>match qi e x,qi e y with
  |some (.list Gv _ []),I vy=>(match z7 sz vy with
    |some ys=>
     bif Gw ys.length 1073741824&&Gw bytes 4096&&Gz 0 sz&&!ys.isEmpty&&qx 0 ys&&Gz r 1000 then
      (match aJ h0 h r (.vec sz 0 ys)with
       |some h'=>val h' (.aw (h0+r) 0 ys.length)
       |none=>En)else En
    |none=>En)
  |some (.aw b bG len),I vy=>(match zm h b with
   |some (.vec dq dK xs)=>(match z7 sz vy with
    |some ys=>
     bif Gy bG dK&&Gy sz dq&&Gw len xs.length&&Gw (len+ys.length) 1073741824&&Gw bytes 4096&&Gz 0 sz&&qx 0 ys&&Gz r 1000 then
      (match jt h b (.vec sz (bG+1) (xs.take len++ys))with
       |some h'=>val h' (.aw b (bG+1) (len+ys.length))
       |none=>En)else En
    |none=>En)
   |_=>En)
  |_,_=>En
 | .iN r sz len zero parts=>match yi e sz parts with
  |some ps=>match lH (G6 len (bif Gy sz 1 then zero.headD .undef else .agg zero)) ps with
   |some xs=>bif qx 0 xs then(match aJ h0 h r (.vec sz 0 xs)with
    |some h'=>val h' (.aw (h0+r) 0 xs.length)
    |none=>En)else En
   |none=>En
  |none=>En
 | .copy sz x y=>match qi e x,qi e y with
  |some (.ms b o len),I vy=>bif zd h0 al b then(match jy h b with
   |some cs=>(match A4 sz len vy with
    |some (n,vs)=>(match jw cs o vs with
     |some eK=>bif Gy vs.length (n*sz)then(match jt h b (.cells eK)with
      |some h'=>val h' (.int .i64 n)
      |none=>En)else En
     |none=>En)
    |none=>En)
   |none=>En)else En
  |_,_=>En
 | .dI r x=>match qi e x with
  |some (.str s)=>(match aJ h0 h r (.iter s 0)with
   |some h'=>val h' (.ptr (h0+r) 0)
   |none=>En)
  |_=>En
 | .fJ it=>match qi e it with
  |some (.ptr b 0)=>bif zd h0 al b then(match zm h b with
   |some (.iter s pos)=>bif Gz pos s.length then
     (match jt h b (.iter s (pos+(ql s pos).2))with
      |some h'=>val h' (.aB [.bool Gv,.int .i64 pos,.int .i32 (ql s pos).1])
      |none=>En)else val h (.aB [.bool Gt])
   |_=>En)else En
  |_=>En
 |_=>En
def oS:Nat→List AVal→Env
 |_,[]=>[]
 |i,v::vs=>(i,v,Gt)::oS (i+1) vs
def vj (st:bf):nh→Option (AVal×Bool)
 | .tmp t=>jj t st.env
 | .cell t agg n=>match jj t st.env with
  |some (.ptr b o,_)=>(match jy st.heap b with
   |some cs=>(match zn cs o n with
    |some vs=>bif agg then I (.agg vs,Gt)else(match cs[o]? with
     |some x=>I x
     |none=>En)
    |none=>En)
   |none=>En)
  |_=>En
def kq (st:bf):List nh→Option (List (AVal×Bool))
 | []=>I []
 |r::rs=>match vj st r with
  |some x=>(match kq st rs with
   |some xs=>I (x::xs)
   |none=>En)
  |none=>En
def za:List (AVal×Bool)→AVal×Bool
 | [x]=>x
 |xs=>(.aB (xs.map (·.1)),Gt)
abbrev XC:=au→bf→Option (jf×bf)
def lx (st:bf):List nh→qh
 | [.cell t Gt _]=>match jj t st.env with
  |some (.ptr b o,_)=>(match jy st.heap b with
   |some cs=>(match cs[o]? with
    |some (v,Gv)=>st.heap.set b (.cells (cs.set o (v,Gt)))
    |_=>st.heap)
   |none=>st.heap)
  |_=>st.heap
 |_=>st.heap
def pI (xc:XC)(f:ar)(args:List AVal)(h:qh):Option (AVal×Bool×qh):=
 bif Gw args.length f.ntmps then
  match xc f.body ⟨oS 0 args,h⟩with
  |some (.normal,st)=>(match kq st f.results with
   |some xs=>I ((za xs).1,(za xs).2,lx st f.results)
   |none=>En)
  |some (.ret,st)=>(match kq st f.results with
   |some xs=>I ((za xs).1,(za xs).2,lx st f.results)
   |none=>En)
  |_=>En
 else En
def qm (p:zb)(xc:XC)(k:Nat)(args:List AVal)(h:qh):Option (AVal×Bool×qh):=
 match p.bQ k with
 |some f=>pI xc f args h
 |none=>match p.dP k with
  |some f=>f args h
  |none=>En
def qc (p:zb)(xc:XC)(k:Nat)(args:List AVal):Option (AVal×Bool):=
 match p.cO k with
 |some f=>(match f args with
  |some (v,o)=>bif mG v then I (v,o)else En
  |none=>En)
 |none=>match qm p xc k args []with
  |some (v,o,h)=>(match aF h v with
   |some v'=>bif mG v' then I (v',o&&v.cS)else En
   |none=>En)
  |none=>En
def zg (n:Nat)(v:AVal)(h:qh):qh:=
 bif Gw h.length n then h else bif below n v&&zw n (h.take n)then h.take n else h
def wF (e:Env):List Nat→List AVal→Option Env
 | [],[]=>I e
 |t::ts,v::vs=>wF ((t,v,Gt)::e) ts vs
 |_,_=>En
def kL (xc:XC)(b:Nat)(args:List AVal)(h:qh):Option (AVal×qh):=
 match zm h b with
 |some (.loop l)=>match l.pending,wF (fK l.env) l.params args with
  |none,I e=>(match xc l.assign ⟨e,h⟩with
   |some (.normal,st)=>(match zm st.heap b with
    |some (.loop l1)=>bif l1.pending.isNone then(match xc l.body { st with heap:=st.heap.set b (.loop { l1 with pending:=I .normal }) }with
     |some (x,bV)=>(match zm bV.heap b with
      |some (.loop l2)=>I (.bool (match x with | .normal=>Gv|_=>Gt),zg h.length (.bool Gv) (bV.heap.set b (.loop { l2 with pending:=match x with | .normal=>En|x=>I x })))
      |_=>En)
     |none=>En)else En
    |_=>En)
   |_=>En)
  |_,_=>En
 |_=>En
def oe:AVal→Bool
 | .bool _=>Gv
 | .int _ _=>Gv
 | .str _=>Gv
 |_=>Gt
def UF (h:qh):AVal→Option AVal
 | .ms b 0 len=>(match jy h b with
  |some cs=>bif Gy (len*(cs.length / len)) cs.length&&Gz 0 (cs.length / len)&&cs.all (fun c=>oe c.1)then I (.list Gt (cs.length / len) (mH (cs.length / len) len (cs.map (·.1))))else(bif Gy len 0 then I (.list Gt 8 [])else En)
  |none=>En)
 |v=>I v
def yK (h:qh):List AVal→Option (List AVal)
 | []=>I []
 |v::vs=>match UF h v,yK h vs with
  |some x,I xs=>I (x::xs)
  |_,_=>En
def yL:AVal→Bool
 | .agg cs=>cs.all oe
 |v=>oe v
def Es (v:AVal):AVal:=bif yL v then v else .any
def LP:AVal→Bool→Option (AVal×Bool)
 | .list Gt sz xs,Gv=>bif (xs.flatMap AVal.flat).all oe then I (.list Gt sz xs,Gv)else En
 | .list Gv sz [],_=>I (.list Gv sz [],Gt)
 | .aB vs,_=>I (.aB (vs.map Es),Gt)
 |v,_=>bif yL v then I (v,Gt)else En
def qO (h0:Nat)(h:qh)(r:Nat):AVal→Bool→Option bj
 | .list Gv sz [],_=>(match aJ h0 h r .dead with
  |some h'=>val h' (.list Gv sz [])
  |none=>En)
 | .list Gt sz xs,Gv=>bif (xs.flatMap AVal.flat).all oe then(match aJ h0 h r (.cells (cellsOf (xs.flatMap AVal.flat)))with
  |some h'=>val h' (.ms (h0+r) 0 xs.length)
  |none=>En)else En
 |_,_=>En
def yx (p:zb)(xc:XC)(h0:Nat)(e:Env)(h:qh)(md:ew)(f:jx)(args:List jx):Option bj:=
 match qi e f,gk e args with
 |some (.fn (.func k) first captured),I vs=>
  (match md with
   | .bW=>bif qx 0 (first++vs++captured)then(match qc p xc k (first++vs++captured)with
     |some (v,o)=>I ⟨v,o,En,h⟩
     |none=>En)else En
   | .fT r=>bif (first++vs++captured).isEmpty then(match p.maps k with
     |some es=>(match aJ h0 h r (.map es)with
      |some h'=>val h' (.map (h0+r))
      |none=>En)
     |none=>En)else bif qx 0 (first++vs++captured)then(match qc p xc k (first++vs++captured)with
     |some (v,o)=>qO h0 h r v o
     |none=>En)else En
   | .red=>(match yK h (first++vs++captured)with
    |some us=>bif qx 0 us then(match qc p xc k us with
     |some (v,o)=>(match LP v o with
      |some (v',o')=>I ⟨v',o',En,h⟩
      |none=>En)
     |none=>En)else En
    |none=>En)
   | .shr=>(match qm p xc k (first++vs++captured) h with
    |some (v,o,h')=>I ⟨v,o,En,zg h.length v h'⟩
    |none=>En))
 |some (.fn (.yield b) [] []),I vs=>
  (match md with
   | .shr=>(match kL xc b vs h with
    |some (v,h')=>val h' v
    |none=>En)
   |_=>En)
 |_,_=>En
def qf (p:zb)(xc:XC)(h0:Nat)(al:Option (List Nat))(e:Env)(h:qh)(op:cU):Option bj:=
 match op with
 | .call md f args=>yx p xc h0 e h md f args
 | .load agg n x=>ym h0 al e h (.load agg n x)
 | .lookup kd z ok m k=>ym h0 al e h (.lookup kd z ok m k)
 | .alloc r z=>qp h0 al e h (.alloc r z)
 | .box r n x=>qp h0 al e h (.box r n x)
 | .cE off x=>qp h0 al e h (.cE off x)
 | .store n a x=>qp h0 al e h (.store n a x)
 | .gi r t e'=>qp h0 al e h (.gi r t e')
 | .dW r=>qp h0 al e h (.dW r)
 | .mapUpdate kd m k x=>qp h0 al e h (.mapUpdate kd m k x)
 | .delete kd m k=>qp h0 al e h (.delete kd m k)
 | .cx (I r) sz b z n c=>qp h0 al e h (.cx (I r) sz b z n c)
 | .append (I r) sz b x y=>qp h0 al e h (.append (I r) sz b x y)
 | .il r sz b x y=>qp h0 al e h (.il r sz b x y)
 | .iN r sz n z ps=>qp h0 al e h (.iN r sz n z ps)
 | .copy sz x y=>qp h0 al e h (.copy sz x y)
 | .dI r x=>qp h0 al e h (.dI r x)
 | .fJ it=>qp h0 al e h (.fJ it)
 |op=>qo e h op
def yf (e:Env):Option Nat→Env
 |none=>e
 |some s=>match jj s e with
  |some (v,_)=>(s,v,Gt)::e
  |none=>e
def og (e:Env)(d:Option Nat)(v:AVal)(o:Bool):Env:=
 match d with
 |some d=>(d,v,o)::e
 |none=>e
def np (e:Env):Option (Nat×Bool)→Option Bool
 |none=>I Gv
 |some (s,want)=>match jj s e with
  |some (.bool b,_)=>I (b == want)
  |some (.undef,_)=>I Gt
  |_=>En
def yz (p:zb)(xc:XC)(h0:Nat)(o:b8)(st:bf):Option bf:=
 match np st.env o.guard with
 |some Gv=>(match qf p xc h0 o.al st.env st.heap o.op with
  |some r=>I ⟨og (yf st.env r.strip) o.dst r.v r.own,r.heap⟩
  |none=>En)
 |some Gt=>I ⟨og st.env o.dst .undef Gt,st.heap⟩
 |none=>En
def gm (p:zb)(xc:XC)(h0:Nat):List b8→bf→Option bf
 | [],st=>I st
 |o::os,st=>match yz p xc h0 o st with
  |some bV=>gm p xc h0 os bV
  |none=>En
def A5 (st:bf):Option (List Nat)→bf
 |none=>st
 |some l=>{ st with env:=qL st.env l }
def nq (p:zb)(xc:XC)(na:Nat)(ops:List b8)(keep:Option (List Nat))(st:bf):Option (jf×bf):=
 match gm p xc st.heap.length ops { st with heap:=st.heap++G6 na .hole }with
 |some bV=>I (.normal,A5 bV keep)
 |none=>En
def nu (p:zb)(xc:XC)(f:jx)(params:List Nat)(assign body:au)(st:bf):Option (jf×bf):=
 bif ya assign&&ya body then
  match qi st.env f with
  |some (.fn (.func k) first captured)=>
   (match qm p xc k (first++[.fn (.yield st.heap.length) [] []]++captured) (st.heap++[.loop ⟨st.env,params,assign,body,En⟩])with
    |some (_,_,h')=>(match zm h' st.heap.length with
     |some (.loop l)=>bif zw st.heap.length (h'.take st.heap.length)then
       (match l.pending with
       |none=>I (.normal,{ st with heap:=h'.take st.heap.length })
       |some .normal=>En
       |some x=>I (x,{ st with heap:=h'.take st.heap.length }))else En
     |_=>En)
    |none=>En)
  |_=>En
 else En
def jk (p:zb):Nat→XC
 |0,_,_=>En
 |n+1,c,st=>match c with
  | .skip=>I (.normal,st)
  | .region na ops keep=>nq p (jk p n) na ops keep st
  | .seq a b=>match jk p n a st with
   |some (.normal,bV)=>jk p n b bV
   |r=>r
  | .cond c a b=>match qi st.env c with
   |some (.bool t)=>bif t then jk p n a st else jk p n b st
   |_=>En
  | .block id body=>match jk p n body st with
   |some (.exit ga,bV)=>bif Gy ga id then I (.normal,bV)else I (.exit ga,bV)
   |r=>r
  | .loop body=>match jk p n body st with
   |some (.normal,bV)=>jk p n (.loop body) (gc st.heap.length bV)
   |r=>r
  | .rangeFunc f params assign body=>nu p (jk p n) f params assign body st
  | .exit id=>I (.exit id,st)
  | .ret=>I (.ret,st)
  | .grow sz=>match jj 0 st.env,jj 1 st.env with
   |some (.list Gv _ _,_),I (.int .i64 (.ofNat m),_)=>bif Gz 0 m&&Gw m 1073741824 then I (.normal,{ st with env:=[(0,.list Gt sz [],Gv)] })else En
   |_,_=>En
  | .stuck=>En
structure qj where
 takes:List Nat:=[]
 bP:List Nat:=[]
 bT:List (Nat×Nat):=[]
 shr:List (Nat×Nat):=[]
 fT:List (Nat×Nat):=[]
 red:List (Nat×Nat):=[]
 keep:List (Nat×List Nat):=[]
 vl:List Nat:=[]
 vec:List Nat:=[]
 ex:List ((Nat×Nat)×Nat):=[]
 deriving Inhabited
def Et:Value→Option AVal
 | .bool b=>I (.bool b)
 | .int k n=>I (.int k n)
 | .string s=>I (.str s.data.toList)
 | .slice En 0 0=>I (.list Gv 0 [])
 | .pointer En=>I .b4
 | .map En=>I .bY
 | .nilFunc=>I .cz
 |_=>En
def wG:List Value→Option (List AVal)
 | []=>I []
 |v::vs=>match Et v with
  |some x=>match wG vs with
   |some xs=>I (x::xs)
   |none=>En
  |none=>En
def ofValue:Value→Option AVal
 | .agg cs=>match wG cs.toList with
  |some xs=>I (.agg xs)
  |none=>En
 |v=>Et v
def qu:Operand→Option jx
 | .tmp t=>I (.tmp t)
 | .const v=>match ofValue v with
  |some x=>I (.const x)
  |none=>En
 | .func f=>I (.const (.fn (.func f) [] []))
 | .global _=>En
def pJ:List Operand→Option (List jx)
 | []=>I []
 |x::xs=>match qu x with
  |some y=>match pJ xs with
   |some ys=>I (y::ys)
   |none=>En
  |none=>En
def nv:Option Operand→Option (Option jx)
 |none=>I En
 |some x=>match qu x with
  |some y=>I (I y)
  |none=>En
def yr (P:Program)(t:TypeId):Option Bool:=
 match P.underlying t with
 |some (.struct _)=>I Gv
 |some (.array _ _)=>I Gv
 |some _=>I Gt
 |none=>En
def js (P:Program)(t:TypeId):Option Nat:=(P.info? t).map (·.size)
def oh (P:Program)(t:TypeId):Option Nat:=(P.info? t).map (·.bytes)
def yw (P:Program)(t:TypeId):Option (List AVal):=
 match P.info? t with
 |some i=>match i.zero with
  |some z=>wG z.cells.toList
  |none=>En
 |none=>En
def UG (P:Program)(t:TypeId):Option TypeId:=
 match P.underlying t with
 |some (.struct fs)=>match fs.toList with
  | [f0,f1]=>match P.underlying f0.type,P.underlying f1.type with
   |some (.pointer t'),I (.slice e)=>match P.underlying e,yw P t with
    |some (.int .u8),I [.b4,.list Gv _ []]=>if t' == t then I e else En
    |_,_=>En
   |_,_=>En
  |_=>En
 |_=>En
def UH (P:Program)(t:TypeId):Option AVal:=
 match P.info? t with
 |some i=>match i.zero with
  |some z=>ofValue z
  |none=>En
 |none=>En
def Gg (g:TypeId→Option (List Kd)):Nat→List Field→Option (List Kd)
 |_,[]=>I []
 | off, f :: fs => if f.name != "_" && f.offset == off then (match g f.type with
   |some ks=>(match Gg g (off+ks.length) fs with
    |some r=>I (ks++r)
    |none=>En)
   |none=>En)else En
def vk (P:Program):Nat→TypeId→Option (List Kd)
 |0,_=>En
 |n+1,t=>match P.underlying t with
  |some (.int _)=>if js P t == I 1 then I [.int]else En
  |some .string=>if js P t == I 1 then I [.str]else En
  |some .bool=>if js P t == I 1 then I [.bool]else En
  |some (.struct fs)=>(match Gg (vk P n) 0 fs.toList with
   |some ks=>if !P.stoodInHeld t&&js P t == I ks.length then I ks else En
   |none=>En)
  |some (.array len e)=>(match vk P n e with
   |some ks=>if js P t == I (len*ks.length)then I (G6 len ks).flatten else En
   |none=>En)
  |_=>En
def LQ:Nat:=12
def kM (P:Program)(t:TypeId):Option Kd:=
 match P.underlying t with
 |some (.int _)=>I .int
 |some .string=>I .str
 |some .bool=>I .bool
 |_=>En
def Eu (P:Program)(op:BinOp)(neq:Bool)(t:TypeId)(x y:Operand):Option cU:=
 match P.underlying t with
 |some (.int _)|some .string=>match qu x,qu y with
  |some a,I b=>I (.bin op a b)
  |_,_=>En
 |some .bool=>match qu x,qu y with
  |some a,I b=>I (.beq neq a b)
  |_,_=>En
 |some (.struct _)|some (.array _ _)=>
  if !P.eqGuardType P.depth t then match vk P LQ t,qu x,qu y with
   |some ks,I a,I b=>I (.eqs ks neq a b)
   |_,_,_=>En
  else En
 |some (.slice _)=>match y with
  | .const (.slice En 0 0)=>(qu x).map (.fI 0 neq)
  |_=>En
 |some (.pointer _)=>match y with
  | .const (.pointer En)=>(qu x).map (.fI 1 neq)
  |_=>En
 |some (.map _ _)=>match y with
  | .const (.map En)=>(qu x).map (.fI 2 neq)
  |_=>En
 |some (.func _ _ _)=>match y with
  | .const .nilFunc=>(qu x).map (.fI 3 neq)
  |_=>En
 |_=>En
def UI (P:Program)(op:BinOp)(t:TypeId)(x y:Operand):Option cU:=
 match op with
 | .eql=>Eu P .eql Gt t x y
 | .neq=>Eu P .neq Gv t x y
 |op=>match qu x,qu y with
  |some a,I b=>I (.bin op a b)
  |_,_=>En
def yM (P:Program)(place:Nat→Option (Nat×Nat)):List (Nat×Operand)→Option (List (Nat×Nat×jx))
 | []=>I []
 |(i,x)::ps=>match place i,qu x,yM P place ps with
  |some (off,n),I y,I r=>I ((off,n,y)::r)
  |_,_,_=>En
def yN:List (Nat×Operand)→Option (List (Nat×jx))
 | []=>I []
 |(i,x)::ps=>match qu x,yN ps with
  |some y,I r=>I ((i,y)::r)
  |_,_=>En
def q9r (h:qj)(dst:Option Nat)(x:Operand):Option Nat:=
 match x,dst with
 | .tmp s,I d=>if h.takes.contains d then I s else En
 |_,_=>En
def A6:TypeDesc→Bool
 | .slice _=>Gv
 | .string=>Gv
 |_=>Gt
def ew.at (r:Nat):ew→ew
 | .fT _=>.fT r
 |m=>m
def A7 (P:Program)(h:qj)(md:ew)(r:Nat)(dst:Option Nat)(c:Call):Option cU:=
 match c.callee with
 | .value f=>match qu f,pJ c.args.toList with
  |some f,I args=>I (.call (md.at r) f args)
  |_,_=>En
 | .builtin .len=>match c.args.toList,c.argTypes.toList with
  | [x],[t]=>match P.underlying t with
   |some .string=>(qu x).map (.len 0)
   |some (.slice _)=>(qu x).map (.len 1)
   |_=>En
  |_,_=>En
 | .builtin .cap=>match c.args.toList,c.argTypes.toList with
  | [x],[t]=>match P.underlying t with
   |some (.slice _)=>(qu x).map (.len 2)
   |_=>En
  |_,_=>En
 | .builtin .append=>match c.args.toList,c.argTypes.toList with
  | [x,y],[t,u]=>match P.underlying t,P.underlying u with
   |some (.slice e),I ut=>if A6 ut&&(yw P e).map (·.length) == js P e then match js P e,oh P e,qu x,qu y with
     |some sz,I b,I x,I y=>I (if(dst.map (h.vec.contains ·)).getD Gt then .il r sz b x y else .append (if(dst.map (h.bP.contains ·)).getD Gt then I r else En) sz b x y)
     |_,_,_,_=>En
    else En
   |_,_=>En
  |_,_=>En
 | .builtin .copy=>match c.args.toList,c.argTypes.toList with
  | [x,y],t::_=>match P.underlying t with
   |some (.slice e)=>match js P e,qu x,qu y with
    |some sz,I x,I y=>I (.copy sz x y)
    |_,_,_=>En
   |_=>En
  |_,_=>En
 | .builtin .delete=>match c.args.toList,c.argTypes.toList with
  | [m,k],t::_=>match P.underlying t with
   |some (.map kt _)=>match kM P kt,qu m,qu k with
    |some kd,I m,I k=>I (.delete kd m k)
    |_,_,_=>En
   |_=>En
  |_,_=>En
 | .builtin .max=>(pJ c.args.toList).map .mx
 | .builtin .min=>(pJ c.args.toList).map .mn
 |_=>En
def Ev : List (String × List Int) := [("woofer/network.none", [0, 0]), ("woofer/network.one", [1, 0]), ("woofer/network.turns", [1, 0, 0, 1, -1, 0, 0, -1])]
def Gh (P:Program)(g:Nat):List (String×List Int)→Option (List Int)
 | []=>En
 |(n,cs)::l=>if P.globalNamed n == I g then I cs else Gh P g l
def LR (P:Program)(t:TypeId)(g:Nat):Option cU:=match Gh P g Ev,yr P t,js P t with
 |some cs,I Gv,I n=>if cs.length == n then I (.move (.const (.agg (cs.map (AVal.int .i64)))))else En
 |_,_,_=>En
def LS (h:qj):jx→Option Nat
 | .tmp s=>if h.vl.contains s then I s else En
 |_=>En
def cV (P:Program)(h:qj)(md:ew)(r:Nat)(dst:Option Nat):Op→Option cU
 | .move x=>match q9r h dst x with
  |some s=>I (.take s)
  |none=>(qu x).map .move
 | .assign (.tmp s)=>I (.take s)
 | .assign x=>(qu x).map .move
 | .pick c a b=>match qu c,qu a,qu b with
  |some c,I a,I b=>I (.pick c a b)
  |_,_,_=>En
 | .alloc t=>match UG P t with
  |some e=>I (.gi r t e)
  |none=>bif (dst.map (h.vl.contains ·)).getD Gt then(match yw P t with
   |some z=>bif z.all qk then I (.gI z.length)else En
   |none=>En)else(yw P t).map (.alloc r)
 | .box t x=>match js P t,qu x with
  |some n,I x=>I (bif (dst.map (h.vl.contains ·)).getD Gt then .oP n x else .box r n x)
  |_,_=>En
 | .build t ps=>match P.underlying t,yw P t with
  |some (.struct fs),I z=>if fs.toList.all (fun f=>(js P f.type).isSome)then(yM P (fun i=>match fs[i]? with
    |some f=>(js P f.type).map fun n=>(f.offset,n)
    |none=>En) ps.toList).map (.build z)else En
  |some (.array _ e),I z=>match js P e with
   |some n=>(yM P (fun i=>I (i*n,n)) ps.toList).map (.build z)
   |none=>En
  |_,_=>En
 | .buildSlice t n ps=>match P.underlying t with
  |some (.slice e)=>match js P e,yw P e,yr P e,yN ps.toList with
   |some sz,I z,I ag,I es=>if sz*n≤65536&&0<sz&&z.length == sz&&(ag||sz == 1)&&(!ag||sz != 1)then I (if(dst.map (h.vec.contains ·)).getD Gt then .iN r sz n z es else .buildSlice sz n z es)else En
   |_,_,_,_=>En
  |_=>En
 | .load t (.global g)=>LR P t g
 | .load t x=>match yr P t,js P t,qu x with
  |some Gt,I 1,I x=>if(dst.map (h.takes.contains ·)).getD Gt then I (.cE ((dst.bind fun d=>h.bT.find? fun y=>y.1 == d).map (·.2)) x)else I (bif (dst.map (h.vl.contains ·)).getD Gt then .fH Gt 1 x else .load Gt 1 x)
  |some Gv,I n,I x=>I (bif (dst.map (h.vl.contains ·)).getD Gt then .fH Gv n x else .load Gv n x)
  |_,_,_=>En
 | .store t a v=>match js P t,qu a,qu v with
  |some n,I a,I v=>I (match LS h a with
   |some s=>.dV n s v
   |none=>.store n a v)
  |_,_,_=>En
 | .nilCheck x=>(qu x).map .nilCheck
 | .binOp op t x y _=>UI P op t x y
 | .unOp op _ x=>(qu x).map (.un op)
 | .convert s d x=>match P.underlying s,P.underlying d with
  |some (.int _),I (.int k)=>(qu x).map (.conv k)
  |some .string,I .string=>(qu x).map .fA
  |some (.int _),I .string=>(qu x).map .fA
  |_,_=>En
 | .makeFunc f a b=>match f with
  | .func k=>match pJ a.toList,pJ b.toList with
   |some a,I b=>I (.gJ (.func k) a b)
   |_,_=>En
  |_=>En
 | .makeMap t En=>match P.underlying t with
  |some (.map _ _)=>I (.dW r)
  |_=>En
 | .makeSlice t n c=>match P.underlying t with
  |some (.slice e)=>match js P e,oh P e,yw P e,yr P e,qu n,qu c with
   |some sz,I b,I z,I ag,I n,I c=>
    if(ag||sz == 1)&&(!ag||sz != 1)then I (.cx (if(dst.map (h.bP.contains ·)).getD Gt then I r else En) sz b z n c)else En
   |_,_,_,_,_,_=>En
  |_=>En
 | .slice t x lo hi En=>match qu x,nv lo,nv hi with
  |some x,I lo,I hi=>match P.underlying t with
   |some .string=>I (.eZ x lo hi)
   |some (.slice e)=>(js P e).map fun sz=>.slice sz x lo hi
   |some (.array n e)=>(js P e).map fun sz=>.gj n sz x lo hi
   |_=>En
  |_,_,_=>En
 | .fieldAddr t x i=>match P.underlying t with
  |some (.struct fs)=>match fs[i]? with
   |some f=>match yr P f.type,js P f.type,qu x with
    |some ag,I n,I x=>if 0<n&&(ag||n == 1)then I (.fieldAddr ag f.offset n x)else En
    |_,_,_=>En
   |none=>En
  |_=>En
 | .field t x i=>match P.underlying t with
  |some (.struct fs)=>match fs[i]? with
   |some f=>match yr P f.type,js P f.type,qu x with
    |some ag,I n,I x=>I (.field ag f.offset n x)
    |_,_,_=>En
   |none=>En
  |_=>En
 | .indexAddr t x i=>match qu x,qu i with
  |some x,I i=>match P.underlying t with
   |some (.slice e)=>match js P e with
    |some sz=>if 0<sz then I (.indexAddr sz x i)else En
    |none=>En
   |some (.array n e)=>match js P e,yr P e with
    |some sz,I ag=>if 0<sz&&(ag||sz == 1)then I (.eY ag n sz x i)else En
    |_,_=>En
   |_=>En
  |_,_=>En
 | .index t x i=>match qu x,qu i with
  |some x,I i=>match P.underlying t with
   |some .string=>I (.ey x i)
   |some (.array n e)=>match js P e,yr P e with
    |some sz,I ag=>I (.index ag n sz x i)
    |_,_=>En
   |_=>En
  |_,_=>En
 | .lookup t m k ok=>match P.underlying t with
  |some (.map kt e)=>match kM P kt,UH P e,qu m,qu k with
   |some kd,I z,I m,I k=>I (.lookup kd z ok m k)
   |_,_,_,_=>En
  |_=>En
 | .mapUpdate t m k v=>match P.underlying t with
  |some (.map kt _)=>match kM P kt,qu m,qu k,qu v with
   |some kd,I m,I k,I v=>I (.mapUpdate kd m k v)
   |_,_,_,_=>En
  |_=>En
 | .insert t m k v=>match P.underlying t with
  |some (.map kt _)=>match kM P kt,qu m,qu k,qu v with
   |some kd,I m,I k,I v=>I (.mapUpdate kd m k v)
   |_,_,_,_=>En
  |_=>En
 | .range t x=>match P.underlying t with
  |some .string=>(qu x).map (.dI r)
  |_=>En
 | .next it Gv=>(qu it).map .fJ
 | .extract x i=>(qu x).map fun x=>.extract x i
 | .call c=>A7 P h md r dst c
 |_=>En
def cU.makes:cU→Bool
 | .alloc ..=>Gv
 | .box ..=>Gv
 | .gi ..=>Gv
 | .dW ..=>Gv
 | .cx (I _) ..=>Gv
 | .append (I _) ..=>Gv
 | .il ..=>Gv
 | .iN ..=>Gv
 | .dI ..=>Gv
 | .call (.fT _) ..=>Gv
 |_=>Gt
def cU.iq:cU→Option Nat
 | .dV _ s _=>I s
 |_=>En
def cU.yO (d:Option Nat):cU→Option Nat
 | .dV _ s _=>I s
 |_=>d
def Ew (ops:Array Oper):Option (Nat×Bool)→Option (Option (Nat×Bool))
 |none=>I En
 |some (j,b)=>match(ops[j]?).bind (·.dst)with
  |some d=>I (I (d,b))
  |none=>En
def jeb (h:qj)(id i:Nat):ew:=if h.shr.contains (id,i)then .shr else if h.fT.contains (id,i)then .fT 0 else if h.red.contains (id,i)then .red else .bW
def Gi (P:Program)(h:qj)(nt:Nat)(id:Nat)(ops:Array Oper)(iG:Array Nat)(draw:Bool):List Oper→Nat→List (Nat×Nat)→Option (List b8×List (Nat×Nat))
 | [],_,rs=>I ([],rs)
 |o::os,i,rs=>
  match(cV P h (jeb h id i) rs.length o.dst o.op).getD .bad,Ew ops o.guard with
  |a,I g=>
   if(o.dst.map (decide <| · < nt)).getD Gv&&(a.iq.map (decide <| · < nt)).getD Gv&&(a.iq.isNone||(o.dst.isNone&&o.guard.isNone))then
    let Ey:=if a.makes then(i,rs.length)::rs else rs
    let al:=if draw then(match h.ex.find? fun x=>x.1 == (id,i)with
     |some x=>I [x.2]
     |none=>I ((rs.filter fun x=>(iG.getD i 0).testBit x.1).map (·.2)))else En
    match Gi P h nt id ops iG draw os (i+1) Ey with
    |some (l,UJ)=>I (⟨a.yO o.dst,a,g,al⟩::l,UJ)
    |none=>En
   else En
  |_,_=>En
def zi:jx→List Nat
 | .tmp t=>[t]
 | .const _=>[]
def yP (l:List jx):List Nat:=l.flatMap zi
def A8:Option jx→List Nat
 |some x=>zi x
 |none=>[]
def cU.reads:cU→List Nat
 | .move x=>zi x
 | .take s=>[s]
 | .pick c a b=>zi c++zi a++zi b
 | .alloc _ _=>[]
 | .box _ _ x=>zi x
 | .oP _ x=>zi x
 | .gI _=>[]
 | .dV _ s x=>s::zi x
 | .gi _ _ _=>[]
 | .build _ ps=>ps.flatMap fun p=>zi p.2.2
 | .buildSlice _ _ _ ps=>ps.flatMap fun p=>zi p.2
 | .load _ _ x=>zi x
 | .fH _ _ x=>zi x
 | .cE _ x=>zi x
 | .store _ a v=>zi a++zi v
 | .nilCheck x=>zi x
 | .bin _ x y=>zi x++zi y
 | .eqs _ _ x y=>zi x++zi y
 | .beq _ x y=>zi x++zi y
 | .fI _ _ x=>zi x
 | .un _ x=>zi x
 | .conv _ x=>zi x
 | .fA x=>zi x
 | .field _ _ _ x=>zi x
 | .index _ _ _ x i=>zi x++zi i
 | .ey x i=>zi x++zi i
 | .fieldAddr _ _ _ x=>zi x
 | .indexAddr _ x i=>zi x++zi i
 | .eY _ _ _ x i=>zi x++zi i
 | .slice _ x lo hi=>zi x++A8 lo++A8 hi
 | .eZ x lo hi=>zi x++A8 lo++A8 hi
 | .gj _ _ x lo hi=>zi x++A8 lo++A8 hi
 | .gJ _ a b=>yP a++yP b
 | .dW _=>[]
 | .lookup _ _ _ m k=>zi m++zi k
 | .mapUpdate _ m k v=>zi m++zi k++zi v
 | .delete _ m k=>zi m++zi k
 | .cx _ _ _ _ n c=>zi n++zi c
 | .len _ x=>zi x
 | .append _ _ _ x y=>zi x++zi y
 | .il _ _ _ x y=>zi x++zi y
 | .iN _ _ _ _ ps=>ps.flatMap fun p=>zi p.2
 | .copy _ x y=>zi x++zi y
 | .mx l=>yP l
 | .mn l=>yP l
 | .extract x _=>zi x
 | .call _ f l=>zi f++yP l
 | .dI _ x=>zi x
 | .fJ x=>zi x
 | .bad=>[]
def cU.fU:cU→List Nat
 | .take s=>[s]
 | .append _ _ _ x _=>zi x
 | .store _ _ v=>zi v
 |_=>[]
def b8.reads (o:b8):List Nat:=o.op.reads++(match o.guard with|some g=>[g.1]|none=>[])
def b8.writes (o:b8):List Nat:=o.dst.toList++o.op.fU
inductive Ba where
 |pure|read|write|alloc|take|fT|shr|oi
 deriving DecidableEq,Inhabited
def cU.cl:cU→Ba
 | .load ..=>.read
 | .lookup ..=>.read
 | .alloc ..=>.alloc
 | .box ..=>.alloc
 | .gi ..=>.alloc
 | .dW ..=>.alloc
 | .cx (I _) ..=>.alloc
 | .append (I _) ..=>.alloc
 | .dI ..=>.alloc
 | .cE En _=>.write
 | .cE (I _) _=>.take
 | .store ..=>.write
 | .mapUpdate ..=>.write
 | .delete ..=>.write
 | .copy ..=>.write
 | .fJ ..=>.write
 | .call .bW ..=>.pure
 | .call (.fT _) ..=>.alloc
 | .call .shr ..=>.shr
 | .call .red ..=>.shr
 | .il ..=>.oi
 | .iN ..=>.shr
 |_=>.pure
def cU.cZ:cU→Nat
 | .alloc r _=>r
 | .box r _ _=>r
 | .gi r _ _=>r
 | .dW r=>r
 | .cx (I r) ..=>r
 | .append (I r) ..=>r
 | .dI r _=>r
 | .call (.fT r) ..=>r
 | .cE (I o) _=>o
 | .il r sz ..=>r+1000*sz
 |_=>0
def nw (al:Option (List Nat))(r:Nat):Bool:=match al with
 |none=>Gv
 |some l=>bif oR l then Gy (l.headD 0) (2000+r)else l.contains r
def Ez (a b:Option (List Nat)):Bool:=match a,b with
 |some l,I m=>bif oR l then(bif oR m then !(Gy (l.headD 0) (m.headD 0))&&Gz (l.headD 0) 4000&&Gz (m.headD 0) 4000 else Gw 2000 (l.headD 0)&&Gz (l.headD 0) 4000&&!(m.contains (l.headD 0-2000)))else oR m&&Gw 2000 (m.headD 0)&&Gz (m.headD 0) 4000&&!(l.contains (m.headD 0-2000))
 |_,_=>Gt
def Ba.box:Ba→Bool
 | .read=>Gv
 | .write=>Gv
 | .take=>Gv
 |_=>Gt
def UK (a b:b8):Bool:=(a.op.cl.box&&b.op.cl.box&&Ez a.al b.al) ||
  (match a.op.cl,b.op.cl with
 | .pure,_=>Gv
 |_,.pure=>Gv
 | .read,.read=>Gv
 | .read,.fT=>Gv
 | .fT,.read=>Gv
 | .fT,.fT=>Gv
 | .alloc,.alloc=>a.op.cZ != b.op.cZ
 | .alloc,.read=>!nw b.al a.op.cZ
 | .alloc,.write=>!nw b.al a.op.cZ
 | .alloc,.take=>!nw b.al a.op.cZ
 | .take,.alloc=>!nw a.al b.op.cZ
 | .take,.take=>a.op.cZ != b.op.cZ
 | .read,.alloc=>!nw a.al b.op.cZ
 | .write,.alloc=>!nw a.al b.op.cZ
 | .oi,.oi=>a.op.cZ % 1000 != b.op.cZ % 1000&&a.op.cZ / 1000 != b.op.cZ / 1000
 | .oi,.read=>pG b.al
 | .oi,.write=>pG b.al
 | .oi,.take=>pG b.al
 | .read,.oi=>pG a.al
 | .write,.oi=>pG a.al
 | .take,.oi=>pG a.al
 |_,_=>Gt)
def Gj (a b:List Nat):Bool:=a.all fun x=>!b.contains x
def Bb (a b:b8):Bool:=
 UK a b&&Gj a.writes b.reads&&Gj a.writes b.writes&&Gj b.writes a.reads
def UL (iG:Array Nat)(l:List b8):Bool:=
 (l.zipIdx).all fun(b,j)=>(l.zipIdx).all fun(a,i)=>!(decide (i<j))||(iG.getD j 0).testBit i||Bb a b
def UM (ops:Array Oper):Bool:=ops.toList.zipIdx.all fun(o,i)=>o.after.all fun e=>!Region.binds .any e||decide (e.on<i)
def UN (iG:Array Nat)(ops:Array Oper):Bool:=
 ops.toList.zipIdx.all fun(o,i)=>(List.range ops.size).all fun j=>!((iG.getD i 0).testBit j)||o.after.any fun e=>Region.binds .any e&&(e.on == j||(iG.getD e.on 0).testBit j)
def Gk (P:Program)(h:qj)(nt:Nat)(id:Nat)(ops:Array Oper)(draw:Bool):Option au:=
 match Gi P h nt id ops (Region.before ops) draw ops.toList 0 []with
 |some (l,rs)=>
  if !draw||(UL (Region.before ops) l&&UM ops&&UN (Region.before ops) ops)then
   I (.region rs.length l ((h.keep.find? fun x=>x.1 == id).map (·.2)))
  else En
 |none=>En
def EA (s d:Nat)(o:Oper):Bool:=match o.op,o.dst,o.guard with
 | .move (.tmp s'),I d',En=>s' == s&&d' == d
 |_,_,_=>Gt
def UO (s d:Nat)(o:Oper):Bool:=match o.op,o.dst,o.guard with
 | .assign (.tmp s'),I d',En=>s' == s&&d' == d
 |_,_,_=>Gt
def UQ (x d:Nat)(o:Oper):Option TypeId:=match o.op,o.dst,o.guard with
 | .call c,I d',En=>match c.callee,c.args.toList,c.argTypes.toList with
  | .builtin .cap,[.tmp x'],[t]=>if x' == x&&d' == d then I t else En
  |_,_,_=>En
 |_,_,_=>En
def UR (x d:Nat)(o:Oper):Option TypeId:=match o.op,o.dst,o.guard with
 | .call c,I d',En=>match c.callee,c.args.toList,c.argTypes.toList with
  | .builtin .len,[.tmp x'],[t]=>if x' == x&&d' == d then I t else En
  |_,_,_=>En
 |_,_,_=>En
def LU (x h d:Nat)(o:Oper):Option TypeId:=match o.op,o.dst,o.guard with
 | .slice t (.tmp x') En (I (.tmp h')) En,I d',En=>if x' == x&&h' == h&&d' == d then I t else En
 |_,_,_=>En
def US (x y d:Nat)(o:Oper):Option (TypeId×TypeId):=match o.op,o.dst,o.guard with
 | .call c,I d',En=>match c.callee,c.args.toList,c.argTypes.toList with
  | .builtin .append,[.tmp x',.tmp y'],[t,u]=>if x' == x&&y' == y&&d' == d then I (t,u)else En
  |_,_,_=>En
 |_,_,_=>En
def jo5 (ops:Array Oper):Option (TypeId×TypeId):=match ops.toList with
 | [o0,o1,o2,o3,o4,o5,o6,o7,o8,o9]=>match UQ 18 19 o2,LU 17 19 20 o3,US 20 21 22 o5,UR 23 24 o7,LU 22 24 25 o8 with
  |some t2,I t3,I (t,u),I t7,I t8=>if EA 0 17 o0&&EA 0 18 o1&&EA 1 21 o4&&EA 0 23 o6&&UO 25 0 o9&&t2 == t&&t3 == t&&t7 == t&&t8 == t then I (t,u)else En
  |_,_,_,_,_=>En
 |_=>En
def LV (P:Program)(nt:Nat)(ops:Array Oper):Option Nat:=match jo5 ops with
 |some (t,u)=>match P.underlying t,P.underlying u with
  |some (.slice e),I (.int _)=>match P.info? e with
   |some i=>if i.zero.isSome&&0<i.size&&i.bytes≤4096&&26≤nt&&(yw P e).isSome&&(yw P e).map (·.length) == I i.size then I i.size else En
   |none=>En
  |_,_=>En
 |none=>En
def hE (P:Program)(h:qj)(nt:Nat):Code→Option au
 | .skip=>I .skip
 | .label _=>I .skip
 | .region id ops draw=>match draw,LV P nt ops with
  |false,I sz=>I (.grow sz)
  |_,_=>Gk P h nt id ops draw
 | .seq a b=>match hE P h nt a,hE P h nt b with
  |some x,I y=>I (.seq x y)
  |_,_=>En
 | .cond c a b=>match qu c,hE P h nt a,hE P h nt b with
  |some c,I x,I y=>I (.cond c x y)
  |_,_,_=>En
 | .block id b=>(hE P h nt b).map (.block id)
 | .loop b=>(hE P h nt b).map .loop
 | .scope b=>(hE P h nt b).map fun x=>.seq x .skip
 | .rangeFunc f ps a b=>match qu f,hE P h nt a,hE P h nt b with
  |some f,I x,I y=>if ps.all (decide <| · < nt)then I (.rangeFunc f ps.toList x y)else En
  |_,_,_=>En
 | .exit id=>I (.exit id)
 | .ret=>I .ret
 |_=>I .stuck
def LW (P:Program):ResultVar→Option nh
 | .tmp t=>I (.tmp t)
 | .cell t ty=>match yr P ty,js P ty with
  |some Gv,I n=>I (.cell t Gv n)
  |some Gt,I 1=>I (.cell t Gt 1)
  |_,_=>En
def Bc (P:Program):List ResultVar→Option (List nh)
 | []=>I []
 |r::rs=>match LW P r,Bc P rs with
  |some x,I xs=>I (x::xs)
  |_,_=>En
def Gl (P:Program)(h:qj)(f:Func):Option ar:=
 match f.body with
 |some c=>match hE P h f.ntmps c,Bc P f.results.toList with
  | some b, I rs => if f.name == "runtime.NumGoroutine" then En else I ⟨f.ntmps, b, rs⟩
  |_,_=>En
 |none=>En
structure aH where
 K:Nat→Nat→Option Value
 β:Nat→Option Nat
 W:Nat→Prop
 D:Nat→Prop
 T:Nat×Nat×Nat×Nat→Prop
def aH.bW (K:Nat→Nat→Option Value):aH:=⟨K,fun _=>En,fun _=>False,fun _=>False,fun _=>False⟩
def fM (C:aH):Fn→Fn→Prop
 | .yield b,f=>∃r,C.β b=I r∧f=.yield r
 |f,f'=>f'=f
inductive ly where
 |val (x:AVal) (v:Value)
 |cells (r:Nat) (xs:List AVal) (o:Nat)
 |row (r sz:Nat) (xs:List AVal) (o:Nat)
 |fE (xs:List AVal) (vs:List Value)
inductive aC (C:aH):ly→Prop where
 |bool (b:Bool):aC C (.val (.bool b) (.bool b))
 |int (k:IntKind) (n:Int):aC C (.val (.int k n) (.int k n))
 |str (s:List UInt8):aC C (.val (.str s) (.string ⟨⟨s⟩⟩))
 |jL (sz:Nat):aC C (.val (.list Gv sz []) (.slice En 0 0))
 |list (sz:Nat) (xs:List AVal) (r o cap:Nat) (hl:xs.length≤cap) (hr:aC C (.row r sz xs o)):aC C (.val (.list Gt sz xs) (.slice (I ⟨r,o,En⟩) xs.length cap))
 |jM (sz:Nat) (a:Addr) (hs:a.spot≠En):aC C (.val (.list Gt sz []) (.slice (I a) 0 0))
 |ms (b o len r cap:Nat) (hb:C.β b=I r) (hl:len≤cap):aC C (.val (.ms b o len) (.slice (I ⟨r,o,En⟩) len cap))
 |ptr (b o r:Nat) (hb:C.β b=I r):aC C (.val (.ptr b o) (.pointer (I ⟨r,o,En⟩)))
 |ah (x:AVal) (r o:Nat) (h:aC C (.cells r x.flat o)):aC C (.val (.ah x) (.pointer (I ⟨r,o,En⟩)))
 |b4:aC C (.val .b4 (.pointer En))
 |map (b r:Nat) (hb:C.β b=I r):aC C (.val (.map b) (.map (I r)))
 |bY:aC C (.val .bY (.map En))
 |fn (f f':Fn) (a b:List AVal) (as bs:List Value) (hf:fM C f f') (ha:aC C (.fE a as)) (hb:aC C (.fE b bs)):aC C (.val (.fn f a b) (.func f' ⟨as⟩ ⟨bs⟩))
 |cz:aC C (.val .cz .nilFunc)
 |agg (cs:List AVal) (vs:List Value) (h:aC C (.fE cs vs)):aC C (.val (.agg cs) (.agg ⟨vs⟩))
 |aB (cs:List AVal) (vs:List Value) (h:aC C (.fE cs vs)):aC C (.val (.aB cs) (.tuple ⟨vs⟩))
 |undef:aC C (.val .undef (.tuple #[]))
 |any (v:Value):aC C (.val .any v)
 |dc (n:Nat) (a:Addr):aC C (.val (.dc n) (.pointer (I a)))
 |aw (b bG len r0 r cap:Nat) (hb:C.β b=I r0) (ht:C.T (r0,bG,r,cap)) (hl:len≤cap):aC C (.val (.aw b bG len) (.slice (I ⟨r,0,En⟩) len cap))
 |dQ (b bG off r0 r cap:Nat) (hb:C.β b=I r0) (ht:C.T (r0,bG,r,cap)):aC C (.val (.dQ b bG off) (.pointer (I ⟨r,off,En⟩)))
 |iw (r o:Nat):aC C (.cells r [] o)
 |dL (r o:Nat) (x:AVal) (xs:List AVal) (v:Value) (hv:C.K r o=I v) (hx:aC C (.val x v)) (h:aC C (.cells r xs (o+1))):aC C (.cells r (x::xs) o)
 |fV (r sz o:Nat):aC C (.row r sz [] o)
 |dF (r sz o:Nat) (x:AVal) (xs:List AVal) (hs:x.flat.length=sz) (hx:aC C (.cells r x.flat o)) (h:aC C (.row r sz xs (o+sz))):aC C (.row r sz (x::xs) o)
 |nil:aC C (.fE [] [])
 |cons (x:AVal) (xs:List AVal) (v:Value) (vs:List Value) (hx:aC C (.val x v)) (h:aC C (.fE xs vs)):aC C (.fE (x::xs) (v::vs))
abbrev bN (C:aH)(x:AVal)(v:Value):Prop:=aC C (.val x v)
abbrev aV (C:aH)(xs:List AVal)(vs:List Value):Prop:=aC C (.fE xs vs)
abbrev cB (C:aH)(r:Nat)(xs:List AVal)(o:Nat):Prop:=aC C (.cells r xs o)
abbrev bu (C:aH)(r sz:Nat)(xs:List AVal)(o:Nat):Prop:=aC C (.row r sz xs o)
structure aH.le (C C':aH):Prop where
 k:∀r o v,C.K r o=I v→C'.K r o=I v
 b:∀b r,C.β b=I r→C'.β b=I r
 w:C'.W=C.W
 d:∀r,C.D r→C'.D r
 t:∀q,C.T q→C'.T q:=by exact fun _ h=>h
theorem aH.le_refl (C:aH):C.le C:=⟨fun _ _ _ h=>h,fun _ _ h=>h,rfl,fun _ h=>h,fun _ h=>h⟩
theorem aH.le_trans {A B C:aH}(h:A.le B)(k:B.le C):A.le C:=⟨fun r o v x=>k.1 r o v (h.1 r o v x),fun b r x=>k.2 b r (h.2 b r x),k.w.trans h.w,fun r x=>k.d r (h.d r x),fun r x=>k.t r (h.t r x)⟩
theorem fM.imp {C C'}(h:(∀r o v,C.K r o=I v→C'.K r o=I v)∧(∀b r,C.β b=I r→C'.β b=I r)){f f'}(hf:fM C f f'):fM C' f f':=by
 cases f<;>simp only[fM]at *<;>first|exact hf|exact⟨hf.choose,h.2 _ _ hf.choose_spec.1,hf.choose_spec.2⟩
theorem aC.imp {C C'}(h:(∀r o v,C.K r o=some v→C'.K r o=some v)∧(∀b r,C.β b=some r→C'.β b=some r)){i}(hr:aC C i)(hT:∀q,C.T q→C'.T q:=by first|exact fun _ h=>h|exact fun _ h=>False.elim h):aC C' i:=by
 induction hr with
 |bool b=>exact .bool b
 |int k n=>exact .int k n
 |str s=>exact .str s
 |jL sz=>exact .jL sz
 |list sz xs r o cap hl _ ih=>exact .list sz xs r o cap hl ih
 |jM sz a hs=>exact .jM sz a hs
 |ms b o len r cap hb hl=>exact .ms b o len r cap (h.2 _ _ hb) hl
 |ptr b o r hb=>exact .ptr b o r (h.2 _ _ hb)
 |ah x r o _ ih=>exact .ah x r o ih
 |b4=>exact .b4
 |map b r hb=>exact .map b r (h.2 _ _ hb)
 |bY=>exact .bY
 |fn f f' a b as bs hf _ _ ha hb=>exact .fn f f' a b as bs (hf.imp h) ha hb
 |cz=>exact .cz
 |agg cs vs _ ih=>exact .agg cs vs ih
 |aB cs vs _ ih=>exact .aB cs vs ih
 |undef=>exact .undef
 |any v=>exact .any v
 |dc n a=>exact .dc n a
 |aw b bG len r0 r cap hb ht hl=>exact .aw b bG len r0 r cap (h.2 _ _ hb) (hT _ ht) hl
 |dQ b bG off r0 r cap hb ht=>exact .dQ b bG off r0 r cap (h.2 _ _ hb) (hT _ ht)
 |iw r o=>exact .iw r o
 |dL r o x xs v hv _ _ oj ih=>exact .dL r o x xs v (h.1 _ _ _ hv) oj ih
 |fV r sz o=>exact .fV r sz o
 |dF r sz o x xs hs _ _ oj ih=>exact .dF r sz o x xs hs oj ih
 |nil=>exact .nil
 |cons x xs v vs _ _ oj ih=>exact .cons x xs v vs oj ih
theorem aC.mono {C C'}(h:C.le C'){i}(hr:aC C i):aC C' i:=hr.imp ⟨h.k,h.b⟩ h.t
def ly.below (n:Nat):ly→Bool
 | .val x _=>Abs.below n x
 | .cells _ xs _=>qx n xs
 | .row _ _ xs _=>qx n xs
 | .fE xs _=>qx n xs
theorem LX (n:Nat)(x:AVal):qx n x.flat=Abs.below n x:=by
 cases x<;>simp[AVal.flat,qx,Abs.below]
theorem aC.shift {C C'}(n:Nat)(hK:∀r o v,C.K r o=some v→C'.K r o=some v)(hβ:∀b r,b<n→C.β b=some r→C'.β b=some r){i}(hr:aC C i)(hb:i.below n=true)(hT:∀q,0<n→C.T q→C'.T q:=by first|exact fun _ _ h=>h|exact fun _ h=>absurd h (Nat.lt_irrefl 0)|exact fun _ _ h=>False.elim h):aC C' i:=by
 induction hr with
 |bool b=>exact .bool b
 |int k n=>exact .int k n
 |str s=>exact .str s
 |jL sz=>exact .jL sz
 |list sz xs r o cap hl _ ih=>exact .list sz xs r o cap hl (ih (by simpa[ly.below,Abs.below]using hb))
 |jM sz a hs=>exact .jM sz a hs
 |ms b o len r cap h1 hl=>exact .ms b o len r cap (hβ _ _ (by simpa[ly.below,Abs.below]using hb) h1) hl
 |ptr b o r h1=>exact .ptr b o r (hβ _ _ (by simpa[ly.below,Abs.below]using hb) h1)
 |ah x r o _ ih=>exact .ah x r o (ih (by simpa[ly.below,Abs.below,LX]using hb))
 |b4=>exact .b4
 |map b r h1=>exact .map b r (hβ _ _ (by simpa[ly.below,Abs.below]using hb) h1)
 |bY=>exact .bY
 |fn f f' a b as bs hf _ _ iha ihb=>
  have UT:fM C' f f':=by
   cases f<;>simp only[fM]at *<;>first|exact hf|skip
   obtain⟨r,h1,rfl⟩:=hf
   simp[ly.below,Abs.below]at hb
   exact⟨r,hβ _ _ hb.1.1 h1,rfl⟩
  have qP:qx n a=Gv∧qx n b=Gv:=by
   cases f<;>simp[ly.below,Abs.below]at hb<;>first|exact hb|exact⟨hb.1.2,hb.2⟩
  exact .fn f f' a b as bs UT (iha qP.1) (ihb qP.2)
 |cz=>exact .cz
 |agg cs vs _ ih=>exact .agg cs vs (ih (by simpa[ly.below,Abs.below]using hb))
 |aB cs vs _ ih=>exact .aB cs vs (ih (by simpa[ly.below,Abs.below]using hb))
 |undef=>exact .undef
 |any v=>exact .any v
 |dc n a=>exact .dc n a
 |aw b bG len r0 r cap h1 ht hl=>
  have Bd:b<n:=by simpa[ly.below,Abs.below]using hb
  exact .aw b bG len r0 r cap (hβ _ _ Bd h1) (hT _ (by omega) ht) hl
 |dQ b bG off r0 r cap h1 ht=>
  have Bd:b<n:=by simpa[ly.below,Abs.below]using hb
  exact .dQ b bG off r0 r cap (hβ _ _ Bd h1) (hT _ (by omega) ht)
 |iw r o=>exact .iw r o
 |dL r o x xs v hv _ _ oj ih=>
  simp[ly.below,qx]at hb oj ih
  exact .dL r o x xs v (hK _ _ _ hv) (oj hb.1) (ih hb.2)
 |fV r sz o=>exact .fV r sz o
 |dF r sz o x xs hs _ _ oj ih=>
  simp[ly.below,qx,LX]at hb oj ih
  exact .dF r sz o x xs hs (oj hb.1) (ih hb.2)
 |nil=>exact .nil
 |cons x xs v vs _ _ oj ih=>
  simp[ly.below,qx]at hb oj ih
  exact .cons x xs v vs (oj hb.1) (ih hb.2)
theorem aV.length {C xs}:∀ {vs:List Value},aV C xs vs→vs.length=xs.length:=by
 induction xs with
 |nil=>intro vs h;cases h;rfl
 |cons x xs ih=>intro vs h;cases h with|cons _ _ v vs hx h=>simp[ih h]
theorem aV.get {C xs}:∀ {vs:List Value},aV C xs vs→∀ {i:Nat} {x:AVal},xs[i]?=I x→∃v,vs[i]?=I v∧bN C x v:=by
 induction xs with
 |nil=>intro vs _ i x h;simp at h
 |cons y ys ih=>
  intro vs h i x hi
  cases h with
  |cons _ _ v vs hx h=>
   cases i with
   |zero=>simp at hi;subst hi;exact⟨v,rfl,hx⟩
   |succ i=>simp at hi;obtain⟨w,h1,h2⟩:=ih h hi;exact⟨w,by simpa using h1,h2⟩
theorem aV.append {C xs ys}:∀ {vs ws:List Value},aV C xs vs→aV C ys ws→aV C (xs++ys) (vs++ws):=by
 induction xs with
 |nil=>intro vs ws h k;cases h;exact k
 |cons x xs ih=>intro vs ws h k;cases h with|cons _ _ v vs hx h=>exact .cons _ _ _ _ hx (ih h k)
theorem aV.take {C xs}:∀ {vs:List Value} (n:Nat),aV C xs vs→aV C (xs.take n) (vs.take n):=by
 induction xs with
 |nil=>intro vs n h;cases h;simpa using aC.nil
 |cons x xs ih=>intro vs n h;cases h with|cons _ _ v vs hx h=>cases n with
  |zero=>simpa using aC.nil
  |succ n=>exact .cons _ _ _ _ hx (ih n h)
theorem aV.drop {C xs}:∀ {vs:List Value} (n:Nat),aV C xs vs→aV C (xs.drop n) (vs.drop n):=by
 induction xs with
 |nil=>intro vs n h;cases h;simpa using aC.nil
 |cons x xs ih=>intro vs n h;cases h with|cons _ _ v vs hx h=>cases n with
  |zero=>exact .cons _ _ _ _ hx h
  |succ n=>simpa using ih n h
theorem cB.get {C r xs}:∀ {o:Nat},cB C r xs o→∀ {i:Nat} {x:AVal},xs[i]?=I x→∃v,C.K r (o+i)=I v∧bN C x v:=by
 induction xs with
 |nil=>intro o _ i x h;simp at h
 |cons y ys ih=>
  intro o h i x hi
  cases h with
  |dL _ _ _ _ v hv hx h=>
   cases i with
   |zero=>simp at hi;subst hi;exact⟨v,hv,hx⟩
   |succ i=>simp at hi;obtain⟨w,h1,h2⟩:=ih h hi;exact⟨w,by rw[show o+(i+1)=o+1+i from by omega];exact h1,h2⟩
theorem cB.drop {C r xs}:∀ {o:Nat} (n:Nat),cB C r xs o→cB C r (xs.drop n) (o+n):=by
 induction xs with
 |nil=>intro o n h;simpa using aC.iw r (o+n)
 |cons x xs ih=>intro o n h;cases h with|dL _ _ _ _ v hv hx h=>cases n with
  |zero=>exact .dL _ _ _ _ _ hv hx h
  |succ n=>have:=ih n h;rw[show o+(n+1)=o+1+n from by omega];simpa using this
theorem cB.take {C r xs}:∀ {o:Nat} (n:Nat),cB C r xs o→cB C r (xs.take n) o:=by
 induction xs with
 |nil=>intro o n h;simpa using aC.iw r o
 |cons x xs ih=>intro o n h;cases h with|dL _ _ _ _ v hv hx h=>cases n with
  |zero=>simpa using aC.iw r o
  |succ n=>exact .dL _ _ _ _ _ hv hx (ih n h)
theorem cB.append {C r xs ys}:∀ {o:Nat},cB C r xs o→cB C r ys (o+xs.length)→cB C r (xs++ys) o:=by
 induction xs with
 |nil=>intro o _ k;simpa using k
 |cons x xs ih=>intro o h k;cases h with|dL _ _ _ _ v hv hx h=>exact .dL _ _ _ _ _ hv hx (ih h (by simpa[Hm,Nat.add_comm 1]using k))
theorem bu.get {C r sz xs}:∀ {o:Nat},bu C r sz xs o→∀ {i:Nat} {x:AVal},xs[i]?=I x→cB C r x.flat (o+i*sz):=by
 induction xs with
 |nil=>intro o _ i x h;simp at h
 |cons y ys ih=>
  intro o h i x hi
  cases h with
  |dF _ _ _ _ _ hs hx h=>
   cases i with
   |zero=>simp at hi;subst hi;simpa using hx
   |succ i=>simp at hi;have:=ih h hi;rw[show o+(i+1)*sz=o+sz+i*sz from by rw[G2];omega];exact this
theorem bu.drop {C r sz xs}:∀ {o:Nat} (n:Nat),bu C r sz xs o→bu C r sz (xs.drop n) (o+n*sz):=by
 induction xs with
 |nil=>intro o n h;simpa using aC.fV r sz (o+n*sz)
 |cons x xs ih=>intro o n h;cases h with|dF _ _ _ _ _ hs hx h=>cases n with
  |zero=>simpa using aC.dF _ _ _ _ _ hs hx h
  |succ n=>have:=ih n h;rw[show o+(n+1)*sz=o+sz+n*sz from by rw[G2];omega];simpa using this
theorem bu.take {C r sz xs}:∀ {o:Nat} (n:Nat),bu C r sz xs o→bu C r sz (xs.take n) o:=by
 induction xs with
 |nil=>intro o n h;simpa using aC.fV r sz o
 |cons x xs ih=>intro o n h;cases h with|dF _ _ _ _ _ hs hx h=>cases n with
  |zero=>simpa using aC.fV r sz o
  |succ n=>exact .dF _ _ _ _ _ hs hx (ih n h)
theorem bu.append {C r sz xs ys}:∀ {o:Nat},bu C r sz xs o→bu C r sz ys (o+xs.length*sz)→bu C r sz (xs++ys) o:=by
 induction xs with
 |nil=>intro o _ k;simpa using k
 |cons x xs ih=>
  intro o h k
  cases h with
  |dF _ _ _ _ _ hs hx h=>
   refine .dF _ _ _ _ _ hs hx (ih h ?_)
   have e:o+sz+xs.length*sz=o+(x::xs).length*sz:=by simp[G2];omega
   rw[e];exact k
theorem bu.sized {C r sz xs}:∀ {o:Nat},bu C r sz xs o→∀x∈xs,x.flat.length=sz:=by
 induction xs with
 |nil=>intro o _ x hx;cases hx
 |cons y ys ih=>
  intro o h x hx
  cases h with
  |dF _ _ _ _ _ hs _ h=>
   rcases Hr.1 hx with rfl|hx
   ·exact hs
   ·exact ih h x hx
theorem bu.cells {C r sz xs}:∀ {o:Nat},bu C r sz xs o→cB C r (xs.flatMap AVal.flat) o:=by
 induction xs with
 |nil=>intro o _;exact .iw _ _
 |cons x xs ih=>
  intro o h
  cases h with
  |dF _ _ _ _ _ hs hx h=>
   simp only[Ha]
   refine cB.append hx ?_
   rw[hs]
   exact ih h
theorem bu.fa {C r sz xs}:∀ {o:Nat},cB C r (xs.flatMap AVal.flat) o→(∀x∈xs,x.flat.length=sz)→bu C r sz xs o:=by
 induction xs with
 |nil=>intro o _ _;exact .fV _ _ _
 |cons x xs ih=>
  intro o h hl
  simp only[Ha]at h
  have h1:=cB.take (x.flat.length) h
  have h2:=cB.drop (x.flat.length) h
  rw[List.take_left' rfl]at h1
  rw[List.drop_left' rfl,hl x (by simp)]at h2
  exact .dF _ _ _ _ _ (hl x (by simp)) h1 (ih h2 fun y hy=>hl y (by simp[hy]))
theorem cB.vals {C r xs}:∀ {o:Nat},cB C r xs o→∃vs,aV C xs vs∧∀j v,vs[j]?=I v→C.K r (o+j)=I v:=by
 induction xs with
 |nil=>intro o _;exact⟨[],.nil,by simp⟩
 |cons x xs ih=>
  intro o h
  cases h with
  |dL _ _ _ _ v hv hx h=>
   obtain⟨vs,h1,h2⟩:=ih h
   refine⟨v::vs,.cons _ _ _ _ hx h1,?_⟩
   intro j u hj
   cases j with
   |zero=>simp at hj;subst hj;exact hv
   |succ j=>simp at hj;rw[show o+(j+1)=o+1+j from by omega];exact h2 j u hj
inductive Loc where
 |slot (s:Nat)
 |cell (b j:Nat)
 deriving DecidableEq
def fb (sz:Nat)(xs:List AVal)(cells:Array Value)(elem:TypeId)(len cap:Nat):Prop:=
 ∀(e:Nat) (l:List UInt8),sz=0→xs=[.int .u64 (e:Int),.str l]→elem=e∧len=l.length∧len≤cap∧cap≤maxLen∧cells.size=cap∧cells.toList.take len=l.map fun b=>Value.int .u8 b.toNat
theorem fb.pos {sz xs cells}{elem:TypeId}{len cap}(h:0<sz):fb sz xs cells elem len cap:=fun _ _ h0=>by omega
theorem fb.sized {sz xs cells}{elem:TypeId}{len cap}(h:∀x∈xs,x.flat.length=sz):fb sz xs cells elem len cap:=fun e l h0 hx=>by
 have:=h (.str l) (by rw[hx];simp)
 simp[AVal.flat,h0]at this
def aI (C:aH)(ω:Nat→Option Loc)(w:World)(B:Nat)(ℓ:Loc):AVal→Value→Prop
 | .list _ sz xs,.slice (I a) len cap=>ω a.block=I ℓ∧(B≤a.block∨C.W a.block)∧(∀b,C.β b≠I a.block)∧a.spot=En∧a.off=0 ∧
   (∃cells elem,w.heap[a.block]?=I (.cells cells elem (0,0))∧a.off+cap*sz≤cells.size∧fb sz xs cells elem len cap)∧∀o,a.off+len*sz≤o→C.K a.block o=En
 | .dc n,.pointer (I a)=>ω a.block=I ℓ∧(B≤a.block∨C.W a.block)∧(∀b,C.β b≠I a.block)∧a.spot=En∧a.off=0 ∧
   (∃cells elem,w.heap[a.block]?=I (.cells cells elem (0,0))∧a.off+n*1≤cells.size∧fb 0 [] cells elem 0 0)∧∀o,a.off+0*0≤o→C.K a.block o=En
 |_,_=>True
structure Ext (w w':World):Prop where
 size:w.heap.size≤w'.heap.size
 same:∀r,r<w.heap.size→w'.heap[r]?=w.heap[r]?
 os:w'.os=w.os
 output:w'.output=w.output
theorem Ext.refl (w:World):Ext w w:=⟨G5 _,fun _ _=>rfl,rfl,rfl⟩
theorem Ext.get {w w':World}(h:Ext w w'){r:Nat}{o}(hr:w.heap[r]?=I o):w'.heap[r]?=I o:=by
 rw[h.same r (G1.1 hr).1];exact hr
theorem Ext.trans {a b c}(h:Ext a b)(k:Ext b c):Ext a c where
 size:=Nat.le_trans h.size k.size
 same r hr:=by rw[k.same r (G9 hr h.size),h.same r hr]
 os:=k.os.trans h.os
 output:=k.output.trans h.output
theorem wH (w:World)(o:Obj)(r:Nat):(w.alloc o).heap[r]?=if r=w.heap.size then I o else w.heap[r]?:=by
 show(w.heap.push o)[r]?=_
 rw[Array.getElem?_push]
theorem Ext.alloc (w:World)(o:Obj)(ho:∀c t fr,o=.cells c t fr→fr=(0,0)):Ext w (w.alloc o) where
 size:=by rw[World.size_alloc];omega
 same r hr:=by rw[wH,if_neg (by omega)]
 os:=rfl
 output:=rfl
theorem Ext.drew (w:World):Ext w w.drew:=⟨G5 _,fun _ _=>rfl,rfl,rfl⟩
theorem Ext.cell {w w':World}(h:Ext w w'){a:Addr}{v}(hc:w.cell? a=I v):w'.cell? a=I v:=by
 unfold World.cell? at *
 cases hr:w.heap[a.block]? with
 |none=>rw[hr]at hc;cases hc
 |some o=>rw[h.get hr];rw[hr]at hc;exact hc
theorem aI.ext {C:aH}{ω:Nat→Option Loc}{w w' B ℓ x v}(h:Ext w w')(ho:aI C ω w B ℓ x v):aI C ω w' B ℓ x v:=by
 unfold aI at *
 split at ho
 ·obtain⟨h1,h2,h3,h4,h8,⟨cells,elem,h5,h6⟩,h7⟩:=ho
  exact⟨h1,h2,h3,h4,h8,⟨cells,elem,h.get h5,h6⟩,h7⟩
 ·obtain⟨h1,h2,h3,h4,h8,⟨cells,elem,h5,h6⟩,h7⟩:=ho
  exact⟨h1,h2,h3,h4,h8,⟨cells,elem,h.get h5,h6⟩,h7⟩
 ·trivial
inductive cL (C:aH):List (AVal×AVal)→List MapEntry→Prop where
 |nil:cL C [] []
 |cons (k v:AVal) (es:List (AVal×AVal)) (m:MapEntry) (ms:List MapEntry) (hk:bN C k m.key) (hv:bN C v m.val) (h:cL C es ms):cL C ((k,v)::es) (m::ms)
theorem cL.imp {C C'}(h:(∀r o v,C.K r o=some v→C'.K r o=some v)∧(∀b r,C.β b=some r→C'.β b=some r)){es ms}(hr:cL C es ms)(hT:∀q,C.T q→C'.T q:=by first|exact fun _ h=>h|exact fun _ h=>False.elim h):cL C' es ms:=by
 induction hr with
 |nil=>exact .nil
 |cons k v es m ms hk hv _ ih=>exact .cons k v es m ms (aC.imp h hk hT) (aC.imp h hv hT) ih
theorem cL.mono {C C'}(h:C.le C'){es ms}(hr:cL C es ms):cL C' es ms:=hr.imp ⟨h.k,h.b⟩ h.t
def bp (C:aH)(e:Env)(tmps:Array Value):Prop:=∀s x,jj s e=I x→∃v,tmps[s]?=I v∧bN C x.1 v
def Gm (P:Program)(nt:Nat)(c:Code)(a:au):Prop:=∃h,hE P h nt c=I a
structure cD (P:Program)(C:aH)(l:joh)(lp:Loop):Prop where
 assign:Gm P lp.tmps.size lp.assign l.assign
 body:Gm P lp.tmps.size lp.body l.body
 params:lp.params.toList=l.params
 fits:∀t∈l.params,t<lp.tmps.size
 nr:ya l.assign=Gv∧ya l.body=Gv
 env:bp C l.env lp.tmps
 state:lp.state=match l.pending with
  |none=>.ready
  |some .normal=>.busy
  |some _=>.done
 pending:lp.pending=match l.pending with
  |none=>En
  |some .normal=>En
  |some (.exit id)=>I (.exit id)
  |some .ret=>I .ret
def ez (K:Nat→Nat→Option Value)(w:World)(q sz:Nat)(xs:List AVal)(cap:Nat):Prop:=
 ∃cells t vs,w.heap[q]?=I (.cells cells t (0,0))∧xs.length≤cap∧cap*sz≤cells.size∧(∀x∈xs,x.flat.length=sz)∧aV (.bW K) (xs.flatMap AVal.flat) vs ∧
  (∀(j:Nat) v,vs[j]?=I v→cells[j]?=I v)∧∀v∈vs,v.oneCell'=Gv
theorem ez.imp {K K' w w' q sz cap xs}(hK:∀r o v,K r o=I v→K' r o=I v)(hw:w'.heap[q]?=w.heap[q]?)(h:ez K w q sz xs cap):ez K' w' q sz xs cap:=by
 obtain⟨cells,t,vs,h1,h2,h3,h4,h5,h6⟩:=h
 exact⟨cells,t,vs,hw.trans h1,h2,h3,h4,aC.imp (C:=.bW K) (C':=.bW K') ⟨hK,fun _ _ h=>h⟩ h5,h6⟩
abbrev yQ (C:aH)(ω:Nat→Option Loc)(w:World)(B b q n cap:Nat):Prop:=aI C ω w B (.cell b 0) (.list Gt 0 []) (.slice (I ⟨q,0,En⟩) n cap)
def eo (C:aH)(ω:Nat→Option Loc)(w:World)(B b r sz bG:Nat)(xs:List AVal):Prop:=
 ∃q cap,C.T (r,bG,q,cap)∧(∀x,C.T x→x.1=r→x.2.1≤bG∧(x.2.1=bG→x.2.2=(q,cap)))∧ez C.K w q sz xs cap∧(q=r∨yQ C ω w B b q xs.length cap)∧∃cs t,w.heap[r]?=I (.cells cs t (0,0))
theorem eo.imp {C C' ω ω' w w' B B' b r sz bG xs}(hK:∀r o v,C.K r o=I v→C'.K r o=I v)(hT:∀q,C.T q→C'.T q)(Gn:∀x,C'.T x→x.1=r→C.T x)(hw:w'.heap[r]?=w.heap[r]?)
  (hq:∀q n cap,yQ C ω w B b q n cap→w'.heap[q]?=w.heap[q]?∧yQ C' ω' w' B' b q n cap) (h:eo C ω w B b r sz bG xs):eo C' ω' w' B' b r sz bG xs:=by
 obtain⟨q,cap,h1,h2,h3,h4,cs,t,h5⟩:=h
 refine⟨q,cap,hT _ h1,fun x hx hr=>h2 x (Gn x hx hr) hr,?_,?_,cs,t,hw.trans h5⟩
 ·rcases h4 with rfl|h4
  ·exact h3.imp hK hw
  ·exact h3.imp hK (hq _ _ _ h4).1
 ·exact h4.imp id fun h=>(hq _ _ _ h).2
def bD (P:Program)(C:aH)(ω:Nat→Option Loc)(w:World)(B b r:Nat):bh→Prop
 | .hole=>False
 | .cells cs=>∃vs elem,w.heap[r]?=I (.cells vs elem (0,0))∧cs.length≤vs.size ∧
   ∀j c,cs[j]?=I c→∃v,vs[j]?=I v∧v.oneCell'=Gv∧bN C c.1 v∧(c.2=Gv→aI C ω w B (.cell b j) c.1 v)
 | .map es=>∃cf clock,w.heap[r]?=I (.map cf clock)∧cL C es cf.toList
 | .iter s pos=>w.heap[r]?=I (.stringIter ⟨⟨s⟩⟩ pos)
 | .loop l=>∃lp,w.heap[r]?=I (.loop lp)∧cD P C l lp
 | .gi t e l=>∃p v,w.heap[r]?=I (.cells #[p,v] t (0,0))∧(p=.pointer En∨p=.pointer (I ⟨r,0,En⟩))∧((v=.slice En 0 0∧l=[])∨∃a len cap,v=.slice (I a) len cap)∧aI C ω w B (.cell b 1) (.list Gt 0 [.int .u64 (e:Int),.str l]) v
 | .dead=>∃cs t,w.heap[r]?=I (.cells cs t (0,0))
 | .vec sz bG xs=>eo C ω w B b r sz bG xs
def ol : String := "internal/strconv.uint64pow10"
def yR : String := "internal/bytealg.MaxLen"
def j2i (P:Program)(w:World)(g:Nat):Prop:=
 (P.globalNamed ol=I g→Lib.TabIs P w ol .u64 Lib.pow10Tab)∧(P.globalNamed yR=I g→∃m,w.cell? ⟨g,0,En⟩=I (.int .i64 m)) ∧
 (∀x∈Ev,P.globalNamed x.1=I g→∀j n,x.2[j]?=I n→w.cell? ⟨g,j,En⟩=I (.int .i64 n))
def UU (P:Program)(g:Nat):Prop:=P.globalNamed ol=I g∨P.globalNamed yR=I g∨∃x∈Ev,P.globalNamed x.1=I g
def Tabs (P:Program)(w:World):Prop:=∀g,UU P g→g<w.heap.size∧j2i P w g
theorem Tabs.same {P w w'}(h:Tabs P w)(hs:w.heap.size≤w'.heap.size)(hg:∀g,UU P g→w'.heap[g]?=w.heap[g]?):Tabs P w':=by
 intro g hn
 obtain⟨h1,h2,h3,h5⟩:=h g hn
 refine⟨G9 h1 hs,fun EB=>?_,fun EB=>?_,fun x hx EB j n hj=>?_⟩
 ·have h2:=h2 EB
  unfold Lib.TabIs World.var? at *
  rw[EB]at h2 ⊢
  simp only[Option.bind_some]at h2 ⊢
  rw[hg g hn]
  exact h2
 ·obtain⟨m,h4⟩:=h3 EB
  refine⟨m,?_⟩
  unfold World.cell? at *
  simp only[]at h4 ⊢
  rw[hg g hn]
  exact h4
 ·have h4:=h5 x hx EB j n hj
  unfold World.cell? at *
  simp only[]at h4 ⊢
  rw[hg g hn]
  exact h4
theorem Tabs.none {P w}(h:P.globalNamed ol=En∧P.globalNamed yR=En∧∀x∈Ev,P.globalNamed x.1=En):Tabs P w:=fun g hn=>by
 rcases hn with hn|hn|⟨x,hx,hn⟩
 ·rw[h.1]at hn;cases hn
 ·rw[h.2.1]at hn;cases hn
 ·rw[h.2.2 x hx]at hn;cases hn
def zfr (P:Program)(w0:World)(C0:aH):Prop:=Tabs P w0∧∀g,UU P g→(∀b,C0.β b≠I g)∧¬C0.W g
structure ax (P:Program)(C:aH)(ω:Nat→Option Loc)(w0:World)(C0:aH)(h:qh)(w:World):Prop where
 base:zfr P w0 C0
 know:∀r o v,C.K r o=I v→w.cell? ⟨r,o,En⟩=I v
 dv:∀r o v,C.K r o=I v→v.oneCell'=Gv
 apart:∀b r o,C.β b=I r→C.K r o=En
 inj:∀b b' r,C.β b=I r→C.β b'=I r→b=b'
 lt:∀b r,C.β b=I r→r<w.heap.size∧b<h.length
 size:w0.heap.size≤w.heap.size
 frame:∀r,r<w0.heap.size→(∀b,C0.β b≠I r)→¬C0.W r→w.heap[r]?=w0.heap[r]?
 fF:∀r,C.D r→w.heap[r]?=I (.deferred (I []))
 os:w.os=w0.os
 output:w.output=w0.output
 fresh:∀b r,C.β b=I r→C0.β b=I r∨w0.heap.size≤r∨C0.W r
 grown:C0.le C
 old:∀r o,r<w0.heap.size→¬C0.W r→C.K r o=C0.K r o
 box:∀b x r,h[b]?=I x→C.β b=I r→bD P C ω w w0.heap.size b r x
 iH:∀q,C.T q→q.1<w.heap.size
def ak (C:aH)(ω:Nat→Option Loc)(w:World)(B:Nat)(e:Env)(tmps:Array Value):Prop:=
 ∀s x,jj s e=I x→∃v,tmps[s]?=I v∧bN C x.1 v∧(x.2=Gv→aI C ω w B (.slot s) x.1 v)
theorem ak.cq {C ω w B e tmps}(h:ak C ω w B e tmps):bp C e tmps:=
 fun s x hx=>let ⟨v,h1,h2,_⟩:=h s x hx; ⟨v,h1,h2⟩
theorem bD.ext {P:Program}{C:aH}{ω w w' B b r x}(h:Ext w w')(hb:bD P C ω w B b r x):bD P C ω w' B b r x:=by
 cases x with
 |hole=>exact hb
 |cells cs=>
  obtain⟨vs,elem,h1,h2,h3⟩:=hb
  exact⟨vs,elem,h.get h1,h2,fun j c hc=>let ⟨v,a,q,b,d⟩:=h3 j c hc; ⟨v,a,q,b,fun e=>(d e).ext h⟩⟩
 |map es=>obtain⟨cf,clock,h1,h2⟩:=hb;exact⟨cf,clock,h.get h1,h2⟩
 |iter s pos=>exact h.get hb
 |loop l=>obtain⟨lp,h1,h2⟩:=hb;exact⟨lp,h.get h1,h2⟩
 |gi t e l=>obtain⟨p,v,h1,h2,h3,h4⟩:=hb;exact⟨p,v,h.get h1,h2,h3,h4.ext h⟩
 |dead=>obtain⟨cs,t,h1⟩:=hb;exact⟨cs,t,h.get h1⟩
 |vec sz bG xs=>
  obtain⟨q,cap,h1,h2,h3,h4,cs,t,h5⟩:=hb
  have hex:∀ {k:Nat} {o:Obj},w.heap[k]?=I o→w'.heap[k]?=w.heap[k]?:=fun hk=>by rw[h.get hk,hk]
  refine⟨q,cap,h1,h2,h3.imp (fun _ _ _ h=>h) ?_,h4.imp id fun h4=>h4.ext h,cs,t,h.get h5⟩
  obtain⟨cells,t',_,g1,_⟩:=h3
  exact hex g1
theorem ax.tabs {P C ω w0 w C0 hp}(m:ax P C ω w0 C0 hp w):Tabs P w:=
 m.base.1.same m.size fun g hg=>m.frame g (m.base.1 g hg).1 (m.base.2 g hg).1 (m.base.2 g hg).2
theorem ax.ext {P:Program}{C:aH}{ω w0 w w' C0 hp}(h:Ext w w')(m:ax P C ω w0 C0 hp w):ax P C ω w0 C0 hp w' where
 base:=m.base
 know r o v hk:=h.cell (m.know r o v hk)
 dv:=m.dv
 apart:=m.apart
 inj:=m.inj
 lt b r hb:=⟨G9 (m.lt b r hb).1 h.size,(m.lt b r hb).2⟩
 size:=Nat.le_trans m.size h.size
 frame r hr hn hw:=by rw[h.same r (G9 hr m.size)];exact m.frame r hr hn hw
 fF r hr:=h.get (m.fF r hr)
 os:=h.os.trans m.os
 output:=h.output.trans m.output
 fresh:=m.fresh
 grown:=m.grown
 old:=m.old
 box b x r hx hb:=(m.box b x r hx hb).ext h
 iH q hq:=G9 (m.iH q hq) h.size
theorem ak.ext {C ω w w' B e tmps}(h:Ext w w')(he:ak C ω w B e tmps):ak C ω w' B e tmps:=
 fun s x hx=>let ⟨v,a,b,d⟩:=he s x hx; ⟨v,a,b,fun e=>(d e).ext h⟩
def aH.put (C:aH)(r off:Nat)(vs:List Value):aH:={ C with K:=fun b o=>if b=r∧off≤o∧o<off+vs.length then vs[o-off]? else C.K b o }
theorem aH.gL {C:aH}{r off}(vs:List Value)(h:∀o,off≤o→C.K r o=En):C.le (C.put r off vs):=
 ⟨fun b o v hk=>(by
  simp only[aH.put]
  rw[if_neg]
  ·exact hk
  ·rintro ⟨rfl,h1,_⟩;rw[h o h1]at hk;cases hk),fun _ _ h=>h,rfl,fun _ h=>h,fun _ h=>h⟩
theorem aH.Be {C:aH}{r off vs j v}(h:vs[j]?=I v):(C.put r off vs).K r (off+j)=I v:=by
 have hj:j<vs.length:=(Hd.1 h).1
 show(if r=r∧off≤off+j∧off+j<off+vs.length then vs[off+j-off]? else C.K r (off+j))=I v
 rw[if_pos ⟨rfl,by omega,by omega⟩,show off+j-off=j from by omega,h]
theorem cB.iI {C r xs}:∀ {vs:List Value} {o:Nat},aV C xs vs→(∀j v,vs[j]?=I v→C.K r (o+j)=I v)→cB C r xs o:=by
 induction xs with
 |nil=>intro vs o _ _;exact .iw _ _
 |cons x xs ih=>
  intro vs o h hk
  cases h with
  |cons _ _ v vs hx h=>
   refine .dL _ _ _ _ v (by simpa using hk 0 v rfl) hx (ih h ?_)
   intro j u hj
   rw[show o+1+j=o+(j+1)from by omega]
   exact hk (j+1) u (by simpa using hj)
theorem aH.fB {C:aH}{r off xs vs}(hn:∀o,off≤o→C.K r o=En)(h:aV C xs vs):cB (C.put r off vs) r xs off:=
 cB.iI (aC.mono (aH.gL vs hn) h) fun _ _ hj=>aH.Be hj
theorem ax.jX {P C ω w0 w C0 hp}(m:ax P C ω w0 C0 hp w)(r:Nat)(hr:w.heap.size≤r)(o:Nat):C.K r o=En:=by
 cases h:C.K r o with
 |none=>rfl
 |some v=>
  have:=m.know r o v h
  unfold World.cell? at this
  rw[show w.heap[(⟨r,o,En⟩:Addr).block]?=En from Array.getElem?_eq_none hr]at this
  cases this
theorem aI.put {C ω w B r off ℓ x v}(vs:List Value)(hr:w.heap.size≤r∨ω r≠I ℓ)(ho:aI C ω w B ℓ x v):aI (C.put r off vs) ω w B ℓ x v:=by
 unfold aI at *
 split at ho
 ·rename_i a len cap
  obtain⟨h1,h2,h3,h4,h8,⟨cells,elem,h5,h6⟩,h7⟩:=ho
  have br:a.block<w.heap.size:=(G1.1 h5).1
  refine⟨h1,h2,h3,h4,h8,⟨cells,elem,h5,h6⟩,fun o ho=>?_⟩
  simp only[aH.put]
  rw[if_neg]
  ·exact h7 o ho
  ·rintro ⟨rfl,_⟩
   rcases hr with hr|hr
   ·omega
   ·exact hr h1
 ·rename_i a
  obtain⟨h1,h2,h3,h4,h8,⟨cells,elem,h5,h6⟩,h7⟩:=ho
  have br:a.block<w.heap.size:=(G1.1 h5).1
  refine⟨h1,h2,h3,h4,h8,⟨cells,elem,h5,h6⟩,fun o ho=>?_⟩
  simp only[aH.put]
  rw[if_neg]
  ·exact h7 o ho
  ·rintro ⟨rfl,_⟩
   rcases hr with hr|hr
   ·omega
   ·exact hr h1
 ·trivial
theorem cD.imp {P C C'}(h:(∀r o v,C.K r o=some v→C'.K r o=some v)∧(∀b r,C.β b=some r→C'.β b=some r)){l lp}(k:cD P C l lp)(hT:∀q,C.T q→C'.T q:=by first|exact fun _ h=>h|exact fun _ h=>False.elim h):cD P C' l lp:=
 { k with env:=fun s x hx=>let ⟨v,a,b⟩:=k.env s x hx; ⟨v,a,aC.imp h b hT⟩ }
theorem cD.mono {P C C'}(h:C.le C'){l lp}(k:cD P C l lp):cD P C' l lp:=k.imp ⟨h.k,h.b⟩ h.t
theorem bD.imp {P C C' ω ω' w w' B B' b r x}(h:(∀r o v,C.K r o=I v→C'.K r o=I v)∧(∀b r,C.β b=I r→C'.β b=I r))(hw:w'.heap[r]?=w.heap[r]?)
  (ho:∀j y v,aI C ω w B (.cell b j) y v→aI C' ω' w' B' (.cell b j) y v) (hb:bD P C ω w B b r x) (hT:∀q,C.T q→C'.T q:=by exact fun _ h=>h) (Gn:∀x,C'.T x→x.1=r→C.T x:=by exact fun _ h _=>h)
  (hq:∀q n cap,yQ C ω w B b q n cap→w'.heap[q]?=w.heap[q]?:=by exact fun _ _ _ _=>rfl):bD P C' ω' w' B' b r x:=by
 cases x with
 |hole=>exact hb
 |cells cs=>
  obtain⟨vs,elem,h1,h2,h3⟩:=hb
  exact⟨vs,elem,hw.trans h1,h2,fun j c hc=>let ⟨v,a,q,b,d⟩:=h3 j c hc; ⟨v,a,q,aC.imp h b hT,fun e=>ho _ _ _ (d e)⟩⟩
 |map es=>obtain⟨cf,clock,h1,h2⟩:=hb;exact⟨cf,clock,hw.trans h1,h2.imp h hT⟩
 |iter s pos=>exact hw.trans hb
 |loop l=>obtain⟨lp,h1,h2⟩:=hb;exact⟨lp,hw.trans h1,h2.imp h hT⟩
 |gi t e l=>obtain⟨p,v,h1,h2,h3,h4⟩:=hb;exact⟨p,v,hw.trans h1,h2,h3,ho _ _ _ h4⟩
 |dead=>obtain⟨cs,t,h1⟩:=hb;exact⟨cs,t,hw.trans h1⟩
 |vec sz bG xs=>exact eo.imp h.1 hT Gn hw (fun q n cap k=>⟨hq q n cap k,ho _ _ _ k⟩) hb
theorem bD.mono {P C C' ω ω' w B b r x}(h:C.le C')
  (ho:∀j y v,aI C ω w B (.cell b j) y v→aI C' ω' w B (.cell b j) y v) (hb:bD P C ω w B b r x) (Gn:∀x,C'.T x→x.1=r→C.T x:=by exact fun _ h _=>h):bD P C' ω' w B b r x:=hb.imp ⟨h.k,h.b⟩ rfl ho h.t Gn
theorem ax.newRow {P:Program}{C ω w0 w C0 hp}(m:ax P C ω w0 C0 hp w)(cells:Array Value)(t:TypeId)(vs:List Value)
  (hv:∀(j:Nat) v,vs[j]?=I v→cells[j]?=I v) (h1:∀v∈vs,v.oneCell'=Gv):
  ax P (C.put w.heap.size 0 vs) ω w0 C0 hp (w.alloc (.cells cells t)):=by
 have hx:Ext w (w.alloc (.cells cells t)):=Ext.alloc w _ (fun c t fr h=>by cases h;rfl)
 have m':=m.ext hx
 have hn:∀o,C.K w.heap.size o=En:=m.jX _ (G5 _)
 have hle:=aH.gL (C:=C) (off:=0) vs (fun o _=>hn o)
 refine { m' with know:=?_,dv:=?_,apart:=?_,grown:=aH.le_trans m.grown hle,old:=?_,box:=?_ }
 ·intro r o v hk
  simp only[aH.put]at hk
  split at hk
  ·rename_i hc
   obtain⟨rfl,_,_⟩:=hc
   simp only[World.cell?]
   rw[wH,if_pos rfl]
   simpa using hv _ _ hk
  ·exact m'.know r o v hk
 ·intro r o v hk
  simp only[aH.put]at hk
  split at hk
  ·exact h1 v (List.mem_of_getElem? hk)
  ·exact m.dv r o v hk
 ·intro b r o hb
  have:=(m.lt b r hb).1
  simp only[aH.put]
  rw[if_neg (by omega)]
  exact m.apart b r o hb
 ·intro r o hr hw
  have:=m.size
  simp only[aH.put]
  rw[if_neg (by omega)]
  exact m.old r o hr hw
 ·intro b x r eR hb
  exact((m.box b x r eR hb).mono (ω':=ω) hle fun j y v ho=>ho.put vs (.inl (G5 _))).ext hx
theorem ak.put {C:aH}{ω w B e tmps r off}(vs:List Value)(hr:w.heap.size≤r∨∀s,jj s e≠En→(jj s e).any (·.2)=Gv→ω r≠I (.slot s))(hn:∀o,off≤o→C.K r o=En)(he:ak C ω w B e tmps):ak (C.put r off vs) ω w B e tmps:=
 fun s x hx=>let ⟨v,a,b,d⟩:=he s x hx; ⟨v,a,aC.mono (aH.gL vs hn) b,fun e=>(d e).put vs (hr.imp id fun h=>h s (by rw[hx];simp) (by rw[hx];exact e))⟩
def cQ (ω:Nat→Option Loc)(r:Nat)(ℓ:Loc):Nat→Option Loc:=fun b=>if b=r then I ℓ else ω b
theorem aI.other {C ω w B r ℓ ℓ' x v}(hr:ω r≠I ℓ∨ℓ=ℓ')(ho:aI C ω w B ℓ x v):aI C (Abs.cQ ω r ℓ') w B ℓ x v:=by
 unfold aI at *
 split at ho
 ·rename_i a len cap
  obtain⟨h1,h2⟩:=ho
  refine⟨?_,h2⟩
  simp only[Abs.cQ]
  by_cases hb:a.block=r
  ·rw[if_pos hb]
   rcases hr with hr|hr
   ·exact absurd (hb▸h1) hr
   ·rw[hr]
  ·rw[if_neg hb];exact h1
 ·rename_i a
  obtain⟨h1,h2⟩:=ho
  refine⟨?_,h2⟩
  simp only[Abs.cQ]
  by_cases hb:a.block=r
  ·rw[if_pos hb]
   rcases hr with hr|hr
   ·exact absurd (hb▸h1) hr
   ·rw[hr]
  ·rw[if_neg hb];exact h1
 ·trivial
theorem aI.fresh {C ω w B r ℓ ℓ' x v}(hr:w.heap.size≤r)(ho:aI C ω w B ℓ x v):aI C (Abs.cQ ω r ℓ') w B ℓ x v:=by
 unfold aI at *
 split at ho
 ·rename_i a len cap
  obtain⟨h1,h2,h3,h4,h8,⟨cells,elem,h5,h6⟩,h7⟩:=ho
  have br:a.block<w.heap.size:=(G1.1 h5).1
  refine⟨?_,h2,h3,h4,h8,⟨cells,elem,h5,h6⟩,h7⟩
  simp only[Abs.cQ]
  rw[if_neg (by omega)]
  exact h1
 ·rename_i a
  obtain⟨h1,h2,h3,h4,h8,⟨cells,elem,h5,h6⟩,h7⟩:=ho
  have br:a.block<w.heap.size:=(G1.1 h5).1
  refine⟨?_,h2,h3,h4,h8,⟨cells,elem,h5,h6⟩,h7⟩
  simp only[Abs.cQ]
  rw[if_neg (by omega)]
  exact h1
 ·trivial
theorem ak.fresh {C ω w B r ℓ e tmps}(hr:w.heap.size≤r)(he:ak C ω w B e tmps):ak C (Abs.cQ ω r ℓ) w B e tmps:=
 fun s x hx=>let ⟨v,a,b,d⟩:=he s x hx; ⟨v,a,b,fun e=>(d e).fresh hr⟩
theorem ax.kN {P C ω w0 w C0 hp}(m:ax P C ω w0 C0 hp w)(r:Nat)(ℓ:Loc)(hr:w.heap.size≤r):ax P C (Abs.cQ ω r ℓ) w0 C0 hp w:=
 { m with box:=fun b x r' hx hb=>(m.box b x r' hx hb).mono (aH.le_refl C) fun _ _ _ ho=>ho.fresh hr }
theorem ax.cQ {P C ω w0 w C0 hp}(m:ax P C ω w0 C0 hp w)(r:Nat)(ℓ:Loc)(hr:∀b j,ω r≠I (.cell b j)):ax P C (Abs.cQ ω r ℓ) w0 C0 hp w:=
 { m with box:=fun b x r' hx hb=>(m.box b x r' hx hb).mono (aH.le_refl C) fun j _ _ ho=>ho.other (.inl (hr b j)) }
def zq (P:Program)(C0:aH)(w0:World)(C:aH)(tmps:Array Value)(d:Loc)(env:Env)(res:bj)(v:Value)(w':World):Prop:=
 ∃C' ω',C.le C'∧ax P C' ω' w0 C0 res.heap w'∧ak C' ω' w' w0.heap.size (yf env res.strip) tmps∧bN C' res.v v∧(res.own=Gv→aI C' ω' w' w0.heap.size d res.v v)
theorem qu1 (C:aH){v x}(h:Et v=I x):bN C x v:=by
 unfold Et at h
 split at h<;>first|cases h|skip
 ·exact .bool _
 ·exact .int _ _
 ·exact .str _
 ·exact .jL _
 ·exact .b4
 ·exact .bY
 ·exact .cz
theorem LY (C:aH):∀ {vs:List Value} {xs:List AVal},wG vs=I xs→aV C xs vs
 | [],xs,h=>by simp[wG]at h;subst h;exact .nil
 |v::vs,xs,h=>by
  simp only[wG]at h
  split at h
  ·rename_i x hx
   split at h
   ·rename_i ys nx
    cases h
    exact .cons _ _ _ _ (qu1 C hx) (LY C nx)
   ·cases h
  ·cases h
theorem qs8 (C:aH){v x}(h:ofValue v=I x):bN C x v:=by
 unfold ofValue at h
 split at h
 ·rename_i cs
  split at h
  ·rename_i xs hx
   cases h
   exact .agg _ _ (LY C hx)
  ·cases h
 ·exact qu1 C h
section
variable {P:Program}{C C0:aH}{ω:Nat→Option Loc}{w w0:World}{hp:qh}{env:Env}{a:Act}{B:Nat}
theorem qw {x y v}(he:bp C env a.tmps)(hc:qu x=I y)(hv:qi env y=I v):bN C v (a.eval x):=by
 cases x with
 |tmp t=>
  simp only[qu]at hc
  cases hc
  simp only[qi]at hv
  split at hv
  ·rename_i x hx
   cases hv
   obtain⟨u,h1,h2⟩:=he t x hx
   have:a.eval (.tmp t)=u:=by simp[Act.eval,Array.getD_eq_getD_getElem?,h1]
   rw[this];exact h2
  ·cases hv
 |const u=>
  simp only[qu]at hc
  split at hc
  ·rename_i z hz
   cases hc
   simp only[qi]at hv
   cases hv
   exact qs8 C hz
  ·cases hc
 |func f=>
  simp only[qu]at hc
  cases hc
  simp only[qi]at hv
  cases hv
  exact .fn (.func f) (.func f) [] [] [] [] rfl .nil .nil
 |global g=>simp[qu]at hc
theorem EC (he:bp C env a.tmps):∀ {xs:List Operand} {ys:List jx} {vs:List AVal},pJ xs=I ys→gk env ys=I vs→aV C vs (xs.map a.eval)
 | [],ys,vs,hc,hv=>by simp[pJ]at hc;subst hc;simp[gk]at hv;subst hv;exact .nil
 |x::xs,ys,vs,hc,hv=>by
  simp only[pJ]at hc
  split at hc
  ·rename_i y hy
   split at hc
   ·rename_i zs qQ
    cases hc
    simp only[gk]at hv
    split at hv
    ·rename_i v mI
     split at hv
     ·rename_i us hH
      cases hv
      exact .cons _ _ _ _ (qw he hy mI) (EC he qQ hH)
     ·cases hv
    ·cases hv
   ·cases hc
  ·cases hc
theorem bN.dx {b v}(h:bN C (.bool b) v):v=.bool b:=by cases h;rfl
theorem bN.bO {k n v}(h:bN C (.int k n) v):v=.int k n:=by cases h;rfl
theorem bN.cy {s v}(h:bN C (.str s) v):v=.string ⟨⟨s⟩⟩:=by cases h;rfl
theorem bN.dy {b o v}(h:bN C (.ptr b o) v):∃r,C.β b=I r∧v=.pointer (I ⟨r,o,En⟩):=by cases h;exact⟨_,‹_›,rfl⟩
theorem bN.fc {x v}(h:bN C (.ah x) v):∃r o,v=.pointer (I ⟨r,o,En⟩)∧cB C r x.flat o:=by cases h;exact⟨_,_,rfl,‹_›⟩
theorem bN.eL {cs v}(h:bN C (.agg cs) v):∃vs,v=.agg ⟨vs⟩∧aV C cs vs:=by cases h;exact⟨_,rfl,‹_›⟩
theorem bN.oo {cs v}(h:bN C (.aB cs) v):∃vs,v=.tuple ⟨vs⟩∧aV C cs vs:=by cases h;exact⟨_,rfl,‹_›⟩
theorem bN.fe {b o len v}(h:bN C (.ms b o len) v):∃r cap,C.β b=I r∧len≤cap∧v=.slice (I ⟨r,o,En⟩) len cap:=by cases h;exact⟨_,_,‹_›,‹_›,rfl⟩
theorem bN.de {n sz xs v}(h:bN C (.list n sz xs) v):
  (n=Gv∧xs=[]∧v=.slice En 0 0)∨(n=Gt∧∃r o cap,v=.slice (I ⟨r,o,En⟩) xs.length cap∧xs.length≤cap∧bu C r sz xs o)∨(n=Gt∧xs=[]∧∃a,a.spot≠En∧v=.slice (I a) 0 0):=by
 cases h
 ·exact .inl ⟨rfl,rfl,rfl⟩
 ·exact .inr (.inl ⟨rfl,_,_,_,rfl,‹_›,‹_›⟩)
 ·exact .inr (.inr ⟨rfl,rfl,_,‹_›,rfl⟩)
theorem bN.len {n sz xs v}(h:bN C (.list n sz xs) v):∃b cap,v=.slice b xs.length cap:=by
 rcases h.de with⟨rfl,rfl,rfl⟩|⟨rfl,r,o,cap,rfl,_,_⟩|⟨rfl,rfl,a,_,rfl⟩
 ·exact⟨En,0,rfl⟩
 ·exact⟨_,_,rfl⟩
 ·exact⟨_,_,rfl⟩
theorem add_lit (r o n:Nat):(⟨r,o,En⟩:Addr).add n=⟨r,o+n,En⟩:=by unfold Addr.add;split<;>simp_all
theorem Bf (k:IntKind)(n:Int):qe k n=k.wrap n:=by
 unfold qe
 cases h:qM k n with
 |false=>rfl
 |true=>
  simp only[cond_true]
  symm
  have key:∀m:Nat,IntKind.min k≤n→n≤IntKind.max k→k.wrap n=n:=by
   intro _ h1 h2
   unfold IntKind.wrap
   cases k<;>simp[IntKind.bits,IntKind.signed,IntKind.min,IntKind.max]at *<;>omega
  refine key 0 ?_ ?_
  ·cases k<;>cases n<;>simp[qM,IntKind.min,IntKind.signed,IntKind.bits]at *<;>omega
  ·cases k<;>cases n<;>simp[qM,IntKind.max,IntKind.signed,IntKind.bits]at *<;>omega
theorem ED {t:TypeId}{b}(h:yr P t=I b)(w:World):(isAgg t).run P w=.ok b w:=by
 unfold yr at h
 unfold isAgg
 cases hu:P.underlying t with
 |none=>simp[hu]at h
 |some d=>rw[hu]at h;simp[run_underlying hu];cases d<;>simp at h<;>subst h<;>rfl
theorem yo {t:TypeId}{n}(h:js P t=I n)(w:World):(sizeOf t).run P w=.ok n w:=by
 unfold js at h
 cases hi:P.info? t with
 |none=>simp[hi]at h
 |some i=>simp[hi]at h;simp[sizeOf,typeInfo,hi,h]
theorem q2y {t:TypeId}{ag n off cs vs x}(hg:yr P t=I ag)(hn:js P t=I n)(hp:part ag cs off n=I x)(hr:aV C cs vs)(w:World):
  ∃v,(Go.part t ⟨vs⟩ off).run P w=.ok v w∧bN C x v:=by
 unfold part at hp
 cases ag with
 |true=>
  simp only[cond_true]at hp
  cases hb:Gw (off+n) cs.length with
  |false=>simp[hb]at hp
  |true=>
   simp[hb]at hp
   subst hp
   refine⟨.agg ⟨(vs.drop off).take n⟩,?_,.agg _ _ ((hr.drop off).take n)⟩
   simp[Go.part,ED hg,yo hn]
 |false=>
  simp only[cond_false]at hp
  obtain⟨v,h1,h2⟩:=hr.get hp
  exact⟨v,by simp[Go.part,ED hg,h1],h2⟩
theorem qqb (a:List UInt8):(⟨⟨a⟩⟩:ByteArray).toList=a:=by
 rw[ByteArray.toList_eq]
end
theorem UW:∀ {ks:List Kd} {xs ys:List AVal} (Gp:List Kd) (gd oq:List AVal),xs.length=ks.length→ys.length=ks.length →
  y6 (ks++Gp) (xs++gd) (ys++oq)=match y6 ks xs ys with|some Gv=>y6 Gp gd oq|r=>r
 | [],[],[],Gp,gd,oq,_,_=>by simp[y6]
 |k::ks,x::xs,y::ys,Gp,gd,oq,h,h'=>by
  simp only[List.cons_append,y6]
  cases he:ni k x y with
  |none=>simp
  |some b=>cases b with
   |false=>simp
   |true=>simpa using UW Gp gd oq (by simpa using h) (by simpa using h')
 | [],_::_,_,_,_,_,h,_=>by simp at h
 | [],[],_::_,_,_,_,_,h=>by simp at h
 |_::_,[],_,_,_,_,h,_=>by simp at h
 |_::_,_::_,[],_,_,_,_,h=>by simp at h
def vm (ag:Bool)(us:List Value):Value:=if ag then .agg ⟨us⟩else us.headD undef
def LZ:TypeDesc→Bool
 | .struct _=>Gv
 | .array _ _=>Gv
 |_=>Gt
section
variable {P:Program}{C:aH}
theorem jfj {t:TypeId}{d:TypeDesc}(h:P.underlying t=I d):yr P t=I (LZ d):=by
 unfold yr
 rw[h]
 cases d<;>rfl
theorem L0 {t:TypeId}{ag n off us}(hg:yr P t=I ag)(hn:js P t=I n)(h1:ag=Gt→n=1)(hl:off+n≤us.length)(w:World):
  (Go.part t ⟨us⟩ off).run P w=.ok (vm ag ((us.drop off).take n)) w:=by
 cases ag with
 |true=>simp[Go.part,ED hg,yo hn,vm]
 |false=>
  obtain rfl:=h1 rfl
  have br:off<us.length:=by omega
  simp only[Go.part,Sem.run_bind,ED hg,Result.andThen_ok,vm,Hb,if_false]
  have e:(⟨us⟩:Array Value)[off]?=I us[off]:=by
   show(List.toArray us)[off]?=_
   rw[Hj,List.getElem?_eq_getElem br]
  rw[e,List.drop_eq_getElem_cons br]
  rfl
def UX (P:Program)(C:aH)(n:Nat)(t:TypeId)(ks:List Kd):Prop:=
 ∃ag,yr P t=I ag∧js P t=I ks.length∧(ag=Gt→ks.length=1)∧∀d,n≤d→∀xs ys us vs b w,aV C xs us→aV C ys vs→xs.length=ks.length→ys.length=ks.length→y6 ks xs ys=I b →
  (Op.equalIn d t (vm ag us) (vm ag vs)).run P w=.ok b w
theorem L2 {α:Type}(xs:List α)(off n:Nat):xs.drop off=(xs.drop off).take n++xs.drop (off+n):=by
 rw[←List.drop_drop];exact(List.take_append_drop _ _).symm
theorem qsv {n d}(hd:n≤d):∀(fs:List Field) (off:Nat) (ks:List Kd) (xs ys:List AVal) (us vs:List Value) (b:Bool) (w:World),
  Gg (vk P n) off fs=I ks →
  (∀f∈fs,∀ks,vk P n f.type=I ks→UX P C n f.type ks) →
  aV C xs us→aV C ys vs→xs.length=off+ks.length→ys.length=off+ks.length→y6 ks (xs.drop off) (ys.drop off)=I b →
  (Op.eqFields d ⟨us⟩ ⟨vs⟩ fs).run P w=.ok b w
 | [],off,ks,xs,ys,us,vs,b,w,hf,_,hx,hy,ny,oT,he=>by
  simp[Gg]at hf
  subst hf
  rw[G0 (by simp at ny;omega),G0 (by simp at oT;omega)]at he
  simp[y6]at he
  subst he
  simp[Op.eqFields]
 |f::fs,off,ks,xs,ys,us,vs,b,w,hf,dN,hx,hy,ny,oT,he=>by
  simp only[Gg]at hf
  split at hf
  ·rename_i hc
   simp at hc
   obtain⟨qR,wI⟩:=hc
   split at hf
   ·rename_i k1 gp
    split at hf
    ·rename_i k2 dz
     cases hf
     obtain⟨ag,dr,db,h1,heq⟩:=dN f (by simp) k1 gp
     have Gq:=hx.length
     have wJ:=hy.length
     simp at ny oT
     have p1:=L0 (P:=P) (us:=us) (off:=f.offset) dr db h1 (by omega) w
     have p2:=L0 (P:=P) (us:=vs) (off:=f.offset) dr db h1 (by omega) w
     rw[L2 xs off k1.length,L2 ys off k1.length,UW _ _ _ (by simp;omega) (by simp;omega)]at he
     simp only[Op.eqFields,ne_eq,qR,not_false_eq_true,if_true,Sem.run_bind,p1,p2,Result.andThen_ok]
     rw[wI]
     cases hb:y6 k1 ((xs.drop off).take k1.length) ((ys.drop off).take k1.length)with
     |none=>rw[hb]at he;cases he
     |some b1=>
      rw[hb]at he
      rw[heq d hd _ _ _ _ b1 w ((hx.drop off).take _) ((hy.drop off).take _) (by simp;omega) (by simp;omega) hb]
      cases b1 with
      |false=>simp at he;subst he;simp
      |true=>
       simp only[Result.andThen_ok,Hu,Hb,if_false]
       exact qsv hd fs (off+k1.length) k2 xs ys us vs b w dz (fun g hg=>dN g (by simp[hg])) hx hy (by omega) (by omega) he
    ·cases hf
   ·cases hf
  ·cases hf
theorem qww {n d}(hd:n≤d){e:TypeId}{ag k1}(dr:yr P e=I ag)(db:js P e=I k1.length)(h1:ag=Gt→k1.length=1)
  (heq:∀d,n≤d→∀xs ys us vs b w,aV C xs us→aV C ys vs→xs.length=k1.length→ys.length=k1.length→y6 k1 xs ys=I b→(Op.equalIn d e (vm ag us) (vm ag vs)).run P w=.ok b w):
  ∀(len i:Nat) (xs ys:List AVal) (us vs:List Value) (b:Bool) (w:World),
  aV C xs us→aV C ys vs→xs.length=i*k1.length+len*k1.length→ys.length=i*k1.length+len*k1.length→y6 (G6 len k1).flatten (xs.drop (i*k1.length)) (ys.drop (i*k1.length))=I b →
  (Op.eqItems d e k1.length ⟨us⟩ ⟨vs⟩ (List.range' i len)).run P w=.ok b w
 |0,i,xs,ys,us,vs,b,w,hx,hy,ny,oT,he=>by
  rw[G0 (by simp at ny;omega),G0 (by simp at oT;omega)]at he
  simp[y6]at he
  subst he
  simp[Op.eqItems]
 |len+1,i,xs,ys,us,vs,b,w,hx,hy,ny,oT,he=>by
  have Gq:=hx.length
  have wJ:=hy.length
  rw[G2]at ny oT
  have p1:=L0 (P:=P) (us:=us) (off:=i*k1.length) dr db h1 (by omega) w
  have p2:=L0 (P:=P) (us:=vs) (off:=i*k1.length) dr db h1 (by omega) w
  rw[List.replicate_succ,List.flatten_cons,L2 xs (i*k1.length) k1.length,L2 ys (i*k1.length) k1.length,UW _ _ _ (by simp;omega) (by simp;omega)]at he
  simp only[List.range'_succ,Op.eqItems,Sem.run_bind,p1,p2,Result.andThen_ok]
  cases hb:y6 k1 ((xs.drop (i*k1.length)).take k1.length) ((ys.drop (i*k1.length)).take k1.length)with
  |none=>rw[hb]at he;cases he
  |some b1=>
   rw[hb]at he
   rw[heq d hd _ _ _ _ b1 w ((hx.drop _).take _) ((hy.drop _).take _) (by simp;omega) (by simp;omega) hb]
   cases b1 with
   |false=>simp at he;subst he;simp
   |true=>
    simp only[Result.andThen_ok,Hu,Hb,if_false]
    refine qww hd dr db h1 heq len (i+1) xs ys us vs b w hx hy (by rw[ny,G2];omega) (by rw[oT,G2];omega) ?_
    rw[G2];exact he
theorem q1i {t:TypeId}{n}(h:js P t=I n):P.cellsOf t=n:=by
 unfold js at h
 unfold Program.cellsOf
 rw[h];rfl
theorem q07 {t:TypeId}{n}(h:js P t=I n):∃i,P.info? t=I i∧i.size=n:=by
 unfold js at h
 cases hi:P.info? t with
 |none=>simp[hi]at h
 |some i=>exact⟨i,rfl,by simpa[hi]using h⟩
theorem q70 {k x y b}(h:y6 [k] [x] [y]=I b):ni k x y=I b:=by
 simp only[y6]at h
 split at h<;>simp_all
theorem jep {xs us}(h:aV C xs us)(hl:xs.length=1):∃x u,xs=[x]∧us=[u]∧bN C x u:=by
 obtain⟨x,rfl⟩:=List.length_eq_one_iff.1 hl
 cases h with
 |cons _ _ u vs hx h=>cases h;exact⟨x,u,rfl,rfl,hx⟩
theorem q5n {k x y b u v}(h:ni k x y=I b)(hx:bN C x u)(hy:bN C y v):
  match k with
  | .int=>∃kd a c,u=.int kd a∧v=.int kd c∧b=(a == c)
  | .str=>∃a c:List UInt8,u=.string ⟨⟨a⟩⟩∧v=.string ⟨⟨c⟩⟩∧b=(a == c)
  | .bool=>∃a c,u=.bool a∧v=.bool c∧b=(a == c):=by
 unfold ni at h
 split at h
 ·rename_i k a k' c
  cases hx;cases hy
  by_cases hk:k=k'
  ·subst hk;simp at h;exact⟨_,_,_,rfl,rfl,h.symm⟩
  ·simp[hk]at h
 ·cases hx;cases hy;cases h;exact⟨_,_,rfl,rfl,rfl⟩
 ·cases hx;cases hy;cases h;exact⟨_,_,rfl,rfl,rfl⟩
 ·cases h
theorem q25 {t:TypeId}{k x y b u v}(hk:kM P t=I k)(h:ni k x y=I b)(hx:bN C x u)(hy:bN C y v)(d:Nat)(w:World):
  (Op.equalIn (d+1) t u v).run P w=.ok b w:=by
 have hc:=q5n h hx hy
 unfold kM at hk
 cases hu:P.underlying t with
 |none=>simp[hu]at hk
 |some D=>
  rw[hu]at hk
  cases D<;>simp at hk<;>subst hk<;>simp only[]at hc
  ·obtain⟨a,c,rfl,rfl,rfl⟩:=hc;exact run_equalIn_bool w d t a c hu
  ·obtain⟨kd,a,c,rfl,rfl,rfl⟩:=hc;exact run_equalIn_int w d t kd _ a c hu
  ·obtain⟨a,c,rfl,rfl,rfl⟩:=hc
   rw[run_equalIn_string w d t _ _ hu,qqb,qqb]
theorem UY:∀ (n:Nat) (t:TypeId) (ks:List Kd),vk P n t=I ks→UX P C n t ks
 |0,t,ks,h=>by simp[vk]at h
 |n+1,t,ks,h=>by
  unfold vk at h
  cases hu:P.underlying t with
  |none=>simp[hu]at h
  |some D=>
   rw[hu]at h
   have dr:=jfj hu
   have scalar:∀k,ks=[k]→js P t=I 1→kM P t=I k→LZ D=Gt→UX P C (n+1) t ks:=by
    intro k hks hs hk ha
    subst hks
    refine⟨Gt,by rw[dr,ha],hs,fun _=>rfl,?_⟩
    intro d hd xs ys us vs b w hx hy ny oT he
    obtain⟨d,rfl⟩:∃m,d=m+1:=⟨d-1,by omega⟩
    obtain⟨x,u,rfl,rfl,Bg⟩:=jep hx ny
    obtain⟨y,v,rfl,rfl,hy1⟩:=jep hy oT
    exact q25 hk (q70 he) Bg hy1 d w
   cases D<;>simp only[]at h<;>first|(simp at h;done)|skip
   case int k=>
    split at h<;>first|cases h|skip
    rename_i hs
    exact scalar .int rfl (by simpa using hs) (by simp[kM,hu]) rfl
   case bool=>
    split at h<;>first|cases h|skip
    rename_i hs
    exact scalar .bool rfl (by simpa using hs) (by simp[kM,hu]) rfl
   case string=>
    split at h<;>first|cases h|skip
    rename_i hs
    exact scalar .str rfl (by simpa using hs) (by simp[kM,hu]) rfl
   case array len e=>
    split at h
    ·rename_i k1 gp
     split at h
     ·rename_i hs
      cases h
      obtain⟨ag,UZ,db,h1,heq⟩:=UY n e k1 gp
      have hlen:(G6 len k1).flatten.length=len*k1.length:=by simp[List.length_flatten]
      refine⟨Gv,by simpa[LZ]using dr,by rw[hlen];simpa using hs,(fun h=>by cases h),?_⟩
      intro d hd xs ys us vs b w hx hy ny oT he
      obtain⟨d,rfl⟩:∃m,d=m+1:=⟨d-1,by omega⟩
      obtain⟨i,hi,_⟩:=q07 db
      simp only[vm,if_true]
      rw[run_equalIn_array w d _ _ hu hi,q1i db,List.range_eq_range']
      exact qww (by omega) UZ db h1 heq len 0 xs ys us vs b w hx hy (by rw[ny,hlen];omega) (by rw[oT,hlen];omega) (by simpa using he)
     ·cases h
    ·cases h
   case struct fs=>
    split at h
    ·rename_i k1 gp
     split at h
     ·rename_i hs
      cases h
      simp at hs
      obtain⟨hso,db⟩:=hs
      refine⟨Gv,by simpa[LZ]using dr,db,(fun h=>by cases h),?_⟩
      intro d hd xs ys us vs b w hx hy ny oT he
      obtain⟨d,rfl⟩:∃m,d=m+1:=⟨d-1,by omega⟩
      simp only[vm,if_true]
      have hf:P.fieldsOf t=fs:=by simp[Program.fieldsOf,hu]
      rw[run_equalIn_struct w d t _ _ (by rw[hf];exact hu) hso,hf]
      exact qsv (n:=n) (by omega) fs.toList 0 _ xs ys us vs b w gp (fun f _ ks hp=>UY n f.type ks hp) hx hy (by omega) (by omega) (by simpa using he)
     ·cases h
    ·cases h
end
section
variable {P:Program}{C:aH}{w:World}{env:Env}{a:Act}{o:Oper}
def Val (P:Program)(C:aH)(a:Act)(o:Oper)(w:World)(x:AVal):Prop:=∃v,(execOp a.eval o).run P w=.ok (.value v) w∧bN C x v
theorem jmg {x y v}(he:bp C env a.tmps)(ho:o.op=.move x∨o.op=.assign x)(hc:qu x=I y)(hv:qi env y=I v):Val P C a o w v:=by
 refine⟨a.eval x,?_,qw he hc hv⟩
 rcases ho with ho|ho<;>simp[execOp,ho]
theorem jki {c x y c' x' y' b u v}(he:bp C env a.tmps)(ho:o.op=.pick c x y)(h1:qu c=I c')(h2:qu x=I x')(h3:qu y=I y')
  (e1:qi env c'=I (.bool b)) (e2:qi env x'=I u) (e3:qi env y'=I v):Val P C a o w (bif b then u else v):=by
 have r1:=(qw he h1 e1).dx
 have r2:=qw he h2 e2
 have r3:=qw he h3 e3
 refine⟨if b then a.eval x else a.eval y,by simp[execOp,ho,r1,asBool],?_⟩
 cases b<;>simpa
theorem qpn {x y v}(he:bp C env a.tmps)(ho:o.op=.nilCheck x)(hc:qu x=I y)(hv:qi env y=I v)
  (hk:(∃b p,v=.ptr b p)∨(∃z,v=.ah z)):Val P C a o w v:=by
 have r:=qw he hc hv
 rcases hk with⟨b,p,rfl⟩|⟨z,rfl⟩
 ·obtain⟨q,_,hq⟩:=r.dy
  exact⟨a.eval x,by simp[execOp,ho,hq],r⟩
 ·obtain⟨q,p,hq,_⟩:=r.fc
  exact⟨a.eval x,by simp[execOp,ho,hq],r⟩
theorem U0 (op:BinOp)(k:IntKind)(x y:Int)(t:TypeId)(h1:op≠.shl)(h2:op≠.shr):binOp op t (.int k x) (.int k y)=match op with
  | .add | .sub | .mul=>Op.intArith op k x y
  | .quo | .rem=>Op.intDiv op k x y
  | .and | .or | .xor | .andNot=>Op.intBits op k x y
  |_=>Op.intCmp op x y:=by
 cases op<;>simp at h1 h2<;>simp[binOp]
theorem jbm {op k x y v}(h:oQ op k x y=I v)(t:TypeId)(w:World):∃u,(binOp op t (.int k x) (.int k y)).run P w=.ok u w∧bN C v u:=by
 unfold oQ at h
 cases op<;>simp only[]at h<;>first|(cases h;done)|skip
 case quo=>
  cases hy:(y == 0)with
  |true=>simp[hy]at h
  |false=>
   simp[hy]at h
   subst h
   have:y≠0:=by simpa using hy
   rw[Bf,U0 _ _ _ _ _ (by simp) (by simp)]
   refine⟨_,?_,.int _ _⟩
   simp[Op.intDiv,this]
 case rem=>
  cases hy:(y == 0)with
  |true=>simp[hy]at h
  |false=>
   simp[hy]at h
   subst h
   have:y≠0:=by simpa using hy
   rw[U0 _ _ _ _ _ (by simp) (by simp)]
   refine⟨_,?_,.int _ _⟩
   simp[Op.intDiv,this]
 all_goals (cases h;rw[U0 _ _ _ _ _ (by simp) (by simp)];try rw[Bf])
 all_goals first
  |exact⟨_,rfl,.int _ _⟩
  |exact⟨_,rfl,.bool _⟩
theorem qp7:∀ (x y:List UInt8),bytesLess x y=Op.bytesLess x y
 |x,[]=>by cases x<;>rfl
 | [],_::_=>rfl
 |a::x,b::y=>by simp only[bytesLess,Op.bytesLess,qp7 x y]
theorem q9u {op x y v}(h:Gf op x y=I v)(t:TypeId)(w:World):∃u,(binOp op t (.string ⟨⟨x⟩⟩) (.string ⟨⟨y⟩⟩)).run P w=.ok u w∧bN C v u:=by
 unfold Gf at h
 cases op<;>simp only[]at h<;>first|(cases h;done)|skip
 ·cases hb:Gw (x.length+y.length) 4611686018427387904 with
  |false=>simp[hb]at h
  |true=>
   simp[hb]at h
   subst h
   have hle:x.length+y.length≤4611686018427387904:=G7 hb
   refine⟨.string ⟨⟨x++y⟩⟩,?_,.str _⟩
   have e1:(⟨⟨x⟩⟩:ByteArray).size=x.length:=rfl
   have e2:(⟨⟨y⟩⟩:ByteArray).size=y.length:=rfl
   have e3:(⟨⟨x⟩⟩:ByteArray)++⟨⟨y⟩⟩=⟨⟨x++y⟩⟩:=by
    apply ByteArray.ext
    simp[ByteArray.data_append]
   simp only[binOp,Op.stringOp,e1,e2,e3,IntKind.max,IntKind.signed,IntKind.bits]
   rw[if_neg (by simp;omega)]
   rfl
 all_goals (cases h;refine⟨_,?_,.bool _⟩;simp[binOp,Op.stringOp,qp7])
theorem jbu {op x y v u u'}(h:yu op x y=I v)(hx:bN C x u)(hy:bN C y u')(t:TypeId)(w:World):∃z,(binOp op t u u').run P w=.ok z w∧bN C v z:=by
 unfold yu at h
 split at h
 ·rename_i k a k' b
  obtain rfl:=hx.bO
  obtain rfl:=hy.bO
  have hsh:∀(op:BinOp),(op=.shl∨op=.shr)→LN op k a b=I v→∃z,(binOp op t (.int k a) (.int k' b)).run P w=.ok z w∧bN C v z:=by
   intro op hop h
   unfold LN at h
   cases hb:decide (b<0)with
   |true=>simp[hb]at h
   |false=>
    have fN:¬b<0:=by simpa using hb
    rcases hop with rfl|rfl<;>simp[hb]at h<;>subst h
    ·rw[Bf]; (refine⟨_,?_,.int _ _⟩;simp[binOp,Op.shift,fN])
    ·(refine⟨_,?_,.int _ _⟩;simp[binOp,Op.shift,fN])
  have hin:op≠.shl→op≠.shr→(bif decide (k=k')then oQ op k a b else En)=I v→∃z,(binOp op t (.int k a) (.int k' b)).run P w=.ok z w∧bN C v z:=by
   intro _ _ h
   by_cases hk:k=k'
   ·subst hk;simp at h;exact jbm h t w
   ·simp[hk]at h
  cases op<;>simp only[]at h<;>first|exact hsh _ (.inl rfl) h|exact hsh _ (.inr rfl) h|exact hin (by simp) (by simp) h
 ·obtain rfl:=hx.cy
  obtain rfl:=hy.cy
  exact q9u h t w
 ·cases h
theorem q7b (op:BinOp)(t:TypeId)(x y:Operand)(u v:Value)(w:World)(h1:¬(u=.nilIface∧v=.nilIface))(h2:(∀cs,u≠.agg cs)∨P.eqGuardType P.depth t=Gt):(eqGuard op t x y u v).run P w=.ok () w:=by
 unfold eqGuard
 by_cases hop:(!(match op with | .eql | .neq=>Gv|_=>Gt))=Gv
 ·cases op<;>simp_all
 ·cases op<;>simp at hop ⊢
  all_goals (
   split
   ·exact absurd ⟨rfl,rfl⟩ h1
   ·rcases h2 with h2|h2
    ·rename_i cs _ ;exact absurd rfl (h2 cs)
    ·simp[h2]
   ·rfl)
theorem L3 {op}{t u:TypeId}{x y p q z}(ho:o.op=.binOp op t x y u)(hx:a.eval x=p)(hy:a.eval y=q)(h1:¬(p=.nilIface∧q=.nilIface))(h2:(∀cs,p≠.agg cs)∨P.eqGuardType P.depth t=Gt)
  (hz:(binOp op t p q).run P w=.ok z w):(execOp a.eval o).run P w=.ok (.value z) w:=by
 have hg:=q7b (P:=P) op t x y p q w h1 h2
 subst hx;subst hy
 simp only[execOp,ho,Sem.run_bind,hg,Result.andThen_ok,hz,Sem.run_pure]
theorem q08 {x v}(h:bN C x v)(hx:x≠.undef)(hy:x≠.any:=by simp):v≠.nilIface:=by
 cases h<;>simp at hx hy ⊢
theorem q01 {op x y v}(h:yu op x y=I v):(x≠.undef∧(∀cs,x≠.agg cs)∧x≠.any):=by
 unfold yu at h
 split at h<;>simp at h ⊢
theorem q73 {x v}(h:bN C x v)(hx:x≠.undef)(ha:∀cs,x≠.agg cs)(hy:x≠.any:=by simp):∀cs,v≠.agg cs:=by
 cases h<;>simp at hx ha hy ⊢
theorem jqn {op}{t u:TypeId}{x y x' y' p q v}(he:bp C env a.tmps)(ho:o.op=.binOp op t x y u)(h1:qu x=I x')(h2:qu y=I y')
  (e1:qi env x'=I p) (e2:qi env y'=I q) (hv:yu op p q=I v):Val P C a o w v:=by
 have r1:=qw he h1 e1
 have r2:=qw he h2 e2
 obtain⟨hn,ha,hy⟩:=q01 hv
 obtain⟨z,hz,hr⟩:=jbu (P:=P) hv r1 r2 t w
 refine⟨z,?_,hr⟩
 exact L3 ho rfl rfl (fun h=>q08 r1 hn hy h.1) (.inl (q73 r1 hn ha hy)) hz
theorem U1 {neq}{t:TypeId}{u v b}(w:World)(hu:(∀k n,u≠.int k n)∧(∀s,u≠.string s)∧(∀k n,u≠.float k n)∧(∀k n m,u≠.complex k n m))
  (h:(Op.equal t u v).run P w=.ok b w):(binOp (if neq then .neq else .eql) t u v).run P w=.ok (.bool (bif neq then !b else b)) w:=by
 obtain⟨h1,h2,h3,h4⟩:=hu
 cases neq<;>cases u<;>simp_all [binOp]
theorem jrp {op neq}{t u:TypeId}{x y x' y' p q ks b}(he:bp C env a.tmps)(ho:o.op=.binOp op t x y u)(hop:op=if neq then .neq else .eql)
  (h1:qu x=I x') (h2:qu y=I y') (e1:qi env x'=I (.agg p)) (e2:qi env y'=I (.agg q)) (hg:P.eqGuardType P.depth t=Gt) (hk:vk P LQ t=I ks) (dr:yr P t=I Gv)
  (iy:p.length=ks.length) (oU:q.length=ks.length) (hb:y6 ks p q=I b):Val P C a o w (.bool (bif neq then !b else b)):=by
 obtain⟨us,hu,ru⟩:=(qw he h1 e1).eL
 obtain⟨vs,hv,rv⟩:=(qw he h2 e2).eL
 obtain⟨ag,ha,_,_,heq⟩:=UY (C:=C) LQ t ks hk
 rw[dr]at ha;cases ha
 have hq:=heq 10000 (by decide) p q us vs b w ru rv iy oU hb
 simp only[vm,if_true]at hq
 refine⟨_,?_,.bool _⟩
 have qS:=U1 (P:=P) (neq:=neq) (t:=t) (u:=.agg ⟨us⟩) (v:=.agg ⟨vs⟩) (b:=b) w ⟨by simp,by simp,by simp,by simp⟩ hq
 exact L3 (hop▸ho) hu hv (by simp) (.inr hg) qS
theorem jri {op neq}{t u:TypeId}{x y x' y' p q}(he:bp C env a.tmps)(ho:o.op=.binOp op t x y u)(hop:op=if neq then .neq else .eql)
  (h1:qu x=I x') (h2:qu y=I y') (e1:qi env x'=I (.bool p)) (e2:qi env y'=I (.bool q)) (ht:P.underlying t=I .bool):Val P C a o w (.bool (bif neq then !(p == q)else p == q)):=by
 have hu:=(qw he h1 e1).dx
 have hv:=(qw he h2 e2).dx
 refine⟨_,?_,.bool _⟩
 have qS:=U1 (P:=P) (neq:=neq) (t:=t) (u:=.bool p) (v:=.bool q) (b:=p == q) w ⟨by simp,by simp,by simp,by simp⟩ (run_equalIn_bool w 9999 t p q ht)
 exact L3 (hop▸ho) hu hv (by simp) (.inl (by simp)) qS
theorem jgv {op neq b}{t u:TypeId}{x y c}(ho:o.op=.binOp op t x y u)(hop:op=if neq then .neq else .eql)
  (hy:a.eval y=c) (bB:(∀k n,a.eval x≠.int k n)∧(∀s,a.eval x≠.string s)∧(∀k n,a.eval x≠.float k n)∧(∀k n m,a.eval x≠.complex k n m)) (dr:∀cs,a.eval x≠.agg cs) (U2:a.eval x≠.nilIface)
  (h:(Op.equal t (a.eval x) c).run P w=.ok b w):Val P C a o w (.bool (bif neq then !b else b)):=by
 refine⟨_,?_,.bool _⟩
 have qS:=U1 (P:=P) (neq:=neq) w bB h
 exact L3 (hop▸ho) rfl hy (fun h=>U2 h.1) (.inl dr) qS
theorem jyn {op}{t:TypeId}{x x' p v}(he:bp C env a.tmps)(ho:o.op=.unOp op t x)(h1:qu x=I x')(e1:qi env x'=I p)(hv:yJ op p=I v):Val P C a o w v:=by
 have r1:=qw he h1 e1
 unfold yJ at hv
 split at hv
 ·obtain hu:=r1.bO
  cases hv
  rw[Bf]
  (refine⟨_,?_,.int _ _⟩;simp[execOp,ho,hu,Op.unary,Op.intArith])
 ·obtain hu:=r1.dx
  cases hv
  (refine⟨_,?_,.bool _⟩;simp[execOp,ho,hu,Op.unary])
 ·cases hv
theorem jie {s d:TypeId}{k k0 x x' k1 n}(he:bp C env a.tmps)(ho:o.op=.convert s d x)(hs:P.underlying s=I (.int k0))(hd:P.underlying d=I (.int k))
  (h1:qu x=I x') (e1:qi env x'=I (.int k1 n)):Val P C a o w (.int k (qe k n)):=by
 have hu:=(qw he h1 e1).bO
 rw[Bf]
 (refine⟨_,?_,.int _ _⟩;simp[execOp,ho,hu,convert,run_underlying hs,run_underlying hd,Conv.intToInt])
theorem q7k {s d:TypeId}{x x' v}(he:bp C env a.tmps)(ho:o.op=.convert s d x)(hs:P.underlying s=I .string)(hd:P.underlying d=I .string)
  (h1:qu x=I x') (e1:qi env x'=I v) (hv:∃l,v=.str l):Val P C a o w v:=by
 obtain⟨l,rfl⟩:=hv
 have r:=qw he h1 e1
 have hu:=r.cy
 exact⟨_,by simp[execOp,ho,hu,convert,run_underlying hs,run_underlying hd];rfl,by rw[←hu];exact r⟩
theorem q62 {s d:TypeId}{x x' v k0}(he:bp C env a.tmps)(ho:o.op=.convert s d x)(hs:P.underlying s=I (.int k0))(hd:P.underlying d=I .string)
  (h1:qu x=I x') (e1:qi env x'=I v) (hv:∃l,v=.str l):Val P C a o w v:=by
 obtain⟨l,rfl⟩:=hv
 have r:=qw he h1 e1
 have hu:=r.cy
 exact⟨_,by simp[execOp,ho,hu,convert,run_underlying hs,run_underlying hd];rfl,by rw[←hu];exact r⟩
theorem q7r {s d:TypeId}{x x' k0 k1 n}(he:bp C env a.tmps)(ho:o.op=.convert s d x)(hs:P.underlying s=I (.int k0))(hd:P.underlying d=I .string)
  (h1:qu x=I x') (e1:qi env x'=I (.int k1 n)):Val P C a o w (.str (Utf8.encode n).data.toList):=by
 have hu:=(qw he h1 e1).bO
 exact⟨.string (Utf8.encode n),by simp[execOp,ho,hu,convert,run_underlying hs,run_underlying hd,Conv.intToString],.str _⟩
theorem q3g {s d:TypeId}{x x' k1 n}(he:bp C env a.tmps)(ho:o.op=.convert s d x)(hs:P.underlying s=I .string)(hd:P.underlying d=I .string)
  (h1:qu x=I x') (e1:qi env x'=I (.int k1 n)):Val P C a o w (.str (Utf8.encode n).data.toList):=by
 have hu:=(qw he h1 e1).bO
 exact⟨.string (Utf8.encode n),by simp[execOp,ho,hu,convert,run_underlying hs,run_underlying hd,Conv.intToString],.str _⟩
theorem jfo {t:TypeId}{x x' i fs f ag n cs v}(he:bp C env a.tmps)(ho:o.op=.field t x i)(ht:P.underlying t=I (.struct fs))(hf:fs[i]?=I f)
  (dr:yr P f.type=I ag) (hn:js P f.type=I n) (h1:qu x=I x') (e1:qi env x'=I (.agg cs)) (hv:Abs.part ag cs f.offset n=I v):Val P C a o w v:=by
 obtain⟨us,hu,ru⟩:=(qw he h1 e1).eL
 obtain⟨z,hz,hr⟩:=q2y dr hn hv ru w
 refine⟨z,?_,hr⟩
 simp[execOp,ho,hu,Instr.field,run_underlying ht,hf,asAgg,hz]
theorem Gr {n v j}(h:idx n v=I j):∃k,v=.int k (j:Int)∧j<n:=by
 unfold idx at h
 split at h
 ·rename_i k i
  cases hb:Gz i n with
  |false=>simp[hb]at h
  |true=>
   simp[hb]at h
   subst h
   exact⟨k,rfl,by have:=G7 hb;omega⟩
 ·cases h
theorem jf2 {n v j}(h:A0 n v=I j):∃k,v=.int k (j:Int)∧j≤n:=by
 unfold A0 at h
 split at h
 ·rename_i k i
  cases hb:Gw i n with
  |false=>simp[hb]at h
  |true=>
   simp[hb]at h
   subst h
   exact⟨k,rfl,G7 hb⟩
 ·cases h
theorem jfu {t e:TypeId}{x i x' i' len n ag cs iv v j}(he:bp C env a.tmps)(ho:o.op=.index t x i)(ht:P.underlying t=I (.array len e))
  (dr:yr P e=I ag) (hn:js P e=I n) (h1:qu x=I x') (h2:qu i=I i') (e1:qi env x'=I (.agg cs)) (e2:qi env i'=I iv) (hj:idx len iv=I j) (hv:Abs.part ag cs (j*n) n=I v):Val P C a o w v:=by
 obtain⟨us,hu,ru⟩:=(qw he h1 e1).eL
 obtain⟨k,rfl,br⟩:=Gr hj
 have hi:=(qw he h2 e2).bO
 obtain⟨z,hz,hr⟩:=q2y dr hn hv ru w
 refine⟨z,?_,hr⟩
 simp[execOp,ho,hu,hi,Instr.index,asIntOf,run_underlying ht,br,yo hn,hz]
theorem q5d {t:TypeId}{x i x' i' s iv j c}(he:bp C env a.tmps)(ho:o.op=.index t x i)(ht:P.underlying t=I .string)
  (h1:qu x=I x') (h2:qu i=I i') (e1:qi env x'=I (.str s)) (e2:qi env i'=I iv) (hj:idx s.length iv=I j) (hc:s[j]?=I c):Val P C a o w (.int .u8 c.toNat):=by
 have hu:=(qw he h1 e1).cy
 obtain⟨k,rfl,br⟩:=Gr hj
 have hi:=(qw he h2 e2).bO
 refine⟨_,?_,.int _ _⟩
 have hb:(⟨⟨s⟩⟩:ByteArray)[j]?=I c:=by
  rw[getElem?_pos (ByteArray.mk ⟨s⟩) j br]
  exact congrArg I (Hd.1 hc).2
 simp[execOp,ho,hu,hi,Instr.index,asIntOf,run_underlying ht,hb]
end
section
variable {P:Program}{C:aH}{w:World}{env:Env}{a:Act}{o:Oper}
theorem qa4 {z:AVal}(h:z.isAgg=Gt):z.flat=[z]:=by cases z<;>simp[AVal.isAgg,AVal.flat]at *
theorem q8i {ag:Bool}{cs off n r q z}(hc:cB C r cs q)(hz:Abs.part ag cs off n=I z)(hx:Hc ag z.isAgg=Gt):cB C r z.flat (q+off):=by
 unfold Abs.part at hz
 cases ag with
 |true=>
  simp only[cond_true]at hz
  cases hb:Gw (off+n) cs.length with
  |false=>simp[hb]at hz
  |true=>simp[hb]at hz;subst hz;exact cB.take n (cB.drop off hc)
 |false=>
  simp only[cond_false]at hz
  rw[qa4 (by simpa using hx)]
  obtain⟨u,h1,h2⟩:=hc.get hz
  exact .dL _ _ _ _ u h1 h2 (.iw _ _)
theorem qo5 {t:TypeId}{x x' i fs f ag n p v}(he:bp C env a.tmps)(ho:o.op=.fieldAddr t x i)(ht:P.underlying t=I (.struct fs))(hf:fs[i]?=I f)
  (hn:js P f.type=I n) (Bh:0<n) (h1:qu x=I x') (e1:qi env x'=I p)
  (hv:(∃b q,p=.ptr b q∧v=.ptr b (q+f.offset))∨(∃cs z,p=.ah (.agg cs)∧Abs.part ag cs f.offset n=I z∧Hc ag z.isAgg=Gt∧v=.ah z)):Val P C a o w v:=by
 have bE:∀r q,a.eval x=.pointer (I ⟨r,q,En⟩)→(execOp a.eval o).run P w=.ok (.value (.pointer (I ⟨r,q+f.offset,En⟩))) w:=by
  intro r q hq
  simp[execOp,ho,Instr.fieldAt,run_underlying ht,hf,hq,Instr.sureAddr,fieldPlace,yo hn,Nat.pos_iff_ne_zero.1 Bh,add_lit]
 rcases hv with⟨b,q,rfl,rfl⟩|⟨cs,z,rfl,hz,hx,rfl⟩
 ·obtain⟨r,hr,hq⟩:=(qw he h1 e1).dy
  exact⟨_,bE r q hq,.ptr _ _ _ hr⟩
 ·obtain⟨r,q,hq,hc⟩:=(qw he h1 e1).fc
  exact⟨_,bE r q hq,.ah _ _ _ (q8i hc hz hx)⟩
theorem qo2 {t e:TypeId}{x i x' i' sz p iv v}(he:bp C env a.tmps)(ho:o.op=.indexAddr t x i)(ht:P.underlying t=I (.slice e))
  (hn:js P e=I sz) (h1:qu x=I x') (h2:qu i=I i') (e1:qi env x'=I p) (e2:qi env i'=I iv)
  (hv:(∃b q len j,p=.ms b q len∧idx len iv=I j∧v=.ptr b (q+j*sz))∨(∃nl xs z j,p=.list nl sz xs∧idx xs.length iv=I j∧xs[j]?=I z∧v=.ah z)):Val P C a o w v:=by
 have bE:∀r q len cap j,a.eval x=.slice (I ⟨r,q,En⟩) len cap→idx len iv=I j→(execOp a.eval o).run P w=.ok (.value (.pointer (I ⟨r,q+j*sz,En⟩))) w:=by
  intro r q len cap j hq hj
  obtain⟨k,rfl,br⟩:=Gr hj
  have hi:=(qw he h2 e2).bO
  simp[execOp,ho,Instr.indexAt,run_underlying ht,hq,hi,asIntOf,yo hn,br,add_lit]
 rcases hv with⟨b,q,len,j,rfl,hj,rfl⟩|⟨nl,xs,z,j,rfl,hj,hz,rfl⟩
 ·obtain⟨r,cap,hr,_,hq⟩:=(qw he h1 e1).fe
  exact⟨_,bE r q len cap j hq hj,.ptr _ _ _ hr⟩
 ·rcases(qw he h1 e1).de with⟨rfl,rfl,hq⟩|⟨rfl,r,q,cap,hq,_,du⟩|⟨rfl,rfl,_⟩
  ·simp at hz
  ·exact⟨_,bE r q _ cap j hq hj,.ah _ _ _ (du.get hz)⟩
  ·simp at hz
theorem qps {t e:TypeId}{x i x' i' len sz ag p iv v j}(he:bp C env a.tmps)(ho:o.op=.indexAddr t x i)(ht:P.underlying t=I (.array len e))
  (hn:js P e=I sz) (h1:qu x=I x') (h2:qu i=I i') (e1:qi env x'=I p) (e2:qi env i'=I iv) (hj:idx len iv=I j)
  (hv:(∃b q,p=.ptr b q∧v=.ptr b (q+j*sz))∨(∃cs z,p=.ah (.agg cs)∧Abs.part ag cs (j*sz) sz=I z∧Hc ag z.isAgg=Gt∧v=.ah z)):Val P C a o w v:=by
 have bE:∀r q,a.eval x=.pointer (I ⟨r,q,En⟩)→(execOp a.eval o).run P w=.ok (.value (.pointer (I ⟨r,q+j*sz,En⟩))) w:=by
  intro r q hq
  obtain⟨k,rfl,br⟩:=Gr hj
  have hi:=(qw he h2 e2).bO
  simp[execOp,ho,Instr.indexAt,run_underlying ht,hq,hi,asIntOf,Instr.sureAddr,yo hn,br,add_lit]
 rcases hv with⟨b,q,rfl,rfl⟩|⟨cs,z,rfl,hz,hx,rfl⟩
 ·obtain⟨r,hr,hq⟩:=(qw he h1 e1).dy
  exact⟨_,bE r q hq,.ptr _ _ _ hr⟩
 ·obtain⟨r,q,hq,hc⟩:=(qw he h1 e1).fc
  exact⟨_,bE r q hq,.ah _ _ _ (q8i hc hz hx)⟩
theorem L4 {x x' d n j}(he:bp C env a.tmps)(hc:nv x=I x')(hb:fL env d n x'=I j):
  (x=En∧j=d)∨(∃y k,x=I y∧a.eval y=.int k (j:Int)∧j≤n):=by
 cases x with
 |none=>simp[nv]at hc;subst hc;simp[fL]at hb;exact .inl ⟨rfl,hb.symm⟩
 |some x=>
  simp only[nv]at hc
  split at hc
  ·rename_i z hz
   cases hc
   simp only[fL]at hb
   split at hb
   ·rename_i v hv
    obtain⟨k,rfl,hle⟩:=jf2 hb
    exact .inr ⟨x,k,rfl,(qw he hz hv).bO,hle⟩
   ·cases hb
  ·cases hc
theorem L5 {lo hi lK fC len cap i j isS}(he:bp C env a.tmps)(h1:nv lo=I lK)(h2:nv hi=I fC)(b2:fL env len len fC=I j)(b1:fL env 0 j lK=I i)(hc:len≤cap)(w:World):
  (Instr.sliceBounds isS len cap (lo.map a.eval) (hi.map a.eval) En).run P w=.ok (i,j,cap) w∧i≤j∧j≤len:=by
 have k2:j≤len:=by
  rcases L4 he h2 b2 with⟨_,rfl⟩|⟨_,_,_,_,h⟩
  ·exact G5 _
  ·exact h
 have k1:i≤j:=by
  rcases L4 he h1 b1 with⟨_,rfl⟩|⟨_,_,_,_,h⟩
  ·exact Nat.zero_le _
  ·exact h
 refine⟨?_,k1,k2⟩
 have hj:j≤cap:=by omega
 rcases L4 he h2 b2 with⟨rfl,rfl⟩|⟨y,k,rfl,hy,_⟩<;>rcases L4 he h1 b1 with⟨rfl,rfl⟩|⟨z,k',rfl,hz,_⟩
 ·simp[Instr.sliceBounds]
 ·simp[Instr.sliceBounds,hz,Instr.sliceBound,asIntOf,k1]
 ·simp[Instr.sliceBounds,hy,Instr.sliceBound,asIntOf,hj]
 ·simp[Instr.sliceBounds,hy,hz,Instr.sliceBound,asIntOf,hj,k1]
theorem qz7 {t e:TypeId}{x lo hi x' lK fC sz i j p v}(he:bp C env a.tmps)(ho:o.op=.slice t x lo hi En)(ht:P.underlying t=I (.slice e))
  (hn:js P e=I sz) (h1:qu x=I x') (h2:nv lo=I lK) (h3:nv hi=I fC) (e1:qi env x'=I p)
  (hv:(∃b q len,p=.ms b q len∧fL env len len fC=I j∧fL env 0 j lK=I i∧(i=0∨i<j)∧v=.ms b (q+i*sz) (j-i)) ∨
   (∃nl dq xs,p=.list nl dq xs∧(sz=dq∨xs=[])∧fL env xs.length xs.length fC=I j∧fL env 0 j lK=I i∧v=.list nl dq ((xs.take j).drop i))):Val P C a o w v:=by
 have bE:∀b len cap,a.eval x=.slice b len cap→len≤cap→fL env len len fC=I j→fL env 0 j lK=I i →
   (execOp a.eval o).run P w=.ok (.value (.slice (if cap=i then b else b.map (·.add (i*sz))) (j-i) (cap-i))) w∧i≤j∧j≤len:=by
  intro b len cap hq hle b2 b1
  obtain⟨hb,k1,k2⟩:=L5 (P:=P) (isS:=true) he h2 h3 b2 b1 hle w
  refine⟨?_,k1,k2⟩
  simp[execOp,ho,Instr.sliceAt,Instr.slice,run_underlying ht,hq,hb,yo hn]
 rcases hv with⟨b,q,len,rfl,b2,b1,lL,rfl⟩|⟨nl,dq,xs,rfl,db,b2,b1,rfl⟩
 ·obtain⟨r,cap,hr,hle,hq⟩:=(qw he h1 e1).fe
  obtain⟨hw,k1,k2⟩:=bE _ len cap hq hle b2 b1
  refine⟨_,hw,?_⟩
  by_cases hc:cap=i
  ·rw[if_pos hc]
   obtain rfl:i=0:=by omega
   simpa using aC.ms b q (j-0) r (cap-0) hr (by omega)
  ·rw[if_neg hc]
   simp only[Hq,add_lit]
   exact .ms _ _ _ _ _ hr (by omega)
 ·rcases(qw he h1 e1).de with⟨rfl,rfl,hq⟩|⟨rfl,r,q,cap,hq,hle,du⟩|⟨rfl,rfl,ad,mJ,hq⟩
  ·obtain⟨hw,k1,k2⟩:=bE _ 0 0 hq (G5 _) b2 b1
   simp at k2
   obtain rfl:=k2
   obtain rfl:i=0:=by omega
   exact⟨_,hw,by simpa using aC.jL dq⟩
  ·obtain⟨hw,k1,k2⟩:=bE _ _ cap hq hle b2 b1
   refine⟨_,hw,?_⟩
   have hl:((xs.take j).drop i).length=j-i:=by simp;omega
   rw[←hl]
   by_cases hc:cap=i
   ·rw[if_pos hc]
    have kP:(xs.take j).drop i=[]:=G0 (by simp;omega)
    rw[kP]
    exact .list _ _ _ _ _ (by simp) (.fV _ _ _)
   ·rw[if_neg hc]
    simp only[Hq,add_lit]
    refine .list _ _ _ _ _ (by rw[hl];omega) ?_
    rcases db with rfl|rfl
    ·exact bu.drop i (bu.take j du)
    ·simpa using aC.fV _ _ _
  ·obtain⟨hw,k1,k2⟩:=bE _ 0 0 hq (G5 _) b2 b1
   simp at k2
   obtain rfl:=k2
   obtain rfl:i=0:=by omega
   exact⟨_,hw,by simpa using aC.jM dq ad mJ⟩
theorem q5y {t e:TypeId}{x lo hi x' lK fC len sz i j b q}(he:bp C env a.tmps)(ho:o.op=.slice t x lo hi En)(ht:P.underlying t=I (.array len e))
  (hn:js P e=I sz) (h1:qu x=I x') (h2:nv lo=I lK) (h3:nv hi=I fC) (e1:qi env x'=I (.ptr b q)) (b2:fL env len len fC=I j) (b1:fL env 0 j lK=I i) (lL:i=0∨i<j):Val P C a o w (.ms b (q+i*sz) (j-i)):=by
 obtain⟨r,hr,hq⟩:=(qw he h1 e1).dy
 obtain⟨hb,k1,k2⟩:=L5 (P:=P) (isS:=false) he h2 h3 b2 b1 (G5 len) w
 refine⟨_,by simp[execOp,ho,Instr.sliceAt,Instr.sureAddr,run_underlying ht,hq,hb,yo hn];rfl,?_⟩
 by_cases hc:len=i
 ·rw[if_pos hc]
  obtain rfl:i=0:=by omega
  simpa using aC.ms b q (j-0) r (len-0) hr (by omega)
 ·rw[if_neg hc]
  simp only[add_lit]
  exact .ms _ _ _ _ _ hr (by omega)
theorem q1b (s:List UInt8)(i j:Nat):(⟨⟨s⟩⟩:ByteArray).extract i j=⟨⟨(s.take j).drop i⟩⟩:=by
 apply ByteArray.ext
 rw[ByteArray.data_extract]
 apply Hh
 simp[List.extract_eq_take_drop,List.drop_take]
theorem q31 {t:TypeId}{x lo hi x' lK fC i j s}(he:bp C env a.tmps)(ho:o.op=.slice t x lo hi En)(ht:P.underlying t=I .string)
  (h1:qu x=I x') (h2:nv lo=I lK) (h3:nv hi=I fC) (e1:qi env x'=I (.str s)) (b2:fL env s.length s.length fC=I j) (b1:fL env 0 j lK=I i):Val P C a o w (.str ((s.take j).drop i)):=by
 have hq:=(qw he h1 e1).cy
 obtain⟨hb,k1,k2⟩:=L5 (P:=P) (isS:=false) he h2 h3 b2 b1 (G5 s.length) w
 have db:(⟨⟨s⟩⟩:ByteArray).size=s.length:=rfl
 refine⟨.string ⟨⟨(s.take j).drop i⟩⟩,?_,.str _⟩
 simp[execOp,ho,Instr.sliceAt,Instr.slice,run_underlying ht,hq,db,hb,q1b]
theorem jcg {k xs ys gd oq us vs}(he:bp C env a.tmps)(ho:o.op=.makeFunc (.func k) xs ys)(h1:pJ xs.toList=I gd)(h2:pJ ys.toList=I oq)(e1:gk env gd=I us)(e2:gk env oq=I vs):
  Val P C a o w (.fn (.func k) us vs):=by
 refine⟨.func (.func k) (xs.map a.eval) (ys.map a.eval),by simp[execOp,ho,Instr.makeFunc],?_⟩
 have r1:=EC he h1 e1
 have r2:=EC he h2 e2
 have q1:xs.map a.eval=⟨xs.toList.map a.eval⟩:=by apply Hh;simp
 have q2:ys.map a.eval=⟨ys.toList.map a.eval⟩:=by apply Hh;simp
 rw[q1,q2]
 exact .fn _ _ _ _ _ _ rfl r1 r2
theorem U3 {c x}{t:TypeId}{x' p n}(he:bp C env a.tmps)(ho:o.op=.call c)(eg:c.callee=.builtin .len)(eu:c.args.toList=[x])(eS:c.argTypes.toList=[t])
  (h1:qu x=I x') (e1:qi env x'=I p)
  (hv:(P.underlying t=I .string∧∃s,p=.str s∧n=s.length)∨((∃e,P.underlying t=I (.slice e))∧((∃nl sz xs,p=.list nl sz xs∧n=xs.length)∨(∃b q,p=.ms b q n)))):Val P C a o w (.int .i64 n):=by
 have ha:c.args=#[x]:=by apply Hh;simpa using eu
 have lM:c.argTypes=#[t]:=by apply Hh;simpa using eS
 refine⟨.int .i64 n,?_,.int _ _⟩
 simp only[execOp,ho,resolve,eg,ha,lM,Sem.run_bind,Sem.run_pure,Result.andThen_ok,invoke,builtin,Builtin.len_]
 rcases hv with⟨ht,s,rfl,rfl⟩|⟨⟨e,ht⟩,⟨nl,sz,xs,rfl,rfl⟩|⟨b,q,rfl⟩⟩
 ·have hq:=(qw he h1 e1).cy
  simp[run_underlying ht,hq,goInt]
  rfl
 ·obtain⟨b,cap,hq⟩:=(qw he h1 e1).len
  simp[run_underlying ht,hq,goInt]
 ·obtain⟨r,cap,_,_,hq⟩:=(qw he h1 e1).fe
  simp[run_underlying ht,hq,goInt]
theorem U4 {f:AVal→AVal→Option AVal}{g:Value→Value→Sem Value}(hfg:∀x y z u v,f x y=I z→bN C x u→bN C y v→∃q,(g u v).run P w=.ok q w∧bN C z q):
  ∀(ys:List AVal) (x z:AVal) (u:Value) (vs:List Value),od f x ys=I z→bN C x u→aV C ys vs→∃q,(vs.foldlM g u).run P w=.ok q w∧bN C z q
 | [],x,z,u,vs,h,hx,hy=>by
  cases hy
  simp[od]at h;subst h
  exact⟨u,rfl,hx⟩
 |y::ys,x,z,u,vs,h,hx,hy=>by
  cases hy with
  |cons _ _ v vs hy hr=>
   simp only[od]at h
   split at h
   ·rename_i z1 lN
    obtain⟨q,hq,rq⟩:=hfg x y z1 u v lN hx hy
    obtain⟨q2,hq2,rq2⟩:=U4 hfg ys z1 z q vs h rq hr
    exact⟨q2,by simp[List.foldlM_cons,hq,hq2],rq2⟩
   ·cases h
theorem jfw {c:Call}{gd:List jx}{p v:AVal}{ps:List AVal}{mx:Bool}(he:bp C env a.tmps)(ho:o.op=.call c)(eg:c.callee=.builtin (if mx then .max else .min))(h1:pJ c.args.toList=I gd)(e1:gk env gd=I (p::ps))
  (hv:od (if mx then max2 else min2) p ps=I v):Val P C a o w v:=by
 have r1:=EC he h1 e1
 have eA:(c.args.map a.eval).toList=c.args.toList.map a.eval:=by simp
 cases mx
 ·generalize hl:c.args.toList.map a.eval=l at r1
  cases r1 with
  |cons _ _ u us hu hH=>
   obtain⟨q,hq,rq⟩:=U4 (P:=P) (w:=w) (C:=C) (f:=min2) (g:=Builtin.min2) (fun x y z u v h hx hy=>by
    unfold min2 at h
    split at h<;>first|cases h|skip
    rename_i k n k' m
    by_cases hk:k=k'
    ·subst hk;simp at h;subst h
     obtain rfl:=hx.bO
     obtain rfl:=hy.bO
     exact⟨_,rfl,.int _ _⟩
    ·simp[hk]at h) ps p v u us (by simpa using hv) hu hH
   refine⟨q,?_,rq⟩
   simp only[Hb,if_false]at eg
   simp[execOp,ho,resolve,eg,invoke,builtin,Builtin.min_,hl,hq]
 ·generalize hl:c.args.toList.map a.eval=l at r1
  cases r1 with
  |cons _ _ u us hu hH=>
   obtain⟨q,hq,rq⟩:=U4 (P:=P) (w:=w) (C:=C) (f:=max2) (g:=Builtin.max2) (fun x y z u v h hx hy=>by
    unfold max2 at h
    split at h<;>first|cases h|skip
    rename_i k n k' m
    by_cases hk:k=k'
    ·subst hk;simp at h;subst h
     obtain rfl:=hx.bO
     obtain rfl:=hy.bO
     exact⟨_,rfl,.int _ _⟩
    ·simp[hk]at h) ps p v u us (by simpa using hv) hu hH
   refine⟨q,?_,rq⟩
   simp only[if_true]at eg
   simp[execOp,ho,resolve,eg,invoke,builtin,Builtin.max_,hl,hq]
theorem q7l {x x' i vs v}(he:bp C env a.tmps)(ho:o.op=.extract x i)(h1:qu x=I x')(e1:qi env x'=I (.aB vs))(hv:vs[i]?=I v):Val P C a o w v:=by
 obtain⟨us,hu,ru⟩:=(qw he h1 e1).oo
 obtain⟨u,h1,h2⟩:=ru.get hv
 exact⟨u,by simp[execOp,ho,hu,Instr.extract,h1],h2⟩
end
section
variable {P:Program}{C:aH}{w:World}{env:Env}{a:Act}{o:Oper}
theorem Bi {x v}(h:bN C x v)(hs:x.flat.all qk=Gv):aV C x.flat v.cells.toList:=by
 cases h<;>first
  |(simp only[AVal.flat,Value.cells];exact .cons _ _ _ _ (by constructor<;>assumption) .nil)
  |skip
 ·simpa[AVal.flat,Value.cells]
 all_goals first|done|exact absurd hs (by simp[AVal.flat,qk])|skip
theorem q0s (off:Nat):∀(l:List Value) (k:Nat) (cs:Array Value),off+k+l.length≤cs.size →
  ((l.zipIdx k).foldl (fun cs (x:Value×Nat)=>cs.setIfInBounds (off+x.2) x.1) cs).toList=cs.toList.take (off+k)++l++cs.toList.drop (off+k+l.length)
 | [],k,cs,_=>by simp
 |v::l,k,cs,h=>by
  simp only[List.zipIdx_cons,List.foldl_cons]
  simp at h
  rw[q0s off l (k+1) (cs.setIfInBounds (off+k) v) (by simp;omega)]
  have br:off+k<cs.toList.length:=by simp;omega
  rw[Array.toList_setIfInBounds]
  have e1:(cs.toList.set (off+k) v).take (off+(k+1))=cs.toList.take (off+k)++[v]:=by
   rw[←Hm,List.take_succ_eq_append_getElem (by simpa using br),List.take_set,List.set_eq_of_length_le (by simp;omega),List.getElem_set_self]
  have e2:(cs.toList.set (off+k) v).drop (off+(k+1)+l.length)=cs.toList.drop (off+k+(v::l).length):=by
   rw[List.drop_set_of_lt (by omega)]
   congr 1
   simp;omega
  rw[e1,e2]
  simp
inductive EE (C:aH)(place:Nat→Option (Nat×Nat)):List (Nat×Value)→List (Nat×List AVal)→Prop where
 |nil:EE C place [] []
 |cons (i:Nat) (v:Value) (off:Nat) (vs:List AVal) (ps:List (Nat×Value)) (qs:List (Nat×List AVal)) (h1:place i=I (off,vs.length)) (h2:aV C vs v.cells.toList) (h:EE C place ps qs):EE C place ((i,v)::ps) ((off,vs)::qs)
theorem L6 {place}:∀(ps:List (Nat×Value)) (qs:List (Nat×List AVal)) (xs ys:List AVal) (cs:Array Value),aV C xs cs.toList→jW xs qs=I ys →
  EE C place ps qs →
  ∃ds,Instr.fill place cs ps=I ds∧aV C ys ds.toList
 | [],qs,xs,ys,cs,hx,hf,hp=>by
  cases hp
  simp[jW]at hf
  subst hf
  exact⟨cs,rfl,hx⟩
 |_::ps,qs,xs,ys,cs,hx,hf,hp=>by
  cases hp with
  |cons i v off vs _ qs Gs hr htl=>
   simp only[jW]at hf
   cases hb:Gw (off+vs.length) xs.length with
   |false=>simp[hb]at hf
   |true=>
    simp only[hb,cond_true]at hf
    have hle:=G7 hb
    have iy:=hx.length
    have oU:=hr.length
    simp at iy oU
    have qT:=q0s off v.cells.toList 0 cs (by simp;omega)
    have hz:v.cells.zipIdx.foldl (fun cs (x:Value×Nat)=>cs.setIfInBounds (off+x.2) x.1) cs=(v.cells.toList.zipIdx 0).foldl (fun cs (x:Value×Nat)=>cs.setIfInBounds (off+x.2) x.1) cs:=by
     rw[←Array.foldl_toList,Array.toList_zipIdx]
    obtain⟨ds,h1,h2⟩:=L6 (place:=place) ps qs _ ys (v.cells.zipIdx.foldl (fun cs (x:Value×Nat)=>cs.setIfInBounds (off+x.2) x.1) cs) (by
     rw[hz,qT]
     simp only[Nat.add_zero,Array.length_toList,oU]
     exact aV.append (aV.append (hx.take off) hr) (hx.drop _)) hf htl
    refine⟨ds,?_,h2⟩
    simp only[Instr.fill,Gs]
    rw[if_neg (by simp;omega)]
    exact h1
theorem U5 {place}(he:bp C env a.tmps):∀(ps:List (Nat×Operand)) (gf:List (Nat×Nat×jx)) (qs:List (Nat×List AVal)),yM P place ps=I gf→kr env gf=I qs →
  EE C place (ps.map fun x=>(x.1,a.eval x.2)) qs
 | [],gf,qs,hc,hv=>by
  simp[yM]at hc;subst hc
  simp[kr]at hv;subst hv
  exact .nil
 |(i,x)::ps,gf,qs,hc,hv=>by
  simp only[yM]at hc
  split at hc
  ·rename_i off n y r Gs hy hr
   cases hc
   simp only[kr]at hv
   split at hv
   ·rename_i v mI
    cases hb:(Gy v.flat.length n&&v.flat.all qk)with
    |false=>simp[hb]at hv
    |true=>
     simp only[hb,cond_true]at hv
     simp only[Hp]at hb
     split at hv
     ·rename_i r' jY
      cases hv
      have hl:=Hl hb.1
      exact .cons _ _ _ _ _ _ (by rw[Gs,hl]) (Bi (qw he hy mI) hb.2) (U5 he ps r r' hr jY)
     ·cases hv
   ·cases hv
  ·cases hc
theorem q00 {t:TypeId}{z}(h:yw P t=I z)(w:World):∃v,(zeroValue t).run P w=.ok v w∧aV C z v.cells.toList∧∃i,P.info? t=I i∧i.zero=I v:=by
 unfold yw at h
 split at h
 ·rename_i i hi
  split at h
  ·rename_i v hv
   exact⟨v,by simp[zeroValue,typeInfo,hi,hv],LY C h,i,hi,hv⟩
  ·cases h
 ·cases h
theorem qs2 {fs:Array Field}(w:World):∀(l:List Field),(∀f∈l,(js P f.type).isSome)→(l.mapM fun(f:Field)=>(do pure (f.offset,←sizeOf f.type):Sem (Nat×Nat))).run P w=.ok (l.map fun f=>(f.offset,(js P f.type).getD 0)) w
 | [],_=>rfl
 |f::l,h=>by
  obtain⟨n,hn⟩:=He.1 (h f (by simp))
  simp only[List.mapM_cons,Sem.run_bind,yo hn,Result.andThen_ok,Sem.run_pure,qs2 (fs:=fs) w l (fun g hg=>h g (by simp[hg])),Hv,hn,Option.getD_some]
theorem qw9 {t:TypeId}{ps fs z gf qs cs}(he:bp C env a.tmps)(ho:o.op=.build t ps)(ht:P.underlying t=I (.struct fs))(hz:yw P t=I z)
  (hall:∀f∈fs.toList,(js P f.type).isSome) (mK:yM P (fun i=>match fs[i]? with|some f=>(js P f.type).map fun n=>(f.offset,n)|none=>En) ps.toList=I gf) (hq:kr env gf=I qs) (hf:jW z qs=I cs):Val P C a o w (.agg cs):=by
 obtain⟨zv,lz,cT,_⟩:=q00 (C:=C) hz w
 have hm:=qs2 (P:=P) (fs:=fs) w fs.toList hall
 have qU:=U5 (P:=P) he ps.toList gf qs mK hq
 have Bj:(fun(i:Nat)=>match fs[i]? with|some f=>(js P f.type).map fun n=>(f.offset,n)|none=>En)=fun(i:Nat)=>((fs.toList.map fun f=>(f.offset,(js P f.type).getD 0)).toArray)[i]?:=by
  funext i
  have hm:∀f,fs[i]?=I f→f∈fs.toList:=fun f h=>by rw[Array.mem_toList_iff];exact Array.mem_of_getElem? h
  obtain⟨l⟩:=fs
  simp only[Hj,List.getElem?_map]at hm ⊢
  cases h:l[i]? with
  |none=>rfl
  |some f=>
   obtain⟨n,hn⟩:=He.1 (hall f (hm f h))
   simp[hn]
 rw[Bj]at qU
 obtain⟨ds,hd,hr⟩:=L6 (ps.toList.map fun x=>(x.1,a.eval x.2)) qs z cs zv.cells cT hf qU
 refine⟨.agg ds,?_,.agg cs ds.toList hr⟩
 have lO:(fs.mapM fun(f:Field)=>(do pure (f.offset,←sizeOf f.type):Sem (Nat×Nat))).run P w=.ok ((fs.toList.map fun f=>(f.offset,(js P f.type).getD 0)).toArray) w:=by
  rw[Array.mapM_eq_mapM_toList]
  simp only[Sem.run_map]
  rw[hm]
  rfl
 have vn:(ps.map fun(x:Nat×Operand)=>(x.1,a.eval x.2)).toList=ps.toList.map fun x=>(x.1,a.eval x.2):=by simp
 simp only[execOp,ho,Instr.build,Sem.run_bind,lz,Result.andThen_ok,run_underlying ht,lO,vn,hd,Sem.run_pure]
theorem qy3 {t e:TypeId}{ps len n z gf qs cs}(he:bp C env a.tmps)(ho:o.op=.build t ps)(ht:P.underlying t=I (.array len e))(hz:yw P t=I z)
  (hn:js P e=I n) (mK:yM P (fun i=>I (i*n,n)) ps.toList=I gf) (hq:kr env gf=I qs) (hf:jW z qs=I cs):Val P C a o w (.agg cs):=by
 obtain⟨zv,lz,cT,_⟩:=q00 (C:=C) hz w
 have qU:=U5 (P:=P) he ps.toList gf qs mK hq
 obtain⟨ds,hd,hr⟩:=L6 (ps.toList.map fun x=>(x.1,a.eval x.2)) qs z cs zv.cells cT hf qU
 refine⟨.agg ds,?_,.agg cs ds.toList hr⟩
 have vn:(ps.map fun(x:Nat×Operand)=>(x.1,a.eval x.2)).toList=ps.toList.map fun x=>(x.1,a.eval x.2):=by simp
 simp only[execOp,ho,Instr.build,Sem.run_bind,lz,Result.andThen_ok,run_underlying ht,yo hn,vn,hd,Sem.run_pure]
theorem qo7 {sz}(he:bp C env a.tmps):∀(ps:List (Nat×Operand)) (gf:List (Nat×jx)) (qs:List (Nat×AVal)),yN ps=I gf→yi env sz gf=I qs →
  EE C (fun i=>I (i*sz,sz)) (ps.map fun x=>(x.1,a.eval x.2)) (qs.map fun x=>(x.1*sz,x.2.flat))∧∀q∈qs,q.2.flat.length=sz
 | [],gf,qs,hc,hv=>by
  simp[yN]at hc;subst hc
  simp[yi]at hv;subst hv
  exact⟨.nil,by simp⟩
 |(i,x)::ps,gf,qs,hc,hv=>by
  simp only[yN]at hc
  split at hc
  ·rename_i y r hy hr
   cases hc
   simp only[yi]at hv
   split at hv
   ·rename_i v mI
    cases hb:(Gy v.flat.length sz&&v.flat.all qk)with
    |false=>simp[hb]at hv
    |true=>
     simp only[hb,cond_true]at hv
     simp only[Hp]at hb
     split at hv
     ·rename_i r' jY
      cases hv
      have hl:=Hl hb.1
      obtain⟨h1,h2⟩:=qo7 he ps r r' hr jY
      refine⟨.cons _ _ _ _ _ _ (by rw[hl]) (Bi (qw he hy mI) hb.2) h1,?_⟩
      intro q hq
      rcases Hr.1 hq with rfl|hq
      ·exact hl
      ·exact h2 q hq
     ·cases hv
   ·cases hv
  ·cases hc
theorem qs5 {sz}:∀(xs:List AVal) (i:Nat) (v:AVal),(∀x∈xs,x.flat.length=sz)→v.flat.length=sz→i<xs.length →
  (xs.set i v).flatMap AVal.flat=(xs.flatMap AVal.flat).take (i*sz)++v.flat++(xs.flatMap AVal.flat).drop (i*sz+sz)
 | [],i,v,_,_,h=>by simp at h
 |x::xs,0,v,hl,hv,_=>by
  simp only[List.set_cons_zero,Ha,Nat.zero_mul,List.take_zero,List.nil_append,Nat.zero_add]
  rw[List.drop_append_of_le_length (by rw[hl x (by simp)];exact G5 _),G0 (by rw[hl x (by simp)];exact G5 _)]
  simp
 |x::xs,i+1,v,hl,hv,h=>by
  simp only[List.set_cons_succ,Ha]
  rw[qs5 xs i v (fun y hy=>hl y (by simp[hy])) hv (by simpa using h)]
  have hx:=hl x (by simp)
  have e1:(i+1)*sz=x.flat.length+i*sz:=by rw[hx,G2];omega
  have t1:List.take (x.flat.length+i*sz) (x.flat++xs.flatMap AVal.flat)=x.flat++(xs.flatMap AVal.flat).take (i*sz):=List.take_length_add_append _
  have t2:List.drop (x.flat.length+i*sz+sz) (x.flat++xs.flatMap AVal.flat)=(xs.flatMap AVal.flat).drop (i*sz+sz):=by
   rw[Hm];exact List.drop_length_add_append _
  rw[e1,t1,t2]
  simp
theorem yn {sz}:∀(xs:List AVal),(∀x∈xs,x.flat.length=sz)→(xs.flatMap AVal.flat).length=xs.length*sz
 | [],_=>by simp
 |x::xs,h=>by
  simp only[Ha,List.length_append,List.length_cons]
  rw[yn xs (fun y hy=>h y (by simp[hy])),h x (by simp),G2];omega
theorem qu8 {sz}:∀(qs:List (Nat×AVal)) (xs ys:List AVal),lH xs qs=I ys→(∀x∈xs,x.flat.length=sz)→(∀q∈qs,q.2.flat.length=sz) →
  jW (xs.flatMap AVal.flat) (qs.map fun x=>(x.1*sz,x.2.flat))=I (ys.flatMap AVal.flat)∧(∀y∈ys,y.flat.length=sz)∧ys.length=xs.length
 | [],xs,ys,h,hx,_=>by simp[lH]at h;subst h;exact⟨rfl,hx,rfl⟩
 |(i,v)::qs,xs,ys,h,hx,hq=>by
  simp only[lH]at h
  cases hb:Gz i xs.length with
  |false=>simp[hb]at h
  |true=>
   simp only[hb,cond_true]at h
   have br:i<xs.length:=by have:=G7 hb;omega
   have hv:=hq (i,v) (by simp)
   obtain⟨h1,h2,h3⟩:=qu8 qs (xs.set i v) ys h (fun y hy=>by
    rcases List.mem_or_eq_of_mem_set hy with h|rfl
    ·exact hx y h
    ·exact hv) (fun q h=>hq q (by simp[h]))
   refine⟨?_,h2,by simpa using h3⟩
   have hl:=yn xs hx
   have hle:i*sz+sz≤xs.length*sz:=by rw[←G2];exact Nat.mul_le_mul_right _ br
   simp only[Hv,jW]
   rw[show Gw (i*sz+v.flat.length) (xs.flatMap AVal.flat).length=Gv from by rw[Nat.ble_eq];simp only at hv;omega]
   simp only[cond_true]
   rw[qs5 xs i v hx hv br]at h1
   simp only at hv
   rw[hv]
   exact h1
end
end Go.Abs
