/- The abstract machine. -/
import Derived.Deep.AppendSrc
import Derived.Lib.LaidTab
import Derived.Lib.ItoaNum
import Derived.WalkSpells
import Derived.Laws.Cover3
set_option linter.unusedVariables false
set_option linter.unusedSimpArgs false
open Option renaming some→I,none→En,isSome_iff_exists→Gx,map_some→G5
open Bool renaming false→Es,true→E9,false_eq_true→Gt,xor→Gu,and_eq_true→G4,not_true→G7
open Nat renaming ble→Ga,beq→Gd,blt→Ge,succ_mul→Gj,le_refl→Gl,le_of_ble_eq_true→Gn,lt_of_lt_of_le→Gp,eq_of_beq_eq_true→G2,add_assoc→G3
open List renaming drop_eq_nil_of_le→Gf,replicate→Gm,flatMap_cons→Gs,getElem?_eq_some_iff→Gv,getElem?_toArray→Gz,mem_cons→G6,map_cons→Ha
open Array renaming getElem?_eq_some_iff→Gi,ext'→Gy
namespace Go.Abs
inductive AVal where
 |bool (b:Bool)
 |int (k:IntKind) (n:Int)
 |str (s:List UInt8)
 |list (isNil:Bool) (sz:Nat) (xs:List AVal)
 |ms (b off len:Nat)
 |ptr (b off:Nat)
 |ai (v:AVal)
 |b9
 |map (b:Nat)
 |b8
 |fn (f:Fn) (first captured:List AVal)
 |cx
 |agg (cs:List AVal)
 |aI (vs:List AVal)
 |undef
 |any
 |c8 (n:Nat)
 |aj (b bN len:Nat)
 |di (b bN off:Nat)
 deriving Inhabited
inductive js where
 |tmp (t:Nat)
 |const (v:AVal)
 deriving Inhabited
inductive Kd where
 |int|str|bool
 deriving DecidableEq,Inhabited
inductive ep where
 |b3|fJ (r:Nat)|shr|red
 deriving DecidableEq,Inhabited
inductive cU where
 |move (x:js)
 |take (s:Nat)
 |pick (c a b:js)
 |alloc (r:Nat) (zero:List AVal)
 |box (r n:Nat) (x:js)
 |oE (n:Nat) (x:js)
 |gy (n:Nat)
 |dV (n s:Nat) (x:js)
 |fU (r t e:Nat)
 |build (zero:List AVal) (parts:List (Nat×Nat×js))
 |buildSlice (sz len:Nat) (zero:List AVal) (parts:List (Nat×js))
 |load (agg:Bool) (n:Nat) (x:js)
 |fq (agg:Bool) (n:Nat) (x:js)
 |cA (off:Option Nat) (x:js)
 |store (n:Nat) (a v:js)
 |nilCheck (x:js)
 |bin (op:BinOp) (x y:js)
 |eqs (ks:List Kd) (neq:Bool) (x y:js)
 |beq (neq:Bool) (x y:js)
 |ft (k:Nat) (neq:Bool) (x:js)
 |un (op:UnOp) (x:js)
 |conv (k:IntKind) (x:js)
 |fh (x:js)
 |field (agg:Bool) (off n:Nat) (x:js)
 |index (agg:Bool) (len n:Nat) (x i:js)
 |et (x i:js)
 |fieldAddr (agg:Bool) (off n:Nat) (x:js)
 |indexAddr (sz:Nat) (x i:js)
 |eS (agg:Bool) (len sz:Nat) (x i:js)
 |slice (sz:Nat) (x:js) (lo hi:Option js)
 |eT (x:js) (lo hi:Option js)
 |fV (len sz:Nat) (x:js) (lo hi:Option js)
 |gA (f:Fn) (first captured:List js)
 |eu (r:Nat)
 |lookup (kd:Kd) (zero:AVal) (ok:Bool) (m k:js)
 |mapUpdate (kd:Kd) (m k v:js)
 |delete (kd:Kd) (m k:js)
 |cu (r:Option Nat) (sz bytes:Nat) (zero:List AVal) (n c:js)
 |len (k:Nat) (x:js)
 |append (r:Option Nat) (sz bytes:Nat) (x y:js)
 |ia (r sz bytes:Nat) (x y:js)
 |ib (r sz len:Nat) (zero:List AVal) (parts:List (Nat×js))
 |copy (sz:Nat) (x y:js)
 |mx (args:List js)
 |mn (args:List js)
 |extract (x:js) (i:Nat)
 |call (md:ep) (f:js) (args:List js)
 |dE (r:Nat) (x:js)
 |fA (it:js)
 |bad
 deriving Inhabited
structure cf where
 dst:Option Nat
 op:cU
 guard:Option (Nat×Bool)
 al:Option (List Nat)
 deriving Inhabited
inductive aw where
 |skip
 |region (na:Nat) (ops:List cf) (keep:Option (List Nat))
 |seq (a b:aw)
 |cond (c:js) (a b:aw)
 |block (id:Nat) (body:aw)
 |loop (body:aw)
 |rangeFunc (f:js) (params:List Nat) (assign body:aw)
 |exit (id:Nat)
 |ret
 |grow (sz:Nat)
 |stuck
 deriving Inhabited
abbrev Env:=List (Nat×AVal×Bool)
inductive je where
 |normal
 |exit (id:Nat)
 |ret
 deriving DecidableEq,Inhabited
structure jl1 where
 env:Env
 params:List Nat
 assign:aw
 body:aw
 pending:Option je
 deriving Inhabited
def zu:aw→Bool
 | .seq a b=>zu a&&zu b
 | .cond _ a b=>zu a&&zu b
 | .block _ b=>zu b
 | .loop b=>zu b
 | .rangeFunc ..=>Es
 |_=>E9
def fB (e:Env):Env:=e.map fun x=>(x.1,x.2.1,Es)
inductive bg where
 |hole
 |cells (cs:List (AVal×Bool))
 |map (es:List (AVal×AVal))
 |iter (s:List UInt8) (pos:Nat)
 |loop (l:jl1)
 |fU (t e:Nat) (l:List UInt8)
 |dead
 |vec (sz bN:Nat) (xs:List AVal)
 deriving Inhabited
abbrev qh:=List bg
structure bf where
 env:Env
 heap:qh
 deriving Inhabited
inductive mR where
 |tmp (t:Nat)
 |cell (t:Nat) (agg:Bool) (n:Nat)
 deriving Inhabited
structure av where
 ntmps:Nat
 body:aw
 results:List mR
 deriving Inhabited
abbrev xE:=Nat→Option (List AVal→Option (AVal×Bool))
abbrev je3:=Nat→Option (List AVal→qh→Option (AVal×Bool×qh))
abbrev P9:=Nat→Option (List (AVal×AVal))
structure jz where
 bG:Nat→Option av
 cO:xE
 dL:je3:=fun _=>En
 maps:P9:=fun _=>En
def ji (t:Nat):Env→Option (AVal×Bool)
 | []=>En
 |(s,x)::e=>bif Gd s t then I x else ji t e
def qi (e:Env):js→Option AVal
 | .tmp t=>match ji t e with
  |some x=>I x.1
  |none=>En
 | .const v=>I v
def kz (e:Env):List js→Option (List AVal)
 | []=>I []
 |x::xs=>match qi e x with
  |some v=>match kz e xs with
   |some vs=>I (v::vs)
   |none=>En
  |none=>En
def pY (e:Env):List Nat→Env
 | []=>[]
 |t::ts=>match ji t e with
  |some x=>(t,x)::pY e ts
  |none=>pY e ts
def pZ:IntKind→Int→Bool
 | .i64,.ofNat m=>Ga m 9223372036854775807
 | .i64,.negSucc m=>Ga m 9223372036854775807
 | .i32,.ofNat m=>Ga m 2147483647
 | .i32,.negSucc m=>Ga m 2147483647
 | .i16,.ofNat m=>Ga m 32767
 | .i16,.negSucc m=>Ga m 32767
 | .i8,.ofNat m=>Ga m 127
 | .i8,.negSucc m=>Ga m 127
 | .u64,.ofNat m=>Ga m 18446744073709551615
 | .u32,.ofNat m=>Ga m 4294967295
 | .u16,.ofNat m=>Ga m 65535
 | .u8,.ofNat m=>Ga m 255
 |_,.negSucc _=>Es
def qe (k:IntKind)(n:Int):Int:=bif pZ k n then n else k.wrap n
def AVal.flat:AVal→List AVal
 | .agg cs=>cs
 |v=>[v]
def AVal.isAgg:AVal→Bool
 | .agg _=>E9
 |_=>Es
def AVal.cS:AVal→Bool
 | .list ..=>E9
 |_=>Es
def lH:Kd→AVal→AVal→Option Bool
 | .int,.int k a,.int k' b=>bif decide (k=k')then I (a == b)else En
 | .str,.str a,.str b=>I (a == b)
 | .bool,.bool a,.bool b=>I (a == b)
 |_,_,_=>En
def z7:List Kd→List AVal→List AVal→Option Bool
 | [],[],[]=>I E9
 |k::ks,x::xs,y::ys=>match lH k x y with
  |some E9=>z7 ks xs ys
  |some Es=>I Es
  |none=>En
 |_,_,_=>En
def part (agg:Bool)(cs:List AVal)(off n:Nat):Option AVal:=
 bif agg then(bif Ga (off+n) cs.length then I (.agg ((cs.drop off).take n))else En)else cs[off]?
def bytesLess:List UInt8→List UInt8→Bool
 |_,[]=>Es
 | [],_::_=>E9
 |a::x,b::y=>a<b||(a == b&&bytesLess x y)
def oF (op:BinOp)(k:IntKind)(x y:Int):Option AVal:=
 match op with
 | .add=>I (.int k (qe k (x+y)))
 | .sub=>I (.int k (qe k (x-y)))
 | .mul=>I (.int k (qe k (x*y)))
 | .quo=>bif y == 0 then En else I (.int k (qe k (x.tdiv y)))
 | .rem=>bif y == 0 then En else I (.int k (x.tmod y))
 | .eql=>I (.bool (x == y))
 | .neq=>I (.bool (x != y))
 | .lss=>I (.bool (decide (x<y)))
 | .leq=>I (.bool (decide (x≤y)))
 | .gtr=>I (.bool (decide (x > y)))
 | .geq=>I (.bool (decide (x≥y)))
 | .and=>I (.int k (k.wrap (BitVec.ofInt k.bits x &&& BitVec.ofInt k.bits y).toNat))
 | .or=>I (.int k (k.wrap (BitVec.ofInt k.bits x ||| BitVec.ofInt k.bits y).toNat))
 | .xor=>I (.int k (k.wrap (BitVec.ofInt k.bits x ^^^ BitVec.ofInt k.bits y).toNat))
 | .andNot=>I (.int k (k.wrap (BitVec.ofInt k.bits x &&& ~~~BitVec.ofInt k.bits y).toNat))
 |_=>En
def Kh (op:BinOp)(k:IntKind)(x y:Int):Option AVal:=
 bif decide (y<0)then En else
 match op with
 | .shl=>I (.int k (qe k (x*2^(min y.toNat k.bits))))
 | .shr=>I (.int k (x.fdiv (2^(min y.toNat k.bits))))
 |_=>En
def Fc (op:BinOp)(x y:List UInt8):Option AVal:=
 match op with
 | .add=>bif Ga (x.length+y.length) 4611686018427387904 then I (.str (x++y))else En
 | .eql=>I (.bool (x == y))
 | .neq=>I (.bool !(x == y))
 | .lss=>I (.bool (bytesLess x y))
 | .leq=>I (.bool (bytesLess x y||x == y))
 | .gtr=>I (.bool !(bytesLess x y||x == y))
 | .geq=>I (.bool !(bytesLess x y))
 |_=>En
def yq (op:BinOp):AVal→AVal→Option AVal
 | .int k x,.int k' y=>match op with
  | .shl=>Kh .shl k x y
  | .shr=>Kh .shr k x y
  |op=>bif decide (k=k')then oF op k x y else En
 | .str x,.str y=>Fc op x y
 |_,_=>En
def xF:UnOp→AVal→Option AVal
 | .neg,.int k n=>I (.int k (qe k (0-n)))
 | .not,.bool b=>I (.bool !b)
 |_,_=>En
def max2:AVal→AVal→Option AVal
 | .int k x,.int k' y=>bif decide (k=k')then I (.int k (if y > x then y else x))else En
 |_,_=>En
def min2:AVal→AVal→Option AVal
 | .int k x,.int k' y=>bif decide (k=k')then I (.int k (if y<x then y else x))else En
 |_,_=>En
def nU (f:AVal→AVal→Option AVal):AVal→List AVal→Option AVal
 |x,[]=>I x
 |x,y::ys=>match f x y with
  |some z=>nU f z ys
  |none=>En
def jU:List AVal→List (Nat×List AVal)→Option (List AVal)
 |cs,[]=>I cs
 |cs,(off,vs)::rest=>bif Ga (off+vs.length) cs.length then jU (cs.take off++vs++cs.drop (off+vs.length)) rest else En
def ql:AVal→Bool
 | .agg _=>Es
 | .aI _=>Es
 | .undef=>Es
 | .any=>Es
 |_=>E9
def kn (e:Env):List (Nat×Nat×js)→Option (List (Nat×List AVal))
 | []=>I []
 |(off,n,x)::ps=>match qi e x with
  |some v=>bif Gd v.flat.length n&&v.flat.all ql then
    (match kn e ps with
     |some r=>I ((off,v.flat)::r)
     |none=>En)else En
  |none=>En
def lI (xs:List AVal):List (Nat×AVal)→Option (List AVal)
 | []=>I xs
 |(i,v)::ps=>bif Ge i xs.length then lI (xs.set i v) ps else En
def yc (e:Env)(sz:Nat):List (Nat×js)→Option (List (Nat×AVal))
 | []=>I []
 |(i,x)::ps=>match qi e x with
  |some v=>bif Gd v.flat.length sz&&v.flat.all ql then
   (match yc e sz ps with
    |some r=>I ((i,v)::r)
    |none=>En)else En
  |none=>En
def jt5 (zero:List AVal)(agg:Bool):Option AVal:=
 bif agg then I (.agg zero)else match zero with
  | [z]=>I z
  |_=>En
def zc (h:qh)(b:Nat):Option bg:=h[b]?
def jt (h:qh)(b:Nat):Option (List (AVal×Bool)):=
 match h[b]? with
 |some (.cells cs)=>I cs
 |_=>En
def zf (cs:List (AVal×Bool))(off n:Nat):Option (List AVal):=
 bif Ga (off+n) cs.length then I (((cs.drop off).take n).map (·.1))else En
def jo (cs:List (AVal×Bool))(off:Nat)(vs:List AVal):Option (List (AVal×Bool)):=
 bif Ga (off+vs.length) cs.length&&vs.all ql then I (cs.take off++vs.map (·,Es)++cs.drop (off+vs.length))else En
mutual
def below (n:Nat):AVal→Bool
 | .ms b _ _=>Ge b n
 | .ptr b _=>Ge b n
 | .map b=>Ge b n
 | .aj b _ _=>Ge b n
 | .di b _ _=>Ge b n
 | .ai v=>below n v
 | .list _ _ xs=>qw n xs
 | .agg cs=>qw n cs
 | .aI vs=>qw n vs
 | .fn (.yield b) first captured=>Ge b n&&qw n first&&qw n captured
 | .fn _ first captured=>qw n first&&qw n captured
 |_=>E9
def qw (n:Nat):List AVal→Bool
 | []=>E9
 |x::xs=>below n x&&qw n xs
end
def mS (n:Nat):Env→Bool
 | []=>E9
 |(_,v,_)::e=>below n v&&mS n e
def pn (n:Nat):List (AVal×Bool)→Bool
 | []=>E9
 |(v,_)::e=>below n v&&pn n e
def uF (n:Nat):List (AVal×AVal)→Bool
 | []=>E9
 |(k,v)::e=>below n k&&below n v&&uF n e
def po (n:Nat):bg→Bool
 | .hole=>E9
 | .cells cs=>pn n cs
 | .map es=>uF n es
 | .iter _ _=>E9
 | .fU ..=>E9
 | .dead=>E9
 | .vec ..=>E9
 | .loop l=>mS n l.env
def zk (n:Nat):qh→Bool
 | []=>E9
 |b::h=>po n b&&zk n h
def gc (n:Nat)(st:bf):bf:=
 bif Ga st.heap.length n then st
 else bif mS n st.env&&zk n (st.heap.take n)then { st with heap:=st.heap.take n }else st
def mF (v:AVal):Bool:=below 0 v
def q51 (agg:Bool)(sz:Nat):Nat→List AVal→Option (List AVal)
 |0,_=>I []
 |n+1,cs=>bif Ga sz cs.length then
   (match jt5 (cs.take sz) agg with
    |some v=>(match q51 agg sz n (cs.drop sz)with
     |some r=>I (v::r)
     |none=>En)
    |none=>En)else En
def mG (sz:Nat):Nat→List AVal→List AVal
 |0,_=>[]
 |n+1,cs=>(bif Gd sz 1 then cs.headD .undef else .agg (cs.take sz))::mG sz n (cs.drop sz)
def Ki:AVal→Bool
 | .str _=>E9
 | .list ..=>E9
 |_=>Es
def Dg (off len:Nat)(cs:List (AVal×Bool)):Bool:=Gd off 0&&Ge 1 (cs.length / len)&&Gd (len*(cs.length / len)) cs.length&&cs.any (fun c=>Ki c.1)
def kq (h:qh):AVal→Option AVal
 | .ms b off len=>match jt h b with
  |some cs=>bif Dg off len cs then I (.list Es (cs.length / len) (mG (cs.length / len) len (cs.map (·.1))))else(match zf cs off len with
   |some vs=>I (.list Es 1 vs)
   |none=>En)
  |none=>En
 | .aj b bN len=>match h[b]? with
  |some (.vec sz dG xs)=>bif Gd bN dG&&Ga len xs.length then I (.list Es sz (xs.take len))else En
  |_=>En
 |v=>I v
def lJ (h:qh):List AVal→Option (List AVal)
 | []=>I []
 |v::vs=>match kq h v with
  |some x=>(match lJ h vs with
   |some xs=>I (x::xs)
   |none=>En)
  |none=>En
def aJ (h:qh):AVal→Option AVal
 | .agg cs=>match lJ h cs with
  |some xs=>I (.agg xs)
  |none=>En
 | .aI vs=>match bH h vs with
  |some xs=>I (.aI xs)
  |none=>En
 |v=>kq h v
where
 bH (h:qh):List AVal→Option (List AVal)
  | []=>I []
  | .agg cs::vs=>match lJ h cs with
   |some x=>(match bH h vs with
    |some xs=>I (.agg x::xs)
    |none=>En)
   |none=>En
  |v::vs=>match kq h v with
   |some x=>(match bH h vs with
    |some xs=>I (x::xs)
    |none=>En)
   |none=>En
def za (kd:Kd)(k:AVal):List (AVal×AVal)→Nat→Option (Option (Nat×AVal))
 | [],_=>I En
 |(k',v)::es,i=>match lH kd k k' with
  |some E9=>I (I (i,v))
  |some Es=>za kd k es (i+1)
  |none=>En
def qn (s:List UInt8)(i:Nat):Nat×Nat:=Utf8.decode ⟨⟨s⟩⟩ i
structure bm where
 v:AVal
 own:Bool
 strip:Option Nat
 heap:qh
def oG (l:List Nat):Bool:=match l with
 | []=>Es
 |k::_=>Ga 1000 k
def zX (h0:Nat)(l:List Nat)(b:Nat):Bool:=match l with
 | []=>Es
 |k::_=>bif Ge k 2000 then Gd b (k-1000)&&Ge b h0 else bif Ge k 4000 then Gd b (h0+(k-2000))else Ge b h0
def j9 (h0:Nat)(al:Option (List Nat))(b:Nat):Bool:=
 match al with
 |none=>E9
 |some l=>bif oG l then zX h0 l b else(Ge b h0||l.contains (b-h0))
def pq (al:Option (List Nat)):Bool:=
 match al with
 |some (k::_)=>Ga 4000 k
 |_=>Es
def uG (h0:Nat)(al:Option (List Nat))(b:Nat):Bool:=j9 h0 al b&&!(pq al)
def jr (h:qh)(b:Nat)(x:bg):Option qh:=bif Ge b h.length then I (h.set b x)else En
def aS (h0:Nat)(h:qh)(r:Nat)(x:bg):Option qh:=
 match h[h0+r]? with
 |some .hole=>I (h.set (h0+r) x)
 |_=>En
def val (h:qh)(v:AVal):Option bm:=I ⟨v,Es,En,h⟩
def gB (h:qh):Option AVal→Option bm
 |some v=>I ⟨v,Es,En,h⟩
 |none=>En
def idx (n:Nat):AVal→Option Nat
 | .int _ (.ofNat i)=>bif Ge i n then I i else En
 |_=>En
def zY (n:Nat):AVal→Option Nat
 | .int _ (.ofNat i)=>bif Ga i n then I i else En
 |_=>En
def fC (e:Env)(lK n:Nat):Option js→Option Nat
 |none=>I lK
 |some x=>match qi e x with
  |some v=>zY n v
  |none=>En
def zj (e:Env):js→Option Nat
 | .tmp t=>match ji t e with
  |some (_,E9)=>I t
  |_=>En
 |_=>En
def zq (sz:Nat):AVal→Option (List AVal)
 | .list _ sy ys=>bif Gd sz sy||ys.isEmpty then I ys else En
 | .str s=>bif Gd sz 1 then I (s.map fun(c:UInt8)=>AVal.int .u8 c.toNat)else En
 |_=>En
def qA (n:Bool)(sz:Nat)(xs ys:List AVal):AVal:=bif n&&ys.isEmpty then .list E9 0 []else .list Es sz (xs++ys)
def qo (e:Env)(h:qh):cU→Option bm
 | .move x=>gB h (qi e x)
 | .take s=>match ji s e with
  |some (v,o)=>I ⟨v,o,I s,h⟩
  |none=>En
 | .pick c a b=>match qi e c with
  |some (.bool t)=>(match qi e a,qi e b with
    |some x,I y=>val h (bif t then x else y)
    |_,_=>En)
  |_=>En
 | .oE n x=>match qi e x with
  |some v=>bif Gd v.flat.length n&&v.flat.all ql then val h (.ai v)else En
  |none=>En
 | .build zero parts=>match kn e parts with
  |some ps=>match jU zero ps with
   |some cs=>val h (.agg cs)
   |none=>En
  |none=>En
 | .buildSlice sz len zero parts=>match yc e sz parts with
  |some ps=>match lI (Gm len (bif Gd sz 1 then zero.headD .undef else .agg zero)) ps with
   |some xs=>I ⟨.list Es sz xs,E9,En,h⟩
   |none=>En
  |none=>En
 | .gy n=>I ⟨.c8 n,E9,En,h⟩
 | .dV n s x=>match ji s e,qi e x with
  |some (.c8 m,E9),I v=>bif Gd m n&&Gd v.flat.length n&&v.flat.all ql then val h (.ai v)else En
  |_,_=>En
 | .fq agg n x=>match qi e x with
  |some (.ai v)=>bif Gu agg v.isAgg||!(Gd v.flat.length n)then En else val h v
  |_=>En
 | .nilCheck x=>match qi e x with
  |some (.ptr b o)=>val h (.ptr b o)
  |some (.ai v)=>val h (.ai v)
  |some (.fn (.func f) a b)=>val h (.fn (.func f) a b)
  |_=>En
 | .bin op x y=>match qi e x,qi e y with
  |some a,I b=>gB h (yq op a b)
  |_,_=>En
 | .eqs ks neq x y=>match qi e x,qi e y with
  |some (.agg a),I (.agg b)=>bif Gd a.length ks.length&&Gd b.length ks.length then(match z7 ks a b with
   |some t=>val h (.bool (bif neq then !t else t))
   |none=>En)else En
  |_,_=>En
 | .beq neq x y=>match qi e x,qi e y with
  |some (.bool a),I (.bool b)=>val h (.bool (bif neq then !(a == b)else a == b))
  |_,_=>En
 | .ft k neq x=>match k,qi e x with
  |0,I (.list n _ _)=>val h (.bool (bif neq then !n else n))
  |0,I (.ms ..)=>val h (.bool neq)
  |1,I .b9=>val h (.bool (!neq))
  |1,I (.ptr ..)=>val h (.bool neq)
  |1,I (.ai ..)=>val h (.bool neq)
  |2,I .b8=>val h (.bool (!neq))
  |2,I (.map ..)=>val h (.bool neq)
  |3,I .cx=>val h (.bool (!neq))
  |3,I (.fn ..)=>val h (.bool neq)
  |_,_=>En
 | .un op x=>match qi e x with
  |some v=>gB h (xF op v)
  |none=>En
 | .conv k x=>match qi e x with
  |some (.int _ n)=>val h (.int k (qe k n))
  |_=>En
 | .fh x=>match qi e x with
  |some (.str s)=>val h (.str s)
  |some (.int _ n)=>val h (.str (Utf8.encode n).data.toList)
  |_=>En
 | .field agg off n x=>match qi e x with
  |some (.agg cs)=>gB h (part agg cs off n)
  |_=>En
 | .index agg len n x i=>match qi e x,qi e i with
  |some (.agg cs),I j=>(match idx len j with
   |some j=>gB h (part agg cs (j*n) n)
   |none=>En)
  |_,_=>En
 | .et x i=>match qi e x,qi e i with
  |some (.str s),I j=>(match idx s.length j with
   |some j=>(match s[j]? with
    |some c=>val h (.int .u8 c.toNat)
    |none=>En)
   |none=>En)
  |_,_=>En
 | .fieldAddr agg off n x=>match qi e x with
  |some (.ptr b o)=>val h (.ptr b (o+off))
  |some (.ai (.agg cs))=>(match part agg cs off n with
   |some v=>bif Gu agg v.isAgg then En else val h (.ai v)
   |none=>En)
  |some (.di b bN o)=>val h (.di b bN (o+off))
  |_=>En
 | .indexAddr sz x i=>match qi e x,qi e i with
  |some (.list _ dj xs),I j=>bif Gd sz dj||xs.isEmpty then(match idx xs.length j with
   |some j=>(match xs[j]? with
    |some v=>val h (.ai v)
    |none=>En)
   |none=>En)else En
  |some (.ms b o len),I j=>(match idx len j with
   |some j=>val h (.ptr b (o+j*sz))
   |none=>En)
  |some (.aj b bN len),I j=>(match idx len j with
   |some j=>val h (.di b bN (j*sz))
   |none=>En)
  |_,_=>En
 | .eS agg len sz x i=>match qi e x,qi e i with
  |some (.ptr b o),I j=>(match idx len j with
   |some j=>val h (.ptr b (o+j*sz))
   |none=>En)
  |some (.ai (.agg cs)),I j=>(match idx len j with
   |some j=>(match part agg cs (j*sz) sz with
    |some v=>bif Gu agg v.isAgg then En else val h (.ai v)
    |none=>En)
   |none=>En)
  |_,_=>En
 | .slice sz x lo hi=>match qi e x with
  |some (.list n dj xs)=>bif Gd sz dj||xs.isEmpty then(match fC e xs.length xs.length hi with
   |some j=>(match fC e 0 j lo with
    |some i=>val h (.list n dj ((xs.take j).drop i))
    |none=>En)
   |none=>En)else En
  |some (.ms b o len)=>(match fC e len len hi with
   |some j=>(match fC e 0 j lo with
    |some i=>bif Gd i 0||Ge i j then val h (.ms b (o+i*sz) (j-i))else En
    |none=>En)
   |none=>En)
  |some (.aj b bN len)=>(match fC e len len hi with
   |some j=>(match fC e 0 j lo with
    |some i=>bif Gd i 0 then val h (.aj b bN j)else En
    |none=>En)
   |none=>En)
  |_=>En
 | .eT x lo hi=>match qi e x with
  |some (.str s)=>(match fC e s.length s.length hi with
   |some j=>(match fC e 0 j lo with
    |some i=>val h (.str ((s.take j).drop i))
    |none=>En)
   |none=>En)
  |_=>En
 | .fV len sz x lo hi=>match qi e x with
  |some (.ptr b o)=>(match fC e len len hi with
   |some j=>(match fC e 0 j lo with
    |some i=>bif Gd i 0||Ge i j then val h (.ms b (o+i*sz) (j-i))else En
    |none=>En)
   |none=>En)
  |_=>En
 | .gA f first captured=>match kz e first,kz e captured with
  |some a,I b=>val h (.fn f a b)
  |_,_=>En
 | .len k x=>match k,qi e x with
  |1,I (.list _ _ xs)=>val h (.int .i64 xs.length)
  |1,I (.ms _ _ n)=>val h (.int .i64 n)
  |1,I (.aj _ _ n)=>val h (.int .i64 n)
  |2,I (.list E9 _ _)=>val h (.int .i64 0)
  |0,I (.str s)=>val h (.int .i64 s.length)
  |_,_=>En
 | .append En sz bytes x y=>match qi e x,qi e y with
  |some (.list n dj xs),I vy=>
   bif n||(zj e x).isSome then
    (match zq sz vy with
     |some ys=>
      bif (Gd sz dj||(xs.isEmpty&&n))&&Ga (xs.length+ys.length) 1073741824&&Ga bytes 4096&&Ge 0 sz then
       I ⟨qA n sz xs ys,E9,zj e x,h⟩
      else En
     |none=>En)
   else En
  |_,_=>En
 | .cu En sz bytes zero n c=>match qi e n,qi e c with
  |some (.int .i64 (.ofNat n)),I (.int .i64 (.ofNat c))=>
   bif Gd n c&&Ga n 1073741824&&Ga bytes 4096&&Gd zero.length sz&&Ge 0 sz&&zero.all ql then
    I ⟨.list Es sz (Gm n (bif Gd sz 1 then zero.headD .undef else .agg zero)),E9,En,h⟩else En
  |_,_=>En
 | .mx args=>match kz e args with
  |some (v::vs)=>gB h (nU max2 v vs)
  |_=>En
 | .mn args=>match kz e args with
  |some (v::vs)=>gB h (nU min2 v vs)
  |_=>En
 | .extract x i=>match qi e x with
  |some (.aI vs)=>gB h vs[i]?
  |_=>En
 |_=>En
def qB (es:List (AVal×AVal))(i:Nat)(v:AVal):List (AVal×AVal):=
 match es,i with
 | [],_=>[]
 |(k,_)::r,0=>(k,v)::r
 |x::r,i+1=>x::qB r i v
def yi (h0:Nat)(al:Option (List Nat))(e:Env)(h:qh):cU→Option bm
 | .load agg n x=>match qi e x with
  |some (.ptr b o)=>bif j9 h0 al b then(match jt h b with
   |some cs=>(match zf cs o n with
    |some vs=>bif agg then val h (.agg vs)else(match vs with
     | [v]=>val h v
     |_=>En)
    |none=>En)
   |none=>En)else En
  |some (.ai v)=>bif Gu agg v.isAgg||!(Gd v.flat.length n)then En else val h v
  |some (.di b bN o)=>bif uG h0 al b then(match zc h b with
   |some (.vec _ dG xs)=>bif Gd bN dG&&Ga (o+n) (xs.flatMap AVal.flat).length then(bif agg then val h (.agg (((xs.flatMap AVal.flat).drop o).take n))else(match((xs.flatMap AVal.flat).drop o).take n with
     | [v]=>val h v
     |_=>En))else En
   |_=>En)else En
  |_=>En
 | .lookup kd zero ok m k=>match qi e m,qi e k with
  |some (.map b),I kv=>bif j9 h0 al b then(match zc h b with
   |some (.map es)=>(match za kd kv es 0 with
    |some (I (_,v))=>val h (bif ok then .aI [v,.bool E9]else v)
    |some En=>val h (bif ok then .aI [zero,.bool Es]else zero)
    |none=>En)
   |_=>En)else En
  |some .b8,I _=>val h (bif ok then .aI [zero,.bool Es]else zero)
  |_,_=>En
 | .len _ x=>match qi e x with
  |some (.map b)=>bif j9 h0 al b then(match zc h b with
   |some (.map es)=>val h (.int .i64 es.length)
   |_=>En)else En
  |some .b8=>val h (.int .i64 0)
  |_=>En
 |_=>En
def q3r (es:List (AVal×AVal)):Option (Nat×AVal)→List (AVal×AVal)
 |some (i,_)=>es.eraseIdx i
 |none=>es
def uH:Option Nat→Nat→Bool
 |none,_=>E9
 |some a,o=>Gd a o
def zZ (sz len:Nat):AVal→Option (Nat×List AVal)
 | .list _ sy ys=>bif Gd sz sy||ys.isEmpty then I (min ys.length len,(ys.take len).flatMap AVal.flat)else En
 |_=>En
def cellsOf (vs:List AVal):List (AVal×Bool):=vs.map (·,Es)
def qp (h0:Nat)(al:Option (List Nat))(e:Env)(h:qh):cU→Option bm
 | .alloc r zero=>bif zero.all ql then(match aS h0 h r (.cells (cellsOf zero))with
  |some h'=>val h' (.ptr (h0+r) 0)
  |none=>En)else En
 | .box r n x=>match qi e x with
  |some v=>bif Gd v.flat.length n&&v.flat.all ql then(match aS h0 h r (.cells (cellsOf v.flat))with
   |some h'=>val h' (.ptr (h0+r) 0)
   |none=>En)else En
  |none=>En
 | .cA off x=>match qi e x with
  |some (.ptr b o)=>bif j9 h0 al b&&uH off o then(match jt h b with
   |some cs=>(match cs[o]? with
    |some (v,w)=>(match jr h b (.cells (cs.set o (v,Es)))with
     |some h'=>I ⟨v,w,En,h'⟩
     |none=>En)
    |none=>En)
   |none=>En)else En
  |_=>En
 | .store n a x=>match qi e a,qi e x with
  |some (.ptr b o),I v=>bif j9 h0 al b then(match jt h b with
   |some cs=>(match zj e x with
    |some t=>bif Gd n 1&&v.cS&&Ge o cs.length then(match jr h b (.cells (cs.set o (v,E9)))with
      |some h'=>I ⟨.undef,Es,I t,h'⟩
      |none=>En)else En
    |none=>bif Gd v.flat.length n then(match jo cs o v.flat with
     |some eE=>(match jr h b (.cells eE)with
      |some h'=>val h' .undef
      |none=>En)
     |none=>En)else En)
   |none=>En)else En
  |_,_=>En
 | .fU r t e=>match aS h0 h r (.fU t e [])with
  |some h'=>val h' (.ptr (h0+r) 0)
  |none=>En
 | .eu r=>match aS h0 h r (.map [])with
  |some h'=>val h' (.map (h0+r))
  |none=>En
 | .mapUpdate kd m k x=>match qi e m,qi e k,qi e x with
  |some (.map b),I kv,I v=>bif j9 h0 al b then(match zc h b with
   |some (.map es)=>(match za kd kv es 0 with
    |some (I (i,_))=>(match jr h b (.map (qB es i v))with
     |some h'=>val h' .undef
     |none=>En)
    |some En=>bif Ga es.length 1073741824 then(match jr h b (.map (es++[(kv,v)]))with
     |some h'=>val h' .undef
     |none=>En)else En
    |none=>En)
   |_=>En)else En
  |_,_,_=>En
 | .delete kd m k=>match qi e m,qi e k with
  |some (.map b),I kv=>bif j9 h0 al b then(match zc h b with
   |some (.map es)=>(match za kd kv es 0 with
    |some r=>(match jr h b (.map (q3r es r))with
     |some h'=>val h' (.aI [])
     |none=>En)
    |none=>En)
   |_=>En)else En
  |_,_=>En
 | .cu (I r) sz bytes zero n c=>match qi e n,qi e c with
  |some (.int .i64 (.ofNat n)),I (.int .i64 (.ofNat c))=>
   bif Gd n c&&Ga n 1073741824&&Ga bytes 4096&&Gd zero.length sz&&Ge 0 sz&&zero.all ql then
    (match aS h0 h r (.cells (cellsOf (Gm n zero).flatten))with
     |some h'=>val h' (.ms (h0+r) 0 n)
     |none=>En)else En
  |_,_=>En
 | .append (I r) sz bytes x y=>match qi e x,qi e y with
  |some (.list Es dj []),I vy=>
   bif (zj e x).isSome&&Gd sz dj then
    (match zq sz vy with
     |some ys=>
      bif Ga ys.length 1073741824&&Ga bytes 4096&&Ge 0 sz then
       (match aS h0 h r (.cells (cellsOf (ys.flatMap AVal.flat)))with
        |some h'=>I ⟨.ms (h0+r) 0 ys.length,Es,zj e x,h'⟩
        |none=>En)
      else En
     |none=>En)
   else En
  |_,_=>En
 | .ia r sz bytes x y=>match qi e x,qi e y with
  |some (.list E9 _ []),I vy=>(match zq sz vy with
    |some ys=>
     bif Ga ys.length 1073741824&&Ga bytes 4096&&Ge 0 sz&&!ys.isEmpty&&qw 0 ys&&Ge r 1000 then
      (match aS h0 h r (.vec sz 0 ys)with
       |some h'=>val h' (.aj (h0+r) 0 ys.length)
       |none=>En)else En
    |none=>En)
  |some (.aj b bN len),I vy=>(match zc h b with
   |some (.vec dj dG xs)=>(match zq sz vy with
    |some ys=>
     bif Gd bN dG&&Gd sz dj&&Ga len xs.length&&Ga (len+ys.length) 1073741824&&Ga bytes 4096&&Ge 0 sz&&qw 0 ys&&Ge r 1000 then
      (match jr h b (.vec sz (bN+1) (xs.take len++ys))with
       |some h'=>val h' (.aj b (bN+1) (len+ys.length))
       |none=>En)else En
    |none=>En)
   |_=>En)
  |_,_=>En
 | .ib r sz len zero parts=>match yc e sz parts with
  |some ps=>match lI (Gm len (bif Gd sz 1 then zero.headD .undef else .agg zero)) ps with
   |some xs=>bif qw 0 xs then(match aS h0 h r (.vec sz 0 xs)with
    |some h'=>val h' (.aj (h0+r) 0 xs.length)
    |none=>En)else En
   |none=>En
  |none=>En
 | .copy sz x y=>match qi e x,qi e y with
  |some (.ms b o len),I vy=>bif j9 h0 al b then(match jt h b with
   |some cs=>(match zZ sz len vy with
    |some (n,vs)=>(match jo cs o vs with
     |some eE=>bif Gd vs.length (n*sz)then(match jr h b (.cells eE)with
      |some h'=>val h' (.int .i64 n)
      |none=>En)else En
     |none=>En)
    |none=>En)
   |none=>En)else En
  |_,_=>En
 | .dE r x=>match qi e x with
  |some (.str s)=>(match aS h0 h r (.iter s 0)with
   |some h'=>val h' (.ptr (h0+r) 0)
   |none=>En)
  |_=>En
 | .fA it=>match qi e it with
  |some (.ptr b 0)=>bif j9 h0 al b then(match zc h b with
   |some (.iter s pos)=>bif Ge pos s.length then
     (match jr h b (.iter s (pos+(qn s pos).2))with
      |some h'=>val h' (.aI [.bool E9,.int .i64 pos,.int .i32 (qn s pos).1])
      |none=>En)else val h (.aI [.bool Es])
   |_=>En)else En
  |_=>En
 |_=>En
def oH:Nat→List AVal→Env
 |_,[]=>[]
 |i,v::vs=>(i,v,Es)::oH (i+1) vs
def uI (st:bf):mR→Option (AVal×Bool)
 | .tmp t=>ji t st.env
 | .cell t agg n=>match ji t st.env with
  |some (.ptr b o,_)=>(match jt st.heap b with
   |some cs=>(match zf cs o n with
    |some vs=>bif agg then I (.agg vs,Es)else(match cs[o]? with
     |some x=>I x
     |none=>En)
    |none=>En)
   |none=>En)
  |_=>En
def ko (st:bf):List mR→Option (List (AVal×Bool))
 | []=>I []
 |r::rs=>match uI st r with
  |some x=>(match ko st rs with
   |some xs=>I (x::xs)
   |none=>En)
  |none=>En
def jy:List (AVal×Bool)→AVal×Bool
 | [x]=>x
 |xs=>(.aI (xs.map (·.1)),Es)
abbrev XC:=aw→bf→Option (je×bf)
def ky (st:bf):List mR→qh
 | [.cell t Es _]=>match ji t st.env with
  |some (.ptr b o,_)=>(match jt st.heap b with
   |some cs=>(match cs[o]? with
    |some (v,E9)=>st.heap.set b (.cells (cs.set o (v,Es)))
    |_=>st.heap)
   |none=>st.heap)
  |_=>st.heap
 |_=>st.heap
def pv (xc:XC)(f:av)(args:List AVal)(h:qh):Option (AVal×Bool×qh):=
 bif Ga args.length f.ntmps then
  match xc f.body ⟨oH 0 args,h⟩with
  |some (.normal,st)=>(match ko st f.results with
   |some xs=>I ((jy xs).1,(jy xs).2,ky st f.results)
   |none=>En)
  |some (.ret,st)=>(match ko st f.results with
   |some xs=>I ((jy xs).1,(jy xs).2,ky st f.results)
   |none=>En)
  |_=>En
 else En
def qm (p:jz)(xc:XC)(k:Nat)(args:List AVal)(h:qh):Option (AVal×Bool×qh):=
 match p.bG k with
 |some f=>pv xc f args h
 |none=>match p.dL k with
  |some f=>f args h
  |none=>En
def qc (p:jz)(xc:XC)(k:Nat)(args:List AVal):Option (AVal×Bool):=
 match p.cO k with
 |some f=>(match f args with
  |some (v,o)=>bif mF v then I (v,o)else En
  |none=>En)
 |none=>match qm p xc k args []with
  |some (v,o,h)=>(match aJ h v with
   |some v'=>bif mF v' then I (v',o&&v.cS)else En
   |none=>En)
  |none=>En
def jp (n:Nat)(v:AVal)(h:qh):qh:=
 bif Ga h.length n then h else bif below n v&&zk n (h.take n)then h.take n else h
def vS (e:Env):List Nat→List AVal→Option Env
 | [],[]=>I e
 |t::ts,v::vs=>vS ((t,v,Es)::e) ts vs
 |_,_=>En
def kG (xc:XC)(b:Nat)(args:List AVal)(h:qh):Option (AVal×qh):=
 match zc h b with
 |some (.loop l)=>match l.pending,vS (fB l.env) l.params args with
  |none,I e=>(match xc l.assign ⟨e,h⟩with
   |some (.normal,st)=>(match zc st.heap b with
    |some (.loop l1)=>bif l1.pending.isNone then(match xc l.body { st with heap:=st.heap.set b (.loop { l1 with pending:=I .normal }) }with
     |some (x,bZ)=>(match zc bZ.heap b with
      |some (.loop l2)=>I (.bool (match x with | .normal=>E9|_=>Es),jp h.length (.bool E9) (bZ.heap.set b (.loop { l2 with pending:=match x with | .normal=>En|x=>I x })))
      |_=>En)
     |none=>En)else En
    |_=>En)
   |_=>En)
  |_,_=>En
 |_=>En
def nW:AVal→Bool
 | .bool _=>E9
 | .int _ _=>E9
 | .str _=>E9
 |_=>Es
def Qa (h:qh):AVal→Option AVal
 | .ms b 0 len=>(match jt h b with
  |some cs=>bif Gd (len*(cs.length / len)) cs.length&&Ge 0 (cs.length / len)&&cs.all (fun c=>nW c.1)then I (.list Es (cs.length / len) (mG (cs.length / len) len (cs.map (·.1))))else(bif Gd len 0 then I (.list Es 8 [])else En)
  |none=>En)
 |v=>I v
def xG (h:qh):List AVal→Option (List AVal)
 | []=>I []
 |v::vs=>match Qa h v,xG h vs with
  |some x,I xs=>I (x::xs)
  |_,_=>En
def xH:AVal→Bool
 | .agg cs=>cs.all nW
 |v=>nW v
def Dh (v:AVal):AVal:=bif xH v then v else .any
def Kj:AVal→Bool→Option (AVal×Bool)
 | .list Es sz xs,E9=>bif (xs.flatMap AVal.flat).all nW then I (.list Es sz xs,E9)else En
 | .list E9 sz [],_=>I (.list E9 sz [],Es)
 | .aI vs,_=>I (.aI (vs.map Dh),Es)
 |v,_=>bif xH v then I (v,Es)else En
def qC (h0:Nat)(h:qh)(r:Nat):AVal→Bool→Option bm
 | .list E9 sz [],_=>(match aS h0 h r .dead with
  |some h'=>val h' (.list E9 sz [])
  |none=>En)
 | .list Es sz xs,E9=>bif (xs.flatMap AVal.flat).all nW then(match aS h0 h r (.cells (cellsOf (xs.flatMap AVal.flat)))with
  |some h'=>val h' (.ms (h0+r) 0 xs.length)
  |none=>En)else En
 |_,_=>En
def yt (p:jz)(xc:XC)(h0:Nat)(e:Env)(h:qh)(md:ep)(f:js)(args:List js):Option bm:=
 match qi e f,kz e args with
 |some (.fn (.func k) first captured),I vs=>
  (match md with
   | .b3=>bif qw 0 (first++vs++captured)then(match qc p xc k (first++vs++captured)with
     |some (v,o)=>I ⟨v,o,En,h⟩
     |none=>En)else En
   | .fJ r=>bif (first++vs++captured).isEmpty then(match p.maps k with
     |some es=>(match aS h0 h r (.map es)with
      |some h'=>val h' (.map (h0+r))
      |none=>En)
     |none=>En)else bif qw 0 (first++vs++captured)then(match qc p xc k (first++vs++captured)with
     |some (v,o)=>qC h0 h r v o
     |none=>En)else En
   | .red=>(match xG h (first++vs++captured)with
    |some us=>bif qw 0 us then(match qc p xc k us with
     |some (v,o)=>(match Kj v o with
      |some (v',o')=>I ⟨v',o',En,h⟩
      |none=>En)
     |none=>En)else En
    |none=>En)
   | .shr=>(match qm p xc k (first++vs++captured) h with
    |some (v,o,h')=>I ⟨v,o,En,jp h.length v h'⟩
    |none=>En))
 |some (.fn (.yield b) [] []),I vs=>
  (match md with
   | .shr=>(match kG xc b vs h with
    |some (v,h')=>val h' v
    |none=>En)
   |_=>En)
 |_,_=>En
def qf (p:jz)(xc:XC)(h0:Nat)(al:Option (List Nat))(e:Env)(h:qh)(op:cU):Option bm:=
 match op with
 | .call md f args=>yt p xc h0 e h md f args
 | .load agg n x=>yi h0 al e h (.load agg n x)
 | .lookup kd z ok m k=>yi h0 al e h (.lookup kd z ok m k)
 | .alloc r z=>qp h0 al e h (.alloc r z)
 | .box r n x=>qp h0 al e h (.box r n x)
 | .cA off x=>qp h0 al e h (.cA off x)
 | .store n a x=>qp h0 al e h (.store n a x)
 | .fU r t e'=>qp h0 al e h (.fU r t e')
 | .eu r=>qp h0 al e h (.eu r)
 | .mapUpdate kd m k x=>qp h0 al e h (.mapUpdate kd m k x)
 | .delete kd m k=>qp h0 al e h (.delete kd m k)
 | .cu (I r) sz b z n c=>qp h0 al e h (.cu (I r) sz b z n c)
 | .append (I r) sz b x y=>qp h0 al e h (.append (I r) sz b x y)
 | .ia r sz b x y=>qp h0 al e h (.ia r sz b x y)
 | .ib r sz n z ps=>qp h0 al e h (.ib r sz n z ps)
 | .copy sz x y=>qp h0 al e h (.copy sz x y)
 | .dE r x=>qp h0 al e h (.dE r x)
 | .fA it=>qp h0 al e h (.fA it)
 |op=>qo e h op
def z8 (e:Env):Option Nat→Env
 |none=>e
 |some s=>match ji s e with
  |some (v,_)=>(s,v,Es)::e
  |none=>e
def nX (e:Env)(d:Option Nat)(v:AVal)(o:Bool):Env:=
 match d with
 |some d=>(d,v,o)::e
 |none=>e
def mT (e:Env):Option (Nat×Bool)→Option Bool
 |none=>I E9
 |some (s,want)=>match ji s e with
  |some (.bool b,_)=>I (b == want)
  |some (.undef,_)=>I Es
  |_=>En
def yu (p:jz)(xc:XC)(h0:Nat)(o:cf)(st:bf):Option bf:=
 match mT st.env o.guard with
 |some E9=>(match qf p xc h0 o.al st.env st.heap o.op with
  |some r=>I ⟨nX (z8 st.env r.strip) o.dst r.v r.own,r.heap⟩
  |none=>En)
 |some Es=>I ⟨nX st.env o.dst .undef Es,st.heap⟩
 |none=>En
def fW (p:jz)(xc:XC)(h0:Nat):List cf→bf→Option bf
 | [],st=>I st
 |o::os,st=>match yu p xc h0 o st with
  |some bZ=>fW p xc h0 os bZ
  |none=>En
def Aa (st:bf):Option (List Nat)→bf
 |none=>st
 |some l=>{ st with env:=pY st.env l }
def mU (p:jz)(xc:XC)(na:Nat)(ops:List cf)(keep:Option (List Nat))(st:bf):Option (je×bf):=
 match fW p xc st.heap.length ops { st with heap:=st.heap++Gm na .hole }with
 |some bZ=>I (.normal,Aa bZ keep)
 |none=>En
def mV (p:jz)(xc:XC)(f:js)(params:List Nat)(assign body:aw)(st:bf):Option (je×bf):=
 bif zu assign&&zu body then
  match qi st.env f with
  |some (.fn (.func k) first captured)=>
   (match qm p xc k (first++[.fn (.yield st.heap.length) [] []]++captured) (st.heap++[.loop ⟨st.env,params,assign,body,En⟩])with
    |some (_,_,h')=>(match zc h' st.heap.length with
     |some (.loop l)=>bif zk st.heap.length (h'.take st.heap.length)then
       (match l.pending with
       |none=>I (.normal,{ st with heap:=h'.take st.heap.length })
       |some .normal=>En
       |some x=>I (x,{ st with heap:=h'.take st.heap.length }))else En
     |_=>En)
    |none=>En)
  |_=>En
 else En
def jj (p:jz):Nat→XC
 |0,_,_=>En
 |n+1,c,st=>match c with
  | .skip=>I (.normal,st)
  | .region na ops keep=>mU p (jj p n) na ops keep st
  | .seq a b=>match jj p n a st with
   |some (.normal,bZ)=>jj p n b bZ
   |r=>r
  | .cond c a b=>match qi st.env c with
   |some (.bool t)=>bif t then jj p n a st else jj p n b st
   |_=>En
  | .block id body=>match jj p n body st with
   |some (.exit fP,bZ)=>bif Gd fP id then I (.normal,bZ)else I (.exit fP,bZ)
   |r=>r
  | .loop body=>match jj p n body st with
   |some (.normal,bZ)=>jj p n (.loop body) (gc st.heap.length bZ)
   |r=>r
  | .rangeFunc f params assign body=>mV p (jj p n) f params assign body st
  | .exit id=>I (.exit id,st)
  | .ret=>I (.ret,st)
  | .grow sz=>match ji 0 st.env,ji 1 st.env with
   |some (.list E9 _ _,_),I (.int .i64 (.ofNat m),_)=>bif Ge 0 m&&Ga m 1073741824 then I (.normal,{ st with env:=[(0,.list Es sz [],E9)] })else En
   |_,_=>En
  | .stuck=>En
structure qk where
 takes:List Nat:=[]
 bU:List Nat:=[]
 bV:List (Nat×Nat):=[]
 shr:List (Nat×Nat):=[]
 fJ:List (Nat×Nat):=[]
 red:List (Nat×Nat):=[]
 keep:List (Nat×List Nat):=[]
 vl:List Nat:=[]
 vec:List Nat:=[]
 ex:List ((Nat×Nat)×Nat):=[]
 deriving Inhabited
def Di:Value→Option AVal
 | .bool b=>I (.bool b)
 | .int k n=>I (.int k n)
 | .string s=>I (.str s.data.toList)
 | .slice En 0 0=>I (.list E9 0 [])
 | .pointer En=>I .b9
 | .map En=>I .b8
 | .nilFunc=>I .cx
 |_=>En
def vT:List Value→Option (List AVal)
 | []=>I []
 |v::vs=>match Di v with
  |some x=>match vT vs with
   |some xs=>I (x::xs)
   |none=>En
  |none=>En
def ofValue:Value→Option AVal
 | .agg cs=>match vT cs.toList with
  |some xs=>I (.agg xs)
  |none=>En
 |v=>Di v
def qt:Operand→Option js
 | .tmp t=>I (.tmp t)
 | .const v=>match ofValue v with
  |some x=>I (.const x)
  |none=>En
 | .func f=>I (.const (.fn (.func f) [] []))
 | .global _=>En
def pw:List Operand→Option (List js)
 | []=>I []
 |x::xs=>match qt x with
  |some y=>match pw xs with
   |some ys=>I (y::ys)
   |none=>En
  |none=>En
def mW:Option Operand→Option (Option js)
 |none=>I En
 |some x=>match qt x with
  |some y=>I (I y)
  |none=>En
def ym (P:Program)(t:TypeId):Option Bool:=
 match P.underlying t with
 |some (.struct _)=>I E9
 |some (.array _ _)=>I E9
 |some _=>I Es
 |none=>En
def jm (P:Program)(t:TypeId):Option Nat:=(P.info? t).map (·.size)
def nY (P:Program)(t:TypeId):Option Nat:=(P.info? t).map (·.bytes)
def yr (P:Program)(t:TypeId):Option (List AVal):=
 match P.info? t with
 |some i=>match i.zero with
  |some z=>vT z.cells.toList
  |none=>En
 |none=>En
def Qb (P:Program)(t:TypeId):Option TypeId:=
 match P.underlying t with
 |some (.struct fs)=>match fs.toList with
  | [f0,f1]=>match P.underlying f0.type,P.underlying f1.type with
   |some (.pointer t'),I (.slice e)=>match P.underlying e,yr P t with
    |some (.int .u8),I [.b9,.list E9 _ []]=>if t' == t then I e else En
    |_,_=>En
   |_,_=>En
  |_=>En
 |_=>En
def Qc (P:Program)(t:TypeId):Option AVal:=
 match P.info? t with
 |some i=>match i.zero with
  |some z=>ofValue z
  |none=>En
 |none=>En
def Fe (g:TypeId→Option (List Kd)):Nat→List Field→Option (List Kd)
 |_,[]=>I []
 | off, f :: fs => if f.name != "_" && f.offset == off then (match g f.type with
   |some ks=>(match Fe g (off+ks.length) fs with
    |some r=>I (ks++r)
    |none=>En)
   |none=>En)else En
def uJ (P:Program):Nat→TypeId→Option (List Kd)
 |0,_=>En
 |n+1,t=>match P.underlying t with
  |some (.int _)=>if jm P t == I 1 then I [.int]else En
  |some .string=>if jm P t == I 1 then I [.str]else En
  |some .bool=>if jm P t == I 1 then I [.bool]else En
  |some (.struct fs)=>(match Fe (uJ P n) 0 fs.toList with
   |some ks=>if !P.stoodInHeld t&&jm P t == I ks.length then I ks else En
   |none=>En)
  |some (.array len e)=>(match uJ P n e with
   |some ks=>if jm P t == I (len*ks.length)then I (Gm len ks).flatten else En
   |none=>En)
  |_=>En
def Kk:Nat:=12
def kH (P:Program)(t:TypeId):Option Kd:=
 match P.underlying t with
 |some (.int _)=>I .int
 |some .string=>I .str
 |some .bool=>I .bool
 |_=>En
def Dj (P:Program)(op:BinOp)(neq:Bool)(t:TypeId)(x y:Operand):Option cU:=
 match P.underlying t with
 |some (.int _)|some .string=>match qt x,qt y with
  |some a,I b=>I (.bin op a b)
  |_,_=>En
 |some .bool=>match qt x,qt y with
  |some a,I b=>I (.beq neq a b)
  |_,_=>En
 |some (.struct _)|some (.array _ _)=>
  if !P.eqGuardType P.depth t then match uJ P Kk t,qt x,qt y with
   |some ks,I a,I b=>I (.eqs ks neq a b)
   |_,_,_=>En
  else En
 |some (.slice _)=>match y with
  | .const (.slice En 0 0)=>(qt x).map (.ft 0 neq)
  |_=>En
 |some (.pointer _)=>match y with
  | .const (.pointer En)=>(qt x).map (.ft 1 neq)
  |_=>En
 |some (.map _ _)=>match y with
  | .const (.map En)=>(qt x).map (.ft 2 neq)
  |_=>En
 |some (.func _ _ _)=>match y with
  | .const .nilFunc=>(qt x).map (.ft 3 neq)
  |_=>En
 |_=>En
def Qd (P:Program)(op:BinOp)(t:TypeId)(x y:Operand):Option cU:=
 match op with
 | .eql=>Dj P .eql Es t x y
 | .neq=>Dj P .neq E9 t x y
 |op=>match qt x,qt y with
  |some a,I b=>I (.bin op a b)
  |_,_=>En
def xI (P:Program)(place:Nat→Option (Nat×Nat)):List (Nat×Operand)→Option (List (Nat×Nat×js))
 | []=>I []
 |(i,x)::ps=>match place i,qt x,xI P place ps with
  |some (off,n),I y,I r=>I ((off,n,y)::r)
  |_,_,_=>En
def xJ:List (Nat×Operand)→Option (List (Nat×js))
 | []=>I []
 |(i,x)::ps=>match qt x,xJ ps with
  |some y,I r=>I ((i,y)::r)
  |_,_=>En
def q7m (h:qk)(dst:Option Nat)(x:Operand):Option Nat:=
 match x,dst with
 | .tmp s,I d=>if h.takes.contains d then I s else En
 |_,_=>En
def Ab:TypeDesc→Bool
 | .slice _=>E9
 | .string=>E9
 |_=>Es
def ep.at (r:Nat):ep→ep
 | .fJ _=>.fJ r
 |m=>m
def Ac (P:Program)(h:qk)(md:ep)(r:Nat)(dst:Option Nat)(c:Call):Option cU:=
 match c.callee with
 | .value f=>match qt f,pw c.args.toList with
  |some f,I args=>I (.call (md.at r) f args)
  |_,_=>En
 | .builtin .len=>match c.args.toList,c.argTypes.toList with
  | [x],[t]=>match P.underlying t with
   |some .string=>(qt x).map (.len 0)
   |some (.slice _)=>(qt x).map (.len 1)
   |_=>En
  |_,_=>En
 | .builtin .cap=>match c.args.toList,c.argTypes.toList with
  | [x],[t]=>match P.underlying t with
   |some (.slice _)=>(qt x).map (.len 2)
   |_=>En
  |_,_=>En
 | .builtin .append=>match c.args.toList,c.argTypes.toList with
  | [x,y],[t,u]=>match P.underlying t,P.underlying u with
   |some (.slice e),I ut=>if Ab ut&&(yr P e).map (·.length) == jm P e then match jm P e,nY P e,qt x,qt y with
     |some sz,I b,I x,I y=>I (if(dst.map (h.vec.contains ·)).getD Es then .ia r sz b x y else .append (if(dst.map (h.bU.contains ·)).getD Es then I r else En) sz b x y)
     |_,_,_,_=>En
    else En
   |_,_=>En
  |_,_=>En
 | .builtin .copy=>match c.args.toList,c.argTypes.toList with
  | [x,y],t::_=>match P.underlying t with
   |some (.slice e)=>match jm P e,qt x,qt y with
    |some sz,I x,I y=>I (.copy sz x y)
    |_,_,_=>En
   |_=>En
  |_,_=>En
 | .builtin .delete=>match c.args.toList,c.argTypes.toList with
  | [m,k],t::_=>match P.underlying t with
   |some (.map kt _)=>match kH P kt,qt m,qt k with
    |some kd,I m,I k=>I (.delete kd m k)
    |_,_,_=>En
   |_=>En
  |_,_=>En
 | .builtin .max=>(pw c.args.toList).map .mx
 | .builtin .min=>(pw c.args.toList).map .mn
 |_=>En
def Dk : List (String × List Int) := [("woofer/network.none", [0, 0]), ("woofer/network.one", [1, 0]), ("woofer/network.turns", [1, 0, 0, 1, -1, 0, 0, -1])]
def Ff (P:Program)(g:Nat):List (String×List Int)→Option (List Int)
 | []=>En
 |(n,cs)::l=>if P.globalNamed n == I g then I cs else Ff P g l
def Kl (P:Program)(t:TypeId)(g:Nat):Option cU:=match Ff P g Dk,ym P t,jm P t with
 |some cs,I E9,I n=>if cs.length == n then I (.move (.const (.agg (cs.map (AVal.int .i64)))))else En
 |_,_,_=>En
def Km (h:qk):js→Option Nat
 | .tmp s=>if h.vl.contains s then I s else En
 |_=>En
def cV (P:Program)(h:qk)(md:ep)(r:Nat)(dst:Option Nat):Op→Option cU
 | .move x=>match q7m h dst x with
  |some s=>I (.take s)
  |none=>(qt x).map .move
 | .assign (.tmp s)=>I (.take s)
 | .assign x=>(qt x).map .move
 | .pick c a b=>match qt c,qt a,qt b with
  |some c,I a,I b=>I (.pick c a b)
  |_,_,_=>En
 | .alloc t=>match Qb P t with
  |some e=>I (.fU r t e)
  |none=>bif (dst.map (h.vl.contains ·)).getD Es then(match yr P t with
   |some z=>bif z.all ql then I (.gy z.length)else En
   |none=>En)else(yr P t).map (.alloc r)
 | .box t x=>match jm P t,qt x with
  |some n,I x=>I (bif (dst.map (h.vl.contains ·)).getD Es then .oE n x else .box r n x)
  |_,_=>En
 | .build t ps=>match P.underlying t,yr P t with
  |some (.struct fs),I z=>if fs.toList.all (fun f=>(jm P f.type).isSome)then(xI P (fun i=>match fs[i]? with
    |some f=>(jm P f.type).map fun n=>(f.offset,n)
    |none=>En) ps.toList).map (.build z)else En
  |some (.array _ e),I z=>match jm P e with
   |some n=>(xI P (fun i=>I (i*n,n)) ps.toList).map (.build z)
   |none=>En
  |_,_=>En
 | .buildSlice t n ps=>match P.underlying t with
  |some (.slice e)=>match jm P e,yr P e,ym P e,xJ ps.toList with
   |some sz,I z,I ag,I es=>if sz*n≤65536&&0<sz&&z.length == sz&&(ag||sz == 1)&&(!ag||sz != 1)then I (if(dst.map (h.vec.contains ·)).getD Es then .ib r sz n z es else .buildSlice sz n z es)else En
   |_,_,_,_=>En
  |_=>En
 | .load t (.global g)=>Kl P t g
 | .load t x=>match ym P t,jm P t,qt x with
  |some Es,I 1,I x=>if(dst.map (h.takes.contains ·)).getD Es then I (.cA ((dst.bind fun d=>h.bV.find? fun y=>y.1 == d).map (·.2)) x)else I (bif (dst.map (h.vl.contains ·)).getD Es then .fq Es 1 x else .load Es 1 x)
  |some E9,I n,I x=>I (bif (dst.map (h.vl.contains ·)).getD Es then .fq E9 n x else .load E9 n x)
  |_,_,_=>En
 | .store t a v=>match jm P t,qt a,qt v with
  |some n,I a,I v=>I (match Km h a with
   |some s=>.dV n s v
   |none=>.store n a v)
  |_,_,_=>En
 | .nilCheck x=>(qt x).map .nilCheck
 | .binOp op t x y _=>Qd P op t x y
 | .unOp op _ x=>(qt x).map (.un op)
 | .convert s d x=>match P.underlying s,P.underlying d with
  |some (.int _),I (.int k)=>(qt x).map (.conv k)
  |some .string,I .string=>(qt x).map .fh
  |some (.int _),I .string=>(qt x).map .fh
  |_,_=>En
 | .makeFunc f a b=>match f with
  | .func k=>match pw a.toList,pw b.toList with
   |some a,I b=>I (.gA (.func k) a b)
   |_,_=>En
  |_=>En
 | .makeMap t En=>match P.underlying t with
  |some (.map _ _)=>I (.eu r)
  |_=>En
 | .makeSlice t n c=>match P.underlying t with
  |some (.slice e)=>match jm P e,nY P e,yr P e,ym P e,qt n,qt c with
   |some sz,I b,I z,I ag,I n,I c=>
    if(ag||sz == 1)&&(!ag||sz != 1)then I (.cu (if(dst.map (h.bU.contains ·)).getD Es then I r else En) sz b z n c)else En
   |_,_,_,_,_,_=>En
  |_=>En
 | .slice t x lo hi En=>match qt x,mW lo,mW hi with
  |some x,I lo,I hi=>match P.underlying t with
   |some .string=>I (.eT x lo hi)
   |some (.slice e)=>(jm P e).map fun sz=>.slice sz x lo hi
   |some (.array n e)=>(jm P e).map fun sz=>.fV n sz x lo hi
   |_=>En
  |_,_,_=>En
 | .fieldAddr t x i=>match P.underlying t with
  |some (.struct fs)=>match fs[i]? with
   |some f=>match ym P f.type,jm P f.type,qt x with
    |some ag,I n,I x=>if 0<n&&(ag||n == 1)then I (.fieldAddr ag f.offset n x)else En
    |_,_,_=>En
   |none=>En
  |_=>En
 | .field t x i=>match P.underlying t with
  |some (.struct fs)=>match fs[i]? with
   |some f=>match ym P f.type,jm P f.type,qt x with
    |some ag,I n,I x=>I (.field ag f.offset n x)
    |_,_,_=>En
   |none=>En
  |_=>En
 | .indexAddr t x i=>match qt x,qt i with
  |some x,I i=>match P.underlying t with
   |some (.slice e)=>match jm P e with
    |some sz=>if 0<sz then I (.indexAddr sz x i)else En
    |none=>En
   |some (.array n e)=>match jm P e,ym P e with
    |some sz,I ag=>if 0<sz&&(ag||sz == 1)then I (.eS ag n sz x i)else En
    |_,_=>En
   |_=>En
  |_,_=>En
 | .index t x i=>match qt x,qt i with
  |some x,I i=>match P.underlying t with
   |some .string=>I (.et x i)
   |some (.array n e)=>match jm P e,ym P e with
    |some sz,I ag=>I (.index ag n sz x i)
    |_,_=>En
   |_=>En
  |_,_=>En
 | .lookup t m k ok=>match P.underlying t with
  |some (.map kt e)=>match kH P kt,Qc P e,qt m,qt k with
   |some kd,I z,I m,I k=>I (.lookup kd z ok m k)
   |_,_,_,_=>En
  |_=>En
 | .mapUpdate t m k v=>match P.underlying t with
  |some (.map kt _)=>match kH P kt,qt m,qt k,qt v with
   |some kd,I m,I k,I v=>I (.mapUpdate kd m k v)
   |_,_,_,_=>En
  |_=>En
 | .insert t m k v=>match P.underlying t with
  |some (.map kt _)=>match kH P kt,qt m,qt k,qt v with
   |some kd,I m,I k,I v=>I (.mapUpdate kd m k v)
   |_,_,_,_=>En
  |_=>En
 | .range t x=>match P.underlying t with
  |some .string=>(qt x).map (.dE r)
  |_=>En
 | .next it E9=>(qt it).map .fA
 | .extract x i=>(qt x).map fun x=>.extract x i
 | .call c=>Ac P h md r dst c
 |_=>En
def cU.makes:cU→Bool
 | .alloc ..=>E9
 | .box ..=>E9
 | .fU ..=>E9
 | .eu ..=>E9
 | .cu (I _) ..=>E9
 | .append (I _) ..=>E9
 | .ia ..=>E9
 | .ib ..=>E9
 | .dE ..=>E9
 | .call (.fJ _) ..=>E9
 |_=>Es
def cU.ic:cU→Option Nat
 | .dV _ s _=>I s
 |_=>En
def cU.xK (d:Option Nat):cU→Option Nat
 | .dV _ s _=>I s
 |_=>d
def Dl (ops:Array Oper):Option (Nat×Bool)→Option (Option (Nat×Bool))
 |none=>I En
 |some (j,b)=>match(ops[j]?).bind (·.dst)with
  |some d=>I (I (d,b))
  |none=>En
def jew (h:qk)(id i:Nat):ep:=if h.shr.contains (id,i)then .shr else if h.fJ.contains (id,i)then .fJ 0 else if h.red.contains (id,i)then .red else .b3
def Fg (P:Program)(h:qk)(nt:Nat)(id:Nat)(ops:Array Oper)(iE:Array Nat)(draw:Bool):List Oper→Nat→List (Nat×Nat)→Option (List cf×List (Nat×Nat))
 | [],_,rs=>I ([],rs)
 |o::os,i,rs=>
  match(cV P h (jew h id i) rs.length o.dst o.op).getD .bad,Dl ops o.guard with
  |a,I g=>
   if(o.dst.map (decide <| · < nt)).getD E9&&(a.ic.map (decide <| · < nt)).getD E9&&(a.ic.isNone||(o.dst.isNone&&o.guard.isNone))then
    let Dm:=if a.makes then(i,rs.length)::rs else rs
    let al:=if draw then(match h.ex.find? fun x=>x.1 == (id,i)with
     |some x=>I [x.2]
     |none=>I ((rs.filter fun x=>(iE.getD i 0).testBit x.1).map (·.2)))else En
    match Fg P h nt id ops iE draw os (i+1) Dm with
    |some (l,Qe)=>I (⟨a.xK o.dst,a,g,al⟩::l,Qe)
    |none=>En
   else En
  |_,_=>En
def zb:js→List Nat
 | .tmp t=>[t]
 | .const _=>[]
def xM (l:List js):List Nat:=l.flatMap zb
def Ad:Option js→List Nat
 |some x=>zb x
 |none=>[]
def cU.reads:cU→List Nat
 | .move x=>zb x
 | .take s=>[s]
 | .pick c a b=>zb c++zb a++zb b
 | .alloc _ _=>[]
 | .box _ _ x=>zb x
 | .oE _ x=>zb x
 | .gy _=>[]
 | .dV _ s x=>s::zb x
 | .fU _ _ _=>[]
 | .build _ ps=>ps.flatMap fun p=>zb p.2.2
 | .buildSlice _ _ _ ps=>ps.flatMap fun p=>zb p.2
 | .load _ _ x=>zb x
 | .fq _ _ x=>zb x
 | .cA _ x=>zb x
 | .store _ a v=>zb a++zb v
 | .nilCheck x=>zb x
 | .bin _ x y=>zb x++zb y
 | .eqs _ _ x y=>zb x++zb y
 | .beq _ x y=>zb x++zb y
 | .ft _ _ x=>zb x
 | .un _ x=>zb x
 | .conv _ x=>zb x
 | .fh x=>zb x
 | .field _ _ _ x=>zb x
 | .index _ _ _ x i=>zb x++zb i
 | .et x i=>zb x++zb i
 | .fieldAddr _ _ _ x=>zb x
 | .indexAddr _ x i=>zb x++zb i
 | .eS _ _ _ x i=>zb x++zb i
 | .slice _ x lo hi=>zb x++Ad lo++Ad hi
 | .eT x lo hi=>zb x++Ad lo++Ad hi
 | .fV _ _ x lo hi=>zb x++Ad lo++Ad hi
 | .gA _ a b=>xM a++xM b
 | .eu _=>[]
 | .lookup _ _ _ m k=>zb m++zb k
 | .mapUpdate _ m k v=>zb m++zb k++zb v
 | .delete _ m k=>zb m++zb k
 | .cu _ _ _ _ n c=>zb n++zb c
 | .len _ x=>zb x
 | .append _ _ _ x y=>zb x++zb y
 | .ia _ _ _ x y=>zb x++zb y
 | .ib _ _ _ _ ps=>ps.flatMap fun p=>zb p.2
 | .copy _ x y=>zb x++zb y
 | .mx l=>xM l
 | .mn l=>xM l
 | .extract x _=>zb x
 | .call _ f l=>zb f++xM l
 | .dE _ x=>zb x
 | .fA x=>zb x
 | .bad=>[]
def cU.fK:cU→List Nat
 | .take s=>[s]
 | .append _ _ _ x _=>zb x
 | .store _ _ v=>zb v
 |_=>[]
def cf.reads (o:cf):List Nat:=o.op.reads++(match o.guard with|some g=>[g.1]|none=>[])
def cf.writes (o:cf):List Nat:=o.dst.toList++o.op.fK
inductive Ae where
 |pure|read|write|alloc|take|fJ|shr|nZ
 deriving DecidableEq,Inhabited
def cU.cl:cU→Ae
 | .load ..=>.read
 | .lookup ..=>.read
 | .alloc ..=>.alloc
 | .box ..=>.alloc
 | .fU ..=>.alloc
 | .eu ..=>.alloc
 | .cu (I _) ..=>.alloc
 | .append (I _) ..=>.alloc
 | .dE ..=>.alloc
 | .cA En _=>.write
 | .cA (I _) _=>.take
 | .store ..=>.write
 | .mapUpdate ..=>.write
 | .delete ..=>.write
 | .copy ..=>.write
 | .fA ..=>.write
 | .call .b3 ..=>.pure
 | .call (.fJ _) ..=>.alloc
 | .call .shr ..=>.shr
 | .call .red ..=>.shr
 | .ia ..=>.nZ
 | .ib ..=>.shr
 |_=>.pure
def cU.cZ:cU→Nat
 | .alloc r _=>r
 | .box r _ _=>r
 | .fU r _ _=>r
 | .eu r=>r
 | .cu (I r) ..=>r
 | .append (I r) ..=>r
 | .dE r _=>r
 | .call (.fJ r) ..=>r
 | .cA (I o) _=>o
 | .ia r sz ..=>r+1000*sz
 |_=>0
def mX (al:Option (List Nat))(r:Nat):Bool:=match al with
 |none=>E9
 |some l=>bif oG l then Gd (l.headD 0) (2000+r)else l.contains r
def Dn (a b:Option (List Nat)):Bool:=match a,b with
 |some l,I m=>bif oG l then(bif oG m then !(Gd (l.headD 0) (m.headD 0))&&Ge (l.headD 0) 4000&&Ge (m.headD 0) 4000 else Ga 2000 (l.headD 0)&&Ge (l.headD 0) 4000&&!(m.contains (l.headD 0-2000)))else oG m&&Ga 2000 (m.headD 0)&&Ge (m.headD 0) 4000&&!(l.contains (m.headD 0-2000))
 |_,_=>Es
def Ae.box:Ae→Bool
 | .read=>E9
 | .write=>E9
 | .take=>E9
 |_=>Es
def Qf (a b:cf):Bool:=(a.op.cl.box&&b.op.cl.box&&Dn a.al b.al) ||
  (match a.op.cl,b.op.cl with
 | .pure,_=>E9
 |_,.pure=>E9
 | .read,.read=>E9
 | .read,.fJ=>E9
 | .fJ,.read=>E9
 | .fJ,.fJ=>E9
 | .alloc,.alloc=>a.op.cZ != b.op.cZ
 | .alloc,.read=>!mX b.al a.op.cZ
 | .alloc,.write=>!mX b.al a.op.cZ
 | .alloc,.take=>!mX b.al a.op.cZ
 | .take,.alloc=>!mX a.al b.op.cZ
 | .take,.take=>a.op.cZ != b.op.cZ
 | .read,.alloc=>!mX a.al b.op.cZ
 | .write,.alloc=>!mX a.al b.op.cZ
 | .nZ,.nZ=>a.op.cZ % 1000 != b.op.cZ % 1000&&a.op.cZ / 1000 != b.op.cZ / 1000
 | .nZ,.read=>pq b.al
 | .nZ,.write=>pq b.al
 | .nZ,.take=>pq b.al
 | .read,.nZ=>pq a.al
 | .write,.nZ=>pq a.al
 | .take,.nZ=>pq a.al
 |_,_=>Es)
def Fh (a b:List Nat):Bool:=a.all fun x=>!b.contains x
def Af (a b:cf):Bool:=
 Qf a b&&Fh a.writes b.reads&&Fh a.writes b.writes&&Fh b.writes a.reads
def Qg (iE:Array Nat)(l:List cf):Bool:=
 (l.zipIdx).all fun(b,j)=>(l.zipIdx).all fun(a,i)=>!(decide (i<j))||(iE.getD j 0).testBit i||Af a b
def Qh (ops:Array Oper):Bool:=ops.toList.zipIdx.all fun(o,i)=>o.after.all fun e=>!Region.binds .any e||decide (e.on<i)
def Qi (iE:Array Nat)(ops:Array Oper):Bool:=
 ops.toList.zipIdx.all fun(o,i)=>(List.range ops.size).all fun j=>!((iE.getD i 0).testBit j)||o.after.any fun e=>Region.binds .any e&&(e.on == j||(iE.getD e.on 0).testBit j)
def Fi (P:Program)(h:qk)(nt:Nat)(id:Nat)(ops:Array Oper)(draw:Bool):Option aw:=
 match Fg P h nt id ops (Region.before ops) draw ops.toList 0 []with
 |some (l,rs)=>
  if !draw||(Qg (Region.before ops) l&&Qh ops&&Qi (Region.before ops) ops)then
   I (.region rs.length l ((h.keep.find? fun x=>x.1 == id).map (·.2)))
  else En
 |none=>En
def Dp (s d:Nat)(o:Oper):Bool:=match o.op,o.dst,o.guard with
 | .move (.tmp s'),I d',En=>s' == s&&d' == d
 |_,_,_=>Es
def Qj (s d:Nat)(o:Oper):Bool:=match o.op,o.dst,o.guard with
 | .assign (.tmp s'),I d',En=>s' == s&&d' == d
 |_,_,_=>Es
def Qk (x d:Nat)(o:Oper):Option TypeId:=match o.op,o.dst,o.guard with
 | .call c,I d',En=>match c.callee,c.args.toList,c.argTypes.toList with
  | .builtin .cap,[.tmp x'],[t]=>if x' == x&&d' == d then I t else En
  |_,_,_=>En
 |_,_,_=>En
def Ql (x d:Nat)(o:Oper):Option TypeId:=match o.op,o.dst,o.guard with
 | .call c,I d',En=>match c.callee,c.args.toList,c.argTypes.toList with
  | .builtin .len,[.tmp x'],[t]=>if x' == x&&d' == d then I t else En
  |_,_,_=>En
 |_,_,_=>En
def Kn (x h d:Nat)(o:Oper):Option TypeId:=match o.op,o.dst,o.guard with
 | .slice t (.tmp x') En (I (.tmp h')) En,I d',En=>if x' == x&&h' == h&&d' == d then I t else En
 |_,_,_=>En
def Qm (x y d:Nat)(o:Oper):Option (TypeId×TypeId):=match o.op,o.dst,o.guard with
 | .call c,I d',En=>match c.callee,c.args.toList,c.argTypes.toList with
  | .builtin .append,[.tmp x',.tmp y'],[t,u]=>if x' == x&&y' == y&&d' == d then I (t,u)else En
  |_,_,_=>En
 |_,_,_=>En
def jl8 (ops:Array Oper):Option (TypeId×TypeId):=match ops.toList with
 | [o0,o1,o2,o3,o4,o5,o6,o7,o8,o9]=>match Qk 18 19 o2,Kn 17 19 20 o3,Qm 20 21 22 o5,Ql 23 24 o7,Kn 22 24 25 o8 with
  |some t2,I t3,I (t,u),I t7,I t8=>if Dp 0 17 o0&&Dp 0 18 o1&&Dp 1 21 o4&&Dp 0 23 o6&&Qj 25 0 o9&&t2 == t&&t3 == t&&t7 == t&&t8 == t then I (t,u)else En
  |_,_,_,_,_=>En
 |_=>En
def Ko (P:Program)(nt:Nat)(ops:Array Oper):Option Nat:=match jl8 ops with
 |some (t,u)=>match P.underlying t,P.underlying u with
  |some (.slice e),I (.int _)=>match P.info? e with
   |some i=>if i.zero.isSome&&0<i.size&&i.bytes≤4096&&26≤nt&&(yr P e).isSome&&(yr P e).map (·.length) == I i.size then I i.size else En
   |none=>En
  |_,_=>En
 |none=>En
def gU (P:Program)(h:qk)(nt:Nat):Code→Option aw
 | .skip=>I .skip
 | .label _=>I .skip
 | .region id ops draw=>match draw,Ko P nt ops with
  |false,I sz=>I (.grow sz)
  |_,_=>Fi P h nt id ops draw
 | .seq a b=>match gU P h nt a,gU P h nt b with
  |some x,I y=>I (.seq x y)
  |_,_=>En
 | .cond c a b=>match qt c,gU P h nt a,gU P h nt b with
  |some c,I x,I y=>I (.cond c x y)
  |_,_,_=>En
 | .block id b=>(gU P h nt b).map (.block id)
 | .loop b=>(gU P h nt b).map .loop
 | .scope b=>(gU P h nt b).map fun x=>.seq x .skip
 | .rangeFunc f ps a b=>match qt f,gU P h nt a,gU P h nt b with
  |some f,I x,I y=>if ps.all (decide <| · < nt)then I (.rangeFunc f ps.toList x y)else En
  |_,_,_=>En
 | .exit id=>I (.exit id)
 | .ret=>I .ret
 |_=>I .stuck
def Kp (P:Program):ResultVar→Option mR
 | .tmp t=>I (.tmp t)
 | .cell t ty=>match ym P ty,jm P ty with
  |some E9,I n=>I (.cell t E9 n)
  |some Es,I 1=>I (.cell t Es 1)
  |_,_=>En
def Ag (P:Program):List ResultVar→Option (List mR)
 | []=>I []
 |r::rs=>match Kp P r,Ag P rs with
  |some x,I xs=>I (x::xs)
  |_,_=>En
def Fj (P:Program)(h:qk)(f:Func):Option av:=
 match f.body with
 |some c=>match gU P h f.ntmps c,Ag P f.results.toList with
  | some b, I rs => if f.name == "runtime.NumGoroutine" then En else I ⟨f.ntmps, b, rs⟩
  |_,_=>En
 |none=>En
structure aK where
 K:Nat→Nat→Option Value
 β:Nat→Option Nat
 W:Nat→Prop
 D:Nat→Prop
 T:Nat×Nat×Nat×Nat→Prop
def aK.b3 (K:Nat→Nat→Option Value):aK:=⟨K,fun _=>En,fun _=>False,fun _=>False,fun _=>False⟩
def fD (C:aK):Fn→Fn→Prop
 | .yield b,f=>∃r,C.β b=I r∧f=.yield r
 |f,f'=>f'=f
inductive lq where
 |val (x:AVal) (v:Value)
 |cells (r:Nat) (xs:List AVal) (o:Nat)
 |row (r sz:Nat) (xs:List AVal) (o:Nat)
 |fm (xs:List AVal) (vs:List Value)
inductive aH (C:aK):lq→Prop where
 |bool (b:Bool):aH C (.val (.bool b) (.bool b))
 |int (k:IntKind) (n:Int):aH C (.val (.int k n) (.int k n))
 |str (s:List UInt8):aH C (.val (.str s) (.string ⟨⟨s⟩⟩))
 |jI (sz:Nat):aH C (.val (.list E9 sz []) (.slice En 0 0))
 |list (sz:Nat) (xs:List AVal) (r o cap:Nat) (hl:xs.length≤cap) (hr:aH C (.row r sz xs o)):aH C (.val (.list Es sz xs) (.slice (I ⟨r,o,En⟩) xs.length cap))
 |jJ (sz:Nat) (a:Addr) (hs:a.spot≠En):aH C (.val (.list Es sz []) (.slice (I a) 0 0))
 |ms (b o len r cap:Nat) (hb:C.β b=I r) (hl:len≤cap):aH C (.val (.ms b o len) (.slice (I ⟨r,o,En⟩) len cap))
 |ptr (b o r:Nat) (hb:C.β b=I r):aH C (.val (.ptr b o) (.pointer (I ⟨r,o,En⟩)))
 |ai (x:AVal) (r o:Nat) (h:aH C (.cells r x.flat o)):aH C (.val (.ai x) (.pointer (I ⟨r,o,En⟩)))
 |b9:aH C (.val .b9 (.pointer En))
 |map (b r:Nat) (hb:C.β b=I r):aH C (.val (.map b) (.map (I r)))
 |b8:aH C (.val .b8 (.map En))
 |fn (f f':Fn) (a b:List AVal) (as bs:List Value) (hf:fD C f f') (ha:aH C (.fm a as)) (hb:aH C (.fm b bs)):aH C (.val (.fn f a b) (.func f' ⟨as⟩ ⟨bs⟩))
 |cx:aH C (.val .cx .nilFunc)
 |agg (cs:List AVal) (vs:List Value) (h:aH C (.fm cs vs)):aH C (.val (.agg cs) (.agg ⟨vs⟩))
 |aI (cs:List AVal) (vs:List Value) (h:aH C (.fm cs vs)):aH C (.val (.aI cs) (.tuple ⟨vs⟩))
 |undef:aH C (.val .undef (.tuple #[]))
 |any (v:Value):aH C (.val .any v)
 |c8 (n:Nat) (a:Addr):aH C (.val (.c8 n) (.pointer (I a)))
 |aj (b bN len r0 r cap:Nat) (hb:C.β b=I r0) (ht:C.T (r0,bN,r,cap)) (hl:len≤cap):aH C (.val (.aj b bN len) (.slice (I ⟨r,0,En⟩) len cap))
 |di (b bN off r0 r cap:Nat) (hb:C.β b=I r0) (ht:C.T (r0,bN,r,cap)):aH C (.val (.di b bN off) (.pointer (I ⟨r,off,En⟩)))
 |ie (r o:Nat):aH C (.cells r [] o)
 |dH (r o:Nat) (x:AVal) (xs:List AVal) (v:Value) (hv:C.K r o=I v) (hx:aH C (.val x v)) (h:aH C (.cells r xs (o+1))):aH C (.cells r (x::xs) o)
 |fL (r sz o:Nat):aH C (.row r sz [] o)
 |dA (r sz o:Nat) (x:AVal) (xs:List AVal) (hs:x.flat.length=sz) (hx:aH C (.cells r x.flat o)) (h:aH C (.row r sz xs (o+sz))):aH C (.row r sz (x::xs) o)
 |nil:aH C (.fm [] [])
 |cons (x:AVal) (xs:List AVal) (v:Value) (vs:List Value) (hx:aH C (.val x v)) (h:aH C (.fm xs vs)):aH C (.fm (x::xs) (v::vs))
abbrev bT (C:aK)(x:AVal)(v:Value):Prop:=aH C (.val x v)
abbrev aW (C:aK)(xs:List AVal)(vs:List Value):Prop:=aH C (.fm xs vs)
abbrev cy (C:aK)(r:Nat)(xs:List AVal)(o:Nat):Prop:=aH C (.cells r xs o)
abbrev bA (C:aK)(r sz:Nat)(xs:List AVal)(o:Nat):Prop:=aH C (.row r sz xs o)
structure aK.le (C C':aK):Prop where
 k:∀r o v,C.K r o=I v→C'.K r o=I v
 b:∀b r,C.β b=I r→C'.β b=I r
 w:C'.W=C.W
 d:∀r,C.D r→C'.D r
 t:∀q,C.T q→C'.T q:=by exact fun _ h=>h
theorem aK.le_refl (C:aK):C.le C:=⟨fun _ _ _ h=>h,fun _ _ h=>h,rfl,fun _ h=>h,fun _ h=>h⟩
theorem aK.le_trans {A B C:aK}(h:A.le B)(k:B.le C):A.le C:=⟨fun r o v x=>k.1 r o v (h.1 r o v x),fun b r x=>k.2 b r (h.2 b r x),k.w.trans h.w,fun r x=>k.d r (h.d r x),fun r x=>k.t r (h.t r x)⟩
theorem fD.imp {C C'}(h:(∀r o v,C.K r o=I v→C'.K r o=I v)∧(∀b r,C.β b=I r→C'.β b=I r)){f f'}(hf:fD C f f'):fD C' f f':=by
 cases f<;>simp only[fD]at *<;>first|exact hf|exact⟨hf.choose,h.2 _ _ hf.choose_spec.1,hf.choose_spec.2⟩
theorem aH.imp {C C'}(h:(∀r o v,C.K r o=some v→C'.K r o=some v)∧(∀b r,C.β b=some r→C'.β b=some r)){i}(hr:aH C i)(hT:∀q,C.T q→C'.T q:=by first|exact fun _ h=>h|exact fun _ h=>False.elim h):aH C' i:=by
 induction hr with
 |bool b=>exact .bool b
 |int k n=>exact .int k n
 |str s=>exact .str s
 |jI sz=>exact .jI sz
 |list sz xs r o cap hl _ ih=>exact .list sz xs r o cap hl ih
 |jJ sz a hs=>exact .jJ sz a hs
 |ms b o len r cap hb hl=>exact .ms b o len r cap (h.2 _ _ hb) hl
 |ptr b o r hb=>exact .ptr b o r (h.2 _ _ hb)
 |ai x r o _ ih=>exact .ai x r o ih
 |b9=>exact .b9
 |map b r hb=>exact .map b r (h.2 _ _ hb)
 |b8=>exact .b8
 |fn f f' a b as bs hf _ _ ha hb=>exact .fn f f' a b as bs (hf.imp h) ha hb
 |cx=>exact .cx
 |agg cs vs _ ih=>exact .agg cs vs ih
 |aI cs vs _ ih=>exact .aI cs vs ih
 |undef=>exact .undef
 |any v=>exact .any v
 |c8 n a=>exact .c8 n a
 |aj b bN len r0 r cap hb ht hl=>exact .aj b bN len r0 r cap (h.2 _ _ hb) (hT _ ht) hl
 |di b bN off r0 r cap hb ht=>exact .di b bN off r0 r cap (h.2 _ _ hb) (hT _ ht)
 |ie r o=>exact .ie r o
 |dH r o x xs v hv _ _ n5 ih=>exact .dH r o x xs v (h.1 _ _ _ hv) n5 ih
 |fL r sz o=>exact .fL r sz o
 |dA r sz o x xs hs _ _ n5 ih=>exact .dA r sz o x xs hs n5 ih
 |nil=>exact .nil
 |cons x xs v vs _ _ n5 ih=>exact .cons x xs v vs n5 ih
theorem aH.mono {C C'}(h:C.le C'){i}(hr:aH C i):aH C' i:=hr.imp ⟨h.k,h.b⟩ h.t
def lq.below (n:Nat):lq→Bool
 | .val x _=>Abs.below n x
 | .cells _ xs _=>qw n xs
 | .row _ _ xs _=>qw n xs
 | .fm xs _=>qw n xs
theorem Kq (n:Nat)(x:AVal):qw n x.flat=Abs.below n x:=by
 cases x<;>simp[AVal.flat,qw,Abs.below]
theorem aH.shift {C C'}(n:Nat)(hK:∀r o v,C.K r o=some v→C'.K r o=some v)(hβ:∀b r,b<n→C.β b=some r→C'.β b=some r){i}(hr:aH C i)(hb:i.below n=true)(hT:∀q,0<n→C.T q→C'.T q:=by first|exact fun _ _ h=>h|exact fun _ h=>absurd h (Nat.lt_irrefl 0)|exact fun _ _ h=>False.elim h):aH C' i:=by
 induction hr with
 |bool b=>exact .bool b
 |int k n=>exact .int k n
 |str s=>exact .str s
 |jI sz=>exact .jI sz
 |list sz xs r o cap hl _ ih=>exact .list sz xs r o cap hl (ih (by simpa[lq.below,Abs.below]using hb))
 |jJ sz a hs=>exact .jJ sz a hs
 |ms b o len r cap h1 hl=>exact .ms b o len r cap (hβ _ _ (by simpa[lq.below,Abs.below]using hb) h1) hl
 |ptr b o r h1=>exact .ptr b o r (hβ _ _ (by simpa[lq.below,Abs.below]using hb) h1)
 |ai x r o _ ih=>exact .ai x r o (ih (by simpa[lq.below,Abs.below,Kq]using hb))
 |b9=>exact .b9
 |map b r h1=>exact .map b r (hβ _ _ (by simpa[lq.below,Abs.below]using hb) h1)
 |b8=>exact .b8
 |fn f f' a b as bs hf _ _ iha ihb=>
  have Qn:fD C' f f':=by
   cases f<;>simp only[fD]at *<;>first|exact hf|skip
   obtain⟨r,h1,rfl⟩:=hf
   simp[lq.below,Abs.below]at hb
   exact⟨r,hβ _ _ hb.1.1 h1,rfl⟩
  have qD:qw n a=E9∧qw n b=E9:=by
   cases f<;>simp[lq.below,Abs.below]at hb<;>first|exact hb|exact⟨hb.1.2,hb.2⟩
  exact .fn f f' a b as bs Qn (iha qD.1) (ihb qD.2)
 |cx=>exact .cx
 |agg cs vs _ ih=>exact .agg cs vs (ih (by simpa[lq.below,Abs.below]using hb))
 |aI cs vs _ ih=>exact .aI cs vs (ih (by simpa[lq.below,Abs.below]using hb))
 |undef=>exact .undef
 |any v=>exact .any v
 |c8 n a=>exact .c8 n a
 |aj b bN len r0 r cap h1 ht hl=>
  have Ah:b<n:=by simpa[lq.below,Abs.below]using hb
  exact .aj b bN len r0 r cap (hβ _ _ Ah h1) (hT _ (by omega) ht) hl
 |di b bN off r0 r cap h1 ht=>
  have Ah:b<n:=by simpa[lq.below,Abs.below]using hb
  exact .di b bN off r0 r cap (hβ _ _ Ah h1) (hT _ (by omega) ht)
 |ie r o=>exact .ie r o
 |dH r o x xs v hv _ _ n5 ih=>
  simp[lq.below,qw]at hb n5 ih
  exact .dH r o x xs v (hK _ _ _ hv) (n5 hb.1) (ih hb.2)
 |fL r sz o=>exact .fL r sz o
 |dA r sz o x xs hs _ _ n5 ih=>
  simp[lq.below,qw,Kq]at hb n5 ih
  exact .dA r sz o x xs hs (n5 hb.1) (ih hb.2)
 |nil=>exact .nil
 |cons x xs v vs _ _ n5 ih=>
  simp[lq.below,qw]at hb n5 ih
  exact .cons x xs v vs (n5 hb.1) (ih hb.2)
theorem aW.length {C xs}:∀ {vs:List Value},aW C xs vs→vs.length=xs.length:=by
 induction xs with
 |nil=>intro vs h;cases h;rfl
 |cons x xs ih=>intro vs h;cases h with|cons _ _ v vs hx h=>simp[ih h]
theorem aW.get {C xs}:∀ {vs:List Value},aW C xs vs→∀ {i:Nat} {x:AVal},xs[i]?=I x→∃v,vs[i]?=I v∧bT C x v:=by
 induction xs with
 |nil=>intro vs _ i x h;simp at h
 |cons y ys ih=>
  intro vs h i x hi
  cases h with
  |cons _ _ v vs hx h=>
   cases i with
   |zero=>simp at hi;subst hi;exact⟨v,rfl,hx⟩
   |succ i=>simp at hi;obtain⟨w,h1,h2⟩:=ih h hi;exact⟨w,by simpa using h1,h2⟩
theorem aW.append {C xs ys}:∀ {vs ws:List Value},aW C xs vs→aW C ys ws→aW C (xs++ys) (vs++ws):=by
 induction xs with
 |nil=>intro vs ws h k;cases h;exact k
 |cons x xs ih=>intro vs ws h k;cases h with|cons _ _ v vs hx h=>exact .cons _ _ _ _ hx (ih h k)
theorem aW.take {C xs}:∀ {vs:List Value} (n:Nat),aW C xs vs→aW C (xs.take n) (vs.take n):=by
 induction xs with
 |nil=>intro vs n h;cases h;simpa using aH.nil
 |cons x xs ih=>intro vs n h;cases h with|cons _ _ v vs hx h=>cases n with
  |zero=>simpa using aH.nil
  |succ n=>exact .cons _ _ _ _ hx (ih n h)
theorem aW.drop {C xs}:∀ {vs:List Value} (n:Nat),aW C xs vs→aW C (xs.drop n) (vs.drop n):=by
 induction xs with
 |nil=>intro vs n h;cases h;simpa using aH.nil
 |cons x xs ih=>intro vs n h;cases h with|cons _ _ v vs hx h=>cases n with
  |zero=>exact .cons _ _ _ _ hx h
  |succ n=>simpa using ih n h
theorem cy.get {C r xs}:∀ {o:Nat},cy C r xs o→∀ {i:Nat} {x:AVal},xs[i]?=I x→∃v,C.K r (o+i)=I v∧bT C x v:=by
 induction xs with
 |nil=>intro o _ i x h;simp at h
 |cons y ys ih=>
  intro o h i x hi
  cases h with
  |dH _ _ _ _ v hv hx h=>
   cases i with
   |zero=>simp at hi;subst hi;exact⟨v,hv,hx⟩
   |succ i=>simp at hi;obtain⟨w,h1,h2⟩:=ih h hi;exact⟨w,by rw[show o+(i+1)=o+1+i from by omega];exact h1,h2⟩
theorem cy.drop {C r xs}:∀ {o:Nat} (n:Nat),cy C r xs o→cy C r (xs.drop n) (o+n):=by
 induction xs with
 |nil=>intro o n h;simpa using aH.ie r (o+n)
 |cons x xs ih=>intro o n h;cases h with|dH _ _ _ _ v hv hx h=>cases n with
  |zero=>exact .dH _ _ _ _ _ hv hx h
  |succ n=>have:=ih n h;rw[show o+(n+1)=o+1+n from by omega];simpa using this
theorem cy.take {C r xs}:∀ {o:Nat} (n:Nat),cy C r xs o→cy C r (xs.take n) o:=by
 induction xs with
 |nil=>intro o n h;simpa using aH.ie r o
 |cons x xs ih=>intro o n h;cases h with|dH _ _ _ _ v hv hx h=>cases n with
  |zero=>simpa using aH.ie r o
  |succ n=>exact .dH _ _ _ _ _ hv hx (ih n h)
theorem cy.append {C r xs ys}:∀ {o:Nat},cy C r xs o→cy C r ys (o+xs.length)→cy C r (xs++ys) o:=by
 induction xs with
 |nil=>intro o _ k;simpa using k
 |cons x xs ih=>intro o h k;cases h with|dH _ _ _ _ v hv hx h=>exact .dH _ _ _ _ _ hv hx (ih h (by simpa[G3,Nat.add_comm 1]using k))
theorem bA.get {C r sz xs}:∀ {o:Nat},bA C r sz xs o→∀ {i:Nat} {x:AVal},xs[i]?=I x→cy C r x.flat (o+i*sz):=by
 induction xs with
 |nil=>intro o _ i x h;simp at h
 |cons y ys ih=>
  intro o h i x hi
  cases h with
  |dA _ _ _ _ _ hs hx h=>
   cases i with
   |zero=>simp at hi;subst hi;simpa using hx
   |succ i=>simp at hi;have:=ih h hi;rw[show o+(i+1)*sz=o+sz+i*sz from by rw[Gj];omega];exact this
theorem bA.drop {C r sz xs}:∀ {o:Nat} (n:Nat),bA C r sz xs o→bA C r sz (xs.drop n) (o+n*sz):=by
 induction xs with
 |nil=>intro o n h;simpa using aH.fL r sz (o+n*sz)
 |cons x xs ih=>intro o n h;cases h with|dA _ _ _ _ _ hs hx h=>cases n with
  |zero=>simpa using aH.dA _ _ _ _ _ hs hx h
  |succ n=>have:=ih n h;rw[show o+(n+1)*sz=o+sz+n*sz from by rw[Gj];omega];simpa using this
theorem bA.take {C r sz xs}:∀ {o:Nat} (n:Nat),bA C r sz xs o→bA C r sz (xs.take n) o:=by
 induction xs with
 |nil=>intro o n h;simpa using aH.fL r sz o
 |cons x xs ih=>intro o n h;cases h with|dA _ _ _ _ _ hs hx h=>cases n with
  |zero=>simpa using aH.fL r sz o
  |succ n=>exact .dA _ _ _ _ _ hs hx (ih n h)
theorem bA.append {C r sz xs ys}:∀ {o:Nat},bA C r sz xs o→bA C r sz ys (o+xs.length*sz)→bA C r sz (xs++ys) o:=by
 induction xs with
 |nil=>intro o _ k;simpa using k
 |cons x xs ih=>
  intro o h k
  cases h with
  |dA _ _ _ _ _ hs hx h=>
   refine .dA _ _ _ _ _ hs hx (ih h ?_)
   have e:o+sz+xs.length*sz=o+(x::xs).length*sz:=by simp[Gj];omega
   rw[e];exact k
theorem bA.sized {C r sz xs}:∀ {o:Nat},bA C r sz xs o→∀x∈xs,x.flat.length=sz:=by
 induction xs with
 |nil=>intro o _ x hx;cases hx
 |cons y ys ih=>
  intro o h x hx
  cases h with
  |dA _ _ _ _ _ hs _ h=>
   rcases G6.1 hx with rfl|hx
   ·exact hs
   ·exact ih h x hx
theorem bA.cells {C r sz xs}:∀ {o:Nat},bA C r sz xs o→cy C r (xs.flatMap AVal.flat) o:=by
 induction xs with
 |nil=>intro o _;exact .ie _ _
 |cons x xs ih=>
  intro o h
  cases h with
  |dA _ _ _ _ _ hs hx h=>
   simp only[Gs]
   refine cy.append hx ?_
   rw[hs]
   exact ih h
theorem bA.eU {C r sz xs}:∀ {o:Nat},cy C r (xs.flatMap AVal.flat) o→(∀x∈xs,x.flat.length=sz)→bA C r sz xs o:=by
 induction xs with
 |nil=>intro o _ _;exact .fL _ _ _
 |cons x xs ih=>
  intro o h hl
  simp only[Gs]at h
  have h1:=cy.take (x.flat.length) h
  have h2:=cy.drop (x.flat.length) h
  rw[List.take_left' rfl]at h1
  rw[List.drop_left' rfl,hl x (by simp)]at h2
  exact .dA _ _ _ _ _ (hl x (by simp)) h1 (ih h2 fun y hy=>hl y (by simp[hy]))
theorem cy.vals {C r xs}:∀ {o:Nat},cy C r xs o→∃vs,aW C xs vs∧∀j v,vs[j]?=I v→C.K r (o+j)=I v:=by
 induction xs with
 |nil=>intro o _;exact⟨[],.nil,by simp⟩
 |cons x xs ih=>
  intro o h
  cases h with
  |dH _ _ _ _ v hv hx h=>
   obtain⟨vs,h1,h2⟩:=ih h
   refine⟨v::vs,.cons _ _ _ _ hx h1,?_⟩
   intro j u hj
   cases j with
   |zero=>simp at hj;subst hj;exact hv
   |succ j=>simp at hj;rw[show o+(j+1)=o+1+j from by omega];exact h2 j u hj
inductive Loc where
 |slot (s:Nat)
 |cell (b j:Nat)
 deriving DecidableEq
def eV (sz:Nat)(xs:List AVal)(cells:Array Value)(elem:TypeId)(len cap:Nat):Prop:=
 ∀(e:Nat) (l:List UInt8),sz=0→xs=[.int .u64 (e:Int),.str l]→elem=e∧len=l.length∧len≤cap∧cap≤maxLen∧cells.size=cap∧cells.toList.take len=l.map fun b=>Value.int .u8 b.toNat
theorem eV.pos {sz xs cells}{elem:TypeId}{len cap}(h:0<sz):eV sz xs cells elem len cap:=fun _ _ h0=>by omega
theorem eV.sized {sz xs cells}{elem:TypeId}{len cap}(h:∀x∈xs,x.flat.length=sz):eV sz xs cells elem len cap:=fun e l h0 hx=>by
 have:=h (.str l) (by rw[hx];simp)
 simp[AVal.flat,h0]at this
def aO (C:aK)(ω:Nat→Option Loc)(w:World)(B:Nat)(ℓ:Loc):AVal→Value→Prop
 | .list _ sz xs,.slice (I a) len cap=>ω a.block=I ℓ∧(B≤a.block∨C.W a.block)∧(∀b,C.β b≠I a.block)∧a.spot=En∧a.off=0 ∧
   (∃cells elem,w.heap[a.block]?=I (.cells cells elem (0,0))∧a.off+cap*sz≤cells.size∧eV sz xs cells elem len cap)∧∀o,a.off+len*sz≤o→C.K a.block o=En
 | .c8 n,.pointer (I a)=>ω a.block=I ℓ∧(B≤a.block∨C.W a.block)∧(∀b,C.β b≠I a.block)∧a.spot=En∧a.off=0 ∧
   (∃cells elem,w.heap[a.block]?=I (.cells cells elem (0,0))∧a.off+n*1≤cells.size∧eV 0 [] cells elem 0 0)∧∀o,a.off+0*0≤o→C.K a.block o=En
 |_,_=>True
structure Ext (w w':World):Prop where
 size:w.heap.size≤w'.heap.size
 same:∀r,r<w.heap.size→w'.heap[r]?=w.heap[r]?
 os:w'.os=w.os
 output:w'.output=w.output
theorem Ext.refl (w:World):Ext w w:=⟨Gl _,fun _ _=>rfl,rfl,rfl⟩
theorem Ext.get {w w':World}(h:Ext w w'){r:Nat}{o}(hr:w.heap[r]?=I o):w'.heap[r]?=I o:=by
 rw[h.same r (Gi.1 hr).1];exact hr
theorem Ext.trans {a b c}(h:Ext a b)(k:Ext b c):Ext a c where
 size:=Nat.le_trans h.size k.size
 same r hr:=by rw[k.same r (Gp hr h.size),h.same r hr]
 os:=k.os.trans h.os
 output:=k.output.trans h.output
theorem vU (w:World)(o:Obj)(r:Nat):(w.alloc o).heap[r]?=if r=w.heap.size then I o else w.heap[r]?:=by
 show(w.heap.push o)[r]?=_
 rw[Array.getElem?_push]
theorem Ext.alloc (w:World)(o:Obj)(ho:∀c t fr,o=.cells c t fr→fr=(0,0)):Ext w (w.alloc o) where
 size:=by rw[World.size_alloc];omega
 same r hr:=by rw[vU,if_neg (by omega)]
 os:=rfl
 output:=rfl
theorem Ext.drew (w:World):Ext w w.drew:=⟨Gl _,fun _ _=>rfl,rfl,rfl⟩
theorem Ext.cell {w w':World}(h:Ext w w'){a:Addr}{v}(hc:w.cell? a=I v):w'.cell? a=I v:=by
 unfold World.cell? at *
 cases hr:w.heap[a.block]? with
 |none=>rw[hr]at hc;cases hc
 |some o=>rw[h.get hr];rw[hr]at hc;exact hc
theorem aO.ext {C:aK}{ω:Nat→Option Loc}{w w' B ℓ x v}(h:Ext w w')(ho:aO C ω w B ℓ x v):aO C ω w' B ℓ x v:=by
 unfold aO at *
 split at ho
 ·obtain⟨h1,h2,h3,h4,h8,⟨cells,elem,h5,h6⟩,h7⟩:=ho
  exact⟨h1,h2,h3,h4,h8,⟨cells,elem,h.get h5,h6⟩,h7⟩
 ·obtain⟨h1,h2,h3,h4,h8,⟨cells,elem,h5,h6⟩,h7⟩:=ho
  exact⟨h1,h2,h3,h4,h8,⟨cells,elem,h.get h5,h6⟩,h7⟩
 ·trivial
inductive cI (C:aK):List (AVal×AVal)→List MapEntry→Prop where
 |nil:cI C [] []
 |cons (k v:AVal) (es:List (AVal×AVal)) (m:MapEntry) (ms:List MapEntry) (hk:bT C k m.key) (hv:bT C v m.val) (h:cI C es ms):cI C ((k,v)::es) (m::ms)
theorem cI.imp {C C'}(h:(∀r o v,C.K r o=some v→C'.K r o=some v)∧(∀b r,C.β b=some r→C'.β b=some r)){es ms}(hr:cI C es ms)(hT:∀q,C.T q→C'.T q:=by first|exact fun _ h=>h|exact fun _ h=>False.elim h):cI C' es ms:=by
 induction hr with
 |nil=>exact .nil
 |cons k v es m ms hk hv _ ih=>exact .cons k v es m ms (aH.imp h hk hT) (aH.imp h hv hT) ih
theorem cI.mono {C C'}(h:C.le C'){es ms}(hr:cI C es ms):cI C' es ms:=hr.imp ⟨h.k,h.b⟩ h.t
def bw (C:aK)(e:Env)(tmps:Array Value):Prop:=∀s x,ji s e=I x→∃v,tmps[s]?=I v∧bT C x.1 v
def Fk (P:Program)(nt:Nat)(c:Code)(a:aw):Prop:=∃h,gU P h nt c=I a
structure cz (P:Program)(C:aK)(l:jl1)(lp:Loop):Prop where
 assign:Fk P lp.tmps.size lp.assign l.assign
 body:Fk P lp.tmps.size lp.body l.body
 params:lp.params.toList=l.params
 fits:∀t∈l.params,t<lp.tmps.size
 nr:zu l.assign=E9∧zu l.body=E9
 env:bw C l.env lp.tmps
 state:lp.state=match l.pending with
  |none=>.ready
  |some .normal=>.busy
  |some _=>.done
 pending:lp.pending=match l.pending with
  |none=>En
  |some .normal=>En
  |some (.exit id)=>I (.exit id)
  |some .ret=>I .ret
def ew (K:Nat→Nat→Option Value)(w:World)(q sz:Nat)(xs:List AVal)(cap:Nat):Prop:=
 ∃cells t vs,w.heap[q]?=I (.cells cells t (0,0))∧xs.length≤cap∧cap*sz≤cells.size∧(∀x∈xs,x.flat.length=sz)∧aW (.b3 K) (xs.flatMap AVal.flat) vs ∧
  (∀(j:Nat) v,vs[j]?=I v→cells[j]?=I v)∧∀v∈vs,v.oneCell'=E9
theorem ew.imp {K K' w w' q sz cap xs}(hK:∀r o v,K r o=I v→K' r o=I v)(hw:w'.heap[q]?=w.heap[q]?)(h:ew K w q sz xs cap):ew K' w' q sz xs cap:=by
 obtain⟨cells,t,vs,h1,h2,h3,h4,h5,h6⟩:=h
 exact⟨cells,t,vs,hw.trans h1,h2,h3,h4,aH.imp (C:=.b3 K) (C':=.b3 K') ⟨hK,fun _ _ h=>h⟩ h5,h6⟩
abbrev xN (C:aK)(ω:Nat→Option Loc)(w:World)(B b q n cap:Nat):Prop:=aO C ω w B (.cell b 0) (.list Es 0 []) (.slice (I ⟨q,0,En⟩) n cap)
def ej (C:aK)(ω:Nat→Option Loc)(w:World)(B b r sz bN:Nat)(xs:List AVal):Prop:=
 ∃q cap,C.T (r,bN,q,cap)∧(∀x,C.T x→x.1=r→x.2.1≤bN∧(x.2.1=bN→x.2.2=(q,cap)))∧ew C.K w q sz xs cap∧(q=r∨xN C ω w B b q xs.length cap)∧∃cs t,w.heap[r]?=I (.cells cs t (0,0))
theorem ej.imp {C C' ω ω' w w' B B' b r sz bN xs}(hK:∀r o v,C.K r o=I v→C'.K r o=I v)(hT:∀q,C.T q→C'.T q)(Fl:∀x,C'.T x→x.1=r→C.T x)(hw:w'.heap[r]?=w.heap[r]?)
  (hq:∀q n cap,xN C ω w B b q n cap→w'.heap[q]?=w.heap[q]?∧xN C' ω' w' B' b q n cap) (h:ej C ω w B b r sz bN xs):ej C' ω' w' B' b r sz bN xs:=by
 obtain⟨q,cap,h1,h2,h3,h4,cs,t,h5⟩:=h
 refine⟨q,cap,hT _ h1,fun x hx hr=>h2 x (Fl x hx hr) hr,?_,?_,cs,t,hw.trans h5⟩
 ·rcases h4 with rfl|h4
  ·exact h3.imp hK hw
  ·exact h3.imp hK (hq _ _ _ h4).1
 ·exact h4.imp id fun h=>(hq _ _ _ h).2
def bK (P:Program)(C:aK)(ω:Nat→Option Loc)(w:World)(B b r:Nat):bg→Prop
 | .hole=>False
 | .cells cs=>∃vs elem,w.heap[r]?=I (.cells vs elem (0,0))∧cs.length≤vs.size ∧
   ∀j c,cs[j]?=I c→∃v,vs[j]?=I v∧v.oneCell'=E9∧bT C c.1 v∧(c.2=E9→aO C ω w B (.cell b j) c.1 v)
 | .map es=>∃cj clock,w.heap[r]?=I (.map cj clock)∧cI C es cj.toList
 | .iter s pos=>w.heap[r]?=I (.stringIter ⟨⟨s⟩⟩ pos)
 | .loop l=>∃lp,w.heap[r]?=I (.loop lp)∧cz P C l lp
 | .fU t e l=>∃p v,w.heap[r]?=I (.cells #[p,v] t (0,0))∧(p=.pointer En∨p=.pointer (I ⟨r,0,En⟩))∧((v=.slice En 0 0∧l=[])∨∃a len cap,v=.slice (I a) len cap)∧aO C ω w B (.cell b 1) (.list Es 0 [.int .u64 (e:Int),.str l]) v
 | .dead=>∃cs t,w.heap[r]?=I (.cells cs t (0,0))
 | .vec sz bN xs=>ej C ω w B b r sz bN xs
def n6 : String := "internal/strconv.uint64pow10"
def xO : String := "internal/bytealg.MaxLen"
def j6e (P:Program)(w:World)(g:Nat):Prop:=
 (P.globalNamed n6=I g→Lib.TabIs P w n6 .u64 Lib.pow10Tab)∧(P.globalNamed xO=I g→∃m,w.cell? ⟨g,0,En⟩=I (.int .i64 m)) ∧
 (∀x∈Dk,P.globalNamed x.1=I g→∀j n,x.2[j]?=I n→w.cell? ⟨g,j,En⟩=I (.int .i64 n))
def Qo (P:Program)(g:Nat):Prop:=P.globalNamed n6=I g∨P.globalNamed xO=I g∨∃x∈Dk,P.globalNamed x.1=I g
def Tabs (P:Program)(w:World):Prop:=∀g,Qo P g→g<w.heap.size∧j6e P w g
theorem Tabs.same {P w w'}(h:Tabs P w)(hs:w.heap.size≤w'.heap.size)(hg:∀g,Qo P g→w'.heap[g]?=w.heap[g]?):Tabs P w':=by
 intro g hn
 obtain⟨h1,h2,h3,h5⟩:=h g hn
 refine⟨Gp h1 hs,fun Dq=>?_,fun Dq=>?_,fun x hx Dq j n hj=>?_⟩
 ·have h2:=h2 Dq
  unfold Lib.TabIs World.var? at *
  rw[Dq]at h2 ⊢
  simp only[Option.bind_some]at h2 ⊢
  rw[hg g hn]
  exact h2
 ·obtain⟨m,h4⟩:=h3 Dq
  refine⟨m,?_⟩
  unfold World.cell? at *
  simp only[]at h4 ⊢
  rw[hg g hn]
  exact h4
 ·have h4:=h5 x hx Dq j n hj
  unfold World.cell? at *
  simp only[]at h4 ⊢
  rw[hg g hn]
  exact h4
theorem Tabs.none {P w}(h:P.globalNamed n6=En∧P.globalNamed xO=En∧∀x∈Dk,P.globalNamed x.1=En):Tabs P w:=fun g hn=>by
 rcases hn with hn|hn|⟨x,hx,hn⟩
 ·rw[h.1]at hn;cases hn
 ·rw[h.2.1]at hn;cases hn
 ·rw[h.2.2 x hx]at hn;cases hn
def zcf (P:Program)(w0:World)(C0:aK):Prop:=Tabs P w0∧∀g,Qo P g→(∀b,C0.β b≠I g)∧¬C0.W g
structure az (P:Program)(C:aK)(ω:Nat→Option Loc)(w0:World)(C0:aK)(h:qh)(w:World):Prop where
 base:zcf P w0 C0
 know:∀r o v,C.K r o=I v→w.cell? ⟨r,o,En⟩=I v
 dq:∀r o v,C.K r o=I v→v.oneCell'=E9
 apart:∀b r o,C.β b=I r→C.K r o=En
 inj:∀b b' r,C.β b=I r→C.β b'=I r→b=b'
 lt:∀b r,C.β b=I r→r<w.heap.size∧b<h.length
 size:w0.heap.size≤w.heap.size
 frame:∀r,r<w0.heap.size→(∀b,C0.β b≠I r)→¬C0.W r→w.heap[r]?=w0.heap[r]?
 fo:∀r,C.D r→w.heap[r]?=I (.deferred (I []))
 os:w.os=w0.os
 output:w.output=w0.output
 fresh:∀b r,C.β b=I r→C0.β b=I r∨w0.heap.size≤r∨C0.W r
 grown:C0.le C
 old:∀r o,r<w0.heap.size→¬C0.W r→C.K r o=C0.K r o
 box:∀b x r,h[b]?=I x→C.β b=I r→bK P C ω w w0.heap.size b r x
 iF:∀q,C.T q→q.1<w.heap.size
def ak (C:aK)(ω:Nat→Option Loc)(w:World)(B:Nat)(e:Env)(tmps:Array Value):Prop:=
 ∀s x,ji s e=I x→∃v,tmps[s]?=I v∧bT C x.1 v∧(x.2=E9→aO C ω w B (.slot s) x.1 v)
theorem ak.ct {C ω w B e tmps}(h:ak C ω w B e tmps):bw C e tmps:=
 fun s x hx=>let ⟨v,h1,h2,_⟩:=h s x hx; ⟨v,h1,h2⟩
theorem bK.ext {P:Program}{C:aK}{ω w w' B b r x}(h:Ext w w')(hb:bK P C ω w B b r x):bK P C ω w' B b r x:=by
 cases x with
 |hole=>exact hb
 |cells cs=>
  obtain⟨vs,elem,h1,h2,h3⟩:=hb
  exact⟨vs,elem,h.get h1,h2,fun j c hc=>let ⟨v,a,q,b,d⟩:=h3 j c hc; ⟨v,a,q,b,fun e=>(d e).ext h⟩⟩
 |map es=>obtain⟨cj,clock,h1,h2⟩:=hb;exact⟨cj,clock,h.get h1,h2⟩
 |iter s pos=>exact h.get hb
 |loop l=>obtain⟨lp,h1,h2⟩:=hb;exact⟨lp,h.get h1,h2⟩
 |fU t e l=>obtain⟨p,v,h1,h2,h3,h4⟩:=hb;exact⟨p,v,h.get h1,h2,h3,h4.ext h⟩
 |dead=>obtain⟨cs,t,h1⟩:=hb;exact⟨cs,t,h.get h1⟩
 |vec sz bN xs=>
  obtain⟨q,cap,h1,h2,h3,h4,cs,t,h5⟩:=hb
  have hex:∀ {k:Nat} {o:Obj},w.heap[k]?=I o→w'.heap[k]?=w.heap[k]?:=fun hk=>by rw[h.get hk,hk]
  refine⟨q,cap,h1,h2,h3.imp (fun _ _ _ h=>h) ?_,h4.imp id fun h4=>h4.ext h,cs,t,h.get h5⟩
  obtain⟨cells,t',_,g1,_⟩:=h3
  exact hex g1
theorem az.tabs {P C ω w0 w C0 hp}(m:az P C ω w0 C0 hp w):Tabs P w:=
 m.base.1.same m.size fun g hg=>m.frame g (m.base.1 g hg).1 (m.base.2 g hg).1 (m.base.2 g hg).2
theorem az.ext {P:Program}{C:aK}{ω w0 w w' C0 hp}(h:Ext w w')(m:az P C ω w0 C0 hp w):az P C ω w0 C0 hp w' where
 base:=m.base
 know r o v hk:=h.cell (m.know r o v hk)
 dq:=m.dq
 apart:=m.apart
 inj:=m.inj
 lt b r hb:=⟨Gp (m.lt b r hb).1 h.size,(m.lt b r hb).2⟩
 size:=Nat.le_trans m.size h.size
 frame r hr hn hw:=by rw[h.same r (Gp hr m.size)];exact m.frame r hr hn hw
 fo r hr:=h.get (m.fo r hr)
 os:=h.os.trans m.os
 output:=h.output.trans m.output
 fresh:=m.fresh
 grown:=m.grown
 old:=m.old
 box b x r hx hb:=(m.box b x r hx hb).ext h
 iF q hq:=Gp (m.iF q hq) h.size
theorem ak.ext {C ω w w' B e tmps}(h:Ext w w')(he:ak C ω w B e tmps):ak C ω w' B e tmps:=
 fun s x hx=>let ⟨v,a,b,d⟩:=he s x hx; ⟨v,a,b,fun e=>(d e).ext h⟩
def aK.put (C:aK)(r off:Nat)(vs:List Value):aK:={ C with K:=fun b o=>if b=r∧off≤o∧o<off+vs.length then vs[o-off]? else C.K b o }
theorem aK.gC {C:aK}{r off}(vs:List Value)(h:∀o,off≤o→C.K r o=En):C.le (C.put r off vs):=
 ⟨fun b o v hk=>(by
  simp only[aK.put]
  rw[if_neg]
  ·exact hk
  ·rintro ⟨rfl,h1,_⟩;rw[h o h1]at hk;cases hk),fun _ _ h=>h,rfl,fun _ h=>h,fun _ h=>h⟩
theorem aK.Ai {C:aK}{r off vs j v}(h:vs[j]?=I v):(C.put r off vs).K r (off+j)=I v:=by
 have hj:j<vs.length:=(Gv.1 h).1
 show(if r=r∧off≤off+j∧off+j<off+vs.length then vs[off+j-off]? else C.K r (off+j))=I v
 rw[if_pos ⟨rfl,by omega,by omega⟩,show off+j-off=j from by omega,h]
theorem cy.iG {C r xs}:∀ {vs:List Value} {o:Nat},aW C xs vs→(∀j v,vs[j]?=I v→C.K r (o+j)=I v)→cy C r xs o:=by
 induction xs with
 |nil=>intro vs o _ _;exact .ie _ _
 |cons x xs ih=>
  intro vs o h hk
  cases h with
  |cons _ _ v vs hx h=>
   refine .dH _ _ _ _ v (by simpa using hk 0 v rfl) hx (ih h ?_)
   intro j u hj
   rw[show o+1+j=o+(j+1)from by omega]
   exact hk (j+1) u (by simpa using hj)
theorem aK.fi {C:aK}{r off xs vs}(hn:∀o,off≤o→C.K r o=En)(h:aW C xs vs):cy (C.put r off vs) r xs off:=
 cy.iG (aH.mono (aK.gC vs hn) h) fun _ _ hj=>aK.Ai hj
theorem az.jV {P C ω w0 w C0 hp}(m:az P C ω w0 C0 hp w)(r:Nat)(hr:w.heap.size≤r)(o:Nat):C.K r o=En:=by
 cases h:C.K r o with
 |none=>rfl
 |some v=>
  have:=m.know r o v h
  unfold World.cell? at this
  rw[show w.heap[(⟨r,o,En⟩:Addr).block]?=En from Array.getElem?_eq_none hr]at this
  cases this
theorem aO.put {C ω w B r off ℓ x v}(vs:List Value)(hr:w.heap.size≤r∨ω r≠I ℓ)(ho:aO C ω w B ℓ x v):aO (C.put r off vs) ω w B ℓ x v:=by
 unfold aO at *
 split at ho
 ·rename_i a len cap
  obtain⟨h1,h2,h3,h4,h8,⟨cells,elem,h5,h6⟩,h7⟩:=ho
  have bz:a.block<w.heap.size:=(Gi.1 h5).1
  refine⟨h1,h2,h3,h4,h8,⟨cells,elem,h5,h6⟩,fun o ho=>?_⟩
  simp only[aK.put]
  rw[if_neg]
  ·exact h7 o ho
  ·rintro ⟨rfl,_⟩
   rcases hr with hr|hr
   ·omega
   ·exact hr h1
 ·rename_i a
  obtain⟨h1,h2,h3,h4,h8,⟨cells,elem,h5,h6⟩,h7⟩:=ho
  have bz:a.block<w.heap.size:=(Gi.1 h5).1
  refine⟨h1,h2,h3,h4,h8,⟨cells,elem,h5,h6⟩,fun o ho=>?_⟩
  simp only[aK.put]
  rw[if_neg]
  ·exact h7 o ho
  ·rintro ⟨rfl,_⟩
   rcases hr with hr|hr
   ·omega
   ·exact hr h1
 ·trivial
theorem cz.imp {P C C'}(h:(∀r o v,C.K r o=some v→C'.K r o=some v)∧(∀b r,C.β b=some r→C'.β b=some r)){l lp}(k:cz P C l lp)(hT:∀q,C.T q→C'.T q:=by first|exact fun _ h=>h|exact fun _ h=>False.elim h):cz P C' l lp:=
 { k with env:=fun s x hx=>let ⟨v,a,b⟩:=k.env s x hx; ⟨v,a,aH.imp h b hT⟩ }
theorem cz.mono {P C C'}(h:C.le C'){l lp}(k:cz P C l lp):cz P C' l lp:=k.imp ⟨h.k,h.b⟩ h.t
theorem bK.imp {P C C' ω ω' w w' B B' b r x}(h:(∀r o v,C.K r o=I v→C'.K r o=I v)∧(∀b r,C.β b=I r→C'.β b=I r))(hw:w'.heap[r]?=w.heap[r]?)
  (ho:∀j y v,aO C ω w B (.cell b j) y v→aO C' ω' w' B' (.cell b j) y v) (hb:bK P C ω w B b r x) (hT:∀q,C.T q→C'.T q:=by exact fun _ h=>h) (Fl:∀x,C'.T x→x.1=r→C.T x:=by exact fun _ h _=>h)
  (hq:∀q n cap,xN C ω w B b q n cap→w'.heap[q]?=w.heap[q]?:=by exact fun _ _ _ _=>rfl):bK P C' ω' w' B' b r x:=by
 cases x with
 |hole=>exact hb
 |cells cs=>
  obtain⟨vs,elem,h1,h2,h3⟩:=hb
  exact⟨vs,elem,hw.trans h1,h2,fun j c hc=>let ⟨v,a,q,b,d⟩:=h3 j c hc; ⟨v,a,q,aH.imp h b hT,fun e=>ho _ _ _ (d e)⟩⟩
 |map es=>obtain⟨cj,clock,h1,h2⟩:=hb;exact⟨cj,clock,hw.trans h1,h2.imp h hT⟩
 |iter s pos=>exact hw.trans hb
 |loop l=>obtain⟨lp,h1,h2⟩:=hb;exact⟨lp,hw.trans h1,h2.imp h hT⟩
 |fU t e l=>obtain⟨p,v,h1,h2,h3,h4⟩:=hb;exact⟨p,v,hw.trans h1,h2,h3,ho _ _ _ h4⟩
 |dead=>obtain⟨cs,t,h1⟩:=hb;exact⟨cs,t,hw.trans h1⟩
 |vec sz bN xs=>exact ej.imp h.1 hT Fl hw (fun q n cap k=>⟨hq q n cap k,ho _ _ _ k⟩) hb
theorem bK.mono {P C C' ω ω' w B b r x}(h:C.le C')
  (ho:∀j y v,aO C ω w B (.cell b j) y v→aO C' ω' w B (.cell b j) y v) (hb:bK P C ω w B b r x) (Fl:∀x,C'.T x→x.1=r→C.T x:=by exact fun _ h _=>h):bK P C' ω' w B b r x:=hb.imp ⟨h.k,h.b⟩ rfl ho h.t Fl
theorem az.newRow {P:Program}{C ω w0 w C0 hp}(m:az P C ω w0 C0 hp w)(cells:Array Value)(t:TypeId)(vs:List Value)
  (hv:∀(j:Nat) v,vs[j]?=I v→cells[j]?=I v) (h1:∀v∈vs,v.oneCell'=E9):
  az P (C.put w.heap.size 0 vs) ω w0 C0 hp (w.alloc (.cells cells t)):=by
 have hx:Ext w (w.alloc (.cells cells t)):=Ext.alloc w _ (fun c t fr h=>by cases h;rfl)
 have m':=m.ext hx
 have hn:∀o,C.K w.heap.size o=En:=m.jV _ (Gl _)
 have hle:=aK.gC (C:=C) (off:=0) vs (fun o _=>hn o)
 refine { m' with know:=?_,dq:=?_,apart:=?_,grown:=aK.le_trans m.grown hle,old:=?_,box:=?_ }
 ·intro r o v hk
  simp only[aK.put]at hk
  split at hk
  ·rename_i hc
   obtain⟨rfl,_,_⟩:=hc
   simp only[World.cell?]
   rw[vU,if_pos rfl]
   simpa using hv _ _ hk
  ·exact m'.know r o v hk
 ·intro r o v hk
  simp only[aK.put]at hk
  split at hk
  ·exact h1 v (List.mem_of_getElem? hk)
  ·exact m.dq r o v hk
 ·intro b r o hb
  have:=(m.lt b r hb).1
  simp only[aK.put]
  rw[if_neg (by omega)]
  exact m.apart b r o hb
 ·intro r o hr hw
  have:=m.size
  simp only[aK.put]
  rw[if_neg (by omega)]
  exact m.old r o hr hw
 ·intro b x r fj hb
  exact((m.box b x r fj hb).mono (ω':=ω) hle fun j y v ho=>ho.put vs (.inl (Gl _))).ext hx
theorem ak.put {C:aK}{ω w B e tmps r off}(vs:List Value)(hr:w.heap.size≤r∨∀s,ji s e≠En→(ji s e).any (·.2)=E9→ω r≠I (.slot s))(hn:∀o,off≤o→C.K r o=En)(he:ak C ω w B e tmps):ak (C.put r off vs) ω w B e tmps:=
 fun s x hx=>let ⟨v,a,b,d⟩:=he s x hx; ⟨v,a,aH.mono (aK.gC vs hn) b,fun e=>(d e).put vs (hr.imp id fun h=>h s (by rw[hx];simp) (by rw[hx];exact e))⟩
def cR (ω:Nat→Option Loc)(r:Nat)(ℓ:Loc):Nat→Option Loc:=fun b=>if b=r then I ℓ else ω b
theorem aO.other {C ω w B r ℓ ℓ' x v}(hr:ω r≠I ℓ∨ℓ=ℓ')(ho:aO C ω w B ℓ x v):aO C (Abs.cR ω r ℓ') w B ℓ x v:=by
 unfold aO at *
 split at ho
 ·rename_i a len cap
  obtain⟨h1,h2⟩:=ho
  refine⟨?_,h2⟩
  simp only[Abs.cR]
  by_cases hb:a.block=r
  ·rw[if_pos hb]
   rcases hr with hr|hr
   ·exact absurd (hb▸h1) hr
   ·rw[hr]
  ·rw[if_neg hb];exact h1
 ·rename_i a
  obtain⟨h1,h2⟩:=ho
  refine⟨?_,h2⟩
  simp only[Abs.cR]
  by_cases hb:a.block=r
  ·rw[if_pos hb]
   rcases hr with hr|hr
   ·exact absurd (hb▸h1) hr
   ·rw[hr]
  ·rw[if_neg hb];exact h1
 ·trivial
theorem aO.fresh {C ω w B r ℓ ℓ' x v}(hr:w.heap.size≤r)(ho:aO C ω w B ℓ x v):aO C (Abs.cR ω r ℓ') w B ℓ x v:=by
 unfold aO at *
 split at ho
 ·rename_i a len cap
  obtain⟨h1,h2,h3,h4,h8,⟨cells,elem,h5,h6⟩,h7⟩:=ho
  have bz:a.block<w.heap.size:=(Gi.1 h5).1
  refine⟨?_,h2,h3,h4,h8,⟨cells,elem,h5,h6⟩,h7⟩
  simp only[Abs.cR]
  rw[if_neg (by omega)]
  exact h1
 ·rename_i a
  obtain⟨h1,h2,h3,h4,h8,⟨cells,elem,h5,h6⟩,h7⟩:=ho
  have bz:a.block<w.heap.size:=(Gi.1 h5).1
  refine⟨?_,h2,h3,h4,h8,⟨cells,elem,h5,h6⟩,h7⟩
  simp only[Abs.cR]
  rw[if_neg (by omega)]
  exact h1
 ·trivial
theorem ak.fresh {C ω w B r ℓ e tmps}(hr:w.heap.size≤r)(he:ak C ω w B e tmps):ak C (Abs.cR ω r ℓ) w B e tmps:=
 fun s x hx=>let ⟨v,a,b,d⟩:=he s x hx; ⟨v,a,b,fun e=>(d e).fresh hr⟩
theorem az.kI {P C ω w0 w C0 hp}(m:az P C ω w0 C0 hp w)(r:Nat)(ℓ:Loc)(hr:w.heap.size≤r):az P C (Abs.cR ω r ℓ) w0 C0 hp w:=
 { m with box:=fun b x r' hx hb=>(m.box b x r' hx hb).mono (aK.le_refl C) fun _ _ _ ho=>ho.fresh hr }
theorem az.cR {P C ω w0 w C0 hp}(m:az P C ω w0 C0 hp w)(r:Nat)(ℓ:Loc)(hr:∀b j,ω r≠I (.cell b j)):az P C (Abs.cR ω r ℓ) w0 C0 hp w:=
 { m with box:=fun b x r' hx hb=>(m.box b x r' hx hb).mono (aK.le_refl C) fun j _ _ ho=>ho.other (.inl (hr b j)) }
def zi (P:Program)(C0:aK)(w0:World)(C:aK)(tmps:Array Value)(d:Loc)(env:Env)(res:bm)(v:Value)(w':World):Prop:=
 ∃C' ω',C.le C'∧az P C' ω' w0 C0 res.heap w'∧ak C' ω' w' w0.heap.size (z8 env res.strip) tmps∧bT C' res.v v∧(res.own=E9→aO C' ω' w' w0.heap.size d res.v v)
theorem qwg (C:aK){v x}(h:Di v=I x):bT C x v:=by
 unfold Di at h
 split at h<;>first|cases h|skip
 ·exact .bool _
 ·exact .int _ _
 ·exact .str _
 ·exact .jI _
 ·exact .b9
 ·exact .b8
 ·exact .cx
theorem Kr (C:aK):∀ {vs:List Value} {xs:List AVal},vT vs=I xs→aW C xs vs
 | [],xs,h=>by simp[vT]at h;subst h;exact .nil
 |v::vs,xs,h=>by
  simp only[vT]at h
  split at h
  ·rename_i x hx
   split at h
   ·rename_i ys mY
    cases h
    exact .cons _ _ _ _ (qwg C hx) (Kr C mY)
   ·cases h
  ·cases h
theorem qr3 (C:aK){v x}(h:ofValue v=I x):bT C x v:=by
 unfold ofValue at h
 split at h
 ·rename_i cs
  split at h
  ·rename_i xs hx
   cases h
   exact .agg _ _ (Kr C hx)
  ·cases h
 ·exact qwg C h
section
variable {P:Program}{C C0:aK}{ω:Nat→Option Loc}{w w0:World}{hp:qh}{env:Env}{a:Act}{B:Nat}
theorem qv {x y v}(he:bw C env a.tmps)(hc:qt x=I y)(hv:qi env y=I v):bT C v (a.eval x):=by
 cases x with
 |tmp t=>
  simp only[qt]at hc
  cases hc
  simp only[qi]at hv
  split at hv
  ·rename_i x hx
   cases hv
   obtain⟨u,h1,h2⟩:=he t x hx
   have:a.eval (.tmp t)=u:=by simp[Act.eval,Array.getD_eq_getD_getElem?,h1]
   rw[this];exact h2
  ·cases hv
 |const u=>
  simp only[qt]at hc
  split at hc
  ·rename_i z hz
   cases hc
   simp only[qi]at hv
   cases hv
   exact qr3 C hz
  ·cases hc
 |func f=>
  simp only[qt]at hc
  cases hc
  simp only[qi]at hv
  cases hv
  exact .fn (.func f) (.func f) [] [] [] [] rfl .nil .nil
 |global g=>simp[qt]at hc
theorem Dr (he:bw C env a.tmps):∀ {xs:List Operand} {ys:List js} {vs:List AVal},pw xs=I ys→kz env ys=I vs→aW C vs (xs.map a.eval)
 | [],ys,vs,hc,hv=>by simp[pw]at hc;subst hc;simp[kz]at hv;subst hv;exact .nil
 |x::xs,ys,vs,hc,hv=>by
  simp only[pw]at hc
  split at hc
  ·rename_i y hy
   split at hc
   ·rename_i zs qE
    cases hc
    simp only[kz]at hv
    split at hv
    ·rename_i v iN
     split at hv
     ·rename_i us gV
      cases hv
      exact .cons _ _ _ _ (qv he hy iN) (Dr he qE gV)
     ·cases hv
    ·cases hv
   ·cases hc
  ·cases hc
theorem bT.dv {b v}(h:bT C (.bool b) v):v=.bool b:=by cases h;rfl
theorem bT.bW {k n v}(h:bT C (.int k n) v):v=.int k n:=by cases h;rfl
theorem bT.cw {s v}(h:bT C (.str s) v):v=.string ⟨⟨s⟩⟩:=by cases h;rfl
theorem bT.dw {b o v}(h:bT C (.ptr b o) v):∃r,C.β b=I r∧v=.pointer (I ⟨r,o,En⟩):=by cases h;exact⟨_,‹_›,rfl⟩
theorem bT.eW {x v}(h:bT C (.ai x) v):∃r o,v=.pointer (I ⟨r,o,En⟩)∧cy C r x.flat o:=by cases h;exact⟨_,_,rfl,‹_›⟩
theorem bT.eF {cs v}(h:bT C (.agg cs) v):∃vs,v=.agg ⟨vs⟩∧aW C cs vs:=by cases h;exact⟨_,rfl,‹_›⟩
theorem bT.n8 {cs v}(h:bT C (.aI cs) v):∃vs,v=.tuple ⟨vs⟩∧aW C cs vs:=by cases h;exact⟨_,rfl,‹_›⟩
theorem bT.eX {b o len v}(h:bT C (.ms b o len) v):∃r cap,C.β b=I r∧len≤cap∧v=.slice (I ⟨r,o,En⟩) len cap:=by cases h;exact⟨_,_,‹_›,‹_›,rfl⟩
theorem bT.da {n sz xs v}(h:bT C (.list n sz xs) v):
  (n=E9∧xs=[]∧v=.slice En 0 0)∨(n=Es∧∃r o cap,v=.slice (I ⟨r,o,En⟩) xs.length cap∧xs.length≤cap∧bA C r sz xs o)∨(n=Es∧xs=[]∧∃a,a.spot≠En∧v=.slice (I a) 0 0):=by
 cases h
 ·exact .inl ⟨rfl,rfl,rfl⟩
 ·exact .inr (.inl ⟨rfl,_,_,_,rfl,‹_›,‹_›⟩)
 ·exact .inr (.inr ⟨rfl,rfl,_,‹_›,rfl⟩)
theorem bT.len {n sz xs v}(h:bT C (.list n sz xs) v):∃b cap,v=.slice b xs.length cap:=by
 rcases h.da with⟨rfl,rfl,rfl⟩|⟨rfl,r,o,cap,rfl,_,_⟩|⟨rfl,rfl,a,_,rfl⟩
 ·exact⟨En,0,rfl⟩
 ·exact⟨_,_,rfl⟩
 ·exact⟨_,_,rfl⟩
theorem add_lit (r o n:Nat):(⟨r,o,En⟩:Addr).add n=⟨r,o+n,En⟩:=by unfold Addr.add;split<;>simp_all
theorem Aj (k:IntKind)(n:Int):qe k n=k.wrap n:=by
 unfold qe
 cases h:pZ k n with
 |false=>rfl
 |true=>
  simp only[cond_true]
  symm
  have key:∀m:Nat,IntKind.min k≤n→n≤IntKind.max k→k.wrap n=n:=by
   intro _ h1 h2
   unfold IntKind.wrap
   cases k<;>simp[IntKind.bits,IntKind.signed,IntKind.min,IntKind.max]at *<;>omega
  refine key 0 ?_ ?_
  ·cases k<;>cases n<;>simp[pZ,IntKind.min,IntKind.signed,IntKind.bits]at *<;>omega
  ·cases k<;>cases n<;>simp[pZ,IntKind.max,IntKind.signed,IntKind.bits]at *<;>omega
theorem Ds {t:TypeId}{b}(h:ym P t=I b)(w:World):(isAgg t).run P w=.ok b w:=by
 unfold ym at h
 unfold isAgg
 cases hu:P.underlying t with
 |none=>simp[hu]at h
 |some d=>rw[hu]at h;simp[run_underlying hu];cases d<;>simp at h<;>subst h<;>rfl
theorem yl {t:TypeId}{n}(h:jm P t=I n)(w:World):(sizeOf t).run P w=.ok n w:=by
 unfold jm at h
 cases hi:P.info? t with
 |none=>simp[hi]at h
 |some i=>simp[hi]at h;simp[sizeOf,typeInfo,hi,h]
theorem q4e {t:TypeId}{ag n off cs vs x}(hg:ym P t=I ag)(hn:jm P t=I n)(hp:part ag cs off n=I x)(hr:aW C cs vs)(w:World):
  ∃v,(Go.part t ⟨vs⟩ off).run P w=.ok v w∧bT C x v:=by
 unfold part at hp
 cases ag with
 |true=>
  simp only[cond_true]at hp
  cases hb:Ga (off+n) cs.length with
  |false=>simp[hb]at hp
  |true=>
   simp[hb]at hp
   subst hp
   refine⟨.agg ⟨(vs.drop off).take n⟩,?_,.agg _ _ ((hr.drop off).take n)⟩
   simp[Go.part,Ds hg,yl hn]
 |false=>
  simp only[cond_false]at hp
  obtain⟨v,h1,h2⟩:=hr.get hp
  exact⟨v,by simp[Go.part,Ds hg,h1],h2⟩
theorem qpp (a:List UInt8):(⟨⟨a⟩⟩:ByteArray).toList=a:=by
 rw[ByteArray.toList_eq]
end
theorem Qp:∀ {ks:List Kd} {xs ys:List AVal} (Fm:List Kd) (fQ n9:List AVal),xs.length=ks.length→ys.length=ks.length →
  z7 (ks++Fm) (xs++fQ) (ys++n9)=match z7 ks xs ys with|some E9=>z7 Fm fQ n9|r=>r
 | [],[],[],Fm,fQ,n9,_,_=>by simp[z7]
 |k::ks,x::xs,y::ys,Fm,fQ,n9,h,h'=>by
  simp only[List.cons_append,z7]
  cases he:lH k x y with
  |none=>simp
  |some b=>cases b with
   |false=>simp
   |true=>simpa using Qp Fm fQ n9 (by simpa using h) (by simpa using h')
 | [],_::_,_,_,_,_,h,_=>by simp at h
 | [],[],_::_,_,_,_,_,h=>by simp at h
 |_::_,[],_,_,_,_,h,_=>by simp at h
 |_::_,_::_,[],_,_,_,_,h=>by simp at h
def uK (ag:Bool)(us:List Value):Value:=if ag then .agg ⟨us⟩else us.headD undef
def Ks:TypeDesc→Bool
 | .struct _=>E9
 | .array _ _=>E9
 |_=>Es
section
variable {P:Program}{C:aK}
theorem jef {t:TypeId}{d:TypeDesc}(h:P.underlying t=I d):ym P t=I (Ks d):=by
 unfold ym
 rw[h]
 cases d<;>rfl
theorem Kt {t:TypeId}{ag n off us}(hg:ym P t=I ag)(hn:jm P t=I n)(h1:ag=Es→n=1)(hl:off+n≤us.length)(w:World):
  (Go.part t ⟨us⟩ off).run P w=.ok (uK ag ((us.drop off).take n)) w:=by
 cases ag with
 |true=>simp[Go.part,Ds hg,yl hn,uK]
 |false=>
  obtain rfl:=h1 rfl
  have bz:off<us.length:=by omega
  simp only[Go.part,Sem.run_bind,Ds hg,Result.andThen_ok,uK,Gt,if_false]
  have e:(⟨us⟩:Array Value)[off]?=I us[off]:=by
   show(List.toArray us)[off]?=_
   rw[Gz,List.getElem?_eq_getElem bz]
  rw[e,List.drop_eq_getElem_cons bz]
  rfl
def Qq (P:Program)(C:aK)(n:Nat)(t:TypeId)(ks:List Kd):Prop:=
 ∃ag,ym P t=I ag∧jm P t=I ks.length∧(ag=Es→ks.length=1)∧∀d,n≤d→∀xs ys us vs b w,aW C xs us→aW C ys vs→xs.length=ks.length→ys.length=ks.length→z7 ks xs ys=I b →
  (Op.equalIn d t (uK ag us) (uK ag vs)).run P w=.ok b w
theorem Ku {α:Type}(xs:List α)(off n:Nat):xs.drop off=(xs.drop off).take n++xs.drop (off+n):=by
 rw[←List.drop_drop];exact(List.take_append_drop _ _).symm
theorem qsd {n d}(hd:n≤d):∀(fs:List Field) (off:Nat) (ks:List Kd) (xs ys:List AVal) (us vs:List Value) (b:Bool) (w:World),
  Fe (uJ P n) off fs=I ks →
  (∀f∈fs,∀ks,uJ P n f.type=I ks→Qq P C n f.type ks) →
  aW C xs us→aW C ys vs→xs.length=off+ks.length→ys.length=off+ks.length→z7 ks (xs.drop off) (ys.drop off)=I b →
  (Op.eqFields d ⟨us⟩ ⟨vs⟩ fs).run P w=.ok b w
 | [],off,ks,xs,ys,us,vs,b,w,hf,_,hx,hy,mZ,oI,he=>by
  simp[Fe]at hf
  subst hf
  rw[Gf (by simp at mZ;omega),Gf (by simp at oI;omega)]at he
  simp[z7]at he
  subst he
  simp[Op.eqFields]
 |f::fs,off,ks,xs,ys,us,vs,b,w,hf,dJ,hx,hy,mZ,oI,he=>by
  simp only[Fe]at hf
  split at hf
  ·rename_i hc
   simp at hc
   obtain⟨Fo,vV⟩:=hc
   split at hf
   ·rename_i k1 fX
    split at hf
    ·rename_i k2 dx
     cases hf
     obtain⟨ag,dk,c7,h1,heq⟩:=dJ f (by simp) k1 fX
     have Qr:=hx.length
     have qF:=hy.length
     simp at mZ oI
     have p1:=Kt (P:=P) (us:=us) (off:=f.offset) dk c7 h1 (by omega) w
     have p2:=Kt (P:=P) (us:=vs) (off:=f.offset) dk c7 h1 (by omega) w
     rw[Ku xs off k1.length,Ku ys off k1.length,Qp _ _ _ (by simp;omega) (by simp;omega)]at he
     simp only[Op.eqFields,ne_eq,Fo,not_false_eq_true,if_true,Sem.run_bind,p1,p2,Result.andThen_ok]
     rw[vV]
     cases hb:z7 k1 ((xs.drop off).take k1.length) ((ys.drop off).take k1.length)with
     |none=>rw[hb]at he;cases he
     |some b1=>
      rw[hb]at he
      rw[heq d hd _ _ _ _ b1 w ((hx.drop off).take _) ((hy.drop off).take _) (by simp;omega) (by simp;omega) hb]
      cases b1 with
      |false=>simp at he;subst he;simp
      |true=>
       simp only[Result.andThen_ok,G7,Gt,if_false]
       exact qsd hd fs (off+k1.length) k2 xs ys us vs b w dx (fun g hg=>dJ g (by simp[hg])) hx hy (by omega) (by omega) he
    ·cases hf
   ·cases hf
  ·cases hf
theorem qwh {n d}(hd:n≤d){e:TypeId}{ag k1}(dk:ym P e=I ag)(c7:jm P e=I k1.length)(h1:ag=Es→k1.length=1)
  (heq:∀d,n≤d→∀xs ys us vs b w,aW C xs us→aW C ys vs→xs.length=k1.length→ys.length=k1.length→z7 k1 xs ys=I b→(Op.equalIn d e (uK ag us) (uK ag vs)).run P w=.ok b w):
  ∀(len i:Nat) (xs ys:List AVal) (us vs:List Value) (b:Bool) (w:World),
  aW C xs us→aW C ys vs→xs.length=i*k1.length+len*k1.length→ys.length=i*k1.length+len*k1.length→z7 (Gm len k1).flatten (xs.drop (i*k1.length)) (ys.drop (i*k1.length))=I b →
  (Op.eqItems d e k1.length ⟨us⟩ ⟨vs⟩ (List.range' i len)).run P w=.ok b w
 |0,i,xs,ys,us,vs,b,w,hx,hy,mZ,oI,he=>by
  rw[Gf (by simp at mZ;omega),Gf (by simp at oI;omega)]at he
  simp[z7]at he
  subst he
  simp[Op.eqItems]
 |len+1,i,xs,ys,us,vs,b,w,hx,hy,mZ,oI,he=>by
  have Qr:=hx.length
  have qF:=hy.length
  rw[Gj]at mZ oI
  have p1:=Kt (P:=P) (us:=us) (off:=i*k1.length) dk c7 h1 (by omega) w
  have p2:=Kt (P:=P) (us:=vs) (off:=i*k1.length) dk c7 h1 (by omega) w
  rw[List.replicate_succ,List.flatten_cons,Ku xs (i*k1.length) k1.length,Ku ys (i*k1.length) k1.length,Qp _ _ _ (by simp;omega) (by simp;omega)]at he
  simp only[List.range'_succ,Op.eqItems,Sem.run_bind,p1,p2,Result.andThen_ok]
  cases hb:z7 k1 ((xs.drop (i*k1.length)).take k1.length) ((ys.drop (i*k1.length)).take k1.length)with
  |none=>rw[hb]at he;cases he
  |some b1=>
   rw[hb]at he
   rw[heq d hd _ _ _ _ b1 w ((hx.drop _).take _) ((hy.drop _).take _) (by simp;omega) (by simp;omega) hb]
   cases b1 with
   |false=>simp at he;subst he;simp
   |true=>
    simp only[Result.andThen_ok,G7,Gt,if_false]
    refine qwh hd dk c7 h1 heq len (i+1) xs ys us vs b w hx hy (by rw[mZ,Gj];omega) (by rw[oI,Gj];omega) ?_
    rw[Gj];exact he
theorem qz6 {t:TypeId}{n}(h:jm P t=I n):P.cellsOf t=n:=by
 unfold jm at h
 unfold Program.cellsOf
 rw[h];rfl
theorem q0f {t:TypeId}{n}(h:jm P t=I n):∃i,P.info? t=I i∧i.size=n:=by
 unfold jm at h
 cases hi:P.info? t with
 |none=>simp[hi]at h
 |some i=>exact⟨i,rfl,by simpa[hi]using h⟩
theorem q6m {k x y b}(h:z7 [k] [x] [y]=I b):lH k x y=I b:=by
 simp only[z7]at h
 split at h<;>simp_all
theorem jcn {xs us}(h:aW C xs us)(hl:xs.length=1):∃x u,xs=[x]∧us=[u]∧bT C x u:=by
 obtain⟨x,rfl⟩:=List.length_eq_one_iff.1 hl
 cases h with
 |cons _ _ u vs hx h=>cases h;exact⟨x,u,rfl,rfl,hx⟩
theorem q3i {k x y b u v}(h:lH k x y=I b)(hx:bT C x u)(hy:bT C y v):
  match k with
  | .int=>∃kd a c,u=.int kd a∧v=.int kd c∧b=(a == c)
  | .str=>∃a c:List UInt8,u=.string ⟨⟨a⟩⟩∧v=.string ⟨⟨c⟩⟩∧b=(a == c)
  | .bool=>∃a c,u=.bool a∧v=.bool c∧b=(a == c):=by
 unfold lH at h
 split at h
 ·rename_i k a k' c
  cases hx;cases hy
  by_cases hk:k=k'
  ·subst hk;simp at h;exact⟨_,_,_,rfl,rfl,h.symm⟩
  ·simp[hk]at h
 ·cases hx;cases hy;cases h;exact⟨_,_,rfl,rfl,rfl⟩
 ·cases hx;cases hy;cases h;exact⟨_,_,rfl,rfl,rfl⟩
 ·cases h
theorem q30 {t:TypeId}{k x y b u v}(hk:kH P t=I k)(h:lH k x y=I b)(hx:bT C x u)(hy:bT C y v)(d:Nat)(w:World):
  (Op.equalIn (d+1) t u v).run P w=.ok b w:=by
 have hc:=q3i h hx hy
 unfold kH at hk
 cases hu:P.underlying t with
 |none=>simp[hu]at hk
 |some D=>
  rw[hu]at hk
  cases D<;>simp at hk<;>subst hk<;>simp only[]at hc
  ·obtain⟨a,c,rfl,rfl,rfl⟩:=hc;exact run_equalIn_bool w d t a c hu
  ·obtain⟨kd,a,c,rfl,rfl,rfl⟩:=hc;exact run_equalIn_int w d t kd _ a c hu
  ·obtain⟨a,c,rfl,rfl,rfl⟩:=hc
   rw[run_equalIn_string w d t _ _ hu,qpp,qpp]
theorem Qs:∀ (n:Nat) (t:TypeId) (ks:List Kd),uJ P n t=I ks→Qq P C n t ks
 |0,t,ks,h=>by simp[uJ]at h
 |n+1,t,ks,h=>by
  unfold uJ at h
  cases hu:P.underlying t with
  |none=>simp[hu]at h
  |some D=>
   rw[hu]at h
   have dk:=jef hu
   have scalar:∀k,ks=[k]→jm P t=I 1→kH P t=I k→Ks D=Es→Qq P C (n+1) t ks:=by
    intro k Dt hs hk ha
    subst Dt
    refine⟨Es,by rw[dk,ha],hs,fun _=>rfl,?_⟩
    intro d hd xs ys us vs b w hx hy mZ oI he
    obtain⟨d,rfl⟩:∃m,d=m+1:=⟨d-1,by omega⟩
    obtain⟨x,u,rfl,rfl,Ak⟩:=jcn hx mZ
    obtain⟨y,v,rfl,rfl,hy1⟩:=jcn hy oI
    exact q30 hk (q6m he) Ak hy1 d w
   cases D<;>simp only[]at h<;>first|(simp at h;done)|skip
   case int k=>
    split at h<;>first|cases h|skip
    rename_i hs
    exact scalar .int rfl (by simpa using hs) (by simp[kH,hu]) rfl
   case bool=>
    split at h<;>first|cases h|skip
    rename_i hs
    exact scalar .bool rfl (by simpa using hs) (by simp[kH,hu]) rfl
   case string=>
    split at h<;>first|cases h|skip
    rename_i hs
    exact scalar .str rfl (by simpa using hs) (by simp[kH,hu]) rfl
   case array len e=>
    split at h
    ·rename_i k1 fX
     split at h
     ·rename_i hs
      cases h
      obtain⟨ag,Qt,c7,h1,heq⟩:=Qs n e k1 fX
      have hlen:(Gm len k1).flatten.length=len*k1.length:=by simp[List.length_flatten]
      refine⟨E9,by simpa[Ks]using dk,by rw[hlen];simpa using hs,(fun h=>by cases h),?_⟩
      intro d hd xs ys us vs b w hx hy mZ oI he
      obtain⟨d,rfl⟩:∃m,d=m+1:=⟨d-1,by omega⟩
      obtain⟨i,hi,_⟩:=q0f c7
      simp only[uK,if_true]
      rw[run_equalIn_array w d _ _ hu hi,qz6 c7,List.range_eq_range']
      exact qwh (by omega) Qt c7 h1 heq len 0 xs ys us vs b w hx hy (by rw[mZ,hlen];omega) (by rw[oI,hlen];omega) (by simpa using he)
     ·cases h
    ·cases h
   case struct fs=>
    split at h
    ·rename_i k1 fX
     split at h
     ·rename_i hs
      cases h
      simp at hs
      obtain⟨hso,c7⟩:=hs
      refine⟨E9,by simpa[Ks]using dk,c7,(fun h=>by cases h),?_⟩
      intro d hd xs ys us vs b w hx hy mZ oI he
      obtain⟨d,rfl⟩:∃m,d=m+1:=⟨d-1,by omega⟩
      simp only[uK,if_true]
      have hf:P.fieldsOf t=fs:=by simp[Program.fieldsOf,hu]
      rw[run_equalIn_struct w d t _ _ (by rw[hf];exact hu) hso,hf]
      exact qsd (n:=n) (by omega) fs.toList 0 _ xs ys us vs b w fX (fun f _ ks hp=>Qs n f.type ks hp) hx hy (by omega) (by omega) (by simpa using he)
     ·cases h
    ·cases h
end
section
variable {P:Program}{C:aK}{w:World}{env:Env}{a:Act}{o:Oper}
def Val (P:Program)(C:aK)(a:Act)(o:Oper)(w:World)(x:AVal):Prop:=∃v,(execOp a.eval o).run P w=.ok (.value v) w∧bT C x v
theorem jiw {x y v}(he:bw C env a.tmps)(ho:o.op=.move x∨o.op=.assign x)(hc:qt x=I y)(hv:qi env y=I v):Val P C a o w v:=by
 refine⟨a.eval x,?_,qv he hc hv⟩
 rcases ho with ho|ho<;>simp[execOp,ho]
theorem jks {c x y c' x' y' b u v}(he:bw C env a.tmps)(ho:o.op=.pick c x y)(h1:qt c=I c')(h2:qt x=I x')(h3:qt y=I y')
  (e1:qi env c'=I (.bool b)) (e2:qi env x'=I u) (e3:qi env y'=I v):Val P C a o w (bif b then u else v):=by
 have r1:=(qv he h1 e1).dv
 have r2:=qv he h2 e2
 have r3:=qv he h3 e3
 refine⟨if b then a.eval x else a.eval y,by simp[execOp,ho,r1,asBool],?_⟩
 cases b<;>simpa
theorem qoz {x y v}(he:bw C env a.tmps)(ho:o.op=.nilCheck x)(hc:qt x=I y)(hv:qi env y=I v)
  (hk:(∃b p,v=.ptr b p)∨(∃z,v=.ai z)):Val P C a o w v:=by
 have r:=qv he hc hv
 rcases hk with⟨b,p,rfl⟩|⟨z,rfl⟩
 ·obtain⟨q,_,hq⟩:=r.dw
  exact⟨a.eval x,by simp[execOp,ho,hq],r⟩
 ·obtain⟨q,p,hq,_⟩:=r.eW
  exact⟨a.eval x,by simp[execOp,ho,hq],r⟩
theorem Qu (op:BinOp)(k:IntKind)(x y:Int)(t:TypeId)(h1:op≠.shl)(h2:op≠.shr):binOp op t (.int k x) (.int k y)=match op with
  | .add | .sub | .mul=>Op.intArith op k x y
  | .quo | .rem=>Op.intDiv op k x y
  | .and | .or | .xor | .andNot=>Op.intBits op k x y
  |_=>Op.intCmp op x y:=by
 cases op<;>simp at h1 h2<;>simp[binOp]
theorem q8e {op k x y v}(h:oF op k x y=I v)(t:TypeId)(w:World):∃u,(binOp op t (.int k x) (.int k y)).run P w=.ok u w∧bT C v u:=by
 unfold oF at h
 cases op<;>simp only[]at h<;>first|(cases h;done)|skip
 case quo=>
  cases hy:(y == 0)with
  |true=>simp[hy]at h
  |false=>
   simp[hy]at h
   subst h
   have:y≠0:=by simpa using hy
   rw[Aj,Qu _ _ _ _ _ (by simp) (by simp)]
   refine⟨_,?_,.int _ _⟩
   simp[Op.intDiv,this]
 case rem=>
  cases hy:(y == 0)with
  |true=>simp[hy]at h
  |false=>
   simp[hy]at h
   subst h
   have:y≠0:=by simpa using hy
   rw[Qu _ _ _ _ _ (by simp) (by simp)]
   refine⟨_,?_,.int _ _⟩
   simp[Op.intDiv,this]
 all_goals (cases h;rw[Qu _ _ _ _ _ (by simp) (by simp)];try rw[Aj])
 all_goals first
  |exact⟨_,rfl,.int _ _⟩
  |exact⟨_,rfl,.bool _⟩
theorem qoy:∀ (x y:List UInt8),bytesLess x y=Op.bytesLess x y
 |x,[]=>by cases x<;>rfl
 | [],_::_=>rfl
 |a::x,b::y=>by simp only[bytesLess,Op.bytesLess,qoy x y]
theorem q9t {op x y v}(h:Fc op x y=I v)(t:TypeId)(w:World):∃u,(binOp op t (.string ⟨⟨x⟩⟩) (.string ⟨⟨y⟩⟩)).run P w=.ok u w∧bT C v u:=by
 unfold Fc at h
 cases op<;>simp only[]at h<;>first|(cases h;done)|skip
 ·cases hb:Ga (x.length+y.length) 4611686018427387904 with
  |false=>simp[hb]at h
  |true=>
   simp[hb]at h
   subst h
   have hle:x.length+y.length≤4611686018427387904:=Gn hb
   refine⟨.string ⟨⟨x++y⟩⟩,?_,.str _⟩
   have e1:(⟨⟨x⟩⟩:ByteArray).size=x.length:=rfl
   have e2:(⟨⟨y⟩⟩:ByteArray).size=y.length:=rfl
   have e3:(⟨⟨x⟩⟩:ByteArray)++⟨⟨y⟩⟩=⟨⟨x++y⟩⟩:=by
    apply ByteArray.ext
    simp[ByteArray.data_append]
   simp only[binOp,Op.stringOp,e1,e2,e3,IntKind.max,IntKind.signed,IntKind.bits]
   rw[if_neg (by simp;omega)]
   rfl
 all_goals (cases h;refine⟨_,?_,.bool _⟩;simp[binOp,Op.stringOp,qoy])
theorem jah {op x y v u u'}(h:yq op x y=I v)(hx:bT C x u)(hy:bT C y u')(t:TypeId)(w:World):∃z,(binOp op t u u').run P w=.ok z w∧bT C v z:=by
 unfold yq at h
 split at h
 ·rename_i k a k' b
  obtain rfl:=hx.bW
  obtain rfl:=hy.bW
  have hsh:∀(op:BinOp),(op=.shl∨op=.shr)→Kh op k a b=I v→∃z,(binOp op t (.int k a) (.int k' b)).run P w=.ok z w∧bT C v z:=by
   intro op hop h
   unfold Kh at h
   cases hb:decide (b<0)with
   |true=>simp[hb]at h
   |false=>
    have fE:¬b<0:=by simpa using hb
    rcases hop with rfl|rfl<;>simp[hb]at h<;>subst h
    ·rw[Aj]; (refine⟨_,?_,.int _ _⟩;simp[binOp,Op.shift,fE])
    ·(refine⟨_,?_,.int _ _⟩;simp[binOp,Op.shift,fE])
  have hin:op≠.shl→op≠.shr→(bif decide (k=k')then oF op k a b else En)=I v→∃z,(binOp op t (.int k a) (.int k' b)).run P w=.ok z w∧bT C v z:=by
   intro _ _ h
   by_cases hk:k=k'
   ·subst hk;simp at h;exact q8e h t w
   ·simp[hk]at h
  cases op<;>simp only[]at h<;>first|exact hsh _ (.inl rfl) h|exact hsh _ (.inr rfl) h|exact hin (by simp) (by simp) h
 ·obtain rfl:=hx.cw
  obtain rfl:=hy.cw
  exact q9t h t w
 ·cases h
theorem q6j (op:BinOp)(t:TypeId)(x y:Operand)(u v:Value)(w:World)(h1:¬(u=.nilIface∧v=.nilIface))(h2:(∀cs,u≠.agg cs)∨P.eqGuardType P.depth t=Es):(eqGuard op t x y u v).run P w=.ok () w:=by
 unfold eqGuard
 by_cases hop:(!(match op with | .eql | .neq=>E9|_=>Es))=E9
 ·cases op<;>simp_all
 ·cases op<;>simp at hop ⊢
  all_goals (
   split
   ·exact absurd ⟨rfl,rfl⟩ h1
   ·rcases h2 with h2|h2
    ·rename_i cs _ ;exact absurd rfl (h2 cs)
    ·simp[h2]
   ·rfl)
theorem Kv {op}{t u:TypeId}{x y p q z}(ho:o.op=.binOp op t x y u)(hx:a.eval x=p)(hy:a.eval y=q)(h1:¬(p=.nilIface∧q=.nilIface))(h2:(∀cs,p≠.agg cs)∨P.eqGuardType P.depth t=Es)
  (hz:(binOp op t p q).run P w=.ok z w):(execOp a.eval o).run P w=.ok (.value z) w:=by
 have hg:=q6j (P:=P) op t x y p q w h1 h2
 subst hx;subst hy
 simp only[execOp,ho,Sem.run_bind,hg,Result.andThen_ok,hz,Sem.run_pure]
theorem q0b {x v}(h:bT C x v)(hx:x≠.undef)(hy:x≠.any:=by simp):v≠.nilIface:=by
 cases h<;>simp at hx hy ⊢
theorem q0e {op x y v}(h:yq op x y=I v):(x≠.undef∧(∀cs,x≠.agg cs)∧x≠.any):=by
 unfold yq at h
 split at h<;>simp at h ⊢
theorem q6u {x v}(h:bT C x v)(hx:x≠.undef)(ha:∀cs,x≠.agg cs)(hy:x≠.any:=by simp):∀cs,v≠.agg cs:=by
 cases h<;>simp at hx ha hy ⊢
theorem jn4 {op}{t u:TypeId}{x y x' y' p q v}(he:bw C env a.tmps)(ho:o.op=.binOp op t x y u)(h1:qt x=I x')(h2:qt y=I y')
  (e1:qi env x'=I p) (e2:qi env y'=I q) (hv:yq op p q=I v):Val P C a o w v:=by
 have r1:=qv he h1 e1
 have r2:=qv he h2 e2
 obtain⟨hn,ha,hy⟩:=q0e hv
 obtain⟨z,hz,hr⟩:=jah (P:=P) hv r1 r2 t w
 refine⟨z,?_,hr⟩
 exact Kv ho rfl rfl (fun h=>q0b r1 hn hy h.1) (.inl (q6u r1 hn ha hy)) hz
theorem Qv {neq}{t:TypeId}{u v b}(w:World)(hu:(∀k n,u≠.int k n)∧(∀s,u≠.string s)∧(∀k n,u≠.float k n)∧(∀k n m,u≠.complex k n m))
  (h:(Op.equal t u v).run P w=.ok b w):(binOp (if neq then .neq else .eql) t u v).run P w=.ok (.bool (bif neq then !b else b)) w:=by
 obtain⟨h1,h2,h3,h4⟩:=hu
 cases neq<;>cases u<;>simp_all [binOp]
theorem jpe {op neq}{t u:TypeId}{x y x' y' p q ks b}(he:bw C env a.tmps)(ho:o.op=.binOp op t x y u)(hop:op=if neq then .neq else .eql)
  (h1:qt x=I x') (h2:qt y=I y') (e1:qi env x'=I (.agg p)) (e2:qi env y'=I (.agg q)) (hg:P.eqGuardType P.depth t=Es) (hk:uJ P Kk t=I ks) (dk:ym P t=I E9)
  (ig:p.length=ks.length) (oc:q.length=ks.length) (hb:z7 ks p q=I b):Val P C a o w (.bool (bif neq then !b else b)):=by
 obtain⟨us,hu,ru⟩:=(qv he h1 e1).eF
 obtain⟨vs,hv,rv⟩:=(qv he h2 e2).eF
 obtain⟨ag,ha,_,_,heq⟩:=Qs (C:=C) Kk t ks hk
 rw[dk]at ha;cases ha
 have hq:=heq 10000 (by decide) p q us vs b w ru rv ig oc hb
 simp only[uK,if_true]at hq
 refine⟨_,?_,.bool _⟩
 have qG:=Qv (P:=P) (neq:=neq) (t:=t) (u:=.agg ⟨us⟩) (v:=.agg ⟨vs⟩) (b:=b) w ⟨by simp,by simp,by simp,by simp⟩ hq
 exact Kv (hop▸ho) hu hv (by simp) (.inr hg) qG
theorem jnp {op neq}{t u:TypeId}{x y x' y' p q}(he:bw C env a.tmps)(ho:o.op=.binOp op t x y u)(hop:op=if neq then .neq else .eql)
  (h1:qt x=I x') (h2:qt y=I y') (e1:qi env x'=I (.bool p)) (e2:qi env y'=I (.bool q)) (ht:P.underlying t=I .bool):Val P C a o w (.bool (bif neq then !(p == q)else p == q)):=by
 have hu:=(qv he h1 e1).dv
 have hv:=(qv he h2 e2).dv
 refine⟨_,?_,.bool _⟩
 have qG:=Qv (P:=P) (neq:=neq) (t:=t) (u:=.bool p) (v:=.bool q) (b:=p == q) w ⟨by simp,by simp,by simp,by simp⟩ (run_equalIn_bool w 9999 t p q ht)
 exact Kv (hop▸ho) hu hv (by simp) (.inl (by simp)) qG
theorem jes {op neq b}{t u:TypeId}{x y c}(ho:o.op=.binOp op t x y u)(hop:op=if neq then .neq else .eql)
  (hy:a.eval y=c) (bL:(∀k n,a.eval x≠.int k n)∧(∀s,a.eval x≠.string s)∧(∀k n,a.eval x≠.float k n)∧(∀k n m,a.eval x≠.complex k n m)) (dk:∀cs,a.eval x≠.agg cs) (Qw:a.eval x≠.nilIface)
  (h:(Op.equal t (a.eval x) c).run P w=.ok b w):Val P C a o w (.bool (bif neq then !b else b)):=by
 refine⟨_,?_,.bool _⟩
 have qG:=Qv (P:=P) (neq:=neq) w bL h
 exact Kv (hop▸ho) rfl hy (fun h=>Qw h.1) (.inl dk) qG
theorem jrf {op}{t:TypeId}{x x' p v}(he:bw C env a.tmps)(ho:o.op=.unOp op t x)(h1:qt x=I x')(e1:qi env x'=I p)(hv:xF op p=I v):Val P C a o w v:=by
 have r1:=qv he h1 e1
 unfold xF at hv
 split at hv
 ·obtain hu:=r1.bW
  cases hv
  rw[Aj]
  (refine⟨_,?_,.int _ _⟩;simp[execOp,ho,hu,Op.unary,Op.intArith])
 ·obtain hu:=r1.dv
  cases hv
  (refine⟨_,?_,.bool _⟩;simp[execOp,ho,hu,Op.unary])
 ·cases hv
theorem jhn {s d:TypeId}{k k0 x x' k1 n}(he:bw C env a.tmps)(ho:o.op=.convert s d x)(hs:P.underlying s=I (.int k0))(hd:P.underlying d=I (.int k))
  (h1:qt x=I x') (e1:qi env x'=I (.int k1 n)):Val P C a o w (.int k (qe k n)):=by
 have hu:=(qv he h1 e1).bW
 rw[Aj]
 (refine⟨_,?_,.int _ _⟩;simp[execOp,ho,hu,convert,run_underlying hs,run_underlying hd,Conv.intToInt])
theorem q61 {s d:TypeId}{x x' v}(he:bw C env a.tmps)(ho:o.op=.convert s d x)(hs:P.underlying s=I .string)(hd:P.underlying d=I .string)
  (h1:qt x=I x') (e1:qi env x'=I v) (hv:∃l,v=.str l):Val P C a o w v:=by
 obtain⟨l,rfl⟩:=hv
 have r:=qv he h1 e1
 have hu:=r.cw
 exact⟨_,by simp[execOp,ho,hu,convert,run_underlying hs,run_underlying hd];rfl,by rw[←hu];exact r⟩
theorem q22 {s d:TypeId}{x x' v k0}(he:bw C env a.tmps)(ho:o.op=.convert s d x)(hs:P.underlying s=I (.int k0))(hd:P.underlying d=I .string)
  (h1:qt x=I x') (e1:qi env x'=I v) (hv:∃l,v=.str l):Val P C a o w v:=by
 obtain⟨l,rfl⟩:=hv
 have r:=qv he h1 e1
 have hu:=r.cw
 exact⟨_,by simp[execOp,ho,hu,convert,run_underlying hs,run_underlying hd];rfl,by rw[←hu];exact r⟩
theorem q6k {s d:TypeId}{x x' k0 k1 n}(he:bw C env a.tmps)(ho:o.op=.convert s d x)(hs:P.underlying s=I (.int k0))(hd:P.underlying d=I .string)
  (h1:qt x=I x') (e1:qi env x'=I (.int k1 n)):Val P C a o w (.str (Utf8.encode n).data.toList):=by
 have hu:=(qv he h1 e1).bW
 exact⟨.string (Utf8.encode n),by simp[execOp,ho,hu,convert,run_underlying hs,run_underlying hd,Conv.intToString],.str _⟩
theorem q19 {s d:TypeId}{x x' k1 n}(he:bw C env a.tmps)(ho:o.op=.convert s d x)(hs:P.underlying s=I .string)(hd:P.underlying d=I .string)
  (h1:qt x=I x') (e1:qi env x'=I (.int k1 n)):Val P C a o w (.str (Utf8.encode n).data.toList):=by
 have hu:=(qv he h1 e1).bW
 exact⟨.string (Utf8.encode n),by simp[execOp,ho,hu,convert,run_underlying hs,run_underlying hd,Conv.intToString],.str _⟩
theorem jcc {t:TypeId}{x x' i fs f ag n cs v}(he:bw C env a.tmps)(ho:o.op=.field t x i)(ht:P.underlying t=I (.struct fs))(hf:fs[i]?=I f)
  (dk:ym P f.type=I ag) (hn:jm P f.type=I n) (h1:qt x=I x') (e1:qi env x'=I (.agg cs)) (hv:Abs.part ag cs f.offset n=I v):Val P C a o w v:=by
 obtain⟨us,hu,ru⟩:=(qv he h1 e1).eF
 obtain⟨z,hz,hr⟩:=q4e dk hn hv ru w
 refine⟨z,?_,hr⟩
 simp[execOp,ho,hu,Instr.field,run_underlying ht,hf,asAgg,hz]
theorem Fp {n v j}(h:idx n v=I j):∃k,v=.int k (j:Int)∧j<n:=by
 unfold idx at h
 split at h
 ·rename_i k i
  cases hb:Ge i n with
  |false=>simp[hb]at h
  |true=>
   simp[hb]at h
   subst h
   exact⟨k,rfl,by have:=Gn hb;omega⟩
 ·cases h
theorem jez {n v j}(h:zY n v=I j):∃k,v=.int k (j:Int)∧j≤n:=by
 unfold zY at h
 split at h
 ·rename_i k i
  cases hb:Ga i n with
  |false=>simp[hb]at h
  |true=>
   simp[hb]at h
   subst h
   exact⟨k,rfl,Gn hb⟩
 ·cases h
theorem jep {t e:TypeId}{x i x' i' len n ag cs iv v j}(he:bw C env a.tmps)(ho:o.op=.index t x i)(ht:P.underlying t=I (.array len e))
  (dk:ym P e=I ag) (hn:jm P e=I n) (h1:qt x=I x') (h2:qt i=I i') (e1:qi env x'=I (.agg cs)) (e2:qi env i'=I iv) (hj:idx len iv=I j) (hv:Abs.part ag cs (j*n) n=I v):Val P C a o w v:=by
 obtain⟨us,hu,ru⟩:=(qv he h1 e1).eF
 obtain⟨k,rfl,bz⟩:=Fp hj
 have hi:=(qv he h2 e2).bW
 obtain⟨z,hz,hr⟩:=q4e dk hn hv ru w
 refine⟨z,?_,hr⟩
 simp[execOp,ho,hu,hi,Instr.index,asIntOf,run_underlying ht,bz,yl hn,hz]
theorem q32 {t:TypeId}{x i x' i' s iv j c}(he:bw C env a.tmps)(ho:o.op=.index t x i)(ht:P.underlying t=I .string)
  (h1:qt x=I x') (h2:qt i=I i') (e1:qi env x'=I (.str s)) (e2:qi env i'=I iv) (hj:idx s.length iv=I j) (hc:s[j]?=I c):Val P C a o w (.int .u8 c.toNat):=by
 have hu:=(qv he h1 e1).cw
 obtain⟨k,rfl,bz⟩:=Fp hj
 have hi:=(qv he h2 e2).bW
 refine⟨_,?_,.int _ _⟩
 have hb:(⟨⟨s⟩⟩:ByteArray)[j]?=I c:=by
  rw[getElem?_pos (ByteArray.mk ⟨s⟩) j bz]
  exact congrArg I (Gv.1 hc).2
 simp[execOp,ho,hu,hi,Instr.index,asIntOf,run_underlying ht,hb]
end
section
variable {P:Program}{C:aK}{w:World}{env:Env}{a:Act}{o:Oper}
theorem qbv {z:AVal}(h:z.isAgg=Es):z.flat=[z]:=by cases z<;>simp[AVal.isAgg,AVal.flat]at *
theorem q69 {ag:Bool}{cs off n r q z}(hc:cy C r cs q)(hz:Abs.part ag cs off n=I z)(hx:Gu ag z.isAgg=Es):cy C r z.flat (q+off):=by
 unfold Abs.part at hz
 cases ag with
 |true=>
  simp only[cond_true]at hz
  cases hb:Ga (off+n) cs.length with
  |false=>simp[hb]at hz
  |true=>simp[hb]at hz;subst hz;exact cy.take n (cy.drop off hc)
 |false=>
  simp only[cond_false]at hz
  rw[qbv (by simpa using hx)]
  obtain⟨u,h1,h2⟩:=hc.get hz
  exact .dH _ _ _ _ u h1 h2 (.ie _ _)
theorem qod {t:TypeId}{x x' i fs f ag n p v}(he:bw C env a.tmps)(ho:o.op=.fieldAddr t x i)(ht:P.underlying t=I (.struct fs))(hf:fs[i]?=I f)
  (hn:jm P f.type=I n) (uL:0<n) (h1:qt x=I x') (e1:qi env x'=I p)
  (hv:(∃b q,p=.ptr b q∧v=.ptr b (q+f.offset))∨(∃cs z,p=.ai (.agg cs)∧Abs.part ag cs f.offset n=I z∧Gu ag z.isAgg=Es∧v=.ai z)):Val P C a o w v:=by
 have bE:∀r q,a.eval x=.pointer (I ⟨r,q,En⟩)→(execOp a.eval o).run P w=.ok (.value (.pointer (I ⟨r,q+f.offset,En⟩))) w:=by
  intro r q hq
  simp[execOp,ho,Instr.fieldAt,run_underlying ht,hf,hq,Instr.sureAddr,fieldPlace,yl hn,Nat.pos_iff_ne_zero.1 uL,add_lit]
 rcases hv with⟨b,q,rfl,rfl⟩|⟨cs,z,rfl,hz,hx,rfl⟩
 ·obtain⟨r,hr,hq⟩:=(qv he h1 e1).dw
  exact⟨_,bE r q hq,.ptr _ _ _ hr⟩
 ·obtain⟨r,q,hq,hc⟩:=(qv he h1 e1).eW
  exact⟨_,bE r q hq,.ai _ _ _ (q69 hc hz hx)⟩
theorem qob {t e:TypeId}{x i x' i' sz p iv v}(he:bw C env a.tmps)(ho:o.op=.indexAddr t x i)(ht:P.underlying t=I (.slice e))
  (hn:jm P e=I sz) (h1:qt x=I x') (h2:qt i=I i') (e1:qi env x'=I p) (e2:qi env i'=I iv)
  (hv:(∃b q len j,p=.ms b q len∧idx len iv=I j∧v=.ptr b (q+j*sz))∨(∃nl xs z j,p=.list nl sz xs∧idx xs.length iv=I j∧xs[j]?=I z∧v=.ai z)):Val P C a o w v:=by
 have bE:∀r q len cap j,a.eval x=.slice (I ⟨r,q,En⟩) len cap→idx len iv=I j→(execOp a.eval o).run P w=.ok (.value (.pointer (I ⟨r,q+j*sz,En⟩))) w:=by
  intro r q len cap j hq hj
  obtain⟨k,rfl,bz⟩:=Fp hj
  have hi:=(qv he h2 e2).bW
  simp[execOp,ho,Instr.indexAt,run_underlying ht,hq,hi,asIntOf,yl hn,bz,add_lit]
 rcases hv with⟨b,q,len,j,rfl,hj,rfl⟩|⟨nl,xs,z,j,rfl,hj,hz,rfl⟩
 ·obtain⟨r,cap,hr,_,hq⟩:=(qv he h1 e1).eX
  exact⟨_,bE r q len cap j hq hj,.ptr _ _ _ hr⟩
 ·rcases(qv he h1 e1).da with⟨rfl,rfl,hq⟩|⟨rfl,r,q,cap,hq,_,dl⟩|⟨rfl,rfl,_⟩
  ·simp at hz
  ·exact⟨_,bE r q _ cap j hq hj,.ai _ _ _ (dl.get hz)⟩
  ·simp at hz
theorem qpl {t e:TypeId}{x i x' i' len sz ag p iv v j}(he:bw C env a.tmps)(ho:o.op=.indexAddr t x i)(ht:P.underlying t=I (.array len e))
  (hn:jm P e=I sz) (h1:qt x=I x') (h2:qt i=I i') (e1:qi env x'=I p) (e2:qi env i'=I iv) (hj:idx len iv=I j)
  (hv:(∃b q,p=.ptr b q∧v=.ptr b (q+j*sz))∨(∃cs z,p=.ai (.agg cs)∧Abs.part ag cs (j*sz) sz=I z∧Gu ag z.isAgg=Es∧v=.ai z)):Val P C a o w v:=by
 have bE:∀r q,a.eval x=.pointer (I ⟨r,q,En⟩)→(execOp a.eval o).run P w=.ok (.value (.pointer (I ⟨r,q+j*sz,En⟩))) w:=by
  intro r q hq
  obtain⟨k,rfl,bz⟩:=Fp hj
  have hi:=(qv he h2 e2).bW
  simp[execOp,ho,Instr.indexAt,run_underlying ht,hq,hi,asIntOf,Instr.sureAddr,yl hn,bz,add_lit]
 rcases hv with⟨b,q,rfl,rfl⟩|⟨cs,z,rfl,hz,hx,rfl⟩
 ·obtain⟨r,hr,hq⟩:=(qv he h1 e1).dw
  exact⟨_,bE r q hq,.ptr _ _ _ hr⟩
 ·obtain⟨r,q,hq,hc⟩:=(qv he h1 e1).eW
  exact⟨_,bE r q hq,.ai _ _ _ (q69 hc hz hx)⟩
theorem Kx {x x' d n j}(he:bw C env a.tmps)(hc:mW x=I x')(hb:fC env d n x'=I j):
  (x=En∧j=d)∨(∃y k,x=I y∧a.eval y=.int k (j:Int)∧j≤n):=by
 cases x with
 |none=>simp[mW]at hc;subst hc;simp[fC]at hb;exact .inl ⟨rfl,hb.symm⟩
 |some x=>
  simp only[mW]at hc
  split at hc
  ·rename_i z hz
   cases hc
   simp only[fC]at hb
   split at hb
   ·rename_i v hv
    obtain⟨k,rfl,hle⟩:=jez hb
    exact .inr ⟨x,k,rfl,(qv he hz hv).bW,hle⟩
   ·cases hb
  ·cases hc
theorem Ky {lo hi lL fY len cap i j isS}(he:bw C env a.tmps)(h1:mW lo=I lL)(h2:mW hi=I fY)(b2:fC env len len fY=I j)(b1:fC env 0 j lL=I i)(hc:len≤cap)(w:World):
  (Instr.sliceBounds isS len cap (lo.map a.eval) (hi.map a.eval) En).run P w=.ok (i,j,cap) w∧i≤j∧j≤len:=by
 have k2:j≤len:=by
  rcases Kx he h2 b2 with⟨_,rfl⟩|⟨_,_,_,_,h⟩
  ·exact Gl _
  ·exact h
 have k1:i≤j:=by
  rcases Kx he h1 b1 with⟨_,rfl⟩|⟨_,_,_,_,h⟩
  ·exact Nat.zero_le _
  ·exact h
 refine⟨?_,k1,k2⟩
 have hj:j≤cap:=by omega
 rcases Kx he h2 b2 with⟨rfl,rfl⟩|⟨y,k,rfl,hy,_⟩<;>rcases Kx he h1 b1 with⟨rfl,rfl⟩|⟨z,k',rfl,hz,_⟩
 ·simp[Instr.sliceBounds]
 ·simp[Instr.sliceBounds,hz,Instr.sliceBound,asIntOf,k1]
 ·simp[Instr.sliceBounds,hy,Instr.sliceBound,asIntOf,hj]
 ·simp[Instr.sliceBounds,hy,hz,Instr.sliceBound,asIntOf,hj,k1]
theorem qzt {t e:TypeId}{x lo hi x' lL fY sz i j p v}(he:bw C env a.tmps)(ho:o.op=.slice t x lo hi En)(ht:P.underlying t=I (.slice e))
  (hn:jm P e=I sz) (h1:qt x=I x') (h2:mW lo=I lL) (h3:mW hi=I fY) (e1:qi env x'=I p)
  (hv:(∃b q len,p=.ms b q len∧fC env len len fY=I j∧fC env 0 j lL=I i∧(i=0∨i<j)∧v=.ms b (q+i*sz) (j-i)) ∨
   (∃nl dj xs,p=.list nl dj xs∧(sz=dj∨xs=[])∧fC env xs.length xs.length fY=I j∧fC env 0 j lL=I i∧v=.list nl dj ((xs.take j).drop i))):Val P C a o w v:=by
 have bE:∀b len cap,a.eval x=.slice b len cap→len≤cap→fC env len len fY=I j→fC env 0 j lL=I i →
   (execOp a.eval o).run P w=.ok (.value (.slice (if cap=i then b else b.map (·.add (i*sz))) (j-i) (cap-i))) w∧i≤j∧j≤len:=by
  intro b len cap hq hle b2 b1
  obtain⟨hb,k1,k2⟩:=Ky (P:=P) (isS:=true) he h2 h3 b2 b1 hle w
  refine⟨?_,k1,k2⟩
  simp[execOp,ho,Instr.sliceAt,Instr.slice,run_underlying ht,hq,hb,yl hn]
 rcases hv with⟨b,q,len,rfl,b2,b1,qH,rfl⟩|⟨nl,dj,xs,rfl,c7,b2,b1,rfl⟩
 ·obtain⟨r,cap,hr,hle,hq⟩:=(qv he h1 e1).eX
  obtain⟨hw,k1,k2⟩:=bE _ len cap hq hle b2 b1
  refine⟨_,hw,?_⟩
  by_cases hc:cap=i
  ·rw[if_pos hc]
   obtain rfl:i=0:=by omega
   simpa using aH.ms b q (j-0) r (cap-0) hr (by omega)
  ·rw[if_neg hc]
   simp only[G5,add_lit]
   exact .ms _ _ _ _ _ hr (by omega)
 ·rcases(qv he h1 e1).da with⟨rfl,rfl,hq⟩|⟨rfl,r,q,cap,hq,hle,dl⟩|⟨rfl,rfl,ad,mH,hq⟩
  ·obtain⟨hw,k1,k2⟩:=bE _ 0 0 hq (Gl _) b2 b1
   simp at k2
   obtain rfl:=k2
   obtain rfl:i=0:=by omega
   exact⟨_,hw,by simpa using aH.jI dj⟩
  ·obtain⟨hw,k1,k2⟩:=bE _ _ cap hq hle b2 b1
   refine⟨_,hw,?_⟩
   have hl:((xs.take j).drop i).length=j-i:=by simp;omega
   rw[←hl]
   by_cases hc:cap=i
   ·rw[if_pos hc]
    have kJ:(xs.take j).drop i=[]:=Gf (by simp;omega)
    rw[kJ]
    exact .list _ _ _ _ _ (by simp) (.fL _ _ _)
   ·rw[if_neg hc]
    simp only[G5,add_lit]
    refine .list _ _ _ _ _ (by rw[hl];omega) ?_
    rcases c7 with rfl|rfl
    ·exact bA.drop i (bA.take j dl)
    ·simpa using aH.fL _ _ _
  ·obtain⟨hw,k1,k2⟩:=bE _ 0 0 hq (Gl _) b2 b1
   simp at k2
   obtain rfl:=k2
   obtain rfl:i=0:=by omega
   exact⟨_,hw,by simpa using aH.jJ dj ad mH⟩
theorem q4k {t e:TypeId}{x lo hi x' lL fY len sz i j b q}(he:bw C env a.tmps)(ho:o.op=.slice t x lo hi En)(ht:P.underlying t=I (.array len e))
  (hn:jm P e=I sz) (h1:qt x=I x') (h2:mW lo=I lL) (h3:mW hi=I fY) (e1:qi env x'=I (.ptr b q)) (b2:fC env len len fY=I j) (b1:fC env 0 j lL=I i) (qH:i=0∨i<j):Val P C a o w (.ms b (q+i*sz) (j-i)):=by
 obtain⟨r,hr,hq⟩:=(qv he h1 e1).dw
 obtain⟨hb,k1,k2⟩:=Ky (P:=P) (isS:=false) he h2 h3 b2 b1 (Gl len) w
 refine⟨_,by simp[execOp,ho,Instr.sliceAt,Instr.sureAddr,run_underlying ht,hq,hb,yl hn];rfl,?_⟩
 by_cases hc:len=i
 ·rw[if_pos hc]
  obtain rfl:i=0:=by omega
  simpa using aH.ms b q (j-0) r (len-0) hr (by omega)
 ·rw[if_neg hc]
  simp only[add_lit]
  exact .ms _ _ _ _ _ hr (by omega)
theorem q0k (s:List UInt8)(i j:Nat):(⟨⟨s⟩⟩:ByteArray).extract i j=⟨⟨(s.take j).drop i⟩⟩:=by
 apply ByteArray.ext
 rw[ByteArray.data_extract]
 apply Gy
 simp[List.extract_eq_take_drop,List.drop_take]
theorem q16 {t:TypeId}{x lo hi x' lL fY i j s}(he:bw C env a.tmps)(ho:o.op=.slice t x lo hi En)(ht:P.underlying t=I .string)
  (h1:qt x=I x') (h2:mW lo=I lL) (h3:mW hi=I fY) (e1:qi env x'=I (.str s)) (b2:fC env s.length s.length fY=I j) (b1:fC env 0 j lL=I i):Val P C a o w (.str ((s.take j).drop i)):=by
 have hq:=(qv he h1 e1).cw
 obtain⟨hb,k1,k2⟩:=Ky (P:=P) (isS:=false) he h2 h3 b2 b1 (Gl s.length) w
 have c7:(⟨⟨s⟩⟩:ByteArray).size=s.length:=rfl
 refine⟨.string ⟨⟨(s.take j).drop i⟩⟩,?_,.str _⟩
 simp[execOp,ho,Instr.sliceAt,Instr.slice,run_underlying ht,hq,c7,hb,q0k]
theorem q9x {k xs ys fQ n9 us vs}(he:bw C env a.tmps)(ho:o.op=.makeFunc (.func k) xs ys)(h1:pw xs.toList=I fQ)(h2:pw ys.toList=I n9)(e1:kz env fQ=I us)(e2:kz env n9=I vs):
  Val P C a o w (.fn (.func k) us vs):=by
 refine⟨.func (.func k) (xs.map a.eval) (ys.map a.eval),by simp[execOp,ho,Instr.makeFunc],?_⟩
 have r1:=Dr he h1 e1
 have r2:=Dr he h2 e2
 have q1:xs.map a.eval=⟨xs.toList.map a.eval⟩:=by apply Gy;simp
 have q2:ys.map a.eval=⟨ys.toList.map a.eval⟩:=by apply Gy;simp
 rw[q1,q2]
 exact .fn _ _ _ _ _ _ rfl r1 r2
theorem Qx {c x}{t:TypeId}{x' p n}(he:bw C env a.tmps)(ho:o.op=.call c)(ea:c.callee=.builtin .len)(eo:c.args.toList=[x])(eP:c.argTypes.toList=[t])
  (h1:qt x=I x') (e1:qi env x'=I p)
  (hv:(P.underlying t=I .string∧∃s,p=.str s∧n=s.length)∨((∃e,P.underlying t=I (.slice e))∧((∃nl sz xs,p=.list nl sz xs∧n=xs.length)∨(∃b q,p=.ms b q n)))):Val P C a o w (.int .i64 n):=by
 have ha:c.args=#[x]:=by apply Gy;simpa using eo
 have lM:c.argTypes=#[t]:=by apply Gy;simpa using eP
 refine⟨.int .i64 n,?_,.int _ _⟩
 simp only[execOp,ho,resolve,ea,ha,lM,Sem.run_bind,Sem.run_pure,Result.andThen_ok,invoke,builtin,Builtin.len_]
 rcases hv with⟨ht,s,rfl,rfl⟩|⟨⟨e,ht⟩,⟨nl,sz,xs,rfl,rfl⟩|⟨b,q,rfl⟩⟩
 ·have hq:=(qv he h1 e1).cw
  simp[run_underlying ht,hq,goInt]
  rfl
 ·obtain⟨b,cap,hq⟩:=(qv he h1 e1).len
  simp[run_underlying ht,hq,goInt]
 ·obtain⟨r,cap,_,_,hq⟩:=(qv he h1 e1).eX
  simp[run_underlying ht,hq,goInt]
theorem Qy {f:AVal→AVal→Option AVal}{g:Value→Value→Sem Value}(hfg:∀x y z u v,f x y=I z→bT C x u→bT C y v→∃q,(g u v).run P w=.ok q w∧bT C z q):
  ∀(ys:List AVal) (x z:AVal) (u:Value) (vs:List Value),nU f x ys=I z→bT C x u→aW C ys vs→∃q,(vs.foldlM g u).run P w=.ok q w∧bT C z q
 | [],x,z,u,vs,h,hx,hy=>by
  cases hy
  simp[nU]at h;subst h
  exact⟨u,rfl,hx⟩
 |y::ys,x,z,u,vs,h,hx,hy=>by
  cases hy with
  |cons _ _ v vs hy hr=>
   simp only[nU]at h
   split at h
   ·rename_i z1 lN
    obtain⟨q,hq,rq⟩:=hfg x y z1 u v lN hx hy
    obtain⟨q2,hq2,rq2⟩:=Qy hfg ys z1 z q vs h rq hr
    exact⟨q2,by simp[List.foldlM_cons,hq,hq2],rq2⟩
   ·cases h
theorem jc4 {c:Call}{fQ:List js}{p v:AVal}{ps:List AVal}{mx:Bool}(he:bw C env a.tmps)(ho:o.op=.call c)(ea:c.callee=.builtin (if mx then .max else .min))(h1:pw c.args.toList=I fQ)(e1:kz env fQ=I (p::ps))
  (hv:nU (if mx then max2 else min2) p ps=I v):Val P C a o w v:=by
 have r1:=Dr he h1 e1
 have ey:(c.args.map a.eval).toList=c.args.toList.map a.eval:=by simp
 cases mx
 ·generalize hl:c.args.toList.map a.eval=l at r1
  cases r1 with
  |cons _ _ u us hu gV=>
   obtain⟨q,hq,rq⟩:=Qy (P:=P) (w:=w) (C:=C) (f:=min2) (g:=Builtin.min2) (fun x y z u v h hx hy=>by
    unfold min2 at h
    split at h<;>first|cases h|skip
    rename_i k n k' m
    by_cases hk:k=k'
    ·subst hk;simp at h;subst h
     obtain rfl:=hx.bW
     obtain rfl:=hy.bW
     exact⟨_,rfl,.int _ _⟩
    ·simp[hk]at h) ps p v u us (by simpa using hv) hu gV
   refine⟨q,?_,rq⟩
   simp only[Gt,if_false]at ea
   simp[execOp,ho,resolve,ea,invoke,builtin,Builtin.min_,hl,hq]
 ·generalize hl:c.args.toList.map a.eval=l at r1
  cases r1 with
  |cons _ _ u us hu gV=>
   obtain⟨q,hq,rq⟩:=Qy (P:=P) (w:=w) (C:=C) (f:=max2) (g:=Builtin.max2) (fun x y z u v h hx hy=>by
    unfold max2 at h
    split at h<;>first|cases h|skip
    rename_i k n k' m
    by_cases hk:k=k'
    ·subst hk;simp at h;subst h
     obtain rfl:=hx.bW
     obtain rfl:=hy.bW
     exact⟨_,rfl,.int _ _⟩
    ·simp[hk]at h) ps p v u us (by simpa using hv) hu gV
   refine⟨q,?_,rq⟩
   simp only[if_true]at ea
   simp[execOp,ho,resolve,ea,invoke,builtin,Builtin.max_,hl,hq]
theorem q6t {x x' i vs v}(he:bw C env a.tmps)(ho:o.op=.extract x i)(h1:qt x=I x')(e1:qi env x'=I (.aI vs))(hv:vs[i]?=I v):Val P C a o w v:=by
 obtain⟨us,hu,ru⟩:=(qv he h1 e1).n8
 obtain⟨u,h1,h2⟩:=ru.get hv
 exact⟨u,by simp[execOp,ho,hu,Instr.extract,h1],h2⟩
end
section
variable {P:Program}{C:aK}{w:World}{env:Env}{a:Act}{o:Oper}
theorem Al {x v}(h:bT C x v)(hs:x.flat.all ql=E9):aW C x.flat v.cells.toList:=by
 cases h<;>first
  |(simp only[AVal.flat,Value.cells];exact .cons _ _ _ _ (by constructor<;>assumption) .nil)
  |skip
 ·simpa[AVal.flat,Value.cells]
 all_goals first|done|exact absurd hs (by simp[AVal.flat,ql])|skip
theorem qzh (off:Nat):∀(l:List Value) (k:Nat) (cs:Array Value),off+k+l.length≤cs.size →
  ((l.zipIdx k).foldl (fun cs (x:Value×Nat)=>cs.setIfInBounds (off+x.2) x.1) cs).toList=cs.toList.take (off+k)++l++cs.toList.drop (off+k+l.length)
 | [],k,cs,_=>by simp
 |v::l,k,cs,h=>by
  simp only[List.zipIdx_cons,List.foldl_cons]
  simp at h
  rw[qzh off l (k+1) (cs.setIfInBounds (off+k) v) (by simp;omega)]
  have bz:off+k<cs.toList.length:=by simp;omega
  rw[Array.toList_setIfInBounds]
  have e1:(cs.toList.set (off+k) v).take (off+(k+1))=cs.toList.take (off+k)++[v]:=by
   rw[←G3,List.take_succ_eq_append_getElem (by simpa using bz),List.take_set,List.set_eq_of_length_le (by simp;omega),List.getElem_set_self]
  have e2:(cs.toList.set (off+k) v).drop (off+(k+1)+l.length)=cs.toList.drop (off+k+(v::l).length):=by
   rw[List.drop_set_of_lt (by omega)]
   congr 1
   simp;omega
  rw[e1,e2]
  simp
inductive Du (C:aK)(place:Nat→Option (Nat×Nat)):List (Nat×Value)→List (Nat×List AVal)→Prop where
 |nil:Du C place [] []
 |cons (i:Nat) (v:Value) (off:Nat) (vs:List AVal) (ps:List (Nat×Value)) (qs:List (Nat×List AVal)) (h1:place i=I (off,vs.length)) (h2:aW C vs v.cells.toList) (h:Du C place ps qs):Du C place ((i,v)::ps) ((off,vs)::qs)
theorem Kz {place}:∀(ps:List (Nat×Value)) (qs:List (Nat×List AVal)) (xs ys:List AVal) (cs:Array Value),aW C xs cs.toList→jU xs qs=I ys →
  Du C place ps qs →
  ∃ds,Instr.fill place cs ps=I ds∧aW C ys ds.toList
 | [],qs,xs,ys,cs,hx,hf,hp=>by
  cases hp
  simp[jU]at hf
  subst hf
  exact⟨cs,rfl,hx⟩
 |_::ps,qs,xs,ys,cs,hx,hf,hp=>by
  cases hp with
  |cons i v off vs _ qs Fq hr htl=>
   simp only[jU]at hf
   cases hb:Ga (off+vs.length) xs.length with
   |false=>simp[hb]at hf
   |true=>
    simp only[hb,cond_true]at hf
    have hle:=Gn hb
    have ig:=hx.length
    have oc:=hr.length
    simp at ig oc
    have qI:=qzh off v.cells.toList 0 cs (by simp;omega)
    have hz:v.cells.zipIdx.foldl (fun cs (x:Value×Nat)=>cs.setIfInBounds (off+x.2) x.1) cs=(v.cells.toList.zipIdx 0).foldl (fun cs (x:Value×Nat)=>cs.setIfInBounds (off+x.2) x.1) cs:=by
     rw[←Array.foldl_toList,Array.toList_zipIdx]
    obtain⟨ds,h1,h2⟩:=Kz (place:=place) ps qs _ ys (v.cells.zipIdx.foldl (fun cs (x:Value×Nat)=>cs.setIfInBounds (off+x.2) x.1) cs) (by
     rw[hz,qI]
     simp only[Nat.add_zero,Array.length_toList,oc]
     exact aW.append (aW.append (hx.take off) hr) (hx.drop _)) hf htl
    refine⟨ds,?_,h2⟩
    simp only[Instr.fill,Fq]
    rw[if_neg (by simp;omega)]
    exact h1
theorem Qz {place}(he:bw C env a.tmps):∀(ps:List (Nat×Operand)) (fR:List (Nat×Nat×js)) (qs:List (Nat×List AVal)),xI P place ps=I fR→kn env fR=I qs →
  Du C place (ps.map fun x=>(x.1,a.eval x.2)) qs
 | [],fR,qs,hc,hv=>by
  simp[xI]at hc;subst hc
  simp[kn]at hv;subst hv
  exact .nil
 |(i,x)::ps,fR,qs,hc,hv=>by
  simp only[xI]at hc
  split at hc
  ·rename_i off n y r Fq hy hr
   cases hc
   simp only[kn]at hv
   split at hv
   ·rename_i v iN
    cases hb:(Gd v.flat.length n&&v.flat.all ql)with
    |false=>simp[hb]at hv
    |true=>
     simp only[hb,cond_true]at hv
     simp only[G4]at hb
     split at hv
     ·rename_i r' jW
      cases hv
      have hl:=G2 hb.1
      exact .cons _ _ _ _ _ _ (by rw[Fq,hl]) (Al (qv he hy iN) hb.2) (Qz he ps r r' hr jW)
     ·cases hv
   ·cases hv
  ·cases hc
theorem qz4 {t:TypeId}{z}(h:yr P t=I z)(w:World):∃v,(zeroValue t).run P w=.ok v w∧aW C z v.cells.toList∧∃i,P.info? t=I i∧i.zero=I v:=by
 unfold yr at h
 split at h
 ·rename_i i hi
  split at h
  ·rename_i v hv
   exact⟨v,by simp[zeroValue,typeInfo,hi,hv],Kr C h,i,hi,hv⟩
  ·cases h
 ·cases h
theorem qsf {fs:Array Field}(w:World):∀(l:List Field),(∀f∈l,(jm P f.type).isSome)→(l.mapM fun(f:Field)=>(do pure (f.offset,←sizeOf f.type):Sem (Nat×Nat))).run P w=.ok (l.map fun f=>(f.offset,(jm P f.type).getD 0)) w
 | [],_=>rfl
 |f::l,h=>by
  obtain⟨n,hn⟩:=Gx.1 (h f (by simp))
  simp only[List.mapM_cons,Sem.run_bind,yl hn,Result.andThen_ok,Sem.run_pure,qsf (fs:=fs) w l (fun g hg=>h g (by simp[hg])),Ha,hn,Option.getD_some]
theorem qu6 {t:TypeId}{ps fs z fR qs cs}(he:bw C env a.tmps)(ho:o.op=.build t ps)(ht:P.underlying t=I (.struct fs))(hz:yr P t=I z)
  (hall:∀f∈fs.toList,(jm P f.type).isSome) (mI:xI P (fun i=>match fs[i]? with|some f=>(jm P f.type).map fun n=>(f.offset,n)|none=>En) ps.toList=I fR) (hq:kn env fR=I qs) (hf:jU z qs=I cs):Val P C a o w (.agg cs):=by
 obtain⟨zv,lu,cT,_⟩:=qz4 (C:=C) hz w
 have hm:=qsf (P:=P) (fs:=fs) w fs.toList hall
 have qJ:=Qz (P:=P) he ps.toList fR qs mI hq
 have Am:(fun(i:Nat)=>match fs[i]? with|some f=>(jm P f.type).map fun n=>(f.offset,n)|none=>En)=fun(i:Nat)=>((fs.toList.map fun f=>(f.offset,(jm P f.type).getD 0)).toArray)[i]?:=by
  funext i
  have hm:∀f,fs[i]?=I f→f∈fs.toList:=fun f h=>by rw[Array.mem_toList_iff];exact Array.mem_of_getElem? h
  obtain⟨l⟩:=fs
  simp only[Gz,List.getElem?_map]at hm ⊢
  cases h:l[i]? with
  |none=>rfl
  |some f=>
   obtain⟨n,hn⟩:=Gx.1 (hall f (hm f h))
   simp[hn]
 rw[Am]at qJ
 obtain⟨ds,hd,hr⟩:=Kz (ps.toList.map fun x=>(x.1,a.eval x.2)) qs z cs zv.cells cT hf qJ
 refine⟨.agg ds,?_,.agg cs ds.toList hr⟩
 have lO:(fs.mapM fun(f:Field)=>(do pure (f.offset,←sizeOf f.type):Sem (Nat×Nat))).run P w=.ok ((fs.toList.map fun f=>(f.offset,(jm P f.type).getD 0)).toArray) w:=by
  rw[Array.mapM_eq_mapM_toList]
  simp only[Sem.run_map]
  rw[hm]
  rfl
 have uM:(ps.map fun(x:Nat×Operand)=>(x.1,a.eval x.2)).toList=ps.toList.map fun x=>(x.1,a.eval x.2):=by simp
 simp only[execOp,ho,Instr.build,Sem.run_bind,lu,Result.andThen_ok,run_underlying ht,lO,uM,hd,Sem.run_pure]
theorem qx9 {t e:TypeId}{ps len n z fR qs cs}(he:bw C env a.tmps)(ho:o.op=.build t ps)(ht:P.underlying t=I (.array len e))(hz:yr P t=I z)
  (hn:jm P e=I n) (mI:xI P (fun i=>I (i*n,n)) ps.toList=I fR) (hq:kn env fR=I qs) (hf:jU z qs=I cs):Val P C a o w (.agg cs):=by
 obtain⟨zv,lu,cT,_⟩:=qz4 (C:=C) hz w
 have qJ:=Qz (P:=P) he ps.toList fR qs mI hq
 obtain⟨ds,hd,hr⟩:=Kz (ps.toList.map fun x=>(x.1,a.eval x.2)) qs z cs zv.cells cT hf qJ
 refine⟨.agg ds,?_,.agg cs ds.toList hr⟩
 have uM:(ps.map fun(x:Nat×Operand)=>(x.1,a.eval x.2)).toList=ps.toList.map fun x=>(x.1,a.eval x.2):=by simp
 simp only[execOp,ho,Instr.build,Sem.run_bind,lu,Result.andThen_ok,run_underlying ht,yl hn,uM,hd,Sem.run_pure]
theorem qn9 {sz}(he:bw C env a.tmps):∀(ps:List (Nat×Operand)) (fR:List (Nat×js)) (qs:List (Nat×AVal)),xJ ps=I fR→yc env sz fR=I qs →
  Du C (fun i=>I (i*sz,sz)) (ps.map fun x=>(x.1,a.eval x.2)) (qs.map fun x=>(x.1*sz,x.2.flat))∧∀q∈qs,q.2.flat.length=sz
 | [],fR,qs,hc,hv=>by
  simp[xJ]at hc;subst hc
  simp[yc]at hv;subst hv
  exact⟨.nil,by simp⟩
 |(i,x)::ps,fR,qs,hc,hv=>by
  simp only[xJ]at hc
  split at hc
  ·rename_i y r hy hr
   cases hc
   simp only[yc]at hv
   split at hv
   ·rename_i v iN
    cases hb:(Gd v.flat.length sz&&v.flat.all ql)with
    |false=>simp[hb]at hv
    |true=>
     simp only[hb,cond_true]at hv
     simp only[G4]at hb
     split at hv
     ·rename_i r' jW
      cases hv
      have hl:=G2 hb.1
      obtain⟨h1,h2⟩:=qn9 he ps r r' hr jW
      refine⟨.cons _ _ _ _ _ _ (by rw[hl]) (Al (qv he hy iN) hb.2) h1,?_⟩
      intro q hq
      rcases G6.1 hq with rfl|hq
      ·exact hl
      ·exact h2 q hq
     ·cases hv
   ·cases hv
  ·cases hc
theorem qsa {sz}:∀(xs:List AVal) (i:Nat) (v:AVal),(∀x∈xs,x.flat.length=sz)→v.flat.length=sz→i<xs.length →
  (xs.set i v).flatMap AVal.flat=(xs.flatMap AVal.flat).take (i*sz)++v.flat++(xs.flatMap AVal.flat).drop (i*sz+sz)
 | [],i,v,_,_,h=>by simp at h
 |x::xs,0,v,hl,hv,_=>by
  simp only[List.set_cons_zero,Gs,Nat.zero_mul,List.take_zero,List.nil_append,Nat.zero_add]
  rw[List.drop_append_of_le_length (by rw[hl x (by simp)];exact Gl _),Gf (by rw[hl x (by simp)];exact Gl _)]
  simp
 |x::xs,i+1,v,hl,hv,h=>by
  simp only[List.set_cons_succ,Gs]
  rw[qsa xs i v (fun y hy=>hl y (by simp[hy])) hv (by simpa using h)]
  have hx:=hl x (by simp)
  have e1:(i+1)*sz=x.flat.length+i*sz:=by rw[hx,Gj];omega
  have t1:List.take (x.flat.length+i*sz) (x.flat++xs.flatMap AVal.flat)=x.flat++(xs.flatMap AVal.flat).take (i*sz):=List.take_length_add_append _
  have t2:List.drop (x.flat.length+i*sz+sz) (x.flat++xs.flatMap AVal.flat)=(xs.flatMap AVal.flat).drop (i*sz+sz):=by
   rw[G3];exact List.drop_length_add_append _
  rw[e1,t1,t2]
  simp
theorem yj {sz}:∀(xs:List AVal),(∀x∈xs,x.flat.length=sz)→(xs.flatMap AVal.flat).length=xs.length*sz
 | [],_=>by simp
 |x::xs,h=>by
  simp only[Gs,List.length_append,List.length_cons]
  rw[yj xs (fun y hy=>h y (by simp[hy])),h x (by simp),Gj];omega
theorem qwy {sz}:∀(qs:List (Nat×AVal)) (xs ys:List AVal),lI xs qs=I ys→(∀x∈xs,x.flat.length=sz)→(∀q∈qs,q.2.flat.length=sz) →
  jU (xs.flatMap AVal.flat) (qs.map fun x=>(x.1*sz,x.2.flat))=I (ys.flatMap AVal.flat)∧(∀y∈ys,y.flat.length=sz)∧ys.length=xs.length
 | [],xs,ys,h,hx,_=>by simp[lI]at h;subst h;exact⟨rfl,hx,rfl⟩
 |(i,v)::qs,xs,ys,h,hx,hq=>by
  simp only[lI]at h
  cases hb:Ge i xs.length with
  |false=>simp[hb]at h
  |true=>
   simp only[hb,cond_true]at h
   have bz:i<xs.length:=by have:=Gn hb;omega
   have hv:=hq (i,v) (by simp)
   obtain⟨h1,h2,h3⟩:=qwy qs (xs.set i v) ys h (fun y hy=>by
    rcases List.mem_or_eq_of_mem_set hy with h|rfl
    ·exact hx y h
    ·exact hv) (fun q h=>hq q (by simp[h]))
   refine⟨?_,h2,by simpa using h3⟩
   have hl:=yj xs hx
   have hle:i*sz+sz≤xs.length*sz:=by rw[←Gj];exact Nat.mul_le_mul_right _ bz
   simp only[Ha,jU]
   rw[show Ga (i*sz+v.flat.length) (xs.flatMap AVal.flat).length=E9 from by rw[Nat.ble_eq];simp only at hv;omega]
   simp only[cond_true]
   rw[qsa xs i v hx hv bz]at h1
   simp only at hv
   rw[hv]
   exact h1
end
end Go.Abs
