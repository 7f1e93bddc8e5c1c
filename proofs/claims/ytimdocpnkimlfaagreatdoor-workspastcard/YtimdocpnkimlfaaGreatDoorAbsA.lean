/- The abstract machine. -/
import Derived.Deep.AppendSrc
import Derived.Lib.LaidTab
import Derived.Lib.ItoaNum
import Derived.WalkSpells
import Derived.Laws.Cover3
set_option linter.unusedVariables false
set_option linter.unusedSimpArgs false
open Option renaming some→I,none→En,isSome_iff_exists→G7,map_some→Hd
open Bool renaming false→Ga,true→Gb,false_eq_true→Gx,xor→Gy,and_eq_true→Hc,not_true→If
open Nat renaming ble→Gd,beq→Ge,blt→Gh,succ_mul→Gm,le_refl→Gn,le_of_ble_eq_true→Gr,lt_of_lt_of_le→Gs,eq_of_beq_eq_true→Ha,add_assoc→Hb
open List renaming drop_eq_nil_of_le→Gi,replicate→Gq,flatMap_cons→Gt,getElem?_eq_some_iff→Gz,getElem?_toArray→G9,mem_cons→He,map_cons→Ig
open Array renaming getElem?_eq_some_iff→Gj,ext'→G8
namespace Go.Abs
inductive AVal where
 |bool (b:Bool)
 |int (k:IntKind) (n:Int)
 |str (s:List UInt8)
 |list (isNil:Bool) (sz:Nat) (xs:List AVal)
 |ms (b off len:Nat)
 |ptr (b off:Nat)
 |ai (v:AVal)
 |b8
 |map (b:Nat)
 |b4
 |fn (f:Fn) (first captured:List AVal)
 |cx
 |agg (cs:List AVal)
 |aJ (vs:List AVal)
 |undef
 |any
 |db (n:Nat)
 |aj (b bL len:Nat)
 |dE (b bL off:Nat)
 deriving Inhabited
inductive js where
 |tmp (t:Nat)
 |const (v:AVal)
 deriving Inhabited
inductive Kd where
 |int|str|bool
 deriving DecidableEq,Inhabited
inductive eE where
 |bY|fL (r:Nat)|shr|red
 deriving DecidableEq,Inhabited
inductive cV where
 |move (x:js)
 |take (s:Nat)
 |pick (c a b:js)
 |alloc (r:Nat) (zero:List AVal)
 |box (r n:Nat) (x:js)
 |oC (n:Nat) (x:js)
 |gE (n:Nat)
 |eb (n s:Nat) (x:js)
 |fX (r t e:Nat)
 |build (zero:List AVal) (parts:List (Nat×Nat×js))
 |buildSlice (sz len:Nat) (zero:List AVal) (parts:List (Nat×js))
 |load (agg:Bool) (n:Nat) (x:js)
 |fB (agg:Bool) (n:Nat) (x:js)
 |cB (off:Option Nat) (x:js)
 |store (n:Nat) (a v:js)
 |nilCheck (x:js)
 |bin (op:BinOp) (x y:js)
 |eqs (ks:List Kd) (neq:Bool) (x y:js)
 |beq (neq:Bool) (x y:js)
 |fC (k:Nat) (neq:Bool) (x:js)
 |un (op:UnOp) (x:js)
 |conv (k:IntKind) (x:js)
 |fm (x:js)
 |field (agg:Bool) (off n:Nat) (x:js)
 |index (agg:Bool) (len n:Nat) (x i:js)
 |eF (x i:js)
 |fieldAddr (agg:Bool) (off n:Nat) (x:js)
 |indexAddr (sz:Nat) (x i:js)
 |eX (agg:Bool) (len sz:Nat) (x i:js)
 |slice (sz:Nat) (x:js) (lo hi:Option js)
 |eY (x:js) (lo hi:Option js)
 |fY (len sz:Nat) (x:js) (lo hi:Option js)
 |gF (f:Fn) (first captured:List js)
 |eG (r:Nat)
 |lookup (kd:Kd) (zero:AVal) (ok:Bool) (m k:js)
 |mapUpdate (kd:Kd) (m k v:js)
 |delete (kd:Kd) (m k:js)
 |cu (r:Option Nat) (sz bytes:Nat) (zero:List AVal) (n c:js)
 |len (k:Nat) (x:js)
 |append (r:Option Nat) (sz bytes:Nat) (x y:js)
 |ig (r sz bytes:Nat) (x y:js)
 |ij (r sz len:Nat) (zero:List AVal) (parts:List (Nat×js))
 |copy (sz:Nat) (x y:js)
 |mx (args:List js)
 |mn (args:List js)
 |extract (x:js) (i:Nat)
 |call (md:eE) (f:js) (args:List js)
 |dK (r:Nat) (x:js)
 |fD (it:js)
 |bad
 deriving Inhabited
structure b9 where
 dst:Option Nat
 op:cV
 guard:Option (Nat×Bool)
 al:Option (List Nat)
 deriving Inhabited
inductive aw where
 |skip
 |region (na:Nat) (ops:List b9) (keep:Option (List Nat))
 |seq (a b:aw)
 |cond (c:js) (a b:aw)
 |block (id:Nat) (body:aw)
 |loop (body:aw)
 |rangeFunc (f:js) (params:List Nat) (assign body:aw)
 |exit (id:Nat)
 |ret
 |grow (sz:Nat)
 |stuck
 deriving Inhabited
abbrev Env:=List (Nat×AVal×Bool)
inductive jf where
 |normal
 |exit (id:Nat)
 |ret
 deriving DecidableEq,Inhabited
structure jmp where
 env:Env
 params:List Nat
 assign:aw
 body:aw
 pending:Option jf
 deriving Inhabited
def zz:aw→Bool
 | .seq a b=>zz a&&zz b
 | .cond _ a b=>zz a&&zz b
 | .block _ b=>zz b
 | .loop b=>zz b
 | .rangeFunc ..=>Ga
 |_=>Gb
def fE (e:Env):Env:=e.map fun x=>(x.1,x.2.1,Ga)
inductive bh where
 |hole
 |cells (cs:List (AVal×Bool))
 |map (es:List (AVal×AVal))
 |iter (s:List UInt8) (pos:Nat)
 |loop (l:jmp)
 |fX (t e:Nat) (l:List UInt8)
 |dead
 |vec (sz bL:Nat) (xs:List AVal)
 deriving Inhabited
abbrev qi:=List bh
structure aY where
 env:Env
 heap:qi
 deriving Inhabited
inductive mO where
 |tmp (t:Nat)
 |cell (t:Nat) (agg:Bool) (n:Nat)
 deriving Inhabited
structure ax where
 ntmps:Nat
 body:aw
 results:List mO
 deriving Inhabited
abbrev xQ:=Nat→Option (List AVal→Option (AVal×Bool))
abbrev je2:=Nat→Option (List AVal→qi→Option (AVal×Bool×qi))
abbrev Qr:=Nat→Option (List (AVal×AVal))
structure jz where
 bO:Nat→Option ax
 cN:xQ
 dS:je2:=fun _=>En
 maps:Qr:=fun _=>En
def ji (t:Nat):Env→Option (AVal×Bool)
 | []=>En
 |(s,x)::e=>bif Ge s t then I x else ji t e
def qh (e:Env):js→Option AVal
 | .tmp t=>match ji t e with
  |some x=>I x.1
  |none=>En
 | .const v=>I v
def ky (e:Env):List js→Option (List AVal)
 | []=>I []
 |x::xs=>match qh e x with
  |some v=>match ky e xs with
   |some vs=>I (v::vs)
   |none=>En
  |none=>En
def qD (e:Env):List Nat→Env
 | []=>[]
 |t::ts=>match ji t e with
  |some x=>(t,x)::qD e ts
  |none=>qD e ts
def qE:IntKind→Int→Bool
 | .i64,.ofNat m=>Gd m 9223372036854775807
 | .i64,.negSucc m=>Gd m 9223372036854775807
 | .i32,.ofNat m=>Gd m 2147483647
 | .i32,.negSucc m=>Gd m 2147483647
 | .i16,.ofNat m=>Gd m 32767
 | .i16,.negSucc m=>Gd m 32767
 | .i8,.ofNat m=>Gd m 127
 | .i8,.negSucc m=>Gd m 127
 | .u64,.ofNat m=>Gd m 18446744073709551615
 | .u32,.ofNat m=>Gd m 4294967295
 | .u16,.ofNat m=>Gd m 65535
 | .u8,.ofNat m=>Gd m 255
 |_,.negSucc _=>Ga
def qe (k:IntKind)(n:Int):Int:=bif qE k n then n else k.wrap n
def AVal.flat:AVal→List AVal
 | .agg cs=>cs
 |v=>[v]
def AVal.isAgg:AVal→Bool
 | .agg _=>Gb
 |_=>Ga
def AVal.cR:AVal→Bool
 | .list ..=>Gb
 |_=>Ga
def lv:Kd→AVal→AVal→Option Bool
 | .int,.int k a,.int k' b=>bif decide (k=k')then I (a == b)else En
 | .str,.str a,.str b=>I (a == b)
 | .bool,.bool a,.bool b=>I (a == b)
 |_,_,_=>En
def ya:List Kd→List AVal→List AVal→Option Bool
 | [],[],[]=>I Gb
 |k::ks,x::xs,y::ys=>match lv k x y with
  |some Gb=>ya ks xs ys
  |some Ga=>I Ga
  |none=>En
 |_,_,_=>En
def part (agg:Bool)(cs:List AVal)(off n:Nat):Option AVal:=
 bif agg then(bif Gd (off+n) cs.length then I (.agg ((cs.drop off).take n))else En)else cs[off]?
def bytesLess:List UInt8→List UInt8→Bool
 |_,[]=>Ga
 | [],_::_=>Gb
 |a::x,b::y=>a<b||(a == b&&bytesLess x y)
def oD (op:BinOp)(k:IntKind)(x y:Int):Option AVal:=
 match op with
 | .add=>I (.int k (qe k (x+y)))
 | .sub=>I (.int k (qe k (x-y)))
 | .mul=>I (.int k (qe k (x*y)))
 | .quo=>bif y == 0 then En else I (.int k (qe k (x.tdiv y)))
 | .rem=>bif y == 0 then En else I (.int k (x.tmod y))
 | .eql=>I (.bool (x == y))
 | .neq=>I (.bool (x != y))
 | .lss=>I (.bool (decide (x<y)))
 | .leq=>I (.bool (decide (x≤y)))
 | .gtr=>I (.bool (decide (x > y)))
 | .geq=>I (.bool (decide (x≥y)))
 | .and=>I (.int k (k.wrap (BitVec.ofInt k.bits x &&& BitVec.ofInt k.bits y).toNat))
 | .or=>I (.int k (k.wrap (BitVec.ofInt k.bits x ||| BitVec.ofInt k.bits y).toNat))
 | .xor=>I (.int k (k.wrap (BitVec.ofInt k.bits x ^^^ BitVec.ofInt k.bits y).toNat))
 | .andNot=>I (.int k (k.wrap (BitVec.ofInt k.bits x &&& ~~~BitVec.ofInt k.bits y).toNat))
 |_=>En
def Kk (op:BinOp)(k:IntKind)(x y:Int):Option AVal:=
 bif decide (y<0)then En else
 match op with
 | .shl=>I (.int k (qe k (x*2^(min y.toNat k.bits))))
 | .shr=>I (.int k (x.fdiv (2^(min y.toNat k.bits))))
 |_=>En
def Fg (op:BinOp)(x y:List UInt8):Option AVal:=
 match op with
 | .add=>bif Gd (x.length+y.length) 4611686018427387904 then I (.str (x++y))else En
 | .eql=>I (.bool (x == y))
 | .neq=>I (.bool !(x == y))
 | .lss=>I (.bool (bytesLess x y))
 | .leq=>I (.bool (bytesLess x y||x == y))
 | .gtr=>I (.bool !(bytesLess x y||x == y))
 | .geq=>I (.bool !(bytesLess x y))
 |_=>En
def yu (op:BinOp):AVal→AVal→Option AVal
 | .int k x,.int k' y=>match op with
  | .shl=>Kk .shl k x y
  | .shr=>Kk .shr k x y
  |op=>bif decide (k=k')then oD op k x y else En
 | .str x,.str y=>Fg op x y
 |_,_=>En
def xR:UnOp→AVal→Option AVal
 | .neg,.int k n=>I (.int k (qe k (0-n)))
 | .not,.bool b=>I (.bool !b)
 |_,_=>En
def max2:AVal→AVal→Option AVal
 | .int k x,.int k' y=>bif decide (k=k')then I (.int k (if y > x then y else x))else En
 |_,_=>En
def min2:AVal→AVal→Option AVal
 | .int k x,.int k' y=>bif decide (k=k')then I (.int k (if y<x then y else x))else En
 |_,_=>En
def nP (f:AVal→AVal→Option AVal):AVal→List AVal→Option AVal
 |x,[]=>I x
 |x,y::ys=>match f x y with
  |some z=>nP f z ys
  |none=>En
def jT:List AVal→List (Nat×List AVal)→Option (List AVal)
 |cs,[]=>I cs
 |cs,(off,vs)::rest=>bif Gd (off+vs.length) cs.length then jT (cs.take off++vs++cs.drop (off+vs.length)) rest else En
def qk:AVal→Bool
 | .agg _=>Ga
 | .aJ _=>Ga
 | .undef=>Ga
 | .any=>Ga
 |_=>Gb
def kj (e:Env):List (Nat×Nat×js)→Option (List (Nat×List AVal))
 | []=>I []
 |(off,n,x)::ps=>match qh e x with
  |some v=>bif Ge v.flat.length n&&v.flat.all qk then
    (match kj e ps with
     |some r=>I ((off,v.flat)::r)
     |none=>En)else En
  |none=>En
def lx (xs:List AVal):List (Nat×AVal)→Option (List AVal)
 | []=>I xs
 |(i,v)::ps=>bif Gh i xs.length then lx (xs.set i v) ps else En
def yg (e:Env)(sz:Nat):List (Nat×js)→Option (List (Nat×AVal))
 | []=>I []
 |(i,x)::ps=>match qh e x with
  |some v=>bif Ge v.flat.length sz&&v.flat.all qk then
   (match yg e sz ps with
    |some r=>I ((i,v)::r)
    |none=>En)else En
  |none=>En
def jvu (zero:List AVal)(agg:Bool):Option AVal:=
 bif agg then I (.agg zero)else match zero with
  | [z]=>I z
  |_=>En
def zg (h:qi)(b:Nat):Option bh:=h[b]?
def ju (h:qi)(b:Nat):Option (List (AVal×Bool)):=
 match h[b]? with
 |some (.cells cs)=>I cs
 |_=>En
def zi (cs:List (AVal×Bool))(off n:Nat):Option (List AVal):=
 bif Gd (off+n) cs.length then I (((cs.drop off).take n).map (·.1))else En
def jr (cs:List (AVal×Bool))(off:Nat)(vs:List AVal):Option (List (AVal×Bool)):=
 bif Gd (off+vs.length) cs.length&&vs.all qk then I (cs.take off++vs.map (·,Ga)++cs.drop (off+vs.length))else En
mutual
def below (n:Nat):AVal→Bool
 | .ms b _ _=>Gh b n
 | .ptr b _=>Gh b n
 | .map b=>Gh b n
 | .aj b _ _=>Gh b n
 | .dE b _ _=>Gh b n
 | .ai v=>below n v
 | .list _ _ xs=>qy n xs
 | .agg cs=>qy n cs
 | .aJ vs=>qy n vs
 | .fn (.yield b) first captured=>Gh b n&&qy n first&&qy n captured
 | .fn _ first captured=>qy n first&&qy n captured
 |_=>Gb
def qy (n:Nat):List AVal→Bool
 | []=>Gb
 |x::xs=>below n x&&qy n xs
end
def mP (n:Nat):Env→Bool
 | []=>Gb
 |(_,v,_)::e=>below n v&&mP n e
def pv (n:Nat):List (AVal×Bool)→Bool
 | []=>Gb
 |(v,_)::e=>below n v&&pv n e
def uP (n:Nat):List (AVal×AVal)→Bool
 | []=>Gb
 |(k,v)::e=>below n k&&below n v&&uP n e
def pw (n:Nat):bh→Bool
 | .hole=>Gb
 | .cells cs=>pv n cs
 | .map es=>uP n es
 | .iter _ _=>Gb
 | .fX ..=>Gb
 | .dead=>Gb
 | .vec ..=>Gb
 | .loop l=>mP n l.env
def zn (n:Nat):qi→Bool
 | []=>Gb
 |b::h=>pw n b&&zn n h
def gc (n:Nat)(st:aY):aY:=
 bif Gd st.heap.length n then st
 else bif mP n st.env&&zn n (st.heap.take n)then { st with heap:=st.heap.take n }else st
def mc (v:AVal):Bool:=below 0 v
def q6r (agg:Bool)(sz:Nat):Nat→List AVal→Option (List AVal)
 |0,_=>I []
 |n+1,cs=>bif Gd sz cs.length then
   (match jvu (cs.take sz) agg with
    |some v=>(match q6r agg sz n (cs.drop sz)with
     |some r=>I (v::r)
     |none=>En)
    |none=>En)else En
def mf (sz:Nat):Nat→List AVal→List AVal
 |0,_=>[]
 |n+1,cs=>(bif Ge sz 1 then cs.headD .undef else .agg (cs.take sz))::mf sz n (cs.drop sz)
def Kl:AVal→Bool
 | .str _=>Gb
 | .list ..=>Gb
 |_=>Ga
def Dq (off len:Nat)(cs:List (AVal×Bool)):Bool:=Ge off 0&&Gh 1 (cs.length / len)&&Ge (len*(cs.length / len)) cs.length&&cs.any (fun c=>Kl c.1)
def yq (h:qi):AVal→Option AVal
 | .ms b off len=>match ju h b with
  |some cs=>bif Dq off len cs then I (.list Ga (cs.length / len) (mf (cs.length / len) len (cs.map (·.1))))else(match zi cs off len with
   |some vs=>I (.list Ga 1 vs)
   |none=>En)
  |none=>En
 | .aj b bL len=>match h[b]? with
  |some (.vec sz dN xs)=>bif Ge bL dN&&Gd len xs.length then I (.list Ga sz (xs.take len))else En
  |_=>En
 |v=>I v
def ly (h:qi):List AVal→Option (List AVal)
 | []=>I []
 |v::vs=>match yq h v with
  |some x=>(match ly h vs with
   |some xs=>I (x::xs)
   |none=>En)
  |none=>En
def aK (h:qi):AVal→Option AVal
 | .agg cs=>match ly h cs with
  |some xs=>I (.agg xs)
  |none=>En
 | .aJ vs=>match bE h vs with
  |some xs=>I (.aJ xs)
  |none=>En
 |v=>yq h v
where
 bE (h:qi):List AVal→Option (List AVal)
  | []=>I []
  | .agg cs::vs=>match ly h cs with
   |some x=>(match bE h vs with
    |some xs=>I (.agg x::xs)
    |none=>En)
   |none=>En
  |v::vs=>match yq h v with
   |some x=>(match bE h vs with
    |some xs=>I (x::xs)
    |none=>En)
   |none=>En
def zd (kd:Kd)(k:AVal):List (AVal×AVal)→Nat→Option (Option (Nat×AVal))
 | [],_=>I En
 |(k',v)::es,i=>match lv kd k k' with
  |some Gb=>I (I (i,v))
  |some Ga=>zd kd k es (i+1)
  |none=>En
def qn (s:List UInt8)(i:Nat):Nat×Nat:=Utf8.decode ⟨⟨s⟩⟩ i
structure bj where
 v:AVal
 own:Bool
 strip:Option Nat
 heap:qi
def oE (l:List Nat):Bool:=match l with
 | []=>Ga
 |k::_=>Gd 1000 k
def Ae (h0:Nat)(l:List Nat)(b:Nat):Bool:=match l with
 | []=>Ga
 |k::_=>bif Gh k 2000 then Ge b (k-1000)&&Gh b h0 else bif Gh k 4000 then Ge b (h0+(k-2000))else Gh b h0
def za (h0:Nat)(al:Option (List Nat))(b:Nat):Bool:=
 match al with
 |none=>Gb
 |some l=>bif oE l then Ae h0 l b else(Gh b h0||l.contains (b-h0))
def px (al:Option (List Nat)):Bool:=
 match al with
 |some (k::_)=>Gd 4000 k
 |_=>Ga
def uQ (h0:Nat)(al:Option (List Nat))(b:Nat):Bool:=za h0 al b&&!(px al)
def jt (h:qi)(b:Nat)(x:bh):Option qi:=bif Gh b h.length then I (h.set b x)else En
def aS (h0:Nat)(h:qi)(r:Nat)(x:bh):Option qi:=
 match h[h0+r]? with
 |some .hole=>I (h.set (h0+r) x)
 |_=>En
def val (h:qi)(v:AVal):Option bj:=I ⟨v,Ga,En,h⟩
def gG (h:qi):Option AVal→Option bj
 |some v=>I ⟨v,Ga,En,h⟩
 |none=>En
def idx (n:Nat):AVal→Option Nat
 | .int _ (.ofNat i)=>bif Gh i n then I i else En
 |_=>En
def Af (n:Nat):AVal→Option Nat
 | .int _ (.ofNat i)=>bif Gd i n then I i else En
 |_=>En
def fF (e:Env)(lz n:Nat):Option js→Option Nat
 |none=>I lz
 |some x=>match qh e x with
  |some v=>Af n v
  |none=>En
def zm (e:Env):js→Option Nat
 | .tmp t=>match ji t e with
  |some (_,Gb)=>I t
  |_=>En
 |_=>En
def zw (sz:Nat):AVal→Option (List AVal)
 | .list _ sy ys=>bif Ge sz sy||ys.isEmpty then I ys else En
 | .str s=>bif Ge sz 1 then I (s.map fun(c:UInt8)=>AVal.int .u8 c.toNat)else En
 |_=>En
def qF (n:Bool)(sz:Nat)(xs ys:List AVal):AVal:=bif n&&ys.isEmpty then .list Gb 0 []else .list Ga sz (xs++ys)
def qp (e:Env)(h:qi):cV→Option bj
 | .move x=>gG h (qh e x)
 | .take s=>match ji s e with
  |some (v,o)=>I ⟨v,o,I s,h⟩
  |none=>En
 | .pick c a b=>match qh e c with
  |some (.bool t)=>(match qh e a,qh e b with
    |some x,I y=>val h (bif t then x else y)
    |_,_=>En)
  |_=>En
 | .oC n x=>match qh e x with
  |some v=>bif Ge v.flat.length n&&v.flat.all qk then val h (.ai v)else En
  |none=>En
 | .build zero parts=>match kj e parts with
  |some ps=>match jT zero ps with
   |some cs=>val h (.agg cs)
   |none=>En
  |none=>En
 | .buildSlice sz len zero parts=>match yg e sz parts with
  |some ps=>match lx (Gq len (bif Ge sz 1 then zero.headD .undef else .agg zero)) ps with
   |some xs=>I ⟨.list Ga sz xs,Gb,En,h⟩
   |none=>En
  |none=>En
 | .gE n=>I ⟨.db n,Gb,En,h⟩
 | .eb n s x=>match ji s e,qh e x with
  |some (.db m,Gb),I v=>bif Ge m n&&Ge v.flat.length n&&v.flat.all qk then val h (.ai v)else En
  |_,_=>En
 | .fB agg n x=>match qh e x with
  |some (.ai v)=>bif Gy agg v.isAgg||!(Ge v.flat.length n)then En else val h v
  |_=>En
 | .nilCheck x=>match qh e x with
  |some (.ptr b o)=>val h (.ptr b o)
  |some (.ai v)=>val h (.ai v)
  |some (.fn (.func f) a b)=>val h (.fn (.func f) a b)
  |_=>En
 | .bin op x y=>match qh e x,qh e y with
  |some a,I b=>gG h (yu op a b)
  |_,_=>En
 | .eqs ks neq x y=>match qh e x,qh e y with
  |some (.agg a),I (.agg b)=>bif Ge a.length ks.length&&Ge b.length ks.length then(match ya ks a b with
   |some t=>val h (.bool (bif neq then !t else t))
   |none=>En)else En
  |_,_=>En
 | .beq neq x y=>match qh e x,qh e y with
  |some (.bool a),I (.bool b)=>val h (.bool (bif neq then !(a == b)else a == b))
  |_,_=>En
 | .fC k neq x=>match k,qh e x with
  |0,I (.list n _ _)=>val h (.bool (bif neq then !n else n))
  |0,I (.ms ..)=>val h (.bool neq)
  |1,I .b8=>val h (.bool (!neq))
  |1,I (.ptr ..)=>val h (.bool neq)
  |1,I (.ai ..)=>val h (.bool neq)
  |2,I .b4=>val h (.bool (!neq))
  |2,I (.map ..)=>val h (.bool neq)
  |3,I .cx=>val h (.bool (!neq))
  |3,I (.fn ..)=>val h (.bool neq)
  |_,_=>En
 | .un op x=>match qh e x with
  |some v=>gG h (xR op v)
  |none=>En
 | .conv k x=>match qh e x with
  |some (.int _ n)=>val h (.int k (qe k n))
  |_=>En
 | .fm x=>match qh e x with
  |some (.str s)=>val h (.str s)
  |some (.int _ n)=>val h (.str (Utf8.encode n).data.toList)
  |_=>En
 | .field agg off n x=>match qh e x with
  |some (.agg cs)=>gG h (part agg cs off n)
  |_=>En
 | .index agg len n x i=>match qh e x,qh e i with
  |some (.agg cs),I j=>(match idx len j with
   |some j=>gG h (part agg cs (j*n) n)
   |none=>En)
  |_,_=>En
 | .eF x i=>match qh e x,qh e i with
  |some (.str s),I j=>(match idx s.length j with
   |some j=>(match s[j]? with
    |some c=>val h (.int .u8 c.toNat)
    |none=>En)
   |none=>En)
  |_,_=>En
 | .fieldAddr agg off n x=>match qh e x with
  |some (.ptr b o)=>val h (.ptr b (o+off))
  |some (.ai (.agg cs))=>(match part agg cs off n with
   |some v=>bif Gy agg v.isAgg then En else val h (.ai v)
   |none=>En)
  |some (.dE b bL o)=>val h (.dE b bL (o+off))
  |_=>En
 | .indexAddr sz x i=>match qh e x,qh e i with
  |some (.list _ dl xs),I j=>bif Ge sz dl||xs.isEmpty then(match idx xs.length j with
   |some j=>(match xs[j]? with
    |some v=>val h (.ai v)
    |none=>En)
   |none=>En)else En
  |some (.ms b o len),I j=>(match idx len j with
   |some j=>val h (.ptr b (o+j*sz))
   |none=>En)
  |some (.aj b bL len),I j=>(match idx len j with
   |some j=>val h (.dE b bL (j*sz))
   |none=>En)
  |_,_=>En
 | .eX agg len sz x i=>match qh e x,qh e i with
  |some (.ptr b o),I j=>(match idx len j with
   |some j=>val h (.ptr b (o+j*sz))
   |none=>En)
  |some (.ai (.agg cs)),I j=>(match idx len j with
   |some j=>(match part agg cs (j*sz) sz with
    |some v=>bif Gy agg v.isAgg then En else val h (.ai v)
    |none=>En)
   |none=>En)
  |_,_=>En
 | .slice sz x lo hi=>match qh e x with
  |some (.list n dl xs)=>bif Ge sz dl||xs.isEmpty then(match fF e xs.length xs.length hi with
   |some j=>(match fF e 0 j lo with
    |some i=>val h (.list n dl ((xs.take j).drop i))
    |none=>En)
   |none=>En)else En
  |some (.ms b o len)=>(match fF e len len hi with
   |some j=>(match fF e 0 j lo with
    |some i=>bif Ge i 0||Gh i j then val h (.ms b (o+i*sz) (j-i))else En
    |none=>En)
   |none=>En)
  |some (.aj b bL len)=>(match fF e len len hi with
   |some j=>(match fF e 0 j lo with
    |some i=>bif Ge i 0 then val h (.aj b bL j)else En
    |none=>En)
   |none=>En)
  |_=>En
 | .eY x lo hi=>match qh e x with
  |some (.str s)=>(match fF e s.length s.length hi with
   |some j=>(match fF e 0 j lo with
    |some i=>val h (.str ((s.take j).drop i))
    |none=>En)
   |none=>En)
  |_=>En
 | .fY len sz x lo hi=>match qh e x with
  |some (.ptr b o)=>(match fF e len len hi with
   |some j=>(match fF e 0 j lo with
    |some i=>bif Ge i 0||Gh i j then val h (.ms b (o+i*sz) (j-i))else En
    |none=>En)
   |none=>En)
  |_=>En
 | .gF f first captured=>match ky e first,ky e captured with
  |some a,I b=>val h (.fn f a b)
  |_,_=>En
 | .len k x=>match k,qh e x with
  |1,I (.list _ _ xs)=>val h (.int .i64 xs.length)
  |1,I (.ms _ _ n)=>val h (.int .i64 n)
  |1,I (.aj _ _ n)=>val h (.int .i64 n)
  |2,I (.list Gb _ _)=>val h (.int .i64 0)
  |0,I (.str s)=>val h (.int .i64 s.length)
  |_,_=>En
 | .append En sz bytes x y=>match qh e x,qh e y with
  |some (.list n dl xs),I vy=>
   bif n||(zm e x).isSome then
    (match zw sz vy with
     |some ys=>
      bif (Ge sz dl||(xs.isEmpty&&n))&&Gd (xs.length+ys.length) 1073741824&&Gd bytes 4096&&Gh 0 sz then
       I ⟨qF n sz xs ys,Gb,zm e x,h⟩
      else En
     |none=>En)
   else En
  |_,_=>En
 | .cu En sz bytes zero n c=>match qh e n,qh e c with
  |some (.int .i64 (.ofNat n)),I (.int .i64 (.ofNat c))=>
   bif Ge n c&&Gd n 1073741824&&Gd bytes 4096&&Ge zero.length sz&&Gh 0 sz&&zero.all qk then
    I ⟨.list Ga sz (Gq n (bif Ge sz 1 then zero.headD .undef else .agg zero)),Gb,En,h⟩else En
  |_,_=>En
 | .mx args=>match ky e args with
  |some (v::vs)=>gG h (nP max2 v vs)
  |_=>En
 | .mn args=>match ky e args with
  |some (v::vs)=>gG h (nP min2 v vs)
  |_=>En
 | .extract x i=>match qh e x with
  |some (.aJ vs)=>gG h vs[i]?
  |_=>En
 |_=>En
def qG (es:List (AVal×AVal))(i:Nat)(v:AVal):List (AVal×AVal):=
 match es,i with
 | [],_=>[]
 |(k,_)::r,0=>(k,v)::r
 |x::r,i+1=>x::qG r i v
def yi (h0:Nat)(al:Option (List Nat))(e:Env)(h:qi):cV→Option bj
 | .load agg n x=>match qh e x with
  |some (.ptr b o)=>bif za h0 al b then(match ju h b with
   |some cs=>(match zi cs o n with
    |some vs=>bif agg then val h (.agg vs)else(match vs with
     | [v]=>val h v
     |_=>En)
    |none=>En)
   |none=>En)else En
  |some (.ai v)=>bif Gy agg v.isAgg||!(Ge v.flat.length n)then En else val h v
  |some (.dE b bL o)=>bif uQ h0 al b then(match zg h b with
   |some (.vec _ dN xs)=>bif Ge bL dN&&Gd (o+n) (xs.flatMap AVal.flat).length then(bif agg then val h (.agg (((xs.flatMap AVal.flat).drop o).take n))else(match((xs.flatMap AVal.flat).drop o).take n with
     | [v]=>val h v
     |_=>En))else En
   |_=>En)else En
  |_=>En
 | .lookup kd zero ok m k=>match qh e m,qh e k with
  |some (.map b),I kv=>bif za h0 al b then(match zg h b with
   |some (.map es)=>(match zd kd kv es 0 with
    |some (I (_,v))=>val h (bif ok then .aJ [v,.bool Gb]else v)
    |some En=>val h (bif ok then .aJ [zero,.bool Ga]else zero)
    |none=>En)
   |_=>En)else En
  |some .b4,I _=>val h (bif ok then .aJ [zero,.bool Ga]else zero)
  |_,_=>En
 | .len _ x=>match qh e x with
  |some (.map b)=>bif za h0 al b then(match zg h b with
   |some (.map es)=>val h (.int .i64 es.length)
   |_=>En)else En
  |some .b4=>val h (.int .i64 0)
  |_=>En
 |_=>En
def q5x (es:List (AVal×AVal)):Option (Nat×AVal)→List (AVal×AVal)
 |some (i,_)=>es.eraseIdx i
 |none=>es
def uR:Option Nat→Nat→Bool
 |none,_=>Gb
 |some a,o=>Ge a o
def Ag (sz len:Nat):AVal→Option (Nat×List AVal)
 | .list _ sy ys=>bif Ge sz sy||ys.isEmpty then I (min ys.length len,(ys.take len).flatMap AVal.flat)else En
 |_=>En
def cellsOf (vs:List AVal):List (AVal×Bool):=vs.map (·,Ga)
def qq (h0:Nat)(al:Option (List Nat))(e:Env)(h:qi):cV→Option bj
 | .alloc r zero=>bif zero.all qk then(match aS h0 h r (.cells (cellsOf zero))with
  |some h'=>val h' (.ptr (h0+r) 0)
  |none=>En)else En
 | .box r n x=>match qh e x with
  |some v=>bif Ge v.flat.length n&&v.flat.all qk then(match aS h0 h r (.cells (cellsOf v.flat))with
   |some h'=>val h' (.ptr (h0+r) 0)
   |none=>En)else En
  |none=>En
 | .cB off x=>match qh e x with
  |some (.ptr b o)=>bif za h0 al b&&uR off o then(match ju h b with
   |some cs=>(match cs[o]? with
    |some (v,w)=>(match jt h b (.cells (cs.set o (v,Ga)))with
     |some h'=>I ⟨v,w,En,h'⟩
     |none=>En)
    |none=>En)
   |none=>En)else En
  |_=>En
 | .store n a x=>match qh e a,qh e x with
  |some (.ptr b o),I v=>bif za h0 al b then(match ju h b with
   |some cs=>(match zm e x with
    |some t=>bif Ge n 1&&v.cR&&Gh o cs.length then(match jt h b (.cells (cs.set o (v,Gb)))with
      |some h'=>I ⟨.undef,Ga,I t,h'⟩
      |none=>En)else En
    |none=>bif Ge v.flat.length n then(match jr cs o v.flat with
     |some eN=>(match jt h b (.cells eN)with
      |some h'=>val h' .undef
      |none=>En)
     |none=>En)else En)
   |none=>En)else En
  |_,_=>En
 | .fX r t e=>match aS h0 h r (.fX t e [])with
  |some h'=>val h' (.ptr (h0+r) 0)
  |none=>En
 | .eG r=>match aS h0 h r (.map [])with
  |some h'=>val h' (.map (h0+r))
  |none=>En
 | .mapUpdate kd m k x=>match qh e m,qh e k,qh e x with
  |some (.map b),I kv,I v=>bif za h0 al b then(match zg h b with
   |some (.map es)=>(match zd kd kv es 0 with
    |some (I (i,_))=>(match jt h b (.map (qG es i v))with
     |some h'=>val h' .undef
     |none=>En)
    |some En=>bif Gd es.length 1073741824 then(match jt h b (.map (es++[(kv,v)]))with
     |some h'=>val h' .undef
     |none=>En)else En
    |none=>En)
   |_=>En)else En
  |_,_,_=>En
 | .delete kd m k=>match qh e m,qh e k with
  |some (.map b),I kv=>bif za h0 al b then(match zg h b with
   |some (.map es)=>(match zd kd kv es 0 with
    |some r=>(match jt h b (.map (q5x es r))with
     |some h'=>val h' (.aJ [])
     |none=>En)
    |none=>En)
   |_=>En)else En
  |_,_=>En
 | .cu (I r) sz bytes zero n c=>match qh e n,qh e c with
  |some (.int .i64 (.ofNat n)),I (.int .i64 (.ofNat c))=>
   bif Ge n c&&Gd n 1073741824&&Gd bytes 4096&&Ge zero.length sz&&Gh 0 sz&&zero.all qk then
    (match aS h0 h r (.cells (cellsOf (Gq n zero).flatten))with
     |some h'=>val h' (.ms (h0+r) 0 n)
     |none=>En)else En
  |_,_=>En
 | .append (I r) sz bytes x y=>match qh e x,qh e y with
  |some (.list Ga dl []),I vy=>
   bif (zm e x).isSome&&Ge sz dl then
    (match zw sz vy with
     |some ys=>
      bif Gd ys.length 1073741824&&Gd bytes 4096&&Gh 0 sz then
       (match aS h0 h r (.cells (cellsOf (ys.flatMap AVal.flat)))with
        |some h'=>I ⟨.ms (h0+r) 0 ys.length,Ga,zm e x,h'⟩
        |none=>En)
      else En
     |none=>En)
   else En
  |_,_=>En
 | .ig r sz bytes x y=>match qh e x,qh e y with
  |some (.list Gb _ []),I vy=>(match zw sz vy with
    |some ys=>
     bif Gd ys.length 1073741824&&Gd bytes 4096&&Gh 0 sz&&!ys.isEmpty&&qy 0 ys&&Gh r 1000 then
      (match aS h0 h r (.vec sz 0 ys)with
       |some h'=>val h' (.aj (h0+r) 0 ys.length)
       |none=>En)else En
    |none=>En)
  |some (.aj b bL len),I vy=>(match zg h b with
   |some (.vec dl dN xs)=>(match zw sz vy with
    |some ys=>
     bif Ge bL dN&&Ge sz dl&&Gd len xs.length&&Gd (len+ys.length) 1073741824&&Gd bytes 4096&&Gh 0 sz&&qy 0 ys&&Gh r 1000 then
      (match jt h b (.vec sz (bL+1) (xs.take len++ys))with
       |some h'=>val h' (.aj b (bL+1) (len+ys.length))
       |none=>En)else En
    |none=>En)
   |_=>En)
  |_,_=>En
 | .ij r sz len zero parts=>match yg e sz parts with
  |some ps=>match lx (Gq len (bif Ge sz 1 then zero.headD .undef else .agg zero)) ps with
   |some xs=>bif qy 0 xs then(match aS h0 h r (.vec sz 0 xs)with
    |some h'=>val h' (.aj (h0+r) 0 xs.length)
    |none=>En)else En
   |none=>En
  |none=>En
 | .copy sz x y=>match qh e x,qh e y with
  |some (.ms b o len),I vy=>bif za h0 al b then(match ju h b with
   |some cs=>(match Ag sz len vy with
    |some (n,vs)=>(match jr cs o vs with
     |some eN=>bif Ge vs.length (n*sz)then(match jt h b (.cells eN)with
      |some h'=>val h' (.int .i64 n)
      |none=>En)else En
     |none=>En)
    |none=>En)
   |none=>En)else En
  |_,_=>En
 | .dK r x=>match qh e x with
  |some (.str s)=>(match aS h0 h r (.iter s 0)with
   |some h'=>val h' (.ptr (h0+r) 0)
   |none=>En)
  |_=>En
 | .fD it=>match qh e it with
  |some (.ptr b 0)=>bif za h0 al b then(match zg h b with
   |some (.iter s pos)=>bif Gh pos s.length then
     (match jt h b (.iter s (pos+(qn s pos).2))with
      |some h'=>val h' (.aJ [.bool Gb,.int .i64 pos,.int .i32 (qn s pos).1])
      |none=>En)else val h (.aJ [.bool Ga])
   |_=>En)else En
  |_=>En
 |_=>En
def oF:Nat→List AVal→Env
 |_,[]=>[]
 |i,v::vs=>(i,v,Ga)::oF (i+1) vs
def uS (st:aY):mO→Option (AVal×Bool)
 | .tmp t=>ji t st.env
 | .cell t agg n=>match ji t st.env with
  |some (.ptr b o,_)=>(match ju st.heap b with
   |some cs=>(match zi cs o n with
    |some vs=>bif agg then I (.agg vs,Ga)else(match cs[o]? with
     |some x=>I x
     |none=>En)
    |none=>En)
   |none=>En)
  |_=>En
def km (st:aY):List mO→Option (List (AVal×Bool))
 | []=>I []
 |r::rs=>match uS st r with
  |some x=>(match km st rs with
   |some xs=>I (x::xs)
   |none=>En)
  |none=>En
def j6:List (AVal×Bool)→AVal×Bool
 | [x]=>x
 |xs=>(.aJ (xs.map (·.1)),Ga)
abbrev XC:=aw→aY→Option (jf×aY)
def kx (st:aY):List mO→qi
 | [.cell t Ga _]=>match ji t st.env with
  |some (.ptr b o,_)=>(match ju st.heap b with
   |some cs=>(match cs[o]? with
    |some (v,Gb)=>st.heap.set b (.cells (cs.set o (v,Ga)))
    |_=>st.heap)
   |none=>st.heap)
  |_=>st.heap
 |_=>st.heap
def py (xc:XC)(f:ax)(args:List AVal)(h:qi):Option (AVal×Bool×qi):=
 bif Gd args.length f.ntmps then
  match xc f.body ⟨oF 0 args,h⟩with
  |some (.normal,st)=>(match km st f.results with
   |some xs=>I ((j6 xs).1,(j6 xs).2,kx st f.results)
   |none=>En)
  |some (.ret,st)=>(match km st f.results with
   |some xs=>I ((j6 xs).1,(j6 xs).2,kx st f.results)
   |none=>En)
  |_=>En
 else En
def qo (p:jz)(xc:XC)(k:Nat)(args:List AVal)(h:qi):Option (AVal×Bool×qi):=
 match p.bO k with
 |some f=>py xc f args h
 |none=>match p.dS k with
  |some f=>f args h
  |none=>En
def qc (p:jz)(xc:XC)(k:Nat)(args:List AVal):Option (AVal×Bool):=
 match p.cN k with
 |some f=>(match f args with
  |some (v,o)=>bif mc v then I (v,o)else En
  |none=>En)
 |none=>match qo p xc k args []with
  |some (v,o,h)=>(match aK h v with
   |some v'=>bif mc v' then I (v',o&&v.cR)else En
   |none=>En)
  |none=>En
def jn (n:Nat)(v:AVal)(h:qi):qi:=
 bif Gd h.length n then h else bif below n v&&zn n (h.take n)then h.take n else h
def wc (e:Env):List Nat→List AVal→Option Env
 | [],[]=>I e
 |t::ts,v::vs=>wc ((t,v,Ga)::e) ts vs
 |_,_=>En
def kD (xc:XC)(b:Nat)(args:List AVal)(h:qi):Option (AVal×qi):=
 match zg h b with
 |some (.loop l)=>match l.pending,wc (fE l.env) l.params args with
  |none,I e=>(match xc l.assign ⟨e,h⟩with
   |some (.normal,st)=>(match zg st.heap b with
    |some (.loop l1)=>bif l1.pending.isNone then(match xc l.body { st with heap:=st.heap.set b (.loop { l1 with pending:=I .normal }) }with
     |some (x,bX)=>(match zg bX.heap b with
      |some (.loop l2)=>I (.bool (match x with | .normal=>Gb|_=>Ga),jn h.length (.bool Gb) (bX.heap.set b (.loop { l2 with pending:=match x with | .normal=>En|x=>I x })))
      |_=>En)
     |none=>En)else En
    |_=>En)
   |_=>En)
  |_,_=>En
 |_=>En
def nQ:AVal→Bool
 | .bool _=>Gb
 | .int _ _=>Gb
 | .str _=>Gb
 |_=>Ga
def Qs (h:qi):AVal→Option AVal
 | .ms b 0 len=>(match ju h b with
  |some cs=>bif Ge (len*(cs.length / len)) cs.length&&Gh 0 (cs.length / len)&&cs.all (fun c=>nQ c.1)then I (.list Ga (cs.length / len) (mf (cs.length / len) len (cs.map (·.1))))else(bif Ge len 0 then I (.list Ga 8 [])else En)
  |none=>En)
 |v=>I v
def xS (h:qi):List AVal→Option (List AVal)
 | []=>I []
 |v::vs=>match Qs h v,xS h vs with
  |some x,I xs=>I (x::xs)
  |_,_=>En
def xT:AVal→Bool
 | .agg cs=>cs.all nQ
 |v=>nQ v
def Dr (v:AVal):AVal:=bif xT v then v else .any
def Km:AVal→Bool→Option (AVal×Bool)
 | .list Ga sz xs,Gb=>bif (xs.flatMap AVal.flat).all nQ then I (.list Ga sz xs,Gb)else En
 | .list Gb sz [],_=>I (.list Gb sz [],Ga)
 | .aJ vs,_=>I (.aJ (vs.map Dr),Ga)
 |v,_=>bif xT v then I (v,Ga)else En
def qH (h0:Nat)(h:qi)(r:Nat):AVal→Bool→Option bj
 | .list Gb sz [],_=>(match aS h0 h r .dead with
  |some h'=>val h' (.list Gb sz [])
  |none=>En)
 | .list Ga sz xs,Gb=>bif (xs.flatMap AVal.flat).all nQ then(match aS h0 h r (.cells (cellsOf (xs.flatMap AVal.flat)))with
  |some h'=>val h' (.ms (h0+r) 0 xs.length)
  |none=>En)else En
 |_,_=>En
def yx (p:jz)(xc:XC)(h0:Nat)(e:Env)(h:qi)(md:eE)(f:js)(args:List js):Option bj:=
 match qh e f,ky e args with
 |some (.fn (.func k) first captured),I vs=>
  (match md with
   | .bY=>bif qy 0 (first++vs++captured)then(match qc p xc k (first++vs++captured)with
     |some (v,o)=>I ⟨v,o,En,h⟩
     |none=>En)else En
   | .fL r=>bif (first++vs++captured).isEmpty then(match p.maps k with
     |some es=>(match aS h0 h r (.map es)with
      |some h'=>val h' (.map (h0+r))
      |none=>En)
     |none=>En)else bif qy 0 (first++vs++captured)then(match qc p xc k (first++vs++captured)with
     |some (v,o)=>qH h0 h r v o
     |none=>En)else En
   | .red=>(match xS h (first++vs++captured)with
    |some us=>bif qy 0 us then(match qc p xc k us with
     |some (v,o)=>(match Km v o with
      |some (v',o')=>I ⟨v',o',En,h⟩
      |none=>En)
     |none=>En)else En
    |none=>En)
   | .shr=>(match qo p xc k (first++vs++captured) h with
    |some (v,o,h')=>I ⟨v,o,En,jn h.length v h'⟩
    |none=>En))
 |some (.fn (.yield b) [] []),I vs=>
  (match md with
   | .shr=>(match kD xc b vs h with
    |some (v,h')=>val h' v
    |none=>En)
   |_=>En)
 |_,_=>En
def qf (p:jz)(xc:XC)(h0:Nat)(al:Option (List Nat))(e:Env)(h:qi)(op:cV):Option bj:=
 match op with
 | .call md f args=>yx p xc h0 e h md f args
 | .load agg n x=>yi h0 al e h (.load agg n x)
 | .lookup kd z ok m k=>yi h0 al e h (.lookup kd z ok m k)
 | .alloc r z=>qq h0 al e h (.alloc r z)
 | .box r n x=>qq h0 al e h (.box r n x)
 | .cB off x=>qq h0 al e h (.cB off x)
 | .store n a x=>qq h0 al e h (.store n a x)
 | .fX r t e'=>qq h0 al e h (.fX r t e')
 | .eG r=>qq h0 al e h (.eG r)
 | .mapUpdate kd m k x=>qq h0 al e h (.mapUpdate kd m k x)
 | .delete kd m k=>qq h0 al e h (.delete kd m k)
 | .cu (I r) sz b z n c=>qq h0 al e h (.cu (I r) sz b z n c)
 | .append (I r) sz b x y=>qq h0 al e h (.append (I r) sz b x y)
 | .ig r sz b x y=>qq h0 al e h (.ig r sz b x y)
 | .ij r sz n z ps=>qq h0 al e h (.ij r sz n z ps)
 | .copy sz x y=>qq h0 al e h (.copy sz x y)
 | .dK r x=>qq h0 al e h (.dK r x)
 | .fD it=>qq h0 al e h (.fD it)
 |op=>qp e h op
def yb (e:Env):Option Nat→Env
 |none=>e
 |some s=>match ji s e with
  |some (v,_)=>(s,v,Ga)::e
  |none=>e
def nR (e:Env)(d:Option Nat)(v:AVal)(o:Bool):Env:=
 match d with
 |some d=>(d,v,o)::e
 |none=>e
def mQ (e:Env):Option (Nat×Bool)→Option Bool
 |none=>I Gb
 |some (s,want)=>match ji s e with
  |some (.bool b,_)=>I (b == want)
  |some (.undef,_)=>I Ga
  |_=>En
def y5 (p:jz)(xc:XC)(h0:Nat)(o:b9)(st:aY):Option aY:=
 match mQ st.env o.guard with
 |some Gb=>(match qf p xc h0 o.al st.env st.heap o.op with
  |some r=>I ⟨nR (yb st.env r.strip) o.dst r.v r.own,r.heap⟩
  |none=>En)
 |some Ga=>I ⟨nR st.env o.dst .undef Ga,st.heap⟩
 |none=>En
def fZ (p:jz)(xc:XC)(h0:Nat):List b9→aY→Option aY
 | [],st=>I st
 |o::os,st=>match y5 p xc h0 o st with
  |some bX=>fZ p xc h0 os bX
  |none=>En
def Ah (st:aY):Option (List Nat)→aY
 |none=>st
 |some l=>{ st with env:=qD st.env l }
def mR (p:jz)(xc:XC)(na:Nat)(ops:List b9)(keep:Option (List Nat))(st:aY):Option (jf×aY):=
 match fZ p xc st.heap.length ops { st with heap:=st.heap++Gq na .hole }with
 |some bX=>I (.normal,Ah bX keep)
 |none=>En
def mS (p:jz)(xc:XC)(f:js)(params:List Nat)(assign body:aw)(st:aY):Option (jf×aY):=
 bif zz assign&&zz body then
  match qh st.env f with
  |some (.fn (.func k) first captured)=>
   (match qo p xc k (first++[.fn (.yield st.heap.length) [] []]++captured) (st.heap++[.loop ⟨st.env,params,assign,body,En⟩])with
    |some (_,_,h')=>(match zg h' st.heap.length with
     |some (.loop l)=>bif zn st.heap.length (h'.take st.heap.length)then
       (match l.pending with
       |none=>I (.normal,{ st with heap:=h'.take st.heap.length })
       |some .normal=>En
       |some x=>I (x,{ st with heap:=h'.take st.heap.length }))else En
     |_=>En)
    |none=>En)
  |_=>En
 else En
def jj (p:jz):Nat→XC
 |0,_,_=>En
 |n+1,c,st=>match c with
  | .skip=>I (.normal,st)
  | .region na ops keep=>mR p (jj p n) na ops keep st
  | .seq a b=>match jj p n a st with
   |some (.normal,bX)=>jj p n b bX
   |r=>r
  | .cond c a b=>match qh st.env c with
   |some (.bool t)=>bif t then jj p n a st else jj p n b st
   |_=>En
  | .block id body=>match jj p n body st with
   |some (.exit fS,bX)=>bif Ge fS id then I (.normal,bX)else I (.exit fS,bX)
   |r=>r
  | .loop body=>match jj p n body st with
   |some (.normal,bX)=>jj p n (.loop body) (gc st.heap.length bX)
   |r=>r
  | .rangeFunc f params assign body=>mS p (jj p n) f params assign body st
  | .exit id=>I (.exit id,st)
  | .ret=>I (.ret,st)
  | .grow sz=>match ji 0 st.env,ji 1 st.env with
   |some (.list Gb _ _,_),I (.int .i64 (.ofNat m),_)=>bif Gh 0 m&&Gd m 1073741824 then I (.normal,{ st with env:=[(0,.list Ga sz [],Gb)] })else En
   |_,_=>En
  | .stuck=>En
structure qj where
 takes:List Nat:=[]
 bS:List Nat:=[]
 bT:List (Nat×Nat):=[]
 shr:List (Nat×Nat):=[]
 fL:List (Nat×Nat):=[]
 red:List (Nat×Nat):=[]
 keep:List (Nat×List Nat):=[]
 vl:List Nat:=[]
 vec:List Nat:=[]
 ex:List ((Nat×Nat)×Nat):=[]
 deriving Inhabited
def Ds:Value→Option AVal
 | .bool b=>I (.bool b)
 | .int k n=>I (.int k n)
 | .string s=>I (.str s.data.toList)
 | .slice En 0 0=>I (.list Gb 0 [])
 | .pointer En=>I .b8
 | .map En=>I .b4
 | .nilFunc=>I .cx
 |_=>En
def wh:List Value→Option (List AVal)
 | []=>I []
 |v::vs=>match Ds v with
  |some x=>match wh vs with
   |some xs=>I (x::xs)
   |none=>En
  |none=>En
def ofValue:Value→Option AVal
 | .agg cs=>match wh cs.toList with
  |some xs=>I (.agg xs)
  |none=>En
 |v=>Ds v
def qv:Operand→Option js
 | .tmp t=>I (.tmp t)
 | .const v=>match ofValue v with
  |some x=>I (.const x)
  |none=>En
 | .func f=>I (.const (.fn (.func f) [] []))
 | .global _=>En
def pz:List Operand→Option (List js)
 | []=>I []
 |x::xs=>match qv x with
  |some y=>match pz xs with
   |some ys=>I (y::ys)
   |none=>En
  |none=>En
def mT:Option Operand→Option (Option js)
 |none=>I En
 |some x=>match qv x with
  |some y=>I (I y)
  |none=>En
def yr (P:Program)(t:TypeId):Option Bool:=
 match P.underlying t with
 |some (.struct _)=>I Gb
 |some (.array _ _)=>I Gb
 |some _=>I Ga
 |none=>En
def jp (P:Program)(t:TypeId):Option Nat:=(P.info? t).map (·.size)
def nS (P:Program)(t:TypeId):Option Nat:=(P.info? t).map (·.bytes)
def yw (P:Program)(t:TypeId):Option (List AVal):=
 match P.info? t with
 |some i=>match i.zero with
  |some z=>wh z.cells.toList
  |none=>En
 |none=>En
def Qt (P:Program)(t:TypeId):Option TypeId:=
 match P.underlying t with
 |some (.struct fs)=>match fs.toList with
  | [f0,f1]=>match P.underlying f0.type,P.underlying f1.type with
   |some (.pointer t'),I (.slice e)=>match P.underlying e,yw P t with
    |some (.int .u8),I [.b8,.list Gb _ []]=>if t' == t then I e else En
    |_,_=>En
   |_,_=>En
  |_=>En
 |_=>En
def Qu (P:Program)(t:TypeId):Option AVal:=
 match P.info? t with
 |some i=>match i.zero with
  |some z=>ofValue z
  |none=>En
 |none=>En
def Fh (g:TypeId→Option (List Kd)):Nat→List Field→Option (List Kd)
 |_,[]=>I []
 | off, f :: fs => if f.name != "_" && f.offset == off then (match g f.type with
   |some ks=>(match Fh g (off+ks.length) fs with
    |some r=>I (ks++r)
    |none=>En)
   |none=>En)else En
def uT (P:Program):Nat→TypeId→Option (List Kd)
 |0,_=>En
 |n+1,t=>match P.underlying t with
  |some (.int _)=>if jp P t == I 1 then I [.int]else En
  |some .string=>if jp P t == I 1 then I [.str]else En
  |some .bool=>if jp P t == I 1 then I [.bool]else En
  |some (.struct fs)=>(match Fh (uT P n) 0 fs.toList with
   |some ks=>if !P.stoodInHeld t&&jp P t == I ks.length then I ks else En
   |none=>En)
  |some (.array len e)=>(match uT P n e with
   |some ks=>if jp P t == I (len*ks.length)then I (Gq len ks).flatten else En
   |none=>En)
  |_=>En
def Kn:Nat:=12
def kE (P:Program)(t:TypeId):Option Kd:=
 match P.underlying t with
 |some (.int _)=>I .int
 |some .string=>I .str
 |some .bool=>I .bool
 |_=>En
def Dt (P:Program)(op:BinOp)(neq:Bool)(t:TypeId)(x y:Operand):Option cV:=
 match P.underlying t with
 |some (.int _)|some .string=>match qv x,qv y with
  |some a,I b=>I (.bin op a b)
  |_,_=>En
 |some .bool=>match qv x,qv y with
  |some a,I b=>I (.beq neq a b)
  |_,_=>En
 |some (.struct _)|some (.array _ _)=>
  if !P.eqGuardType P.depth t then match uT P Kn t,qv x,qv y with
   |some ks,I a,I b=>I (.eqs ks neq a b)
   |_,_,_=>En
  else En
 |some (.slice _)=>match y with
  | .const (.slice En 0 0)=>(qv x).map (.fC 0 neq)
  |_=>En
 |some (.pointer _)=>match y with
  | .const (.pointer En)=>(qv x).map (.fC 1 neq)
  |_=>En
 |some (.map _ _)=>match y with
  | .const (.map En)=>(qv x).map (.fC 2 neq)
  |_=>En
 |some (.func _ _ _)=>match y with
  | .const .nilFunc=>(qv x).map (.fC 3 neq)
  |_=>En
 |_=>En
def Qv (P:Program)(op:BinOp)(t:TypeId)(x y:Operand):Option cV:=
 match op with
 | .eql=>Dt P .eql Ga t x y
 | .neq=>Dt P .neq Gb t x y
 |op=>match qv x,qv y with
  |some a,I b=>I (.bin op a b)
  |_,_=>En
def xU (P:Program)(place:Nat→Option (Nat×Nat)):List (Nat×Operand)→Option (List (Nat×Nat×js))
 | []=>I []
 |(i,x)::ps=>match place i,qv x,xU P place ps with
  |some (off,n),I y,I r=>I ((off,n,y)::r)
  |_,_,_=>En
def xV:List (Nat×Operand)→Option (List (Nat×js))
 | []=>I []
 |(i,x)::ps=>match qv x,xV ps with
  |some y,I r=>I ((i,y)::r)
  |_,_=>En
def q8a (h:qj)(dst:Option Nat)(x:Operand):Option Nat:=
 match x,dst with
 | .tmp s,I d=>if h.takes.contains d then I s else En
 |_,_=>En
def Ai:TypeDesc→Bool
 | .slice _=>Gb
 | .string=>Gb
 |_=>Ga
def eE.at (r:Nat):eE→eE
 | .fL _=>.fL r
 |m=>m
def Aj (P:Program)(h:qj)(md:eE)(r:Nat)(dst:Option Nat)(c:Call):Option cV:=
 match c.callee with
 | .value f=>match qv f,pz c.args.toList with
  |some f,I args=>I (.call (md.at r) f args)
  |_,_=>En
 | .builtin .len=>match c.args.toList,c.argTypes.toList with
  | [x],[t]=>match P.underlying t with
   |some .string=>(qv x).map (.len 0)
   |some (.slice _)=>(qv x).map (.len 1)
   |_=>En
  |_,_=>En
 | .builtin .cap=>match c.args.toList,c.argTypes.toList with
  | [x],[t]=>match P.underlying t with
   |some (.slice _)=>(qv x).map (.len 2)
   |_=>En
  |_,_=>En
 | .builtin .append=>match c.args.toList,c.argTypes.toList with
  | [x,y],[t,u]=>match P.underlying t,P.underlying u with
   |some (.slice e),I ut=>if Ai ut&&(yw P e).map (·.length) == jp P e then match jp P e,nS P e,qv x,qv y with
     |some sz,I b,I x,I y=>I (if(dst.map (h.vec.contains ·)).getD Ga then .ig r sz b x y else .append (if(dst.map (h.bS.contains ·)).getD Ga then I r else En) sz b x y)
     |_,_,_,_=>En
    else En
   |_,_=>En
  |_,_=>En
 | .builtin .copy=>match c.args.toList,c.argTypes.toList with
  | [x,y],t::_=>match P.underlying t with
   |some (.slice e)=>match jp P e,qv x,qv y with
    |some sz,I x,I y=>I (.copy sz x y)
    |_,_,_=>En
   |_=>En
  |_,_=>En
 | .builtin .delete=>match c.args.toList,c.argTypes.toList with
  | [m,k],t::_=>match P.underlying t with
   |some (.map kt _)=>match kE P kt,qv m,qv k with
    |some kd,I m,I k=>I (.delete kd m k)
    |_,_,_=>En
   |_=>En
  |_,_=>En
 | .builtin .max=>(pz c.args.toList).map .mx
 | .builtin .min=>(pz c.args.toList).map .mn
 |_=>En
def Du : List (String × List Int) := [("woofer/network.none", [0, 0]), ("woofer/network.one", [1, 0]), ("woofer/network.turns", [1, 0, 0, 1, -1, 0, 0, -1])]
def Fi (P:Program)(g:Nat):List (String×List Int)→Option (List Int)
 | []=>En
 |(n,cs)::l=>if P.globalNamed n == I g then I cs else Fi P g l
def Ko (P:Program)(t:TypeId)(g:Nat):Option cV:=match Fi P g Du,yr P t,jp P t with
 |some cs,I Gb,I n=>if cs.length == n then I (.move (.const (.agg (cs.map (AVal.int .i64)))))else En
 |_,_,_=>En
def Kp (h:qj):js→Option Nat
 | .tmp s=>if h.vl.contains s then I s else En
 |_=>En
def cW (P:Program)(h:qj)(md:eE)(r:Nat)(dst:Option Nat):Op→Option cV
 | .move x=>match q8a h dst x with
  |some s=>I (.take s)
  |none=>(qv x).map .move
 | .assign (.tmp s)=>I (.take s)
 | .assign x=>(qv x).map .move
 | .pick c a b=>match qv c,qv a,qv b with
  |some c,I a,I b=>I (.pick c a b)
  |_,_,_=>En
 | .alloc t=>match Qt P t with
  |some e=>I (.fX r t e)
  |none=>bif (dst.map (h.vl.contains ·)).getD Ga then(match yw P t with
   |some z=>bif z.all qk then I (.gE z.length)else En
   |none=>En)else(yw P t).map (.alloc r)
 | .box t x=>match jp P t,qv x with
  |some n,I x=>I (bif (dst.map (h.vl.contains ·)).getD Ga then .oC n x else .box r n x)
  |_,_=>En
 | .build t ps=>match P.underlying t,yw P t with
  |some (.struct fs),I z=>if fs.toList.all (fun f=>(jp P f.type).isSome)then(xU P (fun i=>match fs[i]? with
    |some f=>(jp P f.type).map fun n=>(f.offset,n)
    |none=>En) ps.toList).map (.build z)else En
  |some (.array _ e),I z=>match jp P e with
   |some n=>(xU P (fun i=>I (i*n,n)) ps.toList).map (.build z)
   |none=>En
  |_,_=>En
 | .buildSlice t n ps=>match P.underlying t with
  |some (.slice e)=>match jp P e,yw P e,yr P e,xV ps.toList with
   |some sz,I z,I ag,I es=>if sz*n≤65536&&0<sz&&z.length == sz&&(ag||sz == 1)&&(!ag||sz != 1)then I (if(dst.map (h.vec.contains ·)).getD Ga then .ij r sz n z es else .buildSlice sz n z es)else En
   |_,_,_,_=>En
  |_=>En
 | .load t (.global g)=>Ko P t g
 | .load t x=>match yr P t,jp P t,qv x with
  |some Ga,I 1,I x=>if(dst.map (h.takes.contains ·)).getD Ga then I (.cB ((dst.bind fun d=>h.bT.find? fun y=>y.1 == d).map (·.2)) x)else I (bif (dst.map (h.vl.contains ·)).getD Ga then .fB Ga 1 x else .load Ga 1 x)
  |some Gb,I n,I x=>I (bif (dst.map (h.vl.contains ·)).getD Ga then .fB Gb n x else .load Gb n x)
  |_,_,_=>En
 | .store t a v=>match jp P t,qv a,qv v with
  |some n,I a,I v=>I (match Kp h a with
   |some s=>.eb n s v
   |none=>.store n a v)
  |_,_,_=>En
 | .nilCheck x=>(qv x).map .nilCheck
 | .binOp op t x y _=>Qv P op t x y
 | .unOp op _ x=>(qv x).map (.un op)
 | .convert s d x=>match P.underlying s,P.underlying d with
  |some (.int _),I (.int k)=>(qv x).map (.conv k)
  |some .string,I .string=>(qv x).map .fm
  |some (.int _),I .string=>(qv x).map .fm
  |_,_=>En
 | .makeFunc f a b=>match f with
  | .func k=>match pz a.toList,pz b.toList with
   |some a,I b=>I (.gF (.func k) a b)
   |_,_=>En
  |_=>En
 | .makeMap t En=>match P.underlying t with
  |some (.map _ _)=>I (.eG r)
  |_=>En
 | .makeSlice t n c=>match P.underlying t with
  |some (.slice e)=>match jp P e,nS P e,yw P e,yr P e,qv n,qv c with
   |some sz,I b,I z,I ag,I n,I c=>
    if(ag||sz == 1)&&(!ag||sz != 1)then I (.cu (if(dst.map (h.bS.contains ·)).getD Ga then I r else En) sz b z n c)else En
   |_,_,_,_,_,_=>En
  |_=>En
 | .slice t x lo hi En=>match qv x,mT lo,mT hi with
  |some x,I lo,I hi=>match P.underlying t with
   |some .string=>I (.eY x lo hi)
   |some (.slice e)=>(jp P e).map fun sz=>.slice sz x lo hi
   |some (.array n e)=>(jp P e).map fun sz=>.fY n sz x lo hi
   |_=>En
  |_,_,_=>En
 | .fieldAddr t x i=>match P.underlying t with
  |some (.struct fs)=>match fs[i]? with
   |some f=>match yr P f.type,jp P f.type,qv x with
    |some ag,I n,I x=>if 0<n&&(ag||n == 1)then I (.fieldAddr ag f.offset n x)else En
    |_,_,_=>En
   |none=>En
  |_=>En
 | .field t x i=>match P.underlying t with
  |some (.struct fs)=>match fs[i]? with
   |some f=>match yr P f.type,jp P f.type,qv x with
    |some ag,I n,I x=>I (.field ag f.offset n x)
    |_,_,_=>En
   |none=>En
  |_=>En
 | .indexAddr t x i=>match qv x,qv i with
  |some x,I i=>match P.underlying t with
   |some (.slice e)=>match jp P e with
    |some sz=>if 0<sz then I (.indexAddr sz x i)else En
    |none=>En
   |some (.array n e)=>match jp P e,yr P e with
    |some sz,I ag=>if 0<sz&&(ag||sz == 1)then I (.eX ag n sz x i)else En
    |_,_=>En
   |_=>En
  |_,_=>En
 | .index t x i=>match qv x,qv i with
  |some x,I i=>match P.underlying t with
   |some .string=>I (.eF x i)
   |some (.array n e)=>match jp P e,yr P e with
    |some sz,I ag=>I (.index ag n sz x i)
    |_,_=>En
   |_=>En
  |_,_=>En
 | .lookup t m k ok=>match P.underlying t with
  |some (.map kt e)=>match kE P kt,Qu P e,qv m,qv k with
   |some kd,I z,I m,I k=>I (.lookup kd z ok m k)
   |_,_,_,_=>En
  |_=>En
 | .mapUpdate t m k v=>match P.underlying t with
  |some (.map kt _)=>match kE P kt,qv m,qv k,qv v with
   |some kd,I m,I k,I v=>I (.mapUpdate kd m k v)
   |_,_,_,_=>En
  |_=>En
 | .insert t m k v=>match P.underlying t with
  |some (.map kt _)=>match kE P kt,qv m,qv k,qv v with
   |some kd,I m,I k,I v=>I (.mapUpdate kd m k v)
   |_,_,_,_=>En
  |_=>En
 | .range t x=>match P.underlying t with
  |some .string=>(qv x).map (.dK r)
  |_=>En
 | .next it Gb=>(qv it).map .fD
 | .extract x i=>(qv x).map fun x=>.extract x i
 | .call c=>Aj P h md r dst c
 |_=>En
def cV.makes:cV→Bool
 | .alloc ..=>Gb
 | .box ..=>Gb
 | .fX ..=>Gb
 | .eG ..=>Gb
 | .cu (I _) ..=>Gb
 | .append (I _) ..=>Gb
 | .ig ..=>Gb
 | .ij ..=>Gb
 | .dK ..=>Gb
 | .call (.fL _) ..=>Gb
 |_=>Ga
def cV.ik:cV→Option Nat
 | .eb _ s _=>I s
 |_=>En
def cV.xW (d:Option Nat):cV→Option Nat
 | .eb _ s _=>I s
 |_=>d
def Dv (ops:Array Oper):Option (Nat×Bool)→Option (Option (Nat×Bool))
 |none=>I En
 |some (j,b)=>match(ops[j]?).bind (·.dst)with
  |some d=>I (I (d,b))
  |none=>En
def jfq (h:qj)(id i:Nat):eE:=if h.shr.contains (id,i)then .shr else if h.fL.contains (id,i)then .fL 0 else if h.red.contains (id,i)then .red else .bY
def Fj (P:Program)(h:qj)(nt:Nat)(id:Nat)(ops:Array Oper)(iE:Array Nat)(draw:Bool):List Oper→Nat→List (Nat×Nat)→Option (List b9×List (Nat×Nat))
 | [],_,rs=>I ([],rs)
 |o::os,i,rs=>
  match(cW P h (jfq h id i) rs.length o.dst o.op).getD .bad,Dv ops o.guard with
  |a,I g=>
   if(o.dst.map (decide <| · < nt)).getD Gb&&(a.ik.map (decide <| · < nt)).getD Gb&&(a.ik.isNone||(o.dst.isNone&&o.guard.isNone))then
    let Dw:=if a.makes then(i,rs.length)::rs else rs
    let al:=if draw then(match h.ex.find? fun x=>x.1 == (id,i)with
     |some x=>I [x.2]
     |none=>I ((rs.filter fun x=>(iE.getD i 0).testBit x.1).map (·.2)))else En
    match Fj P h nt id ops iE draw os (i+1) Dw with
    |some (l,Qw)=>I (⟨a.xW o.dst,a,g,al⟩::l,Qw)
    |none=>En
   else En
  |_,_=>En
def ze:js→List Nat
 | .tmp t=>[t]
 | .const _=>[]
def xX (l:List js):List Nat:=l.flatMap ze
def Ak:Option js→List Nat
 |some x=>ze x
 |none=>[]
def cV.reads:cV→List Nat
 | .move x=>ze x
 | .take s=>[s]
 | .pick c a b=>ze c++ze a++ze b
 | .alloc _ _=>[]
 | .box _ _ x=>ze x
 | .oC _ x=>ze x
 | .gE _=>[]
 | .eb _ s x=>s::ze x
 | .fX _ _ _=>[]
 | .build _ ps=>ps.flatMap fun p=>ze p.2.2
 | .buildSlice _ _ _ ps=>ps.flatMap fun p=>ze p.2
 | .load _ _ x=>ze x
 | .fB _ _ x=>ze x
 | .cB _ x=>ze x
 | .store _ a v=>ze a++ze v
 | .nilCheck x=>ze x
 | .bin _ x y=>ze x++ze y
 | .eqs _ _ x y=>ze x++ze y
 | .beq _ x y=>ze x++ze y
 | .fC _ _ x=>ze x
 | .un _ x=>ze x
 | .conv _ x=>ze x
 | .fm x=>ze x
 | .field _ _ _ x=>ze x
 | .index _ _ _ x i=>ze x++ze i
 | .eF x i=>ze x++ze i
 | .fieldAddr _ _ _ x=>ze x
 | .indexAddr _ x i=>ze x++ze i
 | .eX _ _ _ x i=>ze x++ze i
 | .slice _ x lo hi=>ze x++Ak lo++Ak hi
 | .eY x lo hi=>ze x++Ak lo++Ak hi
 | .fY _ _ x lo hi=>ze x++Ak lo++Ak hi
 | .gF _ a b=>xX a++xX b
 | .eG _=>[]
 | .lookup _ _ _ m k=>ze m++ze k
 | .mapUpdate _ m k v=>ze m++ze k++ze v
 | .delete _ m k=>ze m++ze k
 | .cu _ _ _ _ n c=>ze n++ze c
 | .len _ x=>ze x
 | .append _ _ _ x y=>ze x++ze y
 | .ig _ _ _ x y=>ze x++ze y
 | .ij _ _ _ _ ps=>ps.flatMap fun p=>ze p.2
 | .copy _ x y=>ze x++ze y
 | .mx l=>xX l
 | .mn l=>xX l
 | .extract x _=>ze x
 | .call _ f l=>ze f++xX l
 | .dK _ x=>ze x
 | .fD x=>ze x
 | .bad=>[]
def cV.fM:cV→List Nat
 | .take s=>[s]
 | .append _ _ _ x _=>ze x
 | .store _ _ v=>ze v
 |_=>[]
def b9.reads (o:b9):List Nat:=o.op.reads++(match o.guard with|some g=>[g.1]|none=>[])
def b9.writes (o:b9):List Nat:=o.dst.toList++o.op.fM
inductive Al where
 |pure|read|write|alloc|take|fL|shr|nT
 deriving DecidableEq,Inhabited
def cV.cl:cV→Al
 | .load ..=>.read
 | .lookup ..=>.read
 | .alloc ..=>.alloc
 | .box ..=>.alloc
 | .fX ..=>.alloc
 | .eG ..=>.alloc
 | .cu (I _) ..=>.alloc
 | .append (I _) ..=>.alloc
 | .dK ..=>.alloc
 | .cB En _=>.write
 | .cB (I _) _=>.take
 | .store ..=>.write
 | .mapUpdate ..=>.write
 | .delete ..=>.write
 | .copy ..=>.write
 | .fD ..=>.write
 | .call .bY ..=>.pure
 | .call (.fL _) ..=>.alloc
 | .call .shr ..=>.shr
 | .call .red ..=>.shr
 | .ig ..=>.nT
 | .ij ..=>.shr
 |_=>.pure
def cV.c5:cV→Nat
 | .alloc r _=>r
 | .box r _ _=>r
 | .fX r _ _=>r
 | .eG r=>r
 | .cu (I r) ..=>r
 | .append (I r) ..=>r
 | .dK r _=>r
 | .call (.fL r) ..=>r
 | .cB (I o) _=>o
 | .ig r sz ..=>r+1000*sz
 |_=>0
def mU (al:Option (List Nat))(r:Nat):Bool:=match al with
 |none=>Gb
 |some l=>bif oE l then Ge (l.headD 0) (2000+r)else l.contains r
def Dx (a b:Option (List Nat)):Bool:=match a,b with
 |some l,I m=>bif oE l then(bif oE m then !(Ge (l.headD 0) (m.headD 0))&&Gh (l.headD 0) 4000&&Gh (m.headD 0) 4000 else Gd 2000 (l.headD 0)&&Gh (l.headD 0) 4000&&!(m.contains (l.headD 0-2000)))else oE m&&Gd 2000 (m.headD 0)&&Gh (m.headD 0) 4000&&!(l.contains (m.headD 0-2000))
 |_,_=>Ga
def Al.box:Al→Bool
 | .read=>Gb
 | .write=>Gb
 | .take=>Gb
 |_=>Ga
def Qx (a b:b9):Bool:=(a.op.cl.box&&b.op.cl.box&&Dx a.al b.al) ||
  (match a.op.cl,b.op.cl with
 | .pure,_=>Gb
 |_,.pure=>Gb
 | .read,.read=>Gb
 | .read,.fL=>Gb
 | .fL,.read=>Gb
 | .fL,.fL=>Gb
 | .alloc,.alloc=>a.op.c5 != b.op.c5
 | .alloc,.read=>!mU b.al a.op.c5
 | .alloc,.write=>!mU b.al a.op.c5
 | .alloc,.take=>!mU b.al a.op.c5
 | .take,.alloc=>!mU a.al b.op.c5
 | .take,.take=>a.op.c5 != b.op.c5
 | .read,.alloc=>!mU a.al b.op.c5
 | .write,.alloc=>!mU a.al b.op.c5
 | .nT,.nT=>a.op.c5 % 1000 != b.op.c5 % 1000&&a.op.c5 / 1000 != b.op.c5 / 1000
 | .nT,.read=>px b.al
 | .nT,.write=>px b.al
 | .nT,.take=>px b.al
 | .read,.nT=>px a.al
 | .write,.nT=>px a.al
 | .take,.nT=>px a.al
 |_,_=>Ga)
def Fk (a b:List Nat):Bool:=a.all fun x=>!b.contains x
def Am (a b:b9):Bool:=
 Qx a b&&Fk a.writes b.reads&&Fk a.writes b.writes&&Fk b.writes a.reads
def Qy (iE:Array Nat)(l:List b9):Bool:=
 (l.zipIdx).all fun(b,j)=>(l.zipIdx).all fun(a,i)=>!(decide (i<j))||(iE.getD j 0).testBit i||Am a b
def Qz (ops:Array Oper):Bool:=ops.toList.zipIdx.all fun(o,i)=>o.after.all fun e=>!Region.binds .any e||decide (e.on<i)
def QA (iE:Array Nat)(ops:Array Oper):Bool:=
 ops.toList.zipIdx.all fun(o,i)=>(List.range ops.size).all fun j=>!((iE.getD i 0).testBit j)||o.after.any fun e=>Region.binds .any e&&(e.on == j||(iE.getD e.on 0).testBit j)
def Fl (P:Program)(h:qj)(nt:Nat)(id:Nat)(ops:Array Oper)(draw:Bool):Option aw:=
 match Fj P h nt id ops (Region.before ops) draw ops.toList 0 []with
 |some (l,rs)=>
  if !draw||(Qy (Region.before ops) l&&Qz ops&&QA (Region.before ops) ops)then
   I (.region rs.length l ((h.keep.find? fun x=>x.1 == id).map (·.2)))
  else En
 |none=>En
def Dy (s d:Nat)(o:Oper):Bool:=match o.op,o.dst,o.guard with
 | .move (.tmp s'),I d',En=>s' == s&&d' == d
 |_,_,_=>Ga
def QB (s d:Nat)(o:Oper):Bool:=match o.op,o.dst,o.guard with
 | .assign (.tmp s'),I d',En=>s' == s&&d' == d
 |_,_,_=>Ga
def QC (x d:Nat)(o:Oper):Option TypeId:=match o.op,o.dst,o.guard with
 | .call c,I d',En=>match c.callee,c.args.toList,c.argTypes.toList with
  | .builtin .cap,[.tmp x'],[t]=>if x' == x&&d' == d then I t else En
  |_,_,_=>En
 |_,_,_=>En
def QD (x d:Nat)(o:Oper):Option TypeId:=match o.op,o.dst,o.guard with
 | .call c,I d',En=>match c.callee,c.args.toList,c.argTypes.toList with
  | .builtin .len,[.tmp x'],[t]=>if x' == x&&d' == d then I t else En
  |_,_,_=>En
 |_,_,_=>En
def Kq (x h d:Nat)(o:Oper):Option TypeId:=match o.op,o.dst,o.guard with
 | .slice t (.tmp x') En (I (.tmp h')) En,I d',En=>if x' == x&&h' == h&&d' == d then I t else En
 |_,_,_=>En
def QE (x y d:Nat)(o:Oper):Option (TypeId×TypeId):=match o.op,o.dst,o.guard with
 | .call c,I d',En=>match c.callee,c.args.toList,c.argTypes.toList with
  | .builtin .append,[.tmp x',.tmp y'],[t,u]=>if x' == x&&y' == y&&d' == d then I (t,u)else En
  |_,_,_=>En
 |_,_,_=>En
def jmg (ops:Array Oper):Option (TypeId×TypeId):=match ops.toList with
 | [o0,o1,o2,o3,o4,o5,o6,o7,o8,o9]=>match QC 18 19 o2,Kq 17 19 20 o3,QE 20 21 22 o5,QD 23 24 o7,Kq 22 24 25 o8 with
  |some t2,I t3,I (t,u),I t7,I t8=>if Dy 0 17 o0&&Dy 0 18 o1&&Dy 1 21 o4&&Dy 0 23 o6&&QB 25 0 o9&&t2 == t&&t3 == t&&t7 == t&&t8 == t then I (t,u)else En
  |_,_,_,_,_=>En
 |_=>En
def Kr (P:Program)(nt:Nat)(ops:Array Oper):Option Nat:=match jmg ops with
 |some (t,u)=>match P.underlying t,P.underlying u with
  |some (.slice e),I (.int _)=>match P.info? e with
   |some i=>if i.zero.isSome&&0<i.size&&i.bytes≤4096&&26≤nt&&(yw P e).isSome&&(yw P e).map (·.length) == I i.size then I i.size else En
   |none=>En
  |_,_=>En
 |none=>En
def gY (P:Program)(h:qj)(nt:Nat):Code→Option aw
 | .skip=>I .skip
 | .label _=>I .skip
 | .region id ops draw=>match draw,Kr P nt ops with
  |false,I sz=>I (.grow sz)
  |_,_=>Fl P h nt id ops draw
 | .seq a b=>match gY P h nt a,gY P h nt b with
  |some x,I y=>I (.seq x y)
  |_,_=>En
 | .cond c a b=>match qv c,gY P h nt a,gY P h nt b with
  |some c,I x,I y=>I (.cond c x y)
  |_,_,_=>En
 | .block id b=>(gY P h nt b).map (.block id)
 | .loop b=>(gY P h nt b).map .loop
 | .scope b=>(gY P h nt b).map fun x=>.seq x .skip
 | .rangeFunc f ps a b=>match qv f,gY P h nt a,gY P h nt b with
  |some f,I x,I y=>if ps.all (decide <| · < nt)then I (.rangeFunc f ps.toList x y)else En
  |_,_,_=>En
 | .exit id=>I (.exit id)
 | .ret=>I .ret
 |_=>I .stuck
def Ks (P:Program):ResultVar→Option mO
 | .tmp t=>I (.tmp t)
 | .cell t ty=>match yr P ty,jp P ty with
  |some Gb,I n=>I (.cell t Gb n)
  |some Ga,I 1=>I (.cell t Ga 1)
  |_,_=>En
def Ao (P:Program):List ResultVar→Option (List mO)
 | []=>I []
 |r::rs=>match Ks P r,Ao P rs with
  |some x,I xs=>I (x::xs)
  |_,_=>En
def Fm (P:Program)(h:qj)(f:Func):Option ax:=
 match f.body with
 |some c=>match gY P h f.ntmps c,Ao P f.results.toList with
  | some b, I rs => if f.name == "runtime.NumGoroutine" then En else I ⟨f.ntmps, b, rs⟩
  |_,_=>En
 |none=>En
structure aM where
 K:Nat→Nat→Option Value
 β:Nat→Option Nat
 W:Nat→Prop
 D:Nat→Prop
 T:Nat×Nat×Nat×Nat→Prop
def aM.bY (K:Nat→Nat→Option Value):aM:=⟨K,fun _=>En,fun _=>False,fun _=>False,fun _=>False⟩
def fG (C:aM):Fn→Fn→Prop
 | .yield b,f=>∃r,C.β b=I r∧f=.yield r
 |f,f'=>f'=f
inductive li where
 |val (x:AVal) (v:Value)
 |cells (r:Nat) (xs:List AVal) (o:Nat)
 |row (r sz:Nat) (xs:List AVal) (o:Nat)
 |fq (xs:List AVal) (vs:List Value)
inductive aI (C:aM):li→Prop where
 |bool (b:Bool):aI C (.val (.bool b) (.bool b))
 |int (k:IntKind) (n:Int):aI C (.val (.int k n) (.int k n))
 |str (s:List UInt8):aI C (.val (.str s) (.string ⟨⟨s⟩⟩))
 |jI (sz:Nat):aI C (.val (.list Gb sz []) (.slice En 0 0))
 |list (sz:Nat) (xs:List AVal) (r o cap:Nat) (hl:xs.length≤cap) (hr:aI C (.row r sz xs o)):aI C (.val (.list Ga sz xs) (.slice (I ⟨r,o,En⟩) xs.length cap))
 |jJ (sz:Nat) (a:Addr) (hs:a.spot≠En):aI C (.val (.list Ga sz []) (.slice (I a) 0 0))
 |ms (b o len r cap:Nat) (hb:C.β b=I r) (hl:len≤cap):aI C (.val (.ms b o len) (.slice (I ⟨r,o,En⟩) len cap))
 |ptr (b o r:Nat) (hb:C.β b=I r):aI C (.val (.ptr b o) (.pointer (I ⟨r,o,En⟩)))
 |ai (x:AVal) (r o:Nat) (h:aI C (.cells r x.flat o)):aI C (.val (.ai x) (.pointer (I ⟨r,o,En⟩)))
 |b8:aI C (.val .b8 (.pointer En))
 |map (b r:Nat) (hb:C.β b=I r):aI C (.val (.map b) (.map (I r)))
 |b4:aI C (.val .b4 (.map En))
 |fn (f f':Fn) (a b:List AVal) (as bs:List Value) (hf:fG C f f') (ha:aI C (.fq a as)) (hb:aI C (.fq b bs)):aI C (.val (.fn f a b) (.func f' ⟨as⟩ ⟨bs⟩))
 |cx:aI C (.val .cx .nilFunc)
 |agg (cs:List AVal) (vs:List Value) (h:aI C (.fq cs vs)):aI C (.val (.agg cs) (.agg ⟨vs⟩))
 |aJ (cs:List AVal) (vs:List Value) (h:aI C (.fq cs vs)):aI C (.val (.aJ cs) (.tuple ⟨vs⟩))
 |undef:aI C (.val .undef (.tuple #[]))
 |any (v:Value):aI C (.val .any v)
 |db (n:Nat) (a:Addr):aI C (.val (.db n) (.pointer (I a)))
 |aj (b bL len r0 r cap:Nat) (hb:C.β b=I r0) (ht:C.T (r0,bL,r,cap)) (hl:len≤cap):aI C (.val (.aj b bL len) (.slice (I ⟨r,0,En⟩) len cap))
 |dE (b bL off r0 r cap:Nat) (hb:C.β b=I r0) (ht:C.T (r0,bL,r,cap)):aI C (.val (.dE b bL off) (.pointer (I ⟨r,off,En⟩)))
 |il (r o:Nat):aI C (.cells r [] o)
 |dO (r o:Nat) (x:AVal) (xs:List AVal) (v:Value) (hv:C.K r o=I v) (hx:aI C (.val x v)) (h:aI C (.cells r xs (o+1))):aI C (.cells r (x::xs) o)
 |fN (r sz o:Nat):aI C (.row r sz [] o)
 |dH (r sz o:Nat) (x:AVal) (xs:List AVal) (hs:x.flat.length=sz) (hx:aI C (.cells r x.flat o)) (h:aI C (.row r sz xs (o+sz))):aI C (.row r sz (x::xs) o)
 |nil:aI C (.fq [] [])
 |cons (x:AVal) (xs:List AVal) (v:Value) (vs:List Value) (hx:aI C (.val x v)) (h:aI C (.fq xs vs)):aI C (.fq (x::xs) (v::vs))
abbrev bR (C:aM)(x:AVal)(v:Value):Prop:=aI C (.val x v)
abbrev aW (C:aM)(xs:List AVal)(vs:List Value):Prop:=aI C (.fq xs vs)
abbrev cz (C:aM)(r:Nat)(xs:List AVal)(o:Nat):Prop:=aI C (.cells r xs o)
abbrev bz (C:aM)(r sz:Nat)(xs:List AVal)(o:Nat):Prop:=aI C (.row r sz xs o)
structure aM.le (C C':aM):Prop where
 k:∀r o v,C.K r o=I v→C'.K r o=I v
 b:∀b r,C.β b=I r→C'.β b=I r
 w:C'.W=C.W
 d:∀r,C.D r→C'.D r
 t:∀q,C.T q→C'.T q:=by exact fun _ h=>h
theorem aM.le_refl (C:aM):C.le C:=⟨fun _ _ _ h=>h,fun _ _ h=>h,rfl,fun _ h=>h,fun _ h=>h⟩
theorem aM.le_trans {A B C:aM}(h:A.le B)(k:B.le C):A.le C:=⟨fun r o v x=>k.1 r o v (h.1 r o v x),fun b r x=>k.2 b r (h.2 b r x),k.w.trans h.w,fun r x=>k.d r (h.d r x),fun r x=>k.t r (h.t r x)⟩
theorem fG.imp {C C'}(h:(∀r o v,C.K r o=I v→C'.K r o=I v)∧(∀b r,C.β b=I r→C'.β b=I r)){f f'}(hf:fG C f f'):fG C' f f':=by
 cases f<;>simp only[fG]at *<;>first|exact hf|exact⟨hf.choose,h.2 _ _ hf.choose_spec.1,hf.choose_spec.2⟩
theorem aI.imp {C C'}(h:(∀r o v,C.K r o=some v→C'.K r o=some v)∧(∀b r,C.β b=some r→C'.β b=some r)){i}(hr:aI C i)(hT:∀q,C.T q→C'.T q:=by first|exact fun _ h=>h|exact fun _ h=>False.elim h):aI C' i:=by
 induction hr with
 |bool b=>exact .bool b
 |int k n=>exact .int k n
 |str s=>exact .str s
 |jI sz=>exact .jI sz
 |list sz xs r o cap hl _ ih=>exact .list sz xs r o cap hl ih
 |jJ sz a hs=>exact .jJ sz a hs
 |ms b o len r cap hb hl=>exact .ms b o len r cap (h.2 _ _ hb) hl
 |ptr b o r hb=>exact .ptr b o r (h.2 _ _ hb)
 |ai x r o _ ih=>exact .ai x r o ih
 |b8=>exact .b8
 |map b r hb=>exact .map b r (h.2 _ _ hb)
 |b4=>exact .b4
 |fn f f' a b as bs hf _ _ ha hb=>exact .fn f f' a b as bs (hf.imp h) ha hb
 |cx=>exact .cx
 |agg cs vs _ ih=>exact .agg cs vs ih
 |aJ cs vs _ ih=>exact .aJ cs vs ih
 |undef=>exact .undef
 |any v=>exact .any v
 |db n a=>exact .db n a
 |aj b bL len r0 r cap hb ht hl=>exact .aj b bL len r0 r cap (h.2 _ _ hb) (hT _ ht) hl
 |dE b bL off r0 r cap hb ht=>exact .dE b bL off r0 r cap (h.2 _ _ hb) (hT _ ht)
 |il r o=>exact .il r o
 |dO r o x xs v hv _ _ nU ih=>exact .dO r o x xs v (h.1 _ _ _ hv) nU ih
 |fN r sz o=>exact .fN r sz o
 |dH r sz o x xs hs _ _ nU ih=>exact .dH r sz o x xs hs nU ih
 |nil=>exact .nil
 |cons x xs v vs _ _ nU ih=>exact .cons x xs v vs nU ih
theorem aI.mono {C C'}(h:C.le C'){i}(hr:aI C i):aI C' i:=hr.imp ⟨h.k,h.b⟩ h.t
def li.below (n:Nat):li→Bool
 | .val x _=>Abs.below n x
 | .cells _ xs _=>qy n xs
 | .row _ _ xs _=>qy n xs
 | .fq xs _=>qy n xs
theorem Kt (n:Nat)(x:AVal):qy n x.flat=Abs.below n x:=by
 cases x<;>simp[AVal.flat,qy,Abs.below]
theorem aI.shift {C C'}(n:Nat)(hK:∀r o v,C.K r o=some v→C'.K r o=some v)(hβ:∀b r,b<n→C.β b=some r→C'.β b=some r){i}(hr:aI C i)(hb:i.below n=true)(hT:∀q,0<n→C.T q→C'.T q:=by first|exact fun _ _ h=>h|exact fun _ h=>absurd h (Nat.lt_irrefl 0)|exact fun _ _ h=>False.elim h):aI C' i:=by
 induction hr with
 |bool b=>exact .bool b
 |int k n=>exact .int k n
 |str s=>exact .str s
 |jI sz=>exact .jI sz
 |list sz xs r o cap hl _ ih=>exact .list sz xs r o cap hl (ih (by simpa[li.below,Abs.below]using hb))
 |jJ sz a hs=>exact .jJ sz a hs
 |ms b o len r cap h1 hl=>exact .ms b o len r cap (hβ _ _ (by simpa[li.below,Abs.below]using hb) h1) hl
 |ptr b o r h1=>exact .ptr b o r (hβ _ _ (by simpa[li.below,Abs.below]using hb) h1)
 |ai x r o _ ih=>exact .ai x r o (ih (by simpa[li.below,Abs.below,Kt]using hb))
 |b8=>exact .b8
 |map b r h1=>exact .map b r (hβ _ _ (by simpa[li.below,Abs.below]using hb) h1)
 |b4=>exact .b4
 |fn f f' a b as bs hf _ _ iha ihb=>
  have QF:fG C' f f':=by
   cases f<;>simp only[fG]at *<;>first|exact hf|skip
   obtain⟨r,h1,rfl⟩:=hf
   simp[li.below,Abs.below]at hb
   exact⟨r,hβ _ _ hb.1.1 h1,rfl⟩
  have nW:qy n a=Gb∧qy n b=Gb:=by
   cases f<;>simp[li.below,Abs.below]at hb<;>first|exact hb|exact⟨hb.1.2,hb.2⟩
  exact .fn f f' a b as bs QF (iha nW.1) (ihb nW.2)
 |cx=>exact .cx
 |agg cs vs _ ih=>exact .agg cs vs (ih (by simpa[li.below,Abs.below]using hb))
 |aJ cs vs _ ih=>exact .aJ cs vs (ih (by simpa[li.below,Abs.below]using hb))
 |undef=>exact .undef
 |any v=>exact .any v
 |db n a=>exact .db n a
 |aj b bL len r0 r cap h1 ht hl=>
  have Ap:b<n:=by simpa[li.below,Abs.below]using hb
  exact .aj b bL len r0 r cap (hβ _ _ Ap h1) (hT _ (by omega) ht) hl
 |dE b bL off r0 r cap h1 ht=>
  have Ap:b<n:=by simpa[li.below,Abs.below]using hb
  exact .dE b bL off r0 r cap (hβ _ _ Ap h1) (hT _ (by omega) ht)
 |il r o=>exact .il r o
 |dO r o x xs v hv _ _ nU ih=>
  simp[li.below,qy]at hb nU ih
  exact .dO r o x xs v (hK _ _ _ hv) (nU hb.1) (ih hb.2)
 |fN r sz o=>exact .fN r sz o
 |dH r sz o x xs hs _ _ nU ih=>
  simp[li.below,qy,Kt]at hb nU ih
  exact .dH r sz o x xs hs (nU hb.1) (ih hb.2)
 |nil=>exact .nil
 |cons x xs v vs _ _ nU ih=>
  simp[li.below,qy]at hb nU ih
  exact .cons x xs v vs (nU hb.1) (ih hb.2)
theorem aW.length {C xs}:∀ {vs:List Value},aW C xs vs→vs.length=xs.length:=by
 induction xs with
 |nil=>intro vs h;cases h;rfl
 |cons x xs ih=>intro vs h;cases h with|cons _ _ v vs hx h=>simp[ih h]
theorem aW.get {C xs}:∀ {vs:List Value},aW C xs vs→∀ {i:Nat} {x:AVal},xs[i]?=I x→∃v,vs[i]?=I v∧bR C x v:=by
 induction xs with
 |nil=>intro vs _ i x h;simp at h
 |cons y ys ih=>
  intro vs h i x hi
  cases h with
  |cons _ _ v vs hx h=>
   cases i with
   |zero=>simp at hi;subst hi;exact⟨v,rfl,hx⟩
   |succ i=>simp at hi;obtain⟨w,h1,h2⟩:=ih h hi;exact⟨w,by simpa using h1,h2⟩
theorem aW.append {C xs ys}:∀ {vs ws:List Value},aW C xs vs→aW C ys ws→aW C (xs++ys) (vs++ws):=by
 induction xs with
 |nil=>intro vs ws h k;cases h;exact k
 |cons x xs ih=>intro vs ws h k;cases h with|cons _ _ v vs hx h=>exact .cons _ _ _ _ hx (ih h k)
theorem aW.take {C xs}:∀ {vs:List Value} (n:Nat),aW C xs vs→aW C (xs.take n) (vs.take n):=by
 induction xs with
 |nil=>intro vs n h;cases h;simpa using aI.nil
 |cons x xs ih=>intro vs n h;cases h with|cons _ _ v vs hx h=>cases n with
  |zero=>simpa using aI.nil
  |succ n=>exact .cons _ _ _ _ hx (ih n h)
theorem aW.drop {C xs}:∀ {vs:List Value} (n:Nat),aW C xs vs→aW C (xs.drop n) (vs.drop n):=by
 induction xs with
 |nil=>intro vs n h;cases h;simpa using aI.nil
 |cons x xs ih=>intro vs n h;cases h with|cons _ _ v vs hx h=>cases n with
  |zero=>exact .cons _ _ _ _ hx h
  |succ n=>simpa using ih n h
theorem cz.get {C r xs}:∀ {o:Nat},cz C r xs o→∀ {i:Nat} {x:AVal},xs[i]?=I x→∃v,C.K r (o+i)=I v∧bR C x v:=by
 induction xs with
 |nil=>intro o _ i x h;simp at h
 |cons y ys ih=>
  intro o h i x hi
  cases h with
  |dO _ _ _ _ v hv hx h=>
   cases i with
   |zero=>simp at hi;subst hi;exact⟨v,hv,hx⟩
   |succ i=>simp at hi;obtain⟨w,h1,h2⟩:=ih h hi;exact⟨w,by rw[show o+(i+1)=o+1+i from by omega];exact h1,h2⟩
theorem cz.drop {C r xs}:∀ {o:Nat} (n:Nat),cz C r xs o→cz C r (xs.drop n) (o+n):=by
 induction xs with
 |nil=>intro o n h;simpa using aI.il r (o+n)
 |cons x xs ih=>intro o n h;cases h with|dO _ _ _ _ v hv hx h=>cases n with
  |zero=>exact .dO _ _ _ _ _ hv hx h
  |succ n=>have:=ih n h;rw[show o+(n+1)=o+1+n from by omega];simpa using this
theorem cz.take {C r xs}:∀ {o:Nat} (n:Nat),cz C r xs o→cz C r (xs.take n) o:=by
 induction xs with
 |nil=>intro o n h;simpa using aI.il r o
 |cons x xs ih=>intro o n h;cases h with|dO _ _ _ _ v hv hx h=>cases n with
  |zero=>simpa using aI.il r o
  |succ n=>exact .dO _ _ _ _ _ hv hx (ih n h)
theorem cz.append {C r xs ys}:∀ {o:Nat},cz C r xs o→cz C r ys (o+xs.length)→cz C r (xs++ys) o:=by
 induction xs with
 |nil=>intro o _ k;simpa using k
 |cons x xs ih=>intro o h k;cases h with|dO _ _ _ _ v hv hx h=>exact .dO _ _ _ _ _ hv hx (ih h (by simpa[Hb,Nat.add_comm 1]using k))
theorem bz.get {C r sz xs}:∀ {o:Nat},bz C r sz xs o→∀ {i:Nat} {x:AVal},xs[i]?=I x→cz C r x.flat (o+i*sz):=by
 induction xs with
 |nil=>intro o _ i x h;simp at h
 |cons y ys ih=>
  intro o h i x hi
  cases h with
  |dH _ _ _ _ _ hs hx h=>
   cases i with
   |zero=>simp at hi;subst hi;simpa using hx
   |succ i=>simp at hi;have:=ih h hi;rw[show o+(i+1)*sz=o+sz+i*sz from by rw[Gm];omega];exact this
theorem bz.drop {C r sz xs}:∀ {o:Nat} (n:Nat),bz C r sz xs o→bz C r sz (xs.drop n) (o+n*sz):=by
 induction xs with
 |nil=>intro o n h;simpa using aI.fN r sz (o+n*sz)
 |cons x xs ih=>intro o n h;cases h with|dH _ _ _ _ _ hs hx h=>cases n with
  |zero=>simpa using aI.dH _ _ _ _ _ hs hx h
  |succ n=>have:=ih n h;rw[show o+(n+1)*sz=o+sz+n*sz from by rw[Gm];omega];simpa using this
theorem bz.take {C r sz xs}:∀ {o:Nat} (n:Nat),bz C r sz xs o→bz C r sz (xs.take n) o:=by
 induction xs with
 |nil=>intro o n h;simpa using aI.fN r sz o
 |cons x xs ih=>intro o n h;cases h with|dH _ _ _ _ _ hs hx h=>cases n with
  |zero=>simpa using aI.fN r sz o
  |succ n=>exact .dH _ _ _ _ _ hs hx (ih n h)
theorem bz.append {C r sz xs ys}:∀ {o:Nat},bz C r sz xs o→bz C r sz ys (o+xs.length*sz)→bz C r sz (xs++ys) o:=by
 induction xs with
 |nil=>intro o _ k;simpa using k
 |cons x xs ih=>
  intro o h k
  cases h with
  |dH _ _ _ _ _ hs hx h=>
   refine .dH _ _ _ _ _ hs hx (ih h ?_)
   have e:o+sz+xs.length*sz=o+(x::xs).length*sz:=by simp[Gm];omega
   rw[e];exact k
theorem bz.sized {C r sz xs}:∀ {o:Nat},bz C r sz xs o→∀x∈xs,x.flat.length=sz:=by
 induction xs with
 |nil=>intro o _ x hx;cases hx
 |cons y ys ih=>
  intro o h x hx
  cases h with
  |dH _ _ _ _ _ hs _ h=>
   rcases He.1 hx with rfl|hx
   ·exact hs
   ·exact ih h x hx
theorem bz.cells {C r sz xs}:∀ {o:Nat},bz C r sz xs o→cz C r (xs.flatMap AVal.flat) o:=by
 induction xs with
 |nil=>intro o _;exact .il _ _
 |cons x xs ih=>
  intro o h
  cases h with
  |dH _ _ _ _ _ hs hx h=>
   simp only[Gt]
   refine cz.append hx ?_
   rw[hs]
   exact ih h
theorem bz.eZ {C r sz xs}:∀ {o:Nat},cz C r (xs.flatMap AVal.flat) o→(∀x∈xs,x.flat.length=sz)→bz C r sz xs o:=by
 induction xs with
 |nil=>intro o _ _;exact .fN _ _ _
 |cons x xs ih=>
  intro o h hl
  simp only[Gt]at h
  have h1:=cz.take (x.flat.length) h
  have h2:=cz.drop (x.flat.length) h
  rw[List.take_left' rfl]at h1
  rw[List.drop_left' rfl,hl x (by simp)]at h2
  exact .dH _ _ _ _ _ (hl x (by simp)) h1 (ih h2 fun y hy=>hl y (by simp[hy]))
theorem cz.vals {C r xs}:∀ {o:Nat},cz C r xs o→∃vs,aW C xs vs∧∀j v,vs[j]?=I v→C.K r (o+j)=I v:=by
 induction xs with
 |nil=>intro o _;exact⟨[],.nil,by simp⟩
 |cons x xs ih=>
  intro o h
  cases h with
  |dO _ _ _ _ v hv hx h=>
   obtain⟨vs,h1,h2⟩:=ih h
   refine⟨v::vs,.cons _ _ _ _ hx h1,?_⟩
   intro j u hj
   cases j with
   |zero=>simp at hj;subst hj;exact hv
   |succ j=>simp at hj;rw[show o+(j+1)=o+1+j from by omega];exact h2 j u hj
inductive Loc where
 |slot (s:Nat)
 |cell (b j:Nat)
 deriving DecidableEq
def fa (sz:Nat)(xs:List AVal)(cells:Array Value)(elem:TypeId)(len cap:Nat):Prop:=
 ∀(e:Nat) (l:List UInt8),sz=0→xs=[.int .u64 (e:Int),.str l]→elem=e∧len=l.length∧len≤cap∧cap≤maxLen∧cells.size=cap∧cells.toList.take len=l.map fun b=>Value.int .u8 b.toNat
theorem fa.pos {sz xs cells}{elem:TypeId}{len cap}(h:0<sz):fa sz xs cells elem len cap:=fun _ _ h0=>by omega
theorem fa.sized {sz xs cells}{elem:TypeId}{len cap}(h:∀x∈xs,x.flat.length=sz):fa sz xs cells elem len cap:=fun e l h0 hx=>by
 have:=h (.str l) (by rw[hx];simp)
 simp[AVal.flat,h0]at this
def aO (C:aM)(ω:Nat→Option Loc)(w:World)(B:Nat)(ℓ:Loc):AVal→Value→Prop
 | .list _ sz xs,.slice (I a) len cap=>ω a.block=I ℓ∧(B≤a.block∨C.W a.block)∧(∀b,C.β b≠I a.block)∧a.spot=En∧a.off=0 ∧
   (∃cells elem,w.heap[a.block]?=I (.cells cells elem (0,0))∧a.off+cap*sz≤cells.size∧fa sz xs cells elem len cap)∧∀o,a.off+len*sz≤o→C.K a.block o=En
 | .db n,.pointer (I a)=>ω a.block=I ℓ∧(B≤a.block∨C.W a.block)∧(∀b,C.β b≠I a.block)∧a.spot=En∧a.off=0 ∧
   (∃cells elem,w.heap[a.block]?=I (.cells cells elem (0,0))∧a.off+n*1≤cells.size∧fa 0 [] cells elem 0 0)∧∀o,a.off+0*0≤o→C.K a.block o=En
 |_,_=>True
structure Ext (w w':World):Prop where
 size:w.heap.size≤w'.heap.size
 same:∀r,r<w.heap.size→w'.heap[r]?=w.heap[r]?
 os:w'.os=w.os
 output:w'.output=w.output
theorem Ext.refl (w:World):Ext w w:=⟨Gn _,fun _ _=>rfl,rfl,rfl⟩
theorem Ext.get {w w':World}(h:Ext w w'){r:Nat}{o}(hr:w.heap[r]?=I o):w'.heap[r]?=I o:=by
 rw[h.same r (Gj.1 hr).1];exact hr
theorem Ext.trans {a b c}(h:Ext a b)(k:Ext b c):Ext a c where
 size:=Nat.le_trans h.size k.size
 same r hr:=by rw[k.same r (Gs hr h.size),h.same r hr]
 os:=k.os.trans h.os
 output:=k.output.trans h.output
theorem wi (w:World)(o:Obj)(r:Nat):(w.alloc o).heap[r]?=if r=w.heap.size then I o else w.heap[r]?:=by
 show(w.heap.push o)[r]?=_
 rw[Array.getElem?_push]
theorem Ext.alloc (w:World)(o:Obj)(ho:∀c t fr,o=.cells c t fr→fr=(0,0)):Ext w (w.alloc o) where
 size:=by rw[World.size_alloc];omega
 same r hr:=by rw[wi,if_neg (by omega)]
 os:=rfl
 output:=rfl
theorem Ext.drew (w:World):Ext w w.drew:=⟨Gn _,fun _ _=>rfl,rfl,rfl⟩
theorem Ext.cell {w w':World}(h:Ext w w'){a:Addr}{v}(hc:w.cell? a=I v):w'.cell? a=I v:=by
 unfold World.cell? at *
 cases hr:w.heap[a.block]? with
 |none=>rw[hr]at hc;cases hc
 |some o=>rw[h.get hr];rw[hr]at hc;exact hc
theorem aO.ext {C:aM}{ω:Nat→Option Loc}{w w' B ℓ x v}(h:Ext w w')(ho:aO C ω w B ℓ x v):aO C ω w' B ℓ x v:=by
 unfold aO at *
 split at ho
 ·obtain⟨h1,h2,h3,h4,h8,⟨cells,elem,h5,h6⟩,h7⟩:=ho
  exact⟨h1,h2,h3,h4,h8,⟨cells,elem,h.get h5,h6⟩,h7⟩
 ·obtain⟨h1,h2,h3,h4,h8,⟨cells,elem,h5,h6⟩,h7⟩:=ho
  exact⟨h1,h2,h3,h4,h8,⟨cells,elem,h.get h5,h6⟩,h7⟩
 ·trivial
inductive cI (C:aM):List (AVal×AVal)→List MapEntry→Prop where
 |nil:cI C [] []
 |cons (k v:AVal) (es:List (AVal×AVal)) (m:MapEntry) (ms:List MapEntry) (hk:bR C k m.key) (hv:bR C v m.val) (h:cI C es ms):cI C ((k,v)::es) (m::ms)
theorem cI.imp {C C'}(h:(∀r o v,C.K r o=some v→C'.K r o=some v)∧(∀b r,C.β b=some r→C'.β b=some r)){es ms}(hr:cI C es ms)(hT:∀q,C.T q→C'.T q:=by first|exact fun _ h=>h|exact fun _ h=>False.elim h):cI C' es ms:=by
 induction hr with
 |nil=>exact .nil
 |cons k v es m ms hk hv _ ih=>exact .cons k v es m ms (aI.imp h hk hT) (aI.imp h hv hT) ih
theorem cI.mono {C C'}(h:C.le C'){es ms}(hr:cI C es ms):cI C' es ms:=hr.imp ⟨h.k,h.b⟩ h.t
def br (C:aM)(e:Env)(tmps:Array Value):Prop:=∀s x,ji s e=I x→∃v,tmps[s]?=I v∧bR C x.1 v
def Fo (P:Program)(nt:Nat)(c:Code)(a:aw):Prop:=∃h,gY P h nt c=I a
structure cA (P:Program)(C:aM)(l:jmp)(lp:Loop):Prop where
 assign:Fo P lp.tmps.size lp.assign l.assign
 body:Fo P lp.tmps.size lp.body l.body
 params:lp.params.toList=l.params
 fits:∀t∈l.params,t<lp.tmps.size
 nr:zz l.assign=Gb∧zz l.body=Gb
 env:br C l.env lp.tmps
 state:lp.state=match l.pending with
  |none=>.ready
  |some .normal=>.busy
  |some _=>.done
 pending:lp.pending=match l.pending with
  |none=>En
  |some .normal=>En
  |some (.exit id)=>I (.exit id)
  |some .ret=>I .ret
def eH (K:Nat→Nat→Option Value)(w:World)(q sz:Nat)(xs:List AVal)(cap:Nat):Prop:=
 ∃cells t vs,w.heap[q]?=I (.cells cells t (0,0))∧xs.length≤cap∧cap*sz≤cells.size∧(∀x∈xs,x.flat.length=sz)∧aW (.bY K) (xs.flatMap AVal.flat) vs ∧
  (∀(j:Nat) v,vs[j]?=I v→cells[j]?=I v)∧∀v∈vs,v.oneCell'=Gb
theorem eH.imp {K K' w w' q sz cap xs}(hK:∀r o v,K r o=I v→K' r o=I v)(hw:w'.heap[q]?=w.heap[q]?)(h:eH K w q sz xs cap):eH K' w' q sz xs cap:=by
 obtain⟨cells,t,vs,h1,h2,h3,h4,h5,h6⟩:=h
 exact⟨cells,t,vs,hw.trans h1,h2,h3,h4,aI.imp (C:=.bY K) (C':=.bY K') ⟨hK,fun _ _ h=>h⟩ h5,h6⟩
abbrev xY (C:aM)(ω:Nat→Option Loc)(w:World)(B b q n cap:Nat):Prop:=aO C ω w B (.cell b 0) (.list Ga 0 []) (.slice (I ⟨q,0,En⟩) n cap)
def ew (C:aM)(ω:Nat→Option Loc)(w:World)(B b r sz bL:Nat)(xs:List AVal):Prop:=
 ∃q cap,C.T (r,bL,q,cap)∧(∀x,C.T x→x.1=r→x.2.1≤bL∧(x.2.1=bL→x.2.2=(q,cap)))∧eH C.K w q sz xs cap∧(q=r∨xY C ω w B b q xs.length cap)∧∃cs t,w.heap[r]?=I (.cells cs t (0,0))
theorem ew.imp {C C' ω ω' w w' B B' b r sz bL xs}(hK:∀r o v,C.K r o=I v→C'.K r o=I v)(hT:∀q,C.T q→C'.T q)(Fp:∀x,C'.T x→x.1=r→C.T x)(hw:w'.heap[r]?=w.heap[r]?)
  (hq:∀q n cap,xY C ω w B b q n cap→w'.heap[q]?=w.heap[q]?∧xY C' ω' w' B' b q n cap) (h:ew C ω w B b r sz bL xs):ew C' ω' w' B' b r sz bL xs:=by
 obtain⟨q,cap,h1,h2,h3,h4,cs,t,h5⟩:=h
 refine⟨q,cap,hT _ h1,fun x hx hr=>h2 x (Fp x hx hr) hr,?_,?_,cs,t,hw.trans h5⟩
 ·rcases h4 with rfl|h4
  ·exact h3.imp hK hw
  ·exact h3.imp hK (hq _ _ _ h4).1
 ·exact h4.imp id fun h=>(hq _ _ _ h).2
def bG (P:Program)(C:aM)(ω:Nat→Option Loc)(w:World)(B b r:Nat):bh→Prop
 | .hole=>False
 | .cells cs=>∃vs elem,w.heap[r]?=I (.cells vs elem (0,0))∧cs.length≤vs.size ∧
   ∀j c,cs[j]?=I c→∃v,vs[j]?=I v∧v.oneCell'=Gb∧bR C c.1 v∧(c.2=Gb→aO C ω w B (.cell b j) c.1 v)
 | .map es=>∃cg clock,w.heap[r]?=I (.map cg clock)∧cI C es cg.toList
 | .iter s pos=>w.heap[r]?=I (.stringIter ⟨⟨s⟩⟩ pos)
 | .loop l=>∃lp,w.heap[r]?=I (.loop lp)∧cA P C l lp
 | .fX t e l=>∃p v,w.heap[r]?=I (.cells #[p,v] t (0,0))∧(p=.pointer En∨p=.pointer (I ⟨r,0,En⟩))∧((v=.slice En 0 0∧l=[])∨∃a len cap,v=.slice (I a) len cap)∧aO C ω w B (.cell b 1) (.list Ga 0 [.int .u64 (e:Int),.str l]) v
 | .dead=>∃cs t,w.heap[r]?=I (.cells cs t (0,0))
 | .vec sz bL xs=>ew C ω w B b r sz bL xs
def nX : String := "internal/strconv.uint64pow10"
def xZ : String := "internal/bytealg.MaxLen"
def j3v (P:Program)(w:World)(g:Nat):Prop:=
 (P.globalNamed nX=I g→Lib.TabIs P w nX .u64 Lib.pow10Tab)∧(P.globalNamed xZ=I g→∃m,w.cell? ⟨g,0,En⟩=I (.int .i64 m)) ∧
 (∀x∈Du,P.globalNamed x.1=I g→∀j n,x.2[j]?=I n→w.cell? ⟨g,j,En⟩=I (.int .i64 n))
def QG (P:Program)(g:Nat):Prop:=P.globalNamed nX=I g∨P.globalNamed xZ=I g∨∃x∈Du,P.globalNamed x.1=I g
def Tabs (P:Program)(w:World):Prop:=∀g,QG P g→g<w.heap.size∧j3v P w g
theorem Tabs.same {P w w'}(h:Tabs P w)(hs:w.heap.size≤w'.heap.size)(hg:∀g,QG P g→w'.heap[g]?=w.heap[g]?):Tabs P w':=by
 intro g hn
 obtain⟨h1,h2,h3,h5⟩:=h g hn
 refine⟨Gs h1 hs,fun Dz=>?_,fun Dz=>?_,fun x hx Dz j n hj=>?_⟩
 ·have h2:=h2 Dz
  unfold Lib.TabIs World.var? at *
  rw[Dz]at h2 ⊢
  simp only[Option.bind_some]at h2 ⊢
  rw[hg g hn]
  exact h2
 ·obtain⟨m,h4⟩:=h3 Dz
  refine⟨m,?_⟩
  unfold World.cell? at *
  simp only[]at h4 ⊢
  rw[hg g hn]
  exact h4
 ·have h4:=h5 x hx Dz j n hj
  unfold World.cell? at *
  simp only[]at h4 ⊢
  rw[hg g hn]
  exact h4
theorem Tabs.none {P w}(h:P.globalNamed nX=En∧P.globalNamed xZ=En∧∀x∈Du,P.globalNamed x.1=En):Tabs P w:=fun g hn=>by
 rcases hn with hn|hn|⟨x,hx,hn⟩
 ·rw[h.1]at hn;cases hn
 ·rw[h.2.1]at hn;cases hn
 ·rw[h.2.2 x hx]at hn;cases hn
def zhd (P:Program)(w0:World)(C0:aM):Prop:=Tabs P w0∧∀g,QG P g→(∀b,C0.β b≠I g)∧¬C0.W g
structure az (P:Program)(C:aM)(ω:Nat→Option Loc)(w0:World)(C0:aM)(h:qi)(w:World):Prop where
 base:zhd P w0 C0
 know:∀r o v,C.K r o=I v→w.cell? ⟨r,o,En⟩=I v
 dw:∀r o v,C.K r o=I v→v.oneCell'=Gb
 apart:∀b r o,C.β b=I r→C.K r o=En
 inj:∀b b' r,C.β b=I r→C.β b'=I r→b=b'
 lt:∀b r,C.β b=I r→r<w.heap.size∧b<h.length
 size:w0.heap.size≤w.heap.size
 frame:∀r,r<w0.heap.size→(∀b,C0.β b≠I r)→¬C0.W r→w.heap[r]?=w0.heap[r]?
 ft:∀r,C.D r→w.heap[r]?=I (.deferred (I []))
 os:w.os=w0.os
 output:w.output=w0.output
 fresh:∀b r,C.β b=I r→C0.β b=I r∨w0.heap.size≤r∨C0.W r
 grown:C0.le C
 old:∀r o,r<w0.heap.size→¬C0.W r→C.K r o=C0.K r o
 box:∀b x r,h[b]?=I x→C.β b=I r→bG P C ω w w0.heap.size b r x
 iF:∀q,C.T q→q.1<w.heap.size
def aq (C:aM)(ω:Nat→Option Loc)(w:World)(B:Nat)(e:Env)(tmps:Array Value):Prop:=
 ∀s x,ji s e=I x→∃v,tmps[s]?=I v∧bR C x.1 v∧(x.2=Gb→aO C ω w B (.slot s) x.1 v)
theorem aq.cr {C ω w B e tmps}(h:aq C ω w B e tmps):br C e tmps:=
 fun s x hx=>let ⟨v,h1,h2,_⟩:=h s x hx; ⟨v,h1,h2⟩
theorem bG.ext {P:Program}{C:aM}{ω w w' B b r x}(h:Ext w w')(hb:bG P C ω w B b r x):bG P C ω w' B b r x:=by
 cases x with
 |hole=>exact hb
 |cells cs=>
  obtain⟨vs,elem,h1,h2,h3⟩:=hb
  exact⟨vs,elem,h.get h1,h2,fun j c hc=>let ⟨v,a,q,b,d⟩:=h3 j c hc; ⟨v,a,q,b,fun e=>(d e).ext h⟩⟩
 |map es=>obtain⟨cg,clock,h1,h2⟩:=hb;exact⟨cg,clock,h.get h1,h2⟩
 |iter s pos=>exact h.get hb
 |loop l=>obtain⟨lp,h1,h2⟩:=hb;exact⟨lp,h.get h1,h2⟩
 |fX t e l=>obtain⟨p,v,h1,h2,h3,h4⟩:=hb;exact⟨p,v,h.get h1,h2,h3,h4.ext h⟩
 |dead=>obtain⟨cs,t,h1⟩:=hb;exact⟨cs,t,h.get h1⟩
 |vec sz bL xs=>
  obtain⟨q,cap,h1,h2,h3,h4,cs,t,h5⟩:=hb
  have hex:∀ {k:Nat} {o:Obj},w.heap[k]?=I o→w'.heap[k]?=w.heap[k]?:=fun hk=>by rw[h.get hk,hk]
  refine⟨q,cap,h1,h2,h3.imp (fun _ _ _ h=>h) ?_,h4.imp id fun h4=>h4.ext h,cs,t,h.get h5⟩
  obtain⟨cells,t',_,g1,_⟩:=h3
  exact hex g1
theorem az.tabs {P C ω w0 w C0 hp}(m:az P C ω w0 C0 hp w):Tabs P w:=
 m.base.1.same m.size fun g hg=>m.frame g (m.base.1 g hg).1 (m.base.2 g hg).1 (m.base.2 g hg).2
theorem az.ext {P:Program}{C:aM}{ω w0 w w' C0 hp}(h:Ext w w')(m:az P C ω w0 C0 hp w):az P C ω w0 C0 hp w' where
 base:=m.base
 know r o v hk:=h.cell (m.know r o v hk)
 dw:=m.dw
 apart:=m.apart
 inj:=m.inj
 lt b r hb:=⟨Gs (m.lt b r hb).1 h.size,(m.lt b r hb).2⟩
 size:=Nat.le_trans m.size h.size
 frame r hr hn hw:=by rw[h.same r (Gs hr m.size)];exact m.frame r hr hn hw
 ft r hr:=h.get (m.ft r hr)
 os:=h.os.trans m.os
 output:=h.output.trans m.output
 fresh:=m.fresh
 grown:=m.grown
 old:=m.old
 box b x r hx hb:=(m.box b x r hx hb).ext h
 iF q hq:=Gs (m.iF q hq) h.size
theorem aq.ext {C ω w w' B e tmps}(h:Ext w w')(he:aq C ω w B e tmps):aq C ω w' B e tmps:=
 fun s x hx=>let ⟨v,a,b,d⟩:=he s x hx; ⟨v,a,b,fun e=>(d e).ext h⟩
def aM.put (C:aM)(r off:Nat)(vs:List Value):aM:={ C with K:=fun b o=>if b=r∧off≤o∧o<off+vs.length then vs[o-off]? else C.K b o }
theorem aM.gH {C:aM}{r off}(vs:List Value)(h:∀o,off≤o→C.K r o=En):C.le (C.put r off vs):=
 ⟨fun b o v hk=>(by
  simp only[aM.put]
  rw[if_neg]
  ·exact hk
  ·rintro ⟨rfl,h1,_⟩;rw[h o h1]at hk;cases hk),fun _ _ h=>h,rfl,fun _ h=>h,fun _ h=>h⟩
theorem aM.Aq {C:aM}{r off vs j v}(h:vs[j]?=I v):(C.put r off vs).K r (off+j)=I v:=by
 have hj:j<vs.length:=(Gz.1 h).1
 show(if r=r∧off≤off+j∧off+j<off+vs.length then vs[off+j-off]? else C.K r (off+j))=I v
 rw[if_pos ⟨rfl,by omega,by omega⟩,show off+j-off=j from by omega,h]
theorem cz.iG {C r xs}:∀ {vs:List Value} {o:Nat},aW C xs vs→(∀j v,vs[j]?=I v→C.K r (o+j)=I v)→cz C r xs o:=by
 induction xs with
 |nil=>intro vs o _ _;exact .il _ _
 |cons x xs ih=>
  intro vs o h hk
  cases h with
  |cons _ _ v vs hx h=>
   refine .dO _ _ _ _ v (by simpa using hk 0 v rfl) hx (ih h ?_)
   intro j u hj
   rw[show o+1+j=o+(j+1)from by omega]
   exact hk (j+1) u (by simpa using hj)
theorem aM.fo {C:aM}{r off xs vs}(hn:∀o,off≤o→C.K r o=En)(h:aW C xs vs):cz (C.put r off vs) r xs off:=
 cz.iG (aI.mono (aM.gH vs hn) h) fun _ _ hj=>aM.Aq hj
theorem az.jU {P C ω w0 w C0 hp}(m:az P C ω w0 C0 hp w)(r:Nat)(hr:w.heap.size≤r)(o:Nat):C.K r o=En:=by
 cases h:C.K r o with
 |none=>rfl
 |some v=>
  have:=m.know r o v h
  unfold World.cell? at this
  rw[show w.heap[(⟨r,o,En⟩:Addr).block]?=En from Array.getElem?_eq_none hr]at this
  cases this
theorem aO.put {C ω w B r off ℓ x v}(vs:List Value)(hr:w.heap.size≤r∨ω r≠I ℓ)(ho:aO C ω w B ℓ x v):aO (C.put r off vs) ω w B ℓ x v:=by
 unfold aO at *
 split at ho
 ·rename_i a len cap
  obtain⟨h1,h2,h3,h4,h8,⟨cells,elem,h5,h6⟩,h7⟩:=ho
  have bw:a.block<w.heap.size:=(Gj.1 h5).1
  refine⟨h1,h2,h3,h4,h8,⟨cells,elem,h5,h6⟩,fun o ho=>?_⟩
  simp only[aM.put]
  rw[if_neg]
  ·exact h7 o ho
  ·rintro ⟨rfl,_⟩
   rcases hr with hr|hr
   ·omega
   ·exact hr h1
 ·rename_i a
  obtain⟨h1,h2,h3,h4,h8,⟨cells,elem,h5,h6⟩,h7⟩:=ho
  have bw:a.block<w.heap.size:=(Gj.1 h5).1
  refine⟨h1,h2,h3,h4,h8,⟨cells,elem,h5,h6⟩,fun o ho=>?_⟩
  simp only[aM.put]
  rw[if_neg]
  ·exact h7 o ho
  ·rintro ⟨rfl,_⟩
   rcases hr with hr|hr
   ·omega
   ·exact hr h1
 ·trivial
theorem cA.imp {P C C'}(h:(∀r o v,C.K r o=some v→C'.K r o=some v)∧(∀b r,C.β b=some r→C'.β b=some r)){l lp}(k:cA P C l lp)(hT:∀q,C.T q→C'.T q:=by first|exact fun _ h=>h|exact fun _ h=>False.elim h):cA P C' l lp:=
 { k with env:=fun s x hx=>let ⟨v,a,b⟩:=k.env s x hx; ⟨v,a,aI.imp h b hT⟩ }
theorem cA.mono {P C C'}(h:C.le C'){l lp}(k:cA P C l lp):cA P C' l lp:=k.imp ⟨h.k,h.b⟩ h.t
theorem bG.imp {P C C' ω ω' w w' B B' b r x}(h:(∀r o v,C.K r o=I v→C'.K r o=I v)∧(∀b r,C.β b=I r→C'.β b=I r))(hw:w'.heap[r]?=w.heap[r]?)
  (ho:∀j y v,aO C ω w B (.cell b j) y v→aO C' ω' w' B' (.cell b j) y v) (hb:bG P C ω w B b r x) (hT:∀q,C.T q→C'.T q:=by exact fun _ h=>h) (Fp:∀x,C'.T x→x.1=r→C.T x:=by exact fun _ h _=>h)
  (hq:∀q n cap,xY C ω w B b q n cap→w'.heap[q]?=w.heap[q]?:=by exact fun _ _ _ _=>rfl):bG P C' ω' w' B' b r x:=by
 cases x with
 |hole=>exact hb
 |cells cs=>
  obtain⟨vs,elem,h1,h2,h3⟩:=hb
  exact⟨vs,elem,hw.trans h1,h2,fun j c hc=>let ⟨v,a,q,b,d⟩:=h3 j c hc; ⟨v,a,q,aI.imp h b hT,fun e=>ho _ _ _ (d e)⟩⟩
 |map es=>obtain⟨cg,clock,h1,h2⟩:=hb;exact⟨cg,clock,hw.trans h1,h2.imp h hT⟩
 |iter s pos=>exact hw.trans hb
 |loop l=>obtain⟨lp,h1,h2⟩:=hb;exact⟨lp,hw.trans h1,h2.imp h hT⟩
 |fX t e l=>obtain⟨p,v,h1,h2,h3,h4⟩:=hb;exact⟨p,v,hw.trans h1,h2,h3,ho _ _ _ h4⟩
 |dead=>obtain⟨cs,t,h1⟩:=hb;exact⟨cs,t,hw.trans h1⟩
 |vec sz bL xs=>exact ew.imp h.1 hT Fp hw (fun q n cap k=>⟨hq q n cap k,ho _ _ _ k⟩) hb
theorem bG.mono {P C C' ω ω' w B b r x}(h:C.le C')
  (ho:∀j y v,aO C ω w B (.cell b j) y v→aO C' ω' w B (.cell b j) y v) (hb:bG P C ω w B b r x) (Fp:∀x,C'.T x→x.1=r→C.T x:=by exact fun _ h _=>h):bG P C' ω' w B b r x:=hb.imp ⟨h.k,h.b⟩ rfl ho h.t Fp
theorem az.newRow {P:Program}{C ω w0 w C0 hp}(m:az P C ω w0 C0 hp w)(cells:Array Value)(t:TypeId)(vs:List Value)
  (hv:∀(j:Nat) v,vs[j]?=I v→cells[j]?=I v) (h1:∀v∈vs,v.oneCell'=Gb):
  az P (C.put w.heap.size 0 vs) ω w0 C0 hp (w.alloc (.cells cells t)):=by
 have hx:Ext w (w.alloc (.cells cells t)):=Ext.alloc w _ (fun c t fr h=>by cases h;rfl)
 have m':=m.ext hx
 have hn:∀o,C.K w.heap.size o=En:=m.jU _ (Gn _)
 have hle:=aM.gH (C:=C) (off:=0) vs (fun o _=>hn o)
 refine { m' with know:=?_,dw:=?_,apart:=?_,grown:=aM.le_trans m.grown hle,old:=?_,box:=?_ }
 ·intro r o v hk
  simp only[aM.put]at hk
  split at hk
  ·rename_i hc
   obtain⟨rfl,_,_⟩:=hc
   simp only[World.cell?]
   rw[wi,if_pos rfl]
   simpa using hv _ _ hk
  ·exact m'.know r o v hk
 ·intro r o v hk
  simp only[aM.put]at hk
  split at hk
  ·exact h1 v (List.mem_of_getElem? hk)
  ·exact m.dw r o v hk
 ·intro b r o hb
  have:=(m.lt b r hb).1
  simp only[aM.put]
  rw[if_neg (by omega)]
  exact m.apart b r o hb
 ·intro r o hr hw
  have:=m.size
  simp only[aM.put]
  rw[if_neg (by omega)]
  exact m.old r o hr hw
 ·intro b x r fp hb
  exact((m.box b x r fp hb).mono (ω':=ω) hle fun j y v ho=>ho.put vs (.inl (Gn _))).ext hx
theorem aq.put {C:aM}{ω w B e tmps r off}(vs:List Value)(hr:w.heap.size≤r∨∀s,ji s e≠En→(ji s e).any (·.2)=Gb→ω r≠I (.slot s))(hn:∀o,off≤o→C.K r o=En)(he:aq C ω w B e tmps):aq (C.put r off vs) ω w B e tmps:=
 fun s x hx=>let ⟨v,a,b,d⟩:=he s x hx; ⟨v,a,aI.mono (aM.gH vs hn) b,fun e=>(d e).put vs (hr.imp id fun h=>h s (by rw[hx];simp) (by rw[hx];exact e))⟩
def cQ (ω:Nat→Option Loc)(r:Nat)(ℓ:Loc):Nat→Option Loc:=fun b=>if b=r then I ℓ else ω b
theorem aO.other {C ω w B r ℓ ℓ' x v}(hr:ω r≠I ℓ∨ℓ=ℓ')(ho:aO C ω w B ℓ x v):aO C (Abs.cQ ω r ℓ') w B ℓ x v:=by
 unfold aO at *
 split at ho
 ·rename_i a len cap
  obtain⟨h1,h2⟩:=ho
  refine⟨?_,h2⟩
  simp only[Abs.cQ]
  by_cases hb:a.block=r
  ·rw[if_pos hb]
   rcases hr with hr|hr
   ·exact absurd (hb▸h1) hr
   ·rw[hr]
  ·rw[if_neg hb];exact h1
 ·rename_i a
  obtain⟨h1,h2⟩:=ho
  refine⟨?_,h2⟩
  simp only[Abs.cQ]
  by_cases hb:a.block=r
  ·rw[if_pos hb]
   rcases hr with hr|hr
   ·exact absurd (hb▸h1) hr
   ·rw[hr]
  ·rw[if_neg hb];exact h1
 ·trivial
theorem aO.fresh {C ω w B r ℓ ℓ' x v}(hr:w.heap.size≤r)(ho:aO C ω w B ℓ x v):aO C (Abs.cQ ω r ℓ') w B ℓ x v:=by
 unfold aO at *
 split at ho
 ·rename_i a len cap
  obtain⟨h1,h2,h3,h4,h8,⟨cells,elem,h5,h6⟩,h7⟩:=ho
  have bw:a.block<w.heap.size:=(Gj.1 h5).1
  refine⟨?_,h2,h3,h4,h8,⟨cells,elem,h5,h6⟩,h7⟩
  simp only[Abs.cQ]
  rw[if_neg (by omega)]
  exact h1
 ·rename_i a
  obtain⟨h1,h2,h3,h4,h8,⟨cells,elem,h5,h6⟩,h7⟩:=ho
  have bw:a.block<w.heap.size:=(Gj.1 h5).1
  refine⟨?_,h2,h3,h4,h8,⟨cells,elem,h5,h6⟩,h7⟩
  simp only[Abs.cQ]
  rw[if_neg (by omega)]
  exact h1
 ·trivial
theorem aq.fresh {C ω w B r ℓ e tmps}(hr:w.heap.size≤r)(he:aq C ω w B e tmps):aq C (Abs.cQ ω r ℓ) w B e tmps:=
 fun s x hx=>let ⟨v,a,b,d⟩:=he s x hx; ⟨v,a,b,fun e=>(d e).fresh hr⟩
theorem az.kF {P C ω w0 w C0 hp}(m:az P C ω w0 C0 hp w)(r:Nat)(ℓ:Loc)(hr:w.heap.size≤r):az P C (Abs.cQ ω r ℓ) w0 C0 hp w:=
 { m with box:=fun b x r' hx hb=>(m.box b x r' hx hb).mono (aM.le_refl C) fun _ _ _ ho=>ho.fresh hr }
theorem az.cQ {P C ω w0 w C0 hp}(m:az P C ω w0 C0 hp w)(r:Nat)(ℓ:Loc)(hr:∀b j,ω r≠I (.cell b j)):az P C (Abs.cQ ω r ℓ) w0 C0 hp w:=
 { m with box:=fun b x r' hx hb=>(m.box b x r' hx hb).mono (aM.le_refl C) fun j _ _ ho=>ho.other (.inl (hr b j)) }
def zk (P:Program)(C0:aM)(w0:World)(C:aM)(tmps:Array Value)(d:Loc)(env:Env)(res:bj)(v:Value)(w':World):Prop:=
 ∃C' ω',C.le C'∧az P C' ω' w0 C0 res.heap w'∧aq C' ω' w' w0.heap.size (yb env res.strip) tmps∧bR C' res.v v∧(res.own=Gb→aO C' ω' w' w0.heap.size d res.v v)
theorem qvf (C:aM){v x}(h:Ds v=I x):bR C x v:=by
 unfold Ds at h
 split at h<;>first|cases h|skip
 ·exact .bool _
 ·exact .int _ _
 ·exact .str _
 ·exact .jI _
 ·exact .b8
 ·exact .b4
 ·exact .cx
theorem Ku (C:aM):∀ {vs:List Value} {xs:List AVal},wh vs=I xs→aW C xs vs
 | [],xs,h=>by simp[wh]at h;subst h;exact .nil
 |v::vs,xs,h=>by
  simp only[wh]at h
  split at h
  ·rename_i x hx
   split at h
   ·rename_i ys mV
    cases h
    exact .cons _ _ _ _ (qvf C hx) (Ku C mV)
   ·cases h
  ·cases h
theorem qsf (C:aM){v x}(h:ofValue v=I x):bR C x v:=by
 unfold ofValue at h
 split at h
 ·rename_i cs
  split at h
  ·rename_i xs hx
   cases h
   exact .agg _ _ (Ku C hx)
  ·cases h
 ·exact qvf C h
section
variable {P:Program}{C C0:aM}{ω:Nat→Option Loc}{w w0:World}{hp:qi}{env:Env}{a:Act}{B:Nat}
theorem qx {x y v}(he:br C env a.tmps)(hc:qv x=I y)(hv:qh env y=I v):bR C v (a.eval x):=by
 cases x with
 |tmp t=>
  simp only[qv]at hc
  cases hc
  simp only[qh]at hv
  split at hv
  ·rename_i x hx
   cases hv
   obtain⟨u,h1,h2⟩:=he t x hx
   have:a.eval (.tmp t)=u:=by simp[Act.eval,Array.getD_eq_getD_getElem?,h1]
   rw[this];exact h2
  ·cases hv
 |const u=>
  simp only[qv]at hc
  split at hc
  ·rename_i z hz
   cases hc
   simp only[qh]at hv
   cases hv
   exact qsf C hz
  ·cases hc
 |func f=>
  simp only[qv]at hc
  cases hc
  simp only[qh]at hv
  cases hv
  exact .fn (.func f) (.func f) [] [] [] [] rfl .nil .nil
 |global g=>simp[qv]at hc
theorem DA (he:br C env a.tmps):∀ {xs:List Operand} {ys:List js} {vs:List AVal},pz xs=I ys→ky env ys=I vs→aW C vs (xs.map a.eval)
 | [],ys,vs,hc,hv=>by simp[pz]at hc;subst hc;simp[ky]at hv;subst hv;exact .nil
 |x::xs,ys,vs,hc,hv=>by
  simp only[pz]at hc
  split at hc
  ·rename_i y hy
   split at hc
   ·rename_i zs qI
    cases hc
    simp only[ky]at hv
    split at hv
    ·rename_i v nY
     split at hv
     ·rename_i us gZ
      cases hv
      exact .cons _ _ _ _ (qx he hy nY) (DA he qI gZ)
     ·cases hv
    ·cases hv
   ·cases hc
  ·cases hc
theorem bR.dy {b v}(h:bR C (.bool b) v):v=.bool b:=by cases h;rfl
theorem bR.bU {k n v}(h:bR C (.int k n) v):v=.int k n:=by cases h;rfl
theorem bR.cw {s v}(h:bR C (.str s) v):v=.string ⟨⟨s⟩⟩:=by cases h;rfl
theorem bR.dz {b o v}(h:bR C (.ptr b o) v):∃r,C.β b=I r∧v=.pointer (I ⟨r,o,En⟩):=by cases h;exact⟨_,‹_›,rfl⟩
theorem bR.fb {x v}(h:bR C (.ai x) v):∃r o,v=.pointer (I ⟨r,o,En⟩)∧cz C r x.flat o:=by cases h;exact⟨_,_,rfl,‹_›⟩
theorem bR.eO {cs v}(h:bR C (.agg cs) v):∃vs,v=.agg ⟨vs⟩∧aW C cs vs:=by cases h;exact⟨_,rfl,‹_›⟩
theorem bR.nZ {cs v}(h:bR C (.aJ cs) v):∃vs,v=.tuple ⟨vs⟩∧aW C cs vs:=by cases h;exact⟨_,rfl,‹_›⟩
theorem bR.fc {b o len v}(h:bR C (.ms b o len) v):∃r cap,C.β b=I r∧len≤cap∧v=.slice (I ⟨r,o,En⟩) len cap:=by cases h;exact⟨_,_,‹_›,‹_›,rfl⟩
theorem bR.dc {n sz xs v}(h:bR C (.list n sz xs) v):
  (n=Gb∧xs=[]∧v=.slice En 0 0)∨(n=Ga∧∃r o cap,v=.slice (I ⟨r,o,En⟩) xs.length cap∧xs.length≤cap∧bz C r sz xs o)∨(n=Ga∧xs=[]∧∃a,a.spot≠En∧v=.slice (I a) 0 0):=by
 cases h
 ·exact .inl ⟨rfl,rfl,rfl⟩
 ·exact .inr (.inl ⟨rfl,_,_,_,rfl,‹_›,‹_›⟩)
 ·exact .inr (.inr ⟨rfl,rfl,_,‹_›,rfl⟩)
theorem bR.len {n sz xs v}(h:bR C (.list n sz xs) v):∃b cap,v=.slice b xs.length cap:=by
 rcases h.dc with⟨rfl,rfl,rfl⟩|⟨rfl,r,o,cap,rfl,_,_⟩|⟨rfl,rfl,a,_,rfl⟩
 ·exact⟨En,0,rfl⟩
 ·exact⟨_,_,rfl⟩
 ·exact⟨_,_,rfl⟩
theorem add_lit (r o n:Nat):(⟨r,o,En⟩:Addr).add n=⟨r,o+n,En⟩:=by unfold Addr.add;split<;>simp_all
theorem Ar (k:IntKind)(n:Int):qe k n=k.wrap n:=by
 unfold qe
 cases h:qE k n with
 |false=>rfl
 |true=>
  simp only[cond_true]
  symm
  have key:∀m:Nat,IntKind.min k≤n→n≤IntKind.max k→k.wrap n=n:=by
   intro _ h1 h2
   unfold IntKind.wrap
   cases k<;>simp[IntKind.bits,IntKind.signed,IntKind.min,IntKind.max]at *<;>omega
  refine key 0 ?_ ?_
  ·cases k<;>cases n<;>simp[qE,IntKind.min,IntKind.signed,IntKind.bits]at *<;>omega
  ·cases k<;>cases n<;>simp[qE,IntKind.max,IntKind.signed,IntKind.bits]at *<;>omega
theorem DB {t:TypeId}{b}(h:yr P t=I b)(w:World):(isAgg t).run P w=.ok b w:=by
 unfold yr at h
 unfold isAgg
 cases hu:P.underlying t with
 |none=>simp[hu]at h
 |some d=>rw[hu]at h;simp[run_underlying hu];cases d<;>simp at h<;>subst h<;>rfl
theorem ym {t:TypeId}{n}(h:jp P t=I n)(w:World):(sizeOf t).run P w=.ok n w:=by
 unfold jp at h
 cases hi:P.info? t with
 |none=>simp[hi]at h
 |some i=>simp[hi]at h;simp[sizeOf,typeInfo,hi,h]
theorem q19 {t:TypeId}{ag n off cs vs x}(hg:yr P t=I ag)(hn:jp P t=I n)(hp:part ag cs off n=I x)(hr:aW C cs vs)(w:World):
  ∃v,(Go.part t ⟨vs⟩ off).run P w=.ok v w∧bR C x v:=by
 unfold part at hp
 cases ag with
 |true=>
  simp only[cond_true]at hp
  cases hb:Gd (off+n) cs.length with
  |false=>simp[hb]at hp
  |true=>
   simp[hb]at hp
   subst hp
   refine⟨.agg ⟨(vs.drop off).take n⟩,?_,.agg _ _ ((hr.drop off).take n)⟩
   simp[Go.part,DB hg,ym hn]
 |false=>
  simp only[cond_false]at hp
  obtain⟨v,h1,h2⟩:=hr.get hp
  exact⟨v,by simp[Go.part,DB hg,h1],h2⟩
theorem qpd (a:List UInt8):(⟨⟨a⟩⟩:ByteArray).toList=a:=by
 rw[ByteArray.toList_eq]
end
theorem QH:∀ {ks:List Kd} {xs ys:List AVal} (Fq:List Kd) (fT n5:List AVal),xs.length=ks.length→ys.length=ks.length →
  ya (ks++Fq) (xs++fT) (ys++n5)=match ya ks xs ys with|some Gb=>ya Fq fT n5|r=>r
 | [],[],[],Fq,fT,n5,_,_=>by simp[ya]
 |k::ks,x::xs,y::ys,Fq,fT,n5,h,h'=>by
  simp only[List.cons_append,ya]
  cases he:lv k x y with
  |none=>simp
  |some b=>cases b with
   |false=>simp
   |true=>simpa using QH Fq fT n5 (by simpa using h) (by simpa using h')
 | [],_::_,_,_,_,_,h,_=>by simp at h
 | [],[],_::_,_,_,_,_,h=>by simp at h
 |_::_,[],_,_,_,_,h,_=>by simp at h
 |_::_,_::_,[],_,_,_,_,h=>by simp at h
def uU (ag:Bool)(us:List Value):Value:=if ag then .agg ⟨us⟩else us.headD undef
def Kv:TypeDesc→Bool
 | .struct _=>Gb
 | .array _ _=>Gb
 |_=>Ga
section
variable {P:Program}{C:aM}
theorem jfb {t:TypeId}{d:TypeDesc}(h:P.underlying t=I d):yr P t=I (Kv d):=by
 unfold yr
 rw[h]
 cases d<;>rfl
theorem Kx {t:TypeId}{ag n off us}(hg:yr P t=I ag)(hn:jp P t=I n)(h1:ag=Ga→n=1)(hl:off+n≤us.length)(w:World):
  (Go.part t ⟨us⟩ off).run P w=.ok (uU ag ((us.drop off).take n)) w:=by
 cases ag with
 |true=>simp[Go.part,DB hg,ym hn,uU]
 |false=>
  obtain rfl:=h1 rfl
  have bw:off<us.length:=by omega
  simp only[Go.part,Sem.run_bind,DB hg,Result.andThen_ok,uU,Gx,if_false]
  have e:(⟨us⟩:Array Value)[off]?=I us[off]:=by
   show(List.toArray us)[off]?=_
   rw[G9,List.getElem?_eq_getElem bw]
  rw[e,List.drop_eq_getElem_cons bw]
  rfl
def QI (P:Program)(C:aM)(n:Nat)(t:TypeId)(ks:List Kd):Prop:=
 ∃ag,yr P t=I ag∧jp P t=I ks.length∧(ag=Ga→ks.length=1)∧∀d,n≤d→∀xs ys us vs b w,aW C xs us→aW C ys vs→xs.length=ks.length→ys.length=ks.length→ya ks xs ys=I b →
  (Op.equalIn d t (uU ag us) (uU ag vs)).run P w=.ok b w
theorem Ky {α:Type}(xs:List α)(off n:Nat):xs.drop off=(xs.drop off).take n++xs.drop (off+n):=by
 rw[←List.drop_drop];exact(List.take_append_drop _ _).symm
theorem qsj {n d}(hd:n≤d):∀(fs:List Field) (off:Nat) (ks:List Kd) (xs ys:List AVal) (us vs:List Value) (b:Bool) (w:World),
  Fh (uT P n) off fs=I ks →
  (∀f∈fs,∀ks,uT P n f.type=I ks→QI P C n f.type ks) →
  aW C xs us→aW C ys vs→xs.length=off+ks.length→ys.length=off+ks.length→ya ks (xs.drop off) (ys.drop off)=I b →
  (Op.eqFields d ⟨us⟩ ⟨vs⟩ fs).run P w=.ok b w
 | [],off,ks,xs,ys,us,vs,b,w,hf,_,hx,hy,mW,oG,he=>by
  simp[Fh]at hf
  subst hf
  rw[Gi (by simp at mW;omega),Gi (by simp at oG;omega)]at he
  simp[ya]at he
  subst he
  simp[Op.eqFields]
 |f::fs,off,ks,xs,ys,us,vs,b,w,hf,dQ,hx,hy,mW,oG,he=>by
  simp only[Fh]at hf
  split at hf
  ·rename_i hc
   simp at hc
   obtain⟨Fs,wk⟩:=hc
   split at hf
   ·rename_i k1 gf
    split at hf
    ·rename_i k2 dA
     cases hf
     obtain⟨ag,dm,da,h1,heq⟩:=dQ f (by simp) k1 gf
     have QJ:=hx.length
     have wm:=hy.length
     simp at mW oG
     have p1:=Kx (P:=P) (us:=us) (off:=f.offset) dm da h1 (by omega) w
     have p2:=Kx (P:=P) (us:=vs) (off:=f.offset) dm da h1 (by omega) w
     rw[Ky xs off k1.length,Ky ys off k1.length,QH _ _ _ (by simp;omega) (by simp;omega)]at he
     simp only[Op.eqFields,ne_eq,Fs,not_false_eq_true,if_true,Sem.run_bind,p1,p2,Result.andThen_ok]
     rw[wk]
     cases hb:ya k1 ((xs.drop off).take k1.length) ((ys.drop off).take k1.length)with
     |none=>rw[hb]at he;cases he
     |some b1=>
      rw[hb]at he
      rw[heq d hd _ _ _ _ b1 w ((hx.drop off).take _) ((hy.drop off).take _) (by simp;omega) (by simp;omega) hb]
      cases b1 with
      |false=>simp at he;subst he;simp
      |true=>
       simp only[Result.andThen_ok,If,Gx,if_false]
       exact qsj hd fs (off+k1.length) k2 xs ys us vs b w dA (fun g hg=>dQ g (by simp[hg])) hx hy (by omega) (by omega) he
    ·cases hf
   ·cases hf
  ·cases hf
theorem qus {n d}(hd:n≤d){e:TypeId}{ag k1}(dm:yr P e=I ag)(da:jp P e=I k1.length)(h1:ag=Ga→k1.length=1)
  (heq:∀d,n≤d→∀xs ys us vs b w,aW C xs us→aW C ys vs→xs.length=k1.length→ys.length=k1.length→ya k1 xs ys=I b→(Op.equalIn d e (uU ag us) (uU ag vs)).run P w=.ok b w):
  ∀(len i:Nat) (xs ys:List AVal) (us vs:List Value) (b:Bool) (w:World),
  aW C xs us→aW C ys vs→xs.length=i*k1.length+len*k1.length→ys.length=i*k1.length+len*k1.length→ya (Gq len k1).flatten (xs.drop (i*k1.length)) (ys.drop (i*k1.length))=I b →
  (Op.eqItems d e k1.length ⟨us⟩ ⟨vs⟩ (List.range' i len)).run P w=.ok b w
 |0,i,xs,ys,us,vs,b,w,hx,hy,mW,oG,he=>by
  rw[Gi (by simp at mW;omega),Gi (by simp at oG;omega)]at he
  simp[ya]at he
  subst he
  simp[Op.eqItems]
 |len+1,i,xs,ys,us,vs,b,w,hx,hy,mW,oG,he=>by
  have QJ:=hx.length
  have wm:=hy.length
  rw[Gm]at mW oG
  have p1:=Kx (P:=P) (us:=us) (off:=i*k1.length) dm da h1 (by omega) w
  have p2:=Kx (P:=P) (us:=vs) (off:=i*k1.length) dm da h1 (by omega) w
  rw[List.replicate_succ,List.flatten_cons,Ky xs (i*k1.length) k1.length,Ky ys (i*k1.length) k1.length,QH _ _ _ (by simp;omega) (by simp;omega)]at he
  simp only[List.range'_succ,Op.eqItems,Sem.run_bind,p1,p2,Result.andThen_ok]
  cases hb:ya k1 ((xs.drop (i*k1.length)).take k1.length) ((ys.drop (i*k1.length)).take k1.length)with
  |none=>rw[hb]at he;cases he
  |some b1=>
   rw[hb]at he
   rw[heq d hd _ _ _ _ b1 w ((hx.drop _).take _) ((hy.drop _).take _) (by simp;omega) (by simp;omega) hb]
   cases b1 with
   |false=>simp at he;subst he;simp
   |true=>
    simp only[Result.andThen_ok,If,Gx,if_false]
    refine qus hd dm da h1 heq len (i+1) xs ys us vs b w hx hy (by rw[mW,Gm];omega) (by rw[oG,Gm];omega) ?_
    rw[Gm];exact he
theorem q0n {t:TypeId}{n}(h:jp P t=I n):P.cellsOf t=n:=by
 unfold jp at h
 unfold Program.cellsOf
 rw[h];rfl
theorem q0w {t:TypeId}{n}(h:jp P t=I n):∃i,P.info? t=I i∧i.size=n:=by
 unfold jp at h
 cases hi:P.info? t with
 |none=>simp[hi]at h
 |some i=>exact⟨i,rfl,by simpa[hi]using h⟩
theorem q64 {k x y b}(h:ya [k] [x] [y]=I b):lv k x y=I b:=by
 simp only[ya]at h
 split at h<;>simp_all
theorem jfg {xs us}(h:aW C xs us)(hl:xs.length=1):∃x u,xs=[x]∧us=[u]∧bR C x u:=by
 obtain⟨x,rfl⟩:=List.length_eq_one_iff.1 hl
 cases h with
 |cons _ _ u vs hx h=>cases h;exact⟨x,u,rfl,rfl,hx⟩
theorem q3w {k x y b u v}(h:lv k x y=I b)(hx:bR C x u)(hy:bR C y v):
  match k with
  | .int=>∃kd a c,u=.int kd a∧v=.int kd c∧b=(a == c)
  | .str=>∃a c:List UInt8,u=.string ⟨⟨a⟩⟩∧v=.string ⟨⟨c⟩⟩∧b=(a == c)
  | .bool=>∃a c,u=.bool a∧v=.bool c∧b=(a == c):=by
 unfold lv at h
 split at h
 ·rename_i k a k' c
  cases hx;cases hy
  by_cases hk:k=k'
  ·subst hk;simp at h;exact⟨_,_,_,rfl,rfl,h.symm⟩
  ·simp[hk]at h
 ·cases hx;cases hy;cases h;exact⟨_,_,rfl,rfl,rfl⟩
 ·cases hx;cases hy;cases h;exact⟨_,_,rfl,rfl,rfl⟩
 ·cases h
theorem q3g {t:TypeId}{k x y b u v}(hk:kE P t=I k)(h:lv k x y=I b)(hx:bR C x u)(hy:bR C y v)(d:Nat)(w:World):
  (Op.equalIn (d+1) t u v).run P w=.ok b w:=by
 have hc:=q3w h hx hy
 unfold kE at hk
 cases hu:P.underlying t with
 |none=>simp[hu]at hk
 |some D=>
  rw[hu]at hk
  cases D<;>simp at hk<;>subst hk<;>simp only[]at hc
  ·obtain⟨a,c,rfl,rfl,rfl⟩:=hc;exact run_equalIn_bool w d t a c hu
  ·obtain⟨kd,a,c,rfl,rfl,rfl⟩:=hc;exact run_equalIn_int w d t kd _ a c hu
  ·obtain⟨a,c,rfl,rfl,rfl⟩:=hc
   rw[run_equalIn_string w d t _ _ hu,qpd,qpd]
theorem QK:∀ (n:Nat) (t:TypeId) (ks:List Kd),uT P n t=I ks→QI P C n t ks
 |0,t,ks,h=>by simp[uT]at h
 |n+1,t,ks,h=>by
  unfold uT at h
  cases hu:P.underlying t with
  |none=>simp[hu]at h
  |some D=>
   rw[hu]at h
   have dm:=jfb hu
   have scalar:∀k,ks=[k]→jp P t=I 1→kE P t=I k→Kv D=Ga→QI P C (n+1) t ks:=by
    intro k hks hs hk ha
    subst hks
    refine⟨Ga,by rw[dm,ha],hs,fun _=>rfl,?_⟩
    intro d hd xs ys us vs b w hx hy mW oG he
    obtain⟨d,rfl⟩:∃m,d=m+1:=⟨d-1,by omega⟩
    obtain⟨x,u,rfl,rfl,As⟩:=jfg hx mW
    obtain⟨y,v,rfl,rfl,hy1⟩:=jfg hy oG
    exact q3g hk (q64 he) As hy1 d w
   cases D<;>simp only[]at h<;>first|(simp at h;done)|skip
   case int k=>
    split at h<;>first|cases h|skip
    rename_i hs
    exact scalar .int rfl (by simpa using hs) (by simp[kE,hu]) rfl
   case bool=>
    split at h<;>first|cases h|skip
    rename_i hs
    exact scalar .bool rfl (by simpa using hs) (by simp[kE,hu]) rfl
   case string=>
    split at h<;>first|cases h|skip
    rename_i hs
    exact scalar .str rfl (by simpa using hs) (by simp[kE,hu]) rfl
   case array len e=>
    split at h
    ·rename_i k1 gf
     split at h
     ·rename_i hs
      cases h
      obtain⟨ag,QL,da,h1,heq⟩:=QK n e k1 gf
      have hlen:(Gq len k1).flatten.length=len*k1.length:=by simp[List.length_flatten]
      refine⟨Gb,by simpa[Kv]using dm,by rw[hlen];simpa using hs,(fun h=>by cases h),?_⟩
      intro d hd xs ys us vs b w hx hy mW oG he
      obtain⟨d,rfl⟩:∃m,d=m+1:=⟨d-1,by omega⟩
      obtain⟨i,hi,_⟩:=q0w da
      simp only[uU,if_true]
      rw[run_equalIn_array w d _ _ hu hi,q0n da,List.range_eq_range']
      exact qus (by omega) QL da h1 heq len 0 xs ys us vs b w hx hy (by rw[mW,hlen];omega) (by rw[oG,hlen];omega) (by simpa using he)
     ·cases h
    ·cases h
   case struct fs=>
    split at h
    ·rename_i k1 gf
     split at h
     ·rename_i hs
      cases h
      simp at hs
      obtain⟨hso,da⟩:=hs
      refine⟨Gb,by simpa[Kv]using dm,da,(fun h=>by cases h),?_⟩
      intro d hd xs ys us vs b w hx hy mW oG he
      obtain⟨d,rfl⟩:∃m,d=m+1:=⟨d-1,by omega⟩
      simp only[uU,if_true]
      have hf:P.fieldsOf t=fs:=by simp[Program.fieldsOf,hu]
      rw[run_equalIn_struct w d t _ _ (by rw[hf];exact hu) hso,hf]
      exact qsj (n:=n) (by omega) fs.toList 0 _ xs ys us vs b w gf (fun f _ ks hp=>QK n f.type ks hp) hx hy (by omega) (by omega) (by simpa using he)
     ·cases h
    ·cases h
end
section
variable {P:Program}{C:aM}{w:World}{env:Env}{a:Act}{o:Oper}
def Val (P:Program)(C:aM)(a:Act)(o:Oper)(w:World)(x:AVal):Prop:=∃v,(execOp a.eval o).run P w=.ok (.value v) w∧bR C x v
theorem jim {x y v}(he:br C env a.tmps)(ho:o.op=.move x∨o.op=.assign x)(hc:qv x=I y)(hv:qh env y=I v):Val P C a o w v:=by
 refine⟨a.eval x,?_,qx he hc hv⟩
 rcases ho with ho|ho<;>simp[execOp,ho]
theorem jf8 {c x y c' x' y' b u v}(he:br C env a.tmps)(ho:o.op=.pick c x y)(h1:qv c=I c')(h2:qv x=I x')(h3:qv y=I y')
  (e1:qh env c'=I (.bool b)) (e2:qh env x'=I u) (e3:qh env y'=I v):Val P C a o w (bif b then u else v):=by
 have r1:=(qx he h1 e1).dy
 have r2:=qx he h2 e2
 have r3:=qx he h3 e3
 refine⟨if b then a.eval x else a.eval y,by simp[execOp,ho,r1,asBool],?_⟩
 cases b<;>simpa
theorem qpp {x y v}(he:br C env a.tmps)(ho:o.op=.nilCheck x)(hc:qv x=I y)(hv:qh env y=I v)
  (hk:(∃b p,v=.ptr b p)∨(∃z,v=.ai z)):Val P C a o w v:=by
 have r:=qx he hc hv
 rcases hk with⟨b,p,rfl⟩|⟨z,rfl⟩
 ·obtain⟨q,_,hq⟩:=r.dz
  exact⟨a.eval x,by simp[execOp,ho,hq],r⟩
 ·obtain⟨q,p,hq,_⟩:=r.fb
  exact⟨a.eval x,by simp[execOp,ho,hq],r⟩
theorem QM (op:BinOp)(k:IntKind)(x y:Int)(t:TypeId)(h1:op≠.shl)(h2:op≠.shr):binOp op t (.int k x) (.int k y)=match op with
  | .add | .sub | .mul=>Op.intArith op k x y
  | .quo | .rem=>Op.intDiv op k x y
  | .and | .or | .xor | .andNot=>Op.intBits op k x y
  |_=>Op.intCmp op x y:=by
 cases op<;>simp at h1 h2<;>simp[binOp]
theorem ja0 {op k x y v}(h:oD op k x y=I v)(t:TypeId)(w:World):∃u,(binOp op t (.int k x) (.int k y)).run P w=.ok u w∧bR C v u:=by
 unfold oD at h
 cases op<;>simp only[]at h<;>first|(cases h;done)|skip
 case quo=>
  cases hy:(y == 0)with
  |true=>simp[hy]at h
  |false=>
   simp[hy]at h
   subst h
   have:y≠0:=by simpa using hy
   rw[Ar,QM _ _ _ _ _ (by simp) (by simp)]
   refine⟨_,?_,.int _ _⟩
   simp[Op.intDiv,this]
 case rem=>
  cases hy:(y == 0)with
  |true=>simp[hy]at h
  |false=>
   simp[hy]at h
   subst h
   have:y≠0:=by simpa using hy
   rw[QM _ _ _ _ _ (by simp) (by simp)]
   refine⟨_,?_,.int _ _⟩
   simp[Op.intDiv,this]
 all_goals (cases h;rw[QM _ _ _ _ _ (by simp) (by simp)];try rw[Ar])
 all_goals first
  |exact⟨_,rfl,.int _ _⟩
  |exact⟨_,rfl,.bool _⟩
theorem qo7:∀ (x y:List UInt8),bytesLess x y=Op.bytesLess x y
 |x,[]=>by cases x<;>rfl
 | [],_::_=>rfl
 |a::x,b::y=>by simp only[bytesLess,Op.bytesLess,qo7 x y]
theorem q85 {op x y v}(h:Fg op x y=I v)(t:TypeId)(w:World):∃u,(binOp op t (.string ⟨⟨x⟩⟩) (.string ⟨⟨y⟩⟩)).run P w=.ok u w∧bR C v u:=by
 unfold Fg at h
 cases op<;>simp only[]at h<;>first|(cases h;done)|skip
 ·cases hb:Gd (x.length+y.length) 4611686018427387904 with
  |false=>simp[hb]at h
  |true=>
   simp[hb]at h
   subst h
   have hle:x.length+y.length≤4611686018427387904:=Gr hb
   refine⟨.string ⟨⟨x++y⟩⟩,?_,.str _⟩
   have e1:(⟨⟨x⟩⟩:ByteArray).size=x.length:=rfl
   have e2:(⟨⟨y⟩⟩:ByteArray).size=y.length:=rfl
   have e3:(⟨⟨x⟩⟩:ByteArray)++⟨⟨y⟩⟩=⟨⟨x++y⟩⟩:=by
    apply ByteArray.ext
    simp[ByteArray.data_append]
   simp only[binOp,Op.stringOp,e1,e2,e3,IntKind.max,IntKind.signed,IntKind.bits]
   rw[if_neg (by simp;omega)]
   rfl
 all_goals (cases h;refine⟨_,?_,.bool _⟩;simp[binOp,Op.stringOp,qo7])
theorem q9t {op x y v u u'}(h:yu op x y=I v)(hx:bR C x u)(hy:bR C y u')(t:TypeId)(w:World):∃z,(binOp op t u u').run P w=.ok z w∧bR C v z:=by
 unfold yu at h
 split at h
 ·rename_i k a k' b
  obtain rfl:=hx.bU
  obtain rfl:=hy.bU
  have hsh:∀(op:BinOp),(op=.shl∨op=.shr)→Kk op k a b=I v→∃z,(binOp op t (.int k a) (.int k' b)).run P w=.ok z w∧bR C v z:=by
   intro op hop h
   unfold Kk at h
   cases hb:decide (b<0)with
   |true=>simp[hb]at h
   |false=>
    have fH:¬b<0:=by simpa using hb
    rcases hop with rfl|rfl<;>simp[hb]at h<;>subst h
    ·rw[Ar]; (refine⟨_,?_,.int _ _⟩;simp[binOp,Op.shift,fH])
    ·(refine⟨_,?_,.int _ _⟩;simp[binOp,Op.shift,fH])
  have hin:op≠.shl→op≠.shr→(bif decide (k=k')then oD op k a b else En)=I v→∃z,(binOp op t (.int k a) (.int k' b)).run P w=.ok z w∧bR C v z:=by
   intro _ _ h
   by_cases hk:k=k'
   ·subst hk;simp at h;exact ja0 h t w
   ·simp[hk]at h
  cases op<;>simp only[]at h<;>first|exact hsh _ (.inl rfl) h|exact hsh _ (.inr rfl) h|exact hin (by simp) (by simp) h
 ·obtain rfl:=hx.cw
  obtain rfl:=hy.cw
  exact q85 h t w
 ·cases h
theorem q6m (op:BinOp)(t:TypeId)(x y:Operand)(u v:Value)(w:World)(h1:¬(u=.nilIface∧v=.nilIface))(h2:(∀cs,u≠.agg cs)∨P.eqGuardType P.depth t=Ga):(eqGuard op t x y u v).run P w=.ok () w:=by
 unfold eqGuard
 by_cases hop:(!(match op with | .eql | .neq=>Gb|_=>Ga))=Gb
 ·cases op<;>simp_all
 ·cases op<;>simp at hop ⊢
  all_goals (
   split
   ·exact absurd ⟨rfl,rfl⟩ h1
   ·rcases h2 with h2|h2
    ·rename_i cs _ ;exact absurd rfl (h2 cs)
    ·simp[h2]
   ·rfl)
theorem Kz {op}{t u:TypeId}{x y p q z}(ho:o.op=.binOp op t x y u)(hx:a.eval x=p)(hy:a.eval y=q)(h1:¬(p=.nilIface∧q=.nilIface))(h2:(∀cs,p≠.agg cs)∨P.eqGuardType P.depth t=Ga)
  (hz:(binOp op t p q).run P w=.ok z w):(execOp a.eval o).run P w=.ok (.value z) w:=by
 have hg:=q6m (P:=P) op t x y p q w h1 h2
 subst hx;subst hy
 simp only[execOp,ho,Sem.run_bind,hg,Result.andThen_ok,hz,Sem.run_pure]
theorem q0v {x v}(h:bR C x v)(hx:x≠.undef)(hy:x≠.any:=by simp):v≠.nilIface:=by
 cases h<;>simp at hx hy ⊢
theorem q0o {op x y v}(h:yu op x y=I v):(x≠.undef∧(∀cs,x≠.agg cs)∧x≠.any):=by
 unfold yu at h
 split at h<;>simp at h ⊢
theorem q7h {x v}(h:bR C x v)(hx:x≠.undef)(ha:∀cs,x≠.agg cs)(hy:x≠.any:=by simp):∀cs,v≠.agg cs:=by
 cases h<;>simp at hx ha hy ⊢
theorem joq {op}{t u:TypeId}{x y x' y' p q v}(he:br C env a.tmps)(ho:o.op=.binOp op t x y u)(h1:qv x=I x')(h2:qv y=I y')
  (e1:qh env x'=I p) (e2:qh env y'=I q) (hv:yu op p q=I v):Val P C a o w v:=by
 have r1:=qx he h1 e1
 have r2:=qx he h2 e2
 obtain⟨hn,ha,hy⟩:=q0o hv
 obtain⟨z,hz,hr⟩:=q9t (P:=P) hv r1 r2 t w
 refine⟨z,?_,hr⟩
 exact Kz ho rfl rfl (fun h=>q0v r1 hn hy h.1) (.inl (q7h r1 hn ha hy)) hz
theorem QN {neq}{t:TypeId}{u v b}(w:World)(hu:(∀k n,u≠.int k n)∧(∀s,u≠.string s)∧(∀k n,u≠.float k n)∧(∀k n m,u≠.complex k n m))
  (h:(Op.equal t u v).run P w=.ok b w):(binOp (if neq then .neq else .eql) t u v).run P w=.ok (.bool (bif neq then !b else b)) w:=by
 obtain⟨h1,h2,h3,h4⟩:=hu
 cases neq<;>cases u<;>simp_all [binOp]
theorem jn5 {op neq}{t u:TypeId}{x y x' y' p q ks b}(he:br C env a.tmps)(ho:o.op=.binOp op t x y u)(hop:op=if neq then .neq else .eql)
  (h1:qv x=I x') (h2:qv y=I y') (e1:qh env x'=I (.agg p)) (e2:qh env y'=I (.agg q)) (hg:P.eqGuardType P.depth t=Ga) (hk:uT P Kn t=I ks) (dm:yr P t=I Gb)
  (hH:p.length=ks.length) (oH:q.length=ks.length) (hb:ya ks p q=I b):Val P C a o w (.bool (bif neq then !b else b)):=by
 obtain⟨us,hu,ru⟩:=(qx he h1 e1).eO
 obtain⟨vs,hv,rv⟩:=(qx he h2 e2).eO
 obtain⟨ag,ha,_,_,heq⟩:=QK (C:=C) Kn t ks hk
 rw[dm]at ha;cases ha
 have hq:=heq 10000 (by decide) p q us vs b w ru rv hH oH hb
 simp only[uU,if_true]at hq
 refine⟨_,?_,.bool _⟩
 have qJ:=QN (P:=P) (neq:=neq) (t:=t) (u:=.agg ⟨us⟩) (v:=.agg ⟨vs⟩) (b:=b) w ⟨by simp,by simp,by simp,by simp⟩ hq
 exact Kz (hop▸ho) hu hv (by simp) (.inr hg) qJ
theorem joi {op neq}{t u:TypeId}{x y x' y' p q}(he:br C env a.tmps)(ho:o.op=.binOp op t x y u)(hop:op=if neq then .neq else .eql)
  (h1:qv x=I x') (h2:qv y=I y') (e1:qh env x'=I (.bool p)) (e2:qh env y'=I (.bool q)) (ht:P.underlying t=I .bool):Val P C a o w (.bool (bif neq then !(p == q)else p == q)):=by
 have hu:=(qx he h1 e1).dy
 have hv:=(qx he h2 e2).dy
 refine⟨_,?_,.bool _⟩
 have qJ:=QN (P:=P) (neq:=neq) (t:=t) (u:=.bool p) (v:=.bool q) (b:=p == q) w ⟨by simp,by simp,by simp,by simp⟩ (run_equalIn_bool w 9999 t p q ht)
 exact Kz (hop▸ho) hu hv (by simp) (.inl (by simp)) qJ
theorem jfd {op neq b}{t u:TypeId}{x y c}(ho:o.op=.binOp op t x y u)(hop:op=if neq then .neq else .eql)
  (hy:a.eval y=c) (bI:(∀k n,a.eval x≠.int k n)∧(∀s,a.eval x≠.string s)∧(∀k n,a.eval x≠.float k n)∧(∀k n m,a.eval x≠.complex k n m)) (dm:∀cs,a.eval x≠.agg cs) (QO:a.eval x≠.nilIface)
  (h:(Op.equal t (a.eval x) c).run P w=.ok b w):Val P C a o w (.bool (bif neq then !b else b)):=by
 refine⟨_,?_,.bool _⟩
 have qJ:=QN (P:=P) (neq:=neq) w bI h
 exact Kz (hop▸ho) rfl hy (fun h=>QO h.1) (.inl dm) qJ
theorem jvk {op}{t:TypeId}{x x' p v}(he:br C env a.tmps)(ho:o.op=.unOp op t x)(h1:qv x=I x')(e1:qh env x'=I p)(hv:xR op p=I v):Val P C a o w v:=by
 have r1:=qx he h1 e1
 unfold xR at hv
 split at hv
 ·obtain hu:=r1.bU
  cases hv
  rw[Ar]
  (refine⟨_,?_,.int _ _⟩;simp[execOp,ho,hu,Op.unary,Op.intArith])
 ·obtain hu:=r1.dy
  cases hv
  (refine⟨_,?_,.bool _⟩;simp[execOp,ho,hu,Op.unary])
 ·cases hv
theorem jhu {s d:TypeId}{k k0 x x' k1 n}(he:br C env a.tmps)(ho:o.op=.convert s d x)(hs:P.underlying s=I (.int k0))(hd:P.underlying d=I (.int k))
  (h1:qv x=I x') (e1:qh env x'=I (.int k1 n)):Val P C a o w (.int k (qe k n)):=by
 have hu:=(qx he h1 e1).bU
 rw[Ar]
 (refine⟨_,?_,.int _ _⟩;simp[execOp,ho,hu,convert,run_underlying hs,run_underlying hd,Conv.intToInt])
theorem q7f {s d:TypeId}{x x' v}(he:br C env a.tmps)(ho:o.op=.convert s d x)(hs:P.underlying s=I .string)(hd:P.underlying d=I .string)
  (h1:qv x=I x') (e1:qh env x'=I v) (hv:∃l,v=.str l):Val P C a o w v:=by
 obtain⟨l,rfl⟩:=hv
 have r:=qx he h1 e1
 have hu:=r.cw
 exact⟨_,by simp[execOp,ho,hu,convert,run_underlying hs,run_underlying hd];rfl,by rw[←hu];exact r⟩
theorem q23 {s d:TypeId}{x x' v k0}(he:br C env a.tmps)(ho:o.op=.convert s d x)(hs:P.underlying s=I (.int k0))(hd:P.underlying d=I .string)
  (h1:qv x=I x') (e1:qh env x'=I v) (hv:∃l,v=.str l):Val P C a o w v:=by
 obtain⟨l,rfl⟩:=hv
 have r:=qx he h1 e1
 have hu:=r.cw
 exact⟨_,by simp[execOp,ho,hu,convert,run_underlying hs,run_underlying hd];rfl,by rw[←hu];exact r⟩
theorem q6i {s d:TypeId}{x x' k0 k1 n}(he:br C env a.tmps)(ho:o.op=.convert s d x)(hs:P.underlying s=I (.int k0))(hd:P.underlying d=I .string)
  (h1:qv x=I x') (e1:qh env x'=I (.int k1 n)):Val P C a o w (.str (Utf8.encode n).data.toList):=by
 have hu:=(qx he h1 e1).bU
 exact⟨.string (Utf8.encode n),by simp[execOp,ho,hu,convert,run_underlying hs,run_underlying hd,Conv.intToString],.str _⟩
theorem q39 {s d:TypeId}{x x' k1 n}(he:br C env a.tmps)(ho:o.op=.convert s d x)(hs:P.underlying s=I .string)(hd:P.underlying d=I .string)
  (h1:qv x=I x') (e1:qh env x'=I (.int k1 n)):Val P C a o w (.str (Utf8.encode n).data.toList):=by
 have hu:=(qx he h1 e1).bU
 exact⟨.string (Utf8.encode n),by simp[execOp,ho,hu,convert,run_underlying hs,run_underlying hd,Conv.intToString],.str _⟩
theorem jd5 {t:TypeId}{x x' i fs f ag n cs v}(he:br C env a.tmps)(ho:o.op=.field t x i)(ht:P.underlying t=I (.struct fs))(hf:fs[i]?=I f)
  (dm:yr P f.type=I ag) (hn:jp P f.type=I n) (h1:qv x=I x') (e1:qh env x'=I (.agg cs)) (hv:Abs.part ag cs f.offset n=I v):Val P C a o w v:=by
 obtain⟨us,hu,ru⟩:=(qx he h1 e1).eO
 obtain⟨z,hz,hr⟩:=q19 dm hn hv ru w
 refine⟨z,?_,hr⟩
 simp[execOp,ho,hu,Instr.field,run_underlying ht,hf,asAgg,hz]
theorem Ft {n v j}(h:idx n v=I j):∃k,v=.int k (j:Int)∧j<n:=by
 unfold idx at h
 split at h
 ·rename_i k i
  cases hb:Gh i n with
  |false=>simp[hb]at h
  |true=>
   simp[hb]at h
   subst h
   exact⟨k,rfl,by have:=Gr hb;omega⟩
 ·cases h
theorem jd7 {n v j}(h:Af n v=I j):∃k,v=.int k (j:Int)∧j≤n:=by
 unfold Af at h
 split at h
 ·rename_i k i
  cases hb:Gd i n with
  |false=>simp[hb]at h
  |true=>
   simp[hb]at h
   subst h
   exact⟨k,rfl,Gr hb⟩
 ·cases h
theorem jed {t e:TypeId}{x i x' i' len n ag cs iv v j}(he:br C env a.tmps)(ho:o.op=.index t x i)(ht:P.underlying t=I (.array len e))
  (dm:yr P e=I ag) (hn:jp P e=I n) (h1:qv x=I x') (h2:qv i=I i') (e1:qh env x'=I (.agg cs)) (e2:qh env i'=I iv) (hj:idx len iv=I j) (hv:Abs.part ag cs (j*n) n=I v):Val P C a o w v:=by
 obtain⟨us,hu,ru⟩:=(qx he h1 e1).eO
 obtain⟨k,rfl,bw⟩:=Ft hj
 have hi:=(qx he h2 e2).bU
 obtain⟨z,hz,hr⟩:=q19 dm hn hv ru w
 refine⟨z,?_,hr⟩
 simp[execOp,ho,hu,hi,Instr.index,asIntOf,run_underlying ht,bw,ym hn,hz]
theorem q20 {t:TypeId}{x i x' i' s iv j c}(he:br C env a.tmps)(ho:o.op=.index t x i)(ht:P.underlying t=I .string)
  (h1:qv x=I x') (h2:qv i=I i') (e1:qh env x'=I (.str s)) (e2:qh env i'=I iv) (hj:idx s.length iv=I j) (hc:s[j]?=I c):Val P C a o w (.int .u8 c.toNat):=by
 have hu:=(qx he h1 e1).cw
 obtain⟨k,rfl,bw⟩:=Ft hj
 have hi:=(qx he h2 e2).bU
 refine⟨_,?_,.int _ _⟩
 have hb:(⟨⟨s⟩⟩:ByteArray)[j]?=I c:=by
  rw[getElem?_pos (ByteArray.mk ⟨s⟩) j bw]
  exact congrArg I (Gz.1 hc).2
 simp[execOp,ho,hu,hi,Instr.index,asIntOf,run_underlying ht,hb]
end
section
variable {P:Program}{C:aM}{w:World}{env:Env}{a:Act}{o:Oper}
theorem qa5 {z:AVal}(h:z.isAgg=Ga):z.flat=[z]:=by cases z<;>simp[AVal.isAgg,AVal.flat]at *
theorem q72 {ag:Bool}{cs off n r q z}(hc:cz C r cs q)(hz:Abs.part ag cs off n=I z)(hx:Gy ag z.isAgg=Ga):cz C r z.flat (q+off):=by
 unfold Abs.part at hz
 cases ag with
 |true=>
  simp only[cond_true]at hz
  cases hb:Gd (off+n) cs.length with
  |false=>simp[hb]at hz
  |true=>simp[hb]at hz;subst hz;exact cz.take n (cz.drop off hc)
 |false=>
  simp only[cond_false]at hz
  rw[qa5 (by simpa using hx)]
  obtain⟨u,h1,h2⟩:=hc.get hz
  exact .dO _ _ _ _ u h1 h2 (.il _ _)
theorem qoj {t:TypeId}{x x' i fs f ag n p v}(he:br C env a.tmps)(ho:o.op=.fieldAddr t x i)(ht:P.underlying t=I (.struct fs))(hf:fs[i]?=I f)
  (hn:jp P f.type=I n) (Au:0<n) (h1:qv x=I x') (e1:qh env x'=I p)
  (hv:(∃b q,p=.ptr b q∧v=.ptr b (q+f.offset))∨(∃cs z,p=.ai (.agg cs)∧Abs.part ag cs f.offset n=I z∧Gy ag z.isAgg=Ga∧v=.ai z)):Val P C a o w v:=by
 have bH:∀r q,a.eval x=.pointer (I ⟨r,q,En⟩)→(execOp a.eval o).run P w=.ok (.value (.pointer (I ⟨r,q+f.offset,En⟩))) w:=by
  intro r q hq
  simp[execOp,ho,Instr.fieldAt,run_underlying ht,hf,hq,Instr.sureAddr,fieldPlace,ym hn,Nat.pos_iff_ne_zero.1 Au,add_lit]
 rcases hv with⟨b,q,rfl,rfl⟩|⟨cs,z,rfl,hz,hx,rfl⟩
 ·obtain⟨r,hr,hq⟩:=(qx he h1 e1).dz
  exact⟨_,bH r q hq,.ptr _ _ _ hr⟩
 ·obtain⟨r,q,hq,hc⟩:=(qx he h1 e1).fb
  exact⟨_,bH r q hq,.ai _ _ _ (q72 hc hz hx)⟩
theorem qok {t e:TypeId}{x i x' i' sz p iv v}(he:br C env a.tmps)(ho:o.op=.indexAddr t x i)(ht:P.underlying t=I (.slice e))
  (hn:jp P e=I sz) (h1:qv x=I x') (h2:qv i=I i') (e1:qh env x'=I p) (e2:qh env i'=I iv)
  (hv:(∃b q len j,p=.ms b q len∧idx len iv=I j∧v=.ptr b (q+j*sz))∨(∃nl xs z j,p=.list nl sz xs∧idx xs.length iv=I j∧xs[j]?=I z∧v=.ai z)):Val P C a o w v:=by
 have bH:∀r q len cap j,a.eval x=.slice (I ⟨r,q,En⟩) len cap→idx len iv=I j→(execOp a.eval o).run P w=.ok (.value (.pointer (I ⟨r,q+j*sz,En⟩))) w:=by
  intro r q len cap j hq hj
  obtain⟨k,rfl,bw⟩:=Ft hj
  have hi:=(qx he h2 e2).bU
  simp[execOp,ho,Instr.indexAt,run_underlying ht,hq,hi,asIntOf,ym hn,bw,add_lit]
 rcases hv with⟨b,q,len,j,rfl,hj,rfl⟩|⟨nl,xs,z,j,rfl,hj,hz,rfl⟩
 ·obtain⟨r,cap,hr,_,hq⟩:=(qx he h1 e1).fc
  exact⟨_,bH r q len cap j hq hj,.ptr _ _ _ hr⟩
 ·rcases(qx he h1 e1).dc with⟨rfl,rfl,hq⟩|⟨rfl,r,q,cap,hq,_,dp⟩|⟨rfl,rfl,_⟩
  ·simp at hz
  ·exact⟨_,bH r q _ cap j hq hj,.ai _ _ _ (dp.get hz)⟩
  ·simp at hz
theorem qoy {t e:TypeId}{x i x' i' len sz ag p iv v j}(he:br C env a.tmps)(ho:o.op=.indexAddr t x i)(ht:P.underlying t=I (.array len e))
  (hn:jp P e=I sz) (h1:qv x=I x') (h2:qv i=I i') (e1:qh env x'=I p) (e2:qh env i'=I iv) (hj:idx len iv=I j)
  (hv:(∃b q,p=.ptr b q∧v=.ptr b (q+j*sz))∨(∃cs z,p=.ai (.agg cs)∧Abs.part ag cs (j*sz) sz=I z∧Gy ag z.isAgg=Ga∧v=.ai z)):Val P C a o w v:=by
 have bH:∀r q,a.eval x=.pointer (I ⟨r,q,En⟩)→(execOp a.eval o).run P w=.ok (.value (.pointer (I ⟨r,q+j*sz,En⟩))) w:=by
  intro r q hq
  obtain⟨k,rfl,bw⟩:=Ft hj
  have hi:=(qx he h2 e2).bU
  simp[execOp,ho,Instr.indexAt,run_underlying ht,hq,hi,asIntOf,Instr.sureAddr,ym hn,bw,add_lit]
 rcases hv with⟨b,q,rfl,rfl⟩|⟨cs,z,rfl,hz,hx,rfl⟩
 ·obtain⟨r,hr,hq⟩:=(qx he h1 e1).dz
  exact⟨_,bH r q hq,.ptr _ _ _ hr⟩
 ·obtain⟨r,q,hq,hc⟩:=(qx he h1 e1).fb
  exact⟨_,bH r q hq,.ai _ _ _ (q72 hc hz hx)⟩
theorem KA {x x' d n j}(he:br C env a.tmps)(hc:mT x=I x')(hb:fF env d n x'=I j):
  (x=En∧j=d)∨(∃y k,x=I y∧a.eval y=.int k (j:Int)∧j≤n):=by
 cases x with
 |none=>simp[mT]at hc;subst hc;simp[fF]at hb;exact .inl ⟨rfl,hb.symm⟩
 |some x=>
  simp only[mT]at hc
  split at hc
  ·rename_i z hz
   cases hc
   simp only[fF]at hb
   split at hb
   ·rename_i v hv
    obtain⟨k,rfl,hle⟩:=jd7 hb
    exact .inr ⟨x,k,rfl,(qx he hz hv).bU,hle⟩
   ·cases hb
  ·cases hc
theorem KB {lo hi lA gg len cap i j isS}(he:br C env a.tmps)(h1:mT lo=I lA)(h2:mT hi=I gg)(b2:fF env len len gg=I j)(b1:fF env 0 j lA=I i)(hc:len≤cap)(w:World):
  (Instr.sliceBounds isS len cap (lo.map a.eval) (hi.map a.eval) En).run P w=.ok (i,j,cap) w∧i≤j∧j≤len:=by
 have k2:j≤len:=by
  rcases KA he h2 b2 with⟨_,rfl⟩|⟨_,_,_,_,h⟩
  ·exact Gn _
  ·exact h
 have k1:i≤j:=by
  rcases KA he h1 b1 with⟨_,rfl⟩|⟨_,_,_,_,h⟩
  ·exact Nat.zero_le _
  ·exact h
 refine⟨?_,k1,k2⟩
 have hj:j≤cap:=by omega
 rcases KA he h2 b2 with⟨rfl,rfl⟩|⟨y,k,rfl,hy,_⟩<;>rcases KA he h1 b1 with⟨rfl,rfl⟩|⟨z,k',rfl,hz,_⟩
 ·simp[Instr.sliceBounds]
 ·simp[Instr.sliceBounds,hz,Instr.sliceBound,asIntOf,k1]
 ·simp[Instr.sliceBounds,hy,Instr.sliceBound,asIntOf,hj]
 ·simp[Instr.sliceBounds,hy,hz,Instr.sliceBound,asIntOf,hj,k1]
theorem qzo {t e:TypeId}{x lo hi x' lA gg sz i j p v}(he:br C env a.tmps)(ho:o.op=.slice t x lo hi En)(ht:P.underlying t=I (.slice e))
  (hn:jp P e=I sz) (h1:qv x=I x') (h2:mT lo=I lA) (h3:mT hi=I gg) (e1:qh env x'=I p)
  (hv:(∃b q len,p=.ms b q len∧fF env len len gg=I j∧fF env 0 j lA=I i∧(i=0∨i<j)∧v=.ms b (q+i*sz) (j-i)) ∨
   (∃nl dl xs,p=.list nl dl xs∧(sz=dl∨xs=[])∧fF env xs.length xs.length gg=I j∧fF env 0 j lA=I i∧v=.list nl dl ((xs.take j).drop i))):Val P C a o w v:=by
 have bH:∀b len cap,a.eval x=.slice b len cap→len≤cap→fF env len len gg=I j→fF env 0 j lA=I i →
   (execOp a.eval o).run P w=.ok (.value (.slice (if cap=i then b else b.map (·.add (i*sz))) (j-i) (cap-i))) w∧i≤j∧j≤len:=by
  intro b len cap hq hle b2 b1
  obtain⟨hb,k1,k2⟩:=KB (P:=P) (isS:=true) he h2 h3 b2 b1 hle w
  refine⟨?_,k1,k2⟩
  simp[execOp,ho,Instr.sliceAt,Instr.slice,run_underlying ht,hq,hb,ym hn]
 rcases hv with⟨b,q,len,rfl,b2,b1,n6,rfl⟩|⟨nl,dl,xs,rfl,da,b2,b1,rfl⟩
 ·obtain⟨r,cap,hr,hle,hq⟩:=(qx he h1 e1).fc
  obtain⟨hw,k1,k2⟩:=bH _ len cap hq hle b2 b1
  refine⟨_,hw,?_⟩
  by_cases hc:cap=i
  ·rw[if_pos hc]
   obtain rfl:i=0:=by omega
   simpa using aI.ms b q (j-0) r (cap-0) hr (by omega)
  ·rw[if_neg hc]
   simp only[Hd,add_lit]
   exact .ms _ _ _ _ _ hr (by omega)
 ·rcases(qx he h1 e1).dc with⟨rfl,rfl,hq⟩|⟨rfl,r,q,cap,hq,hle,dp⟩|⟨rfl,rfl,ad,mg,hq⟩
  ·obtain⟨hw,k1,k2⟩:=bH _ 0 0 hq (Gn _) b2 b1
   simp at k2
   obtain rfl:=k2
   obtain rfl:i=0:=by omega
   exact⟨_,hw,by simpa using aI.jI dl⟩
  ·obtain⟨hw,k1,k2⟩:=bH _ _ cap hq hle b2 b1
   refine⟨_,hw,?_⟩
   have hl:((xs.take j).drop i).length=j-i:=by simp;omega
   rw[←hl]
   by_cases hc:cap=i
   ·rw[if_pos hc]
    have kG:(xs.take j).drop i=[]:=Gi (by simp;omega)
    rw[kG]
    exact .list _ _ _ _ _ (by simp) (.fN _ _ _)
   ·rw[if_neg hc]
    simp only[Hd,add_lit]
    refine .list _ _ _ _ _ (by rw[hl];omega) ?_
    rcases da with rfl|rfl
    ·exact bz.drop i (bz.take j dp)
    ·simpa using aI.fN _ _ _
  ·obtain⟨hw,k1,k2⟩:=bH _ 0 0 hq (Gn _) b2 b1
   simp at k2
   obtain rfl:=k2
   obtain rfl:i=0:=by omega
   exact⟨_,hw,by simpa using aI.jJ dl ad mg⟩
theorem q4f {t e:TypeId}{x lo hi x' lA gg len sz i j b q}(he:br C env a.tmps)(ho:o.op=.slice t x lo hi En)(ht:P.underlying t=I (.array len e))
  (hn:jp P e=I sz) (h1:qv x=I x') (h2:mT lo=I lA) (h3:mT hi=I gg) (e1:qh env x'=I (.ptr b q)) (b2:fF env len len gg=I j) (b1:fF env 0 j lA=I i) (n6:i=0∨i<j):Val P C a o w (.ms b (q+i*sz) (j-i)):=by
 obtain⟨r,hr,hq⟩:=(qx he h1 e1).dz
 obtain⟨hb,k1,k2⟩:=KB (P:=P) (isS:=false) he h2 h3 b2 b1 (Gn len) w
 refine⟨_,by simp[execOp,ho,Instr.sliceAt,Instr.sureAddr,run_underlying ht,hq,hb,ym hn];rfl,?_⟩
 by_cases hc:len=i
 ·rw[if_pos hc]
  obtain rfl:i=0:=by omega
  simpa using aI.ms b q (j-0) r (len-0) hr (by omega)
 ·rw[if_neg hc]
  simp only[add_lit]
  exact .ms _ _ _ _ _ hr (by omega)
theorem q0q (s:List UInt8)(i j:Nat):(⟨⟨s⟩⟩:ByteArray).extract i j=⟨⟨(s.take j).drop i⟩⟩:=by
 apply ByteArray.ext
 rw[ByteArray.data_extract]
 apply G8
 simp[List.extract_eq_take_drop,List.drop_take]
theorem q3b {t:TypeId}{x lo hi x' lA gg i j s}(he:br C env a.tmps)(ho:o.op=.slice t x lo hi En)(ht:P.underlying t=I .string)
  (h1:qv x=I x') (h2:mT lo=I lA) (h3:mT hi=I gg) (e1:qh env x'=I (.str s)) (b2:fF env s.length s.length gg=I j) (b1:fF env 0 j lA=I i):Val P C a o w (.str ((s.take j).drop i)):=by
 have hq:=(qx he h1 e1).cw
 obtain⟨hb,k1,k2⟩:=KB (P:=P) (isS:=false) he h2 h3 b2 b1 (Gn s.length) w
 have da:(⟨⟨s⟩⟩:ByteArray).size=s.length:=rfl
 refine⟨.string ⟨⟨(s.take j).drop i⟩⟩,?_,.str _⟩
 simp[execOp,ho,Instr.sliceAt,Instr.slice,run_underlying ht,hq,da,hb,q0q]
theorem q8p {k xs ys fT n5 us vs}(he:br C env a.tmps)(ho:o.op=.makeFunc (.func k) xs ys)(h1:pz xs.toList=I fT)(h2:pz ys.toList=I n5)(e1:ky env fT=I us)(e2:ky env n5=I vs):
  Val P C a o w (.fn (.func k) us vs):=by
 refine⟨.func (.func k) (xs.map a.eval) (ys.map a.eval),by simp[execOp,ho,Instr.makeFunc],?_⟩
 have r1:=DA he h1 e1
 have r2:=DA he h2 e2
 have q1:xs.map a.eval=⟨xs.toList.map a.eval⟩:=by apply G8;simp
 have q2:ys.map a.eval=⟨ys.toList.map a.eval⟩:=by apply G8;simp
 rw[q1,q2]
 exact .fn _ _ _ _ _ _ rfl r1 r2
theorem QP {c x}{t:TypeId}{x' p n}(he:br C env a.tmps)(ho:o.op=.call c)(ek:c.callee=.builtin .len)(eC:c.args.toList=[x])(eV:c.argTypes.toList=[t])
  (h1:qv x=I x') (e1:qh env x'=I p)
  (hv:(P.underlying t=I .string∧∃s,p=.str s∧n=s.length)∨((∃e,P.underlying t=I (.slice e))∧((∃nl sz xs,p=.list nl sz xs∧n=xs.length)∨(∃b q,p=.ms b q n)))):Val P C a o w (.int .i64 n):=by
 have ha:c.args=#[x]:=by apply G8;simpa using eC
 have lB:c.argTypes=#[t]:=by apply G8;simpa using eV
 refine⟨.int .i64 n,?_,.int _ _⟩
 simp only[execOp,ho,resolve,ek,ha,lB,Sem.run_bind,Sem.run_pure,Result.andThen_ok,invoke,builtin,Builtin.len_]
 rcases hv with⟨ht,s,rfl,rfl⟩|⟨⟨e,ht⟩,⟨nl,sz,xs,rfl,rfl⟩|⟨b,q,rfl⟩⟩
 ·have hq:=(qx he h1 e1).cw
  simp[run_underlying ht,hq,goInt]
  rfl
 ·obtain⟨b,cap,hq⟩:=(qx he h1 e1).len
  simp[run_underlying ht,hq,goInt]
 ·obtain⟨r,cap,_,_,hq⟩:=(qx he h1 e1).fc
  simp[run_underlying ht,hq,goInt]
theorem QQ {f:AVal→AVal→Option AVal}{g:Value→Value→Sem Value}(hfg:∀x y z u v,f x y=I z→bR C x u→bR C y v→∃q,(g u v).run P w=.ok q w∧bR C z q):
  ∀(ys:List AVal) (x z:AVal) (u:Value) (vs:List Value),nP f x ys=I z→bR C x u→aW C ys vs→∃q,(vs.foldlM g u).run P w=.ok q w∧bR C z q
 | [],x,z,u,vs,h,hx,hy=>by
  cases hy
  simp[nP]at h;subst h
  exact⟨u,rfl,hx⟩
 |y::ys,x,z,u,vs,h,hx,hy=>by
  cases hy with
  |cons _ _ v vs hy hr=>
   simp only[nP]at h
   split at h
   ·rename_i z1 lC
    obtain⟨q,hq,rq⟩:=hfg x y z1 u v lC hx hy
    obtain⟨q2,hq2,rq2⟩:=QQ hfg ys z1 z q vs h rq hr
    exact⟨q2,by simp[List.foldlM_cons,hq,hq2],rq2⟩
   ·cases h
theorem jds {c:Call}{fT:List js}{p v:AVal}{ps:List AVal}{mx:Bool}(he:br C env a.tmps)(ho:o.op=.call c)(ek:c.callee=.builtin (if mx then .max else .min))(h1:pz c.args.toList=I fT)(e1:ky env fT=I (p::ps))
  (hv:nP (if mx then max2 else min2) p ps=I v):Val P C a o w v:=by
 have r1:=DA he h1 e1
 have eI:(c.args.map a.eval).toList=c.args.toList.map a.eval:=by simp
 cases mx
 ·generalize hl:c.args.toList.map a.eval=l at r1
  cases r1 with
  |cons _ _ u us hu gZ=>
   obtain⟨q,hq,rq⟩:=QQ (P:=P) (w:=w) (C:=C) (f:=min2) (g:=Builtin.min2) (fun x y z u v h hx hy=>by
    unfold min2 at h
    split at h<;>first|cases h|skip
    rename_i k n k' m
    by_cases hk:k=k'
    ·subst hk;simp at h;subst h
     obtain rfl:=hx.bU
     obtain rfl:=hy.bU
     exact⟨_,rfl,.int _ _⟩
    ·simp[hk]at h) ps p v u us (by simpa using hv) hu gZ
   refine⟨q,?_,rq⟩
   simp only[Gx,if_false]at ek
   simp[execOp,ho,resolve,ek,invoke,builtin,Builtin.min_,hl,hq]
 ·generalize hl:c.args.toList.map a.eval=l at r1
  cases r1 with
  |cons _ _ u us hu gZ=>
   obtain⟨q,hq,rq⟩:=QQ (P:=P) (w:=w) (C:=C) (f:=max2) (g:=Builtin.max2) (fun x y z u v h hx hy=>by
    unfold max2 at h
    split at h<;>first|cases h|skip
    rename_i k n k' m
    by_cases hk:k=k'
    ·subst hk;simp at h;subst h
     obtain rfl:=hx.bU
     obtain rfl:=hy.bU
     exact⟨_,rfl,.int _ _⟩
    ·simp[hk]at h) ps p v u us (by simpa using hv) hu gZ
   refine⟨q,?_,rq⟩
   simp only[if_true]at ek
   simp[execOp,ho,resolve,ek,invoke,builtin,Builtin.max_,hl,hq]
theorem q61 {x x' i vs v}(he:br C env a.tmps)(ho:o.op=.extract x i)(h1:qv x=I x')(e1:qh env x'=I (.aJ vs))(hv:vs[i]?=I v):Val P C a o w v:=by
 obtain⟨us,hu,ru⟩:=(qx he h1 e1).nZ
 obtain⟨u,h1,h2⟩:=ru.get hv
 exact⟨u,by simp[execOp,ho,hu,Instr.extract,h1],h2⟩
end
section
variable {P:Program}{C:aM}{w:World}{env:Env}{a:Act}{o:Oper}
theorem Av {x v}(h:bR C x v)(hs:x.flat.all qk=Gb):aW C x.flat v.cells.toList:=by
 cases h<;>first
  |(simp only[AVal.flat,Value.cells];exact .cons _ _ _ _ (by constructor<;>assumption) .nil)
  |skip
 ·simpa[AVal.flat,Value.cells]
 all_goals first|done|exact absurd hs (by simp[AVal.flat,qk])|skip
theorem qzs (off:Nat):∀(l:List Value) (k:Nat) (cs:Array Value),off+k+l.length≤cs.size →
  ((l.zipIdx k).foldl (fun cs (x:Value×Nat)=>cs.setIfInBounds (off+x.2) x.1) cs).toList=cs.toList.take (off+k)++l++cs.toList.drop (off+k+l.length)
 | [],k,cs,_=>by simp
 |v::l,k,cs,h=>by
  simp only[List.zipIdx_cons,List.foldl_cons]
  simp at h
  rw[qzs off l (k+1) (cs.setIfInBounds (off+k) v) (by simp;omega)]
  have bw:off+k<cs.toList.length:=by simp;omega
  rw[Array.toList_setIfInBounds]
  have e1:(cs.toList.set (off+k) v).take (off+(k+1))=cs.toList.take (off+k)++[v]:=by
   rw[←Hb,List.take_succ_eq_append_getElem (by simpa using bw),List.take_set,List.set_eq_of_length_le (by simp;omega),List.getElem_set_self]
  have e2:(cs.toList.set (off+k) v).drop (off+(k+1)+l.length)=cs.toList.drop (off+k+(v::l).length):=by
   rw[List.drop_set_of_lt (by omega)]
   congr 1
   simp;omega
  rw[e1,e2]
  simp
inductive DC (C:aM)(place:Nat→Option (Nat×Nat)):List (Nat×Value)→List (Nat×List AVal)→Prop where
 |nil:DC C place [] []
 |cons (i:Nat) (v:Value) (off:Nat) (vs:List AVal) (ps:List (Nat×Value)) (qs:List (Nat×List AVal)) (h1:place i=I (off,vs.length)) (h2:aW C vs v.cells.toList) (h:DC C place ps qs):DC C place ((i,v)::ps) ((off,vs)::qs)
theorem KC {place}:∀(ps:List (Nat×Value)) (qs:List (Nat×List AVal)) (xs ys:List AVal) (cs:Array Value),aW C xs cs.toList→jT xs qs=I ys →
  DC C place ps qs →
  ∃ds,Instr.fill place cs ps=I ds∧aW C ys ds.toList
 | [],qs,xs,ys,cs,hx,hf,hp=>by
  cases hp
  simp[jT]at hf
  subst hf
  exact⟨cs,rfl,hx⟩
 |_::ps,qs,xs,ys,cs,hx,hf,hp=>by
  cases hp with
  |cons i v off vs _ qs Fu hr htl=>
   simp only[jT]at hf
   cases hb:Gd (off+vs.length) xs.length with
   |false=>simp[hb]at hf
   |true=>
    simp only[hb,cond_true]at hf
    have hle:=Gr hb
    have hH:=hx.length
    have oH:=hr.length
    simp at hH oH
    have qK:=qzs off v.cells.toList 0 cs (by simp;omega)
    have hz:v.cells.zipIdx.foldl (fun cs (x:Value×Nat)=>cs.setIfInBounds (off+x.2) x.1) cs=(v.cells.toList.zipIdx 0).foldl (fun cs (x:Value×Nat)=>cs.setIfInBounds (off+x.2) x.1) cs:=by
     rw[←Array.foldl_toList,Array.toList_zipIdx]
    obtain⟨ds,h1,h2⟩:=KC (place:=place) ps qs _ ys (v.cells.zipIdx.foldl (fun cs (x:Value×Nat)=>cs.setIfInBounds (off+x.2) x.1) cs) (by
     rw[hz,qK]
     simp only[Nat.add_zero,Array.length_toList,oH]
     exact aW.append (aW.append (hx.take off) hr) (hx.drop _)) hf htl
    refine⟨ds,?_,h2⟩
    simp only[Instr.fill,Fu]
    rw[if_neg (by simp;omega)]
    exact h1
theorem QR {place}(he:br C env a.tmps):∀(ps:List (Nat×Operand)) (fU:List (Nat×Nat×js)) (qs:List (Nat×List AVal)),xU P place ps=I fU→kj env fU=I qs →
  DC C place (ps.map fun x=>(x.1,a.eval x.2)) qs
 | [],fU,qs,hc,hv=>by
  simp[xU]at hc;subst hc
  simp[kj]at hv;subst hv
  exact .nil
 |(i,x)::ps,fU,qs,hc,hv=>by
  simp only[xU]at hc
  split at hc
  ·rename_i off n y r Fu hy hr
   cases hc
   simp only[kj]at hv
   split at hv
   ·rename_i v nY
    cases hb:(Ge v.flat.length n&&v.flat.all qk)with
    |false=>simp[hb]at hv
    |true=>
     simp only[hb,cond_true]at hv
     simp only[Hc]at hb
     split at hv
     ·rename_i r' iH
      cases hv
      have hl:=Ha hb.1
      exact .cons _ _ _ _ _ _ (by rw[Fu,hl]) (Av (qx he hy nY) hb.2) (QR he ps r r' hr iH)
     ·cases hv
   ·cases hv
  ·cases hc
theorem qz7 {t:TypeId}{z}(h:yw P t=I z)(w:World):∃v,(zeroValue t).run P w=.ok v w∧aW C z v.cells.toList∧∃i,P.info? t=I i∧i.zero=I v:=by
 unfold yw at h
 split at h
 ·rename_i i hi
  split at h
  ·rename_i v hv
   exact⟨v,by simp[zeroValue,typeInfo,hi,hv],Ku C h,i,hi,hv⟩
  ·cases h
 ·cases h
theorem qso {fs:Array Field}(w:World):∀(l:List Field),(∀f∈l,(jp P f.type).isSome)→(l.mapM fun(f:Field)=>(do pure (f.offset,←sizeOf f.type):Sem (Nat×Nat))).run P w=.ok (l.map fun f=>(f.offset,(jp P f.type).getD 0)) w
 | [],_=>rfl
 |f::l,h=>by
  obtain⟨n,hn⟩:=G7.1 (h f (by simp))
  simp only[List.mapM_cons,Sem.run_bind,ym hn,Result.andThen_ok,Sem.run_pure,qso (fs:=fs) w l (fun g hg=>h g (by simp[hg])),Ig,hn,Option.getD_some]
theorem qw5 {t:TypeId}{ps fs z fU qs cs}(he:br C env a.tmps)(ho:o.op=.build t ps)(ht:P.underlying t=I (.struct fs))(hz:yw P t=I z)
  (hall:∀f∈fs.toList,(jp P f.type).isSome) (mr:xU P (fun i=>match fs[i]? with|some f=>(jp P f.type).map fun n=>(f.offset,n)|none=>En) ps.toList=I fU) (hq:kj env fU=I qs) (hf:jT z qs=I cs):Val P C a o w (.agg cs):=by
 obtain⟨zv,lj,cS,_⟩:=qz7 (C:=C) hz w
 have hm:=qso (P:=P) (fs:=fs) w fs.toList hall
 have qL:=QR (P:=P) he ps.toList fU qs mr hq
 have Aw:(fun(i:Nat)=>match fs[i]? with|some f=>(jp P f.type).map fun n=>(f.offset,n)|none=>En)=fun(i:Nat)=>((fs.toList.map fun f=>(f.offset,(jp P f.type).getD 0)).toArray)[i]?:=by
  funext i
  have hm:∀f,fs[i]?=I f→f∈fs.toList:=fun f h=>by rw[Array.mem_toList_iff];exact Array.mem_of_getElem? h
  obtain⟨l⟩:=fs
  simp only[G9,List.getElem?_map]at hm ⊢
  cases h:l[i]? with
  |none=>rfl
  |some f=>
   obtain⟨n,hn⟩:=G7.1 (hall f (hm f h))
   simp[hn]
 rw[Aw]at qL
 obtain⟨ds,hd,hr⟩:=KC (ps.toList.map fun x=>(x.1,a.eval x.2)) qs z cs zv.cells cS hf qL
 refine⟨.agg ds,?_,.agg cs ds.toList hr⟩
 have lD:(fs.mapM fun(f:Field)=>(do pure (f.offset,←sizeOf f.type):Sem (Nat×Nat))).run P w=.ok ((fs.toList.map fun f=>(f.offset,(jp P f.type).getD 0)).toArray) w:=by
  rw[Array.mapM_eq_mapM_toList]
  simp only[Sem.run_map]
  rw[hm]
  rfl
 have uV:(ps.map fun(x:Nat×Operand)=>(x.1,a.eval x.2)).toList=ps.toList.map fun x=>(x.1,a.eval x.2):=by simp
 simp only[execOp,ho,Instr.build,Sem.run_bind,lj,Result.andThen_ok,run_underlying ht,lD,uV,hd,Sem.run_pure]
theorem qzb {t e:TypeId}{ps len n z fU qs cs}(he:br C env a.tmps)(ho:o.op=.build t ps)(ht:P.underlying t=I (.array len e))(hz:yw P t=I z)
  (hn:jp P e=I n) (mr:xU P (fun i=>I (i*n,n)) ps.toList=I fU) (hq:kj env fU=I qs) (hf:jT z qs=I cs):Val P C a o w (.agg cs):=by
 obtain⟨zv,lj,cS,_⟩:=qz7 (C:=C) hz w
 have qL:=QR (P:=P) he ps.toList fU qs mr hq
 obtain⟨ds,hd,hr⟩:=KC (ps.toList.map fun x=>(x.1,a.eval x.2)) qs z cs zv.cells cS hf qL
 refine⟨.agg ds,?_,.agg cs ds.toList hr⟩
 have uV:(ps.map fun(x:Nat×Operand)=>(x.1,a.eval x.2)).toList=ps.toList.map fun x=>(x.1,a.eval x.2):=by simp
 simp only[execOp,ho,Instr.build,Sem.run_bind,lj,Result.andThen_ok,run_underlying ht,ym hn,uV,hd,Sem.run_pure]
theorem qom {sz}(he:br C env a.tmps):∀(ps:List (Nat×Operand)) (fU:List (Nat×js)) (qs:List (Nat×AVal)),xV ps=I fU→yg env sz fU=I qs →
  DC C (fun i=>I (i*sz,sz)) (ps.map fun x=>(x.1,a.eval x.2)) (qs.map fun x=>(x.1*sz,x.2.flat))∧∀q∈qs,q.2.flat.length=sz
 | [],fU,qs,hc,hv=>by
  simp[xV]at hc;subst hc
  simp[yg]at hv;subst hv
  exact⟨.nil,by simp⟩
 |(i,x)::ps,fU,qs,hc,hv=>by
  simp only[xV]at hc
  split at hc
  ·rename_i y r hy hr
   cases hc
   simp only[yg]at hv
   split at hv
   ·rename_i v nY
    cases hb:(Ge v.flat.length sz&&v.flat.all qk)with
    |false=>simp[hb]at hv
    |true=>
     simp only[hb,cond_true]at hv
     simp only[Hc]at hb
     split at hv
     ·rename_i r' iH
      cases hv
      have hl:=Ha hb.1
      obtain⟨h1,h2⟩:=qom he ps r r' hr iH
      refine⟨.cons _ _ _ _ _ _ (by rw[hl]) (Av (qx he hy nY) hb.2) h1,?_⟩
      intro q hq
      rcases He.1 hq with rfl|hq
      ·exact hl
      ·exact h2 q hq
     ·cases hv
   ·cases hv
  ·cases hc
theorem qr9 {sz}:∀(xs:List AVal) (i:Nat) (v:AVal),(∀x∈xs,x.flat.length=sz)→v.flat.length=sz→i<xs.length →
  (xs.set i v).flatMap AVal.flat=(xs.flatMap AVal.flat).take (i*sz)++v.flat++(xs.flatMap AVal.flat).drop (i*sz+sz)
 | [],i,v,_,_,h=>by simp at h
 |x::xs,0,v,hl,hv,_=>by
  simp only[List.set_cons_zero,Gt,Nat.zero_mul,List.take_zero,List.nil_append,Nat.zero_add]
  rw[List.drop_append_of_le_length (by rw[hl x (by simp)];exact Gn _),Gi (by rw[hl x (by simp)];exact Gn _)]
  simp
 |x::xs,i+1,v,hl,hv,h=>by
  simp only[List.set_cons_succ,Gt]
  rw[qr9 xs i v (fun y hy=>hl y (by simp[hy])) hv (by simpa using h)]
  have hx:=hl x (by simp)
  have e1:(i+1)*sz=x.flat.length+i*sz:=by rw[hx,Gm];omega
  have t1:List.take (x.flat.length+i*sz) (x.flat++xs.flatMap AVal.flat)=x.flat++(xs.flatMap AVal.flat).take (i*sz):=List.take_length_add_append _
  have t2:List.drop (x.flat.length+i*sz+sz) (x.flat++xs.flatMap AVal.flat)=(xs.flatMap AVal.flat).drop (i*sz+sz):=by
   rw[Hb];exact List.drop_length_add_append _
  rw[e1,t1,t2]
  simp
theorem yn {sz}:∀(xs:List AVal),(∀x∈xs,x.flat.length=sz)→(xs.flatMap AVal.flat).length=xs.length*sz
 | [],_=>by simp
 |x::xs,h=>by
  simp only[Gt,List.length_append,List.length_cons]
  rw[yn xs (fun y hy=>h y (by simp[hy])),h x (by simp),Gm];omega
theorem qxw {sz}:∀(qs:List (Nat×AVal)) (xs ys:List AVal),lx xs qs=I ys→(∀x∈xs,x.flat.length=sz)→(∀q∈qs,q.2.flat.length=sz) →
  jT (xs.flatMap AVal.flat) (qs.map fun x=>(x.1*sz,x.2.flat))=I (ys.flatMap AVal.flat)∧(∀y∈ys,y.flat.length=sz)∧ys.length=xs.length
 | [],xs,ys,h,hx,_=>by simp[lx]at h;subst h;exact⟨rfl,hx,rfl⟩
 |(i,v)::qs,xs,ys,h,hx,hq=>by
  simp only[lx]at h
  cases hb:Gh i xs.length with
  |false=>simp[hb]at h
  |true=>
   simp only[hb,cond_true]at h
   have bw:i<xs.length:=by have:=Gr hb;omega
   have hv:=hq (i,v) (by simp)
   obtain⟨h1,h2,h3⟩:=qxw qs (xs.set i v) ys h (fun y hy=>by
    rcases List.mem_or_eq_of_mem_set hy with h|rfl
    ·exact hx y h
    ·exact hv) (fun q h=>hq q (by simp[h]))
   refine⟨?_,h2,by simpa using h3⟩
   have hl:=yn xs hx
   have hle:i*sz+sz≤xs.length*sz:=by rw[←Gm];exact Nat.mul_le_mul_right _ bw
   simp only[Ig,jT]
   rw[show Gd (i*sz+v.flat.length) (xs.flatMap AVal.flat).length=Gb from by rw[Nat.ble_eq];simp only at hv;omega]
   simp only[cond_true]
   rw[qr9 xs i v hx hv bw]at h1
   simp only at hv
   rw[hv]
   exact h1
end
end Go.Abs
