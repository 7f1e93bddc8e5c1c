/- The abstract machine. -/
import Derived.CallsIn
import Derived.Deep.AppendSrc
import Derived.Lib.LaidTab
import Derived.Lib.ItoaNum
set_option linter.unusedVariables false
set_option linter.unusedSimpArgs false
open Option renaming none→I,some→En
open Bool renaming false→Eo,true→Ep,xor→Gl
open Nat renaming beq→Eu,ble→Ev,blt→Gb,lt_of_lt_of_le→Ge,le_refl→Gh,succ_mul→Gi
open Array renaming getElem?_eq_some_iff→Gc
open List renaming replicate→Gf,flatMap_cons→Gk
namespace Go.Abs
theorem cT.{u} {α:Sort u}(a b:α):cond Ep a b=a:=rfl
theorem cF.{u} {α:Sort u}(a b:α):cond Eo a b=b:=rfl
theorem dT {p:Prop}[Decidable p](h:p):decide p=Ep:=decide_eq_true h
theorem dF {p:Prop}[Decidable p](h:¬p):decide p=Eo:=decide_eq_false h
inductive qa where
 |bool (b:Bool)
 |int (k:IntKind) (n:Int)
 |str (s:List UInt8)
 |list (isNil:Bool) (sz:Nat) (xs:List qa)
 |ms (b off len:Nat)
 |ptr (b off:Nat)
 |ah (v:qa)
 |bN
 |map (b:Nat)
 |bM
 |fn (f:Fn) (first captured:List qa)
 |bX
 |agg (cs:List qa)
 |ay (vs:List qa)
 |undef
 |any
 |cE (n:Nat)
 |au (b bz len:Nat)
 |dl (b bz off:Nat)
 deriving Inhabited
inductive qp where
 |tmp (t:Nat)
 |const (v:qa)
 deriving Inhabited
inductive Kd where
 |int|str|bool
 deriving DecidableEq,Inhabited
inductive jd where
 |bL|fg (r:Nat)|shr|red
 deriving DecidableEq,Inhabited
inductive qv where
 |move (x:qp)
 |take (s:Nat)
 |pick (c a b:qp)
 |alloc (r:Nat) (zero:List qa)
 |box (r n:Nat) (x:qp)
 |ol (n:Nat) (x:qp)
 |fV (n:Nat)
 |du (n s:Nat) (x:qp)
 |fE (r t e:Nat)
 |build (zero:List qa) (parts:List (Nat×Nat×qp))
 |buildSlice (sz len:Nat) (zero:List qa) (parts:List (Nat×qp))
 |load (agg:Bool) (n:Nat) (x:qp)
 |eU (agg:Bool) (n:Nat) (x:qp)
 |b9 (off:Option Nat) (x:qp)
 |store (n:Nat) (a v:qp)
 |nilCheck (x:qp)
 |bin (op:BinOp) (x y:qp)
 |eqs (ks:List Kd) (neq:Bool) (x y:qp)
 |beq (neq:Bool) (x y:qp)
 |eV (k:Nat) (neq:Bool) (x:qp)
 |un (op:UnOp) (x:qp)
 |conv (k:IntKind) (x:qp)
 |eI (x:qp)
 |field (agg:Bool) (off n:Nat) (x:qp)
 |index (agg:Bool) (len n:Nat) (x i:qp)
 |dN (x i:qp)
 |fieldAddr (agg:Bool) (off n:Nat) (x:qp)
 |indexAddr (sz:Nat) (x i:qp)
 |dO (agg:Bool) (len sz:Nat) (x i:qp)
 |slice (sz:Nat) (x:qp) (lo hi:Option qp)
 |ek (x:qp) (lo hi:Option qp)
 |en (len sz:Nat) (x:qp) (lo hi:Option qp)
 |fW (f:Fn) (first captured:List qp)
 |dD (r:Nat)
 |lookup (kd:Kd) (zero:qa) (ok:Bool) (m k:qp)
 |mapUpdate (kd:Kd) (m k v:qp)
 |delete (kd:Kd) (m k:qp)
 |bV (r:Option Nat) (sz bytes:Nat) (zero:List qa) (n c:qp)
 |len (k:Nat) (x:qp)
 |append (r:Option Nat) (sz bytes:Nat) (x y:qp)
 |gG (r sz bytes:Nat) (x y:qp)
 |ia (r sz len:Nat) (zero:List qa) (parts:List (Nat×qp))
 |copy (sz:Nat) (x y:qp)
 |mx (args:List qp)
 |mn (args:List qp)
 |extract (x:qp) (i:Nat)
 |call (md:jd) (f:qp) (args:List qp)
 |cZ (r:Nat) (x:qp)
 |eW (it:qp)
 |bad
 deriving Inhabited
structure qx where
 dst:Option Nat
 op:qv
 guard:Option (Nat×Bool)
 al:Option (List Nat)
 deriving Inhabited
inductive qe where
 |skip
 |region (na:Nat) (ops:List qx) (keep:Option (List Nat))
 |seq (a b:qe)
 |cond (c:qp) (a b:qe)
 |block (id:Nat) (body:qe)
 |loop (body:qe)
 |rangeFunc (f:qp) (params:List Nat) (assign body:qe)
 |exit (id:Nat)
 |ret
 |grow (sz:Nat)
 |stuck
 deriving Inhabited
abbrev Env:=List (Nat×qa×Bool)
inductive qi where
 |normal
 |exit (id:Nat)
 |ret
 deriving DecidableEq,Inhabited
structure js where
 env:Env
 params:List Nat
 assign:qe
 body:qe
 pending:Option qi
 deriving Inhabited
def kx:qe→Bool
 | .seq a b=>kx a&&kx b
 | .cond _ a b=>kx a&&kx b
 | .block _ b=>kx b
 | .loop b=>kx b
 | .rangeFunc ..=>Eo
 |_=>Ep
def eX (e:Env):Env:=e.map fun x=>(x.1,x.2.1,Eo)
inductive qn where
 |hole
 |cells (cs:List (qa×Bool))
 |map (es:List (qa×qa))
 |iter (s:List UInt8) (pos:Nat)
 |loop (l:js)
 |fE (t e:Nat) (l:List UInt8)
 |dead
 |vec (sz bz:Nat) (xs:List qa)
 deriving Inhabited
abbrev za:=List qn
structure qg where
 env:Env
 heap:za
 deriving Inhabited
inductive jf where
 |tmp (t:Nat)
 |cell (t:Nat) (agg:Bool) (n:Nat)
 deriving Inhabited
structure qd where
 ntmps:Nat
 body:qe
 results:List jf
 deriving Inhabited
abbrev Ea:=Nat→Option (List qa→Option (qa×Bool))
abbrev jer:=Nat→Option (List qa→za→Option (qa×Bool×za))
abbrev TF:=Nat→Option (List (qa×qa))
structure qr where
 bB:Nat→Option qd
 cn:Ea
 dk:jer:=fun _=>I
 maps:TF:=fun _=>I
def yd (t:Nat):Env→Option (qa×Bool)
 | []=>I
 |(s,x)::e=>bif Eu s t then En x else yd t e
def zc (e:Env):qp→Option qa
 | .tmp t=>match yd t e with
  |some x=>En x.1
  |none=>I
 | .const v=>En v
def fF (e:Env):List qp→Option (List qa)
 | []=>En []
 |x::xs=>match zc e x with
  |some v=>match fF e xs with
   |some vs=>En (v::vs)
   |none=>I
  |none=>I
def pV (e:Env):List Nat→Env
 | []=>[]
 |t::ts=>match yd t e with
  |some x=>(t,x)::pV e ts
  |none=>pV e ts
def pW:IntKind→Int→Bool
 | .i64,.ofNat m=>Ev m 9223372036854775807
 | .i64,.negSucc m=>Ev m 9223372036854775807
 | .i32,.ofNat m=>Ev m 2147483647
 | .i32,.negSucc m=>Ev m 2147483647
 | .i16,.ofNat m=>Ev m 32767
 | .i16,.negSucc m=>Ev m 32767
 | .i8,.ofNat m=>Ev m 127
 | .i8,.negSucc m=>Ev m 127
 | .u64,.ofNat m=>Ev m 18446744073709551615
 | .u32,.ofNat m=>Ev m 4294967295
 | .u16,.ofNat m=>Ev m 65535
 | .u8,.ofNat m=>Ev m 255
 |_,.negSucc _=>Eo
def j6 (k:IntKind)(n:Int):Int:=bif pW k n then n else k.wrap n
def qa.flat:qa→List qa
 | .agg cs=>cs
 |v=>[v]
def qa.isAgg:qa→Bool
 | .agg _=>Ep
 |_=>Eo
def qa.ct:qa→Bool
 | .list ..=>Ep
 |_=>Eo
def l4:Kd→qa→qa→Option Bool
 | .int,.int k a,.int k' b=>bif decide (k=k')then En (a == b)else I
 | .str,.str a,.str b=>En (a == b)
 | .bool,.bool a,.bool b=>En (a == b)
 |_,_,_=>I
def gH:List Kd→List qa→List qa→Option Bool
 | [],[],[]=>En Ep
 |k::ks,x::xs,y::ys=>match l4 k x y with
  |some Ep=>gH ks xs ys
  |some Eo=>En Eo
  |none=>I
 |_,_,_=>I
def part (agg:Bool)(cs:List qa)(off n:Nat):Option qa:=
 bif agg then(bif Ev (off+n) cs.length then En (.agg ((cs.drop off).take n))else I)else cs[off]?
def bytesLess:List UInt8→List UInt8→Bool
 |_,[]=>Eo
 | [],_::_=>Ep
 |a::x,b::y=>a<b||(a == b&&bytesLess x y)
def oo (op:BinOp)(k:IntKind)(x y:Int):Option qa:=
 match op with
 | .add=>En (.int k (j6 k (x+y)))
 | .sub=>En (.int k (j6 k (x-y)))
 | .mul=>En (.int k (j6 k (x*y)))
 | .quo=>bif y == 0 then I else En (.int k (j6 k (x.tdiv y)))
 | .rem=>bif y == 0 then I else En (.int k (x.tmod y))
 | .eql=>En (.bool (x == y))
 | .neq=>En (.bool (x != y))
 | .lss=>En (.bool (decide (x<y)))
 | .leq=>En (.bool (decide (x≤y)))
 | .gtr=>En (.bool (decide (x > y)))
 | .geq=>En (.bool (decide (x≥y)))
 | .and=>En (.int k (k.wrap (BitVec.ofInt k.bits x &&& BitVec.ofInt k.bits y).toNat))
 | .or=>En (.int k (k.wrap (BitVec.ofInt k.bits x ||| BitVec.ofInt k.bits y).toNat))
 | .xor=>En (.int k (k.wrap (BitVec.ofInt k.bits x ^^^ BitVec.ofInt k.bits y).toNat))
 | .andNot=>En (.int k (k.wrap (BitVec.ofInt k.bits x &&& ~~~BitVec.ofInt k.bits y).toNat))
 |_=>I
def Nv (op:BinOp)(k:IntKind)(x y:Int):Option qa:=
 bif decide (y<0)then I else
 match op with
 | .shl=>En (.int k (j6 k (x*2^(min y.toNat k.bits))))
 | .shr=>En (.int k (x.fdiv (2^(min y.toNat k.bits))))
 |_=>I
def F2 (op:BinOp)(x y:List UInt8):Option qa:=
 match op with
 | .add=>bif Ev (x.length+y.length) 4611686018427387904 then En (.str (x++y))else I
 | .eql=>En (.bool (x == y))
 | .neq=>En (.bool !(x == y))
 | .lss=>En (.bool (bytesLess x y))
 | .leq=>En (.bool (bytesLess x y||x == y))
 | .gtr=>En (.bool !(bytesLess x y||x == y))
 | .geq=>En (.bool !(bytesLess x y))
 |_=>I
def fq (op:BinOp):qa→qa→Option qa
 | .int k x,.int k' y=>match op with
  | .shl=>Nv .shl k x y
  | .shr=>Nv .shr k x y
  |op=>bif decide (k=k')then oo op k x y else I
 | .str x,.str y=>F2 op x y
 |_,_=>I
def xm:UnOp→qa→Option qa
 | .neg,.int k n=>En (.int k (j6 k (0-n)))
 | .not,.bool b=>En (.bool !b)
 |_,_=>I
def max2:qa→qa→Option qa
 | .int k x,.int k' y=>bif decide (k=k')then En (.int k (if y > x then y else x))else I
 |_,_=>I
def min2:qa→qa→Option qa
 | .int k x,.int k' y=>bif decide (k=k')then En (.int k (if y<x then y else x))else I
 |_,_=>I
def nE (f:qa→qa→Option qa):qa→List qa→Option qa
 |x,[]=>En x
 |x,y::ys=>match f x y with
  |some z=>nE f z ys
  |none=>I
def jJ:List qa→List (Nat×List qa)→Option (List qa)
 |cs,[]=>En cs
 |cs,(off,vs)::rest=>bif Ev (off+vs.length) cs.length then jJ (cs.take off++vs++cs.drop (off+vs.length)) rest else I
def zd:qa→Bool
 | .agg _=>Eo
 | .ay _=>Eo
 | .undef=>Eo
 | .any=>Eo
 |_=>Ep
def ln (e:Env):List (Nat×Nat×qp)→Option (List (Nat×List qa))
 | []=>En []
 |(off,n,x)::ps=>match zc e x with
  |some v=>bif Eu v.flat.length n&&v.flat.all zd then
    (match ln e ps with
     |some r=>En ((off,v.flat)::r)
     |none=>I)else I
  |none=>I
def lq (xs:List qa):List (Nat×qa)→Option (List qa)
 | []=>En xs
 |(i,v)::ps=>bif Gb i xs.length then lq (xs.set i v) ps else I
def iG (e:Env)(sz:Nat):List (Nat×qp)→Option (List (Nat×qa))
 | []=>En []
 |(i,x)::ps=>match zc e x with
  |some v=>bif Eu v.flat.length sz&&v.flat.all zd then
   (match iG e sz ps with
    |some r=>En ((i,v)::r)
    |none=>I)else I
  |none=>I
def jq9 (zero:List qa)(agg:Bool):Option qa:=
 bif agg then En (.agg zero)else match zero with
  | [z]=>En z
  |_=>I
def kc (h:za)(b:Nat):Option qn:=h[b]?
def ym (h:za)(b:Nat):Option (List (qa×Bool)):=
 match h[b]? with
 |some (.cells cs)=>En cs
 |_=>I
def kf (cs:List (qa×Bool))(off n:Nat):Option (List qa):=
 bif Ev (off+n) cs.length then En (((cs.drop off).take n).map (·.1))else I
def yj (cs:List (qa×Bool))(off:Nat)(vs:List qa):Option (List (qa×Bool)):=
 bif Ev (off+vs.length) cs.length&&vs.all zd then En (cs.take off++vs.map (·,Eo)++cs.drop (off+vs.length))else I
mutual
def below (n:Nat):qa→Bool
 | .ms b _ _=>Gb b n
 | .ptr b _=>Gb b n
 | .map b=>Gb b n
 | .au b _ _=>Gb b n
 | .dl b _ _=>Gb b n
 | .ah v=>below n v
 | .list _ _ xs=>zr n xs
 | .agg cs=>zr n cs
 | .ay vs=>zr n vs
 | .fn (.yield b) first captured=>Gb b n&&zr n first&&zr n captured
 | .fn _ first captured=>zr n first&&zr n captured
 |_=>Ep
def zr (n:Nat):List qa→Bool
 | []=>Ep
 |x::xs=>below n x&&zr n xs
end
def mK (n:Nat):Env→Bool
 | []=>Ep
 |(_,v,_)::e=>below n v&&mK n e
def pi (n:Nat):List (qa×Bool)→Bool
 | []=>Ep
 |(v,_)::e=>below n v&&pi n e
def pX (n:Nat):List (qa×qa)→Bool
 | []=>Ep
 |(k,v)::e=>below n k&&below n v&&pX n e
def nF (n:Nat):qn→Bool
 | .hole=>Ep
 | .cells cs=>pi n cs
 | .map es=>pX n es
 | .iter _ _=>Ep
 | .fE ..=>Ep
 | .dead=>Ep
 | .vec ..=>Ep
 | .loop l=>mK n l.env
def ko (n:Nat):za→Bool
 | []=>Ep
 |b::h=>nF n b&&ko n h
def gc (n:Nat)(st:qg):qg:=
 bif Ev st.heap.length n then st
 else bif mK n st.env&&ko n (st.heap.take n)then { st with heap:=st.heap.take n }else st
def l5 (v:qa):Bool:=below 0 v
def q6b (agg:Bool)(sz:Nat):Nat→List qa→Option (List qa)
 |0,_=>En []
 |n+1,cs=>bif Ev sz cs.length then
   (match jq9 (cs.take sz) agg with
    |some v=>(match q6b agg sz n (cs.drop sz)with
     |some r=>En (v::r)
     |none=>I)
    |none=>I)else I
def l6 (sz:Nat):Nat→List qa→List qa
 |0,_=>[]
 |n+1,cs=>(bif Eu sz 1 then cs.headD .undef else .agg (cs.take sz))::l6 sz n (cs.drop sz)
def Nw:qa→Bool
 | .str _=>Ep
 | .list ..=>Ep
 |_=>Eo
def Eb (off len:Nat)(cs:List (qa×Bool)):Bool:=Eu off 0&&Gb 1 (cs.length / len)&&Eu (len*(cs.length / len)) cs.length&&cs.any (fun c=>Nw c.1)
def iH (h:za):qa→Option qa
 | .ms b off len=>match ym h b with
  |some cs=>bif Eb off len cs then En (.list Eo (cs.length / len) (l6 (cs.length / len) len (cs.map (·.1))))else(match kf cs off len with
   |some vs=>En (.list Eo 1 vs)
   |none=>I)
  |none=>I
 | .au b bz len=>match h[b]? with
  |some (.vec sz de xs)=>bif Eu bz de&&Ev len xs.length then En (.list Eo sz (xs.take len))else I
  |_=>I
 |v=>En v
def lu (h:za):List qa→Option (List qa)
 | []=>En []
 |v::vs=>match iH h v with
  |some x=>(match lu h vs with
   |some xs=>En (x::xs)
   |none=>I)
  |none=>I
def az (h:za):qa→Option qa
 | .agg cs=>match lu h cs with
  |some xs=>En (.agg xs)
  |none=>I
 | .ay vs=>match bm h vs with
  |some xs=>En (.ay xs)
  |none=>I
 |v=>iH h v
where
 bm (h:za):List qa→Option (List qa)
  | []=>En []
  | .agg cs::vs=>match lu h cs with
   |some x=>(match bm h vs with
    |some xs=>En (.agg x::xs)
    |none=>I)
   |none=>I
  |v::vs=>match iH h v with
   |some x=>(match bm h vs with
    |some xs=>En (x::xs)
    |none=>I)
   |none=>I
def yq (kd:Kd)(k:qa):List (qa×qa)→Nat→Option (Option (Nat×qa))
 | [],_=>En I
 |(k',v)::es,i=>match l4 kd k k' with
  |some Ep=>En (En (i,v))
  |some Eo=>yq kd k es (i+1)
  |none=>I
def zg (s:List UInt8)(i:Nat):Nat×Nat:=Utf8.decode ⟨⟨s⟩⟩ i
structure qo where
 v:qa
 own:Bool
 strip:Option Nat
 heap:za
def oq (l:List Nat):Bool:=match l with
 | []=>Eo
 |k::_=>Ev 1000 k
def zW (h0:Nat)(l:List Nat)(b:Nat):Bool:=match l with
 | []=>Eo
 |k::_=>bif Gb k 2000 then Eu b (k-1000)&&Gb b h0 else bif Gb k 4000 then Eu b (h0+(k-2000))else Gb b h0
def yv (h0:Nat)(al:Option (List Nat))(b:Nat):Bool:=
 match al with
 |none=>Ep
 |some l=>bif oq l then zW h0 l b else(Gb b h0||l.contains (b-h0))
def pj (al:Option (List Nat)):Bool:=
 match al with
 |some (k::_)=>Ev 4000 k
 |_=>Eo
def uE (h0:Nat)(al:Option (List Nat))(b:Nat):Bool:=yv h0 al b&&!(pj al)
def yh (h:za)(b:Nat)(x:qn):Option za:=bif Gb b h.length then En (h.set b x)else I
def aF (h0:Nat)(h:za)(r:Nat)(x:qn):Option za:=
 match h[h0+r]? with
 |some .hole=>En (h.set (h0+r) x)
 |_=>I
def val (h:za)(v:qa):Option qo:=En ⟨v,Eo,I,h⟩
def fX (h:za):Option qa→Option qo
 |some v=>En ⟨v,Eo,I,h⟩
 |none=>I
def idx (n:Nat):qa→Option Nat
 | .int _ (.ofNat i)=>bif Gb i n then En i else I
 |_=>I
def zX (n:Nat):qa→Option Nat
 | .int _ (.ofNat i)=>bif Ev i n then En i else I
 |_=>I
def eY (e:Env)(lv n:Nat):Option qp→Option Nat
 |none=>En lv
 |some x=>match zc e x with
  |some v=>zX n v
  |none=>I
def kn (e:Env):qp→Option Nat
 | .tmp t=>match yd t e with
  |some (_,Ep)=>En t
  |_=>I
 |_=>I
def ku (sz:Nat):qa→Option (List qa)
 | .list _ sy ys=>bif Eu sz sy||ys.isEmpty then En ys else I
 | .str s=>bif Eu sz 1 then En (s.map fun(c:UInt8)=>qa.int .u8 c.toNat)else I
 |_=>I
def pY (n:Bool)(sz:Nat)(xs ys:List qa):qa:=bif n&&ys.isEmpty then .list Ep 0 []else .list Eo sz (xs++ys)
def zh (e:Env)(h:za):qv→Option qo
 | .move x=>fX h (zc e x)
 | .take s=>match yd s e with
  |some (v,o)=>En ⟨v,o,En s,h⟩
  |none=>I
 | .pick c a b=>match zc e c with
  |some (.bool t)=>(match zc e a,zc e b with
    |some x,En y=>val h (bif t then x else y)
    |_,_=>I)
  |_=>I
 | .ol n x=>match zc e x with
  |some v=>bif Eu v.flat.length n&&v.flat.all zd then val h (.ah v)else I
  |none=>I
 | .build zero parts=>match ln e parts with
  |some ps=>match jJ zero ps with
   |some cs=>val h (.agg cs)
   |none=>I
  |none=>I
 | .buildSlice sz len zero parts=>match iG e sz parts with
  |some ps=>match lq (Gf len (bif Eu sz 1 then zero.headD .undef else .agg zero)) ps with
   |some xs=>En ⟨.list Eo sz xs,Ep,I,h⟩
   |none=>I
  |none=>I
 | .fV n=>En ⟨.cE n,Ep,I,h⟩
 | .du n s x=>match yd s e,zc e x with
  |some (.cE m,Ep),En v=>bif Eu m n&&Eu v.flat.length n&&v.flat.all zd then val h (.ah v)else I
  |_,_=>I
 | .eU agg n x=>match zc e x with
  |some (.ah v)=>bif Gl agg v.isAgg||!(Eu v.flat.length n)then I else val h v
  |_=>I
 | .nilCheck x=>match zc e x with
  |some (.ptr b o)=>val h (.ptr b o)
  |some (.ah v)=>val h (.ah v)
  |some (.fn (.func f) a b)=>val h (.fn (.func f) a b)
  |_=>I
 | .bin op x y=>match zc e x,zc e y with
  |some a,En b=>fX h (fq op a b)
  |_,_=>I
 | .eqs ks neq x y=>match zc e x,zc e y with
  |some (.agg a),En (.agg b)=>bif Eu a.length ks.length&&Eu b.length ks.length then(match gH ks a b with
   |some t=>val h (.bool (bif neq then !t else t))
   |none=>I)else I
  |_,_=>I
 | .beq neq x y=>match zc e x,zc e y with
  |some (.bool a),En (.bool b)=>val h (.bool (bif neq then !(a == b)else a == b))
  |_,_=>I
 | .eV k neq x=>match k,zc e x with
  |0,En (.list n _ _)=>val h (.bool (bif neq then !n else n))
  |0,En (.ms ..)=>val h (.bool neq)
  |1,En .bN=>val h (.bool (!neq))
  |1,En (.ptr ..)=>val h (.bool neq)
  |1,En (.ah ..)=>val h (.bool neq)
  |2,En .bM=>val h (.bool (!neq))
  |2,En (.map ..)=>val h (.bool neq)
  |3,En .bX=>val h (.bool (!neq))
  |3,En (.fn ..)=>val h (.bool neq)
  |_,_=>I
 | .un op x=>match zc e x with
  |some v=>fX h (xm op v)
  |none=>I
 | .conv k x=>match zc e x with
  |some (.int _ n)=>val h (.int k (j6 k n))
  |_=>I
 | .eI x=>match zc e x with
  |some (.str s)=>val h (.str s)
  |some (.int _ n)=>val h (.str (Utf8.encode n).data.toList)
  |_=>I
 | .field agg off n x=>match zc e x with
  |some (.agg cs)=>fX h (part agg cs off n)
  |_=>I
 | .index agg len n x i=>match zc e x,zc e i with
  |some (.agg cs),En j=>(match idx len j with
   |some j=>fX h (part agg cs (j*n) n)
   |none=>I)
  |_,_=>I
 | .dN x i=>match zc e x,zc e i with
  |some (.str s),En j=>(match idx s.length j with
   |some j=>(match s[j]? with
    |some c=>val h (.int .u8 c.toNat)
    |none=>I)
   |none=>I)
  |_,_=>I
 | .fieldAddr agg off n x=>match zc e x with
  |some (.ptr b o)=>val h (.ptr b (o+off))
  |some (.ah (.agg cs))=>(match part agg cs off n with
   |some v=>bif Gl agg v.isAgg then I else val h (.ah v)
   |none=>I)
  |some (.dl b bz o)=>val h (.dl b bz (o+off))
  |_=>I
 | .indexAddr sz x i=>match zc e x,zc e i with
  |some (.list _ cJ xs),En j=>bif Eu sz cJ||xs.isEmpty then(match idx xs.length j with
   |some j=>(match xs[j]? with
    |some v=>val h (.ah v)
    |none=>I)
   |none=>I)else I
  |some (.ms b o len),En j=>(match idx len j with
   |some j=>val h (.ptr b (o+j*sz))
   |none=>I)
  |some (.au b bz len),En j=>(match idx len j with
   |some j=>val h (.dl b bz (j*sz))
   |none=>I)
  |_,_=>I
 | .dO agg len sz x i=>match zc e x,zc e i with
  |some (.ptr b o),En j=>(match idx len j with
   |some j=>val h (.ptr b (o+j*sz))
   |none=>I)
  |some (.ah (.agg cs)),En j=>(match idx len j with
   |some j=>(match part agg cs (j*sz) sz with
    |some v=>bif Gl agg v.isAgg then I else val h (.ah v)
    |none=>I)
   |none=>I)
  |_,_=>I
 | .slice sz x lo hi=>match zc e x with
  |some (.list n cJ xs)=>bif Eu sz cJ||xs.isEmpty then(match eY e xs.length xs.length hi with
   |some j=>(match eY e 0 j lo with
    |some i=>val h (.list n cJ ((xs.take j).drop i))
    |none=>I)
   |none=>I)else I
  |some (.ms b o len)=>(match eY e len len hi with
   |some j=>(match eY e 0 j lo with
    |some i=>bif Eu i 0||Gb i j then val h (.ms b (o+i*sz) (j-i))else I
    |none=>I)
   |none=>I)
  |some (.au b bz len)=>(match eY e len len hi with
   |some j=>(match eY e 0 j lo with
    |some i=>bif Eu i 0 then val h (.au b bz j)else I
    |none=>I)
   |none=>I)
  |_=>I
 | .ek x lo hi=>match zc e x with
  |some (.str s)=>(match eY e s.length s.length hi with
   |some j=>(match eY e 0 j lo with
    |some i=>val h (.str ((s.take j).drop i))
    |none=>I)
   |none=>I)
  |_=>I
 | .en len sz x lo hi=>match zc e x with
  |some (.ptr b o)=>(match eY e len len hi with
   |some j=>(match eY e 0 j lo with
    |some i=>bif Eu i 0||Gb i j then val h (.ms b (o+i*sz) (j-i))else I
    |none=>I)
   |none=>I)
  |_=>I
 | .fW f first captured=>match fF e first,fF e captured with
  |some a,En b=>val h (.fn f a b)
  |_,_=>I
 | .len k x=>match k,zc e x with
  |1,En (.list _ _ xs)=>val h (.int .i64 xs.length)
  |1,En (.ms _ _ n)=>val h (.int .i64 n)
  |1,En (.au _ _ n)=>val h (.int .i64 n)
  |2,En (.list Ep _ _)=>val h (.int .i64 0)
  |0,En (.str s)=>val h (.int .i64 s.length)
  |_,_=>I
 | .append I sz bytes x y=>match zc e x,zc e y with
  |some (.list n cJ xs),En vy=>
   bif n||(kn e x).isSome then
    (match ku sz vy with
     |some ys=>
      bif (Eu sz cJ||(xs.isEmpty&&n))&&Ev (xs.length+ys.length) 1073741824&&Ev bytes 4096&&Gb 0 sz then
       En ⟨pY n sz xs ys,Ep,kn e x,h⟩
      else I
     |none=>I)
   else I
  |_,_=>I
 | .bV I sz bytes zero n c=>match zc e n,zc e c with
  |some (.int .i64 (.ofNat n)),En (.int .i64 (.ofNat c))=>
   bif Eu n c&&Ev n 1073741824&&Ev bytes 4096&&Eu zero.length sz&&Gb 0 sz&&zero.all zd then
    En ⟨.list Eo sz (Gf n (bif Eu sz 1 then zero.headD .undef else .agg zero)),Ep,I,h⟩else I
  |_,_=>I
 | .mx args=>match fF e args with
  |some (v::vs)=>fX h (nE max2 v vs)
  |_=>I
 | .mn args=>match fF e args with
  |some (v::vs)=>fX h (nE min2 v vs)
  |_=>I
 | .extract x i=>match zc e x with
  |some (.ay vs)=>fX h vs[i]?
  |_=>I
 |_=>I
def nG (es:List (qa×qa))(i:Nat)(v:qa):List (qa×qa):=
 match es,i with
 | [],_=>[]
 |(k,_)::r,0=>(k,v)::r
 |x::r,i+1=>x::nG r i v
def gU (h0:Nat)(al:Option (List Nat))(e:Env)(h:za):qv→Option qo
 | .load agg n x=>match zc e x with
  |some (.ptr b o)=>bif yv h0 al b then(match ym h b with
   |some cs=>(match kf cs o n with
    |some vs=>bif agg then val h (.agg vs)else(match vs with
     | [v]=>val h v
     |_=>I)
    |none=>I)
   |none=>I)else I
  |some (.ah v)=>bif Gl agg v.isAgg||!(Eu v.flat.length n)then I else val h v
  |some (.dl b bz o)=>bif uE h0 al b then(match kc h b with
   |some (.vec _ de xs)=>bif Eu bz de&&Ev (o+n) (xs.flatMap qa.flat).length then(bif agg then val h (.agg (((xs.flatMap qa.flat).drop o).take n))else(match((xs.flatMap qa.flat).drop o).take n with
     | [v]=>val h v
     |_=>I))else I
   |_=>I)else I
  |_=>I
 | .lookup kd zero ok m k=>match zc e m,zc e k with
  |some (.map b),En kv=>bif yv h0 al b then(match kc h b with
   |some (.map es)=>(match yq kd kv es 0 with
    |some (En (_,v))=>val h (bif ok then .ay [v,.bool Ep]else v)
    |some I=>val h (bif ok then .ay [zero,.bool Eo]else zero)
    |none=>I)
   |_=>I)else I
  |some .bM,En _=>val h (bif ok then .ay [zero,.bool Eo]else zero)
  |_,_=>I
 | .len _ x=>match zc e x with
  |some (.map b)=>bif yv h0 al b then(match kc h b with
   |some (.map es)=>val h (.int .i64 es.length)
   |_=>I)else I
  |some .bM=>val h (.int .i64 0)
  |_=>I
 |_=>I
def q3w (es:List (qa×qa)):Option (Nat×qa)→List (qa×qa)
 |some (i,_)=>es.eraseIdx i
 |none=>es
def uF:Option Nat→Nat→Bool
 |none,_=>Ep
 |some a,o=>Eu a o
def zY (sz len:Nat):qa→Option (Nat×List qa)
 | .list _ sy ys=>bif Eu sz sy||ys.isEmpty then En (min ys.length len,(ys.take len).flatMap qa.flat)else I
 |_=>I
def cellsOf (vs:List qa):List (qa×Bool):=vs.map (·,Eo)
def zi (h0:Nat)(al:Option (List Nat))(e:Env)(h:za):qv→Option qo
 | .alloc r zero=>bif zero.all zd then(match aF h0 h r (.cells (cellsOf zero))with
  |some h'=>val h' (.ptr (h0+r) 0)
  |none=>I)else I
 | .box r n x=>match zc e x with
  |some v=>bif Eu v.flat.length n&&v.flat.all zd then(match aF h0 h r (.cells (cellsOf v.flat))with
   |some h'=>val h' (.ptr (h0+r) 0)
   |none=>I)else I
  |none=>I
 | .b9 off x=>match zc e x with
  |some (.ptr b o)=>bif yv h0 al b&&uF off o then(match ym h b with
   |some cs=>(match cs[o]? with
    |some (v,w)=>(match yh h b (.cells (cs.set o (v,Eo)))with
     |some h'=>En ⟨v,w,I,h'⟩
     |none=>I)
    |none=>I)
   |none=>I)else I
  |_=>I
 | .store n a x=>match zc e a,zc e x with
  |some (.ptr b o),En v=>bif yv h0 al b then(match ym h b with
   |some cs=>(match kn e x with
    |some t=>bif Eu n 1&&v.ct&&Gb o cs.length then(match yh h b (.cells (cs.set o (v,Ep)))with
      |some h'=>En ⟨.undef,Eo,En t,h'⟩
      |none=>I)else I
    |none=>bif Eu v.flat.length n then(match yj cs o v.flat with
     |some dV=>(match yh h b (.cells dV)with
      |some h'=>val h' .undef
      |none=>I)
     |none=>I)else I)
   |none=>I)else I
  |_,_=>I
 | .fE r t e=>match aF h0 h r (.fE t e [])with
  |some h'=>val h' (.ptr (h0+r) 0)
  |none=>I
 | .dD r=>match aF h0 h r (.map [])with
  |some h'=>val h' (.map (h0+r))
  |none=>I
 | .mapUpdate kd m k x=>match zc e m,zc e k,zc e x with
  |some (.map b),En kv,En v=>bif yv h0 al b then(match kc h b with
   |some (.map es)=>(match yq kd kv es 0 with
    |some (En (i,_))=>(match yh h b (.map (nG es i v))with
     |some h'=>val h' .undef
     |none=>I)
    |some I=>bif Ev es.length 1073741824 then(match yh h b (.map (es++[(kv,v)]))with
     |some h'=>val h' .undef
     |none=>I)else I
    |none=>I)
   |_=>I)else I
  |_,_,_=>I
 | .delete kd m k=>match zc e m,zc e k with
  |some (.map b),En kv=>bif yv h0 al b then(match kc h b with
   |some (.map es)=>(match yq kd kv es 0 with
    |some r=>(match yh h b (.map (q3w es r))with
     |some h'=>val h' (.ay [])
     |none=>I)
    |none=>I)
   |_=>I)else I
  |_,_=>I
 | .bV (En r) sz bytes zero n c=>match zc e n,zc e c with
  |some (.int .i64 (.ofNat n)),En (.int .i64 (.ofNat c))=>
   bif Eu n c&&Ev n 1073741824&&Ev bytes 4096&&Eu zero.length sz&&Gb 0 sz&&zero.all zd then
    (match aF h0 h r (.cells (cellsOf (Gf n zero).flatten))with
     |some h'=>val h' (.ms (h0+r) 0 n)
     |none=>I)else I
  |_,_=>I
 | .append (En r) sz bytes x y=>match zc e x,zc e y with
  |some (.list Eo cJ []),En vy=>
   bif (kn e x).isSome&&Eu sz cJ then
    (match ku sz vy with
     |some ys=>
      bif Ev ys.length 1073741824&&Ev bytes 4096&&Gb 0 sz then
       (match aF h0 h r (.cells (cellsOf (ys.flatMap qa.flat)))with
        |some h'=>En ⟨.ms (h0+r) 0 ys.length,Eo,kn e x,h'⟩
        |none=>I)
      else I
     |none=>I)
   else I
  |_,_=>I
 | .gG r sz bytes x y=>match zc e x,zc e y with
  |some (.list Ep _ []),En vy=>(match ku sz vy with
    |some ys=>
     bif Ev ys.length 1073741824&&Ev bytes 4096&&Gb 0 sz&&!ys.isEmpty&&zr 0 ys&&Gb r 1000 then
      (match aF h0 h r (.vec sz 0 ys)with
       |some h'=>val h' (.au (h0+r) 0 ys.length)
       |none=>I)else I
    |none=>I)
  |some (.au b bz len),En vy=>(match kc h b with
   |some (.vec cJ de xs)=>(match ku sz vy with
    |some ys=>
     bif Eu bz de&&Eu sz cJ&&Ev len xs.length&&Ev (len+ys.length) 1073741824&&Ev bytes 4096&&Gb 0 sz&&zr 0 ys&&Gb r 1000 then
      (match yh h b (.vec sz (bz+1) (xs.take len++ys))with
       |some h'=>val h' (.au b (bz+1) (len+ys.length))
       |none=>I)else I
    |none=>I)
   |_=>I)
  |_,_=>I
 | .ia r sz len zero parts=>match iG e sz parts with
  |some ps=>match lq (Gf len (bif Eu sz 1 then zero.headD .undef else .agg zero)) ps with
   |some xs=>bif zr 0 xs then(match aF h0 h r (.vec sz 0 xs)with
    |some h'=>val h' (.au (h0+r) 0 xs.length)
    |none=>I)else I
   |none=>I
  |none=>I
 | .copy sz x y=>match zc e x,zc e y with
  |some (.ms b o len),En vy=>bif yv h0 al b then(match ym h b with
   |some cs=>(match zY sz len vy with
    |some (n,vs)=>(match yj cs o vs with
     |some dV=>bif Eu vs.length (n*sz)then(match yh h b (.cells dV)with
      |some h'=>val h' (.int .i64 n)
      |none=>I)else I
     |none=>I)
    |none=>I)
   |none=>I)else I
  |_,_=>I
 | .cZ r x=>match zc e x with
  |some (.str s)=>(match aF h0 h r (.iter s 0)with
   |some h'=>val h' (.ptr (h0+r) 0)
   |none=>I)
  |_=>I
 | .eW it=>match zc e it with
  |some (.ptr b 0)=>bif yv h0 al b then(match kc h b with
   |some (.iter s pos)=>bif Gb pos s.length then
     (match yh h b (.iter s (pos+(zg s pos).2))with
      |some h'=>val h' (.ay [.bool Ep,.int .i64 pos,.int .i32 (zg s pos).1])
      |none=>I)else val h (.ay [.bool Eo])
   |_=>I)else I
  |_=>I
 |_=>I
def ot:Nat→List qa→Env
 |_,[]=>[]
 |i,v::vs=>(i,v,Eo)::ot (i+1) vs
def uG (st:qg):jf→Option (qa×Bool)
 | .tmp t=>yd t st.env
 | .cell t agg n=>match yd t st.env with
  |some (.ptr b o,_)=>(match ym st.heap b with
   |some cs=>(match kf cs o n with
    |some vs=>bif agg then En (.agg vs,Eo)else(match cs[o]? with
     |some x=>En x
     |none=>I)
    |none=>I)
   |none=>I)
  |_=>I
def lx (st:qg):List jf→Option (List (qa×Bool))
 | []=>En []
 |r::rs=>match uG st r with
  |some x=>(match lx st rs with
   |some xs=>En (x::xs)
   |none=>I)
  |none=>I
def yt:List (qa×Bool)→qa×Bool
 | [x]=>x
 |xs=>(.ay (xs.map (·.1)),Eo)
abbrev XC:=qe→qg→Option (qi×qg)
def la (st:qg):List jf→za
 | [.cell t Eo _]=>match yd t st.env with
  |some (.ptr b o,_)=>(match ym st.heap b with
   |some cs=>(match cs[o]? with
    |some (v,Ep)=>st.heap.set b (.cells (cs.set o (v,Eo)))
    |_=>st.heap)
   |none=>st.heap)
  |_=>st.heap
 |_=>st.heap
def pk (xc:XC)(f:qd)(args:List qa)(h:za):Option (qa×Bool×za):=
 bif Ev args.length f.ntmps then
  match xc f.body ⟨ot 0 args,h⟩with
  |some (.normal,st)=>(match lx st f.results with
   |some xs=>En ((yt xs).1,(yt xs).2,la st f.results)
   |none=>I)
  |some (.ret,st)=>(match lx st f.results with
   |some xs=>En ((yt xs).1,(yt xs).2,la st f.results)
   |none=>I)
  |_=>I
 else I
def ze (p:qr)(xc:XC)(k:Nat)(args:List qa)(h:za):Option (qa×Bool×za):=
 match p.bB k with
 |some f=>pk xc f args h
 |none=>match p.dk k with
  |some f=>f args h
  |none=>I
def jy (p:qr)(xc:XC)(k:Nat)(args:List qa):Option (qa×Bool):=
 match p.cn k with
 |some f=>(match f args with
  |some (v,o)=>bif l5 v then En (v,o)else I
  |none=>I)
 |none=>match ze p xc k args []with
  |some (v,o,h)=>(match az h v with
   |some v'=>bif l5 v' then En (v',o&&v.ct)else I
   |none=>I)
  |none=>I
def y5 (n:Nat)(v:qa)(h:za):za:=
 bif Ev h.length n then h else bif below n v&&ko n (h.take n)then h.take n else h
def vO (e:Env):List Nat→List qa→Option Env
 | [],[]=>En e
 |t::ts,v::vs=>vO ((t,v,Eo)::e) ts vs
 |_,_=>I
def jY (xc:XC)(b:Nat)(args:List qa)(h:za):Option (qa×za):=
 match kc h b with
 |some (.loop l)=>match l.pending,vO (eX l.env) l.params args with
  |none,En e=>(match xc l.assign ⟨e,h⟩with
   |some (.normal,st)=>(match kc st.heap b with
    |some (.loop l1)=>bif l1.pending.isNone then(match xc l.body { st with heap:=st.heap.set b (.loop { l1 with pending:=En .normal }) }with
     |some (x,bF)=>(match kc bF.heap b with
      |some (.loop l2)=>En (.bool (match x with | .normal=>Ep|_=>Eo),y5 h.length (.bool Ep) (bF.heap.set b (.loop { l2 with pending:=match x with | .normal=>I|x=>En x })))
      |_=>I)
     |none=>I)else I
    |_=>I)
   |_=>I)
  |_,_=>I
 |_=>I
def nH:qa→Bool
 | .bool _=>Ep
 | .int _ _=>Ep
 | .str _=>Ep
 |_=>Eo
def TG (h:za):qa→Option qa
 | .ms b 0 len=>(match ym h b with
  |some cs=>bif Eu (len*(cs.length / len)) cs.length&&Gb 0 (cs.length / len)&&cs.all (fun c=>nH c.1)then En (.list Eo (cs.length / len) (l6 (cs.length / len) len (cs.map (·.1))))else(bif Eu len 0 then En (.list Eo 8 [])else I)
  |none=>I)
 |v=>En v
def xn (h:za):List qa→Option (List qa)
 | []=>En []
 |v::vs=>match TG h v,xn h vs with
  |some x,En xs=>En (x::xs)
  |_,_=>I
def xp:qa→Bool
 | .agg cs=>cs.all nH
 |v=>nH v
def Ec (v:qa):qa:=bif xp v then v else .any
def Nx:qa→Bool→Option (qa×Bool)
 | .list Eo sz xs,Ep=>bif (xs.flatMap qa.flat).all nH then En (.list Eo sz xs,Ep)else I
 | .list Ep sz [],_=>En (.list Ep sz [],Eo)
 | .ay vs,_=>En (.ay (vs.map Ec),Eo)
 |v,_=>bif xp v then En (v,Eo)else I
def pZ (h0:Nat)(h:za)(r:Nat):qa→Bool→Option qo
 | .list Ep sz [],_=>(match aF h0 h r .dead with
  |some h'=>val h' (.list Ep sz [])
  |none=>I)
 | .list Eo sz xs,Ep=>bif (xs.flatMap qa.flat).all nH then(match aF h0 h r (.cells (cellsOf (xs.flatMap qa.flat)))with
  |some h'=>val h' (.ms (h0+r) 0 xs.length)
  |none=>I)else I
 |_,_=>I
def iI (p:qr)(xc:XC)(h0:Nat)(e:Env)(h:za)(md:jd)(f:qp)(args:List qp):Option qo:=
 match zc e f,fF e args with
 |some (.fn (.func k) first captured),En vs=>
  (match md with
   | .bL=>bif zr 0 (first++vs++captured)then(match jy p xc k (first++vs++captured)with
     |some (v,o)=>En ⟨v,o,I,h⟩
     |none=>I)else I
   | .fg r=>bif (first++vs++captured).isEmpty then(match p.maps k with
     |some es=>(match aF h0 h r (.map es)with
      |some h'=>val h' (.map (h0+r))
      |none=>I)
     |none=>I)else bif zr 0 (first++vs++captured)then(match jy p xc k (first++vs++captured)with
     |some (v,o)=>pZ h0 h r v o
     |none=>I)else I
   | .red=>(match xn h (first++vs++captured)with
    |some us=>bif zr 0 us then(match jy p xc k us with
     |some (v,o)=>(match Nx v o with
      |some (v',o')=>En ⟨v',o',I,h⟩
      |none=>I)
     |none=>I)else I
    |none=>I)
   | .shr=>(match ze p xc k (first++vs++captured) h with
    |some (v,o,h')=>En ⟨v,o,I,y5 h.length v h'⟩
    |none=>I))
 |some (.fn (.yield b) [] []),En vs=>
  (match md with
   | .shr=>(match jY xc b vs h with
    |some (v,h')=>val h' v
    |none=>I)
   |_=>I)
 |_,_=>I
def j8 (p:qr)(xc:XC)(h0:Nat)(al:Option (List Nat))(e:Env)(h:za)(op:qv):Option qo:=
 match op with
 | .call md f args=>iI p xc h0 e h md f args
 | .load agg n x=>gU h0 al e h (.load agg n x)
 | .lookup kd z ok m k=>gU h0 al e h (.lookup kd z ok m k)
 | .alloc r z=>zi h0 al e h (.alloc r z)
 | .box r n x=>zi h0 al e h (.box r n x)
 | .b9 off x=>zi h0 al e h (.b9 off x)
 | .store n a x=>zi h0 al e h (.store n a x)
 | .fE r t e'=>zi h0 al e h (.fE r t e')
 | .dD r=>zi h0 al e h (.dD r)
 | .mapUpdate kd m k x=>zi h0 al e h (.mapUpdate kd m k x)
 | .delete kd m k=>zi h0 al e h (.delete kd m k)
 | .bV (En r) sz b z n c=>zi h0 al e h (.bV (En r) sz b z n c)
 | .append (En r) sz b x y=>zi h0 al e h (.append (En r) sz b x y)
 | .gG r sz b x y=>zi h0 al e h (.gG r sz b x y)
 | .ia r sz n z ps=>zi h0 al e h (.ia r sz n z ps)
 | .copy sz x y=>zi h0 al e h (.copy sz x y)
 | .cZ r x=>zi h0 al e h (.cZ r x)
 | .eW it=>zi h0 al e h (.eW it)
 |op=>zh e h op
def gq (e:Env):Option Nat→Env
 |none=>e
 |some s=>match yd s e with
  |some (v,_)=>(s,v,Eo)::e
  |none=>e
def nI (e:Env)(d:Option Nat)(v:qa)(o:Bool):Env:=
 match d with
 |some d=>(d,v,o)::e
 |none=>e
def mL (e:Env):Option (Nat×Bool)→Option Bool
 |none=>En Ep
 |some (s,want)=>match yd s e with
  |some (.bool b,_)=>En (b == want)
  |some (.undef,_)=>En Eo
  |_=>I
def iJ (p:qr)(xc:XC)(h0:Nat)(o:qx)(st:qg):Option qg:=
 match mL st.env o.guard with
 |some Ep=>(match j8 p xc h0 o.al st.env st.heap o.op with
  |some r=>En ⟨nI (gq st.env r.strip) o.dst r.v r.own,r.heap⟩
  |none=>I)
 |some Eo=>En ⟨nI st.env o.dst .undef Eo,st.heap⟩
 |none=>I
def fG (p:qr)(xc:XC)(h0:Nat):List qx→qg→Option qg
 | [],st=>En st
 |o::os,st=>match iJ p xc h0 o st with
  |some bF=>fG p xc h0 os bF
  |none=>I
def zZ (st:qg):Option (List Nat)→qg
 |none=>st
 |some l=>{ st with env:=pV st.env l }
def mM (p:qr)(xc:XC)(na:Nat)(ops:List qx)(keep:Option (List Nat))(st:qg):Option (qi×qg):=
 match fG p xc st.heap.length ops { st with heap:=st.heap++Gf na .hole }with
 |some bF=>En (.normal,zZ bF keep)
 |none=>I
def mN (p:qr)(xc:XC)(f:qp)(params:List Nat)(assign body:qe)(st:qg):Option (qi×qg):=
 bif kx assign&&kx body then
  match zc st.env f with
  |some (.fn (.func k) first captured)=>
   (match ze p xc k (first++[.fn (.yield st.heap.length) [] []]++captured) (st.heap++[.loop ⟨st.env,params,assign,body,I⟩])with
    |some (_,_,h')=>(match kc h' st.heap.length with
     |some (.loop l)=>bif ko st.heap.length (h'.take st.heap.length)then
       (match l.pending with
       |none=>En (.normal,{ st with heap:=h'.take st.heap.length })
       |some .normal=>I
       |some x=>En (x,{ st with heap:=h'.take st.heap.length }))else I
     |_=>I)
    |none=>I)
  |_=>I
 else I
def ye (p:qr):Nat→XC
 |0,_,_=>I
 |n+1,c,st=>match c with
  | .skip=>En (.normal,st)
  | .region na ops keep=>mM p (ye p n) na ops keep st
  | .seq a b=>match ye p n a st with
   |some (.normal,bF)=>ye p n b bF
   |r=>r
  | .cond c a b=>match zc st.env c with
   |some (.bool t)=>bif t then ye p n a st else ye p n b st
   |_=>I
  | .block id body=>match ye p n body st with
   |some (.exit ft,bF)=>bif Eu ft id then En (.normal,bF)else En (.exit ft,bF)
   |r=>r
  | .loop body=>match ye p n body st with
   |some (.normal,bF)=>ye p n (.loop body) (gc st.heap.length bF)
   |r=>r
  | .rangeFunc f params assign body=>mN p (ye p n) f params assign body st
  | .exit id=>En (.exit id,st)
  | .ret=>En (.ret,st)
  | .grow sz=>match yd 0 st.env,yd 1 st.env with
   |some (.list Ep _ _,_),En (.int .i64 (.ofNat m),_)=>bif Gb 0 m&&Ev m 1073741824 then En (.normal,{ st with env:=[(0,.list Eo sz [],Ep)] })else I
   |_,_=>I
  | .stuck=>I
structure qb where
 takes:List Nat:=[]
 bH:List Nat:=[]
 bI:List (Nat×Nat):=[]
 shr:List (Nat×Nat):=[]
 fg:List (Nat×Nat):=[]
 red:List (Nat×Nat):=[]
 keep:List (Nat×List Nat):=[]
 vl:List Nat:=[]
 vec:List Nat:=[]
 ex:List ((Nat×Nat)×Nat):=[]
 deriving Inhabited
def Ed:Value→Option qa
 | .bool b=>En (.bool b)
 | .int k n=>En (.int k n)
 | .string s=>En (.str s.data.toList)
 | .slice I 0 0=>En (.list Ep 0 [])
 | .pointer I=>En .bN
 | .map I=>En .bM
 | .nilFunc=>En .bX
 |_=>I
def vP:List Value→Option (List qa)
 | []=>En []
 |v::vs=>match Ed v with
  |some x=>match vP vs with
   |some xs=>En (x::xs)
   |none=>I
  |none=>I
def ofValue:Value→Option qa
 | .agg cs=>match vP cs.toList with
  |some xs=>En (.agg xs)
  |none=>I
 |v=>Ed v
def zp:Operand→Option qp
 | .tmp t=>En (.tmp t)
 | .const v=>match ofValue v with
  |some x=>En (.const x)
  |none=>I
 | .func f=>En (.const (.fn (.func f) [] []))
 | .global _=>I
def pn:List Operand→Option (List qp)
 | []=>En []
 |x::xs=>match zp x with
  |some y=>match pn xs with
   |some ys=>En (y::ys)
   |none=>I
  |none=>I
def mO:Option Operand→Option (Option qp)
 |none=>En I
 |some x=>match zp x with
  |some y=>En (En y)
  |none=>I
def fh (P:Program)(t:TypeId):Option Bool:=
 match P.underlying t with
 |some (.struct _)=>En Ep
 |some (.array _ _)=>En Ep
 |some _=>En Eo
 |none=>I
def yf (P:Program)(t:TypeId):Option Nat:=(P.info? t).map (·.size)
def nJ (P:Program)(t:TypeId):Option Nat:=(P.info? t).map (·.bytes)
def ei (P:Program)(t:TypeId):Option (List qa):=
 match P.info? t with
 |some i=>match i.zero with
  |some z=>vP z.cells.toList
  |none=>I
 |none=>I
def TH (P:Program)(t:TypeId):Option TypeId:=
 match P.underlying t with
 |some (.struct fs)=>match fs.toList with
  | [f0,f1]=>match P.underlying f0.type,P.underlying f1.type with
   |some (.pointer t'),En (.slice e)=>match P.underlying e,ei P t with
    |some (.int .u8),En [.bN,.list Ep _ []]=>if t' == t then En e else I
    |_,_=>I
   |_,_=>I
  |_=>I
 |_=>I
def TI (P:Program)(t:TypeId):Option qa:=
 match P.info? t with
 |some i=>match i.zero with
  |some z=>ofValue z
  |none=>I
 |none=>I
def F3 (g:TypeId→Option (List Kd)):Nat→List Field→Option (List Kd)
 |_,[]=>En []
 | off, f :: fs => if f.name != "_" && f.offset == off then (match g f.type with
   |some ks=>(match F3 g (off+ks.length) fs with
    |some r=>En (ks++r)
    |none=>I)
   |none=>I)else I
def uH (P:Program):Nat→TypeId→Option (List Kd)
 |0,_=>I
 |n+1,t=>match P.underlying t with
  |some (.int _)=>if yf P t == En 1 then En [.int]else I
  |some .string=>if yf P t == En 1 then En [.str]else I
  |some .bool=>if yf P t == En 1 then En [.bool]else I
  |some (.struct fs)=>(match F3 (uH P n) 0 fs.toList with
   |some ks=>if !P.stoodInHeld t&&yf P t == En ks.length then En ks else I
   |none=>I)
  |some (.array len e)=>(match uH P n e with
   |some ks=>if yf P t == En (len*ks.length)then En (Gf len ks).flatten else I
   |none=>I)
  |_=>I
def Ny:Nat:=12
def jZ (P:Program)(t:TypeId):Option Kd:=
 match P.underlying t with
 |some (.int _)=>En .int
 |some .string=>En .str
 |some .bool=>En .bool
 |_=>I
def Ee (P:Program)(op:BinOp)(neq:Bool)(t:TypeId)(x y:Operand):Option qv:=
 match P.underlying t with
 |some (.int _)|some .string=>match zp x,zp y with
  |some a,En b=>En (.bin op a b)
  |_,_=>I
 |some .bool=>match zp x,zp y with
  |some a,En b=>En (.beq neq a b)
  |_,_=>I
 |some (.struct _)|some (.array _ _)=>
  if !P.eqGuardType P.depth t then match uH P Ny t,zp x,zp y with
   |some ks,En a,En b=>En (.eqs ks neq a b)
   |_,_,_=>I
  else I
 |some (.slice _)=>match y with
  | .const (.slice I 0 0)=>(zp x).map (.eV 0 neq)
  |_=>I
 |some (.pointer _)=>match y with
  | .const (.pointer I)=>(zp x).map (.eV 1 neq)
  |_=>I
 |some (.map _ _)=>match y with
  | .const (.map I)=>(zp x).map (.eV 2 neq)
  |_=>I
 |some (.func _ _ _)=>match y with
  | .const .nilFunc=>(zp x).map (.eV 3 neq)
  |_=>I
 |_=>I
def TJ (P:Program)(op:BinOp)(t:TypeId)(x y:Operand):Option qv:=
 match op with
 | .eql=>Ee P .eql Eo t x y
 | .neq=>Ee P .neq Ep t x y
 |op=>match zp x,zp y with
  |some a,En b=>En (.bin op a b)
  |_,_=>I
def xq (P:Program)(place:Nat→Option (Nat×Nat)):List (Nat×Operand)→Option (List (Nat×Nat×qp))
 | []=>En []
 |(i,x)::ps=>match place i,zp x,xq P place ps with
  |some (off,n),En y,En r=>En ((off,n,y)::r)
  |_,_,_=>I
def xr:List (Nat×Operand)→Option (List (Nat×qp))
 | []=>En []
 |(i,x)::ps=>match zp x,xr ps with
  |some y,En r=>En ((i,y)::r)
  |_,_=>I
def q75 (h:qb)(dst:Option Nat)(x:Operand):Option Nat:=
 match x,dst with
 | .tmp s,En d=>if h.takes.contains d then En s else I
 |_,_=>I
def z7:TypeDesc→Bool
 | .slice _=>Ep
 | .string=>Ep
 |_=>Eo
def jd.at (r:Nat):jd→jd
 | .fg _=>.fg r
 |m=>m
def Aa (P:Program)(h:qb)(md:jd)(r:Nat)(dst:Option Nat)(c:Call):Option qv:=
 match c.callee with
 | .value f=>match zp f,pn c.args.toList with
  |some f,En args=>En (.call (md.at r) f args)
  |_,_=>I
 | .builtin .len=>match c.args.toList,c.argTypes.toList with
  | [x],[t]=>match P.underlying t with
   |some .string=>(zp x).map (.len 0)
   |some (.slice _)=>(zp x).map (.len 1)
   |_=>I
  |_,_=>I
 | .builtin .cap=>match c.args.toList,c.argTypes.toList with
  | [x],[t]=>match P.underlying t with
   |some (.slice _)=>(zp x).map (.len 2)
   |_=>I
  |_,_=>I
 | .builtin .append=>match c.args.toList,c.argTypes.toList with
  | [x,y],[t,u]=>match P.underlying t,P.underlying u with
   |some (.slice e),En ut=>if z7 ut&&(ei P e).map (·.length) == yf P e then match yf P e,nJ P e,zp x,zp y with
     |some sz,En b,En x,En y=>En (if(dst.map (h.vec.contains ·)).getD Eo then .gG r sz b x y else .append (if(dst.map (h.bH.contains ·)).getD Eo then En r else I) sz b x y)
     |_,_,_,_=>I
    else I
   |_,_=>I
  |_,_=>I
 | .builtin .copy=>match c.args.toList,c.argTypes.toList with
  | [x,y],t::_=>match P.underlying t with
   |some (.slice e)=>match yf P e,zp x,zp y with
    |some sz,En x,En y=>En (.copy sz x y)
    |_,_,_=>I
   |_=>I
  |_,_=>I
 | .builtin .delete=>match c.args.toList,c.argTypes.toList with
  | [m,k],t::_=>match P.underlying t with
   |some (.map kt _)=>match jZ P kt,zp m,zp k with
    |some kd,En m,En k=>En (.delete kd m k)
    |_,_,_=>I
   |_=>I
  |_,_=>I
 | .builtin .max=>(pn c.args.toList).map .mx
 | .builtin .min=>(pn c.args.toList).map .mn
 |_=>I
def Ef : List (String × List Int) := [("woofer/network.none", [0, 0]), ("woofer/network.one", [1, 0]), ("woofer/network.turns", [1, 0, 0, 1, -1, 0, 0, -1])]
def F4 (P:Program)(g:Nat):List (String×List Int)→Option (List Int)
 | []=>I
 |(n,cs)::l=>if P.globalNamed n == En g then En cs else F4 P g l
def Nz (P:Program)(t:TypeId)(g:Nat):Option qv:=match F4 P g Ef,fh P t,yf P t with
 |some cs,En Ep,En n=>if cs.length == n then En (.move (.const (.agg (cs.map (qa.int .i64)))))else I
 |_,_,_=>I
def NA (h:qb):qp→Option Nat
 | .tmp s=>if h.vl.contains s then En s else I
 |_=>I
def cw (P:Program)(h:qb)(md:jd)(r:Nat)(dst:Option Nat):Op→Option qv
 | .move x=>match q75 h dst x with
  |some s=>En (.take s)
  |none=>(zp x).map .move
 | .assign (.tmp s)=>En (.take s)
 | .assign x=>(zp x).map .move
 | .pick c a b=>match zp c,zp a,zp b with
  |some c,En a,En b=>En (.pick c a b)
  |_,_,_=>I
 | .alloc t=>match TH P t with
  |some e=>En (.fE r t e)
  |none=>bif (dst.map (h.vl.contains ·)).getD Eo then(match ei P t with
   |some z=>bif z.all zd then En (.fV z.length)else I
   |none=>I)else(ei P t).map (.alloc r)
 | .box t x=>match yf P t,zp x with
  |some n,En x=>En (bif (dst.map (h.vl.contains ·)).getD Eo then .ol n x else .box r n x)
  |_,_=>I
 | .build t ps=>match P.underlying t,ei P t with
  |some (.struct fs),En z=>if fs.toList.all (fun f=>(yf P f.type).isSome)then(xq P (fun i=>match fs[i]? with
    |some f=>(yf P f.type).map fun n=>(f.offset,n)
    |none=>I) ps.toList).map (.build z)else I
  |some (.array _ e),En z=>match yf P e with
   |some n=>(xq P (fun i=>En (i*n,n)) ps.toList).map (.build z)
   |none=>I
  |_,_=>I
 | .buildSlice t n ps=>match P.underlying t with
  |some (.slice e)=>match yf P e,ei P e,fh P e,xr ps.toList with
   |some sz,En z,En ag,En es=>if sz*n≤65536&&0<sz&&z.length == sz&&(ag||sz == 1)&&(!ag||sz != 1)then En (if(dst.map (h.vec.contains ·)).getD Eo then .ia r sz n z es else .buildSlice sz n z es)else I
   |_,_,_,_=>I
  |_=>I
 | .load t (.global g)=>Nz P t g
 | .load t x=>match fh P t,yf P t,zp x with
  |some Eo,En 1,En x=>if(dst.map (h.takes.contains ·)).getD Eo then En (.b9 ((dst.bind fun d=>h.bI.find? fun y=>y.1 == d).map (·.2)) x)else En (bif (dst.map (h.vl.contains ·)).getD Eo then .eU Eo 1 x else .load Eo 1 x)
  |some Ep,En n,En x=>En (bif (dst.map (h.vl.contains ·)).getD Eo then .eU Ep n x else .load Ep n x)
  |_,_,_=>I
 | .store t a v=>match yf P t,zp a,zp v with
  |some n,En a,En v=>En (match NA h a with
   |some s=>.du n s v
   |none=>.store n a v)
  |_,_,_=>I
 | .nilCheck x=>(zp x).map .nilCheck
 | .binOp op t x y _=>TJ P op t x y
 | .unOp op _ x=>(zp x).map (.un op)
 | .convert s d x=>match P.underlying s,P.underlying d with
  |some (.int _),En (.int k)=>(zp x).map (.conv k)
  |some .string,En .string=>(zp x).map .eI
  |some (.int _),En .string=>(zp x).map .eI
  |_,_=>I
 | .makeFunc f a b=>match f with
  | .func k=>match pn a.toList,pn b.toList with
   |some a,En b=>En (.fW (.func k) a b)
   |_,_=>I
  |_=>I
 | .makeMap t I=>match P.underlying t with
  |some (.map _ _)=>En (.dD r)
  |_=>I
 | .makeSlice t n c=>match P.underlying t with
  |some (.slice e)=>match yf P e,nJ P e,ei P e,fh P e,zp n,zp c with
   |some sz,En b,En z,En ag,En n,En c=>
    if(ag||sz == 1)&&(!ag||sz != 1)then En (.bV (if(dst.map (h.bH.contains ·)).getD Eo then En r else I) sz b z n c)else I
   |_,_,_,_,_,_=>I
  |_=>I
 | .slice t x lo hi I=>match zp x,mO lo,mO hi with
  |some x,En lo,En hi=>match P.underlying t with
   |some .string=>En (.ek x lo hi)
   |some (.slice e)=>(yf P e).map fun sz=>.slice sz x lo hi
   |some (.array n e)=>(yf P e).map fun sz=>.en n sz x lo hi
   |_=>I
  |_,_,_=>I
 | .fieldAddr t x i=>match P.underlying t with
  |some (.struct fs)=>match fs[i]? with
   |some f=>match fh P f.type,yf P f.type,zp x with
    |some ag,En n,En x=>if 0<n&&(ag||n == 1)then En (.fieldAddr ag f.offset n x)else I
    |_,_,_=>I
   |none=>I
  |_=>I
 | .field t x i=>match P.underlying t with
  |some (.struct fs)=>match fs[i]? with
   |some f=>match fh P f.type,yf P f.type,zp x with
    |some ag,En n,En x=>En (.field ag f.offset n x)
    |_,_,_=>I
   |none=>I
  |_=>I
 | .indexAddr t x i=>match zp x,zp i with
  |some x,En i=>match P.underlying t with
   |some (.slice e)=>match yf P e with
    |some sz=>if 0<sz then En (.indexAddr sz x i)else I
    |none=>I
   |some (.array n e)=>match yf P e,fh P e with
    |some sz,En ag=>if 0<sz&&(ag||sz == 1)then En (.dO ag n sz x i)else I
    |_,_=>I
   |_=>I
  |_,_=>I
 | .index t x i=>match zp x,zp i with
  |some x,En i=>match P.underlying t with
   |some .string=>En (.dN x i)
   |some (.array n e)=>match yf P e,fh P e with
    |some sz,En ag=>En (.index ag n sz x i)
    |_,_=>I
   |_=>I
  |_,_=>I
 | .lookup t m k ok=>match P.underlying t with
  |some (.map kt e)=>match jZ P kt,TI P e,zp m,zp k with
   |some kd,En z,En m,En k=>En (.lookup kd z ok m k)
   |_,_,_,_=>I
  |_=>I
 | .mapUpdate t m k v=>match P.underlying t with
  |some (.map kt _)=>match jZ P kt,zp m,zp k,zp v with
   |some kd,En m,En k,En v=>En (.mapUpdate kd m k v)
   |_,_,_,_=>I
  |_=>I
 | .insert t m k v=>match P.underlying t with
  |some (.map kt _)=>match jZ P kt,zp m,zp k,zp v with
   |some kd,En m,En k,En v=>En (.mapUpdate kd m k v)
   |_,_,_,_=>I
  |_=>I
 | .range t x=>match P.underlying t with
  |some .string=>(zp x).map (.cZ r)
  |_=>I
 | .next it Ep=>(zp it).map .eW
 | .extract x i=>(zp x).map fun x=>.extract x i
 | .call c=>Aa P h md r dst c
 |_=>I
def qv.makes:qv→Bool
 | .alloc ..=>Ep
 | .box ..=>Ep
 | .fE ..=>Ep
 | .dD ..=>Ep
 | .bV (En _) ..=>Ep
 | .append (En _) ..=>Ep
 | .gG ..=>Ep
 | .ia ..=>Ep
 | .cZ ..=>Ep
 | .call (.fg _) ..=>Ep
 |_=>Eo
def qv.gI:qv→Option Nat
 | .du _ s _=>En s
 |_=>I
def qv.xt (d:Option Nat):qv→Option Nat
 | .du _ s _=>En s
 |_=>d
def Eg (ops:Array Oper):Option (Nat×Bool)→Option (Option (Nat×Bool))
 |none=>En I
 |some (j,b)=>match(ops[j]?).bind (·.dst)with
  |some d=>En (En (d,b))
  |none=>I
def jdd (h:qb)(id i:Nat):jd:=if h.shr.contains (id,i)then .shr else if h.fg.contains (id,i)then .fg 0 else if h.red.contains (id,i)then .red else .bL
def F5 (P:Program)(h:qb)(nt:Nat)(id:Nat)(ops:Array Oper)(gV:Array Nat)(draw:Bool):List Oper→Nat→List (Nat×Nat)→Option (List qx×List (Nat×Nat))
 | [],_,rs=>En ([],rs)
 |o::os,i,rs=>
  match(cw P h (jdd h id i) rs.length o.dst o.op).getD .bad,Eg ops o.guard with
  |a,En g=>
   if(o.dst.map (decide <| · < nt)).getD Ep&&(a.gI.map (decide <| · < nt)).getD Ep&&(a.gI.isNone||(o.dst.isNone&&o.guard.isNone))then
    let Eh:=if a.makes then(i,rs.length)::rs else rs
    let al:=if draw then(match h.ex.find? fun x=>x.1 == (id,i)with
     |some x=>En [x.2]
     |none=>En ((rs.filter fun x=>(gV.getD i 0).testBit x.1).map (·.2)))else I
    match F5 P h nt id ops gV draw os (i+1) Eh with
    |some (l,TK)=>En (⟨a.xt o.dst,a,g,al⟩::l,TK)
    |none=>I
   else I
  |_,_=>I
def y6:qp→List Nat
 | .tmp t=>[t]
 | .const _=>[]
def xu (l:List qp):List Nat:=l.flatMap y6
def Ab:Option qp→List Nat
 |some x=>y6 x
 |none=>[]
def qv.reads:qv→List Nat
 | .move x=>y6 x
 | .take s=>[s]
 | .pick c a b=>y6 c++y6 a++y6 b
 | .alloc _ _=>[]
 | .box _ _ x=>y6 x
 | .ol _ x=>y6 x
 | .fV _=>[]
 | .du _ s x=>s::y6 x
 | .fE _ _ _=>[]
 | .build _ ps=>ps.flatMap fun p=>y6 p.2.2
 | .buildSlice _ _ _ ps=>ps.flatMap fun p=>y6 p.2
 | .load _ _ x=>y6 x
 | .eU _ _ x=>y6 x
 | .b9 _ x=>y6 x
 | .store _ a v=>y6 a++y6 v
 | .nilCheck x=>y6 x
 | .bin _ x y=>y6 x++y6 y
 | .eqs _ _ x y=>y6 x++y6 y
 | .beq _ x y=>y6 x++y6 y
 | .eV _ _ x=>y6 x
 | .un _ x=>y6 x
 | .conv _ x=>y6 x
 | .eI x=>y6 x
 | .field _ _ _ x=>y6 x
 | .index _ _ _ x i=>y6 x++y6 i
 | .dN x i=>y6 x++y6 i
 | .fieldAddr _ _ _ x=>y6 x
 | .indexAddr _ x i=>y6 x++y6 i
 | .dO _ _ _ x i=>y6 x++y6 i
 | .slice _ x lo hi=>y6 x++Ab lo++Ab hi
 | .ek x lo hi=>y6 x++Ab lo++Ab hi
 | .en _ _ x lo hi=>y6 x++Ab lo++Ab hi
 | .fW _ a b=>xu a++xu b
 | .dD _=>[]
 | .lookup _ _ _ m k=>y6 m++y6 k
 | .mapUpdate _ m k v=>y6 m++y6 k++y6 v
 | .delete _ m k=>y6 m++y6 k
 | .bV _ _ _ _ n c=>y6 n++y6 c
 | .len _ x=>y6 x
 | .append _ _ _ x y=>y6 x++y6 y
 | .gG _ _ _ x y=>y6 x++y6 y
 | .ia _ _ _ _ ps=>ps.flatMap fun p=>y6 p.2
 | .copy _ x y=>y6 x++y6 y
 | .mx l=>xu l
 | .mn l=>xu l
 | .extract x _=>y6 x
 | .call _ f l=>y6 f++xu l
 | .cZ _ x=>y6 x
 | .eW x=>y6 x
 | .bad=>[]
def qv.fi:qv→List Nat
 | .take s=>[s]
 | .append _ _ _ x _=>y6 x
 | .store _ _ v=>y6 v
 |_=>[]
def qx.reads (o:qx):List Nat:=o.op.reads++(match o.guard with|some g=>[g.1]|none=>[])
def qx.writes (o:qx):List Nat:=o.dst.toList++o.op.fi
inductive jr where
 |pure|read|write|alloc|take|fg|shr|nK
 deriving DecidableEq,Inhabited
def qv.cl:qv→jr
 | .load ..=>.read
 | .lookup ..=>.read
 | .alloc ..=>.alloc
 | .box ..=>.alloc
 | .fE ..=>.alloc
 | .dD ..=>.alloc
 | .bV (En _) ..=>.alloc
 | .append (En _) ..=>.alloc
 | .cZ ..=>.alloc
 | .b9 I _=>.write
 | .b9 (En _) _=>.take
 | .store ..=>.write
 | .mapUpdate ..=>.write
 | .delete ..=>.write
 | .copy ..=>.write
 | .eW ..=>.write
 | .call .bL ..=>.pure
 | .call (.fg _) ..=>.alloc
 | .call .shr ..=>.shr
 | .call .red ..=>.shr
 | .gG ..=>.nK
 | .ia ..=>.shr
 |_=>.pure
def qv.cz:qv→Nat
 | .alloc r _=>r
 | .box r _ _=>r
 | .fE r _ _=>r
 | .dD r=>r
 | .bV (En r) ..=>r
 | .append (En r) ..=>r
 | .cZ r _=>r
 | .call (.fg r) ..=>r
 | .b9 (En o) _=>o
 | .gG r sz ..=>r+1000*sz
 |_=>0
def mP (al:Option (List Nat))(r:Nat):Bool:=match al with
 |none=>Ep
 |some l=>bif oq l then Eu (l.headD 0) (2000+r)else l.contains r
def Ei (a b:Option (List Nat)):Bool:=match a,b with
 |some l,En m=>bif oq l then(bif oq m then !(Eu (l.headD 0) (m.headD 0))&&Gb (l.headD 0) 4000&&Gb (m.headD 0) 4000 else Ev 2000 (l.headD 0)&&Gb (l.headD 0) 4000&&!(m.contains (l.headD 0-2000)))else oq m&&Ev 2000 (m.headD 0)&&Gb (m.headD 0) 4000&&!(l.contains (m.headD 0-2000))
 |_,_=>Eo
def jr.box:jr→Bool
 | .read=>Ep
 | .write=>Ep
 | .take=>Ep
 |_=>Eo
def TL (a b:qx):Bool:=(a.op.cl.box&&b.op.cl.box&&Ei a.al b.al) ||
  (match a.op.cl,b.op.cl with
 | .pure,_=>Ep
 |_,.pure=>Ep
 | .read,.read=>Ep
 | .read,.fg=>Ep
 | .fg,.read=>Ep
 | .fg,.fg=>Ep
 | .alloc,.alloc=>a.op.cz != b.op.cz
 | .alloc,.read=>!mP b.al a.op.cz
 | .alloc,.write=>!mP b.al a.op.cz
 | .alloc,.take=>!mP b.al a.op.cz
 | .take,.alloc=>!mP a.al b.op.cz
 | .take,.take=>a.op.cz != b.op.cz
 | .read,.alloc=>!mP a.al b.op.cz
 | .write,.alloc=>!mP a.al b.op.cz
 | .nK,.nK=>a.op.cz % 1000 != b.op.cz % 1000&&a.op.cz / 1000 != b.op.cz / 1000
 | .nK,.read=>pj b.al
 | .nK,.write=>pj b.al
 | .nK,.take=>pj b.al
 | .read,.nK=>pj a.al
 | .write,.nK=>pj a.al
 | .take,.nK=>pj a.al
 |_,_=>Eo)
def F6 (a b:List Nat):Bool:=a.all fun x=>!b.contains x
def Ac (a b:qx):Bool:=
 TL a b&&F6 a.writes b.reads&&F6 a.writes b.writes&&F6 b.writes a.reads
def TM (gV:Array Nat)(l:List qx):Bool:=
 (l.zipIdx).all fun(b,j)=>(l.zipIdx).all fun(a,i)=>!(decide (i<j))||(gV.getD j 0).testBit i||Ac a b
def TN (ops:Array Oper):Bool:=ops.toList.zipIdx.all fun(o,i)=>o.after.all fun e=>!Region.binds .any e||decide (e.on<i)
def TP (gV:Array Nat)(ops:Array Oper):Bool:=
 ops.toList.zipIdx.all fun(o,i)=>(List.range ops.size).all fun j=>!((gV.getD i 0).testBit j)||o.after.any fun e=>Region.binds .any e&&(e.on == j||(gV.getD e.on 0).testBit j)
def F7 (P:Program)(h:qb)(nt:Nat)(id:Nat)(ops:Array Oper)(draw:Bool):Option qe:=
 match F5 P h nt id ops (Region.before ops) draw ops.toList 0 []with
 |some (l,rs)=>
  if !draw||(TM (Region.before ops) l&&TN ops&&TP (Region.before ops) ops)then
   En (.region rs.length l ((h.keep.find? fun x=>x.1 == id).map (·.2)))
  else I
 |none=>I
def Ej (s d:Nat)(o:Oper):Bool:=match o.op,o.dst,o.guard with
 | .move (.tmp s'),En d',I=>s' == s&&d' == d
 |_,_,_=>Eo
def TQ (s d:Nat)(o:Oper):Bool:=match o.op,o.dst,o.guard with
 | .assign (.tmp s'),En d',I=>s' == s&&d' == d
 |_,_,_=>Eo
def TR (x d:Nat)(o:Oper):Option TypeId:=match o.op,o.dst,o.guard with
 | .call c,En d',I=>match c.callee,c.args.toList,c.argTypes.toList with
  | .builtin .cap,[.tmp x'],[t]=>if x' == x&&d' == d then En t else I
  |_,_,_=>I
 |_,_,_=>I
def TS (x d:Nat)(o:Oper):Option TypeId:=match o.op,o.dst,o.guard with
 | .call c,En d',I=>match c.callee,c.args.toList,c.argTypes.toList with
  | .builtin .len,[.tmp x'],[t]=>if x' == x&&d' == d then En t else I
  |_,_,_=>I
 |_,_,_=>I
def NB (x h d:Nat)(o:Oper):Option TypeId:=match o.op,o.dst,o.guard with
 | .slice t (.tmp x') I (En (.tmp h')) I,En d',I=>if x' == x&&h' == h&&d' == d then En t else I
 |_,_,_=>I
def TT (x y d:Nat)(o:Oper):Option (TypeId×TypeId):=match o.op,o.dst,o.guard with
 | .call c,En d',I=>match c.callee,c.args.toList,c.argTypes.toList with
  | .builtin .append,[.tmp x',.tmp y'],[t,u]=>if x' == x&&y' == y&&d' == d then En (t,u)else I
  |_,_,_=>I
 |_,_,_=>I
def jll (ops:Array Oper):Option (TypeId×TypeId):=match ops.toList with
 | [o0,o1,o2,o3,o4,o5,o6,o7,o8,o9]=>match TR 18 19 o2,NB 17 19 20 o3,TT 20 21 22 o5,TS 23 24 o7,NB 22 24 25 o8 with
  |some t2,En t3,En (t,u),En t7,En t8=>if Ej 0 17 o0&&Ej 0 18 o1&&Ej 1 21 o4&&Ej 0 23 o6&&TQ 25 0 o9&&t2 == t&&t3 == t&&t7 == t&&t8 == t then En (t,u)else I
  |_,_,_,_,_=>I
 |_=>I
def NC (P:Program)(nt:Nat)(ops:Array Oper):Option Nat:=match jll ops with
 |some (t,u)=>match P.underlying t,P.underlying u with
  |some (.slice e),En (.int _)=>match P.info? e with
   |some i=>if i.zero.isSome&&0<i.size&&i.bytes≤4096&&26≤nt&&(ei P e).isSome&&(ei P e).map (·.length) == En i.size then En i.size else I
   |none=>I
  |_,_=>I
 |none=>I
def gu (P:Program)(h:qb)(nt:Nat):Code→Option qe
 | .skip=>En .skip
 | .label _=>En .skip
 | .region id ops draw=>match draw,NC P nt ops with
  |false,En sz=>En (.grow sz)
  |_,_=>F7 P h nt id ops draw
 | .seq a b=>match gu P h nt a,gu P h nt b with
  |some x,En y=>En (.seq x y)
  |_,_=>I
 | .cond c a b=>match zp c,gu P h nt a,gu P h nt b with
  |some c,En x,En y=>En (.cond c x y)
  |_,_,_=>I
 | .block id b=>(gu P h nt b).map (.block id)
 | .loop b=>(gu P h nt b).map .loop
 | .scope b=>(gu P h nt b).map fun x=>.seq x .skip
 | .rangeFunc f ps a b=>match zp f,gu P h nt a,gu P h nt b with
  |some f,En x,En y=>if ps.all (decide <| · < nt)then En (.rangeFunc f ps.toList x y)else I
  |_,_,_=>I
 | .exit id=>En (.exit id)
 | .ret=>En .ret
 |_=>En .stuck
def ND (P:Program):ResultVar→Option jf
 | .tmp t=>En (.tmp t)
 | .cell t ty=>match fh P ty,yf P ty with
  |some Ep,En n=>En (.cell t Ep n)
  |some Eo,En 1=>En (.cell t Eo 1)
  |_,_=>I
def Ad (P:Program):List ResultVar→Option (List jf)
 | []=>En []
 |r::rs=>match ND P r,Ad P rs with
  |some x,En xs=>En (x::xs)
  |_,_=>I
def F8 (P:Program)(h:qb)(f:Func):Option qd:=
 match f.body with
 |some c=>match gu P h f.ntmps c,Ad P f.results.toList with
  | some b, En rs => if f.name == "runtime.NumGoroutine" then I else En ⟨f.ntmps, b, rs⟩
  |_,_=>I
 |none=>I
structure aA where
 K:Nat→Nat→Option Value
 β:Nat→Option Nat
 W:Nat→Prop
 D:Nat→Prop
 T:Nat×Nat×Nat×Nat→Prop
def aA.bL (K:Nat→Nat→Option Value):aA:=⟨K,fun _=>I,fun _=>False,fun _=>False,fun _=>False⟩
def eZ (C:aA):Fn→Fn→Prop
 | .yield b,f=>∃r,C.β b=En r∧f=.yield r
 |f,f'=>f'=f
inductive jh where
 |val (x:qa) (v:Value)
 |cells (r:Nat) (xs:List qa) (o:Nat)
 |row (r sz:Nat) (xs:List qa) (o:Nat)
 |eP (xs:List qa) (vs:List Value)
inductive qh (C:aA):jh→Prop where
 |bool (b:Bool):qh C (.val (.bool b) (.bool b))
 |int (k:IntKind) (n:Int):qh C (.val (.int k n) (.int k n))
 |str (s:List UInt8):qh C (.val (.str s) (.string ⟨⟨s⟩⟩))
 |iV (sz:Nat):qh C (.val (.list Ep sz []) (.slice I 0 0))
 |list (sz:Nat) (xs:List qa) (r o cap:Nat) (hl:xs.length≤cap) (hr:qh C (.row r sz xs o)):qh C (.val (.list Eo sz xs) (.slice (En ⟨r,o,I⟩) xs.length cap))
 |iW (sz:Nat) (a:Addr) (hs:a.spot≠I):qh C (.val (.list Eo sz []) (.slice (En a) 0 0))
 |ms (b o len r cap:Nat) (hb:C.β b=En r) (hl:len≤cap):qh C (.val (.ms b o len) (.slice (En ⟨r,o,I⟩) len cap))
 |ptr (b o r:Nat) (hb:C.β b=En r):qh C (.val (.ptr b o) (.pointer (En ⟨r,o,I⟩)))
 |ah (x:qa) (r o:Nat) (h:qh C (.cells r x.flat o)):qh C (.val (.ah x) (.pointer (En ⟨r,o,I⟩)))
 |bN:qh C (.val .bN (.pointer I))
 |map (b r:Nat) (hb:C.β b=En r):qh C (.val (.map b) (.map (En r)))
 |bM:qh C (.val .bM (.map I))
 |fn (f f':Fn) (a b:List qa) (as bs:List Value) (hf:eZ C f f') (ha:qh C (.eP a as)) (hb:qh C (.eP b bs)):qh C (.val (.fn f a b) (.func f' ⟨as⟩ ⟨bs⟩))
 |bX:qh C (.val .bX .nilFunc)
 |agg (cs:List qa) (vs:List Value) (h:qh C (.eP cs vs)):qh C (.val (.agg cs) (.agg ⟨vs⟩))
 |ay (cs:List qa) (vs:List Value) (h:qh C (.eP cs vs)):qh C (.val (.ay cs) (.tuple ⟨vs⟩))
 |undef:qh C (.val .undef (.tuple #[]))
 |any (v:Value):qh C (.val .any v)
 |cE (n:Nat) (a:Addr):qh C (.val (.cE n) (.pointer (En a)))
 |au (b bz len r0 r cap:Nat) (hb:C.β b=En r0) (ht:C.T (r0,bz,r,cap)) (hl:len≤cap):qh C (.val (.au b bz len) (.slice (En ⟨r,0,I⟩) len cap))
 |dl (b bz off r0 r cap:Nat) (hb:C.β b=En r0) (ht:C.T (r0,bz,r,cap)):qh C (.val (.dl b bz off) (.pointer (En ⟨r,off,I⟩)))
 |gJ (r o:Nat):qh C (.cells r [] o)
 |df (r o:Nat) (x:qa) (xs:List qa) (v:Value) (hv:C.K r o=En v) (hx:qh C (.val x v)) (h:qh C (.cells r xs (o+1))):qh C (.cells r (x::xs) o)
 |fj (r sz o:Nat):qh C (.row r sz [] o)
 |cY (r sz o:Nat) (x:qa) (xs:List qa) (hs:x.flat.length=sz) (hx:qh C (.cells r x.flat o)) (h:qh C (.row r sz xs (o+sz))):qh C (.row r sz (x::xs) o)
 |nil:qh C (.eP [] [])
 |cons (x:qa) (xs:List qa) (v:Value) (vs:List Value) (hx:qh C (.val x v)) (h:qh C (.eP xs vs)):qh C (.eP (x::xs) (v::vs))
abbrev bG (C:aA)(x:qa)(v:Value):Prop:=qh C (.val x v)
abbrev aK (C:aA)(xs:List qa)(vs:List Value):Prop:=qh C (.eP xs vs)
abbrev bZ (C:aA)(r:Nat)(xs:List qa)(o:Nat):Prop:=qh C (.cells r xs o)
abbrev bg (C:aA)(r sz:Nat)(xs:List qa)(o:Nat):Prop:=qh C (.row r sz xs o)
structure aA.le (C C':aA):Prop where
 k:∀r o v,C.K r o=En v→C'.K r o=En v
 b:∀b r,C.β b=En r→C'.β b=En r
 w:C'.W=C.W
 d:∀r,C.D r→C'.D r
 t:∀q,C.T q→C'.T q:=by exact fun _ h=>h
theorem aA.le_refl (C:aA):C.le C:=⟨fun _ _ _ h=>h,fun _ _ h=>h,rfl,fun _ h=>h,fun _ h=>h⟩
theorem aA.le_trans {A B C:aA}(h:A.le B)(k:B.le C):A.le C:=⟨fun r o v x=>k.1 r o v (h.1 r o v x),fun b r x=>k.2 b r (h.2 b r x),k.w.trans h.w,fun r x=>k.d r (h.d r x),fun r x=>k.t r (h.t r x)⟩
theorem eZ.imp {C C'}(h:(∀r o v,C.K r o=En v→C'.K r o=En v)∧(∀b r,C.β b=En r→C'.β b=En r)){f f'}(hf:eZ C f f'):eZ C' f f':=by
 cases f<;>simp only[eZ]at *<;>first|exact hf|exact⟨hf.choose,h.2 _ _ hf.choose_spec.1,hf.choose_spec.2⟩
theorem qh.imp {C C'}(h:(∀r o v,C.K r o=some v→C'.K r o=some v)∧(∀b r,C.β b=some r→C'.β b=some r)){i}(hr:qh C i)(hT:∀q,C.T q→C'.T q:=by first|exact fun _ h=>h|exact fun _ h=>False.elim h):qh C' i:=by
 induction hr with
 |bool b=>exact .bool b
 |int k n=>exact .int k n
 |str s=>exact .str s
 |iV sz=>exact .iV sz
 |list sz xs r o cap hl _ ih=>exact .list sz xs r o cap hl ih
 |iW sz a hs=>exact .iW sz a hs
 |ms b o len r cap hb hl=>exact .ms b o len r cap (h.2 _ _ hb) hl
 |ptr b o r hb=>exact .ptr b o r (h.2 _ _ hb)
 |ah x r o _ ih=>exact .ah x r o ih
 |bN=>exact .bN
 |map b r hb=>exact .map b r (h.2 _ _ hb)
 |bM=>exact .bM
 |fn f f' a b as bs hf _ _ ha hb=>exact .fn f f' a b as bs (hf.imp h) ha hb
 |bX=>exact .bX
 |agg cs vs _ ih=>exact .agg cs vs ih
 |ay cs vs _ ih=>exact .ay cs vs ih
 |undef=>exact .undef
 |any v=>exact .any v
 |cE n a=>exact .cE n a
 |au b bz len r0 r cap hb ht hl=>exact .au b bz len r0 r cap (h.2 _ _ hb) (hT _ ht) hl
 |dl b bz off r0 r cap hb ht=>exact .dl b bz off r0 r cap (h.2 _ _ hb) (hT _ ht)
 |gJ r o=>exact .gJ r o
 |df r o x xs v hv _ _ nL ih=>exact .df r o x xs v (h.1 _ _ _ hv) nL ih
 |fj r sz o=>exact .fj r sz o
 |cY r sz o x xs hs _ _ nL ih=>exact .cY r sz o x xs hs nL ih
 |nil=>exact .nil
 |cons x xs v vs _ _ nL ih=>exact .cons x xs v vs nL ih
theorem qh.mono {C C'}(h:C.le C'){i}(hr:qh C i):qh C' i:=hr.imp ⟨h.k,h.b⟩ h.t
def jh.below (n:Nat):jh→Bool
 | .val x _=>Abs.below n x
 | .cells _ xs _=>zr n xs
 | .row _ _ xs _=>zr n xs
 | .eP xs _=>zr n xs
theorem NE (n:Nat)(x:qa):zr n x.flat=Abs.below n x:=by
 cases x<;>simp[qa.flat,zr,Abs.below]
theorem qh.shift {C C'}(n:Nat)(hK:∀r o v,C.K r o=some v→C'.K r o=some v)(hβ:∀b r,b<n→C.β b=some r→C'.β b=some r){i}(hr:qh C i)(hb:i.below n=true)(hT:∀q,0<n→C.T q→C'.T q:=by first|exact fun _ _ h=>h|exact fun _ h=>absurd h (Nat.lt_irrefl 0)|exact fun _ _ h=>False.elim h):qh C' i:=by
 induction hr with
 |bool b=>exact .bool b
 |int k n=>exact .int k n
 |str s=>exact .str s
 |iV sz=>exact .iV sz
 |list sz xs r o cap hl _ ih=>exact .list sz xs r o cap hl (ih (by simpa[jh.below,Abs.below]using hb))
 |iW sz a hs=>exact .iW sz a hs
 |ms b o len r cap h1 hl=>exact .ms b o len r cap (hβ _ _ (by simpa[jh.below,Abs.below]using hb) h1) hl
 |ptr b o r h1=>exact .ptr b o r (hβ _ _ (by simpa[jh.below,Abs.below]using hb) h1)
 |ah x r o _ ih=>exact .ah x r o (ih (by simpa[jh.below,Abs.below,NE]using hb))
 |bN=>exact .bN
 |map b r h1=>exact .map b r (hβ _ _ (by simpa[jh.below,Abs.below]using hb) h1)
 |bM=>exact .bM
 |fn f f' a b as bs hf _ _ iha ihb=>
  have TU:eZ C' f f':=by
   cases f<;>simp only[eZ]at *<;>first|exact hf|skip
   obtain⟨r,h1,rfl⟩:=hf
   simp[jh.below,Abs.below]at hb
   exact⟨r,hβ _ _ hb.1.1 h1,rfl⟩
  have qA:zr n a=Ep∧zr n b=Ep:=by
   cases f<;>simp[jh.below,Abs.below]at hb<;>first|exact hb|exact⟨hb.1.2,hb.2⟩
  exact .fn f f' a b as bs TU (iha qA.1) (ihb qA.2)
 |bX=>exact .bX
 |agg cs vs _ ih=>exact .agg cs vs (ih (by simpa[jh.below,Abs.below]using hb))
 |ay cs vs _ ih=>exact .ay cs vs (ih (by simpa[jh.below,Abs.below]using hb))
 |undef=>exact .undef
 |any v=>exact .any v
 |cE n a=>exact .cE n a
 |au b bz len r0 r cap h1 ht hl=>
  have Ae:b<n:=by simpa[jh.below,Abs.below]using hb
  exact .au b bz len r0 r cap (hβ _ _ Ae h1) (hT _ (by omega) ht) hl
 |dl b bz off r0 r cap h1 ht=>
  have Ae:b<n:=by simpa[jh.below,Abs.below]using hb
  exact .dl b bz off r0 r cap (hβ _ _ Ae h1) (hT _ (by omega) ht)
 |gJ r o=>exact .gJ r o
 |df r o x xs v hv _ _ nL ih=>
  simp[jh.below,zr]at hb nL ih
  exact .df r o x xs v (hK _ _ _ hv) (nL hb.1) (ih hb.2)
 |fj r sz o=>exact .fj r sz o
 |cY r sz o x xs hs _ _ nL ih=>
  simp[jh.below,zr,NE]at hb nL ih
  exact .cY r sz o x xs hs (nL hb.1) (ih hb.2)
 |nil=>exact .nil
 |cons x xs v vs _ _ nL ih=>
  simp[jh.below,zr]at hb nL ih
  exact .cons x xs v vs (nL hb.1) (ih hb.2)
theorem aK.length {C xs}:∀ {vs:List Value},aK C xs vs→vs.length=xs.length:=by
 induction xs with
 |nil=>intro vs h;cases h;rfl
 |cons x xs ih=>intro vs h;cases h with|cons _ _ v vs hx h=>simp[ih h]
theorem aK.get {C xs}:∀ {vs:List Value},aK C xs vs→∀ {i:Nat} {x:qa},xs[i]?=En x→∃v,vs[i]?=En v∧bG C x v:=by
 induction xs with
 |nil=>intro vs _ i x h;simp at h
 |cons y ys ih=>
  intro vs h i x hi
  cases h with
  |cons _ _ v vs hx h=>
   cases i with
   |zero=>simp at hi;subst hi;exact⟨v,rfl,hx⟩
   |succ i=>simp at hi;obtain⟨w,h1,h2⟩:=ih h hi;exact⟨w,by simpa using h1,h2⟩
theorem aK.append {C xs ys}:∀ {vs ws:List Value},aK C xs vs→aK C ys ws→aK C (xs++ys) (vs++ws):=by
 induction xs with
 |nil=>intro vs ws h k;cases h;exact k
 |cons x xs ih=>intro vs ws h k;cases h with|cons _ _ v vs hx h=>exact .cons _ _ _ _ hx (ih h k)
theorem aK.take {C xs}:∀ {vs:List Value} (n:Nat),aK C xs vs→aK C (xs.take n) (vs.take n):=by
 induction xs with
 |nil=>intro vs n h;cases h;simpa using qh.nil
 |cons x xs ih=>intro vs n h;cases h with|cons _ _ v vs hx h=>cases n with
  |zero=>simpa using qh.nil
  |succ n=>exact .cons _ _ _ _ hx (ih n h)
theorem aK.drop {C xs}:∀ {vs:List Value} (n:Nat),aK C xs vs→aK C (xs.drop n) (vs.drop n):=by
 induction xs with
 |nil=>intro vs n h;cases h;simpa using qh.nil
 |cons x xs ih=>intro vs n h;cases h with|cons _ _ v vs hx h=>cases n with
  |zero=>exact .cons _ _ _ _ hx h
  |succ n=>simpa using ih n h
theorem bZ.get {C r xs}:∀ {o:Nat},bZ C r xs o→∀ {i:Nat} {x:qa},xs[i]?=En x→∃v,C.K r (o+i)=En v∧bG C x v:=by
 induction xs with
 |nil=>intro o _ i x h;simp at h
 |cons y ys ih=>
  intro o h i x hi
  cases h with
  |df _ _ _ _ v hv hx h=>
   cases i with
   |zero=>simp at hi;subst hi;exact⟨v,hv,hx⟩
   |succ i=>simp at hi;obtain⟨w,h1,h2⟩:=ih h hi;exact⟨w,by rw[show o+(i+1)=o+1+i from by omega];exact h1,h2⟩
theorem bZ.drop {C r xs}:∀ {o:Nat} (n:Nat),bZ C r xs o→bZ C r (xs.drop n) (o+n):=by
 induction xs with
 |nil=>intro o n h;simpa using qh.gJ r (o+n)
 |cons x xs ih=>intro o n h;cases h with|df _ _ _ _ v hv hx h=>cases n with
  |zero=>exact .df _ _ _ _ _ hv hx h
  |succ n=>have:=ih n h;rw[show o+(n+1)=o+1+n from by omega];simpa using this
theorem bZ.take {C r xs}:∀ {o:Nat} (n:Nat),bZ C r xs o→bZ C r (xs.take n) o:=by
 induction xs with
 |nil=>intro o n h;simpa using qh.gJ r o
 |cons x xs ih=>intro o n h;cases h with|df _ _ _ _ v hv hx h=>cases n with
  |zero=>simpa using qh.gJ r o
  |succ n=>exact .df _ _ _ _ _ hv hx (ih n h)
theorem bZ.append {C r xs ys}:∀ {o:Nat},bZ C r xs o→bZ C r ys (o+xs.length)→bZ C r (xs++ys) o:=by
 induction xs with
 |nil=>intro o _ k;simpa using k
 |cons x xs ih=>intro o h k;cases h with|df _ _ _ _ v hv hx h=>exact .df _ _ _ _ _ hv hx (ih h (by simpa[Nat.add_assoc,Nat.add_comm 1]using k))
theorem bg.get {C r sz xs}:∀ {o:Nat},bg C r sz xs o→∀ {i:Nat} {x:qa},xs[i]?=En x→bZ C r x.flat (o+i*sz):=by
 induction xs with
 |nil=>intro o _ i x h;simp at h
 |cons y ys ih=>
  intro o h i x hi
  cases h with
  |cY _ _ _ _ _ hs hx h=>
   cases i with
   |zero=>simp at hi;subst hi;simpa using hx
   |succ i=>simp at hi;have:=ih h hi;rw[show o+(i+1)*sz=o+sz+i*sz from by rw[Gi];omega];exact this
theorem bg.drop {C r sz xs}:∀ {o:Nat} (n:Nat),bg C r sz xs o→bg C r sz (xs.drop n) (o+n*sz):=by
 induction xs with
 |nil=>intro o n h;simpa using qh.fj r sz (o+n*sz)
 |cons x xs ih=>intro o n h;cases h with|cY _ _ _ _ _ hs hx h=>cases n with
  |zero=>simpa using qh.cY _ _ _ _ _ hs hx h
  |succ n=>have:=ih n h;rw[show o+(n+1)*sz=o+sz+n*sz from by rw[Gi];omega];simpa using this
theorem bg.take {C r sz xs}:∀ {o:Nat} (n:Nat),bg C r sz xs o→bg C r sz (xs.take n) o:=by
 induction xs with
 |nil=>intro o n h;simpa using qh.fj r sz o
 |cons x xs ih=>intro o n h;cases h with|cY _ _ _ _ _ hs hx h=>cases n with
  |zero=>simpa using qh.fj r sz o
  |succ n=>exact .cY _ _ _ _ _ hs hx (ih n h)
theorem bg.append {C r sz xs ys}:∀ {o:Nat},bg C r sz xs o→bg C r sz ys (o+xs.length*sz)→bg C r sz (xs++ys) o:=by
 induction xs with
 |nil=>intro o _ k;simpa using k
 |cons x xs ih=>
  intro o h k
  cases h with
  |cY _ _ _ _ _ hs hx h=>
   refine .cY _ _ _ _ _ hs hx (ih h ?_)
   have e:o+sz+xs.length*sz=o+(x::xs).length*sz:=by simp[Gi];omega
   rw[e];exact k
theorem bg.sized {C r sz xs}:∀ {o:Nat},bg C r sz xs o→∀x∈xs,x.flat.length=sz:=by
 induction xs with
 |nil=>intro o _ x hx;cases hx
 |cons y ys ih=>
  intro o h x hx
  cases h with
  |cY _ _ _ _ _ hs _ h=>
   rcases List.mem_cons.1 hx with rfl|hx
   ·exact hs
   ·exact ih h x hx
theorem bg.cells {C r sz xs}:∀ {o:Nat},bg C r sz xs o→bZ C r (xs.flatMap qa.flat) o:=by
 induction xs with
 |nil=>intro o _;exact .gJ _ _
 |cons x xs ih=>
  intro o h
  cases h with
  |cY _ _ _ _ _ hs hx h=>
   simp only[Gk]
   refine bZ.append hx ?_
   rw[hs]
   exact ih h
theorem bg.eo {C r sz xs}:∀ {o:Nat},bZ C r (xs.flatMap qa.flat) o→(∀x∈xs,x.flat.length=sz)→bg C r sz xs o:=by
 induction xs with
 |nil=>intro o _ _;exact .fj _ _ _
 |cons x xs ih=>
  intro o h hl
  simp only[Gk]at h
  have h1:=bZ.take (x.flat.length) h
  have h2:=bZ.drop (x.flat.length) h
  rw[List.take_left' rfl]at h1
  rw[List.drop_left' rfl,hl x (by simp)]at h2
  exact .cY _ _ _ _ _ (hl x (by simp)) h1 (ih h2 fun y hy=>hl y (by simp[hy]))
theorem bZ.vals {C r xs}:∀ {o:Nat},bZ C r xs o→∃vs,aK C xs vs∧∀j v,vs[j]?=En v→C.K r (o+j)=En v:=by
 induction xs with
 |nil=>intro o _;exact⟨[],.nil,by simp⟩
 |cons x xs ih=>
  intro o h
  cases h with
  |df _ _ _ _ v hv hx h=>
   obtain⟨vs,h1,h2⟩:=ih h
   refine⟨v::vs,.cons _ _ _ _ hx h1,?_⟩
   intro j u hj
   cases j with
   |zero=>simp at hj;subst hj;exact hv
   |succ j=>simp at hj;rw[show o+(j+1)=o+1+j from by omega];exact h2 j u hj
inductive Loc where
 |slot (s:Nat)
 |cell (b j:Nat)
 deriving DecidableEq
def ep (sz:Nat)(xs:List qa)(cells:Array Value)(elem:TypeId)(len cap:Nat):Prop:=
 ∀(e:Nat) (l:List UInt8),sz=0→xs=[.int .u64 (e:Int),.str l]→elem=e∧len=l.length∧len≤cap∧cap≤maxLen∧cells.size=cap∧cells.toList.take len=l.map fun b=>Value.int .u8 b.toNat
theorem ep.pos {sz xs cells}{elem:TypeId}{len cap}(h:0<sz):ep sz xs cells elem len cap:=fun _ _ h0=>by omega
theorem ep.sized {sz xs cells}{elem:TypeId}{len cap}(h:∀x∈xs,x.flat.length=sz):ep sz xs cells elem len cap:=fun e l h0 hx=>by
 have:=h (.str l) (by rw[hx];simp)
 simp[qa.flat,h0]at this
def aB (C:aA)(ω:Nat→Option Loc)(w:World)(B:Nat)(ℓ:Loc):qa→Value→Prop
 | .list _ sz xs,.slice (En a) len cap=>ω a.block=En ℓ∧(B≤a.block∨C.W a.block)∧(∀b,C.β b≠En a.block)∧a.spot=I∧a.off=0 ∧
   (∃cells elem,w.heap[a.block]?=En (.cells cells elem (0,0))∧a.off+cap*sz≤cells.size∧ep sz xs cells elem len cap)∧∀o,a.off+len*sz≤o→C.K a.block o=I
 | .cE n,.pointer (En a)=>ω a.block=En ℓ∧(B≤a.block∨C.W a.block)∧(∀b,C.β b≠En a.block)∧a.spot=I∧a.off=0 ∧
   (∃cells elem,w.heap[a.block]?=En (.cells cells elem (0,0))∧a.off+n*1≤cells.size∧ep 0 [] cells elem 0 0)∧∀o,a.off+0*0≤o→C.K a.block o=I
 |_,_=>True
structure Ext (w w':World):Prop where
 size:w.heap.size≤w'.heap.size
 same:∀r,r<w.heap.size→w'.heap[r]?=w.heap[r]?
 os:w'.os=w.os
 output:w'.output=w.output
theorem Ext.refl (w:World):Ext w w:=⟨Gh _,fun _ _=>rfl,rfl,rfl⟩
theorem Ext.get {w w':World}(h:Ext w w'){r:Nat}{o}(hr:w.heap[r]?=En o):w'.heap[r]?=En o:=by
 rw[h.same r (Gc.1 hr).1];exact hr
theorem Ext.trans {a b c}(h:Ext a b)(k:Ext b c):Ext a c where
 size:=Nat.le_trans h.size k.size
 same r hr:=by rw[k.same r (Ge hr h.size),h.same r hr]
 os:=k.os.trans h.os
 output:=k.output.trans h.output
theorem vQ (w:World)(o:Obj)(r:Nat):(w.alloc o).heap[r]?=if r=w.heap.size then En o else w.heap[r]?:=by
 show(w.heap.push o)[r]?=_
 rw[Array.getElem?_push]
theorem Ext.alloc (w:World)(o:Obj)(ho:∀c t fr,o=.cells c t fr→fr=(0,0)):Ext w (w.alloc o) where
 size:=by rw[World.size_alloc];omega
 same r hr:=by rw[vQ,if_neg (by omega)]
 os:=rfl
 output:=rfl
theorem Ext.drew (w:World):Ext w w.drew:=⟨Gh _,fun _ _=>rfl,rfl,rfl⟩
theorem Ext.cell {w w':World}(h:Ext w w'){a:Addr}{v}(hc:w.cell? a=En v):w'.cell? a=En v:=by
 unfold World.cell? at *
 cases hr:w.heap[a.block]? with
 |none=>rw[hr]at hc;cases hc
 |some o=>rw[h.get hr];rw[hr]at hc;exact hc
theorem aB.ext {C:aA}{ω:Nat→Option Loc}{w w' B ℓ x v}(h:Ext w w')(ho:aB C ω w B ℓ x v):aB C ω w' B ℓ x v:=by
 unfold aB at *
 split at ho
 ·obtain⟨h1,h2,h3,h4,h8,⟨cells,elem,h5,h6⟩,h7⟩:=ho
  exact⟨h1,h2,h3,h4,h8,⟨cells,elem,h.get h5,h6⟩,h7⟩
 ·obtain⟨h1,h2,h3,h4,h8,⟨cells,elem,h5,h6⟩,h7⟩:=ho
  exact⟨h1,h2,h3,h4,h8,⟨cells,elem,h.get h5,h6⟩,h7⟩
 ·trivial
inductive qy (C:aA):List (qa×qa)→List MapEntry→Prop where
 |nil:qy C [] []
 |cons (k v:qa) (es:List (qa×qa)) (m:MapEntry) (ms:List MapEntry) (hk:bG C k m.key) (hv:bG C v m.val) (h:qy C es ms):qy C ((k,v)::es) (m::ms)
theorem qy.imp {C C'}(h:(∀r o v,C.K r o=some v→C'.K r o=some v)∧(∀b r,C.β b=some r→C'.β b=some r)){es ms}(hr:qy C es ms)(hT:∀q,C.T q→C'.T q:=by first|exact fun _ h=>h|exact fun _ h=>False.elim h):qy C' es ms:=by
 induction hr with
 |nil=>exact .nil
 |cons k v es m ms hk hv _ ih=>exact .cons k v es m ms (qh.imp h hk hT) (qh.imp h hv hT) ih
theorem qy.mono {C C'}(h:C.le C'){es ms}(hr:qy C es ms):qy C' es ms:=hr.imp ⟨h.k,h.b⟩ h.t
def aX (C:aA)(e:Env)(tmps:Array Value):Prop:=∀s x,yd s e=En x→∃v,tmps[s]?=En v∧bG C x.1 v
def F9 (P:Program)(nt:Nat)(c:Code)(a:qe):Prop:=∃h,gu P h nt c=En a
structure q9 (P:Program)(C:aA)(l:js)(lp:Loop):Prop where
 assign:F9 P lp.tmps.size lp.assign l.assign
 body:F9 P lp.tmps.size lp.body l.body
 params:lp.params.toList=l.params
 fits:∀t∈l.params,t<lp.tmps.size
 nr:kx l.assign=Ep∧kx l.body=Ep
 env:aX C l.env lp.tmps
 state:lp.state=match l.pending with
  |none=>.ready
  |some .normal=>.busy
  |some _=>.done
 pending:lp.pending=match l.pending with
  |none=>I
  |some .normal=>I
  |some (.exit id)=>En (.exit id)
  |some .ret=>En .ret
def dP (K:Nat→Nat→Option Value)(w:World)(q sz:Nat)(xs:List qa)(cap:Nat):Prop:=
 ∃cells t vs,w.heap[q]?=En (.cells cells t (0,0))∧xs.length≤cap∧cap*sz≤cells.size∧(∀x∈xs,x.flat.length=sz)∧aK (.bL K) (xs.flatMap qa.flat) vs ∧
  (∀(j:Nat) v,vs[j]?=En v→cells[j]?=En v)∧∀v∈vs,v.oneCell'=Ep
theorem dP.imp {K K' w w' q sz cap xs}(hK:∀r o v,K r o=En v→K' r o=En v)(hw:w'.heap[q]?=w.heap[q]?)(h:dP K w q sz xs cap):dP K' w' q sz xs cap:=by
 obtain⟨cells,t,vs,h1,h2,h3,h4,h5,h6⟩:=h
 exact⟨cells,t,vs,hw.trans h1,h2,h3,h4,qh.imp (C:=.bL K) (C':=.bL K') ⟨hK,fun _ _ h=>h⟩ h5,h6⟩
abbrev xw (C:aA)(ω:Nat→Option Loc)(w:World)(B b q n cap:Nat):Prop:=aB C ω w B (.cell b 0) (.list Eo 0 []) (.slice (En ⟨q,0,I⟩) n cap)
def dG (C:aA)(ω:Nat→Option Loc)(w:World)(B b r sz bz:Nat)(xs:List qa):Prop:=
 ∃q cap,C.T (r,bz,q,cap)∧(∀x,C.T x→x.1=r→x.2.1≤bz∧(x.2.1=bz→x.2.2=(q,cap)))∧dP C.K w q sz xs cap∧(q=r∨xw C ω w B b q xs.length cap)∧∃cs t,w.heap[r]?=En (.cells cs t (0,0))
theorem dG.imp {C C' ω ω' w w' B B' b r sz bz xs}(hK:∀r o v,C.K r o=En v→C'.K r o=En v)(hT:∀q,C.T q→C'.T q)(Ga:∀x,C'.T x→x.1=r→C.T x)(hw:w'.heap[r]?=w.heap[r]?)
  (hq:∀q n cap,xw C ω w B b q n cap→w'.heap[q]?=w.heap[q]?∧xw C' ω' w' B' b q n cap) (h:dG C ω w B b r sz bz xs):dG C' ω' w' B' b r sz bz xs:=by
 obtain⟨q,cap,h1,h2,h3,h4,cs,t,h5⟩:=h
 refine⟨q,cap,hT _ h1,fun x hx hr=>h2 x (Ga x hx hr) hr,?_,?_,cs,t,hw.trans h5⟩
 ·rcases h4 with rfl|h4
  ·exact h3.imp hK hw
  ·exact h3.imp hK (hq _ _ _ h4).1
 ·exact h4.imp id fun h=>(hq _ _ _ h).2
def bp (P:Program)(C:aA)(ω:Nat→Option Loc)(w:World)(B b r:Nat):qn→Prop
 | .hole=>False
 | .cells cs=>∃vs elem,w.heap[r]?=En (.cells vs elem (0,0))∧cs.length≤vs.size ∧
   ∀j c,cs[j]?=En c→∃v,vs[j]?=En v∧v.oneCell'=Ep∧bG C c.1 v∧(c.2=Ep→aB C ω w B (.cell b j) c.1 v)
 | .map es=>∃bQ clock,w.heap[r]?=En (.map bQ clock)∧qy C es bQ.toList
 | .iter s pos=>w.heap[r]?=En (.stringIter ⟨⟨s⟩⟩ pos)
 | .loop l=>∃lp,w.heap[r]?=En (.loop lp)∧q9 P C l lp
 | .fE t e l=>∃p v,w.heap[r]?=En (.cells #[p,v] t (0,0))∧(p=.pointer I∨p=.pointer (En ⟨r,0,I⟩))∧((v=.slice I 0 0∧l=[])∨∃a len cap,v=.slice (En a) len cap)∧aB C ω w B (.cell b 1) (.list Eo 0 [.int .u64 (e:Int),.str l]) v
 | .dead=>∃cs t,w.heap[r]?=En (.cells cs t (0,0))
 | .vec sz bz xs=>dG C ω w B b r sz bz xs
def nM : String := "internal/strconv.uint64pow10"
def xy : String := "internal/bytealg.MaxLen"
def j2u (P:Program)(w:World)(g:Nat):Prop:=
 (P.globalNamed nM=En g→Lib.TabIs P w nM .u64 Lib.pow10Tab)∧(P.globalNamed xy=En g→∃m,w.cell? ⟨g,0,I⟩=En (.int .i64 m)) ∧
 (∀x∈Ef,P.globalNamed x.1=En g→∀j n,x.2[j]?=En n→w.cell? ⟨g,j,I⟩=En (.int .i64 n))
def TV (P:Program)(g:Nat):Prop:=P.globalNamed nM=En g∨P.globalNamed xy=En g∨∃x∈Ef,P.globalNamed x.1=En g
def Tabs (P:Program)(w:World):Prop:=∀g,TV P g→g<w.heap.size∧j2u P w g
theorem Tabs.same {P w w'}(h:Tabs P w)(hs:w.heap.size≤w'.heap.size)(hg:∀g,TV P g→w'.heap[g]?=w.heap[g]?):Tabs P w':=by
 intro g hn
 obtain⟨h1,h2,h3,h5⟩:=h g hn
 refine⟨Ge h1 hs,fun Ek=>?_,fun Ek=>?_,fun x hx Ek j n hj=>?_⟩
 ·have h2:=h2 Ek
  unfold Lib.TabIs World.var? at *
  rw[Ek]at h2 ⊢
  simp only[Option.bind_some]at h2 ⊢
  rw[hg g hn]
  exact h2
 ·obtain⟨m,h4⟩:=h3 Ek
  refine⟨m,?_⟩
  unfold World.cell? at *
  simp only[]at h4 ⊢
  rw[hg g hn]
  exact h4
 ·have h4:=h5 x hx Ek j n hj
  unfold World.cell? at *
  simp only[]at h4 ⊢
  rw[hg g hn]
  exact h4
theorem Tabs.none {P w}(h:P.globalNamed nM=I∧P.globalNamed xy=I∧∀x∈Ef,P.globalNamed x.1=I):Tabs P w:=fun g hn=>by
 rcases hn with hn|hn|⟨x,hx,hn⟩
 ·rw[h.1]at hn;cases hn
 ·rw[h.2.1]at hn;cases hn
 ·rw[h.2.2 x hx]at hn;cases hn
def zen (P:Program)(w0:World)(C0:aA):Prop:=Tabs P w0∧∀g,TV P g→(∀b,C0.β b≠En g)∧¬C0.W g
structure av (P:Program)(C:aA)(ω:Nat→Option Loc)(w0:World)(C0:aA)(h:za)(w:World):Prop where
 base:zen P w0 C0
 know:∀r o v,C.K r o=En v→w.cell? ⟨r,o,I⟩=En v
 cP:∀r o v,C.K r o=En v→v.oneCell'=Ep
 apart:∀b r o,C.β b=En r→C.K r o=I
 inj:∀b b' r,C.β b=En r→C.β b'=En r→b=b'
 lt:∀b r,C.β b=En r→r<w.heap.size∧b<h.length
 size:w0.heap.size≤w.heap.size
 frame:∀r,r<w0.heap.size→(∀b,C0.β b≠En r)→¬C0.W r→w.heap[r]?=w0.heap[r]?
 eQ:∀r,C.D r→w.heap[r]?=En (.deferred (En []))
 os:w.os=w0.os
 output:w.output=w0.output
 fresh:∀b r,C.β b=En r→C0.β b=En r∨w0.heap.size≤r∨C0.W r
 grown:C0.le C
 old:∀r o,r<w0.heap.size→¬C0.W r→C.K r o=C0.K r o
 box:∀b x r,h[b]?=En x→C.β b=En r→bp P C ω w w0.heap.size b r x
 gW:∀q,C.T q→q.1<w.heap.size
def ak (C:aA)(ω:Nat→Option Loc)(w:World)(B:Nat)(e:Env)(tmps:Array Value):Prop:=
 ∀s x,yd s e=En x→∃v,tmps[s]?=En v∧bG C x.1 v∧(x.2=Ep→aB C ω w B (.slot s) x.1 v)
theorem ak.bU {C ω w B e tmps}(h:ak C ω w B e tmps):aX C e tmps:=
 fun s x hx=>let ⟨v,h1,h2,_⟩:=h s x hx; ⟨v,h1,h2⟩
theorem bp.ext {P:Program}{C:aA}{ω w w' B b r x}(h:Ext w w')(hb:bp P C ω w B b r x):bp P C ω w' B b r x:=by
 cases x with
 |hole=>exact hb
 |cells cs=>
  obtain⟨vs,elem,h1,h2,h3⟩:=hb
  exact⟨vs,elem,h.get h1,h2,fun j c hc=>let ⟨v,a,q,b,d⟩:=h3 j c hc; ⟨v,a,q,b,fun e=>(d e).ext h⟩⟩
 |map es=>obtain⟨bQ,clock,h1,h2⟩:=hb;exact⟨bQ,clock,h.get h1,h2⟩
 |iter s pos=>exact h.get hb
 |loop l=>obtain⟨lp,h1,h2⟩:=hb;exact⟨lp,h.get h1,h2⟩
 |fE t e l=>obtain⟨p,v,h1,h2,h3,h4⟩:=hb;exact⟨p,v,h.get h1,h2,h3,h4.ext h⟩
 |dead=>obtain⟨cs,t,h1⟩:=hb;exact⟨cs,t,h.get h1⟩
 |vec sz bz xs=>
  obtain⟨q,cap,h1,h2,h3,h4,cs,t,h5⟩:=hb
  have hex:∀ {k:Nat} {o:Obj},w.heap[k]?=En o→w'.heap[k]?=w.heap[k]?:=fun hk=>by rw[h.get hk,hk]
  refine⟨q,cap,h1,h2,h3.imp (fun _ _ _ h=>h) ?_,h4.imp id fun h4=>h4.ext h,cs,t,h.get h5⟩
  obtain⟨cells,t',_,g1,_⟩:=h3
  exact hex g1
theorem av.tabs {P C ω w0 w C0 hp}(m:av P C ω w0 C0 hp w):Tabs P w:=
 m.base.1.same m.size fun g hg=>m.frame g (m.base.1 g hg).1 (m.base.2 g hg).1 (m.base.2 g hg).2
theorem av.ext {P:Program}{C:aA}{ω w0 w w' C0 hp}(h:Ext w w')(m:av P C ω w0 C0 hp w):av P C ω w0 C0 hp w' where
 base:=m.base
 know r o v hk:=h.cell (m.know r o v hk)
 cP:=m.cP
 apart:=m.apart
 inj:=m.inj
 lt b r hb:=⟨Ge (m.lt b r hb).1 h.size,(m.lt b r hb).2⟩
 size:=Nat.le_trans m.size h.size
 frame r hr hn hw:=by rw[h.same r (Ge hr m.size)];exact m.frame r hr hn hw
 eQ r hr:=h.get (m.eQ r hr)
 os:=h.os.trans m.os
 output:=h.output.trans m.output
 fresh:=m.fresh
 grown:=m.grown
 old:=m.old
 box b x r hx hb:=(m.box b x r hx hb).ext h
 gW q hq:=Ge (m.gW q hq) h.size
theorem ak.ext {C ω w w' B e tmps}(h:Ext w w')(he:ak C ω w B e tmps):ak C ω w' B e tmps:=
 fun s x hx=>let ⟨v,a,b,d⟩:=he s x hx; ⟨v,a,b,fun e=>(d e).ext h⟩
def aA.put (C:aA)(r off:Nat)(vs:List Value):aA:={ C with K:=fun b o=>if b=r∧off≤o∧o<off+vs.length then vs[o-off]? else C.K b o }
theorem aA.fY {C:aA}{r off}(vs:List Value)(h:∀o,off≤o→C.K r o=I):C.le (C.put r off vs):=
 ⟨fun b o v hk=>(by
  simp only[aA.put]
  rw[if_neg]
  ·exact hk
  ·rintro ⟨rfl,h1,_⟩;rw[h o h1]at hk;cases hk),fun _ _ h=>h,rfl,fun _ h=>h,fun _ h=>h⟩
theorem aA.Af {C:aA}{r off vs j v}(h:vs[j]?=En v):(C.put r off vs).K r (off+j)=En v:=by
 have hj:j<vs.length:=(List.getElem?_eq_some_iff.1 h).1
 show(if r=r∧off≤off+j∧off+j<off+vs.length then vs[off+j-off]? else C.K r (off+j))=En v
 rw[if_pos ⟨rfl,by omega,by omega⟩,show off+j-off=j from by omega,h]
theorem bZ.gX {C r xs}:∀ {vs:List Value} {o:Nat},aK C xs vs→(∀j v,vs[j]?=En v→C.K r (o+j)=En v)→bZ C r xs o:=by
 induction xs with
 |nil=>intro vs o _ _;exact .gJ _ _
 |cons x xs ih=>
  intro vs o h hk
  cases h with
  |cons _ _ v vs hx h=>
   refine .df _ _ _ _ v (by simpa using hk 0 v rfl) hx (ih h ?_)
   intro j u hj
   rw[show o+1+j=o+(j+1)from by omega]
   exact hk (j+1) u (by simpa using hj)
theorem aA.eJ {C:aA}{r off xs vs}(hn:∀o,off≤o→C.K r o=I)(h:aK C xs vs):bZ (C.put r off vs) r xs off:=
 bZ.gX (qh.mono (aA.fY vs hn) h) fun _ _ hj=>aA.Af hj
theorem av.jK {P C ω w0 w C0 hp}(m:av P C ω w0 C0 hp w)(r:Nat)(hr:w.heap.size≤r)(o:Nat):C.K r o=I:=by
 cases h:C.K r o with
 |none=>rfl
 |some v=>
  have:=m.know r o v h
  unfold World.cell? at this
  rw[show w.heap[(⟨r,o,I⟩:Addr).block]?=I from Array.getElem?_eq_none hr]at this
  cases this
theorem aB.put {C ω w B r off ℓ x v}(vs:List Value)(hr:w.heap.size≤r∨ω r≠En ℓ)(ho:aB C ω w B ℓ x v):aB (C.put r off vs) ω w B ℓ x v:=by
 unfold aB at *
 split at ho
 ·rename_i a len cap
  obtain⟨h1,h2,h3,h4,h8,⟨cells,elem,h5,h6⟩,h7⟩:=ho
  have bh:a.block<w.heap.size:=(Gc.1 h5).1
  refine⟨h1,h2,h3,h4,h8,⟨cells,elem,h5,h6⟩,fun o ho=>?_⟩
  simp only[aA.put]
  rw[if_neg]
  ·exact h7 o ho
  ·rintro ⟨rfl,_⟩
   rcases hr with hr|hr
   ·omega
   ·exact hr h1
 ·rename_i a
  obtain⟨h1,h2,h3,h4,h8,⟨cells,elem,h5,h6⟩,h7⟩:=ho
  have bh:a.block<w.heap.size:=(Gc.1 h5).1
  refine⟨h1,h2,h3,h4,h8,⟨cells,elem,h5,h6⟩,fun o ho=>?_⟩
  simp only[aA.put]
  rw[if_neg]
  ·exact h7 o ho
  ·rintro ⟨rfl,_⟩
   rcases hr with hr|hr
   ·omega
   ·exact hr h1
 ·trivial
theorem q9.imp {P C C'}(h:(∀r o v,C.K r o=some v→C'.K r o=some v)∧(∀b r,C.β b=some r→C'.β b=some r)){l lp}(k:q9 P C l lp)(hT:∀q,C.T q→C'.T q:=by first|exact fun _ h=>h|exact fun _ h=>False.elim h):q9 P C' l lp:=
 { k with env:=fun s x hx=>let ⟨v,a,b⟩:=k.env s x hx; ⟨v,a,qh.imp h b hT⟩ }
theorem q9.mono {P C C'}(h:C.le C'){l lp}(k:q9 P C l lp):q9 P C' l lp:=k.imp ⟨h.k,h.b⟩ h.t
theorem bp.imp {P C C' ω ω' w w' B B' b r x}(h:(∀r o v,C.K r o=En v→C'.K r o=En v)∧(∀b r,C.β b=En r→C'.β b=En r))(hw:w'.heap[r]?=w.heap[r]?)
  (ho:∀j y v,aB C ω w B (.cell b j) y v→aB C' ω' w' B' (.cell b j) y v) (hb:bp P C ω w B b r x) (hT:∀q,C.T q→C'.T q:=by exact fun _ h=>h) (Ga:∀x,C'.T x→x.1=r→C.T x:=by exact fun _ h _=>h)
  (hq:∀q n cap,xw C ω w B b q n cap→w'.heap[q]?=w.heap[q]?:=by exact fun _ _ _ _=>rfl):bp P C' ω' w' B' b r x:=by
 cases x with
 |hole=>exact hb
 |cells cs=>
  obtain⟨vs,elem,h1,h2,h3⟩:=hb
  exact⟨vs,elem,hw.trans h1,h2,fun j c hc=>let ⟨v,a,q,b,d⟩:=h3 j c hc; ⟨v,a,q,qh.imp h b hT,fun e=>ho _ _ _ (d e)⟩⟩
 |map es=>obtain⟨bQ,clock,h1,h2⟩:=hb;exact⟨bQ,clock,hw.trans h1,h2.imp h hT⟩
 |iter s pos=>exact hw.trans hb
 |loop l=>obtain⟨lp,h1,h2⟩:=hb;exact⟨lp,hw.trans h1,h2.imp h hT⟩
 |fE t e l=>obtain⟨p,v,h1,h2,h3,h4⟩:=hb;exact⟨p,v,hw.trans h1,h2,h3,ho _ _ _ h4⟩
 |dead=>obtain⟨cs,t,h1⟩:=hb;exact⟨cs,t,hw.trans h1⟩
 |vec sz bz xs=>exact dG.imp h.1 hT Ga hw (fun q n cap k=>⟨hq q n cap k,ho _ _ _ k⟩) hb
theorem bp.mono {P C C' ω ω' w B b r x}(h:C.le C')
  (ho:∀j y v,aB C ω w B (.cell b j) y v→aB C' ω' w B (.cell b j) y v) (hb:bp P C ω w B b r x) (Ga:∀x,C'.T x→x.1=r→C.T x:=by exact fun _ h _=>h):bp P C' ω' w B b r x:=hb.imp ⟨h.k,h.b⟩ rfl ho h.t Ga
theorem av.newRow {P:Program}{C ω w0 w C0 hp}(m:av P C ω w0 C0 hp w)(cells:Array Value)(t:TypeId)(vs:List Value)
  (hv:∀(j:Nat) v,vs[j]?=En v→cells[j]?=En v) (h1:∀v∈vs,v.oneCell'=Ep):
  av P (C.put w.heap.size 0 vs) ω w0 C0 hp (w.alloc (.cells cells t)):=by
 have hx:Ext w (w.alloc (.cells cells t)):=Ext.alloc w _ (fun c t fr h=>by cases h;rfl)
 have m':=m.ext hx
 have hn:∀o,C.K w.heap.size o=I:=m.jK _ (Gh _)
 have hle:=aA.fY (C:=C) (off:=0) vs (fun o _=>hn o)
 refine { m' with know:=?_,cP:=?_,apart:=?_,grown:=aA.le_trans m.grown hle,old:=?_,box:=?_ }
 ·intro r o v hk
  simp only[aA.put]at hk
  split at hk
  ·rename_i hc
   obtain⟨rfl,_,_⟩:=hc
   simp only[World.cell?]
   rw[vQ,if_pos rfl]
   simpa using hv _ _ hk
  ·exact m'.know r o v hk
 ·intro r o v hk
  simp only[aA.put]at hk
  split at hk
  ·exact h1 v (List.mem_of_getElem? hk)
  ·exact m.cP r o v hk
 ·intro b r o hb
  have:=(m.lt b r hb).1
  simp only[aA.put]
  rw[if_neg (by omega)]
  exact m.apart b r o hb
 ·intro r o hr hw
  have:=m.size
  simp only[aA.put]
  rw[if_neg (by omega)]
  exact m.old r o hr hw
 ·intro b x r eK hb
  exact((m.box b x r eK hb).mono (ω':=ω) hle fun j y v ho=>ho.put vs (.inl (Gh _))).ext hx
theorem ak.put {C:aA}{ω w B e tmps r off}(vs:List Value)(hr:w.heap.size≤r∨∀s,yd s e≠I→(yd s e).any (·.2)=Ep→ω r≠En (.slot s))(hn:∀o,off≤o→C.K r o=I)(he:ak C ω w B e tmps):ak (C.put r off vs) ω w B e tmps:=
 fun s x hx=>let ⟨v,a,b,d⟩:=he s x hx; ⟨v,a,qh.mono (aA.fY vs hn) b,fun e=>(d e).put vs (hr.imp id fun h=>h s (by rw[hx];simp) (by rw[hx];exact e))⟩
def cr (ω:Nat→Option Loc)(r:Nat)(ℓ:Loc):Nat→Option Loc:=fun b=>if b=r then En ℓ else ω b
theorem aB.other {C ω w B r ℓ ℓ' x v}(hr:ω r≠En ℓ∨ℓ=ℓ')(ho:aB C ω w B ℓ x v):aB C (Abs.cr ω r ℓ') w B ℓ x v:=by
 unfold aB at *
 split at ho
 ·rename_i a len cap
  obtain⟨h1,h2⟩:=ho
  refine⟨?_,h2⟩
  simp only[Abs.cr]
  by_cases hb:a.block=r
  ·rw[if_pos hb]
   rcases hr with hr|hr
   ·exact absurd (hb▸h1) hr
   ·rw[hr]
  ·rw[if_neg hb];exact h1
 ·rename_i a
  obtain⟨h1,h2⟩:=ho
  refine⟨?_,h2⟩
  simp only[Abs.cr]
  by_cases hb:a.block=r
  ·rw[if_pos hb]
   rcases hr with hr|hr
   ·exact absurd (hb▸h1) hr
   ·rw[hr]
  ·rw[if_neg hb];exact h1
 ·trivial
theorem aB.fresh {C ω w B r ℓ ℓ' x v}(hr:w.heap.size≤r)(ho:aB C ω w B ℓ x v):aB C (Abs.cr ω r ℓ') w B ℓ x v:=by
 unfold aB at *
 split at ho
 ·rename_i a len cap
  obtain⟨h1,h2,h3,h4,h8,⟨cells,elem,h5,h6⟩,h7⟩:=ho
  have bh:a.block<w.heap.size:=(Gc.1 h5).1
  refine⟨?_,h2,h3,h4,h8,⟨cells,elem,h5,h6⟩,h7⟩
  simp only[Abs.cr]
  rw[if_neg (by omega)]
  exact h1
 ·rename_i a
  obtain⟨h1,h2,h3,h4,h8,⟨cells,elem,h5,h6⟩,h7⟩:=ho
  have bh:a.block<w.heap.size:=(Gc.1 h5).1
  refine⟨?_,h2,h3,h4,h8,⟨cells,elem,h5,h6⟩,h7⟩
  simp only[Abs.cr]
  rw[if_neg (by omega)]
  exact h1
 ·trivial
theorem ak.fresh {C ω w B r ℓ e tmps}(hr:w.heap.size≤r)(he:ak C ω w B e tmps):ak C (Abs.cr ω r ℓ) w B e tmps:=
 fun s x hx=>let ⟨v,a,b,d⟩:=he s x hx; ⟨v,a,b,fun e=>(d e).fresh hr⟩
theorem av.ke {P C ω w0 w C0 hp}(m:av P C ω w0 C0 hp w)(r:Nat)(ℓ:Loc)(hr:w.heap.size≤r):av P C (Abs.cr ω r ℓ) w0 C0 hp w:=
 { m with box:=fun b x r' hx hb=>(m.box b x r' hx hb).mono (aA.le_refl C) fun _ _ _ ho=>ho.fresh hr }
theorem av.cr {P C ω w0 w C0 hp}(m:av P C ω w0 C0 hp w)(r:Nat)(ℓ:Loc)(hr:∀b j,ω r≠En (.cell b j)):av P C (Abs.cr ω r ℓ) w0 C0 hp w:=
 { m with box:=fun b x r' hx hb=>(m.box b x r' hx hb).mono (aA.le_refl C) fun j _ _ ho=>ho.other (.inl (hr b j)) }
end Go.Abs
