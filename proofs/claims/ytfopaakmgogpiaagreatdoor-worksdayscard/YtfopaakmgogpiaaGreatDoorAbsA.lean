/- The abstract machine. -/
import Derived.CallsIn
import Derived.Deep.AppendSrc
import Derived.Lib.LaidTab
import Derived.Lib.ItoaNum
open Option renaming none→I,some→En
open Bool renaming false→E1,true→E2,xor→G2
open Nat renaming beq→E3,ble→E4,blt→E6,lt_of_lt_of_le→Gl,le_refl→Gn,succ_mul→Gp
open Array renaming getElem?_eq_some_iff→Gk
open List renaming replicate→Gm,flatMap_cons→Gq
namespace Go.Abs
theorem cT.{u} {α:Sort u}(a b:α):cond E2 a b=a:=rfl
theorem cF.{u} {α:Sort u}(a b:α):cond E1 a b=b:=rfl
theorem dT {p:Prop}[Decidable p](h:p):decide p=E2:=decide_eq_true h
theorem dF {p:Prop}[Decidable p](h:¬p):decide p=E1:=decide_eq_false h
inductive qa where
 |bool (b:Bool)
 |int (k:IntKind) (n:Int)
 |str (s:List UInt8)
 |list (isNil:Bool) (sz:Nat) (xs:List qa)
 |ms (b off len:Nat)
 |ptr (b off:Nat)
 |ah (v:qa)
 |bN
 |map (b:Nat)
 |bM
 |fn (f:Fn) (first captured:List qa)
 |bX
 |agg (cs:List qa)
 |aC (vs:List qa)
 |undef
 |any
 |cE (n:Nat)
 |ak (b bu len:Nat)
 |dq (b bu off:Nat)
 deriving Inhabited
inductive qh where
 |tmp (t:Nat)
 |const (v:qa)
 deriving Inhabited
inductive Kd where
 |int|str|bool
 deriving DecidableEq,Inhabited
inductive jd where
 |bK|fa (r:Nat)|shr|red
 deriving DecidableEq,Inhabited
inductive qw where
 |move (x:qh)
 |take (s:Nat)
 |pick (c a b:qh)
 |alloc (r:Nat) (zero:List qa)
 |box (r n:Nat) (x:qh)
 |nP (n:Nat) (x:qh)
 |fR (n:Nat)
 |dr (n s:Nat) (x:qh)
 |fB (r t e:Nat)
 |build (zero:List qa) (parts:List (Nat×Nat×qh))
 |buildSlice (sz len:Nat) (zero:List qa) (parts:List (Nat×qh))
 |load (agg:Bool) (n:Nat) (x:qh)
 |eN (agg:Bool) (n:Nat) (x:qh)
 |b6 (off:Option Nat) (x:qh)
 |store (n:Nat) (a v:qh)
 |nilCheck (x:qh)
 |bin (op:BinOp) (x y:qh)
 |eqs (ks:List Kd) (neq:Bool) (x y:qh)
 |beq (neq:Bool) (x y:qh)
 |eO (k:Nat) (neq:Bool) (x:qh)
 |un (op:UnOp) (x:qh)
 |conv (k:IntKind) (x:qh)
 |eE (x:qh)
 |field (agg:Bool) (off n:Nat) (x:qh)
 |index (agg:Bool) (len n:Nat) (x i:qh)
 |dI (x i:qh)
 |fieldAddr (agg:Bool) (off n:Nat) (x:qh)
 |indexAddr (sz:Nat) (x i:qh)
 |dJ (agg:Bool) (len sz:Nat) (x i:qh)
 |slice (sz:Nat) (x:qh) (lo hi:Option qh)
 |eh (x:qh) (lo hi:Option qh)
 |ei (len sz:Nat) (x:qh) (lo hi:Option qh)
 |fS (f:Fn) (first captured:List qh)
 |dK (r:Nat)
 |lookup (kd:Kd) (zero:qa) (ok:Bool) (m k:qh)
 |mapUpdate (kd:Kd) (m k v:qh)
 |delete (kd:Kd) (m k:qh)
 |bV (r:Option Nat) (sz bytes:Nat) (zero:List qa) (n c:qh)
 |len (k:Nat) (x:qh)
 |append (r:Option Nat) (sz bytes:Nat) (x y:qh)
 |gG (r sz bytes:Nat) (x y:qh)
 |hO (r sz len:Nat) (zero:List qa) (parts:List (Nat×qh))
 |copy (sz:Nat) (x y:qh)
 |mx (args:List qh)
 |mn (args:List qh)
 |extract (x:qh) (i:Nat)
 |call (md:jd) (f:qh) (args:List qh)
 |cZ (r:Nat) (x:qh)
 |eP (it:qh)
 |bad
 deriving Inhabited
structure qv where
 dst:Option Nat
 op:qw
 guard:Option (Nat×Bool)
 al:Option (List Nat)
 deriving Inhabited
inductive qf where
 |skip
 |region (na:Nat) (ops:List qv) (keep:Option (List Nat))
 |seq (a b:qf)
 |cond (c:qh) (a b:qf)
 |block (id:Nat) (body:qf)
 |loop (body:qf)
 |rangeFunc (f:qh) (params:List Nat) (assign body:qf)
 |exit (id:Nat)
 |ret
 |grow (sz:Nat)
 |stuck
 deriving Inhabited
abbrev Env:=List (Nat×qa×Bool)
inductive qo where
 |normal
 |exit (id:Nat)
 |ret
 deriving DecidableEq,Inhabited
structure jp where
 env:Env
 params:List Nat
 assign:qf
 body:qf
 pending:Option qo
 deriving Inhabited
def kn:qf→Bool
 | .seq a b=>kn a&&kn b
 | .cond _ a b=>kn a&&kn b
 | .block _ b=>kn b
 | .loop b=>kn b
 | .rangeFunc ..=>E1
 |_=>E2
def eQ (e:Env):Env:=e.map fun x=>(x.1,x.2.1,E1)
inductive qn where
 |hole
 |cells (cs:List (qa×Bool))
 |map (es:List (qa×qa))
 |iter (s:List UInt8) (pos:Nat)
 |loop (l:jp)
 |fB (t e:Nat) (l:List UInt8)
 |dead
 |vec (sz bu:Nat) (xs:List qa)
 deriving Inhabited
abbrev j8:=List qn
structure qg where
 env:Env
 heap:j8
 deriving Inhabited
inductive ja where
 |tmp (t:Nat)
 |cell (t:Nat) (agg:Bool) (n:Nat)
 deriving Inhabited
structure qd where
 ntmps:Nat
 body:qf
 results:List ja
 deriving Inhabited
abbrev uX:=Nat→Option (List qa→Option (qa×Bool))
abbrev jck:=Nat→Option (List qa→j8→Option (qa×Bool×j8))
abbrev LX:=Nat→Option (List (qa×qa))
structure qt where
 bL:Nat→Option qd
 cm:uX
 di:jck:=fun _=>I
 maps:LX:=fun _=>I
def yd (t:Nat):Env→Option (qa×Bool)
 | []=>I
 |(s,x)::e=>bif E3 s t then En x else yd t e
def zd (e:Env):qh→Option qa
 | .tmp t=>match yd t e with
  |some x=>En x.1
  |none=>I
 | .const v=>En v
def fC (e:Env):List qh→Option (List qa)
 | []=>En []
 |x::xs=>match zd e x with
  |some v=>match fC e xs with
   |some vs=>En (v::vs)
   |none=>I
  |none=>I
def pq (e:Env):List Nat→Env
 | []=>[]
 |t::ts=>match yd t e with
  |some x=>(t,x)::pq e ts
  |none=>pq e ts
def pv:IntKind→Int→Bool
 | .i64,.ofNat m=>E4 m 9223372036854775807
 | .i64,.negSucc m=>E4 m 9223372036854775807
 | .i32,.ofNat m=>E4 m 2147483647
 | .i32,.negSucc m=>E4 m 2147483647
 | .i16,.ofNat m=>E4 m 32767
 | .i16,.negSucc m=>E4 m 32767
 | .i8,.ofNat m=>E4 m 127
 | .i8,.negSucc m=>E4 m 127
 | .u64,.ofNat m=>E4 m 18446744073709551615
 | .u32,.ofNat m=>E4 m 4294967295
 | .u16,.ofNat m=>E4 m 65535
 | .u8,.ofNat m=>E4 m 255
 |_,.negSucc _=>E1
def j9 (k:IntKind)(n:Int):Int:=bif pv k n then n else k.wrap n
def qa.flat:qa→List qa
 | .agg cs=>cs
 |v=>[v]
def qa.isAgg:qa→Bool
 | .agg _=>E2
 |_=>E1
def qa.cu:qa→Bool
 | .list ..=>E2
 |_=>E1
def kN:Kd→qa→qa→Option Bool
 | .int,.int k a,.int k' b=>bif decide (k=k')then En (a == b)else I
 | .str,.str a,.str b=>En (a == b)
 | .bool,.bool a,.bool b=>En (a == b)
 |_,_,_=>I
def kz:List Kd→List qa→List qa→Option Bool
 | [],[],[]=>En E2
 |k::ks,x::xs,y::ys=>match kN k x y with
  |some E2=>kz ks xs ys
  |some E1=>En E1
  |none=>I
 |_,_,_=>I
def part (agg:Bool)(cs:List qa)(off n:Nat):Option qa:=
 bif agg then(bif E4 (off+n) cs.length then En (.agg ((cs.drop off).take n))else I)else cs[off]?
def bytesLess:List UInt8→List UInt8→Bool
 |_,[]=>E1
 | [],_::_=>E2
 |a::x,b::y=>a<b||(a == b&&bytesLess x y)
def nQ (op:BinOp)(k:IntKind)(x y:Int):Option qa:=
 match op with
 | .add=>En (.int k (j9 k (x+y)))
 | .sub=>En (.int k (j9 k (x-y)))
 | .mul=>En (.int k (j9 k (x*y)))
 | .quo=>bif y == 0 then I else En (.int k (j9 k (x.tdiv y)))
 | .rem=>bif y == 0 then I else En (.int k (x.tmod y))
 | .eql=>En (.bool (x == y))
 | .neq=>En (.bool (x != y))
 | .lss=>En (.bool (decide (x<y)))
 | .leq=>En (.bool (decide (x≤y)))
 | .gtr=>En (.bool (decide (x > y)))
 | .geq=>En (.bool (decide (x≥y)))
 | .and=>En (.int k (k.wrap (BitVec.ofInt k.bits x &&& BitVec.ofInt k.bits y).toNat))
 | .or=>En (.int k (k.wrap (BitVec.ofInt k.bits x ||| BitVec.ofInt k.bits y).toNat))
 | .xor=>En (.int k (k.wrap (BitVec.ofInt k.bits x ^^^ BitVec.ofInt k.bits y).toNat))
 | .andNot=>En (.int k (k.wrap (BitVec.ofInt k.bits x &&& ~~~BitVec.ofInt k.bits y).toNat))
 |_=>I
def LY (op:BinOp)(k:IntKind)(x y:Int):Option qa:=
 bif decide (y<0)then I else
 match op with
 | .shl=>En (.int k (j9 k (x*2^(min y.toNat k.bits))))
 | .shr=>En (.int k (x.fdiv (2^(min y.toNat k.bits))))
 |_=>I
def Ez (op:BinOp)(x y:List UInt8):Option qa:=
 match op with
 | .add=>bif E4 (x.length+y.length) 4611686018427387904 then En (.str (x++y))else I
 | .eql=>En (.bool (x == y))
 | .neq=>En (.bool !(x == y))
 | .lss=>En (.bool (bytesLess x y))
 | .leq=>En (.bool (bytesLess x y||x == y))
 | .gtr=>En (.bool !(bytesLess x y||x == y))
 | .geq=>En (.bool !(bytesLess x y))
 |_=>I
def fo (op:BinOp):qa→qa→Option qa
 | .int k x,.int k' y=>match op with
  | .shl=>LY .shl k x y
  | .shr=>LY .shr k x y
  |op=>bif decide (k=k')then nQ op k x y else I
 | .str x,.str y=>Ez op x y
 |_,_=>I
def wv:UnOp→qa→Option qa
 | .neg,.int k n=>En (.int k (j9 k (0-n)))
 | .not,.bool b=>En (.bool !b)
 |_,_=>I
def max2:qa→qa→Option qa
 | .int k x,.int k' y=>bif decide (k=k')then En (.int k (if y > x then y else x))else I
 |_,_=>I
def min2:qa→qa→Option qa
 | .int k x,.int k' y=>bif decide (k=k')then En (.int k (if y<x then y else x))else I
 |_,_=>I
def nh (f:qa→qa→Option qa):qa→List qa→Option qa
 |x,[]=>En x
 |x,y::ys=>match f x y with
  |some z=>nh f z ys
  |none=>I
def iU:List qa→List (Nat×List qa)→Option (List qa)
 |cs,[]=>En cs
 |cs,(off,vs)::rest=>bif E4 (off+vs.length) cs.length then iU (cs.take off++vs++cs.drop (off+vs.length)) rest else I
def ze:qa→Bool
 | .agg _=>E1
 | .aC _=>E1
 | .undef=>E1
 | .any=>E1
 |_=>E2
def kP (e:Env):List (Nat×Nat×qh)→Option (List (Nat×List qa))
 | []=>En []
 |(off,n,x)::ps=>match zd e x with
  |some v=>bif E3 v.flat.length n&&v.flat.all ze then
    (match kP e ps with
     |some r=>En ((off,v.flat)::r)
     |none=>I)else I
  |none=>I
def kQ (xs:List qa):List (Nat×qa)→Option (List qa)
 | []=>En xs
 |(i,v)::ps=>bif E6 i xs.length then kQ (xs.set i v) ps else I
def iA (e:Env)(sz:Nat):List (Nat×qh)→Option (List (Nat×qa))
 | []=>En []
 |(i,x)::ps=>match zd e x with
  |some v=>bif E3 v.flat.length sz&&v.flat.all ze then
   (match iA e sz ps with
    |some r=>En ((i,v)::r)
    |none=>I)else I
  |none=>I
def jtx (zero:List qa)(agg:Bool):Option qa:=
 bif agg then En (.agg zero)else match zero with
  | [z]=>En z
  |_=>I
def y5 (h:j8)(b:Nat):Option qn:=h[b]?
def yl (h:j8)(b:Nat):Option (List (qa×Bool)):=
 match h[b]? with
 |some (.cells cs)=>En cs
 |_=>I
def y9 (cs:List (qa×Bool))(off n:Nat):Option (List qa):=
 bif E4 (off+n) cs.length then En (((cs.drop off).take n).map (·.1))else I
def yi (cs:List (qa×Bool))(off:Nat)(vs:List qa):Option (List (qa×Bool)):=
 bif E4 (off+vs.length) cs.length&&vs.all ze then En (cs.take off++vs.map (·,E1)++cs.drop (off+vs.length))else I
mutual
def below (n:Nat):qa→Bool
 | .ms b _ _=>E6 b n
 | .ptr b _=>E6 b n
 | .map b=>E6 b n
 | .ak b _ _=>E6 b n
 | .dq b _ _=>E6 b n
 | .ah v=>below n v
 | .list _ _ xs=>zw n xs
 | .agg cs=>zw n cs
 | .aC vs=>zw n vs
 | .fn (.yield b) first captured=>E6 b n&&zw n first&&zw n captured
 | .fn _ first captured=>zw n first&&zw n captured
 |_=>E2
def zw (n:Nat):List qa→Bool
 | []=>E2
 |x::xs=>below n x&&zw n xs
end
def l6 (n:Nat):Env→Bool
 | []=>E2
 |(_,v,_)::e=>below n v&&l6 n e
def oF (n:Nat):List (qa×Bool)→Bool
 | []=>E2
 |(v,_)::e=>below n v&&oF n e
def tQ (n:Nat):List (qa×qa)→Bool
 | []=>E2
 |(k,v)::e=>below n k&&below n v&&tQ n e
def oG (n:Nat):qn→Bool
 | .hole=>E2
 | .cells cs=>oF n cs
 | .map es=>tQ n es
 | .iter _ _=>E2
 | .fB ..=>E2
 | .dead=>E2
 | .vec ..=>E2
 | .loop l=>l6 n l.env
def kh (n:Nat):j8→Bool
 | []=>E2
 |b::h=>oG n b&&kh n h
def gc (n:Nat)(st:qg):qg:=
 bif E4 st.heap.length n then st
 else bif l6 n st.env&&kh n (st.heap.take n)then { st with heap:=st.heap.take n }else st
def lM (v:qa):Bool:=below 0 v
def q5p (agg:Bool)(sz:Nat):Nat→List qa→Option (List qa)
 |0,_=>En []
 |n+1,cs=>bif E4 sz cs.length then
   (match jtx (cs.take sz) agg with
    |some v=>(match q5p agg sz n (cs.drop sz)with
     |some r=>En (v::r)
     |none=>I)
    |none=>I)else I
def lN (sz:Nat):Nat→List qa→List qa
 |0,_=>[]
 |n+1,cs=>(bif E3 sz 1 then cs.headD .undef else .agg (cs.take sz))::lN sz n (cs.drop sz)
def LZ:qa→Bool
 | .str _=>E2
 | .list ..=>E2
 |_=>E1
def CU (off len:Nat)(cs:List (qa×Bool)):Bool:=E3 off 0&&E6 1 (cs.length / len)&&E3 (len*(cs.length / len)) cs.length&&cs.any (fun c=>LZ c.1)
def fT (h:j8):qa→Option qa
 | .ms b off len=>match yl h b with
  |some cs=>bif CU off len cs then En (.list E1 (cs.length / len) (lN (cs.length / len) len (cs.map (·.1))))else(match y9 cs off len with
   |some vs=>En (.list E1 1 vs)
   |none=>I)
  |none=>I
 | .ak b bu len=>match h[b]? with
  |some (.vec sz db xs)=>bif E3 bu db&&E4 len xs.length then En (.list E1 sz (xs.take len))else I
  |_=>I
 |v=>En v
def kT (h:j8):List qa→Option (List qa)
 | []=>En []
 |v::vs=>match fT h v with
  |some x=>(match kT h vs with
   |some xs=>En (x::xs)
   |none=>I)
  |none=>I
def aB (h:j8):qa→Option qa
 | .agg cs=>match kT h cs with
  |some xs=>En (.agg xs)
  |none=>I
 | .aC vs=>match bj h vs with
  |some xs=>En (.aC xs)
  |none=>I
 |v=>fT h v
where
 bj (h:j8):List qa→Option (List qa)
  | []=>En []
  | .agg cs::vs=>match kT h cs with
   |some x=>(match bj h vs with
    |some xs=>En (.agg x::xs)
    |none=>I)
   |none=>I
  |v::vs=>match fT h v with
   |some x=>(match bj h vs with
    |some xs=>En (x::xs)
    |none=>I)
   |none=>I
def yw (kd:Kd)(k:qa):List (qa×qa)→Nat→Option (Option (Nat×qa))
 | [],_=>En I
 |(k',v)::es,i=>match kN kd k k' with
  |some E2=>En (En (i,v))
  |some E1=>yw kd k es (i+1)
  |none=>I
def zf (s:List UInt8)(i:Nat):Nat×Nat:=Utf8.decode ⟨⟨s⟩⟩ i
structure qq where
 v:qa
 own:Bool
 strip:Option Nat
 heap:j8
def nR (l:List Nat):Bool:=match l with
 | []=>E1
 |k::_=>E4 1000 k
def yI (h0:Nat)(l:List Nat)(b:Nat):Bool:=match l with
 | []=>E1
 |k::_=>bif E6 k 2000 then E3 b (k-1000)&&E6 b h0 else bif E6 k 4000 then E3 b (h0+(k-2000))else E6 b h0
def yv (h0:Nat)(al:Option (List Nat))(b:Nat):Bool:=
 match al with
 |none=>E2
 |some l=>bif nR l then yI h0 l b else(E6 b h0||l.contains (b-h0))
def oH (al:Option (List Nat)):Bool:=
 match al with
 |some (k::_)=>E4 4000 k
 |_=>E1
def tR (h0:Nat)(al:Option (List Nat))(b:Nat):Bool:=yv h0 al b&&!(oH al)
def yj (h:j8)(b:Nat)(x:qn):Option j8:=bif E6 b h.length then En (h.set b x)else I
def aJ (h0:Nat)(h:j8)(r:Nat)(x:qn):Option j8:=
 match h[h0+r]? with
 |some .hole=>En (h.set (h0+r) x)
 |_=>I
def val (h:j8)(v:qa):Option qq:=En ⟨v,E1,I,h⟩
def fU (h:j8):Option qa→Option qq
 |some v=>En ⟨v,E1,I,h⟩
 |none=>I
def idx (n:Nat):qa→Option Nat
 | .int _ (.ofNat i)=>bif E6 i n then En i else I
 |_=>I
def yJ (n:Nat):qa→Option Nat
 | .int _ (.ofNat i)=>bif E4 i n then En i else I
 |_=>I
def eR (e:Env)(kU n:Nat):Option qh→Option Nat
 |none=>En kU
 |some x=>match zd e x with
  |some v=>yJ n v
  |none=>I
def kg (e:Env):qh→Option Nat
 | .tmp t=>match yd t e with
  |some (_,E2)=>En t
  |_=>I
 |_=>I
def kl (sz:Nat):qa→Option (List qa)
 | .list _ sy ys=>bif E3 sz sy||ys.isEmpty then En ys else I
 | .str s=>bif E3 sz 1 then En (s.map fun(c:UInt8)=>qa.int .u8 c.toNat)else I
 |_=>I
def pw (n:Bool)(sz:Nat)(xs ys:List qa):qa:=bif n&&ys.isEmpty then .list E2 0 []else .list E1 sz (xs++ys)
def zi (e:Env)(h:j8):qw→Option qq
 | .move x=>fU h (zd e x)
 | .take s=>match yd s e with
  |some (v,o)=>En ⟨v,o,En s,h⟩
  |none=>I
 | .pick c a b=>match zd e c with
  |some (.bool t)=>(match zd e a,zd e b with
    |some x,En y=>val h (bif t then x else y)
    |_,_=>I)
  |_=>I
 | .nP n x=>match zd e x with
  |some v=>bif E3 v.flat.length n&&v.flat.all ze then val h (.ah v)else I
  |none=>I
 | .build zero parts=>match kP e parts with
  |some ps=>match iU zero ps with
   |some cs=>val h (.agg cs)
   |none=>I
  |none=>I
 | .buildSlice sz len zero parts=>match iA e sz parts with
  |some ps=>match kQ (Gm len (bif E3 sz 1 then zero.headD .undef else .agg zero)) ps with
   |some xs=>En ⟨.list E1 sz xs,E2,I,h⟩
   |none=>I
  |none=>I
 | .fR n=>En ⟨.cE n,E2,I,h⟩
 | .dr n s x=>match yd s e,zd e x with
  |some (.cE m,E2),En v=>bif E3 m n&&E3 v.flat.length n&&v.flat.all ze then val h (.ah v)else I
  |_,_=>I
 | .eN agg n x=>match zd e x with
  |some (.ah v)=>bif G2 agg v.isAgg||!(E3 v.flat.length n)then I else val h v
  |_=>I
 | .nilCheck x=>match zd e x with
  |some (.ptr b o)=>val h (.ptr b o)
  |some (.ah v)=>val h (.ah v)
  |some (.fn (.func f) a b)=>val h (.fn (.func f) a b)
  |_=>I
 | .bin op x y=>match zd e x,zd e y with
  |some a,En b=>fU h (fo op a b)
  |_,_=>I
 | .eqs ks neq x y=>match zd e x,zd e y with
  |some (.agg a),En (.agg b)=>bif E3 a.length ks.length&&E3 b.length ks.length then(match kz ks a b with
   |some t=>val h (.bool (bif neq then !t else t))
   |none=>I)else I
  |_,_=>I
 | .beq neq x y=>match zd e x,zd e y with
  |some (.bool a),En (.bool b)=>val h (.bool (bif neq then !(a == b)else a == b))
  |_,_=>I
 | .eO k neq x=>match k,zd e x with
  |0,En (.list n _ _)=>val h (.bool (bif neq then !n else n))
  |0,En (.ms ..)=>val h (.bool neq)
  |1,En .bN=>val h (.bool (!neq))
  |1,En (.ptr ..)=>val h (.bool neq)
  |1,En (.ah ..)=>val h (.bool neq)
  |2,En .bM=>val h (.bool (!neq))
  |2,En (.map ..)=>val h (.bool neq)
  |3,En .bX=>val h (.bool (!neq))
  |3,En (.fn ..)=>val h (.bool neq)
  |_,_=>I
 | .un op x=>match zd e x with
  |some v=>fU h (wv op v)
  |none=>I
 | .conv k x=>match zd e x with
  |some (.int _ n)=>val h (.int k (j9 k n))
  |_=>I
 | .eE x=>match zd e x with
  |some (.str s)=>val h (.str s)
  |some (.int _ n)=>val h (.str (Utf8.encode n).data.toList)
  |_=>I
 | .field agg off n x=>match zd e x with
  |some (.agg cs)=>fU h (part agg cs off n)
  |_=>I
 | .index agg len n x i=>match zd e x,zd e i with
  |some (.agg cs),En j=>(match idx len j with
   |some j=>fU h (part agg cs (j*n) n)
   |none=>I)
  |_,_=>I
 | .dI x i=>match zd e x,zd e i with
  |some (.str s),En j=>(match idx s.length j with
   |some j=>(match s[j]? with
    |some c=>val h (.int .u8 c.toNat)
    |none=>I)
   |none=>I)
  |_,_=>I
 | .fieldAddr agg off n x=>match zd e x with
  |some (.ptr b o)=>val h (.ptr b (o+off))
  |some (.ah (.agg cs))=>(match part agg cs off n with
   |some v=>bif G2 agg v.isAgg then I else val h (.ah v)
   |none=>I)
  |some (.dq b bu o)=>val h (.dq b bu (o+off))
  |_=>I
 | .indexAddr sz x i=>match zd e x,zd e i with
  |some (.list _ cJ xs),En j=>bif E3 sz cJ||xs.isEmpty then(match idx xs.length j with
   |some j=>(match xs[j]? with
    |some v=>val h (.ah v)
    |none=>I)
   |none=>I)else I
  |some (.ms b o len),En j=>(match idx len j with
   |some j=>val h (.ptr b (o+j*sz))
   |none=>I)
  |some (.ak b bu len),En j=>(match idx len j with
   |some j=>val h (.dq b bu (j*sz))
   |none=>I)
  |_,_=>I
 | .dJ agg len sz x i=>match zd e x,zd e i with
  |some (.ptr b o),En j=>(match idx len j with
   |some j=>val h (.ptr b (o+j*sz))
   |none=>I)
  |some (.ah (.agg cs)),En j=>(match idx len j with
   |some j=>(match part agg cs (j*sz) sz with
    |some v=>bif G2 agg v.isAgg then I else val h (.ah v)
    |none=>I)
   |none=>I)
  |_,_=>I
 | .slice sz x lo hi=>match zd e x with
  |some (.list n cJ xs)=>bif E3 sz cJ||xs.isEmpty then(match eR e xs.length xs.length hi with
   |some j=>(match eR e 0 j lo with
    |some i=>val h (.list n cJ ((xs.take j).drop i))
    |none=>I)
   |none=>I)else I
  |some (.ms b o len)=>(match eR e len len hi with
   |some j=>(match eR e 0 j lo with
    |some i=>bif E3 i 0||E6 i j then val h (.ms b (o+i*sz) (j-i))else I
    |none=>I)
   |none=>I)
  |some (.ak b bu len)=>(match eR e len len hi with
   |some j=>(match eR e 0 j lo with
    |some i=>bif E3 i 0 then val h (.ak b bu j)else I
    |none=>I)
   |none=>I)
  |_=>I
 | .eh x lo hi=>match zd e x with
  |some (.str s)=>(match eR e s.length s.length hi with
   |some j=>(match eR e 0 j lo with
    |some i=>val h (.str ((s.take j).drop i))
    |none=>I)
   |none=>I)
  |_=>I
 | .ei len sz x lo hi=>match zd e x with
  |some (.ptr b o)=>(match eR e len len hi with
   |some j=>(match eR e 0 j lo with
    |some i=>bif E3 i 0||E6 i j then val h (.ms b (o+i*sz) (j-i))else I
    |none=>I)
   |none=>I)
  |_=>I
 | .fS f first captured=>match fC e first,fC e captured with
  |some a,En b=>val h (.fn f a b)
  |_,_=>I
 | .len k x=>match k,zd e x with
  |1,En (.list _ _ xs)=>val h (.int .i64 xs.length)
  |1,En (.ms _ _ n)=>val h (.int .i64 n)
  |1,En (.ak _ _ n)=>val h (.int .i64 n)
  |2,En (.list E2 _ _)=>val h (.int .i64 0)
  |0,En (.str s)=>val h (.int .i64 s.length)
  |_,_=>I
 | .append I sz bytes x y=>match zd e x,zd e y with
  |some (.list n cJ xs),En vy=>
   bif n||(kg e x).isSome then
    (match kl sz vy with
     |some ys=>
      bif (E3 sz cJ||(xs.isEmpty&&n))&&E4 (xs.length+ys.length) 1073741824&&E4 bytes 4096&&E6 0 sz then
       En ⟨pw n sz xs ys,E2,kg e x,h⟩
      else I
     |none=>I)
   else I
  |_,_=>I
 | .bV I sz bytes zero n c=>match zd e n,zd e c with
  |some (.int .i64 (.ofNat n)),En (.int .i64 (.ofNat c))=>
   bif E3 n c&&E4 n 1073741824&&E4 bytes 4096&&E3 zero.length sz&&E6 0 sz&&zero.all ze then
    En ⟨.list E1 sz (Gm n (bif E3 sz 1 then zero.headD .undef else .agg zero)),E2,I,h⟩else I
  |_,_=>I
 | .mx args=>match fC e args with
  |some (v::vs)=>fU h (nh max2 v vs)
  |_=>I
 | .mn args=>match fC e args with
  |some (v::vs)=>fU h (nh min2 v vs)
  |_=>I
 | .extract x i=>match zd e x with
  |some (.aC vs)=>fU h vs[i]?
  |_=>I
 |_=>I
def px (es:List (qa×qa))(i:Nat)(v:qa):List (qa×qa):=
 match es,i with
 | [],_=>[]
 |(k,_)::r,0=>(k,v)::r
 |x::r,i+1=>x::px r i v
def gT (h0:Nat)(al:Option (List Nat))(e:Env)(h:j8):qw→Option qq
 | .load agg n x=>match zd e x with
  |some (.ptr b o)=>bif yv h0 al b then(match yl h b with
   |some cs=>(match y9 cs o n with
    |some vs=>bif agg then val h (.agg vs)else(match vs with
     | [v]=>val h v
     |_=>I)
    |none=>I)
   |none=>I)else I
  |some (.ah v)=>bif G2 agg v.isAgg||!(E3 v.flat.length n)then I else val h v
  |some (.dq b bu o)=>bif tR h0 al b then(match y5 h b with
   |some (.vec _ db xs)=>bif E3 bu db&&E4 (o+n) (xs.flatMap qa.flat).length then(bif agg then val h (.agg (((xs.flatMap qa.flat).drop o).take n))else(match((xs.flatMap qa.flat).drop o).take n with
     | [v]=>val h v
     |_=>I))else I
   |_=>I)else I
  |_=>I
 | .lookup kd zero ok m k=>match zd e m,zd e k with
  |some (.map b),En kv=>bif yv h0 al b then(match y5 h b with
   |some (.map es)=>(match yw kd kv es 0 with
    |some (En (_,v))=>val h (bif ok then .aC [v,.bool E2]else v)
    |some I=>val h (bif ok then .aC [zero,.bool E1]else zero)
    |none=>I)
   |_=>I)else I
  |some .bM,En _=>val h (bif ok then .aC [zero,.bool E1]else zero)
  |_,_=>I
 | .len _ x=>match zd e x with
  |some (.map b)=>bif yv h0 al b then(match y5 h b with
   |some (.map es)=>val h (.int .i64 es.length)
   |_=>I)else I
  |some .bM=>val h (.int .i64 0)
  |_=>I
 |_=>I
def q48 (es:List (qa×qa)):Option (Nat×qa)→List (qa×qa)
 |some (i,_)=>es.eraseIdx i
 |none=>es
def tS:Option Nat→Nat→Bool
 |none,_=>E2
 |some a,o=>E3 a o
def yK (sz len:Nat):qa→Option (Nat×List qa)
 | .list _ sy ys=>bif E3 sz sy||ys.isEmpty then En (min ys.length len,(ys.take len).flatMap qa.flat)else I
 |_=>I
def cellsOf (vs:List qa):List (qa×Bool):=vs.map (·,E1)
def zm (h0:Nat)(al:Option (List Nat))(e:Env)(h:j8):qw→Option qq
 | .alloc r zero=>bif zero.all ze then(match aJ h0 h r (.cells (cellsOf zero))with
  |some h'=>val h' (.ptr (h0+r) 0)
  |none=>I)else I
 | .box r n x=>match zd e x with
  |some v=>bif E3 v.flat.length n&&v.flat.all ze then(match aJ h0 h r (.cells (cellsOf v.flat))with
   |some h'=>val h' (.ptr (h0+r) 0)
   |none=>I)else I
  |none=>I
 | .b6 off x=>match zd e x with
  |some (.ptr b o)=>bif yv h0 al b&&tS off o then(match yl h b with
   |some cs=>(match cs[o]? with
    |some (v,w)=>(match yj h b (.cells (cs.set o (v,E1)))with
     |some h'=>En ⟨v,w,I,h'⟩
     |none=>I)
    |none=>I)
   |none=>I)else I
  |_=>I
 | .store n a x=>match zd e a,zd e x with
  |some (.ptr b o),En v=>bif yv h0 al b then(match yl h b with
   |some cs=>(match kg e x with
    |some t=>bif E3 n 1&&v.cu&&E6 o cs.length then(match yj h b (.cells (cs.set o (v,E2)))with
      |some h'=>En ⟨.undef,E1,En t,h'⟩
      |none=>I)else I
    |none=>bif E3 v.flat.length n then(match yi cs o v.flat with
     |some dQ=>(match yj h b (.cells dQ)with
      |some h'=>val h' .undef
      |none=>I)
     |none=>I)else I)
   |none=>I)else I
  |_,_=>I
 | .fB r t e=>match aJ h0 h r (.fB t e [])with
  |some h'=>val h' (.ptr (h0+r) 0)
  |none=>I
 | .dK r=>match aJ h0 h r (.map [])with
  |some h'=>val h' (.map (h0+r))
  |none=>I
 | .mapUpdate kd m k x=>match zd e m,zd e k,zd e x with
  |some (.map b),En kv,En v=>bif yv h0 al b then(match y5 h b with
   |some (.map es)=>(match yw kd kv es 0 with
    |some (En (i,_))=>(match yj h b (.map (px es i v))with
     |some h'=>val h' .undef
     |none=>I)
    |some I=>bif E4 es.length 1073741824 then(match yj h b (.map (es++[(kv,v)]))with
     |some h'=>val h' .undef
     |none=>I)else I
    |none=>I)
   |_=>I)else I
  |_,_,_=>I
 | .delete kd m k=>match zd e m,zd e k with
  |some (.map b),En kv=>bif yv h0 al b then(match y5 h b with
   |some (.map es)=>(match yw kd kv es 0 with
    |some r=>(match yj h b (.map (q48 es r))with
     |some h'=>val h' (.aC [])
     |none=>I)
    |none=>I)
   |_=>I)else I
  |_,_=>I
 | .bV (En r) sz bytes zero n c=>match zd e n,zd e c with
  |some (.int .i64 (.ofNat n)),En (.int .i64 (.ofNat c))=>
   bif E3 n c&&E4 n 1073741824&&E4 bytes 4096&&E3 zero.length sz&&E6 0 sz&&zero.all ze then
    (match aJ h0 h r (.cells (cellsOf (Gm n zero).flatten))with
     |some h'=>val h' (.ms (h0+r) 0 n)
     |none=>I)else I
  |_,_=>I
 | .append (En r) sz bytes x y=>match zd e x,zd e y with
  |some (.list E1 cJ []),En vy=>
   bif (kg e x).isSome&&E3 sz cJ then
    (match kl sz vy with
     |some ys=>
      bif E4 ys.length 1073741824&&E4 bytes 4096&&E6 0 sz then
       (match aJ h0 h r (.cells (cellsOf (ys.flatMap qa.flat)))with
        |some h'=>En ⟨.ms (h0+r) 0 ys.length,E1,kg e x,h'⟩
        |none=>I)
      else I
     |none=>I)
   else I
  |_,_=>I
 | .gG r sz bytes x y=>match zd e x,zd e y with
  |some (.list E2 _ []),En vy=>(match kl sz vy with
    |some ys=>
     bif E4 ys.length 1073741824&&E4 bytes 4096&&E6 0 sz&&!ys.isEmpty&&zw 0 ys&&E6 r 1000 then
      (match aJ h0 h r (.vec sz 0 ys)with
       |some h'=>val h' (.ak (h0+r) 0 ys.length)
       |none=>I)else I
    |none=>I)
  |some (.ak b bu len),En vy=>(match y5 h b with
   |some (.vec cJ db xs)=>(match kl sz vy with
    |some ys=>
     bif E3 bu db&&E3 sz cJ&&E4 len xs.length&&E4 (len+ys.length) 1073741824&&E4 bytes 4096&&E6 0 sz&&zw 0 ys&&E6 r 1000 then
      (match yj h b (.vec sz (bu+1) (xs.take len++ys))with
       |some h'=>val h' (.ak b (bu+1) (len+ys.length))
       |none=>I)else I
    |none=>I)
   |_=>I)
  |_,_=>I
 | .hO r sz len zero parts=>match iA e sz parts with
  |some ps=>match kQ (Gm len (bif E3 sz 1 then zero.headD .undef else .agg zero)) ps with
   |some xs=>bif zw 0 xs then(match aJ h0 h r (.vec sz 0 xs)with
    |some h'=>val h' (.ak (h0+r) 0 xs.length)
    |none=>I)else I
   |none=>I
  |none=>I
 | .copy sz x y=>match zd e x,zd e y with
  |some (.ms b o len),En vy=>bif yv h0 al b then(match yl h b with
   |some cs=>(match yK sz len vy with
    |some (n,vs)=>(match yi cs o vs with
     |some dQ=>bif E3 vs.length (n*sz)then(match yj h b (.cells dQ)with
      |some h'=>val h' (.int .i64 n)
      |none=>I)else I
     |none=>I)
    |none=>I)
   |none=>I)else I
  |_,_=>I
 | .cZ r x=>match zd e x with
  |some (.str s)=>(match aJ h0 h r (.iter s 0)with
   |some h'=>val h' (.ptr (h0+r) 0)
   |none=>I)
  |_=>I
 | .eP it=>match zd e it with
  |some (.ptr b 0)=>bif yv h0 al b then(match y5 h b with
   |some (.iter s pos)=>bif E6 pos s.length then
     (match yj h b (.iter s (pos+(zf s pos).2))with
      |some h'=>val h' (.aC [.bool E2,.int .i64 pos,.int .i32 (zf s pos).1])
      |none=>I)else val h (.aC [.bool E1])
   |_=>I)else I
  |_=>I
 |_=>I
def nS:Nat→List qa→Env
 |_,[]=>[]
 |i,v::vs=>(i,v,E1)::nS (i+1) vs
def tT (st:qg):ja→Option (qa×Bool)
 | .tmp t=>yd t st.env
 | .cell t agg n=>match yd t st.env with
  |some (.ptr b o,_)=>(match yl st.heap b with
   |some cs=>(match y9 cs o n with
    |some vs=>bif agg then En (.agg vs,E1)else(match cs[o]? with
     |some x=>En x
     |none=>I)
    |none=>I)
   |none=>I)
  |_=>I
def kW (st:qg):List ja→Option (List (qa×Bool))
 | []=>En []
 |r::rs=>match tT st r with
  |some x=>(match kW st rs with
   |some xs=>En (x::xs)
   |none=>I)
  |none=>I
def yr:List (qa×Bool)→qa×Bool
 | [x]=>x
 |xs=>(.aC (xs.map (·.1)),E1)
abbrev XC:=qf→qg→Option (qo×qg)
def kF (st:qg):List ja→j8
 | [.cell t E1 _]=>match yd t st.env with
  |some (.ptr b o,_)=>(match yl st.heap b with
   |some cs=>(match cs[o]? with
    |some (v,E2)=>st.heap.set b (.cells (cs.set o (v,E1)))
    |_=>st.heap)
   |none=>st.heap)
  |_=>st.heap
 |_=>st.heap
def oI (xc:XC)(f:qd)(args:List qa)(h:j8):Option (qa×Bool×j8):=
 bif E4 args.length f.ntmps then
  match xc f.body ⟨nS 0 args,h⟩with
  |some (.normal,st)=>(match kW st f.results with
   |some xs=>En ((yr xs).1,(yr xs).2,kF st f.results)
   |none=>I)
  |some (.ret,st)=>(match kW st f.results with
   |some xs=>En ((yr xs).1,(yr xs).2,kF st f.results)
   |none=>I)
  |_=>I
 else I
def zg (p:qt)(xc:XC)(k:Nat)(args:List qa)(h:j8):Option (qa×Bool×j8):=
 match p.bL k with
 |some f=>oI xc f args h
 |none=>match p.di k with
  |some f=>f args h
  |none=>I
def jz (p:qt)(xc:XC)(k:Nat)(args:List qa):Option (qa×Bool):=
 match p.cm k with
 |some f=>(match f args with
  |some (v,o)=>bif lM v then En (v,o)else I
  |none=>I)
 |none=>match zg p xc k args []with
  |some (v,o,h)=>(match aB h v with
   |some v'=>bif lM v' then En (v',o&&v.cu)else I
   |none=>I)
  |none=>I
def yq (n:Nat)(v:qa)(h:j8):j8:=
 bif E4 h.length n then h else bif below n v&&kh n (h.take n)then h.take n else h
def uY (e:Env):List Nat→List qa→Option Env
 | [],[]=>En e
 |t::ts,v::vs=>uY ((t,v,E1)::e) ts vs
 |_,_=>I
def jG (xc:XC)(b:Nat)(args:List qa)(h:j8):Option (qa×j8):=
 match y5 h b with
 |some (.loop l)=>match l.pending,uY (eQ l.env) l.params args with
  |none,En e=>(match xc l.assign ⟨e,h⟩with
   |some (.normal,st)=>(match y5 st.heap b with
    |some (.loop l1)=>bif l1.pending.isNone then(match xc l.body { st with heap:=st.heap.set b (.loop { l1 with pending:=En .normal }) }with
     |some (x,bJ)=>(match y5 bJ.heap b with
      |some (.loop l2)=>En (.bool (match x with | .normal=>E2|_=>E1),yq h.length (.bool E2) (bJ.heap.set b (.loop { l2 with pending:=match x with | .normal=>I|x=>En x })))
      |_=>I)
     |none=>I)else I
    |_=>I)
   |_=>I)
  |_,_=>I
 |_=>I
def ni:qa→Bool
 | .bool _=>E2
 | .int _ _=>E2
 | .str _=>E2
 |_=>E1
def RT (h:j8):qa→Option qa
 | .ms b 0 len=>(match yl h b with
  |some cs=>bif E3 (len*(cs.length / len)) cs.length&&E6 0 (cs.length / len)&&cs.all (fun c=>ni c.1)then En (.list E1 (cs.length / len) (lN (cs.length / len) len (cs.map (·.1))))else(bif E3 len 0 then En (.list E1 8 [])else I)
  |none=>I)
 |v=>En v
def wx (h:j8):List qa→Option (List qa)
 | []=>En []
 |v::vs=>match RT h v,wx h vs with
  |some x,En xs=>En (x::xs)
  |_,_=>I
def wy:qa→Bool
 | .agg cs=>cs.all ni
 |v=>ni v
def CV (v:qa):qa:=bif wy v then v else .any
def L0:qa→Bool→Option (qa×Bool)
 | .list E1 sz xs,E2=>bif (xs.flatMap qa.flat).all ni then En (.list E1 sz xs,E2)else I
 | .list E2 sz [],_=>En (.list E2 sz [],E1)
 | .aC vs,_=>En (.aC (vs.map CV),E1)
 |v,_=>bif wy v then En (v,E1)else I
def py (h0:Nat)(h:j8)(r:Nat):qa→Bool→Option qq
 | .list E2 sz [],_=>(match aJ h0 h r .dead with
  |some h'=>val h' (.list E2 sz [])
  |none=>I)
 | .list E1 sz xs,E2=>bif (xs.flatMap qa.flat).all ni then(match aJ h0 h r (.cells (cellsOf (xs.flatMap qa.flat)))with
  |some h'=>val h' (.ms (h0+r) 0 xs.length)
  |none=>I)else I
 |_,_=>I
def iB (p:qt)(xc:XC)(h0:Nat)(e:Env)(h:j8)(md:jd)(f:qh)(args:List qh):Option qq:=
 match zd e f,fC e args with
 |some (.fn (.func k) first captured),En vs=>
  (match md with
   | .bK=>bif zw 0 (first++vs++captured)then(match jz p xc k (first++vs++captured)with
     |some (v,o)=>En ⟨v,o,I,h⟩
     |none=>I)else I
   | .fa r=>bif (first++vs++captured).isEmpty then(match p.maps k with
     |some es=>(match aJ h0 h r (.map es)with
      |some h'=>val h' (.map (h0+r))
      |none=>I)
     |none=>I)else bif zw 0 (first++vs++captured)then(match jz p xc k (first++vs++captured)with
     |some (v,o)=>py h0 h r v o
     |none=>I)else I
   | .red=>(match wx h (first++vs++captured)with
    |some us=>bif zw 0 us then(match jz p xc k us with
     |some (v,o)=>(match L0 v o with
      |some (v',o')=>En ⟨v',o',I,h⟩
      |none=>I)
     |none=>I)else I
    |none=>I)
   | .shr=>(match zg p xc k (first++vs++captured) h with
    |some (v,o,h')=>En ⟨v,o,I,yq h.length v h'⟩
    |none=>I))
 |some (.fn (.yield b) [] []),En vs=>
  (match md with
   | .shr=>(match jG xc b vs h with
    |some (v,h')=>val h' v
    |none=>I)
   |_=>I)
 |_,_=>I
def za (p:qt)(xc:XC)(h0:Nat)(al:Option (List Nat))(e:Env)(h:j8)(op:qw):Option qq:=
 match op with
 | .call md f args=>iB p xc h0 e h md f args
 | .load agg n x=>gT h0 al e h (.load agg n x)
 | .lookup kd z ok m k=>gT h0 al e h (.lookup kd z ok m k)
 | .alloc r z=>zm h0 al e h (.alloc r z)
 | .box r n x=>zm h0 al e h (.box r n x)
 | .b6 off x=>zm h0 al e h (.b6 off x)
 | .store n a x=>zm h0 al e h (.store n a x)
 | .fB r t e'=>zm h0 al e h (.fB r t e')
 | .dK r=>zm h0 al e h (.dK r)
 | .mapUpdate kd m k x=>zm h0 al e h (.mapUpdate kd m k x)
 | .delete kd m k=>zm h0 al e h (.delete kd m k)
 | .bV (En r) sz b z n c=>zm h0 al e h (.bV (En r) sz b z n c)
 | .append (En r) sz b x y=>zm h0 al e h (.append (En r) sz b x y)
 | .gG r sz b x y=>zm h0 al e h (.gG r sz b x y)
 | .hO r sz n z ps=>zm h0 al e h (.hO r sz n z ps)
 | .copy sz x y=>zm h0 al e h (.copy sz x y)
 | .cZ r x=>zm h0 al e h (.cZ r x)
 | .eP it=>zm h0 al e h (.eP it)
 |op=>zi e h op
def k9 (e:Env):Option Nat→Env
 |none=>e
 |some s=>match yd s e with
  |some (v,_)=>(s,v,E1)::e
  |none=>e
def nj (e:Env)(d:Option Nat)(v:qa)(o:Bool):Env:=
 match d with
 |some d=>(d,v,o)::e
 |none=>e
def l7 (e:Env):Option (Nat×Bool)→Option Bool
 |none=>En E2
 |some (s,want)=>match yd s e with
  |some (.bool b,_)=>En (b == want)
  |some (.undef,_)=>En E1
  |_=>I
def iC (p:qt)(xc:XC)(h0:Nat)(o:qv)(st:qg):Option qg:=
 match l7 st.env o.guard with
 |some E2=>(match za p xc h0 o.al st.env st.heap o.op with
  |some r=>En ⟨nj (k9 st.env r.strip) o.dst r.v r.own,r.heap⟩
  |none=>I)
 |some E1=>En ⟨nj st.env o.dst .undef E1,st.heap⟩
 |none=>I
def fD (p:qt)(xc:XC)(h0:Nat):List qv→qg→Option qg
 | [],st=>En st
 |o::os,st=>match iC p xc h0 o st with
  |some bJ=>fD p xc h0 os bJ
  |none=>I
def yL (st:qg):Option (List Nat)→qg
 |none=>st
 |some l=>{ st with env:=pq st.env l }
def l8 (p:qt)(xc:XC)(na:Nat)(ops:List qv)(keep:Option (List Nat))(st:qg):Option (qo×qg):=
 match fD p xc st.heap.length ops { st with heap:=st.heap++Gm na .hole }with
 |some bJ=>En (.normal,yL bJ keep)
 |none=>I
def l9 (p:qt)(xc:XC)(f:qh)(params:List Nat)(assign body:qf)(st:qg):Option (qo×qg):=
 bif kn assign&&kn body then
  match zd st.env f with
  |some (.fn (.func k) first captured)=>
   (match zg p xc k (first++[.fn (.yield st.heap.length) [] []]++captured) (st.heap++[.loop ⟨st.env,params,assign,body,I⟩])with
    |some (_,_,h')=>(match y5 h' st.heap.length with
     |some (.loop l)=>bif kh st.heap.length (h'.take st.heap.length)then
       (match l.pending with
       |none=>En (.normal,{ st with heap:=h'.take st.heap.length })
       |some .normal=>I
       |some x=>En (x,{ st with heap:=h'.take st.heap.length }))else I
     |_=>I)
    |none=>I)
  |_=>I
 else I
def ye (p:qt):Nat→XC
 |0,_,_=>I
 |n+1,c,st=>match c with
  | .skip=>En (.normal,st)
  | .region na ops keep=>l8 p (ye p n) na ops keep st
  | .seq a b=>match ye p n a st with
   |some (.normal,bJ)=>ye p n b bJ
   |r=>r
  | .cond c a b=>match zd st.env c with
   |some (.bool t)=>bif t then ye p n a st else ye p n b st
   |_=>I
  | .block id body=>match ye p n body st with
   |some (.exit fp,bJ)=>bif E3 fp id then En (.normal,bJ)else En (.exit fp,bJ)
   |r=>r
  | .loop body=>match ye p n body st with
   |some (.normal,bJ)=>ye p n (.loop body) (gc st.heap.length bJ)
   |r=>r
  | .rangeFunc f params assign body=>l9 p (ye p n) f params assign body st
  | .exit id=>En (.exit id,st)
  | .ret=>En (.ret,st)
  | .grow sz=>match yd 0 st.env,yd 1 st.env with
   |some (.list E2 _ _,_),En (.int .i64 (.ofNat m),_)=>bif E6 0 m&&E4 m 1073741824 then En (.normal,{ st with env:=[(0,.list E1 sz [],E2)] })else I
   |_,_=>I
  | .stuck=>I
structure qb where
 takes:List Nat:=[]
 bA:List Nat:=[]
 bB:List (Nat×Nat):=[]
 shr:List (Nat×Nat):=[]
 fa:List (Nat×Nat):=[]
 red:List (Nat×Nat):=[]
 keep:List (Nat×List Nat):=[]
 vl:List Nat:=[]
 vec:List Nat:=[]
 ex:List ((Nat×Nat)×Nat):=[]
 deriving Inhabited
def CW:Value→Option qa
 | .bool b=>En (.bool b)
 | .int k n=>En (.int k n)
 | .string s=>En (.str s.data.toList)
 | .slice I 0 0=>En (.list E2 0 [])
 | .pointer I=>En .bN
 | .map I=>En .bM
 | .nilFunc=>En .bX
 |_=>I
def uZ:List Value→Option (List qa)
 | []=>En []
 |v::vs=>match CW v with
  |some x=>match uZ vs with
   |some xs=>En (x::xs)
   |none=>I
  |none=>I
def ofValue:Value→Option qa
 | .agg cs=>match uZ cs.toList with
  |some xs=>En (.agg xs)
  |none=>I
 |v=>CW v
def zr:Operand→Option qh
 | .tmp t=>En (.tmp t)
 | .const v=>match ofValue v with
  |some x=>En (.const x)
  |none=>I
 | .func f=>En (.const (.fn (.func f) [] []))
 | .global _=>I
def oJ:List Operand→Option (List qh)
 | []=>En []
 |x::xs=>match zr x with
  |some y=>match oJ xs with
   |some ys=>En (y::ys)
   |none=>I
  |none=>I
def mb:Option Operand→Option (Option qh)
 |none=>En I
 |some x=>match zr x with
  |some y=>En (En y)
  |none=>I
def fb (P:Program)(t:TypeId):Option Bool:=
 match P.underlying t with
 |some (.struct _)=>En E2
 |some (.array _ _)=>En E2
 |some _=>En E1
 |none=>I
def yg (P:Program)(t:TypeId):Option Nat:=(P.info? t).map (·.size)
def np (P:Program)(t:TypeId):Option Nat:=(P.info? t).map (·.bytes)
def ef (P:Program)(t:TypeId):Option (List qa):=
 match P.info? t with
 |some i=>match i.zero with
  |some z=>uZ z.cells.toList
  |none=>I
 |none=>I
def RU (P:Program)(t:TypeId):Option TypeId:=
 match P.underlying t with
 |some (.struct fs)=>match fs.toList with
  | [f0,f1]=>match P.underlying f0.type,P.underlying f1.type with
   |some (.pointer t'),En (.slice e)=>match P.underlying e,ef P t with
    |some (.int .u8),En [.bN,.list E2 _ []]=>if t' == t then En e else I
    |_,_=>I
   |_,_=>I
  |_=>I
 |_=>I
def RV (P:Program)(t:TypeId):Option qa:=
 match P.info? t with
 |some i=>match i.zero with
  |some z=>ofValue z
  |none=>I
 |none=>I
def EA (g:TypeId→Option (List Kd)):Nat→List Field→Option (List Kd)
 |_,[]=>En []
 | off, f :: fs => if f.name != "_" && f.offset == off then (match g f.type with
   |some ks=>(match EA g (off+ks.length) fs with
    |some r=>En (ks++r)
    |none=>I)
   |none=>I)else I
def tU (P:Program):Nat→TypeId→Option (List Kd)
 |0,_=>I
 |n+1,t=>match P.underlying t with
  |some (.int _)=>if yg P t == En 1 then En [.int]else I
  |some .string=>if yg P t == En 1 then En [.str]else I
  |some .bool=>if yg P t == En 1 then En [.bool]else I
  |some (.struct fs)=>(match EA (tU P n) 0 fs.toList with
   |some ks=>if !P.stoodInHeld t&&yg P t == En ks.length then En ks else I
   |none=>I)
  |some (.array len e)=>(match tU P n e with
   |some ks=>if yg P t == En (len*ks.length)then En (Gm len ks).flatten else I
   |none=>I)
  |_=>I
def L2:Nat:=12
def jH (P:Program)(t:TypeId):Option Kd:=
 match P.underlying t with
 |some (.int _)=>En .int
 |some .string=>En .str
 |some .bool=>En .bool
 |_=>I
def CX (P:Program)(op:BinOp)(neq:Bool)(t:TypeId)(x y:Operand):Option qw:=
 match P.underlying t with
 |some (.int _)|some .string=>match zr x,zr y with
  |some a,En b=>En (.bin op a b)
  |_,_=>I
 |some .bool=>match zr x,zr y with
  |some a,En b=>En (.beq neq a b)
  |_,_=>I
 |some (.struct _)|some (.array _ _)=>
  if !P.eqGuardType P.depth t then match tU P L2 t,zr x,zr y with
   |some ks,En a,En b=>En (.eqs ks neq a b)
   |_,_,_=>I
  else I
 |some (.slice _)=>match y with
  | .const (.slice I 0 0)=>(zr x).map (.eO 0 neq)
  |_=>I
 |some (.pointer _)=>match y with
  | .const (.pointer I)=>(zr x).map (.eO 1 neq)
  |_=>I
 |some (.map _ _)=>match y with
  | .const (.map I)=>(zr x).map (.eO 2 neq)
  |_=>I
 |some (.func _ _ _)=>match y with
  | .const .nilFunc=>(zr x).map (.eO 3 neq)
  |_=>I
 |_=>I
def RW (P:Program)(op:BinOp)(t:TypeId)(x y:Operand):Option qw:=
 match op with
 | .eql=>CX P .eql E1 t x y
 | .neq=>CX P .neq E2 t x y
 |op=>match zr x,zr y with
  |some a,En b=>En (.bin op a b)
  |_,_=>I
def wz (P:Program)(place:Nat→Option (Nat×Nat)):List (Nat×Operand)→Option (List (Nat×Nat×qh))
 | []=>En []
 |(i,x)::ps=>match place i,zr x,wz P place ps with
  |some (off,n),En y,En r=>En ((off,n,y)::r)
  |_,_,_=>I
def wA:List (Nat×Operand)→Option (List (Nat×qh))
 | []=>En []
 |(i,x)::ps=>match zr x,wA ps with
  |some y,En r=>En ((i,y)::r)
  |_,_=>I
def q6r (h:qb)(dst:Option Nat)(x:Operand):Option Nat:=
 match x,dst with
 | .tmp s,En d=>if h.takes.contains d then En s else I
 |_,_=>I
def yM:TypeDesc→Bool
 | .slice _=>E2
 | .string=>E2
 |_=>E1
def jd.at (r:Nat):jd→jd
 | .fa _=>.fa r
 |m=>m
def yN (P:Program)(h:qb)(md:jd)(r:Nat)(dst:Option Nat)(c:Call):Option qw:=
 match c.callee with
 | .value f=>match zr f,oJ c.args.toList with
  |some f,En args=>En (.call (md.at r) f args)
  |_,_=>I
 | .builtin .len=>match c.args.toList,c.argTypes.toList with
  | [x],[t]=>match P.underlying t with
   |some .string=>(zr x).map (.len 0)
   |some (.slice _)=>(zr x).map (.len 1)
   |_=>I
  |_,_=>I
 | .builtin .cap=>match c.args.toList,c.argTypes.toList with
  | [x],[t]=>match P.underlying t with
   |some (.slice _)=>(zr x).map (.len 2)
   |_=>I
  |_,_=>I
 | .builtin .append=>match c.args.toList,c.argTypes.toList with
  | [x,y],[t,u]=>match P.underlying t,P.underlying u with
   |some (.slice e),En ut=>if yM ut&&(ef P e).map (·.length) == yg P e then match yg P e,np P e,zr x,zr y with
     |some sz,En b,En x,En y=>En (if(dst.map (h.vec.contains ·)).getD E1 then .gG r sz b x y else .append (if(dst.map (h.bA.contains ·)).getD E1 then En r else I) sz b x y)
     |_,_,_,_=>I
    else I
   |_,_=>I
  |_,_=>I
 | .builtin .copy=>match c.args.toList,c.argTypes.toList with
  | [x,y],t::_=>match P.underlying t with
   |some (.slice e)=>match yg P e,zr x,zr y with
    |some sz,En x,En y=>En (.copy sz x y)
    |_,_,_=>I
   |_=>I
  |_,_=>I
 | .builtin .delete=>match c.args.toList,c.argTypes.toList with
  | [m,k],t::_=>match P.underlying t with
   |some (.map kt _)=>match jH P kt,zr m,zr k with
    |some kd,En m,En k=>En (.delete kd m k)
    |_,_,_=>I
   |_=>I
  |_,_=>I
 | .builtin .max=>(oJ c.args.toList).map .mx
 | .builtin .min=>(oJ c.args.toList).map .mn
 |_=>I
def CY : List (String × List Int) := [("woofer/network.none", [0, 0]), ("woofer/network.one", [1, 0]), ("woofer/network.turns", [1, 0, 0, 1, -1, 0, 0, -1])]
def EB (P:Program)(g:Nat):List (String×List Int)→Option (List Int)
 | []=>I
 |(n,cs)::l=>if P.globalNamed n == En g then En cs else EB P g l
def L3 (P:Program)(t:TypeId)(g:Nat):Option qw:=match EB P g CY,fb P t,yg P t with
 |some cs,En E2,En n=>if cs.length == n then En (.move (.const (.agg (cs.map (qa.int .i64)))))else I
 |_,_,_=>I
def L4 (h:qb):qh→Option Nat
 | .tmp s=>if h.vl.contains s then En s else I
 |_=>I
def cx (P:Program)(h:qb)(md:jd)(r:Nat)(dst:Option Nat):Op→Option qw
 | .move x=>match q6r h dst x with
  |some s=>En (.take s)
  |none=>(zr x).map .move
 | .assign (.tmp s)=>En (.take s)
 | .assign x=>(zr x).map .move
 | .pick c a b=>match zr c,zr a,zr b with
  |some c,En a,En b=>En (.pick c a b)
  |_,_,_=>I
 | .alloc t=>match RU P t with
  |some e=>En (.fB r t e)
  |none=>bif (dst.map (h.vl.contains ·)).getD E1 then(match ef P t with
   |some z=>bif z.all ze then En (.fR z.length)else I
   |none=>I)else(ef P t).map (.alloc r)
 | .box t x=>match yg P t,zr x with
  |some n,En x=>En (bif (dst.map (h.vl.contains ·)).getD E1 then .nP n x else .box r n x)
  |_,_=>I
 | .build t ps=>match P.underlying t,ef P t with
  |some (.struct fs),En z=>if fs.toList.all (fun f=>(yg P f.type).isSome)then(wz P (fun i=>match fs[i]? with
    |some f=>(yg P f.type).map fun n=>(f.offset,n)
    |none=>I) ps.toList).map (.build z)else I
  |some (.array _ e),En z=>match yg P e with
   |some n=>(wz P (fun i=>En (i*n,n)) ps.toList).map (.build z)
   |none=>I
  |_,_=>I
 | .buildSlice t n ps=>match P.underlying t with
  |some (.slice e)=>match yg P e,ef P e,fb P e,wA ps.toList with
   |some sz,En z,En ag,En es=>if sz*n≤65536&&0<sz&&z.length == sz&&(ag||sz == 1)&&(!ag||sz != 1)then En (if(dst.map (h.vec.contains ·)).getD E1 then .hO r sz n z es else .buildSlice sz n z es)else I
   |_,_,_,_=>I
  |_=>I
 | .load t (.global g)=>L3 P t g
 | .load t x=>match fb P t,yg P t,zr x with
  |some E1,En 1,En x=>if(dst.map (h.takes.contains ·)).getD E1 then En (.b6 ((dst.bind fun d=>h.bB.find? fun y=>y.1 == d).map (·.2)) x)else En (bif (dst.map (h.vl.contains ·)).getD E1 then .eN E1 1 x else .load E1 1 x)
  |some E2,En n,En x=>En (bif (dst.map (h.vl.contains ·)).getD E1 then .eN E2 n x else .load E2 n x)
  |_,_,_=>I
 | .store t a v=>match yg P t,zr a,zr v with
  |some n,En a,En v=>En (match L4 h a with
   |some s=>.dr n s v
   |none=>.store n a v)
  |_,_,_=>I
 | .nilCheck x=>(zr x).map .nilCheck
 | .binOp op t x y _=>RW P op t x y
 | .unOp op _ x=>(zr x).map (.un op)
 | .convert s d x=>match P.underlying s,P.underlying d with
  |some (.int _),En (.int k)=>(zr x).map (.conv k)
  |some .string,En .string=>(zr x).map .eE
  |some (.int _),En .string=>(zr x).map .eE
  |_,_=>I
 | .makeFunc f a b=>match f with
  | .func k=>match oJ a.toList,oJ b.toList with
   |some a,En b=>En (.fS (.func k) a b)
   |_,_=>I
  |_=>I
 | .makeMap t I=>match P.underlying t with
  |some (.map _ _)=>En (.dK r)
  |_=>I
 | .makeSlice t n c=>match P.underlying t with
  |some (.slice e)=>match yg P e,np P e,ef P e,fb P e,zr n,zr c with
   |some sz,En b,En z,En ag,En n,En c=>
    if(ag||sz == 1)&&(!ag||sz != 1)then En (.bV (if(dst.map (h.bA.contains ·)).getD E1 then En r else I) sz b z n c)else I
   |_,_,_,_,_,_=>I
  |_=>I
 | .slice t x lo hi I=>match zr x,mb lo,mb hi with
  |some x,En lo,En hi=>match P.underlying t with
   |some .string=>En (.eh x lo hi)
   |some (.slice e)=>(yg P e).map fun sz=>.slice sz x lo hi
   |some (.array n e)=>(yg P e).map fun sz=>.ei n sz x lo hi
   |_=>I
  |_,_,_=>I
 | .fieldAddr t x i=>match P.underlying t with
  |some (.struct fs)=>match fs[i]? with
   |some f=>match fb P f.type,yg P f.type,zr x with
    |some ag,En n,En x=>if 0<n&&(ag||n == 1)then En (.fieldAddr ag f.offset n x)else I
    |_,_,_=>I
   |none=>I
  |_=>I
 | .field t x i=>match P.underlying t with
  |some (.struct fs)=>match fs[i]? with
   |some f=>match fb P f.type,yg P f.type,zr x with
    |some ag,En n,En x=>En (.field ag f.offset n x)
    |_,_,_=>I
   |none=>I
  |_=>I
 | .indexAddr t x i=>match zr x,zr i with
  |some x,En i=>match P.underlying t with
   |some (.slice e)=>match yg P e with
    |some sz=>if 0<sz then En (.indexAddr sz x i)else I
    |none=>I
   |some (.array n e)=>match yg P e,fb P e with
    |some sz,En ag=>if 0<sz&&(ag||sz == 1)then En (.dJ ag n sz x i)else I
    |_,_=>I
   |_=>I
  |_,_=>I
 | .index t x i=>match zr x,zr i with
  |some x,En i=>match P.underlying t with
   |some .string=>En (.dI x i)
   |some (.array n e)=>match yg P e,fb P e with
    |some sz,En ag=>En (.index ag n sz x i)
    |_,_=>I
   |_=>I
  |_,_=>I
 | .lookup t m k ok=>match P.underlying t with
  |some (.map kt e)=>match jH P kt,RV P e,zr m,zr k with
   |some kd,En z,En m,En k=>En (.lookup kd z ok m k)
   |_,_,_,_=>I
  |_=>I
 | .mapUpdate t m k v=>match P.underlying t with
  |some (.map kt _)=>match jH P kt,zr m,zr k,zr v with
   |some kd,En m,En k,En v=>En (.mapUpdate kd m k v)
   |_,_,_,_=>I
  |_=>I
 | .insert t m k v=>match P.underlying t with
  |some (.map kt _)=>match jH P kt,zr m,zr k,zr v with
   |some kd,En m,En k,En v=>En (.mapUpdate kd m k v)
   |_,_,_,_=>I
  |_=>I
 | .range t x=>match P.underlying t with
  |some .string=>(zr x).map (.cZ r)
  |_=>I
 | .next it E2=>(zr it).map .eP
 | .extract x i=>(zr x).map fun x=>.extract x i
 | .call c=>yN P h md r dst c
 |_=>I
def qw.makes:qw→Bool
 | .alloc ..=>E2
 | .box ..=>E2
 | .fB ..=>E2
 | .dK ..=>E2
 | .bV (En _) ..=>E2
 | .append (En _) ..=>E2
 | .gG ..=>E2
 | .hO ..=>E2
 | .cZ ..=>E2
 | .call (.fa _) ..=>E2
 |_=>E1
def qw.gH:qw→Option Nat
 | .dr _ s _=>En s
 |_=>I
def qw.wC (d:Option Nat):qw→Option Nat
 | .dr _ s _=>En s
 |_=>d
def CZ (ops:Array Oper):Option (Nat×Bool)→Option (Option (Nat×Bool))
 |none=>En I
 |some (j,b)=>match(ops[j]?).bind (·.dst)with
  |some d=>En (En (d,b))
  |none=>I
def jcx (h:qb)(id i:Nat):jd:=if h.shr.contains (id,i)then .shr else if h.fa.contains (id,i)then .fa 0 else if h.red.contains (id,i)then .red else .bK
def EC (P:Program)(h:qb)(nt:Nat)(id:Nat)(ops:Array Oper)(gU:Array Nat)(draw:Bool):List Oper→Nat→List (Nat×Nat)→Option (List qv×List (Nat×Nat))
 | [],_,rs=>En ([],rs)
 |o::os,i,rs=>
  match(cx P h (jcx h id i) rs.length o.dst o.op).getD .bad,CZ ops o.guard with
  |a,En g=>
   if(o.dst.map (decide <| · < nt)).getD E2&&(a.gH.map (decide <| · < nt)).getD E2&&(a.gH.isNone||(o.dst.isNone&&o.guard.isNone))then
    let C4:=if a.makes then(i,rs.length)::rs else rs
    let al:=if draw then(match h.ex.find? fun x=>x.1 == (id,i)with
     |some x=>En [x.2]
     |none=>En ((rs.filter fun x=>(gU.getD i 0).testBit x.1).map (·.2)))else I
    match EC P h nt id ops gU draw os (i+1) C4 with
    |some (l,RX)=>En (⟨a.wC o.dst,a,g,al⟩::l,RX)
    |none=>I
   else I
  |_,_=>I
def yx:qh→List Nat
 | .tmp t=>[t]
 | .const _=>[]
def wD (l:List qh):List Nat:=l.flatMap yx
def yO:Option qh→List Nat
 |some x=>yx x
 |none=>[]
def qw.reads:qw→List Nat
 | .move x=>yx x
 | .take s=>[s]
 | .pick c a b=>yx c++yx a++yx b
 | .alloc _ _=>[]
 | .box _ _ x=>yx x
 | .nP _ x=>yx x
 | .fR _=>[]
 | .dr _ s x=>s::yx x
 | .fB _ _ _=>[]
 | .build _ ps=>ps.flatMap fun p=>yx p.2.2
 | .buildSlice _ _ _ ps=>ps.flatMap fun p=>yx p.2
 | .load _ _ x=>yx x
 | .eN _ _ x=>yx x
 | .b6 _ x=>yx x
 | .store _ a v=>yx a++yx v
 | .nilCheck x=>yx x
 | .bin _ x y=>yx x++yx y
 | .eqs _ _ x y=>yx x++yx y
 | .beq _ x y=>yx x++yx y
 | .eO _ _ x=>yx x
 | .un _ x=>yx x
 | .conv _ x=>yx x
 | .eE x=>yx x
 | .field _ _ _ x=>yx x
 | .index _ _ _ x i=>yx x++yx i
 | .dI x i=>yx x++yx i
 | .fieldAddr _ _ _ x=>yx x
 | .indexAddr _ x i=>yx x++yx i
 | .dJ _ _ _ x i=>yx x++yx i
 | .slice _ x lo hi=>yx x++yO lo++yO hi
 | .eh x lo hi=>yx x++yO lo++yO hi
 | .ei _ _ x lo hi=>yx x++yO lo++yO hi
 | .fS _ a b=>wD a++wD b
 | .dK _=>[]
 | .lookup _ _ _ m k=>yx m++yx k
 | .mapUpdate _ m k v=>yx m++yx k++yx v
 | .delete _ m k=>yx m++yx k
 | .bV _ _ _ _ n c=>yx n++yx c
 | .len _ x=>yx x
 | .append _ _ _ x y=>yx x++yx y
 | .gG _ _ _ x y=>yx x++yx y
 | .hO _ _ _ _ ps=>ps.flatMap fun p=>yx p.2
 | .copy _ x y=>yx x++yx y
 | .mx l=>wD l
 | .mn l=>wD l
 | .extract x _=>yx x
 | .call _ f l=>yx f++wD l
 | .cZ _ x=>yx x
 | .eP x=>yx x
 | .bad=>[]
def qw.fc:qw→List Nat
 | .take s=>[s]
 | .append _ _ _ x _=>yx x
 | .store _ _ v=>yx v
 |_=>[]
def qv.reads (o:qv):List Nat:=o.op.reads++(match o.guard with|some g=>[g.1]|none=>[])
def qv.writes (o:qv):List Nat:=o.dst.toList++o.op.fc
inductive jq where
 |pure|read|write|alloc|take|fa|shr|nq
 deriving DecidableEq,Inhabited
def qw.cl:qw→jq
 | .load ..=>.read
 | .lookup ..=>.read
 | .alloc ..=>.alloc
 | .box ..=>.alloc
 | .fB ..=>.alloc
 | .dK ..=>.alloc
 | .bV (En _) ..=>.alloc
 | .append (En _) ..=>.alloc
 | .cZ ..=>.alloc
 | .b6 I _=>.write
 | .b6 (En _) _=>.take
 | .store ..=>.write
 | .mapUpdate ..=>.write
 | .delete ..=>.write
 | .copy ..=>.write
 | .eP ..=>.write
 | .call .bK ..=>.pure
 | .call (.fa _) ..=>.alloc
 | .call .shr ..=>.shr
 | .call .red ..=>.shr
 | .gG ..=>.nq
 | .hO ..=>.shr
 |_=>.pure
def qw.cA:qw→Nat
 | .alloc r _=>r
 | .box r _ _=>r
 | .fB r _ _=>r
 | .dK r=>r
 | .bV (En r) ..=>r
 | .append (En r) ..=>r
 | .cZ r _=>r
 | .call (.fa r) ..=>r
 | .b6 (En o) _=>o
 | .gG r sz ..=>r+1000*sz
 |_=>0
def mc (al:Option (List Nat))(r:Nat):Bool:=match al with
 |none=>E2
 |some l=>bif nR l then E3 (l.headD 0) (2000+r)else l.contains r
def C5 (a b:Option (List Nat)):Bool:=match a,b with
 |some l,En m=>bif nR l then(bif nR m then !(E3 (l.headD 0) (m.headD 0))&&E6 (l.headD 0) 4000&&E6 (m.headD 0) 4000 else E4 2000 (l.headD 0)&&E6 (l.headD 0) 4000&&!(m.contains (l.headD 0-2000)))else nR m&&E4 2000 (m.headD 0)&&E6 (m.headD 0) 4000&&!(l.contains (m.headD 0-2000))
 |_,_=>E1
def jq.box:jq→Bool
 | .read=>E2
 | .write=>E2
 | .take=>E2
 |_=>E1
def RY (a b:qv):Bool:=(a.op.cl.box&&b.op.cl.box&&C5 a.al b.al) ||
  (match a.op.cl,b.op.cl with
 | .pure,_=>E2
 |_,.pure=>E2
 | .read,.read=>E2
 | .read,.fa=>E2
 | .fa,.read=>E2
 | .fa,.fa=>E2
 | .alloc,.alloc=>a.op.cA != b.op.cA
 | .alloc,.read=>!mc b.al a.op.cA
 | .alloc,.write=>!mc b.al a.op.cA
 | .alloc,.take=>!mc b.al a.op.cA
 | .take,.alloc=>!mc a.al b.op.cA
 | .take,.take=>a.op.cA != b.op.cA
 | .read,.alloc=>!mc a.al b.op.cA
 | .write,.alloc=>!mc a.al b.op.cA
 | .nq,.nq=>a.op.cA % 1000 != b.op.cA % 1000&&a.op.cA / 1000 != b.op.cA / 1000
 | .nq,.read=>oH b.al
 | .nq,.write=>oH b.al
 | .nq,.take=>oH b.al
 | .read,.nq=>oH a.al
 | .write,.nq=>oH a.al
 | .take,.nq=>oH a.al
 |_,_=>E1)
def ED (a b:List Nat):Bool:=a.all fun x=>!b.contains x
def yP (a b:qv):Bool:=
 RY a b&&ED a.writes b.reads&&ED a.writes b.writes&&ED b.writes a.reads
def RZ (gU:Array Nat)(l:List qv):Bool:=
 (l.zipIdx).all fun(b,j)=>(l.zipIdx).all fun(a,i)=>!(decide (i<j))||(gU.getD j 0).testBit i||yP a b
def R0 (ops:Array Oper):Bool:=ops.toList.zipIdx.all fun(o,i)=>o.after.all fun e=>!Region.binds .any e||decide (e.on<i)
def R1 (gU:Array Nat)(ops:Array Oper):Bool:=
 ops.toList.zipIdx.all fun(o,i)=>(List.range ops.size).all fun j=>!((gU.getD i 0).testBit j)||o.after.any fun e=>Region.binds .any e&&(e.on == j||(gU.getD e.on 0).testBit j)
def EE (P:Program)(h:qb)(nt:Nat)(id:Nat)(ops:Array Oper)(draw:Bool):Option qf:=
 match EC P h nt id ops (Region.before ops) draw ops.toList 0 []with
 |some (l,rs)=>
  if !draw||(RZ (Region.before ops) l&&R0 ops&&R1 (Region.before ops) ops)then
   En (.region rs.length l ((h.keep.find? fun x=>x.1 == id).map (·.2)))
  else I
 |none=>I
def C6 (s d:Nat)(o:Oper):Bool:=match o.op,o.dst,o.guard with
 | .move (.tmp s'),En d',I=>s' == s&&d' == d
 |_,_,_=>E1
def R2 (s d:Nat)(o:Oper):Bool:=match o.op,o.dst,o.guard with
 | .assign (.tmp s'),En d',I=>s' == s&&d' == d
 |_,_,_=>E1
def R3 (x d:Nat)(o:Oper):Option TypeId:=match o.op,o.dst,o.guard with
 | .call c,En d',I=>match c.callee,c.args.toList,c.argTypes.toList with
  | .builtin .cap,[.tmp x'],[t]=>if x' == x&&d' == d then En t else I
  |_,_,_=>I
 |_,_,_=>I
def R4 (x d:Nat)(o:Oper):Option TypeId:=match o.op,o.dst,o.guard with
 | .call c,En d',I=>match c.callee,c.args.toList,c.argTypes.toList with
  | .builtin .len,[.tmp x'],[t]=>if x' == x&&d' == d then En t else I
  |_,_,_=>I
 |_,_,_=>I
def L5 (x h d:Nat)(o:Oper):Option TypeId:=match o.op,o.dst,o.guard with
 | .slice t (.tmp x') I (En (.tmp h')) I,En d',I=>if x' == x&&h' == h&&d' == d then En t else I
 |_,_,_=>I
def R5 (x y d:Nat)(o:Oper):Option (TypeId×TypeId):=match o.op,o.dst,o.guard with
 | .call c,En d',I=>match c.callee,c.args.toList,c.argTypes.toList with
  | .builtin .append,[.tmp x',.tmp y'],[t,u]=>if x' == x&&y' == y&&d' == d then En (t,u)else I
  |_,_,_=>I
 |_,_,_=>I
def jj8 (ops:Array Oper):Option (TypeId×TypeId):=match ops.toList with
 | [o0,o1,o2,o3,o4,o5,o6,o7,o8,o9]=>match R3 18 19 o2,L5 17 19 20 o3,R5 20 21 22 o5,R4 23 24 o7,L5 22 24 25 o8 with
  |some t2,En t3,En (t,u),En t7,En t8=>if C6 0 17 o0&&C6 0 18 o1&&C6 1 21 o4&&C6 0 23 o6&&R2 25 0 o9&&t2 == t&&t3 == t&&t7 == t&&t8 == t then En (t,u)else I
  |_,_,_,_,_=>I
 |_=>I
def L6 (P:Program)(nt:Nat)(ops:Array Oper):Option Nat:=match jj8 ops with
 |some (t,u)=>match P.underlying t,P.underlying u with
  |some (.slice e),En (.int _)=>match P.info? e with
   |some i=>if i.zero.isSome&&0<i.size&&i.bytes≤4096&&26≤nt&&(ef P e).isSome&&(ef P e).map (·.length) == En i.size then En i.size else I
   |none=>I
  |_,_=>I
 |none=>I
def gw (P:Program)(h:qb)(nt:Nat):Code→Option qf
 | .skip=>En .skip
 | .label _=>En .skip
 | .region id ops draw=>match draw,L6 P nt ops with
  |false,En sz=>En (.grow sz)
  |_,_=>EE P h nt id ops draw
 | .seq a b=>match gw P h nt a,gw P h nt b with
  |some x,En y=>En (.seq x y)
  |_,_=>I
 | .cond c a b=>match zr c,gw P h nt a,gw P h nt b with
  |some c,En x,En y=>En (.cond c x y)
  |_,_,_=>I
 | .block id b=>(gw P h nt b).map (.block id)
 | .loop b=>(gw P h nt b).map .loop
 | .scope b=>(gw P h nt b).map fun x=>.seq x .skip
 | .rangeFunc f ps a b=>match zr f,gw P h nt a,gw P h nt b with
  |some f,En x,En y=>if ps.all (decide <| · < nt)then En (.rangeFunc f ps.toList x y)else I
  |_,_,_=>I
 | .exit id=>En (.exit id)
 | .ret=>En .ret
 |_=>En .stuck
def L7 (P:Program):ResultVar→Option ja
 | .tmp t=>En (.tmp t)
 | .cell t ty=>match fb P ty,yg P ty with
  |some E2,En n=>En (.cell t E2 n)
  |some E1,En 1=>En (.cell t E1 1)
  |_,_=>I
def yQ (P:Program):List ResultVar→Option (List ja)
 | []=>En []
 |r::rs=>match L7 P r,yQ P rs with
  |some x,En xs=>En (x::xs)
  |_,_=>I
def EF (P:Program)(h:qb)(f:Func):Option qd:=
 match f.body with
 |some c=>match gw P h f.ntmps c,yQ P f.results.toList with
  | some b, En rs => if f.name == "runtime.NumGoroutine" then I else En ⟨f.ntmps, b, rs⟩
  |_,_=>I
 |none=>I
structure ay where
 K:Nat→Nat→Option Value
 β:Nat→Option Nat
 W:Nat→Prop
 D:Nat→Prop
 T:Nat×Nat×Nat×Nat→Prop
def ay.bK (K:Nat→Nat→Option Value):ay:=⟨K,fun _=>I,fun _=>False,fun _=>False,fun _=>False⟩
def eS (C:ay):Fn→Fn→Prop
 | .yield b,f=>∃r,C.β b=En r∧f=.yield r
 |f,f'=>f'=f
inductive jh where
 |val (x:qa) (v:Value)
 |cells (r:Nat) (xs:List qa) (o:Nat)
 |row (r sz:Nat) (xs:List qa) (o:Nat)
 |eJ (xs:List qa) (vs:List Value)
inductive qp (C:ay):jh→Prop where
 |bool (b:Bool):qp C (.val (.bool b) (.bool b))
 |int (k:IntKind) (n:Int):qp C (.val (.int k n) (.int k n))
 |str (s:List UInt8):qp C (.val (.str s) (.string ⟨⟨s⟩⟩))
 |iH (sz:Nat):qp C (.val (.list E2 sz []) (.slice I 0 0))
 |list (sz:Nat) (xs:List qa) (r o cap:Nat) (hl:xs.length≤cap) (hr:qp C (.row r sz xs o)):qp C (.val (.list E1 sz xs) (.slice (En ⟨r,o,I⟩) xs.length cap))
 |iI (sz:Nat) (a:Addr) (hs:a.spot≠I):qp C (.val (.list E1 sz []) (.slice (En a) 0 0))
 |ms (b o len r cap:Nat) (hb:C.β b=En r) (hl:len≤cap):qp C (.val (.ms b o len) (.slice (En ⟨r,o,I⟩) len cap))
 |ptr (b o r:Nat) (hb:C.β b=En r):qp C (.val (.ptr b o) (.pointer (En ⟨r,o,I⟩)))
 |ah (x:qa) (r o:Nat) (h:qp C (.cells r x.flat o)):qp C (.val (.ah x) (.pointer (En ⟨r,o,I⟩)))
 |bN:qp C (.val .bN (.pointer I))
 |map (b r:Nat) (hb:C.β b=En r):qp C (.val (.map b) (.map (En r)))
 |bM:qp C (.val .bM (.map I))
 |fn (f f':Fn) (a b:List qa) (as bs:List Value) (hf:eS C f f') (ha:qp C (.eJ a as)) (hb:qp C (.eJ b bs)):qp C (.val (.fn f a b) (.func f' ⟨as⟩ ⟨bs⟩))
 |bX:qp C (.val .bX .nilFunc)
 |agg (cs:List qa) (vs:List Value) (h:qp C (.eJ cs vs)):qp C (.val (.agg cs) (.agg ⟨vs⟩))
 |aC (cs:List qa) (vs:List Value) (h:qp C (.eJ cs vs)):qp C (.val (.aC cs) (.tuple ⟨vs⟩))
 |undef:qp C (.val .undef (.tuple #[]))
 |any (v:Value):qp C (.val .any v)
 |cE (n:Nat) (a:Addr):qp C (.val (.cE n) (.pointer (En a)))
 |ak (b bu len r0 r cap:Nat) (hb:C.β b=En r0) (ht:C.T (r0,bu,r,cap)) (hl:len≤cap):qp C (.val (.ak b bu len) (.slice (En ⟨r,0,I⟩) len cap))
 |dq (b bu off r0 r cap:Nat) (hb:C.β b=En r0) (ht:C.T (r0,bu,r,cap)):qp C (.val (.dq b bu off) (.pointer (En ⟨r,off,I⟩)))
 |gI (r o:Nat):qp C (.cells r [] o)
 |dc (r o:Nat) (x:qa) (xs:List qa) (v:Value) (hv:C.K r o=En v) (hx:qp C (.val x v)) (h:qp C (.cells r xs (o+1))):qp C (.cells r (x::xs) o)
 |fe (r sz o:Nat):qp C (.row r sz [] o)
 |cY (r sz o:Nat) (x:qa) (xs:List qa) (hs:x.flat.length=sz) (hx:qp C (.cells r x.flat o)) (h:qp C (.row r sz xs (o+sz))):qp C (.row r sz (x::xs) o)
 |nil:qp C (.eJ [] [])
 |cons (x:qa) (xs:List qa) (v:Value) (vs:List Value) (hx:qp C (.val x v)) (h:qp C (.eJ xs vs)):qp C (.eJ (x::xs) (v::vs))
abbrev bD (C:ay)(x:qa)(v:Value):Prop:=qp C (.val x v)
abbrev aM (C:ay)(xs:List qa)(vs:List Value):Prop:=qp C (.eJ xs vs)
abbrev bY (C:ay)(r:Nat)(xs:List qa)(o:Nat):Prop:=qp C (.cells r xs o)
abbrev aY (C:ay)(r sz:Nat)(xs:List qa)(o:Nat):Prop:=qp C (.row r sz xs o)
structure ay.le (C C':ay):Prop where
 k:∀r o v,C.K r o=En v→C'.K r o=En v
 b:∀b r,C.β b=En r→C'.β b=En r
 w:C'.W=C.W
 d:∀r,C.D r→C'.D r
 t:∀q,C.T q→C'.T q:=by exact fun _ h=>h
theorem ay.le_refl (C:ay):C.le C:=⟨fun _ _ _ h=>h,fun _ _ h=>h,rfl,fun _ h=>h,fun _ h=>h⟩
theorem ay.le_trans {A B C:ay}(h:A.le B)(k:B.le C):A.le C:=⟨fun r o v x=>k.1 r o v (h.1 r o v x),fun b r x=>k.2 b r (h.2 b r x),k.w.trans h.w,fun r x=>k.d r (h.d r x),fun r x=>k.t r (h.t r x)⟩
theorem eS.imp {C C':ay}(h:(∀r o v,C.K r o=En v→C'.K r o=En v)∧(∀b r,C.β b=En r→C'.β b=En r)){f f':Fn}(hf:eS C f f'):eS C' f f':=by
 cases f<;>simp only[eS]at *<;>first|exact hf|exact⟨hf.choose,h.2 _ _ hf.choose_spec.1,hf.choose_spec.2⟩
theorem qp.imp {C C':ay}(h:(∀r o v,C.K r o=some v→C'.K r o=some v)∧(∀b r,C.β b=some r→C'.β b=some r)){i:jh}(hr:qp C i)(hT:∀q,C.T q→C'.T q:=by first|exact fun _ h=>h|exact fun _ h=>False.elim h):qp C' i:=by
 induction hr with
 |bool b=>exact .bool b
 |int k n=>exact .int k n
 |str s=>exact .str s
 |iH sz=>exact .iH sz
 |list sz xs r o cap hl _ ih=>exact .list sz xs r o cap hl ih
 |iI sz a hs=>exact .iI sz a hs
 |ms b o len r cap hb hl=>exact .ms b o len r cap (h.2 _ _ hb) hl
 |ptr b o r hb=>exact .ptr b o r (h.2 _ _ hb)
 |ah x r o _ ih=>exact .ah x r o ih
 |bN=>exact .bN
 |map b r hb=>exact .map b r (h.2 _ _ hb)
 |bM=>exact .bM
 |fn f f' a b as bs hf _ _ ha hb=>exact .fn f f' a b as bs (hf.imp h) ha hb
 |bX=>exact .bX
 |agg cs vs _ ih=>exact .agg cs vs ih
 |aC cs vs _ ih=>exact .aC cs vs ih
 |undef=>exact .undef
 |any v=>exact .any v
 |cE n a=>exact .cE n a
 |ak b bu len r0 r cap hb ht hl=>exact .ak b bu len r0 r cap (h.2 _ _ hb) (hT _ ht) hl
 |dq b bu off r0 r cap hb ht=>exact .dq b bu off r0 r cap (h.2 _ _ hb) (hT _ ht)
 |gI r o=>exact .gI r o
 |dc r o x xs v hv _ _ nu ih=>exact .dc r o x xs v (h.1 _ _ _ hv) nu ih
 |fe r sz o=>exact .fe r sz o
 |cY r sz o x xs hs _ _ nu ih=>exact .cY r sz o x xs hs nu ih
 |nil=>exact .nil
 |cons x xs v vs _ _ nu ih=>exact .cons x xs v vs nu ih
theorem qp.mono {C C':ay}(h:C.le C'){i:jh}(hr:qp C i):qp C' i:=hr.imp ⟨h.k,h.b⟩ h.t
def jh.below (n:Nat):jh→Bool
 | .val x _=>Abs.below n x
 | .cells _ xs _=>zw n xs
 | .row _ _ xs _=>zw n xs
 | .eJ xs _=>zw n xs
theorem L8 (n:Nat)(x:qa):zw n x.flat=Abs.below n x:=by
 cases x<;>simp[qa.flat,zw,Abs.below]
theorem qp.shift {C C':ay}(n:Nat)(hK:∀r o v,C.K r o=some v→C'.K r o=some v)(hβ:∀b r,b<n→C.β b=some r→C'.β b=some r){i:jh}(hr:qp C i)(hb:i.below n=true)(hT:∀q,0<n→C.T q→C'.T q:=by first|exact fun _ _ h=>h|exact fun _ h=>absurd h (Nat.lt_irrefl 0)|exact fun _ _ h=>False.elim h):qp C' i:=by
 induction hr with
 |bool b=>exact .bool b
 |int k n=>exact .int k n
 |str s=>exact .str s
 |iH sz=>exact .iH sz
 |list sz xs r o cap hl _ ih=>exact .list sz xs r o cap hl (ih (by simpa[jh.below,Abs.below]using hb))
 |iI sz a hs=>exact .iI sz a hs
 |ms b o len r cap h1 hl=>exact .ms b o len r cap (hβ _ _ (by simpa[jh.below,Abs.below]using hb) h1) hl
 |ptr b o r h1=>exact .ptr b o r (hβ _ _ (by simpa[jh.below,Abs.below]using hb) h1)
 |ah x r o _ ih=>exact .ah x r o (ih (by simpa[jh.below,Abs.below,L8]using hb))
 |bN=>exact .bN
 |map b r h1=>exact .map b r (hβ _ _ (by simpa[jh.below,Abs.below]using hb) h1)
 |bM=>exact .bM
 |fn f f' a b as bs hf _ _ iha ihb=>
  have R6:eS C' f f':=by
   cases f<;>simp only[eS]at *<;>first|exact hf|skip
   obtain⟨r,h1,rfl⟩:=hf
   simp[jh.below,Abs.below]at hb
   exact⟨r,hβ _ _ hb.1.1 h1,rfl⟩
  have pz:zw n a=E2∧zw n b=E2:=by
   cases f<;>simp[jh.below,Abs.below]at hb<;>first|exact hb|exact⟨hb.1.2,hb.2⟩
  exact .fn f f' a b as bs R6 (iha pz.1) (ihb pz.2)
 |bX=>exact .bX
 |agg cs vs _ ih=>exact .agg cs vs (ih (by simpa[jh.below,Abs.below]using hb))
 |aC cs vs _ ih=>exact .aC cs vs (ih (by simpa[jh.below,Abs.below]using hb))
 |undef=>exact .undef
 |any v=>exact .any v
 |cE n a=>exact .cE n a
 |ak b bu len r0 r cap h1 ht hl=>
  have yR:b<n:=by simpa[jh.below,Abs.below]using hb
  exact .ak b bu len r0 r cap (hβ _ _ yR h1) (hT _ (by omega) ht) hl
 |dq b bu off r0 r cap h1 ht=>
  have yR:b<n:=by simpa[jh.below,Abs.below]using hb
  exact .dq b bu off r0 r cap (hβ _ _ yR h1) (hT _ (by omega) ht)
 |gI r o=>exact .gI r o
 |dc r o x xs v hv _ _ nu ih=>
  simp[jh.below,zw]at hb nu ih
  exact .dc r o x xs v (hK _ _ _ hv) (nu hb.1) (ih hb.2)
 |fe r sz o=>exact .fe r sz o
 |cY r sz o x xs hs _ _ nu ih=>
  simp[jh.below,zw,L8]at hb nu ih
  exact .cY r sz o x xs hs (nu hb.1) (ih hb.2)
 |nil=>exact .nil
 |cons x xs v vs _ _ nu ih=>
  simp[jh.below,zw]at hb nu ih
  exact .cons x xs v vs (nu hb.1) (ih hb.2)
theorem aM.length {C:ay}{xs:List qa}:∀ {vs:List Value},aM C xs vs→vs.length=xs.length:=by
 induction xs with
 |nil=>intro vs h;cases h;rfl
 |cons x xs ih=>intro vs h;cases h with|cons _ _ v vs hx h=>simp[ih h]
theorem aM.get {C:ay}{xs:List qa}:∀ {vs:List Value},aM C xs vs→∀ {i:Nat} {x:qa},xs[i]?=En x→∃v,vs[i]?=En v∧bD C x v:=by
 induction xs with
 |nil=>intro vs _ i x h;simp at h
 |cons y ys ih=>
  intro vs h i x hi
  cases h with
  |cons _ _ v vs hx h=>
   cases i with
   |zero=>simp at hi;subst hi;exact⟨v,rfl,hx⟩
   |succ i=>simp at hi;obtain⟨w,h1,h2⟩:=ih h hi;exact⟨w,by simpa using h1,h2⟩
theorem aM.append {C:ay}{xs ys:List qa}:∀ {vs ws:List Value},aM C xs vs→aM C ys ws→aM C (xs++ys) (vs++ws):=by
 induction xs with
 |nil=>intro vs ws h k;cases h;exact k
 |cons x xs ih=>intro vs ws h k;cases h with|cons _ _ v vs hx h=>exact .cons _ _ _ _ hx (ih h k)
theorem aM.take {C:ay}{xs:List qa}:∀ {vs:List Value} (n:Nat),aM C xs vs→aM C (xs.take n) (vs.take n):=by
 induction xs with
 |nil=>intro vs n h;cases h;simpa using qp.nil
 |cons x xs ih=>intro vs n h;cases h with|cons _ _ v vs hx h=>cases n with
  |zero=>simpa using qp.nil
  |succ n=>exact .cons _ _ _ _ hx (ih n h)
theorem aM.drop {C:ay}{xs:List qa}:∀ {vs:List Value} (n:Nat),aM C xs vs→aM C (xs.drop n) (vs.drop n):=by
 induction xs with
 |nil=>intro vs n h;cases h;simpa using qp.nil
 |cons x xs ih=>intro vs n h;cases h with|cons _ _ v vs hx h=>cases n with
  |zero=>exact .cons _ _ _ _ hx h
  |succ n=>simpa using ih n h
theorem bY.get {C:ay}{r:Nat}{xs:List qa}:∀ {o:Nat},bY C r xs o→∀ {i:Nat} {x:qa},xs[i]?=En x→∃v,C.K r (o+i)=En v∧bD C x v:=by
 induction xs with
 |nil=>intro o _ i x h;simp at h
 |cons y ys ih=>
  intro o h i x hi
  cases h with
  |dc _ _ _ _ v hv hx h=>
   cases i with
   |zero=>simp at hi;subst hi;exact⟨v,hv,hx⟩
   |succ i=>simp at hi;obtain⟨w,h1,h2⟩:=ih h hi;exact⟨w,by rw[show o+(i+1)=o+1+i from by omega];exact h1,h2⟩
theorem bY.drop {C:ay}{r:Nat}{xs:List qa}:∀ {o:Nat} (n:Nat),bY C r xs o→bY C r (xs.drop n) (o+n):=by
 induction xs with
 |nil=>intro o n h;simpa using qp.gI r (o+n)
 |cons x xs ih=>intro o n h;cases h with|dc _ _ _ _ v hv hx h=>cases n with
  |zero=>exact .dc _ _ _ _ _ hv hx h
  |succ n=>have:=ih n h;rw[show o+(n+1)=o+1+n from by omega];simpa using this
theorem bY.take {C:ay}{r:Nat}{xs:List qa}:∀ {o:Nat} (n:Nat),bY C r xs o→bY C r (xs.take n) o:=by
 induction xs with
 |nil=>intro o n h;simpa using qp.gI r o
 |cons x xs ih=>intro o n h;cases h with|dc _ _ _ _ v hv hx h=>cases n with
  |zero=>simpa using qp.gI r o
  |succ n=>exact .dc _ _ _ _ _ hv hx (ih n h)
theorem bY.append {C:ay}{r:Nat}{xs ys:List qa}:∀ {o:Nat},bY C r xs o→bY C r ys (o+xs.length)→bY C r (xs++ys) o:=by
 induction xs with
 |nil=>intro o _ k;simpa using k
 |cons x xs ih=>intro o h k;cases h with|dc _ _ _ _ v hv hx h=>exact .dc _ _ _ _ _ hv hx (ih h (by simpa[Nat.add_assoc,Nat.add_comm 1]using k))
theorem aY.get {C:ay}{r sz:Nat}{xs:List qa}:∀ {o:Nat},aY C r sz xs o→∀ {i:Nat} {x:qa},xs[i]?=En x→bY C r x.flat (o+i*sz):=by
 induction xs with
 |nil=>intro o _ i x h;simp at h
 |cons y ys ih=>
  intro o h i x hi
  cases h with
  |cY _ _ _ _ _ hs hx h=>
   cases i with
   |zero=>simp at hi;subst hi;simpa using hx
   |succ i=>simp at hi;have:=ih h hi;rw[show o+(i+1)*sz=o+sz+i*sz from by rw[Gp];omega];exact this
theorem aY.drop {C:ay}{r sz:Nat}{xs:List qa}:∀ {o:Nat} (n:Nat),aY C r sz xs o→aY C r sz (xs.drop n) (o+n*sz):=by
 induction xs with
 |nil=>intro o n h;simpa using qp.fe r sz (o+n*sz)
 |cons x xs ih=>intro o n h;cases h with|cY _ _ _ _ _ hs hx h=>cases n with
  |zero=>simpa using qp.cY _ _ _ _ _ hs hx h
  |succ n=>have:=ih n h;rw[show o+(n+1)*sz=o+sz+n*sz from by rw[Gp];omega];simpa using this
theorem aY.take {C:ay}{r sz:Nat}{xs:List qa}:∀ {o:Nat} (n:Nat),aY C r sz xs o→aY C r sz (xs.take n) o:=by
 induction xs with
 |nil=>intro o n h;simpa using qp.fe r sz o
 |cons x xs ih=>intro o n h;cases h with|cY _ _ _ _ _ hs hx h=>cases n with
  |zero=>simpa using qp.fe r sz o
  |succ n=>exact .cY _ _ _ _ _ hs hx (ih n h)
theorem aY.append {C:ay}{r sz:Nat}{xs ys:List qa}:∀ {o:Nat},aY C r sz xs o→aY C r sz ys (o+xs.length*sz)→aY C r sz (xs++ys) o:=by
 induction xs with
 |nil=>intro o _ k;simpa using k
 |cons x xs ih=>
  intro o h k
  cases h with
  |cY _ _ _ _ _ hs hx h=>
   refine .cY _ _ _ _ _ hs hx (ih h ?_)
   have e:o+sz+xs.length*sz=o+(x::xs).length*sz:=by simp[Gp];omega
   rw[e];exact k
theorem aY.sized {C:ay}{r sz:Nat}{xs:List qa}:∀ {o:Nat},aY C r sz xs o→∀x∈xs,x.flat.length=sz:=by
 induction xs with
 |nil=>intro o _ x hx;cases hx
 |cons y ys ih=>
  intro o h x hx
  cases h with
  |cY _ _ _ _ _ hs _ h=>
   rcases List.mem_cons.1 hx with rfl|hx
   ·exact hs
   ·exact ih h x hx
theorem aY.cells {C:ay}{r sz:Nat}{xs:List qa}:∀ {o:Nat},aY C r sz xs o→bY C r (xs.flatMap qa.flat) o:=by
 induction xs with
 |nil=>intro o _;exact .gI _ _
 |cons x xs ih=>
  intro o h
  cases h with
  |cY _ _ _ _ _ hs hx h=>
   simp only[Gq]
   refine bY.append hx ?_
   rw[hs]
   exact ih h
theorem aY.ej {C:ay}{r sz:Nat}{xs:List qa}:∀ {o:Nat},bY C r (xs.flatMap qa.flat) o→(∀x∈xs,x.flat.length=sz)→aY C r sz xs o:=by
 induction xs with
 |nil=>intro o _ _;exact .fe _ _ _
 |cons x xs ih=>
  intro o h hl
  simp only[Gq]at h
  have h1:=bY.take (x.flat.length) h
  have h2:=bY.drop (x.flat.length) h
  rw[List.take_left' rfl]at h1
  rw[List.drop_left' rfl,hl x (by simp)]at h2
  exact .cY _ _ _ _ _ (hl x (by simp)) h1 (ih h2 fun y hy=>hl y (by simp[hy]))
theorem bY.vals {C:ay}{r:Nat}{xs:List qa}:∀ {o:Nat},bY C r xs o→∃vs,aM C xs vs∧∀j v,vs[j]?=En v→C.K r (o+j)=En v:=by
 induction xs with
 |nil=>intro o _;exact⟨[],.nil,by simp⟩
 |cons x xs ih=>
  intro o h
  cases h with
  |dc _ _ _ _ v hv hx h=>
   obtain⟨vs,h1,h2⟩:=ih h
   refine⟨v::vs,.cons _ _ _ _ hx h1,?_⟩
   intro j u hj
   cases j with
   |zero=>simp at hj;subst hj;exact hv
   |succ j=>simp at hj;rw[show o+(j+1)=o+1+j from by omega];exact h2 j u hj
inductive Loc where
 |slot (s:Nat)
 |cell (b j:Nat)
 deriving DecidableEq
def ek (sz:Nat)(xs:List qa)(cells:Array Value)(elem:TypeId)(len cap:Nat):Prop:=
 ∀(e:Nat) (l:List UInt8),sz=0→xs=[.int .u64 (e:Int),.str l]→elem=e∧len=l.length∧len≤cap∧cap≤maxLen∧cells.size=cap∧cells.toList.take len=l.map fun b=>Value.int .u8 b.toNat
theorem ek.pos {sz:Nat}{xs:List qa}{cells:Array Value}{elem:TypeId}{len cap:Nat}(h:0<sz):ek sz xs cells elem len cap:=fun _ _ h0=>by omega
theorem ek.sized {sz:Nat}{xs:List qa}{cells:Array Value}{elem:TypeId}{len cap:Nat}(h:∀x∈xs,x.flat.length=sz):ek sz xs cells elem len cap:=fun e l h0 hx=>by
 have:=h (.str l) (by rw[hx];simp)
 simp[qa.flat,h0]at this
def aF (C:ay)(ω:Nat→Option Loc)(w:World)(B:Nat)(ℓ:Loc):qa→Value→Prop
 | .list _ sz xs,.slice (En a) len cap=>ω a.block=En ℓ∧(B≤a.block∨C.W a.block)∧(∀b,C.β b≠En a.block)∧a.spot=I∧a.off=0 ∧
   (∃cells elem,w.heap[a.block]?=En (.cells cells elem (0,0))∧a.off+cap*sz≤cells.size∧ek sz xs cells elem len cap)∧∀o,a.off+len*sz≤o→C.K a.block o=I
 | .cE n,.pointer (En a)=>ω a.block=En ℓ∧(B≤a.block∨C.W a.block)∧(∀b,C.β b≠En a.block)∧a.spot=I∧a.off=0 ∧
   (∃cells elem,w.heap[a.block]?=En (.cells cells elem (0,0))∧a.off+n*1≤cells.size∧ek 0 [] cells elem 0 0)∧∀o,a.off+0*0≤o→C.K a.block o=I
 |_,_=>True
structure Ext (w w':World):Prop where
 size:w.heap.size≤w'.heap.size
 same:∀r,r<w.heap.size→w'.heap[r]?=w.heap[r]?
 os:w'.os=w.os
 output:w'.output=w.output
theorem Ext.refl (w:World):Ext w w:=⟨Gn _,fun _ _=>rfl,rfl,rfl⟩
theorem Ext.get {w w':World}(h:Ext w w'){r:Nat}{o:Obj}(hr:w.heap[r]?=En o):w'.heap[r]?=En o:=by
 rw[h.same r (Gk.1 hr).1];exact hr
theorem Ext.trans {a b c:World}(h:Ext a b)(k:Ext b c):Ext a c where
 size:=Nat.le_trans h.size k.size
 same r hr:=by rw[k.same r (Gl hr h.size),h.same r hr]
 os:=k.os.trans h.os
 output:=k.output.trans h.output
theorem u0 (w:World)(o:Obj)(r:Nat):(w.alloc o).heap[r]?=if r=w.heap.size then En o else w.heap[r]?:=by
 show(w.heap.push o)[r]?=_
 rw[Array.getElem?_push]
theorem Ext.alloc (w:World)(o:Obj)(ho:∀c t fr,o=.cells c t fr→fr=(0,0)):Ext w (w.alloc o) where
 size:=by rw[World.size_alloc];omega
 same r hr:=by rw[u0,if_neg (by omega)]
 os:=rfl
 output:=rfl
theorem Ext.drew (w:World):Ext w w.drew:=⟨Gn _,fun _ _=>rfl,rfl,rfl⟩
theorem Ext.cell {w w':World}(h:Ext w w'){a:Addr}{v:Value}(hc:w.cell? a=En v):w'.cell? a=En v:=by
 unfold World.cell? at *
 cases hr:w.heap[a.block]? with
 |none=>rw[hr]at hc;cases hc
 |some o=>rw[h.get hr];rw[hr]at hc;exact hc
theorem aF.ext {C:ay}{ω:Nat→Option Loc}{w w':World}{B:Nat}{ℓ:Loc}{x:qa}{v:Value}(h:Ext w w')(ho:aF C ω w B ℓ x v):aF C ω w' B ℓ x v:=by
 unfold aF at *
 split at ho
 ·obtain⟨h1,h2,h3,h4,h8,⟨cells,elem,h5,h6⟩,h7⟩:=ho
  exact⟨h1,h2,h3,h4,h8,⟨cells,elem,h.get h5,h6⟩,h7⟩
 ·obtain⟨h1,h2,h3,h4,h8,⟨cells,elem,h5,h6⟩,h7⟩:=ho
  exact⟨h1,h2,h3,h4,h8,⟨cells,elem,h.get h5,h6⟩,h7⟩
 ·trivial
inductive qz (C:ay):List (qa×qa)→List MapEntry→Prop where
 |nil:qz C [] []
 |cons (k v:qa) (es:List (qa×qa)) (m:MapEntry) (ms:List MapEntry) (hk:bD C k m.key) (hv:bD C v m.val) (h:qz C es ms):qz C ((k,v)::es) (m::ms)
theorem qz.imp {C C':ay}(h:(∀r o v,C.K r o=some v→C'.K r o=some v)∧(∀b r,C.β b=some r→C'.β b=some r)){es:List (qa×qa)}{ms:List MapEntry}(hr:qz C es ms)(hT:∀q,C.T q→C'.T q:=by first|exact fun _ h=>h|exact fun _ h=>False.elim h):qz C' es ms:=by
 induction hr with
 |nil=>exact .nil
 |cons k v es m ms hk hv _ ih=>exact .cons k v es m ms (qp.imp h hk hT) (qp.imp h hv hT) ih
theorem qz.mono {C C':ay}(h:C.le C'){es:List (qa×qa)}{ms:List MapEntry}(hr:qz C es ms):qz C' es ms:=hr.imp ⟨h.k,h.b⟩ h.t
def aW (C:ay)(e:Env)(tmps:Array Value):Prop:=∀s x,yd s e=En x→∃v,tmps[s]?=En v∧bD C x.1 v
def EG (P:Program)(nt:Nat)(c:Code)(a:qf):Prop:=∃h,gw P h nt c=En a
structure q9 (P:Program)(C:ay)(l:jp)(lp:Loop):Prop where
 assign:EG P lp.tmps.size lp.assign l.assign
 body:EG P lp.tmps.size lp.body l.body
 params:lp.params.toList=l.params
 fits:∀t∈l.params,t<lp.tmps.size
 nr:kn l.assign=E2∧kn l.body=E2
 env:aW C l.env lp.tmps
 state:lp.state=match l.pending with
  |none=>.ready
  |some .normal=>.busy
  |some _=>.done
 pending:lp.pending=match l.pending with
  |none=>I
  |some .normal=>I
  |some (.exit id)=>En (.exit id)
  |some .ret=>En .ret
def dL (K:Nat→Nat→Option Value)(w:World)(q sz:Nat)(xs:List qa)(cap:Nat):Prop:=
 ∃cells t vs,w.heap[q]?=En (.cells cells t (0,0))∧xs.length≤cap∧cap*sz≤cells.size∧(∀x∈xs,x.flat.length=sz)∧aM (.bK K) (xs.flatMap qa.flat) vs ∧
  (∀(j:Nat) v,vs[j]?=En v→cells[j]?=En v)∧∀v∈vs,v.oneCell'=E2
theorem dL.imp {K K':Nat→Nat→Option Value}{w w':World}{q sz cap:Nat}{xs:List qa}(hK:∀r o v,K r o=En v→K' r o=En v)(hw:w'.heap[q]?=w.heap[q]?)(h:dL K w q sz xs cap):dL K' w' q sz xs cap:=by
 obtain⟨cells,t,vs,h1,h2,h3,h4,h5,h6⟩:=h
 exact⟨cells,t,vs,hw.trans h1,h2,h3,h4,qp.imp (C:=.bK K) (C':=.bK K') ⟨hK,fun _ _ h=>h⟩ h5,h6⟩
abbrev wE (C:ay)(ω:Nat→Option Loc)(w:World)(B b q n cap:Nat):Prop:=aF C ω w B (.cell b 0) (.list E1 0 []) (.slice (En ⟨q,0,I⟩) n cap)
def dC (C:ay)(ω:Nat→Option Loc)(w:World)(B b r sz bu:Nat)(xs:List qa):Prop:=
 ∃q cap,C.T (r,bu,q,cap)∧(∀x,C.T x→x.1=r→x.2.1≤bu∧(x.2.1=bu→x.2.2=(q,cap)))∧dL C.K w q sz xs cap∧(q=r∨wE C ω w B b q xs.length cap)∧∃cs t,w.heap[r]?=En (.cells cs t (0,0))
theorem dC.imp {C C':ay}{ω ω':Nat→Option Loc}{w w':World}{B B' b r sz bu:Nat}{xs:List qa}(hK:∀r o v,C.K r o=En v→C'.K r o=En v)(hT:∀q,C.T q→C'.T q)(EH:∀x,C'.T x→x.1=r→C.T x)(hw:w'.heap[r]?=w.heap[r]?)
  (hq:∀q n cap,wE C ω w B b q n cap→w'.heap[q]?=w.heap[q]?∧wE C' ω' w' B' b q n cap) (h:dC C ω w B b r sz bu xs):dC C' ω' w' B' b r sz bu xs:=by
 obtain⟨q,cap,h1,h2,h3,h4,cs,t,h5⟩:=h
 refine⟨q,cap,hT _ h1,fun x hx hr=>h2 x (EH x hx hr) hr,?_,?_,cs,t,hw.trans h5⟩
 ·rcases h4 with rfl|h4
  ·exact h3.imp hK hw
  ·exact h3.imp hK (hq _ _ _ h4).1
 ·exact h4.imp id fun h=>(hq _ _ _ h).2
def bn (P:Program)(C:ay)(ω:Nat→Option Loc)(w:World)(B b r:Nat):qn→Prop
 | .hole=>False
 | .cells cs=>∃vs elem,w.heap[r]?=En (.cells vs elem (0,0))∧cs.length≤vs.size ∧
   ∀j c,cs[j]?=En c→∃v,vs[j]?=En v∧v.oneCell'=E2∧bD C c.1 v∧(c.2=E2→aF C ω w B (.cell b j) c.1 v)
 | .map es=>∃bP clock,w.heap[r]?=En (.map bP clock)∧qz C es bP.toList
 | .iter s pos=>w.heap[r]?=En (.stringIter ⟨⟨s⟩⟩ pos)
 | .loop l=>∃lp,w.heap[r]?=En (.loop lp)∧q9 P C l lp
 | .fB t e l=>∃p v,w.heap[r]?=En (.cells #[p,v] t (0,0))∧(p=.pointer I∨p=.pointer (En ⟨r,0,I⟩))∧((v=.slice I 0 0∧l=[])∨∃a len cap,v=.slice (En a) len cap)∧aF C ω w B (.cell b 1) (.list E1 0 [.int .u64 (e:Int),.str l]) v
 | .dead=>∃cs t,w.heap[r]?=En (.cells cs t (0,0))
 | .vec sz bu xs=>dC C ω w B b r sz bu xs
def nv : String := "internal/strconv.uint64pow10"
def wF : String := "internal/bytealg.MaxLen"
def j0e (P:Program)(w:World)(g:Nat):Prop:=
 (P.globalNamed nv=En g→Lib.TabIs P w nv .u64 Lib.pow10Tab)∧(P.globalNamed wF=En g→∃m,w.cell? ⟨g,0,I⟩=En (.int .i64 m)) ∧
 (∀x∈CY,P.globalNamed x.1=En g→∀j n,x.2[j]?=En n→w.cell? ⟨g,j,I⟩=En (.int .i64 n))
def R7 (P:Program)(g:Nat):Prop:=P.globalNamed nv=En g∨P.globalNamed wF=En g∨∃x∈CY,P.globalNamed x.1=En g
def Tabs (P:Program)(w:World):Prop:=∀g,R7 P g→g<w.heap.size∧j0e P w g
theorem Tabs.same {P:Program}{w w':World}(h:Tabs P w)(hs:w.heap.size≤w'.heap.size)(hg:∀g,R7 P g→w'.heap[g]?=w.heap[g]?):Tabs P w':=by
 intro g hn
 obtain⟨h1,h2,h3,h5⟩:=h g hn
 refine⟨Gl h1 hs,fun C7=>?_,fun C7=>?_,fun x hx C7 j n hj=>?_⟩
 ·have h2:=h2 C7
  unfold Lib.TabIs World.var? at *
  rw[C7]at h2 ⊢
  simp only[Option.bind_some]at h2 ⊢
  rw[hg g hn]
  exact h2
 ·obtain⟨m,h4⟩:=h3 C7
  refine⟨m,?_⟩
  unfold World.cell? at *
  simp only[]at h4 ⊢
  rw[hg g hn]
  exact h4
 ·have h4:=h5 x hx C7 j n hj
  unfold World.cell? at *
  simp only[]at h4 ⊢
  rw[hg g hn]
  exact h4
theorem Tabs.none {P:Program}{w:World}(h:P.globalNamed nv=I∧P.globalNamed wF=I∧∀x∈CY,P.globalNamed x.1=I):Tabs P w:=fun g hn=>by
 rcases hn with hn|hn|⟨x,hx,hn⟩
 ·rw[h.1]at hn;cases hn
 ·rw[h.2.1]at hn;cases hn
 ·rw[h.2.2 x hx]at hn;cases hn
def zc7 (P:Program)(w0:World)(C0:ay):Prop:=Tabs P w0∧∀g,R7 P g→(∀b,C0.β b≠En g)∧¬C0.W g
structure av (P:Program)(C:ay)(ω:Nat→Option Loc)(w0:World)(C0:ay)(h:j8)(w:World):Prop where
 base:zc7 P w0 C0
 know:∀r o v,C.K r o=En v→w.cell? ⟨r,o,I⟩=En v
 cQ:∀r o v,C.K r o=En v→v.oneCell'=E2
 apart:∀b r o,C.β b=En r→C.K r o=I
 inj:∀b b' r,C.β b=En r→C.β b'=En r→b=b'
 lt:∀b r,C.β b=En r→r<w.heap.size∧b<h.length
 size:w0.heap.size≤w.heap.size
 frame:∀r,r<w0.heap.size→(∀b,C0.β b≠En r)→¬C0.W r→w.heap[r]?=w0.heap[r]?
 eK:∀r,C.D r→w.heap[r]?=En (.deferred (En []))
 os:w.os=w0.os
 output:w.output=w0.output
 fresh:∀b r,C.β b=En r→C0.β b=En r∨w0.heap.size≤r∨C0.W r
 grown:C0.le C
 old:∀r o,r<w0.heap.size→¬C0.W r→C.K r o=C0.K r o
 box:∀b x r,h[b]?=En x→C.β b=En r→bn P C ω w w0.heap.size b r x
 gV:∀q,C.T q→q.1<w.heap.size
def aj (C:ay)(ω:Nat→Option Loc)(w:World)(B:Nat)(e:Env)(tmps:Array Value):Prop:=
 ∀s x,yd s e=En x→∃v,tmps[s]?=En v∧bD C x.1 v∧(x.2=E2→aF C ω w B (.slot s) x.1 v)
theorem aj.bT {C:ay}{ω:Nat→Option Loc}{w:World}{B:Nat}{e:Env}{tmps:Array Value}(h:aj C ω w B e tmps):aW C e tmps:=
 fun s x hx=>let ⟨v,h1,h2,_⟩:=h s x hx; ⟨v,h1,h2⟩
theorem bn.ext {P:Program}{C:ay}{ω:Nat→Option Loc}{w w':World}{B b r:Nat}{x:qn}(h:Ext w w')(hb:bn P C ω w B b r x):bn P C ω w' B b r x:=by
 cases x with
 |hole=>exact hb
 |cells cs=>
  obtain⟨vs,elem,h1,h2,h3⟩:=hb
  exact⟨vs,elem,h.get h1,h2,fun j c hc=>let ⟨v,a,q,b,d⟩:=h3 j c hc; ⟨v,a,q,b,fun e=>(d e).ext h⟩⟩
 |map es=>obtain⟨bP,clock,h1,h2⟩:=hb;exact⟨bP,clock,h.get h1,h2⟩
 |iter s pos=>exact h.get hb
 |loop l=>obtain⟨lp,h1,h2⟩:=hb;exact⟨lp,h.get h1,h2⟩
 |fB t e l=>obtain⟨p,v,h1,h2,h3,h4⟩:=hb;exact⟨p,v,h.get h1,h2,h3,h4.ext h⟩
 |dead=>obtain⟨cs,t,h1⟩:=hb;exact⟨cs,t,h.get h1⟩
 |vec sz bu xs=>
  obtain⟨q,cap,h1,h2,h3,h4,cs,t,h5⟩:=hb
  have hex:∀ {k:Nat} {o:Obj},w.heap[k]?=En o→w'.heap[k]?=w.heap[k]?:=fun hk=>by rw[h.get hk,hk]
  refine⟨q,cap,h1,h2,h3.imp (fun _ _ _ h=>h) ?_,h4.imp id fun h4=>h4.ext h,cs,t,h.get h5⟩
  obtain⟨cells,t',_,g1,_⟩:=h3
  exact hex g1
theorem av.tabs {P:Program}{C:ay}{ω:Nat→Option Loc}{w0 w:World}{C0:ay}{hp:j8}(m:av P C ω w0 C0 hp w):Tabs P w:=
 m.base.1.same m.size fun g hg=>m.frame g (m.base.1 g hg).1 (m.base.2 g hg).1 (m.base.2 g hg).2
theorem av.ext {P:Program}{C:ay}{ω:Nat→Option Loc}{w0 w w':World}{C0:ay}{hp:j8}(h:Ext w w')(m:av P C ω w0 C0 hp w):av P C ω w0 C0 hp w' where
 base:=m.base
 know r o v hk:=h.cell (m.know r o v hk)
 cQ:=m.cQ
 apart:=m.apart
 inj:=m.inj
 lt b r hb:=⟨Gl (m.lt b r hb).1 h.size,(m.lt b r hb).2⟩
 size:=Nat.le_trans m.size h.size
 frame r hr hn hw:=by rw[h.same r (Gl hr m.size)];exact m.frame r hr hn hw
 eK r hr:=h.get (m.eK r hr)
 os:=h.os.trans m.os
 output:=h.output.trans m.output
 fresh:=m.fresh
 grown:=m.grown
 old:=m.old
 box b x r hx hb:=(m.box b x r hx hb).ext h
 gV q hq:=Gl (m.gV q hq) h.size
theorem aj.ext {C:ay}{ω:Nat→Option Loc}{w w':World}{B:Nat}{e:Env}{tmps:Array Value}(h:Ext w w')(he:aj C ω w B e tmps):aj C ω w' B e tmps:=
 fun s x hx=>let ⟨v,a,b,d⟩:=he s x hx; ⟨v,a,b,fun e=>(d e).ext h⟩
def ay.put (C:ay)(r off:Nat)(vs:List Value):ay:={ C with K:=fun b o=>if b=r∧off≤o∧o<off+vs.length then vs[o-off]? else C.K b o }
theorem ay.fV {C:ay}{r off:Nat}(vs:List Value)(h:∀o,off≤o→C.K r o=I):C.le (C.put r off vs):=
 ⟨fun b o v hk=>(by
  simp only[ay.put]
  rw[if_neg]
  ·exact hk
  ·rintro ⟨rfl,h1,_⟩;rw[h o h1]at hk;cases hk),fun _ _ h=>h,rfl,fun _ h=>h,fun _ h=>h⟩
theorem ay.yS {C:ay}{r off:Nat}{vs:List Value}{j:Nat}{v:Value}(h:vs[j]?=En v):(C.put r off vs).K r (off+j)=En v:=by
 have hj:j<vs.length:=(List.getElem?_eq_some_iff.1 h).1
 show(if r=r∧off≤off+j∧off+j<off+vs.length then vs[off+j-off]? else C.K r (off+j))=En v
 rw[if_pos ⟨rfl,by omega,by omega⟩,show off+j-off=j from by omega,h]
theorem bY.gW {C:ay}{r:Nat}{xs:List qa}:∀ {vs:List Value} {o:Nat},aM C xs vs→(∀j v,vs[j]?=En v→C.K r (o+j)=En v)→bY C r xs o:=by
 induction xs with
 |nil=>intro vs o _ _;exact .gI _ _
 |cons x xs ih=>
  intro vs o h hk
  cases h with
  |cons _ _ v vs hx h=>
   refine .dc _ _ _ _ v (by simpa using hk 0 v rfl) hx (ih h ?_)
   intro j u hj
   rw[show o+1+j=o+(j+1)from by omega]
   exact hk (j+1) u (by simpa using hj)
theorem ay.eF {C:ay}{r off:Nat}{xs:List qa}{vs:List Value}(hn:∀o,off≤o→C.K r o=I)(h:aM C xs vs):bY (C.put r off vs) r xs off:=
 bY.gW (qp.mono (ay.fV vs hn) h) fun _ _ hj=>ay.yS hj
theorem av.iV {P:Program}{C:ay}{ω:Nat→Option Loc}{w0 w:World}{C0:ay}{hp:j8}(m:av P C ω w0 C0 hp w)(r:Nat)(hr:w.heap.size≤r)(o:Nat):C.K r o=I:=by
 cases h:C.K r o with
 |none=>rfl
 |some v=>
  have:=m.know r o v h
  unfold World.cell? at this
  rw[show w.heap[(⟨r,o,I⟩:Addr).block]?=I from Array.getElem?_eq_none hr]at this
  cases this
theorem aF.put {C:ay}{ω:Nat→Option Loc}{w:World}{B r off:Nat}{ℓ:Loc}{x:qa}{v:Value}(vs:List Value)(hr:w.heap.size≤r∨ω r≠En ℓ)(ho:aF C ω w B ℓ x v):aF (C.put r off vs) ω w B ℓ x v:=by
 unfold aF at *
 split at ho
 ·rename_i a len cap
  obtain⟨h1,h2,h3,h4,h8,⟨cells,elem,h5,h6⟩,h7⟩:=ho
  have aX:a.block<w.heap.size:=(Gk.1 h5).1
  refine⟨h1,h2,h3,h4,h8,⟨cells,elem,h5,h6⟩,fun o ho=>?_⟩
  simp only[ay.put]
  rw[if_neg]
  ·exact h7 o ho
  ·rintro ⟨rfl,_⟩
   rcases hr with hr|hr
   ·omega
   ·exact hr h1
 ·rename_i a
  obtain⟨h1,h2,h3,h4,h8,⟨cells,elem,h5,h6⟩,h7⟩:=ho
  have aX:a.block<w.heap.size:=(Gk.1 h5).1
  refine⟨h1,h2,h3,h4,h8,⟨cells,elem,h5,h6⟩,fun o ho=>?_⟩
  simp only[ay.put]
  rw[if_neg]
  ·exact h7 o ho
  ·rintro ⟨rfl,_⟩
   rcases hr with hr|hr
   ·omega
   ·exact hr h1
 ·trivial
theorem q9.imp {P:Program}{C C':ay}(h:(∀r o v,C.K r o=some v→C'.K r o=some v)∧(∀b r,C.β b=some r→C'.β b=some r)){l:jp}{lp:Loop}(k:q9 P C l lp)(hT:∀q,C.T q→C'.T q:=by first|exact fun _ h=>h|exact fun _ h=>False.elim h):q9 P C' l lp:=
 { k with env:=fun s x hx=>let ⟨v,a,b⟩:=k.env s x hx; ⟨v,a,qp.imp h b hT⟩ }
theorem q9.mono {P:Program}{C C':ay}(h:C.le C'){l:jp}{lp:Loop}(k:q9 P C l lp):q9 P C' l lp:=k.imp ⟨h.k,h.b⟩ h.t
theorem bn.imp {P:Program}{C C':ay}{ω ω':Nat→Option Loc}{w w':World}{B B' b r:Nat}{x:qn}(h:(∀r o v,C.K r o=En v→C'.K r o=En v)∧(∀b r,C.β b=En r→C'.β b=En r))(hw:w'.heap[r]?=w.heap[r]?)
  (ho:∀j y v,aF C ω w B (.cell b j) y v→aF C' ω' w' B' (.cell b j) y v) (hb:bn P C ω w B b r x) (hT:∀q,C.T q→C'.T q:=by exact fun _ h=>h) (EH:∀x,C'.T x→x.1=r→C.T x:=by exact fun _ h _=>h)
  (hq:∀q n cap,wE C ω w B b q n cap→w'.heap[q]?=w.heap[q]?:=by exact fun _ _ _ _=>rfl):bn P C' ω' w' B' b r x:=by
 cases x with
 |hole=>exact hb
 |cells cs=>
  obtain⟨vs,elem,h1,h2,h3⟩:=hb
  exact⟨vs,elem,hw.trans h1,h2,fun j c hc=>let ⟨v,a,q,b,d⟩:=h3 j c hc; ⟨v,a,q,qp.imp h b hT,fun e=>ho _ _ _ (d e)⟩⟩
 |map es=>obtain⟨bP,clock,h1,h2⟩:=hb;exact⟨bP,clock,hw.trans h1,h2.imp h hT⟩
 |iter s pos=>exact hw.trans hb
 |loop l=>obtain⟨lp,h1,h2⟩:=hb;exact⟨lp,hw.trans h1,h2.imp h hT⟩
 |fB t e l=>obtain⟨p,v,h1,h2,h3,h4⟩:=hb;exact⟨p,v,hw.trans h1,h2,h3,ho _ _ _ h4⟩
 |dead=>obtain⟨cs,t,h1⟩:=hb;exact⟨cs,t,hw.trans h1⟩
 |vec sz bu xs=>exact dC.imp h.1 hT EH hw (fun q n cap k=>⟨hq q n cap k,ho _ _ _ k⟩) hb
theorem bn.mono {P:Program}{C C':ay}{ω ω':Nat→Option Loc}{w:World}{B b r:Nat}{x:qn}(h:C.le C')
  (ho:∀j y v,aF C ω w B (.cell b j) y v→aF C' ω' w B (.cell b j) y v) (hb:bn P C ω w B b r x) (EH:∀x,C'.T x→x.1=r→C.T x:=by exact fun _ h _=>h):bn P C' ω' w B b r x:=hb.imp ⟨h.k,h.b⟩ rfl ho h.t EH
theorem av.newRow {P:Program}{C:ay}{ω:Nat→Option Loc}{w0 w:World}{C0:ay}{hp:j8}(m:av P C ω w0 C0 hp w)(cells:Array Value)(t:TypeId)(vs:List Value)
  (hv:∀(j:Nat) v,vs[j]?=En v→cells[j]?=En v) (h1:∀v∈vs,v.oneCell'=E2):
  av P (C.put w.heap.size 0 vs) ω w0 C0 hp (w.alloc (.cells cells t)):=by
 have hx:Ext w (w.alloc (.cells cells t)):=Ext.alloc w _ (fun c t fr h=>by cases h;rfl)
 have m':=m.ext hx
 have hn:∀o,C.K w.heap.size o=I:=m.iV _ (Gn _)
 have hle:=ay.fV (C:=C) (off:=0) vs (fun o _=>hn o)
 refine { m' with know:=?_,cQ:=?_,apart:=?_,grown:=ay.le_trans m.grown hle,old:=?_,box:=?_ }
 ·intro r o v hk
  simp only[ay.put]at hk
  split at hk
  ·rename_i hc
   obtain⟨rfl,_,_⟩:=hc
   simp only[World.cell?]
   rw[u0,if_pos rfl]
   simpa using hv _ _ hk
  ·exact m'.know r o v hk
 ·intro r o v hk
  simp only[ay.put]at hk
  split at hk
  ·exact h1 v (List.mem_of_getElem? hk)
  ·exact m.cQ r o v hk
 ·intro b r o hb
  have:=(m.lt b r hb).1
  simp only[ay.put]
  rw[if_neg (by omega)]
  exact m.apart b r o hb
 ·intro r o hr hw
  have:=m.size
  simp only[ay.put]
  rw[if_neg (by omega)]
  exact m.old r o hr hw
 ·intro b x r fg hb
  exact((m.box b x r fg hb).mono (ω':=ω) hle fun j y v ho=>ho.put vs (.inl (Gn _))).ext hx
theorem aj.put {C:ay}{ω:Nat→Option Loc}{w:World}{B:Nat}{e:Env}{tmps:Array Value}{r off:Nat}(vs:List Value)(hr:w.heap.size≤r∨∀s,yd s e≠I→(yd s e).any (·.2)=E2→ω r≠En (.slot s))(hn:∀o,off≤o→C.K r o=I)(he:aj C ω w B e tmps):aj (C.put r off vs) ω w B e tmps:=
 fun s x hx=>let ⟨v,a,b,d⟩:=he s x hx; ⟨v,a,qp.mono (ay.fV vs hn) b,fun e=>(d e).put vs (hr.imp id fun h=>h s (by rw[hx];simp) (by rw[hx];exact e))⟩
def cr (ω:Nat→Option Loc)(r:Nat)(ℓ:Loc):Nat→Option Loc:=fun b=>if b=r then En ℓ else ω b
theorem aF.other {C:ay}{ω:Nat→Option Loc}{w:World}{B r:Nat}{ℓ ℓ':Loc}{x:qa}{v:Value}(hr:ω r≠En ℓ∨ℓ=ℓ')(ho:aF C ω w B ℓ x v):aF C (Abs.cr ω r ℓ') w B ℓ x v:=by
 unfold aF at *
 split at ho
 ·rename_i a len cap
  obtain⟨h1,h2⟩:=ho
  refine⟨?_,h2⟩
  simp only[Abs.cr]
  by_cases hb:a.block=r
  ·rw[if_pos hb]
   rcases hr with hr|hr
   ·exact absurd (hb▸h1) hr
   ·rw[hr]
  ·rw[if_neg hb];exact h1
 ·rename_i a
  obtain⟨h1,h2⟩:=ho
  refine⟨?_,h2⟩
  simp only[Abs.cr]
  by_cases hb:a.block=r
  ·rw[if_pos hb]
   rcases hr with hr|hr
   ·exact absurd (hb▸h1) hr
   ·rw[hr]
  ·rw[if_neg hb];exact h1
 ·trivial
theorem aF.fresh {C:ay}{ω:Nat→Option Loc}{w:World}{B r:Nat}{ℓ ℓ':Loc}{x:qa}{v:Value}(hr:w.heap.size≤r)(ho:aF C ω w B ℓ x v):aF C (Abs.cr ω r ℓ') w B ℓ x v:=by
 unfold aF at *
 split at ho
 ·rename_i a len cap
  obtain⟨h1,h2,h3,h4,h8,⟨cells,elem,h5,h6⟩,h7⟩:=ho
  have aX:a.block<w.heap.size:=(Gk.1 h5).1
  refine⟨?_,h2,h3,h4,h8,⟨cells,elem,h5,h6⟩,h7⟩
  simp only[Abs.cr]
  rw[if_neg (by omega)]
  exact h1
 ·rename_i a
  obtain⟨h1,h2,h3,h4,h8,⟨cells,elem,h5,h6⟩,h7⟩:=ho
  have aX:a.block<w.heap.size:=(Gk.1 h5).1
  refine⟨?_,h2,h3,h4,h8,⟨cells,elem,h5,h6⟩,h7⟩
  simp only[Abs.cr]
  rw[if_neg (by omega)]
  exact h1
 ·trivial
theorem aj.fresh {C:ay}{ω:Nat→Option Loc}{w:World}{B r:Nat}{ℓ:Loc}{e:Env}{tmps:Array Value}(hr:w.heap.size≤r)(he:aj C ω w B e tmps):aj C (Abs.cr ω r ℓ) w B e tmps:=
 fun s x hx=>let ⟨v,a,b,d⟩:=he s x hx; ⟨v,a,b,fun e=>(d e).fresh hr⟩
theorem av.jI {P:Program}{C:ay}{ω:Nat→Option Loc}{w0 w:World}{C0:ay}{hp:j8}(m:av P C ω w0 C0 hp w)(r:Nat)(ℓ:Loc)(hr:w.heap.size≤r):av P C (Abs.cr ω r ℓ) w0 C0 hp w:=
 { m with box:=fun b x r' hx hb=>(m.box b x r' hx hb).mono (ay.le_refl C) fun _ _ _ ho=>ho.fresh hr }
theorem av.cr {P:Program}{C:ay}{ω:Nat→Option Loc}{w0 w:World}{C0:ay}{hp:j8}(m:av P C ω w0 C0 hp w)(r:Nat)(ℓ:Loc)(hr:∀b j,ω r≠En (.cell b j)):av P C (Abs.cr ω r ℓ) w0 C0 hp w:=
 { m with box:=fun b x r' hx hb=>(m.box b x r' hx hb).mono (ay.le_refl C) fun j _ _ ho=>ho.other (.inl (hr b j)) }
end Go.Abs
