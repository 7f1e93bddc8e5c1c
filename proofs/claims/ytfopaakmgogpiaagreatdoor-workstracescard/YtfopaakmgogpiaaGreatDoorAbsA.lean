/- The abstract machine. -/
import Derived.CallsIn
import Derived.Deep.AppendSrc
import Derived.Lib.LaidTab
import Derived.Lib.ItoaNum
set_option linter.unusedVariables false
set_option linter.unusedSimpArgs false
open Option renaming none→I,some→Eh
open Bool renaming false→El,true→En,xor→Gk
open Nat renaming beq→Eo,ble→Ev,blt→E6,lt_of_lt_of_le→Ga,le_refl→Gc,succ_mul→Gh
open Array renaming getElem?_eq_some_iff→E7
open List renaming replicate→Gb,flatMap_cons→Gi
namespace Go.Abs
theorem cT.{u} {α:Sort u}(a b:α):cond En a b=a:=rfl
theorem cF.{u} {α:Sort u}(a b:α):cond El a b=b:=rfl
theorem dT {p:Prop}[Decidable p](h:p):decide p=En:=decide_eq_true h
theorem dF {p:Prop}[Decidable p](h:¬p):decide p=El:=decide_eq_false h
inductive qa where
 |bool (b:Bool)
 |int (k:IntKind) (n:Int)
 |str (s:List UInt8)
 |list (isNil:Bool) (sz:Nat) (xs:List qa)
 |ms (b off len:Nat)
 |ptr (b off:Nat)
 |ah (v:qa)
 |bN
 |map (b:Nat)
 |bM
 |fn (f:Fn) (first captured:List qa)
 |bX
 |agg (cs:List qa)
 |az (vs:List qa)
 |undef
 |any
 |cE (n:Nat)
 |au (b bu len:Nat)
 |dk (b bu off:Nat)
 deriving Inhabited
inductive qf where
 |tmp (t:Nat)
 |const (v:qa)
 deriving Inhabited
inductive Kd where
 |int|str|bool
 deriving DecidableEq,Inhabited
inductive jc where
 |bL|fe (r:Nat)|shr|red
 deriving DecidableEq,Inhabited
inductive qw where
 |move (x:qf)
 |take (s:Nat)
 |pick (c a b:qf)
 |alloc (r:Nat) (zero:List qa)
 |box (r n:Nat) (x:qf)
 |nW (n:Nat) (x:qf)
 |fW (n:Nat)
 |dv (n s:Nat) (x:qf)
 |fD (r t e:Nat)
 |build (zero:List qa) (parts:List (Nat×Nat×qf))
 |buildSlice (sz len:Nat) (zero:List qa) (parts:List (Nat×qf))
 |load (agg:Bool) (n:Nat) (x:qf)
 |eT (agg:Bool) (n:Nat) (x:qf)
 |b8 (off:Option Nat) (x:qf)
 |store (n:Nat) (a v:qf)
 |nilCheck (x:qf)
 |bin (op:BinOp) (x y:qf)
 |eqs (ks:List Kd) (neq:Bool) (x y:qf)
 |beq (neq:Bool) (x y:qf)
 |eU (k:Nat) (neq:Bool) (x:qf)
 |un (op:UnOp) (x:qf)
 |conv (k:IntKind) (x:qf)
 |eK (x:qf)
 |field (agg:Bool) (off n:Nat) (x:qf)
 |index (agg:Bool) (len n:Nat) (x i:qf)
 |dO (x i:qf)
 |fieldAddr (agg:Bool) (off n:Nat) (x:qf)
 |indexAddr (sz:Nat) (x i:qf)
 |dP (agg:Bool) (len sz:Nat) (x i:qf)
 |slice (sz:Nat) (x:qf) (lo hi:Option qf)
 |eo (x:qf) (lo hi:Option qf)
 |ep (len sz:Nat) (x:qf) (lo hi:Option qf)
 |fX (f:Fn) (first captured:List qf)
 |dQ (r:Nat)
 |lookup (kd:Kd) (zero:qa) (ok:Bool) (m k:qf)
 |mapUpdate (kd:Kd) (m k v:qf)
 |delete (kd:Kd) (m k:qf)
 |bV (r:Option Nat) (sz bytes:Nat) (zero:List qa) (n c:qf)
 |len (k:Nat) (x:qf)
 |append (r:Option Nat) (sz bytes:Nat) (x y:qf)
 |gK (r sz bytes:Nat) (x y:qf)
 |ic (r sz len:Nat) (zero:List qa) (parts:List (Nat×qf))
 |copy (sz:Nat) (x y:qf)
 |mx (args:List qf)
 |mn (args:List qf)
 |extract (x:qf) (i:Nat)
 |call (md:jc) (f:qf) (args:List qf)
 |cZ (r:Nat) (x:qf)
 |eV (it:qf)
 |bad
 deriving Inhabited
structure qv where
 dst:Option Nat
 op:qw
 guard:Option (Nat×Bool)
 al:Option (List Nat)
 deriving Inhabited
inductive qg where
 |skip
 |region (na:Nat) (ops:List qv) (keep:Option (List Nat))
 |seq (a b:qg)
 |cond (c:qf) (a b:qg)
 |block (id:Nat) (body:qg)
 |loop (body:qg)
 |rangeFunc (f:qf) (params:List Nat) (assign body:qg)
 |exit (id:Nat)
 |ret
 |grow (sz:Nat)
 |stuck
 deriving Inhabited
abbrev Env:=List (Nat×qa×Bool)
inductive qo where
 |normal
 |exit (id:Nat)
 |ret
 deriving DecidableEq,Inhabited
structure jq where
 env:Env
 params:List Nat
 assign:qg
 body:qg
 pending:Option qo
 deriving Inhabited
def kw:qg→Bool
 | .seq a b=>kw a&&kw b
 | .cond _ a b=>kw a&&kw b
 | .block _ b=>kw b
 | .loop b=>kw b
 | .rangeFunc ..=>El
 |_=>En
def eW (e:Env):Env:=e.map fun x=>(x.1,x.2.1,El)
inductive qm where
 |hole
 |cells (cs:List (qa×Bool))
 |map (es:List (qa×qa))
 |iter (s:List UInt8) (pos:Nat)
 |loop (l:jq)
 |fD (t e:Nat) (l:List UInt8)
 |dead
 |vec (sz bu:Nat) (xs:List qa)
 deriving Inhabited
abbrev j8:=List qm
structure qh where
 env:Env
 heap:j8
 deriving Inhabited
inductive ja where
 |tmp (t:Nat)
 |cell (t:Nat) (agg:Bool) (n:Nat)
 deriving Inhabited
structure qd where
 ntmps:Nat
 body:qg
 results:List ja
 deriving Inhabited
abbrev vA:=Nat→Option (List qa→Option (qa×Bool))
abbrev jbz:=Nat→Option (List qa→j8→Option (qa×Bool×j8))
abbrev L5:=Nat→Option (List (qa×qa))
structure qr where
 bH:Nat→Option qd
 cq:vA
 dj:jbz:=fun _=>I
 maps:L5:=fun _=>I
def ye (t:Nat):Env→Option (qa×Bool)
 | []=>I
 |(s,x)::e=>bif Eo s t then Eh x else ye t e
def zd (e:Env):qf→Option qa
 | .tmp t=>match ye t e with
  |some x=>Eh x.1
  |none=>I
 | .const v=>Eh v
def fE (e:Env):List qf→Option (List qa)
 | []=>Eh []
 |x::xs=>match zd e x with
  |some v=>match fE e xs with
   |some vs=>Eh (v::vs)
   |none=>I
  |none=>I
def pD (e:Env):List Nat→Env
 | []=>[]
 |t::ts=>match ye t e with
  |some x=>(t,x)::pD e ts
  |none=>pD e ts
def pE:IntKind→Int→Bool
 | .i64,.ofNat m=>Ev m 9223372036854775807
 | .i64,.negSucc m=>Ev m 9223372036854775807
 | .i32,.ofNat m=>Ev m 2147483647
 | .i32,.negSucc m=>Ev m 2147483647
 | .i16,.ofNat m=>Ev m 32767
 | .i16,.negSucc m=>Ev m 32767
 | .i8,.ofNat m=>Ev m 127
 | .i8,.negSucc m=>Ev m 127
 | .u64,.ofNat m=>Ev m 18446744073709551615
 | .u32,.ofNat m=>Ev m 4294967295
 | .u16,.ofNat m=>Ev m 65535
 | .u8,.ofNat m=>Ev m 255
 |_,.negSucc _=>El
def j9 (k:IntKind)(n:Int):Int:=bif pE k n then n else k.wrap n
def qa.flat:qa→List qa
 | .agg cs=>cs
 |v=>[v]
def qa.isAgg:qa→Bool
 | .agg _=>En
 |_=>El
def qa.cu:qa→Bool
 | .list ..=>En
 |_=>El
def mc:Kd→qa→qa→Option Bool
 | .int,.int k a,.int k' b=>bif decide (k=k')then Eh (a == b)else I
 | .str,.str a,.str b=>Eh (a == b)
 | .bool,.bool a,.bool b=>Eh (a == b)
 |_,_,_=>I
def gL:List Kd→List qa→List qa→Option Bool
 | [],[],[]=>Eh En
 |k::ks,x::xs,y::ys=>match mc k x y with
  |some En=>gL ks xs ys
  |some El=>Eh El
  |none=>I
 |_,_,_=>I
def part (agg:Bool)(cs:List qa)(off n:Nat):Option qa:=
 bif agg then(bif Ev (off+n) cs.length then Eh (.agg ((cs.drop off).take n))else I)else cs[off]?
def bytesLess:List UInt8→List UInt8→Bool
 |_,[]=>El
 | [],_::_=>En
 |a::x,b::y=>a<b||(a == b&&bytesLess x y)
def nX (op:BinOp)(k:IntKind)(x y:Int):Option qa:=
 match op with
 | .add=>Eh (.int k (j9 k (x+y)))
 | .sub=>Eh (.int k (j9 k (x-y)))
 | .mul=>Eh (.int k (j9 k (x*y)))
 | .quo=>bif y == 0 then I else Eh (.int k (j9 k (x.tdiv y)))
 | .rem=>bif y == 0 then I else Eh (.int k (x.tmod y))
 | .eql=>Eh (.bool (x == y))
 | .neq=>Eh (.bool (x != y))
 | .lss=>Eh (.bool (decide (x<y)))
 | .leq=>Eh (.bool (decide (x≤y)))
 | .gtr=>Eh (.bool (decide (x > y)))
 | .geq=>Eh (.bool (decide (x≥y)))
 | .and=>Eh (.int k (k.wrap (BitVec.ofInt k.bits x &&& BitVec.ofInt k.bits y).toNat))
 | .or=>Eh (.int k (k.wrap (BitVec.ofInt k.bits x ||| BitVec.ofInt k.bits y).toNat))
 | .xor=>Eh (.int k (k.wrap (BitVec.ofInt k.bits x ^^^ BitVec.ofInt k.bits y).toNat))
 | .andNot=>Eh (.int k (k.wrap (BitVec.ofInt k.bits x &&& ~~~BitVec.ofInt k.bits y).toNat))
 |_=>I
def L6 (op:BinOp)(k:IntKind)(x y:Int):Option qa:=
 bif decide (y<0)then I else
 match op with
 | .shl=>Eh (.int k (j9 k (x*2^(min y.toNat k.bits))))
 | .shr=>Eh (.int k (x.fdiv (2^(min y.toNat k.bits))))
 |_=>I
def EX (op:BinOp)(x y:List UInt8):Option qa:=
 match op with
 | .add=>bif Ev (x.length+y.length) 4611686018427387904 then Eh (.str (x++y))else I
 | .eql=>Eh (.bool (x == y))
 | .neq=>Eh (.bool !(x == y))
 | .lss=>Eh (.bool (bytesLess x y))
 | .leq=>Eh (.bool (bytesLess x y||x == y))
 | .gtr=>Eh (.bool !(bytesLess x y||x == y))
 | .geq=>Eh (.bool !(bytesLess x y))
 |_=>I
def fo (op:BinOp):qa→qa→Option qa
 | .int k x,.int k' y=>match op with
  | .shl=>L6 .shl k x y
  | .shr=>L6 .shr k x y
  |op=>bif decide (k=k')then nX op k x y else I
 | .str x,.str y=>EX op x y
 |_,_=>I
def wV:UnOp→qa→Option qa
 | .neg,.int k n=>Eh (.int k (j9 k (0-n)))
 | .not,.bool b=>Eh (.bool !b)
 |_,_=>I
def max2:qa→qa→Option qa
 | .int k x,.int k' y=>bif decide (k=k')then Eh (.int k (if y > x then y else x))else I
 |_,_=>I
def min2:qa→qa→Option qa
 | .int k x,.int k' y=>bif decide (k=k')then Eh (.int k (if y<x then y else x))else I
 |_,_=>I
def ni (f:qa→qa→Option qa):qa→List qa→Option qa
 |x,[]=>Eh x
 |x,y::ys=>match f x y with
  |some z=>ni f z ys
  |none=>I
def jC:List qa→List (Nat×List qa)→Option (List qa)
 |cs,[]=>Eh cs
 |cs,(off,vs)::rest=>bif Ev (off+vs.length) cs.length then jC (cs.take off++vs++cs.drop (off+vs.length)) rest else I
def ze:qa→Bool
 | .agg _=>El
 | .az _=>El
 | .undef=>El
 | .any=>El
 |_=>En
def la (e:Env):List (Nat×Nat×qf)→Option (List (Nat×List qa))
 | []=>Eh []
 |(off,n,x)::ps=>match zd e x with
  |some v=>bif Eo v.flat.length n&&v.flat.all ze then
    (match la e ps with
     |some r=>Eh ((off,v.flat)::r)
     |none=>I)else I
  |none=>I
def lb (xs:List qa):List (Nat×qa)→Option (List qa)
 | []=>Eh xs
 |(i,v)::ps=>bif E6 i xs.length then lb (xs.set i v) ps else I
def iF (e:Env)(sz:Nat):List (Nat×qf)→Option (List (Nat×qa))
 | []=>Eh []
 |(i,x)::ps=>match zd e x with
  |some v=>bif Eo v.flat.length sz&&v.flat.all ze then
   (match iF e sz ps with
    |some r=>Eh ((i,v)::r)
    |none=>I)else I
  |none=>I
def jnp (zero:List qa)(agg:Bool):Option qa:=
 bif agg then Eh (.agg zero)else match zero with
  | [z]=>Eh z
  |_=>I
def y7 (h:j8)(b:Nat):Option qm:=h[b]?
def yl (h:j8)(b:Nat):Option (List (qa×Bool)):=
 match h[b]? with
 |some (.cells cs)=>Eh cs
 |_=>I
def kc (cs:List (qa×Bool))(off n:Nat):Option (List qa):=
 bif Ev (off+n) cs.length then Eh (((cs.drop off).take n).map (·.1))else I
def yi (cs:List (qa×Bool))(off:Nat)(vs:List qa):Option (List (qa×Bool)):=
 bif Ev (off+vs.length) cs.length&&vs.all ze then Eh (cs.take off++vs.map (·,El)++cs.drop (off+vs.length))else I
mutual
def below (n:Nat):qa→Bool
 | .ms b _ _=>E6 b n
 | .ptr b _=>E6 b n
 | .map b=>E6 b n
 | .au b _ _=>E6 b n
 | .dk b _ _=>E6 b n
 | .ah v=>below n v
 | .list _ _ xs=>zw n xs
 | .agg cs=>zw n cs
 | .az vs=>zw n vs
 | .fn (.yield b) first captured=>E6 b n&&zw n first&&zw n captured
 | .fn _ first captured=>zw n first&&zw n captured
 |_=>En
def zw (n:Nat):List qa→Bool
 | []=>En
 |x::xs=>below n x&&zw n xs
end
def mf (n:Nat):Env→Bool
 | []=>En
 |(_,v,_)::e=>below n v&&mf n e
def oM (n:Nat):List (qa×Bool)→Bool
 | []=>En
 |(v,_)::e=>below n v&&oM n e
def uf (n:Nat):List (qa×qa)→Bool
 | []=>En
 |(k,v)::e=>below n k&&below n v&&uf n e
def oN (n:Nat):qm→Bool
 | .hole=>En
 | .cells cs=>oM n cs
 | .map es=>uf n es
 | .iter _ _=>En
 | .fD ..=>En
 | .dead=>En
 | .vec ..=>En
 | .loop l=>mf n l.env
def ko (n:Nat):j8→Bool
 | []=>En
 |b::h=>oN n b&&ko n h
def gc (n:Nat)(st:qh):qh:=
 bif Ev st.heap.length n then st
 else bif mf n st.env&&ko n (st.heap.take n)then { st with heap:=st.heap.take n }else st
def lQ (v:qa):Bool:=below 0 v
def q5k (agg:Bool)(sz:Nat):Nat→List qa→Option (List qa)
 |0,_=>Eh []
 |n+1,cs=>bif Ev sz cs.length then
   (match jnp (cs.take sz) agg with
    |some v=>(match q5k agg sz n (cs.drop sz)with
     |some r=>Eh (v::r)
     |none=>I)
    |none=>I)else I
def lR (sz:Nat):Nat→List qa→List qa
 |0,_=>[]
 |n+1,cs=>(bif Eo sz 1 then cs.headD .undef else .agg (cs.take sz))::lR sz n (cs.drop sz)
def L7:qa→Bool
 | .str _=>En
 | .list ..=>En
 |_=>El
def Dg (off len:Nat)(cs:List (qa×Bool)):Bool:=Eo off 0&&E6 1 (cs.length / len)&&Eo (len*(cs.length / len)) cs.length&&cs.any (fun c=>L7 c.1)
def iG (h:j8):qa→Option qa
 | .ms b off len=>match yl h b with
  |some cs=>bif Dg off len cs then Eh (.list El (cs.length / len) (lR (cs.length / len) len (cs.map (·.1))))else(match kc cs off len with
   |some vs=>Eh (.list El 1 vs)
   |none=>I)
  |none=>I
 | .au b bu len=>match h[b]? with
  |some (.vec sz dc xs)=>bif Eo bu dc&&Ev len xs.length then Eh (.list El sz (xs.take len))else I
  |_=>I
 |v=>Eh v
def lf (h:j8):List qa→Option (List qa)
 | []=>Eh []
 |v::vs=>match iG h v with
  |some x=>(match lf h vs with
   |some xs=>Eh (x::xs)
   |none=>I)
  |none=>I
def aA (h:j8):qa→Option qa
 | .agg cs=>match lf h cs with
  |some xs=>Eh (.agg xs)
  |none=>I
 | .az vs=>match bg h vs with
  |some xs=>Eh (.az xs)
  |none=>I
 |v=>iG h v
where
 bg (h:j8):List qa→Option (List qa)
  | []=>Eh []
  | .agg cs::vs=>match lf h cs with
   |some x=>(match bg h vs with
    |some xs=>Eh (.agg x::xs)
    |none=>I)
   |none=>I
  |v::vs=>match iG h v with
   |some x=>(match bg h vs with
    |some xs=>Eh (x::xs)
    |none=>I)
   |none=>I
def yz (kd:Kd)(k:qa):List (qa×qa)→Nat→Option (Option (Nat×qa))
 | [],_=>Eh I
 |(k',v)::es,i=>match mc kd k k' with
  |some En=>Eh (Eh (i,v))
  |some El=>yz kd k es (i+1)
  |none=>I
def zf (s:List UInt8)(i:Nat):Nat×Nat:=Utf8.decode ⟨⟨s⟩⟩ i
structure qq where
 v:qa
 own:Bool
 strip:Option Nat
 heap:j8
def nY (l:List Nat):Bool:=match l with
 | []=>El
 |k::_=>Ev 1000 k
def zm (h0:Nat)(l:List Nat)(b:Nat):Bool:=match l with
 | []=>El
 |k::_=>bif E6 k 2000 then Eo b (k-1000)&&E6 b h0 else bif E6 k 4000 then Eo b (h0+(k-2000))else E6 b h0
def yw (h0:Nat)(al:Option (List Nat))(b:Nat):Bool:=
 match al with
 |none=>En
 |some l=>bif nY l then zm h0 l b else(E6 b h0||l.contains (b-h0))
def oO (al:Option (List Nat)):Bool:=
 match al with
 |some (k::_)=>Ev 4000 k
 |_=>El
def ug (h0:Nat)(al:Option (List Nat))(b:Nat):Bool:=yw h0 al b&&!(oO al)
def yj (h:j8)(b:Nat)(x:qm):Option j8:=bif E6 b h.length then Eh (h.set b x)else I
def aI (h0:Nat)(h:j8)(r:Nat)(x:qm):Option j8:=
 match h[h0+r]? with
 |some .hole=>Eh (h.set (h0+r) x)
 |_=>I
def val (h:j8)(v:qa):Option qq:=Eh ⟨v,El,I,h⟩
def fY (h:j8):Option qa→Option qq
 |some v=>Eh ⟨v,El,I,h⟩
 |none=>I
def idx (n:Nat):qa→Option Nat
 | .int _ (.ofNat i)=>bif E6 i n then Eh i else I
 |_=>I
def zo (n:Nat):qa→Option Nat
 | .int _ (.ofNat i)=>bif Ev i n then Eh i else I
 |_=>I
def eX (e:Env)(lg n:Nat):Option qf→Option Nat
 |none=>Eh lg
 |some x=>match zd e x with
  |some v=>zo n v
  |none=>I
def km (e:Env):qf→Option Nat
 | .tmp t=>match ye t e with
  |some (_,En)=>Eh t
  |_=>I
 |_=>I
def kr (sz:Nat):qa→Option (List qa)
 | .list _ sy ys=>bif Eo sz sy||ys.isEmpty then Eh ys else I
 | .str s=>bif Eo sz 1 then Eh (s.map fun(c:UInt8)=>qa.int .u8 c.toNat)else I
 |_=>I
def pF (n:Bool)(sz:Nat)(xs ys:List qa):qa:=bif n&&ys.isEmpty then .list En 0 []else .list El sz (xs++ys)
def zi (e:Env)(h:j8):qw→Option qq
 | .move x=>fY h (zd e x)
 | .take s=>match ye s e with
  |some (v,o)=>Eh ⟨v,o,Eh s,h⟩
  |none=>I
 | .pick c a b=>match zd e c with
  |some (.bool t)=>(match zd e a,zd e b with
    |some x,Eh y=>val h (bif t then x else y)
    |_,_=>I)
  |_=>I
 | .nW n x=>match zd e x with
  |some v=>bif Eo v.flat.length n&&v.flat.all ze then val h (.ah v)else I
  |none=>I
 | .build zero parts=>match la e parts with
  |some ps=>match jC zero ps with
   |some cs=>val h (.agg cs)
   |none=>I
  |none=>I
 | .buildSlice sz len zero parts=>match iF e sz parts with
  |some ps=>match lb (Gb len (bif Eo sz 1 then zero.headD .undef else .agg zero)) ps with
   |some xs=>Eh ⟨.list El sz xs,En,I,h⟩
   |none=>I
  |none=>I
 | .fW n=>Eh ⟨.cE n,En,I,h⟩
 | .dv n s x=>match ye s e,zd e x with
  |some (.cE m,En),Eh v=>bif Eo m n&&Eo v.flat.length n&&v.flat.all ze then val h (.ah v)else I
  |_,_=>I
 | .eT agg n x=>match zd e x with
  |some (.ah v)=>bif Gk agg v.isAgg||!(Eo v.flat.length n)then I else val h v
  |_=>I
 | .nilCheck x=>match zd e x with
  |some (.ptr b o)=>val h (.ptr b o)
  |some (.ah v)=>val h (.ah v)
  |some (.fn (.func f) a b)=>val h (.fn (.func f) a b)
  |_=>I
 | .bin op x y=>match zd e x,zd e y with
  |some a,Eh b=>fY h (fo op a b)
  |_,_=>I
 | .eqs ks neq x y=>match zd e x,zd e y with
  |some (.agg a),Eh (.agg b)=>bif Eo a.length ks.length&&Eo b.length ks.length then(match gL ks a b with
   |some t=>val h (.bool (bif neq then !t else t))
   |none=>I)else I
  |_,_=>I
 | .beq neq x y=>match zd e x,zd e y with
  |some (.bool a),Eh (.bool b)=>val h (.bool (bif neq then !(a == b)else a == b))
  |_,_=>I
 | .eU k neq x=>match k,zd e x with
  |0,Eh (.list n _ _)=>val h (.bool (bif neq then !n else n))
  |0,Eh (.ms ..)=>val h (.bool neq)
  |1,Eh .bN=>val h (.bool (!neq))
  |1,Eh (.ptr ..)=>val h (.bool neq)
  |1,Eh (.ah ..)=>val h (.bool neq)
  |2,Eh .bM=>val h (.bool (!neq))
  |2,Eh (.map ..)=>val h (.bool neq)
  |3,Eh .bX=>val h (.bool (!neq))
  |3,Eh (.fn ..)=>val h (.bool neq)
  |_,_=>I
 | .un op x=>match zd e x with
  |some v=>fY h (wV op v)
  |none=>I
 | .conv k x=>match zd e x with
  |some (.int _ n)=>val h (.int k (j9 k n))
  |_=>I
 | .eK x=>match zd e x with
  |some (.str s)=>val h (.str s)
  |some (.int _ n)=>val h (.str (Utf8.encode n).data.toList)
  |_=>I
 | .field agg off n x=>match zd e x with
  |some (.agg cs)=>fY h (part agg cs off n)
  |_=>I
 | .index agg len n x i=>match zd e x,zd e i with
  |some (.agg cs),Eh j=>(match idx len j with
   |some j=>fY h (part agg cs (j*n) n)
   |none=>I)
  |_,_=>I
 | .dO x i=>match zd e x,zd e i with
  |some (.str s),Eh j=>(match idx s.length j with
   |some j=>(match s[j]? with
    |some c=>val h (.int .u8 c.toNat)
    |none=>I)
   |none=>I)
  |_,_=>I
 | .fieldAddr agg off n x=>match zd e x with
  |some (.ptr b o)=>val h (.ptr b (o+off))
  |some (.ah (.agg cs))=>(match part agg cs off n with
   |some v=>bif Gk agg v.isAgg then I else val h (.ah v)
   |none=>I)
  |some (.dk b bu o)=>val h (.dk b bu (o+off))
  |_=>I
 | .indexAddr sz x i=>match zd e x,zd e i with
  |some (.list _ cK xs),Eh j=>bif Eo sz cK||xs.isEmpty then(match idx xs.length j with
   |some j=>(match xs[j]? with
    |some v=>val h (.ah v)
    |none=>I)
   |none=>I)else I
  |some (.ms b o len),Eh j=>(match idx len j with
   |some j=>val h (.ptr b (o+j*sz))
   |none=>I)
  |some (.au b bu len),Eh j=>(match idx len j with
   |some j=>val h (.dk b bu (j*sz))
   |none=>I)
  |_,_=>I
 | .dP agg len sz x i=>match zd e x,zd e i with
  |some (.ptr b o),Eh j=>(match idx len j with
   |some j=>val h (.ptr b (o+j*sz))
   |none=>I)
  |some (.ah (.agg cs)),Eh j=>(match idx len j with
   |some j=>(match part agg cs (j*sz) sz with
    |some v=>bif Gk agg v.isAgg then I else val h (.ah v)
    |none=>I)
   |none=>I)
  |_,_=>I
 | .slice sz x lo hi=>match zd e x with
  |some (.list n cK xs)=>bif Eo sz cK||xs.isEmpty then(match eX e xs.length xs.length hi with
   |some j=>(match eX e 0 j lo with
    |some i=>val h (.list n cK ((xs.take j).drop i))
    |none=>I)
   |none=>I)else I
  |some (.ms b o len)=>(match eX e len len hi with
   |some j=>(match eX e 0 j lo with
    |some i=>bif Eo i 0||E6 i j then val h (.ms b (o+i*sz) (j-i))else I
    |none=>I)
   |none=>I)
  |some (.au b bu len)=>(match eX e len len hi with
   |some j=>(match eX e 0 j lo with
    |some i=>bif Eo i 0 then val h (.au b bu j)else I
    |none=>I)
   |none=>I)
  |_=>I
 | .eo x lo hi=>match zd e x with
  |some (.str s)=>(match eX e s.length s.length hi with
   |some j=>(match eX e 0 j lo with
    |some i=>val h (.str ((s.take j).drop i))
    |none=>I)
   |none=>I)
  |_=>I
 | .ep len sz x lo hi=>match zd e x with
  |some (.ptr b o)=>(match eX e len len hi with
   |some j=>(match eX e 0 j lo with
    |some i=>bif Eo i 0||E6 i j then val h (.ms b (o+i*sz) (j-i))else I
    |none=>I)
   |none=>I)
  |_=>I
 | .fX f first captured=>match fE e first,fE e captured with
  |some a,Eh b=>val h (.fn f a b)
  |_,_=>I
 | .len k x=>match k,zd e x with
  |1,Eh (.list _ _ xs)=>val h (.int .i64 xs.length)
  |1,Eh (.ms _ _ n)=>val h (.int .i64 n)
  |1,Eh (.au _ _ n)=>val h (.int .i64 n)
  |2,Eh (.list En _ _)=>val h (.int .i64 0)
  |0,Eh (.str s)=>val h (.int .i64 s.length)
  |_,_=>I
 | .append I sz bytes x y=>match zd e x,zd e y with
  |some (.list n cK xs),Eh vy=>
   bif n||(km e x).isSome then
    (match kr sz vy with
     |some ys=>
      bif (Eo sz cK||(xs.isEmpty&&n))&&Ev (xs.length+ys.length) 1073741824&&Ev bytes 4096&&E6 0 sz then
       Eh ⟨pF n sz xs ys,En,km e x,h⟩
      else I
     |none=>I)
   else I
  |_,_=>I
 | .bV I sz bytes zero n c=>match zd e n,zd e c with
  |some (.int .i64 (.ofNat n)),Eh (.int .i64 (.ofNat c))=>
   bif Eo n c&&Ev n 1073741824&&Ev bytes 4096&&Eo zero.length sz&&E6 0 sz&&zero.all ze then
    Eh ⟨.list El sz (Gb n (bif Eo sz 1 then zero.headD .undef else .agg zero)),En,I,h⟩else I
  |_,_=>I
 | .mx args=>match fE e args with
  |some (v::vs)=>fY h (ni max2 v vs)
  |_=>I
 | .mn args=>match fE e args with
  |some (v::vs)=>fY h (ni min2 v vs)
  |_=>I
 | .extract x i=>match zd e x with
  |some (.az vs)=>fY h vs[i]?
  |_=>I
 |_=>I
def pG (es:List (qa×qa))(i:Nat)(v:qa):List (qa×qa):=
 match es,i with
 | [],_=>[]
 |(k,_)::r,0=>(k,v)::r
 |x::r,i+1=>x::pG r i v
def gZ (h0:Nat)(al:Option (List Nat))(e:Env)(h:j8):qw→Option qq
 | .load agg n x=>match zd e x with
  |some (.ptr b o)=>bif yw h0 al b then(match yl h b with
   |some cs=>(match kc cs o n with
    |some vs=>bif agg then val h (.agg vs)else(match vs with
     | [v]=>val h v
     |_=>I)
    |none=>I)
   |none=>I)else I
  |some (.ah v)=>bif Gk agg v.isAgg||!(Eo v.flat.length n)then I else val h v
  |some (.dk b bu o)=>bif ug h0 al b then(match y7 h b with
   |some (.vec _ dc xs)=>bif Eo bu dc&&Ev (o+n) (xs.flatMap qa.flat).length then(bif agg then val h (.agg (((xs.flatMap qa.flat).drop o).take n))else(match((xs.flatMap qa.flat).drop o).take n with
     | [v]=>val h v
     |_=>I))else I
   |_=>I)else I
  |_=>I
 | .lookup kd zero ok m k=>match zd e m,zd e k with
  |some (.map b),Eh kv=>bif yw h0 al b then(match y7 h b with
   |some (.map es)=>(match yz kd kv es 0 with
    |some (Eh (_,v))=>val h (bif ok then .az [v,.bool En]else v)
    |some I=>val h (bif ok then .az [zero,.bool El]else zero)
    |none=>I)
   |_=>I)else I
  |some .bM,Eh _=>val h (bif ok then .az [zero,.bool El]else zero)
  |_,_=>I
 | .len _ x=>match zd e x with
  |some (.map b)=>bif yw h0 al b then(match y7 h b with
   |some (.map es)=>val h (.int .i64 es.length)
   |_=>I)else I
  |some .bM=>val h (.int .i64 0)
  |_=>I
 |_=>I
def q1p (es:List (qa×qa)):Option (Nat×qa)→List (qa×qa)
 |some (i,_)=>es.eraseIdx i
 |none=>es
def uh:Option Nat→Nat→Bool
 |none,_=>En
 |some a,o=>Eo a o
def zy (sz len:Nat):qa→Option (Nat×List qa)
 | .list _ sy ys=>bif Eo sz sy||ys.isEmpty then Eh (min ys.length len,(ys.take len).flatMap qa.flat)else I
 |_=>I
def cellsOf (vs:List qa):List (qa×Bool):=vs.map (·,El)
def zk (h0:Nat)(al:Option (List Nat))(e:Env)(h:j8):qw→Option qq
 | .alloc r zero=>bif zero.all ze then(match aI h0 h r (.cells (cellsOf zero))with
  |some h'=>val h' (.ptr (h0+r) 0)
  |none=>I)else I
 | .box r n x=>match zd e x with
  |some v=>bif Eo v.flat.length n&&v.flat.all ze then(match aI h0 h r (.cells (cellsOf v.flat))with
   |some h'=>val h' (.ptr (h0+r) 0)
   |none=>I)else I
  |none=>I
 | .b8 off x=>match zd e x with
  |some (.ptr b o)=>bif yw h0 al b&&uh off o then(match yl h b with
   |some cs=>(match cs[o]? with
    |some (v,w)=>(match yj h b (.cells (cs.set o (v,El)))with
     |some h'=>Eh ⟨v,w,I,h'⟩
     |none=>I)
    |none=>I)
   |none=>I)else I
  |_=>I
 | .store n a x=>match zd e a,zd e x with
  |some (.ptr b o),Eh v=>bif yw h0 al b then(match yl h b with
   |some cs=>(match km e x with
    |some t=>bif Eo n 1&&v.cu&&E6 o cs.length then(match yj h b (.cells (cs.set o (v,En)))with
      |some h'=>Eh ⟨.undef,El,Eh t,h'⟩
      |none=>I)else I
    |none=>bif Eo v.flat.length n then(match yi cs o v.flat with
     |some dX=>(match yj h b (.cells dX)with
      |some h'=>val h' .undef
      |none=>I)
     |none=>I)else I)
   |none=>I)else I
  |_,_=>I
 | .fD r t e=>match aI h0 h r (.fD t e [])with
  |some h'=>val h' (.ptr (h0+r) 0)
  |none=>I
 | .dQ r=>match aI h0 h r (.map [])with
  |some h'=>val h' (.map (h0+r))
  |none=>I
 | .mapUpdate kd m k x=>match zd e m,zd e k,zd e x with
  |some (.map b),Eh kv,Eh v=>bif yw h0 al b then(match y7 h b with
   |some (.map es)=>(match yz kd kv es 0 with
    |some (Eh (i,_))=>(match yj h b (.map (pG es i v))with
     |some h'=>val h' .undef
     |none=>I)
    |some I=>bif Ev es.length 1073741824 then(match yj h b (.map (es++[(kv,v)]))with
     |some h'=>val h' .undef
     |none=>I)else I
    |none=>I)
   |_=>I)else I
  |_,_,_=>I
 | .delete kd m k=>match zd e m,zd e k with
  |some (.map b),Eh kv=>bif yw h0 al b then(match y7 h b with
   |some (.map es)=>(match yz kd kv es 0 with
    |some r=>(match yj h b (.map (q1p es r))with
     |some h'=>val h' (.az [])
     |none=>I)
    |none=>I)
   |_=>I)else I
  |_,_=>I
 | .bV (Eh r) sz bytes zero n c=>match zd e n,zd e c with
  |some (.int .i64 (.ofNat n)),Eh (.int .i64 (.ofNat c))=>
   bif Eo n c&&Ev n 1073741824&&Ev bytes 4096&&Eo zero.length sz&&E6 0 sz&&zero.all ze then
    (match aI h0 h r (.cells (cellsOf (Gb n zero).flatten))with
     |some h'=>val h' (.ms (h0+r) 0 n)
     |none=>I)else I
  |_,_=>I
 | .append (Eh r) sz bytes x y=>match zd e x,zd e y with
  |some (.list El cK []),Eh vy=>
   bif (km e x).isSome&&Eo sz cK then
    (match kr sz vy with
     |some ys=>
      bif Ev ys.length 1073741824&&Ev bytes 4096&&E6 0 sz then
       (match aI h0 h r (.cells (cellsOf (ys.flatMap qa.flat)))with
        |some h'=>Eh ⟨.ms (h0+r) 0 ys.length,El,km e x,h'⟩
        |none=>I)
      else I
     |none=>I)
   else I
  |_,_=>I
 | .gK r sz bytes x y=>match zd e x,zd e y with
  |some (.list En _ []),Eh vy=>(match kr sz vy with
    |some ys=>
     bif Ev ys.length 1073741824&&Ev bytes 4096&&E6 0 sz&&!ys.isEmpty&&zw 0 ys&&E6 r 1000 then
      (match aI h0 h r (.vec sz 0 ys)with
       |some h'=>val h' (.au (h0+r) 0 ys.length)
       |none=>I)else I
    |none=>I)
  |some (.au b bu len),Eh vy=>(match y7 h b with
   |some (.vec cK dc xs)=>(match kr sz vy with
    |some ys=>
     bif Eo bu dc&&Eo sz cK&&Ev len xs.length&&Ev (len+ys.length) 1073741824&&Ev bytes 4096&&E6 0 sz&&zw 0 ys&&E6 r 1000 then
      (match yj h b (.vec sz (bu+1) (xs.take len++ys))with
       |some h'=>val h' (.au b (bu+1) (len+ys.length))
       |none=>I)else I
    |none=>I)
   |_=>I)
  |_,_=>I
 | .ic r sz len zero parts=>match iF e sz parts with
  |some ps=>match lb (Gb len (bif Eo sz 1 then zero.headD .undef else .agg zero)) ps with
   |some xs=>bif zw 0 xs then(match aI h0 h r (.vec sz 0 xs)with
    |some h'=>val h' (.au (h0+r) 0 xs.length)
    |none=>I)else I
   |none=>I
  |none=>I
 | .copy sz x y=>match zd e x,zd e y with
  |some (.ms b o len),Eh vy=>bif yw h0 al b then(match yl h b with
   |some cs=>(match zy sz len vy with
    |some (n,vs)=>(match yi cs o vs with
     |some dX=>bif Eo vs.length (n*sz)then(match yj h b (.cells dX)with
      |some h'=>val h' (.int .i64 n)
      |none=>I)else I
     |none=>I)
    |none=>I)
   |none=>I)else I
  |_,_=>I
 | .cZ r x=>match zd e x with
  |some (.str s)=>(match aI h0 h r (.iter s 0)with
   |some h'=>val h' (.ptr (h0+r) 0)
   |none=>I)
  |_=>I
 | .eV it=>match zd e it with
  |some (.ptr b 0)=>bif yw h0 al b then(match y7 h b with
   |some (.iter s pos)=>bif E6 pos s.length then
     (match yj h b (.iter s (pos+(zf s pos).2))with
      |some h'=>val h' (.az [.bool En,.int .i64 pos,.int .i32 (zf s pos).1])
      |none=>I)else val h (.az [.bool El])
   |_=>I)else I
  |_=>I
 |_=>I
def nZ:Nat→List qa→Env
 |_,[]=>[]
 |i,v::vs=>(i,v,El)::nZ (i+1) vs
def ui (st:qh):ja→Option (qa×Bool)
 | .tmp t=>ye t st.env
 | .cell t agg n=>match ye t st.env with
  |some (.ptr b o,_)=>(match yl st.heap b with
   |some cs=>(match kc cs o n with
    |some vs=>bif agg then Eh (.agg vs,El)else(match cs[o]? with
     |some x=>Eh x
     |none=>I)
    |none=>I)
   |none=>I)
  |_=>I
def lh (st:qh):List ja→Option (List (qa×Bool))
 | []=>Eh []
 |r::rs=>match ui st r with
  |some x=>(match lh st rs with
   |some xs=>Eh (x::xs)
   |none=>I)
  |none=>I
def yr:List (qa×Bool)→qa×Bool
 | [x]=>x
 |xs=>(.az (xs.map (·.1)),El)
abbrev XC:=qg→qh→Option (qo×qh)
def kP (st:qh):List ja→j8
 | [.cell t El _]=>match ye t st.env with
  |some (.ptr b o,_)=>(match yl st.heap b with
   |some cs=>(match cs[o]? with
    |some (v,En)=>st.heap.set b (.cells (cs.set o (v,El)))
    |_=>st.heap)
   |none=>st.heap)
  |_=>st.heap
 |_=>st.heap
def oP (xc:XC)(f:qd)(args:List qa)(h:j8):Option (qa×Bool×j8):=
 bif Ev args.length f.ntmps then
  match xc f.body ⟨nZ 0 args,h⟩with
  |some (.normal,st)=>(match lh st f.results with
   |some xs=>Eh ((yr xs).1,(yr xs).2,kP st f.results)
   |none=>I)
  |some (.ret,st)=>(match lh st f.results with
   |some xs=>Eh ((yr xs).1,(yr xs).2,kP st f.results)
   |none=>I)
  |_=>I
 else I
def zg (p:qr)(xc:XC)(k:Nat)(args:List qa)(h:j8):Option (qa×Bool×j8):=
 match p.bH k with
 |some f=>oP xc f args h
 |none=>match p.dj k with
  |some f=>f args h
  |none=>I
def jz (p:qr)(xc:XC)(k:Nat)(args:List qa):Option (qa×Bool):=
 match p.cq k with
 |some f=>(match f args with
  |some (v,o)=>bif lQ v then Eh (v,o)else I
  |none=>I)
 |none=>match zg p xc k args []with
  |some (v,o,h)=>(match aA h v with
   |some v'=>bif lQ v' then Eh (v',o&&v.cu)else I
   |none=>I)
  |none=>I
def yx (n:Nat)(v:qa)(h:j8):j8:=
 bif Ev h.length n then h else bif below n v&&ko n (h.take n)then h.take n else h
def vB (e:Env):List Nat→List qa→Option Env
 | [],[]=>Eh e
 |t::ts,v::vs=>vB ((t,v,El)::e) ts vs
 |_,_=>I
def jS (xc:XC)(b:Nat)(args:List qa)(h:j8):Option (qa×j8):=
 match y7 h b with
 |some (.loop l)=>match l.pending,vB (eW l.env) l.params args with
  |none,Eh e=>(match xc l.assign ⟨e,h⟩with
   |some (.normal,st)=>(match y7 st.heap b with
    |some (.loop l1)=>bif l1.pending.isNone then(match xc l.body { st with heap:=st.heap.set b (.loop { l1 with pending:=Eh .normal }) }with
     |some (x,bK)=>(match y7 bK.heap b with
      |some (.loop l2)=>Eh (.bool (match x with | .normal=>En|_=>El),yx h.length (.bool En) (bK.heap.set b (.loop { l2 with pending:=match x with | .normal=>I|x=>Eh x })))
      |_=>I)
     |none=>I)else I
    |_=>I)
   |_=>I)
  |_,_=>I
 |_=>I
def nj:qa→Bool
 | .bool _=>En
 | .int _ _=>En
 | .str _=>En
 |_=>El
def RY (h:j8):qa→Option qa
 | .ms b 0 len=>(match yl h b with
  |some cs=>bif Eo (len*(cs.length / len)) cs.length&&E6 0 (cs.length / len)&&cs.all (fun c=>nj c.1)then Eh (.list El (cs.length / len) (lR (cs.length / len) len (cs.map (·.1))))else(bif Eo len 0 then Eh (.list El 8 [])else I)
  |none=>I)
 |v=>Eh v
def wW (h:j8):List qa→Option (List qa)
 | []=>Eh []
 |v::vs=>match RY h v,wW h vs with
  |some x,Eh xs=>Eh (x::xs)
  |_,_=>I
def wX:qa→Bool
 | .agg cs=>cs.all nj
 |v=>nj v
def Dh (v:qa):qa:=bif wX v then v else .any
def L8:qa→Bool→Option (qa×Bool)
 | .list El sz xs,En=>bif (xs.flatMap qa.flat).all nj then Eh (.list El sz xs,En)else I
 | .list En sz [],_=>Eh (.list En sz [],El)
 | .az vs,_=>Eh (.az (vs.map Dh),El)
 |v,_=>bif wX v then Eh (v,El)else I
def pH (h0:Nat)(h:j8)(r:Nat):qa→Bool→Option qq
 | .list En sz [],_=>(match aI h0 h r .dead with
  |some h'=>val h' (.list En sz [])
  |none=>I)
 | .list El sz xs,En=>bif (xs.flatMap qa.flat).all nj then(match aI h0 h r (.cells (cellsOf (xs.flatMap qa.flat)))with
  |some h'=>val h' (.ms (h0+r) 0 xs.length)
  |none=>I)else I
 |_,_=>I
def iH (p:qr)(xc:XC)(h0:Nat)(e:Env)(h:j8)(md:jc)(f:qf)(args:List qf):Option qq:=
 match zd e f,fE e args with
 |some (.fn (.func k) first captured),Eh vs=>
  (match md with
   | .bL=>bif zw 0 (first++vs++captured)then(match jz p xc k (first++vs++captured)with
     |some (v,o)=>Eh ⟨v,o,I,h⟩
     |none=>I)else I
   | .fe r=>bif (first++vs++captured).isEmpty then(match p.maps k with
     |some es=>(match aI h0 h r (.map es)with
      |some h'=>val h' (.map (h0+r))
      |none=>I)
     |none=>I)else bif zw 0 (first++vs++captured)then(match jz p xc k (first++vs++captured)with
     |some (v,o)=>pH h0 h r v o
     |none=>I)else I
   | .red=>(match wW h (first++vs++captured)with
    |some us=>bif zw 0 us then(match jz p xc k us with
     |some (v,o)=>(match L8 v o with
      |some (v',o')=>Eh ⟨v',o',I,h⟩
      |none=>I)
     |none=>I)else I
    |none=>I)
   | .shr=>(match zg p xc k (first++vs++captured) h with
    |some (v,o,h')=>Eh ⟨v,o,I,yx h.length v h'⟩
    |none=>I))
 |some (.fn (.yield b) [] []),Eh vs=>
  (match md with
   | .shr=>(match jS xc b vs h with
    |some (v,h')=>val h' v
    |none=>I)
   |_=>I)
 |_,_=>I
def za (p:qr)(xc:XC)(h0:Nat)(al:Option (List Nat))(e:Env)(h:j8)(op:qw):Option qq:=
 match op with
 | .call md f args=>iH p xc h0 e h md f args
 | .load agg n x=>gZ h0 al e h (.load agg n x)
 | .lookup kd z ok m k=>gZ h0 al e h (.lookup kd z ok m k)
 | .alloc r z=>zk h0 al e h (.alloc r z)
 | .box r n x=>zk h0 al e h (.box r n x)
 | .b8 off x=>zk h0 al e h (.b8 off x)
 | .store n a x=>zk h0 al e h (.store n a x)
 | .fD r t e'=>zk h0 al e h (.fD r t e')
 | .dQ r=>zk h0 al e h (.dQ r)
 | .mapUpdate kd m k x=>zk h0 al e h (.mapUpdate kd m k x)
 | .delete kd m k=>zk h0 al e h (.delete kd m k)
 | .bV (Eh r) sz b z n c=>zk h0 al e h (.bV (Eh r) sz b z n c)
 | .append (Eh r) sz b x y=>zk h0 al e h (.append (Eh r) sz b x y)
 | .gK r sz b x y=>zk h0 al e h (.gK r sz b x y)
 | .ic r sz n z ps=>zk h0 al e h (.ic r sz n z ps)
 | .copy sz x y=>zk h0 al e h (.copy sz x y)
 | .cZ r x=>zk h0 al e h (.cZ r x)
 | .eV it=>zk h0 al e h (.eV it)
 |op=>zi e h op
def gy (e:Env):Option Nat→Env
 |none=>e
 |some s=>match ye s e with
  |some (v,_)=>(s,v,El)::e
  |none=>e
def np (e:Env)(d:Option Nat)(v:qa)(o:Bool):Env:=
 match d with
 |some d=>(d,v,o)::e
 |none=>e
def mg (e:Env):Option (Nat×Bool)→Option Bool
 |none=>Eh En
 |some (s,want)=>match ye s e with
  |some (.bool b,_)=>Eh (b == want)
  |some (.undef,_)=>Eh El
  |_=>I
def iI (p:qr)(xc:XC)(h0:Nat)(o:qv)(st:qh):Option qh:=
 match mg st.env o.guard with
 |some En=>(match za p xc h0 o.al st.env st.heap o.op with
  |some r=>Eh ⟨np (gy st.env r.strip) o.dst r.v r.own,r.heap⟩
  |none=>I)
 |some El=>Eh ⟨np st.env o.dst .undef El,st.heap⟩
 |none=>I
def fF (p:qr)(xc:XC)(h0:Nat):List qv→qh→Option qh
 | [],st=>Eh st
 |o::os,st=>match iI p xc h0 o st with
  |some bK=>fF p xc h0 os bK
  |none=>I
def zA (st:qh):Option (List Nat)→qh
 |none=>st
 |some l=>{ st with env:=pD st.env l }
def mr (p:qr)(xc:XC)(na:Nat)(ops:List qv)(keep:Option (List Nat))(st:qh):Option (qo×qh):=
 match fF p xc st.heap.length ops { st with heap:=st.heap++Gb na .hole }with
 |some bK=>Eh (.normal,zA bK keep)
 |none=>I
def mA (p:qr)(xc:XC)(f:qf)(params:List Nat)(assign body:qg)(st:qh):Option (qo×qh):=
 bif kw assign&&kw body then
  match zd st.env f with
  |some (.fn (.func k) first captured)=>
   (match zg p xc k (first++[.fn (.yield st.heap.length) [] []]++captured) (st.heap++[.loop ⟨st.env,params,assign,body,I⟩])with
    |some (_,_,h')=>(match y7 h' st.heap.length with
     |some (.loop l)=>bif ko st.heap.length (h'.take st.heap.length)then
       (match l.pending with
       |none=>Eh (.normal,{ st with heap:=h'.take st.heap.length })
       |some .normal=>I
       |some x=>Eh (x,{ st with heap:=h'.take st.heap.length }))else I
     |_=>I)
    |none=>I)
  |_=>I
 else I
def yf (p:qr):Nat→XC
 |0,_,_=>I
 |n+1,c,st=>match c with
  | .skip=>Eh (.normal,st)
  | .region na ops keep=>mr p (yf p n) na ops keep st
  | .seq a b=>match yf p n a st with
   |some (.normal,bK)=>yf p n b bK
   |r=>r
  | .cond c a b=>match zd st.env c with
   |some (.bool t)=>bif t then yf p n a st else yf p n b st
   |_=>I
  | .block id body=>match yf p n body st with
   |some (.exit fp,bK)=>bif Eo fp id then Eh (.normal,bK)else Eh (.exit fp,bK)
   |r=>r
  | .loop body=>match yf p n body st with
   |some (.normal,bK)=>yf p n (.loop body) (gc st.heap.length bK)
   |r=>r
  | .rangeFunc f params assign body=>mA p (yf p n) f params assign body st
  | .exit id=>Eh (.exit id,st)
  | .ret=>Eh (.ret,st)
  | .grow sz=>match ye 0 st.env,ye 1 st.env with
   |some (.list En _ _,_),Eh (.int .i64 (.ofNat m),_)=>bif E6 0 m&&Ev m 1073741824 then Eh (.normal,{ st with env:=[(0,.list El sz [],En)] })else I
   |_,_=>I
  | .stuck=>I
structure qb where
 takes:List Nat:=[]
 bD:List Nat:=[]
 bE:List (Nat×Nat):=[]
 shr:List (Nat×Nat):=[]
 fe:List (Nat×Nat):=[]
 red:List (Nat×Nat):=[]
 keep:List (Nat×List Nat):=[]
 vl:List Nat:=[]
 vec:List Nat:=[]
 ex:List ((Nat×Nat)×Nat):=[]
 deriving Inhabited
def Di:Value→Option qa
 | .bool b=>Eh (.bool b)
 | .int k n=>Eh (.int k n)
 | .string s=>Eh (.str s.data.toList)
 | .slice I 0 0=>Eh (.list En 0 [])
 | .pointer I=>Eh .bN
 | .map I=>Eh .bM
 | .nilFunc=>Eh .bX
 |_=>I
def vC:List Value→Option (List qa)
 | []=>Eh []
 |v::vs=>match Di v with
  |some x=>match vC vs with
   |some xs=>Eh (x::xs)
   |none=>I
  |none=>I
def ofValue:Value→Option qa
 | .agg cs=>match vC cs.toList with
  |some xs=>Eh (.agg xs)
  |none=>I
 |v=>Di v
def zr:Operand→Option qf
 | .tmp t=>Eh (.tmp t)
 | .const v=>match ofValue v with
  |some x=>Eh (.const x)
  |none=>I
 | .func f=>Eh (.const (.fn (.func f) [] []))
 | .global _=>I
def oQ:List Operand→Option (List qf)
 | []=>Eh []
 |x::xs=>match zr x with
  |some y=>match oQ xs with
   |some ys=>Eh (y::ys)
   |none=>I
  |none=>I
def mC:Option Operand→Option (Option qf)
 |none=>Eh I
 |some x=>match zr x with
  |some y=>Eh (Eh y)
  |none=>I
def fg (P:Program)(t:TypeId):Option Bool:=
 match P.underlying t with
 |some (.struct _)=>Eh En
 |some (.array _ _)=>Eh En
 |some _=>Eh El
 |none=>I
def yh (P:Program)(t:TypeId):Option Nat:=(P.info? t).map (·.size)
def nq (P:Program)(t:TypeId):Option Nat:=(P.info? t).map (·.bytes)
def ek (P:Program)(t:TypeId):Option (List qa):=
 match P.info? t with
 |some i=>match i.zero with
  |some z=>vC z.cells.toList
  |none=>I
 |none=>I
def RZ (P:Program)(t:TypeId):Option TypeId:=
 match P.underlying t with
 |some (.struct fs)=>match fs.toList with
  | [f0,f1]=>match P.underlying f0.type,P.underlying f1.type with
   |some (.pointer t'),Eh (.slice e)=>match P.underlying e,ek P t with
    |some (.int .u8),Eh [.bN,.list En _ []]=>if t' == t then Eh e else I
    |_,_=>I
   |_,_=>I
  |_=>I
 |_=>I
def R0 (P:Program)(t:TypeId):Option qa:=
 match P.info? t with
 |some i=>match i.zero with
  |some z=>ofValue z
  |none=>I
 |none=>I
def EY (g:TypeId→Option (List Kd)):Nat→List Field→Option (List Kd)
 |_,[]=>Eh []
 | off, f :: fs => if f.name != "_" && f.offset == off then (match g f.type with
   |some ks=>(match EY g (off+ks.length) fs with
    |some r=>Eh (ks++r)
    |none=>I)
   |none=>I)else I
def uj (P:Program):Nat→TypeId→Option (List Kd)
 |0,_=>I
 |n+1,t=>match P.underlying t with
  |some (.int _)=>if yh P t == Eh 1 then Eh [.int]else I
  |some .string=>if yh P t == Eh 1 then Eh [.str]else I
  |some .bool=>if yh P t == Eh 1 then Eh [.bool]else I
  |some (.struct fs)=>(match EY (uj P n) 0 fs.toList with
   |some ks=>if !P.stoodInHeld t&&yh P t == Eh ks.length then Eh ks else I
   |none=>I)
  |some (.array len e)=>(match uj P n e with
   |some ks=>if yh P t == Eh (len*ks.length)then Eh (Gb len ks).flatten else I
   |none=>I)
  |_=>I
def L9:Nat:=12
def jT (P:Program)(t:TypeId):Option Kd:=
 match P.underlying t with
 |some (.int _)=>Eh .int
 |some .string=>Eh .str
 |some .bool=>Eh .bool
 |_=>I
def Dj (P:Program)(op:BinOp)(neq:Bool)(t:TypeId)(x y:Operand):Option qw:=
 match P.underlying t with
 |some (.int _)|some .string=>match zr x,zr y with
  |some a,Eh b=>Eh (.bin op a b)
  |_,_=>I
 |some .bool=>match zr x,zr y with
  |some a,Eh b=>Eh (.beq neq a b)
  |_,_=>I
 |some (.struct _)|some (.array _ _)=>
  if !P.eqGuardType P.depth t then match uj P L9 t,zr x,zr y with
   |some ks,Eh a,Eh b=>Eh (.eqs ks neq a b)
   |_,_,_=>I
  else I
 |some (.slice _)=>match y with
  | .const (.slice I 0 0)=>(zr x).map (.eU 0 neq)
  |_=>I
 |some (.pointer _)=>match y with
  | .const (.pointer I)=>(zr x).map (.eU 1 neq)
  |_=>I
 |some (.map _ _)=>match y with
  | .const (.map I)=>(zr x).map (.eU 2 neq)
  |_=>I
 |some (.func _ _ _)=>match y with
  | .const .nilFunc=>(zr x).map (.eU 3 neq)
  |_=>I
 |_=>I
def R1 (P:Program)(op:BinOp)(t:TypeId)(x y:Operand):Option qw:=
 match op with
 | .eql=>Dj P .eql El t x y
 | .neq=>Dj P .neq En t x y
 |op=>match zr x,zr y with
  |some a,Eh b=>Eh (.bin op a b)
  |_,_=>I
def wY (P:Program)(place:Nat→Option (Nat×Nat)):List (Nat×Operand)→Option (List (Nat×Nat×qf))
 | []=>Eh []
 |(i,x)::ps=>match place i,zr x,wY P place ps with
  |some (off,n),Eh y,Eh r=>Eh ((off,n,y)::r)
  |_,_,_=>I
def wZ:List (Nat×Operand)→Option (List (Nat×qf))
 | []=>Eh []
 |(i,x)::ps=>match zr x,wZ ps with
  |some y,Eh r=>Eh ((i,y)::r)
  |_,_=>I
def q5x (h:qb)(dst:Option Nat)(x:Operand):Option Nat:=
 match x,dst with
 | .tmp s,Eh d=>if h.takes.contains d then Eh s else I
 |_,_=>I
def zB:TypeDesc→Bool
 | .slice _=>En
 | .string=>En
 |_=>El
def jc.at (r:Nat):jc→jc
 | .fe _=>.fe r
 |m=>m
def zC (P:Program)(h:qb)(md:jc)(r:Nat)(dst:Option Nat)(c:Call):Option qw:=
 match c.callee with
 | .value f=>match zr f,oQ c.args.toList with
  |some f,Eh args=>Eh (.call (md.at r) f args)
  |_,_=>I
 | .builtin .len=>match c.args.toList,c.argTypes.toList with
  | [x],[t]=>match P.underlying t with
   |some .string=>(zr x).map (.len 0)
   |some (.slice _)=>(zr x).map (.len 1)
   |_=>I
  |_,_=>I
 | .builtin .cap=>match c.args.toList,c.argTypes.toList with
  | [x],[t]=>match P.underlying t with
   |some (.slice _)=>(zr x).map (.len 2)
   |_=>I
  |_,_=>I
 | .builtin .append=>match c.args.toList,c.argTypes.toList with
  | [x,y],[t,u]=>match P.underlying t,P.underlying u with
   |some (.slice e),Eh ut=>if zB ut&&(ek P e).map (·.length) == yh P e then match yh P e,nq P e,zr x,zr y with
     |some sz,Eh b,Eh x,Eh y=>Eh (if(dst.map (h.vec.contains ·)).getD El then .gK r sz b x y else .append (if(dst.map (h.bD.contains ·)).getD El then Eh r else I) sz b x y)
     |_,_,_,_=>I
    else I
   |_,_=>I
  |_,_=>I
 | .builtin .copy=>match c.args.toList,c.argTypes.toList with
  | [x,y],t::_=>match P.underlying t with
   |some (.slice e)=>match yh P e,zr x,zr y with
    |some sz,Eh x,Eh y=>Eh (.copy sz x y)
    |_,_,_=>I
   |_=>I
  |_,_=>I
 | .builtin .delete=>match c.args.toList,c.argTypes.toList with
  | [m,k],t::_=>match P.underlying t with
   |some (.map kt _)=>match jT P kt,zr m,zr k with
    |some kd,Eh m,Eh k=>Eh (.delete kd m k)
    |_,_,_=>I
   |_=>I
  |_,_=>I
 | .builtin .max=>(oQ c.args.toList).map .mx
 | .builtin .min=>(oQ c.args.toList).map .mn
 |_=>I
def Dk : List (String × List Int) := [("woofer/network.none", [0, 0]), ("woofer/network.one", [1, 0]), ("woofer/network.turns", [1, 0, 0, 1, -1, 0, 0, -1])]
def EZ (P:Program)(g:Nat):List (String×List Int)→Option (List Int)
 | []=>I
 |(n,cs)::l=>if P.globalNamed n == Eh g then Eh cs else EZ P g l
def Ma (P:Program)(t:TypeId)(g:Nat):Option qw:=match EZ P g Dk,fg P t,yh P t with
 |some cs,Eh En,Eh n=>if cs.length == n then Eh (.move (.const (.agg (cs.map (qa.int .i64)))))else I
 |_,_,_=>I
def Mb (h:qb):qf→Option Nat
 | .tmp s=>if h.vl.contains s then Eh s else I
 |_=>I
def cx (P:Program)(h:qb)(md:jc)(r:Nat)(dst:Option Nat):Op→Option qw
 | .move x=>match q5x h dst x with
  |some s=>Eh (.take s)
  |none=>(zr x).map .move
 | .assign (.tmp s)=>Eh (.take s)
 | .assign x=>(zr x).map .move
 | .pick c a b=>match zr c,zr a,zr b with
  |some c,Eh a,Eh b=>Eh (.pick c a b)
  |_,_,_=>I
 | .alloc t=>match RZ P t with
  |some e=>Eh (.fD r t e)
  |none=>bif (dst.map (h.vl.contains ·)).getD El then(match ek P t with
   |some z=>bif z.all ze then Eh (.fW z.length)else I
   |none=>I)else(ek P t).map (.alloc r)
 | .box t x=>match yh P t,zr x with
  |some n,Eh x=>Eh (bif (dst.map (h.vl.contains ·)).getD El then .nW n x else .box r n x)
  |_,_=>I
 | .build t ps=>match P.underlying t,ek P t with
  |some (.struct fs),Eh z=>if fs.toList.all (fun f=>(yh P f.type).isSome)then(wY P (fun i=>match fs[i]? with
    |some f=>(yh P f.type).map fun n=>(f.offset,n)
    |none=>I) ps.toList).map (.build z)else I
  |some (.array _ e),Eh z=>match yh P e with
   |some n=>(wY P (fun i=>Eh (i*n,n)) ps.toList).map (.build z)
   |none=>I
  |_,_=>I
 | .buildSlice t n ps=>match P.underlying t with
  |some (.slice e)=>match yh P e,ek P e,fg P e,wZ ps.toList with
   |some sz,Eh z,Eh ag,Eh es=>if sz*n≤65536&&0<sz&&z.length == sz&&(ag||sz == 1)&&(!ag||sz != 1)then Eh (if(dst.map (h.vec.contains ·)).getD El then .ic r sz n z es else .buildSlice sz n z es)else I
   |_,_,_,_=>I
  |_=>I
 | .load t (.global g)=>Ma P t g
 | .load t x=>match fg P t,yh P t,zr x with
  |some El,Eh 1,Eh x=>if(dst.map (h.takes.contains ·)).getD El then Eh (.b8 ((dst.bind fun d=>h.bE.find? fun y=>y.1 == d).map (·.2)) x)else Eh (bif (dst.map (h.vl.contains ·)).getD El then .eT El 1 x else .load El 1 x)
  |some En,Eh n,Eh x=>Eh (bif (dst.map (h.vl.contains ·)).getD El then .eT En n x else .load En n x)
  |_,_,_=>I
 | .store t a v=>match yh P t,zr a,zr v with
  |some n,Eh a,Eh v=>Eh (match Mb h a with
   |some s=>.dv n s v
   |none=>.store n a v)
  |_,_,_=>I
 | .nilCheck x=>(zr x).map .nilCheck
 | .binOp op t x y _=>R1 P op t x y
 | .unOp op _ x=>(zr x).map (.un op)
 | .convert s d x=>match P.underlying s,P.underlying d with
  |some (.int _),Eh (.int k)=>(zr x).map (.conv k)
  |some .string,Eh .string=>(zr x).map .eK
  |some (.int _),Eh .string=>(zr x).map .eK
  |_,_=>I
 | .makeFunc f a b=>match f with
  | .func k=>match oQ a.toList,oQ b.toList with
   |some a,Eh b=>Eh (.fX (.func k) a b)
   |_,_=>I
  |_=>I
 | .makeMap t I=>match P.underlying t with
  |some (.map _ _)=>Eh (.dQ r)
  |_=>I
 | .makeSlice t n c=>match P.underlying t with
  |some (.slice e)=>match yh P e,nq P e,ek P e,fg P e,zr n,zr c with
   |some sz,Eh b,Eh z,Eh ag,Eh n,Eh c=>
    if(ag||sz == 1)&&(!ag||sz != 1)then Eh (.bV (if(dst.map (h.bD.contains ·)).getD El then Eh r else I) sz b z n c)else I
   |_,_,_,_,_,_=>I
  |_=>I
 | .slice t x lo hi I=>match zr x,mC lo,mC hi with
  |some x,Eh lo,Eh hi=>match P.underlying t with
   |some .string=>Eh (.eo x lo hi)
   |some (.slice e)=>(yh P e).map fun sz=>.slice sz x lo hi
   |some (.array n e)=>(yh P e).map fun sz=>.ep n sz x lo hi
   |_=>I
  |_,_,_=>I
 | .fieldAddr t x i=>match P.underlying t with
  |some (.struct fs)=>match fs[i]? with
   |some f=>match fg P f.type,yh P f.type,zr x with
    |some ag,Eh n,Eh x=>if 0<n&&(ag||n == 1)then Eh (.fieldAddr ag f.offset n x)else I
    |_,_,_=>I
   |none=>I
  |_=>I
 | .field t x i=>match P.underlying t with
  |some (.struct fs)=>match fs[i]? with
   |some f=>match fg P f.type,yh P f.type,zr x with
    |some ag,Eh n,Eh x=>Eh (.field ag f.offset n x)
    |_,_,_=>I
   |none=>I
  |_=>I
 | .indexAddr t x i=>match zr x,zr i with
  |some x,Eh i=>match P.underlying t with
   |some (.slice e)=>match yh P e with
    |some sz=>if 0<sz then Eh (.indexAddr sz x i)else I
    |none=>I
   |some (.array n e)=>match yh P e,fg P e with
    |some sz,Eh ag=>if 0<sz&&(ag||sz == 1)then Eh (.dP ag n sz x i)else I
    |_,_=>I
   |_=>I
  |_,_=>I
 | .index t x i=>match zr x,zr i with
  |some x,Eh i=>match P.underlying t with
   |some .string=>Eh (.dO x i)
   |some (.array n e)=>match yh P e,fg P e with
    |some sz,Eh ag=>Eh (.index ag n sz x i)
    |_,_=>I
   |_=>I
  |_,_=>I
 | .lookup t m k ok=>match P.underlying t with
  |some (.map kt e)=>match jT P kt,R0 P e,zr m,zr k with
   |some kd,Eh z,Eh m,Eh k=>Eh (.lookup kd z ok m k)
   |_,_,_,_=>I
  |_=>I
 | .mapUpdate t m k v=>match P.underlying t with
  |some (.map kt _)=>match jT P kt,zr m,zr k,zr v with
   |some kd,Eh m,Eh k,Eh v=>Eh (.mapUpdate kd m k v)
   |_,_,_,_=>I
  |_=>I
 | .insert t m k v=>match P.underlying t with
  |some (.map kt _)=>match jT P kt,zr m,zr k,zr v with
   |some kd,Eh m,Eh k,Eh v=>Eh (.mapUpdate kd m k v)
   |_,_,_,_=>I
  |_=>I
 | .range t x=>match P.underlying t with
  |some .string=>(zr x).map (.cZ r)
  |_=>I
 | .next it En=>(zr it).map .eV
 | .extract x i=>(zr x).map fun x=>.extract x i
 | .call c=>zC P h md r dst c
 |_=>I
def qw.makes:qw→Bool
 | .alloc ..=>En
 | .box ..=>En
 | .fD ..=>En
 | .dQ ..=>En
 | .bV (Eh _) ..=>En
 | .append (Eh _) ..=>En
 | .gK ..=>En
 | .ic ..=>En
 | .cZ ..=>En
 | .call (.fe _) ..=>En
 |_=>El
def qw.gM:qw→Option Nat
 | .dv _ s _=>Eh s
 |_=>I
def qw.xa (d:Option Nat):qw→Option Nat
 | .dv _ s _=>Eh s
 |_=>d
def Dl (ops:Array Oper):Option (Nat×Bool)→Option (Option (Nat×Bool))
 |none=>Eh I
 |some (j,b)=>match(ops[j]?).bind (·.dst)with
  |some d=>Eh (Eh (d,b))
  |none=>I
def jct (h:qb)(id i:Nat):jc:=if h.shr.contains (id,i)then .shr else if h.fe.contains (id,i)then .fe 0 else if h.red.contains (id,i)then .red else .bL
def E0 (P:Program)(h:qb)(nt:Nat)(id:Nat)(ops:Array Oper)(hE:Array Nat)(draw:Bool):List Oper→Nat→List (Nat×Nat)→Option (List qv×List (Nat×Nat))
 | [],_,rs=>Eh ([],rs)
 |o::os,i,rs=>
  match(cx P h (jct h id i) rs.length o.dst o.op).getD .bad,Dl ops o.guard with
  |a,Eh g=>
   if(o.dst.map (decide <| · < nt)).getD En&&(a.gM.map (decide <| · < nt)).getD En&&(a.gM.isNone||(o.dst.isNone&&o.guard.isNone))then
    let Dm:=if a.makes then(i,rs.length)::rs else rs
    let al:=if draw then(match h.ex.find? fun x=>x.1 == (id,i)with
     |some x=>Eh [x.2]
     |none=>Eh ((rs.filter fun x=>(hE.getD i 0).testBit x.1).map (·.2)))else I
    match E0 P h nt id ops hE draw os (i+1) Dm with
    |some (l,R2)=>Eh (⟨a.xa o.dst,a,g,al⟩::l,R2)
    |none=>I
   else I
  |_,_=>I
def y6:qf→List Nat
 | .tmp t=>[t]
 | .const _=>[]
def xb (l:List qf):List Nat:=l.flatMap y6
def zD:Option qf→List Nat
 |some x=>y6 x
 |none=>[]
def qw.reads:qw→List Nat
 | .move x=>y6 x
 | .take s=>[s]
 | .pick c a b=>y6 c++y6 a++y6 b
 | .alloc _ _=>[]
 | .box _ _ x=>y6 x
 | .nW _ x=>y6 x
 | .fW _=>[]
 | .dv _ s x=>s::y6 x
 | .fD _ _ _=>[]
 | .build _ ps=>ps.flatMap fun p=>y6 p.2.2
 | .buildSlice _ _ _ ps=>ps.flatMap fun p=>y6 p.2
 | .load _ _ x=>y6 x
 | .eT _ _ x=>y6 x
 | .b8 _ x=>y6 x
 | .store _ a v=>y6 a++y6 v
 | .nilCheck x=>y6 x
 | .bin _ x y=>y6 x++y6 y
 | .eqs _ _ x y=>y6 x++y6 y
 | .beq _ x y=>y6 x++y6 y
 | .eU _ _ x=>y6 x
 | .un _ x=>y6 x
 | .conv _ x=>y6 x
 | .eK x=>y6 x
 | .field _ _ _ x=>y6 x
 | .index _ _ _ x i=>y6 x++y6 i
 | .dO x i=>y6 x++y6 i
 | .fieldAddr _ _ _ x=>y6 x
 | .indexAddr _ x i=>y6 x++y6 i
 | .dP _ _ _ x i=>y6 x++y6 i
 | .slice _ x lo hi=>y6 x++zD lo++zD hi
 | .eo x lo hi=>y6 x++zD lo++zD hi
 | .ep _ _ x lo hi=>y6 x++zD lo++zD hi
 | .fX _ a b=>xb a++xb b
 | .dQ _=>[]
 | .lookup _ _ _ m k=>y6 m++y6 k
 | .mapUpdate _ m k v=>y6 m++y6 k++y6 v
 | .delete _ m k=>y6 m++y6 k
 | .bV _ _ _ _ n c=>y6 n++y6 c
 | .len _ x=>y6 x
 | .append _ _ _ x y=>y6 x++y6 y
 | .gK _ _ _ x y=>y6 x++y6 y
 | .ic _ _ _ _ ps=>ps.flatMap fun p=>y6 p.2
 | .copy _ x y=>y6 x++y6 y
 | .mx l=>xb l
 | .mn l=>xb l
 | .extract x _=>y6 x
 | .call _ f l=>y6 f++xb l
 | .cZ _ x=>y6 x
 | .eV x=>y6 x
 | .bad=>[]
def qw.fh:qw→List Nat
 | .take s=>[s]
 | .append _ _ _ x _=>y6 x
 | .store _ _ v=>y6 v
 |_=>[]
def qv.reads (o:qv):List Nat:=o.op.reads++(match o.guard with|some g=>[g.1]|none=>[])
def qv.writes (o:qv):List Nat:=o.dst.toList++o.op.fh
inductive jr where
 |pure|read|write|alloc|take|fe|shr|nu
 deriving DecidableEq,Inhabited
def qw.cl:qw→jr
 | .load ..=>.read
 | .lookup ..=>.read
 | .alloc ..=>.alloc
 | .box ..=>.alloc
 | .fD ..=>.alloc
 | .dQ ..=>.alloc
 | .bV (Eh _) ..=>.alloc
 | .append (Eh _) ..=>.alloc
 | .cZ ..=>.alloc
 | .b8 I _=>.write
 | .b8 (Eh _) _=>.take
 | .store ..=>.write
 | .mapUpdate ..=>.write
 | .delete ..=>.write
 | .copy ..=>.write
 | .eV ..=>.write
 | .call .bL ..=>.pure
 | .call (.fe _) ..=>.alloc
 | .call .shr ..=>.shr
 | .call .red ..=>.shr
 | .gK ..=>.nu
 | .ic ..=>.shr
 |_=>.pure
def qw.cA:qw→Nat
 | .alloc r _=>r
 | .box r _ _=>r
 | .fD r _ _=>r
 | .dQ r=>r
 | .bV (Eh r) ..=>r
 | .append (Eh r) ..=>r
 | .cZ r _=>r
 | .call (.fe r) ..=>r
 | .b8 (Eh o) _=>o
 | .gK r sz ..=>r+1000*sz
 |_=>0
def mE (al:Option (List Nat))(r:Nat):Bool:=match al with
 |none=>En
 |some l=>bif nY l then Eo (l.headD 0) (2000+r)else l.contains r
def Dn (a b:Option (List Nat)):Bool:=match a,b with
 |some l,Eh m=>bif nY l then(bif nY m then !(Eo (l.headD 0) (m.headD 0))&&E6 (l.headD 0) 4000&&E6 (m.headD 0) 4000 else Ev 2000 (l.headD 0)&&E6 (l.headD 0) 4000&&!(m.contains (l.headD 0-2000)))else nY m&&Ev 2000 (m.headD 0)&&E6 (m.headD 0) 4000&&!(l.contains (m.headD 0-2000))
 |_,_=>El
def jr.box:jr→Bool
 | .read=>En
 | .write=>En
 | .take=>En
 |_=>El
def R3 (a b:qv):Bool:=(a.op.cl.box&&b.op.cl.box&&Dn a.al b.al) ||
  (match a.op.cl,b.op.cl with
 | .pure,_=>En
 |_,.pure=>En
 | .read,.read=>En
 | .read,.fe=>En
 | .fe,.read=>En
 | .fe,.fe=>En
 | .alloc,.alloc=>a.op.cA != b.op.cA
 | .alloc,.read=>!mE b.al a.op.cA
 | .alloc,.write=>!mE b.al a.op.cA
 | .alloc,.take=>!mE b.al a.op.cA
 | .take,.alloc=>!mE a.al b.op.cA
 | .take,.take=>a.op.cA != b.op.cA
 | .read,.alloc=>!mE a.al b.op.cA
 | .write,.alloc=>!mE a.al b.op.cA
 | .nu,.nu=>a.op.cA % 1000 != b.op.cA % 1000&&a.op.cA / 1000 != b.op.cA / 1000
 | .nu,.read=>oO b.al
 | .nu,.write=>oO b.al
 | .nu,.take=>oO b.al
 | .read,.nu=>oO a.al
 | .write,.nu=>oO a.al
 | .take,.nu=>oO a.al
 |_,_=>El)
def E1 (a b:List Nat):Bool:=a.all fun x=>!b.contains x
def zE (a b:qv):Bool:=
 R3 a b&&E1 a.writes b.reads&&E1 a.writes b.writes&&E1 b.writes a.reads
def R4 (hE:Array Nat)(l:List qv):Bool:=
 (l.zipIdx).all fun(b,j)=>(l.zipIdx).all fun(a,i)=>!(decide (i<j))||(hE.getD j 0).testBit i||zE a b
def R5 (ops:Array Oper):Bool:=ops.toList.zipIdx.all fun(o,i)=>o.after.all fun e=>!Region.binds .any e||decide (e.on<i)
def R6 (hE:Array Nat)(ops:Array Oper):Bool:=
 ops.toList.zipIdx.all fun(o,i)=>(List.range ops.size).all fun j=>!((hE.getD i 0).testBit j)||o.after.any fun e=>Region.binds .any e&&(e.on == j||(hE.getD e.on 0).testBit j)
def E2 (P:Program)(h:qb)(nt:Nat)(id:Nat)(ops:Array Oper)(draw:Bool):Option qg:=
 match E0 P h nt id ops (Region.before ops) draw ops.toList 0 []with
 |some (l,rs)=>
  if !draw||(R4 (Region.before ops) l&&R5 ops&&R6 (Region.before ops) ops)then
   Eh (.region rs.length l ((h.keep.find? fun x=>x.1 == id).map (·.2)))
  else I
 |none=>I
def Dp (s d:Nat)(o:Oper):Bool:=match o.op,o.dst,o.guard with
 | .move (.tmp s'),Eh d',I=>s' == s&&d' == d
 |_,_,_=>El
def R7 (s d:Nat)(o:Oper):Bool:=match o.op,o.dst,o.guard with
 | .assign (.tmp s'),Eh d',I=>s' == s&&d' == d
 |_,_,_=>El
def R8 (x d:Nat)(o:Oper):Option TypeId:=match o.op,o.dst,o.guard with
 | .call c,Eh d',I=>match c.callee,c.args.toList,c.argTypes.toList with
  | .builtin .cap,[.tmp x'],[t]=>if x' == x&&d' == d then Eh t else I
  |_,_,_=>I
 |_,_,_=>I
def R9 (x d:Nat)(o:Oper):Option TypeId:=match o.op,o.dst,o.guard with
 | .call c,Eh d',I=>match c.callee,c.args.toList,c.argTypes.toList with
  | .builtin .len,[.tmp x'],[t]=>if x' == x&&d' == d then Eh t else I
  |_,_,_=>I
 |_,_,_=>I
def Mc (x h d:Nat)(o:Oper):Option TypeId:=match o.op,o.dst,o.guard with
 | .slice t (.tmp x') I (Eh (.tmp h')) I,Eh d',I=>if x' == x&&h' == h&&d' == d then Eh t else I
 |_,_,_=>I
def Sb (x y d:Nat)(o:Oper):Option (TypeId×TypeId):=match o.op,o.dst,o.guard with
 | .call c,Eh d',I=>match c.callee,c.args.toList,c.argTypes.toList with
  | .builtin .append,[.tmp x',.tmp y'],[t,u]=>if x' == x&&y' == y&&d' == d then Eh (t,u)else I
  |_,_,_=>I
 |_,_,_=>I
def ji6 (ops:Array Oper):Option (TypeId×TypeId):=match ops.toList with
 | [o0,o1,o2,o3,o4,o5,o6,o7,o8,o9]=>match R8 18 19 o2,Mc 17 19 20 o3,Sb 20 21 22 o5,R9 23 24 o7,Mc 22 24 25 o8 with
  |some t2,Eh t3,Eh (t,u),Eh t7,Eh t8=>if Dp 0 17 o0&&Dp 0 18 o1&&Dp 1 21 o4&&Dp 0 23 o6&&R7 25 0 o9&&t2 == t&&t3 == t&&t7 == t&&t8 == t then Eh (t,u)else I
  |_,_,_,_,_=>I
 |_=>I
def Md (P:Program)(nt:Nat)(ops:Array Oper):Option Nat:=match ji6 ops with
 |some (t,u)=>match P.underlying t,P.underlying u with
  |some (.slice e),Eh (.int _)=>match P.info? e with
   |some i=>if i.zero.isSome&&0<i.size&&i.bytes≤4096&&26≤nt&&(ek P e).isSome&&(ek P e).map (·.length) == Eh i.size then Eh i.size else I
   |none=>I
  |_,_=>I
 |none=>I
def gA (P:Program)(h:qb)(nt:Nat):Code→Option qg
 | .skip=>Eh .skip
 | .label _=>Eh .skip
 | .region id ops draw=>match draw,Md P nt ops with
  |false,Eh sz=>Eh (.grow sz)
  |_,_=>E2 P h nt id ops draw
 | .seq a b=>match gA P h nt a,gA P h nt b with
  |some x,Eh y=>Eh (.seq x y)
  |_,_=>I
 | .cond c a b=>match zr c,gA P h nt a,gA P h nt b with
  |some c,Eh x,Eh y=>Eh (.cond c x y)
  |_,_,_=>I
 | .block id b=>(gA P h nt b).map (.block id)
 | .loop b=>(gA P h nt b).map .loop
 | .scope b=>(gA P h nt b).map fun x=>.seq x .skip
 | .rangeFunc f ps a b=>match zr f,gA P h nt a,gA P h nt b with
  |some f,Eh x,Eh y=>if ps.all (decide <| · < nt)then Eh (.rangeFunc f ps.toList x y)else I
  |_,_,_=>I
 | .exit id=>Eh (.exit id)
 | .ret=>Eh .ret
 |_=>Eh .stuck
def Me (P:Program):ResultVar→Option ja
 | .tmp t=>Eh (.tmp t)
 | .cell t ty=>match fg P ty,yh P ty with
  |some En,Eh n=>Eh (.cell t En n)
  |some El,Eh 1=>Eh (.cell t El 1)
  |_,_=>I
def zF (P:Program):List ResultVar→Option (List ja)
 | []=>Eh []
 |r::rs=>match Me P r,zF P rs with
  |some x,Eh xs=>Eh (x::xs)
  |_,_=>I
def E3 (P:Program)(h:qb)(f:Func):Option qd:=
 match f.body with
 |some c=>match gA P h f.ntmps c,zF P f.results.toList with
  | some b, Eh rs => if f.name == "runtime.NumGoroutine" then I else Eh ⟨f.ntmps, b, rs⟩
  |_,_=>I
 |none=>I
structure ax where
 K:Nat→Nat→Option Value
 β:Nat→Option Nat
 W:Nat→Prop
 D:Nat→Prop
 T:Nat×Nat×Nat×Nat→Prop
def ax.bL (K:Nat→Nat→Option Value):ax:=⟨K,fun _=>I,fun _=>False,fun _=>False,fun _=>False⟩
def eY (C:ax):Fn→Fn→Prop
 | .yield b,f=>∃r,C.β b=Eh r∧f=.yield r
 |f,f'=>f'=f
inductive jg where
 |val (x:qa) (v:Value)
 |cells (r:Nat) (xs:List qa) (o:Nat)
 |row (r sz:Nat) (xs:List qa) (o:Nat)
 |eP (xs:List qa) (vs:List Value)
inductive qp (C:ax):jg→Prop where
 |bool (b:Bool):qp C (.val (.bool b) (.bool b))
 |int (k:IntKind) (n:Int):qp C (.val (.int k n) (.int k n))
 |str (s:List UInt8):qp C (.val (.str s) (.string ⟨⟨s⟩⟩))
 |iQ (sz:Nat):qp C (.val (.list En sz []) (.slice I 0 0))
 |list (sz:Nat) (xs:List qa) (r o cap:Nat) (hl:xs.length≤cap) (hr:qp C (.row r sz xs o)):qp C (.val (.list El sz xs) (.slice (Eh ⟨r,o,I⟩) xs.length cap))
 |iR (sz:Nat) (a:Addr) (hs:a.spot≠I):qp C (.val (.list El sz []) (.slice (Eh a) 0 0))
 |ms (b o len r cap:Nat) (hb:C.β b=Eh r) (hl:len≤cap):qp C (.val (.ms b o len) (.slice (Eh ⟨r,o,I⟩) len cap))
 |ptr (b o r:Nat) (hb:C.β b=Eh r):qp C (.val (.ptr b o) (.pointer (Eh ⟨r,o,I⟩)))
 |ah (x:qa) (r o:Nat) (h:qp C (.cells r x.flat o)):qp C (.val (.ah x) (.pointer (Eh ⟨r,o,I⟩)))
 |bN:qp C (.val .bN (.pointer I))
 |map (b r:Nat) (hb:C.β b=Eh r):qp C (.val (.map b) (.map (Eh r)))
 |bM:qp C (.val .bM (.map I))
 |fn (f f':Fn) (a b:List qa) (as bs:List Value) (hf:eY C f f') (ha:qp C (.eP a as)) (hb:qp C (.eP b bs)):qp C (.val (.fn f a b) (.func f' ⟨as⟩ ⟨bs⟩))
 |bX:qp C (.val .bX .nilFunc)
 |agg (cs:List qa) (vs:List Value) (h:qp C (.eP cs vs)):qp C (.val (.agg cs) (.agg ⟨vs⟩))
 |az (cs:List qa) (vs:List Value) (h:qp C (.eP cs vs)):qp C (.val (.az cs) (.tuple ⟨vs⟩))
 |undef:qp C (.val .undef (.tuple #[]))
 |any (v:Value):qp C (.val .any v)
 |cE (n:Nat) (a:Addr):qp C (.val (.cE n) (.pointer (Eh a)))
 |au (b bu len r0 r cap:Nat) (hb:C.β b=Eh r0) (ht:C.T (r0,bu,r,cap)) (hl:len≤cap):qp C (.val (.au b bu len) (.slice (Eh ⟨r,0,I⟩) len cap))
 |dk (b bu off r0 r cap:Nat) (hb:C.β b=Eh r0) (ht:C.T (r0,bu,r,cap)):qp C (.val (.dk b bu off) (.pointer (Eh ⟨r,off,I⟩)))
 |gN (r o:Nat):qp C (.cells r [] o)
 |de (r o:Nat) (x:qa) (xs:List qa) (v:Value) (hv:C.K r o=Eh v) (hx:qp C (.val x v)) (h:qp C (.cells r xs (o+1))):qp C (.cells r (x::xs) o)
 |fi (r sz o:Nat):qp C (.row r sz [] o)
 |cY (r sz o:Nat) (x:qa) (xs:List qa) (hs:x.flat.length=sz) (hx:qp C (.cells r x.flat o)) (h:qp C (.row r sz xs (o+sz))):qp C (.row r sz (x::xs) o)
 |nil:qp C (.eP [] [])
 |cons (x:qa) (xs:List qa) (v:Value) (vs:List Value) (hx:qp C (.val x v)) (h:qp C (.eP xs vs)):qp C (.eP (x::xs) (v::vs))
abbrev bC (C:ax)(x:qa)(v:Value):Prop:=qp C (.val x v)
abbrev aK (C:ax)(xs:List qa)(vs:List Value):Prop:=qp C (.eP xs vs)
abbrev bZ (C:ax)(r:Nat)(xs:List qa)(o:Nat):Prop:=qp C (.cells r xs o)
abbrev aX (C:ax)(r sz:Nat)(xs:List qa)(o:Nat):Prop:=qp C (.row r sz xs o)
structure ax.le (C C':ax):Prop where
 k:∀r o v,C.K r o=Eh v→C'.K r o=Eh v
 b:∀b r,C.β b=Eh r→C'.β b=Eh r
 w:C'.W=C.W
 d:∀r,C.D r→C'.D r
 t:∀q,C.T q→C'.T q:=by exact fun _ h=>h
theorem ax.le_refl (C:ax):C.le C:=⟨fun _ _ _ h=>h,fun _ _ h=>h,rfl,fun _ h=>h,fun _ h=>h⟩
theorem ax.le_trans {A B C:ax}(h:A.le B)(k:B.le C):A.le C:=⟨fun r o v x=>k.1 r o v (h.1 r o v x),fun b r x=>k.2 b r (h.2 b r x),k.w.trans h.w,fun r x=>k.d r (h.d r x),fun r x=>k.t r (h.t r x)⟩
theorem eY.imp {C C':ax}(h:(∀r o v,C.K r o=Eh v→C'.K r o=Eh v)∧(∀b r,C.β b=Eh r→C'.β b=Eh r)){f f':Fn}(hf:eY C f f'):eY C' f f':=by
 cases f<;>simp only[eY]at *<;>first|exact hf|exact⟨hf.choose,h.2 _ _ hf.choose_spec.1,hf.choose_spec.2⟩
theorem qp.imp {C C':ax}(h:(∀r o v,C.K r o=some v→C'.K r o=some v)∧(∀b r,C.β b=some r→C'.β b=some r)){i:jg}(hr:qp C i)(hT:∀q,C.T q→C'.T q:=by first|exact fun _ h=>h|exact fun _ h=>False.elim h):qp C' i:=by
 induction hr with
 |bool b=>exact .bool b
 |int k n=>exact .int k n
 |str s=>exact .str s
 |iQ sz=>exact .iQ sz
 |list sz xs r o cap hl _ ih=>exact .list sz xs r o cap hl ih
 |iR sz a hs=>exact .iR sz a hs
 |ms b o len r cap hb hl=>exact .ms b o len r cap (h.2 _ _ hb) hl
 |ptr b o r hb=>exact .ptr b o r (h.2 _ _ hb)
 |ah x r o _ ih=>exact .ah x r o ih
 |bN=>exact .bN
 |map b r hb=>exact .map b r (h.2 _ _ hb)
 |bM=>exact .bM
 |fn f f' a b as bs hf _ _ ha hb=>exact .fn f f' a b as bs (hf.imp h) ha hb
 |bX=>exact .bX
 |agg cs vs _ ih=>exact .agg cs vs ih
 |az cs vs _ ih=>exact .az cs vs ih
 |undef=>exact .undef
 |any v=>exact .any v
 |cE n a=>exact .cE n a
 |au b bu len r0 r cap hb ht hl=>exact .au b bu len r0 r cap (h.2 _ _ hb) (hT _ ht) hl
 |dk b bu off r0 r cap hb ht=>exact .dk b bu off r0 r cap (h.2 _ _ hb) (hT _ ht)
 |gN r o=>exact .gN r o
 |de r o x xs v hv _ _ nv ih=>exact .de r o x xs v (h.1 _ _ _ hv) nv ih
 |fi r sz o=>exact .fi r sz o
 |cY r sz o x xs hs _ _ nv ih=>exact .cY r sz o x xs hs nv ih
 |nil=>exact .nil
 |cons x xs v vs _ _ nv ih=>exact .cons x xs v vs nv ih
theorem qp.mono {C C':ax}(h:C.le C'){i:jg}(hr:qp C i):qp C' i:=hr.imp ⟨h.k,h.b⟩ h.t
def jg.below (n:Nat):jg→Bool
 | .val x _=>Abs.below n x
 | .cells _ xs _=>zw n xs
 | .row _ _ xs _=>zw n xs
 | .eP xs _=>zw n xs
theorem Mf (n:Nat)(x:qa):zw n x.flat=Abs.below n x:=by
 cases x<;>simp[qa.flat,zw,Abs.below]
theorem qp.shift {C C':ax}(n:Nat)(hK:∀r o v,C.K r o=some v→C'.K r o=some v)(hβ:∀b r,b<n→C.β b=some r→C'.β b=some r){i:jg}(hr:qp C i)(hb:i.below n=true)(hT:∀q,0<n→C.T q→C'.T q:=by first|exact fun _ _ h=>h|exact fun _ h=>absurd h (Nat.lt_irrefl 0)|exact fun _ _ h=>False.elim h):qp C' i:=by
 induction hr with
 |bool b=>exact .bool b
 |int k n=>exact .int k n
 |str s=>exact .str s
 |iQ sz=>exact .iQ sz
 |list sz xs r o cap hl _ ih=>exact .list sz xs r o cap hl (ih (by simpa[jg.below,Abs.below]using hb))
 |iR sz a hs=>exact .iR sz a hs
 |ms b o len r cap h1 hl=>exact .ms b o len r cap (hβ _ _ (by simpa[jg.below,Abs.below]using hb) h1) hl
 |ptr b o r h1=>exact .ptr b o r (hβ _ _ (by simpa[jg.below,Abs.below]using hb) h1)
 |ah x r o _ ih=>exact .ah x r o (ih (by simpa[jg.below,Abs.below,Mf]using hb))
 |bN=>exact .bN
 |map b r h1=>exact .map b r (hβ _ _ (by simpa[jg.below,Abs.below]using hb) h1)
 |bM=>exact .bM
 |fn f f' a b as bs hf _ _ iha ihb=>
  have Sc:eY C' f f':=by
   cases f<;>simp only[eY]at *<;>first|exact hf|skip
   obtain⟨r,h1,rfl⟩:=hf
   simp[jg.below,Abs.below]at hb
   exact⟨r,hβ _ _ hb.1.1 h1,rfl⟩
  have pI:zw n a=En∧zw n b=En:=by
   cases f<;>simp[jg.below,Abs.below]at hb<;>first|exact hb|exact⟨hb.1.2,hb.2⟩
  exact .fn f f' a b as bs Sc (iha pI.1) (ihb pI.2)
 |bX=>exact .bX
 |agg cs vs _ ih=>exact .agg cs vs (ih (by simpa[jg.below,Abs.below]using hb))
 |az cs vs _ ih=>exact .az cs vs (ih (by simpa[jg.below,Abs.below]using hb))
 |undef=>exact .undef
 |any v=>exact .any v
 |cE n a=>exact .cE n a
 |au b bu len r0 r cap h1 ht hl=>
  have zG:b<n:=by simpa[jg.below,Abs.below]using hb
  exact .au b bu len r0 r cap (hβ _ _ zG h1) (hT _ (by omega) ht) hl
 |dk b bu off r0 r cap h1 ht=>
  have zG:b<n:=by simpa[jg.below,Abs.below]using hb
  exact .dk b bu off r0 r cap (hβ _ _ zG h1) (hT _ (by omega) ht)
 |gN r o=>exact .gN r o
 |de r o x xs v hv _ _ nv ih=>
  simp[jg.below,zw]at hb nv ih
  exact .de r o x xs v (hK _ _ _ hv) (nv hb.1) (ih hb.2)
 |fi r sz o=>exact .fi r sz o
 |cY r sz o x xs hs _ _ nv ih=>
  simp[jg.below,zw,Mf]at hb nv ih
  exact .cY r sz o x xs hs (nv hb.1) (ih hb.2)
 |nil=>exact .nil
 |cons x xs v vs _ _ nv ih=>
  simp[jg.below,zw]at hb nv ih
  exact .cons x xs v vs (nv hb.1) (ih hb.2)
theorem aK.length {C:ax}{xs:List qa}:∀ {vs:List Value},aK C xs vs→vs.length=xs.length:=by
 induction xs with
 |nil=>intro vs h;cases h;rfl
 |cons x xs ih=>intro vs h;cases h with|cons _ _ v vs hx h=>simp[ih h]
theorem aK.get {C:ax}{xs:List qa}:∀ {vs:List Value},aK C xs vs→∀ {i:Nat} {x:qa},xs[i]?=Eh x→∃v,vs[i]?=Eh v∧bC C x v:=by
 induction xs with
 |nil=>intro vs _ i x h;simp at h
 |cons y ys ih=>
  intro vs h i x hi
  cases h with
  |cons _ _ v vs hx h=>
   cases i with
   |zero=>simp at hi;subst hi;exact⟨v,rfl,hx⟩
   |succ i=>simp at hi;obtain⟨w,h1,h2⟩:=ih h hi;exact⟨w,by simpa using h1,h2⟩
theorem aK.append {C:ax}{xs ys:List qa}:∀ {vs ws:List Value},aK C xs vs→aK C ys ws→aK C (xs++ys) (vs++ws):=by
 induction xs with
 |nil=>intro vs ws h k;cases h;exact k
 |cons x xs ih=>intro vs ws h k;cases h with|cons _ _ v vs hx h=>exact .cons _ _ _ _ hx (ih h k)
theorem aK.take {C:ax}{xs:List qa}:∀ {vs:List Value} (n:Nat),aK C xs vs→aK C (xs.take n) (vs.take n):=by
 induction xs with
 |nil=>intro vs n h;cases h;simpa using qp.nil
 |cons x xs ih=>intro vs n h;cases h with|cons _ _ v vs hx h=>cases n with
  |zero=>simpa using qp.nil
  |succ n=>exact .cons _ _ _ _ hx (ih n h)
theorem aK.drop {C:ax}{xs:List qa}:∀ {vs:List Value} (n:Nat),aK C xs vs→aK C (xs.drop n) (vs.drop n):=by
 induction xs with
 |nil=>intro vs n h;cases h;simpa using qp.nil
 |cons x xs ih=>intro vs n h;cases h with|cons _ _ v vs hx h=>cases n with
  |zero=>exact .cons _ _ _ _ hx h
  |succ n=>simpa using ih n h
theorem bZ.get {C:ax}{r:Nat}{xs:List qa}:∀ {o:Nat},bZ C r xs o→∀ {i:Nat} {x:qa},xs[i]?=Eh x→∃v,C.K r (o+i)=Eh v∧bC C x v:=by
 induction xs with
 |nil=>intro o _ i x h;simp at h
 |cons y ys ih=>
  intro o h i x hi
  cases h with
  |de _ _ _ _ v hv hx h=>
   cases i with
   |zero=>simp at hi;subst hi;exact⟨v,hv,hx⟩
   |succ i=>simp at hi;obtain⟨w,h1,h2⟩:=ih h hi;exact⟨w,by rw[show o+(i+1)=o+1+i from by omega];exact h1,h2⟩
theorem bZ.drop {C:ax}{r:Nat}{xs:List qa}:∀ {o:Nat} (n:Nat),bZ C r xs o→bZ C r (xs.drop n) (o+n):=by
 induction xs with
 |nil=>intro o n h;simpa using qp.gN r (o+n)
 |cons x xs ih=>intro o n h;cases h with|de _ _ _ _ v hv hx h=>cases n with
  |zero=>exact .de _ _ _ _ _ hv hx h
  |succ n=>have:=ih n h;rw[show o+(n+1)=o+1+n from by omega];simpa using this
theorem bZ.take {C:ax}{r:Nat}{xs:List qa}:∀ {o:Nat} (n:Nat),bZ C r xs o→bZ C r (xs.take n) o:=by
 induction xs with
 |nil=>intro o n h;simpa using qp.gN r o
 |cons x xs ih=>intro o n h;cases h with|de _ _ _ _ v hv hx h=>cases n with
  |zero=>simpa using qp.gN r o
  |succ n=>exact .de _ _ _ _ _ hv hx (ih n h)
theorem bZ.append {C:ax}{r:Nat}{xs ys:List qa}:∀ {o:Nat},bZ C r xs o→bZ C r ys (o+xs.length)→bZ C r (xs++ys) o:=by
 induction xs with
 |nil=>intro o _ k;simpa using k
 |cons x xs ih=>intro o h k;cases h with|de _ _ _ _ v hv hx h=>exact .de _ _ _ _ _ hv hx (ih h (by simpa[Nat.add_assoc,Nat.add_comm 1]using k))
theorem aX.get {C:ax}{r sz:Nat}{xs:List qa}:∀ {o:Nat},aX C r sz xs o→∀ {i:Nat} {x:qa},xs[i]?=Eh x→bZ C r x.flat (o+i*sz):=by
 induction xs with
 |nil=>intro o _ i x h;simp at h
 |cons y ys ih=>
  intro o h i x hi
  cases h with
  |cY _ _ _ _ _ hs hx h=>
   cases i with
   |zero=>simp at hi;subst hi;simpa using hx
   |succ i=>simp at hi;have:=ih h hi;rw[show o+(i+1)*sz=o+sz+i*sz from by rw[Gh];omega];exact this
theorem aX.drop {C:ax}{r sz:Nat}{xs:List qa}:∀ {o:Nat} (n:Nat),aX C r sz xs o→aX C r sz (xs.drop n) (o+n*sz):=by
 induction xs with
 |nil=>intro o n h;simpa using qp.fi r sz (o+n*sz)
 |cons x xs ih=>intro o n h;cases h with|cY _ _ _ _ _ hs hx h=>cases n with
  |zero=>simpa using qp.cY _ _ _ _ _ hs hx h
  |succ n=>have:=ih n h;rw[show o+(n+1)*sz=o+sz+n*sz from by rw[Gh];omega];simpa using this
theorem aX.take {C:ax}{r sz:Nat}{xs:List qa}:∀ {o:Nat} (n:Nat),aX C r sz xs o→aX C r sz (xs.take n) o:=by
 induction xs with
 |nil=>intro o n h;simpa using qp.fi r sz o
 |cons x xs ih=>intro o n h;cases h with|cY _ _ _ _ _ hs hx h=>cases n with
  |zero=>simpa using qp.fi r sz o
  |succ n=>exact .cY _ _ _ _ _ hs hx (ih n h)
theorem aX.append {C:ax}{r sz:Nat}{xs ys:List qa}:∀ {o:Nat},aX C r sz xs o→aX C r sz ys (o+xs.length*sz)→aX C r sz (xs++ys) o:=by
 induction xs with
 |nil=>intro o _ k;simpa using k
 |cons x xs ih=>
  intro o h k
  cases h with
  |cY _ _ _ _ _ hs hx h=>
   refine .cY _ _ _ _ _ hs hx (ih h ?_)
   have e:o+sz+xs.length*sz=o+(x::xs).length*sz:=by simp[Gh];omega
   rw[e];exact k
theorem aX.sized {C:ax}{r sz:Nat}{xs:List qa}:∀ {o:Nat},aX C r sz xs o→∀x∈xs,x.flat.length=sz:=by
 induction xs with
 |nil=>intro o _ x hx;cases hx
 |cons y ys ih=>
  intro o h x hx
  cases h with
  |cY _ _ _ _ _ hs _ h=>
   rcases List.mem_cons.1 hx with rfl|hx
   ·exact hs
   ·exact ih h x hx
theorem aX.cells {C:ax}{r sz:Nat}{xs:List qa}:∀ {o:Nat},aX C r sz xs o→bZ C r (xs.flatMap qa.flat) o:=by
 induction xs with
 |nil=>intro o _;exact .gN _ _
 |cons x xs ih=>
  intro o h
  cases h with
  |cY _ _ _ _ _ hs hx h=>
   simp only[Gi]
   refine bZ.append hx ?_
   rw[hs]
   exact ih h
theorem aX.et {C:ax}{r sz:Nat}{xs:List qa}:∀ {o:Nat},bZ C r (xs.flatMap qa.flat) o→(∀x∈xs,x.flat.length=sz)→aX C r sz xs o:=by
 induction xs with
 |nil=>intro o _ _;exact .fi _ _ _
 |cons x xs ih=>
  intro o h hl
  simp only[Gi]at h
  have h1:=bZ.take (x.flat.length) h
  have h2:=bZ.drop (x.flat.length) h
  rw[List.take_left' rfl]at h1
  rw[List.drop_left' rfl,hl x (by simp)]at h2
  exact .cY _ _ _ _ _ (hl x (by simp)) h1 (ih h2 fun y hy=>hl y (by simp[hy]))
theorem bZ.vals {C:ax}{r:Nat}{xs:List qa}:∀ {o:Nat},bZ C r xs o→∃vs,aK C xs vs∧∀j v,vs[j]?=Eh v→C.K r (o+j)=Eh v:=by
 induction xs with
 |nil=>intro o _;exact⟨[],.nil,by simp⟩
 |cons x xs ih=>
  intro o h
  cases h with
  |de _ _ _ _ v hv hx h=>
   obtain⟨vs,h1,h2⟩:=ih h
   refine⟨v::vs,.cons _ _ _ _ hx h1,?_⟩
   intro j u hj
   cases j with
   |zero=>simp at hj;subst hj;exact hv
   |succ j=>simp at hj;rw[show o+(j+1)=o+1+j from by omega];exact h2 j u hj
inductive Loc where
 |slot (s:Nat)
 |cell (b j:Nat)
 deriving DecidableEq
def eu (sz:Nat)(xs:List qa)(cells:Array Value)(elem:TypeId)(len cap:Nat):Prop:=
 ∀(e:Nat) (l:List UInt8),sz=0→xs=[.int .u64 (e:Int),.str l]→elem=e∧len=l.length∧len≤cap∧cap≤maxLen∧cells.size=cap∧cells.toList.take len=l.map fun b=>Value.int .u8 b.toNat
theorem eu.pos {sz:Nat}{xs:List qa}{cells:Array Value}{elem:TypeId}{len cap:Nat}(h:0<sz):eu sz xs cells elem len cap:=fun _ _ h0=>by omega
theorem eu.sized {sz:Nat}{xs:List qa}{cells:Array Value}{elem:TypeId}{len cap:Nat}(h:∀x∈xs,x.flat.length=sz):eu sz xs cells elem len cap:=fun e l h0 hx=>by
 have:=h (.str l) (by rw[hx];simp)
 simp[qa.flat,h0]at this
def aC (C:ax)(ω:Nat→Option Loc)(w:World)(B:Nat)(ℓ:Loc):qa→Value→Prop
 | .list _ sz xs,.slice (Eh a) len cap=>ω a.block=Eh ℓ∧(B≤a.block∨C.W a.block)∧(∀b,C.β b≠Eh a.block)∧a.spot=I∧a.off=0 ∧
   (∃cells elem,w.heap[a.block]?=Eh (.cells cells elem (0,0))∧a.off+cap*sz≤cells.size∧eu sz xs cells elem len cap)∧∀o,a.off+len*sz≤o→C.K a.block o=I
 | .cE n,.pointer (Eh a)=>ω a.block=Eh ℓ∧(B≤a.block∨C.W a.block)∧(∀b,C.β b≠Eh a.block)∧a.spot=I∧a.off=0 ∧
   (∃cells elem,w.heap[a.block]?=Eh (.cells cells elem (0,0))∧a.off+n*1≤cells.size∧eu 0 [] cells elem 0 0)∧∀o,a.off+0*0≤o→C.K a.block o=I
 |_,_=>True
structure Ext (w w':World):Prop where
 size:w.heap.size≤w'.heap.size
 same:∀r,r<w.heap.size→w'.heap[r]?=w.heap[r]?
 os:w'.os=w.os
 output:w'.output=w.output
theorem Ext.refl (w:World):Ext w w:=⟨Gc _,fun _ _=>rfl,rfl,rfl⟩
theorem Ext.get {w w':World}(h:Ext w w'){r:Nat}{o:Obj}(hr:w.heap[r]?=Eh o):w'.heap[r]?=Eh o:=by
 rw[h.same r (E7.1 hr).1];exact hr
theorem Ext.trans {a b c:World}(h:Ext a b)(k:Ext b c):Ext a c where
 size:=Nat.le_trans h.size k.size
 same r hr:=by rw[k.same r (Ga hr h.size),h.same r hr]
 os:=k.os.trans h.os
 output:=k.output.trans h.output
theorem vD (w:World)(o:Obj)(r:Nat):(w.alloc o).heap[r]?=if r=w.heap.size then Eh o else w.heap[r]?:=by
 show(w.heap.push o)[r]?=_
 rw[Array.getElem?_push]
theorem Ext.alloc (w:World)(o:Obj)(ho:∀c t fr,o=.cells c t fr→fr=(0,0)):Ext w (w.alloc o) where
 size:=by rw[World.size_alloc];omega
 same r hr:=by rw[vD,if_neg (by omega)]
 os:=rfl
 output:=rfl
theorem Ext.drew (w:World):Ext w w.drew:=⟨Gc _,fun _ _=>rfl,rfl,rfl⟩
theorem Ext.cell {w w':World}(h:Ext w w'){a:Addr}{v:Value}(hc:w.cell? a=Eh v):w'.cell? a=Eh v:=by
 unfold World.cell? at *
 cases hr:w.heap[a.block]? with
 |none=>rw[hr]at hc;cases hc
 |some o=>rw[h.get hr];rw[hr]at hc;exact hc
theorem aC.ext {C:ax}{ω:Nat→Option Loc}{w w':World}{B:Nat}{ℓ:Loc}{x:qa}{v:Value}(h:Ext w w')(ho:aC C ω w B ℓ x v):aC C ω w' B ℓ x v:=by
 unfold aC at *
 split at ho
 ·obtain⟨h1,h2,h3,h4,h8,⟨cells,elem,h5,h6⟩,h7⟩:=ho
  exact⟨h1,h2,h3,h4,h8,⟨cells,elem,h.get h5,h6⟩,h7⟩
 ·obtain⟨h1,h2,h3,h4,h8,⟨cells,elem,h5,h6⟩,h7⟩:=ho
  exact⟨h1,h2,h3,h4,h8,⟨cells,elem,h.get h5,h6⟩,h7⟩
 ·trivial
inductive qy (C:ax):List (qa×qa)→List MapEntry→Prop where
 |nil:qy C [] []
 |cons (k v:qa) (es:List (qa×qa)) (m:MapEntry) (ms:List MapEntry) (hk:bC C k m.key) (hv:bC C v m.val) (h:qy C es ms):qy C ((k,v)::es) (m::ms)
theorem qy.imp {C C':ax}(h:(∀r o v,C.K r o=some v→C'.K r o=some v)∧(∀b r,C.β b=some r→C'.β b=some r)){es:List (qa×qa)}{ms:List MapEntry}(hr:qy C es ms)(hT:∀q,C.T q→C'.T q:=by first|exact fun _ h=>h|exact fun _ h=>False.elim h):qy C' es ms:=by
 induction hr with
 |nil=>exact .nil
 |cons k v es m ms hk hv _ ih=>exact .cons k v es m ms (qp.imp h hk hT) (qp.imp h hv hT) ih
theorem qy.mono {C C':ax}(h:C.le C'){es:List (qa×qa)}{ms:List MapEntry}(hr:qy C es ms):qy C' es ms:=hr.imp ⟨h.k,h.b⟩ h.t
def aW (C:ax)(e:Env)(tmps:Array Value):Prop:=∀s x,ye s e=Eh x→∃v,tmps[s]?=Eh v∧bC C x.1 v
def E4 (P:Program)(nt:Nat)(c:Code)(a:qg):Prop:=∃h,gA P h nt c=Eh a
structure q9 (P:Program)(C:ax)(l:jq)(lp:Loop):Prop where
 assign:E4 P lp.tmps.size lp.assign l.assign
 body:E4 P lp.tmps.size lp.body l.body
 params:lp.params.toList=l.params
 fits:∀t∈l.params,t<lp.tmps.size
 nr:kw l.assign=En∧kw l.body=En
 env:aW C l.env lp.tmps
 state:lp.state=match l.pending with
  |none=>.ready
  |some .normal=>.busy
  |some _=>.done
 pending:lp.pending=match l.pending with
  |none=>I
  |some .normal=>I
  |some (.exit id)=>Eh (.exit id)
  |some .ret=>Eh .ret
def dR (K:Nat→Nat→Option Value)(w:World)(q sz:Nat)(xs:List qa)(cap:Nat):Prop:=
 ∃cells t vs,w.heap[q]?=Eh (.cells cells t (0,0))∧xs.length≤cap∧cap*sz≤cells.size∧(∀x∈xs,x.flat.length=sz)∧aK (.bL K) (xs.flatMap qa.flat) vs ∧
  (∀(j:Nat) v,vs[j]?=Eh v→cells[j]?=Eh v)∧∀v∈vs,v.oneCell'=En
theorem dR.imp {K K':Nat→Nat→Option Value}{w w':World}{q sz cap:Nat}{xs:List qa}(hK:∀r o v,K r o=Eh v→K' r o=Eh v)(hw:w'.heap[q]?=w.heap[q]?)(h:dR K w q sz xs cap):dR K' w' q sz xs cap:=by
 obtain⟨cells,t,vs,h1,h2,h3,h4,h5,h6⟩:=h
 exact⟨cells,t,vs,hw.trans h1,h2,h3,h4,qp.imp (C:=.bL K) (C':=.bL K') ⟨hK,fun _ _ h=>h⟩ h5,h6⟩
abbrev xd (C:ax)(ω:Nat→Option Loc)(w:World)(B b q n cap:Nat):Prop:=aC C ω w B (.cell b 0) (.list El 0 []) (.slice (Eh ⟨q,0,I⟩) n cap)
def dI (C:ax)(ω:Nat→Option Loc)(w:World)(B b r sz bu:Nat)(xs:List qa):Prop:=
 ∃q cap,C.T (r,bu,q,cap)∧(∀x,C.T x→x.1=r→x.2.1≤bu∧(x.2.1=bu→x.2.2=(q,cap)))∧dR C.K w q sz xs cap∧(q=r∨xd C ω w B b q xs.length cap)∧∃cs t,w.heap[r]?=Eh (.cells cs t (0,0))
theorem dI.imp {C C':ax}{ω ω':Nat→Option Loc}{w w':World}{B B' b r sz bu:Nat}{xs:List qa}(hK:∀r o v,C.K r o=Eh v→C'.K r o=Eh v)(hT:∀q,C.T q→C'.T q)(E5:∀x,C'.T x→x.1=r→C.T x)(hw:w'.heap[r]?=w.heap[r]?)
  (hq:∀q n cap,xd C ω w B b q n cap→w'.heap[q]?=w.heap[q]?∧xd C' ω' w' B' b q n cap) (h:dI C ω w B b r sz bu xs):dI C' ω' w' B' b r sz bu xs:=by
 obtain⟨q,cap,h1,h2,h3,h4,cs,t,h5⟩:=h
 refine⟨q,cap,hT _ h1,fun x hx hr=>h2 x (E5 x hx hr) hr,?_,?_,cs,t,hw.trans h5⟩
 ·rcases h4 with rfl|h4
  ·exact h3.imp hK hw
  ·exact h3.imp hK (hq _ _ _ h4).1
 ·exact h4.imp id fun h=>(hq _ _ _ h).2
def bm (P:Program)(C:ax)(ω:Nat→Option Loc)(w:World)(B b r:Nat):qm→Prop
 | .hole=>False
 | .cells cs=>∃vs elem,w.heap[r]?=Eh (.cells vs elem (0,0))∧cs.length≤vs.size ∧
   ∀j c,cs[j]?=Eh c→∃v,vs[j]?=Eh v∧v.oneCell'=En∧bC C c.1 v∧(c.2=En→aC C ω w B (.cell b j) c.1 v)
 | .map es=>∃bQ clock,w.heap[r]?=Eh (.map bQ clock)∧qy C es bQ.toList
 | .iter s pos=>w.heap[r]?=Eh (.stringIter ⟨⟨s⟩⟩ pos)
 | .loop l=>∃lp,w.heap[r]?=Eh (.loop lp)∧q9 P C l lp
 | .fD t e l=>∃p v,w.heap[r]?=Eh (.cells #[p,v] t (0,0))∧(p=.pointer I∨p=.pointer (Eh ⟨r,0,I⟩))∧((v=.slice I 0 0∧l=[])∨∃a len cap,v=.slice (Eh a) len cap)∧aC C ω w B (.cell b 1) (.list El 0 [.int .u64 (e:Int),.str l]) v
 | .dead=>∃cs t,w.heap[r]?=Eh (.cells cs t (0,0))
 | .vec sz bu xs=>dI C ω w B b r sz bu xs
def nw : String := "internal/strconv.uint64pow10"
def xe : String := "internal/bytealg.MaxLen"
def jy8 (P:Program)(w:World)(g:Nat):Prop:=
 (P.globalNamed nw=Eh g→Lib.TabIs P w nw .u64 Lib.pow10Tab)∧(P.globalNamed xe=Eh g→∃m,w.cell? ⟨g,0,I⟩=Eh (.int .i64 m)) ∧
 (∀x∈Dk,P.globalNamed x.1=Eh g→∀j n,x.2[j]?=Eh n→w.cell? ⟨g,j,I⟩=Eh (.int .i64 n))
def Sd (P:Program)(g:Nat):Prop:=P.globalNamed nw=Eh g∨P.globalNamed xe=Eh g∨∃x∈Dk,P.globalNamed x.1=Eh g
def Tabs (P:Program)(w:World):Prop:=∀g,Sd P g→g<w.heap.size∧jy8 P w g
theorem Tabs.same {P:Program}{w w':World}(h:Tabs P w)(hs:w.heap.size≤w'.heap.size)(hg:∀g,Sd P g→w'.heap[g]?=w.heap[g]?):Tabs P w':=by
 intro g hn
 obtain⟨h1,h2,h3,h5⟩:=h g hn
 refine⟨Ga h1 hs,fun Dq=>?_,fun Dq=>?_,fun x hx Dq j n hj=>?_⟩
 ·have h2:=h2 Dq
  unfold Lib.TabIs World.var? at *
  rw[Dq]at h2 ⊢
  simp only[Option.bind_some]at h2 ⊢
  rw[hg g hn]
  exact h2
 ·obtain⟨m,h4⟩:=h3 Dq
  refine⟨m,?_⟩
  unfold World.cell? at *
  simp only[]at h4 ⊢
  rw[hg g hn]
  exact h4
 ·have h4:=h5 x hx Dq j n hj
  unfold World.cell? at *
  simp only[]at h4 ⊢
  rw[hg g hn]
  exact h4
theorem Tabs.none {P:Program}{w:World}(h:P.globalNamed nw=I∧P.globalNamed xe=I∧∀x∈Dk,P.globalNamed x.1=I):Tabs P w:=fun g hn=>by
 rcases hn with hn|hn|⟨x,hx,hn⟩
 ·rw[h.1]at hn;cases hn
 ·rw[h.2.1]at hn;cases hn
 ·rw[h.2.2 x hx]at hn;cases hn
def zex (P:Program)(w0:World)(C0:ax):Prop:=Tabs P w0∧∀g,Sd P g→(∀b,C0.β b≠Eh g)∧¬C0.W g
structure av (P:Program)(C:ax)(ω:Nat→Option Loc)(w0:World)(C0:ax)(h:j8)(w:World):Prop where
 base:zex P w0 C0
 know:∀r o v,C.K r o=Eh v→w.cell? ⟨r,o,I⟩=Eh v
 cP:∀r o v,C.K r o=Eh v→v.oneCell'=En
 apart:∀b r o,C.β b=Eh r→C.K r o=I
 inj:∀b b' r,C.β b=Eh r→C.β b'=Eh r→b=b'
 lt:∀b r,C.β b=Eh r→r<w.heap.size∧b<h.length
 size:w0.heap.size≤w.heap.size
 frame:∀r,r<w0.heap.size→(∀b,C0.β b≠Eh r)→¬C0.W r→w.heap[r]?=w0.heap[r]?
 eQ:∀r,C.D r→w.heap[r]?=Eh (.deferred (Eh []))
 os:w.os=w0.os
 output:w.output=w0.output
 fresh:∀b r,C.β b=Eh r→C0.β b=Eh r∨w0.heap.size≤r∨C0.W r
 grown:C0.le C
 old:∀r o,r<w0.heap.size→¬C0.W r→C.K r o=C0.K r o
 box:∀b x r,h[b]?=Eh x→C.β b=Eh r→bm P C ω w w0.heap.size b r x
 hH:∀q,C.T q→q.1<w.heap.size
def ai (C:ax)(ω:Nat→Option Loc)(w:World)(B:Nat)(e:Env)(tmps:Array Value):Prop:=
 ∀s x,ye s e=Eh x→∃v,tmps[s]?=Eh v∧bC C x.1 v∧(x.2=En→aC C ω w B (.slot s) x.1 v)
theorem ai.bU {C:ax}{ω:Nat→Option Loc}{w:World}{B:Nat}{e:Env}{tmps:Array Value}(h:ai C ω w B e tmps):aW C e tmps:=
 fun s x hx=>let ⟨v,h1,h2,_⟩:=h s x hx; ⟨v,h1,h2⟩
theorem bm.ext {P:Program}{C:ax}{ω:Nat→Option Loc}{w w':World}{B b r:Nat}{x:qm}(h:Ext w w')(hb:bm P C ω w B b r x):bm P C ω w' B b r x:=by
 cases x with
 |hole=>exact hb
 |cells cs=>
  obtain⟨vs,elem,h1,h2,h3⟩:=hb
  exact⟨vs,elem,h.get h1,h2,fun j c hc=>let ⟨v,a,q,b,d⟩:=h3 j c hc; ⟨v,a,q,b,fun e=>(d e).ext h⟩⟩
 |map es=>obtain⟨bQ,clock,h1,h2⟩:=hb;exact⟨bQ,clock,h.get h1,h2⟩
 |iter s pos=>exact h.get hb
 |loop l=>obtain⟨lp,h1,h2⟩:=hb;exact⟨lp,h.get h1,h2⟩
 |fD t e l=>obtain⟨p,v,h1,h2,h3,h4⟩:=hb;exact⟨p,v,h.get h1,h2,h3,h4.ext h⟩
 |dead=>obtain⟨cs,t,h1⟩:=hb;exact⟨cs,t,h.get h1⟩
 |vec sz bu xs=>
  obtain⟨q,cap,h1,h2,h3,h4,cs,t,h5⟩:=hb
  have hex:∀ {k:Nat} {o:Obj},w.heap[k]?=Eh o→w'.heap[k]?=w.heap[k]?:=fun hk=>by rw[h.get hk,hk]
  refine⟨q,cap,h1,h2,h3.imp (fun _ _ _ h=>h) ?_,h4.imp id fun h4=>h4.ext h,cs,t,h.get h5⟩
  obtain⟨cells,t',_,g1,_⟩:=h3
  exact hex g1
theorem av.tabs {P:Program}{C:ax}{ω:Nat→Option Loc}{w0 w:World}{C0:ax}{hp:j8}(m:av P C ω w0 C0 hp w):Tabs P w:=
 m.base.1.same m.size fun g hg=>m.frame g (m.base.1 g hg).1 (m.base.2 g hg).1 (m.base.2 g hg).2
theorem av.ext {P:Program}{C:ax}{ω:Nat→Option Loc}{w0 w w':World}{C0:ax}{hp:j8}(h:Ext w w')(m:av P C ω w0 C0 hp w):av P C ω w0 C0 hp w' where
 base:=m.base
 know r o v hk:=h.cell (m.know r o v hk)
 cP:=m.cP
 apart:=m.apart
 inj:=m.inj
 lt b r hb:=⟨Ga (m.lt b r hb).1 h.size,(m.lt b r hb).2⟩
 size:=Nat.le_trans m.size h.size
 frame r hr hn hw:=by rw[h.same r (Ga hr m.size)];exact m.frame r hr hn hw
 eQ r hr:=h.get (m.eQ r hr)
 os:=h.os.trans m.os
 output:=h.output.trans m.output
 fresh:=m.fresh
 grown:=m.grown
 old:=m.old
 box b x r hx hb:=(m.box b x r hx hb).ext h
 hH q hq:=Ga (m.hH q hq) h.size
theorem ai.ext {C:ax}{ω:Nat→Option Loc}{w w':World}{B:Nat}{e:Env}{tmps:Array Value}(h:Ext w w')(he:ai C ω w B e tmps):ai C ω w' B e tmps:=
 fun s x hx=>let ⟨v,a,b,d⟩:=he s x hx; ⟨v,a,b,fun e=>(d e).ext h⟩
def ax.put (C:ax)(r off:Nat)(vs:List Value):ax:={ C with K:=fun b o=>if b=r∧off≤o∧o<off+vs.length then vs[o-off]? else C.K b o }
theorem ax.fZ {C:ax}{r off:Nat}(vs:List Value)(h:∀o,off≤o→C.K r o=I):C.le (C.put r off vs):=
 ⟨fun b o v hk=>(by
  simp only[ax.put]
  rw[if_neg]
  ·exact hk
  ·rintro ⟨rfl,h1,_⟩;rw[h o h1]at hk;cases hk),fun _ _ h=>h,rfl,fun _ h=>h,fun _ h=>h⟩
theorem ax.zH {C:ax}{r off:Nat}{vs:List Value}{j:Nat}{v:Value}(h:vs[j]?=Eh v):(C.put r off vs).K r (off+j)=Eh v:=by
 have hj:j<vs.length:=(List.getElem?_eq_some_iff.1 h).1
 show(if r=r∧off≤off+j∧off+j<off+vs.length then vs[off+j-off]? else C.K r (off+j))=Eh v
 rw[if_pos ⟨rfl,by omega,by omega⟩,show off+j-off=j from by omega,h]
theorem bZ.hJ {C:ax}{r:Nat}{xs:List qa}:∀ {vs:List Value} {o:Nat},aK C xs vs→(∀j v,vs[j]?=Eh v→C.K r (o+j)=Eh v)→bZ C r xs o:=by
 induction xs with
 |nil=>intro vs o _ _;exact .gN _ _
 |cons x xs ih=>
  intro vs o h hk
  cases h with
  |cons _ _ v vs hx h=>
   refine .de _ _ _ _ v (by simpa using hk 0 v rfl) hx (ih h ?_)
   intro j u hj
   rw[show o+1+j=o+(j+1)from by omega]
   exact hk (j+1) u (by simpa using hj)
theorem ax.eL {C:ax}{r off:Nat}{xs:List qa}{vs:List Value}(hn:∀o,off≤o→C.K r o=I)(h:aK C xs vs):bZ (C.put r off vs) r xs off:=
 bZ.hJ (qp.mono (ax.fZ vs hn) h) fun _ _ hj=>ax.zH hj
theorem av.jD {P:Program}{C:ax}{ω:Nat→Option Loc}{w0 w:World}{C0:ax}{hp:j8}(m:av P C ω w0 C0 hp w)(r:Nat)(hr:w.heap.size≤r)(o:Nat):C.K r o=I:=by
 cases h:C.K r o with
 |none=>rfl
 |some v=>
  have:=m.know r o v h
  unfold World.cell? at this
  rw[show w.heap[(⟨r,o,I⟩:Addr).block]?=I from Array.getElem?_eq_none hr]at this
  cases this
theorem aC.put {C:ax}{ω:Nat→Option Loc}{w:World}{B r off:Nat}{ℓ:Loc}{x:qa}{v:Value}(vs:List Value)(hr:w.heap.size≤r∨ω r≠Eh ℓ)(ho:aC C ω w B ℓ x v):aC (C.put r off vs) ω w B ℓ x v:=by
 unfold aC at *
 split at ho
 ·rename_i a len cap
  obtain⟨h1,h2,h3,h4,h8,⟨cells,elem,h5,h6⟩,h7⟩:=ho
  have aY:a.block<w.heap.size:=(E7.1 h5).1
  refine⟨h1,h2,h3,h4,h8,⟨cells,elem,h5,h6⟩,fun o ho=>?_⟩
  simp only[ax.put]
  rw[if_neg]
  ·exact h7 o ho
  ·rintro ⟨rfl,_⟩
   rcases hr with hr|hr
   ·omega
   ·exact hr h1
 ·rename_i a
  obtain⟨h1,h2,h3,h4,h8,⟨cells,elem,h5,h6⟩,h7⟩:=ho
  have aY:a.block<w.heap.size:=(E7.1 h5).1
  refine⟨h1,h2,h3,h4,h8,⟨cells,elem,h5,h6⟩,fun o ho=>?_⟩
  simp only[ax.put]
  rw[if_neg]
  ·exact h7 o ho
  ·rintro ⟨rfl,_⟩
   rcases hr with hr|hr
   ·omega
   ·exact hr h1
 ·trivial
theorem q9.imp {P:Program}{C C':ax}(h:(∀r o v,C.K r o=some v→C'.K r o=some v)∧(∀b r,C.β b=some r→C'.β b=some r)){l:jq}{lp:Loop}(k:q9 P C l lp)(hT:∀q,C.T q→C'.T q:=by first|exact fun _ h=>h|exact fun _ h=>False.elim h):q9 P C' l lp:=
 { k with env:=fun s x hx=>let ⟨v,a,b⟩:=k.env s x hx; ⟨v,a,qp.imp h b hT⟩ }
theorem q9.mono {P:Program}{C C':ax}(h:C.le C'){l:jq}{lp:Loop}(k:q9 P C l lp):q9 P C' l lp:=k.imp ⟨h.k,h.b⟩ h.t
theorem bm.imp {P:Program}{C C':ax}{ω ω':Nat→Option Loc}{w w':World}{B B' b r:Nat}{x:qm}(h:(∀r o v,C.K r o=Eh v→C'.K r o=Eh v)∧(∀b r,C.β b=Eh r→C'.β b=Eh r))(hw:w'.heap[r]?=w.heap[r]?)
  (ho:∀j y v,aC C ω w B (.cell b j) y v→aC C' ω' w' B' (.cell b j) y v) (hb:bm P C ω w B b r x) (hT:∀q,C.T q→C'.T q:=by exact fun _ h=>h) (E5:∀x,C'.T x→x.1=r→C.T x:=by exact fun _ h _=>h)
  (hq:∀q n cap,xd C ω w B b q n cap→w'.heap[q]?=w.heap[q]?:=by exact fun _ _ _ _=>rfl):bm P C' ω' w' B' b r x:=by
 cases x with
 |hole=>exact hb
 |cells cs=>
  obtain⟨vs,elem,h1,h2,h3⟩:=hb
  exact⟨vs,elem,hw.trans h1,h2,fun j c hc=>let ⟨v,a,q,b,d⟩:=h3 j c hc; ⟨v,a,q,qp.imp h b hT,fun e=>ho _ _ _ (d e)⟩⟩
 |map es=>obtain⟨bQ,clock,h1,h2⟩:=hb;exact⟨bQ,clock,hw.trans h1,h2.imp h hT⟩
 |iter s pos=>exact hw.trans hb
 |loop l=>obtain⟨lp,h1,h2⟩:=hb;exact⟨lp,hw.trans h1,h2.imp h hT⟩
 |fD t e l=>obtain⟨p,v,h1,h2,h3,h4⟩:=hb;exact⟨p,v,hw.trans h1,h2,h3,ho _ _ _ h4⟩
 |dead=>obtain⟨cs,t,h1⟩:=hb;exact⟨cs,t,hw.trans h1⟩
 |vec sz bu xs=>exact dI.imp h.1 hT E5 hw (fun q n cap k=>⟨hq q n cap k,ho _ _ _ k⟩) hb
theorem bm.mono {P:Program}{C C':ax}{ω ω':Nat→Option Loc}{w:World}{B b r:Nat}{x:qm}(h:C.le C')
  (ho:∀j y v,aC C ω w B (.cell b j) y v→aC C' ω' w B (.cell b j) y v) (hb:bm P C ω w B b r x) (E5:∀x,C'.T x→x.1=r→C.T x:=by exact fun _ h _=>h):bm P C' ω' w B b r x:=hb.imp ⟨h.k,h.b⟩ rfl ho h.t E5
theorem av.newRow {P:Program}{C:ax}{ω:Nat→Option Loc}{w0 w:World}{C0:ax}{hp:j8}(m:av P C ω w0 C0 hp w)(cells:Array Value)(t:TypeId)(vs:List Value)
  (hv:∀(j:Nat) v,vs[j]?=Eh v→cells[j]?=Eh v) (h1:∀v∈vs,v.oneCell'=En):
  av P (C.put w.heap.size 0 vs) ω w0 C0 hp (w.alloc (.cells cells t)):=by
 have hx:Ext w (w.alloc (.cells cells t)):=Ext.alloc w _ (fun c t fr h=>by cases h;rfl)
 have m':=m.ext hx
 have hn:∀o,C.K w.heap.size o=I:=m.jD _ (Gc _)
 have hle:=ax.fZ (C:=C) (off:=0) vs (fun o _=>hn o)
 refine { m' with know:=?_,cP:=?_,apart:=?_,grown:=ax.le_trans m.grown hle,old:=?_,box:=?_ }
 ·intro r o v hk
  simp only[ax.put]at hk
  split at hk
  ·rename_i hc
   obtain⟨rfl,_,_⟩:=hc
   simp only[World.cell?]
   rw[vD,if_pos rfl]
   simpa using hv _ _ hk
  ·exact m'.know r o v hk
 ·intro r o v hk
  simp only[ax.put]at hk
  split at hk
  ·exact h1 v (List.mem_of_getElem? hk)
  ·exact m.cP r o v hk
 ·intro b r o hb
  have:=(m.lt b r hb).1
  simp only[ax.put]
  rw[if_neg (by omega)]
  exact m.apart b r o hb
 ·intro r o hr hw
  have:=m.size
  simp only[ax.put]
  rw[if_neg (by omega)]
  exact m.old r o hr hw
 ·intro b x r eM hb
  exact((m.box b x r eM hb).mono (ω':=ω) hle fun j y v ho=>ho.put vs (.inl (Gc _))).ext hx
theorem ai.put {C:ax}{ω:Nat→Option Loc}{w:World}{B:Nat}{e:Env}{tmps:Array Value}{r off:Nat}(vs:List Value)(hr:w.heap.size≤r∨∀s,ye s e≠I→(ye s e).any (·.2)=En→ω r≠Eh (.slot s))(hn:∀o,off≤o→C.K r o=I)(he:ai C ω w B e tmps):ai (C.put r off vs) ω w B e tmps:=
 fun s x hx=>let ⟨v,a,b,d⟩:=he s x hx; ⟨v,a,qp.mono (ax.fZ vs hn) b,fun e=>(d e).put vs (hr.imp id fun h=>h s (by rw[hx];simp) (by rw[hx];exact e))⟩
def ct (ω:Nat→Option Loc)(r:Nat)(ℓ:Loc):Nat→Option Loc:=fun b=>if b=r then Eh ℓ else ω b
theorem aC.other {C:ax}{ω:Nat→Option Loc}{w:World}{B r:Nat}{ℓ ℓ':Loc}{x:qa}{v:Value}(hr:ω r≠Eh ℓ∨ℓ=ℓ')(ho:aC C ω w B ℓ x v):aC C (Abs.ct ω r ℓ') w B ℓ x v:=by
 unfold aC at *
 split at ho
 ·rename_i a len cap
  obtain⟨h1,h2⟩:=ho
  refine⟨?_,h2⟩
  simp only[Abs.ct]
  by_cases hb:a.block=r
  ·rw[if_pos hb]
   rcases hr with hr|hr
   ·exact absurd (hb▸h1) hr
   ·rw[hr]
  ·rw[if_neg hb];exact h1
 ·rename_i a
  obtain⟨h1,h2⟩:=ho
  refine⟨?_,h2⟩
  simp only[Abs.ct]
  by_cases hb:a.block=r
  ·rw[if_pos hb]
   rcases hr with hr|hr
   ·exact absurd (hb▸h1) hr
   ·rw[hr]
  ·rw[if_neg hb];exact h1
 ·trivial
theorem aC.fresh {C:ax}{ω:Nat→Option Loc}{w:World}{B r:Nat}{ℓ ℓ':Loc}{x:qa}{v:Value}(hr:w.heap.size≤r)(ho:aC C ω w B ℓ x v):aC C (Abs.ct ω r ℓ') w B ℓ x v:=by
 unfold aC at *
 split at ho
 ·rename_i a len cap
  obtain⟨h1,h2,h3,h4,h8,⟨cells,elem,h5,h6⟩,h7⟩:=ho
  have aY:a.block<w.heap.size:=(E7.1 h5).1
  refine⟨?_,h2,h3,h4,h8,⟨cells,elem,h5,h6⟩,h7⟩
  simp only[Abs.ct]
  rw[if_neg (by omega)]
  exact h1
 ·rename_i a
  obtain⟨h1,h2,h3,h4,h8,⟨cells,elem,h5,h6⟩,h7⟩:=ho
  have aY:a.block<w.heap.size:=(E7.1 h5).1
  refine⟨?_,h2,h3,h4,h8,⟨cells,elem,h5,h6⟩,h7⟩
  simp only[Abs.ct]
  rw[if_neg (by omega)]
  exact h1
 ·trivial
theorem ai.fresh {C:ax}{ω:Nat→Option Loc}{w:World}{B r:Nat}{ℓ:Loc}{e:Env}{tmps:Array Value}(hr:w.heap.size≤r)(he:ai C ω w B e tmps):ai C (Abs.ct ω r ℓ) w B e tmps:=
 fun s x hx=>let ⟨v,a,b,d⟩:=he s x hx; ⟨v,a,b,fun e=>(d e).fresh hr⟩
theorem av.jU {P:Program}{C:ax}{ω:Nat→Option Loc}{w0 w:World}{C0:ax}{hp:j8}(m:av P C ω w0 C0 hp w)(r:Nat)(ℓ:Loc)(hr:w.heap.size≤r):av P C (Abs.ct ω r ℓ) w0 C0 hp w:=
 { m with box:=fun b x r' hx hb=>(m.box b x r' hx hb).mono (ax.le_refl C) fun _ _ _ ho=>ho.fresh hr }
theorem av.ct {P:Program}{C:ax}{ω:Nat→Option Loc}{w0 w:World}{C0:ax}{hp:j8}(m:av P C ω w0 C0 hp w)(r:Nat)(ℓ:Loc)(hr:∀b j,ω r≠Eh (.cell b j)):av P C (Abs.ct ω r ℓ) w0 C0 hp w:=
 { m with box:=fun b x r' hx hb=>(m.box b x r' hx hb).mono (ax.le_refl C) fun j _ _ ho=>ho.other (.inl (hr b j)) }
end Go.Abs
