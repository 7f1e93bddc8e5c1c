/- The abstract machine. -/
import Derived.Deep.AppendSrc
import Derived.Lib.LaidTab
import Derived.Lib.ItoaNum
import Derived.WalkSpells
import Derived.Laws.Cover3
set_option linter.unusedVariables false
set_option linter.unusedSimpArgs false
open Option renaming some->En,none->E6,isSome_iff_exists->Io,map_some->I1
open Bool renaming false->Ha,true->Hb,false_eq_true->Ij,xor->Ik,and_eq_true->Iy,not_true->I3
open Nat renaming ble->Hc,beq->H2,blt->H3,succ_mul->H9,le_refl->Ia,le_of_ble_eq_true->Ic,lt_of_lt_of_le->If,eq_of_beq_eq_true->Iw,add_assoc->Ix
open List renaming drop_eq_nil_of_le->H4,replicate->Ib,flatMap_cons->Ig,getElem?_eq_some_iff->Il,getElem?_toArray->Iq,mem_cons->I2,map_cons->I5
open Array renaming getElem?_eq_some_iff->H8,ext'->Ip
namespace Go.Abs
abbrev aj:=List UInt8
abbrev ak(α:Type):=Option (List α)
inductive AVal where
 |bool (b:Bool)
 |int (k:IntKind) (n:Int)
 |str (s:aj)
 |list (isNil:Bool) (sz:Nat) (xs:List AVal)
 |ms (b off len:Nat)
 |ptr (b off:Nat)
 |aq (v:AVal)
 |b6
 |map (b:Nat)
 |b8
 |fn (f:Fn) (first captured:List AVal)
 |cu
 |agg (cs:List AVal)
 |aJ (vs:List AVal)
 |undef
 |any
 |cW (n:Nat)
 |ay (b bN len:Nat)
 |dT (b bN off:Nat)
 deriving Inhabited
inductive ju where
 |tmp (t:Nat)
 |const (v:AVal)
 deriving Inhabited
inductive Kd where
 |int|str|bool
 deriving DecidableEq,Inhabited
inductive eN where
 |bZ|ft (r:Nat)|shr|red
 deriving DecidableEq,Inhabited
inductive cG where
 |move (x:ju)
 |take (s:Nat)
 |pick (c a b:ju)
 |alloc (r:Nat) (zero:List AVal)
 |box (r n:Nat) (x:ju)
 |ly (n:Nat) (x:ju)
 |gH (n:Nat)
 |dm (n s:Nat) (x:ju)
 |fZ (r t e:Nat)
 |build (zero:List AVal) (parts:List (Nat×Nat×ju))
 |buildSlice (sz len:Nat) (zero:List AVal) (parts:List (Nat×ju))
 |load (agg:Bool) (n:Nat) (x:ju)
 |eV (agg:Bool) (n:Nat) (x:ju)
 |cx (off:Option Nat) (x:ju)
 |store (n:Nat) (a v:ju)
 |nilCheck (x:ju)
 |bin (op:BinOp) (x y:ju)
 |eqs (ks:List Kd) (neq:Bool) (x y:ju)
 |beq (neq:Bool) (x y:ju)
 |fD (k:Nat) (neq:Bool) (x:ju)
 |un (op:UnOp) (x:ju)
 |conv (k:IntKind) (x:ju)
 |eG (x:ju)
 |ew (x:ju)
 |field (agg:Bool) (off n:Nat) (x:ju)
 |index (agg:Bool) (len n:Nat) (x i:ju)
 |dH (x i:ju)
 |fieldAddr (agg:Bool) (off n:Nat) (x:ju)
 |indexAddr (sz:Nat) (x i:ju)
 |ey (agg:Bool) (len sz:Nat) (x i:ju)
 |slice (sz:Nat) (x:ju) (lo hi:Option ju)
 |dI (x:ju) (lo hi:Option ju)
 |ga (len sz:Nat) (x:ju) (lo hi:Option ju)
 |eW (f:Fn) (first captured:List ju)
 |eO (r:Nat)
 |lookup (kd:Kd) (zero:AVal) (ok:Bool) (m k:ju)
 |mapUpdate (kd:Kd) (m k v:ju)
 |delete (kd:Kd) (m k:ju)
 |b9 (r:Option Nat) (sz bytes:Nat) (zero:List AVal) (n c:ju)
 |len (k:Nat) (x:ju)
 |append (r:Option Nat) (sz bytes:Nat) (x y:ju)
 |gI (r sz bytes:Nat) (x y:ju)
 |gd (r sz len:Nat) (zero:List AVal) (parts:List (Nat×ju))
 |copy (sz:Nat) (x y:ju)
 |mx (args:List ju)
 |mn (args:List ju)
 |extract (x:ju) (i:Nat)
 |call (md:eN) (f:ju) (args:List ju)
 |dB (r:Nat) (x:ju)
 |fE (it:ju)
 |bad
 deriving Inhabited
structure bT where
 dst:Option Nat
 op:cG
 guard:Option (Nat×Bool)
 al:ak Nat
 deriving Inhabited
inductive aV where
 |skip
 |region (na:Nat) (ops:List bT) (keep:ak Nat)
 |seq (a b:aV)
 |cond (c:ju) (a b:aV)
 |block (id:Nat) (body:aV)
 |loop (body:aV)
 |rangeFunc (f:ju) (params:List Nat) (assign body:aV)
 |exit (id:Nat)
 |ret
 |grow (sz:Nat)
 |stuck
 deriving Inhabited
abbrev Env:=List (Nat×AVal×Bool)
inductive jb where
 |normal
 |exit (id:Nat)
 |ret
 deriving DecidableEq,Inhabited
structure jrc where
 env:Env
 params:List Nat
 assign:aV
 body:aV
 pending:Option jb
 deriving Inhabited
def zx:aV->Bool
 | .seq a b=>zx a&&zx b| .cond _ a b=>zx a&&zx b| .block _ b=>zx b| .loop b=>zx b| .rangeFunc ..=>Ha|_=>Hb
def fF (e:Env):Env:=e.map fun x=>(x.1,x.2.1,Ha)
inductive aK where
 |hole
 |cells (cs:List (AVal×Bool))
 |map (es:List (AVal×AVal))
 |iter (s:aj) (pos:Nat)
 |loop (l:jrc)
 |fZ (t e:Nat) (l:aj)
 |dead
 |vec (sz bN:Nat) (xs:List AVal)
 deriving Inhabited
abbrev qf:=List aK
structure bn where
 env:Env
 heap:qf
 deriving Inhabited
inductive nN where
 |tmp (t:Nat)
 |cell (t:Nat) (agg:Bool) (n:Nat)
 deriving Inhabited
structure iH where
 ntmps:Nat
 body:aV
 results:List nN
 deriving Inhabited
abbrev Aw:=Nat->Option (List AVal->Option (AVal×Bool))
abbrev jip:=Nat->Option (List AVal->qf->Option (AVal×Bool×qf))
abbrev S3:=Nat->Option (List (AVal×AVal))
structure j8 where
 br:Nat->Option iH
 cB:Aw
 cF:jip:=fun _=>E6
 maps:S3:=fun _=>E6
def jn (t:Nat):Env->Option (AVal×Bool)
 | []=>E6|(s,x)::e=>bif H2 s t then En x else jn t e
def qh (e:Env):ju->Option AVal
 | .tmp t=>match jn t e with
  |some x=>En x.1|none=>E6
 | .const v=>En v
def gJ (e:Env):List ju->ak AVal
 | []=>En []
 |x::xs=>match qh e x with
  |some v=>match gJ e xs with
   |some vs=>En (v::vs)|none=>E6
  |none=>E6
def sg (e:Env):List Nat->Env
 | []=>[]
 |t::ts=>match jn t e with
  |some x=>(t,x)::sg e ts|none=>sg e ts
def si:IntKind->Int->Bool
 | .i64,.ofNat m=>Hc m 9223372036854775807| .i64,.negSucc m=>Hc m 9223372036854775807| .i32,.ofNat m=>Hc m 2147483647| .i32,.negSucc m=>Hc m 2147483647| .i16,.ofNat m=>Hc m 32767| .i16,.negSucc m=>Hc m 32767| .i8,.ofNat m=>Hc m 127| .i8,.negSucc m=>Hc m 127| .u64,.ofNat m=>Hc m 18446744073709551615| .u32,.ofNat m=>Hc m 4294967295| .u16,.ofNat m=>Hc m 65535| .u8,.ofNat m=>Hc m 255|_,.negSucc _=>Ha
def qd (k:IntKind)(n:Int):Int:=bif si k n then n else k.wrap n
def AVal.flat:AVal->List AVal
 | .agg cs=>cs|v=>[v]
def AVal.isAgg:AVal->Bool
 | .agg _=>Hb|_=>Ha
def AVal.cP:AVal->Bool
 | .list ..=>Hb|_=>Ha
def nq:Kd->AVal->AVal->Option Bool
 | .int,.int k a,.int k' b=>bif decide (k=k')then En (a == b)else E6| .str,.str a,.str b=>En (a == b)| .bool,.bool a,.bool b=>En (a == b)|_,_,_=>E6
def y9:List Kd->List AVal->List AVal->Option Bool
 | [],[],[]=>En Hb
 |k::ks,x::xs,y::ys=>match nq k x y with
  |some Hb=>y9 ks xs ys|some Ha=>En Ha|none=>E6
 |_,_,_=>E6
def part (agg:Bool)(cs:List AVal)(off n:Nat):Option AVal:=
 bif agg then(bif Hc (off+n) cs.length then En (.agg ((cs.drop off).take n))else E6)else cs[off]?
def bytesLess:aj->aj->Bool
 |_,[]=>Ha| [],_::_=>Hb
 |a::x,b::y=>a<b||(a == b&&bytesLess x y)
def nO (op:BinOp)(k:IntKind)(x y:Int):Option AVal:=
 match op with
 | .add=>En (.int k (qd k (x+y)))| .sub=>En (.int k (qd k (x-y)))| .mul=>En (.int k (qd k (x*y)))| .quo=>bif y == 0 then E6 else En (.int k (qd k (x.tdiv y)))| .rem=>bif y == 0 then E6 else En (.int k (x.tmod y))| .eql=>En (.bool (x == y))| .neq=>En (.bool (x != y))| .lss=>En (.bool (decide (x<y)))| .leq=>En (.bool (decide (x<=y)))| .gtr=>En (.bool (decide (x > y)))| .geq=>En (.bool (decide (x>=y)))| .and=>En (.int k (k.wrap (BitVec.ofInt k.bits x &&& BitVec.ofInt k.bits y).toNat))| .or=>En (.int k (k.wrap (BitVec.ofInt k.bits x ||| BitVec.ofInt k.bits y).toNat))| .xor=>En (.int k (k.wrap (BitVec.ofInt k.bits x ^^^ BitVec.ofInt k.bits y).toNat))| .andNot=>En (.int k (k.wrap (BitVec.ofInt k.bits x &&& ~~~BitVec.ofInt k.bits y).toNat))|_=>E6
def MV (op:BinOp)(k:IntKind)(x y:Int):Option AVal:=
 bif decide (y<0)then E6 else
 match op with
 | .shl=>En (.int k (qd k (x*2^(min y.toNat k.bits))))| .shr=>En (.int k (x.fdiv (2^(min y.toNat k.bits))))|_=>E6
def Fo (op:BinOp)(x y:aj):Option AVal:=
 match op with
 | .add=>bif Hc (x.length+y.length) 4611686018427387904 then En (.str (x++y))else E6| .eql=>En (.bool (x == y))| .neq=>En (.bool !(x == y))| .lss=>En (.bool (bytesLess x y))| .leq=>En (.bool (bytesLess x y||x == y))| .gtr=>En (.bool !(bytesLess x y||x == y))| .geq=>En (.bool !(bytesLess x y))|_=>E6
def yf (op:BinOp):AVal->AVal->Option AVal
 | .int k x,.int k' y=>match op with
  | .shl=>MV .shl k x y| .shr=>MV .shr k x y|op=>bif decide (k=k')then nO op k x y else E6
 | .str x,.str y=>Fo op x y|_,_=>E6
def xG:UnOp->AVal->Option AVal
 | .neg,.int k n=>En (.int k (qd k (0-n)))| .not,.bool b=>En (.bool !b)|_,_=>E6
def max2:AVal->AVal->Option AVal
 | .int k x,.int k' y=>bif decide (k=k')then En (.int k (if y > x then y else x))else E6|_,_=>E6
def min2:AVal->AVal->Option AVal
 | .int k x,.int k' y=>bif decide (k=k')then En (.int k (if y<x then y else x))else E6|_,_=>E6
def oH (f:AVal->AVal->Option AVal):AVal->List AVal->Option AVal
 |x,[]=>En x
 |x,y::ys=>match f x y with
  |some z=>oH f z ys|none=>E6
def kM:List AVal->List (Nat×List AVal)->ak AVal
 |cs,[]=>En cs|cs,(off,vs)::rest=>bif Hc (off+vs.length) cs.length then kM (cs.take off++vs++cs.drop (off+vs.length)) rest else E6
def qk:AVal->Bool
 | .agg _=>Ha| .aJ _=>Ha| .undef=>Ha| .any=>Ha|_=>Hb
def kz (e:Env):List (Nat×Nat×ju)->Option (List (Nat×List AVal))
 | []=>En []
 |(off,n,x)::ps=>match qh e x with
  |some v=>bif H2 v.flat.length n&&v.flat.all qk then
    (match kz e ps with
     |some r=>En ((off,v.flat)::r)
     |none=>E6)else E6
  |none=>E6
def l6 (xs:List AVal):List (Nat×AVal)->ak AVal
 | []=>En xs|(i,v)::ps=>bif H3 i xs.length then l6 (xs.set i v) ps else E6
def yi (e:Env)(sz:Nat):List (Nat×ju)->Option (List (Nat×AVal))
 | []=>En []
 |(i,x)::ps=>match qh e x with
  |some v=>bif H2 v.flat.length sz&&v.flat.all qk then
   (match yi e sz ps with
    |some r=>En ((i,v)::r)
    |none=>E6)else E6
  |none=>E6
def j19 (zero:List AVal)(agg:Bool):Option AVal:=
 bif agg then En (.agg zero)else match zero with
  | [z]=>En z|_=>E6
def zm (h:qf)(b:Nat):Option aK:=h[b]?
def qw (h:qf)(b:Nat):Option (List (AVal×Bool)):=
 match h[b]? with
 |some (.cells cs)=>En cs|_=>E6
def zt (cs:List (AVal×Bool))(off n:Nat):ak AVal:=
 bif Hc (off+n) cs.length then En (((cs.drop off).take n).map (·.1))else E6
def jw (cs:List (AVal×Bool))(off:Nat)(vs:List AVal):Option (List (AVal×Bool)):=
 bif Hc (off+vs.length) cs.length&&vs.all qk then En (cs.take off++vs.map (·,Ha)++cs.drop (off+vs.length))else E6
mutual
def below (n:Nat):AVal->Bool
 | .ms b _ _=>H3 b n| .ptr b _=>H3 b n| .map b=>H3 b n| .ay b _ _=>H3 b n| .dT b _ _=>H3 b n| .aq v=>below n v| .list _ _ xs=>qo n xs| .agg cs=>qo n cs| .aJ vs=>qo n vs
 | .fn (.yield b) first captured=>H3 b n&&qo n first&&qo n captured
 | .fn _ first captured=>qo n first&&qo n captured
 |_=>Hb
def qo (n:Nat):List AVal->Bool
 | []=>Hb|x::xs=>below n x&&qo n xs
end
def mF (n:Nat):Env->Bool
 | []=>Hb|(_,v,_)::e=>below n v&&mF n e
def zw (n:Nat):List (AVal×Bool)->Bool
 | []=>Hb|(v,_)::e=>below n v&&zw n e
def kr (n:Nat):List (AVal×AVal)->Bool
 | []=>Hb|(k,v)::e=>below n k&&below n v&&kr n e
def zn (n:Nat):aK->Bool
 | .hole=>Hb| .cells cs=>zw n cs| .map es=>kr n es| .iter _ _=>Hb| .fZ ..=>Hb| .dead=>Hb| .vec ..=>Hb| .loop l=>mF n l.env
def qr (n:Nat):qf->Bool
 | []=>Hb|b::h=>zn n b&&qr n h
def gc (n:Nat)(st:bn):bn:=
 bif Hc st.heap.length n then st
 else bif mF n st.env&&qr n (st.heap.take n)then { st with heap:=st.heap.take n }else st
def l7 (v:AVal):Bool:=below 0 v
def jau (agg:Bool)(sz:Nat):Nat->List AVal->ak AVal
 |0,_=>En []
 |n+1,cs=>bif Hc sz cs.length then
   (match j19 (cs.take sz) agg with
    |some v=>(match jau agg sz n (cs.drop sz)with
     |some r=>En (v::r)
     |none=>E6)
    |none=>E6)else E6
def nu (sz:Nat):Nat->List AVal->List AVal
 |0,_=>[]|n+1,cs=>(bif H2 sz 1 then cs.headD .undef else .agg (cs.take sz))::nu sz n (cs.drop sz)
def MW:AVal->Bool
 | .str _=>Hb| .list ..=>Hb|_=>Ha
def Fp (off len:Nat)(cs:List (AVal×Bool)):Bool:=H2 off 0&&H3 1 (cs.length / len)&&H2 (len*(cs.length / len)) cs.length&&cs.any (fun c=>MW c.1)
def jL (h:qf):AVal->Option AVal
 | .ms b off len=>match qw h b with
  |some cs=>bif Fp off len cs then En (.list Ha (cs.length / len) (nu (cs.length / len) len (cs.map (·.1))))else(match zt cs off len with
   |some vs=>En (.list Ha 1 vs)
   |none=>E6)
  |none=>E6
 | .ay b bN len=>match h[b]? with
  |some (.vec sz dJ xs)=>bif H2 bN dJ&&Hc len xs.length then En (.list Ha sz (xs.take len))else E6|_=>E6
 |v=>En v
def mG (h:qf):List AVal->ak AVal
 | []=>En []
 |v::vs=>match jL h v with
  |some x=>(match mG h vs with
   |some xs=>En (x::xs)
   |none=>E6)
  |none=>E6
def aX (h:qf):AVal->Option AVal
 | .agg cs=>match mG h cs with
  |some xs=>En (.agg xs)|none=>E6
 | .aJ vs=>match bO h vs with
  |some xs=>En (.aJ xs)|none=>E6
 |v=>jL h v
where
 bO (h:qf):List AVal->ak AVal
  | []=>En []
  | .agg cs::vs=>match mG h cs with
   |some x=>(match bO h vs with
    |some xs=>En (.agg x::xs)
    |none=>E6)
   |none=>E6
  |v::vs=>match jL h v with
   |some x=>(match bO h vs with
    |some xs=>En (x::xs)
    |none=>E6)
   |none=>E6
def za (kd:Kd)(k:AVal):List (AVal×AVal)->Nat->Option (Option (Nat×AVal))
 | [],_=>En E6
 |(k',v)::es,i=>match nq kd k k' with
  |some Hb=>En (En (i,v))|some Ha=>za kd k es (i+1)|none=>E6
def qj (s:aj)(i:Nat):Nat×Nat:=Utf8.decode ⟨⟨s⟩⟩ i
structure bu where
 v:AVal
 own:Bool
 strip:Option Nat
 heap:qf
def oI (l:List Nat):Bool:=match l with
 | []=>Ha|k::_=>Hc 1000 k
def Ax (h0:Nat)(l:List Nat)(b:Nat):Bool:=match l with
 | []=>Ha|k::_=>bif H3 k 2000 then H2 b (k-1000)&&H3 b h0 else bif H3 k 4000 then H2 b (h0+(k-2000))else H3 b h0
def zf (h0:Nat)(al:ak Nat)(b:Nat):Bool:=
 match al with
 |none=>Hb|some l=>bif oI l then Ax h0 l b else(H3 b h0||l.contains (b-h0))
def pG (al:ak Nat):Bool:=
 match al with
 |some (k::_)=>Hc 4000 k|_=>Ha
def sj (h0:Nat)(al:ak Nat)(b:Nat):Bool:=zf h0 al b&&!(pG al)
def j0 (h:qf)(b:Nat)(x:aK):Option qf:=bif H3 b h.length then En (h.set b x)else E6
def aO (h0:Nat)(h:qf)(r:Nat)(x:aK):Option qf:=
 match h[h0+r]? with
 |some .hole=>En (h.set (h0+r) x)|_=>E6
def val (h:qf)(v:AVal):Option bu:=En ⟨v,Ha,E6,h⟩
def gK (h:qf):Option AVal->Option bu
 |some v=>En ⟨v,Ha,E6,h⟩|none=>E6
def idx (n:Nat):AVal->Option Nat
 | .int _ (.ofNat i)=>bif H3 i n then En i else E6|_=>E6
def Ay (n:Nat):AVal->Option Nat
 | .int _ (.ofNat i)=>bif Hc i n then En i else E6|_=>E6
def fG (e:Env)(mH n:Nat):Option ju->Option Nat
 |none=>En mH
 |some x=>match qh e x with
  |some v=>Ay n v|none=>E6
def z5 (e:Env):ju->Option Nat
 | .tmp t=>match jn t e with
  |some (_,Hb)=>En t|_=>E6
 |_=>E6
def yg (sz:Nat):AVal->ak AVal
 | .list _ sy ys=>bif H2 sz sy||ys.isEmpty then En ys else E6
 | .str s=>bif H2 sz 1 then En (s.map fun(c:UInt8)=>AVal.int .u8 c.toNat)else E6|_=>E6
def uk (n:Bool)(sz:Nat)(xs ys:List AVal):AVal:=bif n&&ys.isEmpty then .list Hb 0 []else .list Ha sz (xs++ys)
def Az:List AVal->Option aj
 | []=>En []
 | .int .u8 n::xs=>(match Az xs with
  |some s=>En (UInt8.ofNat n.toNat::s)
  |none=>E6)
 |_::_=>E6
def ql (e:Env)(h:qf):cG->Option bu
 | .move x=>gK h (qh e x)
 | .take s=>match jn s e with
  |some (v,o)=>En ⟨v,o,En s,h⟩|none=>E6
 | .pick c a b=>match qh e c with
  |some (.bool t)=>(match qh e a,qh e b with
    |some x,En y=>val h (bif t then x else y)
    |_,_=>E6)
  |_=>E6
 | .ly n x=>match qh e x with
  |some v=>bif H2 v.flat.length n&&v.flat.all qk then val h (.aq v)else E6|none=>E6
 | .build zero parts=>match kz e parts with
  |some ps=>match kM zero ps with
   |some cs=>val h (.agg cs)|none=>E6
  |none=>E6
 | .buildSlice sz len zero parts=>match yi e sz parts with
  |some ps=>match l6 (Ib len (bif H2 sz 1 then zero.headD .undef else .agg zero)) ps with
   |some xs=>En ⟨.list Ha sz xs,Hb,E6,h⟩|none=>E6
  |none=>E6
 | .gH n=>En ⟨.cW n,Hb,E6,h⟩
 | .dm n s x=>match jn s e,qh e x with
  |some (.cW m,Hb),En v=>bif H2 m n&&H2 v.flat.length n&&v.flat.all qk then val h (.aq v)else E6|_,_=>E6
 | .eV agg n x=>match qh e x with
  |some (.aq v)=>bif Ik agg v.isAgg||!(H2 v.flat.length n)then E6 else val h v
  |_=>E6
 | .nilCheck x=>match qh e x with
  |some (.ptr b o)=>val h (.ptr b o)|some (.aq v)=>val h (.aq v)|some (.fn (.func f) a b)=>val h (.fn (.func f) a b)|_=>E6
 | .bin op x y=>match qh e x,qh e y with
  |some a,En b=>gK h (yf op a b)|_,_=>E6
 | .eqs ks neq x y=>match qh e x,qh e y with
  |some (.agg a),En (.agg b)=>bif H2 a.length ks.length&&H2 b.length ks.length then(match y9 ks a b with
   |some t=>val h (.bool (bif neq then !t else t))
   |none=>E6)else E6
  |_,_=>E6
 | .beq neq x y=>match qh e x,qh e y with
  |some (.bool a),En (.bool b)=>val h (.bool (bif neq then !(a == b)else a == b))|_,_=>E6
 | .fD k neq x=>match k,qh e x with
  |0,En (.list n _ _)=>val h (.bool (bif neq then !n else n))|0,En (.ms ..)=>val h (.bool neq)|1,En .b6=>val h (.bool (!neq))|1,En (.ptr ..)=>val h (.bool neq)|1,En (.aq ..)=>val h (.bool neq)|2,En .b8=>val h (.bool (!neq))|2,En (.map ..)=>val h (.bool neq)|3,En .cu=>val h (.bool (!neq))|3,En (.fn ..)=>val h (.bool neq)|_,_=>E6
 | .un op x=>match qh e x with
  |some v=>gK h (xG op v)|none=>E6
 | .conv k x=>match qh e x with
  |some (.int _ n)=>val h (.int k (qd k n))|_=>E6
 | .eG x=>match qh e x with
  |some (.str s)=>val h (.str s)|some (.int _ n)=>val h (.str (Utf8.encode n).data.toList)|_=>E6
 | .ew x=>match qh e x with
  |some (.list _ 1 xs)=>(match Az xs with
   |some s=>val h (.str s)
   |none=>E6)
  |_=>E6
 | .field agg off n x=>match qh e x with
  |some (.agg cs)=>gK h (part agg cs off n)|_=>E6
 | .index agg len n x i=>match qh e x,qh e i with
  |some (.agg cs),En j=>(match idx len j with
   |some j=>gK h (part agg cs (j*n) n)
   |none=>E6)
  |_,_=>E6
 | .dH x i=>match qh e x,qh e i with
  |some (.str s),En j=>(match idx s.length j with
   |some j=>(match s[j]? with
    |some c=>val h (.int .u8 c.toNat)
    |none=>E6)
   |none=>E6)
  |_,_=>E6
 | .fieldAddr agg off n x=>match qh e x with
  |some (.ptr b o)=>val h (.ptr b (o+off))
  |some (.aq (.agg cs))=>(match part agg cs off n with
   |some v=>bif Ik agg v.isAgg then E6 else val h (.aq v)
   |none=>E6)
  |some (.dT b bN o)=>val h (.dT b bN (o+off))|_=>E6
 | .indexAddr sz x i=>match qh e x,qh e i with
  |some (.list _ df xs),En j=>bif H2 sz df||xs.isEmpty then(match idx xs.length j with
   |some j=>(match xs[j]? with
    |some v=>val h (.aq v)
    |none=>E6)
   |none=>E6)else E6
  |some (.ms b o len),En j=>(match idx len j with
   |some j=>val h (.ptr b (o+j*sz))
   |none=>E6)
  |some (.ay b bN len),En j=>(match idx len j with
   |some j=>val h (.dT b bN (j*sz))
   |none=>E6)
  |_,_=>E6
 | .ey agg len sz x i=>match qh e x,qh e i with
  |some (.ptr b o),En j=>(match idx len j with
   |some j=>val h (.ptr b (o+j*sz))
   |none=>E6)
  |some (.aq (.agg cs)),En j=>(match idx len j with
   |some j=>(match part agg cs (j*sz) sz with
    |some v=>bif Ik agg v.isAgg then E6 else val h (.aq v)
    |none=>E6)
   |none=>E6)
  |_,_=>E6
 | .slice sz x lo hi=>match qh e x with
  |some (.list n df xs)=>bif H2 sz df||xs.isEmpty then(match fG e xs.length xs.length hi with
   |some j=>(match fG e 0 j lo with
    |some i=>val h (.list n df ((xs.take j).drop i))
    |none=>E6)
   |none=>E6)else E6
  |some (.ms b o len)=>(match fG e len len hi with
   |some j=>(match fG e 0 j lo with
    |some i=>bif H2 i 0||H3 i j then val h (.ms b (o+i*sz) (j-i))else E6
    |none=>E6)
   |none=>E6)
  |some (.ay b bN len)=>(match fG e len len hi with
   |some j=>(match fG e 0 j lo with
    |some i=>bif H2 i 0 then val h (.ay b bN j)else E6
    |none=>E6)
   |none=>E6)
  |_=>E6
 | .dI x lo hi=>match qh e x with
  |some (.str s)=>(match fG e s.length s.length hi with
   |some j=>(match fG e 0 j lo with
    |some i=>val h (.str ((s.take j).drop i))
    |none=>E6)
   |none=>E6)
  |_=>E6
 | .ga len sz x lo hi=>match qh e x with
  |some (.ptr b o)=>(match fG e len len hi with
   |some j=>(match fG e 0 j lo with
    |some i=>bif H2 i 0||H3 i j then val h (.ms b (o+i*sz) (j-i))else E6
    |none=>E6)
   |none=>E6)
  |_=>E6
 | .eW f first captured=>match gJ e first,gJ e captured with
  |some a,En b=>val h (.fn f a b)|_,_=>E6
 | .len k x=>match k,qh e x with
  |1,En (.list _ _ xs)=>val h (.int .i64 xs.length)|1,En (.ms _ _ n)=>val h (.int .i64 n)|1,En (.ay _ _ n)=>val h (.int .i64 n)|2,En (.list Hb _ _)=>val h (.int .i64 0)|0,En (.str s)=>val h (.int .i64 s.length)|_,_=>E6
 | .append E6 sz bytes x y=>match qh e x,qh e y with
  |some (.list n df xs),En vy=>
   bif n||(z5 e x).isSome then
    (match yg sz vy with
     |some ys=>
      bif (H2 sz df||(xs.isEmpty&&n))&&Hc (xs.length+ys.length) 1073741824&&Hc bytes 4096&&H3 0 sz then
       En ⟨uk n sz xs ys,Hb,z5 e x,h⟩
      else E6
     |none=>E6)
   else E6
  |_,_=>E6
 | .b9 E6 sz bytes zero n c=>match qh e n,qh e c with
  |some (.int .i64 (.ofNat n)),En (.int .i64 (.ofNat c))=>
   bif H2 n c&&Hc n 1073741824&&Hc bytes 4096&&H2 zero.length sz&&H3 0 sz&&zero.all qk then
    En ⟨.list Ha sz (Ib n (bif H2 sz 1 then zero.headD .undef else .agg zero)),Hb,E6,h⟩else E6
  |_,_=>E6
 | .mx args=>match gJ e args with
  |some (v::vs)=>gK h (oH max2 v vs)|_=>E6
 | .mn args=>match gJ e args with
  |some (v::vs)=>gK h (oH min2 v vs)|_=>E6
 | .extract x i=>match qh e x with
  |some (.aJ vs)=>gK h vs[i]?|_=>E6
 |_=>E6
def sk (es:List (AVal×AVal))(i:Nat)(v:AVal):List (AVal×AVal):=
 match es,i with
 | [],_=>[]|(k,_)::r,0=>(k,v)::r|x::r,i+1=>x::sk r i v
def yt (h0:Nat)(al:ak Nat)(e:Env)(h:qf):cG->Option bu
 | .load agg n x=>match qh e x with
  |some (.ptr b o)=>bif zf h0 al b then(match qw h b with
   |some cs=>(match zt cs o n with
    |some vs=>bif agg then val h (.agg vs)else(match vs with
     | [v]=>val h v
     |_=>E6)
    |none=>E6)
   |none=>E6)else E6
  |some (.aq v)=>bif Ik agg v.isAgg||!(H2 v.flat.length n)then E6 else val h v
  |some (.dT b bN o)=>bif sj h0 al b then(match zm h b with
   |some (.vec _ dJ xs)=>bif H2 bN dJ&&Hc (o+n) (xs.flatMap AVal.flat).length then(bif agg then val h (.agg (((xs.flatMap AVal.flat).drop o).take n))else(match((xs.flatMap AVal.flat).drop o).take n with
     | [v]=>val h v
     |_=>E6))else E6
   |_=>E6)else E6
  |_=>E6
 | .lookup kd zero ok m k=>match qh e m,qh e k with
  |some (.map b),En kv=>bif zf h0 al b then(match zm h b with
   |some (.map es)=>(match za kd kv es 0 with
    |some (En (_,v))=>val h (bif ok then .aJ [v,.bool Hb]else v)|some E6=>val h (bif ok then .aJ [zero,.bool Ha]else zero)
    |none=>E6)
   |_=>E6)else E6
  |some .b8,En _=>val h (bif ok then .aJ [zero,.bool Ha]else zero)|_,_=>E6
 | .len _ x=>match qh e x with
  |some (.map b)=>bif zf h0 al b then(match zm h b with
   |some (.map es)=>val h (.int .i64 es.length)
   |_=>E6)else E6
  |some .b8=>val h (.int .i64 0)|_=>E6
 |_=>E6
def q7r (es:List (AVal×AVal)):Option (Nat×AVal)->List (AVal×AVal)
 |some (i,_)=>es.eraseIdx i|none=>es
def xH:Option Nat->Nat->Bool
 |none,_=>Hb|some a,o=>H2 a o
def AA (sz len:Nat):AVal->Option (Nat×List AVal)
 | .list _ sy ys=>bif H2 sz sy||ys.isEmpty then En (min ys.length len,(ys.take len).flatMap AVal.flat)else E6
 |_=>E6
def cellsOf (vs:List AVal):List (AVal×Bool):=vs.map (·,Ha)
def qn (h0:Nat)(al:ak Nat)(e:Env)(h:qf):cG->Option bu
 | .alloc r zero=>bif zero.all qk then(match aO h0 h r (.cells (cellsOf zero))with
  |some h'=>val h' (.ptr (h0+r) 0)
  |none=>E6)else E6
 | .box r n x=>match qh e x with
  |some v=>bif H2 v.flat.length n&&v.flat.all qk then(match aO h0 h r (.cells (cellsOf v.flat))with
   |some h'=>val h' (.ptr (h0+r) 0)
   |none=>E6)else E6
  |none=>E6
 | .cx off x=>match qh e x with
  |some (.ptr b o)=>bif zf h0 al b&&xH off o then(match qw h b with
   |some cs=>(match cs[o]? with
    |some (v,w)=>(match j0 h b (.cells (cs.set o (v,Ha)))with
     |some h'=>En ⟨v,w,E6,h'⟩
     |none=>E6)
    |none=>E6)
   |none=>E6)else E6
  |_=>E6
 | .store n a x=>match qh e a,qh e x with
  |some (.ptr b o),En v=>bif zf h0 al b then(match qw h b with
   |some cs=>(match z5 e x with
    |some t=>bif H2 n 1&&v.cP&&H3 o cs.length then(match j0 h b (.cells (cs.set o (v,Hb)))with
      |some h'=>En ⟨.undef,Ha,En t,h'⟩
      |none=>E6)else E6
    |none=>bif H2 v.flat.length n then(match jw cs o v.flat with
     |some eF=>(match j0 h b (.cells eF)with
      |some h'=>val h' .undef
      |none=>E6)
     |none=>E6)else E6)
   |none=>E6)else E6
  |_,_=>E6
 | .fZ r t e=>match aO h0 h r (.fZ t e [])with
  |some h'=>val h' (.ptr (h0+r) 0)|none=>E6
 | .eO r=>match aO h0 h r (.map [])with
  |some h'=>val h' (.map (h0+r))|none=>E6
 | .mapUpdate kd m k x=>match qh e m,qh e k,qh e x with
  |some (.map b),En kv,En v=>bif zf h0 al b then(match zm h b with
   |some (.map es)=>(match za kd kv es 0 with
    |some (En (i,_))=>(match j0 h b (.map (sk es i v))with
     |some h'=>val h' .undef
     |none=>E6)
    |some E6=>bif Hc es.length 1073741824 then(match j0 h b (.map (es++[(kv,v)]))with
     |some h'=>val h' .undef
     |none=>E6)else E6
    |none=>E6)
   |_=>E6)else E6
  |_,_,_=>E6
 | .delete kd m k=>match qh e m,qh e k with
  |some (.map b),En kv=>bif zf h0 al b then(match zm h b with
   |some (.map es)=>(match za kd kv es 0 with
    |some r=>(match j0 h b (.map (q7r es r))with
     |some h'=>val h' (.aJ [])
     |none=>E6)
    |none=>E6)
   |_=>E6)else E6
  |_,_=>E6
 | .b9 (En r) sz bytes zero n c=>match qh e n,qh e c with
  |some (.int .i64 (.ofNat n)),En (.int .i64 (.ofNat c))=>
   bif H2 n c&&Hc n 1073741824&&Hc bytes 4096&&H2 zero.length sz&&H3 0 sz&&zero.all qk then
    (match aO h0 h r (.cells (cellsOf (Ib n zero).flatten))with
     |some h'=>val h' (.ms (h0+r) 0 n)
     |none=>E6)else E6
  |_,_=>E6
 | .append (En r) sz bytes x y=>match qh e x,qh e y with
  |some (.list Ha df []),En vy=>
   bif (z5 e x).isSome&&H2 sz df then
    (match yg sz vy with
     |some ys=>
      bif Hc ys.length 1073741824&&Hc bytes 4096&&H3 0 sz then
       (match aO h0 h r (.cells (cellsOf (ys.flatMap AVal.flat)))with
        |some h'=>En ⟨.ms (h0+r) 0 ys.length,Ha,z5 e x,h'⟩
        |none=>E6)
      else E6
     |none=>E6)
   else E6
  |_,_=>E6
 | .gI r sz bytes x y=>match qh e x,qh e y with
  |some (.list Hb _ []),En vy=>(match yg sz vy with
    |some ys=>
     bif Hc ys.length 1073741824&&Hc bytes 4096&&H3 0 sz&&!ys.isEmpty&&qo 0 ys&&H3 r 1000 then
      (match aO h0 h r (.vec sz 0 ys)with
       |some h'=>val h' (.ay (h0+r) 0 ys.length)
       |none=>E6)else E6
    |none=>E6)
  |some (.ay b bN len),En vy=>(match zm h b with
   |some (.vec df dJ xs)=>(match yg sz vy with
    |some ys=>
     bif H2 bN dJ&&H2 sz df&&Hc len xs.length&&Hc (len+ys.length) 1073741824&&Hc bytes 4096&&H3 0 sz&&qo 0 ys&&H3 r 1000 then
      (match j0 h b (.vec sz (bN+1) (xs.take len++ys))with
       |some h'=>val h' (.ay b (bN+1) (len+ys.length))
       |none=>E6)else E6
    |none=>E6)
   |_=>E6)
  |_,_=>E6
 | .gd r sz len zero parts=>match yi e sz parts with
  |some ps=>match l6 (Ib len (bif H2 sz 1 then zero.headD .undef else .agg zero)) ps with
   |some xs=>bif qo 0 xs then(match aO h0 h r (.vec sz 0 xs)with
    |some h'=>val h' (.ay (h0+r) 0 xs.length)
    |none=>E6)else E6
   |none=>E6
  |none=>E6
 | .copy sz x y=>match qh e x,qh e y with
  |some (.ms b o len),En vy=>bif zf h0 al b then(match qw h b with
   |some cs=>(match AA sz len vy with
    |some (n,vs)=>(match jw cs o vs with
     |some eF=>bif H2 vs.length (n*sz)then(match j0 h b (.cells eF)with
      |some h'=>val h' (.int .i64 n)
      |none=>E6)else E6
     |none=>E6)
    |none=>E6)
   |none=>E6)else E6
  |_,_=>E6
 | .dB r x=>match qh e x with
  |some (.str s)=>(match aO h0 h r (.iter s 0)with
   |some h'=>val h' (.ptr (h0+r) 0)
   |none=>E6)
  |_=>E6
 | .fE it=>match qh e it with
  |some (.ptr b 0)=>bif zf h0 al b then(match zm h b with
   |some (.iter s pos)=>bif H3 pos s.length then
     (match j0 h b (.iter s (pos+(qj s pos).2))with
      |some h'=>val h' (.aJ [.bool Hb,.int .i64 pos,.int .i32 (qj s pos).1])
      |none=>E6)else val h (.aJ [.bool Ha])
   |_=>E6)else E6
  |_=>E6
 |_=>E6
def pH:Nat->List AVal->Env
 |_,[]=>[]|i,v::vs=>(i,v,Ha)::pH (i+1) vs
def ul (st:bn):nN->Option (AVal×Bool)
 | .tmp t=>jn t st.env
 | .cell t agg n=>match jn t st.env with
  |some (.ptr b o,_)=>(match qw st.heap b with
   |some cs=>(match zt cs o n with
    |some vs=>bif agg then En (.agg vs,Ha)else(match cs[o]? with
     |some x=>En x
     |none=>E6)
    |none=>E6)
   |none=>E6)
  |_=>E6
def ky (st:bn):List nN->Option (List (AVal×Bool))
 | []=>En []
 |r::rs=>match ul st r with
  |some x=>(match ky st rs with
   |some xs=>En (x::xs)
   |none=>E6)
  |none=>E6
def ze:List (AVal×Bool)->AVal×Bool
 | [x]=>x|xs=>(.aJ (xs.map (·.1)),Ha)
abbrev XC:=aV->bn->Option (jb×bn)
def l8 (st:bn):List nN->qf
 | [.cell t Ha _]=>match jn t st.env with
  |some (.ptr b o,_)=>(match qw st.heap b with
   |some cs=>(match cs[o]? with
    |some (v,Hb)=>st.heap.set b (.cells (cs.set o (v,Ha)))
    |_=>st.heap)
   |none=>st.heap)
  |_=>st.heap
 |_=>st.heap
def rh (xc:XC)(f:iH)(args:List AVal)(h:qf):Option (AVal×Bool×qf):=
 bif Hc args.length f.ntmps then
  match xc f.body ⟨pH 0 args,h⟩with
  |some (.normal,st)=>(match ky st f.results with
   |some xs=>En ((ze xs).1,(ze xs).2,l8 st f.results)
   |none=>E6)
  |some (.ret,st)=>(match ky st f.results with
   |some xs=>En ((ze xs).1,(ze xs).2,l8 st f.results)
   |none=>E6)
  |_=>E6
 else E6
def ai (p:j8)(xc:XC)(k:Nat)(args:List AVal)(h:qf):Option (AVal×Bool×qf):=
 match p.br k with
 |some f=>rh xc f args h
 |none=>match p.cF k with
  |some f=>f args h|none=>E6
def ae (p:j8)(xc:XC)(k:Nat)(args:List AVal):Option (AVal×Bool):=
 match p.cB k with
 |some f=>(match f args with
  |some (v,o)=>bif l7 v then En (v,o)else E6
  |none=>E6)
 |none=>match ai p xc k args []with
  |some (v,o,h)=>(match aX h v with
   |some v'=>bif l7 v' then En (v',o&&v.cP)else E6
   |none=>E6)
  |none=>E6
def qy (n:Nat)(v:AVal)(h:qf):qf:=
 bif Hc h.length n then h else bif below n v&&qr n (h.take n)then h.take n else h
def vV (e:Env):List Nat->List AVal->Option Env
 | [],[]=>En e|t::ts,v::vs=>vV ((t,v,Ha)::e) ts vs|_,_=>E6
def lz (xc:XC)(b:Nat)(args:List AVal)(h:qf):Option (AVal×qf):=
 match zm h b with
 |some (.loop l)=>match l.pending,vV (fF l.env) l.params args with
  |none,En e=>(match xc l.assign ⟨e,h⟩with
   |some (.normal,st)=>(match zm st.heap b with
    |some (.loop l1)=>bif l1.pending.isNone then(match xc l.body { st with heap:=st.heap.set b (.loop { l1 with pending:=En .normal }) }with
     |some (x,bP)=>(match zm bP.heap b with
      |some (.loop l2)=>En (.bool (match x with | .normal=>Hb|_=>Ha),qy h.length (.bool Hb) (bP.heap.set b (.loop { l2 with pending:=match x with | .normal=>E6|x=>En x })))
      |_=>E6)
     |none=>E6)else E6
    |_=>E6)
   |_=>E6)
  |_,_=>E6
 |_=>E6
def oJ:AVal->Bool
 | .bool _=>Hb| .int _ _=>Hb| .str _=>Hb|_=>Ha
def S4 (h:qf):AVal->Option AVal
 | .ms b 0 len=>(match qw h b with
  |some cs=>bif H2 (len*(cs.length / len)) cs.length&&H3 0 (cs.length / len)&&cs.all (fun c=>oJ c.1)then En (.list Ha (cs.length / len) (nu (cs.length / len) len (cs.map (·.1))))else(bif H2 len 0 then En (.list Ha 8 [])else E6)
  |none=>E6)
 |v=>En v
def xI (h:qf):List AVal->ak AVal
 | []=>En []
 |v::vs=>match S4 h v,xI h vs with
  |some x,En xs=>En (x::xs)|_,_=>E6
def xJ:AVal->Bool
 | .agg cs=>cs.all oJ|v=>oJ v
def Fq (v:AVal):AVal:=bif xJ v then v else .any
def MX:AVal->Bool->Option (AVal×Bool)
 | .list Ha sz xs,Hb=>bif (xs.flatMap AVal.flat).all oJ then En (.list Ha sz xs,Hb)else E6| .list Hb sz [],_=>En (.list Hb sz [],Ha)| .aJ vs,_=>En (.aJ (vs.map Fq),Ha)|v,_=>bif xJ v then En (v,Ha)else E6
def sn (h0:Nat)(h:qf)(r:Nat):AVal->Bool->Option bu
 | .list Hb sz [],_=>(match aO h0 h r .dead with
  |some h'=>val h' (.list Hb sz [])
  |none=>E6)
 | .list Ha sz xs,Hb=>bif (xs.flatMap AVal.flat).all oJ then(match aO h0 h r (.cells (cellsOf (xs.flatMap AVal.flat)))with
  |some h'=>val h' (.ms (h0+r) 0 xs.length)
  |none=>E6)else E6
 |_,_=>E6
def yo (p:j8)(xc:XC)(h0:Nat)(e:Env)(h:qf)(md:eN)(f:ju)(args:List ju):Option bu:=
 match qh e f,gJ e args with
 |some (.fn (.func k) first captured),En vs=>
  (match md with
   | .bZ=>bif qo 0 (first++vs++captured)then(match ae p xc k (first++vs++captured)with
     |some (v,o)=>En ⟨v,o,E6,h⟩
     |none=>E6)else E6
   | .ft r=>bif (first++vs++captured).isEmpty then(match p.maps k with
     |some es=>(match aO h0 h r (.map es)with
      |some h'=>val h' (.map (h0+r))
      |none=>E6)
     |none=>E6)else bif qo 0 (first++vs++captured)then(match ae p xc k (first++vs++captured)with
     |some (v,o)=>sn h0 h r v o
     |none=>E6)else E6
   | .red=>(match xI h (first++vs++captured)with
    |some us=>bif qo 0 us then(match ae p xc k us with
     |some (v,o)=>(match MX v o with
      |some (v',o')=>En ⟨v',o',E6,h⟩
      |none=>E6)
     |none=>E6)else E6
    |none=>E6)
   | .shr=>(match ai p xc k (first++vs++captured) h with
    |some (v,o,h')=>En ⟨v,o,E6,qy h.length v h'⟩
    |none=>E6))
 |some (.fn (.yield b) [] []),En vs=>
  (match md with
   | .shr=>(match lz xc b vs h with
    |some (v,h')=>val h' v
    |none=>E6)
   |_=>E6)
 |_,_=>E6
def qe (p:j8)(xc:XC)(h0:Nat)(al:ak Nat)(e:Env)(h:qf)(op:cG):Option bu:=
 match op with
 | .call md f args=>yo p xc h0 e h md f args| .load agg n x=>yt h0 al e h (.load agg n x)| .lookup kd z ok m k=>yt h0 al e h (.lookup kd z ok m k)| .alloc r z=>qn h0 al e h (.alloc r z)| .box r n x=>qn h0 al e h (.box r n x)| .cx off x=>qn h0 al e h (.cx off x)| .store n a x=>qn h0 al e h (.store n a x)| .fZ r t e'=>qn h0 al e h (.fZ r t e')| .eO r=>qn h0 al e h (.eO r)| .mapUpdate kd m k x=>qn h0 al e h (.mapUpdate kd m k x)| .delete kd m k=>qn h0 al e h (.delete kd m k)| .b9 (En r) sz b z n c=>qn h0 al e h (.b9 (En r) sz b z n c)| .append (En r) sz b x y=>qn h0 al e h (.append (En r) sz b x y)| .gI r sz b x y=>qn h0 al e h (.gI r sz b x y)| .gd r sz n z ps=>qn h0 al e h (.gd r sz n z ps)| .copy sz x y=>qn h0 al e h (.copy sz x y)| .dB r x=>qn h0 al e h (.dB r x)| .fE it=>qn h0 al e h (.fE it)|op=>ql e h op
def yh (e:Env):Option Nat->Env
 |none=>e
 |some s=>match jn s e with
  |some (v,_)=>(s,v,Ha)::e|none=>e
def oK (e:Env)(d:Option Nat)(v:AVal)(o:Bool):Env:=
 match d with
 |some d=>(d,v,o)::e|none=>e
def nP (e:Env):Option (Nat×Bool)->Option Bool
 |none=>En Hb
 |some (s,want)=>match jn s e with
  |some (.bool b,_)=>En (b == want)|some (.undef,_)=>En Ha|_=>E6
def yp (p:j8)(xc:XC)(h0:Nat)(o:bT)(st:bn):Option bn:=
 match nP st.env o.guard with
 |some Hb=>(match qe p xc h0 o.al st.env st.heap o.op with
  |some r=>En ⟨oK (yh st.env r.strip) o.dst r.v r.own,r.heap⟩
  |none=>E6)
 |some Ha=>En ⟨oK st.env o.dst .undef Ha,st.heap⟩|none=>E6
def fH (p:j8)(xc:XC)(h0:Nat):List bT->bn->Option bn
 | [],st=>En st
 |o::os,st=>match yp p xc h0 o st with
  |some bP=>fH p xc h0 os bP|none=>E6
def AB (st:bn):ak Nat->bn
 |none=>st|some l=>{ st with env:=sg st.env l }
def l9 (p:j8)(xc:XC)(na:Nat)(ops:List bT)(keep:ak Nat)(st:bn):Option (jb×bn):=
 match fH p xc st.heap.length ops { st with heap:=st.heap++Ib na .hole }with
 |some bP=>En (.normal,AB bP keep)|none=>E6
def mb (p:j8)(xc:XC)(f:ju)(params:List Nat)(assign body:aV)(st:bn):Option (jb×bn):=
 bif zx assign&&zx body then
  match qh st.env f with
  |some (.fn (.func k) first captured)=>
   (match ai p xc k (first++[.fn (.yield st.heap.length) [] []]++captured) (st.heap++[.loop ⟨st.env,params,assign,body,E6⟩])with
    |some (_,_,h')=>(match zm h' st.heap.length with
     |some (.loop l)=>bif qr st.heap.length (h'.take st.heap.length)then
       (match l.pending with
       |none=>En (.normal,{ st with heap:=h'.take st.heap.length })|some .normal=>E6
       |some x=>En (x,{ st with heap:=h'.take st.heap.length }))else E6
     |_=>E6)
    |none=>E6)
  |_=>E6
 else E6
def aC (p:j8):Nat->XC
 |0,_,_=>E6
 |n+1,c,st=>match c with
  | .skip=>En (.normal,st)| .region na ops keep=>l9 p (aC p n) na ops keep st
  | .seq a b=>match aC p n a st with
   |some (.normal,bP)=>aC p n b bP|r=>r
  | .cond c a b=>match qh st.env c with
   |some (.bool t)=>bif t then aC p n a st else aC p n b st|_=>E6
  | .block id body=>match aC p n body st with
   |some (.exit fI,bP)=>bif H2 fI id then En (.normal,bP)else En (.exit fI,bP)|r=>r
  | .loop body=>match aC p n body st with
   |some (.normal,bP)=>aC p n (.loop body) (gc st.heap.length bP)|r=>r
  | .rangeFunc f params assign body=>mb p (aC p n) f params assign body st| .exit id=>En (.exit id,st)| .ret=>En (.ret,st)
  | .grow sz=>match jn 0 st.env,jn 1 st.env with
   |some (.list Hb _ _,_),En (.int .i64 (.ofNat m),_)=>bif H3 0 m&&Hc m 1073741824 then En (.normal,{ st with env:=[(0,.list Ha sz [],Hb)] })else E6|_,_=>E6
  | .stuck=>E6
structure jx where
 takes:List Nat:=[]
 gf:List Nat:=[]
 AE:List (Nat×Nat):=[]
 shr:List (Nat×Nat):=[]
 ft:List (Nat×Nat):=[]
 red:List (Nat×Nat):=[]
 keep:List (Nat×List Nat):=[]
 vl:List Nat:=[]
 vec:List Nat:=[]
 ex:List ((Nat×Nat)×Nat):=[]
 deriving Inhabited
def Fs:Value->Option AVal
 | .bool b=>En (.bool b)| .int k n=>En (.int k n)| .string s=>En (.str s.data.toList)| .slice E6 0 0=>En (.list Hb 0 [])| .pointer E6=>En .b6| .map E6=>En .b8| .nilFunc=>En .cu|_=>E6
def vW:List Value->ak AVal
 | []=>En []
 |v::vs=>match Fs v with
  |some x=>match vW vs with
   |some xs=>En (x::xs)|none=>E6
  |none=>E6
def ofValue:Value->Option AVal
 | .agg cs=>match vW cs.toList with
  |some xs=>En (.agg xs)|none=>E6
 |v=>Fs v
def qq:Operand->Option ju
 | .tmp t=>En (.tmp t)
 | .const v=>match ofValue v with
  |some x=>En (.const x)|none=>E6
 | .func f=>En (.const (.fn (.func f) [] []))| .global _=>E6
def ri:List Operand->ak ju
 | []=>En []
 |x::xs=>match qq x with
  |some y=>match ri xs with
   |some ys=>En (y::ys)|none=>E6
  |none=>E6
def nQ:Option Operand->Option (Option ju)
 |none=>En E6
 |some x=>match qq x with
  |some y=>En (En y)|none=>E6
def y5 (P:Program)(t:TypeId):Option Bool:=
 match P.underlying t with
 |some (.struct _)=>En Hb|some (.array _ _)=>En Hb|some _=>En Ha|none=>E6
def js (P:Program)(t:TypeId):Option Nat:=(P.info? t).map (·.size)
def oL (P:Program)(t:TypeId):Option Nat:=(P.info? t).map (·.bytes)
def y7 (P:Program)(t:TypeId):ak AVal:=
 match P.info? t with
 |some i=>match i.zero with
  |some z=>vW z.cells.toList|none=>E6
 |none=>E6
def S5 (P:Program)(t:TypeId):Option TypeId:=
 match P.underlying t with
 |some (.struct fs)=>match fs.toList with
  | [f0,f1]=>match P.underlying f0.type,P.underlying f1.type with
   |some (.pointer t'),En (.slice e)=>match P.underlying e,y7 P t with
    |some (.int .u8),En [.b6,.list Hb _ []]=>if t' == t then En e else E6
    |_,_=>E6
   |_,_=>E6
  |_=>E6
 |_=>E6
def S6 (P:Program)(t:TypeId):Option AVal:=
 match P.info? t with
 |some i=>match i.zero with
  |some z=>ofValue z|none=>E6
 |none=>E6
def Hy (g:TypeId->ak Kd):Nat->List Field->ak Kd
 |_,[]=>En []
 | off, f :: fs => if f.name != "_" && f.offset == off then (match g f.type with
   |some ks=>(match Hy g (off+ks.length) fs with
    |some r=>En (ks++r)
    |none=>E6)
   |none=>E6)else E6
def su (P:Program):Nat->TypeId->ak Kd
 |0,_=>E6
 |n+1,t=>match P.underlying t with
  |some (.int _)=>if js P t == En 1 then En [.int]else E6
  |some .string=>if js P t == En 1 then En [.str]else E6
  |some .bool=>if js P t == En 1 then En [.bool]else E6
  |some (.struct fs)=>(match Hy (su P n) 0 fs.toList with
   |some ks=>if !P.stoodInHeld t&&js P t == En ks.length then En ks else E6
   |none=>E6)
  |some (.array len e)=>(match su P n e with
   |some ks=>if js P t == En (len*ks.length)then En (Ib len ks).flatten else E6
   |none=>E6)
  |_=>E6
def MY:Nat:=12
def lA (P:Program)(t:TypeId):Option Kd:=
 match P.underlying t with
 |some (.int _)=>En .int|some .string=>En .str|some .bool=>En .bool|_=>E6
def Ft (P:Program)(op:BinOp)(neq:Bool)(t:TypeId)(x y:Operand):Option cG:=
 match P.underlying t with
 |some (.int _)|some .string=>match qq x,qq y with
  |some a,En b=>En (.bin op a b)|_,_=>E6
 |some .bool=>match qq x,qq y with
  |some a,En b=>En (.beq neq a b)|_,_=>E6
 |some (.struct _)|some (.array _ _)=>
  if !P.eqGuardType P.depth t then match su P MY t,qq x,qq y with
   |some ks,En a,En b=>En (.eqs ks neq a b)|_,_,_=>E6
  else E6
 |some (.slice _)=>match y with
  | .const (.slice E6 0 0)=>(qq x).map (.fD 0 neq)|_=>E6
 |some (.pointer _)=>match y with
  | .const (.pointer E6)=>(qq x).map (.fD 1 neq)|_=>E6
 |some (.map _ _)=>match y with
  | .const (.map E6)=>(qq x).map (.fD 2 neq)|_=>E6
 |some (.func _ _ _)=>match y with
  | .const .nilFunc=>(qq x).map (.fD 3 neq)|_=>E6
 |_=>E6
def jpg (P:Program)(op:BinOp)(t:TypeId)(x y:Operand):Option cG:=
 match op with
 | .eql=>Ft P .eql Ha t x y| .neq=>Ft P .neq Hb t x y
 |op=>match qq x,qq y with
  |some a,En b=>En (.bin op a b)|_,_=>E6
def xK (P:Program)(place:Nat->Option (Nat×Nat)):List (Nat×Operand)->Option (List (Nat×Nat×ju))
 | []=>En []
 |(i,x)::ps=>match place i,qq x,xK P place ps with
  |some (off,n),En y,En r=>En ((off,n,y)::r)|_,_,_=>E6
def xM:List (Nat×Operand)->Option (List (Nat×ju))
 | []=>En []
 |(i,x)::ps=>match qq x,xM ps with
  |some y,En r=>En ((i,y)::r)|_,_=>E6
def jcb (h:jx)(dst:Option Nat)(x:Operand):Option Nat:=
 match x,dst with
 | .tmp s,En d=>if h.takes.contains d then En s else E6
 |_,_=>E6
def AF:TypeDesc->Bool
 | .slice _=>Hb| .string=>Hb|_=>Ha
def eN.at (r:Nat):eN->eN
 | .ft _=>.ft r|m=>m
def AG (P:Program)(h:jx)(md:eN)(r:Nat)(dst:Option Nat)(c:Call):Option cG:=
 match c.callee with
 | .value f=>match qq f,ri c.args.toList with
  |some f,En args=>En (.call (md.at r) f args)|_,_=>E6
 | .builtin .len=>match c.args.toList,c.argTypes.toList with
  | [x],[t]=>match P.underlying t with
   |some .string=>(qq x).map (.len 0)|some (.slice _)=>(qq x).map (.len 1)|_=>E6
  |_,_=>E6
 | .builtin .cap=>match c.args.toList,c.argTypes.toList with
  | [x],[t]=>match P.underlying t with
   |some (.slice _)=>(qq x).map (.len 2)|_=>E6
  |_,_=>E6
 | .builtin .append=>match c.args.toList,c.argTypes.toList with
  | [x,y],[t,u]=>match P.underlying t,P.underlying u with
   |some (.slice e),En ut=>if AF ut&&(y7 P e).map (·.length) == js P e then match js P e,oL P e,qq x,qq y with
     |some sz,En b,En x,En y=>En (if(dst.map (h.vec.contains ·)).getD Ha then .gI r sz b x y else .append (if(dst.map (h.gf.contains ·)).getD Ha then En r else E6) sz b x y)|_,_,_,_=>E6
    else E6
   |_,_=>E6
  |_,_=>E6
 | .builtin .copy=>match c.args.toList,c.argTypes.toList with
  | [x,y],t::_=>match P.underlying t with
   |some (.slice e)=>match js P e,qq x,qq y with
    |some sz,En x,En y=>En (.copy sz x y)|_,_,_=>E6
   |_=>E6
  |_,_=>E6
 | .builtin .delete=>match c.args.toList,c.argTypes.toList with
  | [m,k],t::_=>match P.underlying t with
   |some (.map kt _)=>match lA P kt,qq m,qq k with
    |some kd,En m,En k=>En (.delete kd m k)|_,_,_=>E6
   |_=>E6
  |_,_=>E6
 | .builtin .max=>(ri c.args.toList).map .mx| .builtin .min=>(ri c.args.toList).map .mn|_=>E6
def Hz : List (String × List Int) := [("woofer/network.none", [0, 0]), ("woofer/network.one", [1, 0]), ("woofer/network.turns", [1, 0, 0, 1, -1, 0, 0, -1])]
def HA (P:Program)(g:Nat):List (String×List Int)->ak Int
 | []=>E6
 |(n,cs)::l=>if P.globalNamed n == En g then En cs else HA P g l
def MZ (P:Program)(t:TypeId)(g:Nat):Option cG:=match HA P g Hz,y5 P t,js P t with
 |some cs,En Hb,En n=>if cs.length == n then En (.move (.const (.agg (cs.map (AVal.int .i64)))))else E6
 |_,_,_=>E6
def M0 (h:jx):ju->Option Nat
 | .tmp s=>if h.vl.contains s then En s else E6
 |_=>E6
def cS (P:Program)(h:jx)(md:eN)(r:Nat)(dst:Option Nat):Op->Option cG
 | .move x=>match jcb h dst x with
  |some s=>En (.take s)|none=>(qq x).map .move
 | .assign (.tmp s)=>En (.take s)| .assign x=>(qq x).map .move
 | .pick c a b=>match qq c,qq a,qq b with
  |some c,En a,En b=>En (.pick c a b)|_,_,_=>E6
 | .alloc t=>match S5 P t with
  |some e=>En (.fZ r t e)
  |none=>bif (dst.map (h.vl.contains ·)).getD Ha then(match y7 P t with
   |some z=>bif z.all qk then En (.gH z.length)else E6
   |none=>E6)else(y7 P t).map (.alloc r)
 | .box t x=>match js P t,qq x with
  |some n,En x=>En (bif (dst.map (h.vl.contains ·)).getD Ha then .ly n x else .box r n x)|_,_=>E6
 | .build t ps=>match P.underlying t,y7 P t with
  |some (.struct fs),En z=>if fs.toList.all (fun f=>(js P f.type).isSome)then(xK P (fun i=>match fs[i]? with
    |some f=>(js P f.type).map fun n=>(f.offset,n)
    |none=>E6) ps.toList).map (.build z)else E6
  |some (.array _ e),En z=>match js P e with
   |some n=>(xK P (fun i=>En (i*n,n)) ps.toList).map (.build z)|none=>E6
  |_,_=>E6
 | .buildSlice t n ps=>match P.underlying t with
  |some (.slice e)=>match js P e,y7 P e,y5 P e,xM ps.toList with
   |some sz,En z,En ag,En es=>if sz*n<=65536&&0<sz&&z.length == sz&&(ag||sz == 1)&&(!ag||sz != 1)then En (if(dst.map (h.vec.contains ·)).getD Ha then .gd r sz n z es else .buildSlice sz n z es)else E6
   |_,_,_,_=>E6
  |_=>E6
 | .load t (.global g)=>MZ P t g
 | .load t x=>match y5 P t,js P t,qq x with
  |some Ha,En 1,En x=>if(dst.map (h.takes.contains ·)).getD Ha then En (.cx ((dst.bind fun d=>h.AE.find? fun y=>y.1 == d).map (·.2)) x)else En (bif (dst.map (h.vl.contains ·)).getD Ha then .eV Ha 1 x else .load Ha 1 x)
  |some Hb,En n,En x=>En (bif (dst.map (h.vl.contains ·)).getD Ha then .eV Hb n x else .load Hb n x)|_,_,_=>E6
 | .store t a v=>match js P t,qq a,qq v with
  |some n,En a,En v=>En (match M0 h a with
   |some s=>.dm n s v
   |none=>.store n a v)
  |_,_,_=>E6
 | .nilCheck x=>(qq x).map .nilCheck| .binOp op t x y _=>jpg P op t x y| .unOp op _ x=>(qq x).map (.un op)
 | .convert s d x=>match P.underlying s,P.underlying d with
  |some (.int _),En (.int k)=>(qq x).map (.conv k)|some .string,En .string=>(qq x).map .eG|some (.int _),En .string=>(qq x).map .eG
  |some (.slice e),En .string=>(match P.underlying e with
   |some (.int .u8)=>(qq x).map .ew
   |_=>E6)
  |_,_=>E6
 | .makeFunc f a b=>match f with
  | .func k=>match ri a.toList,ri b.toList with
   |some a,En b=>En (.eW (.func k) a b)|_,_=>E6
  |_=>E6
 | .makeMap t E6=>match P.underlying t with
  |some (.map _ _)=>En (.eO r)|_=>E6
 | .makeSlice t n c=>match P.underlying t with
  |some (.slice e)=>match js P e,oL P e,y7 P e,y5 P e,qq n,qq c with
   |some sz,En b,En z,En ag,En n,En c=>
    if(ag||sz == 1)&&(!ag||sz != 1)then En (.b9 (if(dst.map (h.gf.contains ·)).getD Ha then En r else E6) sz b z n c)else E6
   |_,_,_,_,_,_=>E6
  |_=>E6
 | .slice t x lo hi E6=>match qq x,nQ lo,nQ hi with
  |some x,En lo,En hi=>match P.underlying t with
   |some .string=>En (.dI x lo hi)
   |some (.slice e)=>(js P e).map fun sz=>.slice sz x lo hi
   |some (.array n e)=>(js P e).map fun sz=>.ga n sz x lo hi
   |_=>E6
  |_,_,_=>E6
 | .fieldAddr t x i=>match P.underlying t with
  |some (.struct fs)=>match fs[i]? with
   |some f=>match y5 P f.type,js P f.type,qq x with
    |some ag,En n,En x=>if 0<n&&(ag||n == 1)then En (.fieldAddr ag f.offset n x)else E6
    |_,_,_=>E6
   |none=>E6
  |_=>E6
 | .field t x i=>match P.underlying t with
  |some (.struct fs)=>match fs[i]? with
   |some f=>match y5 P f.type,js P f.type,qq x with
    |some ag,En n,En x=>En (.field ag f.offset n x)|_,_,_=>E6
   |none=>E6
  |_=>E6
 | .indexAddr t x i=>match qq x,qq i with
  |some x,En i=>match P.underlying t with
   |some (.slice e)=>match js P e with
    |some sz=>if 0<sz then En (.indexAddr sz x i)else E6
    |none=>E6
   |some (.array n e)=>match js P e,y5 P e with
    |some sz,En ag=>if 0<sz&&(ag||sz == 1)then En (.ey ag n sz x i)else E6
    |_,_=>E6
   |_=>E6
  |_,_=>E6
 | .index t x i=>match qq x,qq i with
  |some x,En i=>match P.underlying t with
   |some .string=>En (.dH x i)
   |some (.array n e)=>match js P e,y5 P e with
    |some sz,En ag=>En (.index ag n sz x i)|_,_=>E6
   |_=>E6
  |_,_=>E6
 | .lookup t m k ok=>match P.underlying t with
  |some (.map kt e)=>match lA P kt,S6 P e,qq m,qq k with
   |some kd,En z,En m,En k=>En (.lookup kd z ok m k)|_,_,_,_=>E6
  |_=>E6
 | .mapUpdate t m k v=>match P.underlying t with
  |some (.map kt _)=>match lA P kt,qq m,qq k,qq v with
   |some kd,En m,En k,En v=>En (.mapUpdate kd m k v)|_,_,_,_=>E6
  |_=>E6
 | .insert t m k v=>match P.underlying t with
  |some (.map kt _)=>match lA P kt,qq m,qq k,qq v with
   |some kd,En m,En k,En v=>En (.mapUpdate kd m k v)|_,_,_,_=>E6
  |_=>E6
 | .range t x=>match P.underlying t with
  |some .string=>(qq x).map (.dB r)|_=>E6
 | .next it Hb=>(qq it).map .fE
 | .extract x i=>(qq x).map fun x=>.extract x i
 | .call c=>AG P h md r dst c|_=>E6
def cG.makes:cG->Bool
 | .alloc ..=>Hb| .box ..=>Hb| .fZ ..=>Hb| .eO ..=>Hb| .b9 (En _) ..=>Hb| .append (En _) ..=>Hb| .gI ..=>Hb| .gd ..=>Hb| .dB ..=>Hb| .call (.ft _) ..=>Hb|_=>Ha
def cG.ij:cG->Option Nat
 | .dm _ s _=>En s|_=>E6
def cG.sw (d:Option Nat):cG->Option Nat
 | .dm _ s _=>En s|_=>d
def AH (ops:Array Oper):Option (Nat×Bool)->Option (Option (Nat×Bool))
 |none=>En E6
 |some (j,b)=>match(ops[j]?).bind (·.dst)with
  |some d=>En (En (d,b))|none=>E6
def S7 (h:jx)(id i:Nat):eN:=if h.shr.contains (id,i)then .shr else if h.ft.contains (id,i)then .ft 0 else if h.red.contains (id,i)then .red else .bZ
def HC (P:Program)(h:jx)(nt:Nat)(id:Nat)(ops:Array Oper)(iI:Array Nat)(draw:Bool):List Oper->Nat->List (Nat×Nat)->Option (List bT×List (Nat×Nat))
 | [],_,rs=>En ([],rs)
 |o::os,i,rs=>
  match(cS P h (S7 h id i) rs.length o.dst o.op).getD .bad,AH ops o.guard with
  |a,En g=>
   if(o.dst.map (decide <| · < nt)).getD Hb&&(a.ij.map (decide <| · < nt)).getD Hb&&(a.ij.isNone||(o.dst.isNone&&o.guard.isNone))then
    let Fu:=if a.makes then(i,rs.length)::rs else rs
    let al:=if draw then(match h.ex.find? fun x=>x.1 == (id,i)with
     |some x=>En [x.2]
     |none=>En ((rs.filter fun x=>(iI.getD i 0).testBit x.1).map (·.2)))else E6
    match HC P h nt id ops iI draw os (i+1) Fu with
    |some (l,S8)=>En (⟨a.sw o.dst,a,g,al⟩::l,S8)|none=>E6
   else E6
  |_,_=>E6
def zi:ju->List Nat
 | .tmp t=>[t]| .const _=>[]
def xN (l:List ju):List Nat:=l.flatMap zi
def AJ:Option ju->List Nat
 |some x=>zi x|none=>[]
def cG.reads:cG->List Nat
 | .move x=>zi x| .take s=>[s]| .pick c a b=>zi c++zi a++zi b| .alloc _ _=>[]| .box _ _ x=>zi x| .ly _ x=>zi x| .gH _=>[]| .dm _ s x=>s::zi x| .fZ _ _ _=>[]
 | .build _ ps=>ps.flatMap fun p=>zi p.2.2
 | .buildSlice _ _ _ ps=>ps.flatMap fun p=>zi p.2
 | .load _ _ x=>zi x| .eV _ _ x=>zi x| .cx _ x=>zi x| .store _ a v=>zi a++zi v| .nilCheck x=>zi x| .bin _ x y=>zi x++zi y| .eqs _ _ x y=>zi x++zi y| .beq _ x y=>zi x++zi y| .fD _ _ x=>zi x| .un _ x=>zi x| .conv _ x=>zi x| .eG x=>zi x| .ew x=>zi x| .field _ _ _ x=>zi x| .index _ _ _ x i=>zi x++zi i| .dH x i=>zi x++zi i| .fieldAddr _ _ _ x=>zi x| .indexAddr _ x i=>zi x++zi i| .ey _ _ _ x i=>zi x++zi i| .slice _ x lo hi=>zi x++AJ lo++AJ hi| .dI x lo hi=>zi x++AJ lo++AJ hi| .ga _ _ x lo hi=>zi x++AJ lo++AJ hi| .eW _ a b=>xN a++xN b| .eO _=>[]| .lookup _ _ _ m k=>zi m++zi k| .mapUpdate _ m k v=>zi m++zi k++zi v| .delete _ m k=>zi m++zi k| .b9 _ _ _ _ n c=>zi n++zi c| .len _ x=>zi x| .append _ _ _ x y=>zi x++zi y| .gI _ _ _ x y=>zi x++zi y
 | .gd _ _ _ _ ps=>ps.flatMap fun p=>zi p.2
 | .copy _ x y=>zi x++zi y| .mx l=>xN l| .mn l=>xN l| .extract x _=>zi x| .call _ f l=>zi f++xN l| .dB _ x=>zi x| .fE x=>zi x| .bad=>[]
def cG.fN:cG->List Nat
 | .take s=>[s]| .append _ _ _ x _=>zi x| .store _ _ v=>zi v|_=>[]
def bT.reads (o:bT):List Nat:=o.op.reads++(match o.guard with|some g=>[g.1]|none=>[])
def bT.writes (o:bT):List Nat:=o.dst.toList++o.op.fN
inductive AK where
 |pure|read|write|alloc|take|ft|shr|oM
 deriving DecidableEq,Inhabited
def cG.cl:cG->AK
 | .load ..=>.read| .lookup ..=>.read| .alloc ..=>.alloc| .box ..=>.alloc| .fZ ..=>.alloc| .eO ..=>.alloc| .b9 (En _) ..=>.alloc| .append (En _) ..=>.alloc| .dB ..=>.alloc| .cx E6 _=>.write| .cx (En _) _=>.take| .store ..=>.write| .mapUpdate ..=>.write| .delete ..=>.write| .copy ..=>.write| .fE ..=>.write| .call .bZ ..=>.pure| .call (.ft _) ..=>.alloc| .call .shr ..=>.shr| .call .red ..=>.shr| .gI ..=>.oM| .gd ..=>.shr|_=>.pure
def cG.cX:cG->Nat
 | .alloc r _=>r| .box r _ _=>r| .fZ r _ _=>r| .eO r=>r| .b9 (En r) ..=>r| .append (En r) ..=>r| .dB r _=>r| .call (.ft r) ..=>r| .cx (En o) _=>o| .gI r sz ..=>r+1000*sz|_=>0
def nR (al:ak Nat)(r:Nat):Bool:=match al with
 |none=>Hb|some l=>bif oI l then H2 (l.headD 0) (2000+r)else l.contains r
def Fv (a b:ak Nat):Bool:=match a,b with
 |some l,En m=>bif oI l then(bif oI m then !(H2 (l.headD 0) (m.headD 0))&&H3 (l.headD 0) 4000&&H3 (m.headD 0) 4000 else Hc 2000 (l.headD 0)&&H3 (l.headD 0) 4000&&!(m.contains (l.headD 0-2000)))else oI m&&Hc 2000 (m.headD 0)&&H3 (m.headD 0) 4000&&!(l.contains (m.headD 0-2000))|_,_=>Ha
def AK.box:AK->Bool
 | .read=>Hb| .write=>Hb| .take=>Hb|_=>Ha
def S9 (a b:bT):Bool:=(a.op.cl.box&&b.op.cl.box&&Fv a.al b.al) ||
  (match a.op.cl,b.op.cl with
 | .pure,_=>Hb|_,.pure=>Hb| .read,.read=>Hb| .read,.ft=>Hb| .ft,.read=>Hb| .ft,.ft=>Hb| .alloc,.alloc=>a.op.cX != b.op.cX| .alloc,.read=>!nR b.al a.op.cX| .alloc,.write=>!nR b.al a.op.cX| .alloc,.take=>!nR b.al a.op.cX| .take,.alloc=>!nR a.al b.op.cX| .take,.take=>a.op.cX != b.op.cX| .read,.alloc=>!nR a.al b.op.cX| .write,.alloc=>!nR a.al b.op.cX| .oM,.oM=>a.op.cX % 1000 != b.op.cX % 1000&&a.op.cX / 1000 != b.op.cX / 1000| .oM,.read=>pG b.al| .oM,.write=>pG b.al| .oM,.take=>pG b.al| .read,.oM=>pG a.al| .write,.oM=>pG a.al| .take,.oM=>pG a.al
 |_,_=>Ha)
def HD (a b:List Nat):Bool:=a.all fun x=>!b.contains x
def AL (a b:bT):Bool:=
 S9 a b&&HD a.writes b.reads&&HD a.writes b.writes&&HD b.writes a.reads
def Ta (iI:Array Nat)(l:List bT):Bool:=
 (l.zipIdx).all fun(b,j)=>(l.zipIdx).all fun(a,i)=>!(decide (i<j))||(iI.getD j 0).testBit i||AL a b
def Tb (ops:Array Oper):Bool:=ops.toList.zipIdx.all fun(o,i)=>o.after.all fun e=>!Region.binds .any e||decide (e.on<i)
def Tc (iI:Array Nat)(ops:Array Oper):Bool:=
 ops.toList.zipIdx.all fun(o,i)=>(List.range ops.size).all fun j=>!((iI.getD i 0).testBit j)||o.after.any fun e=>Region.binds .any e&&(e.on == j||(iI.getD e.on 0).testBit j)
def HE (P:Program)(h:jx)(nt:Nat)(id:Nat)(ops:Array Oper)(draw:Bool):Option aV:=
 match HC P h nt id ops (Region.before ops) draw ops.toList 0 []with
 |some (l,rs)=>
  if !draw||(Ta (Region.before ops) l&&Tb ops&&Tc (Region.before ops) ops)then
   En (.region rs.length l ((h.keep.find? fun x=>x.1 == id).map (·.2)))
  else E6
 |none=>E6
def Fw (s d:Nat)(o:Oper):Bool:=match o.op,o.dst,o.guard with
 | .move (.tmp s'),En d',E6=>s' == s&&d' == d|_,_,_=>Ha
def Td (s d:Nat)(o:Oper):Bool:=match o.op,o.dst,o.guard with
 | .assign (.tmp s'),En d',E6=>s' == s&&d' == d|_,_,_=>Ha
def Te (x d:Nat)(o:Oper):Option TypeId:=match o.op,o.dst,o.guard with
 | .call c,En d',E6=>match c.callee,c.args.toList,c.argTypes.toList with
  | .builtin .cap,[.tmp x'],[t]=>if x' == x&&d' == d then En t else E6
  |_,_,_=>E6
 |_,_,_=>E6
def Tf (x d:Nat)(o:Oper):Option TypeId:=match o.op,o.dst,o.guard with
 | .call c,En d',E6=>match c.callee,c.args.toList,c.argTypes.toList with
  | .builtin .len,[.tmp x'],[t]=>if x' == x&&d' == d then En t else E6
  |_,_,_=>E6
 |_,_,_=>E6
def M1 (x h d:Nat)(o:Oper):Option TypeId:=match o.op,o.dst,o.guard with
 | .slice t (.tmp x') E6 (En (.tmp h')) E6,En d',E6=>if x' == x&&h' == h&&d' == d then En t else E6
 |_,_,_=>E6
def Tg (x y d:Nat)(o:Oper):Option (TypeId×TypeId):=match o.op,o.dst,o.guard with
 | .call c,En d',E6=>match c.callee,c.args.toList,c.argTypes.toList with
  | .builtin .append,[.tmp x',.tmp y'],[t,u]=>if x' == x&&y' == y&&d' == d then En (t,u)else E6
  |_,_,_=>E6
 |_,_,_=>E6
def jrm (ops:Array Oper):Option (TypeId×TypeId):=match ops.toList with
 | [o0,o1,o2,o3,o4,o5,o6,o7,o8,o9]=>match Te 18 19 o2,M1 17 19 20 o3,Tg 20 21 22 o5,Tf 23 24 o7,M1 22 24 25 o8 with
  |some t2,En t3,En (t,u),En t7,En t8=>if Fw 0 17 o0&&Fw 0 18 o1&&Fw 1 21 o4&&Fw 0 23 o6&&Td 25 0 o9&&t2 == t&&t3 == t&&t7 == t&&t8 == t then En (t,u)else E6
  |_,_,_,_,_=>E6
 |_=>E6
def HF (P:Program)(nt:Nat)(ops:Array Oper):Option Nat:=match jrm ops with
 |some (t,u)=>match P.underlying t,P.underlying u with
  |some (.slice e),En (.int _)=>match P.info? e with
   |some i=>if i.zero.isSome&&0<i.size&&i.bytes<=4096&&26<=nt&&(y7 P e).isSome&&(y7 P e).map (·.length) == En i.size then En i.size else E6
   |none=>E6
  |_,_=>E6
 |none=>E6
def hM (P:Program)(h:jx)(nt:Nat):Code->Option aV
 | .skip=>En .skip| .label _=>En .skip
 | .region id ops draw=>match draw,HF P nt ops with
  |false,En sz=>En (.grow sz)|_,_=>HE P h nt id ops draw
 | .seq a b=>match hM P h nt a,hM P h nt b with
  |some x,En y=>En (.seq x y)|_,_=>E6
 | .cond c a b=>match qq c,hM P h nt a,hM P h nt b with
  |some c,En x,En y=>En (.cond c x y)|_,_,_=>E6
 | .block id b=>(hM P h nt b).map (.block id)| .loop b=>(hM P h nt b).map .loop
 | .scope b=>(hM P h nt b).map fun x=>.seq x .skip
 | .rangeFunc f ps a b=>match qq f,hM P h nt a,hM P h nt b with
  |some f,En x,En y=>if ps.all (decide <| · < nt)then En (.rangeFunc f ps.toList x y)else E6
  |_,_,_=>E6
 | .exit id=>En (.exit id)| .ret=>En .ret|_=>En .stuck
def M2 (P:Program):ResultVar->Option nN
 | .tmp t=>En (.tmp t)
 | .cell t ty=>match y5 P ty,js P ty with
  |some Hb,En n=>En (.cell t Hb n)|some Ha,En 1=>En (.cell t Ha 1)|_,_=>E6
def vX (P:Program):List ResultVar->ak nN
 | []=>En []
 |r::rs=>match M2 P r,vX P rs with
  |some x,En xs=>En (x::xs)|_,_=>E6
def xO (P:Program)(h:jx)(f:Func):Option iH:=
 match f.body with
 |some c=>match hM P h f.ntmps c,vX P f.results.toList with
  | some b, En rs => if f.name == "runtime.NumGoroutine" then E6 else En ⟨f.ntmps, b, rs⟩
  |_,_=>E6
 |none=>E6
structure aQ where
 K:Nat->Nat->Option Value
 β:Nat->Option Nat
 W:Nat->Prop
 D:Nat->Prop
 T:Nat×Nat×Nat×Nat->Prop
def aQ.bZ (K:Nat->Nat->Option Value):aQ:=⟨K,fun _=>E6,fun _=>False,fun _=>False,fun _=>False⟩
def fJ (C:aQ):Fn->Fn->Prop
 | .yield b,f=>∃r,C.β b=En r/\f=.yield r|f,f'=>f'=f
inductive mc where
 |val (x:AVal) (v:Value)
 |cells (r:Nat) (xs:List AVal) (o:Nat)
 |row (r sz:Nat) (xs:List AVal) (o:Nat)
 |vY (xs:List AVal) (vs:List Value)
inductive aM (C:aQ):mc->Prop where
 |bool (b:Bool):aM C (.val (.bool b) (.bool b))
 |int (k:IntKind) (n:Int):aM C (.val (.int k n) (.int k n))
 |str (s:aj):aM C (.val (.str s) (.string ⟨⟨s⟩⟩))
 |jV (sz:Nat):aM C (.val (.list Hb sz []) (.slice E6 0 0))
 |list (sz:Nat) (xs:List AVal) (r o cap:Nat) (hl:xs.length<=cap) (Q:aM C (.row r sz xs o)):aM C (.val (.list Ha sz xs) (.slice (En ⟨r,o,E6⟩) xs.length cap))
 |jW (sz:Nat) (a:Addr) (G:a.spot≠E6):aM C (.val (.list Ha sz []) (.slice (En a) 0 0))
 |ms (b o len r cap:Nat) (hb:C.β b=En r) (hl:len<=cap):aM C (.val (.ms b o len) (.slice (En ⟨r,o,E6⟩) len cap))
 |ptr (b o r:Nat) (hb:C.β b=En r):aM C (.val (.ptr b o) (.pointer (En ⟨r,o,E6⟩)))
 |aq (x:AVal) (r o:Nat) (h:aM C (.cells r x.flat o)):aM C (.val (.aq x) (.pointer (En ⟨r,o,E6⟩)))
 |b6:aM C (.val .b6 (.pointer E6))
 |map (b r:Nat) (hb:C.β b=En r):aM C (.val (.map b) (.map (En r)))
 |b8:aM C (.val .b8 (.map E6))
 |fn (f f':Fn) (a b:List AVal) (as bs:List Value) (hf:fJ C f f') (ha:aM C (.vY a as)) (hb:aM C (.vY b bs)):aM C (.val (.fn f a b) (.func f' ⟨as⟩ ⟨bs⟩))
 |cu:aM C (.val .cu .nilFunc)
 |agg (cs:List AVal) (vs:List Value) (h:aM C (.vY cs vs)):aM C (.val (.agg cs) (.agg ⟨vs⟩))
 |aJ (cs:List AVal) (vs:List Value) (h:aM C (.vY cs vs)):aM C (.val (.aJ cs) (.tuple ⟨vs⟩))
 |undef:aM C (.val .undef (.tuple #[]))
 |any (v:Value):aM C (.val .any v)
 |cW (n:Nat) (a:Addr):aM C (.val (.cW n) (.pointer (En a)))
 |ay (b bN len r0 r cap:Nat) (hb:C.β b=En r0) (ht:C.T (r0,bN,r,cap)) (hl:len<=cap):aM C (.val (.ay b bN len) (.slice (En ⟨r,0,E6⟩) len cap))
 |dT (b bN off r0 r cap:Nat) (hb:C.β b=En r0) (ht:C.T (r0,bN,r,cap)):aM C (.val (.dT b bN off) (.pointer (En ⟨r,off,E6⟩)))
 |ik (r o:Nat):aM C (.cells r [] o)
 |dz (r o:Nat) (x:AVal) (xs:List AVal) (v:Value) (hv:C.K r o=En v) (M:aM C (.val x v)) (h:aM C (.cells r xs (o+1))):aM C (.cells r (x::xs) o)
 |fO (r sz o:Nat):aM C (.row r sz [] o)
 |dp (r sz o:Nat) (x:AVal) (xs:List AVal) (G:x.flat.length=sz) (M:aM C (.cells r x.flat o)) (h:aM C (.row r sz xs (o+sz))):aM C (.row r sz (x::xs) o)
 |nil:aM C (.vY [] [])
 |cons (x:AVal) (xs:List AVal) (v:Value) (vs:List Value) (M:aM C (.val x v)) (h:aM C (.vY xs vs)):aM C (.vY (x::xs) (v::vs))
abbrev bS (C:aQ)(x:AVal)(v:Value):Prop:=aM C (.val x v)
abbrev bj (C:aQ)(xs:List AVal)(vs:List Value):Prop:=aM C (.vY xs vs)
abbrev cD (C:aQ)(r:Nat)(xs:List AVal)(o:Nat):Prop:=aM C (.cells r xs o)
abbrev bB (C:aQ)(r sz:Nat)(xs:List AVal)(o:Nat):Prop:=aM C (.row r sz xs o)
structure aQ.le (C C':aQ):Prop where
 k:∀r o v,C.K r o=En v->C'.K r o=En v
 b:∀b r,C.β b=En r->C'.β b=En r
 w:C'.W=C.W
 d:∀r,C.D r->C'.D r
 t:∀q,C.T q->C'.T q:=by exact fun _ h=>h
theorem aQ.le_refl (C:aQ):C.le C:=⟨fun _ _ _ h=>h,fun _ _ h=>h,rfl,fun _ h=>h,fun _ h=>h⟩
theorem aQ.le_trans {A B C:aQ}(h:A.le B)(k:B.le C):A.le C:=⟨fun r o v x=>k.1 r o v (h.1 r o v x),fun b r x=>k.2 b r (h.2 b r x),k.w.trans h.w,fun r x=>k.d r (h.d r x),fun r x=>k.t r (h.t r x)⟩
theorem fJ.imp {C C'}(h:(∀r o v,C.K r o=En v->C'.K r o=En v)/\(∀b r,C.β b=En r->C'.β b=En r)){f f'}(hf:fJ C f f'):fJ C' f f':=by
 cases f<;>simp only[fJ]at *<;>first|exact hf|exact⟨hf.choose,h.2 _ _ hf.choose_spec.1,hf.choose_spec.2⟩
theorem aM.imp {C C'}(h:(∀r o v,C.K r o=some v->C'.K r o=some v)/\(∀b r,C.β b=some r->C'.β b=some r)){i}(Q:aM C i)(hT:∀q,C.T q->C'.T q:=by first|exact fun _ h=>h|exact fun _ h=>False.elim h):aM C' i:=by
 induction Q with
 |bool b=>exact .bool b|int k n=>exact .int k n|str s=>exact .str s|jV sz=>exact .jV sz|list sz xs r o cap hl _ ih=>exact .list sz xs r o cap hl ih|jW sz a G=>exact .jW sz a G|ms b o len r cap hb hl=>exact .ms b o len r cap (h.2 _ _ hb) hl|ptr b o r hb=>exact .ptr b o r (h.2 _ _ hb)|aq x r o _ ih=>exact .aq x r o ih|b6=>exact .b6|map b r hb=>exact .map b r (h.2 _ _ hb)|b8=>exact .b8|fn f f' a b as bs hf _ _ ha hb=>exact .fn f f' a b as bs (hf.imp h) ha hb|cu=>exact .cu|agg cs vs _ ih=>exact .agg cs vs ih|aJ cs vs _ ih=>exact .aJ cs vs ih|undef=>exact .undef|any v=>exact .any v|cW n a=>exact .cW n a|ay b bN len r0 r cap hb ht hl=>exact .ay b bN len r0 r cap (h.2 _ _ hb) (hT _ ht) hl|dT b bN off r0 r cap hb ht=>exact .dT b bN off r0 r cap (h.2 _ _ hb) (hT _ ht)|ik r o=>exact .ik r o|dz r o x xs v hv _ _ oN ih=>exact .dz r o x xs v (h.1 _ _ _ hv) oN ih|fO r sz o=>exact .fO r sz o|dp r sz o x xs G _ _ oN ih=>exact .dp r sz o x xs G oN ih|nil=>exact .nil|cons x xs v vs _ _ oN ih=>exact .cons x xs v vs oN ih
theorem aM.mono {C C'}(h:C.le C'){i}(Q:aM C i):aM C' i:=Q.imp ⟨h.k,h.b⟩ h.t
def mc.below (n:Nat):mc->Bool
 | .val x _=>Abs.below n x| .cells _ xs _=>qo n xs| .row _ _ xs _=>qo n xs| .vY xs _=>qo n xs
theorem M3 (n:Nat)(x:AVal):qo n x.flat=Abs.below n x:=by
 cases x<;>simp[AVal.flat,qo,Abs.below]
theorem aM.shift {C C'}(n:Nat)(hK:∀r o v,C.K r o=some v->C'.K r o=some v)(hβ:∀b r,b<n->C.β b=some r->C'.β b=some r){i}(Q:aM C i)(hb:i.below n=true)(hT:∀q,0<n->C.T q->C'.T q:=by first|exact fun _ _ h=>h|exact fun _ h=>absurd h (Nat.lt_irrefl 0)|exact fun _ _ h=>False.elim h):aM C' i:=by
 induction Q with
 |bool b=>exact .bool b|int k n=>exact .int k n|str s=>exact .str s|jV sz=>exact .jV sz|list sz xs r o cap hl _ ih=>exact .list sz xs r o cap hl (ih (by simpa[mc.below,Abs.below]using hb))|jW sz a G=>exact .jW sz a G|ms b o len r cap Y hl=>exact .ms b o len r cap (hβ _ _ (by simpa[mc.below,Abs.below]using hb) Y) hl|ptr b o r Y=>exact .ptr b o r (hβ _ _ (by simpa[mc.below,Abs.below]using hb) Y)|aq x r o _ ih=>exact .aq x r o (ih (by simpa[mc.below,Abs.below,M3]using hb))|b6=>exact .b6|map b r Y=>exact .map b r (hβ _ _ (by simpa[mc.below,Abs.below]using hb) Y)|b8=>exact .b8
 |fn f f' a b as bs hf _ _ iha ihb=>
  have HG:fJ C' f f':=by
   cases f<;>simp only[fJ]at *<;>first|exact hf|skip
   obtain⟨r,Y,rfl⟩:=hf;simp[mc.below,Abs.below]at hb;exact⟨r,hβ _ _ hb.1.1 Y,rfl⟩
  have mI:qo n a=Hb/\qo n b=Hb:=by
   cases f<;>simp[mc.below,Abs.below]at hb<;>first|exact hb|exact⟨hb.1.2,hb.2⟩
  exact .fn f f' a b as bs HG (iha mI.1) (ihb mI.2)
 |cu=>exact .cu|agg cs vs _ ih=>exact .agg cs vs (ih (by simpa[mc.below,Abs.below]using hb))|aJ cs vs _ ih=>exact .aJ cs vs (ih (by simpa[mc.below,Abs.below]using hb))|undef=>exact .undef|any v=>exact .any v|cW n a=>exact .cW n a
 |ay b bN len r0 r cap Y ht hl=>
  have AO:b<n:=by simpa[mc.below,Abs.below]using hb
  exact .ay b bN len r0 r cap (hβ _ _ AO Y) (hT _ (by omega) ht) hl
 |dT b bN off r0 r cap Y ht=>
  have AO:b<n:=by simpa[mc.below,Abs.below]using hb
  exact .dT b bN off r0 r cap (hβ _ _ AO Y) (hT _ (by omega) ht)
 |ik r o=>exact .ik r o
 |dz r o x xs v hv _ _ oN ih=>
  simp[mc.below,qo]at hb oN ih;exact .dz r o x xs v (hK _ _ _ hv) (oN hb.1) (ih hb.2)
 |fO r sz o=>exact .fO r sz o
 |dp r sz o x xs G _ _ oN ih=>
  simp[mc.below,qo,M3]at hb oN ih;exact .dp r sz o x xs G (oN hb.1) (ih hb.2)
 |nil=>exact .nil
 |cons x xs v vs _ _ oN ih=>
  simp[mc.below,qo]at hb oN ih;exact .cons x xs v vs (oN hb.1) (ih hb.2)
theorem bj.length {C xs}:∀ {vs:List Value},bj C xs vs->vs.length=xs.length:=by
 induction xs with
 |nil=>intro vs h;cases h;rfl
 |cons x xs ih=>intro vs h;cases h with|cons _ _ v vs M h=>simp[ih h]
theorem bj.get {C xs}:∀ {vs:List Value},bj C xs vs->∀ {i:Nat} {x:AVal},xs[i]?=En x->∃v,vs[i]?=En v/\bS C x v:=by
 induction xs with
 |nil=>intro vs _ i x h;simp at h
 |cons y ys ih=>
  intro vs h i x hi
  cases h with
  |cons _ _ v vs M h=>
   cases i with
   |zero=>simp at hi;subst hi;exact⟨v,rfl,M⟩|succ i=>simp at hi;obtain⟨w,Y,I⟩:=ih h hi;exact⟨w,by simpa using Y,I⟩
theorem bj.append {C xs ys}:∀ {vs ws:List Value},bj C xs vs->bj C ys ws->bj C (xs++ys) (vs++ws):=by
 induction xs with
 |nil=>intro vs ws h k;cases h;exact k
 |cons x xs ih=>intro vs ws h k;cases h with|cons _ _ v vs M h=>exact .cons _ _ _ _ M (ih h k)
theorem bj.take {C xs}:∀ {vs:List Value} (n:Nat),bj C xs vs->bj C (xs.take n) (vs.take n):=by
 induction xs with
 |nil=>intro vs n h;cases h;simpa using aM.nil
 |cons x xs ih=>intro vs n h;cases h with|cons _ _ v vs M h=>cases n with
  |zero=>simpa using aM.nil|succ n=>exact .cons _ _ _ _ M (ih n h)
theorem bj.drop {C xs}:∀ {vs:List Value} (n:Nat),bj C xs vs->bj C (xs.drop n) (vs.drop n):=by
 induction xs with
 |nil=>intro vs n h;cases h;simpa using aM.nil
 |cons x xs ih=>intro vs n h;cases h with|cons _ _ v vs M h=>cases n with
  |zero=>exact .cons _ _ _ _ M h|succ n=>simpa using ih n h
theorem cD.get {C r xs}:∀ {o:Nat},cD C r xs o->∀ {i:Nat} {x:AVal},xs[i]?=En x->∃v,C.K r (o+i)=En v/\bS C x v:=by
 induction xs with
 |nil=>intro o _ i x h;simp at h
 |cons y ys ih=>
  intro o h i x hi
  cases h with
  |dz _ _ _ _ v hv M h=>
   cases i with
   |zero=>simp at hi;subst hi;exact⟨v,hv,M⟩|succ i=>simp at hi;obtain⟨w,Y,I⟩:=ih h hi;exact⟨w,by rw[show o+(i+1)=o+1+i from by omega];exact Y,I⟩
theorem cD.drop {C r xs}:∀ {o:Nat} (n:Nat),cD C r xs o->cD C r (xs.drop n) (o+n):=by
 induction xs with
 |nil=>intro o n h;simpa using aM.ik r (o+n)
 |cons x xs ih=>intro o n h;cases h with|dz _ _ _ _ v hv M h=>cases n with
  |zero=>exact .dz _ _ _ _ _ hv M h|succ n=>have:=ih n h;rw[show o+(n+1)=o+1+n from by omega];simpa using this
theorem cD.take {C r xs}:∀ {o:Nat} (n:Nat),cD C r xs o->cD C r (xs.take n) o:=by
 induction xs with
 |nil=>intro o n h;simpa using aM.ik r o
 |cons x xs ih=>intro o n h;cases h with|dz _ _ _ _ v hv M h=>cases n with
  |zero=>simpa using aM.ik r o|succ n=>exact .dz _ _ _ _ _ hv M (ih n h)
theorem cD.append {C r xs ys}:∀ {o:Nat},cD C r xs o->cD C r ys (o+xs.length)->cD C r (xs++ys) o:=by
 induction xs with
 |nil=>intro o _ k;simpa using k
 |cons x xs ih=>intro o h k;cases h with|dz _ _ _ _ v hv M h=>exact .dz _ _ _ _ _ hv M (ih h (by simpa[Ix,Nat.add_comm 1]using k))
theorem bB.get {C r sz xs}:∀ {o:Nat},bB C r sz xs o->∀ {i:Nat} {x:AVal},xs[i]?=En x->cD C r x.flat (o+i*sz):=by
 induction xs with
 |nil=>intro o _ i x h;simp at h
 |cons y ys ih=>
  intro o h i x hi
  cases h with
  |dp _ _ _ _ _ G M h=>
   cases i with
   |zero=>simp at hi;subst hi;simpa using M|succ i=>simp at hi;have:=ih h hi;rw[show o+(i+1)*sz=o+sz+i*sz from by rw[H9];omega];exact this
theorem bB.drop {C r sz xs}:∀ {o:Nat} (n:Nat),bB C r sz xs o->bB C r sz (xs.drop n) (o+n*sz):=by
 induction xs with
 |nil=>intro o n h;simpa using aM.fO r sz (o+n*sz)
 |cons x xs ih=>intro o n h;cases h with|dp _ _ _ _ _ G M h=>cases n with
  |zero=>simpa using aM.dp _ _ _ _ _ G M h|succ n=>have:=ih n h;rw[show o+(n+1)*sz=o+sz+n*sz from by rw[H9];omega];simpa using this
theorem bB.take {C r sz xs}:∀ {o:Nat} (n:Nat),bB C r sz xs o->bB C r sz (xs.take n) o:=by
 induction xs with
 |nil=>intro o n h;simpa using aM.fO r sz o
 |cons x xs ih=>intro o n h;cases h with|dp _ _ _ _ _ G M h=>cases n with
  |zero=>simpa using aM.fO r sz o|succ n=>exact .dp _ _ _ _ _ G M (ih n h)
theorem bB.append {C r sz xs ys}:∀ {o:Nat},bB C r sz xs o->bB C r sz ys (o+xs.length*sz)->bB C r sz (xs++ys) o:=by
 induction xs with
 |nil=>intro o _ k;simpa using k
 |cons x xs ih=>
  intro o h k
  cases h with
  |dp _ _ _ _ _ G M h=>
   refine .dp _ _ _ _ _ G M (ih h ?_)
   have e:o+sz+xs.length*sz=o+(x::xs).length*sz:=by simp[H9];omega
   rw[e];exact k
theorem bB.sized {C r sz xs}:∀ {o:Nat},bB C r sz xs o->∀x∈xs,x.flat.length=sz:=by
 induction xs with
 |nil=>intro o _ x M;cases M
 |cons y ys ih=>
  intro o h x M
  cases h with
  |dp _ _ _ _ _ G _ h=>
   rcases I2.1 M with rfl|M
   .exact G
   .exact ih h x M
theorem bB.cells {C r sz xs}:∀ {o:Nat},bB C r sz xs o->cD C r (xs.flatMap AVal.flat) o:=by
 induction xs with
 |nil=>intro o _;exact .ik _ _
 |cons x xs ih=>
  intro o h
  cases h with
  |dp _ _ _ _ _ G M h=>
   simp only[Ig];refine cD.append M ?_;rw[G];exact ih h
theorem bB.eX {C r sz xs}:∀ {o:Nat},cD C r (xs.flatMap AVal.flat) o->(∀x∈xs,x.flat.length=sz)->bB C r sz xs o:=by
 induction xs with
 |nil=>intro o _ _;exact .fO _ _ _
 |cons x xs ih=>
  intro o h hl;simp only[Ig]at h;have Y:=cD.take (x.flat.length) h;have I:=cD.drop (x.flat.length) h;rw[List.take_left' rfl]at Y;rw[List.drop_left' rfl,hl x (by simp)]at I;exact .dp _ _ _ _ _ (hl x (by simp)) Y (ih I fun y hy=>hl y (by simp[hy]))
theorem cD.vals {C r xs}:∀ {o:Nat},cD C r xs o->∃vs,bj C xs vs/\∀j v,vs[j]?=En v->C.K r (o+j)=En v:=by
 induction xs with
 |nil=>intro o _;exact⟨[],.nil,by simp⟩
 |cons x xs ih=>
  intro o h
  cases h with
  |dz _ _ _ _ v hv M h=>
   obtain⟨vs,Y,I⟩:=ih h;refine⟨v::vs,.cons _ _ _ _ M Y,?_⟩;intro j u hj
   cases j with
   |zero=>simp at hj;subst hj;exact hv|succ j=>simp at hj;rw[show o+(j+1)=o+1+j from by omega];exact I j u hj
inductive Loc where
 |slot (s:Nat)
 |cell (b j:Nat)
 deriving DecidableEq
def gL (sz:Nat)(xs:List AVal)(cells:Array Value)(elem:TypeId)(len cap:Nat):Prop:=
 ∀(e:Nat) (l:aj),sz=0->xs=[.int .u64 (e:Int),.str l]->elem=e/\len=l.length/\len<=cap/\cap<=maxLen/\cells.size=cap/\cells.toList.take len=l.map fun b=>Value.int .u8 b.toNat
theorem gL.sized {sz xs cells}{elem:TypeId}{len cap}(h:∀x∈xs,x.flat.length=sz):gL sz xs cells elem len cap:=fun e l h0 M=>by
 have:=h (.str l) (by rw[M];simp);simp[AVal.flat,h0]at this
def aW (C:aQ)(ω:Nat->Option Loc)(w:World)(B:Nat)(ℓ:Loc):AVal->Value->Prop
 | .list _ sz xs,.slice (En a) len cap=>ω a.block=En ℓ/\(B<=a.block\/C.W a.block)/\(∀b,C.β b≠En a.block)/\a.spot=E6/\a.off=0 /\
   (∃cells elem,w.heap[a.block]?=En (.cells cells elem (0,0))/\a.off+cap*sz<=cells.size/\gL sz xs cells elem len cap)/\∀o,a.off+len*sz<=o->C.K a.block o=E6
 | .cW n,.pointer (En a)=>ω a.block=En ℓ/\(B<=a.block\/C.W a.block)/\(∀b,C.β b≠En a.block)/\a.spot=E6/\a.off=0 /\
   (∃cells elem,w.heap[a.block]?=En (.cells cells elem (0,0))/\a.off+n*1<=cells.size/\gL 0 [] cells elem 0 0)/\∀o,a.off+0*0<=o->C.K a.block o=E6
 |_,_=>True
structure Ext (w w':World):Prop where
 size:w.heap.size<=w'.heap.size
 same:∀r,r<w.heap.size->w'.heap[r]?=w.heap[r]?
 os:w'.os=w.os
 output:w'.output=w.output
theorem Ext.refl (w:World):Ext w w:=⟨Ia _,fun _ _=>rfl,rfl,rfl⟩
theorem Ext.get {w w':World}(h:Ext w w'){r:Nat}{o}(Q:w.heap[r]?=En o):w'.heap[r]?=En o:=by
 rw[h.same r (H8.1 Q).1];exact Q
theorem Ext.trans {a b c}(h:Ext a b)(k:Ext b c):Ext a c where
 size:=Nat.le_trans h.size k.size
 same r Q:=by rw[k.same r (If Q h.size),h.same r Q]
 os:=k.os.trans h.os
 output:=k.output.trans h.output
theorem vZ (w:World)(o:Obj)(r:Nat):(w.alloc o).heap[r]?=if r=w.heap.size then En o else w.heap[r]?:=by
 show(w.heap.push o)[r]?=_;rw[Array.getElem?_push]
theorem Ext.alloc (w:World)(o:Obj)(ho:∀c t fr,o=.cells c t fr->fr=(0,0)):Ext w (w.alloc o) where
 size:=by rw[World.size_alloc];omega
 same r Q:=by rw[vZ,if_neg (by omega)]
 os:=rfl
 output:=rfl
theorem Ext.drew (w:World):Ext w w.drew:=⟨Ia _,fun _ _=>rfl,rfl,rfl⟩
theorem Ext.cell {w w':World}(h:Ext w w'){a:Addr}{v}(hc:w.cell? a=En v):w'.cell? a=En v:=by
 unfold World.cell? at *
 cases Q:w.heap[a.block]? with
 |none=>rw[Q]at hc;cases hc|some o=>rw[h.get Q];rw[Q]at hc;exact hc
theorem aW.ext {C:aQ}{ω:Nat->Option Loc}{w w' B ℓ x v}(h:Ext w w')(ho:aW C ω w B ℓ x v):aW C ω w' B ℓ x v:=by
 unfold aW at *;split at ho
 .obtain⟨Y,I,h3,h4,h8,⟨cells,elem,h5,h6⟩,h7⟩:=ho;exact⟨Y,I,h3,h4,h8,⟨cells,elem,h.get h5,h6⟩,h7⟩
 .obtain⟨Y,I,h3,h4,h8,⟨cells,elem,h5,h6⟩,h7⟩:=ho;exact⟨Y,I,h3,h4,h8,⟨cells,elem,h.get h5,h6⟩,h7⟩
 .trivial
inductive cI (C:aQ):List (AVal×AVal)->List MapEntry->Prop where
 |nil:cI C [] []
 |cons (k v:AVal) (es:List (AVal×AVal)) (m:MapEntry) (ms:List MapEntry) (hk:bS C k m.key) (hv:bS C v m.val) (h:cI C es ms):cI C ((k,v)::es) (m::ms)
theorem cI.imp {C C'}(h:(∀r o v,C.K r o=some v->C'.K r o=some v)/\(∀b r,C.β b=some r->C'.β b=some r)){es ms}(Q:cI C es ms)(hT:∀q,C.T q->C'.T q:=by first|exact fun _ h=>h|exact fun _ h=>False.elim h):cI C' es ms:=by
 induction Q with
 |nil=>exact .nil|cons k v es m ms hk hv _ ih=>exact .cons k v es m ms (aM.imp h hk hT) (aM.imp h hv hT) ih
theorem cI.mono {C C'}(h:C.le C'){es ms}(Q:cI C es ms):cI C' es ms:=Q.imp ⟨h.k,h.b⟩ h.t
def bz (C:aQ)(e:Env)(tmps:Array Value):Prop:=∀s x,jn s e=En x->∃v,tmps[s]?=En v/\bS C x.1 v
def HI (P:Program)(nt:Nat)(c:Code)(a:aV):Prop:=∃h,hM P h nt c=En a
structure cE (P:Program)(C:aQ)(l:jrc)(lp:Loop):Prop where
 assign:HI P lp.tmps.size lp.assign l.assign
 body:HI P lp.tmps.size lp.body l.body
 params:lp.params.toList=l.params
 fits:∀t∈l.params,t<lp.tmps.size
 nr:zx l.assign=Hb/\zx l.body=Hb
 env:bz C l.env lp.tmps
 state:lp.state=match l.pending with
  |none=>.ready|some .normal=>.busy|some _=>.done
 pending:lp.pending=match l.pending with
  |none=>E6|some .normal=>E6|some (.exit id)=>En (.exit id)|some .ret=>En .ret
def ez (K:Nat->Nat->Option Value)(w:World)(q sz:Nat)(xs:List AVal)(cap:Nat):Prop:=
 ∃cells t vs,w.heap[q]?=En (.cells cells t (0,0))/\xs.length<=cap/\cap*sz<=cells.size/\(∀x∈xs,x.flat.length=sz)/\bj (.bZ K) (xs.flatMap AVal.flat) vs /\
  (∀(j:Nat) v,vs[j]?=En v->cells[j]?=En v)/\∀v∈vs,v.oneCell'=Hb
theorem ez.imp {K K' w w' q sz cap xs}(hK:∀r o v,K r o=En v->K' r o=En v)(hw:w'.heap[q]?=w.heap[q]?)(h:ez K w q sz xs cap):ez K' w' q sz xs cap:=by
 obtain⟨cells,t,vs,Y,I,h3,h4,h5,h6⟩:=h;exact⟨cells,t,vs,hw.trans Y,I,h3,h4,aM.imp (C:=.bZ K) (C':=.bZ K') ⟨hK,fun _ _ h=>h⟩ h5,h6⟩
abbrev xP (C:aQ)(ω:Nat->Option Loc)(w:World)(B b q n cap:Nat):Prop:=aW C ω w B (.cell b 0) (.list Ha 0 []) (.slice (En ⟨q,0,E6⟩) n cap)
def ej (C:aQ)(ω:Nat->Option Loc)(w:World)(B b r sz bN:Nat)(xs:List AVal):Prop:=
 ∃q cap,C.T (r,bN,q,cap)/\(∀x,C.T x->x.1=r->x.2.1<=bN/\(x.2.1=bN->x.2.2=(q,cap)))/\ez C.K w q sz xs cap/\(q=r\/xP C ω w B b q xs.length cap)/\∃cs t,w.heap[r]?=En (.cells cs t (0,0))
theorem ej.imp {C C' ω ω' w w' B B' b r sz bN xs}(hK:∀r o v,C.K r o=En v->C'.K r o=En v)(hT:∀q,C.T q->C'.T q)(HJ:∀x,C'.T x->x.1=r->C.T x)(hw:w'.heap[r]?=w.heap[r]?)
  (hq:∀q n cap,xP C ω w B b q n cap->w'.heap[q]?=w.heap[q]?/\xP C' ω' w' B' b q n cap) (h:ej C ω w B b r sz bN xs):ej C' ω' w' B' b r sz bN xs:=by
 obtain⟨q,cap,Y,I,h3,h4,cs,t,h5⟩:=h;refine⟨q,cap,hT _ Y,fun x M Q=>I x (HJ x M Q) Q,?_,?_,cs,t,hw.trans h5⟩
 .rcases h4 with rfl|h4
  .exact h3.imp hK hw
  .exact h3.imp hK (hq _ _ _ h4).1
 .exact h4.imp id fun h=>(hq _ _ _ h).2
def bM (P:Program)(C:aQ)(ω:Nat->Option Loc)(w:World)(B b r:Nat):aK->Prop
 | .hole=>False
 | .cells cs=>∃vs elem,w.heap[r]?=En (.cells vs elem (0,0))/\cs.length<=vs.size /\
   ∀j c,cs[j]?=En c->∃v,vs[j]?=En v/\v.oneCell'=Hb/\bS C c.1 v/\(c.2=Hb->aW C ω w B (.cell b j) c.1 v)
 | .map es=>∃cr clock,w.heap[r]?=En (.map cr clock)/\cI C es cr.toList| .iter s pos=>w.heap[r]?=En (.stringIter ⟨⟨s⟩⟩ pos)| .loop l=>∃lp,w.heap[r]?=En (.loop lp)/\cE P C l lp| .fZ t e l=>∃p v,w.heap[r]?=En (.cells #[p,v] t (0,0))/\(p=.pointer E6\/p=.pointer (En ⟨r,0,E6⟩))/\((v=.slice E6 0 0/\l=[])\/∃a len cap,v=.slice (En a) len cap)/\aW C ω w B (.cell b 1) (.list Ha 0 [.int .u64 (e:Int),.str l]) v| .dead=>∃cs t,w.heap[r]?=En (.cells cs t (0,0))| .vec sz bN xs=>ej C ω w B b r sz bN xs
def pI : String := "internal/strconv.uint64pow10"
def AP : String := "internal/bytealg.MaxLen"
def j6r (P:Program)(w:World)(g:Nat):Prop:=
 (P.globalNamed pI=En g->Lib.TabIs P w pI .u64 Lib.pow10Tab)/\(P.globalNamed AP=En g->∃m,w.cell? ⟨g,0,E6⟩=En (.int .i64 m)) /\
 (∀x∈Hz,P.globalNamed x.1=En g->∀j n,x.2[j]?=En n->w.cell? ⟨g,j,E6⟩=En (.int .i64 n))
def Ti (P:Program)(g:Nat):Prop:=P.globalNamed pI=En g\/P.globalNamed AP=En g\/∃x∈Hz,P.globalNamed x.1=En g
def Tabs (P:Program)(w:World):Prop:=∀g,Ti P g->g<w.heap.size/\j6r P w g
theorem Tabs.same {P w w'}(h:Tabs P w)(G:w.heap.size<=w'.heap.size)(hg:∀g,Ti P g->w'.heap[g]?=w.heap[g]?):Tabs P w':=by
 intro g hn;obtain⟨Y,I,h3,h5⟩:=h g hn;refine⟨If Y G,fun xQ=>?_,fun xQ=>?_,fun x M xQ j n hj=>?_⟩
 .have I:=I xQ;unfold Lib.TabIs World.var? at *;rw[xQ]at I ⊢;simp only[Option.bind_some]at I ⊢;rw[hg g hn];exact I
 .obtain⟨m,h4⟩:=h3 xQ;refine⟨m,?_⟩;unfold World.cell? at *;simp only[]at h4 ⊢;rw[hg g hn];exact h4
 .have h4:=h5 x M xQ j n hj;unfold World.cell? at *;simp only[]at h4 ⊢;rw[hg g hn];exact h4
def zdy (P:Program)(w0:World)(C0:aQ):Prop:=Tabs P w0/\∀g,Ti P g->(∀b,C0.β b≠En g)/\¬C0.W g
structure aA (P:Program)(C:aQ)(ω:Nat->Option Loc)(w0:World)(C0:aQ)(h:qf)(w:World):Prop where
 base:zdy P w0 C0
 know:∀r o v,C.K r o=En v->w.cell? ⟨r,o,E6⟩=En v
 dk:∀r o v,C.K r o=En v->v.oneCell'=Hb
 apart:∀b r o,C.β b=En r->C.K r o=E6
 inj:∀b b' r,C.β b=En r->C.β b'=En r->b=b'
 lt:∀b r,C.β b=En r->r<w.heap.size/\b<h.length
 size:w0.heap.size<=w.heap.size
 frame:∀r,r<w0.heap.size->(∀b,C0.β b≠En r)->¬C0.W r->w.heap[r]?=w0.heap[r]?
 fA:∀r,C.D r->w.heap[r]?=En (.deferred (En []))
 os:w.os=w0.os
 output:w.output=w0.output
 fresh:∀b r,C.β b=En r->C0.β b=En r\/w0.heap.size<=r\/C0.W r
 grown:C0.le C
 old:∀r o,r<w0.heap.size->¬C0.W r->C.K r o=C0.K r o
 box:∀b x r,h[b]?=En x->C.β b=En r->bM P C ω w w0.heap.size b r x
 iJ:∀q,C.T q->q.1<w.heap.size
def ar (C:aQ)(ω:Nat->Option Loc)(w:World)(B:Nat)(e:Env)(tmps:Array Value):Prop:=
 ∀s x,jn s e=En x->∃v,tmps[s]?=En v/\bS C x.1 v/\(x.2=Hb->aW C ω w B (.slot s) x.1 v)
theorem ar.cw {C ω w B e tmps}(h:ar C ω w B e tmps):bz C e tmps:=
 fun s x M=>let ⟨v,Y,I,_⟩:=h s x M; ⟨v,Y,I⟩
theorem bM.ext {P:Program}{C:aQ}{ω w w' B b r x}(h:Ext w w')(hb:bM P C ω w B b r x):bM P C ω w' B b r x:=by
 cases x with
 |hole=>exact hb
 |cells cs=>
  obtain⟨vs,elem,Y,I,h3⟩:=hb;exact⟨vs,elem,h.get Y,I,fun j c hc=>let ⟨v,a,q,b,d⟩:=h3 j c hc; ⟨v,a,q,b,fun e=>(d e).ext h⟩⟩
 |map es=>obtain⟨cr,clock,Y,I⟩:=hb;exact⟨cr,clock,h.get Y,I⟩|iter s pos=>exact h.get hb|loop l=>obtain⟨lp,Y,I⟩:=hb;exact⟨lp,h.get Y,I⟩|fZ t e l=>obtain⟨p,v,Y,I,h3,h4⟩:=hb;exact⟨p,v,h.get Y,I,h3,h4.ext h⟩|dead=>obtain⟨cs,t,Y⟩:=hb;exact⟨cs,t,h.get Y⟩
 |vec sz bN xs=>
  obtain⟨q,cap,Y,I,h3,h4,cs,t,h5⟩:=hb
  have hex:∀ {k:Nat} {o:Obj},w.heap[k]?=En o->w'.heap[k]?=w.heap[k]?:=fun hk=>by rw[h.get hk,hk]
  refine⟨q,cap,Y,I,h3.imp (fun _ _ _ h=>h) ?_,h4.imp id fun h4=>h4.ext h,cs,t,h.get h5⟩;obtain⟨cells,t',_,g1,_⟩:=h3;exact hex g1
theorem aA.tabs {P C ω w0 w C0 hp}(m:aA P C ω w0 C0 hp w):Tabs P w:=
 m.base.1.same m.size fun g hg=>m.frame g (m.base.1 g hg).1 (m.base.2 g hg).1 (m.base.2 g hg).2
theorem aA.ext {P:Program}{C:aQ}{ω w0 w w' C0 hp}(h:Ext w w')(m:aA P C ω w0 C0 hp w):aA P C ω w0 C0 hp w' where
 base:=m.base
 know r o v hk:=h.cell (m.know r o v hk)
 dk:=m.dk
 apart:=m.apart
 inj:=m.inj
 lt b r hb:=⟨If (m.lt b r hb).1 h.size,(m.lt b r hb).2⟩
 size:=Nat.le_trans m.size h.size
 frame r Q hn hw:=by rw[h.same r (If Q m.size)];exact m.frame r Q hn hw
 fA r Q:=h.get (m.fA r Q)
 os:=h.os.trans m.os
 output:=h.output.trans m.output
 fresh:=m.fresh
 grown:=m.grown
 old:=m.old
 box b x r M hb:=(m.box b x r M hb).ext h
 iJ q hq:=If (m.iJ q hq) h.size
theorem ar.ext {C ω w w' B e tmps}(h:Ext w w')(he:ar C ω w B e tmps):ar C ω w' B e tmps:=
 fun s x M=>let ⟨v,a,b,d⟩:=he s x M; ⟨v,a,b,fun e=>(d e).ext h⟩
def aQ.put (C:aQ)(r off:Nat)(vs:List Value):aQ:={ C with K:=fun b o=>if b=r/\off<=o/\o<off+vs.length then vs[o-off]? else C.K b o }
theorem aQ.gM {C:aQ}{r off}(vs:List Value)(h:∀o,off<=o->C.K r o=E6):C.le (C.put r off vs):=
 ⟨fun b o v hk=>(by
  simp only[aQ.put];rw[if_neg]
  ·exact hk
  ·rintro ⟨rfl,Y,_⟩;rw[h o Y]at hk;cases hk),fun _ _ h=>h,rfl,fun _ h=>h,fun _ h=>h⟩
theorem aQ.AQ {C:aQ}{r off vs j v}(h:vs[j]?=En v):(C.put r off vs).K r (off+j)=En v:=by
 have hj:j<vs.length:=(Il.1 h).1;show(if r=r/\off<=off+j/\off+j<off+vs.length then vs[off+j-off]? else C.K r (off+j))=En v;rw[if_pos ⟨rfl,by omega,by omega⟩,show off+j-off=j from by omega,h]
theorem cD.iK {C r xs}:∀ {vs:List Value} {o:Nat},bj C xs vs->(∀j v,vs[j]?=En v->C.K r (o+j)=En v)->cD C r xs o:=by
 induction xs with
 |nil=>intro vs o _ _;exact .ik _ _
 |cons x xs ih=>
  intro vs o h hk
  cases h with
  |cons _ _ v vs M h=>
   refine .dz _ _ _ _ v (by simpa using hk 0 v rfl) M (ih h ?_);intro j u hj;rw[show o+1+j=o+(j+1)from by omega];exact hk (j+1) u (by simpa using hj)
theorem aQ.fo {C:aQ}{r off xs vs}(hn:∀o,off<=o->C.K r o=E6)(h:bj C xs vs):cD (C.put r off vs) r xs off:=
 cD.iK (aM.mono (aQ.gM vs hn) h) fun _ _ hj=>aQ.AQ hj
theorem aA.kN {P C ω w0 w C0 hp}(m:aA P C ω w0 C0 hp w)(r:Nat)(Q:w.heap.size<=r)(o:Nat):C.K r o=E6:=by
 cases h:C.K r o with
 |none=>rfl
 |some v=>
  have:=m.know r o v h;unfold World.cell? at this;rw[show w.heap[(⟨r,o,E6⟩:Addr).block]?=E6 from Array.getElem?_eq_none Q]at this;cases this
theorem aW.put {C ω w B r off ℓ x v}(vs:List Value)(Q:w.heap.size<=r\/ω r≠En ℓ)(ho:aW C ω w B ℓ x v):aW (C.put r off vs) ω w B ℓ x v:=by
 unfold aW at *;split at ho
 .rename_i a len cap;obtain⟨Y,I,h3,h4,h8,⟨cells,elem,h5,h6⟩,h7⟩:=ho;have bg:a.block<w.heap.size:=(H8.1 h5).1;refine⟨Y,I,h3,h4,h8,⟨cells,elem,h5,h6⟩,fun o ho=>?_⟩;simp only[aQ.put];rw[if_neg]
  .exact h7 o ho
  .rintro ⟨rfl,_⟩;rcases Q with Q|Q
   .omega
   .exact Q Y
 .rename_i a;obtain⟨Y,I,h3,h4,h8,⟨cells,elem,h5,h6⟩,h7⟩:=ho;have bg:a.block<w.heap.size:=(H8.1 h5).1;refine⟨Y,I,h3,h4,h8,⟨cells,elem,h5,h6⟩,fun o ho=>?_⟩;simp only[aQ.put];rw[if_neg]
  .exact h7 o ho
  .rintro ⟨rfl,_⟩;rcases Q with Q|Q
   .omega
   .exact Q Y
 .trivial
theorem cE.imp {P C C'}(h:(∀r o v,C.K r o=some v->C'.K r o=some v)/\(∀b r,C.β b=some r->C'.β b=some r)){l lp}(k:cE P C l lp)(hT:∀q,C.T q->C'.T q:=by first|exact fun _ h=>h|exact fun _ h=>False.elim h):cE P C' l lp:=
 { k with env:=fun s x M=>let ⟨v,a,b⟩:=k.env s x M; ⟨v,a,aM.imp h b hT⟩ }
theorem cE.mono {P C C'}(h:C.le C'){l lp}(k:cE P C l lp):cE P C' l lp:=k.imp ⟨h.k,h.b⟩ h.t
theorem bM.imp {P C C' ω ω' w w' B B' b r x}(h:(∀r o v,C.K r o=En v->C'.K r o=En v)/\(∀b r,C.β b=En r->C'.β b=En r))(hw:w'.heap[r]?=w.heap[r]?)
  (ho:∀j y v,aW C ω w B (.cell b j) y v->aW C' ω' w' B' (.cell b j) y v) (hb:bM P C ω w B b r x) (hT:∀q,C.T q->C'.T q:=by exact fun _ h=>h) (HJ:∀x,C'.T x->x.1=r->C.T x:=by exact fun _ h _=>h)
  (hq:∀q n cap,xP C ω w B b q n cap->w'.heap[q]?=w.heap[q]?:=by exact fun _ _ _ _=>rfl):bM P C' ω' w' B' b r x:=by
 cases x with
 |hole=>exact hb
 |cells cs=>
  obtain⟨vs,elem,Y,I,h3⟩:=hb;exact⟨vs,elem,hw.trans Y,I,fun j c hc=>let ⟨v,a,q,b,d⟩:=h3 j c hc; ⟨v,a,q,aM.imp h b hT,fun e=>ho _ _ _ (d e)⟩⟩
 |map es=>obtain⟨cr,clock,Y,I⟩:=hb;exact⟨cr,clock,hw.trans Y,I.imp h hT⟩|iter s pos=>exact hw.trans hb|loop l=>obtain⟨lp,Y,I⟩:=hb;exact⟨lp,hw.trans Y,I.imp h hT⟩|fZ t e l=>obtain⟨p,v,Y,I,h3,h4⟩:=hb;exact⟨p,v,hw.trans Y,I,h3,ho _ _ _ h4⟩|dead=>obtain⟨cs,t,Y⟩:=hb;exact⟨cs,t,hw.trans Y⟩|vec sz bN xs=>exact ej.imp h.1 hT HJ hw (fun q n cap k=>⟨hq q n cap k,ho _ _ _ k⟩) hb
theorem bM.mono {P C C' ω ω' w B b r x}(h:C.le C')
  (ho:∀j y v,aW C ω w B (.cell b j) y v->aW C' ω' w B (.cell b j) y v) (hb:bM P C ω w B b r x) (HJ:∀x,C'.T x->x.1=r->C.T x:=by exact fun _ h _=>h):bM P C' ω' w B b r x:=hb.imp ⟨h.k,h.b⟩ rfl ho h.t HJ
theorem aA.newRow {P:Program}{C ω w0 w C0 hp}(m:aA P C ω w0 C0 hp w)(cells:Array Value)(t:TypeId)(vs:List Value)
  (hv:∀(j:Nat) v,vs[j]?=En v->cells[j]?=En v) (Y:∀v∈vs,v.oneCell'=Hb):
  aA P (C.put w.heap.size 0 vs) ω w0 C0 hp (w.alloc (.cells cells t)):=by
 have M:Ext w (w.alloc (.cells cells t)):=Ext.alloc w _ (fun c t fr h=>by cases h;rfl);have m':=m.ext M;have hn:∀o,C.K w.heap.size o=E6:=m.kN _ (Ia _);have hle:=aQ.gM (C:=C) (off:=0) vs (fun o _=>hn o);refine { m' with know:=?_,dk:=?_,apart:=?_,grown:=aQ.le_trans m.grown hle,old:=?_,box:=?_ }
 .intro r o v hk;simp only[aQ.put]at hk;split at hk
  .rename_i hc;obtain⟨rfl,_,_⟩:=hc;simp only[World.cell?];rw[vZ,if_pos rfl];simpa using hv _ _ hk
  .exact m'.know r o v hk
 .intro r o v hk;simp only[aQ.put]at hk;split at hk
  .exact Y v (List.mem_of_getElem? hk)
  .exact m.dk r o v hk
 .intro b r o hb;have:=(m.lt b r hb).1;simp only[aQ.put];rw[if_neg (by omega)];exact m.apart b r o hb
 .intro r o Q hw;have:=m.size;simp only[aQ.put];rw[if_neg (by omega)];exact m.old r o Q hw
 .intro b x r fp hb;exact((m.box b x r fp hb).mono (ω':=ω) hle fun j y v ho=>ho.put vs (.inl (Ia _))).ext M
theorem ar.put {C:aQ}{ω w B e tmps r off}(vs:List Value)(Q:w.heap.size<=r\/∀s,jn s e≠E6->(jn s e).any (·.2)=Hb->ω r≠En (.slot s))(hn:∀o,off<=o->C.K r o=E6)(he:ar C ω w B e tmps):ar (C.put r off vs) ω w B e tmps:=
 fun s x M=>let ⟨v,a,b,d⟩:=he s x M; ⟨v,a,aM.mono (aQ.gM vs hn) b,fun e=>(d e).put vs (Q.imp id fun h=>h s (by rw[M];simp) (by rw[M];exact e))⟩
def cO (ω:Nat->Option Loc)(r:Nat)(ℓ:Loc):Nat->Option Loc:=fun b=>if b=r then En ℓ else ω b
theorem aW.other {C ω w B r ℓ ℓ' x v}(Q:ω r≠En ℓ\/ℓ=ℓ')(ho:aW C ω w B ℓ x v):aW C (Abs.cO ω r ℓ') w B ℓ x v:=by
 unfold aW at *;split at ho
 .rename_i a len cap;obtain⟨Y,I⟩:=ho;refine⟨?_,I⟩;simp only[Abs.cO];by_cases hb:a.block=r
  .rw[if_pos hb];rcases Q with Q|Q
   .exact absurd (hb▸Y) Q
   .rw[Q]
  .rw[if_neg hb];exact Y
 .rename_i a;obtain⟨Y,I⟩:=ho;refine⟨?_,I⟩;simp only[Abs.cO];by_cases hb:a.block=r
  .rw[if_pos hb];rcases Q with Q|Q
   .exact absurd (hb▸Y) Q
   .rw[Q]
  .rw[if_neg hb];exact Y
 .trivial
theorem aW.fresh {C ω w B r ℓ ℓ' x v}(Q:w.heap.size<=r)(ho:aW C ω w B ℓ x v):aW C (Abs.cO ω r ℓ') w B ℓ x v:=by
 unfold aW at *;split at ho
 .rename_i a len cap;obtain⟨Y,I,h3,h4,h8,⟨cells,elem,h5,h6⟩,h7⟩:=ho;have bg:a.block<w.heap.size:=(H8.1 h5).1;refine⟨?_,I,h3,h4,h8,⟨cells,elem,h5,h6⟩,h7⟩;simp only[Abs.cO];rw[if_neg (by omega)];exact Y
 .rename_i a;obtain⟨Y,I,h3,h4,h8,⟨cells,elem,h5,h6⟩,h7⟩:=ho;have bg:a.block<w.heap.size:=(H8.1 h5).1;refine⟨?_,I,h3,h4,h8,⟨cells,elem,h5,h6⟩,h7⟩;simp only[Abs.cO];rw[if_neg (by omega)];exact Y
 .trivial
theorem ar.fresh {C ω w B r ℓ e tmps}(Q:w.heap.size<=r)(he:ar C ω w B e tmps):ar C (Abs.cO ω r ℓ) w B e tmps:=
 fun s x M=>let ⟨v,a,b,d⟩:=he s x M; ⟨v,a,b,fun e=>(d e).fresh Q⟩
theorem aA.lB {P C ω w0 w C0 hp}(m:aA P C ω w0 C0 hp w)(r:Nat)(ℓ:Loc)(Q:w.heap.size<=r):aA P C (Abs.cO ω r ℓ) w0 C0 hp w:=
 { m with box:=fun b x r' M hb=>(m.box b x r' M hb).mono (aQ.le_refl C) fun _ _ _ ho=>ho.fresh Q }
theorem aA.cO {P C ω w0 w C0 hp}(m:aA P C ω w0 C0 hp w)(r:Nat)(ℓ:Loc)(Q:∀b j,ω r≠En (.cell b j)):aA P C (Abs.cO ω r ℓ) w0 C0 hp w:=
 { m with box:=fun b x r' M hb=>(m.box b x r' M hb).mono (aQ.le_refl C) fun j _ _ ho=>ho.other (.inl (Q b j)) }
def zu (P:Program)(C0:aQ)(w0:World)(C:aQ)(tmps:Array Value)(d:Loc)(env:Env)(res:bu)(v:Value)(w':World):Prop:=
 ∃C' ω',C.le C'/\aA P C' ω' w0 C0 res.heap w'/\ar C' ω' w' w0.heap.size (yh env res.strip) tmps/\bS C' res.v v/\(res.own=Hb->aW C' ω' w' w0.heap.size d res.v v)
theorem q0k (C:aQ){v x}(h:Fs v=En x):bS C x v:=by
 unfold Fs at h
 split at h<;>first|cases h|skip
 .exact .bool _
 .exact .int _ _
 .exact .str _
 .exact .jV _
 .exact .b6
 .exact .b8
 .exact .cu
theorem M4 (C:aQ):∀ {vs:List Value} {xs:List AVal},vW vs=En xs->bj C xs vs
 | [],xs,h=>by simp[vW]at h;subst h;exact .nil
 |v::vs,xs,h=>by
  simp only[vW]at h;split at h
  .rename_i x M;split at h
   .rename_i ys nS;cases h;exact .cons _ _ _ _ (q0k C M) (M4 C nS)
   .cases h
  .cases h
theorem qwg (C:aQ){v x}(h:ofValue v=En x):bS C x v:=by
 unfold ofValue at h;split at h
 .rename_i cs;split at h
  .rename_i xs M;cases h;exact .agg _ _ (M4 C M)
  .cases h
 .exact q0k C h
section
variable {P:Program}{C C0:aQ}{ω:Nat->Option Loc}{w w0:World}{hp:qf}{env:Env}{a:Act}{B:Nat}
theorem qt {x y v}(he:bz C env a.tmps)(hc:qq x=En y)(hv:qh env y=En v):bS C v (a.eval x):=by
 cases x with
 |tmp t=>
  simp only[qq]at hc;cases hc;simp only[qh]at hv;split at hv
  .rename_i x M;cases hv;obtain⟨u,Y,I⟩:=he t x M
   have:a.eval (.tmp t)=u:=by simp[Act.eval,Array.getD_eq_getD_getElem?,Y]
   rw[this];exact I
  .cases hv
 |const u=>
  simp only[qq]at hc;split at hc
  .rename_i z hz;cases hc;simp only[qh]at hv;cases hv;exact qwg C hz
  .cases hc
 |func f=>
  simp only[qq]at hc;cases hc;simp only[qh]at hv;cases hv;exact .fn (.func f) (.func f) [] [] [] [] rfl .nil .nil
 |global g=>simp[qq]at hc
theorem Fx (he:bz C env a.tmps):∀ {xs:List Operand} {ys:List ju} {vs:List AVal},ri xs=En ys->gJ env ys=En vs->bj C vs (xs.map a.eval)
 | [],ys,vs,hc,hv=>by simp[ri]at hc;subst hc;simp[gJ]at hv;subst hv;exact .nil
 |x::xs,ys,vs,hc,hv=>by
  simp only[ri]at hc;split at hc
  .rename_i y hy;split at hc
   .rename_i zs sx;cases hc;simp only[gJ]at hv;split at hv
    .rename_i v oO;split at hv
     .rename_i us hO;cases hv;exact .cons _ _ _ _ (qt he hy oO) (Fx he sx hO)
     .cases hv
    .cases hv
   .cases hc
  .cases hc
theorem bS.dq {b v}(h:bS C (.bool b) v):v=.bool b:=by cases h;rfl
theorem bS.bU {k n v}(h:bS C (.int k n) v):v=.int k n:=by cases h;rfl
theorem bS.cz {s v}(h:bS C (.str s) v):v=.string ⟨⟨s⟩⟩:=by cases h;rfl
theorem bS.dr {b o v}(h:bS C (.ptr b o) v):∃r,C.β b=En r/\v=.pointer (En ⟨r,o,E6⟩):=by cases h;exact⟨_,‹_›,rfl⟩
theorem bS.eY {x v}(h:bS C (.aq x) v):∃r o,v=.pointer (En ⟨r,o,E6⟩)/\cD C r x.flat o:=by cases h;exact⟨_,_,rfl,‹_›⟩
theorem bS.eH {cs v}(h:bS C (.agg cs) v):∃vs,v=.agg ⟨vs⟩/\bj C cs vs:=by cases h;exact⟨_,rfl,‹_›⟩
theorem bS.oP {cs v}(h:bS C (.aJ cs) v):∃vs,v=.tuple ⟨vs⟩/\bj C cs vs:=by cases h;exact⟨_,rfl,‹_›⟩
theorem bS.eZ {b o len v}(h:bS C (.ms b o len) v):∃r cap,C.β b=En r/\len<=cap/\v=.slice (En ⟨r,o,E6⟩) len cap:=by cases h;exact⟨_,_,‹_›,‹_›,rfl⟩
theorem bS.cQ {n sz xs v}(h:bS C (.list n sz xs) v):
  (n=Hb/\xs=[]/\v=.slice E6 0 0)\/(n=Ha/\∃r o cap,v=.slice (En ⟨r,o,E6⟩) xs.length cap/\xs.length<=cap/\bB C r sz xs o)\/(n=Ha/\xs=[]/\∃a,a.spot≠E6/\v=.slice (En a) 0 0):=by
 cases h
 .exact .inl ⟨rfl,rfl,rfl⟩
 .exact .inr (.inl ⟨rfl,_,_,_,rfl,‹_›,‹_›⟩)
 .exact .inr (.inr ⟨rfl,rfl,_,‹_›,rfl⟩)
theorem bS.len {n sz xs v}(h:bS C (.list n sz xs) v):∃b cap,v=.slice b xs.length cap:=by
 rcases h.cQ with⟨rfl,rfl,rfl⟩|⟨rfl,r,o,cap,rfl,_,_⟩|⟨rfl,rfl,a,_,rfl⟩
 .exact⟨E6,0,rfl⟩
 .exact⟨_,_,rfl⟩
 .exact⟨_,_,rfl⟩
theorem add_lit (r o n:Nat):(⟨r,o,E6⟩:Addr).add n=⟨r,o+n,E6⟩:=by unfold Addr.add;split<;>simp_all
theorem xR (k:IntKind)(n:Int):qd k n=k.wrap n:=by
 unfold qd
 cases h:si k n with
 |false=>rfl
 |true=>
  simp only[cond_true];symm
  have key:∀m:Nat,IntKind.min k<=n->n<=IntKind.max k->k.wrap n=n:=by
   intro _ Y I;unfold IntKind.wrap;cases k<;>simp[IntKind.bits,IntKind.signed,IntKind.min,IntKind.max]at *<;>omega
  refine key 0 ?_ ?_
  .cases k<;>cases n<;>simp[si,IntKind.min,IntKind.signed,IntKind.bits]at *<;>omega
  .cases k<;>cases n<;>simp[si,IntKind.max,IntKind.signed,IntKind.bits]at *<;>omega
theorem Fy {t:TypeId}{b}(h:y5 P t=En b)(w:World):(isAgg t).run P w=.ok b w:=by
 unfold y5 at h;unfold isAgg
 cases hu:P.underlying t with
 |none=>simp[hu]at h|some d=>rw[hu]at h;simp[run_underlying hu];cases d<;>simp at h<;>subst h<;>rfl
theorem yz {t:TypeId}{n}(h:js P t=En n)(w:World):(sizeOf t).run P w=.ok n w:=by
 unfold js at h
 cases hi:P.info? t with
 |none=>simp[hi]at h|some i=>simp[hi]at h;simp[sizeOf,typeInfo,hi,h]
theorem q7f {t:TypeId}{ag n off cs vs x}(hg:y5 P t=En ag)(hn:js P t=En n)(hp:part ag cs off n=En x)(Q:bj C cs vs)(w:World):
  ∃v,(Go.part t ⟨vs⟩ off).run P w=.ok v w/\bS C x v:=by
 unfold part at hp
 cases ag with
 |true=>
  simp only[cond_true]at hp
  cases hb:Hc (off+n) cs.length with
  |false=>simp[hb]at hp
  |true=>
   simp[hb]at hp;subst hp;refine⟨.agg ⟨(vs.drop off).take n⟩,?_,.agg _ _ ((Q.drop off).take n)⟩;simp[Go.part,Fy hg,yz hn]
 |false=>
  simp only[cond_false]at hp;obtain⟨v,Y,I⟩:=Q.get hp;exact⟨v,by simp[Go.part,Fy hg,Y],I⟩
theorem qsa (a:aj):(⟨⟨a⟩⟩:ByteArray).toList=a:=by
 rw[ByteArray.toList_eq]
end
theorem Tj:∀ {ks:List Kd} {xs ys:List AVal} (HK:List Kd) (fT oQ:List AVal),xs.length=ks.length->ys.length=ks.length ->
  y9 (ks++HK) (xs++fT) (ys++oQ)=match y9 ks xs ys with|some Hb=>y9 HK fT oQ|r=>r
 | [],[],[],HK,fT,oQ,_,_=>by simp[y9]
 |k::ks,x::xs,y::ys,HK,fT,oQ,h,h'=>by
  simp only[List.cons_append,y9]
  cases he:nq k x y with
  |none=>simp
  |some b=>cases b with
   |false=>simp|true=>simpa using Tj HK fT oQ (by simpa using h) (by simpa using h')
 | [],_::_,_,_,_,_,h,_=>by simp at h
 | [],[],_::_,_,_,_,_,h=>by simp at h
 |_::_,[],_,_,_,_,h,_=>by simp at h
 |_::_,_::_,[],_,_,_,_,h=>by simp at h
def um (ag:Bool)(us:List Value):Value:=if ag then .agg ⟨us⟩else us.headD undef
def M5:TypeDesc->Bool
 | .struct _=>Hb| .array _ _=>Hb|_=>Ha
section
variable {P:Program}{C:aQ}
theorem jkc {t:TypeId}{d:TypeDesc}(h:P.underlying t=En d):y5 P t=En (M5 d):=by
 unfold y5;rw[h];cases d<;>rfl
theorem M6 {t:TypeId}{ag n off us}(hg:y5 P t=En ag)(hn:js P t=En n)(Y:ag=Ha->n=1)(hl:off+n<=us.length)(w:World):
  (Go.part t ⟨us⟩ off).run P w=.ok (um ag ((us.drop off).take n)) w:=by
 cases ag with
 |true=>simp[Go.part,Fy hg,yz hn,um]
 |false=>
  obtain rfl:=Y rfl
  have bg:off<us.length:=by omega
  simp only[Go.part,Sem.run_bind,Fy hg,Result.andThen_ok,um,Ij,if_false]
  have e:(⟨us⟩:Array Value)[off]?=En us[off]:=by
   show(List.toArray us)[off]?=_;rw[Iq,List.getElem?_eq_getElem bg]
  rw[e,List.drop_eq_getElem_cons bg];rfl
def Tk (P:Program)(C:aQ)(n:Nat)(t:TypeId)(ks:List Kd):Prop:=
 ∃ag,y5 P t=En ag/\js P t=En ks.length/\(ag=Ha->ks.length=1)/\∀d,n<=d->∀xs ys us vs b w,bj C xs us->bj C ys vs->xs.length=ks.length->ys.length=ks.length->y9 ks xs ys=En b ->
  (Op.equalIn d t (um ag us) (um ag vs)).run P w=.ok b w
theorem M7 {α:Type}(xs:List α)(off n:Nat):xs.drop off=(xs.drop off).take n++xs.drop (off+n):=by
 rw[<-List.drop_drop];exact(List.take_append_drop _ _).symm
theorem qwl {n d}(hd:n<=d):∀(fs:List Field) (off:Nat) (ks:List Kd) (xs ys:List AVal) (us vs:List Value) (b:Bool) (w:World),
  Hy (su P n) off fs=En ks ->
  (∀f∈fs,∀ks,su P n f.type=En ks->Tk P C n f.type ks) ->
  bj C xs us->bj C ys vs->xs.length=off+ks.length->ys.length=off+ks.length->y9 ks (xs.drop off) (ys.drop off)=En b ->
  (Op.eqFields d ⟨us⟩ ⟨vs⟩ fs).run P w=.ok b w
 | [],off,ks,xs,ys,us,vs,b,w,hf,_,M,hy,nT,pJ,he=>by
  simp[Hy]at hf;subst hf;rw[H4 (by simp at nT;omega),H4 (by simp at pJ;omega)]at he;simp[y9]at he;subst he;simp[Op.eqFields]
 |f::fs,off,ks,xs,ys,us,vs,b,w,hf,dF,M,hy,nT,pJ,he=>by
  simp only[Hy]at hf;split at hf
  .rename_i hc;simp at hc;obtain⟨HL,wc⟩:=hc;split at hf
   .rename_i k1 gN;split at hf
    .rename_i k2 dw;cases hf;obtain⟨ag,dh,db,Y,heq⟩:=dF f (by simp) k1 gN;have Tl:=M.length;have wh:=hy.length;simp at nT pJ;have p1:=M6 (P:=P) (us:=us) (off:=f.offset) dh db Y (by omega) w;have p2:=M6 (P:=P) (us:=vs) (off:=f.offset) dh db Y (by omega) w;rw[M7 xs off k1.length,M7 ys off k1.length,Tj _ _ _ (by simp;omega) (by simp;omega)]at he;simp only[Op.eqFields,ne_eq,HL,not_false_eq_true,if_true,Sem.run_bind,p1,p2,Result.andThen_ok];rw[wc]
     cases hb:y9 k1 ((xs.drop off).take k1.length) ((ys.drop off).take k1.length)with
     |none=>rw[hb]at he;cases he
     |some b1=>
      rw[hb]at he;rw[heq d hd _ _ _ _ b1 w ((M.drop off).take _) ((hy.drop off).take _) (by simp;omega) (by simp;omega) hb]
      cases b1 with
      |false=>simp at he;subst he;simp
      |true=>
       simp only[Result.andThen_ok,I3,Ij,if_false];exact qwl hd fs (off+k1.length) k2 xs ys us vs b w dw (fun g hg=>dF g (by simp[hg])) M hy (by omega) (by omega) he
    .cases hf
   .cases hf
  .cases hf
theorem qzw {n d}(hd:n<=d){e:TypeId}{ag k1}(dh:y5 P e=En ag)(db:js P e=En k1.length)(Y:ag=Ha->k1.length=1)
  (heq:∀d,n<=d->∀xs ys us vs b w,bj C xs us->bj C ys vs->xs.length=k1.length->ys.length=k1.length->y9 k1 xs ys=En b->(Op.equalIn d e (um ag us) (um ag vs)).run P w=.ok b w):
  ∀(len i:Nat) (xs ys:List AVal) (us vs:List Value) (b:Bool) (w:World),
  bj C xs us->bj C ys vs->xs.length=i*k1.length+len*k1.length->ys.length=i*k1.length+len*k1.length->y9 (Ib len k1).flatten (xs.drop (i*k1.length)) (ys.drop (i*k1.length))=En b ->
  (Op.eqItems d e k1.length ⟨us⟩ ⟨vs⟩ (List.range' i len)).run P w=.ok b w
 |0,i,xs,ys,us,vs,b,w,M,hy,nT,pJ,he=>by
  rw[H4 (by simp at nT;omega),H4 (by simp at pJ;omega)]at he;simp[y9]at he;subst he;simp[Op.eqItems]
 |len+1,i,xs,ys,us,vs,b,w,M,hy,nT,pJ,he=>by
  have Tl:=M.length;have wh:=hy.length;rw[H9]at nT pJ;have p1:=M6 (P:=P) (us:=us) (off:=i*k1.length) dh db Y (by omega) w;have p2:=M6 (P:=P) (us:=vs) (off:=i*k1.length) dh db Y (by omega) w;rw[List.replicate_succ,List.flatten_cons,M7 xs (i*k1.length) k1.length,M7 ys (i*k1.length) k1.length,Tj _ _ _ (by simp;omega) (by simp;omega)]at he;simp only[List.range'_succ,Op.eqItems,Sem.run_bind,p1,p2,Result.andThen_ok]
  cases hb:y9 k1 ((xs.drop (i*k1.length)).take k1.length) ((ys.drop (i*k1.length)).take k1.length)with
  |none=>rw[hb]at he;cases he
  |some b1=>
   rw[hb]at he;rw[heq d hd _ _ _ _ b1 w ((M.drop _).take _) ((hy.drop _).take _) (by simp;omega) (by simp;omega) hb]
   cases b1 with
   |false=>simp at he;subst he;simp
   |true=>
    simp only[Result.andThen_ok,I3,Ij,if_false];refine qzw hd dh db Y heq len (i+1) xs ys us vs b w M hy (by rw[nT,H9];omega) (by rw[pJ,H9];omega) ?_;rw[H9];exact he
theorem q46 {t:TypeId}{n}(h:js P t=En n):P.cellsOf t=n:=by
 unfold js at h;unfold Program.cellsOf;rw[h];rfl
theorem q40 {t:TypeId}{n}(h:js P t=En n):∃i,P.info? t=En i/\i.size=n:=by
 unfold js at h
 cases hi:P.info? t with
 |none=>simp[hi]at h|some i=>exact⟨i,rfl,by simpa[hi]using h⟩
theorem jaj {k x y b}(h:y9 [k] [x] [y]=En b):nq k x y=En b:=by
 simp only[y9]at h;split at h<;>simp_all
theorem jim {xs us}(h:bj C xs us)(hl:xs.length=1):∃x u,xs=[x]/\us=[u]/\bS C x u:=by
 obtain⟨x,rfl⟩:=List.length_eq_one_iff.1 hl
 cases h with
 |cons _ _ u vs M h=>cases h;exact⟨x,u,rfl,rfl,M⟩
theorem q84 {k x y b u v}(h:nq k x y=En b)(M:bS C x u)(hy:bS C y v):
  match k with
  | .int=>∃kd a c,u=.int kd a/\v=.int kd c/\b=(a == c)| .str=>∃a c:aj,u=.string ⟨⟨a⟩⟩/\v=.string ⟨⟨c⟩⟩/\b=(a == c)
  | .bool=>∃a c,u=.bool a/\v=.bool c/\b=(a == c):=by
 unfold nq at h;split at h
 .rename_i k a k' c;cases M;cases hy;by_cases hk:k=k'
  .subst hk;simp at h;exact⟨_,_,_,rfl,rfl,h.symm⟩
  .simp[hk]at h
 .cases M;cases hy;cases h;exact⟨_,_,rfl,rfl,rfl⟩
 .cases M;cases hy;cases h;exact⟨_,_,rfl,rfl,rfl⟩
 .cases h
theorem q7z {t:TypeId}{k x y b u v}(hk:lA P t=En k)(h:nq k x y=En b)(M:bS C x u)(hy:bS C y v)(d:Nat)(w:World):
  (Op.equalIn (d+1) t u v).run P w=.ok b w:=by
 have hc:=q84 h M hy;unfold lA at hk
 cases hu:P.underlying t with
 |none=>simp[hu]at hk
 |some D=>
  rw[hu]at hk;cases D<;>simp at hk<;>subst hk<;>simp only[]at hc
  .obtain⟨a,c,rfl,rfl,rfl⟩:=hc;exact run_equalIn_bool w d t a c hu
  .obtain⟨kd,a,c,rfl,rfl,rfl⟩:=hc;exact run_equalIn_int w d t kd _ a c hu
  .obtain⟨a,c,rfl,rfl,rfl⟩:=hc;rw[run_equalIn_string w d t _ _ hu,qsa,qsa]
theorem Tm:∀ (n:Nat) (t:TypeId) (ks:List Kd),su P n t=En ks->Tk P C n t ks
 |0,t,ks,h=>by simp[su]at h
 |n+1,t,ks,h=>by
  unfold su at h
  cases hu:P.underlying t with
  |none=>simp[hu]at h
  |some D=>
   rw[hu]at h;have dh:=jkc hu
   have scalar:∀k,ks=[k]->js P t=En 1->lA P t=En k->M5 D=Ha->Tk P C (n+1) t ks:=by
    intro k hks G hk ha;subst hks;refine⟨Ha,by rw[dh,ha],G,fun _=>rfl,?_⟩;intro d hd xs ys us vs b w M hy nT pJ he;obtain⟨d,rfl⟩:∃m,d=m+1:=⟨d-1,by omega⟩;obtain⟨x,u,rfl,rfl,xS⟩:=jim M nT;obtain⟨y,v,rfl,rfl,hy1⟩:=jim hy pJ;exact q7z hk (jaj he) xS hy1 d w
   cases D<;>simp only[]at h<;>first|(simp at h;done)|skip
   case int k=>
    split at h<;>first|cases h|skip
    rename_i G;exact scalar .int rfl (by simpa using G) (by simp[lA,hu]) rfl
   case bool=>
    split at h<;>first|cases h|skip
    rename_i G;exact scalar .bool rfl (by simpa using G) (by simp[lA,hu]) rfl
   case string=>
    split at h<;>first|cases h|skip
    rename_i G;exact scalar .str rfl (by simpa using G) (by simp[lA,hu]) rfl
   case array len e=>
    split at h
    .rename_i k1 gN;split at h
     .rename_i G;cases h;obtain⟨ag,Tn,db,Y,heq⟩:=Tm n e k1 gN
      have hlen:(Ib len k1).flatten.length=len*k1.length:=by simp[List.length_flatten]
      refine⟨Hb,by simpa[M5]using dh,by rw[hlen];simpa using G,(fun h=>by cases h),?_⟩;intro d hd xs ys us vs b w M hy nT pJ he;obtain⟨d,rfl⟩:∃m,d=m+1:=⟨d-1,by omega⟩;obtain⟨i,hi,_⟩:=q40 db;simp only[um,if_true];rw[run_equalIn_array w d _ _ hu hi,q46 db,List.range_eq_range'];exact qzw (by omega) Tn db Y heq len 0 xs ys us vs b w M hy (by rw[nT,hlen];omega) (by rw[pJ,hlen];omega) (by simpa using he)
     .cases h
    .cases h
   case struct fs=>
    split at h
    .rename_i k1 gN;split at h
     .rename_i G;cases h;simp at G;obtain⟨hso,db⟩:=G;refine⟨Hb,by simpa[M5]using dh,db,(fun h=>by cases h),?_⟩;intro d hd xs ys us vs b w M hy nT pJ he;obtain⟨d,rfl⟩:∃m,d=m+1:=⟨d-1,by omega⟩;simp only[um,if_true]
      have hf:P.fieldsOf t=fs:=by simp[Program.fieldsOf,hu]
      rw[run_equalIn_struct w d t _ _ (by rw[hf];exact hu) hso,hf];exact qwl (n:=n) (by omega) fs.toList 0 _ xs ys us vs b w gN (fun f _ ks hp=>Tm n f.type ks hp) M hy (by omega) (by omega) (by simpa using he)
     .cases h
    .cases h
end
section
variable {P:Program}{C:aQ}{w:World}{env:Env}{a:Act}{o:Oper}
def Val (P:Program)(C:aQ)(a:Act)(o:Oper)(w:World)(x:AVal):Prop:=∃v,(execOp a.eval o).run P w=.ok (.value v) w/\bS C x v
theorem jqc {x y v}(he:bz C env a.tmps)(ho:o.op=.move x\/o.op=.assign x)(hc:qq x=En y)(hv:qh env y=En v):Val P C a o w v:=by
 refine⟨a.eval x,?_,qt he hc hv⟩;rcases ho with ho|ho<;>simp[execOp,ho]
theorem jqd {c x y c' x' y' b u v}(he:bz C env a.tmps)(ho:o.op=.pick c x y)(Y:qq c=En c')(I:qq x=En x')(h3:qq y=En y')
  (e1:qh env c'=En (.bool b)) (e2:qh env x'=En u) (e3:qh env y'=En v):Val P C a o w (bif b then u else v):=by
 have r1:=(qt he Y e1).dq;have r2:=qt he I e2;have r3:=qt he h3 e3;refine⟨if b then a.eval x else a.eval y,by simp[execOp,ho,r1,asBool],?_⟩;cases b<;>simpa
theorem qsh {x y v}(he:bz C env a.tmps)(ho:o.op=.nilCheck x)(hc:qq x=En y)(hv:qh env y=En v)
  (hk:(∃b p,v=.ptr b p)\/(∃z,v=.aq z)):Val P C a o w v:=by
 have r:=qt he hc hv;rcases hk with⟨b,p,rfl⟩|⟨z,rfl⟩
 .obtain⟨q,_,hq⟩:=r.dr;exact⟨a.eval x,by simp[execOp,ho,hq],r⟩
 .obtain⟨q,p,hq,_⟩:=r.eY;exact⟨a.eval x,by simp[execOp,ho,hq],r⟩
theorem Tp (op:BinOp)(k:IntKind)(x y:Int)(t:TypeId)(Y:op≠.shl)(I:op≠.shr):binOp op t (.int k x) (.int k y)=match op with
  | .add | .sub | .mul=>Op.intArith op k x y| .quo | .rem=>Op.intDiv op k x y| .and | .or | .xor | .andNot=>Op.intBits op k x y
  |_=>Op.intCmp op x y:=by
 cases op<;>simp at Y I<;>simp[binOp]
theorem jfn {op k x y v}(h:nO op k x y=En v)(t:TypeId)(w:World):∃u,(binOp op t (.int k x) (.int k y)).run P w=.ok u w/\bS C v u:=by
 unfold nO at h
 cases op<;>simp only[]at h<;>first|(cases h;done)|skip
 case quo=>
  cases hy:(y == 0)with
  |true=>simp[hy]at h
  |false=>
   simp[hy]at h;subst h
   have:y≠0:=by simpa using hy
   rw[xR,Tp _ _ _ _ _ (by simp) (by simp)];refine⟨_,?_,.int _ _⟩;simp[Op.intDiv,this]
 case rem=>
  cases hy:(y == 0)with
  |true=>simp[hy]at h
  |false=>
   simp[hy]at h;subst h
   have:y≠0:=by simpa using hy
   rw[Tp _ _ _ _ _ (by simp) (by simp)];refine⟨_,?_,.int _ _⟩;simp[Op.intDiv,this]
 all_goals (cases h;rw[Tp _ _ _ _ _ (by simp) (by simp)];try rw[xR])
 all_goals first
  |exact⟨_,rfl,.int _ _⟩
  |exact⟨_,rfl,.bool _⟩
theorem qss:∀ (x y:aj),bytesLess x y=Op.bytesLess x y
 |x,[]=>by cases x<;>rfl
 | [],_::_=>rfl
 |a::x,b::y=>by simp only[bytesLess,Op.bytesLess,qss x y]
theorem jd3 {op x y v}(h:Fo op x y=En v)(t:TypeId)(w:World):∃u,(binOp op t (.string ⟨⟨x⟩⟩) (.string ⟨⟨y⟩⟩)).run P w=.ok u w/\bS C v u:=by
 unfold Fo at h
 cases op<;>simp only[]at h<;>first|(cases h;done)|skip
 .cases hb:Hc (x.length+y.length) 4611686018427387904 with
  |false=>simp[hb]at h
  |true=>
   simp[hb]at h;subst h;have hle:x.length+y.length<=4611686018427387904:=Ic hb;refine⟨.string ⟨⟨x++y⟩⟩,?_,.str _⟩;have e1:(⟨⟨x⟩⟩:ByteArray).size=x.length:=rfl;have e2:(⟨⟨y⟩⟩:ByteArray).size=y.length:=rfl
   have e3:(⟨⟨x⟩⟩:ByteArray)++⟨⟨y⟩⟩=⟨⟨x++y⟩⟩:=by
    apply ByteArray.ext;simp[ByteArray.data_append]
   simp only[binOp,Op.stringOp,e1,e2,e3,IntKind.max,IntKind.signed,IntKind.bits];rw[if_neg (by simp;omega)];rfl
 all_goals (cases h;refine⟨_,?_,.bool _⟩;simp[binOp,Op.stringOp,qss])
theorem jf8 {op x y v u u'}(h:yf op x y=En v)(M:bS C x u)(hy:bS C y u')(t:TypeId)(w:World):∃z,(binOp op t u u').run P w=.ok z w/\bS C v z:=by
 unfold yf at h;split at h
 .rename_i k a k' b;obtain rfl:=M.bU;obtain rfl:=hy.bU
  have hsh:∀(op:BinOp),(op=.shl\/op=.shr)->MV op k a b=En v->∃z,(binOp op t (.int k a) (.int k' b)).run P w=.ok z w/\bS C v z:=by
   intro op hop h;unfold MV at h
   cases hb:decide (b<0)with
   |true=>simp[hb]at h
   |false=>
    have fq:¬b<0:=by simpa using hb
    rcases hop with rfl|rfl<;>simp[hb]at h<;>subst h
    .rw[xR]; (refine⟨_,?_,.int _ _⟩;simp[binOp,Op.shift,fq])
    ·(refine⟨_,?_,.int _ _⟩;simp[binOp,Op.shift,fq])
  have hin:op≠.shl->op≠.shr->(bif decide (k=k')then nO op k a b else E6)=En v->∃z,(binOp op t (.int k a) (.int k' b)).run P w=.ok z w/\bS C v z:=by
   intro _ _ h;by_cases hk:k=k'
   .subst hk;simp at h;exact jfn h t w
   .simp[hk]at h
  cases op<;>simp only[]at h<;>first|exact hsh _ (.inl rfl) h|exact hsh _ (.inr rfl) h|exact hin (by simp) (by simp) h
 .obtain rfl:=M.cz;obtain rfl:=hy.cz;exact jd3 h t w
 .cases h
theorem jat (op:BinOp)(t:TypeId)(x y:Operand)(u v:Value)(w:World)(Y:¬(u=.nilIface/\v=.nilIface))(I:(∀cs,u≠.agg cs)\/P.eqGuardType P.depth t=Ha):(eqGuard op t x y u v).run P w=.ok () w:=by
 unfold eqGuard;by_cases hop:(!(match op with | .eql | .neq=>Hb|_=>Ha))=Hb
 .cases op<;>simp_all
 .cases op<;>simp at hop ⊢
  all_goals (
   split
   ·exact absurd ⟨rfl,rfl⟩ Y
   ·rcases I with I|I
    ·rename_i cs _ ;exact absurd rfl (I cs)
    ·simp[I]
   ·rfl)
theorem M8 {op}{t u:TypeId}{x y p q z}(ho:o.op=.binOp op t x y u)(M:a.eval x=p)(hy:a.eval y=q)(Y:¬(p=.nilIface/\q=.nilIface))(I:(∀cs,p≠.agg cs)\/P.eqGuardType P.depth t=Ha)
  (hz:(binOp op t p q).run P w=.ok z w):(execOp a.eval o).run P w=.ok (.value z) w:=by
 have hg:=jat (P:=P) op t x y p q w Y I;subst M;subst hy;simp only[execOp,ho,Sem.run_bind,hg,Result.andThen_ok,hz,Sem.run_pure]
theorem q5c {x v}(h:bS C x v)(M:x≠.undef)(hy:x≠.any:=by simp):v≠.nilIface:=by
 cases h<;>simp at M hy ⊢
theorem q45 {op x y v}(h:yf op x y=En v):(x≠.undef/\(∀cs,x≠.agg cs)/\x≠.any):=by
 unfold yf at h;split at h<;>simp at h ⊢
theorem jbj {x v}(h:bS C x v)(M:x≠.undef)(ha:∀cs,x≠.agg cs)(hy:x≠.any:=by simp):∀cs,v≠.agg cs:=by
 cases h<;>simp at M ha hy ⊢
theorem jr2 {op}{t u:TypeId}{x y x' y' p q v}(he:bz C env a.tmps)(ho:o.op=.binOp op t x y u)(Y:qq x=En x')(I:qq y=En y')
  (e1:qh env x'=En p) (e2:qh env y'=En q) (hv:yf op p q=En v):Val P C a o w v:=by
 have r1:=qt he Y e1;have r2:=qt he I e2;obtain⟨hn,ha,hy⟩:=q45 hv;obtain⟨z,hz,Q⟩:=jf8 (P:=P) hv r1 r2 t w;refine⟨z,?_,Q⟩;exact M8 ho rfl rfl (fun h=>q5c r1 hn hy h.1) (.inl (jbj r1 hn ha hy)) hz
theorem Tq {neq}{t:TypeId}{u v b}(w:World)(hu:(∀k n,u≠.int k n)/\(∀s,u≠.string s)/\(∀k n,u≠.float k n)/\(∀k n m,u≠.complex k n m))
  (h:(Op.equal t u v).run P w=.ok b w):(binOp (if neq then .neq else .eql) t u v).run P w=.ok (.bool (bif neq then !b else b)) w:=by
 obtain⟨Y,I,h3,h4⟩:=hu;cases neq<;>cases u<;>simp_all [binOp]
theorem ju5 {op neq}{t u:TypeId}{x y x' y' p q ks b}(he:bz C env a.tmps)(ho:o.op=.binOp op t x y u)(hop:op=if neq then .neq else .eql)
  (Y:qq x=En x') (I:qq y=En y') (e1:qh env x'=En (.agg p)) (e2:qh env y'=En (.agg q)) (hg:P.eqGuardType P.depth t=Ha) (hk:su P MY t=En ks) (dh:y5 P t=En Hb)
  (dQ:p.length=ks.length) (dW:q.length=ks.length) (hb:y9 ks p q=En b):Val P C a o w (.bool (bif neq then !b else b)):=by
 obtain⟨us,hu,ru⟩:=(qt he Y e1).eH;obtain⟨vs,hv,rv⟩:=(qt he I e2).eH;obtain⟨ag,ha,_,_,heq⟩:=Tm (C:=C) MY t ks hk;rw[dh]at ha;cases ha;have hq:=heq 10000 (by decide) p q us vs b w ru rv dQ dW hb;simp only[um,if_true]at hq;refine⟨_,?_,.bool _⟩;have sA:=Tq (P:=P) (neq:=neq) (t:=t) (u:=.agg ⟨us⟩) (v:=.agg ⟨vs⟩) (b:=b) w ⟨by simp,by simp,by simp,by simp⟩ hq;exact M8 (hop▸ho) hu hv (by simp) (.inr hg) sA
theorem juc {op neq}{t u:TypeId}{x y x' y' p q}(he:bz C env a.tmps)(ho:o.op=.binOp op t x y u)(hop:op=if neq then .neq else .eql)
  (Y:qq x=En x') (I:qq y=En y') (e1:qh env x'=En (.bool p)) (e2:qh env y'=En (.bool q)) (ht:P.underlying t=En .bool):Val P C a o w (.bool (bif neq then !(p == q)else p == q)):=by
 have hu:=(qt he Y e1).dq;have hv:=(qt he I e2).dq;refine⟨_,?_,.bool _⟩;have sA:=Tq (P:=P) (neq:=neq) (t:=t) (u:=.bool p) (v:=.bool q) (b:=p == q) w ⟨by simp,by simp,by simp,by simp⟩ (run_equalIn_bool w 9999 t p q ht);exact M8 (hop▸ho) hu hv (by simp) (.inl (by simp)) sA
theorem jit {op neq b}{t u:TypeId}{x y c}(ho:o.op=.binOp op t x y u)(hop:op=if neq then .neq else .eql)
  (hy:a.eval y=c) (bG:(∀k n,a.eval x≠.int k n)/\(∀s,a.eval x≠.string s)/\(∀k n,a.eval x≠.float k n)/\(∀k n m,a.eval x≠.complex k n m)) (dh:∀cs,a.eval x≠.agg cs) (HM:a.eval x≠.nilIface)
  (h:(Op.equal t (a.eval x) c).run P w=.ok b w):Val P C a o w (.bool (bif neq then !b else b)):=by
 refine⟨_,?_,.bool _⟩;have sA:=Tq (P:=P) (neq:=neq) w bG h;exact M8 (hop▸ho) rfl hy (fun h=>HM h.1) (.inl dh) sA
theorem j2f {op}{t:TypeId}{x x' p v}(he:bz C env a.tmps)(ho:o.op=.unOp op t x)(Y:qq x=En x')(e1:qh env x'=En p)(hv:xG op p=En v):Val P C a o w v:=by
 have r1:=qt he Y e1;unfold xG at hv;split at hv
 .obtain hu:=r1.bU;cases hv;rw[xR]
  (refine⟨_,?_,.int _ _⟩;simp[execOp,ho,hu,Op.unary,Op.intArith])
 .obtain hu:=r1.dq;cases hv
  (refine⟨_,?_,.bool _⟩;simp[execOp,ho,hu,Op.unary])
 .cases hv
theorem jo4 {s d:TypeId}{k k0 x x' k1 n}(he:bz C env a.tmps)(ho:o.op=.convert s d x)(G:P.underlying s=En (.int k0))(hd:P.underlying d=En (.int k))
  (Y:qq x=En x') (e1:qh env x'=En (.int k1 n)):Val P C a o w (.int k (qd k n)):=by
 have hu:=(qt he Y e1).bU;rw[xR]
 (refine⟨_,?_,.int _ _⟩;simp[execOp,ho,hu,convert,run_underlying G,run_underlying hd,Conv.intToInt])
theorem jam {s d:TypeId}{x x' v}(he:bz C env a.tmps)(ho:o.op=.convert s d x)(G:P.underlying s=En .string)(hd:P.underlying d=En .string)
  (Y:qq x=En x') (e1:qh env x'=En v) (hv:∃l,v=.str l):Val P C a o w v:=by
 obtain⟨l,rfl⟩:=hv;have r:=qt he Y e1;have hu:=r.cz;exact⟨_,by simp[execOp,ho,hu,convert,run_underlying G,run_underlying hd];rfl,by rw[<-hu];exact r⟩
theorem jab {s d:TypeId}{x x' v k0}(he:bz C env a.tmps)(ho:o.op=.convert s d x)(G:P.underlying s=En (.int k0))(hd:P.underlying d=En .string)
  (Y:qq x=En x') (e1:qh env x'=En v) (hv:∃l,v=.str l):Val P C a o w v:=by
 obtain⟨l,rfl⟩:=hv;have r:=qt he Y e1;have hu:=r.cz;exact⟨_,by simp[execOp,ho,hu,convert,run_underlying G,run_underlying hd];rfl,by rw[<-hu];exact r⟩
theorem ja8 {s d:TypeId}{x x' k0 k1 n}(he:bz C env a.tmps)(ho:o.op=.convert s d x)(G:P.underlying s=En (.int k0))(hd:P.underlying d=En .string)
  (Y:qq x=En x') (e1:qh env x'=En (.int k1 n)):Val P C a o w (.str (Utf8.encode n).data.toList):=by
 have hu:=(qt he Y e1).bU;exact⟨.string (Utf8.encode n),by simp[execOp,ho,hu,convert,run_underlying G,run_underlying hd,Conv.intToString],.str _⟩
theorem q9q {s d:TypeId}{x x' k1 n}(he:bz C env a.tmps)(ho:o.op=.convert s d x)(G:P.underlying s=En .string)(hd:P.underlying d=En .string)
  (Y:qq x=En x') (e1:qh env x'=En (.int k1 n)):Val P C a o w (.str (Utf8.encode n).data.toList):=by
 have hu:=(qt he Y e1).bU;exact⟨.string (Utf8.encode n),by simp[execOp,ho,hu,convert,run_underlying G,run_underlying hd,Conv.intToString],.str _⟩
theorem jhf {t:TypeId}{x x' i fs f ag n cs v}(he:bz C env a.tmps)(ho:o.op=.field t x i)(ht:P.underlying t=En (.struct fs))(hf:fs[i]?=En f)
  (dh:y5 P f.type=En ag) (hn:js P f.type=En n) (Y:qq x=En x') (e1:qh env x'=En (.agg cs)) (hv:Abs.part ag cs f.offset n=En v):Val P C a o w v:=by
 obtain⟨us,hu,ru⟩:=(qt he Y e1).eH;obtain⟨z,hz,Q⟩:=q7f dh hn hv ru w;refine⟨z,?_,Q⟩;simp[execOp,ho,hu,Instr.field,run_underlying ht,hf,asAgg,hz]
theorem HO {n v j}(h:idx n v=En j):∃k,v=.int k (j:Int)/\j<n:=by
 unfold idx at h;split at h
 .rename_i k i
  cases hb:H3 i n with
  |false=>simp[hb]at h
  |true=>
   simp[hb]at h;subst h;exact⟨k,rfl,by have:=Ic hb;omega⟩
 .cases h
theorem jkb {n v j}(h:Ay n v=En j):∃k,v=.int k (j:Int)/\j<=n:=by
 unfold Ay at h;split at h
 .rename_i k i
  cases hb:Hc i n with
  |false=>simp[hb]at h
  |true=>
   simp[hb]at h;subst h;exact⟨k,rfl,Ic hb⟩
 .cases h
theorem ji1 {t e:TypeId}{x i x' i' len n ag cs iv v j}(he:bz C env a.tmps)(ho:o.op=.index t x i)(ht:P.underlying t=En (.array len e))
  (dh:y5 P e=En ag) (hn:js P e=En n) (Y:qq x=En x') (I:qq i=En i') (e1:qh env x'=En (.agg cs)) (e2:qh env i'=En iv) (hj:idx len iv=En j) (hv:Abs.part ag cs (j*n) n=En v):Val P C a o w v:=by
 obtain⟨us,hu,ru⟩:=(qt he Y e1).eH;obtain⟨k,rfl,bg⟩:=HO hj;have hi:=(qt he I e2).bU;obtain⟨z,hz,Q⟩:=q7f dh hn hv ru w;refine⟨z,?_,Q⟩;simp[execOp,ho,hu,hi,Instr.index,asIntOf,run_underlying ht,bg,yz hn,hz]
theorem q6n {t:TypeId}{x i x' i' s iv j c}(he:bz C env a.tmps)(ho:o.op=.index t x i)(ht:P.underlying t=En .string)
  (Y:qq x=En x') (I:qq i=En i') (e1:qh env x'=En (.str s)) (e2:qh env i'=En iv) (hj:idx s.length iv=En j) (hc:s[j]?=En c):Val P C a o w (.int .u8 c.toNat):=by
 have hu:=(qt he Y e1).cz;obtain⟨k,rfl,bg⟩:=HO hj;have hi:=(qt he I e2).bU;refine⟨_,?_,.int _ _⟩
 have hb:(⟨⟨s⟩⟩:ByteArray)[j]?=En c:=by
  rw[getElem?_pos (ByteArray.mk ⟨s⟩) j bg];exact congrArg En (Il.1 hc).2
 simp[execOp,ho,hu,hi,Instr.index,asIntOf,run_underlying ht,hb]
end
section
variable {P:Program}{C:aQ}{w:World}{env:Env}{a:Act}{o:Oper}
theorem qcg {z:AVal}(h:z.isAgg=Ha):z.flat=[z]:=by cases z<;>simp[AVal.isAgg,AVal.flat]at *
theorem jcz {ag:Bool}{cs off n r q z}(hc:cD C r cs q)(hz:Abs.part ag cs off n=En z)(M:Ik ag z.isAgg=Ha):cD C r z.flat (q+off):=by
 unfold Abs.part at hz
 cases ag with
 |true=>
  simp only[cond_true]at hz
  cases hb:Hc (off+n) cs.length with
  |false=>simp[hb]at hz|true=>simp[hb]at hz;subst hz;exact cD.take n (cD.drop off hc)
 |false=>
  simp only[cond_false]at hz;rw[qcg (by simpa using M)];obtain⟨u,Y,I⟩:=hc.get hz;exact .dz _ _ _ _ u Y I (.ik _ _)
theorem qr7 {t:TypeId}{x x' i fs f ag n p v}(he:bz C env a.tmps)(ho:o.op=.fieldAddr t x i)(ht:P.underlying t=En (.struct fs))(hf:fs[i]?=En f)
  (hn:js P f.type=En n) (AR:0<n) (Y:qq x=En x') (e1:qh env x'=En p)
  (hv:(∃b q,p=.ptr b q/\v=.ptr b (q+f.offset))\/(∃cs z,p=.aq (.agg cs)/\Abs.part ag cs f.offset n=En z/\Ik ag z.isAgg=Ha/\v=.aq z)):Val P C a o w v:=by
 have bF:∀r q,a.eval x=.pointer (En ⟨r,q,E6⟩)->(execOp a.eval o).run P w=.ok (.value (.pointer (En ⟨r,q+f.offset,E6⟩))) w:=by
  intro r q hq;simp[execOp,ho,Instr.fieldAt,run_underlying ht,hf,hq,Instr.sureAddr,fieldPlace,yz hn,Nat.pos_iff_ne_zero.1 AR,add_lit]
 rcases hv with⟨b,q,rfl,rfl⟩|⟨cs,z,rfl,hz,M,rfl⟩
 .obtain⟨r,Q,hq⟩:=(qt he Y e1).dr;exact⟨_,bF r q hq,.ptr _ _ _ Q⟩
 .obtain⟨r,q,hq,hc⟩:=(qt he Y e1).eY;exact⟨_,bF r q hq,.aq _ _ _ (jcz hc hz M)⟩
theorem qr0 {t e:TypeId}{x i x' i' sz p iv v}(he:bz C env a.tmps)(ho:o.op=.indexAddr t x i)(ht:P.underlying t=En (.slice e))
  (hn:js P e=En sz) (Y:qq x=En x') (I:qq i=En i') (e1:qh env x'=En p) (e2:qh env i'=En iv)
  (hv:(∃b q len j,p=.ms b q len/\idx len iv=En j/\v=.ptr b (q+j*sz))\/(∃nl xs z j,p=.list nl sz xs/\idx xs.length iv=En j/\xs[j]?=En z/\v=.aq z)):Val P C a o w v:=by
 have bF:∀r q len cap j,a.eval x=.slice (En ⟨r,q,E6⟩) len cap->idx len iv=En j->(execOp a.eval o).run P w=.ok (.value (.pointer (En ⟨r,q+j*sz,E6⟩))) w:=by
  intro r q len cap j hq hj;obtain⟨k,rfl,bg⟩:=HO hj;have hi:=(qt he I e2).bU;simp[execOp,ho,Instr.indexAt,run_underlying ht,hq,hi,asIntOf,yz hn,bg,add_lit]
 rcases hv with⟨b,q,len,j,rfl,hj,rfl⟩|⟨nl,xs,z,j,rfl,hj,hz,rfl⟩
 .obtain⟨r,cap,Q,_,hq⟩:=(qt he Y e1).eZ;exact⟨_,bF r q len cap j hq hj,.ptr _ _ _ Q⟩
 .rcases(qt he Y e1).cQ with⟨rfl,rfl,hq⟩|⟨rfl,r,q,cap,hq,_,cY⟩|⟨rfl,rfl,_⟩
  .simp at hz
  .exact⟨_,bF r q _ cap j hq hj,.aq _ _ _ (cY.get hz)⟩
  .simp at hz
theorem qs5 {t e:TypeId}{x i x' i' len sz ag p iv v j}(he:bz C env a.tmps)(ho:o.op=.indexAddr t x i)(ht:P.underlying t=En (.array len e))
  (hn:js P e=En sz) (Y:qq x=En x') (I:qq i=En i') (e1:qh env x'=En p) (e2:qh env i'=En iv) (hj:idx len iv=En j)
  (hv:(∃b q,p=.ptr b q/\v=.ptr b (q+j*sz))\/(∃cs z,p=.aq (.agg cs)/\Abs.part ag cs (j*sz) sz=En z/\Ik ag z.isAgg=Ha/\v=.aq z)):Val P C a o w v:=by
 have bF:∀r q,a.eval x=.pointer (En ⟨r,q,E6⟩)->(execOp a.eval o).run P w=.ok (.value (.pointer (En ⟨r,q+j*sz,E6⟩))) w:=by
  intro r q hq;obtain⟨k,rfl,bg⟩:=HO hj;have hi:=(qt he I e2).bU;simp[execOp,ho,Instr.indexAt,run_underlying ht,hq,hi,asIntOf,Instr.sureAddr,yz hn,bg,add_lit]
 rcases hv with⟨b,q,rfl,rfl⟩|⟨cs,z,rfl,hz,M,rfl⟩
 .obtain⟨r,Q,hq⟩:=(qt he Y e1).dr;exact⟨_,bF r q hq,.ptr _ _ _ Q⟩
 .obtain⟨r,q,hq,hc⟩:=(qt he Y e1).eY;exact⟨_,bF r q hq,.aq _ _ _ (jcz hc hz M)⟩
theorem M9 {x x' d n j}(he:bz C env a.tmps)(hc:nQ x=En x')(hb:fG env d n x'=En j):
  (x=E6/\j=d)\/(∃y k,x=En y/\a.eval y=.int k (j:Int)/\j<=n):=by
 cases x with
 |none=>simp[nQ]at hc;subst hc;simp[fG]at hb;exact .inl ⟨rfl,hb.symm⟩
 |some x=>
  simp only[nQ]at hc;split at hc
  .rename_i z hz;cases hc;simp only[fG]at hb;split at hb
   .rename_i v hv;obtain⟨k,rfl,hle⟩:=jkb hb;exact .inr ⟨x,k,rfl,(qt he hz hv).bU,hle⟩
   .cases hb
  .cases hc
theorem Na {lo hi mJ gg len cap i j isS}(he:bz C env a.tmps)(Y:nQ lo=En mJ)(I:nQ hi=En gg)(b2:fG env len len gg=En j)(b1:fG env 0 j mJ=En i)(hc:len<=cap)(w:World):
  (Instr.sliceBounds isS len cap (lo.map a.eval) (hi.map a.eval) E6).run P w=.ok (i,j,cap) w/\i<=j/\j<=len:=by
 have k2:j<=len:=by
  rcases M9 he I b2 with⟨_,rfl⟩|⟨_,_,_,_,h⟩
  .exact Ia _
  .exact h
 have k1:i<=j:=by
  rcases M9 he Y b1 with⟨_,rfl⟩|⟨_,_,_,_,h⟩
  .exact Nat.zero_le _
  .exact h
 refine⟨?_,k1,k2⟩
 have hj:j<=cap:=by omega
 rcases M9 he I b2 with⟨rfl,rfl⟩|⟨y,k,rfl,hy,_⟩<;>rcases M9 he Y b1 with⟨rfl,rfl⟩|⟨z,k',rfl,hz,_⟩
 .simp[Instr.sliceBounds]
 .simp[Instr.sliceBounds,hz,Instr.sliceBound,asIntOf,k1]
 .simp[Instr.sliceBounds,hy,Instr.sliceBound,asIntOf,hj]
 .simp[Instr.sliceBounds,hy,hz,Instr.sliceBound,asIntOf,hj,k1]
theorem q3y {t e:TypeId}{x lo hi x' mJ gg sz i j p v}(he:bz C env a.tmps)(ho:o.op=.slice t x lo hi E6)(ht:P.underlying t=En (.slice e))
  (hn:js P e=En sz) (Y:qq x=En x') (I:nQ lo=En mJ) (h3:nQ hi=En gg) (e1:qh env x'=En p)
  (hv:(∃b q len,p=.ms b q len/\fG env len len gg=En j/\fG env 0 j mJ=En i/\(i=0\/i<j)/\v=.ms b (q+i*sz) (j-i)) \/
   (∃nl df xs,p=.list nl df xs/\(sz=df\/xs=[])/\fG env xs.length xs.length gg=En j/\fG env 0 j mJ=En i/\v=.list nl df ((xs.take j).drop i))):Val P C a o w v:=by
 have bF:∀b len cap,a.eval x=.slice b len cap->len<=cap->fG env len len gg=En j->fG env 0 j mJ=En i ->
   (execOp a.eval o).run P w=.ok (.value (.slice (if cap=i then b else b.map (·.add (i*sz))) (j-i) (cap-i))) w/\i<=j/\j<=len:=by
  intro b len cap hq hle b2 b1;obtain⟨hb,k1,k2⟩:=Na (P:=P) (isS:=true) he I h3 b2 b1 hle w;refine⟨?_,k1,k2⟩;simp[execOp,ho,Instr.sliceAt,Instr.slice,run_underlying ht,hq,hb,yz hn]
 rcases hv with⟨b,q,len,rfl,b2,b1,wi,rfl⟩|⟨nl,df,xs,rfl,db,b2,b1,rfl⟩
 .obtain⟨r,cap,Q,hle,hq⟩:=(qt he Y e1).eZ;obtain⟨hw,k1,k2⟩:=bF _ len cap hq hle b2 b1;refine⟨_,hw,?_⟩;by_cases hc:cap=i
  .rw[if_pos hc]
   obtain rfl:i=0:=by omega
   simpa using aM.ms b q (j-0) r (cap-0) Q (by omega)
  .rw[if_neg hc];simp only[I1,add_lit];exact .ms _ _ _ _ _ Q (by omega)
 .rcases(qt he Y e1).cQ with⟨rfl,rfl,hq⟩|⟨rfl,r,q,cap,hq,hle,cY⟩|⟨rfl,rfl,ad,kQ,hq⟩
  .obtain⟨hw,k1,k2⟩:=bF _ 0 0 hq (Ia _) b2 b1;simp at k2;obtain rfl:=k2
   obtain rfl:i=0:=by omega
   exact⟨_,hw,by simpa using aM.jV df⟩
  .obtain⟨hw,k1,k2⟩:=bF _ _ cap hq hle b2 b1;refine⟨_,hw,?_⟩
   have hl:((xs.take j).drop i).length=j-i:=by simp;omega
   rw[<-hl];by_cases hc:cap=i
   .rw[if_pos hc];have lC:(xs.take j).drop i=[]:=H4 (by simp;omega);rw[lC];exact .list _ _ _ _ _ (by simp) (.fO _ _ _)
   .rw[if_neg hc];simp only[I1,add_lit];refine .list _ _ _ _ _ (by rw[hl];omega) ?_;rcases db with rfl|rfl
    .exact bB.drop i (bB.take j cY)
    .simpa using aM.fO _ _ _
  .obtain⟨hw,k1,k2⟩:=bF _ 0 0 hq (Ia _) b2 b1;simp at k2;obtain rfl:=k2
   obtain rfl:i=0:=by omega
   exact⟨_,hw,by simpa using aM.jW df ad kQ⟩
theorem q6z {t e:TypeId}{x lo hi x' mJ gg len sz i j b q}(he:bz C env a.tmps)(ho:o.op=.slice t x lo hi E6)(ht:P.underlying t=En (.array len e))
  (hn:js P e=En sz) (Y:qq x=En x') (I:nQ lo=En mJ) (h3:nQ hi=En gg) (e1:qh env x'=En (.ptr b q)) (b2:fG env len len gg=En j) (b1:fG env 0 j mJ=En i) (wi:i=0\/i<j):Val P C a o w (.ms b (q+i*sz) (j-i)):=by
 obtain⟨r,Q,hq⟩:=(qt he Y e1).dr;obtain⟨hb,k1,k2⟩:=Na (P:=P) (isS:=false) he I h3 b2 b1 (Ia len) w;refine⟨_,by simp[execOp,ho,Instr.sliceAt,Instr.sureAddr,run_underlying ht,hq,hb,yz hn];rfl,?_⟩;by_cases hc:len=i
 .rw[if_pos hc]
  obtain rfl:i=0:=by omega
  simpa using aM.ms b q (j-0) r (len-0) Q (by omega)
 .rw[if_neg hc];simp only[add_lit];exact .ms _ _ _ _ _ Q (by omega)
theorem q5h (s:aj)(i j:Nat):(⟨⟨s⟩⟩:ByteArray).extract i j=⟨⟨(s.take j).drop i⟩⟩:=by
 apply ByteArray.ext;rw[ByteArray.data_extract];apply Ip;simp[List.extract_eq_take_drop,List.drop_take]
theorem q6p {t:TypeId}{x lo hi x' mJ gg i j s}(he:bz C env a.tmps)(ho:o.op=.slice t x lo hi E6)(ht:P.underlying t=En .string)
  (Y:qq x=En x') (I:nQ lo=En mJ) (h3:nQ hi=En gg) (e1:qh env x'=En (.str s)) (b2:fG env s.length s.length gg=En j) (b1:fG env 0 j mJ=En i):Val P C a o w (.str ((s.take j).drop i)):=by
 have hq:=(qt he Y e1).cz;obtain⟨hb,k1,k2⟩:=Na (P:=P) (isS:=false) he I h3 b2 b1 (Ia s.length) w;have db:(⟨⟨s⟩⟩:ByteArray).size=s.length:=rfl;refine⟨.string ⟨⟨(s.take j).drop i⟩⟩,?_,.str _⟩;simp[execOp,ho,Instr.sliceAt,Instr.slice,run_underlying ht,hq,db,hb,q5h]
theorem jdt {k xs ys fT oQ us vs}(he:bz C env a.tmps)(ho:o.op=.makeFunc (.func k) xs ys)(Y:ri xs.toList=En fT)(I:ri ys.toList=En oQ)(e1:gJ env fT=En us)(e2:gJ env oQ=En vs):
  Val P C a o w (.fn (.func k) us vs):=by
 refine⟨.func (.func k) (xs.map a.eval) (ys.map a.eval),by simp[execOp,ho,Instr.makeFunc],?_⟩;have r1:=Fx he Y e1;have r2:=Fx he I e2
 have q1:xs.map a.eval=⟨xs.toList.map a.eval⟩:=by apply Ip;simp
 have q2:ys.map a.eval=⟨ys.toList.map a.eval⟩:=by apply Ip;simp
 rw[q1,q2];exact .fn _ _ _ _ _ _ rfl r1 r2
theorem Tr {c x}{t:TypeId}{x' p n}(he:bz C env a.tmps)(ho:o.op=.call c)(ea:c.callee=.builtin .len)(ep:c.args.toList=[x])(eQ:c.argTypes.toList=[t])
  (Y:qq x=En x') (e1:qh env x'=En p)
  (hv:(P.underlying t=En .string/\∃s,p=.str s/\n=s.length)\/((∃e,P.underlying t=En (.slice e))/\((∃nl sz xs,p=.list nl sz xs/\n=xs.length)\/(∃b q,p=.ms b q n)))):Val P C a o w (.int .i64 n):=by
 have ha:c.args=#[x]:=by apply Ip;simpa using ep
 have mK:c.argTypes=#[t]:=by apply Ip;simpa using eQ
 refine⟨.int .i64 n,?_,.int _ _⟩;simp only[execOp,ho,resolve,ea,ha,mK,Sem.run_bind,Sem.run_pure,Result.andThen_ok,invoke,builtin,Builtin.len_];rcases hv with⟨ht,s,rfl,rfl⟩|⟨⟨e,ht⟩,⟨nl,sz,xs,rfl,rfl⟩|⟨b,q,rfl⟩⟩
 .have hq:=(qt he Y e1).cz;simp[run_underlying ht,hq,goInt];rfl
 .obtain⟨b,cap,hq⟩:=(qt he Y e1).len;simp[run_underlying ht,hq,goInt]
 .obtain⟨r,cap,_,_,hq⟩:=(qt he Y e1).eZ;simp[run_underlying ht,hq,goInt]
theorem Ts {f:AVal->AVal->Option AVal}{g:Value->Value->Sem Value}(hfg:∀x y z u v,f x y=En z->bS C x u->bS C y v->∃q,(g u v).run P w=.ok q w/\bS C z q):
  ∀(ys:List AVal) (x z:AVal) (u:Value) (vs:List Value),oH f x ys=En z->bS C x u->bj C ys vs->∃q,(vs.foldlM g u).run P w=.ok q w/\bS C z q
 | [],x,z,u,vs,h,M,hy=>by
  cases hy;simp[oH]at h;subst h;exact⟨u,rfl,M⟩
 |y::ys,x,z,u,vs,h,M,hy=>by
  cases hy with
  |cons _ _ v vs hy Q=>
   simp only[oH]at h;split at h
   .rename_i z1 gh;obtain⟨q,hq,rq⟩:=hfg x y z1 u v gh M hy;obtain⟨q2,hq2,rq2⟩:=Ts hfg ys z1 z q vs h rq Q;exact⟨q2,by simp[List.foldlM_cons,hq,hq2],rq2⟩
   .cases h
theorem jgz {c:Call}{fT:List ju}{p v:AVal}{ps:List AVal}{mx:Bool}(he:bz C env a.tmps)(ho:o.op=.call c)(ea:c.callee=.builtin (if mx then .max else .min))(Y:ri c.args.toList=En fT)(e1:gJ env fT=En (p::ps))
  (hv:oH (if mx then max2 else min2) p ps=En v):Val P C a o w v:=by
 have r1:=Fx he Y e1
 have eA:(c.args.map a.eval).toList=c.args.toList.map a.eval:=by simp
 cases mx
 .generalize hl:c.args.toList.map a.eval=l at r1
  cases r1 with
  |cons _ _ u us hu hO=>
   obtain⟨q,hq,rq⟩:=Ts (P:=P) (w:=w) (C:=C) (f:=min2) (g:=Builtin.min2) (fun x y z u v h M hy=>by
    unfold min2 at h
    split at h<;>first|cases h|skip
    rename_i k n k' m;by_cases hk:k=k'
    ·subst hk;simp at h;subst h;obtain rfl:=M.bU;obtain rfl:=hy.bU;exact⟨_,rfl,.int _ _⟩
    ·simp[hk]at h) ps p v u us (by simpa using hv) hu hO
   refine⟨q,?_,rq⟩;simp only[Ij,if_false]at ea;simp[execOp,ho,resolve,ea,invoke,builtin,Builtin.min_,hl,hq]
 .generalize hl:c.args.toList.map a.eval=l at r1
  cases r1 with
  |cons _ _ u us hu hO=>
   obtain⟨q,hq,rq⟩:=Ts (P:=P) (w:=w) (C:=C) (f:=max2) (g:=Builtin.max2) (fun x y z u v h M hy=>by
    unfold max2 at h
    split at h<;>first|cases h|skip
    rename_i k n k' m;by_cases hk:k=k'
    ·subst hk;simp at h;subst h;obtain rfl:=M.bU;obtain rfl:=hy.bU;exact⟨_,rfl,.int _ _⟩
    ·simp[hk]at h) ps p v u us (by simpa using hv) hu hO
   refine⟨q,?_,rq⟩;simp only[if_true]at ea;simp[execOp,ho,resolve,ea,invoke,builtin,Builtin.max_,hl,hq]
theorem jaq {x x' i vs v}(he:bz C env a.tmps)(ho:o.op=.extract x i)(Y:qq x=En x')(e1:qh env x'=En (.aJ vs))(hv:vs[i]?=En v):Val P C a o w v:=by
 obtain⟨us,hu,ru⟩:=(qt he Y e1).oP;obtain⟨u,Y,I⟩:=ru.get hv;exact⟨u,by simp[execOp,ho,hu,Instr.extract,Y],I⟩
end
section
variable {P:Program}{C:aQ}{w:World}{env:Env}{a:Act}{o:Oper}
theorem AU {x v}(h:bS C x v)(G:x.flat.all qk=Hb):bj C x.flat v.cells.toList:=by
 cases h<;>first
  |(simp only[AVal.flat,Value.cells];exact .cons _ _ _ _ (by constructor<;>assumption) .nil)
  |skip
 .simpa[AVal.flat,Value.cells]
 all_goals first|done|exact absurd G (by simp[AVal.flat,qk])|skip
theorem q3r (off:Nat):∀(l:List Value) (k:Nat) (cs:Array Value),off+k+l.length<=cs.size ->
  ((l.zipIdx k).foldl (fun cs (x:Value×Nat)=>cs.setIfInBounds (off+x.2) x.1) cs).toList=cs.toList.take (off+k)++l++cs.toList.drop (off+k+l.length)
 | [],k,cs,_=>by simp
 |v::l,k,cs,h=>by
  simp only[List.zipIdx_cons,List.foldl_cons];simp at h;rw[q3r off l (k+1) (cs.setIfInBounds (off+k) v) (by simp;omega)]
  have bg:off+k<cs.toList.length:=by simp;omega
  rw[Array.toList_setIfInBounds]
  have e1:(cs.toList.set (off+k) v).take (off+(k+1))=cs.toList.take (off+k)++[v]:=by
   rw[<-Ix,List.take_succ_eq_append_getElem (by simpa using bg),List.take_set,List.set_eq_of_length_le (by simp;omega),List.getElem_set_self]
  have e2:(cs.toList.set (off+k) v).drop (off+(k+1)+l.length)=cs.toList.drop (off+k+(v::l).length):=by
   rw[List.drop_set_of_lt (by omega)]
   congr 1
   simp;omega
  rw[e1,e2];simp
inductive Fz (C:aQ)(place:Nat->Option (Nat×Nat)):List (Nat×Value)->List (Nat×List AVal)->Prop where
 |nil:Fz C place [] []
 |cons (i:Nat) (v:Value) (off:Nat) (vs:List AVal) (ps:List (Nat×Value)) (qs:List (Nat×List AVal)) (Y:place i=En (off,vs.length)) (I:bj C vs v.cells.toList) (h:Fz C place ps qs):Fz C place ((i,v)::ps) ((off,vs)::qs)
theorem Nb {place}:∀(ps:List (Nat×Value)) (qs:List (Nat×List AVal)) (xs ys:List AVal) (cs:Array Value),bj C xs cs.toList->kM xs qs=En ys ->
  Fz C place ps qs ->
  ∃ds,Instr.fill place cs ps=En ds/\bj C ys ds.toList
 | [],qs,xs,ys,cs,M,hf,hp=>by
  cases hp;simp[kM]at hf;subst hf;exact⟨cs,rfl,M⟩
 |_::ps,qs,xs,ys,cs,M,hf,hp=>by
  cases hp with
  |cons i v off vs _ qs HP Q htl=>
   simp only[kM]at hf
   cases hb:Hc (off+vs.length) xs.length with
   |false=>simp[hb]at hf
   |true=>
    simp only[hb,cond_true]at hf;have hle:=Ic hb;have dQ:=M.length;have dW:=Q.length;simp at dQ dW;have sB:=q3r off v.cells.toList 0 cs (by simp;omega)
    have hz:v.cells.zipIdx.foldl (fun cs (x:Value×Nat)=>cs.setIfInBounds (off+x.2) x.1) cs=(v.cells.toList.zipIdx 0).foldl (fun cs (x:Value×Nat)=>cs.setIfInBounds (off+x.2) x.1) cs:=by
     rw[<-Array.foldl_toList,Array.toList_zipIdx]
    obtain⟨ds,Y,I⟩:=Nb (place:=place) ps qs _ ys (v.cells.zipIdx.foldl (fun cs (x:Value×Nat)=>cs.setIfInBounds (off+x.2) x.1) cs) (by
     rw[hz,sB];simp only[Nat.add_zero,Array.length_toList,dW]
     exact bj.append (bj.append (M.take off) Q) (M.drop _)) hf htl
    refine⟨ds,?_,I⟩;simp only[Instr.fill,HP];rw[if_neg (by simp;omega)];exact Y
theorem Tt {place}(he:bz C env a.tmps):∀(ps:List (Nat×Operand)) (fU:List (Nat×Nat×ju)) (qs:List (Nat×List AVal)),xK P place ps=En fU->kz env fU=En qs ->
  Fz C place (ps.map fun x=>(x.1,a.eval x.2)) qs
 | [],fU,qs,hc,hv=>by
  simp[xK]at hc;subst hc;simp[kz]at hv;subst hv;exact .nil
 |(i,x)::ps,fU,qs,hc,hv=>by
  simp only[xK]at hc;split at hc
  .rename_i off n y r HP hy Q;cases hc;simp only[kz]at hv;split at hv
   .rename_i v oO
    cases hb:(H2 v.flat.length n&&v.flat.all qk)with
    |false=>simp[hb]at hv
    |true=>
     simp only[hb,cond_true]at hv;simp only[Iy]at hb;split at hv
     .rename_i r' kT;cases hv;have hl:=Iw hb.1;exact .cons _ _ _ _ _ _ (by rw[HP,hl]) (AU (qt he hy oO) hb.2) (Tt he ps r r' Q kT)
     .cases hv
   .cases hv
  .cases hc
theorem q4r {t:TypeId}{z}(h:y7 P t=En z)(w:World):∃v,(zeroValue t).run P w=.ok v w/\bj C z v.cells.toList/\∃i,P.info? t=En i/\i.zero=En v:=by
 unfold y7 at h;split at h
 .rename_i i hi;split at h
  .rename_i v hv;exact⟨v,by simp[zeroValue,typeInfo,hi,hv],M4 C h,i,hi,hv⟩
  .cases h
 .cases h
theorem qwh {fs:Array Field}(w:World):∀(l:List Field),(∀f∈l,(js P f.type).isSome)->(l.mapM fun(f:Field)=>(do pure (f.offset,<-sizeOf f.type):Sem (Nat×Nat))).run P w=.ok (l.map fun f=>(f.offset,(js P f.type).getD 0)) w
 | [],_=>rfl
 |f::l,h=>by
  obtain⟨n,hn⟩:=Io.1 (h f (by simp));simp only[List.mapM_cons,Sem.run_bind,yz hn,Result.andThen_ok,Sem.run_pure,qwh (fs:=fs) w l (fun g hg=>h g (by simp[hg])),I5,hn,Option.getD_some]
theorem qzl {t:TypeId}{ps fs z fU qs cs}(he:bz C env a.tmps)(ho:o.op=.build t ps)(ht:P.underlying t=En (.struct fs))(hz:y7 P t=En z)
  (hall:∀f∈fs.toList,(js P f.type).isSome) (nv:xK P (fun i=>match fs[i]? with|some f=>(js P f.type).map fun n=>(f.offset,n)|none=>E6) ps.toList=En fU) (hq:kz env fU=En qs) (hf:kM z qs=En cs):Val P C a o w (.agg cs):=by
 obtain⟨zv,mf,cR,_⟩:=q4r (C:=C) hz w;have hm:=qwh (P:=P) (fs:=fs) w fs.toList hall;have uo:=Tt (P:=P) he ps.toList fU qs nv hq
 have AV:(fun(i:Nat)=>match fs[i]? with|some f=>(js P f.type).map fun n=>(f.offset,n)|none=>E6)=fun(i:Nat)=>((fs.toList.map fun f=>(f.offset,(js P f.type).getD 0)).toArray)[i]?:=by
  funext i
  have hm:∀f,fs[i]?=En f->f∈fs.toList:=fun f h=>by rw[Array.mem_toList_iff];exact Array.mem_of_getElem? h
  obtain⟨l⟩:=fs;simp only[Iq,List.getElem?_map]at hm ⊢
  cases h:l[i]? with
  |none=>rfl
  |some f=>
   obtain⟨n,hn⟩:=Io.1 (hall f (hm f h));simp[hn]
 rw[AV]at uo;obtain⟨ds,hd,Q⟩:=Nb (ps.toList.map fun x=>(x.1,a.eval x.2)) qs z cs zv.cells cR hf uo;refine⟨.agg ds,?_,.agg cs ds.toList Q⟩
 have mL:(fs.mapM fun(f:Field)=>(do pure (f.offset,<-sizeOf f.type):Sem (Nat×Nat))).run P w=.ok ((fs.toList.map fun f=>(f.offset,(js P f.type).getD 0)).toArray) w:=by
  rw[Array.mapM_eq_mapM_toList];simp only[Sem.run_map];rw[hm];rfl
 have uq:(ps.map fun(x:Nat×Operand)=>(x.1,a.eval x.2)).toList=ps.toList.map fun x=>(x.1,a.eval x.2):=by simp
 simp only[execOp,ho,Instr.build,Sem.run_bind,mf,Result.andThen_ok,run_underlying ht,mL,uq,hd,Sem.run_pure]
theorem q2d {t e:TypeId}{ps len n z fU qs cs}(he:bz C env a.tmps)(ho:o.op=.build t ps)(ht:P.underlying t=En (.array len e))(hz:y7 P t=En z)
  (hn:js P e=En n) (nv:xK P (fun i=>En (i*n,n)) ps.toList=En fU) (hq:kz env fU=En qs) (hf:kM z qs=En cs):Val P C a o w (.agg cs):=by
 obtain⟨zv,mf,cR,_⟩:=q4r (C:=C) hz w;have uo:=Tt (P:=P) he ps.toList fU qs nv hq;obtain⟨ds,hd,Q⟩:=Nb (ps.toList.map fun x=>(x.1,a.eval x.2)) qs z cs zv.cells cR hf uo;refine⟨.agg ds,?_,.agg cs ds.toList Q⟩
 have uq:(ps.map fun(x:Nat×Operand)=>(x.1,a.eval x.2)).toList=ps.toList.map fun x=>(x.1,a.eval x.2):=by simp
 simp only[execOp,ho,Instr.build,Sem.run_bind,mf,Result.andThen_ok,run_underlying ht,yz hn,uq,hd,Sem.run_pure]
theorem qr4 {sz}(he:bz C env a.tmps):∀(ps:List (Nat×Operand)) (fU:List (Nat×ju)) (qs:List (Nat×AVal)),xM ps=En fU->yi env sz fU=En qs ->
  Fz C (fun i=>En (i*sz,sz)) (ps.map fun x=>(x.1,a.eval x.2)) (qs.map fun x=>(x.1*sz,x.2.flat))/\∀q∈qs,q.2.flat.length=sz
 | [],fU,qs,hc,hv=>by
  simp[xM]at hc;subst hc;simp[yi]at hv;subst hv;exact⟨.nil,by simp⟩
 |(i,x)::ps,fU,qs,hc,hv=>by
  simp only[xM]at hc;split at hc
  .rename_i y r hy Q;cases hc;simp only[yi]at hv;split at hv
   .rename_i v oO
    cases hb:(H2 v.flat.length sz&&v.flat.all qk)with
    |false=>simp[hb]at hv
    |true=>
     simp only[hb,cond_true]at hv;simp only[Iy]at hb;split at hv
     .rename_i r' kT;cases hv;have hl:=Iw hb.1;obtain⟨Y,I⟩:=qr4 he ps r r' Q kT;refine⟨.cons _ _ _ _ _ _ (by rw[hl]) (AU (qt he hy oO) hb.2) Y,?_⟩;intro q hq;rcases I2.1 hq with rfl|hq
      .exact hl
      .exact I q hq
     .cases hv
   .cases hv
  .cases hc
theorem qwi {sz}:∀(xs:List AVal) (i:Nat) (v:AVal),(∀x∈xs,x.flat.length=sz)->v.flat.length=sz->i<xs.length ->
  (xs.set i v).flatMap AVal.flat=(xs.flatMap AVal.flat).take (i*sz)++v.flat++(xs.flatMap AVal.flat).drop (i*sz+sz)
 | [],i,v,_,_,h=>by simp at h
 |x::xs,0,v,hl,hv,_=>by
  simp only[List.set_cons_zero,Ig,Nat.zero_mul,List.take_zero,List.nil_append,Nat.zero_add];rw[List.drop_append_of_le_length (by rw[hl x (by simp)];exact Ia _),H4 (by rw[hl x (by simp)];exact Ia _)];simp
 |x::xs,i+1,v,hl,hv,h=>by
  simp only[List.set_cons_succ,Ig];rw[qwi xs i v (fun y hy=>hl y (by simp[hy])) hv (by simpa using h)];have M:=hl x (by simp)
  have e1:(i+1)*sz=x.flat.length+i*sz:=by rw[M,H9];omega
  have t1:List.take (x.flat.length+i*sz) (x.flat++xs.flatMap AVal.flat)=x.flat++(xs.flatMap AVal.flat).take (i*sz):=List.take_length_add_append _
  have t2:List.drop (x.flat.length+i*sz+sz) (x.flat++xs.flatMap AVal.flat)=(xs.flatMap AVal.flat).drop (i*sz+sz):=by
   rw[Ix];exact List.drop_length_add_append _
  rw[e1,t1,t2];simp
theorem yv {sz}:∀(xs:List AVal),(∀x∈xs,x.flat.length=sz)->(xs.flatMap AVal.flat).length=xs.length*sz
 | [],_=>by simp
 |x::xs,h=>by
  simp only[Ig,List.length_append,List.length_cons];rw[yv xs (fun y hy=>h y (by simp[hy])),h x (by simp),H9];omega
theorem qzf {sz}:∀(qs:List (Nat×AVal)) (xs ys:List AVal),l6 xs qs=En ys->(∀x∈xs,x.flat.length=sz)->(∀q∈qs,q.2.flat.length=sz) ->
  kM (xs.flatMap AVal.flat) (qs.map fun x=>(x.1*sz,x.2.flat))=En (ys.flatMap AVal.flat)/\(∀y∈ys,y.flat.length=sz)/\ys.length=xs.length
 | [],xs,ys,h,M,_=>by simp[l6]at h;subst h;exact⟨rfl,M,rfl⟩
 |(i,v)::qs,xs,ys,h,M,hq=>by
  simp only[l6]at h
  cases hb:H3 i xs.length with
  |false=>simp[hb]at h
  |true=>
   simp only[hb,cond_true]at h
   have bg:i<xs.length:=by have:=Ic hb;omega
   have hv:=hq (i,v) (by simp)
   obtain⟨Y,I,h3⟩:=qzf qs (xs.set i v) ys h (fun y hy=>by
    rcases List.mem_or_eq_of_mem_set hy with h|rfl
    ·exact M y h
    ·exact hv) (fun q h=>hq q (by simp[h]))
   refine⟨?_,I,by simpa using h3⟩;have hl:=yv xs M
   have hle:i*sz+sz<=xs.length*sz:=by rw[<-H9];exact Nat.mul_le_mul_right _ bg
   simp only[I5,kM];rw[show Hc (i*sz+v.flat.length) (xs.flatMap AVal.flat).length=Hb from by rw[Nat.ble_eq];simp only at hv;omega];simp only[cond_true];rw[qwi xs i v M hv bg]at Y;simp only at hv;rw[hv];exact Y
end
end Go.Abs
