/- The abstract machine. -/
import Derived.Deep.AppendSrc
import Derived.Lib.LaidTab
import Derived.Lib.ItoaNum
import Derived.WalkSpells
import Derived.Laws.Cover3
set_option linter.all false
open Option renaming some->Eb,none->Eg,map_eq_some_iff->Ep,isSome_iff_exists->Jq,isSome_none->Ov,map_some->Vb
open Bool renaming false->Eh,true->En,false_eq_true->H5,and_eq_true->Ic,xor->Sm,not_true->Za,or_false->Ze
open Nat renaming beq->E3,eq_of_beq_eq_true->E8,ble->E9,le_refl->Ha,blt->H2,le_of_ble_eq_true->Ib,mul_le_mul_right->Ig,succ_mul->Ii,le_trans->Io,lt_of_lt_of_le->Mu,add_mul->R9,mul_le_mul->Sc,add_zero->Uy,zero_add->U6,beq_refl->U9,mul_eq_zero->Vf,add_assoc->Vw,pos_iff_ne_zero->V6,blt_eq->Y5
open List renaming replicate->E4,getElem?_eq_some_iff->Hc,getElem?_append_left->H0,getElem?_toArray->H3,getElem?_append_right->H4,getElem?_eq_getElem->H6,flatMap_cons->Ih,mem_of_getElem?->Ij,drop_eq_nil_of_le->Ik,getElem?_set_self->Il,getElem?_take_of_lt->J5,append_assoc->Mh,replicate_succ->Mi,getElem?_map->Mn,getElem?_set_ne->Mr,getElem?_cons_succ->Ms,length_append->My,mem_replicate->Nt,nil_append->Oz,mem_append->R1,flatten_cons->R2,getElem?_eq_none->R7,map_cons->Sd,length_set->Sf,getElem?_cons_zero->Sg,size_toArray->Sl,mem_of_mem_take->So,getElem?_of_mem->Sp,getElem?_drop->Ss,mem_cons->St,drop_eq_getElem_cons->S4,ext_getElem?->S6,all_eq_true->Uw,mem_flatten->Ux,mem_map->U8,length_eq_one_iff->Va,length_map->Vg,mem_cons_of_mem->Vj,flatMap_append->V9,set_cons_zero->Xa,set_cons_succ->Xb,getElem?_take->Xk,mem_cons_self->Xl,set_set->Xm,take->Xn,getElem?_set->Xo,cons_append->Xp,length_cons->Xv,length_take->Xy,foldl_cons->Y1,take_zero->Y9
open Array renaming getElem?_eq_some_iff->Hb,getD_eq_getD_getElem?->H9,getElem?_toList->Ie,ext'->If,range->Ip,getElem?_append_left->Ml,size_append->Uv
open UInt8 renaming ofNat->Se
open Ne renaming symm->Um
namespace Go.Abs
abbrev aj:=List UInt8
abbrev ak(α:Type):=Option (List α)
inductive AVal where
 |bool (b:Bool)
 |int (k:IntKind) (n:Int)
 |str (s:aj)
 |list (isNil:Bool) (sz:Nat) (xs:List AVal)
 |ms (b off len:Nat)
 |ptr (b off:Nat)
 |aq (v:AVal)
 |cC
 |map (b:Nat)
 |cD
 |fn (f:Fn) (first captured:List AVal)
 |cO
 |agg (cs:List AVal)
 |bq (vs:List AVal)
 |undef
 |any
 |dG (n:Nat)
 |az (b bO len:Nat)
 |dN (b bO off:Nat)
 deriving Inhabited
inductive jq where
 |tmp (t:Nat)
 |const (v:AVal)
 deriving Inhabited
inductive Kd where
 |int|str|bool
 deriving DecidableEq,Inhabited
inductive eO where
 |bZ|ft (r:Nat)|shr|red
 deriving DecidableEq,Inhabited
inductive cF where
 |move (x:jq)
 |take (s:Nat)
 |pick (c a b:jq)
 |alloc (r:Nat) (zero:List AVal)
 |box (r n:Nat) (x:jq)
 |kN (n:Nat) (x:jq)
 |gC (n:Nat)
 |dq (n s:Nat) (x:jq)
 |fW (r t e:Nat)
 |build (zero:List AVal) (parts:List (Nat×Nat×jq))
 |buildSlice (sz len:Nat) (zero:List AVal) (parts:List (Nat×jq))
 |load (agg:Bool) (n:Nat) (x:jq)
 |eV (agg:Bool) (n:Nat) (x:jq)
 |cw (off:Option Nat) (x:jq)
 |store (n:Nat) (a v:jq)
 |nilCheck (x:jq)
 |bin (op:BinOp) (x y:jq)
 |eqs (ks:List Kd) (neq:Bool) (x y:jq)
 |beq (neq:Bool) (x y:jq)
 |fD (k:Nat) (neq:Bool) (x:jq)
 |un (op:UnOp) (x:jq)
 |conv (k:IntKind) (x:jq)
 |eG (x:jq)
 |fX (x:jq)
 |field (agg:Bool) (off n:Nat) (x:jq)
 |index (agg:Bool) (len n:Nat) (x i:jq)
 |dH (x i:jq)
 |fieldAddr (agg:Bool) (off n:Nat) (x:jq)
 |indexAddr (sz:Nat) (x i:jq)
 |eW (agg:Bool) (len sz:Nat) (x i:jq)
 |slice (sz:Nat) (x:jq) (lo hi:Option jq)
 |dI (x:jq) (lo hi:Option jq)
 |fY (len sz:Nat) (x:jq) (lo hi:Option jq)
 |eX (f:Fn) (first captured:List jq)
 |eP (r:Nat)
 |lookup (kd:Kd) (zero:AVal) (ok:Bool) (m k:jq)
 |mapUpdate (kd:Kd) (m k v:jq)
 |delete (kd:Kd) (m k:jq)
 |b8 (r:Option Nat) (sz bytes:Nat) (zero:List AVal) (n c:jq)
 |len (k:Nat) (x:jq)
 |append (r:Option Nat) (sz bytes:Nat) (x y:jq)
 |gD (r sz bytes:Nat) (x y:jq)
 |fL (r sz len:Nat) (zero:List AVal) (parts:List (Nat×jq))
 |copy (sz:Nat) (x y:jq)
 |mx (args:List jq)
 |mn (args:List jq)
 |extract (x:jq) (i:Nat)
 |call (md:eO) (f:jq) (args:List jq)
 |dD (r:Nat) (x:jq)
 |fE (it:jq)
 |bad
 deriving Inhabited
structure bT where
 dst:Option Nat
 op:cF
 guard:Option (Nat×Bool)
 al:ak Nat
 deriving Inhabited
inductive aQ where
 |skip
 |region (na:Nat) (ops:List bT) (keep:ak Nat)
 |seq (a b:aQ)
 |cond (c:jq) (a b:aQ)
 |block (id:Nat) (body:aQ)
 |loop (body:aQ)
 |rangeFunc (f:jq) (params:List Nat) (assign body:aQ)
 |exit (id:Nat)
 |ret
 |grow (sz:Nat)
 |stuck
 deriving Inhabited
abbrev Env:=List (Nat×AVal×Bool)
inductive jc where
 |normal
 |exit (id:Nat)
 |ret
 deriving DecidableEq,Inhabited
structure XT where
 env:Env
 params:List Nat
 assign:aQ
 body:aQ
 pending:Option jc
 deriving Inhabited
def zu:aQ->Bool
 | .seq a b=>zu a&&zu b| .cond _ a b=>zu a&&zu b| .block _ b=>zu b| .loop b=>zu b| .rangeFunc ..=>Eh|_=>En
def fF (e:Env):Env:=e.map fun x=>(x.1,x.2.1,Eh)
inductive bG where
 |hole
 |cells (cs:List (AVal×Bool))
 |map (es:List (AVal×AVal))
 |iter (s:aj) (pos:Nat)
 |loop (l:XT)
 |fW (t e:Nat) (l:aj)
 |dead
 |vec (sz bO:Nat) (xs:List AVal)
 deriving Inhabited
abbrev qi:=List bG
structure bj where
 env:Env
 heap:qi
 deriving Inhabited
inductive nF where
 |tmp (t:Nat)
 |cell (t:Nat) (agg:Bool) (n:Nat)
 deriving Inhabited
structure iC where
 ntmps:Nat
 body:aQ
 results:List nF
 deriving Inhabited
abbrev LB:=Nat->Option (List AVal->Option (AVal×Bool))
abbrev XU:=Nat->Option (List AVal->qi->Option (AVal×Bool×qi))
abbrev QU:=Nat->Option (List (AVal×AVal))
structure j8 where
 bn:Nat->Option iC
 di:LB
 dO:XU:=fun _=>Eg
 maps:QU:=fun _=>Eg
def jm (t:Nat):Env->Option (AVal×Bool)
 | []=>Eg|(s,x)::e=>bif E3 s t then Eb x else jm t e
def qj (e:Env):jq->Option AVal
 | .tmp t=>match jm t e with
  |some x=>Eb x.1|none=>Eg
 | .const v=>Eb v
def gE (e:Env):List jq->ak AVal
 | []=>Eb []
 |x::xs=>match qj e x with
  |some v=>match gE e xs with
   |some vs=>Eb (v::vs)|none=>Eg
  |none=>Eg
def rG (e:Env):List Nat->Env
 | []=>[]
 |t::ts=>match jm t e with
  |some x=>(t,x)::rG e ts|none=>rG e ts
def rH:IntKind->Int->Bool
 | .i64,.ofNat m=>E9 m 9223372036854775807| .i64,.negSucc m=>E9 m 9223372036854775807| .i32,.ofNat m=>E9 m 2147483647| .i32,.negSucc m=>E9 m 2147483647| .i16,.ofNat m=>E9 m 32767| .i16,.negSucc m=>E9 m 32767| .i8,.ofNat m=>E9 m 127| .i8,.negSucc m=>E9 m 127| .u64,.ofNat m=>E9 m 18446744073709551615| .u32,.ofNat m=>E9 m 4294967295| .u16,.ofNat m=>E9 m 65535| .u8,.ofNat m=>E9 m 255|_,.negSucc _=>Eh
def qf (k:IntKind)(n:Int):Int:=bif rH k n then n else k.wrap n
def AVal.flat:AVal->List AVal
 | .agg cs=>cs|v=>[v]
def AVal.isAgg:AVal->Bool
 | .agg _=>En|_=>Eh
def AVal.cP:AVal->Bool
 | .list ..=>En|_=>Eh
def lT:Kd->AVal->AVal->Option Bool
 | .int,.int k a,.int k' b=>bif decide (k=k')then Eb (a == b)else Eg| .str,.str a,.str b=>Eb (a == b)| .bool,.bool a,.bool b=>Eb (a == b)|_,_,_=>Eg
def yi:List Kd->List AVal->List AVal->Option Bool
 | [],[],[]=>Eb En
 |k::ks,x::xs,y::ys=>match lT k x y with
  |some En=>yi ks xs ys|some Eh=>Eb Eh|none=>Eg
 |_,_,_=>Eg
def part (agg:Bool)(cs:List AVal)(off n:Nat):Option AVal:=
 bif agg then(bif E9 (off+n) cs.length then Eb (.agg ((cs.drop off).take n))else Eg)else cs[off]?
def bytesLess:aj->aj->Bool
 |_,[]=>Eh| [],_::_=>En
 |a::x,b::y=>a<b||(a == b&&bytesLess x y)
def nG (op:BinOp)(k:IntKind)(x y:Int):Option AVal:=
 match op with
 | .add=>Eb (.int k (qf k (x+y)))| .sub=>Eb (.int k (qf k (x-y)))| .mul=>Eb (.int k (qf k (x*y)))| .quo=>bif y == 0 then Eg else Eb (.int k (qf k (x.tdiv y)))| .rem=>bif y == 0 then Eg else Eb (.int k (x.tmod y))| .eql=>Eb (.bool (x == y))| .neq=>Eb (.bool (x != y))| .lss=>Eb (.bool (decide (x<y)))| .leq=>Eb (.bool (decide (x<=y)))| .gtr=>Eb (.bool (decide (x > y)))| .geq=>Eb (.bool (decide (x>=y)))| .and=>Eb (.int k (k.wrap (BitVec.ofInt k.bits x &&& BitVec.ofInt k.bits y).toNat))| .or=>Eb (.int k (k.wrap (BitVec.ofInt k.bits x ||| BitVec.ofInt k.bits y).toNat))| .xor=>Eb (.int k (k.wrap (BitVec.ofInt k.bits x ^^^ BitVec.ofInt k.bits y).toNat))| .andNot=>Eb (.int k (k.wrap (BitVec.ofInt k.bits x &&& ~~~BitVec.ofInt k.bits y).toNat))|_=>Eg
def LC (op:BinOp)(k:IntKind)(x y:Int):Option AVal:=
 bif decide (y<0)then Eg else
 match op with
 | .shl=>Eb (.int k (qf k (x*2^(min y.toNat k.bits))))| .shr=>Eb (.int k (x.fdiv (2^(min y.toNat k.bits))))|_=>Eg
def EB (op:BinOp)(x y:aj):Option AVal:=
 match op with
 | .add=>bif E9 (x.length+y.length) 4611686018427387904 then Eb (.str (x++y))else Eg| .eql=>Eb (.bool (x == y))| .neq=>Eb (.bool !(x == y))| .lss=>Eb (.bool (bytesLess x y))| .leq=>Eb (.bool (bytesLess x y||x == y))| .gtr=>Eb (.bool !(bytesLess x y||x == y))| .geq=>Eb (.bool !(bytesLess x y))|_=>Eg
def z8 (op:BinOp):AVal->AVal->Option AVal
 | .int k x,.int k' y=>match op with
  | .shl=>LC .shl k x y| .shr=>LC .shr k x y|op=>bif decide (k=k')then nG op k x y else Eg
 | .str x,.str y=>EB op x y|_,_=>Eg
def xn:UnOp->AVal->Option AVal
 | .neg,.int k n=>Eb (.int k (qf k (0-n)))| .not,.bool b=>Eb (.bool !b)|_,_=>Eg
def max2:AVal->AVal->Option AVal
 | .int k x,.int k' y=>bif decide (k=k')then Eb (.int k (if y > x then y else x))else Eg|_,_=>Eg
def min2:AVal->AVal->Option AVal
 | .int k x,.int k' y=>bif decide (k=k')then Eb (.int k (if y<x then y else x))else Eg|_,_=>Eg
def oz (f:AVal->AVal->Option AVal):AVal->List AVal->Option AVal
 |x,[]=>Eb x
 |x,y::ys=>match f x y with
  |some z=>oz f z ys|none=>Eg
def jT:List AVal->List (Nat×List AVal)->ak AVal
 |cs,[]=>Eb cs|cs,(off,vs)::rest=>bif E9 (off+vs.length) cs.length then jT (cs.take off++vs++cs.drop (off+vs.length)) rest else Eg
def qm:AVal->Bool
 | .agg _=>Eh| .bq _=>Eh| .undef=>Eh| .any=>Eh|_=>En
def km (e:Env):List (Nat×Nat×jq)->Option (List (Nat×List AVal))
 | []=>Eb []
 |(off,n,x)::ps=>match qj e x with
  |some v=>bif E3 v.flat.length n&&v.flat.all qm then
    (match km e ps with
     |some r=>Eb ((off,v.flat)::r)
     |none=>Eg)else Eg
  |none=>Eg
def lG (xs:List AVal):List (Nat×AVal)->ak AVal
 | []=>Eb xs|(i,v)::ps=>bif H2 i xs.length then lG (xs.set i v) ps else Eg
def z9 (e:Env)(sz:Nat):List (Nat×jq)->Option (List (Nat×AVal))
 | []=>Eb []
 |(i,x)::ps=>match qj e x with
  |some v=>bif E3 v.flat.length sz&&v.flat.all qm then
   (match z9 e sz ps with
    |some r=>Eb ((i,v)::r)
    |none=>Eg)else Eg
  |none=>Eg
def jv3 (zero:List AVal)(agg:Bool):Option AVal:=
 bif agg then Eb (.agg zero)else match zero with
  | [z]=>Eb z|_=>Eg
def zi (h:qi)(b:Nat):Option bG:=h[b]?
def qy (h:qi)(b:Nat):Option (List (AVal×Bool)):=
 match h[b]? with
 |some (.cells cs)=>Eb cs|_=>Eg
def zm (cs:List (AVal×Bool))(off n:Nat):ak AVal:=
 bif E9 (off+n) cs.length then Eb (((cs.drop off).take n).map (·.1))else Eg
def jr (cs:List (AVal×Bool))(off:Nat)(vs:List AVal):Option (List (AVal×Bool)):=
 bif E9 (off+vs.length) cs.length&&vs.all qm then Eb (cs.take off++vs.map (·,Eh)++cs.drop (off+vs.length))else Eg
mutual
def below (n:Nat):AVal->Bool
 | .ms b _ _=>H2 b n| .ptr b _=>H2 b n| .map b=>H2 b n| .az b _ _=>H2 b n| .dN b _ _=>H2 b n| .aq v=>below n v| .list _ _ xs=>qt n xs| .agg cs=>qt n cs| .bq vs=>qt n vs
 | .fn (.yield b) first captured=>H2 b n&&qt n first&&qt n captured
 | .fn _ first captured=>qt n first&&qt n captured
 |_=>En
def qt (n:Nat):List AVal->Bool
 | []=>En|x::xs=>below n x&&qt n xs
end
def lU (n:Nat):Env->Bool
 | []=>En|(_,v,_)::e=>below n v&&lU n e
def zn (n:Nat):List (AVal×Bool)->Bool
 | []=>En|(v,_)::e=>below n v&&zn n e
def y8 (n:Nat):List (AVal×AVal)->Bool
 | []=>En|(k,v)::e=>below n k&&below n v&&y8 n e
def ze (n:Nat):bG->Bool
 | .hole=>En| .cells cs=>zn n cs| .map es=>y8 n es| .iter _ _=>En| .fW ..=>En| .dead=>En| .vec ..=>En| .loop l=>lU n l.env
def qr (n:Nat):qi->Bool
 | []=>En|b::h=>ze n b&&qr n h
def gc (n:Nat)(st:bj):bj:=
 bif E9 st.heap.length n then st
 else bif lU n st.env&&qr n (st.heap.take n)then { st with heap:=st.heap.take n }else st
def lV (v:AVal):Bool:=below 0 v
def q8q (agg:Bool)(sz:Nat):Nat->List AVal->ak AVal
 |0,_=>Eb []
 |n+1,cs=>bif E9 sz cs.length then
   (match jv3 (cs.take sz) agg with
    |some v=>(match q8q agg sz n (cs.drop sz)with
     |some r=>Eb (v::r)
     |none=>Eg)
    |none=>Eg)else Eg
def nc (sz:Nat):Nat->List AVal->List AVal
 |0,_=>[]|n+1,cs=>(bif E3 sz 1 then cs.headD .undef else .agg (cs.take sz))::nc sz n (cs.drop sz)
def LD:AVal->Bool
 | .str _=>En| .list ..=>En|_=>Eh
def EC (off len:Nat)(cs:List (AVal×Bool)):Bool:=E3 off 0&&H2 1 (cs.length / len)&&E3 (len*(cs.length / len)) cs.length&&cs.any (fun c=>LD c.1)
def kr (h:qi):AVal->Option AVal
 | .ms b off len=>match qy h b with
  |some cs=>bif EC off len cs then Eb (.list Eh (cs.length / len) (nc (cs.length / len) len (cs.map (·.1))))else(match zm cs off len with
   |some vs=>Eb (.list Eh 1 vs)
   |none=>Eg)
  |none=>Eg
 | .az b bO len=>match h[b]? with
  |some (.vec sz dJ xs)=>bif E3 bO dJ&&E9 len xs.length then Eb (.list Eh sz (xs.take len))else Eg|_=>Eg
 |v=>Eb v
def lW (h:qi):List AVal->ak AVal
 | []=>Eb []
 |v::vs=>match kr h v with
  |some x=>(match lW h vs with
   |some xs=>Eb (x::xs)
   |none=>Eg)
  |none=>Eg
def aV (h:qi):AVal->Option AVal
 | .agg cs=>match lW h cs with
  |some xs=>Eb (.agg xs)|none=>Eg
 | .bq vs=>match bP h vs with
  |some xs=>Eb (.bq xs)|none=>Eg
 |v=>kr h v
where
 bP (h:qi):List AVal->ak AVal
  | []=>Eb []
  | .agg cs::vs=>match lW h cs with
   |some x=>(match bP h vs with
    |some xs=>Eb (.agg x::xs)
    |none=>Eg)
   |none=>Eg
  |v::vs=>match kr h v with
   |some x=>(match bP h vs with
    |some xs=>Eb (x::xs)
    |none=>Eg)
   |none=>Eg
def jz (kd:Kd)(k:AVal):List (AVal×AVal)->Nat->Option (Option (Nat×AVal))
 | [],_=>Eb Eg
 |(k',v)::es,i=>match lT kd k k' with
  |some En=>Eb (Eb (i,v))|some Eh=>jz kd k es (i+1)|none=>Eg
def ql (s:aj)(i:Nat):Nat×Nat:=Utf8.decode ⟨⟨s⟩⟩ i
structure br where
 v:AVal
 own:Bool
 strip:Option Nat
 heap:qi
def oA (l:List Nat):Bool:=match l with
 | []=>Eh|k::_=>E9 1000 k
def Aa (h0:Nat)(l:List Nat)(b:Nat):Bool:=match l with
 | []=>Eh|k::_=>bif H2 k 2000 then E3 b (k-1000)&&H2 b h0 else bif H2 k 4000 then E3 b (h0+(k-2000))else H2 b h0
def j9 (h0:Nat)(al:ak Nat)(b:Nat):Bool:=
 match al with
 |none=>En|some l=>bif oA l then Aa h0 l b else(H2 b h0||l.contains (b-h0))
def po (al:ak Nat):Bool:=
 match al with
 |some (k::_)=>E9 4000 k|_=>Eh
def rI (h0:Nat)(al:ak Nat)(b:Nat):Bool:=j9 h0 al b&&!(po al)
def jx (h:qi)(b:Nat)(x:bG):Option qi:=bif H2 b h.length then Eb (h.set b x)else Eg
def aK (h0:Nat)(h:qi)(r:Nat)(x:bG):Option qi:=
 match h[h0+r]? with
 |some .hole=>Eb (h.set (h0+r) x)|_=>Eg
def val (h:qi)(v:AVal):Option br:=Eb ⟨v,Eh,Eg,h⟩
def gF (h:qi):Option AVal->Option br
 |some v=>Eb ⟨v,Eh,Eg,h⟩|none=>Eg
def idx (n:Nat):AVal->Option Nat
 | .int _ (.ofNat i)=>bif H2 i n then Eb i else Eg|_=>Eg
def Ab (n:Nat):AVal->Option Nat
 | .int _ (.ofNat i)=>bif E9 i n then Eb i else Eg|_=>Eg
def fG (e:Env)(lX n:Nat):Option jq->Option Nat
 |none=>Eb lX
 |some x=>match qj e x with
  |some v=>Ab n v|none=>Eg
def zw (e:Env):jq->Option Nat
 | .tmp t=>match jm t e with
  |some (_,En)=>Eb t|_=>Eg
 |_=>Eg
def yb (sz:Nat):AVal->ak AVal
 | .list _ sy ys=>bif E3 sz sy||ys.isEmpty then Eb ys else Eg
 | .str s=>bif E3 sz 1 then Eb (s.map fun(c:UInt8)=>AVal.int .u8 c.toNat)else Eg|_=>Eg
def tQ (n:Bool)(sz:Nat)(xs ys:List AVal):AVal:=bif n&&ys.isEmpty then .list En 0 []else .list Eh sz (xs++ys)
def ED:List AVal->Option aj
 | []=>Eb []
 | .int .u8 n::xs=>(match ED xs with
  |some s=>Eb (Se n.toNat::s)
  |none=>Eg)
 |_::_=>Eg
def qn (e:Env)(h:qi):cF->Option br
 | .move x=>gF h (qj e x)
 | .take s=>match jm s e with
  |some (v,o)=>Eb ⟨v,o,Eb s,h⟩|none=>Eg
 | .pick c a b=>match qj e c with
  |some (.bool t)=>(match qj e a,qj e b with
    |some x,Eb y=>val h (bif t then x else y)
    |_,_=>Eg)
  |_=>Eg
 | .kN n x=>match qj e x with
  |some v=>bif E3 v.flat.length n&&v.flat.all qm then val h (.aq v)else Eg|none=>Eg
 | .build zero parts=>match km e parts with
  |some ps=>match jT zero ps with
   |some cs=>val h (.agg cs)|none=>Eg
  |none=>Eg
 | .buildSlice sz len zero parts=>match z9 e sz parts with
  |some ps=>match lG (E4 len (bif E3 sz 1 then zero.headD .undef else .agg zero)) ps with
   |some xs=>Eb ⟨.list Eh sz xs,En,Eg,h⟩|none=>Eg
  |none=>Eg
 | .gC n=>Eb ⟨.dG n,En,Eg,h⟩
 | .dq n s x=>match jm s e,qj e x with
  |some (.dG m,En),Eb v=>bif E3 m n&&E3 v.flat.length n&&v.flat.all qm then val h (.aq v)else Eg|_,_=>Eg
 | .eV agg n x=>match qj e x with
  |some (.aq v)=>bif Sm agg v.isAgg||!(E3 v.flat.length n)then Eg else val h v
  |_=>Eg
 | .nilCheck x=>match qj e x with
  |some (.ptr b o)=>val h (.ptr b o)|some (.aq v)=>val h (.aq v)|some (.fn (.func f) a b)=>val h (.fn (.func f) a b)|_=>Eg
 | .bin op x y=>match qj e x,qj e y with
  |some a,Eb b=>gF h (z8 op a b)|_,_=>Eg
 | .eqs ks neq x y=>match qj e x,qj e y with
  |some (.agg a),Eb (.agg b)=>bif E3 a.length ks.length&&E3 b.length ks.length then(match yi ks a b with
   |some t=>val h (.bool (bif neq then !t else t))
   |none=>Eg)else Eg
  |_,_=>Eg
 | .beq neq x y=>match qj e x,qj e y with
  |some (.bool a),Eb (.bool b)=>val h (.bool (bif neq then !(a == b)else a == b))|_,_=>Eg
 | .fD k neq x=>match k,qj e x with
  |0,Eb (.list n _ _)=>val h (.bool (bif neq then !n else n))|0,Eb (.ms ..)=>val h (.bool neq)|1,Eb .cC=>val h (.bool (!neq))|1,Eb (.ptr ..)=>val h (.bool neq)|1,Eb (.aq ..)=>val h (.bool neq)|2,Eb .cD=>val h (.bool (!neq))|2,Eb (.map ..)=>val h (.bool neq)|3,Eb .cO=>val h (.bool (!neq))|3,Eb (.fn ..)=>val h (.bool neq)|_,_=>Eg
 | .un op x=>match qj e x with
  |some v=>gF h (xn op v)|none=>Eg
 | .conv k x=>match qj e x with
  |some (.int _ n)=>val h (.int k (qf k n))|_=>Eg
 | .eG x=>match qj e x with
  |some (.str s)=>val h (.str s)|some (.int _ n)=>val h (.str (Utf8.encode n).data.toList)|_=>Eg
 | .fX x=>match qj e x with
  |some (.list _ 1 xs)=>(match ED xs with
   |some s=>val h (.str s)
   |none=>Eg)
  |_=>Eg
 | .field agg off n x=>match qj e x with
  |some (.agg cs)=>gF h (part agg cs off n)|_=>Eg
 | .index agg len n x i=>match qj e x,qj e i with
  |some (.agg cs),Eb j=>(match idx len j with
   |some j=>gF h (part agg cs (j*n) n)
   |none=>Eg)
  |_,_=>Eg
 | .dH x i=>match qj e x,qj e i with
  |some (.str s),Eb j=>(match idx s.length j with
   |some j=>(match s[j]? with
    |some c=>val h (.int .u8 c.toNat)
    |none=>Eg)
   |none=>Eg)
  |_,_=>Eg
 | .fieldAddr agg off n x=>match qj e x with
  |some (.ptr b o)=>val h (.ptr b (o+off))
  |some (.aq (.agg cs))=>(match part agg cs off n with
   |some v=>bif Sm agg v.isAgg then Eg else val h (.aq v)
   |none=>Eg)
  |some (.dN b bO o)=>val h (.dN b bO (o+off))|_=>Eg
 | .indexAddr sz x i=>match qj e x,qj e i with
  |some (.list _ de xs),Eb j=>bif E3 sz de||xs.isEmpty then(match idx xs.length j with
   |some j=>(match xs[j]? with
    |some v=>val h (.aq v)
    |none=>Eg)
   |none=>Eg)else Eg
  |some (.ms b o len),Eb j=>(match idx len j with
   |some j=>val h (.ptr b (o+j*sz))
   |none=>Eg)
  |some (.az b bO len),Eb j=>(match idx len j with
   |some j=>val h (.dN b bO (j*sz))
   |none=>Eg)
  |_,_=>Eg
 | .eW agg len sz x i=>match qj e x,qj e i with
  |some (.ptr b o),Eb j=>(match idx len j with
   |some j=>val h (.ptr b (o+j*sz))
   |none=>Eg)
  |some (.aq (.agg cs)),Eb j=>(match idx len j with
   |some j=>(match part agg cs (j*sz) sz with
    |some v=>bif Sm agg v.isAgg then Eg else val h (.aq v)
    |none=>Eg)
   |none=>Eg)
  |_,_=>Eg
 | .slice sz x lo hi=>match qj e x with
  |some (.list n de xs)=>bif E3 sz de||xs.isEmpty then(match fG e xs.length xs.length hi with
   |some j=>(match fG e 0 j lo with
    |some i=>val h (.list n de ((xs.take j).drop i))
    |none=>Eg)
   |none=>Eg)else Eg
  |some (.ms b o len)=>(match fG e len len hi with
   |some j=>(match fG e 0 j lo with
    |some i=>bif E3 i 0||H2 i j then val h (.ms b (o+i*sz) (j-i))else Eg
    |none=>Eg)
   |none=>Eg)
  |some (.az b bO len)=>(match fG e len len hi with
   |some j=>(match fG e 0 j lo with
    |some i=>bif E3 i 0 then val h (.az b bO j)else Eg
    |none=>Eg)
   |none=>Eg)
  |_=>Eg
 | .dI x lo hi=>match qj e x with
  |some (.str s)=>(match fG e s.length s.length hi with
   |some j=>(match fG e 0 j lo with
    |some i=>val h (.str ((s.take j).drop i))
    |none=>Eg)
   |none=>Eg)
  |_=>Eg
 | .fY len sz x lo hi=>match qj e x with
  |some (.ptr b o)=>(match fG e len len hi with
   |some j=>(match fG e 0 j lo with
    |some i=>bif E3 i 0||H2 i j then val h (.ms b (o+i*sz) (j-i))else Eg
    |none=>Eg)
   |none=>Eg)
  |_=>Eg
 | .eX f first captured=>match gE e first,gE e captured with
  |some a,Eb b=>val h (.fn f a b)|_,_=>Eg
 | .len k x=>match k,qj e x with
  |1,Eb (.list _ _ xs)=>val h (.int .i64 xs.length)|1,Eb (.ms _ _ n)=>val h (.int .i64 n)|1,Eb (.az _ _ n)=>val h (.int .i64 n)|2,Eb (.list En _ _)=>val h (.int .i64 0)|0,Eb (.str s)=>val h (.int .i64 s.length)|_,_=>Eg
 | .append Eg sz bytes x y=>match qj e x,qj e y with
  |some (.list n de xs),Eb vy=>
   bif n||(zw e x).isSome then
    (match yb sz vy with
     |some ys=>
      bif (E3 sz de||(xs.isEmpty&&n))&&E9 (xs.length+ys.length) 1073741824&&E9 bytes 4096&&H2 0 sz then
       Eb ⟨tQ n sz xs ys,En,zw e x,h⟩
      else Eg
     |none=>Eg)
   else Eg
  |_,_=>Eg
 | .b8 Eg sz bytes zero n c=>match qj e n,qj e c with
  |some (.int .i64 (.ofNat n)),Eb (.int .i64 (.ofNat c))=>
   bif E3 n c&&E9 n 1073741824&&E9 bytes 4096&&E3 zero.length sz&&H2 0 sz&&zero.all qm then
    Eb ⟨.list Eh sz (E4 n (bif E3 sz 1 then zero.headD .undef else .agg zero)),En,Eg,h⟩else Eg
  |_,_=>Eg
 | .mx args=>match gE e args with
  |some (v::vs)=>gF h (oz max2 v vs)|_=>Eg
 | .mn args=>match gE e args with
  |some (v::vs)=>gF h (oz min2 v vs)|_=>Eg
 | .extract x i=>match qj e x with
  |some (.bq vs)=>gF h vs[i]?|_=>Eg
 |_=>Eg
def rJ (es:List (AVal×AVal))(i:Nat)(v:AVal):List (AVal×AVal):=
 match es,i with
 | [],_=>[]|(k,_)::r,0=>(k,v)::r|x::r,i+1=>x::rJ r i v
def yl (h0:Nat)(al:ak Nat)(e:Env)(h:qi):cF->Option br
 | .load agg n x=>match qj e x with
  |some (.ptr b o)=>bif j9 h0 al b then(match qy h b with
   |some cs=>(match zm cs o n with
    |some vs=>bif agg then val h (.agg vs)else(match vs with
     | [v]=>val h v
     |_=>Eg)
    |none=>Eg)
   |none=>Eg)else Eg
  |some (.aq v)=>bif Sm agg v.isAgg||!(E3 v.flat.length n)then Eg else val h v
  |some (.dN b bO o)=>bif rI h0 al b then(match zi h b with
   |some (.vec _ dJ xs)=>bif E3 bO dJ&&E9 (o+n) (xs.flatMap AVal.flat).length then(bif agg then val h (.agg (((xs.flatMap AVal.flat).drop o).take n))else(match((xs.flatMap AVal.flat).drop o).take n with
     | [v]=>val h v
     |_=>Eg))else Eg
   |_=>Eg)else Eg
  |_=>Eg
 | .lookup kd zero ok m k=>match qj e m,qj e k with
  |some (.map b),Eb kv=>bif j9 h0 al b then(match zi h b with
   |some (.map es)=>(match jz kd kv es 0 with
    |some (Eb (_,v))=>val h (bif ok then .bq [v,.bool En]else v)|some Eg=>val h (bif ok then .bq [zero,.bool Eh]else zero)
    |none=>Eg)
   |_=>Eg)else Eg
  |some .cD,Eb _=>val h (bif ok then .bq [zero,.bool Eh]else zero)|_,_=>Eg
 | .len _ x=>match qj e x with
  |some (.map b)=>bif j9 h0 al b then(match zi h b with
   |some (.map es)=>val h (.int .i64 es.length)
   |_=>Eg)else Eg
  |some .cD=>val h (.int .i64 0)|_=>Eg
 |_=>Eg
def XV (es:List (AVal×AVal)):Option (Nat×AVal)->List (AVal×AVal)
 |some (i,_)=>es.eraseIdx i|none=>es
def xp:Option Nat->Nat->Bool
 |none,_=>En|some a,o=>E3 a o
def Ac (sz len:Nat):AVal->Option (Nat×List AVal)
 | .list _ sy ys=>bif E3 sz sy||ys.isEmpty then Eb (min ys.length len,(ys.take len).flatMap AVal.flat)else Eg
 |_=>Eg
def cellsOf (vs:List AVal):List (AVal×Bool):=vs.map (·,Eh)
def qq (h0:Nat)(al:ak Nat)(e:Env)(h:qi):cF->Option br
 | .alloc r zero=>bif zero.all qm then(match aK h0 h r (.cells (cellsOf zero))with
  |some h'=>val h' (.ptr (h0+r) 0)
  |none=>Eg)else Eg
 | .box r n x=>match qj e x with
  |some v=>bif E3 v.flat.length n&&v.flat.all qm then(match aK h0 h r (.cells (cellsOf v.flat))with
   |some h'=>val h' (.ptr (h0+r) 0)
   |none=>Eg)else Eg
  |none=>Eg
 | .cw off x=>match qj e x with
  |some (.ptr b o)=>bif j9 h0 al b&&xp off o then(match qy h b with
   |some cs=>(match cs[o]? with
    |some (v,w)=>(match jx h b (.cells (cs.set o (v,Eh)))with
     |some h'=>Eb ⟨v,w,Eg,h'⟩
     |none=>Eg)
    |none=>Eg)
   |none=>Eg)else Eg
  |_=>Eg
 | .store n a x=>match qj e a,qj e x with
  |some (.ptr b o),Eb v=>bif j9 h0 al b then(match qy h b with
   |some cs=>(match zw e x with
    |some t=>bif E3 n 1&&v.cP&&H2 o cs.length then(match jx h b (.cells (cs.set o (v,En)))with
      |some h'=>Eb ⟨.undef,Eh,Eb t,h'⟩
      |none=>Eg)else Eg
    |none=>bif E3 v.flat.length n then(match jr cs o v.flat with
     |some eE=>(match jx h b (.cells eE)with
      |some h'=>val h' .undef
      |none=>Eg)
     |none=>Eg)else Eg)
   |none=>Eg)else Eg
  |_,_=>Eg
 | .fW r t e=>match aK h0 h r (.fW t e [])with
  |some h'=>val h' (.ptr (h0+r) 0)|none=>Eg
 | .eP r=>match aK h0 h r (.map [])with
  |some h'=>val h' (.map (h0+r))|none=>Eg
 | .mapUpdate kd m k x=>match qj e m,qj e k,qj e x with
  |some (.map b),Eb kv,Eb v=>bif j9 h0 al b then(match zi h b with
   |some (.map es)=>(match jz kd kv es 0 with
    |some (Eb (i,_))=>(match jx h b (.map (rJ es i v))with
     |some h'=>val h' .undef
     |none=>Eg)
    |some Eg=>bif E9 es.length 1073741824 then(match jx h b (.map (es++[(kv,v)]))with
     |some h'=>val h' .undef
     |none=>Eg)else Eg
    |none=>Eg)
   |_=>Eg)else Eg
  |_,_,_=>Eg
 | .delete kd m k=>match qj e m,qj e k with
  |some (.map b),Eb kv=>bif j9 h0 al b then(match zi h b with
   |some (.map es)=>(match jz kd kv es 0 with
    |some r=>(match jx h b (.map (XV es r))with
     |some h'=>val h' (.bq [])
     |none=>Eg)
    |none=>Eg)
   |_=>Eg)else Eg
  |_,_=>Eg
 | .b8 (Eb r) sz bytes zero n c=>match qj e n,qj e c with
  |some (.int .i64 (.ofNat n)),Eb (.int .i64 (.ofNat c))=>
   bif E3 n c&&E9 n 1073741824&&E9 bytes 4096&&E3 zero.length sz&&H2 0 sz&&zero.all qm then
    (match aK h0 h r (.cells (cellsOf (E4 n zero).flatten))with
     |some h'=>val h' (.ms (h0+r) 0 n)
     |none=>Eg)else Eg
  |_,_=>Eg
 | .append (Eb r) sz bytes x y=>match qj e x,qj e y with
  |some (.list Eh de []),Eb vy=>
   bif (zw e x).isSome&&E3 sz de then
    (match yb sz vy with
     |some ys=>
      bif E9 ys.length 1073741824&&E9 bytes 4096&&H2 0 sz then
       (match aK h0 h r (.cells (cellsOf (ys.flatMap AVal.flat)))with
        |some h'=>Eb ⟨.ms (h0+r) 0 ys.length,Eh,zw e x,h'⟩
        |none=>Eg)
      else Eg
     |none=>Eg)
   else Eg
  |_,_=>Eg
 | .gD r sz bytes x y=>match qj e x,qj e y with
  |some (.list En _ []),Eb vy=>(match yb sz vy with
    |some ys=>
     bif E9 ys.length 1073741824&&E9 bytes 4096&&H2 0 sz&&!ys.isEmpty&&qt 0 ys&&H2 r 1000 then
      (match aK h0 h r (.vec sz 0 ys)with
       |some h'=>val h' (.az (h0+r) 0 ys.length)
       |none=>Eg)else Eg
    |none=>Eg)
  |some (.az b bO len),Eb vy=>(match zi h b with
   |some (.vec de dJ xs)=>(match yb sz vy with
    |some ys=>
     bif E3 bO dJ&&E3 sz de&&E9 len xs.length&&E9 (len+ys.length) 1073741824&&E9 bytes 4096&&H2 0 sz&&qt 0 ys&&H2 r 1000 then
      (match jx h b (.vec sz (bO+1) (xs.take len++ys))with
       |some h'=>val h' (.az b (bO+1) (len+ys.length))
       |none=>Eg)else Eg
    |none=>Eg)
   |_=>Eg)
  |_,_=>Eg
 | .fL r sz len zero parts=>match z9 e sz parts with
  |some ps=>match lG (E4 len (bif E3 sz 1 then zero.headD .undef else .agg zero)) ps with
   |some xs=>bif qt 0 xs then(match aK h0 h r (.vec sz 0 xs)with
    |some h'=>val h' (.az (h0+r) 0 xs.length)
    |none=>Eg)else Eg
   |none=>Eg
  |none=>Eg
 | .copy sz x y=>match qj e x,qj e y with
  |some (.ms b o len),Eb vy=>bif j9 h0 al b then(match qy h b with
   |some cs=>(match Ac sz len vy with
    |some (n,vs)=>(match jr cs o vs with
     |some eE=>bif E3 vs.length (n*sz)then(match jx h b (.cells eE)with
      |some h'=>val h' (.int .i64 n)
      |none=>Eg)else Eg
     |none=>Eg)
    |none=>Eg)
   |none=>Eg)else Eg
  |_,_=>Eg
 | .dD r x=>match qj e x with
  |some (.str s)=>(match aK h0 h r (.iter s 0)with
   |some h'=>val h' (.ptr (h0+r) 0)
   |none=>Eg)
  |_=>Eg
 | .fE it=>match qj e it with
  |some (.ptr b 0)=>bif j9 h0 al b then(match zi h b with
   |some (.iter s pos)=>bif H2 pos s.length then
     (match jx h b (.iter s (pos+(ql s pos).2))with
      |some h'=>val h' (.bq [.bool En,.int .i64 pos,.int .i32 (ql s pos).1])
      |none=>Eg)else val h (.bq [.bool Eh])
   |_=>Eg)else Eg
  |_=>Eg
 |_=>Eg
def pq:Nat->List AVal->Env
 |_,[]=>[]|i,v::vs=>(i,v,Eh)::pq (i+1) vs
def tR (st:bj):nF->Option (AVal×Bool)
 | .tmp t=>jm t st.env
 | .cell t agg n=>match jm t st.env with
  |some (.ptr b o,_)=>(match qy st.heap b with
   |some cs=>(match zm cs o n with
    |some vs=>bif agg then Eb (.agg vs,Eh)else(match cs[o]? with
     |some x=>Eb x
     |none=>Eg)
    |none=>Eg)
   |none=>Eg)
  |_=>Eg
def ko (st:bj):List nF->Option (List (AVal×Bool))
 | []=>Eb []
 |r::rs=>match tR st r with
  |some x=>(match ko st rs with
   |some xs=>Eb (x::xs)
   |none=>Eg)
  |none=>Eg
def za:List (AVal×Bool)->AVal×Bool
 | [x]=>x|xs=>(.bq (xs.map (·.1)),Eh)
abbrev XC:=aQ->bj->Option (jc×bj)
def lH (st:bj):List nF->qi
 | [.cell t Eh _]=>match jm t st.env with
  |some (.ptr b o,_)=>(match qy st.heap b with
   |some cs=>(match cs[o]? with
    |some (v,En)=>st.heap.set b (.cells (cs.set o (v,Eh)))
    |_=>st.heap)
   |none=>st.heap)
  |_=>st.heap
 |_=>st.heap
def qE (xc:XC)(f:iC)(args:List AVal)(h:qi):Option (AVal×Bool×qi):=
 bif E9 args.length f.ntmps then
  match xc f.body ⟨pq 0 args,h⟩with
  |some (.normal,st)=>(match ko st f.results with
   |some xs=>Eb ((za xs).1,(za xs).2,lH st f.results)
   |none=>Eg)
  |some (.ret,st)=>(match ko st f.results with
   |some xs=>Eb ((za xs).1,(za xs).2,lH st f.results)
   |none=>Eg)
  |_=>Eg
 else Eg
def ai (p:j8)(xc:XC)(k:Nat)(args:List AVal)(h:qi):Option (AVal×Bool×qi):=
 match p.bn k with
 |some f=>qE xc f args h
 |none=>match p.dO k with
  |some f=>f args h|none=>Eg
def ae (p:j8)(xc:XC)(k:Nat)(args:List AVal):Option (AVal×Bool):=
 match p.di k with
 |some f=>(match f args with
  |some (v,o)=>bif lV v then Eb (v,o)else Eg
  |none=>Eg)
 |none=>match ai p xc k args []with
  |some (v,o,h)=>(match aV h v with
   |some v'=>bif lV v' then Eb (v',o&&v.cP)else Eg
   |none=>Eg)
  |none=>Eg
def qp (n:Nat)(v:AVal)(h:qi):qi:=
 bif E9 h.length n then h else bif below n v&&qr n (h.take n)then h.take n else h
def vz (e:Env):List Nat->List AVal->Option Env
 | [],[]=>Eb e|t::ts,v::vs=>vz ((t,v,Eh)::e) ts vs|_,_=>Eg
def kQ (xc:XC)(b:Nat)(args:List AVal)(h:qi):Option (AVal×qi):=
 match zi h b with
 |some (.loop l)=>match l.pending,vz (fF l.env) l.params args with
  |none,Eb e=>(match xc l.assign ⟨e,h⟩with
   |some (.normal,st)=>(match zi st.heap b with
    |some (.loop l1)=>bif l1.pending.isNone then(match xc l.body { st with heap:=st.heap.set b (.loop { l1 with pending:=Eb .normal }) }with
     |some (x,bN)=>(match zi bN.heap b with
      |some (.loop l2)=>Eb (.bool (match x with | .normal=>En|_=>Eh),qp h.length (.bool En) (bN.heap.set b (.loop { l2 with pending:=match x with | .normal=>Eg|x=>Eb x })))
      |_=>Eg)
     |none=>Eg)else Eg
    |_=>Eg)
   |_=>Eg)
  |_,_=>Eg
 |_=>Eg
def oB:AVal->Bool
 | .bool _=>En| .int _ _=>En| .str _=>En|_=>Eh
def QV (h:qi):AVal->Option AVal
 | .ms b 0 len=>(match qy h b with
  |some cs=>bif E3 (len*(cs.length / len)) cs.length&&H2 0 (cs.length / len)&&cs.all (fun c=>oB c.1)then Eb (.list Eh (cs.length / len) (nc (cs.length / len) len (cs.map (·.1))))else(bif E3 len 0 then Eb (.list Eh 8 [])else Eg)
  |none=>Eg)
 |v=>Eb v
def xq (h:qi):List AVal->ak AVal
 | []=>Eb []
 |v::vs=>match QV h v,xq h vs with
  |some x,Eb xs=>Eb (x::xs)|_,_=>Eg
def xr:AVal->Bool
 | .agg cs=>cs.all oB|v=>oB v
def EE (v:AVal):AVal:=bif xr v then v else .any
def LH:AVal->Bool->Option (AVal×Bool)
 | .list Eh sz xs,En=>bif (xs.flatMap AVal.flat).all oB then Eb (.list Eh sz xs,En)else Eg| .list En sz [],_=>Eb (.list En sz [],Eh)| .bq vs,_=>Eb (.bq (vs.map EE),Eh)|v,_=>bif xr v then Eb (v,Eh)else Eg
def rK (h0:Nat)(h:qi)(r:Nat):AVal->Bool->Option br
 | .list En sz [],_=>(match aK h0 h r .dead with
  |some h'=>val h' (.list En sz [])
  |none=>Eg)
 | .list Eh sz xs,En=>bif (xs.flatMap AVal.flat).all oB then(match aK h0 h r (.cells (cellsOf (xs.flatMap AVal.flat)))with
  |some h'=>val h' (.ms (h0+r) 0 xs.length)
  |none=>Eg)else Eg
 |_,_=>Eg
def yd (p:j8)(xc:XC)(h0:Nat)(e:Env)(h:qi)(md:eO)(f:jq)(args:List jq):Option br:=
 match qj e f,gE e args with
 |some (.fn (.func k) first captured),Eb vs=>
  (match md with
   | .bZ=>bif qt 0 (first++vs++captured)then(match ae p xc k (first++vs++captured)with
     |some (v,o)=>Eb ⟨v,o,Eg,h⟩
     |none=>Eg)else Eg
   | .ft r=>bif (first++vs++captured).isEmpty then(match p.maps k with
     |some es=>(match aK h0 h r (.map es)with
      |some h'=>val h' (.map (h0+r))
      |none=>Eg)
     |none=>Eg)else bif qt 0 (first++vs++captured)then(match ae p xc k (first++vs++captured)with
     |some (v,o)=>rK h0 h r v o
     |none=>Eg)else Eg
   | .red=>(match xq h (first++vs++captured)with
    |some us=>bif qt 0 us then(match ae p xc k us with
     |some (v,o)=>(match LH v o with
      |some (v',o')=>Eb ⟨v',o',Eg,h⟩
      |none=>Eg)
     |none=>Eg)else Eg
    |none=>Eg)
   | .shr=>(match ai p xc k (first++vs++captured) h with
    |some (v,o,h')=>Eb ⟨v,o,Eg,qp h.length v h'⟩
    |none=>Eg))
 |some (.fn (.yield b) [] []),Eb vs=>
  (match md with
   | .shr=>(match kQ xc b vs h with
    |some (v,h')=>val h' v
    |none=>Eg)
   |_=>Eg)
 |_,_=>Eg
def qg (p:j8)(xc:XC)(h0:Nat)(al:ak Nat)(e:Env)(h:qi)(op:cF):Option br:=
 match op with
 | .call md f args=>yd p xc h0 e h md f args| .load agg n x=>yl h0 al e h (.load agg n x)| .lookup kd z ok m k=>yl h0 al e h (.lookup kd z ok m k)| .alloc r z=>qq h0 al e h (.alloc r z)| .box r n x=>qq h0 al e h (.box r n x)| .cw off x=>qq h0 al e h (.cw off x)| .store n a x=>qq h0 al e h (.store n a x)| .fW r t e'=>qq h0 al e h (.fW r t e')| .eP r=>qq h0 al e h (.eP r)| .mapUpdate kd m k x=>qq h0 al e h (.mapUpdate kd m k x)| .delete kd m k=>qq h0 al e h (.delete kd m k)| .b8 (Eb r) sz b z n c=>qq h0 al e h (.b8 (Eb r) sz b z n c)| .append (Eb r) sz b x y=>qq h0 al e h (.append (Eb r) sz b x y)| .gD r sz b x y=>qq h0 al e h (.gD r sz b x y)| .fL r sz n z ps=>qq h0 al e h (.fL r sz n z ps)| .copy sz x y=>qq h0 al e h (.copy sz x y)| .dD r x=>qq h0 al e h (.dD r x)| .fE it=>qq h0 al e h (.fE it)|op=>qn e h op
def ya (e:Env):Option Nat->Env
 |none=>e
 |some s=>match jm s e with
  |some (v,_)=>(s,v,Eh)::e|none=>e
def oC (e:Env)(d:Option Nat)(v:AVal)(o:Bool):Env:=
 match d with
 |some d=>(d,v,o)::e|none=>e
def nH (e:Env):Option (Nat×Bool)->Option Bool
 |none=>Eb En
 |some (s,want)=>match jm s e with
  |some (.bool b,_)=>Eb (b == want)|some (.undef,_)=>Eb Eh|_=>Eg
def ye (p:j8)(xc:XC)(h0:Nat)(o:bT)(st:bj):Option bj:=
 match nH st.env o.guard with
 |some En=>(match qg p xc h0 o.al st.env st.heap o.op with
  |some r=>Eb ⟨oC (ya st.env r.strip) o.dst r.v r.own,r.heap⟩
  |none=>Eg)
 |some Eh=>Eb ⟨oC st.env o.dst .undef Eh,st.heap⟩|none=>Eg
def fH (p:j8)(xc:XC)(h0:Nat):List bT->bj->Option bj
 | [],st=>Eb st
 |o::os,st=>match ye p xc h0 o st with
  |some bN=>fH p xc h0 os bN|none=>Eg
def Ad (st:bj):ak Nat->bj
 |none=>st|some l=>{ st with env:=rG st.env l }
def lI (p:j8)(xc:XC)(na:Nat)(ops:List bT)(keep:ak Nat)(st:bj):Option (jc×bj):=
 match fH p xc st.heap.length ops { st with heap:=st.heap++E4 na .hole }with
 |some bN=>Eb (.normal,Ad bN keep)|none=>Eg
def lJ (p:j8)(xc:XC)(f:jq)(params:List Nat)(assign body:aQ)(st:bj):Option (jc×bj):=
 bif zu assign&&zu body then
  match qj st.env f with
  |some (.fn (.func k) first captured)=>
   (match ai p xc k (first++[.fn (.yield st.heap.length) [] []]++captured) (st.heap++[.loop ⟨st.env,params,assign,body,Eg⟩])with
    |some (_,_,h')=>(match zi h' st.heap.length with
     |some (.loop l)=>bif qr st.heap.length (h'.take st.heap.length)then
       (match l.pending with
       |none=>Eb (.normal,{ st with heap:=h'.take st.heap.length })|some .normal=>Eg
       |some x=>Eb (x,{ st with heap:=h'.take st.heap.length }))else Eg
     |_=>Eg)
    |none=>Eg)
  |_=>Eg
 else Eg
def aC (p:j8):Nat->XC
 |0,_,_=>Eg
 |n+1,c,st=>match c with
  | .skip=>Eb (.normal,st)| .region na ops keep=>lI p (aC p n) na ops keep st
  | .seq a b=>match aC p n a st with
   |some (.normal,bN)=>aC p n b bN|r=>r
  | .cond c a b=>match qj st.env c with
   |some (.bool t)=>bif t then aC p n a st else aC p n b st|_=>Eg
  | .block id body=>match aC p n body st with
   |some (.exit fI,bN)=>bif E3 fI id then Eb (.normal,bN)else Eb (.exit fI,bN)|r=>r
  | .loop body=>match aC p n body st with
   |some (.normal,bN)=>aC p n (.loop body) (gc st.heap.length bN)|r=>r
  | .rangeFunc f params assign body=>lJ p (aC p n) f params assign body st| .exit id=>Eb (.exit id,st)| .ret=>Eb (.ret,st)
  | .grow sz=>match jm 0 st.env,jm 1 st.env with
   |some (.list En _ _,_),Eb (.int .i64 (.ofNat m),_)=>bif H2 0 m&&E9 m 1073741824 then Eb (.normal,{ st with env:=[(0,.list Eh sz [],En)] })else Eg|_,_=>Eg
  | .stuck=>Eg
structure jt where
 takes:List Nat:=[]
 fZ:List Nat:=[]
 vA:List (Nat×Nat):=[]
 shr:List (Nat×Nat):=[]
 ft:List (Nat×Nat):=[]
 red:List (Nat×Nat):=[]
 keep:List (Nat×List Nat):=[]
 vl:List Nat:=[]
 vec:List Nat:=[]
 ex:List ((Nat×Nat)×Nat):=[]
 deriving Inhabited
def EF:Value->Option AVal
 | .bool b=>Eb (.bool b)| .int k n=>Eb (.int k n)| .string s=>Eb (.str s.data.toList)| .slice Eg 0 0=>Eb (.list En 0 [])| .pointer Eg=>Eb .cC| .map Eg=>Eb .cD| .nilFunc=>Eb .cO|_=>Eg
def vB:List Value->ak AVal
 | []=>Eb []
 |v::vs=>match EF v with
  |some x=>match vB vs with
   |some xs=>Eb (x::xs)|none=>Eg
  |none=>Eg
def ofValue:Value->Option AVal
 | .agg cs=>match vB cs.toList with
  |some xs=>Eb (.agg xs)|none=>Eg
 |v=>EF v
def qv:Operand->Option jq
 | .tmp t=>Eb (.tmp t)
 | .const v=>match ofValue v with
  |some x=>Eb (.const x)|none=>Eg
 | .func f=>Eb (.const (.fn (.func f) [] []))| .global _=>Eg
def qF:List Operand->ak jq
 | []=>Eb []
 |x::xs=>match qv x with
  |some y=>match qF xs with
   |some ys=>Eb (y::ys)|none=>Eg
  |none=>Eg
def nI:Option Operand->Option (Option jq)
 |none=>Eb Eg
 |some x=>match qv x with
  |some y=>Eb (Eb y)|none=>Eg
def yq (P:Program)(t:TypeId):Option Bool:=
 match P.underlying t with
 |some (.struct _)=>Eb En|some (.array _ _)=>Eb En|some _=>Eb Eh|none=>Eg
def jp (P:Program)(t:TypeId):Option Nat:=(P.info? t).map (·.size)
def oD (P:Program)(t:TypeId):Option Nat:=(P.info? t).map (·.bytes)
def yu (P:Program)(t:TypeId):ak AVal:=
 match P.info? t with
 |some i=>match i.zero with
  |some z=>vB z.cells.toList|none=>Eg
 |none=>Eg
def QW (P:Program)(t:TypeId):Option TypeId:=
 match P.underlying t with
 |some (.struct fs)=>match fs.toList with
  | [f0,f1]=>match P.underlying f0.type,P.underlying f1.type with
   |some (.pointer t'),Eb (.slice e)=>match P.underlying e,yu P t with
    |some (.int .u8),Eb [.cC,.list En _ []]=>if t' == t then Eb e else Eg
    |_,_=>Eg
   |_,_=>Eg
  |_=>Eg
 |_=>Eg
def QX (P:Program)(t:TypeId):Option AVal:=
 match P.info? t with
 |some i=>match i.zero with
  |some z=>ofValue z|none=>Eg
 |none=>Eg
def GM (g:TypeId->ak Kd):Nat->List Field->ak Kd
 |_,[]=>Eb []
 | off, f :: fs => if f.name != "_" && f.offset == off then (match g f.type with
   |some ks=>(match GM g (off+ks.length) fs with
    |some r=>Eb (ks++r)
    |none=>Eg)
   |none=>Eg)else Eg
def rL (P:Program):Nat->TypeId->ak Kd
 |0,_=>Eg
 |n+1,t=>match P.underlying t with
  |some (.int _)=>if jp P t == Eb 1 then Eb [.int]else Eg
  |some .string=>if jp P t == Eb 1 then Eb [.str]else Eg
  |some .bool=>if jp P t == Eb 1 then Eb [.bool]else Eg
  |some (.struct fs)=>(match GM (rL P n) 0 fs.toList with
   |some ks=>if !P.stoodInHeld t&&jp P t == Eb ks.length then Eb ks else Eg
   |none=>Eg)
  |some (.array len e)=>(match rL P n e with
   |some ks=>if jp P t == Eb (len*ks.length)then Eb (E4 len ks).flatten else Eg
   |none=>Eg)
  |_=>Eg
def LI:Nat:=12
def kT (P:Program)(t:TypeId):Option Kd:=
 match P.underlying t with
 |some (.int _)=>Eb .int|some .string=>Eb .str|some .bool=>Eb .bool|_=>Eg
def EG (P:Program)(op:BinOp)(neq:Bool)(t:TypeId)(x y:Operand):Option cF:=
 match P.underlying t with
 |some (.int _)|some .string=>match qv x,qv y with
  |some a,Eb b=>Eb (.bin op a b)|_,_=>Eg
 |some .bool=>match qv x,qv y with
  |some a,Eb b=>Eb (.beq neq a b)|_,_=>Eg
 |some (.struct _)|some (.array _ _)=>
  if !P.eqGuardType P.depth t then match rL P LI t,qv x,qv y with
   |some ks,Eb a,Eb b=>Eb (.eqs ks neq a b)|_,_,_=>Eg
  else Eg
 |some (.slice _)=>match y with
  | .const (.slice Eg 0 0)=>(qv x).map (.fD 0 neq)|_=>Eg
 |some (.pointer _)=>match y with
  | .const (.pointer Eg)=>(qv x).map (.fD 1 neq)|_=>Eg
 |some (.map _ _)=>match y with
  | .const (.map Eg)=>(qv x).map (.fD 2 neq)|_=>Eg
 |some (.func _ _ _)=>match y with
  | .const .nilFunc=>(qv x).map (.fD 3 neq)|_=>Eg
 |_=>Eg
def QY (P:Program)(op:BinOp)(t:TypeId)(x y:Operand):Option cF:=
 match op with
 | .eql=>EG P .eql Eh t x y| .neq=>EG P .neq En t x y
 |op=>match qv x,qv y with
  |some a,Eb b=>Eb (.bin op a b)|_,_=>Eg
def xt (P:Program)(place:Nat->Option (Nat×Nat)):List (Nat×Operand)->Option (List (Nat×Nat×jq))
 | []=>Eb []
 |(i,x)::ps=>match place i,qv x,xt P place ps with
  |some (off,n),Eb y,Eb r=>Eb ((off,n,y)::r)|_,_,_=>Eg
def xu:List (Nat×Operand)->Option (List (Nat×jq))
 | []=>Eb []
 |(i,x)::ps=>match qv x,xu ps with
  |some y,Eb r=>Eb ((i,y)::r)|_,_=>Eg
def XW (h:jt)(dst:Option Nat)(x:Operand):Option Nat:=
 match x,dst with
 | .tmp s,Eb d=>if h.takes.contains d then Eb s else Eg
 |_,_=>Eg
def Ae:TypeDesc->Bool
 | .slice _=>En| .string=>En|_=>Eh
def eO.at (r:Nat):eO->eO
 | .ft _=>.ft r|m=>m
def Af (P:Program)(h:jt)(md:eO)(r:Nat)(dst:Option Nat)(c:Call):Option cF:=
 match c.callee with
 | .value f=>match qv f,qF c.args.toList with
  |some f,Eb args=>Eb (.call (md.at r) f args)|_,_=>Eg
 | .builtin .len=>match c.args.toList,c.argTypes.toList with
  | [x],[t]=>match P.underlying t with
   |some .string=>(qv x).map (.len 0)|some (.slice _)=>(qv x).map (.len 1)|_=>Eg
  |_,_=>Eg
 | .builtin .cap=>match c.args.toList,c.argTypes.toList with
  | [x],[t]=>match P.underlying t with
   |some (.slice _)=>(qv x).map (.len 2)|_=>Eg
  |_,_=>Eg
 | .builtin .append=>match c.args.toList,c.argTypes.toList with
  | [x,y],[t,u]=>match P.underlying t,P.underlying u with
   |some (.slice e),Eb ut=>if Ae ut&&(yu P e).map (·.length) == jp P e then match jp P e,oD P e,qv x,qv y with
     |some sz,Eb b,Eb x,Eb y=>Eb (if(dst.map (h.vec.contains ·)).getD Eh then .gD r sz b x y else .append (if(dst.map (h.fZ.contains ·)).getD Eh then Eb r else Eg) sz b x y)|_,_,_,_=>Eg
    else Eg
   |_,_=>Eg
  |_,_=>Eg
 | .builtin .copy=>match c.args.toList,c.argTypes.toList with
  | [x,y],t::_=>match P.underlying t with
   |some (.slice e)=>match jp P e,qv x,qv y with
    |some sz,Eb x,Eb y=>Eb (.copy sz x y)|_,_,_=>Eg
   |_=>Eg
  |_,_=>Eg
 | .builtin .delete=>match c.args.toList,c.argTypes.toList with
  | [m,k],t::_=>match P.underlying t with
   |some (.map kt _)=>match kT P kt,qv m,qv k with
    |some kd,Eb m,Eb k=>Eb (.delete kd m k)|_,_,_=>Eg
   |_=>Eg
  |_,_=>Eg
 | .builtin .max=>(qF c.args.toList).map .mx| .builtin .min=>(qF c.args.toList).map .mn|_=>Eg
def GN : List (String × List Int) := [("woofer/network.none", [0, 0]), ("woofer/network.one", [1, 0]), ("woofer/network.turns", [1, 0, 0, 1, -1, 0, 0, -1])]
def GO (P:Program)(g:Nat):List (String×List Int)->ak Int
 | []=>Eg
 |(n,cs)::l=>if P.globalNamed n == Eb g then Eb cs else GO P g l
def LJ (P:Program)(t:TypeId)(g:Nat):Option cF:=match GO P g GN,yq P t,jp P t with
 |some cs,Eb En,Eb n=>if cs.length == n then Eb (.move (.const (.agg (cs.map (AVal.int .i64)))))else Eg
 |_,_,_=>Eg
def LK (h:jt):jq->Option Nat
 | .tmp s=>if h.vl.contains s then Eb s else Eg
 |_=>Eg
def cT (P:Program)(h:jt)(md:eO)(r:Nat)(dst:Option Nat):Op->Option cF
 | .move x=>match XW h dst x with
  |some s=>Eb (.take s)|none=>(qv x).map .move
 | .assign (.tmp s)=>Eb (.take s)| .assign x=>(qv x).map .move
 | .pick c a b=>match qv c,qv a,qv b with
  |some c,Eb a,Eb b=>Eb (.pick c a b)|_,_,_=>Eg
 | .alloc t=>match QW P t with
  |some e=>Eb (.fW r t e)
  |none=>bif (dst.map (h.vl.contains ·)).getD Eh then(match yu P t with
   |some z=>bif z.all qm then Eb (.gC z.length)else Eg
   |none=>Eg)else(yu P t).map (.alloc r)
 | .box t x=>match jp P t,qv x with
  |some n,Eb x=>Eb (bif (dst.map (h.vl.contains ·)).getD Eh then .kN n x else .box r n x)|_,_=>Eg
 | .build t ps=>match P.underlying t,yu P t with
  |some (.struct fs),Eb z=>if fs.toList.all (fun f=>(jp P f.type).isSome)then(xt P (fun i=>match fs[i]? with
    |some f=>(jp P f.type).map fun n=>(f.offset,n)
    |none=>Eg) ps.toList).map (.build z)else Eg
  |some (.array _ e),Eb z=>match jp P e with
   |some n=>(xt P (fun i=>Eb (i*n,n)) ps.toList).map (.build z)|none=>Eg
  |_,_=>Eg
 | .buildSlice t n ps=>match P.underlying t with
  |some (.slice e)=>match jp P e,yu P e,yq P e,xu ps.toList with
   |some sz,Eb z,Eb ag,Eb es=>if sz*n<=65536&&0<sz&&z.length == sz&&(ag||sz == 1)&&(!ag||sz != 1)then Eb (if(dst.map (h.vec.contains ·)).getD Eh then .fL r sz n z es else .buildSlice sz n z es)else Eg
   |_,_,_,_=>Eg
  |_=>Eg
 | .load t (.global g)=>LJ P t g
 | .load t x=>match yq P t,jp P t,qv x with
  |some Eh,Eb 1,Eb x=>if(dst.map (h.takes.contains ·)).getD Eh then Eb (.cw ((dst.bind fun d=>h.vA.find? fun y=>y.1 == d).map (·.2)) x)else Eb (bif (dst.map (h.vl.contains ·)).getD Eh then .eV Eh 1 x else .load Eh 1 x)
  |some En,Eb n,Eb x=>Eb (bif (dst.map (h.vl.contains ·)).getD Eh then .eV En n x else .load En n x)|_,_,_=>Eg
 | .store t a v=>match jp P t,qv a,qv v with
  |some n,Eb a,Eb v=>Eb (match LK h a with
   |some s=>.dq n s v
   |none=>.store n a v)
  |_,_,_=>Eg
 | .nilCheck x=>(qv x).map .nilCheck| .binOp op t x y _=>QY P op t x y| .unOp op _ x=>(qv x).map (.un op)
 | .convert s d x=>match P.underlying s,P.underlying d with
  |some (.int _),Eb (.int k)=>(qv x).map (.conv k)|some .string,Eb .string=>(qv x).map .eG|some (.int _),Eb .string=>(qv x).map .eG
  |some (.slice e),Eb .string=>(match P.underlying e with
   |some (.int .u8)=>(qv x).map .fX
   |_=>Eg)
  |_,_=>Eg
 | .makeFunc f a b=>match f with
  | .func k=>match qF a.toList,qF b.toList with
   |some a,Eb b=>Eb (.eX (.func k) a b)|_,_=>Eg
  |_=>Eg
 | .makeMap t Eg=>match P.underlying t with
  |some (.map _ _)=>Eb (.eP r)|_=>Eg
 | .makeSlice t n c=>match P.underlying t with
  |some (.slice e)=>match jp P e,oD P e,yu P e,yq P e,qv n,qv c with
   |some sz,Eb b,Eb z,Eb ag,Eb n,Eb c=>
    if(ag||sz == 1)&&(!ag||sz != 1)then Eb (.b8 (if(dst.map (h.fZ.contains ·)).getD Eh then Eb r else Eg) sz b z n c)else Eg
   |_,_,_,_,_,_=>Eg
  |_=>Eg
 | .slice t x lo hi Eg=>match qv x,nI lo,nI hi with
  |some x,Eb lo,Eb hi=>match P.underlying t with
   |some .string=>Eb (.dI x lo hi)
   |some (.slice e)=>(jp P e).map fun sz=>.slice sz x lo hi
   |some (.array n e)=>(jp P e).map fun sz=>.fY n sz x lo hi
   |_=>Eg
  |_,_,_=>Eg
 | .fieldAddr t x i=>match P.underlying t with
  |some (.struct fs)=>match fs[i]? with
   |some f=>match yq P f.type,jp P f.type,qv x with
    |some ag,Eb n,Eb x=>if 0<n&&(ag||n == 1)then Eb (.fieldAddr ag f.offset n x)else Eg
    |_,_,_=>Eg
   |none=>Eg
  |_=>Eg
 | .field t x i=>match P.underlying t with
  |some (.struct fs)=>match fs[i]? with
   |some f=>match yq P f.type,jp P f.type,qv x with
    |some ag,Eb n,Eb x=>Eb (.field ag f.offset n x)|_,_,_=>Eg
   |none=>Eg
  |_=>Eg
 | .indexAddr t x i=>match qv x,qv i with
  |some x,Eb i=>match P.underlying t with
   |some (.slice e)=>match jp P e with
    |some sz=>if 0<sz then Eb (.indexAddr sz x i)else Eg
    |none=>Eg
   |some (.array n e)=>match jp P e,yq P e with
    |some sz,Eb ag=>if 0<sz&&(ag||sz == 1)then Eb (.eW ag n sz x i)else Eg
    |_,_=>Eg
   |_=>Eg
  |_,_=>Eg
 | .index t x i=>match qv x,qv i with
  |some x,Eb i=>match P.underlying t with
   |some .string=>Eb (.dH x i)
   |some (.array n e)=>match jp P e,yq P e with
    |some sz,Eb ag=>Eb (.index ag n sz x i)|_,_=>Eg
   |_=>Eg
  |_,_=>Eg
 | .lookup t m k ok=>match P.underlying t with
  |some (.map kt e)=>match kT P kt,QX P e,qv m,qv k with
   |some kd,Eb z,Eb m,Eb k=>Eb (.lookup kd z ok m k)|_,_,_,_=>Eg
  |_=>Eg
 | .mapUpdate t m k v=>match P.underlying t with
  |some (.map kt _)=>match kT P kt,qv m,qv k,qv v with
   |some kd,Eb m,Eb k,Eb v=>Eb (.mapUpdate kd m k v)|_,_,_,_=>Eg
  |_=>Eg
 | .insert t m k v=>match P.underlying t with
  |some (.map kt _)=>match kT P kt,qv m,qv k,qv v with
   |some kd,Eb m,Eb k,Eb v=>Eb (.mapUpdate kd m k v)|_,_,_,_=>Eg
  |_=>Eg
 | .range t x=>match P.underlying t with
  |some .string=>(qv x).map (.dD r)|_=>Eg
 | .next it En=>(qv it).map .fE
 | .extract x i=>(qv x).map fun x=>.extract x i
 | .call c=>Af P h md r dst c|_=>Eg
def cF.makes:cF->Bool
 | .alloc ..=>En| .box ..=>En| .fW ..=>En| .eP ..=>En| .b8 (Eb _) ..=>En| .append (Eb _) ..=>En| .gD ..=>En| .fL ..=>En| .dD ..=>En| .call (.ft _) ..=>En|_=>Eh
def cF.ij:cF->Option Nat
 | .dq _ s _=>Eb s|_=>Eg
def cF.rM (d:Option Nat):cF->Option Nat
 | .dq _ s _=>Eb s|_=>d
def Ag (ops:Array Oper):Option (Nat×Bool)->Option (Option (Nat×Bool))
 |none=>Eb Eg
 |some (j,b)=>match(ops[j]?).bind (·.dst)with
  |some d=>Eb (Eb (d,b))|none=>Eg
def QZ (h:jt)(id i:Nat):eO:=if h.shr.contains (id,i)then .shr else if h.ft.contains (id,i)then .ft 0 else if h.red.contains (id,i)then .red else .bZ
def GQ (P:Program)(h:jt)(nt:Nat)(id:Nat)(ops:Array Oper)(eF:Array Nat)(draw:Bool):List Oper->Nat->List (Nat×Nat)->Option (List bT×List (Nat×Nat))
 | [],_,rs=>Eb ([],rs)
 |o::os,i,rs=>
  match(cT P h (QZ h id i) rs.length o.dst o.op).getD .bad,Ag ops o.guard with
  |a,Eb g=>
   if(o.dst.map (decide <| · < nt)).getD En&&(a.ij.map (decide <| · < nt)).getD En&&(a.ij.isNone||(o.dst.isNone&&o.guard.isNone))then
    let EH:=if a.makes then(i,rs.length)::rs else rs
    let al:=if draw then(match h.ex.find? fun x=>x.1 == (id,i)with
     |some x=>Eb [x.2]
     |none=>Eb ((rs.filter fun x=>(eF.getD i 0).testBit x.1).map (·.2)))else Eg
    match GQ P h nt id ops eF draw os (i+1) EH with
    |some (l,Q0)=>Eb (⟨a.rM o.dst,a,g,al⟩::l,Q0)|none=>Eg
   else Eg
  |_,_=>Eg
def zb:jq->List Nat
 | .tmp t=>[t]| .const _=>[]
def xw (l:List jq):List Nat:=l.flatMap zb
def Ah:Option jq->List Nat
 |some x=>zb x|none=>[]
def cF.reads:cF->List Nat
 | .move x=>zb x| .take s=>[s]| .pick c a b=>zb c++zb a++zb b| .alloc _ _=>[]| .box _ _ x=>zb x| .kN _ x=>zb x| .gC _=>[]| .dq _ s x=>s::zb x| .fW _ _ _=>[]
 | .build _ ps=>ps.flatMap fun p=>zb p.2.2
 | .buildSlice _ _ _ ps=>ps.flatMap fun p=>zb p.2
 | .load _ _ x=>zb x| .eV _ _ x=>zb x| .cw _ x=>zb x| .store _ a v=>zb a++zb v| .nilCheck x=>zb x| .bin _ x y=>zb x++zb y| .eqs _ _ x y=>zb x++zb y| .beq _ x y=>zb x++zb y| .fD _ _ x=>zb x| .un _ x=>zb x| .conv _ x=>zb x| .eG x=>zb x| .fX x=>zb x| .field _ _ _ x=>zb x| .index _ _ _ x i=>zb x++zb i| .dH x i=>zb x++zb i| .fieldAddr _ _ _ x=>zb x| .indexAddr _ x i=>zb x++zb i| .eW _ _ _ x i=>zb x++zb i| .slice _ x lo hi=>zb x++Ah lo++Ah hi| .dI x lo hi=>zb x++Ah lo++Ah hi| .fY _ _ x lo hi=>zb x++Ah lo++Ah hi| .eX _ a b=>xw a++xw b| .eP _=>[]| .lookup _ _ _ m k=>zb m++zb k| .mapUpdate _ m k v=>zb m++zb k++zb v| .delete _ m k=>zb m++zb k| .b8 _ _ _ _ n c=>zb n++zb c| .len _ x=>zb x| .append _ _ _ x y=>zb x++zb y| .gD _ _ _ x y=>zb x++zb y
 | .fL _ _ _ _ ps=>ps.flatMap fun p=>zb p.2
 | .copy _ x y=>zb x++zb y| .mx l=>xw l| .mn l=>xw l| .extract x _=>zb x| .call _ f l=>zb f++xw l| .dD _ x=>zb x| .fE x=>zb x| .bad=>[]
def cF.fM:cF->List Nat
 | .take s=>[s]| .append _ _ _ x _=>zb x| .store _ _ v=>zb v|_=>[]
def bT.reads (o:bT):List Nat:=o.op.reads++(match o.guard with|some g=>[g.1]|none=>[])
def bT.writes (o:bT):List Nat:=o.dst.toList++o.op.fM
inductive Ai where
 |pure|read|write|alloc|take|ft|shr|oE
 deriving DecidableEq,Inhabited
def cF.cl:cF->Ai
 | .load ..=>.read| .lookup ..=>.read| .alloc ..=>.alloc| .box ..=>.alloc| .fW ..=>.alloc| .eP ..=>.alloc| .b8 (Eb _) ..=>.alloc| .append (Eb _) ..=>.alloc| .dD ..=>.alloc| .cw Eg _=>.write| .cw (Eb _) _=>.take| .store ..=>.write| .mapUpdate ..=>.write| .delete ..=>.write| .copy ..=>.write| .fE ..=>.write| .call .bZ ..=>.pure| .call (.ft _) ..=>.alloc| .call .shr ..=>.shr| .call .red ..=>.shr| .gD ..=>.oE| .fL ..=>.shr|_=>.pure
def cF.cX:cF->Nat
 | .alloc r _=>r| .box r _ _=>r| .fW r _ _=>r| .eP r=>r| .b8 (Eb r) ..=>r| .append (Eb r) ..=>r| .dD r _=>r| .call (.ft r) ..=>r| .cw (Eb o) _=>o| .gD r sz ..=>r+1000*sz|_=>0
def nJ (al:ak Nat)(r:Nat):Bool:=match al with
 |none=>En|some l=>bif oA l then E3 (l.headD 0) (2000+r)else l.contains r
def EI (a b:ak Nat):Bool:=match a,b with
 |some l,Eb m=>bif oA l then(bif oA m then !(E3 (l.headD 0) (m.headD 0))&&H2 (l.headD 0) 4000&&H2 (m.headD 0) 4000 else E9 2000 (l.headD 0)&&H2 (l.headD 0) 4000&&!(m.contains (l.headD 0-2000)))else oA m&&E9 2000 (m.headD 0)&&H2 (m.headD 0) 4000&&!(l.contains (m.headD 0-2000))|_,_=>Eh
def Ai.box:Ai->Bool
 | .read=>En| .write=>En| .take=>En|_=>Eh
def Q5 (a b:bT):Bool:=(a.op.cl.box&&b.op.cl.box&&EI a.al b.al) ||
  (match a.op.cl,b.op.cl with
 | .pure,_=>En|_,.pure=>En| .read,.read=>En| .read,.ft=>En| .ft,.read=>En| .ft,.ft=>En| .alloc,.alloc=>a.op.cX != b.op.cX| .alloc,.read=>!nJ b.al a.op.cX| .alloc,.write=>!nJ b.al a.op.cX| .alloc,.take=>!nJ b.al a.op.cX| .take,.alloc=>!nJ a.al b.op.cX| .take,.take=>a.op.cX != b.op.cX| .read,.alloc=>!nJ a.al b.op.cX| .write,.alloc=>!nJ a.al b.op.cX| .oE,.oE=>a.op.cX % 1000 != b.op.cX % 1000&&a.op.cX / 1000 != b.op.cX / 1000| .oE,.read=>po b.al| .oE,.write=>po b.al| .oE,.take=>po b.al| .read,.oE=>po a.al| .write,.oE=>po a.al| .take,.oE=>po a.al
 |_,_=>Eh)
def GR (a b:List Nat):Bool:=a.all fun x=>!b.contains x
def Aj (a b:bT):Bool:=
 Q5 a b&&GR a.writes b.reads&&GR a.writes b.writes&&GR b.writes a.reads
def Q6 (eF:Array Nat)(l:List bT):Bool:=
 (l.zipIdx).all fun(b,j)=>(l.zipIdx).all fun(a,i)=>!(decide (i<j))||(eF.getD j 0).testBit i||Aj a b
def Q7 (ops:Array Oper):Bool:=ops.toList.zipIdx.all fun(o,i)=>o.after.all fun e=>!Region.binds .any e||decide (e.on<i)
def Q8 (eF:Array Nat)(ops:Array Oper):Bool:=
 ops.toList.zipIdx.all fun(o,i)=>(List.range ops.size).all fun j=>!((eF.getD i 0).testBit j)||o.after.any fun e=>Region.binds .any e&&(e.on == j||(eF.getD e.on 0).testBit j)
def GU (P:Program)(h:jt)(nt:Nat)(id:Nat)(ops:Array Oper)(draw:Bool):Option aQ:=
 match GQ P h nt id ops (Region.before ops) draw ops.toList 0 []with
 |some (l,rs)=>
  if !draw||(Q6 (Region.before ops) l&&Q7 ops&&Q8 (Region.before ops) ops)then
   Eb (.region rs.length l ((h.keep.find? fun x=>x.1 == id).map (·.2)))
  else Eg
 |none=>Eg
def EJ (s d:Nat)(o:Oper):Bool:=match o.op,o.dst,o.guard with
 | .move (.tmp s'),Eb d',Eg=>s' == s&&d' == d|_,_,_=>Eh
def Q9 (s d:Nat)(o:Oper):Bool:=match o.op,o.dst,o.guard with
 | .assign (.tmp s'),Eb d',Eg=>s' == s&&d' == d|_,_,_=>Eh
def Ra (x d:Nat)(o:Oper):Option TypeId:=match o.op,o.dst,o.guard with
 | .call c,Eb d',Eg=>match c.callee,c.args.toList,c.argTypes.toList with
  | .builtin .cap,[.tmp x'],[t]=>if x' == x&&d' == d then Eb t else Eg
  |_,_,_=>Eg
 |_,_,_=>Eg
def Rb (x d:Nat)(o:Oper):Option TypeId:=match o.op,o.dst,o.guard with
 | .call c,Eb d',Eg=>match c.callee,c.args.toList,c.argTypes.toList with
  | .builtin .len,[.tmp x'],[t]=>if x' == x&&d' == d then Eb t else Eg
  |_,_,_=>Eg
 |_,_,_=>Eg
def LL (x h d:Nat)(o:Oper):Option TypeId:=match o.op,o.dst,o.guard with
 | .slice t (.tmp x') Eg (Eb (.tmp h')) Eg,Eb d',Eg=>if x' == x&&h' == h&&d' == d then Eb t else Eg
 |_,_,_=>Eg
def Rc (x y d:Nat)(o:Oper):Option (TypeId×TypeId):=match o.op,o.dst,o.guard with
 | .call c,Eb d',Eg=>match c.callee,c.args.toList,c.argTypes.toList with
  | .builtin .append,[.tmp x',.tmp y'],[t,u]=>if x' == x&&y' == y&&d' == d then Eb (t,u)else Eg
  |_,_,_=>Eg
 |_,_,_=>Eg
def XX (ops:Array Oper):Option (TypeId×TypeId):=match ops.toList with
 | [o0,o1,o2,o3,o4,o5,o6,o7,o8,o9]=>match Ra 18 19 o2,LL 17 19 20 o3,Rc 20 21 22 o5,Rb 23 24 o7,LL 22 24 25 o8 with
  |some t2,Eb t3,Eb (t,u),Eb t7,Eb t8=>if EJ 0 17 o0&&EJ 0 18 o1&&EJ 1 21 o4&&EJ 0 23 o6&&Q9 25 0 o9&&t2 == t&&t3 == t&&t7 == t&&t8 == t then Eb (t,u)else Eg
  |_,_,_,_,_=>Eg
 |_=>Eg
def GV (P:Program)(nt:Nat)(ops:Array Oper):Option Nat:=match XX ops with
 |some (t,u)=>match P.underlying t,P.underlying u with
  |some (.slice e),Eb (.int _)=>match P.info? e with
   |some i=>if i.zero.isSome&&0<i.size&&i.bytes<=4096&&26<=nt&&(yu P e).isSome&&(yu P e).map (·.length) == Eb i.size then Eb i.size else Eg
   |none=>Eg
  |_,_=>Eg
 |none=>Eg
def gX (P:Program)(h:jt)(nt:Nat):Code->Option aQ
 | .skip=>Eb .skip| .label _=>Eb .skip
 | .region id ops draw=>match draw,GV P nt ops with
  |false,Eb sz=>Eb (.grow sz)|_,_=>GU P h nt id ops draw
 | .seq a b=>match gX P h nt a,gX P h nt b with
  |some x,Eb y=>Eb (.seq x y)|_,_=>Eg
 | .cond c a b=>match qv c,gX P h nt a,gX P h nt b with
  |some c,Eb x,Eb y=>Eb (.cond c x y)|_,_,_=>Eg
 | .block id b=>(gX P h nt b).map (.block id)| .loop b=>(gX P h nt b).map .loop
 | .scope b=>(gX P h nt b).map fun x=>.seq x .skip
 | .rangeFunc f ps a b=>match qv f,gX P h nt a,gX P h nt b with
  |some f,Eb x,Eb y=>if ps.all (decide <| · < nt)then Eb (.rangeFunc f ps.toList x y)else Eg
  |_,_,_=>Eg
 | .exit id=>Eb (.exit id)| .ret=>Eb .ret|_=>Eb .stuck
def LM (P:Program):ResultVar->Option nF
 | .tmp t=>Eb (.tmp t)
 | .cell t ty=>match yq P ty,jp P ty with
  |some En,Eb n=>Eb (.cell t En n)|some Eh,Eb 1=>Eb (.cell t Eh 1)|_,_=>Eg
def vC (P:Program):List ResultVar->ak nF
 | []=>Eb []
 |r::rs=>match LM P r,vC P rs with
  |some x,Eb xs=>Eb (x::xs)|_,_=>Eg
def xy (P:Program)(h:jt)(f:Func):Option iC:=
 match f.body with
 |some c=>match gX P h f.ntmps c,vC P f.results.toList with
  | some b, Eb rs => if f.name == "runtime.NumGoroutine" then Eg else Eb ⟨f.ntmps, b, rs⟩
  |_,_=>Eg
 |none=>Eg
structure aM where
 K:Nat->Nat->Option Value
 β:Nat->Option Nat
 W:Nat->Prop
 D:Nat->Prop
 T:Nat×Nat×Nat×Nat->Prop
def aM.bZ (K:Nat->Nat->Option Value):aM:=⟨K,fun _=>Eg,fun _=>False,fun _=>False,fun _=>False⟩
def fJ (C:aM):Fn->Fn->Prop
 | .yield b,f=>∃r,C.β b=Eb r/\f=.yield r|f,f'=>f'=f
inductive lK where
 |val (x:AVal) (v:Value)
 |cells (r:Nat) (xs:List AVal) (o:Nat)
 |row (r sz:Nat) (xs:List AVal) (o:Nat)
 |vD (xs:List AVal) (vs:List Value)
inductive aJ (C:aM):lK->Prop where
 |bool (b:Bool):aJ C (.val (.bool b) (.bool b))
 |int (k:IntKind) (n:Int):aJ C (.val (.int k n) (.int k n))
 |str (s:aj):aJ C (.val (.str s) (.string ⟨⟨s⟩⟩))
 |iZ (sz:Nat):aJ C (.val (.list En sz []) (.slice Eg 0 0))
 |list (sz:Nat) (xs:List AVal) (r o cap:Nat) (hl:xs.length<=cap) (Q:aJ C (.row r sz xs o)):aJ C (.val (.list Eh sz xs) (.slice (Eb ⟨r,o,Eg⟩) xs.length cap))
 |jA (sz:Nat) (a:Addr) (G:a.spot≠Eg):aJ C (.val (.list Eh sz []) (.slice (Eb a) 0 0))
 |ms (b o len r cap:Nat) (hb:C.β b=Eb r) (hl:len<=cap):aJ C (.val (.ms b o len) (.slice (Eb ⟨r,o,Eg⟩) len cap))
 |ptr (b o r:Nat) (hb:C.β b=Eb r):aJ C (.val (.ptr b o) (.pointer (Eb ⟨r,o,Eg⟩)))
 |aq (x:AVal) (r o:Nat) (h:aJ C (.cells r x.flat o)):aJ C (.val (.aq x) (.pointer (Eb ⟨r,o,Eg⟩)))
 |cC:aJ C (.val .cC (.pointer Eg))
 |map (b r:Nat) (hb:C.β b=Eb r):aJ C (.val (.map b) (.map (Eb r)))
 |cD:aJ C (.val .cD (.map Eg))
 |fn (f f':Fn) (a b:List AVal) (as bs:List Value) (hf:fJ C f f') (ha:aJ C (.vD a as)) (hb:aJ C (.vD b bs)):aJ C (.val (.fn f a b) (.func f' ⟨as⟩ ⟨bs⟩))
 |cO:aJ C (.val .cO .nilFunc)
 |agg (cs:List AVal) (vs:List Value) (h:aJ C (.vD cs vs)):aJ C (.val (.agg cs) (.agg ⟨vs⟩))
 |bq (cs:List AVal) (vs:List Value) (h:aJ C (.vD cs vs)):aJ C (.val (.bq cs) (.tuple ⟨vs⟩))
 |undef:aJ C (.val .undef (.tuple #[]))
 |any (v:Value):aJ C (.val .any v)
 |dG (n:Nat) (a:Addr):aJ C (.val (.dG n) (.pointer (Eb a)))
 |az (b bO len r0 r cap:Nat) (hb:C.β b=Eb r0) (ht:C.T (r0,bO,r,cap)) (hl:len<=cap):aJ C (.val (.az b bO len) (.slice (Eb ⟨r,0,Eg⟩) len cap))
 |dN (b bO off r0 r cap:Nat) (hb:C.β b=Eb r0) (ht:C.T (r0,bO,r,cap)):aJ C (.val (.dN b bO off) (.pointer (Eb ⟨r,off,Eg⟩)))
 |ik (r o:Nat):aJ C (.cells r [] o)
 |dC (r o:Nat) (x:AVal) (xs:List AVal) (v:Value) (hv:C.K r o=Eb v) (M:aJ C (.val x v)) (h:aJ C (.cells r xs (o+1))):aJ C (.cells r (x::xs) o)
 |fN (r sz o:Nat):aJ C (.row r sz [] o)
 |dr (r sz o:Nat) (x:AVal) (xs:List AVal) (G:x.flat.length=sz) (M:aJ C (.cells r x.flat o)) (h:aJ C (.row r sz xs (o+sz))):aJ C (.row r sz (x::xs) o)
 |nil:aJ C (.vD [] [])
 |cons (x:AVal) (xs:List AVal) (v:Value) (vs:List Value) (M:aJ C (.val x v)) (h:aJ C (.vD xs vs)):aJ C (.vD (x::xs) (v::vs))
abbrev bS (C:aM)(x:AVal)(v:Value):Prop:=aJ C (.val x v)
abbrev bf (C:aM)(xs:List AVal)(vs:List Value):Prop:=aJ C (.vD xs vs)
abbrev cB (C:aM)(r:Nat)(xs:List AVal)(o:Nat):Prop:=aJ C (.cells r xs o)
abbrev bA (C:aM)(r sz:Nat)(xs:List AVal)(o:Nat):Prop:=aJ C (.row r sz xs o)
structure aM.le (C C':aM):Prop where
 k:∀r o v,C.K r o=Eb v->C'.K r o=Eb v
 b:∀b r,C.β b=Eb r->C'.β b=Eb r
 w:C'.W=C.W
 d:∀r,C.D r->C'.D r
 t:∀q,C.T q->C'.T q:=by exact fun _ h=>h
theorem aM.le_refl (C:aM):C.le C:=⟨fun _ _ _ h=>h,fun _ _ h=>h,rfl,fun _ h=>h,fun _ h=>h⟩
theorem aM.le_trans {A B C:aM}(h:A.le B)(k:B.le C):A.le C:=⟨fun r o v x=>k.1 r o v (h.1 r o v x),fun b r x=>k.2 b r (h.2 b r x),k.w.trans h.w,fun r x=>k.d r (h.d r x),fun r x=>k.t r (h.t r x)⟩
theorem fJ.imp {C C'}(h:(∀r o v,C.K r o=Eb v->C'.K r o=Eb v)/\(∀b r,C.β b=Eb r->C'.β b=Eb r)){f f'}(hf:fJ C f f'):fJ C' f f':=by
 cases f<;>simp only[fJ]at *<;>first|exact hf|exact⟨hf.choose,h.2 _ _ hf.choose_spec.1,hf.choose_spec.2⟩
theorem aJ.imp {C C'}(h:(∀r o v,C.K r o=some v->C'.K r o=some v)/\(∀b r,C.β b=some r->C'.β b=some r)){i}(Q:aJ C i)(hT:∀q,C.T q->C'.T q:=by first|exact fun _ h=>h|exact fun _ h=>False.elim h):aJ C' i:=by
 induction Q with
 |bool b=>exact .bool b|int k n=>exact .int k n|str s=>exact .str s|iZ sz=>exact .iZ sz|list sz xs r o cap hl _ ih=>exact .list sz xs r o cap hl ih|jA sz a G=>exact .jA sz a G|ms b o len r cap hb hl=>exact .ms b o len r cap (h.2 _ _ hb) hl|ptr b o r hb=>exact .ptr b o r (h.2 _ _ hb)|aq x r o _ ih=>exact .aq x r o ih|cC=>exact .cC|map b r hb=>exact .map b r (h.2 _ _ hb)|cD=>exact .cD|fn f f' a b as bs hf _ _ ha hb=>exact .fn f f' a b as bs (hf.imp h) ha hb|cO=>exact .cO|agg cs vs _ ih=>exact .agg cs vs ih|bq cs vs _ ih=>exact .bq cs vs ih|undef=>exact .undef|any v=>exact .any v|dG n a=>exact .dG n a|az b bO len r0 r cap hb ht hl=>exact .az b bO len r0 r cap (h.2 _ _ hb) (hT _ ht) hl|dN b bO off r0 r cap hb ht=>exact .dN b bO off r0 r cap (h.2 _ _ hb) (hT _ ht)|ik r o=>exact .ik r o|dC r o x xs v hv _ _ oF ih=>exact .dC r o x xs v (h.1 _ _ _ hv) oF ih|fN r sz o=>exact .fN r sz o|dr r sz o x xs G _ _ oF ih=>exact .dr r sz o x xs G oF ih|nil=>exact .nil|cons x xs v vs _ _ oF ih=>exact .cons x xs v vs oF ih
theorem aJ.mono {C C'}(h:C.le C'){i}(Q:aJ C i):aJ C' i:=Q.imp ⟨h.k,h.b⟩ h.t
def lK.below (n:Nat):lK->Bool
 | .val x _=>Abs.below n x| .cells _ xs _=>qt n xs| .row _ _ xs _=>qt n xs| .vD xs _=>qt n xs
theorem LP (n:Nat)(x:AVal):qt n x.flat=Abs.below n x:=by
 cases x<;>simp[AVal.flat,qt,Abs.below]
theorem aJ.shift {C C'}(n:Nat)(hK:∀r o v,C.K r o=some v->C'.K r o=some v)(hβ:∀b r,b<n->C.β b=some r->C'.β b=some r){i}(Q:aJ C i)(hb:i.below n=true)(hT:∀q,0<n->C.T q->C'.T q:=by first|exact fun _ _ h=>h|exact fun _ h=>absurd h (Nat.lt_irrefl 0)|exact fun _ _ h=>False.elim h):aJ C' i:=by
 induction Q with
 |bool b=>exact .bool b|int k n=>exact .int k n|str s=>exact .str s|iZ sz=>exact .iZ sz|list sz xs r o cap hl _ ih=>exact .list sz xs r o cap hl (ih (by simpa[lK.below,Abs.below]using hb))|jA sz a G=>exact .jA sz a G|ms b o len r cap Y hl=>exact .ms b o len r cap (hβ _ _ (by simpa[lK.below,Abs.below]using hb) Y) hl|ptr b o r Y=>exact .ptr b o r (hβ _ _ (by simpa[lK.below,Abs.below]using hb) Y)|aq x r o _ ih=>exact .aq x r o (ih (by simpa[lK.below,Abs.below,LP]using hb))|cC=>exact .cC|map b r Y=>exact .map b r (hβ _ _ (by simpa[lK.below,Abs.below]using hb) Y)|cD=>exact .cD
 |fn f f' a b as bs hf _ _ iha ihb=>
  have GX:fJ C' f f':=by
   cases f<;>simp only[fJ]at *<;>first|exact hf|skip
   obtain⟨r,Y,rfl⟩:=hf;simp[lK.below,Abs.below]at hb;exact⟨r,hβ _ _ hb.1.1 Y,rfl⟩
  have lY:qt n a=En/\qt n b=En:=by
   cases f<;>simp[lK.below,Abs.below]at hb<;>first|exact hb|exact⟨hb.1.2,hb.2⟩
  exact .fn f f' a b as bs GX (iha lY.1) (ihb lY.2)
 |cO=>exact .cO|agg cs vs _ ih=>exact .agg cs vs (ih (by simpa[lK.below,Abs.below]using hb))|bq cs vs _ ih=>exact .bq cs vs (ih (by simpa[lK.below,Abs.below]using hb))|undef=>exact .undef|any v=>exact .any v|dG n a=>exact .dG n a
 |az b bO len r0 r cap Y ht hl=>
  have Ak:b<n:=by simpa[lK.below,Abs.below]using hb
  exact .az b bO len r0 r cap (hβ _ _ Ak Y) (hT _ (by omega) ht) hl
 |dN b bO off r0 r cap Y ht=>
  have Ak:b<n:=by simpa[lK.below,Abs.below]using hb
  exact .dN b bO off r0 r cap (hβ _ _ Ak Y) (hT _ (by omega) ht)
 |ik r o=>exact .ik r o
 |dC r o x xs v hv _ _ oF ih=>
  simp[lK.below,qt]at hb oF ih;exact .dC r o x xs v (hK _ _ _ hv) (oF hb.1) (ih hb.2)
 |fN r sz o=>exact .fN r sz o
 |dr r sz o x xs G _ _ oF ih=>
  simp[lK.below,qt,LP]at hb oF ih;exact .dr r sz o x xs G (oF hb.1) (ih hb.2)
 |nil=>exact .nil
 |cons x xs v vs _ _ oF ih=>
  simp[lK.below,qt]at hb oF ih;exact .cons x xs v vs (oF hb.1) (ih hb.2)
theorem bf.length {C xs}:∀ {vs:List Value},bf C xs vs->vs.length=xs.length:=by
 induction xs with
 |nil=>intro vs h;cases h;rfl
 |cons x xs ih=>intro vs h;cases h with|cons _ _ v vs M h=>simp[ih h]
theorem bf.get {C xs}:∀ {vs:List Value},bf C xs vs->∀ {i:Nat} {x:AVal},xs[i]?=Eb x->∃v,vs[i]?=Eb v/\bS C x v:=by
 induction xs with
 |nil=>intro vs _ i x h;simp at h
 |cons y ys ih=>
  intro vs h i x hi
  cases h with
  |cons _ _ v vs M h=>
   cases i with
   |zero=>simp at hi;subst hi;exact⟨v,rfl,M⟩|succ i=>simp at hi;obtain⟨w,Y,I⟩:=ih h hi;exact⟨w,by simpa using Y,I⟩
theorem bf.append {C xs ys}:∀ {vs ws:List Value},bf C xs vs->bf C ys ws->bf C (xs++ys) (vs++ws):=by
 induction xs with
 |nil=>intro vs ws h k;cases h;exact k
 |cons x xs ih=>intro vs ws h k;cases h with|cons _ _ v vs M h=>exact .cons _ _ _ _ M (ih h k)
theorem bf.take {C xs}:∀ {vs:List Value} (n:Nat),bf C xs vs->bf C (xs.take n) (vs.take n):=by
 induction xs with
 |nil=>intro vs n h;cases h;simpa using aJ.nil
 |cons x xs ih=>intro vs n h;cases h with|cons _ _ v vs M h=>cases n with
  |zero=>simpa using aJ.nil|succ n=>exact .cons _ _ _ _ M (ih n h)
theorem bf.drop {C xs}:∀ {vs:List Value} (n:Nat),bf C xs vs->bf C (xs.drop n) (vs.drop n):=by
 induction xs with
 |nil=>intro vs n h;cases h;simpa using aJ.nil
 |cons x xs ih=>intro vs n h;cases h with|cons _ _ v vs M h=>cases n with
  |zero=>exact .cons _ _ _ _ M h|succ n=>simpa using ih n h
theorem cB.get {C r xs}:∀ {o:Nat},cB C r xs o->∀ {i:Nat} {x:AVal},xs[i]?=Eb x->∃v,C.K r (o+i)=Eb v/\bS C x v:=by
 induction xs with
 |nil=>intro o _ i x h;simp at h
 |cons y ys ih=>
  intro o h i x hi
  cases h with
  |dC _ _ _ _ v hv M h=>
   cases i with
   |zero=>simp at hi;subst hi;exact⟨v,hv,M⟩|succ i=>simp at hi;obtain⟨w,Y,I⟩:=ih h hi;exact⟨w,by rw[show o+(i+1)=o+1+i from by omega];exact Y,I⟩
theorem cB.drop {C r xs}:∀ {o:Nat} (n:Nat),cB C r xs o->cB C r (xs.drop n) (o+n):=by
 induction xs with
 |nil=>intro o n h;simpa using aJ.ik r (o+n)
 |cons x xs ih=>intro o n h;cases h with|dC _ _ _ _ v hv M h=>cases n with
  |zero=>exact .dC _ _ _ _ _ hv M h|succ n=>have:=ih n h;rw[show o+(n+1)=o+1+n from by omega];simpa using this
theorem cB.take {C r xs}:∀ {o:Nat} (n:Nat),cB C r xs o->cB C r (xs.take n) o:=by
 induction xs with
 |nil=>intro o n h;simpa using aJ.ik r o
 |cons x xs ih=>intro o n h;cases h with|dC _ _ _ _ v hv M h=>cases n with
  |zero=>simpa using aJ.ik r o|succ n=>exact .dC _ _ _ _ _ hv M (ih n h)
theorem cB.append {C r xs ys}:∀ {o:Nat},cB C r xs o->cB C r ys (o+xs.length)->cB C r (xs++ys) o:=by
 induction xs with
 |nil=>intro o _ k;simpa using k
 |cons x xs ih=>intro o h k;cases h with|dC _ _ _ _ v hv M h=>exact .dC _ _ _ _ _ hv M (ih h (by simpa[Vw,Nat.add_comm 1]using k))
theorem bA.get {C r sz xs}:∀ {o:Nat},bA C r sz xs o->∀ {i:Nat} {x:AVal},xs[i]?=Eb x->cB C r x.flat (o+i*sz):=by
 induction xs with
 |nil=>intro o _ i x h;simp at h
 |cons y ys ih=>
  intro o h i x hi
  cases h with
  |dr _ _ _ _ _ G M h=>
   cases i with
   |zero=>simp at hi;subst hi;simpa using M|succ i=>simp at hi;have:=ih h hi;rw[show o+(i+1)*sz=o+sz+i*sz from by rw[Ii];omega];exact this
theorem bA.drop {C r sz xs}:∀ {o:Nat} (n:Nat),bA C r sz xs o->bA C r sz (xs.drop n) (o+n*sz):=by
 induction xs with
 |nil=>intro o n h;simpa using aJ.fN r sz (o+n*sz)
 |cons x xs ih=>intro o n h;cases h with|dr _ _ _ _ _ G M h=>cases n with
  |zero=>simpa using aJ.dr _ _ _ _ _ G M h|succ n=>have:=ih n h;rw[show o+(n+1)*sz=o+sz+n*sz from by rw[Ii];omega];simpa using this
theorem bA.take {C r sz xs}:∀ {o:Nat} (n:Nat),bA C r sz xs o->bA C r sz (xs.take n) o:=by
 induction xs with
 |nil=>intro o n h;simpa using aJ.fN r sz o
 |cons x xs ih=>intro o n h;cases h with|dr _ _ _ _ _ G M h=>cases n with
  |zero=>simpa using aJ.fN r sz o|succ n=>exact .dr _ _ _ _ _ G M (ih n h)
theorem bA.append {C r sz xs ys}:∀ {o:Nat},bA C r sz xs o->bA C r sz ys (o+xs.length*sz)->bA C r sz (xs++ys) o:=by
 induction xs with
 |nil=>intro o _ k;simpa using k
 |cons x xs ih=>
  intro o h k
  cases h with
  |dr _ _ _ _ _ G M h=>
   refine .dr _ _ _ _ _ G M (ih h ?_)
   have e:o+sz+xs.length*sz=o+(x::xs).length*sz:=by simp[Ii];omega
   rw[e];exact k
theorem bA.sized {C r sz xs}:∀ {o:Nat},bA C r sz xs o->∀x∈xs,x.flat.length=sz:=by
 induction xs with
 |nil=>intro o _ x M;cases M
 |cons y ys ih=>
  intro o h x M
  cases h with
  |dr _ _ _ _ _ G _ h=>
   rcases St.1 M with rfl|M
   .exact G
   .exact ih h x M
theorem bA.cells {C r sz xs}:∀ {o:Nat},bA C r sz xs o->cB C r (xs.flatMap AVal.flat) o:=by
 induction xs with
 |nil=>intro o _;exact .ik _ _
 |cons x xs ih=>
  intro o h
  cases h with
  |dr _ _ _ _ _ G M h=>
   simp only[Ih];refine cB.append M ?_;rw[G];exact ih h
theorem bA.eY {C r sz xs}:∀ {o:Nat},cB C r (xs.flatMap AVal.flat) o->(∀x∈xs,x.flat.length=sz)->bA C r sz xs o:=by
 induction xs with
 |nil=>intro o _ _;exact .fN _ _ _
 |cons x xs ih=>
  intro o h hl;simp only[Ih]at h;have Y:=cB.take (x.flat.length) h;have I:=cB.drop (x.flat.length) h;rw[List.take_left' rfl]at Y;rw[List.drop_left' rfl,hl x (by simp)]at I;exact .dr _ _ _ _ _ (hl x (by simp)) Y (ih I fun y hy=>hl y (by simp[hy]))
theorem cB.vals {C r xs}:∀ {o:Nat},cB C r xs o->∃vs,bf C xs vs/\∀j v,vs[j]?=Eb v->C.K r (o+j)=Eb v:=by
 induction xs with
 |nil=>intro o _;exact⟨[],.nil,by simp⟩
 |cons x xs ih=>
  intro o h
  cases h with
  |dC _ _ _ _ v hv M h=>
   obtain⟨vs,Y,I⟩:=ih h;refine⟨v::vs,.cons _ _ _ _ M Y,?_⟩;intro j u hj
   cases j with
   |zero=>simp at hj;subst hj;exact hv|succ j=>simp at hj;rw[show o+(j+1)=o+1+j from by omega];exact I j u hj
inductive Loc where
 |slot (s:Nat)
 |cell (b j:Nat)
 deriving DecidableEq
def gG (sz:Nat)(xs:List AVal)(cells:Array Value)(elem:TypeId)(len cap:Nat):Prop:=
 ∀(e:Nat) (l:aj),sz=0->xs=[.int .u64 (e:Int),.str l]->elem=e/\len=l.length/\len<=cap/\cap<=maxLen/\cells.size=cap/\cells.toList.take len=l.map fun b=>Value.int .u8 b.toNat
theorem gG.sized {sz xs cells}{elem:TypeId}{len cap}(h:∀x∈xs,x.flat.length=sz):gG sz xs cells elem len cap:=fun e l h0 M=>by
 have:=h (.str l) (by rw[M];simp);simp[AVal.flat,h0]at this
def aS (C:aM)(ω:Nat->Option Loc)(w:World)(B:Nat)(ℓ:Loc):AVal->Value->Prop
 | .list _ sz xs,.slice (Eb a) len cap=>ω a.block=Eb ℓ/\(B<=a.block\/C.W a.block)/\(∀b,C.β b≠Eb a.block)/\a.spot=Eg/\a.off=0 /\
   (∃cells elem,w.heap[a.block]?=Eb (.cells cells elem (0,0))/\a.off+cap*sz<=cells.size/\gG sz xs cells elem len cap)/\∀o,a.off+len*sz<=o->C.K a.block o=Eg
 | .dG n,.pointer (Eb a)=>ω a.block=Eb ℓ/\(B<=a.block\/C.W a.block)/\(∀b,C.β b≠Eb a.block)/\a.spot=Eg/\a.off=0 /\
   (∃cells elem,w.heap[a.block]?=Eb (.cells cells elem (0,0))/\a.off+n*1<=cells.size/\gG 0 [] cells elem 0 0)/\∀o,a.off+0*0<=o->C.K a.block o=Eg
 |_,_=>True
structure Ext (w w':World):Prop where
 size:w.heap.size<=w'.heap.size
 same:∀r,r<w.heap.size->w'.heap[r]?=w.heap[r]?
 os:w'.os=w.os
 output:w'.output=w.output
theorem Ext.refl (w:World):Ext w w:=⟨Ha _,fun _ _=>rfl,rfl,rfl⟩
theorem Ext.get {w w':World}(h:Ext w w'){r:Nat}{o}(Q:w.heap[r]?=Eb o):w'.heap[r]?=Eb o:=by
 rw[h.same r (Hb.1 Q).1];exact Q
theorem Ext.trans {a b c}(h:Ext a b)(k:Ext b c):Ext a c where
 size:=Io h.size k.size
 same r Q:=by rw[k.same r (Mu Q h.size),h.same r Q]
 os:=k.os.trans h.os
 output:=k.output.trans h.output
theorem vE (w:World)(o:Obj)(r:Nat):(w.alloc o).heap[r]?=if r=w.heap.size then Eb o else w.heap[r]?:=by
 show(w.heap.push o)[r]?=_;rw[Array.getElem?_push]
theorem Ext.alloc (w:World)(o:Obj)(ho:∀c t fr,o=.cells c t fr->fr=(0,0)):Ext w (w.alloc o) where
 size:=by rw[World.size_alloc];omega
 same r Q:=by rw[vE,if_neg (by omega)]
 os:=rfl
 output:=rfl
theorem Ext.drew (w:World):Ext w w.drew:=⟨Ha _,fun _ _=>rfl,rfl,rfl⟩
theorem Ext.cell {w w':World}(h:Ext w w'){a:Addr}{v}(hc:w.cell? a=Eb v):w'.cell? a=Eb v:=by
 unfold World.cell? at *
 cases Q:w.heap[a.block]? with
 |none=>rw[Q]at hc;cases hc|some o=>rw[h.get Q];rw[Q]at hc;exact hc
theorem aS.ext {C:aM}{ω:Nat->Option Loc}{w w' B ℓ x v}(h:Ext w w')(ho:aS C ω w B ℓ x v):aS C ω w' B ℓ x v:=by
 unfold aS at *;split at ho
 .obtain⟨Y,I,h3,h4,h8,⟨cells,elem,h5,h6⟩,h7⟩:=ho;exact⟨Y,I,h3,h4,h8,⟨cells,elem,h.get h5,h6⟩,h7⟩
 .obtain⟨Y,I,h3,h4,h8,⟨cells,elem,h5,h6⟩,h7⟩:=ho;exact⟨Y,I,h3,h4,h8,⟨cells,elem,h.get h5,h6⟩,h7⟩
 .trivial
inductive cI (C:aM):List (AVal×AVal)->List MapEntry->Prop where
 |nil:cI C [] []
 |cons (k v:AVal) (es:List (AVal×AVal)) (m:MapEntry) (ms:List MapEntry) (hk:bS C k m.key) (hv:bS C v m.val) (h:cI C es ms):cI C ((k,v)::es) (m::ms)
theorem cI.imp {C C'}(h:(∀r o v,C.K r o=some v->C'.K r o=some v)/\(∀b r,C.β b=some r->C'.β b=some r)){es ms}(Q:cI C es ms)(hT:∀q,C.T q->C'.T q:=by first|exact fun _ h=>h|exact fun _ h=>False.elim h):cI C' es ms:=by
 induction Q with
 |nil=>exact .nil|cons k v es m ms hk hv _ ih=>exact .cons k v es m ms (aJ.imp h hk hT) (aJ.imp h hv hT) ih
theorem cI.mono {C C'}(h:C.le C'){es ms}(Q:cI C es ms):cI C' es ms:=Q.imp ⟨h.k,h.b⟩ h.t
def bw (C:aM)(e:Env)(tmps:Array Value):Prop:=∀s x,jm s e=Eb x->∃v,tmps[s]?=Eb v/\bS C x.1 v
def GY (P:Program)(nt:Nat)(c:Code)(a:aQ):Prop:=∃h,gX P h nt c=Eb a
structure cE (P:Program)(C:aM)(l:XT)(lp:Loop):Prop where
 assign:GY P lp.tmps.size lp.assign l.assign
 body:GY P lp.tmps.size lp.body l.body
 params:lp.params.toList=l.params
 fits:∀t∈l.params,t<lp.tmps.size
 nr:zu l.assign=En/\zu l.body=En
 env:bw C l.env lp.tmps
 state:lp.state=match l.pending with
  |none=>.ready|some .normal=>.busy|some _=>.done
 pending:lp.pending=match l.pending with
  |none=>Eg|some .normal=>Eg|some (.exit id)=>Eb (.exit id)|some .ret=>Eb .ret
def ey (K:Nat->Nat->Option Value)(w:World)(q sz:Nat)(xs:List AVal)(cap:Nat):Prop:=
 ∃cells t vs,w.heap[q]?=Eb (.cells cells t (0,0))/\xs.length<=cap/\cap*sz<=cells.size/\(∀x∈xs,x.flat.length=sz)/\bf (.bZ K) (xs.flatMap AVal.flat) vs /\
  (∀(j:Nat) v,vs[j]?=Eb v->cells[j]?=Eb v)/\∀v∈vs,v.oneCell'=En
theorem ey.imp {K K' w w' q sz cap xs}(hK:∀r o v,K r o=Eb v->K' r o=Eb v)(hw:w'.heap[q]?=w.heap[q]?)(h:ey K w q sz xs cap):ey K' w' q sz xs cap:=by
 obtain⟨cells,t,vs,Y,I,h3,h4,h5,h6⟩:=h;exact⟨cells,t,vs,hw.trans Y,I,h3,h4,aJ.imp (C:=.bZ K) (C':=.bZ K') ⟨hK,fun _ _ h=>h⟩ h5,h6⟩
abbrev xA (C:aM)(ω:Nat->Option Loc)(w:World)(B b q n cap:Nat):Prop:=aS C ω w B (.cell b 0) (.list Eh 0 []) (.slice (Eb ⟨q,0,Eg⟩) n cap)
def eg (C:aM)(ω:Nat->Option Loc)(w:World)(B b r sz bO:Nat)(xs:List AVal):Prop:=
 ∃q cap,C.T (r,bO,q,cap)/\(∀x,C.T x->x.1=r->x.2.1<=bO/\(x.2.1=bO->x.2.2=(q,cap)))/\ey C.K w q sz xs cap/\(q=r\/xA C ω w B b q xs.length cap)/\∃cs t,w.heap[r]?=Eb (.cells cs t (0,0))
theorem eg.imp {C C' ω ω' w w' B B' b r sz bO xs}(hK:∀r o v,C.K r o=Eb v->C'.K r o=Eb v)(hT:∀q,C.T q->C'.T q)(GZ:∀x,C'.T x->x.1=r->C.T x)(hw:w'.heap[r]?=w.heap[r]?)
  (hq:∀q n cap,xA C ω w B b q n cap->w'.heap[q]?=w.heap[q]?/\xA C' ω' w' B' b q n cap) (h:eg C ω w B b r sz bO xs):eg C' ω' w' B' b r sz bO xs:=by
 obtain⟨q,cap,Y,I,h3,h4,cs,t,h5⟩:=h;refine⟨q,cap,hT _ Y,fun x M Q=>I x (GZ x M Q) Q,?_,?_,cs,t,hw.trans h5⟩
 .rcases h4 with rfl|h4
  .exact h3.imp hK hw
  .exact h3.imp hK (hq _ _ _ h4).1
 .exact h4.imp id fun h=>(hq _ _ _ h).2
def bM (P:Program)(C:aM)(ω:Nat->Option Loc)(w:World)(B b r:Nat):bG->Prop
 | .hole=>False
 | .cells cs=>∃vs elem,w.heap[r]?=Eb (.cells vs elem (0,0))/\cs.length<=vs.size /\
   ∀j c,cs[j]?=Eb c->∃v,vs[j]?=Eb v/\v.oneCell'=En/\bS C c.1 v/\(c.2=En->aS C ω w B (.cell b j) c.1 v)
 | .map es=>∃cj clock,w.heap[r]?=Eb (.map cj clock)/\cI C es cj.toList| .iter s pos=>w.heap[r]?=Eb (.stringIter ⟨⟨s⟩⟩ pos)| .loop l=>∃lp,w.heap[r]?=Eb (.loop lp)/\cE P C l lp| .fW t e l=>∃p v,w.heap[r]?=Eb (.cells #[p,v] t (0,0))/\(p=.pointer Eg\/p=.pointer (Eb ⟨r,0,Eg⟩))/\((v=.slice Eg 0 0/\l=[])\/∃a len cap,v=.slice (Eb a) len cap)/\aS C ω w B (.cell b 1) (.list Eh 0 [.int .u64 (e:Int),.str l]) v| .dead=>∃cs t,w.heap[r]?=Eb (.cells cs t (0,0))| .vec sz bO xs=>eg C ω w B b r sz bO xs
def pu : String := "internal/strconv.uint64pow10"
def Al : String := "internal/bytealg.MaxLen"
def jx9 (P:Program)(w:World)(g:Nat):Prop:=
 (P.globalNamed pu=Eb g->Lib.TabIs P w pu .u64 Lib.pow10Tab)/\(P.globalNamed Al=Eb g->∃m,w.cell? ⟨g,0,Eg⟩=Eb (.int .i64 m)) /\
 (∀x∈GN,P.globalNamed x.1=Eb g->∀j n,x.2[j]?=Eb n->w.cell? ⟨g,j,Eg⟩=Eb (.int .i64 n))
def Rd (P:Program)(g:Nat):Prop:=P.globalNamed pu=Eb g\/P.globalNamed Al=Eb g\/∃x∈GN,P.globalNamed x.1=Eb g
def Tabs (P:Program)(w:World):Prop:=∀g,Rd P g->g<w.heap.size/\jx9 P w g
theorem Tabs.same {P w w'}(h:Tabs P w)(G:w.heap.size<=w'.heap.size)(hg:∀g,Rd P g->w'.heap[g]?=w.heap[g]?):Tabs P w':=by
 intro g hn;obtain⟨Y,I,h3,h5⟩:=h g hn;refine⟨Mu Y G,fun EK=>?_,fun EK=>?_,fun x M EK j n hj=>?_⟩
 .have I:=I EK;unfold Lib.TabIs World.var? at *;rw[EK]at I ⊢;simp only[Option.bind_some]at I ⊢;rw[hg g hn];exact I
 .obtain⟨m,h4⟩:=h3 EK;refine⟨m,?_⟩;unfold World.cell? at *;simp only[]at h4 ⊢;rw[hg g hn];exact h4
 .have h4:=h5 x M EK j n hj;unfold World.cell? at *;simp only[]at h4 ⊢;rw[hg g hn];exact h4
def j98 (P:Program)(w0:World)(C0:aM):Prop:=Tabs P w0/\∀g,Rd P g->(∀b,C0.β b≠Eb g)/\¬C0.W g
structure aA (P:Program)(C:aM)(ω:Nat->Option Loc)(w0:World)(C0:aM)(h:qi)(w:World):Prop where
 base:j98 P w0 C0
 know:∀r o v,C.K r o=Eb v->w.cell? ⟨r,o,Eg⟩=Eb v
 dj:∀r o v,C.K r o=Eb v->v.oneCell'=En
 apart:∀b r o,C.β b=Eb r->C.K r o=Eg
 inj:∀b b' r,C.β b=Eb r->C.β b'=Eb r->b=b'
 lt:∀b r,C.β b=Eb r->r<w.heap.size/\b<h.length
 size:w0.heap.size<=w.heap.size
 frame:∀r,r<w0.heap.size->(∀b,C0.β b≠Eb r)->¬C0.W r->w.heap[r]?=w0.heap[r]?
 fA:∀r,C.D r->w.heap[r]?=Eb (.deferred (Eb []))
 os:w.os=w0.os
 output:w.output=w0.output
 fresh:∀b r,C.β b=Eb r->C0.β b=Eb r\/w0.heap.size<=r\/C0.W r
 grown:C0.le C
 old:∀r o,r<w0.heap.size->¬C0.W r->C.K r o=C0.K r o
 box:∀b x r,h[b]?=Eb x->C.β b=Eb r->bM P C ω w w0.heap.size b r x
 iD:∀q,C.T q->q.1<w.heap.size
def ar (C:aM)(ω:Nat->Option Loc)(w:World)(B:Nat)(e:Env)(tmps:Array Value):Prop:=
 ∀s x,jm s e=Eb x->∃v,tmps[s]?=Eb v/\bS C x.1 v/\(x.2=En->aS C ω w B (.slot s) x.1 v)
theorem ar.cu {C ω w B e tmps}(h:ar C ω w B e tmps):bw C e tmps:=
 fun s x M=>let ⟨v,Y,I,_⟩:=h s x M; ⟨v,Y,I⟩
theorem bM.ext {P:Program}{C:aM}{ω w w' B b r x}(h:Ext w w')(hb:bM P C ω w B b r x):bM P C ω w' B b r x:=by
 cases x with
 |hole=>exact hb
 |cells cs=>
  obtain⟨vs,elem,Y,I,h3⟩:=hb;exact⟨vs,elem,h.get Y,I,fun j c hc=>let ⟨v,a,q,b,d⟩:=h3 j c hc; ⟨v,a,q,b,fun e=>(d e).ext h⟩⟩
 |map es=>obtain⟨cj,clock,Y,I⟩:=hb;exact⟨cj,clock,h.get Y,I⟩|iter s pos=>exact h.get hb|loop l=>obtain⟨lp,Y,I⟩:=hb;exact⟨lp,h.get Y,I⟩|fW t e l=>obtain⟨p,v,Y,I,h3,h4⟩:=hb;exact⟨p,v,h.get Y,I,h3,h4.ext h⟩|dead=>obtain⟨cs,t,Y⟩:=hb;exact⟨cs,t,h.get Y⟩
 |vec sz bO xs=>
  obtain⟨q,cap,Y,I,h3,h4,cs,t,h5⟩:=hb
  have hex:∀ {k:Nat} {o:Obj},w.heap[k]?=Eb o->w'.heap[k]?=w.heap[k]?:=fun hk=>by rw[h.get hk,hk]
  refine⟨q,cap,Y,I,h3.imp (fun _ _ _ h=>h) ?_,h4.imp id fun h4=>h4.ext h,cs,t,h.get h5⟩;obtain⟨cells,t',_,g1,_⟩:=h3;exact hex g1
theorem aA.tabs {P C ω w0 w C0 hp}(m:aA P C ω w0 C0 hp w):Tabs P w:=
 m.base.1.same m.size fun g hg=>m.frame g (m.base.1 g hg).1 (m.base.2 g hg).1 (m.base.2 g hg).2
theorem aA.ext {P:Program}{C:aM}{ω w0 w w' C0 hp}(h:Ext w w')(m:aA P C ω w0 C0 hp w):aA P C ω w0 C0 hp w' where
 base:=m.base
 know r o v hk:=h.cell (m.know r o v hk)
 dj:=m.dj
 apart:=m.apart
 inj:=m.inj
 lt b r hb:=⟨Mu (m.lt b r hb).1 h.size,(m.lt b r hb).2⟩
 size:=Io m.size h.size
 frame r Q hn hw:=by rw[h.same r (Mu Q m.size)];exact m.frame r Q hn hw
 fA r Q:=h.get (m.fA r Q)
 os:=h.os.trans m.os
 output:=h.output.trans m.output
 fresh:=m.fresh
 grown:=m.grown
 old:=m.old
 box b x r M hb:=(m.box b x r M hb).ext h
 iD q hq:=Mu (m.iD q hq) h.size
theorem ar.ext {C ω w w' B e tmps}(h:Ext w w')(he:ar C ω w B e tmps):ar C ω w' B e tmps:=
 fun s x M=>let ⟨v,a,b,d⟩:=he s x M; ⟨v,a,b,fun e=>(d e).ext h⟩
def aM.put (C:aM)(r off:Nat)(vs:List Value):aM:={ C with K:=fun b o=>if b=r/\off<=o/\o<off+vs.length then vs[o-off]? else C.K b o }
theorem aM.gH {C:aM}{r off}(vs:List Value)(h:∀o,off<=o->C.K r o=Eg):C.le (C.put r off vs):=
 ⟨fun b o v hk=>(by
  simp only[aM.put];rw[if_neg]
  ·exact hk
  ·rintro ⟨rfl,Y,_⟩;rw[h o Y]at hk;cases hk),fun _ _ h=>h,rfl,fun _ h=>h,fun _ h=>h⟩
theorem aM.Am {C:aM}{r off vs j v}(h:vs[j]?=Eb v):(C.put r off vs).K r (off+j)=Eb v:=by
 have hj:j<vs.length:=(Hc.1 h).1;show(if r=r/\off<=off+j/\off+j<off+vs.length then vs[off+j-off]? else C.K r (off+j))=Eb v;rw[if_pos ⟨rfl,by omega,by omega⟩,show off+j-off=j from by omega,h]
theorem cB.iE {C r xs}:∀ {vs:List Value} {o:Nat},bf C xs vs->(∀j v,vs[j]?=Eb v->C.K r (o+j)=Eb v)->cB C r xs o:=by
 induction xs with
 |nil=>intro vs o _ _;exact .ik _ _
 |cons x xs ih=>
  intro vs o h hk
  cases h with
  |cons _ _ v vs M h=>
   refine .dC _ _ _ _ v (by simpa using hk 0 v rfl) M (ih h ?_);intro j u hj;rw[show o+1+j=o+(j+1)from by omega];exact hk (j+1) u (by simpa using hj)
theorem aM.fo {C:aM}{r off xs vs}(hn:∀o,off<=o->C.K r o=Eg)(h:bf C xs vs):cB (C.put r off vs) r xs off:=
 cB.iE (aJ.mono (aM.gH vs hn) h) fun _ _ hj=>aM.Am hj
theorem aA.jU {P C ω w0 w C0 hp}(m:aA P C ω w0 C0 hp w)(r:Nat)(Q:w.heap.size<=r)(o:Nat):C.K r o=Eg:=by
 cases h:C.K r o with
 |none=>rfl
 |some v=>
  have:=m.know r o v h;unfold World.cell? at this;rw[show w.heap[(⟨r,o,Eg⟩:Addr).block]?=Eg from Array.getElem?_eq_none Q]at this;cases this
theorem aS.put {C ω w B r off ℓ x v}(vs:List Value)(Q:w.heap.size<=r\/ω r≠Eb ℓ)(ho:aS C ω w B ℓ x v):aS (C.put r off vs) ω w B ℓ x v:=by
 unfold aS at *;split at ho
 .rename_i a len cap;obtain⟨Y,I,h3,h4,h8,⟨cells,elem,h5,h6⟩,h7⟩:=ho;have bh:a.block<w.heap.size:=(Hb.1 h5).1;refine⟨Y,I,h3,h4,h8,⟨cells,elem,h5,h6⟩,fun o ho=>?_⟩;simp only[aM.put];rw[if_neg]
  .exact h7 o ho
  .rintro ⟨rfl,_⟩;rcases Q with Q|Q
   .omega
   .exact Q Y
 .rename_i a;obtain⟨Y,I,h3,h4,h8,⟨cells,elem,h5,h6⟩,h7⟩:=ho;have bh:a.block<w.heap.size:=(Hb.1 h5).1;refine⟨Y,I,h3,h4,h8,⟨cells,elem,h5,h6⟩,fun o ho=>?_⟩;simp only[aM.put];rw[if_neg]
  .exact h7 o ho
  .rintro ⟨rfl,_⟩;rcases Q with Q|Q
   .omega
   .exact Q Y
 .trivial
theorem cE.imp {P C C'}(h:(∀r o v,C.K r o=some v->C'.K r o=some v)/\(∀b r,C.β b=some r->C'.β b=some r)){l lp}(k:cE P C l lp)(hT:∀q,C.T q->C'.T q:=by first|exact fun _ h=>h|exact fun _ h=>False.elim h):cE P C' l lp:=
 { k with env:=fun s x M=>let ⟨v,a,b⟩:=k.env s x M; ⟨v,a,aJ.imp h b hT⟩ }
theorem cE.mono {P C C'}(h:C.le C'){l lp}(k:cE P C l lp):cE P C' l lp:=k.imp ⟨h.k,h.b⟩ h.t
theorem bM.imp {P C C' ω ω' w w' B B' b r x}(h:(∀r o v,C.K r o=Eb v->C'.K r o=Eb v)/\(∀b r,C.β b=Eb r->C'.β b=Eb r))(hw:w'.heap[r]?=w.heap[r]?)
  (ho:∀j y v,aS C ω w B (.cell b j) y v->aS C' ω' w' B' (.cell b j) y v) (hb:bM P C ω w B b r x) (hT:∀q,C.T q->C'.T q:=by exact fun _ h=>h) (GZ:∀x,C'.T x->x.1=r->C.T x:=by exact fun _ h _=>h)
  (hq:∀q n cap,xA C ω w B b q n cap->w'.heap[q]?=w.heap[q]?:=by exact fun _ _ _ _=>rfl):bM P C' ω' w' B' b r x:=by
 cases x with
 |hole=>exact hb
 |cells cs=>
  obtain⟨vs,elem,Y,I,h3⟩:=hb;exact⟨vs,elem,hw.trans Y,I,fun j c hc=>let ⟨v,a,q,b,d⟩:=h3 j c hc; ⟨v,a,q,aJ.imp h b hT,fun e=>ho _ _ _ (d e)⟩⟩
 |map es=>obtain⟨cj,clock,Y,I⟩:=hb;exact⟨cj,clock,hw.trans Y,I.imp h hT⟩|iter s pos=>exact hw.trans hb|loop l=>obtain⟨lp,Y,I⟩:=hb;exact⟨lp,hw.trans Y,I.imp h hT⟩|fW t e l=>obtain⟨p,v,Y,I,h3,h4⟩:=hb;exact⟨p,v,hw.trans Y,I,h3,ho _ _ _ h4⟩|dead=>obtain⟨cs,t,Y⟩:=hb;exact⟨cs,t,hw.trans Y⟩|vec sz bO xs=>exact eg.imp h.1 hT GZ hw (fun q n cap k=>⟨hq q n cap k,ho _ _ _ k⟩) hb
theorem bM.mono {P C C' ω ω' w B b r x}(h:C.le C')
  (ho:∀j y v,aS C ω w B (.cell b j) y v->aS C' ω' w B (.cell b j) y v) (hb:bM P C ω w B b r x) (GZ:∀x,C'.T x->x.1=r->C.T x:=by exact fun _ h _=>h):bM P C' ω' w B b r x:=hb.imp ⟨h.k,h.b⟩ rfl ho h.t GZ
theorem aA.newRow {P:Program}{C ω w0 w C0 hp}(m:aA P C ω w0 C0 hp w)(cells:Array Value)(t:TypeId)(vs:List Value)
  (hv:∀(j:Nat) v,vs[j]?=Eb v->cells[j]?=Eb v) (Y:∀v∈vs,v.oneCell'=En):
  aA P (C.put w.heap.size 0 vs) ω w0 C0 hp (w.alloc (.cells cells t)):=by
 have M:Ext w (w.alloc (.cells cells t)):=Ext.alloc w _ (fun c t fr h=>by cases h;rfl);have m':=m.ext M;have hn:∀o,C.K w.heap.size o=Eg:=m.jU _ (Ha _);have hle:=aM.gH (C:=C) (off:=0) vs (fun o _=>hn o);refine { m' with know:=?_,dj:=?_,apart:=?_,grown:=aM.le_trans m.grown hle,old:=?_,box:=?_ }
 .intro r o v hk;simp only[aM.put]at hk;split at hk
  .rename_i hc;obtain⟨rfl,_,_⟩:=hc;simp only[World.cell?];rw[vE,if_pos rfl];simpa using hv _ _ hk
  .exact m'.know r o v hk
 .intro r o v hk;simp only[aM.put]at hk;split at hk
  .exact Y v (Ij hk)
  .exact m.dj r o v hk
 .intro b r o hb;have:=(m.lt b r hb).1;simp only[aM.put];rw[if_neg (by omega)];exact m.apart b r o hb
 .intro r o Q hw;have:=m.size;simp only[aM.put];rw[if_neg (by omega)];exact m.old r o Q hw
 .intro b x r fp hb;exact((m.box b x r fp hb).mono (ω':=ω) hle fun j y v ho=>ho.put vs (.inl (Ha _))).ext M
theorem ar.put {C:aM}{ω w B e tmps r off}(vs:List Value)(Q:w.heap.size<=r\/∀s,jm s e≠Eg->(jm s e).any (·.2)=En->ω r≠Eb (.slot s))(hn:∀o,off<=o->C.K r o=Eg)(he:ar C ω w B e tmps):ar (C.put r off vs) ω w B e tmps:=
 fun s x M=>let ⟨v,a,b,d⟩:=he s x M; ⟨v,a,aJ.mono (aM.gH vs hn) b,fun e=>(d e).put vs (Q.imp id fun h=>h s (by rw[M];simp) (by rw[M];exact e))⟩
def cN (ω:Nat->Option Loc)(r:Nat)(ℓ:Loc):Nat->Option Loc:=fun b=>if b=r then Eb ℓ else ω b
theorem aS.other {C ω w B r ℓ ℓ' x v}(Q:ω r≠Eb ℓ\/ℓ=ℓ')(ho:aS C ω w B ℓ x v):aS C (Abs.cN ω r ℓ') w B ℓ x v:=by
 unfold aS at *;split at ho
 .rename_i a len cap;obtain⟨Y,I⟩:=ho;refine⟨?_,I⟩;simp only[Abs.cN];by_cases hb:a.block=r
  .rw[if_pos hb];rcases Q with Q|Q
   .exact absurd (hb▸Y) Q
   .rw[Q]
  .rw[if_neg hb];exact Y
 .rename_i a;obtain⟨Y,I⟩:=ho;refine⟨?_,I⟩;simp only[Abs.cN];by_cases hb:a.block=r
  .rw[if_pos hb];rcases Q with Q|Q
   .exact absurd (hb▸Y) Q
   .rw[Q]
  .rw[if_neg hb];exact Y
 .trivial
theorem aS.fresh {C ω w B r ℓ ℓ' x v}(Q:w.heap.size<=r)(ho:aS C ω w B ℓ x v):aS C (Abs.cN ω r ℓ') w B ℓ x v:=by
 unfold aS at *;split at ho
 .rename_i a len cap;obtain⟨Y,I,h3,h4,h8,⟨cells,elem,h5,h6⟩,h7⟩:=ho;have bh:a.block<w.heap.size:=(Hb.1 h5).1;refine⟨?_,I,h3,h4,h8,⟨cells,elem,h5,h6⟩,h7⟩;simp only[Abs.cN];rw[if_neg (by omega)];exact Y
 .rename_i a;obtain⟨Y,I,h3,h4,h8,⟨cells,elem,h5,h6⟩,h7⟩:=ho;have bh:a.block<w.heap.size:=(Hb.1 h5).1;refine⟨?_,I,h3,h4,h8,⟨cells,elem,h5,h6⟩,h7⟩;simp only[Abs.cN];rw[if_neg (by omega)];exact Y
 .trivial
theorem ar.fresh {C ω w B r ℓ e tmps}(Q:w.heap.size<=r)(he:ar C ω w B e tmps):ar C (Abs.cN ω r ℓ) w B e tmps:=
 fun s x M=>let ⟨v,a,b,d⟩:=he s x M; ⟨v,a,b,fun e=>(d e).fresh Q⟩
theorem aA.kU {P C ω w0 w C0 hp}(m:aA P C ω w0 C0 hp w)(r:Nat)(ℓ:Loc)(Q:w.heap.size<=r):aA P C (Abs.cN ω r ℓ) w0 C0 hp w:=
 { m with box:=fun b x r' M hb=>(m.box b x r' M hb).mono (aM.le_refl C) fun _ _ _ ho=>ho.fresh Q }
theorem aA.cN {P C ω w0 w C0 hp}(m:aA P C ω w0 C0 hp w)(r:Nat)(ℓ:Loc)(Q:∀b j,ω r≠Eb (.cell b j)):aA P C (Abs.cN ω r ℓ) w0 C0 hp w:=
 { m with box:=fun b x r' M hb=>(m.box b x r' M hb).mono (aM.le_refl C) fun j _ _ ho=>ho.other (.inl (Q b j)) }
def zo (P:Program)(C0:aM)(w0:World)(C:aM)(tmps:Array Value)(d:Loc)(env:Env)(res:br)(v:Value)(w':World):Prop:=
 ∃C' ω',C.le C'/\aA P C' ω' w0 C0 res.heap w'/\ar C' ω' w' w0.heap.size (ya env res.strip) tmps/\bS C' res.v v/\(res.own=En->aS C' ω' w' w0.heap.size d res.v v)
theorem XY (C:aM){v x}(h:EF v=Eb x):bS C x v:=by
 unfold EF at h
 split at h<;>first|cases h|skip
 .exact .bool _
 .exact .int _ _
 .exact .str _
 .exact .iZ _
 .exact .cC
 .exact .cD
 .exact .cO
theorem LS (C:aM):∀ {vs:List Value} {xs:List AVal},vB vs=Eb xs->bf C xs vs
 | [],xs,h=>by simp[vB]at h;subst h;exact .nil
 |v::vs,xs,h=>by
  simp only[vB]at h;split at h
  .rename_i x M;split at h
   .rename_i ys nK;cases h;exact .cons _ _ _ _ (XY C M) (LS C nK)
   .cases h
  .cases h
theorem XZ (C:aM){v x}(h:ofValue v=Eb x):bS C x v:=by
 unfold ofValue at h;split at h
 .rename_i cs;split at h
  .rename_i xs M;cases h;exact .agg _ _ (LS C M)
  .cases h
 .exact XY C h
section
variable {P:Program}{C C0:aM}{ω:Nat->Option Loc}{w w0:World}{hp:qi}{env:Env}{a:Act}{B:Nat}
theorem qx {x y v}(he:bw C env a.tmps)(hc:qv x=Eb y)(hv:qj env y=Eb v):bS C v (a.eval x):=by
 cases x with
 |tmp t=>
  simp only[qv]at hc;cases hc;simp only[qj]at hv;split at hv
  .rename_i x M;cases hv;obtain⟨u,Y,I⟩:=he t x M
   have:a.eval (.tmp t)=u:=by simp[Act.eval,H9,Y]
   rw[this];exact I
  .cases hv
 |const u=>
  simp only[qv]at hc;split at hc
  .rename_i z hz;cases hc;simp only[qj]at hv;cases hv;exact XZ C hz
  .cases hc
 |func f=>
  simp only[qv]at hc;cases hc;simp only[qj]at hv;cases hv;exact .fn (.func f) (.func f) [] [] [] [] rfl .nil .nil
 |global g=>simp[qv]at hc
theorem EL (he:bw C env a.tmps):∀ {xs:List Operand} {ys:List jq} {vs:List AVal},qF xs=Eb ys->gE env ys=Eb vs->bf C vs (xs.map a.eval)
 | [],ys,vs,hc,hv=>by simp[qF]at hc;subst hc;simp[gE]at hv;subst hv;exact .nil
 |x::xs,ys,vs,hc,hv=>by
  simp only[qF]at hc;split at hc
  .rename_i y hy;split at hc
   .rename_i zs rN;cases hc;simp only[gE]at hv;split at hv
    .rename_i v oG;split at hv
     .rename_i us gY;cases hv;exact .cons _ _ _ _ (qx he hy oG) (EL he rN gY)
     .cases hv
    .cases hv
   .cases hc
  .cases hc
theorem bS.du {b v}(h:bS C (.bool b) v):v=.bool b:=by cases h;rfl
theorem bS.bU {k n v}(h:bS C (.int k n) v):v=.int k n:=by cases h;rfl
theorem bS.cy {s v}(h:bS C (.str s) v):v=.string ⟨⟨s⟩⟩:=by cases h;rfl
theorem bS.dv {b o v}(h:bS C (.ptr b o) v):∃r,C.β b=Eb r/\v=.pointer (Eb ⟨r,o,Eg⟩):=by cases h;exact⟨_,‹_›,rfl⟩
theorem bS.eZ {x v}(h:bS C (.aq x) v):∃r o,v=.pointer (Eb ⟨r,o,Eg⟩)/\cB C r x.flat o:=by cases h;exact⟨_,_,rfl,‹_›⟩
theorem bS.eH {cs v}(h:bS C (.agg cs) v):∃vs,v=.agg ⟨vs⟩/\bf C cs vs:=by cases h;exact⟨_,rfl,‹_›⟩
theorem bS.oH {cs v}(h:bS C (.bq cs) v):∃vs,v=.tuple ⟨vs⟩/\bf C cs vs:=by cases h;exact⟨_,rfl,‹_›⟩
theorem bS.fa {b o len v}(h:bS C (.ms b o len) v):∃r cap,C.β b=Eb r/\len<=cap/\v=.slice (Eb ⟨r,o,Eg⟩) len cap:=by cases h;exact⟨_,_,‹_›,‹_›,rfl⟩
theorem bS.cQ {n sz xs v}(h:bS C (.list n sz xs) v):
  (n=En/\xs=[]/\v=.slice Eg 0 0)\/(n=Eh/\∃r o cap,v=.slice (Eb ⟨r,o,Eg⟩) xs.length cap/\xs.length<=cap/\bA C r sz xs o)\/(n=Eh/\xs=[]/\∃a,a.spot≠Eg/\v=.slice (Eb a) 0 0):=by
 cases h
 .exact .inl ⟨rfl,rfl,rfl⟩
 .exact .inr (.inl ⟨rfl,_,_,_,rfl,‹_›,‹_›⟩)
 .exact .inr (.inr ⟨rfl,rfl,_,‹_›,rfl⟩)
theorem bS.len {n sz xs v}(h:bS C (.list n sz xs) v):∃b cap,v=.slice b xs.length cap:=by
 rcases h.cQ with⟨rfl,rfl,rfl⟩|⟨rfl,r,o,cap,rfl,_,_⟩|⟨rfl,rfl,a,_,rfl⟩
 .exact⟨Eg,0,rfl⟩
 .exact⟨_,_,rfl⟩
 .exact⟨_,_,rfl⟩
theorem add_lit (r o n:Nat):(⟨r,o,Eg⟩:Addr).add n=⟨r,o+n,Eg⟩:=by unfold Addr.add;split<;>simp_all
theorem xB (k:IntKind)(n:Int):qf k n=k.wrap n:=by
 unfold qf
 cases h:rH k n with
 |false=>rfl
 |true=>
  simp only[cond_true];symm
  have key:∀m:Nat,IntKind.min k<=n->n<=IntKind.max k->k.wrap n=n:=by
   intro _ Y I;unfold IntKind.wrap;cases k<;>simp[IntKind.bits,IntKind.signed,IntKind.min,IntKind.max]at *<;>omega
  refine key 0 ?_ ?_
  .cases k<;>cases n<;>simp[rH,IntKind.min,IntKind.signed,IntKind.bits]at *<;>omega
  .cases k<;>cases n<;>simp[rH,IntKind.max,IntKind.signed,IntKind.bits]at *<;>omega
theorem EM {t:TypeId}{b}(h:yq P t=Eb b)(w:World):(isAgg t).run P w=.ok b w:=by
 unfold yq at h;unfold isAgg
 cases hu:P.underlying t with
 |none=>simp[hu]at h|some d=>rw[hu]at h;simp[run_underlying hu];cases d<;>simp at h<;>subst h<;>rfl
theorem yn {t:TypeId}{n}(h:jp P t=Eb n)(w:World):(sizeOf t).run P w=.ok n w:=by
 unfold jp at h
 cases hi:P.info? t with
 |none=>simp[hi]at h|some i=>simp[hi]at h;simp[sizeOf,typeInfo,hi,h]
theorem X0 {t:TypeId}{ag n off cs vs x}(hg:yq P t=Eb ag)(hn:jp P t=Eb n)(hp:part ag cs off n=Eb x)(Q:bf C cs vs)(w:World):
  ∃v,(Go.part t ⟨vs⟩ off).run P w=.ok v w/\bS C x v:=by
 unfold part at hp
 cases ag with
 |true=>
  simp only[cond_true]at hp
  cases hb:E9 (off+n) cs.length with
  |false=>simp[hb]at hp
  |true=>
   simp[hb]at hp;subst hp;refine⟨.agg ⟨(vs.drop off).take n⟩,?_,.agg _ _ ((Q.drop off).take n)⟩;simp[Go.part,EM hg,yn hn]
 |false=>
  simp only[cond_false]at hp;obtain⟨v,Y,I⟩:=Q.get hp;exact⟨v,by simp[Go.part,EM hg,Y],I⟩
theorem X2 (a:aj):(⟨⟨a⟩⟩:ByteArray).toList=a:=by
 rw[ByteArray.toList_eq]
end
theorem Rf:∀ {ks:List Kd} {xs ys:List AVal} (G0:List Kd) (fU oI:List AVal),xs.length=ks.length->ys.length=ks.length ->
  yi (ks++G0) (xs++fU) (ys++oI)=match yi ks xs ys with|some En=>yi G0 fU oI|r=>r
 | [],[],[],G0,fU,oI,_,_=>by simp[yi]
 |k::ks,x::xs,y::ys,G0,fU,oI,h,h'=>by
  simp only[Xp,yi]
  cases he:lT k x y with
  |none=>simp
  |some b=>cases b with
   |false=>simp|true=>simpa using Rf G0 fU oI (by simpa using h) (by simpa using h')
 | [],_::_,_,_,_,_,h,_=>by simp at h
 | [],[],_::_,_,_,_,_,h=>by simp at h
 |_::_,[],_,_,_,_,h,_=>by simp at h
 |_::_,_::_,[],_,_,_,_,h=>by simp at h
def tS (ag:Bool)(us:List Value):Value:=if ag then .agg ⟨us⟩else us.headD undef
def LU:TypeDesc->Bool
 | .struct _=>En| .array _ _=>En|_=>Eh
section
variable {P:Program}{C:aM}
theorem jh5 {t:TypeId}{d:TypeDesc}(h:P.underlying t=Eb d):yq P t=Eb (LU d):=by
 unfold yq;rw[h];cases d<;>rfl
theorem LV {t:TypeId}{ag n off us}(hg:yq P t=Eb ag)(hn:jp P t=Eb n)(Y:ag=Eh->n=1)(hl:off+n<=us.length)(w:World):
  (Go.part t ⟨us⟩ off).run P w=.ok (tS ag ((us.drop off).take n)) w:=by
 cases ag with
 |true=>simp[Go.part,EM hg,yn hn,tS]
 |false=>
  obtain rfl:=Y rfl
  have bh:off<us.length:=by omega
  simp only[Go.part,Sem.run_bind,EM hg,Result.andThen_ok,tS,H5,if_false]
  have e:(⟨us⟩:Array Value)[off]?=Eb us[off]:=by
   show(List.toArray us)[off]?=_;rw[H3,H6 bh]
  rw[e,S4 bh];rfl
def Rg (P:Program)(C:aM)(n:Nat)(t:TypeId)(ks:List Kd):Prop:=
 ∃ag,yq P t=Eb ag/\jp P t=Eb ks.length/\(ag=Eh->ks.length=1)/\∀d,n<=d->∀xs ys us vs b w,bf C xs us->bf C ys vs->xs.length=ks.length->ys.length=ks.length->yi ks xs ys=Eb b ->
  (Op.equalIn d t (tS ag us) (tS ag vs)).run P w=.ok b w
theorem LW {α:Type}(xs:List α)(off n:Nat):xs.drop off=(xs.drop off).take n++xs.drop (off+n):=by
 rw[<-List.drop_drop];exact(List.take_append_drop _ _).symm
theorem X3 {n d}(hd:n<=d):∀(fs:List Field) (off:Nat) (ks:List Kd) (xs ys:List AVal) (us vs:List Value) (b:Bool) (w:World),
  GM (rL P n) off fs=Eb ks ->
  (∀f∈fs,∀ks,rL P n f.type=Eb ks->Rg P C n f.type ks) ->
  bf C xs us->bf C ys vs->xs.length=off+ks.length->ys.length=off+ks.length->yi ks (xs.drop off) (ys.drop off)=Eb b ->
  (Op.eqFields d ⟨us⟩ ⟨vs⟩ fs).run P w=.ok b w
 | [],off,ks,xs,ys,us,vs,b,w,hf,_,M,hy,nL,pv,he=>by
  simp[GM]at hf;subst hf;rw[Ik (by simp at nL;omega),Ik (by simp at pv;omega)]at he;simp[yi]at he;subst he;simp[Op.eqFields]
 |f::fs,off,ks,xs,ys,us,vs,b,w,hf,dL,M,hy,nL,pv,he=>by
  simp only[GM]at hf;split at hf
  .rename_i hc;simp at hc;obtain⟨G1,vF⟩:=hc;split at hf
   .rename_i k1 gI;split at hf
    .rename_i k2 dx;cases hf;obtain⟨ag,df,da,Y,heq⟩:=dL f (by simp) k1 gI;have Rh:=M.length;have vG:=hy.length;simp at nL pv;have p1:=LV (P:=P) (us:=us) (off:=f.offset) df da Y (by omega) w;have p2:=LV (P:=P) (us:=vs) (off:=f.offset) df da Y (by omega) w;rw[LW xs off k1.length,LW ys off k1.length,Rf _ _ _ (by simp;omega) (by simp;omega)]at he;simp only[Op.eqFields,ne_eq,G1,not_false_eq_true,if_true,Sem.run_bind,p1,p2,Result.andThen_ok];rw[vF]
     cases hb:yi k1 ((xs.drop off).take k1.length) ((ys.drop off).take k1.length)with
     |none=>rw[hb]at he;cases he
     |some b1=>
      rw[hb]at he;rw[heq d hd _ _ _ _ b1 w ((M.drop off).take _) ((hy.drop off).take _) (by simp;omega) (by simp;omega) hb]
      cases b1 with
      |false=>simp at he;subst he;simp
      |true=>
       simp only[Result.andThen_ok,Za,H5,if_false];exact X3 hd fs (off+k1.length) k2 xs ys us vs b w dx (fun g hg=>dL g (by simp[hg])) M hy (by omega) (by omega) he
    .cases hf
   .cases hf
  .cases hf
theorem X4 {n d}(hd:n<=d){e:TypeId}{ag k1}(df:yq P e=Eb ag)(da:jp P e=Eb k1.length)(Y:ag=Eh->k1.length=1)
  (heq:∀d,n<=d->∀xs ys us vs b w,bf C xs us->bf C ys vs->xs.length=k1.length->ys.length=k1.length->yi k1 xs ys=Eb b->(Op.equalIn d e (tS ag us) (tS ag vs)).run P w=.ok b w):
  ∀(len i:Nat) (xs ys:List AVal) (us vs:List Value) (b:Bool) (w:World),
  bf C xs us->bf C ys vs->xs.length=i*k1.length+len*k1.length->ys.length=i*k1.length+len*k1.length->yi (E4 len k1).flatten (xs.drop (i*k1.length)) (ys.drop (i*k1.length))=Eb b ->
  (Op.eqItems d e k1.length ⟨us⟩ ⟨vs⟩ (List.range' i len)).run P w=.ok b w
 |0,i,xs,ys,us,vs,b,w,M,hy,nL,pv,he=>by
  rw[Ik (by simp at nL;omega),Ik (by simp at pv;omega)]at he;simp[yi]at he;subst he;simp[Op.eqItems]
 |len+1,i,xs,ys,us,vs,b,w,M,hy,nL,pv,he=>by
  have Rh:=M.length;have vG:=hy.length;rw[Ii]at nL pv;have p1:=LV (P:=P) (us:=us) (off:=i*k1.length) df da Y (by omega) w;have p2:=LV (P:=P) (us:=vs) (off:=i*k1.length) df da Y (by omega) w;rw[Mi,R2,LW xs (i*k1.length) k1.length,LW ys (i*k1.length) k1.length,Rf _ _ _ (by simp;omega) (by simp;omega)]at he;simp only[List.range'_succ,Op.eqItems,Sem.run_bind,p1,p2,Result.andThen_ok]
  cases hb:yi k1 ((xs.drop (i*k1.length)).take k1.length) ((ys.drop (i*k1.length)).take k1.length)with
  |none=>rw[hb]at he;cases he
  |some b1=>
   rw[hb]at he;rw[heq d hd _ _ _ _ b1 w ((M.drop _).take _) ((hy.drop _).take _) (by simp;omega) (by simp;omega) hb]
   cases b1 with
   |false=>simp at he;subst he;simp
   |true=>
    simp only[Result.andThen_ok,Za,H5,if_false];refine X4 hd df da Y heq len (i+1) xs ys us vs b w M hy (by rw[nL,Ii];omega) (by rw[pv,Ii];omega) ?_;rw[Ii];exact he
theorem q33 {t:TypeId}{n}(h:jp P t=Eb n):P.cellsOf t=n:=by
 unfold jp at h;unfold Program.cellsOf;rw[h];rfl
theorem q3v {t:TypeId}{n}(h:jp P t=Eb n):∃i,P.info? t=Eb i/\i.size=n:=by
 unfold jp at h
 cases hi:P.info? t with
 |none=>simp[hi]at h|some i=>exact⟨i,rfl,by simpa[hi]using h⟩
theorem q9m {k x y b}(h:yi [k] [x] [y]=Eb b):lT k x y=Eb b:=by
 simp only[yi]at h;split at h<;>simp_all
theorem X5 {xs us}(h:bf C xs us)(hl:xs.length=1):∃x u,xs=[x]/\us=[u]/\bS C x u:=by
 obtain⟨x,rfl⟩:=Va.1 hl
 cases h with
 |cons _ _ u vs M h=>cases h;exact⟨x,u,rfl,rfl,M⟩
theorem q7o {k x y b u v}(h:lT k x y=Eb b)(M:bS C x u)(hy:bS C y v):
  match k with
  | .int=>∃kd a c,u=.int kd a/\v=.int kd c/\b=(a == c)| .str=>∃a c:aj,u=.string ⟨⟨a⟩⟩/\v=.string ⟨⟨c⟩⟩/\b=(a == c)
  | .bool=>∃a c,u=.bool a/\v=.bool c/\b=(a == c):=by
 unfold lT at h;split at h
 .rename_i k a k' c;cases M;cases hy;by_cases hk:k=k'
  .subst hk;simp at h;exact⟨_,_,_,rfl,rfl,h.symm⟩
  .simp[hk]at h
 .cases M;cases hy;cases h;exact⟨_,_,rfl,rfl,rfl⟩
 .cases M;cases hy;cases h;exact⟨_,_,rfl,rfl,rfl⟩
 .cases h
theorem q6l {t:TypeId}{k x y b u v}(hk:kT P t=Eb k)(h:lT k x y=Eb b)(M:bS C x u)(hy:bS C y v)(d:Nat)(w:World):
  (Op.equalIn (d+1) t u v).run P w=.ok b w:=by
 have hc:=q7o h M hy;unfold kT at hk
 cases hu:P.underlying t with
 |none=>simp[hu]at hk
 |some D=>
  rw[hu]at hk;cases D<;>simp at hk<;>subst hk<;>simp only[]at hc
  .obtain⟨a,c,rfl,rfl,rfl⟩:=hc;exact run_equalIn_bool w d t a c hu
  .obtain⟨kd,a,c,rfl,rfl,rfl⟩:=hc;exact run_equalIn_int w d t kd _ a c hu
  .obtain⟨a,c,rfl,rfl,rfl⟩:=hc;rw[run_equalIn_string w d t _ _ hu,X2,X2]
theorem Ri:∀ (n:Nat) (t:TypeId) (ks:List Kd),rL P n t=Eb ks->Rg P C n t ks
 |0,t,ks,h=>by simp[rL]at h
 |n+1,t,ks,h=>by
  unfold rL at h
  cases hu:P.underlying t with
  |none=>simp[hu]at h
  |some D=>
   rw[hu]at h;have df:=jh5 hu
   have scalar:∀k,ks=[k]->jp P t=Eb 1->kT P t=Eb k->LU D=Eh->Rg P C (n+1) t ks:=by
    intro k hks G hk ha;subst hks;refine⟨Eh,by rw[df,ha],G,fun _=>rfl,?_⟩;intro d hd xs ys us vs b w M hy nL pv he;obtain⟨d,rfl⟩:∃m,d=m+1:=⟨d-1,by omega⟩;obtain⟨x,u,rfl,rfl,EN⟩:=X5 M nL;obtain⟨y,v,rfl,rfl,hy1⟩:=X5 hy pv;exact q6l hk (q9m he) EN hy1 d w
   cases D<;>simp only[]at h<;>first|(simp at h;done)|skip
   case int k=>
    split at h<;>first|cases h|skip
    rename_i G;exact scalar .int rfl (by simpa using G) (by simp[kT,hu]) rfl
   case bool=>
    split at h<;>first|cases h|skip
    rename_i G;exact scalar .bool rfl (by simpa using G) (by simp[kT,hu]) rfl
   case string=>
    split at h<;>first|cases h|skip
    rename_i G;exact scalar .str rfl (by simpa using G) (by simp[kT,hu]) rfl
   case array len e=>
    split at h
    .rename_i k1 gI;split at h
     .rename_i G;cases h;obtain⟨ag,Rj,da,Y,heq⟩:=Ri n e k1 gI
      have hlen:(E4 len k1).flatten.length=len*k1.length:=by simp[List.length_flatten]
      refine⟨En,by simpa[LU]using df,by rw[hlen];simpa using G,(fun h=>by cases h),?_⟩;intro d hd xs ys us vs b w M hy nL pv he;obtain⟨d,rfl⟩:∃m,d=m+1:=⟨d-1,by omega⟩;obtain⟨i,hi,_⟩:=q3v da;simp only[tS,if_true];rw[run_equalIn_array w d _ _ hu hi,q33 da,List.range_eq_range'];exact X4 (by omega) Rj da Y heq len 0 xs ys us vs b w M hy (by rw[nL,hlen];omega) (by rw[pv,hlen];omega) (by simpa using he)
     .cases h
    .cases h
   case struct fs=>
    split at h
    .rename_i k1 gI;split at h
     .rename_i G;cases h;simp at G;obtain⟨hso,da⟩:=G;refine⟨En,by simpa[LU]using df,da,(fun h=>by cases h),?_⟩;intro d hd xs ys us vs b w M hy nL pv he;obtain⟨d,rfl⟩:∃m,d=m+1:=⟨d-1,by omega⟩;simp only[tS,if_true]
      have hf:P.fieldsOf t=fs:=by simp[Program.fieldsOf,hu]
      rw[run_equalIn_struct w d t _ _ (by rw[hf];exact hu) hso,hf];exact X3 (n:=n) (by omega) fs.toList 0 _ xs ys us vs b w gI (fun f _ ks hp=>Ri n f.type ks hp) M hy (by omega) (by omega) (by simpa using he)
     .cases h
    .cases h
end
section
variable {P:Program}{C:aM}{w:World}{env:Env}{a:Act}{o:Oper}
def Val (P:Program)(C:aM)(a:Act)(o:Oper)(w:World)(x:AVal):Prop:=∃v,(execOp a.eval o).run P w=.ok (.value v) w/\bS C x v
theorem jl2 {x y v}(he:bw C env a.tmps)(ho:o.op=.move x\/o.op=.assign x)(hc:qv x=Eb y)(hv:qj env y=Eb v):Val P C a o w v:=by
 refine⟨a.eval x,?_,qx he hc hv⟩;rcases ho with ho|ho<;>simp[execOp,ho]
theorem jme {c x y c' x' y' b u v}(he:bw C env a.tmps)(ho:o.op=.pick c x y)(Y:qv c=Eb c')(I:qv x=Eb x')(h3:qv y=Eb y')
  (e1:qj env c'=Eb (.bool b)) (e2:qj env x'=Eb u) (e3:qj env y'=Eb v):Val P C a o w (bif b then u else v):=by
 have r1:=(qx he Y e1).du;have r2:=qx he I e2;have r3:=qx he h3 e3;refine⟨if b then a.eval x else a.eval y,by simp[execOp,ho,r1,asBool],?_⟩;cases b<;>simpa
theorem X6 {x y v}(he:bw C env a.tmps)(ho:o.op=.nilCheck x)(hc:qv x=Eb y)(hv:qj env y=Eb v)
  (hk:(∃b p,v=.ptr b p)\/(∃z,v=.aq z)):Val P C a o w v:=by
 have r:=qx he hc hv;rcases hk with⟨b,p,rfl⟩|⟨z,rfl⟩
 .obtain⟨q,_,hq⟩:=r.dv;exact⟨a.eval x,by simp[execOp,ho,hq],r⟩
 .obtain⟨q,p,hq,_⟩:=r.eZ;exact⟨a.eval x,by simp[execOp,ho,hq],r⟩
theorem Rk (op:BinOp)(k:IntKind)(x y:Int)(t:TypeId)(Y:op≠.shl)(I:op≠.shr):binOp op t (.int k x) (.int k y)=match op with
  | .add | .sub | .mul=>Op.intArith op k x y| .quo | .rem=>Op.intDiv op k x y| .and | .or | .xor | .andNot=>Op.intBits op k x y
  |_=>Op.intCmp op x y:=by
 cases op<;>simp at Y I<;>simp[binOp]
theorem jcm {op k x y v}(h:nG op k x y=Eb v)(t:TypeId)(w:World):∃u,(binOp op t (.int k x) (.int k y)).run P w=.ok u w/\bS C v u:=by
 unfold nG at h
 cases op<;>simp only[]at h<;>first|(cases h;done)|skip
 case quo=>
  cases hy:(y == 0)with
  |true=>simp[hy]at h
  |false=>
   simp[hy]at h;subst h
   have:y≠0:=by simpa using hy
   rw[xB,Rk _ _ _ _ _ (by simp) (by simp)];refine⟨_,?_,.int _ _⟩;simp[Op.intDiv,this]
 case rem=>
  cases hy:(y == 0)with
  |true=>simp[hy]at h
  |false=>
   simp[hy]at h;subst h
   have:y≠0:=by simpa using hy
   rw[Rk _ _ _ _ _ (by simp) (by simp)];refine⟨_,?_,.int _ _⟩;simp[Op.intDiv,this]
 all_goals (cases h;rw[Rk _ _ _ _ _ (by simp) (by simp)];try rw[xB])
 all_goals first
  |exact⟨_,rfl,.int _ _⟩
  |exact⟨_,rfl,.bool _⟩
theorem X7:∀ (x y:aj),bytesLess x y=Op.bytesLess x y
 |x,[]=>by cases x<;>rfl
 | [],_::_=>rfl
 |a::x,b::y=>by simp only[bytesLess,Op.bytesLess,X7 x y]
theorem jd7 {op x y v}(h:EB op x y=Eb v)(t:TypeId)(w:World):∃u,(binOp op t (.string ⟨⟨x⟩⟩) (.string ⟨⟨y⟩⟩)).run P w=.ok u w/\bS C v u:=by
 unfold EB at h
 cases op<;>simp only[]at h<;>first|(cases h;done)|skip
 .cases hb:E9 (x.length+y.length) 4611686018427387904 with
  |false=>simp[hb]at h
  |true=>
   simp[hb]at h;subst h;have hle:x.length+y.length<=4611686018427387904:=Ib hb;refine⟨.string ⟨⟨x++y⟩⟩,?_,.str _⟩;have e1:(⟨⟨x⟩⟩:ByteArray).size=x.length:=rfl;have e2:(⟨⟨y⟩⟩:ByteArray).size=y.length:=rfl
   have e3:(⟨⟨x⟩⟩:ByteArray)++⟨⟨y⟩⟩=⟨⟨x++y⟩⟩:=by
    apply ByteArray.ext;simp[ByteArray.data_append]
   simp only[binOp,Op.stringOp,e1,e2,e3,IntKind.max,IntKind.signed,IntKind.bits];rw[if_neg (by simp;omega)];rfl
 all_goals (cases h;refine⟨_,?_,.bool _⟩;simp[binOp,Op.stringOp,X7])
theorem jbt {op x y v u u'}(h:z8 op x y=Eb v)(M:bS C x u)(hy:bS C y u')(t:TypeId)(w:World):∃z,(binOp op t u u').run P w=.ok z w/\bS C v z:=by
 unfold z8 at h;split at h
 .rename_i k a k' b;obtain rfl:=M.bU;obtain rfl:=hy.bU
  have hsh:∀(op:BinOp),(op=.shl\/op=.shr)->LC op k a b=Eb v->∃z,(binOp op t (.int k a) (.int k' b)).run P w=.ok z w/\bS C v z:=by
   intro op hop h;unfold LC at h
   cases hb:decide (b<0)with
   |true=>simp[hb]at h
   |false=>
    have fq:¬b<0:=by simpa using hb
    rcases hop with rfl|rfl<;>simp[hb]at h<;>subst h
    .rw[xB]; (refine⟨_,?_,.int _ _⟩;simp[binOp,Op.shift,fq])
    ·(refine⟨_,?_,.int _ _⟩;simp[binOp,Op.shift,fq])
  have hin:op≠.shl->op≠.shr->(bif decide (k=k')then nG op k a b else Eg)=Eb v->∃z,(binOp op t (.int k a) (.int k' b)).run P w=.ok z w/\bS C v z:=by
   intro _ _ h;by_cases hk:k=k'
   .subst hk;simp at h;exact jcm h t w
   .simp[hk]at h
  cases op<;>simp only[]at h<;>first|exact hsh _ (.inl rfl) h|exact hsh _ (.inr rfl) h|exact hin (by simp) (by simp) h
 .obtain rfl:=M.cy;obtain rfl:=hy.cy;exact jd7 h t w
 .cases h
theorem q8l (op:BinOp)(t:TypeId)(x y:Operand)(u v:Value)(w:World)(Y:¬(u=.nilIface/\v=.nilIface))(I:(∀cs,u≠.agg cs)\/P.eqGuardType P.depth t=Eh):(eqGuard op t x y u v).run P w=.ok () w:=by
 unfold eqGuard;by_cases hop:(!(match op with | .eql | .neq=>En|_=>Eh))=En
 .cases op<;>simp_all
 .cases op<;>simp at hop ⊢
  all_goals (
   split
   ·exact absurd ⟨rfl,rfl⟩ Y
   ·rcases I with I|I
    ·rename_i cs _ ;exact absurd rfl (I cs)
    ·simp[I]
   ·rfl)
theorem LX {op}{t u:TypeId}{x y p q z}(ho:o.op=.binOp op t x y u)(M:a.eval x=p)(hy:a.eval y=q)(Y:¬(p=.nilIface/\q=.nilIface))(I:(∀cs,p≠.agg cs)\/P.eqGuardType P.depth t=Eh)
  (hz:(binOp op t p q).run P w=.ok z w):(execOp a.eval o).run P w=.ok (.value z) w:=by
 have hg:=q8l (P:=P) op t x y p q w Y I;subst M;subst hy;simp only[execOp,ho,Sem.run_bind,hg,Result.andThen_ok,hz,Sem.run_pure]
theorem q3z {x v}(h:bS C x v)(M:x≠.undef)(hy:x≠.any:=by simp):v≠.nilIface:=by
 cases h<;>simp at M hy ⊢
theorem q3t {op x y v}(h:z8 op x y=Eb v):(x≠.undef/\(∀cs,x≠.agg cs)/\x≠.any):=by
 unfold z8 at h;split at h<;>simp at h ⊢
theorem q8z {x v}(h:bS C x v)(M:x≠.undef)(ha:∀cs,x≠.agg cs)(hy:x≠.any:=by simp):∀cs,v≠.agg cs:=by
 cases h<;>simp at M ha hy ⊢
theorem jnu {op}{t u:TypeId}{x y x' y' p q v}(he:bw C env a.tmps)(ho:o.op=.binOp op t x y u)(Y:qv x=Eb x')(I:qv y=Eb y')
  (e1:qj env x'=Eb p) (e2:qj env y'=Eb q) (hv:z8 op p q=Eb v):Val P C a o w v:=by
 have r1:=qx he Y e1;have r2:=qx he I e2;obtain⟨hn,ha,hy⟩:=q3t hv;obtain⟨z,hz,Q⟩:=jbt (P:=P) hv r1 r2 t w;refine⟨z,?_,Q⟩;exact LX ho rfl rfl (fun h=>q3z r1 hn hy h.1) (.inl (q8z r1 hn ha hy)) hz
theorem Rl {neq}{t:TypeId}{u v b}(w:World)(hu:(∀k n,u≠.int k n)/\(∀s,u≠.string s)/\(∀k n,u≠.float k n)/\(∀k n m,u≠.complex k n m))
  (h:(Op.equal t u v).run P w=.ok b w):(binOp (if neq then .neq else .eql) t u v).run P w=.ok (.bool (bif neq then !b else b)) w:=by
 obtain⟨Y,I,h3,h4⟩:=hu;cases neq<;>cases u<;>simp_all [binOp]
theorem jqs {op neq}{t u:TypeId}{x y x' y' p q ks b}(he:bw C env a.tmps)(ho:o.op=.binOp op t x y u)(hop:op=if neq then .neq else .eql)
  (Y:qv x=Eb x') (I:qv y=Eb y') (e1:qj env x'=Eb (.agg p)) (e2:qj env y'=Eb (.agg q)) (hg:P.eqGuardType P.depth t=Eh) (hk:rL P LI t=Eb ks) (df:yq P t=Eb En)
  (eh:p.length=ks.length) (en:q.length=ks.length) (hb:yi ks p q=Eb b):Val P C a o w (.bool (bif neq then !b else b)):=by
 obtain⟨us,hu,ru⟩:=(qx he Y e1).eH;obtain⟨vs,hv,rv⟩:=(qx he I e2).eH;obtain⟨ag,ha,_,_,heq⟩:=Ri (C:=C) LI t ks hk;rw[df]at ha;cases ha;have hq:=heq 10000 (by decide) p q us vs b w ru rv eh en hb;simp only[tS,if_true]at hq;refine⟨_,?_,.bool _⟩;have rO:=Rl (P:=P) (neq:=neq) (t:=t) (u:=.agg ⟨us⟩) (v:=.agg ⟨vs⟩) (b:=b) w ⟨by simp,by simp,by simp,by simp⟩ hq;exact LX (hop▸ho) hu hv (by simp) (.inr hg) rO
theorem jn1 {op neq}{t u:TypeId}{x y x' y' p q}(he:bw C env a.tmps)(ho:o.op=.binOp op t x y u)(hop:op=if neq then .neq else .eql)
  (Y:qv x=Eb x') (I:qv y=Eb y') (e1:qj env x'=Eb (.bool p)) (e2:qj env y'=Eb (.bool q)) (ht:P.underlying t=Eb .bool):Val P C a o w (.bool (bif neq then !(p == q)else p == q)):=by
 have hu:=(qx he Y e1).du;have hv:=(qx he I e2).du;refine⟨_,?_,.bool _⟩;have rO:=Rl (P:=P) (neq:=neq) (t:=t) (u:=.bool p) (v:=.bool q) (b:=p == q) w ⟨by simp,by simp,by simp,by simp⟩ (run_equalIn_bool w 9999 t p q ht);exact LX (hop▸ho) hu hv (by simp) (.inl (by simp)) rO
theorem jen {op neq b}{t u:TypeId}{x y c}(ho:o.op=.binOp op t x y u)(hop:op=if neq then .neq else .eql)
  (hy:a.eval y=c) (bI:(∀k n,a.eval x≠.int k n)/\(∀s,a.eval x≠.string s)/\(∀k n,a.eval x≠.float k n)/\(∀k n m,a.eval x≠.complex k n m)) (df:∀cs,a.eval x≠.agg cs) (Rm:a.eval x≠.nilIface)
  (h:(Op.equal t (a.eval x) c).run P w=.ok b w):Val P C a o w (.bool (bif neq then !b else b)):=by
 refine⟨_,?_,.bool _⟩;have rO:=Rl (P:=P) (neq:=neq) w bI h;exact LX (hop▸ho) rfl hy (fun h=>Rm h.1) (.inl df) rO
theorem jrq {op}{t:TypeId}{x x' p v}(he:bw C env a.tmps)(ho:o.op=.unOp op t x)(Y:qv x=Eb x')(e1:qj env x'=Eb p)(hv:xn op p=Eb v):Val P C a o w v:=by
 have r1:=qx he Y e1;unfold xn at hv;split at hv
 .obtain hu:=r1.bU;cases hv;rw[xB]
  (refine⟨_,?_,.int _ _⟩;simp[execOp,ho,hu,Op.unary,Op.intArith])
 .obtain hu:=r1.du;cases hv
  (refine⟨_,?_,.bool _⟩;simp[execOp,ho,hu,Op.unary])
 .cases hv
theorem jic {s d:TypeId}{k k0 x x' k1 n}(he:bw C env a.tmps)(ho:o.op=.convert s d x)(G:P.underlying s=Eb (.int k0))(hd:P.underlying d=Eb (.int k))
  (Y:qv x=Eb x') (e1:qj env x'=Eb (.int k1 n)):Val P C a o w (.int k (qf k n)):=by
 have hu:=(qx he Y e1).bU;rw[xB]
 (refine⟨_,?_,.int _ _⟩;simp[execOp,ho,hu,convert,run_underlying G,run_underlying hd,Conv.intToInt])
theorem q85 {s d:TypeId}{x x' v}(he:bw C env a.tmps)(ho:o.op=.convert s d x)(G:P.underlying s=Eb .string)(hd:P.underlying d=Eb .string)
  (Y:qv x=Eb x') (e1:qj env x'=Eb v) (hv:∃l,v=.str l):Val P C a o w v:=by
 obtain⟨l,rfl⟩:=hv;have r:=qx he Y e1;have hu:=r.cy;exact⟨_,by simp[execOp,ho,hu,convert,run_underlying G,run_underlying hd];rfl,by rw[<-hu];exact r⟩
theorem q70 {s d:TypeId}{x x' v k0}(he:bw C env a.tmps)(ho:o.op=.convert s d x)(G:P.underlying s=Eb (.int k0))(hd:P.underlying d=Eb .string)
  (Y:qv x=Eb x') (e1:qj env x'=Eb v) (hv:∃l,v=.str l):Val P C a o w v:=by
 obtain⟨l,rfl⟩:=hv;have r:=qx he Y e1;have hu:=r.cy;exact⟨_,by simp[execOp,ho,hu,convert,run_underlying G,run_underlying hd];rfl,by rw[<-hu];exact r⟩
theorem q8r {s d:TypeId}{x x' k0 k1 n}(he:bw C env a.tmps)(ho:o.op=.convert s d x)(G:P.underlying s=Eb (.int k0))(hd:P.underlying d=Eb .string)
  (Y:qv x=Eb x') (e1:qj env x'=Eb (.int k1 n)):Val P C a o w (.str (Utf8.encode n).data.toList):=by
 have hu:=(qx he Y e1).bU;exact⟨.string (Utf8.encode n),by simp[execOp,ho,hu,convert,run_underlying G,run_underlying hd,Conv.intToString],.str _⟩
theorem q78 {s d:TypeId}{x x' k1 n}(he:bw C env a.tmps)(ho:o.op=.convert s d x)(G:P.underlying s=Eb .string)(hd:P.underlying d=Eb .string)
  (Y:qv x=Eb x') (e1:qj env x'=Eb (.int k1 n)):Val P C a o w (.str (Utf8.encode n).data.toList):=by
 have hu:=(qx he Y e1).bU;exact⟨.string (Utf8.encode n),by simp[execOp,ho,hu,convert,run_underlying G,run_underlying hd,Conv.intToString],.str _⟩
theorem jha {t:TypeId}{x x' i fs f ag n cs v}(he:bw C env a.tmps)(ho:o.op=.field t x i)(ht:P.underlying t=Eb (.struct fs))(hf:fs[i]?=Eb f)
  (df:yq P f.type=Eb ag) (hn:jp P f.type=Eb n) (Y:qv x=Eb x') (e1:qj env x'=Eb (.agg cs)) (hv:Abs.part ag cs f.offset n=Eb v):Val P C a o w v:=by
 obtain⟨us,hu,ru⟩:=(qx he Y e1).eH;obtain⟨z,hz,Q⟩:=X0 df hn hv ru w;refine⟨z,?_,Q⟩;simp[execOp,ho,hu,Instr.field,run_underlying ht,hf,asAgg,hz]
theorem G2 {n v j}(h:idx n v=Eb j):∃k,v=.int k (j:Int)/\j<n:=by
 unfold idx at h;split at h
 .rename_i k i
  cases hb:H2 i n with
  |false=>simp[hb]at h
  |true=>
   simp[hb]at h;subst h;exact⟨k,rfl,by have:=Ib hb;omega⟩
 .cases h
theorem jf2 {n v j}(h:Ab n v=Eb j):∃k,v=.int k (j:Int)/\j<=n:=by
 unfold Ab at h;split at h
 .rename_i k i
  cases hb:E9 i n with
  |false=>simp[hb]at h
  |true=>
   simp[hb]at h;subst h;exact⟨k,rfl,Ib hb⟩
 .cases h
theorem jes {t e:TypeId}{x i x' i' len n ag cs iv v j}(he:bw C env a.tmps)(ho:o.op=.index t x i)(ht:P.underlying t=Eb (.array len e))
  (df:yq P e=Eb ag) (hn:jp P e=Eb n) (Y:qv x=Eb x') (I:qv i=Eb i') (e1:qj env x'=Eb (.agg cs)) (e2:qj env i'=Eb iv) (hj:idx len iv=Eb j) (hv:Abs.part ag cs (j*n) n=Eb v):Val P C a o w v:=by
 obtain⟨us,hu,ru⟩:=(qx he Y e1).eH;obtain⟨k,rfl,bh⟩:=G2 hj;have hi:=(qx he I e2).bU;obtain⟨z,hz,Q⟩:=X0 df hn hv ru w;refine⟨z,?_,Q⟩;simp[execOp,ho,hu,hi,Instr.index,asIntOf,run_underlying ht,bh,yn hn,hz]
theorem q59 {t:TypeId}{x i x' i' s iv j c}(he:bw C env a.tmps)(ho:o.op=.index t x i)(ht:P.underlying t=Eb .string)
  (Y:qv x=Eb x') (I:qv i=Eb i') (e1:qj env x'=Eb (.str s)) (e2:qj env i'=Eb iv) (hj:idx s.length iv=Eb j) (hc:s[j]?=Eb c):Val P C a o w (.int .u8 c.toNat):=by
 have hu:=(qx he Y e1).cy;obtain⟨k,rfl,bh⟩:=G2 hj;have hi:=(qx he I e2).bU;refine⟨_,?_,.int _ _⟩
 have hb:(⟨⟨s⟩⟩:ByteArray)[j]?=Eb c:=by
  rw[getElem?_pos (ByteArray.mk ⟨s⟩) j bh];exact congrArg Eb (Hc.1 hc).2
 simp[execOp,ho,hu,hi,Instr.index,asIntOf,run_underlying ht,hb]
end
section
variable {P:Program}{C:aM}{w:World}{env:Env}{a:Act}{o:Oper}
theorem qbk {z:AVal}(h:z.isAgg=Eh):z.flat=[z]:=by cases z<;>simp[AVal.isAgg,AVal.flat]at *
theorem X8 {ag:Bool}{cs off n r q z}(hc:cB C r cs q)(hz:Abs.part ag cs off n=Eb z)(M:Sm ag z.isAgg=Eh):cB C r z.flat (q+off):=by
 unfold Abs.part at hz
 cases ag with
 |true=>
  simp only[cond_true]at hz
  cases hb:E9 (off+n) cs.length with
  |false=>simp[hb]at hz|true=>simp[hb]at hz;subst hz;exact cB.take n (cB.drop off hc)
 |false=>
  simp only[cond_false]at hz;rw[qbk (by simpa using M)];obtain⟨u,Y,I⟩:=hc.get hz;exact .dC _ _ _ _ u Y I (.ik _ _)
theorem X9 {t:TypeId}{x x' i fs f ag n p v}(he:bw C env a.tmps)(ho:o.op=.fieldAddr t x i)(ht:P.underlying t=Eb (.struct fs))(hf:fs[i]?=Eb f)
  (hn:jp P f.type=Eb n) (Ao:0<n) (Y:qv x=Eb x') (e1:qj env x'=Eb p)
  (hv:(∃b q,p=.ptr b q/\v=.ptr b (q+f.offset))\/(∃cs z,p=.aq (.agg cs)/\Abs.part ag cs f.offset n=Eb z/\Sm ag z.isAgg=Eh/\v=.aq z)):Val P C a o w v:=by
 have bE:∀r q,a.eval x=.pointer (Eb ⟨r,q,Eg⟩)->(execOp a.eval o).run P w=.ok (.value (.pointer (Eb ⟨r,q+f.offset,Eg⟩))) w:=by
  intro r q hq;simp[execOp,ho,Instr.fieldAt,run_underlying ht,hf,hq,Instr.sureAddr,fieldPlace,yn hn,V6.1 Ao,add_lit]
 rcases hv with⟨b,q,rfl,rfl⟩|⟨cs,z,rfl,hz,M,rfl⟩
 .obtain⟨r,Q,hq⟩:=(qx he Y e1).dv;exact⟨_,bE r q hq,.ptr _ _ _ Q⟩
 .obtain⟨r,q,hq,hc⟩:=(qx he Y e1).eZ;exact⟨_,bE r q hq,.aq _ _ _ (X8 hc hz M)⟩
theorem Ya {t e:TypeId}{x i x' i' sz p iv v}(he:bw C env a.tmps)(ho:o.op=.indexAddr t x i)(ht:P.underlying t=Eb (.slice e))
  (hn:jp P e=Eb sz) (Y:qv x=Eb x') (I:qv i=Eb i') (e1:qj env x'=Eb p) (e2:qj env i'=Eb iv)
  (hv:(∃b q len j,p=.ms b q len/\idx len iv=Eb j/\v=.ptr b (q+j*sz))\/(∃nl xs z j,p=.list nl sz xs/\idx xs.length iv=Eb j/\xs[j]?=Eb z/\v=.aq z)):Val P C a o w v:=by
 have bE:∀r q len cap j,a.eval x=.slice (Eb ⟨r,q,Eg⟩) len cap->idx len iv=Eb j->(execOp a.eval o).run P w=.ok (.value (.pointer (Eb ⟨r,q+j*sz,Eg⟩))) w:=by
  intro r q len cap j hq hj;obtain⟨k,rfl,bh⟩:=G2 hj;have hi:=(qx he I e2).bU;simp[execOp,ho,Instr.indexAt,run_underlying ht,hq,hi,asIntOf,yn hn,bh,add_lit]
 rcases hv with⟨b,q,len,j,rfl,hj,rfl⟩|⟨nl,xs,z,j,rfl,hj,hz,rfl⟩
 .obtain⟨r,cap,Q,_,hq⟩:=(qx he Y e1).fa;exact⟨_,bE r q len cap j hq hj,.ptr _ _ _ Q⟩
 .rcases(qx he Y e1).cQ with⟨rfl,rfl,hq⟩|⟨rfl,r,q,cap,hq,_,cY⟩|⟨rfl,rfl,_⟩
  .simp at hz
  .exact⟨_,bE r q _ cap j hq hj,.aq _ _ _ (cY.get hz)⟩
  .simp at hz
theorem Yb {t e:TypeId}{x i x' i' len sz ag p iv v j}(he:bw C env a.tmps)(ho:o.op=.indexAddr t x i)(ht:P.underlying t=Eb (.array len e))
  (hn:jp P e=Eb sz) (Y:qv x=Eb x') (I:qv i=Eb i') (e1:qj env x'=Eb p) (e2:qj env i'=Eb iv) (hj:idx len iv=Eb j)
  (hv:(∃b q,p=.ptr b q/\v=.ptr b (q+j*sz))\/(∃cs z,p=.aq (.agg cs)/\Abs.part ag cs (j*sz) sz=Eb z/\Sm ag z.isAgg=Eh/\v=.aq z)):Val P C a o w v:=by
 have bE:∀r q,a.eval x=.pointer (Eb ⟨r,q,Eg⟩)->(execOp a.eval o).run P w=.ok (.value (.pointer (Eb ⟨r,q+j*sz,Eg⟩))) w:=by
  intro r q hq;obtain⟨k,rfl,bh⟩:=G2 hj;have hi:=(qx he I e2).bU;simp[execOp,ho,Instr.indexAt,run_underlying ht,hq,hi,asIntOf,Instr.sureAddr,yn hn,bh,add_lit]
 rcases hv with⟨b,q,rfl,rfl⟩|⟨cs,z,rfl,hz,M,rfl⟩
 .obtain⟨r,Q,hq⟩:=(qx he Y e1).dv;exact⟨_,bE r q hq,.ptr _ _ _ Q⟩
 .obtain⟨r,q,hq,hc⟩:=(qx he Y e1).eZ;exact⟨_,bE r q hq,.aq _ _ _ (X8 hc hz M)⟩
theorem LY {x x' d n j}(he:bw C env a.tmps)(hc:nI x=Eb x')(hb:fG env d n x'=Eb j):
  (x=Eg/\j=d)\/(∃y k,x=Eb y/\a.eval y=.int k (j:Int)/\j<=n):=by
 cases x with
 |none=>simp[nI]at hc;subst hc;simp[fG]at hb;exact .inl ⟨rfl,hb.symm⟩
 |some x=>
  simp only[nI]at hc;split at hc
  .rename_i z hz;cases hc;simp only[fG]at hb;split at hb
   .rename_i v hv;obtain⟨k,rfl,hle⟩:=jf2 hb;exact .inr ⟨x,k,rfl,(qx he hz hv).bU,hle⟩
   .cases hb
  .cases hc
theorem LZ {lo hi lZ gf len cap i j isS}(he:bw C env a.tmps)(Y:nI lo=Eb lZ)(I:nI hi=Eb gf)(b2:fG env len len gf=Eb j)(b1:fG env 0 j lZ=Eb i)(hc:len<=cap)(w:World):
  (Instr.sliceBounds isS len cap (lo.map a.eval) (hi.map a.eval) Eg).run P w=.ok (i,j,cap) w/\i<=j/\j<=len:=by
 have k2:j<=len:=by
  rcases LY he I b2 with⟨_,rfl⟩|⟨_,_,_,_,h⟩
  .exact Ha _
  .exact h
 have k1:i<=j:=by
  rcases LY he Y b1 with⟨_,rfl⟩|⟨_,_,_,_,h⟩
  .exact Nat.zero_le _
  .exact h
 refine⟨?_,k1,k2⟩
 have hj:j<=cap:=by omega
 rcases LY he I b2 with⟨rfl,rfl⟩|⟨y,k,rfl,hy,_⟩<;>rcases LY he Y b1 with⟨rfl,rfl⟩|⟨z,k',rfl,hz,_⟩
 .simp[Instr.sliceBounds]
 .simp[Instr.sliceBounds,hz,Instr.sliceBound,asIntOf,k1]
 .simp[Instr.sliceBounds,hy,Instr.sliceBound,asIntOf,hj]
 .simp[Instr.sliceBounds,hy,hz,Instr.sliceBound,asIntOf,hj,k1]
theorem Yc {t e:TypeId}{x lo hi x' lZ gf sz i j p v}(he:bw C env a.tmps)(ho:o.op=.slice t x lo hi Eg)(ht:P.underlying t=Eb (.slice e))
  (hn:jp P e=Eb sz) (Y:qv x=Eb x') (I:nI lo=Eb lZ) (h3:nI hi=Eb gf) (e1:qj env x'=Eb p)
  (hv:(∃b q len,p=.ms b q len/\fG env len len gf=Eb j/\fG env 0 j lZ=Eb i/\(i=0\/i<j)/\v=.ms b (q+i*sz) (j-i)) \/
   (∃nl de xs,p=.list nl de xs/\(sz=de\/xs=[])/\fG env xs.length xs.length gf=Eb j/\fG env 0 j lZ=Eb i/\v=.list nl de ((xs.take j).drop i))):Val P C a o w v:=by
 have bE:∀b len cap,a.eval x=.slice b len cap->len<=cap->fG env len len gf=Eb j->fG env 0 j lZ=Eb i ->
   (execOp a.eval o).run P w=.ok (.value (.slice (if cap=i then b else b.map (·.add (i*sz))) (j-i) (cap-i))) w/\i<=j/\j<=len:=by
  intro b len cap hq hle b2 b1;obtain⟨hb,k1,k2⟩:=LZ (P:=P) (isS:=true) he I h3 b2 b1 hle w;refine⟨?_,k1,k2⟩;simp[execOp,ho,Instr.sliceAt,Instr.slice,run_underlying ht,hq,hb,yn hn]
 rcases hv with⟨b,q,len,rfl,b2,b1,vH,rfl⟩|⟨nl,de,xs,rfl,da,b2,b1,rfl⟩
 .obtain⟨r,cap,Q,hle,hq⟩:=(qx he Y e1).fa;obtain⟨hw,k1,k2⟩:=bE _ len cap hq hle b2 b1;refine⟨_,hw,?_⟩;by_cases hc:cap=i
  .rw[if_pos hc]
   obtain rfl:i=0:=by omega
   simpa using aJ.ms b q (j-0) r (cap-0) Q (by omega)
  .rw[if_neg hc];simp only[Vb,add_lit];exact .ms _ _ _ _ _ Q (by omega)
 .rcases(qx he Y e1).cQ with⟨rfl,rfl,hq⟩|⟨rfl,r,q,cap,hq,hle,cY⟩|⟨rfl,rfl,ad,l0,hq⟩
  .obtain⟨hw,k1,k2⟩:=bE _ 0 0 hq (Ha _) b2 b1;simp at k2;obtain rfl:=k2
   obtain rfl:i=0:=by omega
   exact⟨_,hw,by simpa using aJ.iZ de⟩
  .obtain⟨hw,k1,k2⟩:=bE _ _ cap hq hle b2 b1;refine⟨_,hw,?_⟩
   have hl:((xs.take j).drop i).length=j-i:=by simp;omega
   rw[<-hl];by_cases hc:cap=i
   .rw[if_pos hc];have iL:(xs.take j).drop i=[]:=Ik (by simp;omega);rw[iL];exact .list _ _ _ _ _ (by simp) (.fN _ _ _)
   .rw[if_neg hc];simp only[Vb,add_lit];refine .list _ _ _ _ _ (by rw[hl];omega) ?_;rcases da with rfl|rfl
    .exact bA.drop i (bA.take j cY)
    .simpa using aJ.fN _ _ _
  .obtain⟨hw,k1,k2⟩:=bE _ 0 0 hq (Ha _) b2 b1;simp at k2;obtain rfl:=k2
   obtain rfl:i=0:=by omega
   exact⟨_,hw,by simpa using aJ.jA de ad l0⟩
theorem q7v {t e:TypeId}{x lo hi x' lZ gf len sz i j b q}(he:bw C env a.tmps)(ho:o.op=.slice t x lo hi Eg)(ht:P.underlying t=Eb (.array len e))
  (hn:jp P e=Eb sz) (Y:qv x=Eb x') (I:nI lo=Eb lZ) (h3:nI hi=Eb gf) (e1:qj env x'=Eb (.ptr b q)) (b2:fG env len len gf=Eb j) (b1:fG env 0 j lZ=Eb i) (vH:i=0\/i<j):Val P C a o w (.ms b (q+i*sz) (j-i)):=by
 obtain⟨r,Q,hq⟩:=(qx he Y e1).dv;obtain⟨hb,k1,k2⟩:=LZ (P:=P) (isS:=false) he I h3 b2 b1 (Ha len) w;refine⟨_,by simp[execOp,ho,Instr.sliceAt,Instr.sureAddr,run_underlying ht,hq,hb,yn hn];rfl,?_⟩;by_cases hc:len=i
 .rw[if_pos hc]
  obtain rfl:i=0:=by omega
  simpa using aJ.ms b q (j-0) r (len-0) Q (by omega)
 .rw[if_neg hc];simp only[add_lit];exact .ms _ _ _ _ _ Q (by omega)
theorem q3r (s:aj)(i j:Nat):(⟨⟨s⟩⟩:ByteArray).extract i j=⟨⟨(s.take j).drop i⟩⟩:=by
 apply ByteArray.ext;rw[ByteArray.data_extract];apply If;simp[List.extract_eq_take_drop,List.drop_take]
theorem q6p {t:TypeId}{x lo hi x' lZ gf i j s}(he:bw C env a.tmps)(ho:o.op=.slice t x lo hi Eg)(ht:P.underlying t=Eb .string)
  (Y:qv x=Eb x') (I:nI lo=Eb lZ) (h3:nI hi=Eb gf) (e1:qj env x'=Eb (.str s)) (b2:fG env s.length s.length gf=Eb j) (b1:fG env 0 j lZ=Eb i):Val P C a o w (.str ((s.take j).drop i)):=by
 have hq:=(qx he Y e1).cy;obtain⟨hb,k1,k2⟩:=LZ (P:=P) (isS:=false) he I h3 b2 b1 (Ha s.length) w;have da:(⟨⟨s⟩⟩:ByteArray).size=s.length:=rfl;refine⟨.string ⟨⟨(s.take j).drop i⟩⟩,?_,.str _⟩;simp[execOp,ho,Instr.sliceAt,Instr.slice,run_underlying ht,hq,da,hb,q3r]
theorem jc6 {k xs ys fU oI us vs}(he:bw C env a.tmps)(ho:o.op=.makeFunc (.func k) xs ys)(Y:qF xs.toList=Eb fU)(I:qF ys.toList=Eb oI)(e1:gE env fU=Eb us)(e2:gE env oI=Eb vs):
  Val P C a o w (.fn (.func k) us vs):=by
 refine⟨.func (.func k) (xs.map a.eval) (ys.map a.eval),by simp[execOp,ho,Instr.makeFunc],?_⟩;have r1:=EL he Y e1;have r2:=EL he I e2
 have q1:xs.map a.eval=⟨xs.toList.map a.eval⟩:=by apply If;simp
 have q2:ys.map a.eval=⟨ys.toList.map a.eval⟩:=by apply If;simp
 rw[q1,q2];exact .fn _ _ _ _ _ _ rfl r1 r2
theorem Rn {c x}{t:TypeId}{x' p n}(he:bw C env a.tmps)(ho:o.op=.call c)(dW:c.callee=.builtin .len)(eo:c.args.toList=[x])(eS:c.argTypes.toList=[t])
  (Y:qv x=Eb x') (e1:qj env x'=Eb p)
  (hv:(P.underlying t=Eb .string/\∃s,p=.str s/\n=s.length)\/((∃e,P.underlying t=Eb (.slice e))/\((∃nl sz xs,p=.list nl sz xs/\n=xs.length)\/(∃b q,p=.ms b q n)))):Val P C a o w (.int .i64 n):=by
 have ha:c.args=#[x]:=by apply If;simpa using eo
 have l4:c.argTypes=#[t]:=by apply If;simpa using eS
 refine⟨.int .i64 n,?_,.int _ _⟩;simp only[execOp,ho,resolve,dW,ha,l4,Sem.run_bind,Sem.run_pure,Result.andThen_ok,invoke,builtin,Builtin.len_];rcases hv with⟨ht,s,rfl,rfl⟩|⟨⟨e,ht⟩,⟨nl,sz,xs,rfl,rfl⟩|⟨b,q,rfl⟩⟩
 .have hq:=(qx he Y e1).cy;simp[run_underlying ht,hq,goInt];rfl
 .obtain⟨b,cap,hq⟩:=(qx he Y e1).len;simp[run_underlying ht,hq,goInt]
 .obtain⟨r,cap,_,_,hq⟩:=(qx he Y e1).fa;simp[run_underlying ht,hq,goInt]
theorem Ro {f:AVal->AVal->Option AVal}{g:Value->Value->Sem Value}(Yd:∀x y z u v,f x y=Eb z->bS C x u->bS C y v->∃q,(g u v).run P w=.ok q w/\bS C z q):
  ∀(ys:List AVal) (x z:AVal) (u:Value) (vs:List Value),oz f x ys=Eb z->bS C x u->bf C ys vs->∃q,(vs.foldlM g u).run P w=.ok q w/\bS C z q
 | [],x,z,u,vs,h,M,hy=>by
  cases hy;simp[oz]at h;subst h;exact⟨u,rfl,M⟩
 |y::ys,x,z,u,vs,h,M,hy=>by
  cases hy with
  |cons _ _ v vs hy Q=>
   simp only[oz]at h;split at h
   .rename_i z1 l5;obtain⟨q,hq,rq⟩:=Yd x y z1 u v l5 M hy;obtain⟨q2,hq2,rq2⟩:=Ro Yd ys z1 z q vs h rq Q;exact⟨q2,by simp[List.foldlM_cons,hq,hq2],rq2⟩
   .cases h
theorem Ye {c:Call}{fU:List jq}{p v:AVal}{ps:List AVal}{mx:Bool}(he:bw C env a.tmps)(ho:o.op=.call c)(dW:c.callee=.builtin (if mx then .max else .min))(Y:qF c.args.toList=Eb fU)(e1:gE env fU=Eb (p::ps))
  (hv:oz (if mx then max2 else min2) p ps=Eb v):Val P C a o w v:=by
 have r1:=EL he Y e1
 have ez:(c.args.map a.eval).toList=c.args.toList.map a.eval:=by simp
 cases mx
 .generalize hl:c.args.toList.map a.eval=l at r1
  cases r1 with
  |cons _ _ u us hu gY=>
   obtain⟨q,hq,rq⟩:=Ro (P:=P) (w:=w) (C:=C) (f:=min2) (g:=Builtin.min2) (fun x y z u v h M hy=>by
    unfold min2 at h
    split at h<;>first|cases h|skip
    rename_i k n k' m;by_cases hk:k=k'
    ·subst hk;simp at h;subst h;obtain rfl:=M.bU;obtain rfl:=hy.bU;exact⟨_,rfl,.int _ _⟩
    ·simp[hk]at h) ps p v u us (by simpa using hv) hu gY
   refine⟨q,?_,rq⟩;simp only[H5,if_false]at dW;simp[execOp,ho,resolve,dW,invoke,builtin,Builtin.min_,hl,hq]
 .generalize hl:c.args.toList.map a.eval=l at r1
  cases r1 with
  |cons _ _ u us hu gY=>
   obtain⟨q,hq,rq⟩:=Ro (P:=P) (w:=w) (C:=C) (f:=max2) (g:=Builtin.max2) (fun x y z u v h M hy=>by
    unfold max2 at h
    split at h<;>first|cases h|skip
    rename_i k n k' m;by_cases hk:k=k'
    ·subst hk;simp at h;subst h;obtain rfl:=M.bU;obtain rfl:=hy.bU;exact⟨_,rfl,.int _ _⟩
    ·simp[hk]at h) ps p v u us (by simpa using hv) hu gY
   refine⟨q,?_,rq⟩;simp only[if_true]at dW;simp[execOp,ho,resolve,dW,invoke,builtin,Builtin.max_,hl,hq]
theorem q9a {x x' i vs v}(he:bw C env a.tmps)(ho:o.op=.extract x i)(Y:qv x=Eb x')(e1:qj env x'=Eb (.bq vs))(hv:vs[i]?=Eb v):Val P C a o w v:=by
 obtain⟨us,hu,ru⟩:=(qx he Y e1).oH;obtain⟨u,Y,I⟩:=ru.get hv;exact⟨u,by simp[execOp,ho,hu,Instr.extract,Y],I⟩
end
section
variable {P:Program}{C:aM}{w:World}{env:Env}{a:Act}{o:Oper}
theorem Ap {x v}(h:bS C x v)(G:x.flat.all qm=En):bf C x.flat v.cells.toList:=by
 cases h<;>first
  |(simp only[AVal.flat,Value.cells];exact .cons _ _ _ _ (by constructor<;>assumption) .nil)
  |skip
 .simpa[AVal.flat,Value.cells]
 all_goals first|done|exact absurd G (by simp[AVal.flat,qm])|skip
theorem Yf (off:Nat):∀(l:List Value) (k:Nat) (cs:Array Value),off+k+l.length<=cs.size ->
  ((l.zipIdx k).foldl (fun cs (x:Value×Nat)=>cs.setIfInBounds (off+x.2) x.1) cs).toList=cs.toList.take (off+k)++l++cs.toList.drop (off+k+l.length)
 | [],k,cs,_=>by simp
 |v::l,k,cs,h=>by
  simp only[List.zipIdx_cons,Y1];simp at h;rw[Yf off l (k+1) (cs.setIfInBounds (off+k) v) (by simp;omega)]
  have bh:off+k<cs.toList.length:=by simp;omega
  rw[Array.toList_setIfInBounds]
  have e1:(cs.toList.set (off+k) v).take (off+(k+1))=cs.toList.take (off+k)++[v]:=by
   rw[<-Vw,List.take_succ_eq_append_getElem (by simpa using bh),List.take_set,List.set_eq_of_length_le (by simp;omega),List.getElem_set_self]
  have e2:(cs.toList.set (off+k) v).drop (off+(k+1)+l.length)=cs.toList.drop (off+k+(v::l).length):=by
   rw[List.drop_set_of_lt (by omega)]
   congr 1
   simp;omega
  rw[e1,e2];simp
inductive EO (C:aM)(place:Nat->Option (Nat×Nat)):List (Nat×Value)->List (Nat×List AVal)->Prop where
 |nil:EO C place [] []
 |cons (i:Nat) (v:Value) (off:Nat) (vs:List AVal) (ps:List (Nat×Value)) (qs:List (Nat×List AVal)) (Y:place i=Eb (off,vs.length)) (I:bf C vs v.cells.toList) (h:EO C place ps qs):EO C place ((i,v)::ps) ((off,vs)::qs)
theorem L0 {place}:∀(ps:List (Nat×Value)) (qs:List (Nat×List AVal)) (xs ys:List AVal) (cs:Array Value),bf C xs cs.toList->jT xs qs=Eb ys ->
  EO C place ps qs ->
  ∃ds,Instr.fill place cs ps=Eb ds/\bf C ys ds.toList
 | [],qs,xs,ys,cs,M,hf,hp=>by
  cases hp;simp[jT]at hf;subst hf;exact⟨cs,rfl,M⟩
 |_::ps,qs,xs,ys,cs,M,hf,hp=>by
  cases hp with
  |cons i v off vs _ qs G4 Q htl=>
   simp only[jT]at hf
   cases hb:E9 (off+vs.length) xs.length with
   |false=>simp[hb]at hf
   |true=>
    simp only[hb,cond_true]at hf;have hle:=Ib hb;have eh:=M.length;have en:=Q.length;simp at eh en;have rP:=Yf off v.cells.toList 0 cs (by simp;omega)
    have hz:v.cells.zipIdx.foldl (fun cs (x:Value×Nat)=>cs.setIfInBounds (off+x.2) x.1) cs=(v.cells.toList.zipIdx 0).foldl (fun cs (x:Value×Nat)=>cs.setIfInBounds (off+x.2) x.1) cs:=by
     rw[<-Array.foldl_toList,Array.toList_zipIdx]
    obtain⟨ds,Y,I⟩:=L0 (place:=place) ps qs _ ys (v.cells.zipIdx.foldl (fun cs (x:Value×Nat)=>cs.setIfInBounds (off+x.2) x.1) cs) (by
     rw[hz,rP];simp only[Uy,Array.length_toList,en]
     exact bf.append (bf.append (M.take off) Q) (M.drop _)) hf htl
    refine⟨ds,?_,I⟩;simp only[Instr.fill,G4];rw[if_neg (by simp;omega)];exact Y
theorem Rp {place}(he:bw C env a.tmps):∀(ps:List (Nat×Operand)) (fV:List (Nat×Nat×jq)) (qs:List (Nat×List AVal)),xt P place ps=Eb fV->km env fV=Eb qs ->
  EO C place (ps.map fun x=>(x.1,a.eval x.2)) qs
 | [],fV,qs,hc,hv=>by
  simp[xt]at hc;subst hc;simp[km]at hv;subst hv;exact .nil
 |(i,x)::ps,fV,qs,hc,hv=>by
  simp only[xt]at hc;split at hc
  .rename_i off n y r G4 hy Q;cases hc;simp only[km]at hv;split at hv
   .rename_i v oG
    cases hb:(E3 v.flat.length n&&v.flat.all qm)with
    |false=>simp[hb]at hv
    |true=>
     simp only[hb,cond_true]at hv;simp only[Ic]at hb;split at hv
     .rename_i r' jV;cases hv;have hl:=E8 hb.1;exact .cons _ _ _ _ _ _ (by rw[G4,hl]) (Ap (qx he hy oG) hb.2) (Rp he ps r r' Q jV)
     .cases hv
   .cases hv
  .cases hc
theorem Yg {t:TypeId}{z}(h:yu P t=Eb z)(w:World):∃v,(zeroValue t).run P w=.ok v w/\bf C z v.cells.toList/\∃i,P.info? t=Eb i/\i.zero=Eb v:=by
 unfold yu at h;split at h
 .rename_i i hi;split at h
  .rename_i v hv;exact⟨v,by simp[zeroValue,typeInfo,hi,hv],LS C h,i,hi,hv⟩
  .cases h
 .cases h
theorem Yh {fs:Array Field}(w:World):∀(l:List Field),(∀f∈l,(jp P f.type).isSome)->(l.mapM fun(f:Field)=>(do pure (f.offset,<-sizeOf f.type):Sem (Nat×Nat))).run P w=.ok (l.map fun f=>(f.offset,(jp P f.type).getD 0)) w
 | [],_=>rfl
 |f::l,h=>by
  obtain⟨n,hn⟩:=Jq.1 (h f (by simp));simp only[List.mapM_cons,Sem.run_bind,yn hn,Result.andThen_ok,Sem.run_pure,Yh (fs:=fs) w l (fun g hg=>h g (by simp[hg])),Sd,hn,Option.getD_some]
theorem qyx {t:TypeId}{ps fs z fV qs cs}(he:bw C env a.tmps)(ho:o.op=.build t ps)(ht:P.underlying t=Eb (.struct fs))(hz:yu P t=Eb z)
  (hall:∀f∈fs.toList,(jp P f.type).isSome) (nf:xt P (fun i=>match fs[i]? with|some f=>(jp P f.type).map fun n=>(f.offset,n)|none=>Eg) ps.toList=Eb fV) (hq:km env fV=Eb qs) (hf:jT z qs=Eb cs):Val P C a o w (.agg cs):=by
 obtain⟨zv,lL,cR,_⟩:=Yg (C:=C) hz w;have hm:=Yh (P:=P) (fs:=fs) w fs.toList hall;have tT:=Rp (P:=P) he ps.toList fV qs nf hq
 have Aq:(fun(i:Nat)=>match fs[i]? with|some f=>(jp P f.type).map fun n=>(f.offset,n)|none=>Eg)=fun(i:Nat)=>((fs.toList.map fun f=>(f.offset,(jp P f.type).getD 0)).toArray)[i]?:=by
  funext i
  have hm:∀f,fs[i]?=Eb f->f∈fs.toList:=fun f h=>by rw[Array.mem_toList_iff];exact Array.mem_of_getElem? h
  obtain⟨l⟩:=fs;simp only[H3,Mn]at hm ⊢
  cases h:l[i]? with
  |none=>rfl
  |some f=>
   obtain⟨n,hn⟩:=Jq.1 (hall f (hm f h));simp[hn]
 rw[Aq]at tT;obtain⟨ds,hd,Q⟩:=L0 (ps.toList.map fun x=>(x.1,a.eval x.2)) qs z cs zv.cells cR hf tT;refine⟨.agg ds,?_,.agg cs ds.toList Q⟩
 have l6:(fs.mapM fun(f:Field)=>(do pure (f.offset,<-sizeOf f.type):Sem (Nat×Nat))).run P w=.ok ((fs.toList.map fun f=>(f.offset,(jp P f.type).getD 0)).toArray) w:=by
  rw[Array.mapM_eq_mapM_toList];simp only[Sem.run_map];rw[hm];rfl
 have tU:(ps.map fun(x:Nat×Operand)=>(x.1,a.eval x.2)).toList=ps.toList.map fun x=>(x.1,a.eval x.2):=by simp
 simp only[execOp,ho,Instr.build,Sem.run_bind,lL,Result.andThen_ok,run_underlying ht,l6,tU,hd,Sem.run_pure]
theorem q05 {t e:TypeId}{ps len n z fV qs cs}(he:bw C env a.tmps)(ho:o.op=.build t ps)(ht:P.underlying t=Eb (.array len e))(hz:yu P t=Eb z)
  (hn:jp P e=Eb n) (nf:xt P (fun i=>Eb (i*n,n)) ps.toList=Eb fV) (hq:km env fV=Eb qs) (hf:jT z qs=Eb cs):Val P C a o w (.agg cs):=by
 obtain⟨zv,lL,cR,_⟩:=Yg (C:=C) hz w;have tT:=Rp (P:=P) he ps.toList fV qs nf hq;obtain⟨ds,hd,Q⟩:=L0 (ps.toList.map fun x=>(x.1,a.eval x.2)) qs z cs zv.cells cR hf tT;refine⟨.agg ds,?_,.agg cs ds.toList Q⟩
 have tU:(ps.map fun(x:Nat×Operand)=>(x.1,a.eval x.2)).toList=ps.toList.map fun x=>(x.1,a.eval x.2):=by simp
 simp only[execOp,ho,Instr.build,Sem.run_bind,lL,Result.andThen_ok,run_underlying ht,yn hn,tU,hd,Sem.run_pure]
theorem Yi {sz}(he:bw C env a.tmps):∀(ps:List (Nat×Operand)) (fV:List (Nat×jq)) (qs:List (Nat×AVal)),xu ps=Eb fV->z9 env sz fV=Eb qs ->
  EO C (fun i=>Eb (i*sz,sz)) (ps.map fun x=>(x.1,a.eval x.2)) (qs.map fun x=>(x.1*sz,x.2.flat))/\∀q∈qs,q.2.flat.length=sz
 | [],fV,qs,hc,hv=>by
  simp[xu]at hc;subst hc;simp[z9]at hv;subst hv;exact⟨.nil,by simp⟩
 |(i,x)::ps,fV,qs,hc,hv=>by
  simp only[xu]at hc;split at hc
  .rename_i y r hy Q;cases hc;simp only[z9]at hv;split at hv
   .rename_i v oG
    cases hb:(E3 v.flat.length sz&&v.flat.all qm)with
    |false=>simp[hb]at hv
    |true=>
     simp only[hb,cond_true]at hv;simp only[Ic]at hb;split at hv
     .rename_i r' jV;cases hv;have hl:=E8 hb.1;obtain⟨Y,I⟩:=Yi he ps r r' Q jV;refine⟨.cons _ _ _ _ _ _ (by rw[hl]) (Ap (qx he hy oG) hb.2) Y,?_⟩;intro q hq;rcases St.1 hq with rfl|hq
      .exact hl
      .exact I q hq
     .cases hv
   .cases hv
  .cases hc
theorem Yj {sz}:∀(xs:List AVal) (i:Nat) (v:AVal),(∀x∈xs,x.flat.length=sz)->v.flat.length=sz->i<xs.length ->
  (xs.set i v).flatMap AVal.flat=(xs.flatMap AVal.flat).take (i*sz)++v.flat++(xs.flatMap AVal.flat).drop (i*sz+sz)
 | [],i,v,_,_,h=>by simp at h
 |x::xs,0,v,hl,hv,_=>by
  simp only[Xa,Ih,Nat.zero_mul,Y9,Oz,U6];rw[List.drop_append_of_le_length (by rw[hl x (by simp)];exact Ha _),Ik (by rw[hl x (by simp)];exact Ha _)];simp
 |x::xs,i+1,v,hl,hv,h=>by
  simp only[Xb,Ih];rw[Yj xs i v (fun y hy=>hl y (by simp[hy])) hv (by simpa using h)];have M:=hl x (by simp)
  have e1:(i+1)*sz=x.flat.length+i*sz:=by rw[M,Ii];omega
  have t1:Xn (x.flat.length+i*sz) (x.flat++xs.flatMap AVal.flat)=x.flat++(xs.flatMap AVal.flat).take (i*sz):=List.take_length_add_append _
  have t2:List.drop (x.flat.length+i*sz+sz) (x.flat++xs.flatMap AVal.flat)=(xs.flatMap AVal.flat).drop (i*sz+sz):=by
   rw[Vw];exact List.drop_length_add_append _
  rw[e1,t1,t2];simp
theorem ym {sz}:∀(xs:List AVal),(∀x∈xs,x.flat.length=sz)->(xs.flatMap AVal.flat).length=xs.length*sz
 | [],_=>by simp
 |x::xs,h=>by
  simp only[Ih,My,Xv];rw[ym xs (fun y hy=>h y (by simp[hy])),h x (by simp),Ii];omega
theorem Yk {sz}:∀(qs:List (Nat×AVal)) (xs ys:List AVal),lG xs qs=Eb ys->(∀x∈xs,x.flat.length=sz)->(∀q∈qs,q.2.flat.length=sz) ->
  jT (xs.flatMap AVal.flat) (qs.map fun x=>(x.1*sz,x.2.flat))=Eb (ys.flatMap AVal.flat)/\(∀y∈ys,y.flat.length=sz)/\ys.length=xs.length
 | [],xs,ys,h,M,_=>by simp[lG]at h;subst h;exact⟨rfl,M,rfl⟩
 |(i,v)::qs,xs,ys,h,M,hq=>by
  simp only[lG]at h
  cases hb:H2 i xs.length with
  |false=>simp[hb]at h
  |true=>
   simp only[hb,cond_true]at h
   have bh:i<xs.length:=by have:=Ib hb;omega
   have hv:=hq (i,v) (by simp)
   obtain⟨Y,I,h3⟩:=Yk qs (xs.set i v) ys h (fun y hy=>by
    rcases List.mem_or_eq_of_mem_set hy with h|rfl
    ·exact M y h
    ·exact hv) (fun q h=>hq q (by simp[h]))
   refine⟨?_,I,by simpa using h3⟩;have hl:=ym xs M
   have hle:i*sz+sz<=xs.length*sz:=by rw[<-Ii];exact Ig _ bh
   simp only[Sd,jT];rw[show E9 (i*sz+v.flat.length) (xs.flatMap AVal.flat).length=En from by rw[Nat.ble_eq];simp only at hv;omega];simp only[cond_true];rw[Yj xs i v M hv bh]at Y;simp only at hv;rw[hv];exact Y
end
section
variable {P:Program}{C C0:aM}{ω:Nat->Option Loc}{w w0:World}{hp:qi}{env:Env}{a:Act}{o:Oper}{tmps:Array Value}{d:Loc}
theorem ar.strip {B}(e:ar C ω w B env tmps)(s:Option Nat):ar C ω w B (ya env s) tmps:=by
 cases s with
 |none=>exact e
 |some s=>
  simp only[ya];split
  .rename_i v o hl;intro t x M;simp only[jm]at M
   cases hb:E3 s t with
   |false=>rw[hb]at M;simp at M;exact e t x M
   |true=>
    rw[hb]at M;simp at M;subst M;obtain rfl:=E8 hb;obtain⟨u,Y,I,_⟩:=e s _ hl;exact⟨u,Y,I,by simp⟩
  .exact e
theorem Yl (m:aA P C ω w0 C0 hp w)(e:ar C ω w w0.heap.size env tmps){x v}(h:bS C x v):zo P C0 w0 C tmps d env ⟨x,Eh,Eg,hp⟩ v w:=
 ⟨C,ω,aM.le_refl C,m,e,h,by simp⟩
theorem L2 (m:aA P C ω w0 C0 hp w)(e:ar C ω w w0.heap.size env tmps)(cells:Array Value)(t:TypeId)(xs:List AVal)(sz cap:Nat)(vs:List Value)(Q:bf C (xs.flatMap AVal.flat) vs)
  (hv:∀(j:Nat) v,vs[j]?=Eb v->cells[j]?=Eb v) (Y:∀v∈vs,v.oneCell'=En) (G:∀x∈xs,x.flat.length=sz) (hcap:xs.length<=cap) (cG:cap*sz<=cells.size) (s:Option Nat):
  zo P C0 w0 C tmps d env ⟨.list Eh sz xs,En,s,hp⟩ (.slice (Eb ⟨w.heap.size,0,Eg⟩) xs.length cap) (w.alloc (.cells cells t)):=by
 have hn:∀o,C.K w.heap.size o=Eg:=m.jU _ (Ha _);have M:Ext w (w.alloc (.cells cells t)):=Ext.alloc w _ (fun c t fr h=>by cases h;rfl);have m1:=(m.newRow cells t vs hv Y);have Rq:∀ℓ x v,aS C ω w w0.heap.size ℓ x v->aS (C.put w.heap.size 0 vs) (cN ω w.heap.size d) (w.alloc (.cells cells t)) w0.heap.size ℓ x v:=fun ℓ x v ho=>((ho.fresh (Ha _)).put vs (.inl (Ha _))).ext M;have hle:=aM.gH (C:=C) (off:=0) vs (fun o _=>hn o);have hcells:=aM.fo (C:=C) (off:=0) (fun o _=>hn o) Q
 have hl:vs.length=xs.length*sz:=by rw[Q.length,ym xs G]
 refine⟨C.put w.heap.size 0 vs,cN ω w.heap.size d,hle,?_,?_,?_,?_⟩
 .exact { m1 with box:=fun b x r fp hb=>((m.box b x r fp hb).mono hle fun j y v ho=>(ho.fresh (Ha _)).put vs (.inl (Ha _))).ext M }
 .refine ar.strip ?_ s
  exact fun t x M=>let ⟨v,Y,I,h3⟩:=e t x M; ⟨v,Y,aJ.mono hle I,fun h=>Rq _ _ _ (h3 h)⟩
 .exact .list _ _ _ _ _ hcap (bA.eY hcells G)
 .intro _;refine⟨by simp[cN],.inl m.size,?_,rfl,rfl,⟨cells,t,by rw[vE,if_pos rfl],by simpa using cG,gG.sized G⟩,?_⟩
  .intro b hb;have:=(m.lt b _ hb).1;simp at this
  .intro o ho;simp only[aM.put];rw[if_neg (by simp at ho;omega)];exact hn o
theorem L3 {zs:List Value}{sz}(hz:zs.length=sz)(G:0<sz):∀(n:Nat),(List.range (n*sz)).map (fun i=>zs.toArray[i % zs.toArray.size]!)=(E4 n zs).flatten
 |0=>by simp
 |n+1=>by
  rw[Ii,List.range_add,List.map_append,L3 hz G n,List.replicate_succ',List.flatten_append]
  congr 1
  simp only[List.map_map,R2,List.flatten_nil,List.append_nil];apply S6;intro j;rw[Mn];by_cases hj:j<sz
  .rw[List.getElem?_range hj];simp only[Vb,Function.comp,Sl,hz];rw[Nat.mul_add_mod_self_right,Nat.mod_eq_of_lt hj];rw[H6 (by omega),getElem!_pos _ _ (by simpa[hz]using hj)];simp
  .rw[R7 (by simpa using hj),R7 (by omega)];rfl
theorem bf.replicate {zs vs}(h:bf C zs vs):∀n:Nat,bf C (E4 n zs).flatten (E4 n vs).flatten
 |0=>.nil
 |n+1=>by
  rw[Mi,Mi,R2,R2];exact bf.append h (bf.replicate h n)
def tV (sz:Nat)(zero:List AVal):AVal:=bif E3 sz 1 then zero.headD .undef else .agg zero
theorem Rr {sz zero}(hz:zero.length=sz)(G:∀z∈zero,z.isAgg=Eh):(tV sz zero).flat=zero:=by
 unfold tV
 cases hb:E3 sz 1 with
 |false=>rfl
 |true=>
  obtain rfl:=E8 hb;obtain⟨z,rfl⟩:=Va.1 hz;exact qbk (G z (by simp))
theorem Ym {sz zero}(hz:zero.length=sz)(G:∀z∈zero,z.isAgg=Eh)(n:Nat):(E4 n (tV sz zero)).flatMap AVal.flat=(E4 n zero).flatten:=by
 induction n with
 |zero=>rfl|succ n ih=>rw[Mi,Ih,Rr hz G,ih,Mi,R2]
theorem q3n {v x}(h:EF v=Eb x):qm x=En/\v.oneCell'=En:=by
 unfold EF at h
 split at h<;>first|cases h|skip
 all_goals exact⟨rfl,rfl⟩
theorem Yn:∀ {vs:List Value} {xs:List AVal},vB vs=Eb xs->(∀x∈xs,qm x=En)/\∀v∈vs,v.oneCell'=En
 | [],xs,h=>by simp[vB]at h;subst h;simp
 |v::vs,xs,h=>by
  simp only[vB]at h;split at h
  .rename_i x M;split at h
   .rename_i ys nK;cases h;obtain⟨Y,I⟩:=q3n M;obtain⟨h3,h4⟩:=Yn nK;exact⟨by simpa using⟨Y,h3⟩,by simpa using⟨I,h4⟩⟩
   .cases h
  .cases h
theorem Yo {x}(h:qm x=En):x.isAgg=Eh:=by cases x<;>simp[qm,AVal.isAgg]at *
theorem tW {t:TypeId}{z}(h:yu P t=Eb z):(∀x∈z,qm x=En)/\∃v,(∀w,(zeroValue t).run P w=.ok v w)/\bf C z v.cells.toList/\∀u∈v.cells.toList,u.oneCell'=En:=by
 unfold yu at h;split at h
 .rename_i i hi;split at h
  .rename_i v hv;obtain⟨Y,I⟩:=Yn h;exact⟨Y,v,fun w=>by simp[zeroValue,typeInfo,hi,hv],LS C h,I⟩
  .cases h
 .cases h
theorem Rs {x v}(h:bS C x v)(G:qm x=En):v.oneCell'=En:=by
 cases h<;>first|rfl|(simp[qm]at G)
theorem Ar {xs}:∀ {vs:List Value},bf C xs vs->(∀x∈xs,qm x=En)->∀v∈vs,v.oneCell'=En:=by
 induction xs with
 |nil=>intro vs h _ v hv;cases h;cases hv
 |cons x xs ih=>
  intro vs h G v hv
  cases h with
  |cons _ _ u us M h=>
   rcases St.1 hv with rfl|hv
   .exact Rs M (G x (by simp))
   .exact ih h (fun y hy=>G y (by simp[hy])) v hv
theorem Yp:∀ (qs:List (Nat×List AVal)) (xs ys:List AVal),jT xs qs=Eb ys->(∀x∈xs,qm x=En)->(∀q∈qs,∀x∈q.2,qm x=En)->∀y∈ys,qm y=En
 | [],xs,ys,h,M,_=>by simp[jT]at h;subst h;exact M
 |(off,vs)::qs,xs,ys,h,M,hq=>by
  simp only[jT]at h
  cases hb:E9 (off+vs.length) xs.length with
  |false=>simp[hb]at h
  |true=>
   simp only[hb,cond_true]at h;refine Yp qs _ ys h ?_ (fun q h=>hq q (by simp[h]));intro x h;simp only[R1]at h;rcases h with(h|h)|h
   .exact M x (So h)
   .exact hq (off,vs) (by simp) x h
   .exact M x (List.mem_of_mem_drop h)
theorem Yq {sz}:∀(ps:List (Nat×jq)) (qs:List (Nat×AVal)),z9 env sz ps=Eb qs->∀q∈qs,∀x∈q.2.flat,qm x=En
 | [],qs,h=>by simp[z9]at h;subst h;simp
 |(i,x)::ps,qs,h=>by
  simp only[z9]at h;split at h
  .rename_i v oG
   cases hb:(E3 v.flat.length sz&&v.flat.all qm)with
   |false=>simp[hb]at h
   |true=>
    simp only[hb,cond_true]at h;simp only[Ic,Uw]at hb;split at h
    .rename_i r Q;cases h;intro q hq;rcases St.1 hq with rfl|hq
     .exact hb.2
     .exact Yq ps r Q q hq
    .cases h
  .cases h
theorem Yr (e:ar C ω w w0.heap.size env a.tmps){t el:TypeId}{ps len sz z fV qs xs}
  (ho:o.op=.buildSlice t len ps) (ht:P.underlying t=Eb (.slice el)) (hn:jp P el=Eb sz) (hz:yu P el=Eb z) (hlen:sz*len<=65536) (h0:0<sz) (il:z.length=sz)
  (nf:xu ps.toList=Eb fV) (hq:z9 env sz fV=Eb qs) (M:lG (E4 len (tV sz z)) qs=Eb xs):
  ∃ds,(execOp a.eval o).run P w=.ok (.value (.slice (Eb ⟨w.heap.size,0,Eg⟩) len len)) (w.alloc (.cells ds el))/\bf C (xs.flatMap AVal.flat) ds.toList/\(∀v∈ds.toList,v.oneCell'=En)/\(∀x∈xs,x.flat.length=sz)/\xs.length=len/\len*sz<=ds.size:=by
 obtain⟨rN,zv,lL,cR,l5⟩:=tW (C:=C) hz;have xC:∀x∈z,x.isAgg=Eh:=fun x h=>Yo (rN x h)
 have nM:zv.cells.toList.length=sz:=by rw[cR.length,il]
 have jW:((Ip (len*sz)).map (fun i=>zv.cells[i % zv.cells.size]!)).toList=(E4 len zv.cells.toList).flatten:=by
  have:=L3 nM h0 len;simpa using this
 obtain⟨tT,hqs⟩:=Yi e.cu ps.toList fV qs nf hq
 obtain⟨hf,qG,nL⟩:=Yk (sz:=sz) qs _ xs M (by
  intro x h;obtain⟨_,rfl⟩:=Nt.1 h
  rw[Rr il xC,il]) hqs
 rw[Ym il xC]at hf;obtain⟨ds,hd,hdr⟩:=L0 _ _ _ _ ((Ip (len*sz)).map (fun i=>zv.cells[i % zv.cells.size]!)) (by rw[jW];exact cR.replicate len) hf tT
 have jX:xs.length=len:=by simpa using nL
 have hsc:∀y∈xs.flatMap AVal.flat,qm y=En:=Yp _ _ _ hf (by
  intro x h;rw[Ux]at h;obtain⟨l,Y,I⟩:=h;obtain⟨_,rfl⟩:=Nt.1 Y
  exact rN x I) (by
  intro q hq1 x EN;obtain⟨p,jY,rfl⟩:=U8.1 hq1
  exact Yq fV qs hq p jY x EN)
 have As:ds.toList.length=len*sz:=by rw[hdr.length,ym xs qG,jX]
 refine⟨ds,?_,hdr,Ar hdr hsc,qG,jX,by simp at As;omega⟩
 .have tU:(ps.map fun(x:Nat×Operand)=>(x.1,a.eval x.2)).toList=ps.toList.map fun x=>(x.1,a.eval x.2):=by simp
  have hle:¬(16777216<len*sz):=by rw[Nat.mul_comm];omega
  by_cases G5:len=0
  .subst G5;have Q:Ip 0=#[]:=rfl;rw[Nat.zero_mul,Q,Array.map_empty]at hd;simp only[execOp,ho,Instr.buildSlice,Sem.run_bind,run_underlying ht,Result.andThen_ok,yn hn,tU];simp[Q,hd,newRow]
  .have bI:¬(len*sz=0):=by
    intro h;rcases Vf.1 h with h|h<;>omega
   simp only[execOp,ho,Instr.buildSlice,Sem.run_bind,run_underlying ht,Result.andThen_ok,yn hn,tU];simp[hle,bI,lL,hd,newRow]
theorem q16 (m:aA P C ω w0 C0 hp w)(e:ar C ω w w0.heap.size env a.tmps){t el:TypeId}{ps len sz z fV qs xs}
  (ho:o.op=.buildSlice t len ps) (ht:P.underlying t=Eb (.slice el)) (hn:jp P el=Eb sz) (hz:yu P el=Eb z) (hlen:sz*len<=65536) (h0:0<sz) (il:z.length=sz)
  (nf:xu ps.toList=Eb fV) (hq:z9 env sz fV=Eb qs) (M:lG (E4 len (tV sz z)) qs=Eb xs):
  ∃v w',(execOp a.eval o).run P w=.ok (.value v) w'/\zo P C0 w0 C a.tmps d env ⟨.list Eh sz xs,En,Eg,hp⟩ v w':=by
 obtain⟨ds,bE,hdr,Y,qG,jX,cG⟩:=Yr (C:=C) (ω:=ω) (w:=w) (w0:=w0) e ho ht hn hz hlen h0 il nf hq M;refine⟨_,_,bE,?_⟩;have fb:=L2 (d:=d) (tmps:=a.tmps) m e ds el xs sz len ds.toList hdr (by intro j v h;simpa using h) Y qG (by omega) cG Eg;rw[jX]at fb;exact fb
theorem q9i (m:aA P C ω w0 C0 hp w)(e:ar C ω w w0.heap.size env a.tmps){t el:TypeId}{x y:Operand}{x' y':jq}{n sz b:Nat}{z}
  (ho:o.op=.makeSlice t x y) (ht:P.underlying t=Eb (.slice el)) (hn:jp P el=Eb sz) (hb:oD P el=Eb b) (hz:yu P el=Eb z) (h0:0<sz) (il:z.length=sz)
  (Y:qv x=Eb x') (I:qv y=Eb y') (e1:qj env x'=Eb (.int .i64 (n:Int))) (e2:qj env y'=Eb (.int .i64 (n:Int))) (hle:n<=1073741824) (jB:b<=4096):
  ∃v w',(execOp a.eval o).run P w=.ok (.value v) w'/\zo P C0 w0 C a.tmps d env ⟨.list Eh sz (E4 n (tV sz z)),En,Eg,hp⟩ v w':=by
 obtain⟨rN,zv,lL,cR,l5⟩:=tW (C:=C) hz;have xC:∀x∈z,x.isAgg=Eh:=fun x h=>Yo (rN x h)
 have nM:zv.cells.toList.length=sz:=by rw[cR.length,il]
 have jW:((Ip (n*sz)).map (fun i=>zv.cells[i % zv.cells.size]!)).toList=(E4 n zv.cells.toList).flatten:=by
  have:=L3 nM h0 n;simpa using this
 have r1:=(qx e.cu Y e1).bU;have r2:=(qx e.cu I e2).bU
 have qG:∀x∈E4 n (tV sz z),x.flat.length=sz:=by
  intro x h;obtain⟨_,rfl⟩:=Nt.1 h;rw[Rr il xC,il]
 have gg:bf C ((E4 n (tV sz z)).flatMap AVal.flat) ((Ip (n*sz)).map (fun i=>zv.cells[i % zv.cells.size]!)).toList:=by
  rw[Ym il xC,jW];exact cR.replicate n
 obtain⟨i,hi,rQ⟩:∃i,P.info? el=Eb i/\i.bytes=b:=by
  unfold oD at hb
  cases hi:P.info? el with
  |none=>simp[hi]at hb|some i=>exact⟨i,rfl,by simpa[hi]using hb⟩
 have kW:i.size=sz:=by
  unfold jp at hn;rw[hi]at hn;simpa using hn
 have rR:IntKind.i64.wrap (n:Int)=n:=by
  rw[<-xB];unfold qf
  have:rH .i64 (n:Int)=En:=by simp[rH];exact Io hle (by decide)
  rw[this];rfl
 have Ak:b*n<=281474976710656:=Io (Sc jB hle) (by decide)
 have fb:=L2 (d:=d) (tmps:=a.tmps) m e ((Ip (n*sz)).map (fun i=>zv.cells[i % zv.cells.size]!)) el (E4 n (tV sz z)) sz n _ gg (by intro j v h;rw[Ie]at h;exact h) (by
   rw[jW];intro v hv;rw[Ux]at hv;obtain⟨l,q1,q2⟩:=hv;obtain⟨_,rfl⟩:=Nt.1 q1
   exact l5 v q2) qG (by simp) (by simp) Eg
 rw[List.length_replicate]at fb;refine⟨_,_,?_,fb⟩
 have c1:¬((b:Int)*(n:Int) > 2^48):=by
  have Y:((b*n:Nat):Int)<=281474976710656:=Int.ofNat_le.2 Ak;rw[Int.natCast_mul]at Y
  have I:(2:Int)^48=281474976710656:=by decide
  rw[I];omega
 have c2:¬((n:Int)<0):=by omega
 have Q:Ip 0=#[]:=rfl;simp only[execOp,ho,Instr.makeSlice,Sem.run_bind,run_underlying ht,r1,r2,asInt,asIntOf,Sem.run_pure,Result.andThen_ok,typeInfo,run_program,hi,rQ,rR,c2,c1,decide_false,Ze,H5,if_false,Int.lt_irrefl,gt_iff_lt,run_askRoom,Int.toNat_natCast,yn hn,newRow];by_cases Ao:n=0
 .subst Ao;simp[Q]
 .have bI:¬(n*sz=0):=by
   intro h;rcases Vf.1 h with h|h<;>omega
  simp[bI,lL]
end
structure gJ (w w':World)(r:Nat)(cs:Array Value):Prop where
 at_:∃t,w'.heap[r]?=Eb (.cells cs t (0,0))
 size:w'.heap.size=w.heap.size
 other:∀k,k≠r->w'.heap[k]?=w.heap[k]?
 os:w'.os=w.os
 output:w'.output=w.output
theorem G6 {w r old}{t:TypeId}(h:w.heap[r]?=Eb (.cells old t (0,0)))(cs:Array Value):gJ w (w.setRow r cs) r cs:=
 ⟨⟨t,setRow_heap w r old cs t (0,0) h⟩,setRow_size w r cs,fun k hk=>setRow_other w r k cs hk,rfl,rfl⟩
section
variable {P:Program}{C C0:aM}{ω:Nat->Option Loc}{w w' w0:World}{hp:qi}{env:Env}{a:Act}{o:Oper}{tmps:Array Value}{d:Loc}
theorem aS.gZ {B r cs ℓ x v}(hu:gJ w w' r cs)(Q:ω r≠Eb ℓ)(ho:aS C ω w B ℓ x v):aS C ω w' B ℓ x v:=by
 unfold aS at *;split at ho
 .rename_i a len cap;obtain⟨Y,I,h3,h4,h8,⟨cells,elem,h5,h6⟩,h7⟩:=ho;refine⟨Y,I,h3,h4,h8,⟨cells,elem,?_,h6⟩,h7⟩;rw[hu.other _ (fun h=>Q (h▸Y))];exact h5
 .rename_i a;obtain⟨Y,I,h3,h4,h8,⟨cells,elem,h5,h6⟩,h7⟩:=ho;refine⟨Y,I,h3,h4,h8,⟨cells,elem,?_,h6⟩,h7⟩;rw[hu.other _ (fun h=>Q (h▸Y))];exact h5
 .trivial
theorem bM.gZ {B b r r' cs x}(hu:gJ w w' r cs)(bI:r'≠r)(Q:∀j,ω r≠Eb (.cell b j))(hb:bM P C ω w B b r' x):bM P C ω w' B b r' x:=by
 have hg:=hu.other r' bI
 cases x with
 |hole=>exact hb
 |cells eE=>
  obtain⟨vs,elem,Y,I,h3⟩:=hb;exact⟨vs,elem,by rw[hg];exact Y,I,fun j c hc=>let ⟨v,a,q,b,d⟩:=h3 j c hc; ⟨v,a,q,b,fun e=>(d e).gZ hu (Q j)⟩⟩
 |map es=>obtain⟨cj,clock,Y,I⟩:=hb;exact⟨cj,clock,by rw[hg];exact Y,I⟩|iter s pos=>show w'.heap[r']?=_;rw[hg];exact hb|loop l=>obtain⟨lp,Y,I⟩:=hb;exact⟨lp,by rw[hg];exact Y,I⟩|fW t e l=>obtain⟨p,v,Y,I,h3,h4⟩:=hb;exact⟨p,v,by rw[hg];exact Y,I,h3,h4.gZ hu (Q 1)⟩|dead=>obtain⟨cs,t,Y⟩:=hb;exact⟨cs,t,by rw[hg];exact Y⟩|vec sz bO xs=>exact eg.imp (fun _ _ _ h=>h) (fun _ h=>h) (fun _ h _=>h) hg (fun q n cap k=>⟨hu.other q (fun hq=>Q 0 (hq▸k.1)),k.gZ hu (Q 0)⟩) hb
theorem Ys (m:aA P C ω w0 C0 hp w)(e:ar C ω w w0.heap.size env tmps){r q cells}{t:TypeId}{news s}(hω:ω r=Eb (.slot s))(hB:w0.heap.size<=r\/C.W r)(hβ:∀b,C.β b≠Eb r)
  (hg:w.heap[r]?=Eb (.cells cells t (0,0))) (cG:q+news.length<=cells.size) (hK:∀o,q<=o->C.K r o=Eg) (Y:∀v∈news,v.oneCell'=En):
  aA P (C.put r q news) (cN ω r d) w0 C0 hp (w.setRow r (cells.toList.take q++news++cells.toList.drop (q+news.length)).toArray) /\
  ar (C.put r q news) (cN ω r d) (w.setRow r (cells.toList.take q++news++cells.toList.drop (q+news.length)).toArray) w0.heap.size (ya env (Eb s)) tmps/\C.le (C.put r q news):=by
 have hu:=G6 hg (cells.toList.take q++news++cells.toList.drop (q+news.length)).toArray;generalize EP:w.setRow r (cells.toList.take q++news++cells.toList.drop (q+news.length)).toArray=w' at hu;have hle:=aM.gH (C:=C) (off:=q) news hK
 have cZ:∀ℓ x v,ℓ≠.slot s->aS C ω w w0.heap.size ℓ x v->aS (C.put r q news) (cN ω r d) w' w0.heap.size ℓ x v:=by
  intro ℓ x v hℓ ho
  have bI:ω r≠Eb ℓ:=by rw[hω];intro h;exact hℓ (Eb.inj h).symm
  have I:aS (C.put r q news) ω w' w0.heap.size ℓ x v:=(ho.put news (.inr bI)).gZ hu bI;exact I.other (.inl bI)
 refine⟨?_,?_,hle⟩
 .have G7:=hu.size;refine { base:=m.base,know:=?_,dj:=?_,apart:=?_,inj:=m.inj,lt:=?_,size:=?_,frame:=?_,fA:=?_,os:=hu.os.trans m.os,output:=hu.output.trans m.output,fresh:=m.fresh,grown:=aM.le_trans m.grown hle,old:=?_,box:=?_,iD:=fun q hq=>by rw[hu.size];exact m.iD q hq }
  .intro b p v hk;simp only[aM.put]at hk;split at hk
   .rename_i hc;obtain⟨rfl,I,h3⟩:=hc;obtain⟨t',G8⟩:=hu.at_;simp only[World.cell?,G8];rw[H3,Mh,H4 (by simp;omega),H0 (by simp;omega)]
    have:(Xn q cells.toList).length=q:=by simp;omega
    rw[this];simpa using hk
   .by_cases hb:b=r
    .subst hb
     have bh:p<q:=by
      rcases Nat.lt_or_ge p q with h|h
      .exact h
      .rw[hK p h]at hk;cases hk
     have hc:=m.know _ _ _ hk;obtain⟨t',G8⟩:=hu.at_;simp only[World.cell?,hg]at hc;simp only[World.cell?,G8];simp only[Ov,H5,if_false]at hc ⊢;rw[H3,Mh,H0 (by simp;omega),J5 bh,Ie];exact hc
    .have hc:=m.know _ _ _ hk;simp only[World.cell?]at hc ⊢;rw[hu.other b hb];exact hc
  .intro b p v hk;simp only[aM.put]at hk;split at hk
   .exact Y v (Ij hk)
   .exact m.dj b p v hk
  .intro b p o hb;simp only[aM.put];rw[if_neg]
   .exact m.apart b p o hb
   .rintro ⟨rfl,_⟩;exact hβ b hb
  .intro b p hb;rw[G7];exact m.lt b p hb
  .rw[G7];exact m.size
  .intro k hk hn hw
   have iq:k≠r:=fun h=>by
    subst h;rcases hB with h|h
    .omega
    .rw[m.grown.w]at h;exact hw h
   rw[hu.other k iq];exact m.frame k hk hn hw
  .intro k hk
   have iq:k≠r:=fun h=>by
    subst h;have:=m.fA k hk;rw[hg]at this;cases this
   rw[hu.other k iq];exact m.fA k hk
  .intro k o hk hw
   have iq:k≠r:=fun h=>by
    subst h;rcases hB with h|h
    .omega
    .rw[m.grown.w]at h;exact hw h
   simp only[aM.put];rw[if_neg (by rintro ⟨h,_⟩;exact iq h)];exact m.old k o hk hw
  .intro b x p M hb;have bI:p≠r:=fun h=>hβ b (h▸hb);have tX:=m.box b x p M hb;have lM:bM P C ω w' w0.heap.size b p x:=tX.gZ hu bI (fun j=>by rw[hω];simp);refine lM.mono hle fun j y v ho=>?_
   have l7:ω r≠Eb (.cell b j):=by rw[hω];simp
   exact(ho.put news (.inr l7)).other (.inl l7)
 .intro t x M
  have hlk:∃v o,jm s env=Eb (v,o)\/jm s env=Eg:=by
   cases h:jm s env with
   |none=>exact⟨.undef,Eh,.inr rfl⟩|some x=>exact⟨x.1,x.2,.inl rfl⟩
  by_cases l8:t=s
  .subst l8;simp only[ya]at M
   cases hl:jm t env with
   |none=>rw[hl]at M;simp only[hl]at M;cases M
   |some y=>
    rw[hl]at M;simp only[jm,U9,cond_true]at M;cases M;obtain⟨v,I,h3,_⟩:=e t y hl;exact⟨v,I,aJ.mono hle h3,by simp⟩
  .have fp:jm t env=Eb x:=by
    simp only[ya]at M
    cases hl:jm s env with
    |none=>rw[hl]at M;exact M
    |some y=>
     rw[hl]at M;simp only[jm]at M
     have:E3 s t=Eh:=by
      cases hb:E3 s t with
      |false=>rfl|true=>exact absurd (E8 hb).symm l8
     rw[this]at M;exact M
   obtain⟨v,I,h3,h4⟩:=e t x fp;exact⟨v,I,aJ.mono hle h3,fun h=>cZ _ _ _ (by simp[l8]) (h4 h)⟩
theorem Rt {t tx ty e:TypeId}{i:TypeInfo}(ht:P.underlying t=Eb (.slice e))(hi:P.info? e=Eb i)(r off nN Au:Nat)(x:Value)(n:Nat)(news:List Value)(G:Src P i.size tx x n news w)(eA:nN+n<=Au)
  {cells} {te:TypeId} (hg:w.heap[r]?=Eb (.cells cells te (0,0))) (cG:off+nN*i.size+news.length<=cells.size):
  (Builtin.append_ #[t,tx] ty #[.slice (Eb ⟨r,off,Eg⟩) nN Au,x]).run P w =
   .ok (.slice (Eb ⟨r,off,Eg⟩) (nN+n) Au) (w.setRow r (cells.toList.take (off+nN*i.size)++news++cells.toList.drop (off+nN*i.size+news.length)).toArray):=by
 have cq:=run_storeCells_at (P:=P) r (off+nN*i.size) te news 0 cells w hg (by simpa using cG) G.one;simp only[Uy]at cq;rcases G.kind with⟨e',hk⟩|hk<;>simp[Builtin.append_,run_underlying ht,run_underlying hk,sizeOf,typeInfo,hi,G.len,eA,G.cells,Addr.add_lit,cq]
theorem qni {t tx ty e:TypeId}{i:TypeInfo}(ht:P.underlying t=Eb (.slice e))(hi:P.info? e=Eb i)(x:Value)(G:Src P i.size tx x 0 [] w):
  (Builtin.append_ #[t,tx] ty #[.slice Eg 0 0,x]).run P w=.ok (.slice Eg 0 0) w:=by
 rcases G.kind with⟨e',hk⟩|hk<;>simp[Builtin.append_,run_underlying ht,run_underlying hk,sizeOf,typeInfo,hi,G.len,G.cells]
theorem L4 (m:aA P C ω w0 C0 hp w){u:TypeId}{ut:TypeDesc}{sz vy ys v}(hu:P.underlying u=Eb ut)(jC:Ae ut=En)(h:yb sz vy=Eb ys)(Q:bS C vy v):
  ∃news,Src P sz u v ys.length news w/\bf C (ys.flatMap AVal.flat) news/\(∀y∈ys,y.flat.length=sz)/\∀x∈news,x.oneCell'=En:=by
 have hk:(∃e',P.underlying u=Eb (.slice e'))\/P.underlying u=Eb .string:=by
  cases ut<;>simp[Ae]at jC
  .exact .inr hu
  .exact .inl ⟨_,hu⟩
 cases vy with
 |list n sy oI=>
  simp only[yb]at h
  cases hb:(E3 sz sy||oI.isEmpty)with
  |false=>simp[hb]at h
  |true=>
   simp only[hb,cond_true,Eb.injEq]at h;subst h;rcases Q.cQ with⟨rfl,rfl,rfl⟩|⟨rfl,r,q,cap,rfl,_,cY⟩|⟨rfl,rfl,ad,_,rfl⟩
   .exact⟨[],⟨hk,fun _=>rfl,run_firstCells_none w sz 0 0 0,run_firstCells_none w.drew sz 0 0 0,by simp,by simp⟩,.nil,by simp,by simp⟩
   .obtain⟨news,Y,I⟩:=cB.vals cY.cells
    have h3:∀x∈news,x.oneCell'=En:=fun x M=>by
     obtain⟨j,hj⟩:=Sp M;exact m.dj _ _ _ (I j x hj)
    have da:∀y∈oI,y.flat.length=sz:=by
     intro y hy;rcases Bool.or_eq_true _ _▸hb with hb|hb
     .rw[E8 hb];exact cY.sized y hy
     .rw[List.isEmpty_iff.1 hb]at hy;cases hy
    have hl:news.length=oI.length*sz:=by rw[Y.length,ym oI da]
    have hc:∀j u,news[j]?=Eb u->w.cell? ((⟨r,q,Eg⟩:Addr).add j)=Eb u:=fun j u hj=>by rw[add_lit];exact m.know _ _ _ (I j u hj)
    refine⟨news,⟨hk,fun _=>rfl,run_firstCells_some w sz _ _ _ _ news hl hc,run_firstCells_some w.drew sz _ _ _ _ news hl (by simpa using hc),hl,h3⟩,Y,da,h3⟩
   .exact⟨[],⟨hk,fun _=>rfl,run_firstCells_some w sz _ _ _ _ [] (by simp) (by simp),run_firstCells_some w.drew sz _ _ _ _ [] (by simp) (by simp),by simp,by simp⟩,.nil,by simp,by simp⟩
 |str s=>
  simp only[yb]at h
  cases hb:E3 sz 1 with
  |false=>simp[hb]at h
  |true=>
   simp only[hb,cond_true,Eb.injEq]at h;obtain rfl:=E8 hb;subst h;obtain rfl:=Q.cy
   have jZ:∀l:aj,(l.map fun(c:UInt8)=>AVal.int .u8 c.toNat).flatMap AVal.flat=l.map fun(c:UInt8)=>AVal.int .u8 c.toNat:=by
    intro l;induction l with
    |nil=>rfl|cons c l ih=>simp only[Sd,Ih,ih];rfl
   have gg:∀l:aj,bf C (l.map fun(c:UInt8)=>AVal.int .u8 c.toNat) (l.map fun b=>Value.int .u8 b.toNat):=by
    intro l;induction l with
    |nil=>exact .nil|cons c l ih=>exact .cons _ _ _ _ (.int _ _) ih
   refine⟨byteCells ⟨⟨s⟩⟩,⟨hk,fun w'=>by simp[Builtin.lenOf];rfl,?_,?_,?_,?_⟩,?_,?_,?_⟩
   .rw[Vg];exact firstCells_string (P:=P) ⟨⟨s⟩⟩ w
   .rw[Vg];exact firstCells_string (P:=P) ⟨⟨s⟩⟩ w.drew
   .simp[byteCells]
   .intro u hu;obtain⟨_,_,rfl⟩:=U8.1 hu;rfl
   .rw[jZ];simpa[byteCells]using gg s
   .intro y hy;obtain⟨_,_,rfl⟩:=U8.1 hy;rfl
   .intro u hu;obtain⟨_,_,rfl⟩:=U8.1 hu;rfl
 |_=>simp[yb]at h
theorem G9 {x s}(h:zw env x=Eb s):x=.tmp s/\∃v,jm s env=Eb (v,En):=by
 unfold zw at h;split at h
 .split at h
  .rename_i t v hl;cases h;exact⟨rfl,v,hl⟩
  .cases h
 .cases h
theorem Yt (e:ar C ω w w0.heap.size env a.tmps){x x' sz len cap xs ad}(Y:qv x=Eb x')(cZ:(zw env x').isSome=En)(e1:qj env x'=Eb (.list Eh sz xs))(M:a.eval x=.slice (Eb ad) len cap):ad.spot=Eg:=by
 obtain⟨s,gy⟩:=Jq.1 cZ;obtain⟨fp,v0,hl⟩:=G9 gy
 have iF:v0=.list Eh sz xs:=by
  subst fp;simp only[qj,hl]at e1;exact Eb.inj e1
 subst iF;obtain⟨cv,xD,L5,Av⟩:=e s _ hl
 have pw:cv=.slice (Eb ad) len cap:=by
  have hH:qv x=Eb (.tmp s):=by rw[Y,fp]
  cases x with
  |tmp t'=>
   simp only[qv]at hH;cases hH
   have:a.eval (.tmp s)=cv:=by simp[Act.eval,H9,xD]
   rw[<-this,M]
  |const u=>simp only[qv]at hH;split at hH<;>cases hH|func f=>simp[qv]at hH|global g=>simp[qv]at hH
 subst pw;exact(Av rfl).2.2.2.1
theorem jcp (m:aA P C ω w0 C0 hp w)(e:ar C ω w w0.heap.size env a.tmps){c}{t u el:TypeId}{ut:TypeDesc}{x y x' y' sz b n de xs ys vy}
  (ho:o.op=.call c) (dW:c.callee=.builtin .append) (eo:c.args.toList=[x,y]) (eS:c.argTypes.toList=[t,u]) (ht:P.underlying t=Eb (.slice el)) (hu:P.underlying u=Eb ut) (jC:Ae ut=En)
  (hn:jp P el=Eb sz) (hb:oD P el=Eb b) (Y:qv x=Eb x') (I:qv y=Eb y') (e1:qj env x'=Eb (.list n de xs)) (e2:qj env y'=Eb vy) (cU:yb sz vy=Eb ys)
  (cZ:n=En\/(zw env x').isSome=En) (Aw:sz=de\/(xs=[]/\n=En)) (hlen:xs.length+ys.length<=1073741824) (jB:b<=4096) (hzero:∃z,yu P el=Eb z/\z.length=sz):
  ∃v w',(execOp a.eval o).run P w=.ok (.value v) w'/\zo P C0 w0 C a.tmps d env ⟨tQ n sz xs ys,En,zw env x',hp⟩ v w':=by
 have ha:c.args=#[x,y]:=by apply If;simpa using eo
 have l4:c.argTypes=#[t,u]:=by apply If;simpa using eS
 obtain⟨i,hi,rQ⟩:∃i,P.info? el=Eb i/\i.bytes=b:=by
  unfold oD at hb
  cases hi:P.info? el with
  |none=>simp[hi]at hb|some i=>exact⟨i,rfl,by simpa[hi]using hb⟩
 have kW:i.size=sz:=by
  unfold jp at hn;rw[hi]at hn;simpa using hn
 obtain⟨z,hz,Ax⟩:=hzero
 obtain⟨zv,nO⟩:∃zv,i.zero=Eb zv:=by
  unfold yu at hz;rw[hi]at hz
  cases hq:i.zero with
  |none=>simp[hq]at hz|some v=>exact⟨v,rfl⟩
 have rx:=qx e.cu Y e1;have ry:=qx e.cu I e2;obtain⟨news,G,db,fO,dc⟩:=L4 m hu jC cU ry
 have fc:∀ {z:Value} {w':World},(Builtin.append_ #[t,u] o.type #[a.eval x,a.eval y]).run P w=.ok z w'->(execOp a.eval o).run P w=.ok (.value z) w':=by
  intro z w' h;simp[execOp,ho,resolve,dW,ha,l4,invoke,builtin,h]
 have nP:news.length=ys.length*sz:=by rw[db.length,ym ys fO]
 -- a new row
 have grow:∀(base:Option Addr) (cap:Nat) (eI:List Value),a.eval x=.slice base xs.length cap->cap<xs.length+ys.length->(∀(w':World),w'=w.drew->(Builtin.firstCells i.size xs.length (.slice base xs.length cap)).run P w'=.ok eI.toArray w') ->
   bf C (xs.flatMap AVal.flat) eI->(∀v∈eI,v.oneCell'=En)->(∀x∈xs,x.flat.length=sz) ->
   ∃v w',(execOp a.eval o).run P w=.ok (.value v) w'/\zo P C0 w0 C a.tmps d env ⟨.list Eh sz (xs++ys),En,zw env x',hp⟩ v w':=by
  intro base cap eI rS hcap hold xE Hd px
  have cG:Builtin.nextslicecap (xs.length+ys.length) cap*i.bytes<=281474976710656:=growslice_fits hcap (by
   rw[rQ]
   exact Io (Sc hlen jB) (by decide))
  have bE:=run_append_grow_src w t u o.type el i zv ht hi nO base xs.length cap eI (hold _ rfl) (a.eval y) ys.length news (kW▸G) hcap (by omega) cG;rw[<-rS]at bE;refine⟨_,_,fc bE,?_⟩;have M:Ext w w.drew:=Ext.drew w;have oJ:=grownCap_ge w (xs.length+ys.length) cap el
  have il:zv.cells.size=sz:=by
   obtain⟨_,Yu,l5,He,_⟩:=tW (C:=C) hz;have:=l5 w;simp[zeroValue,typeInfo,hi,nO]at this;subst this;have:=He.length;simp at this;omega
  have fb:=L2 (d:=d) (tmps:=a.tmps) (m.ext M) (e.ext M) ((eI++news).toArray++Builtin.zeroCells zv.cells (grownCap w (xs.length+ys.length) cap el-(xs.length+ys.length))) el (xs++ys) sz (grownCap w (xs.length+ys.length) cap el) (eI++news)
   (by rw[V9];exact bf.append xE db) (by
    intro j v hj;rw[Ml (by simpa using(Hc.1 hj).1)]
    simpa using hj) (by
    intro v hv;rcases R1.1 hv with hv|hv
    ·exact Hd v hv
    ·exact dc v hv) (by
    intro x M;rcases R1.1 M with M|M
    ·exact px x M
    ·exact fO x M) (by rw[My];exact oJ) (by
    have ho:=xE.length;rw[ym xs px]at ho;simp[Builtin.zeroCells,il,ho,nP];rw[<-R9,<-R9]
    exact Ig _ (by omega)) (zw env x')
  rw[My]at fb;exact fb
 rcases rx.cQ with⟨rfl,rfl,M⟩|⟨rfl,r,q,cap,M,hle,cY⟩|⟨rfl,rfl,ad,l0,M⟩
 rotate_right
 .exact absurd (Yt e Y (by rcases cZ with h|h<;>first|cases h|exact h) e1 M) l0
 ·-- nil
  cases ys with
  |nil=>
   have:news=[]:=by cases db;rfl
   subst this;refine⟨.slice Eg 0 0,w,fc ?_,C,ω,aM.le_refl C,m,e.strip _,by simpa[tQ]using aJ.iZ 0,fun _=>trivial⟩;rw[M];exact qni ht hi _ (kW▸G)
  |cons y1 ys1=>
   have:=grow Eg 0 [] M (by simp) (fun w' _=>run_firstCells_none w' _ _ _ _) .nil (by simp) (by simp);simpa[tQ]using this
 ·-- own
  rw[show tQ Eh sz xs ys=.list Eh sz (xs++ys)from rfl]
  have Hf:(zw env x').isSome=En:=by rcases cZ with h|h<;>first|cases h|exact h
  obtain⟨s,gy⟩:=Jq.1 Hf;obtain⟨fp,v0,hl⟩:=G9 gy
  obtain rfl:sz=de:=by rcases Aw with h|⟨_,h⟩<;>first|exact h|cases h
  have iF:v0=.list Eh sz xs:=by
   subst fp;simp only[qj,hl]at e1;exact Eb.inj e1
  subst iF;obtain⟨cv,xD,L5,Av⟩:=e s _ hl
  have pw:cv=.slice (Eb ⟨r,q,Eg⟩) xs.length cap:=by
   have hH:qv x=Eb (.tmp s):=by rw[Y,fp]
   cases x with
   |tmp t'=>
    simp only[qv]at hH;cases hH
    have:a.eval (.tmp s)=cv:=by simp[Act.eval,H9,xD]
    rw[<-this,M]
   |const u=>simp only[qv]at hH;split at hH<;>cases hH|func f=>simp[qv]at hH|global g=>simp[qv]at hH
  subst pw;obtain⟨hω,hB,hβ,_,L6,⟨cells,te,hg,cG,_⟩,hK⟩:=Av rfl;simp only at hω hB hβ hg cG hK;obtain⟨eI,Hg,Yv⟩:=cB.vals cY.cells;have px:=cY.sized;by_cases eA:xs.length+ys.length<=cap
  ·-- there is room
   have gK:(xs.length+ys.length)*sz<=cap*sz:=Ig _ eA;rw[R9]at gK;have bE:=Rt (P:=P) (w:=w) (ty:=o.type) ht hi r q xs.length cap (a.eval y) ys.length news (kW▸G) eA hg (by rw[kW,nP];omega);rw[<-M]at bE;obtain⟨m',e',cV⟩:=Ys (d:=d) (tmps:=a.tmps) m e (r:=r) (q:=q+xs.length*sz) (news:=news) hω hB hβ hg (by rw[nP];omega) hK dc;rw[kW]at bE;rw[gy];refine⟨_,_,fc bE,_,_,cV,m',e',?_,?_⟩
   .have rT:bA (C.put r (q+xs.length*sz) news) r sz (xs++ys) q:=bA.append (aJ.mono cV cY) (bA.eY (aM.fo hK db) fO);have:=aJ.list sz (xs++ys) r q cap (by simpa using eA) rT;simpa using this
   .intro _
    have hall:∀x∈xs++ys,x.flat.length=sz:=fun x M=>by
     rcases R1.1 M with M|M
     .exact px x M
     .exact fO x M
    refine⟨by simp[cN],hB,hβ,rfl,L6,⟨_,te,setRow_heap w r cells _ te (0,0) hg,?_,gG.sized hall⟩,?_⟩
    .simp;omega
    .intro p hp;rw[R9]at hp;simp only[aM.put];simp only at hp;rw[if_neg (by rw[nP];omega)];exact hK p (by omega)
  ·-- there is none
   have gI:∀v∈eI,v.oneCell'=En:=fun v hv=>by
    obtain⟨j,hj⟩:=Sp hv;exact m.dj _ _ _ (Yv j v hj)
   have Ru:eI.length=xs.length*i.size:=by rw[Hg.length,ym xs px,kW]
   have:=grow (Eb ⟨r,q,Eg⟩) cap eI M (by omega) (fun w' EP=>run_firstCells_some w' _ _ _ _ _ eI Ru (fun j v hj=>by
    subst EP;rw[add_lit];have:=m.know _ _ _ (Yv j v hj)
    simpa using this)) Hg gI px
   simpa using this
end
structure nQ (w w':World)(r:Nat):Prop where
 size:w'.heap.size=w.heap.size
 other:∀k,k≠r->w'.heap[k]?=w.heap[k]?
 fz:∀c t fr,w'.heap[r]?=Eb (.cells c t fr)->fr=(0,0)
 os:w'.os=w.os
 output:w'.output=w.output
theorem gJ.gZ {w w' r cs}(h:gJ w w' r cs):nQ w w' r:=
 ⟨h.size,h.other,fun c t fr hc=>by obtain⟨t',ht⟩:=h.at_;rw[ht]at hc;cases hc;rfl,h.os,h.output⟩
section
variable {P:Program}{C C0:aM}{ω:Nat->Option Loc}{w w' w0:World}{hp:qi}{env:Env}{a:Act}{o:Oper}{tmps:Array Value}{d:Loc}
variable (m:aA P C ω w0 C0 hp w)(e:ar C ω w w0.heap.size env a.tmps)
theorem aS.dK {B b r ℓ x v}(hu:nQ w w' r)(hb:C.β b=Eb r)(ho:aS C ω w B ℓ x v):aS C ω w' B ℓ x v:=by
 unfold aS at *;split at ho
 .obtain⟨Y,I,h3,h4,h8,⟨cells,elem,h5,h6⟩,h7⟩:=ho;refine⟨Y,I,h3,h4,h8,⟨cells,elem,?_,h6⟩,h7⟩;rw[hu.other _ (fun h=>h3 b (by rw[h];exact hb))];exact h5
 .obtain⟨Y,I,h3,h4,h8,⟨cells,elem,h5,h6⟩,h7⟩:=ho;refine⟨Y,I,h3,h4,h8,⟨cells,elem,?_,h6⟩,h7⟩;rw[hu.other _ (fun h=>h3 b (by rw[h];exact hb))];exact h5
 .trivial
theorem ar.dK {B b r}(hu:nQ w w' r)(hb:C.β b=Eb r)(e:ar C ω w B env tmps):ar C ω w' B env tmps:=
 fun s x M=>let ⟨v,Y,I,h3⟩:=e s x M; ⟨v,Y,I,fun h=>(h3 h).dK hu hb⟩
theorem bM.dK {B b b' r r' x}(hu:nQ w w' r)(hb:C.β b=Eb r)(bI:r'≠r)(h:bM P C ω w B b' r' x):bM P C ω w' B b' r' x:=by
 have hg:=hu.other r' bI
 cases x with
 |hole=>exact h
 |cells eE=>
  obtain⟨vs,elem,Y,I,h3⟩:=h;exact⟨vs,elem,by rw[hg];exact Y,I,fun j c hc=>let ⟨v,a,q,b,d⟩:=h3 j c hc; ⟨v,a,q,b,fun e=>(d e).dK hu hb⟩⟩
 |map es=>obtain⟨cj,clock,Y,I⟩:=h;exact⟨cj,clock,by rw[hg];exact Y,I⟩|iter s pos=>show w'.heap[r']?=_;rw[hg];exact h|loop l=>obtain⟨lp,Y,I⟩:=h;exact⟨lp,by rw[hg];exact Y,I⟩|fW t e l=>obtain⟨p,v,Y,I,h3,h4⟩:=h;exact⟨p,v,by rw[hg];exact Y,I,h3,h4.dK hu hb⟩|dead=>obtain⟨cs,t,Y⟩:=h;exact⟨cs,t,by rw[hg];exact Y⟩|vec sz bO xs=>exact eg.imp (fun _ _ _ h=>h) (fun _ h=>h) (fun _ h _=>h) hg (fun q n cap k=>⟨hu.other q (fun hq=>k.2.2.1 b (by rw[hb];exact congrArg Eb hq.symm)),k.dK hu hb⟩) h
theorem aA.dV {ω'}(m:aA P C ω w0 C0 hp w){b r}(hu:nQ w w' r)(hb:C.β b=Eb r)(x':bG)(hω:∀b' j y v,b'≠b->aS C ω w w0.heap.size (.cell b' j) y v->aS C ω' w w0.heap.size (.cell b' j) y v)
  (gL:bM P C ω' w' w0.heap.size b r x'):aA P C ω' w0 C0 (hp.set b x') w':=by
 have hfr:=m.fresh b r hb
 have EQ:w.heap[r]?≠Eb (.deferred (Eb [])):=by
  obtain⟨x,M⟩:=H6 (m.lt b r hb).2▸(⟨_,rfl⟩:∃x,Eb (hp[b]'(m.lt b r hb).2)=Eb x);have h0:=m.box b x r M hb;intro h
  cases x with
  |hole=>exact h0|cells cs=>obtain⟨vs,elem,Y,_⟩:=h0;rw[h]at Y;cases Y|map es=>obtain⟨cj,clock,Y,_⟩:=h0;rw[h]at Y;cases Y|iter s pos=>have Y:w.heap[r]?=_:=h0;rw[h]at Y;cases Y|loop l=>obtain⟨lp,Y,_⟩:=h0;rw[h]at Y;cases Y|fW t e l=>obtain⟨p,v,Y,_⟩:=h0;rw[h]at Y;cases Y|dead=>obtain⟨cs,t,Y⟩:=h0;rw[h]at Y;cases Y|vec sz bO xs=>obtain⟨_,_,_,_,_,_,cs,t,Y⟩:=h0;rw[h]at Y;cases Y
 refine { base:=m.base,know:=?_,dj:=m.dj,apart:=m.apart,inj:=m.inj,lt:=?_,size:=?_,frame:=?_,fA:=?_,os:=hu.os.trans m.os,output:=hu.output.trans m.output,fresh:=m.fresh,grown:=m.grown,old:=m.old,box:=?_,iD:=fun q hq=>by rw[hu.size];exact m.iD q hq }
 .intro k p v hk
  have bI:k≠r:=fun h=>by rw[h,m.apart b r p hb]at hk;cases hk
  have hc:=m.know _ _ _ hk;simp only[World.cell?]at hc ⊢;rw[hu.other k bI];exact hc
 .intro k p hk;rw[hu.size,Sf];exact m.lt k p hk
 .rw[hu.size];exact m.size
 .intro k hk hn hw;by_cases iq:k=r
  .subst iq;rcases hfr with h|h|h
   .exact absurd h (hn b)
   .omega
   .exact absurd h hw
  .rw[hu.other k iq];exact m.frame k hk hn hw
 .intro k hk;have iq:k≠r:=fun h=>EQ (h▸m.fA k hk);rw[hu.other k iq];exact m.fA k hk
 .intro k x p M hk;by_cases l9:k=b
  .subst l9;rw[hb]at hk;cases hk;rw[Il (m.lt k _ hb).2]at M;cases M;exact gL
  .rw[Mr (Um l9)]at M;have tT:p≠r:=fun h=>l9 (m.inj k b p hk (h▸hb));have h0:=m.box k x p M hk
   exact((h0.dK hu hb tT).mono (ω':=ω') (aM.le_refl C) (fun j y v ho=>by
    have:=hω k j y v l9
    -- the ownerships of other boxes,in the new world
    unfold aS at ho this ⊢;split at ho
    ·obtain⟨Y,I,h3,h4,h8,⟨cells,elem,h5,h6⟩,h7⟩:=ho;rename_i ad len cap;have l7:ad.block≠r:=fun h=>h3 b (h▸hb);rw[hu.other _ l7]at h5;obtain⟨k1,_⟩:=this ⟨Y,I,h3,h4,h8,⟨cells,elem,h5,h6⟩,h7⟩;exact⟨k1,I,h3,h4,h8,⟨cells,elem,by rw[hu.other _ l7];exact h5,h6⟩,h7⟩
    ·obtain⟨Y,I,h3,h4,h8,⟨cells,elem,h5,h6⟩,h7⟩:=ho;rename_i ad;have l7:ad.block≠r:=fun h=>h3 b (h▸hb);rw[hu.other _ l7]at h5;obtain⟨k1,_⟩:=this ⟨Y,I,h3,h4,h8,⟨cells,elem,h5,h6⟩,h7⟩;exact⟨k1,I,h3,h4,h8,⟨cells,elem,by rw[hu.other _ l7];exact h5,h6⟩,h7⟩
    ·trivial))
theorem bM.read {B b r off n cs us}(h:bM P C ω w B b r (.cells cs))(hl:zm cs off n=Eb us):
  ∃vs,bf C us vs/\us.length=n/\vs.length=n/\(∀j v,vs[j]?=Eb v->w.cell? ⟨r,off+j,Eg⟩=Eb v)/\∀v∈vs,v.oneCell'=En:=by
 unfold zm at hl
 cases hb:E9 (off+n) cs.length with
 |false=>simp[hb]at hl
 |true=>
  simp only[hb,cond_true,Eb.injEq]at hl;subst hl;have hle:=Ib hb;obtain⟨vs,elem,Y,I,h3⟩:=h
  have key:∀(n off:Nat),off+n<=cs.length->∃ws:List Value,bf C (((cs.drop off).take n).map (·.1)) ws/\ws.length=n/\∀j v,ws[j]?=Eb v->vs[off+j]?=Eb v/\v.oneCell'=En:=by
   intro n
   induction n with
   |zero=>intro off _;exact⟨[],by simpa using aJ.nil,rfl,by simp⟩
   |succ n ih=>
    intro off hle;obtain⟨ws,i1,i2,i3⟩:=ih (off+1) (by omega)
    have bh:off<cs.length:=by omega
    obtain⟨v,j1,j2,j3,_⟩:=h3 off cs[off] (H6 bh);refine⟨v::ws,?_,by simp[i2],?_⟩
    .rw[S4 bh];exact .cons _ _ _ _ j3 i1
    .intro j u hj
     cases j with
     |zero=>simp at hj;subst hj;exact⟨j1,j2⟩|succ j=>simp at hj;rw[show off+(j+1)=off+1+j from by omega];exact i3 j u hj
  obtain⟨ws,k1,k2,k3⟩:=key n off hle;refine⟨ws,k1,by simp;omega,k2,?_,?_⟩
  .intro j v hj;have:=(k3 j v hj).1;simp[World.cell?,Y,this]
  .intro v hv;obtain⟨j,hj⟩:=Sp hv;exact(k3 j v hj).2
theorem Hh {t:TypeId}{n r off vs}(hg:yq P t=Eb En)(hn:jp P t=Eb n)(hl:vs.length=n)(hc:∀j v,vs[j]?=Eb v->w.cell? ⟨r,off+j,Eg⟩=Eb v):
  (loadVar t ⟨r,off,Eg⟩).run P w=.ok (.agg ⟨vs⟩) w:=by
 have:=run_loadCells_list (P:=P) w ⟨r,off,Eg⟩ vs (fun j v hj=>by rw[add_lit];exact hc j v hj);rw[hl]at this;simp[loadVar,EM hg,yn hn,this]
theorem Hj {t:TypeId}{r off v}(hg:yq P t=Eb Eh)(hc:w.cell? ⟨r,off,Eg⟩=Eb v):(loadVar t ⟨r,off,Eg⟩).run P w=.ok v w:=by
 simp[loadVar,EM hg,hc]
theorem Rv (m:aA P C ω w0 C0 hp w)(he:bw C env a.tmps){t:TypeId}{x x' n ag p v}(ho:o.op=.load t x)(hg:yq P t=Eb ag)(hn:jp P t=Eb n)(Hk:ag=Eh->n=1)(Y:qv x=Eb x')(e1:qj env x'=Eb p)
  (hv:(∃b q cs us,p=.ptr b q/\qy hp b=Eb cs/\zm cs q n=Eb us/\((ag=En/\v=.agg us)\/(ag=Eh/\us=[v])))\/(p=.aq v/\Sm ag v.isAgg=Eh/\v.flat.length=n)):Val P C a o w v:=by
 rcases hv with⟨b,q,cs,us,rfl,iU,hl,hv⟩|⟨rfl,M,vG⟩
 .obtain⟨r,Q,hq⟩:=(qx he Y e1).dv
  have gM:hp[b]?=Eb (.cells cs):=by
   unfold qy at iU;split at iU
   .rename_i eE h;cases iU;exact h
   .cases iU
  obtain⟨vs,k1,_,k2,k3,_⟩:=(m.box b _ r gM Q).read hl;rcases hv with⟨rfl,rfl⟩|⟨rfl,rfl⟩
  .exact⟨.agg ⟨vs⟩,by simp[execOp,ho,Instr.loadAt,hq,Instr.sureAddr,Hh hg hn k2 k3],.agg _ _ k1⟩
  .cases k1 with
   |cons _ _ u us hu iL=>
    cases iL;refine⟨u,?_,hu⟩;have:=Hj (P:=P) hg (by simpa using k3 0 u rfl);simp[execOp,ho,Instr.loadAt,hq,Instr.sureAddr,this]
 .obtain⟨r,q,hq,hc⟩:=(qx he Y e1).eZ;obtain⟨vs,k1,k2⟩:=cB.vals hc
  have hl:vs.length=n:=by rw[k1.length,vG]
  have k3:∀j u,vs[j]?=Eb u->w.cell? ⟨r,q+j,Eg⟩=Eb u:=fun j u hj=>m.know _ _ _ (k2 j u hj)
  cases ag with
  |true=>
   cases v<;>simp[AVal.isAgg]at M;exact⟨.agg ⟨vs⟩,by simp[execOp,ho,Instr.loadAt,hq,Instr.sureAddr,Hh hg hn hl k3],.agg _ _ k1⟩
  |false=>
   rw[qbk (by simpa using M)]at k1
   cases k1 with
   |cons _ _ u us hu iL=>
    cases iL;refine⟨u,?_,hu⟩;have:=Hj (P:=P) hg (by simpa using k3 0 u rfl);simp[execOp,ho,Instr.loadAt,hq,Instr.sureAddr,this]
def aM.box (C:aM)(b r:Nat):aM:={ C with β:=fun k=>if k=b then Eb r else C.β k }
theorem aM.kX {b r}(h:C.β b=Eg):C.le (C.box b r):=
 ⟨fun _ _ _ h=>h,fun k p hk=>by
  simp only[aM.box];rw[if_neg (fun hb=>by rw[hb,h]at hk;cases hk)]
  exact hk,rfl,fun _ h=>h,fun _ h=>h⟩
theorem aS.box {B b r ℓ x v}(Q:w.heap.size<=r\/ω r≠Eb ℓ)(ho:aS C ω w B ℓ x v):aS (C.box b r) ω w B ℓ x v:=by
 unfold aS at *;split at ho
 .rename_i ad len cap;obtain⟨Y,I,h3,h4,h8,⟨cells,elem,h5,h6⟩,h7⟩:=ho;have bh:ad.block<w.heap.size:=(Hb.1 h5).1;refine⟨Y,I,fun k hk=>?_,h4,h8,⟨cells,elem,h5,h6⟩,h7⟩;simp only[aM.box]at hk;split at hk
  .have iG:r=ad.block:=Eb.inj hk;rcases Q with Q|Q
   .omega
   .exact Q (iG▸Y)
  .exact h3 k hk
 .rename_i ad;obtain⟨Y,I,h3,h4,h8,⟨cells,elem,h5,h6⟩,h7⟩:=ho;have bh:ad.block<w.heap.size:=(Hb.1 h5).1;refine⟨Y,I,fun k hk=>?_,h4,h8,⟨cells,elem,h5,h6⟩,h7⟩;simp only[aM.box]at hk;split at hk
  .have iG:r=ad.block:=Eb.inj hk;rcases Q with Q|Q
   .omega
   .exact Q (iG▸Y)
  .exact h3 k hk
 .trivial
theorem yz {h0 rk x h'}(h:aK h0 hp rk x=Eb h'):hp[h0+rk]?=Eb .hole/\h'=hp.set (h0+rk) x:=by
 unfold aK at h;split at h
 .rename_i hh;cases h;exact⟨hh,rfl⟩
 .cases h
theorem Hl (m:aA P C ω w0 C0 hp w){b}(h:hp[b]?=Eb .hole):C.β b=Eg:=by
 cases hb:C.β b with
 |none=>rfl|some r=>exact(m.box b .hole r h hb).elim
theorem aA.aK (m:aA P C ω w0 C0 hp w)(e:ar C ω w w0.heap.size env tmps){b}(hh:hp[b]?=Eb .hole)(obj:Obj)(Rw:∀c t fr,obj=.cells c t fr->fr=(0,0))(x:bG)
  (gL:∀C' ω' w',C.le C'->w'.heap[w.heap.size]?=Eb obj->bM P C' ω' w' w0.heap.size b w.heap.size x):
  aA P (C.box b w.heap.size) ω w0 C0 (hp.set b x) (w.alloc obj)/\ar (C.box b w.heap.size) ω (w.alloc obj) w0.heap.size env tmps/\C.le (C.box b w.heap.size):=by
 have M:Ext w (w.alloc obj):=Ext.alloc w obj Rw;have hβ:=Hl m hh;have hle:=aM.kX (C:=C) (r:=w.heap.size) hβ;have m':=m.ext M;have bh:b<hp.length:=(Hc.1 hh).1;refine⟨{ m' with apart:=?_,inj:=?_,lt:=?_,fresh:=?_,grown:=aM.le_trans m.grown hle,box:=?_ },?_,hle⟩
 .intro k r q hk;simp only[aM.box]at hk;split at hk
  .cases hk;exact m.jU _ (Ha _) q
  .exact m.apart k r q hk
 .intro k k' r hk fe;simp only[aM.box]at hk fe;split at hk<;>split at fe
  .rename_i Y I;rw[Y,I]
  .cases hk;have:=(m.lt k' _ fe).1;omega
  .cases fe;have:=(m.lt k _ hk).1;omega
  .exact m.inj k k' r hk fe
 .intro k r hk;rw[Sf];simp only[aM.box]at hk;split at hk
  .rename_i Y;cases hk;subst Y;exact⟨by rw[World.size_alloc];omega,bh⟩
  .have:=m.lt k r hk;exact⟨by rw[World.size_alloc];omega,this.2⟩
 .intro k r hk;simp only[aM.box]at hk;split at hk
  .cases hk;exact .inr (.inl m.size)
  .exact m.fresh k r hk
 .intro k y r hy hk;simp only[aM.box]at hk;split at hk
  .rename_i Y;subst Y;cases hk;rw[Il bh]at hy;cases hy;exact gL _ _ _ hle (by rw[vE,if_pos rfl])
  .rename_i Y;rw[Mr (Um Y)]at hy;exact((m.box k y r hy hk).mono (ω':=ω) hle fun j z v ho=>ho.box (.inl (Ha _))).ext M
 .exact fun s y hy=>let ⟨v,Y,I,h3⟩:=e s y hy; ⟨v,Y,aJ.mono hle I,fun h=>((h3 h).box (.inl (Ha _))).ext M⟩
theorem aS.Hm {B b r ℓ x v}(Q:∀cs t fr,w.heap[r]?≠Eb (.cells cs t fr))(ho:aS C ω w B ℓ x v):aS (C.box b r) ω w B ℓ x v:=by
 unfold aS at *;split at ho
 .rename_i ad len cap;obtain⟨Y,I,h3,h4,h8,⟨cells,elem,h5,h6⟩,h7⟩:=ho;refine⟨Y,I,fun k hk=>?_,h4,h8,⟨cells,elem,h5,h6⟩,h7⟩;simp only[aM.box]at hk;split at hk
  .have iG:r=ad.block:=Eb.inj hk;exact absurd (iG▸h5) (Q _ _ _)
  .exact h3 k hk
 .rename_i ad;obtain⟨Y,I,h3,h4,h8,⟨cells,elem,h5,h6⟩,h7⟩:=ho;refine⟨Y,I,fun k hk=>?_,h4,h8,⟨cells,elem,h5,h6⟩,h7⟩;simp only[aM.box]at hk;split at hk
  .have iG:r=ad.block:=Eb.inj hk;exact absurd (iG▸h5) (Q _ _ _)
  .exact h3 k hk
 .trivial
theorem aA.Hn (m:aA P C ω w0 C0 hp w)(e:ar C ω w w0.heap.size env tmps){b q es cj clock}(hh:hp[b]?=Eb .hole)(hg:w.heap[q]?=Eb (.map cj clock))(hq:∀k,C.β k≠Eb q)(hb:w0.heap.size<=q)(Q:cI C es cj.toList):
  aA P (C.box b q) ω w0 C0 (hp.set b (.map es)) w/\ar (C.box b q) ω w w0.heap.size env tmps/\C.le (C.box b q):=by
 have hβ:=Hl m hh;have hle:=aM.kX (C:=C) (r:=q) hβ;have bh:b<hp.length:=(Hc.1 hh).1
 have lN:∀cs t fr,w.heap[q]?≠Eb (.cells cs t fr):=fun cs t fr h=>by rw[hg]at h;cases h
 refine⟨{ m with apart:=?_,inj:=?_,lt:=?_,fresh:=?_,grown:=aM.le_trans m.grown hle,box:=?_ },?_,hle⟩
 .intro k r o hk;simp only[aM.box]at hk;split at hk
  .cases hk;show C.K q o=Eg
   cases hK:C.K q o with
   |none=>rfl
   |some v=>
    have:=m.know q o v hK;simp[World.cell?,hg]at this
  .exact m.apart k r o hk
 .intro k k' r hk fe;simp only[aM.box]at hk fe;split at hk<;>split at fe
  .rename_i Y I;rw[Y,I]
  .cases hk;exact absurd fe (hq k')
  .cases fe;exact absurd hk (hq k)
  .exact m.inj k k' r hk fe
 .intro k r hk;rw[Sf];simp only[aM.box]at hk;split at hk
  .rename_i Y;cases hk;subst Y;exact⟨(Hb.1 hg).1,bh⟩
  .exact m.lt k r hk
 .intro k r hk;simp only[aM.box]at hk;split at hk
  .cases hk;exact .inr (.inl hb)
  .exact m.fresh k r hk
 .intro k y r hy hk;simp only[aM.box]at hk;split at hk
  .rename_i Y;subst Y;cases hk;rw[Il bh]at hy;cases hy;exact⟨cj,clock,hg,Q.mono hle⟩
  .rename_i Y;rw[Mr (Um Y)]at hy;exact(m.box k y r hy hk).mono (ω':=ω) hle fun j z v ho=>ho.Hm lN
 .exact fun s y hy=>let ⟨v,Y,I,h3⟩:=e s y hy; ⟨v,Y,aJ.mono hle I,fun h=>(h3 h).Hm lN⟩
theorem Rx {xs vs}{t:TypeId}{B b r cells}(Q:bf C xs vs)(G:∀x∈xs,qm x=En)(hv:∀(j:Nat) v,vs[j]?=Eb v->cells[j]?=Eb v)(hl:xs.length<=cells.size):
  ∀C' ω' w',C.le C'->w'.heap[r]?=Eb (.cells cells t (0,0))->bM P C' ω' w' B b r (.cells (cellsOf xs)):=by
 intro C' ω' w' hle hg;refine⟨cells,t,hg,by simpa[cellsOf]using hl,?_⟩;intro j c hc;simp only[cellsOf,Mn,Ep]at hc;obtain⟨x,M,rfl⟩:=hc;obtain⟨v,Y,I⟩:=Q.get M;exact⟨v,hv j v Y,Rs I (G x (Ij M)),aJ.mono hle I,by simp⟩
section
include m e
theorem jgb {t:TypeId}{z h0 rk h'}(ho:o.op=.alloc t)(hz:yu P t=Eb z)(G:∀x∈z,qm x=En)(hn:aK h0 hp rk (.cells (cellsOf z))=Eb h'):
  ∃v w',(execOp a.eval o).run P w=.ok (.value v) w'/\zo P C0 w0 C a.tmps d env ⟨.ptr (h0+rk) 0,Eh,Eg,h'⟩ v w':=by
 obtain⟨hh,rfl⟩:=yz hn;obtain⟨_,zv,lL,cR,l5⟩:=tW (C:=C) hz;obtain⟨m',e',hle⟩:=m.aK e hh (.cells zv.cells t) (fun c t fr h=>by cases h;rfl) (.cells (cellsOf z)) (Rx cR G (fun j v h=>by simpa using h) (by have:=cR.length;simp at this;omega));refine⟨.pointer (Eb ⟨w.heap.size,0,Eg⟩),_,?_,_,_,hle,m',e',.ptr _ _ _ (by simp[aM.box]),by simp⟩;simp[execOp,ho,Instr.alloc,lL,newVar,newRow]
theorem jpt {t:TypeId}{x x' v h0 rk h'}(ho:o.op=.box t x)(Y:qv x=Eb x')(e1:qj env x'=Eb v)(G:v.flat.all qm=En)
  (hn:aK h0 hp rk (.cells (cellsOf v.flat))=Eb h'):
  ∃v w',(execOp a.eval o).run P w=.ok (.value v) w'/\zo P C0 w0 C a.tmps d env ⟨.ptr (h0+rk) 0,Eh,Eg,h'⟩ v w':=by
 obtain⟨hh,rfl⟩:=yz hn;have Q:=Ap (qx e.cu Y e1) G;obtain⟨m',e',hle⟩:=m.aK e hh (.cells (a.eval x).cells t) (fun c t fr h=>by cases h;rfl) (.cells (cellsOf v.flat)) (Rx Q (by simpa using G) (fun j v h=>by simpa using h) (by have:=Q.length;simp at this;omega));refine⟨.pointer (Eb ⟨w.heap.size,0,Eg⟩),_,?_,_,_,hle,m',e',.ptr _ _ _ (by simp[aM.box]),by simp⟩;simp[execOp,ho,Instr.box,newVar,newRow]
theorem jl7 {t:TypeId}{x x' v}(ho:o.op=.box t x)(Y:qv x=Eb x')(e1:qj env x'=Eb v)(G:v.flat.all qm=En):
  ∃u w',(execOp a.eval o).run P w=.ok (.value u) w'/\zo P C0 w0 C a.tmps d env ⟨.aq v,Eh,Eg,hp⟩ u w':=by
 have Q:=Ap (qx e.cu Y e1) G;have M:Ext w (w.alloc (.cells (a.eval x).cells t)):=Ext.alloc w _ (fun c t fr h=>by cases h;rfl);have hn:∀o,0<=o->C.K w.heap.size o=Eg:=fun o _=>m.jU _ (Ha _) o;have m':=m.newRow (a.eval x).cells t (a.eval x).cells.toList (fun j v h=>by simpa using h) (Ar Q (fun y hy=>Uw.1 G y hy));refine⟨.pointer (Eb ⟨w.heap.size,0,Eg⟩),_,?_,_,ω,aM.gH _ hn,m',(e.put _ (.inl (Ha _)) hn).ext M,.aq _ _ _ (aM.fo hn Q),by simp⟩;simp[execOp,ho,Instr.box,newVar,newRow]
theorem jnj {t:TypeId}{e' sz h0 rk h'}(ho:o.op=.alloc t)(hz:yu P t=Eb [.cC,.list En sz []])(hn:aK h0 hp rk (.fW t e' [])=Eb h'):
  ∃v w',(execOp a.eval o).run P w=.ok (.value v) w'/\zo P C0 w0 C a.tmps d env ⟨.ptr (h0+rk) 0,Eh,Eg,h'⟩ v w':=by
 obtain⟨hh,rfl⟩:=yz hn;obtain⟨_,zv,lL,cR,l5⟩:=tW (C:=C) hz
 have hzc:zv.cells=#[.pointer Eg,.slice Eg 0 0]:=by
  apply If;generalize zv.cells.toList=vs at cR
  cases cR with
  |cons _ _ v vs Y I=>
   cases I with
   |cons _ _ u us h3 h4=>
    cases h4;cases Y;cases h3;rfl
 obtain⟨m',e',hle⟩:=m.aK e hh (.cells zv.cells t) (fun c t fr h=>by cases h;rfl) (.fW t e' []) (fun C' ω' w' _ hg=>⟨.pointer Eg,.slice Eg 0 0,by rw[hzc]at hg;exact hg,.inl rfl,.inl ⟨rfl,rfl⟩,trivial⟩);refine⟨.pointer (Eb ⟨w.heap.size,0,Eg⟩),_,?_,_,_,hle,m',e',.ptr _ _ _ (by simp[aM.box]),by simp⟩;simp[execOp,ho,Instr.alloc,lL,newVar,newRow]
theorem jg6 {t:TypeId}{h0 rk h'}(ho:o.op=.makeMap t Eg)(hn:aK h0 hp rk (.map [])=Eb h'):
  ∃v w',(execOp a.eval o).run P w=.ok (.value v) w'/\zo P C0 w0 C a.tmps d env ⟨.map (h0+rk),Eh,Eg,h'⟩ v w':=by
 obtain⟨hh,rfl⟩:=yz hn;obtain⟨m',e',hle⟩:=m.aK e hh (.map #[] 0) (fun c t fr h=>by cases h) (.map []) (fun C' ω' w' _ hg=>⟨#[],0,hg,.nil⟩);refine⟨.map (Eb w.heap.size),_,?_,_,_,hle,m',e',.map _ _ (by simp[aM.box]),by simp⟩;simp[execOp,ho,Instr.makeMap]
theorem jdd {t:TypeId}{x x' s h0 rk h'}(ho:o.op=.range t x)(ht:P.underlying t=Eb .string)(Y:qv x=Eb x')(e1:qj env x'=Eb (.str s))(hn:aK h0 hp rk (.iter s 0)=Eb h'):
  ∃v w',(execOp a.eval o).run P w=.ok (.value v) w'/\zo P C0 w0 C a.tmps d env ⟨.ptr (h0+rk) 0,Eh,Eg,h'⟩ v w':=by
 obtain⟨hh,rfl⟩:=yz hn;have G:=(qx e.cu Y e1).cy;obtain⟨m',e',hle⟩:=m.aK e hh (.stringIter ⟨⟨s⟩⟩ 0) (fun c t fr h=>by cases h) (.iter s 0) (fun C' ω' w' _ hg=>hg);refine⟨.pointer (Eb ⟨w.heap.size,0,Eg⟩),_,?_,_,_,hle,m',e',.ptr _ _ _ (by simp[aM.box]),by simp⟩;simp[execOp,ho,Instr.range,run_underlying ht,G]
end
end
section
variable {P:Program}{C C0:aM}{ω:Nat->Option Loc}{w w' w0:World}{hp:qi}{env:Env}{a:Act}{o:Oper}{tmps:Array Value}{d:Loc}
def tY (ω:Nat->Option Loc)(x:AVal)(v:Value)(ℓ:Loc):Nat->Option Loc:=
 match x,v with
 | .list ..,.slice (Eb ad) _ _=>cN ω ad.block ℓ| .dG _,.pointer (Eb ad)=>cN ω ad.block ℓ|_,_=>ω
theorem xF {B ℓ0 ℓ ℓ' x z cv u}(h0:aS C ω w B ℓ0 x cv)(bI:ℓ≠ℓ0)(hz:aS C ω w B ℓ z u):aS C (tY ω x cv ℓ') w B ℓ z u:=by
 unfold tY;split
 .rename_i ad l c;have hω:ω ad.block=Eb ℓ0:=h0.1;exact hz.other (.inl (by rw[hω];intro h;exact bI (Eb.inj h).symm))
 .rename_i n ad;have hω:ω ad.block=Eb ℓ0:=h0.1;exact hz.other (.inl (by rw[hω];intro h;exact bI (Eb.inj h).symm))
 .exact hz
theorem L7 {B ℓ0 ℓ' x cv}(h0:aS C ω w B ℓ0 x cv):aS C (tY ω x cv ℓ') w B ℓ' x cv:=by
 unfold tY;split
 .exact⟨by simp[cN],h0.2⟩
 .exact⟨by simp[cN],h0.2⟩
 .rename_i Y I;unfold aS;split
  .exact absurd rfl (Y _ _ _ _ _ _ rfl)
  .exact absurd rfl (I _ _ rfl)
  .trivial
theorem vI {b cs}(h:qy hp b=Eb cs):hp[b]?=Eb (.cells cs):=by
 unfold qy at h;split at h
 .rename_i eE h';cases h;exact h'
 .cases h
theorem Ay {b x h'}(h:jx hp b x=Eb h'):h'=hp.set b x:=by
 unfold jx at h
 cases hb:H2 b hp.length with
 |false=>simp[hb]at h|true=>simpa[hb]using h.symm
theorem bM.store {ω':Nat->Option Loc}{B b r off:Nat}{cs:List (AVal×Bool)}{us:List AVal}{news:List Value}{fl:List Bool}{vs:Array Value}{t:TypeId}(L8:fl.length=us.length)(Q:bf C us news)(Y:∀v∈news,v.oneCell'=En)
  (hl:off+us.length<=cs.length) (da:cs.length<=vs.size) (hold:∀j c,cs[j]?=Eb c->∃v,vs[j]?=Eb v/\v.oneCell'=En/\bS C c.1 v/\(c.2=En->aS C ω' w' B (.cell b j) c.1 v))
  (dy:∀j u v,us[j]?=Eb u->news[j]?=Eb v->fl[j]?=Eb En->aS C ω' w' B (.cell b (off+j)) u v)
  (hg:w'.heap[r]?=Eb (.cells (vs.toList.take off++news++vs.toList.drop (off+news.length)).toArray t (0,0))):
  bM P C ω' w' B b r (.cells (cs.take off++us.zip fl++cs.drop (off+us.length))):=by
 have nP:=Q.length;refine⟨_,t,hg,?_,?_⟩
 .simp;omega
 .intro j c hc;rw[Mh]at hc
  have e1:(Xn off cs).length=off:=by simp;omega
  have e2:(us.zip fl).length=us.length:=by simp[L8]
  have f1:(Xn off vs.toList).length=off:=by simp;omega
  simp only[H3,Mh];by_cases hj:j<off
  .rw[H0 (by omega),J5 hj]at hc;obtain⟨v,J,a2,a3,a4⟩:=hold j c hc;exact⟨v,by rw[H0 (by omega),J5 hj,Ie];exact J,a2,a3,a4⟩
  .rw[H4 (by omega),e1]at hc;by_cases Yw:j<off+us.length
   .rw[H0 (by omega)]at hc;have dT:=List.getElem?_zip_eq_some.1 hc;obtain⟨v,J,a2⟩:=Q.get dT.1;refine⟨v,by rw[H4 (by omega),f1,H0 (by omega)];exact J,Y v (Ij J),a2,fun hf=>?_⟩;have:=dy (j-off) c.1 v dT.1 J (by rw[dT.2,hf]);rw[show off+(j-off)=j from by omega]at this;exact this
   .rw[H4 (by omega),e2,Ss]at hc;rw[show off+us.length+(j-off-us.length)=j from by omega]at hc;obtain⟨v,J,a2,a3,a4⟩:=hold j c hc;exact⟨v,by rw[H4 (by omega),f1,H4 (by omega),Ss,show off+news.length+(j-off-news.length)=j from by omega,Ie];exact J,a2,a3,a4⟩
theorem jfe (us:List AVal):us.zip (E4 us.length Eh)=us.map (·,Eh):=by
 induction us with
 |nil=>rfl|cons x us ih=>simp only[Xv,Mi,List.zip_cons_cons,ih,Sd]
theorem Yx (m:aA P C ω w0 C0 hp w)(e:ar C ω w w0.heap.size env tmps){b r off:Nat}{cs:List (AVal×Bool)}{us:List AVal}{news:List Value}(hb:hp[b]?=Eb (.cells cs))(Q:C.β b=Eb r)(gY:bf C us news)(Y:∀v∈news,v.oneCell'=En)(hl:off+us.length<=cs.length):
  ∃vs t,w.heap[r]?=Eb (.cells vs t (0,0))/\off+news.length<=vs.size /\
   aA P C ω w0 C0 (hp.set b (.cells (cs.take off++us.map (·,Eh)++cs.drop (off+us.length)))) (w.setRow r (vs.toList.take off++news++vs.toList.drop (off+news.length)).toArray) /\
   ar C ω (w.setRow r (vs.toList.take off++news++vs.toList.drop (off+news.length)).toArray) w0.heap.size env tmps:=by
 obtain⟨vs,t,hg,da,hold⟩:=m.box b _ r hb Q;have hu:=G6 hg (vs.toList.take off++news++vs.toList.drop (off+news.length)).toArray;have nP:=gY.length;refine⟨vs,t,hg,by omega,m.dV hu.gZ Q _ (fun b' j y v _ h=>h) ?_,e.dK hu.gZ Q⟩;rw[<-jfe];refine bM.store (by simp) gY Y hl da (fun j c hc=>?_) (fun j u v _ _ hf=>?_) (setRow_heap w r vs _ t (0,0) hg)
 .obtain⟨v,J,a2,a3,a4⟩:=hold j c hc;exact⟨v,J,a2,a3,fun h=>(a4 h).dK hu.gZ Q⟩
 .rw[List.getElem?_replicate]at hf;split at hf<;>cases hf
theorem Ry {t te:TypeId}{n r off v vs}(hn:jp P t=Eb n)(hl:v.cells.toList.length=n)(hg:w.heap[r]?=Eb (.cells vs te (0,0)))(cG:off+v.cells.toList.length<=vs.size)(Y:∀u∈v.cells.toList,u.oneCell'=En):
  (storeVar t ⟨r,off,Eg⟩ v).run P w=.ok () (w.setRow r (vs.toList.take off++v.cells.toList++vs.toList.drop (off+v.cells.toList.length)).toArray):=by
 have cq:=run_storeCells_at (P:=P) r off te v.cells.toList 0 vs w hg (by simpa using cG) Y;simp only[Uy]at cq
 have:¬(v.cells.size≠n):=by simp at hl;simpa using hl
 simp only[storeVar,Sem.run_bind,yn hn,Result.andThen_ok,this,if_false,Sem.run_ite,cq]
theorem jh1 (m:aA P C ω w0 C0 hp w)(e:ar C ω w w0.heap.size env a.tmps){t:TypeId}{x y x' y' n b q v cs eE h'}(ho:o.op=.store t x y)(hn:jp P t=Eb n)
  (Y:qv x=Eb x') (I:qv y=Eb y') (e1:qj env x'=Eb (.ptr b q)) (e2:qj env y'=Eb v) (iU:qy hp b=Eb cs) (vG:v.flat.length=n) (cq:jr cs q v.flat=Eb eE) (bK:jx hp b (.cells eE)=Eb h'):
  ∃w',(execOp a.eval o).run P w=.ok .skip w'/\zo P C0 w0 C a.tmps d env ⟨.undef,Eh,Eg,h'⟩ undef w':=by
 obtain⟨r,Q,hq⟩:=(qx e.cu Y e1).dv;unfold jr at cq
 cases hb:(E9 (q+v.flat.length) cs.length&&v.flat.all qm)with
 |false=>simp[hb]at cq
 |true=>
  simp only[hb,cond_true,Eb.injEq]at cq;simp only[Ic]at hb;subst cq;have ry:=Ap (qx e.cu I e2) hb.2;have dc:=Ar ry (by simpa using hb.2);obtain⟨vs,te,hg,cG,m',e'⟩:=Yx m e (vI iU) Q ry dc (Ib hb.1);obtain rfl:=Ay bK;have bE:=Ry (P:=P) hn (by rw[ry.length,vG]) hg cG dc;exact⟨_,by simp[execOp,ho,Instr.storeAt,hq,Instr.sureAddr,bE],C,ω,aM.le_refl C,m',e',.undef,by simp⟩
theorem q7i (m:aA P C ω w0 C0 hp w)(e:ar C ω w w0.heap.size env a.tmps){t:TypeId}{x y:Operand}{x' y':jq}{b q s:Nat}{v:AVal}{cs:List (AVal×Bool)}{h':qi}(ho:o.op=.store t x y)(hn:jp P t=Eb 1)
  (Y:qv x=Eb x') (I:qv y=Eb y') (e1:qj env x'=Eb (.ptr b q)) (e2:qj env y'=Eb v) (iU:qy hp b=Eb cs) (hv:v.cP=En) (bh:q<cs.length) (cZ:zw env y'=Eb s) (bK:jx hp b (.cells (cs.set q (v,En)))=Eb h'):
  ∃w',(execOp a.eval o).run P w=.ok .skip w'/\zo P C0 w0 C a.tmps d env ⟨.undef,Eh,Eb s,h'⟩ undef w':=by
 obtain⟨r,Q,hq⟩:=(qx e.cu Y e1).dv;have ry:=qx e.cu I e2;obtain⟨Az,v0,hl⟩:=G9 cZ
 have iF:v0=v:=by subst Az;simp only[qj,hl]at e2;exact Eb.inj e2
 subst iF
 have jZ:v0.flat=[v0]:=by cases v0<;>simp[AVal.cP]at hv<;>rfl
 have hsc:qm v0=En:=by cases v0<;>simp[AVal.cP]at hv<;>rfl
 have rf:=Ap ry (by rw[jZ];simpa using hsc);rw[jZ]at rf;have dc:=Ar rf (by simpa using hsc)
 have ec:(a.eval y).cells.toList=[a.eval y]:=by
  have:=Rs ry hsc;cases hh:a.eval y<;>simp[hh,Value.oneCell']at this<;>rfl
 obtain⟨cv,xD,L5,Av⟩:=e s _ hl
 have pw:a.eval y=cv:=by
  have AA:qv y=Eb (.tmp s):=by rw[I,Az]
  cases y with
  |tmp t'=>simp only[qv]at AA;cases AA;simp[Act.eval,H9,xD]|const u=>simp only[qv]at AA;split at AA<;>cases AA|func f=>simp[qv]at AA|global g=>simp[qv]at AA
 obtain⟨vs,te,hg,da,hold⟩:=m.box b _ r (vI iU) Q;have hu:=G6 hg (vs.toList.take q++[a.eval y]++vs.toList.drop (q+1)).toArray
 have eh:(a.eval y).cells.toList.length=1:=by rw[ec];rfl
 have bE:=Ry (P:=P) (t:=t) (off:=q) hn eh hg (by omega) dc;rw[eh,ec]at bE;obtain rfl:=Ay bK;have xG:=Av rfl;have oK:∀ℓ z u,ℓ≠.slot s->aS C ω w w0.heap.size ℓ z u->aS C (tY ω v0 cv (.cell b q)) w w0.heap.size ℓ z u:=fun ℓ z u hℓ hz=>xF xG hℓ hz;have dy:aS C (tY ω v0 cv (.cell b q)) w w0.heap.size (.cell b q) v0 cv:=L7 xG
 have hcs:cs.take q++[(v0,En)]++cs.drop (q+1)=cs.set q (v0,En):=by
  rw[List.set_eq_take_append_cons_drop,if_pos bh];simp
 refine⟨w.setRow r (vs.toList.take q++[a.eval y]++vs.toList.drop (q+1)).toArray,by simp only[execOp,ho,Instr.storeAt,Sem.run_bind,hq,Instr.sureAddr,Sem.run_pure,Result.andThen_ok,bE],C,tY ω v0 cv (.cell b q),aM.le_refl C,?_,?_,.undef,by simp⟩
 .refine m.dV hu.gZ Q _ (fun b' j z u fq hz=>oK _ z u (by simp) hz) ?_;rw[<-hcs];have hz:[(v0,En)]=[v0].zip [En]:=rfl;rw[hz];refine bM.store (us:=[v0]) (fl:=[En]) (news:=[a.eval y]) rfl (by rw[<-ec];exact rf) (by rw[<-ec];exact dc) (by simp;omega) da (fun j c hc=>?_) (fun j u v Ho oG _=>?_) (setRow_heap w r vs _ te (0,0) hg)
  .obtain⟨v,J,a2,a3,a4⟩:=hold j c hc;exact⟨v,J,a2,a3,fun h=>(oK _ _ _ (by simp) (a4 h)).dK hu.gZ Q⟩
  .cases j with
   |zero=>
    simp at Ho oG;subst Ho;subst oG;have h3:=dy.dK hu.gZ Q;exact pw▸h3
   |succ j=>simp at Ho
 .intro t' x' fp;by_cases l8:t'=s
  .subst l8;simp only[ya,hl,jm,U9,cond_true]at fp;cases fp;exact⟨cv,xD,L5,by simp⟩
  .have hJ:jm t' env=Eb x':=by
    simp only[ya,hl,jm]at fp
    have:E3 s t'=Eh:=by
     cases hb:E3 s t' with
     |false=>rfl|true=>exact absurd (E8 hb).symm l8
    rw[this]at fp;exact fp
   obtain⟨u,k1,k2,k3⟩:=e t' x' hJ;exact⟨u,k1,k2,fun h=>(oK _ _ _ (by simp[l8]) (k3 h)).dK hu.gZ Q⟩
end
section
variable {P:Program}{C C0:aM}{ω:Nat->Option Loc}{w w' w0:World}{hp:qi}{env:Env}{a:Act}{o:Oper}{tmps:Array Value}{d:Loc}
theorem q35 {s v ow}(hl:jm s env=Eb (v,ow)){t x}(M:jm t (ya env (Eb s))=Eb x):(t=s/\x=(v,Eh))\/(t≠s/\jm t env=Eb x):=by
 simp only[ya,hl,jm]at M
 cases hb:E3 s t with
 |true=>
  simp only[hb,cond_true,Eb.injEq]at M;exact .inl ⟨(E8 hb).symm,M.symm⟩
 |false=>
  simp only[hb,cond_false]at M;refine .inr ⟨fun h=>?_,M⟩;subst h;simp at hb
theorem jix (m:aA P C ω w0 C0 hp w)(e:ar C ω w w0.heap.size env a.tmps){s v ow}(ho:o.op=.move (.tmp s)\/o.op=.assign (.tmp s))(hl:jm s env=Eb (v,ow)):
  ∃u w',(execOp a.eval o).run P w=.ok (.value u) w'/\zo P C0 w0 C a.tmps d env ⟨v,ow,Eb s,hp⟩ u w':=by
 obtain⟨cv,Y,I,h3⟩:=e s _ hl
 have dY:a.eval (.tmp s)=cv:=by simp[Act.eval,H9,Y]
 have bE:(execOp a.eval o).run P w=.ok (.value cv) w:=by rcases ho with ho|ho<;>simp[execOp,ho,dY]
 refine⟨cv,w,bE,?_⟩;by_cases hk:ow=En
 .subst hk;have cZ:=h3 rfl;refine⟨C,tY ω v cv d,aM.le_refl C,?_,?_,I,fun _=>L7 cZ⟩
  .exact { m with box:=fun b x r M hb=>(m.box b x r M hb).mono (aM.le_refl C) fun j y u hz=>xF cZ (by simp) hz }
  .intro t x M;rcases q35 hl M with⟨rfl,rfl⟩|⟨bI,fp⟩
   .exact⟨cv,Y,I,by simp⟩
   .obtain⟨u,k1,k2,k3⟩:=e t x fp;exact⟨u,k1,k2,fun h=>xF cZ (by simpa using bI) (k3 h)⟩
 .refine⟨C,ω,aM.le_refl C,m,e.strip _,I,fun h=>absurd h hk⟩
theorem q7g (m:aA P C ω w0 C0 hp w)(e:ar C ω w w0.heap.size env a.tmps){t:TypeId}{x x' b q v ow cs h'}(ho:o.op=.load t x)(df:yq P t=Eb Eh)
  (Y:qv x=Eb x') (e1:qj env x'=Eb (.ptr b q)) (iU:qy hp b=Eb cs) (hc:cs[q]?=Eb (v,ow)) (bK:jx hp b (.cells (cs.set q (v,Eh)))=Eb h'):
  ∃u w',(execOp a.eval o).run P w=.ok (.value u) w'/\zo P C0 w0 C a.tmps d env ⟨v,ow,Eg,h'⟩ u w':=by
 obtain⟨r,Q,hq⟩:=(qx e.cu Y e1).dv;obtain⟨vs,te,hg,da,hold⟩:=m.box b _ r (vI iU) Q;obtain⟨cv,k1,k2,k3,k4⟩:=hold q _ hc;obtain rfl:=Ay bK
 have ec:w.cell? ⟨r,q,Eg⟩=Eb cv:=by
  simp only[World.cell?,hg];simpa using k1
 have bE:(execOp a.eval o).run P w=.ok (.value cv) w:=by
  simp[execOp,ho,hq,Instr.loadAt,Instr.sureAddr,Hj df ec]
 have hu:nQ w w r:=⟨rfl,fun _ _=>rfl,fun c t fr h=>by rw[hg]at h;cases h;rfl,rfl,rfl⟩
 have gL:∀ω':Nat->Option Loc,(∀j c u,j≠q->aS C ω w w0.heap.size (.cell b j) c u->aS C ω' w w0.heap.size (.cell b j) c u)->bM P C ω' w w0.heap.size b r (.cells (cs.set q (v,Eh))):=by
  intro ω' hk;refine⟨vs,te,hg,by simpa using da,fun j c hj=>?_⟩;rw[Xo]at hj;split at hj
  .rename_i Rz;subst Rz;split at hj
   .cases hj;exact⟨cv,k1,k2,k3,by simp⟩
   .cases hj
  .rename_i Rz;obtain⟨u,J,a2,a3,a4⟩:=hold j c hj;exact⟨u,J,a2,a3,fun h=>hk _ _ _ (Um Rz) (a4 h)⟩
 refine⟨cv,w,bE,?_⟩;by_cases hk:ow=En
 .subst hk;have cZ:=k4 rfl;refine⟨C,tY ω v cv d,aM.le_refl C,?_,?_,k3,fun _=>L7 cZ⟩
  .exact m.dV hu Q _ (fun b' j y u fq hz=>xF cZ (by simp[fq]) hz) (gL _ fun j c u hj hz=>xF cZ (by simp[hj]) hz)
  .exact fun t x M=>let ⟨u,k1,k2,k3⟩:=e t x M; ⟨u,k1,k2,fun h=>xF cZ (by simp) (k3 h)⟩
 .refine⟨C,ω,aM.le_refl C,m.dV hu Q _ (fun _ _ _ _ _ h=>h) (gL _ fun _ _ _ _ h=>h),e,k3,fun h=>absurd h hk⟩
end
section
variable {P:Program}{C C0:aM}{ω:Nat->Option Loc}{w w' w0:World}{hp:qi}{env:Env}{a:Act}{o:Oper}{tmps:Array Value}{d:Loc}
theorem q0z (m:aA P C ω w0 C0 hp w)(e:ar C ω w w0.heap.size env a.tmps){t el:TypeId}{x y:Operand}{x' y':jq}{n sz b h0 rk:Nat}{z h'}
  (ho:o.op=.makeSlice t x y) (ht:P.underlying t=Eb (.slice el)) (hn:jp P el=Eb sz) (hb:oD P el=Eb b) (hz:yu P el=Eb z) (RB:0<sz) (il:z.length=sz)
  (Y:qv x=Eb x') (I:qv y=Eb y') (e1:qj env x'=Eb (.int .i64 (n:Int))) (e2:qj env y'=Eb (.int .i64 (n:Int))) (hle:n<=1073741824) (jB:b<=4096)
  (dy:aK h0 hp rk (.cells (cellsOf (E4 n z).flatten))=Eb h'):
  ∃v w',(execOp a.eval o).run P w=.ok (.value v) w'/\zo P C0 w0 C a.tmps d env ⟨.ms (h0+rk) 0 n,Eh,Eg,h'⟩ v w':=by
 obtain⟨hh,rfl⟩:=yz dy;obtain⟨rN,zv,lL,cR,l5⟩:=tW (C:=C) hz
 have nM:zv.cells.toList.length=sz:=by rw[cR.length,il]
 have jW:((Ip (n*sz)).map (fun i=>zv.cells[i % zv.cells.size]!)).toList=(E4 n zv.cells.toList).flatten:=by
  have:=L3 nM RB n;simpa using this
 have r1:=(qx e.cu Y e1).bU;have r2:=(qx e.cu I e2).bU
 have gg:bf C (E4 n z).flatten ((Ip (n*sz)).map (fun i=>zv.cells[i % zv.cells.size]!)).toList:=by
  rw[jW];exact cR.replicate n
 obtain⟨i,hi,rQ⟩:∃i,P.info? el=Eb i/\i.bytes=b:=by
  unfold oD at hb
  cases hi:P.info? el with
  |none=>simp[hi]at hb|some i=>exact⟨i,rfl,by simpa[hi]using hb⟩
 have kW:i.size=sz:=by
  unfold jp at hn;rw[hi]at hn;simpa using hn
 have rR:IntKind.i64.wrap (n:Int)=n:=by
  rw[<-xB];unfold qf
  have:rH .i64 (n:Int)=En:=by simp[rH];exact Io hle (by decide)
  rw[this];rfl
 have Ak:b*n<=281474976710656:=Io (Sc jB hle) (by decide)
 obtain⟨m',e',cV⟩:=m.aK e hh (.cells ((Ip (n*sz)).map (fun i=>zv.cells[i % zv.cells.size]!)) el) (fun c t fr h=>by cases h;rfl) (.cells (cellsOf (E4 n z).flatten))
  (Rx gg (by
   intro x h;rw[Ux]at h;obtain⟨l,q1,q2⟩:=h;obtain⟨_,rfl⟩:=Nt.1 q1
   exact rN x q2) (by intro j v h;rw[Ie]at h;exact h) (by have:=gg.length;simp at this;simp;omega))
 refine⟨.slice (Eb ⟨w.heap.size,0,Eg⟩) n n,w.alloc (.cells ((Ip (n*sz)).map (fun i=>zv.cells[i % zv.cells.size]!)) el),?_,_,_,cV,m',e',.ms _ _ _ _ _ (by simp[aM.box]) (Ha _),by simp⟩
 have c1:¬((b:Int)*(n:Int) > 2^48):=by
  have Y:((b*n:Nat):Int)<=281474976710656:=Int.ofNat_le.2 Ak;rw[Int.natCast_mul]at Y
  have I:(2:Int)^48=281474976710656:=by decide
  rw[I];omega
 have c2:¬((n:Int)<0):=by omega
 have Q:Ip 0=#[]:=rfl;simp only[execOp,ho,Instr.makeSlice,Sem.run_bind,run_underlying ht,r1,r2,asInt,asIntOf,Sem.run_pure,Result.andThen_ok,typeInfo,run_program,hi,rQ,rR,c2,c1,decide_false,Ze,H5,if_false,Int.lt_irrefl,gt_iff_lt,run_askRoom,Int.toNat_natCast,yn hn,newRow];by_cases Ao:n=0
 .subst Ao;simp[Q]
 .have bI:¬(n*sz=0):=by
   intro h;rcases Vf.1 h with h|h<;>omega
  simp[bI,lL]
theorem j0h (m:aA P C ω w0 C0 hp w)(e:ar C ω w w0.heap.size env tmps){b r s cells}{t:TypeId}{us news}(hh:hp[b]?=Eb .hole)(hω:ω r=Eb (.slot s))(hB:w0.heap.size<=r\/C.W r)(hβ:∀b,C.β b≠Eb r)
  (hg:w.heap[r]?=Eb (.cells cells t (0,0))) (hK:∀o,C.K r o=Eg) (cG:news.length<=cells.size) (gY:bf C us news) (dc:∀v∈news,v.oneCell'=En):
  aA P (C.box b r) ω w0 C0 (hp.set b (.cells (cellsOf us))) (w.setRow r (cells.toList.take 0++news++cells.toList.drop (0+news.length)).toArray) /\
  ar (C.box b r) ω (w.setRow r (cells.toList.take 0++news++cells.toList.drop (0+news.length)).toArray) w0.heap.size (ya env (Eb s)) tmps/\C.le (C.box b r):=by
 have hu:=G6 hg (cells.toList.take 0++news++cells.toList.drop (0+news.length)).toArray;have mb:=setRow_heap w r cells (cells.toList.take 0++news++cells.toList.drop (0+news.length)).toArray t (0,0) hg;generalize w.setRow r (cells.toList.take 0++news++cells.toList.drop (0+news.length)).toArray=w' at hu mb;have RC:=Hl m hh;have hle:=aM.kX (C:=C) (r:=r) RC;have bh:b<hp.length:=(Hc.1 hh).1;have RD:r<w.heap.size:=(Hb.1 hg).1
 have cZ:∀ℓ x v,ℓ≠.slot s->aS C ω w w0.heap.size ℓ x v->aS (C.box b r) ω w' w0.heap.size ℓ x v:=by
  intro ℓ x v hℓ ho
  have bI:ω r≠Eb ℓ:=by rw[hω];intro h;exact hℓ (Eb.inj h).symm
  exact(ho.box (.inr bI)).gZ hu bI
 refine⟨?_,?_,hle⟩
 .refine { base:=m.base,know:=?_,dj:=m.dj,apart:=?_,inj:=?_,lt:=?_,size:=?_,frame:=?_,fA:=?_,os:=hu.os.trans m.os,output:=hu.output.trans m.output,fresh:=?_,grown:=aM.le_trans m.grown hle,old:=m.old,box:=?_,iD:=fun q hq=>by rw[hu.size];exact m.iD q hq }
  .intro k q v hk
   have iq:k≠r:=fun h=>by
    have fe:C.K k q=Eb v:=hk;rw[h,hK q]at fe;cases fe
   have hc:=m.know _ _ _ hk;simp only[World.cell?]at hc ⊢;rw[hu.other k iq];exact hc
  .intro k q p hk;simp only[aM.box]at hk;split at hk
   .cases hk;exact hK p
   .exact m.apart k q p hk
  .intro k k' q hk fe;simp only[aM.box]at hk fe;split at hk<;>split at fe
   .rename_i Y I;rw[Y,I]
   .cases hk;exact absurd fe (hβ k')
   .cases fe;exact absurd hk (hβ k)
   .exact m.inj k k' q hk fe
  .intro k q hk;rw[Sf,hu.size];simp only[aM.box]at hk;split at hk
   .rename_i Y;cases hk;subst Y;exact⟨RD,bh⟩
   .exact m.lt k q hk
  .rw[hu.size];exact m.size
  .intro k hk hn hw
   have iq:k≠r:=fun h=>by
    subst h;rcases hB with h|h
    .omega
    .rw[m.grown.w]at h;exact hw h
   rw[hu.other k iq];exact m.frame k hk hn hw
  .intro k hk
   have iq:k≠r:=fun h=>by
    subst h;have:=m.fA k hk;rw[hg]at this;cases this
   rw[hu.other k iq];exact m.fA k hk
  .intro k q hk;simp only[aM.box]at hk;split at hk
   .cases hk;rcases hB with h|h
    .exact .inr (.inl h)
    .rw[m.grown.w]at h;exact .inr (.inr h)
   .exact m.fresh k q hk
  .intro k x q M hk;simp only[aM.box]at hk;split at hk
   .rename_i Y;subst Y;cases hk;rw[Il bh]at M;cases M;have nP:=gY.length;refine⟨_,t,mb,by simp[cellsOf];omega,?_⟩;intro j c hc;simp only[cellsOf,Mn,Ep]at hc;obtain⟨x,M,rfl⟩:=hc;obtain⟨v,Y,I⟩:=gY.get M;have hj:j<news.length:=(Hc.1 Y).1;refine⟨v,?_,dc v (Ij Y),aJ.mono hle I,by simp⟩;simp only[Y9,Oz,H3];rw[H0 hj];exact Y
   .rename_i Y;rw[Mr (Um Y)]at M;have bI:q≠r:=fun h=>hβ k (h▸hk);have lM:bM P C ω w' w0.heap.size k q x:=(m.box k x q M hk).gZ hu bI (fun j=>by rw[hω];simp);exact lM.mono hle fun j y v ho=>ho.box (.inr (by rw[hω];simp))
 .intro t' x M;by_cases l8:t'=s
  .subst l8;simp only[ya]at M
   cases hl:jm t' env with
   |none=>rw[hl]at M;simp only[hl]at M;cases M
   |some y=>
    rw[hl]at M;simp only[jm,U9,cond_true]at M;cases M;obtain⟨v,I,h3,_⟩:=e t' y hl;exact⟨v,I,aJ.mono hle h3,by simp⟩
  .have fp:jm t' env=Eb x:=by
    simp only[ya]at M
    cases hl:jm s env with
    |none=>rw[hl]at M;exact M
    |some y=>
     rw[hl]at M;simp only[jm]at M
     have:E3 s t'=Eh:=by
      cases hb:E3 s t' with
      |false=>rfl|true=>exact absurd (E8 hb).symm l8
     rw[this]at M;exact M
   obtain⟨v,I,h3,h4⟩:=e t' x fp;exact⟨v,I,aJ.mono hle h3,fun h=>cZ _ _ _ (by simp[l8]) (h4 h)⟩
theorem q9k {xs vs}{t:TypeId}{B b r cells}(Q:bf C xs vs)(dc:∀v∈vs,v.oneCell'=En)(hv:∀(j:Nat) v,vs[j]?=Eb v->cells[j]?=Eb v)(hl:xs.length<=cells.size):
  ∀C' ω' w',C.le C'->w'.heap[r]?=Eb (.cells cells t (0,0))->bM P C' ω' w' B b r (.cells (cellsOf xs)):=by
 intro C' ω' w' hle hg;refine⟨cells,t,hg,by simpa[cellsOf]using hl,?_⟩;intro j c hc;simp only[cellsOf,Mn,Ep]at hc;obtain⟨x,M,rfl⟩:=hc;obtain⟨v,Y,I⟩:=Q.get M;exact⟨v,hv j v Y,dc v (Ij Y),aJ.mono hle I,by simp⟩
theorem q3u (m:aA P C ω w0 C0 hp w)(e:ar C ω w w0.heap.size env a.tmps){c}{t u el:TypeId}{ut:TypeDesc}{x y x' y' sz b h0 rk n de ys vy h'}
  (ho:o.op=.call c) (dW:c.callee=.builtin .append) (eo:c.args.toList=[x,y]) (eS:c.argTypes.toList=[t,u]) (ht:P.underlying t=Eb (.slice el)) (hu:P.underlying u=Eb ut) (jC:Ae ut=En)
  (hn:jp P el=Eb sz) (hb:oD P el=Eb b) (Y:qv x=Eb x') (I:qv y=Eb y') (e1:qj env x'=Eb (.list n de [])) (e2:qj env y'=Eb vy) (cU:yb sz vy=Eb ys)
  (cZ:(zw env x').isSome=En) (RE:n=Eh) (hlen:ys.length<=1073741824) (jB:b<=4096) (hzero:∃z,yu P el=Eb z/\z.length=sz) (Aw:sz=de)
  (dy:aK h0 hp rk (.cells (cellsOf (ys.flatMap AVal.flat)))=Eb h'):
  ∃v w',(execOp a.eval o).run P w=.ok (.value v) w'/\zo P C0 w0 C a.tmps d env ⟨.ms (h0+rk) 0 ys.length,Eh,zw env x',h'⟩ v w':=by
 obtain⟨hh,rfl⟩:=yz dy;subst RE;subst Aw
 have ha:c.args=#[x,y]:=by apply If;simpa using eo
 have l4:c.argTypes=#[t,u]:=by apply If;simpa using eS
 obtain⟨i,hi,rQ⟩:∃i,P.info? el=Eb i/\i.bytes=b:=by
  unfold oD at hb
  cases hi:P.info? el with
  |none=>simp[hi]at hb|some i=>exact⟨i,rfl,by simpa[hi]using hb⟩
 have kW:i.size=sz:=by
  unfold jp at hn;rw[hi]at hn;simpa using hn
 obtain⟨z,hz,Ax⟩:=hzero
 obtain⟨zv,nO⟩:∃zv,i.zero=Eb zv:=by
  unfold yu at hz;rw[hi]at hz
  cases hq:i.zero with
  |none=>simp[hq]at hz|some v=>exact⟨v,rfl⟩
 have rx:=qx e.cu Y e1;have ry:=qx e.cu I e2;obtain⟨news,G,db,fO,dc⟩:=L4 m hu jC cU ry
 have fc:∀ {z:Value} {w':World},(Builtin.append_ #[t,u] o.type #[a.eval x,a.eval y]).run P w=.ok z w'->(execOp a.eval o).run P w=.ok (.value z) w':=by
  intro z w' h;simp[execOp,ho,resolve,dW,ha,l4,invoke,builtin,h]
 have nP:news.length=ys.length*sz:=by rw[db.length,ym ys fO]
 rcases rx.cQ with⟨RF,_,_⟩|⟨_,r,q,cap,M,hle,cY⟩|⟨_,_,ad,l0,M⟩
 rotate_right
 .exact absurd (Yt e Y cZ e1 M) l0
 .cases RF
 .obtain⟨s,gy⟩:=Jq.1 cZ;obtain⟨fp,v0,hl⟩:=G9 gy
  have iF:v0=.list Eh sz []:=by
   subst fp;simp only[qj,hl]at e1;exact Eb.inj e1
  subst iF;obtain⟨cv,xD,L5,Av⟩:=e s _ hl
  have pw:cv=.slice (Eb ⟨r,q,Eg⟩) 0 cap:=by
   have hH:qv x=Eb (.tmp s):=by rw[Y,fp]
   cases x with
   |tmp t'=>
    simp only[qv]at hH;cases hH
    have:a.eval (.tmp s)=cv:=by simp[Act.eval,H9,xD]
    rw[<-this,M];rfl
   |const u=>simp only[qv]at hH;split at hH<;>cases hH|func f=>simp[qv]at hH|global g=>simp[qv]at hH
  subst pw;obtain⟨hω,hB,hβ,_,L6,⟨cells,te,hg,cG⟩,hK⟩:=Av rfl;simp only at hω hB hβ hg cG hK L6;subst L6;simp only[List.length_nil]at M;by_cases eA:0+ys.length<=cap
  .have gK:(0+ys.length)*sz<=cap*sz:=Ig _ eA;have bE:=Rt (P:=P) (w:=w) (ty:=o.type) ht hi r 0 0 cap (a.eval y) ys.length news (kW▸G) eA hg (by rw[nP];simp at gK cG ⊢;omega);rw[<-M]at bE
   have e0:0+0*i.size=0:=by simp
   rw[e0]at bE;obtain⟨m',e',cV⟩:=j0h (tmps:=a.tmps) m e hh hω hB hβ hg (fun o=>hK o (by simp)) (by rw[nP];simp at gK cG ⊢;omega) db dc;rw[gy];refine⟨_,_,fc bE,_,_,cV,m',e',?_,by simp⟩;have:=aJ.ms (C:=C.box (h0+rk) r) (h0+rk) 0 ys.length r cap (by simp[aM.box]) (by omega);simpa using this
  .have Hp:Builtin.nextslicecap (0+ys.length) cap*i.bytes<=281474976710656:=growslice_fits (by omega) (by
    rw[rQ]
    exact Io (Sc (by omega) jB) (by decide:2^30*4096<=_))
   have bE:=run_append_grow_src w t u o.type el i zv ht hi nO (Eb ⟨r,0,Eg⟩) 0 cap [] (run_firstCells_some _ _ _ _ _ _ [] (by simp) (by simp)) (a.eval y) ys.length news (kW▸G) (by omega) (by omega) Hp;rw[<-M]at bE;have oJ:=grownCap_ge w (0+ys.length) cap el;have hJ:Ext w w.drew:=Ext.drew w
   obtain⟨m',e',cV⟩:=(m.ext hJ).aK (e.ext hJ) hh (.cells (([]++news).toArray++Builtin.zeroCells zv.cells (grownCap w (0+ys.length) cap el-(0+ys.length))) el) (fun c t fr h=>by cases h;rfl) (.cells (cellsOf (ys.flatMap AVal.flat)))
    (q9k db dc (by
     intro j v hj;rw[Ml (by simpa using(Hc.1 hj).1)]
     simpa using hj) (by have h5:=db.length;rw[Uv];simp only[Oz,Sl];omega))
   refine⟨_,_,fc bE,_,_,cV,m',e'.strip _,?_,by simp⟩;have:=aJ.ms (C:=C.box (h0+rk) w.drew.heap.size) (h0+rk) 0 ys.length w.drew.heap.size (grownCap w (0+ys.length) cap el) (by simp[aM.box]) (by omega);simpa using this
end
section
variable {P:Program}{C C0:aM}{ω:Nat->Option Loc}{w w' w0:World}{hp:qi}{env:Env}{a:Act}{o:Oper}{tmps:Array Value}{d:Loc}
variable (m:aA P C ω w0 C0 hp w)(e:ar C ω w w0.heap.size env a.tmps)
theorem L9 {b bO len v}(h:bS C (.az b bO len) v):∃r0 r cap,C.β b=Eb r0/\C.T (r0,bO,r,cap)/\len<=cap/\v=.slice (Eb ⟨r,0,Eg⟩) len cap:=by
 cases h with
 |az _ _ _ r0 r cap hb ht hl=>exact⟨r0,r,cap,hb,ht,hl,rfl⟩
theorem Yy {b bO off v}(h:bS C (.dN b bO off) v):∃r0 r cap,C.β b=Eb r0/\C.T (r0,bO,r,cap)/\v=.pointer (Eb ⟨r,off,Eg⟩):=by
 cases h with
 |dN _ _ _ r0 r cap hb ht=>exact⟨r0,r,cap,hb,ht,rfl⟩
theorem q1m {t:TypeId}{x x' i fs f n b bO q}(he:bw C env a.tmps)(ho:o.op=.fieldAddr t x i)(ht:P.underlying t=Eb (.struct fs))(hf:fs[i]?=Eb f)
  (hn:jp P f.type=Eb n) (Ao:0<n) (Y:qv x=Eb x') (e1:qj env x'=Eb (.dN b bO q)):Val P C a o w (.dN b bO (q+f.offset)):=by
 obtain⟨r0,r,cap,hb,hT,hq⟩:=Yy (qx he Y e1);refine⟨.pointer (Eb ⟨r,q+f.offset,Eg⟩),?_,.dN _ _ _ r0 r cap hb hT⟩;simp[execOp,ho,Instr.fieldAt,run_underlying ht,hf,hq,Instr.sureAddr,fieldPlace,yn hn,V6.1 Ao,add_lit]
theorem q04 {t e:TypeId}{x i x' i' sz iv b bO len j}(he:bw C env a.tmps)(ho:o.op=.indexAddr t x i)(ht:P.underlying t=Eb (.slice e))
  (hn:jp P e=Eb sz) (Y:qv x=Eb x') (I:qv i=Eb i') (e1:qj env x'=Eb (.az b bO len)) (e2:qj env i'=Eb iv) (hj:idx len iv=Eb j):Val P C a o w (.dN b bO (j*sz)):=by
 obtain⟨r0,r,cap,hb,hT,_,hq⟩:=L9 (qx he Y e1);obtain⟨k,rfl,bh⟩:=G2 hj;have hi:=(qx he I e2).bU;refine⟨.pointer (Eb ⟨r,j*sz,Eg⟩),?_,.dN _ _ _ r0 r cap hb hT⟩;simp[execOp,ho,Instr.indexAt,run_underlying ht,hq,hi,asIntOf,yn hn,bh,add_lit]
theorem jbp {t e:TypeId}{x lo hi x' lZ gf sz j b bO len}(he:bw C env a.tmps)(ho:o.op=.slice t x lo hi Eg)(ht:P.underlying t=Eb (.slice e))
  (hn:jp P e=Eb sz) (Y:qv x=Eb x') (I:nI lo=Eb lZ) (h3:nI hi=Eb gf) (e1:qj env x'=Eb (.az b bO len)) (b2:fG env len len gf=Eb j) (b1:fG env 0 j lZ=Eb 0):Val P C a o w (.az b bO j):=by
 obtain⟨r0,r,cap,hb,hT,hl,hq⟩:=L9 (qx he Y e1);obtain⟨iG,k1,k2⟩:=LZ (P:=P) (isS:=true) he I h3 b2 b1 hl w;refine⟨.slice (Eb ⟨r,0,Eg⟩) j cap,?_,.az _ _ _ r0 r cap hb hT (by omega)⟩;simp[execOp,ho,Instr.sliceAt,Instr.slice,run_underlying ht,hq,iG,yn hn,add_lit]
theorem jjt {c x}{t e:TypeId}{x' b bO n}(he:bw C env a.tmps)(ho:o.op=.call c)(dW:c.callee=.builtin .len)(eo:c.args.toList=[x])(eS:c.argTypes.toList=[t])
  (Y:qv x=Eb x') (e1:qj env x'=Eb (.az b bO n)) (ht:P.underlying t=Eb (.slice e)):Val P C a o w (.int .i64 n):=by
 have ha:c.args=#[x]:=by apply If;simpa using eo
 have l4:c.argTypes=#[t]:=by apply If;simpa using eS
 refine⟨.int .i64 n,?_,.int _ _⟩;simp only[execOp,ho,resolve,dW,ha,l4,Sem.run_bind,Sem.run_pure,Result.andThen_ok,invoke,builtin,Builtin.len_];obtain⟨r0,r,cap,_,_,_,hq⟩:=L9 (qx he Y e1);simp[run_underlying ht,hq,goInt]
theorem jkf (m:aA P C ω w0 C0 hp w){b bO q cap r0 sz xs}(hb:C.β b=Eb r0)(hT:C.T (r0,bO,q,cap))(gM:hp[b]?=Eb (.vec sz bO xs)):
  ∃vs,bf C (xs.flatMap AVal.flat) vs/\(∀(j:Nat) v,vs[j]?=Eb v->w.cell? ⟨q,j,Eg⟩=Eb v/\v.oneCell'=En)/\ey C.K w q sz xs cap:=by
 obtain⟨q',kY,k1,k2,k3,k4,_⟩:=m.box b _ r0 gM hb;have heq:=(k2 _ hT rfl).2 rfl;simp only[Prod.mk.injEq]at heq;obtain⟨rfl,rfl⟩:=heq;obtain⟨cells,t,vs,g1,g2,g3,g4,g5,g6,g7⟩:=id k3;refine⟨vs,aJ.imp (C:=.bZ C.K) (C':=C) ⟨fun _ _ _ h=>h,fun b r h=>by cases h⟩ g5 (fun _ h=>h.elim),fun j v hj=>⟨?_,g7 v (Ij hj)⟩,k3⟩;unfold World.cell?;rw[g1];simp only[Ov,H5,if_false];exact g6 j v hj
theorem Yz (m:aA P C ω w0 C0 hp w)(he:bw C env a.tmps){t:TypeId}{x x' n ag b bO q sz xs v}(ho:o.op=.load t x)(hg:yq P t=Eb ag)(hn:jp P t=Eb n)(Y:qv x=Eb x')(e1:qj env x'=Eb (.dN b bO q))
  (gM:hp[b]?=Eb (.vec sz bO xs)) (hl:q+n<=(xs.flatMap AVal.flat).length) (hv:(ag=En/\v=.agg (((xs.flatMap AVal.flat).drop q).take n))\/(ag=Eh/\((xs.flatMap AVal.flat).drop q).take n=[v])):Val P C a o w v:=by
 obtain⟨r0,r,cap,hb,hT,hq⟩:=Yy (qx he Y e1);obtain⟨vs,k1,k2,_⟩:=jkf m hb hT gM;have k3:bf C (((xs.flatMap AVal.flat).drop q).take n) ((vs.drop q).take n):=(k1.drop q).take n
 have k4:∀j u,((vs.drop q).take n)[j]?=Eb u->w.cell? ⟨r,q+j,Eg⟩=Eb u:=by
  intro j u hj;rw[Xk]at hj;split at hj
  .rw[Ss]at hj;exact(k2 _ _ hj).1
  .cases hj
 have k5:((vs.drop q).take n).length=n:=by rw[k3.length,Xy,List.length_drop];omega
 rcases hv with⟨rfl,rfl⟩|⟨rfl,hv⟩
 .exact⟨.agg ⟨(vs.drop q).take n⟩,by simp[execOp,ho,Instr.loadAt,hq,Instr.sureAddr,Hh hg hn k5 k4],.agg _ _ k3⟩
 .rw[hv]at k3;generalize hgen:(vs.drop q).take n=us at k3 k4 k5
  cases k3 with
  |cons _ _ u us hu iL=>
   cases iL;refine⟨u,?_,hu⟩;have:=Hj (P:=P) hg (by simpa using k4 0 u rfl);simp[execOp,ho,Instr.loadAt,hq,Instr.sureAddr,this]
def aM.tok (C:aM)(x:Nat×Nat×Nat×Nat):aM:={ C with T:=fun q=>C.T q\/q=x }
theorem aM.gN {x}:C.le (C.tok x):=⟨fun _ _ _ h=>h,fun _ _ h=>h,rfl,fun _ h=>h,fun _ h=>.inl h⟩
theorem aS.tok {x B ℓ y v}(h:aS C ω w B ℓ y v):aS (C.tok x) ω w B ℓ y v:=by
 unfold aS at *;exact h
theorem ar.tok {x B}(e:ar C ω w B env tmps):ar (C.tok x) ω w B env tmps:=
 fun s y hy=>let ⟨v,Y,I,h3⟩:=e s y hy; ⟨v,Y,aJ.mono aM.gN I,fun h=>(h3 h).tok⟩
theorem aA.rU (m:aA P C ω w0 C0 hp w){b r sz bO q cap xs}(hβ:C.β b=Eb r)(hT:∀x,C.T x->x.1=r->x.2.1<bO)(hv:ey C.K w q sz xs cap)(ho:q=r\/xA C ω w w0.heap.size b q xs.length cap)(Q:∃cs t,w.heap[r]?=Eb (.cells cs t (0,0))):
  aA P (C.tok (r,bO,q,cap)) ω w0 C0 (hp.set b (.vec sz bO xs)) w:=by
 have bh:=m.lt b r hβ;refine { m with lt:=fun k p hk=>by rw[Sf];exact m.lt k p hk,grown:=aM.le_trans m.grown aM.gN,box:=?_,iD:=?_ }
 .intro k y p hy hk;by_cases l9:k=b
  .subst l9;rw[Il bh.2]at hy;cases hy
   obtain rfl:r=p:=by have:C.β k=Eb p:=hk;rw[hβ]at this;exact Eb.inj this
   refine⟨q,cap,.inr rfl,fun x M hxr=>?_,hv,ho.imp id fun h=>h.tok,Q⟩;rcases M with M|rfl
   .have:=hT x M hxr;exact⟨by omega,fun h=>by omega⟩
   .exact⟨Ha _,fun _=>rfl⟩
  .rw[Mr (Um l9)]at hy;have tT:p≠r:=fun h=>l9 (m.inj k b p hk (h▸hβ));refine(m.box k y p hy hk).mono aM.gN (fun j z u h=>h.tok) (fun x M hxp=>?_);rcases M with M|rfl
   .exact M
   .exact absurd hxp.symm tT
 .intro x M;rcases M with M|rfl
  .exact m.iD x M
  .exact bh.1
theorem aA.rV (m:aA P C ω w0 C0 hp w){b r}(hβ:C.β b=Eb r)(Q:∃cs t,w.heap[r]?=Eb (.cells cs t (0,0))):aA P C ω w0 C0 (hp.set b .dead) w:=
 m.dV (ω':=ω) (w':=w) (r:=r) (b:=b) ⟨rfl,fun _ _=>rfl,fun c t fr h=>by obtain⟨cs,t',h'⟩:=Q;rw[h']at h;cases h;rfl,rfl,rfl⟩ hβ .dead (fun _ _ _ _ _ h=>h) Q
theorem aA.AB (m:aA P C ω w0 C0 hp w){b q n cap cs}(hd:hp[b]?=Eb .dead)(ho:xA C ω w w0.heap.size b q n cap)(hu:gJ w w' q cs):aA P C ω w0 C0 hp w':=by
 obtain⟨Y,I,h3,_,_,⟨cells,elem,h5,_⟩,h7⟩:=ho;simp only at Y I h3 h5 h7;have hK:∀o,C.K q o=Eg:=fun o=>h7 o (by simp);refine { base:=m.base,know:=?_,dj:=m.dj,apart:=m.apart,inj:=m.inj,lt:=?_,size:=?_,frame:=?_,fA:=?_,os:=hu.os.trans m.os,output:=hu.output.trans m.output,fresh:=m.fresh,grown:=m.grown,old:=m.old,box:=?_,iD:=fun x M=>by rw[hu.size];exact m.iD x M }
 .intro k p v hk
  have bI:k≠q:=fun h=>by rw[h,hK p]at hk;cases hk
  have hc:=m.know _ _ _ hk;simp only[World.cell?]at hc ⊢;rw[hu.other k bI];exact hc
 .intro k p hk;rw[hu.size];exact m.lt k p hk
 .rw[hu.size];exact m.size
 .intro k hk hn hw
  have bI:k≠q:=fun h=>by
   subst h;rcases I with h|h
   .omega
   .rw[m.grown.w]at h;exact hw h
  rw[hu.other k bI];exact m.frame k hk hn hw
 .intro k hk
  have bI:k≠q:=fun h=>by
   subst h;have:=m.fA k hk;rw[h5]at this;cases this
  rw[hu.other k bI];exact m.fA k hk
 .intro k x p M hk;have bI:p≠q:=fun h=>h3 k (h▸hk);by_cases l9:k=b
  .subst l9;rw[hd]at M;cases M;obtain⟨eE,t',hg⟩:=m.box k .dead p hd hk;exact⟨eE,t',by rw[hu.other p bI];exact hg⟩
  .exact(m.box k x p M hk).gZ hu bI (fun j=>by rw[Y];intro h;injection h with h;injection h with h _;exact l9 h.symm)
theorem YA {sz}:∀ {xs:List AVal} (n:Nat),(∀x∈xs,x.flat.length=sz)->(xs.take n).flatMap AVal.flat=(xs.flatMap AVal.flat).take (n*sz)
 | [],n,_=>by simp
 |x::xs,0,_=>by simp
 |x::xs,n+1,h=>by
  have M:=h x (Xl ..);have Y:x.flat.take ((n+1)*sz)=x.flat:=List.take_of_length_le (by rw[M,Ii];omega)
  have I:(n+1)*sz-sz=n*sz:=by rw[Ii];omega
  rw[List.take_succ_cons,Ih,Ih,YA n (fun y hy=>h y (Vj _ hy)),List.take_append,M,Y,I]
theorem ey.grown {K q q' sz len cap kY xs ys news eI dP}{t':TypeId}(h:ey K w q sz xs cap)(hl:len<=xs.length)(db:bf (.bZ K) (ys.flatMap AVal.flat) news)(fO:∀y∈ys,y.flat.length=sz)(dc:∀v∈news,v.oneCell'=En)
  (hold:∀vs:List Value,bf (.bZ K) (xs.flatMap AVal.flat) vs->(∀(j:Nat) v,vs[j]?=Eb v->w.cell? ⟨q,j,Eg⟩=Eb v)->eI=vs.take (len*sz)) (hcap:len+ys.length<=kY) (cG:kY*sz<=dP.size)
  (hg:w'.heap[q']?=Eb (.cells dP t' (0,0))) (hc:∀(j:Nat) v,(eI++news)[j]?=Eb v->dP[j]?=Eb v):ey K w' q' sz (xs.take len++ys) kY:=by
 obtain⟨cells,t,vs,g1,g2,g3,g4,g5,g6,g7⟩:=h
 have ho:eI=vs.take (len*sz):=hold vs g5 (fun j v hj=>by
  unfold World.cell?;rw[g1];simp only[Ov,H5,if_false]
  exact g6 j v hj)
 refine⟨dP,t',eI++news,hg,by rw[My,Xy];omega,cG,?_,?_,hc,?_⟩
 .intro x M;rcases R1.1 M with M|M
  .exact g4 x (So M)
  .exact fO x M
 .rw[V9,YA len g4,ho];exact(g5.take _).append db
 .intro v hv;rcases R1.1 hv with hv|hv
  .rw[ho]at hv;exact g7 v (So hv)
  .exact dc v hv
theorem bf.pure {xs vs}(h:bf C xs vs)(hb:qt 0 xs=En):bf (.bZ C.K) xs vs:=
 aJ.shift (C:=C) (C':=.bZ C.K) 0 (fun _ _ _ h=>h) (fun b r bh=>by omega) h hb
theorem RH {n}:∀ {xs:List AVal},qt n xs=En->qt n (xs.flatMap AVal.flat)=En
 | [],_=>rfl
 |x::xs,h=>by
  simp only[qt,Ic]at h
  have key:∀(ys zs:List AVal),qt n ys=En->qt n zs=En->qt n (ys++zs)=En:=by
   intro ys zs
   induction ys with
   |nil=>intro _ h;exact h|cons y ys ih=>intro Y I;simp only[qt,Ic,Xp]at Y ⊢;exact⟨Y.1,ih Y.2 I⟩
  rw[Ih];exact key _ _ (by rw[LP];exact h.1) (RH h.2)
include m e in
theorem jla {c}{t u el:TypeId}{ut:TypeDesc}{x y x' y' sz b bx bO len xs ys vy h'}
  (ho:o.op=.call c) (dW:c.callee=.builtin .append) (eo:c.args.toList=[x,y]) (eS:c.argTypes.toList=[t,u]) (ht:P.underlying t=Eb (.slice el)) (hu:P.underlying u=Eb ut) (jC:Ae ut=En)
  (hn:jp P el=Eb sz) (hb:oD P el=Eb b) (Y:qv x=Eb x') (I:qv y=Eb y') (e1:qj env x'=Eb (.az bx bO len)) (e2:qj env y'=Eb vy) (cU:yb sz vy=Eb ys)
  (gM:hp[bx]?=Eb (.vec sz bO xs)) (hle:len<=xs.length) (hlen:len+ys.length<=1073741824) (jB:b<=4096) (RI:qt 0 ys=En) (hzero:∃z,yu P el=Eb z/\z.length=sz)
  (bK:jx hp bx (.vec sz (bO+1) (xs.take len++ys))=Eb h'):
  ∃v w',(execOp a.eval o).run P w=.ok (.value v) w'/\zo P C0 w0 C a.tmps d env ⟨.az bx (bO+1) (len+ys.length),Eh,Eg,h'⟩ v w':=by
 have gh:h'=hp.set bx (.vec sz (bO+1) (xs.take len++ys)):=by
  unfold jx at bK
  cases vJ:H2 bx hp.length with
  |false=>simp[vJ]at bK|true=>simpa[vJ]using bK.symm
 subst gh
 have ha:c.args=#[x,y]:=by apply If;simpa using eo
 have l4:c.argTypes=#[t,u]:=by apply If;simpa using eS
 obtain⟨i,hi,rQ⟩:∃i,P.info? el=Eb i/\i.bytes=b:=by
  unfold oD at hb
  cases hi:P.info? el with
  |none=>simp[hi]at hb|some i=>exact⟨i,rfl,by simpa[hi]using hb⟩
 have kW:i.size=sz:=by
  unfold jp at hn;rw[hi]at hn;simpa using hn
 obtain⟨z,hz,Ax⟩:=hzero
 obtain⟨zv,nO⟩:∃zv,i.zero=Eb zv:=by
  unfold yu at hz;rw[hi]at hz
  cases hq:i.zero with
  |none=>simp[hq]at hz|some v=>exact⟨v,rfl⟩
 have ry:=qx e.cu I e2;obtain⟨news,G,db,fO,dc⟩:=L4 m hu jC cU ry;have rW:bf (.bZ C.K) (ys.flatMap AVal.flat) news:=db.pure (RH RI)
 have fc:∀ {z:Value} {w':World},(Builtin.append_ #[t,u] o.type #[a.eval x,a.eval y]).run P w=.ok z w'->(execOp a.eval o).run P w=.ok (.value z) w':=by
  intro z w' h;simp[execOp,ho,resolve,dW,ha,l4,invoke,builtin,h]
 have nP:news.length=ys.length*sz:=by rw[db.length,ym ys fO]
 obtain⟨r0,q,cap,hβ,hT,hlc,M⟩:=L9 (qx e.cu Y e1);obtain⟨q',kY,k1,k2,k3,k4,k5⟩:=m.box bx _ r0 gM hβ;have heq:=(k2 _ hT rfl).2 rfl;simp only[Prod.mk.injEq]at heq;obtain⟨rfl,rfl⟩:=heq
 have rX:∀x,C.T x->x.1=r0->x.2.1<bO+1:=fun x M Q=>by have:=(k2 x M Q).1;omega
 have vJ:=(m.lt bx r0 hβ).2
 -- the old cells
 obtain⟨cells,te,vs,g1,g2,g3,g4,g5,g6,g7⟩:=id k3
 have vG:vs.length=xs.length*sz:=by rw[g5.length,ym xs g4]
 have hvle:xs.length*sz<=cap*sz:=Ig _ g2;have hlle:len*sz<=xs.length*sz:=Ig _ hle
 have hold:∀rY:List Value,bf (.bZ C.K) (xs.flatMap AVal.flat) rY->(∀(j:Nat) v,rY[j]?=Eb v->w.cell? ⟨q,j,Eg⟩=Eb v)->vs.take (len*sz)=rY.take (len*sz):=by
  intro rY h3 h4
  have Hq:rY.length=vs.length:=by rw[h3.length,g5.length]
  have:rY=vs:=by
   apply S6;intro j;by_cases hj:j<vs.length
   .have h5:=h4 j _ (H6 (by omega));have h6:=g6 j _ (H6 hj);unfold World.cell? at h5;rw[g1]at h5;simp only[Ov,H5,if_false]at h5;rw[H6 hj,H6 (by omega),<-h5,h6]
   .rw[R7 (by omega),R7 (by omega)]
  rw[this]
 by_cases eA:len+ys.length<=cap
 ·-- there is room
  have gK:(len+ys.length)*sz<=cap*sz:=Ig _ eA;rw[R9]at gK;have bE:=Rt (P:=P) (w:=w) (ty:=o.type) ht hi q 0 len cap (a.eval y) ys.length news (kW▸G) eA g1 (by rw[kW,nP];omega);rw[<-M,kW]at bE;have qH:=G6 g1 (cells.toList.take (0+len*sz)++news++cells.toList.drop (0+len*sz+news.length)).toArray;have mb:=setRow_heap w q cells (cells.toList.take (0+len*sz)++news++cells.toList.drop (0+len*sz+news.length)).toArray te (0,0) g1;generalize EP:w.setRow q (cells.toList.take (0+len*sz)++news++cells.toList.drop (0+len*sz+news.length)).toArray=w' at bE qH mb
  have AE:ey C.K w' q sz (xs.take len++ys) cap:=by
   refine ey.grown (eI:=vs.take (len*sz)) k3 hle rW fO dc hold eA (by simp;omega) mb ?_;intro j v hj;rw[H3]
   have eS:(cells.toList.take (0+len*sz)).length=len*sz:=by simp;omega
   have mc:(vs.take (len*sz)).length=len*sz:=by simp;omega
   by_cases ER:j<len*sz
   .rw[Mh,H0 (by rw[eS];exact ER)];rw[H0 (by rw[mc];exact ER),J5 ER]at hj;rw[J5 (by omega),Ie];exact g6 j v hj
   .rw[H4 (by rw[mc];omega),mc]at hj;have hjn:j-len*sz<news.length:=(Hc.1 hj).1;rw[Mh,H4 (by rw[eS];omega),eS,H0 hjn];exact hj
  have fin:∀(m1:aA P C ω w0 C0 (hp.set bx .dead) w') (e1:ar C ω w' w0.heap.size env a.tmps) (Hg:q=r0\/xA C ω w' w0.heap.size bx q (xs.take len++ys).length cap) (iH:∃cs t,w'.heap[r0]?=Eb (.cells cs t (0,0))),
    zo P C0 w0 C a.tmps d env ⟨.az bx (bO+1) (len+ys.length),Eh,Eg,hp.set bx (.vec sz (bO+1) (xs.take len++ys))⟩ (.slice (Eb ⟨q,0,Eg⟩) (len+ys.length) cap) w':=by
   intro m1 e1 Hg iH;have m2:=m1.rU (b:=bx) (sz:=sz) (bO:=bO+1) (q:=q) (cap:=cap) (xs:=xs.take len++ys) hβ rX AE Hg iH;rw[Xm]at m2;exact⟨_,ω,aM.gN,m2,e1.tok,.az _ _ _ r0 q cap hβ (.inr rfl) eA,by simp⟩
  refine⟨_,_,fc bE,?_⟩;rcases k4 with rfl|k4
  .refine fin ?_ (e.dK qH.gZ hβ) (.inl rfl) ⟨_,_,mb⟩;exact m.dV qH.gZ hβ .dead (fun _ _ _ _ _ h=>h) ⟨_,_,mb⟩
  .have hqr:q≠r0:=fun h=>k4.2.2.1 bx (by rw[hβ];exact congrArg Eb h.symm);have md:=m.rV hβ k5;have m1:=md.AB (by rw[Il vJ]) k4 qH;obtain⟨RJ,t5,k5⟩:=k5;refine fin m1 ?_ (.inr ?_) ⟨RJ,t5,by rw[qH.other _ (Um hqr)];exact k5⟩
   .exact fun s y hy=>let ⟨v,j1,j2,j3⟩:=e s y hy; ⟨v,j1,j2,fun h=>(j3 h).gZ qH (by rw[k4.1];simp)⟩
   .obtain⟨j1,j2,j3,j4,j5,_,j7⟩:=k4;exact⟨j1,j2,j3,j4,j5,⟨_,te,mb,by simp,fun _ _ _ h=>by simp at h⟩,fun o ho=>j7 o (by simp)⟩
 ·-- there is none
  have cG:Builtin.nextslicecap (len+ys.length) cap*i.bytes<=281474976710656:=growslice_fits (by omega) (by
   rw[rQ]
   exact Io (Sc hlen jB) (by decide))
  have Hr:(vs.take (len*sz)).length=len*i.size:=by rw[kW];simp;omega
  have bE:=run_append_grow_src w t u o.type el i zv ht hi nO (Eb ⟨q,0,Eg⟩) len cap (vs.take (len*sz)) (run_firstCells_some _ _ _ _ _ _ _ Hr (fun j v hj=>by
   rw[Xk]at hj;split at hj
   ·have h3:=g6 j v hj
    have h4:w.cell? ⟨q,j,Eg⟩=Eb v:=by
     unfold World.cell?;rw[g1];simp only[Ov,H5,if_false];exact h3
    rw[add_lit,U6];exact h4
   ·cases hj)) (a.eval y) ys.length news (kW▸G) (by omega) (by omega) cG
  rw[<-M]at bE;have oJ:=grownCap_ge w (len+ys.length) cap el
  have il:zv.cells.size=sz:=by
   obtain⟨_,Yu,l5,He,_⟩:=tW (C:=C) hz;have:=l5 w;simp[zeroValue,typeInfo,hi,nO]at this;subst this;have:=He.length;simp at this;omega
  generalize eJ:((vs.take (len*sz)++news).toArray++Builtin.zeroCells zv.cells (grownCap w (len+ys.length) cap el-(len+ys.length)))=dP at bE;generalize Hs:grownCap w (len+ys.length) cap el=gc at bE oJ eJ;have hJ:Ext w w.drew:=Ext.drew w;have RL:Ext w.drew (w.drew.alloc (.cells dP el)):=Ext.alloc _ _ (fun c t fr h=>by cases h;rfl)
  have xH:(w.drew.alloc (.cells dP el)).heap[w.drew.heap.size]?=Eb (.cells dP el (0,0)):=by rw[vE,if_pos rfl]
  have AE:ey C.K (w.drew.alloc (.cells dP el)) w.drew.heap.size sz (xs.take len++ys) gc:=by
   refine ey.grown (eI:=vs.take (len*sz)) k3 hle rW fO dc hold oJ ?_ xH ?_
   .rw[<-eJ]
    have mc:(vs.take (len*sz)).length=len*sz:=by simp;omega
    simp only[Uv,Sl,My,mc,nP]
    have:(Builtin.zeroCells zv.cells (gc-(len+ys.length))).size=(gc-(len+ys.length))*sz:=by simp[Builtin.zeroCells,il]
    rw[this,<-R9,<-R9];exact Ig _ (by omega)
   .intro j v hj;rw[<-eJ,Ml (by simpa using(Hc.1 hj).1)];simpa using hj
  have md:=((m.rV hβ k5).ext hJ).kU w.drew.heap.size (.cell bx 0) (Ha _);have m1:=md.ext RL;obtain⟨RJ,t5,k5⟩:=k5;have m2:=m1.rU (b:=bx) (sz:=sz) (bO:=bO+1) (q:=w.drew.heap.size) (cap:=gc) (xs:=xs.take len++ys) hβ rX AE (.inr ⟨by simp[cN],.inl (Io m.size hJ.size),fun k hk=>by have:=(m.lt k _ hk).1;simp at this,rfl,rfl,⟨dP,el,xH,by simp,fun _ _ _ h=>by simp at h⟩,fun o _=>m.jU _ hJ.size o⟩) ⟨RJ,t5,(hJ.trans RL).get k5⟩;rw[Xm]at m2;refine⟨_,_,fc bE,_,_,aM.gN,m2,(((e.ext hJ).fresh (Ha _)).ext RL).tok,.az _ _ _ r0 _ gc hβ (.inr rfl) (by omega),by simp⟩
theorem YB (m:aA P C ω w0 C0 hp w)(e:ar C ω w w0.heap.size env tmps){bx sz cap xs cells}{te:TypeId}{vs}(hh:hp[bx]?=Eb .hole)(Ma:bf C (xs.flatMap AVal.flat) vs)(AF:qt 0 xs=En)(da:∀x∈xs,x.flat.length=sz)
  (dc:∀v∈vs,v.oneCell'=En) (hc:∀(j:Nat) v,vs[j]?=Eb v->cells[j]?=Eb v) (hcap:xs.length<=cap) (cG:cap*sz<=cells.size):
  zo P C0 w0 C tmps d env ⟨.az bx 0 xs.length,Eh,Eg,hp.set bx (.vec sz 0 xs)⟩ (.slice (Eb ⟨w.heap.size,0,Eg⟩) xs.length cap) (w.alloc (.cells cells te)):=by
 obtain⟨m1,e1,AG⟩:=m.aK e hh (.cells cells te) (fun c t fr h=>by cases h;rfl) .dead (fun C' ω' w' _ hg=>⟨cells,te,hg⟩)
 have xH:(w.alloc (.cells cells te)).heap[w.heap.size]?=Eb (.cells cells te (0,0)):=by rw[vE,if_pos rfl]
 have hβ:(C.box bx w.heap.size).β bx=Eb w.heap.size:=by simp[aM.box]
 have m2:=m1.rU (b:=bx) (r:=w.heap.size) (sz:=sz) (bO:=0) (q:=w.heap.size) (cap:=cap) (xs:=xs) hβ (fun x M Q=>by have:=m.iD x M;omega) ⟨cells,te,vs,xH,hcap,cG,da,Ma.pure (RH AF),hc,dc⟩ (.inl rfl) ⟨cells,te,xH⟩;rw[Xm]at m2;exact⟨_,ω,aM.le_trans AG aM.gN,m2,e1.tok,.az _ _ _ w.heap.size w.heap.size cap hβ (.inr rfl) hcap,by simp⟩
section
include m e
theorem ji2 {c}{t u el:TypeId}{ut:TypeDesc}{x y x' y' sz RM b h0 rk ys vy h'}
  (ho:o.op=.call c) (dW:c.callee=.builtin .append) (eo:c.args.toList=[x,y]) (eS:c.argTypes.toList=[t,u]) (ht:P.underlying t=Eb (.slice el)) (hu:P.underlying u=Eb ut) (jC:Ae ut=En)
  (hn:jp P el=Eb sz) (hb:oD P el=Eb b) (Y:qv x=Eb x') (I:qv y=Eb y') (e1:qj env x'=Eb (.list En RM [])) (e2:qj env y'=Eb vy) (cU:yb sz vy=Eb ys)
  (hlen:ys.length<=1073741824) (bI:ys≠[]) (jB:b<=4096) (RI:qt 0 ys=En) (hzero:∃z,yu P el=Eb z/\z.length=sz) (dy:aK h0 hp rk (.vec sz 0 ys)=Eb h'):
  ∃v w',(execOp a.eval o).run P w=.ok (.value v) w'/\zo P C0 w0 C a.tmps d env ⟨.az (h0+rk) 0 ys.length,Eh,Eg,h'⟩ v w':=by
 obtain⟨hh,rfl⟩:=yz dy
 have ha:c.args=#[x,y]:=by apply If;simpa using eo
 have l4:c.argTypes=#[t,u]:=by apply If;simpa using eS
 obtain⟨i,hi,rQ⟩:∃i,P.info? el=Eb i/\i.bytes=b:=by
  unfold oD at hb
  cases hi:P.info? el with
  |none=>simp[hi]at hb|some i=>exact⟨i,rfl,by simpa[hi]using hb⟩
 have kW:i.size=sz:=by
  unfold jp at hn;rw[hi]at hn;simpa using hn
 obtain⟨z,hz,Ax⟩:=hzero
 obtain⟨zv,nO⟩:∃zv,i.zero=Eb zv:=by
  unfold yu at hz;rw[hi]at hz
  cases hq:i.zero with
  |none=>simp[hq]at hz|some v=>exact⟨v,rfl⟩
 have ry:=qx e.cu I e2;obtain⟨news,G,db,fO,dc⟩:=L4 m hu jC cU ry
 have fc:∀ {z:Value} {w':World},(Builtin.append_ #[t,u] o.type #[a.eval x,a.eval y]).run P w=.ok z w'->(execOp a.eval o).run P w=.ok (.value z) w':=by
  intro z w' h;simp[execOp,ho,resolve,dW,ha,l4,invoke,builtin,h]
 have nP:news.length=ys.length*sz:=by rw[db.length,ym ys fO]
 have M:a.eval x=.slice Eg 0 0:=by
  rcases(qx e.cu Y e1).cQ with⟨_,_,M⟩|⟨hf,_⟩|⟨hf,_⟩
  .exact M
  .cases hf
  .cases hf
 have gO:0<ys.length:=List.length_pos_iff.2 bI
 have cG:Builtin.nextslicecap (0+ys.length) 0*i.bytes<=281474976710656:=growslice_fits (by omega) (by
  rw[rQ]
  exact Io (Sc (by omega) jB) (by decide:2^30*4096<=_))
 have bE:=run_append_grow_src w t u o.type el i zv ht hi nO Eg 0 0 [] (run_firstCells_none _ _ _ _ _) (a.eval y) ys.length news (kW▸G) (by omega) (by omega) cG;rw[<-M]at bE;have oJ:=grownCap_ge w (0+ys.length) 0 el
 have il:zv.cells.size=sz:=by
  obtain⟨_,Yu,l5,He,_⟩:=tW (C:=C) hz;have:=l5 w;simp[zeroValue,typeInfo,hi,nO]at this;subst this;have:=He.length;simp at this;omega
 generalize eJ:(([]++news).toArray++Builtin.zeroCells zv.cells (grownCap w (0+ys.length) 0 el-(0+ys.length)))=dP at bE;generalize Hs:grownCap w (0+ys.length) 0 el=gc at bE oJ eJ;have hJ:Ext w w.drew:=Ext.drew w
 have:=YB (d:=d) (tmps:=a.tmps) (m.ext hJ) (e.ext hJ) (te:=el) (cap:=gc) (sz:=sz) (cells:=dP) hh db RI fO dc (fun j v hj=>by
  rw[<-eJ,Oz,Ml (by simpa using(Hc.1 hj).1)]
  simpa using hj) (by omega) (by
   rw[<-eJ]
   have h5:(Builtin.zeroCells zv.cells (gc-(0+ys.length))).size=(gc-(0+ys.length))*sz:=by simp[Builtin.zeroCells,il]
   simp only[Uv,Sl,Oz,nP,h5];rw[<-R9]
   exact Ig _ (by omega))
 rw[U6]at bE;exact⟨_,_,fc bE,this⟩
theorem jkr {t el:TypeId}{ps len sz h0 rk z fV qs xs h'}
  (ho:o.op=.buildSlice t len ps) (ht:P.underlying t=Eb (.slice el)) (hn:jp P el=Eb sz) (hz:yu P el=Eb z) (hlen:sz*len<=65536) (RB:0<sz) (il:z.length=sz)
  (nf:xu ps.toList=Eb fV) (hq:z9 env sz fV=Eb qs) (M:lG (E4 len (tV sz z)) qs=Eb xs) (AF:qt 0 xs=En) (dy:aK h0 hp rk (.vec sz 0 xs)=Eb h'):
  ∃v w',(execOp a.eval o).run P w=.ok (.value v) w'/\zo P C0 w0 C a.tmps d env ⟨.az (h0+rk) 0 xs.length,Eh,Eg,h'⟩ v w':=by
 obtain⟨hh,rfl⟩:=yz dy;obtain⟨ds,bE,hdr,Y,qG,jX,cG⟩:=Yr (C:=C) (ω:=ω) (w:=w) (w0:=w0) e ho ht hn hz hlen RB il nf hq M;refine⟨_,_,bE,?_⟩;have fb:=YB (d:=d) (tmps:=a.tmps) m e (te:=el) (cap:=len) (sz:=sz) (cells:=ds) hh hdr AF qG Y (by intro j v h;simpa using h) (by omega) cG;rw[jX]at fb ⊢;exact fb
theorem jbs {t:TypeId}{z}(ho:o.op=.alloc t)(hz:yu P t=Eb z):
  ∃v w',(execOp a.eval o).run P w=.ok (.value v) w'/\zo P C0 w0 C a.tmps d env ⟨.dG z.length,En,Eg,hp⟩ v w':=by
 obtain⟨_,zv,lL,cR,l5⟩:=tW (C:=C) hz;have M:Ext w (w.alloc (.cells zv.cells t)):=Ext.alloc w _ (fun c t fr h=>by cases h;rfl)
 have il:zv.cells.size=z.length:=by have:=cR.length;simpa using this
 refine⟨.pointer (Eb ⟨w.heap.size,0,Eg⟩),_,by simp[execOp,ho,Instr.alloc,lL,newVar,newRow],C,Abs.cN ω w.heap.size d,aM.le_refl C,(m.kU _ d (Ha _)).ext M,(e.fresh (Ha _)).ext M,.dG _ _,fun _=>?_⟩;refine⟨by simp[Abs.cN],.inl m.size,fun b hb=>by have:=(m.lt b _ hb).1;simp at this,rfl,rfl,⟨zv.cells,t,by rw[vE,if_pos rfl],by simp;omega,fun _ _ _ h=>by simp at h⟩,fun o _=>m.jU _ (Ha _) o⟩
theorem jb5 {t:TypeId}{x y y' n s v}(ho:o.op=.store t x y)(hn:jp P t=Eb n)
  (Y:qv x=Eb (.tmp s)) (I:qv y=Eb y') (hl:jm s env=Eb (.dG n,En)) (e2:qj env y'=Eb v) (vG:v.flat.length=n) (G:v.flat.all qm=En):
  ∃w' C' ω',(execOp a.eval o).run P w=.ok .skip w'/\C.le C'/\aA P C' ω' w0 C0 hp w'/\ar C' ω' w' w0.heap.size ((s,.aq v,Eh)::env) a.tmps:=by
 obtain⟨cv,c1,c2,c3⟩:=e s _ hl
 have dY:a.eval x=cv:=by
  cases x with
  |tmp t'=>
   simp only[qv]at Y;cases Y;simp[Act.eval,H9,c1]
  |const u=>simp only[qv]at Y;split at Y<;>cases Y|func f=>simp[qv]at Y|global g=>simp[qv]at Y
 cases c2 with
 |dG _ ad=>
  obtain⟨hω,hB,hβ,l0,vF,⟨cells,te,hg,cG,_⟩,hK⟩:=c3 rfl;obtain⟨r,q,sp⟩:=ad;simp only at hω hB hβ l0 vF hg cG hK;subst l0;subst vF;have ry:=qx e.cu I e2;have hc:=Ap ry G;have dc:=Ar hc (fun y hy=>Uw.1 G y hy)
  have dT:(a.eval y).cells.toList.length=n:=by rw[hc.length,vG]
  have bE:=Ry (P:=P) (t:=t) (off:=0) hn dT hg (by omega) dc;obtain⟨m',e',hle⟩:=Ys (d:=.slot s) m e (r:=r) (q:=0) (news:=(a.eval y).cells.toList) hω hB hβ hg (by omega) (fun o _=>hK o (by simp)) dc;refine⟨_,_,_,?_,hle,m',?_⟩
  .simp only[execOp,ho,Instr.storeAt,Sem.run_bind,dY,Instr.sureAddr,Sem.run_pure,Result.andThen_ok,bE]
  .intro t' z hz;by_cases l8:t'=s
   .subst l8;simp only[jm,U9,cond_true,Eb.injEq]at hz;subst hz;exact⟨_,c1,.aq _ _ _ (aM.fo (fun o _=>hK o (by simp)) hc),by simp⟩
   .have hb:E3 s t'=Eh:=by
     cases hb:E3 s t' with
     |false=>rfl|true=>exact absurd (E8 hb).symm l8
    simp only[jm,hb,cond_false]at hz;refine e' t' z ?_;simp only[ya,hl,jm,hb,cond_false];exact hz
end
end
section
variable {P:Program}{C C0:aM}{ω:Nat->Option Loc}{w w' w0:World}{hp:qi}{env:Env}{a:Act}{o:Oper}{tmps:Array Value}{d:Loc}
variable (m:aA P C ω w0 C0 hp w)(e:ar C ω w w0.heap.size env a.tmps)
def kg (w:World)(r:Nat)(x:Obj):World:={ w with heap:=w.heap.setIfInBounds r x }
theorem Ht {r x}(h:r<w.heap.size):(kg w r x).heap[r]?=Eb x:=by
 show(w.heap.setIfInBounds r x)[r]?=_;rw[Array.getElem?_setIfInBounds_self_of_lt h]
theorem ES {r x}(h:r<w.heap.size)(M:∀c t fr,x=.cells c t fr->fr=(0,0)):nQ w (kg w r x) r where
 size:=by simp[kg]
 other k hk:=by
  show(w.heap.setIfInBounds r x)[k]?=_;rw[Array.getElem?_setIfInBounds_ne (Um hk)]
 fz c t fr hc:=by
  rw[Ht h]at hc;exact M c t fr (Eb.inj hc)
 os:=rfl
 output:=rfl
theorem xI {r x y}(h:w.heap[r]?=Eb y)(hy:∀c t f,y≠.cells c t f):(setObj r x).run P w=.ok () (kg w r x):=by
 cases y with
 |cells c t f=>exact absurd rfl (hy c t f)|_=>simp[setObj,Sem.run,kg,h]
theorem qI {r y}(h:w.heap[r]?=Eb y)(hy:∀c t f,y≠.cells c t f):(getObj r).run P w=.ok y w:=by
 cases y with
 |cells c t f=>exact absurd rfl (hy c t f)|_=>simp[getObj,Sem.run,h]
include m e in
theorem jfo {x x' b pos s}(ho:o.op=.next x En)(Y:qv x=Eb x')(e1:qj env x'=Eb (.ptr b 0))(gM:hp[b]?=Eb (.iter s pos)):
  (pos<s.length->∀h',jx hp b (.iter s (pos+(ql s pos).2))=Eb h'->∃v w',(execOp a.eval o).run P w=.ok (.value v) w'/\zo P C0 w0 C a.tmps d env ⟨.bq [.bool En,.int .i64 pos,.int .i32 (ql s pos).1],Eh,Eg,h'⟩ v w') /\
  (¬pos<s.length->∃v w',(execOp a.eval o).run P w=.ok (.value v) w'/\zo P C0 w0 C a.tmps d env ⟨.bq [.bool Eh],Eh,Eg,hp⟩ v w'):=by
 obtain⟨r,Q,hq⟩:=(qx e.cu Y e1).dv;have gL:w.heap[r]?=Eb (.stringIter ⟨⟨s⟩⟩ pos):=m.box b _ r gM Q;have bh:=(m.lt b r Q).1;have da:(⟨⟨s⟩⟩:ByteArray).size=s.length:=rfl;constructor
 .intro gO h' bK;obtain rfl:=Ay bK;have hu:=ES (w:=w) (r:=r) (x:=.stringIter ⟨⟨s⟩⟩ (pos+(ql s pos).2)) bh (by simp);refine⟨.tuple #[.bool En,goInt pos,.int .i32 (ql s pos).1],kg w r (.stringIter ⟨⟨s⟩⟩ (pos+(ql s pos).2)),?_,C,ω,aM.le_refl C,m.dV hu Q _ (fun _ _ _ _ _ h=>h) (Ht bh),e.dK hu Q,?_,by simp⟩
  .have eQ:pos<(⟨⟨s⟩⟩:ByteArray).size:=gO;have bK:=xI (P:=P) (x:=.stringIter ⟨⟨s⟩⟩ (pos+(ql s pos).2)) gL (by simp);simp only[execOp,ho,hq,Instr.next,Sem.run_bind,qI gL (by simp),Result.andThen_ok,eQ,if_true];unfold ql at bK ⊢;simp only[Sem.run_bind,bK,Result.andThen_ok,Sem.run_pure]
  .refine .bq _ _ (.cons _ _ _ _ (.bool _) (.cons _ _ _ _ ?_ (.cons _ _ _ _ (.int _ _) .nil)));exact .int _ _
 .intro gO;have eQ:¬pos<(⟨⟨s⟩⟩:ByteArray).size:=gO;refine⟨.tuple #[.bool Eh],w,?_,Yl m e (.bq _ _ (.cons _ _ _ _ (.bool _) .nil))⟩;simp only[execOp,ho,hq,Instr.next,Sem.run_bind,qI gL (by simp),Result.andThen_ok,eQ,if_false,Sem.run_pure]
theorem RN {t:TypeId}{kd}(h:kT P t=Eb kd):(kd=.int/\∃k,P.underlying t=Eb (.int k))\/(kd=.str/\P.underlying t=Eb .string)\/(kd=.bool/\P.underlying t=Eb .bool):=by
 unfold kT at h
 split at h<;>first|cases h|skip
 .exact .inl ⟨rfl,_,‹_›⟩
 .exact .inr (.inl ⟨rfl,‹_›⟩)
 .exact .inr (.inr ⟨rfl,‹_›⟩)
theorem YC {t:TypeId}{td:TypeDesc}{kd x y u v b}(ht:P.underlying t=Eb td)(hk:kT P t=Eb kd)(M:bS C x u)(hy:bS C y v)(h:lT kd x y=Eb b):Instr.sameNow td u v=Eb b/\(b=En->x=y/\u=v/\Instr.sameBits 10000 v u=En):=by
 rcases RN hk with⟨rfl,k,hu⟩|⟨rfl,hu⟩|⟨rfl,hu⟩<;>rw[hu]at ht<;>cases ht
 .cases x<;>cases y<;>simp only[lT]at h<;>first|cases h|skip
  rename_i k1 n1 k2 n2;have e1:=M.bU;have e2:=hy.bU;subst e1;subst e2;by_cases iu:k1=k2
  .subst iu;simp only[decide_true,cond_true,Eb.injEq]at h;refine⟨by simp[Instr.sameNow,h],fun hb=>?_⟩;subst hb
   have:n1=n2:=by simpa using h
   subst this;exact⟨rfl,rfl,by simp[Instr.sameBits]⟩
  .simp[iu]at h
 .cases x<;>cases y<;>simp only[lT]at h<;>first|cases h|skip
  rename_i s1 s2;have e1:=M.cy;have e2:=hy.cy;subst e1;subst e2
  have Hu:((⟨⟨s1⟩⟩:ByteArray) == ⟨⟨s2⟩⟩)=(s1 == s2):=by
   show(Array.mk s1 == Array.mk s2)=_;simp
  refine⟨by simp only[Instr.sameNow,Hu],fun hb=>?_⟩
  have rZ:s1=s2:=by simpa using hb
  subst rZ;refine⟨rfl,rfl,?_⟩;simp only[Instr.sameBits,Hu];simp
 .cases x<;>cases y<;>simp only[lT]at h<;>first|cases h|skip
  rename_i b1 b2;have e1:=M.du;have e2:=hy.du;subst e1;subst e2;refine⟨by simp[Instr.sameNow],fun hb=>?_⟩
  have rZ:b1=b2:=by simpa using hb
  subst rZ;exact⟨rfl,rfl,by simp[Instr.sameBits]⟩
theorem Hv {t:TypeId}{td:TypeDesc}{kd k u}(ht:P.underlying t=Eb td)(hk:kT P t=Eb kd)(M:bS C k u):∀ {es:List (AVal×AVal)} {ms:List MapEntry} {i:Nat} {r:Option (Nat×AVal)},cI C es ms->jz kd k es i=Eb r ->
  match r with
  |none=>Instr.findNow td u ms i=Eb Eg|some (j,v)=>∃m,i<=j/\es[j-i]?=Eb (k,v)/\ms[j-i]?=Eb m/\m.key=u/\bS C v m.val/\Instr.findNow td u ms i=Eb (Eb (j,m.val))/\Instr.sameBits 10000 m.key u=En
 |_,_,i,r,.nil,h=>by
  simp only[jz,Eb.injEq]at h;subst h;simp[Instr.findNow]
 |_,_,i,r,.cons k' v' es m ms Y I h3,h=>by
  simp only[jz]at h;split at h
  .rename_i he;cases h;obtain⟨q1,q2⟩:=YC ht hk M Y he;obtain⟨rfl,rfl,q3⟩:=q2 rfl;exact⟨m,Ha _,by simp,by simp,rfl,I,by simp[Instr.findNow,q1],q3⟩
  .rename_i he;obtain⟨q1,_⟩:=YC ht hk M Y he;have ih:=Hv ht hk M h3 h
   cases r with
   |none=>simp only[Instr.findNow,q1];exact ih
   |some jv=>
    obtain⟨j,v⟩:=jv;obtain⟨m2,k1,k2,k3,k4,k5,k6,k7⟩:=ih;refine⟨m2,by omega,?_,?_,k4,k5,by simp only[Instr.findNow,q1];exact k6,k7⟩
    .rw[show j-i=(j-(i+1))+1 from by omega];simpa using k2
    .rw[show j-i=(j-(i+1))+1 from by omega];simpa using k3
  .cases h
theorem ET {t:TypeId}{kd}(hk:kT P t=Eb kd)(e:Bool)(v:Value):(Instr.checkKey e 10000 t v).run P w=.ok () w:=by
 rcases RN hk with⟨_,k,hu⟩|⟨_,hu⟩|⟨_,hu⟩<;>(unfold Instr.checkKey;simp[run_underlying hu])
theorem Hw {t:TypeId}{td:TypeDesc}{u ms r}(ht:P.underlying t=Eb td)(h:Instr.findNow td u ms 0=Eb r):(Instr.findKey t u ms).run P w=.ok r w:=by
 simp[Instr.findKey,run_underlying ht,h]
theorem RO {t:TypeId}{kd}(hk:kT P t=Eb kd):∃td,P.underlying t=Eb td:=by
 rcases RN hk with⟨_,k,hu⟩|⟨_,hu⟩|⟨_,hu⟩<;>exact⟨_,hu⟩
include m e in
theorem RP {t kt el:TypeId}{x y ok x' y' kd zv mv kv r}(ho:o.op=.lookup t x y ok)(ht:P.underlying t=Eb (.map kt el))(iI:kT P kt=Eb kd)(hz:QX P el=Eb zv)
  (Y:qv x=Eb x') (I:qv y=Eb y') (e1:qj env x'=Eb mv) (e2:qj env y'=Eb kv)
  (hv:(mv=.cD/\r=Eg)\/∃b es,mv=.map b/\hp[b]?=Eb (.map es)/\jz kd kv es 0=Eb r):
  Val P C a o w (match r with
   |some (_,v)=>bif ok then .bq [v,.bool En]else v
   |none=>bif ok then .bq [zv,.bool Eh]else zv):=by
 have iq:=qx e.cu I e2;have tZ:=qx e.cu Y e1;obtain⟨td,r7⟩:=RO iI
 obtain⟨Hx,lL,nO⟩:∃v,(∀w,(zeroValue el).run P w=.ok v w)/\bS C zv v:=by
  unfold QX at hz;split at hz
  .rename_i i hi;split at hz
   .rename_i v hv;exact⟨v,fun w=>by simp[zeroValue,typeInfo,hi,hv],XZ C hz⟩
   .cases hz
  .cases hz
 have fin:∀ {ms:List MapEntry} {rv:Option (Nat×Value)},(a.eval x=.map Eg/\ms=[]\/∃q clock,a.eval x=.map (Eb q)/\w.heap[q]?=Eb (.map ⟨ms⟩ clock))->Instr.findNow td (a.eval y) ms 0=Eb rv ->
   (execOp a.eval o).run P w=.ok (.value (if ok then .tuple #[(match rv with|some (_,v)=>v|none=>Hx),.bool rv.isSome]else(match rv with|some (_,v)=>v|none=>Hx))) w:=by
  intro ms rv hm hf;have uc:=Hw (w:=w) r7 hf;rcases hm with⟨hm,rfl⟩|⟨q,clock,hm,hq⟩
  .cases rv<;>simp[execOp,ho,Instr.lookup,run_underlying ht,hm,ET iI,uc,lL]
  .cases rv<;>simp[execOp,ho,Instr.lookup,run_underlying ht,hm,qI hq (by simp),ET iI,uc,lL]
 rcases hv with⟨rfl,rfl⟩|⟨b,es,rfl,hb,hfe⟩
 .generalize ng:a.eval x=mx at tZ;cases tZ;refine⟨_,fin (ms:=[]) (rv:=none) (.inl ⟨ng,rfl⟩) (by simp[Instr.findNow]),?_⟩
  cases ok with
  |true=>exact .bq _ _ (.cons _ _ _ _ nO (.cons _ _ _ _ (.bool _) .nil))|false=>exact nO
 .generalize ng:a.eval x=mx at tZ
  cases tZ with
  |map _ q py=>
   obtain⟨cj,clock,g1,g2⟩:=m.box b _ q hb py;have hf:=Hv r7 iI iq g2 hfe
   cases r with
   |none=>
    refine⟨_,fin (ms:=cj.toList) (rv:=none) (.inr ⟨q,clock,ng,g1⟩) hf,?_⟩
    cases ok with
    |true=>exact .bq _ _ (.cons _ _ _ _ nO (.cons _ _ _ _ (.bool _) .nil))|false=>exact nO
   |some jv=>
    obtain⟨j,v⟩:=jv;obtain⟨me,_,_,_,_,YD,hfn,_⟩:=hf;refine⟨_,fin (ms:=cj.toList) (rv:=Eb (j,me.val)) (.inr ⟨q,clock,ng,g1⟩) hfn,?_⟩
    cases ok with
    |true=>exact .bq _ _ (.cons _ _ _ _ YD (.cons _ _ _ _ (.bool _) .nil))|false=>exact YD
theorem cI.gZ {k v:AVal}:∀ {es:List (AVal×AVal)} {ms:List MapEntry} {j:Nat} {m:MapEntry},cI C es ms->bS C v m.val->(∀k',(es[j]?).map (·.1)=Eb k'->bS C k' m.key)->cI C (rJ es j v) (ms.set j m)
 |_,_,j,m,.nil,_,_=>by simp[rJ];exact .nil
 |_,_,0,m,.cons k' v' es m' ms Y I h3,hv,hk=>by
  simp only[rJ,Xa];exact .cons _ _ _ _ _ (hk k' (by simp)) hv h3
 |_,_,j+1,m,.cons k' v' es m' ms Y I h3,hv,hk=>by
  simp only[rJ,Xb];exact .cons _ _ _ _ _ Y I (cI.gZ (k:=k) h3 hv (fun k' h=>hk k' (by simpa using h)))
theorem cI.push {k v m es ms}(h:cI C es ms)(hk:bS C k m.key)(hv:bS C v m.val):cI C (es++[(k,v)]) (ms++[m]):=by
 induction h with
 |nil=>exact .cons _ _ _ _ _ hk hv .nil|cons k' v' es m' ms Y I _ ih=>exact .cons _ _ _ _ _ Y I ih
include m e in
theorem YE {t kt el:TypeId}{x y z x' y' z' kd kv v b es h'}(ho:o.op=.mapUpdate t x y z\/o.op=.insert t x y z)(ht:P.underlying t=Eb (.map kt el))(iI:kT P kt=Eb kd)
  (Y:qv x=Eb x') (I:qv y=Eb y') (h3:qv z=Eb z') (e1:qj env x'=Eb (.map b)) (e2:qj env y'=Eb kv) (e3:qj env z'=Eb v) (hb:hp[b]?=Eb (.map es))
  (hv:(∃i u,jz kd kv es 0=Eb (Eb (i,u))/\jx hp b (.map (rJ es i v))=Eb h')\/(jz kd kv es 0=Eb Eg/\jx hp b (.map (es++[(kv,v)]))=Eb h')):
  ∃w',(execOp a.eval o).run P w=.ok .skip w'/\zo P C0 w0 C a.tmps d env ⟨.undef,Eh,Eg,h'⟩ undef w':=by
 have iq:=qx e.cu I e2;have YF:=qx e.cu h3 e3;have tZ:=qx e.cu Y e1;obtain⟨td,r7⟩:=RO iI;generalize ng:a.eval x=mx at tZ
 cases tZ with
 |map _ q py=>
  obtain⟨cj,clock,g1,g2⟩:=m.box b _ q hb py;have bh:=(m.lt b q py).1
  have done:∀(iM:List (AVal×AVal)) (r8:Array MapEntry) (lf:Nat),cI C iM r8.toList->jx hp b (.map iM)=Eb h' ->
    (execOp a.eval o).run P w=.ok .skip (kg w q (.map r8 lf))->∃w',(execOp a.eval o).run P w=.ok .skip w'/\zo P C0 w0 C a.tmps d env ⟨.undef,Eh,Eg,h'⟩ undef w':=by
   intro iM r8 lf vK bK bE;obtain rfl:=Ay bK;have hu:=ES (w:=w) (r:=q) (x:=.map r8 lf) bh (by simp);exact⟨_,bE,C,ω,aM.le_refl C,m.dV hu py _ (fun _ _ _ _ _ h=>h) ⟨r8,lf,Ht bh,vK⟩,e.dK hu py,.undef,by simp⟩
  rcases hv with⟨i,u,hf,bK⟩|⟨hf,bK⟩
  .obtain⟨me,_,k1,k2,k3,k4,k5,k6⟩:=Hv r7 iI iq g2 hf;have uc:=Hw (w:=w) r7 k5;simp only[Nat.sub_zero]at k1 k2
   have RQ:cj[i]?=Eb me:=by simpa using k2
   have hlen:i<cj.size:=(Hb.1 RQ).1;refine done (rJ es i v) (cj.modify i fun e=>{ e with key:=a.eval y,val:=a.eval z }) clock ?_ bK ?_
   .have:(cj.modify i fun e=>{ e with key:=a.eval y,val:=a.eval z }).toList=cj.toList.set i { me with key:=a.eval y,val:=a.eval z }:=by
     apply S6;intro j;rw[Ie,Array.getElem?_modify,Xo];by_cases vH:i=j
     .subst vH;have hgi:=(Hb.1 RQ).2;simp[hlen,hgi]
     .simp[vH]
    rw[this];refine cI.gZ (k:=kv) g2 YF (fun k' fe=>?_);rw[k1]at fe;cases fe;exact iq
   .have gh:=xI (P:=P) (x:=.map (cj.modify i fun e=>{ e with key:=a.eval y,val:=a.eval z }) clock) g1 (by simp)
    have Hy:∀w:World,(Instr.keyThatStays (((cj[i]?).map (·.key)).getD (a.eval y)) (a.eval y)).run P w=.ok (a.eval y) w:=by
     intro w;simp[Instr.keyThatStays,RQ,k6]
    rcases ho with ho|ho<;>simp only[execOp,ho,Instr.mapUpdate,Sem.run_bind,run_underlying ht,Result.andThen_ok,ng,qI g1 (by simp),ET iI,uc,Hy,gh,Sem.run_pure]
  .have GX:=Hv r7 iI iq g2 hf;have uc:=Hw (w:=w) r7 GX;refine done (es++[(kv,v)]) (cj.push { key:=a.eval y,val:=a.eval z,born:=clock }) (clock+1) ?_ bK ?_
   .rw[Array.toList_push];exact g2.push iq YF
   .have gh:=xI (P:=P) (x:=.map (cj.push { key:=a.eval y,val:=a.eval z,born:=clock }) (clock+1)) g1 (by simp);rcases ho with ho|ho<;>simp only[execOp,ho,Instr.mapUpdate,Sem.run_bind,run_underlying ht,Result.andThen_ok,ng,qI g1 (by simp),ET iI,uc,gh,Sem.run_pure]
end
section
variable {P:Program}{C C0:aM}{ω:Nat->Option Loc}{w w' w0:World}{hp:qi}{env:Env}{a:Act}{o:Oper}{tmps:Array Value}{d:Loc}
theorem q3o {n sz len cap:Nat}{base:Option Addr}{cs:List Value}(hl:cs.length=n*sz)(h:∀ad,base=Eb ad->∀j v,cs[j]?=Eb v->w.cell? (ad.add j)=Eb v)(hn:base=Eg->n=0):
  (Builtin.firstCells sz n (.slice base len cap)).run P w=.ok cs.toArray w:=by
 cases base with
 |none=>
  have:cs=[]:=by
   have:=hn rfl;subst this;exact List.length_eq_zero_iff.1 (by simpa using hl)
  subst this;exact run_firstCells_none _ _ _ _ _
 |some ad=>exact run_firstCells_some w _ _ _ _ _ cs hl (h ad rfl)
theorem ji4 (m:aA P C ω w0 C0 hp w)(e:ar C ω w w0.heap.size env a.tmps){c:Call}{t:TypeId}{ts:List TypeId}{el:TypeId}{x y x' y' sz b q len n vy us cs eE h'}
  (ho:o.op=.call c) (dW:c.callee=.builtin .copy) (eo:c.args.toList=[x,y]) (eS:c.argTypes.toList=t::ts) (ht:P.underlying t=Eb (.slice el)) (hn:jp P el=Eb sz)
  (Y:qv x=Eb x') (I:qv y=Eb y') (e1:qj env x'=Eb (.ms b q len)) (e2:qj env y'=Eb vy) (iU:qy hp b=Eb cs) (cU:Ac sz len vy=Eb (n,us)) (cq:jr cs q us=Eb eE) (Rh:us.length=n*sz) (bK:jx hp b (.cells eE)=Eb h'):
  ∃u w',(execOp a.eval o).run P w=.ok (.value u) w'/\zo P C0 w0 C a.tmps d env ⟨.int .i64 n,Eh,Eg,h'⟩ u w':=by
 obtain⟨r,cap,Q,hle,hq⟩:=(qx e.cu Y e1).fa;have ry:=qx e.cu I e2;unfold jr at cq
 cases hb:(E9 (q+us.length) cs.length&&us.all qm)with
 |false=>simp[hb]at cq
 |true=>
  simp only[hb,cond_true,Eb.injEq]at cq;simp only[Ic]at hb;subst cq
  -- the source
  obtain⟨news,base,sl,sc,hy,db,hcells,RR,rS⟩:∃news base sl sc,a.eval y=.slice base sl sc/\bf C us news/\(∀ad,base=Eb ad->∀j v,news[j]?=Eb v->w.cell? (ad.add j)=Eb v)/\Nat.min sl len=n/\(base=Eg->n=0):=by
   unfold Ac at cU;split at cU
   .rename_i nn sy ys
    cases hk:(E3 sz sy||ys.isEmpty)with
    |false=>simp[hk]at cU
    |true=>
     simp only[hk,cond_true,Eb.injEq,Prod.mk.injEq]at cU;obtain⟨rfl,rfl⟩:=cU;generalize a.eval y=vv at ry
     cases ry with
     |iZ=>exact⟨[],Eg,0,0,rfl,by simpa using aJ.nil,by simp,by simp[Nat.min_def],by simp⟩|jA _ ad _=>exact⟨[],Eb ad,0,0,rfl,by simpa using aJ.nil,by simp,by simp,by simp⟩
     |list _ _ r' o' kY hl cY=>
      have hc:cB C r' ((ys.take len).flatMap AVal.flat) o':=bA.cells (bA.take len cY);obtain⟨vs,k1,k2⟩:=hc.vals;refine⟨vs,Eb ⟨r',o',Eg⟩,ys.length,kY,rfl,k1,?_,rfl,by simp⟩;intro ad had j v hj;cases had;rw[add_lit];exact m.know _ _ _ (k2 j v hj)
   .cases cU
  have dc:=Ar db (by simpa using hb.2);obtain⟨vs,te,hg,cG,m',e'⟩:=Yx m e (vI iU) Q db dc (Ib hb.1);obtain rfl:=Ay bK;have hfc:=q3o (P:=P) (w:=w) (n:=n) (sz:=sz) (len:=sl) (cap:=sc) (base:=base) (cs:=news) (by rw[db.length,Rh]) hcells rS;have Hz:=run_storeCells_at (P:=P) r q te news 0 vs w hg (by simpa using cG) dc;simp only[Uy]at Hz
  have bE:(Builtin.copy_ c.argTypes o.type (c.args.map a.eval)).run P w=.ok (goInt n) (w.setRow r (vs.toList.take q++news++vs.toList.drop (q+news.length)).toArray):=by
   have ha:c.args.map a.eval=#[a.eval x,a.eval y]:=by
    apply If;simp[eo]
   have hat:c.argTypes[0]?=Eb t:=by rw[<-Ie,eS];rfl
   rw[ha];simp only[Builtin.copy_,hat,H3,Sg,Ms,Sem.run_bind,run_underlying ht,Result.andThen_ok,hq,hy,Builtin.lenOf,Sem.run_pure,RR,yn hn,hfc,Hz]
  refine⟨goInt n,_,?_,C,ω,aM.le_refl C,m',e',?_,by simp⟩
  .have ha:Array.map a.eval c.args=#[a.eval x,a.eval y]:=by
    apply If;simp[eo]
   rw[ha]at bE;simp[execOp,ho,resolve,dW,ha,invoke,builtin,bE]
  .exact .int _ _
theorem cI.erase:∀ {es:List (AVal×AVal)} {ms:List MapEntry} (j:Nat),cI C es ms->cI C (es.eraseIdx j) (ms.eraseIdx j)
 |_,_,j,.nil=>by simpa using cI.nil
 |_,_,0,.cons k' v' es m' ms Y I h3=>by simpa using h3
 |_,_,j+1,.cons k' v' es m' ms Y I h3=>by simpa using .cons _ _ _ _ _ Y I (cI.erase j h3)
theorem jca (m:aA P C ω w0 C0 hp w)(e:ar C ω w w0.heap.size env a.tmps){c}{t kt el:TypeId}{ts x y x' y' kd kv b es h' r}
  (ho:o.op=.call c) (dW:c.callee=.builtin .delete) (eo:c.args.toList=[x,y]) (eS:c.argTypes.toList=t::ts) (ht:P.underlying t=Eb (.map kt el)) (iI:kT P kt=Eb kd)
  (Y:qv x=Eb x') (I:qv y=Eb y') (e1:qj env x'=Eb (.map b)) (e2:qj env y'=Eb kv) (hb:hp[b]?=Eb (.map es))
  (hf:jz kd kv es 0=Eb r) (bK:jx hp b (.map (XV es r))=Eb h'):
  ∃u w',(execOp a.eval o).run P w=.ok (.value u) w'/\zo P C0 w0 C a.tmps d env ⟨.bq [],Eh,Eg,h'⟩ u w':=by
 have iq:=qx e.cu I e2;have tZ:=qx e.cu Y e1;obtain⟨td,r7⟩:=RO iI
 have ha:Array.map a.eval c.args=#[a.eval x,a.eval y]:=by
  apply If;simp[eo]
 have hat:c.argTypes[0]?=Eb t:=by rw[<-Ie,eS];rfl
 generalize ng:a.eval x=mx at tZ
 cases tZ with
 |map _ q py=>
  obtain⟨cj,clock,g1,g2⟩:=m.box b _ q hb py;have bh:=(m.lt b q py).1
  have done:∀(iM:List (AVal×AVal)) (r8:Array MapEntry),cI C iM r8.toList->jx hp b (.map iM)=Eb h' ->
    (Builtin.delete_ c.argTypes o.type #[.map (Eb q),a.eval y]).run P w=.ok (.tuple #[]) (kg w q (.map r8 clock))->∃u w',(execOp a.eval o).run P w=.ok (.value u) w'/\zo P C0 w0 C a.tmps d env ⟨.bq [],Eh,Eg,h'⟩ u w':=by
   intro iM r8 vK bK bE;obtain rfl:=Ay bK;have hu:=ES (w:=w) (r:=q) (x:=.map r8 clock) bh (by simp);refine⟨.tuple #[],_,?_,C,ω,aM.le_refl C,m.dV hu py _ (fun _ _ _ _ _ h=>h) ⟨r8,clock,Ht bh,vK⟩,e.dK hu py,.bq _ _ .nil,by simp⟩;simp[execOp,ho,resolve,dW,ha,ng,invoke,builtin,bE]
  have hfn:=Hv r7 iI iq g2 hf
  cases r with
  |none=>
   have uc:=Hw (w:=w) r7 hfn;refine done es cj g2 bK ?_;have gh:=xI (P:=P) (x:=.map cj clock) g1 (by simp);simp only[Builtin.delete_,hat,H3,Sg,Ms,Sem.run_bind,run_underlying ht,Result.andThen_ok,qI g1 (by simp),ET iI,uc,gh,Sem.run_pure]
  |some jv=>
   obtain⟨j,v⟩:=jv;obtain⟨me,_,k1,k2,k3,k4,k5,k6⟩:=hfn;have uc:=Hw (w:=w) r7 k5;refine done (es.eraseIdx j) (cj.eraseIdxIfInBounds j) ?_ bK ?_
   .have:(cj.eraseIdxIfInBounds j).toList=cj.toList.eraseIdx j:=by simp
    rw[this];exact cI.erase j g2
   .have gh:=xI (P:=P) (x:=.map (cj.eraseIdxIfInBounds j) clock) g1 (by simp);simp only[Builtin.delete_,hat,H3,Sg,Ms,Sem.run_bind,run_underlying ht,Result.andThen_ok,qI g1 (by simp),ET iI,uc,gh,Sem.run_pure]
end
section
variable {P:Program}{p:j8}{xc:XC}{C C0:aM}{ω:Nat->Option Loc}{w w0:World}{hp:qi}{env:Env}{a:Act}{o:Oper}{d:Loc}{h:jt}{md:eO}{r h0:Nat}{dst:Option Nat}{al:ak Nat}{cM:cF}{res:br}
variable (m:aA P C ω w0 C0 hp w)(e:ar C ω w w0.heap.size env a.tmps)
def yg (P:Program)(C C0:aM)(w0:World)(a:Act)(d:Loc)(env:Env)(o:Oper)(w:World)(res:br):Prop:=
 (∃v w',(execOp a.eval o).run P w=.ok (.value v) w'/\zo P C0 w0 C a.tmps d env res v w') \/
 (∃w',(execOp a.eval o).run P w=.ok .skip w'/\zo P C0 w0 C a.tmps d env res undef w') \/
 (∃f args,(execOp a.eval o).run P w=.ok (.enter f args) w/\CallsIn Fence.wide 0 P f args w fun e w'=>∃v,e=.returned v/\zo P C0 w0 C a.tmps d env res v w') \/
 (∃l f tmps assign body,(execOp a.eval o).run P w=.ok (.round l f tmps assign body) w/\RoundIn Fence.wide 0 P l f tmps assign body w fun e w'=>∃v,e=.returned v/\zo P C0 w0 C a.tmps d env res v w')
include m e in
theorem jk {x}(hv:Val P C a o w x):yg P C C0 w0 a d env o w ⟨x,Eh,Eg,hp⟩:=by
 obtain⟨v,Y,I⟩:=hv;exact .inl ⟨v,w,Y,Yl m e I⟩
theorem q9 {x}(G:val hp x=Eb res):res=⟨x,Eh,Eg,hp⟩:=by simpa[val]using G.symm
theorem ud {x}(G:gF hp x=Eb res):∃v,x=Eb v/\res=⟨v,Eh,Eg,hp⟩:=by
 cases x with
 |none=>simp[gF]at G|some v=>exact⟨v,rfl,by simpa[gF]using G.symm⟩
section
include m e
theorem Mb {x}(ho:o.op=.move x\/o.op=.assign x){y}(hc:qv x=Eb y)(G:qn env hp (.move y)=Eb res):yg P C C0 w0 a d env o w res:=by
 simp only[qn]at G;obtain⟨v,hv,rfl⟩:=ud G;exact jk m e (jl2 e.cu ho hc hv)
theorem EU {s}(ho:o.op=.move (.tmp s)\/o.op=.assign (.tmp s))(G:qn env hp (.take s)=Eb res):yg P C C0 w0 a d env o w res:=by
 simp only[qn]at G;split at G
 .rename_i v ow hl;cases G;exact .inl (jix m e ho hl)
 .cases G
theorem jl9 {x}(ho:o.op=.move x)(hc:cT P h md r dst (.move x)=Eb cM)(G:qg p xc h0 al env hp cM=Eb res):yg P C C0 w0 a d env o w res:=by
 simp only[cT]at hc;split at hc
 .rename_i s ht;cases hc;unfold XW at ht;split at ht
  .split at ht
   .cases ht;exact EU m e (.inl ho) G
   .cases ht
  .cases ht
 .obtain⟨y,hy,rfl⟩:=Ep.1 hc;exact Mb m e (.inl ho) hy G
theorem jb3 {x}(ho:o.op=.assign x)(hc:cT P h md r dst (.assign x)=Eb cM)(G:qg p xc h0 al env hp cM=Eb res):yg P C C0 w0 a d env o w res:=by
 cases x with
 |tmp s=>simp only[cT]at hc;cases hc;exact EU m e (.inr ho) G|const v=>simp only[cT]at hc;obtain⟨y,hy,rfl⟩:=Ep.1 hc;exact Mb m e (.inr ho) hy G|func v=>simp only[cT]at hc;obtain⟨y,hy,rfl⟩:=Ep.1 hc;exact Mb m e (.inr ho) hy G|global v=>simp only[cT]at hc;obtain⟨y,hy,rfl⟩:=Ep.1 hc;exact Mb m e (.inr ho) hy G
theorem jja {c x y}(ho:o.op=.pick c x y)(hc:cT P h md r dst (.pick c x y)=Eb cM)(G:qg p xc h0 al env hp cM=Eb res):yg P C C0 w0 a d env o w res:=by
 simp only[cT]at hc;split at hc
 .rename_i c' x' y' Y I h3;cases hc;simp only[qg,qn]at G;split at G
  .rename_i b e1;split at G
   .rename_i u v e2 e3;obtain rfl:=q9 G;exact jk m e (jme e.cu ho Y I h3 e1 e2 e3)
   .cases G
  .cases G
 .cases hc
theorem q5u {x}(ho:o.op=.nilCheck x)(hc:cT P h md r dst (.nilCheck x)=Eb cM)(G:qg p xc h0 al env hp cM=Eb res):yg P C C0 w0 a d env o w res:=by
 simp only[cT]at hc;obtain⟨y,hy,rfl⟩:=Ep.1 hc;simp only[qg,qn]at G;split at G
 .rename_i b q hv;obtain rfl:=q9 G;exact jk m e (X6 e.cu ho hy hv (.inl ⟨_,_,rfl⟩))
 .rename_i z hv;obtain rfl:=q9 G;exact jk m e (X6 e.cu ho hy hv (.inr ⟨_,rfl⟩))
 .rename_i f u v hv;obtain rfl:=q9 G;have Q:=qx e.cu hy hv;refine jk m e ⟨a.eval x,?_,Q⟩;generalize M:a.eval x=ev at Q
  cases Q with
  |fn f f' u v as bs hf ha hb=>
   simp only[fJ]at hf;subst hf;simp[execOp,ho,M]
 .cases G
theorem jt2 {op}{t:TypeId}{x}(ho:o.op=.unOp op t x)(hc:cT P h md r dst (.unOp op t x)=Eb cM)(G:qg p xc h0 al env hp cM=Eb res):yg P C C0 w0 a d env o w res:=by
 simp only[cT]at hc;obtain⟨y,hy,rfl⟩:=Ep.1 hc;simp only[qg,qn]at G;split at G
 .rename_i v hv;obtain⟨u,hu,rfl⟩:=ud G;exact jk m e (jrq e.cu ho hy hv hu)
 .cases G
end
theorem YG {C:aM}{r:Nat}:∀ {xs:List AVal} {o:Nat} {s:aj},bA C r 1 xs o->ED xs=Eb s->∃ns:List Int,ns.length=xs.length/\(∀j v,(ns.map (Value.int .u8))[j]?=Eb v->C.K r (o+j)=Eb v)/\s=ns.map (fun n=>Se n.toNat)
 | [],o,s,_,hb=>by
  cases hb;exact⟨[],rfl,by simp,rfl⟩
 |x::xs,o,s,h,hb=>by
  cases h with
  |dr _ _ _ _ _ G M h=>
   unfold ED at hb;split at hb
   .rename_i e;cases e
   .rename_i n ys e;cases e;split at hb
    .rename_i t ht;cases hb;obtain⟨ns,k1,k2,k3⟩:=YG h ht
     cases M with
     |dC _ _ _ _ v hv M _=>
      cases M;refine⟨n::ns,by simp[k1],?_,by rw[k3];rfl⟩;intro j v hj
      cases j with
      |zero=>simp at hj;subst hj;exact hv|succ j=>simp only[Sd,Ms]at hj;rw[show o+(j+1)=o+1+j from by omega];exact k2 j v hj
    .cases hb
   .cases hb
theorem YH:∀ (ns:List Int) (l:aj),ns.foldl (fun r n=>r.push (Se n.toNat)) (ByteArray.mk ⟨l⟩)=ByteArray.mk ⟨l++ns.map (fun n=>Se n.toNat)⟩
 | [],l=>by simp
 |n::ns,l=>by
  have h:(ByteArray.mk ⟨l⟩).push (Se n.toNat)=ByteArray.mk ⟨l++[Se n.toNat]⟩:=by
   unfold ByteArray.push;simp
  rw[Y1,h,YH ns,Sd,Mh];rfl
theorem jgd (m:aA P C ω w0 C0 hp w)(he:bw C env a.tmps){s d e:TypeId}{x x' xs l n}(ho:o.op=.convert s d x)(G:P.underlying s=Eb (.slice e))(hu:P.underlying e=Eb (.int .u8))(hd:P.underlying d=Eb .string)
  (Y:qv x=Eb x') (e1:qj env x'=Eb (.list n 1 xs)) (hb:ED xs=Eb l):Val P C a o w (.str l):=by
 have key:∀(ad:Addr) (len cap:Nat) (ns:List Int),a.eval x=.slice (Eb ad) len cap->ns.length=len->(∀j v,(ns.map (Value.int .u8))[j]?=Eb v->w.cell? (ad.add j)=Eb v)->l=ns.map (fun n=>Se n.toNat)->Val P C a o w (.str l):=by
  intro ad len cap ns hq hl hc vL;have oL:=run_loadCells_list (P:=P) w ad (ns.map (Value.int .u8)) hc;rw[Vg,hl]at oL;have bE:=run_bytesToString (P:=P) w ad len cap ns oL;have hf:=YH ns [];refine⟨.string ⟨⟨l⟩⟩,?_,.str _⟩;rw[show ByteArray.empty=ByteArray.mk ⟨[]⟩from rfl,hf,Oz,<-vL]at bE;simp[execOp,ho,hq,convert,run_underlying G,run_underlying hd,run_underlying hu,bE]
 rcases(qx he Y e1).cQ with⟨rfl,rfl,hq⟩|⟨rfl,r,q,cap,hq,_,cY⟩|⟨rfl,rfl,ad,l0,hq⟩
 .cases hb;refine⟨.string ⟨⟨[]⟩⟩,?_,.str _⟩;simp[execOp,ho,hq,convert,run_underlying G,run_underlying hd,run_underlying hu,Conv.bytesToString];rfl
 .obtain⟨ns,k1,k2,k3⟩:=YG cY hb;exact key _ _ _ ns hq k1 (fun j v hj=>by rw[add_lit];exact m.know _ _ _ (k2 j v hj)) k3
 .cases hb;exact key ad 0 0 [] hq rfl (by simp) rfl
include m e in
theorem jih {s t:TypeId}{x}(ho:o.op=.convert s t x)(hc:cT P h md r dst (.convert s t x)=Eb cM)(G:qg p xc h0 al env hp cM=Eb res):yg P C C0 w0 a d env o w res:=by
 simp only[cT]at hc;split at hc
 .rename_i k0 k u1 u2;obtain⟨y,hy,rfl⟩:=Ep.1 hc;simp only[qg,qn]at G;split at G
  .rename_i k1 n hv;obtain rfl:=q9 G;exact jk m e (jic e.cu ho u1 u2 hy hv)
  .cases G
 .rename_i u1 u2;obtain⟨y,hy,rfl⟩:=Ep.1 hc;simp only[qg,qn]at G;split at G
  .rename_i l hv;obtain rfl:=q9 G;exact jk m e (q85 e.cu ho u1 u2 hy hv ⟨_,rfl⟩)
  .rename_i k1 n hv;obtain rfl:=q9 G;exact jk m e (q78 e.cu ho u1 u2 hy hv)
  .cases G
 .rename_i k0 u1 u2;obtain⟨y,hy,rfl⟩:=Ep.1 hc;simp only[qg,qn]at G;split at G
  .rename_i l hv;obtain rfl:=q9 G;exact jk m e (q70 e.cu ho u1 u2 hy hv ⟨_,rfl⟩)
  .rename_i k1 n hv;obtain rfl:=q9 G;exact jk m e (q8r e.cu ho u1 u2 hy hv)
  .cases G
 .rename_i e0 u1 u2;split at hc
  .rename_i u3;obtain⟨y,hy,rfl⟩:=Ep.1 hc;simp only[qg,qn]at G;split at G
   .rename_i nn xs hv;split at G
    .rename_i l hl;obtain rfl:=q9 G;exact jk m e (jgd m e.cu ho u1 u3 u2 hy hv hl)
    .cases G
   .cases G
  .cases hc
 .cases hc
theorem YI {ag n y}(G:qn env hp (.eV ag n y)=Eb res):yl h0 al env hp (.load ag n y)=Eb res:=by
 simp only[qn]at G;simp only[yl];split at G
 .rename_i v hv;rw[hv];exact G
 .cases G
theorem YJ {g}:∀ {l:List (String×List Int)} {cs:List Int},GO P g l=Eb cs->∃n,(n,cs)∈l/\P.globalNamed n=Eb g
 | [],_,h=>by simp[GO]at h
 |(n,ds)::l,cs,h=>by
  simp only[GO]at h;split at h
  .rename_i hn;cases h;exact⟨n,Xl ..,by simpa using hn⟩
  .obtain⟨n',Y,I⟩:=YJ h;exact⟨n',Vj _ Y,I⟩
theorem jhh {ns:List Int}:bf C (ns.map (AVal.int .i64)) (ns.map (Value.int .i64)):=by
 induction ns with
 |nil=>exact .nil|cons n ns ih=>exact .cons _ _ _ _ (.int _ _) ih
section
include m e
theorem jg9 {t:TypeId}{g}(ho:o.op=.load t (.global g))(hc:cT P h md r dst (.load t (.global g))=Eb cM)(G:qg p xc h0 al env hp cM=Eb res):yg P C C0 w0 a d env o w res:=by
 have hc:LJ P t g=Eb cM:=hc;unfold LJ at hc;split at hc
 .rename_i cs n hf hg hn;split at hc
  .rename_i hl;cases hc
   have hl:cs.length=n:=by simpa using hl
   simp only[qg,qn,qj]at G;obtain⟨u,hu,rfl⟩:=ud G;cases hu;obtain⟨nm,dk,YK⟩:=YJ hf;have ht:=(m.tabs g (.inr (.inr ⟨_,dk,YK⟩))).2.2.2 _ dk YK
   have ec:∀j v,(cs.map (Value.int .i64))[j]?=Eb v->w.cell? ⟨g,0+j,Eg⟩=Eb v:=by
    intro j v hj;rw[Mn,Ep]at hj;obtain⟨i,hi,rfl⟩:=hj;rw[U6];exact ht j i hi
   have oL:=Hh (P:=P) (w:=w) hg hn (vs:=cs.map (Value.int .i64)) (by simpa using hl) ec;refine jk m e ⟨.agg ⟨cs.map (Value.int .i64)⟩,?_,.agg _ _ jhh⟩;have dY:a.eval (.global g)=.pointer (Eb ⟨g,0,Eg⟩):=rfl;simp[execOp,ho,Instr.loadAt,dY,Instr.sureAddr,oL]
  .cases hc
 .cases hc
theorem jit {t:TypeId}{x}(ho:o.op=.load t x)(hc:cT P h md r dst (.load t x)=Eb cM)(G:qg p xc h0 al env hp cM=Eb res):yg P C C0 w0 a d env o w res:=by
 have key:∀ {ag:Bool} {n:Nat} {y:jq},yq P t=Eb ag->jp P t=Eb n->(ag=Eh->n=1)->qv x=Eb y->yl h0 al env hp (.load ag n y)=Eb res->yg P C C0 w0 a d env o w res:=by
  intro ag n y hg hn Hk hy G;simp only[yl]at G;split at G
  .rename_i b q hv
   cases hk:j9 h0 al b with
   |false=>simp[hk]at G
   |true=>
    simp only[hk,cond_true]at G;split at G
    .rename_i cs hcs;split at G
     .rename_i us gY
      cases ag with
      |true=>
       simp only[cond_true]at G;obtain rfl:=q9 G;exact jk m e (Rv m e.cu ho hg hn Hk hy hv (.inl ⟨b,q,cs,us,rfl,hcs,gY,.inl ⟨rfl,rfl⟩⟩))
      |false=>
       simp only[cond_false]at G;split at G
       .obtain rfl:=q9 G;exact jk m e (Rv m e.cu ho hg hn Hk hy hv (.inl ⟨b,q,cs,_,rfl,hcs,gY,.inr ⟨rfl,rfl⟩⟩))
       .cases G
     .cases G
    .cases G
  .rename_i z hv
   cases hk:(Sm ag z.isAgg||!(E3 z.flat.length n))with
   |true=>simp[hk]at G
   |false=>
    simp only[hk,cond_false]at G;obtain rfl:=q9 G;simp only[Bool.or_eq_false_iff,Bool.not_eq_false']at hk;exact jk m e (Rv m e.cu ho hg hn Hk hy hv (.inr ⟨rfl,hk.1,E8 hk.2⟩))
  .rename_i b bO q hv
   cases hk:rI h0 al b with
   |false=>simp[hk]at G
   |true=>
    simp only[hk,cond_true]at G;split at G
    .rename_i sz dJ xs gM
     cases dx:(E3 bO dJ&&E9 (q+n) (xs.flatMap AVal.flat).length)with
     |false=>rw[dx]at G;cases G
     |true=>
      rw[dx]at G;simp only[cond_true]at G;simp only[Ic]at dx;obtain rfl:=E8 dx.1;have hl:=Ib dx.2
      cases ag with
      |true=>
       simp only[cond_true]at G;obtain rfl:=q9 G;exact jk m e (Yz m e.cu ho hg hn hy hv gM hl (.inl ⟨rfl,rfl⟩))
      |false=>
       simp only[cond_false]at G;split at G
       .rename_i z hz;obtain rfl:=q9 G;exact jk m e (Yz m e.cu ho hg hn hy hv gM hl (.inr ⟨rfl,hz⟩))
       .cases G
    .cases G
  .cases G
 by_cases M:∃g,x=.global g
 .obtain⟨g,rfl⟩:=M;exact jg9 m e ho hc G
 have hc:(match yq P t,jp P t,qv x with
  |some Eh,Eb 1,Eb x=>if(dst.map (h.takes.contains ·)).getD Eh then Eb (cF.cw ((dst.bind fun d=>h.vA.find? fun y=>y.1 == d).map (·.2)) x)else Eb (bif (dst.map (h.vl.contains ·)).getD Eh then .eV Eh 1 x else .load Eh 1 x)
  |some En,Eb n,Eb x=>Eb (bif (dst.map (h.vl.contains ·)).getD Eh then .eV En n x else .load En n x)
  |_,_,_=>Eg)=Eb cM:=by
  cases x with
  |global g=>exact absurd ⟨g,rfl⟩ M|_=>exact hc
 split at hc
 .rename_i y hg hn hy;split at hc
  .cases hc;simp only[qg,qq]at G;split at G
   .rename_i b q hv;generalize (j9 h0 al b&&xp _ q)=kk at G
    cases kk with
    |false=>simp at G
    |true=>
     simp only[cond_true]at G;split at G
     .rename_i cs hcs;split at G
      .rename_i v ow hq;split at G
       .rename_i h' bK;cases G;exact .inl (q7g m e ho hg hy hv hcs hq bK)
       .cases G
      .cases G
     .cases G
   .cases G
  .cases hc;generalize (dst.map (h.vl.contains ·)).getD Eh=bb at G
   cases bb with
   |false=>exact key hg hn (fun _=>rfl) hy G|true=>exact key hg hn (fun _=>rfl) hy (YI G)
 .rename_i n y hg hn hy;cases hc;generalize (dst.map (h.vl.contains ·)).getD Eh=bb at G
  cases bb with
  |false=>exact key hg hn (by simp) hy G|true=>exact key hg hn (by simp) hy (YI G)
 .cases hc
theorem jhf {t:TypeId}{x y}(ho:o.op=.store t x y)(nR:cM.ij=Eg)(hc:cT P h md r dst (.store t x y)=Eb cM)(G:qg p xc h0 al env hp cM=Eb res):yg P C C0 w0 a d env o w res:=by
 simp only[cT]at hc;split at hc
 .rename_i n x' y' hn Y I
  cases mc:LK h x' with
  |some s=>rw[mc]at hc;simp only[Eb.injEq]at hc;subst hc;simp[cF.ij]at nR
  |none=>
  rw[mc]at hc;simp only[Eb.injEq]at hc;subst hc;simp only[qg,qq]at G;split at G
  .rename_i b q v e1 e2
   cases hk:j9 h0 al b with
   |false=>simp[hk]at G
   |true=>
    simp only[hk,cond_true]at G;split at G
    .rename_i cs hcs;split at G
     .rename_i s cZ
      cases hb:(E3 n 1&&v.cP&&H2 q cs.length)with
      |false=>simp[hb]at G
      |true=>
       simp only[hb,cond_true]at G;simp only[Ic]at hb;obtain⟨⟨lM,nh⟩,HA⟩:=hb;obtain rfl:=E8 lM;split at G
       .rename_i h' bK;cases G;exact .inr (.inl (q7i m e ho hn Y I e1 e2 hcs nh (Y5.mp HA) cZ bK))
       .cases G
     .cases hb:E3 v.flat.length n with
      |false=>simp[hb]at G
      |true=>
       simp only[hb,cond_true]at G;split at G
       .rename_i eE cq;split at G
        .rename_i h' bK;obtain rfl:=q9 G;exact .inr (.inl (jh1 m e ho hn Y I e1 e2 hcs (E8 hb) cq bK))
        .cases G
       .cases G
    .cases G
  .cases G
 .cases hc
end
theorem jff {P}{t:TypeId}{e:TypeId}(h:QW P t=Eb e):∃sz,yu P t=Eb [.cC,.list En sz []]:=by
 unfold QW at h;split at h
 .split at h
  .split at h
   .split at h
    .rename_i sz Y I;exact⟨_,I⟩
    .cases h
   .cases h
  .cases h
 .cases h
section
include m e
theorem jeu {t:TypeId}(ho:o.op=.alloc t)(hc:cT P h md r dst (.alloc t)=Eb cM)(G:qg p xc h0 al env hp cM=Eb res):yg P C C0 w0 a d env o w res:=by
 simp only[cT]at hc;split at hc
 .rename_i e' he;cases hc;obtain⟨sz,hz⟩:=jff he;simp only[qg,qq]at G;split at G
  .rename_i h' hn;obtain rfl:=q9 G;exact .inl (jnj m e ho hz hn)
  .cases G
 generalize (dst.map (h.vl.contains ·)).getD Eh=bb at hc
 cases bb with
 |true=>
  simp only[cond_true]at hc;split at hc
  .rename_i z hz
   cases hb:z.all qm with
   |false=>rw[hb]at hc;cases hc
   |true=>
    rw[hb]at hc;simp only[cond_true,Eb.injEq]at hc;subst hc;simp only[qg,qn,Eb.injEq]at G;subst G;exact .inl (jbs m e ho hz)
  .cases hc
 |false=>
 simp only[cond_false]at hc;obtain⟨z,hz,rfl⟩:=Ep.1 hc;simp only[qg,qq]at G
 cases hb:z.all qm with
 |false=>simp[hb]at G
 |true=>
  simp only[hb,cond_true]at G;split at G
  .rename_i h' hn;obtain rfl:=q9 G;exact .inl (jgb m e ho hz (by simpa using hb) hn)
  .cases G
theorem jn5 {t:TypeId}{x}(ho:o.op=.box t x)(hc:cT P h md r dst (.box t x)=Eb cM)(G:qg p xc h0 al env hp cM=Eb res):yg P C C0 w0 a d env o w res:=by
 simp only[cT]at hc;split at hc
 .rename_i n x' hn Y;cases hc;generalize (dst.map (h.vl.contains ·)).getD Eh=bb at G
  cases bb with
  |true=>
   simp only[cond_true,qg,qn]at G;split at G
   .rename_i v hv
    cases hb:(E3 v.flat.length n&&v.flat.all qm)with
    |false=>simp[hb]at G
    |true=>
     simp only[hb,cond_true]at G;simp only[Ic]at hb;obtain rfl:=q9 G;exact .inl (jl7 m e ho Y hv hb.2)
   .cases G
  |false=>
   simp only[cond_false]at G;simp only[qg,qq]at G;split at G
   .rename_i v hv
    cases hb:(E3 v.flat.length n&&v.flat.all qm)with
    |false=>simp[hb]at G
    |true=>
     simp only[hb,cond_true]at G;simp only[Ic]at hb;split at G
     .rename_i h' jD;obtain rfl:=q9 G;exact .inl (jpt m e ho Y hv hb.2 jD)
     .cases G
   .cases G
 .cases hc
theorem q9c {i x}(ho:o.op=.extract x i)(hc:cT P h md r dst (.extract x i)=Eb cM)(G:qg p xc h0 al env hp cM=Eb res):yg P C C0 w0 a d env o w res:=by
 simp only[cT]at hc;obtain⟨y,hy,rfl⟩:=Ep.1 hc;simp only[qg,qn]at G;split at G
 .rename_i vs hv;obtain⟨u,hu,rfl⟩:=ud G;exact jk m e (q9a e.cu ho hy hv hu)
 .cases G
theorem q7q {f xs ys}(ho:o.op=.makeFunc f xs ys)(hc:cT P h md r dst (.makeFunc f xs ys)=Eb cM)(G:qg p xc h0 al env hp cM=Eb res):yg P C C0 w0 a d env o w res:=by
 simp only[cT]at hc;split at hc
 .split at hc
  .rename_i k fU oI Y I;cases hc;simp only[qg,qn]at G;split at G
   .rename_i us vs e1 e2;obtain rfl:=q9 G;exact jk m e (jc6 e.cu ho Y I e1 e2)
   .cases G
  .cases hc
 .cases hc
theorem q8m {t:TypeId}{x}(ho:o.op=.makeMap t x)(hc:cT P h md r dst (.makeMap t x)=Eb cM)(G:qg p xc h0 al env hp cM=Eb res):yg P C C0 w0 a d env o w res:=by
 cases x with
 |some x=>simp[cT]at hc
 |none=>
  simp only[cT]at hc;split at hc
  .cases hc;simp only[qg,qq]at G;split at G
   .rename_i h' hn;obtain rfl:=q9 G;exact .inl (jg6 m e ho hn)
   .cases G
  .cases hc
theorem jgz {t:TypeId}{x}(ho:o.op=.range t x)(hc:cT P h md r dst (.range t x)=Eb cM)(G:qg p xc h0 al env hp cM=Eb res):yg P C C0 w0 a d env o w res:=by
 simp only[cT]at hc;split at hc
 .rename_i ht;obtain⟨y,hy,rfl⟩:=Ep.1 hc;simp only[qg,qq]at G;split at G
  .rename_i s hv;split at G
   .rename_i h' hn;obtain rfl:=q9 G;exact .inl (jdd m e ho ht hy hv hn)
   .cases G
  .cases G
 .cases hc
theorem HC {x b}(ho:o.op=.next x b)(hc:cT P h md r dst (.next x b)=Eb cM)(G:qg p xc h0 al env hp cM=Eb res):yg P C C0 w0 a d env o w res:=by
 cases b with
 |false=>simp[cT]at hc
 |true=>
  simp only[cT]at hc;obtain⟨y,hy,rfl⟩:=Ep.1 hc;simp only[qg,qq]at G;split at G
  .rename_i b hv
   cases hk:j9 h0 al b with
   |false=>simp[hk]at G
   |true=>
    simp only[hk,cond_true]at G;split at G
    .rename_i s pos hb;obtain⟨k1,k2⟩:=jfo (d:=d) m e ho hy hv hb
     cases hp:H2 pos s.length with
     |true=>
      simp only[hp,cond_true]at G;split at G
      .rename_i h' bK;obtain rfl:=q9 G;exact .inl (k1 (Y5.mp hp) h' bK)
      .cases G
     |false=>
      simp only[hp,cond_false]at G;obtain rfl:=q9 G;exact .inl (k2 (fun h=>by rw[Y5.mpr h]at hp;cases hp))
    .cases G
  .cases G
theorem jcd {t:TypeId}{x y ok}(ho:o.op=.lookup t x y ok)(hc:cT P h md r dst (.lookup t x y ok)=Eb cM)(G:qg p xc h0 al env hp cM=Eb res):yg P C C0 w0 a d env o w res:=by
 simp only[cT]at hc;split at hc
 .rename_i kt el ht;split at hc
  .rename_i kd z x' y' iI hz Y I;cases hc;simp only[qg,yl]at G;split at G
   .rename_i b kv e1 e2
    cases hk:j9 h0 al b with
    |false=>simp[hk]at G
    |true=>
     simp only[hk,cond_true]at G;split at G
     .rename_i es hb;split at G
      .rename_i i v hf;obtain rfl:=q9 G;exact jk m e (RP m e ho ht iI hz Y I e1 e2 (.inr ⟨b,es,rfl,hb,hf⟩))
      .rename_i hf;obtain rfl:=q9 G;exact jk m e (RP m e ho ht iI hz Y I e1 e2 (.inr ⟨b,es,rfl,hb,hf⟩))
      .cases G
     .cases G
   .rename_i kv e1 e2;obtain rfl:=q9 G;exact jk m e (RP m e ho ht iI hz Y I e1 e2 (.inl ⟨rfl,rfl⟩))
   .cases G
  .cases hc
 .cases hc
theorem YL {t:TypeId}{x y z}(ho:o.op=.mapUpdate t x y z\/o.op=.insert t x y z)(hc:cT P h md r dst (.mapUpdate t x y z)=Eb cM)(G:qg p xc h0 al env hp cM=Eb res):yg P C C0 w0 a d env o w res:=by
 simp only[cT]at hc;split at hc
 .rename_i kt el ht;split at hc
  .rename_i kd x' y' z' iI Y I h3;cases hc;simp only[qg,qq]at G;split at G
   .rename_i b kv v e1 e2 e3
    cases hk:j9 h0 al b with
    |false=>simp[hk]at G
    |true=>
     simp only[hk,cond_true]at G;split at G
     .rename_i es hb;split at G
      .rename_i i u hf;split at G
       .rename_i h' bK;obtain rfl:=q9 G;exact .inr (.inl (YE m e ho ht iI Y I h3 e1 e2 e3 hb (.inl ⟨i,u,hf,bK⟩)))
       .cases G
      .rename_i hf
       cases hl:E9 es.length 1073741824 with
       |false=>simp[hl]at G
       |true=>
        simp only[hl,cond_true]at G;split at G
        .rename_i h' bK;obtain rfl:=q9 G;exact .inr (.inl (YE m e ho ht iI Y I h3 e1 e2 e3 hb (.inr ⟨hf,bK⟩)))
        .cases G
      .cases G
     .cases G
   .cases G
  .cases hc
 .cases hc
end
end
section
variable {P:Program}{p:j8}{xc:XC}{C C0:aM}{ω:Nat->Option Loc}{w w0:World}{hp:qi}{env:Env}{a:Act}{o:Oper}{d:Loc}{h:jt}{md:eO}{r h0:Nat}{dst:Option Nat}{al:ak Nat}{cM:cF}{res:br}
variable (m:aA P C ω w0 C0 hp w)(e:ar C ω w w0.heap.size env a.tmps)
theorem uf (w:World){d}{t:TypeId}{x y b}{u:TypeDesc}(h:(∃e,u=.slice e/\y=.slice Eg 0 0/\∃q l c,x=.slice q l c/\b=q.isNone)\/(∃e,u=.pointer e/\y=.pointer Eg/\∃q,x=.pointer q/\b=q.isNone) \/
  (∃k e,u=.map k e/\y=.map Eg/\∃q,x=.map q/\b=q.isNone)\/(∃k e v,u=.func k e v/\y=.nilFunc/\((x=.nilFunc/\b=En)\/∃f i j,x=.func f i j/\b=Eh))) (ht:P.underlying t=Eb u):
  (Op.equalIn (d+1) t x y).run P w=.ok b w:=by
 rcases h with⟨e,rfl,rfl,q,l,c,rfl,rfl⟩|⟨e,rfl,rfl,q,rfl,rfl⟩|⟨k,e,rfl,rfl,q,rfl,rfl⟩|⟨k,e,v,rfl,rfl,⟨rfl,rfl⟩|⟨f,i,j,rfl,rfl⟩⟩
 .cases q<;>simp[Op.equalIn,run_underlying ht]
 .cases q<;>simp[Op.equalIn,run_underlying ht]
 .cases q<;>simp[Op.equalIn,run_underlying ht]
 .simp[Op.equalIn,run_underlying ht]
 .simp[Op.equalIn,run_underlying ht]
section
include m e
theorem ug {op}{t u:TypeId}{x y neq b c}(ho:o.op=.binOp op t x y u)(hop:op=if neq then .neq else .eql)(hy:a.eval y=c)
  (bI:(∀k n,a.eval x≠.int k n)/\(∀s,a.eval x≠.string s)/\(∀k n,a.eval x≠.float k n)/\(∀k n m,a.eval x≠.complex k n m)) (df:∀cs,a.eval x≠.agg cs) (Rm:a.eval x≠.nilIface)
  (hq:(Op.equal t (a.eval x) c).run P w=.ok b w) {z} (hz:z=bif neq then !b else b):yg P C C0 w0 a d env o w ⟨.bool z,Eh,Eg,hp⟩:=by
 subst hz;exact jk m e (jen ho hop hy bI df Rm hq)
theorem Mc {op}{t u:TypeId}{x y y' neq k c}(ho:o.op=.binOp op t x y u)(hop:op=if neq then .neq else .eql)(M:qv x=Eb y')(hy:y=.const c)
  (hk:(k=0/\(∃el,P.underlying t=Eb (.slice el))/\c=.slice Eg 0 0)\/(k=1/\(∃el,P.underlying t=Eb (.pointer el))/\c=.pointer Eg)\/(k=2/\(∃k v,P.underlying t=Eb (.map k v))/\c=.map Eg)\/(k=3/\(∃a b c,P.underlying t=Eb (.func a b c))/\c=.nilFunc))
  (G:qg p xc h0 al env hp (.fD k neq y')=Eb res):yg P C C0 w0 a d env o w res:=by
 have qJ:a.eval y=c:=by subst hy;simp[Act.eval]
 rcases hk with⟨rfl,⟨el,ht⟩,rfl⟩|⟨rfl,⟨el,ht⟩,rfl⟩|⟨rfl,⟨k,el,ht⟩,rfl⟩|⟨rfl,⟨k,el,q,ht⟩,rfl⟩
 .simp only[qg,qn]at G
  split at G<;>first|(exfalso;omega)|skip
  .rename_i n sz xs _ hv;obtain rfl:=q9 G;rcases(qx e.cu M hv).cQ with⟨rfl,rfl,Y⟩|⟨Y,r,q,cap,I,_⟩|⟨Y,_,ad,_,I⟩
   .exact ug m e ho hop qJ (by simp[Y]) (by simp[Y]) (by simp[Y]) (b:=true) (by rw[Y];exact uf w (d:=9999) (by simp) ht) (by cases neq<;>rfl)
   all_goals
    subst Y;exact ug m e ho hop qJ (by simp[I]) (by simp[I]) (by simp[I]) (b:=false) (by rw[I];exact uf w (d:=9999) (by simp) ht) (by cases neq<;>rfl)
  .rename_i b q n _ hv;obtain rfl:=q9 G;have Q:=qx e.cu M hv;generalize I:a.eval x=ev at Q
   cases Q with
   |ms b o len r cap hb hl=>
    exact ug m e ho hop qJ (by simp[I]) (by simp[I]) (by simp[I]) (b:=false) (by rw[I];exact uf w (d:=9999) (by simp) ht) (by cases neq<;>rfl)
  .cases G
 .simp only[qg,qn]at G
  split at G<;>first|(exfalso;omega)|skip
  .rename_i _ hv;obtain rfl:=q9 G;have Q:=qx e.cu M hv;generalize I:a.eval x=ev at Q;cases Q;exact ug m e ho hop qJ (by simp[I]) (by simp[I]) (by simp[I]) (b:=true) (by rw[I];exact uf w (d:=9999) (by simp) ht) (by cases neq<;>rfl)
  .rename_i _ hv;obtain rfl:=q9 G;obtain⟨r,Q,I⟩:=(qx e.cu M hv).dv;exact ug m e ho hop qJ (by simp[I]) (by simp[I]) (by simp[I]) (b:=false) (by rw[I];exact uf w (d:=9999) (by simp) ht) (by cases neq<;>rfl)
  .rename_i _ hv;obtain rfl:=q9 G;obtain⟨r,q,I,_⟩:=(qx e.cu M hv).eZ;exact ug m e ho hop qJ (by simp[I]) (by simp[I]) (by simp[I]) (b:=false) (by rw[I];exact uf w (d:=9999) (by simp) ht) (by cases neq<;>rfl)
  .cases G
 .simp only[qg,qn]at G
  split at G<;>first|(exfalso;omega)|skip
  .rename_i _ hv;obtain rfl:=q9 G;have Q:=qx e.cu M hv;generalize I:a.eval x=ev at Q;cases Q;exact ug m e ho hop qJ (by simp[I]) (by simp[I]) (by simp[I]) (b:=true) (by rw[I];exact uf w (d:=9999) (by simp) ht) (by cases neq<;>rfl)
  .rename_i _ hv;obtain rfl:=q9 G;have Q:=qx e.cu M hv;generalize I:a.eval x=ev at Q;cases Q;exact ug m e ho hop qJ (by simp[I]) (by simp[I]) (by simp[I]) (b:=false) (by rw[I];exact uf w (d:=9999) (by simp) ht) (by cases neq<;>rfl)
  .cases G
 .simp only[qg,qn]at G
  split at G<;>first|(exfalso;omega)|skip
  .rename_i _ hv;obtain rfl:=q9 G;have Q:=qx e.cu M hv;generalize I:a.eval x=ev at Q;cases Q;exact ug m e ho hop qJ (by simp[I]) (by simp[I]) (by simp[I]) (b:=true) (by rw[I];exact uf w (d:=9999) (by simp) ht) (by cases neq<;>rfl)
  .rename_i _ hv;obtain rfl:=q9 G;have Q:=qx e.cu M hv;generalize I:a.eval x=ev at Q;cases Q;exact ug m e ho hop qJ (by simp[I]) (by simp[I]) (by simp[I]) (b:=false) (by rw[I];exact uf w (d:=9999) (by simp) ht) (by cases neq<;>rfl)
  .cases G
theorem RS {op}{t u:TypeId}{x y x' y'}(ho:o.op=.binOp op t x y u)(Y:qv x=Eb x')(I:qv y=Eb y')(G:qg p xc h0 al env hp (.bin op x' y')=Eb res):yg P C C0 w0 a d env o w res:=by
 simp only[qg,qn]at G;split at G
 .rename_i u v e1 e2;obtain⟨z,hz,rfl⟩:=ud G;exact jk m e (jnu e.cu ho Y I e1 e2 hz)
 .cases G
theorem YM {op}{t u:TypeId}{x y neq}(ho:o.op=.binOp op t x y u)(hop:op=if neq then .neq else .eql)(hc:EG P op neq t x y=Eb cM)(G:qg p xc h0 al env hp cM=Eb res):yg P C C0 w0 a d env o w res:=by
 have dX:EG P op neq t x y=Eb cM:=hc;unfold EG at dX
 have eqs:∀ {ks:List Kd} {x' y':jq},yq P t=Eb En->P.eqGuardType P.depth t=Eh->rL P LI t=Eb ks->qv x=Eb x'->qv y=Eb y'->qg p xc h0 al env hp (.eqs ks neq x' y')=Eb res->yg P C C0 w0 a d env o w res:=by
  intro ks x' y' df hg hk Y I G;simp only[qg,qn]at G;split at G
  .rename_i u v e1 e2
   cases hb:(E3 u.length ks.length&&E3 v.length ks.length)with
   |false=>simp[hb]at G
   |true=>
    simp only[hb,cond_true]at G;simp only[Ic]at hb;split at G
    .rename_i b hq;obtain rfl:=q9 G;exact jk m e (jqs e.cu ho hop Y I e1 e2 hg hk df (E8 hb.1) (E8 hb.2) hq)
    .cases G
  .cases G
 split at dX
 .split at dX
  .rename_i Y I;cases dX;exact RS m e ho Y I G
  .cases dX
 .split at dX
  .rename_i Y I;cases dX;exact RS m e ho Y I G
  .cases dX
 .rename_i ht;split at dX
  .rename_i Y I;cases dX;simp only[qg,qn]at G;split at G
   .rename_i u v e1 e2;obtain rfl:=q9 G;exact jk m e (jn1 e.cu ho hop Y I e1 e2 ht)
   .cases G
  .cases dX
 .rename_i fs ht;split at dX
  .rename_i hg;split at dX
   .rename_i ks x' y' hk Y I;cases dX;exact eqs (by simp[yq,ht]) (by simpa using hg) hk Y I G
   .cases dX
  .cases dX
 .rename_i fs _ ht;split at dX
  .rename_i hg;split at dX
   .rename_i ks x' y' hk Y I;cases dX;exact eqs (by simp[yq,ht]) (by simpa using hg) hk Y I G
   .cases dX
  .cases dX
 .rename_i el ht;split at dX
  .obtain⟨x',M,rfl⟩:=Ep.1 dX;exact Mc m e ho hop M rfl (.inl ⟨rfl,⟨el,ht⟩,rfl⟩) G
  .cases dX
 .rename_i el ht;split at dX
  .obtain⟨x',M,rfl⟩:=Ep.1 dX;exact Mc m e ho hop M rfl (.inr (.inl ⟨rfl,⟨el,ht⟩,rfl⟩)) G
  .cases dX
 .rename_i el _ ht;split at dX
  .obtain⟨x',M,rfl⟩:=Ep.1 dX;exact Mc m e ho hop M rfl (.inr (.inr (.inl ⟨rfl,⟨_,_,ht⟩,rfl⟩))) G
  .cases dX
 .rename_i el _ _ ht;split at dX
  .obtain⟨x',M,rfl⟩:=Ep.1 dX;exact Mc m e ho hop M rfl (.inr (.inr (.inr ⟨rfl,⟨_,_,_,ht⟩,rfl⟩))) G
  .cases dX
 .cases dX
theorem jn3 {op}{t u:TypeId}{x y}(ho:o.op=.binOp op t x y u)(hc:cT P h md r dst (.binOp op t x y u)=Eb cM)(G:qg p xc h0 al env hp cM=Eb res):yg P C C0 w0 a d env o w res:=by
 simp only[cT]at hc;unfold QY at hc;split at hc
 .exact YM (neq:=false) m e ho rfl hc G
 .exact YM (neq:=true) m e ho rfl hc G
 .split at hc
  .rename_i Y I;cases hc;exact RS m e ho Y I G
  .cases hc
end
end
end Go.Abs
