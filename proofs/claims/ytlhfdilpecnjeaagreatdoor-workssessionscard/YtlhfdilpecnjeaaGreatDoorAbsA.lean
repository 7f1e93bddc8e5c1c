/- The abstract machine. -/
import Derived.Deep.AppendSrc
import Derived.Lib.LaidTab
import Derived.Lib.ItoaNum
import Derived.WalkSpells
import Derived.Laws.Cover3
set_option linter.all false
open Option renaming some->En,none->Ga,map_eq_some_iff->Ha,isSome_iff_exists->Jy,isSome_none->L2,map_some->Vz
open Bool renaming false->Gb,true->Gd,false_eq_true->Jb,and_eq_true->Ji,xor->St,not_true->Ean,or_false->Eao
open Nat renaming beq->Hb,eq_of_beq_eq_true->Hq,ble->H2,le_refl->If,blt->I7,le_of_ble_eq_true->Jg,mul_le_mul_right->Jn,succ_mul->Jr,le_trans->Jw,lt_of_lt_of_le->Lq,add_mul->Om,mul_le_mul->Oo,add_zero->Vn,zero_add->Vp,beq_refl->Vs,mul_eq_zero->Xc,add_assoc->Xn,pos_iff_ne_zero->Xo,blt_eq->Eal
open List renaming replicate->Hc,getElem?_eq_some_iff->I5,getElem?_append_left->I6,getElem?_toArray->I9,getElem?_append_right->Ja,getElem?_eq_getElem->Jc,flatMap_cons->Jo,mem_of_getElem?->Js,drop_eq_nil_of_le->Ju,getElem?_set_self->Jv,getElem?_take_of_lt->Jz,append_assoc->J0,replicate_succ->J1,getElem?_map->Ld,getElem?_set_ne->Lg,getElem?_cons_succ->Lm,length_append->Lu,mem_replicate->Lz,nil_append->Od,mem_append->Oe,flatten_cons->Oh,getElem?_eq_none->Oj,map_cons->Ot,length_set->Rn,getElem?_cons_zero->R1,size_toArray->R2,mem_of_mem_take->Tx,getElem?_of_mem->Ty,getElem?_drop->U5,mem_cons->Va,drop_eq_getElem_cons->Vc,ext_getElem?->Ve,all_eq_true->Vh,mem_flatten->Vi,mem_map->Vq,length_eq_one_iff->Vy,length_map->Xl,mem_cons_of_mem->Xm,flatMap_append->Xz,set_cons_zero->Eaa,set_cons_succ->Eab,getElem?_take->Eac,mem_cons_self->Ead,set_set->Eae,take->Eaf,getElem?_set->Eag,cons_append->Eah,length_cons->Eai,length_take->Eaj,foldl_cons->Eak,take_zero->Eam
open Array renaming getElem?_eq_some_iff->I1,getD_eq_getD_getElem?->Jf,getElem?_toList->Jj,ext'->Jm,range->Jx,getElem?_append_left->J2,size_append->Vg
open UInt8 renaming ofNat->Ow
open Ne renaming symm->Vf
namespace Go.Abs
abbrev aj:=List UInt8
abbrev ak(α:Type):=Option (List α)
inductive AVal where
 |bool (b:Bool)
 |int (k:IntKind) (n:Int)
 |str (s:aj)
 |list (isNil:Bool) (sz:Nat) (xs:List AVal)
 |ms (b off len:Nat)
 |ptr (b off:Nat)
 |aq (v:AVal)
 |bQ
 |map (b:Nat)
 |cg
 |fn (f:Fn) (first captured:List AVal)
 |cx
 |agg (cs:List AVal)
 |aI (vs:List AVal)
 |undef
 |any
 |db (n:Nat)
 |az (b bS len:Nat)
 |dW (b bS off:Nat)
 deriving Inhabited
inductive jw where
 |tmp (t:Nat)
 |const (v:AVal)
 deriving Inhabited
inductive Kd where
 |int|str|bool
 deriving DecidableEq,Inhabited
inductive eT where
 |cf|fI (r:Nat)|shr|red
 deriving DecidableEq,Inhabited
inductive cI where
 |move (x:jw)
 |take (s:Nat)
 |pick (c a b:jw)
 |alloc (r:Nat) (zero:List AVal)
 |box (r n:Nat) (x:jw)
 |lF (n:Nat) (x:jw)
 |gY (n:Nat)
 |dv (n s:Nat) (x:jw)
 |gD (r t e:Nat)
 |build (zero:List AVal) (parts:List (Nat×Nat×jw))
 |buildSlice (sz len:Nat) (zero:List AVal) (parts:List (Nat×jw))
 |load (agg:Bool) (n:Nat) (x:jw)
 |fb (agg:Bool) (n:Nat) (x:jw)
 |cz (off:Option Nat) (x:jw)
 |store (n:Nat) (a v:jw)
 |nilCheck (x:jw)
 |bin (op:BinOp) (x y:jw)
 |eqs (ks:List Kd) (neq:Bool) (x y:jw)
 |beq (neq:Bool) (x y:jw)
 |fP (k:Nat) (neq:Bool) (x:jw)
 |un (op:UnOp) (x:jw)
 |conv (k:IntKind) (x:jw)
 |eL (x:jw)
 |gE (x:jw)
 |field (agg:Bool) (off n:Nat) (x:jw)
 |index (agg:Bool) (len n:Nat) (x i:jw)
 |dM (x i:jw)
 |fieldAddr (agg:Bool) (off n:Nat) (x:jw)
 |indexAddr (sz:Nat) (x i:jw)
 |fc (agg:Bool) (len sz:Nat) (x i:jw)
 |slice (sz:Nat) (x:jw) (lo hi:Option jw)
 |dN (x:jw) (lo hi:Option jw)
 |gF (len sz:Nat) (x:jw) (lo hi:Option jw)
 |fe (f:Fn) (first captured:List jw)
 |eU (r:Nat)
 |lookup (kd:Kd) (zero:AVal) (ok:Bool) (m k:jw)
 |mapUpdate (kd:Kd) (m k v:jw)
 |delete (kd:Kd) (m k:jw)
 |cj (r:Option Nat) (sz bytes:Nat) (zero:List AVal) (n c:jw)
 |len (k:Nat) (x:jw)
 |append (r:Option Nat) (sz bytes:Nat) (x y:jw)
 |gZ (r sz bytes:Nat) (x y:jw)
 |gG (r sz len:Nat) (zero:List AVal) (parts:List (Nat×jw))
 |copy (sz:Nat) (x y:jw)
 |mx (args:List jw)
 |mn (args:List jw)
 |extract (x:jw) (i:Nat)
 |call (md:eT) (f:jw) (args:List jw)
 |dF (r:Nat) (x:jw)
 |fQ (it:jw)
 |bad
 deriving Inhabited
structure bX where
 dst:Option Nat
 op:cI
 guard:Option (Nat×Bool)
 al:ak Nat
 deriving Inhabited
inductive bn where
 |skip
 |region (na:Nat) (ops:List bX) (keep:ak Nat)
 |seq (a b:bn)
 |cond (c:jw) (a b:bn)
 |block (id:Nat) (body:bn)
 |loop (body:bn)
 |rangeFunc (f:jw) (params:List Nat) (assign body:bn)
 |exit (id:Nat)
 |ret
 |grow (sz:Nat)
 |stuck
 deriving Inhabited
abbrev Env:=List (Nat×AVal×Bool)
inductive q9 where
 |normal
 |exit (id:Nat)
 |ret
 deriving DecidableEq,Inhabited
structure jrn where
 env:Env
 params:List Nat
 assign:bn
 body:bn
 pending:Option q9
 deriving Inhabited
def zr:bn->Bool
 | .seq a b=>zr a&&zr b| .cond _ a b=>zr a&&zr b| .block _ b=>zr b| .loop b=>zr b| .rangeFunc ..=>Gb|_=>Gd
def fR (e:Env):Env:=e.map fun x=>(x.1,x.2.1,Gb)
inductive aM where
 |hole
 |cells (cs:List (AVal×Bool))
 |map (es:List (AVal×AVal))
 |iter (s:aj) (pos:Nat)
 |loop (l:jrn)
 |gD (t e:Nat) (l:aj)
 |dead
 |vec (sz bS:Nat) (xs:List AVal)
 deriving Inhabited
abbrev qh:=List aM
structure bg where
 env:Env
 heap:qh
 deriving Inhabited
inductive ou where
 |tmp (t:Nat)
 |cell (t:Nat) (agg:Bool) (n:Nat)
 deriving Inhabited
structure jU where
 ntmps:Nat
 body:bn
 results:List ou
 deriving Inhabited
abbrev AO:=Nat->Option (List AVal->Option (AVal×Bool))
abbrev ji5:=Nat->Option (List AVal->qh->Option (AVal×Bool×qh))
abbrev T3:=Nat->Option (List (AVal×AVal))
structure j8 where
 br:Nat->Option jU
 cD:AO
 cH:ji5:=fun _=>Ga
 maps:T3:=fun _=>Ga
def jp (t:Nat):Env->Option (AVal×Bool)
 | []=>Ga|(s,x)::e=>bif Hb s t then En x else jp t e
def qi (e:Env):jw->Option AVal
 | .tmp t=>match jp t e with
  |some x=>En x.1|none=>Ga
 | .const v=>En v
def hH (e:Env):List jw->ak AVal
 | []=>En []
 |x::xs=>match qi e x with
  |some v=>match hH e xs with
   |some vs=>En (v::vs)|none=>Ga
  |none=>Ga
def sM (e:Env):List Nat->Env
 | []=>[]
 |t::ts=>match jp t e with
  |some x=>(t,x)::sM e ts|none=>sM e ts
def sN:IntKind->Int->Bool
 | .i64,.ofNat m=>H2 m 9223372036854775807| .i64,.negSucc m=>H2 m 9223372036854775807| .i32,.ofNat m=>H2 m 2147483647| .i32,.negSucc m=>H2 m 2147483647| .i16,.ofNat m=>H2 m 32767| .i16,.negSucc m=>H2 m 32767| .i8,.ofNat m=>H2 m 127| .i8,.negSucc m=>H2 m 127| .u64,.ofNat m=>H2 m 18446744073709551615| .u32,.ofNat m=>H2 m 4294967295| .u16,.ofNat m=>H2 m 65535| .u8,.ofNat m=>H2 m 255|_,.negSucc _=>Gb
def qd (k:IntKind)(n:Int):Int:=bif sN k n then n else k.wrap n
def AVal.flat:AVal->List AVal
 | .agg cs=>cs|v=>[v]
def AVal.isAgg:AVal->Bool
 | .agg _=>Gd|_=>Gb
def AVal.cT:AVal->Bool
 | .list ..=>Gd|_=>Gb
def nQ:Kd->AVal->AVal->Option Bool
 | .int,.int k a,.int k' b=>bif decide (k=k')then En (a == b)else Ga| .str,.str a,.str b=>En (a == b)| .bool,.bool a,.bool b=>En (a == b)|_,_,_=>Ga
def yx:List Kd->List AVal->List AVal->Option Bool
 | [],[],[]=>En Gd
 |k::ks,x::xs,y::ys=>match nQ k x y with
  |some Gd=>yx ks xs ys|some Gb=>En Gb|none=>Ga
 |_,_,_=>Ga
def part (agg:Bool)(cs:List AVal)(off n:Nat):Option AVal:=
 bif agg then(bif H2 (off+n) cs.length then En (.agg ((cs.drop off).take n))else Ga)else cs[off]?
def bytesLess:aj->aj->Bool
 |_,[]=>Gb| [],_::_=>Gd
 |a::x,b::y=>a<b||(a == b&&bytesLess x y)
def ox (op:BinOp)(k:IntKind)(x y:Int):Option AVal:=
 match op with
 | .add=>En (.int k (qd k (x+y)))| .sub=>En (.int k (qd k (x-y)))| .mul=>En (.int k (qd k (x*y)))| .quo=>bif y == 0 then Ga else En (.int k (qd k (x.tdiv y)))| .rem=>bif y == 0 then Ga else En (.int k (x.tmod y))| .eql=>En (.bool (x == y))| .neq=>En (.bool (x != y))| .lss=>En (.bool (decide (x<y)))| .leq=>En (.bool (decide (x<=y)))| .gtr=>En (.bool (decide (x > y)))| .geq=>En (.bool (decide (x>=y)))| .and=>En (.int k (k.wrap (BitVec.ofInt k.bits x &&& BitVec.ofInt k.bits y).toNat))| .or=>En (.int k (k.wrap (BitVec.ofInt k.bits x ||| BitVec.ofInt k.bits y).toNat))| .xor=>En (.int k (k.wrap (BitVec.ofInt k.bits x ^^^ BitVec.ofInt k.bits y).toNat))| .andNot=>En (.int k (k.wrap (BitVec.ofInt k.bits x &&& ~~~BitVec.ofInt k.bits y).toNat))|_=>Ga
def NH (op:BinOp)(k:IntKind)(x y:Int):Option AVal:=
 bif decide (y<0)then Ga else
 match op with
 | .shl=>En (.int k (qd k (x*2^(min y.toNat k.bits))))| .shr=>En (.int k (x.fdiv (2^(min y.toNat k.bits))))|_=>Ga
def FC (op:BinOp)(x y:aj):Option AVal:=
 match op with
 | .add=>bif H2 (x.length+y.length) 4611686018427387904 then En (.str (x++y))else Ga| .eql=>En (.bool (x == y))| .neq=>En (.bool !(x == y))| .lss=>En (.bool (bytesLess x y))| .leq=>En (.bool (bytesLess x y||x == y))| .gtr=>En (.bool !(bytesLess x y||x == y))| .geq=>En (.bool !(bytesLess x y))|_=>Ga
def yb (op:BinOp):AVal->AVal->Option AVal
 | .int k x,.int k' y=>match op with
  | .shl=>NH .shl k x y| .shr=>NH .shr k x y|op=>bif decide (k=k')then ox op k x y else Ga
 | .str x,.str y=>FC op x y|_,_=>Ga
def yH:UnOp->AVal->Option AVal
 | .neg,.int k n=>En (.int k (qd k (0-n)))| .not,.bool b=>En (.bool !b)|_,_=>Ga
def max2:AVal->AVal->Option AVal
 | .int k x,.int k' y=>bif decide (k=k')then En (.int k (if y > x then y else x))else Ga|_,_=>Ga
def min2:AVal->AVal->Option AVal
 | .int k x,.int k' y=>bif decide (k=k')then En (.int k (if y<x then y else x))else Ga|_,_=>Ga
def pq (f:AVal->AVal->Option AVal):AVal->List AVal->Option AVal
 |x,[]=>En x
 |x,y::ys=>match f x y with
  |some z=>pq f z ys|none=>Ga
def lf:List AVal->List (Nat×List AVal)->ak AVal
 |cs,[]=>En cs|cs,(off,vs)::rest=>bif H2 (off+vs.length) cs.length then lf (cs.take off++vs++cs.drop (off+vs.length)) rest else Ga
def qk:AVal->Bool
 | .agg _=>Gb| .aI _=>Gb| .undef=>Gb| .any=>Gb|_=>Gd
def kp (e:Env):List (Nat×Nat×jw)->Option (List (Nat×List AVal))
 | []=>En []
 |(off,n,x)::ps=>match qi e x with
  |some v=>bif Hb v.flat.length n&&v.flat.all qk then
    (match kp e ps with
     |some r=>En ((off,v.flat)::r)
     |none=>Ga)else Ga
  |none=>Ga
def mA (xs:List AVal):List (Nat×AVal)->ak AVal
 | []=>En xs|(i,v)::ps=>bif I7 i xs.length then mA (xs.set i v) ps else Ga
def yf (e:Env)(sz:Nat):List (Nat×jw)->Option (List (Nat×AVal))
 | []=>En []
 |(i,x)::ps=>match qi e x with
  |some v=>bif Hb v.flat.length sz&&v.flat.all qk then
   (match yf e sz ps with
    |some r=>En ((i,v)::r)
    |none=>Ga)else Ga
  |none=>Ga
def jzo (zero:List AVal)(agg:Bool):Option AVal:=
 bif agg then En (.agg zero)else match zero with
  | [z]=>En z|_=>Ga
def zh (h:qh)(b:Nat):Option aM:=h[b]?
def qv (h:qh)(b:Nat):Option (List (AVal×Bool)):=
 match h[b]? with
 |some (.cells cs)=>En cs|_=>Ga
def zm (cs:List (AVal×Bool))(off n:Nat):ak AVal:=
 bif H2 (off+n) cs.length then En (((cs.drop off).take n).map (·.1))else Ga
def jx (cs:List (AVal×Bool))(off:Nat)(vs:List AVal):Option (List (AVal×Bool)):=
 bif H2 (off+vs.length) cs.length&&vs.all qk then En (cs.take off++vs.map (·,Gb)++cs.drop (off+vs.length))else Ga
mutual
def below (n:Nat):AVal->Bool
 | .ms b _ _=>I7 b n| .ptr b _=>I7 b n| .map b=>I7 b n| .az b _ _=>I7 b n| .dW b _ _=>I7 b n| .aq v=>below n v| .list _ _ xs=>qp n xs| .agg cs=>qp n cs| .aI vs=>qp n vs
 | .fn (.yield b) first captured=>I7 b n&&qp n first&&qp n captured
 | .fn _ first captured=>qp n first&&qp n captured
 |_=>Gd
def qp (n:Nat):List AVal->Bool
 | []=>Gd|x::xs=>below n x&&qp n xs
end
def mT (n:Nat):Env->Bool
 | []=>Gd|(_,v,_)::e=>below n v&&mT n e
def zq (n:Nat):List (AVal×Bool)->Bool
 | []=>Gd|(v,_)::e=>below n v&&zq n e
def ke (n:Nat):List (AVal×AVal)->Bool
 | []=>Gd|(k,v)::e=>below n k&&below n v&&ke n e
def zj (n:Nat):aM->Bool
 | .hole=>Gd| .cells cs=>zq n cs| .map es=>ke n es| .iter _ _=>Gd| .gD ..=>Gd| .dead=>Gd| .vec ..=>Gd| .loop l=>mT n l.env
def qt (n:Nat):qh->Bool
 | []=>Gd|b::h=>zj n b&&qt n h
def gc (n:Nat)(st:bg):bg:=
 bif H2 st.heap.length n then st
 else bif mT n st.env&&qt n (st.heap.take n)then { st with heap:=st.heap.take n }else st
def mC (v:AVal):Bool:=below 0 v
def jbn (agg:Bool)(sz:Nat):Nat->List AVal->ak AVal
 |0,_=>En []
 |n+1,cs=>bif H2 sz cs.length then
   (match jzo (cs.take sz) agg with
    |some v=>(match jbn agg sz n (cs.drop sz)with
     |some r=>En (v::r)
     |none=>Ga)
    |none=>Ga)else Ga
def nR (sz:Nat):Nat->List AVal->List AVal
 |0,_=>[]|n+1,cs=>(bif Hb sz 1 then cs.headD .undef else .agg (cs.take sz))::nR sz n (cs.drop sz)
def NI:AVal->Bool
 | .str _=>Gd| .list ..=>Gd|_=>Gb
def FD (off len:Nat)(cs:List (AVal×Bool)):Bool:=Hb off 0&&I7 1 (cs.length / len)&&Hb (len*(cs.length / len)) cs.length&&cs.any (fun c=>NI c.1)
def ku (h:qh):AVal->Option AVal
 | .ms b off len=>match qv h b with
  |some cs=>bif FD off len cs then En (.list Gb (cs.length / len) (nR (cs.length / len) len (cs.map (·.1))))else(match zm cs off len with
   |some vs=>En (.list Gb 1 vs)
   |none=>Ga)
  |none=>Ga
 | .az b bS len=>match h[b]? with
  |some (.vec sz dO xs)=>bif Hb bS dO&&H2 len xs.length then En (.list Gb sz (xs.take len))else Ga|_=>Ga
 |v=>En v
def mU (h:qh):List AVal->ak AVal
 | []=>En []
 |v::vs=>match ku h v with
  |some x=>(match mU h vs with
   |some xs=>En (x::xs)
   |none=>Ga)
  |none=>Ga
def aX (h:qh):AVal->Option AVal
 | .agg cs=>match mU h cs with
  |some xs=>En (.agg xs)|none=>Ga
 | .aI vs=>match bT h vs with
  |some xs=>En (.aI xs)|none=>Ga
 |v=>ku h v
where
 bT (h:qh):List AVal->ak AVal
  | []=>En []
  | .agg cs::vs=>match mU h cs with
   |some x=>(match bT h vs with
    |some xs=>En (.agg x::xs)
    |none=>Ga)
   |none=>Ga
  |v::vs=>match ku h v with
   |some x=>(match bT h vs with
    |some xs=>En (x::xs)
    |none=>Ga)
   |none=>Ga
def j6 (kd:Kd)(k:AVal):List (AVal×AVal)->Nat->Option (Option (Nat×AVal))
 | [],_=>En Ga
 |(k',v)::es,i=>match nQ kd k k' with
  |some Gd=>En (En (i,v))|some Gb=>j6 kd k es (i+1)|none=>Ga
def qj (s:aj)(i:Nat):Nat×Nat:=Utf8.decode ⟨⟨s⟩⟩ i
structure bA where
 v:AVal
 own:Bool
 strip:Option Nat
 heap:qh
def pu (l:List Nat):Bool:=match l with
 | []=>Gb|k::_=>H2 1000 k
def AP (h0:Nat)(l:List Nat)(b:Nat):Bool:=match l with
 | []=>Gb|k::_=>bif I7 k 2000 then Hb b (k-1000)&&I7 b h0 else bif I7 k 4000 then Hb b (h0+(k-2000))else I7 b h0
def ze (h0:Nat)(al:ak Nat)(b:Nat):Bool:=
 match al with
 |none=>Gd|some l=>bif pu l then AP h0 l b else(I7 b h0||l.contains (b-h0))
def qF (al:ak Nat):Bool:=
 match al with
 |some (k::_)=>H2 4000 k|_=>Gb
def sO (h0:Nat)(al:ak Nat)(b:Nat):Bool:=ze h0 al b&&!(qF al)
def jy (h:qh)(b:Nat)(x:aM):Option qh:=bif I7 b h.length then En (h.set b x)else Ga
def aQ (h0:Nat)(h:qh)(r:Nat)(x:aM):Option qh:=
 match h[h0+r]? with
 |some .hole=>En (h.set (h0+r) x)|_=>Ga
def val (h:qh)(v:AVal):Option bA:=En ⟨v,Gb,Ga,h⟩
def hJ (h:qh):Option AVal->Option bA
 |some v=>En ⟨v,Gb,Ga,h⟩|none=>Ga
def idx (n:Nat):AVal->Option Nat
 | .int _ (.ofNat i)=>bif I7 i n then En i else Ga|_=>Ga
def AQ (n:Nat):AVal->Option Nat
 | .int _ (.ofNat i)=>bif H2 i n then En i else Ga|_=>Ga
def fS (e:Env)(mV n:Nat):Option jw->Option Nat
 |none=>En mV
 |some x=>match qi e x with
  |some v=>AQ n v|none=>Ga
def zu (e:Env):jw->Option Nat
 | .tmp t=>match jp t e with
  |some (_,Gd)=>En t|_=>Ga
 |_=>Ga
def yd (sz:Nat):AVal->ak AVal
 | .list _ sy ys=>bif Hb sz sy||ys.isEmpty then En ys else Ga
 | .str s=>bif Hb sz 1 then En (s.map fun(c:UInt8)=>AVal.int .u8 c.toNat)else Ga|_=>Ga
def vf (n:Bool)(sz:Nat)(xs ys:List AVal):AVal:=bif n&&ys.isEmpty then .list Gd 0 []else .list Gb sz (xs++ys)
def H6:List AVal->Option aj
 | []=>En []
 | .int .u8 n::xs=>(match H6 xs with
  |some s=>En (Ow n.toNat::s)
  |none=>Ga)
 |_::_=>Ga
def qm (e:Env)(h:qh):cI->Option bA
 | .move x=>hJ h (qi e x)
 | .take s=>match jp s e with
  |some (v,o)=>En ⟨v,o,En s,h⟩|none=>Ga
 | .pick c a b=>match qi e c with
  |some (.bool t)=>(match qi e a,qi e b with
    |some x,En y=>val h (bif t then x else y)
    |_,_=>Ga)
  |_=>Ga
 | .lF n x=>match qi e x with
  |some v=>bif Hb v.flat.length n&&v.flat.all qk then val h (.aq v)else Ga|none=>Ga
 | .build zero parts=>match kp e parts with
  |some ps=>match lf zero ps with
   |some cs=>val h (.agg cs)|none=>Ga
  |none=>Ga
 | .buildSlice sz len zero parts=>match yf e sz parts with
  |some ps=>match mA (Hc len (bif Hb sz 1 then zero.headD .undef else .agg zero)) ps with
   |some xs=>En ⟨.list Gb sz xs,Gd,Ga,h⟩|none=>Ga
  |none=>Ga
 | .gY n=>En ⟨.db n,Gd,Ga,h⟩
 | .dv n s x=>match jp s e,qi e x with
  |some (.db m,Gd),En v=>bif Hb m n&&Hb v.flat.length n&&v.flat.all qk then val h (.aq v)else Ga|_,_=>Ga
 | .fb agg n x=>match qi e x with
  |some (.aq v)=>bif St agg v.isAgg||!(Hb v.flat.length n)then Ga else val h v
  |_=>Ga
 | .nilCheck x=>match qi e x with
  |some (.ptr b o)=>val h (.ptr b o)|some (.aq v)=>val h (.aq v)|some (.fn (.func f) a b)=>val h (.fn (.func f) a b)|_=>Ga
 | .bin op x y=>match qi e x,qi e y with
  |some a,En b=>hJ h (yb op a b)|_,_=>Ga
 | .eqs ks neq x y=>match qi e x,qi e y with
  |some (.agg a),En (.agg b)=>bif Hb a.length ks.length&&Hb b.length ks.length then(match yx ks a b with
   |some t=>val h (.bool (bif neq then !t else t))
   |none=>Ga)else Ga
  |_,_=>Ga
 | .beq neq x y=>match qi e x,qi e y with
  |some (.bool a),En (.bool b)=>val h (.bool (bif neq then !(a == b)else a == b))|_,_=>Ga
 | .fP k neq x=>match k,qi e x with
  |0,En (.list n _ _)=>val h (.bool (bif neq then !n else n))|0,En (.ms ..)=>val h (.bool neq)|1,En .bQ=>val h (.bool (!neq))|1,En (.ptr ..)=>val h (.bool neq)|1,En (.aq ..)=>val h (.bool neq)|2,En .cg=>val h (.bool (!neq))|2,En (.map ..)=>val h (.bool neq)|3,En .cx=>val h (.bool (!neq))|3,En (.fn ..)=>val h (.bool neq)|_,_=>Ga
 | .un op x=>match qi e x with
  |some v=>hJ h (yH op v)|none=>Ga
 | .conv k x=>match qi e x with
  |some (.int _ n)=>val h (.int k (qd k n))|_=>Ga
 | .eL x=>match qi e x with
  |some (.str s)=>val h (.str s)|some (.int _ n)=>val h (.str (Utf8.encode n).data.toList)|_=>Ga
 | .gE x=>match qi e x with
  |some (.list _ 1 xs)=>(match H6 xs with
   |some s=>val h (.str s)
   |none=>Ga)
  |_=>Ga
 | .field agg off n x=>match qi e x with
  |some (.agg cs)=>hJ h (part agg cs off n)|_=>Ga
 | .index agg len n x i=>match qi e x,qi e i with
  |some (.agg cs),En j=>(match idx len j with
   |some j=>hJ h (part agg cs (j*n) n)
   |none=>Ga)
  |_,_=>Ga
 | .dM x i=>match qi e x,qi e i with
  |some (.str s),En j=>(match idx s.length j with
   |some j=>(match s[j]? with
    |some c=>val h (.int .u8 c.toNat)
    |none=>Ga)
   |none=>Ga)
  |_,_=>Ga
 | .fieldAddr agg off n x=>match qi e x with
  |some (.ptr b o)=>val h (.ptr b (o+off))
  |some (.aq (.agg cs))=>(match part agg cs off n with
   |some v=>bif St agg v.isAgg then Ga else val h (.aq v)
   |none=>Ga)
  |some (.dW b bS o)=>val h (.dW b bS (o+off))|_=>Ga
 | .indexAddr sz x i=>match qi e x,qi e i with
  |some (.list _ dm xs),En j=>bif Hb sz dm||xs.isEmpty then(match idx xs.length j with
   |some j=>(match xs[j]? with
    |some v=>val h (.aq v)
    |none=>Ga)
   |none=>Ga)else Ga
  |some (.ms b o len),En j=>(match idx len j with
   |some j=>val h (.ptr b (o+j*sz))
   |none=>Ga)
  |some (.az b bS len),En j=>(match idx len j with
   |some j=>val h (.dW b bS (j*sz))
   |none=>Ga)
  |_,_=>Ga
 | .fc agg len sz x i=>match qi e x,qi e i with
  |some (.ptr b o),En j=>(match idx len j with
   |some j=>val h (.ptr b (o+j*sz))
   |none=>Ga)
  |some (.aq (.agg cs)),En j=>(match idx len j with
   |some j=>(match part agg cs (j*sz) sz with
    |some v=>bif St agg v.isAgg then Ga else val h (.aq v)
    |none=>Ga)
   |none=>Ga)
  |_,_=>Ga
 | .slice sz x lo hi=>match qi e x with
  |some (.list n dm xs)=>bif Hb sz dm||xs.isEmpty then(match fS e xs.length xs.length hi with
   |some j=>(match fS e 0 j lo with
    |some i=>val h (.list n dm ((xs.take j).drop i))
    |none=>Ga)
   |none=>Ga)else Ga
  |some (.ms b o len)=>(match fS e len len hi with
   |some j=>(match fS e 0 j lo with
    |some i=>bif Hb i 0||I7 i j then val h (.ms b (o+i*sz) (j-i))else Ga
    |none=>Ga)
   |none=>Ga)
  |some (.az b bS len)=>(match fS e len len hi with
   |some j=>(match fS e 0 j lo with
    |some i=>bif Hb i 0 then val h (.az b bS j)else Ga
    |none=>Ga)
   |none=>Ga)
  |_=>Ga
 | .dN x lo hi=>match qi e x with
  |some (.str s)=>(match fS e s.length s.length hi with
   |some j=>(match fS e 0 j lo with
    |some i=>val h (.str ((s.take j).drop i))
    |none=>Ga)
   |none=>Ga)
  |_=>Ga
 | .gF len sz x lo hi=>match qi e x with
  |some (.ptr b o)=>(match fS e len len hi with
   |some j=>(match fS e 0 j lo with
    |some i=>bif Hb i 0||I7 i j then val h (.ms b (o+i*sz) (j-i))else Ga
    |none=>Ga)
   |none=>Ga)
  |_=>Ga
 | .fe f first captured=>match hH e first,hH e captured with
  |some a,En b=>val h (.fn f a b)|_,_=>Ga
 | .len k x=>match k,qi e x with
  |1,En (.list _ _ xs)=>val h (.int .i64 xs.length)|1,En (.ms _ _ n)=>val h (.int .i64 n)|1,En (.az _ _ n)=>val h (.int .i64 n)|2,En (.list Gd _ _)=>val h (.int .i64 0)|0,En (.str s)=>val h (.int .i64 s.length)|_,_=>Ga
 | .append Ga sz bytes x y=>match qi e x,qi e y with
  |some (.list n dm xs),En vy=>
   bif n||(zu e x).isSome then
    (match yd sz vy with
     |some ys=>
      bif (Hb sz dm||(xs.isEmpty&&n))&&H2 (xs.length+ys.length) 1073741824&&H2 bytes 4096&&I7 0 sz then
       En ⟨vf n sz xs ys,Gd,zu e x,h⟩
      else Ga
     |none=>Ga)
   else Ga
  |_,_=>Ga
 | .cj Ga sz bytes zero n c=>match qi e n,qi e c with
  |some (.int .i64 (.ofNat n)),En (.int .i64 (.ofNat c))=>
   bif Hb n c&&H2 n 1073741824&&H2 bytes 4096&&Hb zero.length sz&&I7 0 sz&&zero.all qk then
    En ⟨.list Gb sz (Hc n (bif Hb sz 1 then zero.headD .undef else .agg zero)),Gd,Ga,h⟩else Ga
  |_,_=>Ga
 | .mx args=>match hH e args with
  |some (v::vs)=>hJ h (pq max2 v vs)|_=>Ga
 | .mn args=>match hH e args with
  |some (v::vs)=>hJ h (pq min2 v vs)|_=>Ga
 | .extract x i=>match qi e x with
  |some (.aI vs)=>hJ h vs[i]?|_=>Ga
 |_=>Ga
def sP (es:List (AVal×AVal))(i:Nat)(v:AVal):List (AVal×AVal):=
 match es,i with
 | [],_=>[]|(k,_)::r,0=>(k,v)::r|x::r,i+1=>x::sP r i v
def yo (h0:Nat)(al:ak Nat)(e:Env)(h:qh):cI->Option bA
 | .load agg n x=>match qi e x with
  |some (.ptr b o)=>bif ze h0 al b then(match qv h b with
   |some cs=>(match zm cs o n with
    |some vs=>bif agg then val h (.agg vs)else(match vs with
     | [v]=>val h v
     |_=>Ga)
    |none=>Ga)
   |none=>Ga)else Ga
  |some (.aq v)=>bif St agg v.isAgg||!(Hb v.flat.length n)then Ga else val h v
  |some (.dW b bS o)=>bif sO h0 al b then(match zh h b with
   |some (.vec _ dO xs)=>bif Hb bS dO&&H2 (o+n) (xs.flatMap AVal.flat).length then(bif agg then val h (.agg (((xs.flatMap AVal.flat).drop o).take n))else(match((xs.flatMap AVal.flat).drop o).take n with
     | [v]=>val h v
     |_=>Ga))else Ga
   |_=>Ga)else Ga
  |_=>Ga
 | .lookup kd zero ok m k=>match qi e m,qi e k with
  |some (.map b),En kv=>bif ze h0 al b then(match zh h b with
   |some (.map es)=>(match j6 kd kv es 0 with
    |some (En (_,v))=>val h (bif ok then .aI [v,.bool Gd]else v)|some Ga=>val h (bif ok then .aI [zero,.bool Gb]else zero)
    |none=>Ga)
   |_=>Ga)else Ga
  |some .cg,En _=>val h (bif ok then .aI [zero,.bool Gb]else zero)|_,_=>Ga
 | .len _ x=>match qi e x with
  |some (.map b)=>bif ze h0 al b then(match zh h b with
   |some (.map es)=>val h (.int .i64 es.length)
   |_=>Ga)else Ga
  |some .cg=>val h (.int .i64 0)|_=>Ga
 |_=>Ga
def jab (es:List (AVal×AVal)):Option (Nat×AVal)->List (AVal×AVal)
 |some (i,_)=>es.eraseIdx i|none=>es
def vg:Option Nat->Nat->Bool
 |none,_=>Gd|some a,o=>Hb a o
def AR (sz len:Nat):AVal->Option (Nat×List AVal)
 | .list _ sy ys=>bif Hb sz sy||ys.isEmpty then En (min ys.length len,(ys.take len).flatMap AVal.flat)else Ga
 |_=>Ga
def cellsOf (vs:List AVal):List (AVal×Bool):=vs.map (·,Gb)
def qo (h0:Nat)(al:ak Nat)(e:Env)(h:qh):cI->Option bA
 | .alloc r zero=>bif zero.all qk then(match aQ h0 h r (.cells (cellsOf zero))with
  |some h'=>val h' (.ptr (h0+r) 0)
  |none=>Ga)else Ga
 | .box r n x=>match qi e x with
  |some v=>bif Hb v.flat.length n&&v.flat.all qk then(match aQ h0 h r (.cells (cellsOf v.flat))with
   |some h'=>val h' (.ptr (h0+r) 0)
   |none=>Ga)else Ga
  |none=>Ga
 | .cz off x=>match qi e x with
  |some (.ptr b o)=>bif ze h0 al b&&vg off o then(match qv h b with
   |some cs=>(match cs[o]? with
    |some (v,w)=>(match jy h b (.cells (cs.set o (v,Gb)))with
     |some h'=>En ⟨v,w,Ga,h'⟩
     |none=>Ga)
    |none=>Ga)
   |none=>Ga)else Ga
  |_=>Ga
 | .store n a x=>match qi e a,qi e x with
  |some (.ptr b o),En v=>bif ze h0 al b then(match qv h b with
   |some cs=>(match zu e x with
    |some t=>bif Hb n 1&&v.cT&&I7 o cs.length then(match jy h b (.cells (cs.set o (v,Gd)))with
      |some h'=>En ⟨.undef,Gb,En t,h'⟩
      |none=>Ga)else Ga
    |none=>bif Hb v.flat.length n then(match jx cs o v.flat with
     |some eK=>(match jy h b (.cells eK)with
      |some h'=>val h' .undef
      |none=>Ga)
     |none=>Ga)else Ga)
   |none=>Ga)else Ga
  |_,_=>Ga
 | .gD r t e=>match aQ h0 h r (.gD t e [])with
  |some h'=>val h' (.ptr (h0+r) 0)|none=>Ga
 | .eU r=>match aQ h0 h r (.map [])with
  |some h'=>val h' (.map (h0+r))|none=>Ga
 | .mapUpdate kd m k x=>match qi e m,qi e k,qi e x with
  |some (.map b),En kv,En v=>bif ze h0 al b then(match zh h b with
   |some (.map es)=>(match j6 kd kv es 0 with
    |some (En (i,_))=>(match jy h b (.map (sP es i v))with
     |some h'=>val h' .undef
     |none=>Ga)
    |some Ga=>bif H2 es.length 1073741824 then(match jy h b (.map (es++[(kv,v)]))with
     |some h'=>val h' .undef
     |none=>Ga)else Ga
    |none=>Ga)
   |_=>Ga)else Ga
  |_,_,_=>Ga
 | .delete kd m k=>match qi e m,qi e k with
  |some (.map b),En kv=>bif ze h0 al b then(match zh h b with
   |some (.map es)=>(match j6 kd kv es 0 with
    |some r=>(match jy h b (.map (jab es r))with
     |some h'=>val h' (.aI [])
     |none=>Ga)
    |none=>Ga)
   |_=>Ga)else Ga
  |_,_=>Ga
 | .cj (En r) sz bytes zero n c=>match qi e n,qi e c with
  |some (.int .i64 (.ofNat n)),En (.int .i64 (.ofNat c))=>
   bif Hb n c&&H2 n 1073741824&&H2 bytes 4096&&Hb zero.length sz&&I7 0 sz&&zero.all qk then
    (match aQ h0 h r (.cells (cellsOf (Hc n zero).flatten))with
     |some h'=>val h' (.ms (h0+r) 0 n)
     |none=>Ga)else Ga
  |_,_=>Ga
 | .append (En r) sz bytes x y=>match qi e x,qi e y with
  |some (.list Gb dm []),En vy=>
   bif (zu e x).isSome&&Hb sz dm then
    (match yd sz vy with
     |some ys=>
      bif H2 ys.length 1073741824&&H2 bytes 4096&&I7 0 sz then
       (match aQ h0 h r (.cells (cellsOf (ys.flatMap AVal.flat)))with
        |some h'=>En ⟨.ms (h0+r) 0 ys.length,Gb,zu e x,h'⟩
        |none=>Ga)
      else Ga
     |none=>Ga)
   else Ga
  |_,_=>Ga
 | .gZ r sz bytes x y=>match qi e x,qi e y with
  |some (.list Gd _ []),En vy=>(match yd sz vy with
    |some ys=>
     bif H2 ys.length 1073741824&&H2 bytes 4096&&I7 0 sz&&!ys.isEmpty&&qp 0 ys&&I7 r 1000 then
      (match aQ h0 h r (.vec sz 0 ys)with
       |some h'=>val h' (.az (h0+r) 0 ys.length)
       |none=>Ga)else Ga
    |none=>Ga)
  |some (.az b bS len),En vy=>(match zh h b with
   |some (.vec dm dO xs)=>(match yd sz vy with
    |some ys=>
     bif Hb bS dO&&Hb sz dm&&H2 len xs.length&&H2 (len+ys.length) 1073741824&&H2 bytes 4096&&I7 0 sz&&qp 0 ys&&I7 r 1000 then
      (match jy h b (.vec sz (bS+1) (xs.take len++ys))with
       |some h'=>val h' (.az b (bS+1) (len+ys.length))
       |none=>Ga)else Ga
    |none=>Ga)
   |_=>Ga)
  |_,_=>Ga
 | .gG r sz len zero parts=>match yf e sz parts with
  |some ps=>match mA (Hc len (bif Hb sz 1 then zero.headD .undef else .agg zero)) ps with
   |some xs=>bif qp 0 xs then(match aQ h0 h r (.vec sz 0 xs)with
    |some h'=>val h' (.az (h0+r) 0 xs.length)
    |none=>Ga)else Ga
   |none=>Ga
  |none=>Ga
 | .copy sz x y=>match qi e x,qi e y with
  |some (.ms b o len),En vy=>bif ze h0 al b then(match qv h b with
   |some cs=>(match AR sz len vy with
    |some (n,vs)=>(match jx cs o vs with
     |some eK=>bif Hb vs.length (n*sz)then(match jy h b (.cells eK)with
      |some h'=>val h' (.int .i64 n)
      |none=>Ga)else Ga
     |none=>Ga)
    |none=>Ga)
   |none=>Ga)else Ga
  |_,_=>Ga
 | .dF r x=>match qi e x with
  |some (.str s)=>(match aQ h0 h r (.iter s 0)with
   |some h'=>val h' (.ptr (h0+r) 0)
   |none=>Ga)
  |_=>Ga
 | .fQ it=>match qi e it with
  |some (.ptr b 0)=>bif ze h0 al b then(match zh h b with
   |some (.iter s pos)=>bif I7 pos s.length then
     (match jy h b (.iter s (pos+(qj s pos).2))with
      |some h'=>val h' (.aI [.bool Gd,.int .i64 pos,.int .i32 (qj s pos).1])
      |none=>Ga)else val h (.aI [.bool Gb])
   |_=>Ga)else Ga
  |_=>Ga
 |_=>Ga
def qG:Nat->List AVal->Env
 |_,[]=>[]|i,v::vs=>(i,v,Gb)::qG (i+1) vs
def vh (st:bg):ou->Option (AVal×Bool)
 | .tmp t=>jp t st.env
 | .cell t agg n=>match jp t st.env with
  |some (.ptr b o,_)=>(match qv st.heap b with
   |some cs=>(match zm cs o n with
    |some vs=>bif agg then En (.agg vs,Gb)else(match cs[o]? with
     |some x=>En x
     |none=>Ga)
    |none=>Ga)
   |none=>Ga)
  |_=>Ga
def ko (st:bg):List ou->Option (List (AVal×Bool))
 | []=>En []
 |r::rs=>match vh st r with
  |some x=>(match ko st rs with
   |some xs=>En (x::xs)
   |none=>Ga)
  |none=>Ga
def zd:List (AVal×Bool)->AVal×Bool
 | [x]=>x|xs=>(.aI (xs.map (·.1)),Gb)
abbrev XC:=bn->bg->Option (q9×bg)
def mE (st:bg):List ou->qh
 | [.cell t Gb _]=>match jp t st.env with
  |some (.ptr b o,_)=>(match qv st.heap b with
   |some cs=>(match cs[o]? with
    |some (v,Gd)=>st.heap.set b (.cells (cs.set o (v,Gb)))
    |_=>st.heap)
   |none=>st.heap)
  |_=>st.heap
 |_=>st.heap
def rQ (xc:XC)(f:jU)(args:List AVal)(h:qh):Option (AVal×Bool×qh):=
 bif H2 args.length f.ntmps then
  match xc f.body ⟨qG 0 args,h⟩with
  |some (.normal,st)=>(match ko st f.results with
   |some xs=>En ((zd xs).1,(zd xs).2,mE st f.results)
   |none=>Ga)
  |some (.ret,st)=>(match ko st f.results with
   |some xs=>En ((zd xs).1,(zd xs).2,mE st f.results)
   |none=>Ga)
  |_=>Ga
 else Ga
def ai (p:j8)(xc:XC)(k:Nat)(args:List AVal)(h:qh):Option (AVal×Bool×qh):=
 match p.br k with
 |some f=>rQ xc f args h
 |none=>match p.cH k with
  |some f=>f args h|none=>Ga
def ae (p:j8)(xc:XC)(k:Nat)(args:List AVal):Option (AVal×Bool):=
 match p.cD k with
 |some f=>(match f args with
  |some (v,o)=>bif mC v then En (v,o)else Ga
  |none=>Ga)
 |none=>match ai p xc k args []with
  |some (v,o,h)=>(match aX h v with
   |some v'=>bif mC v' then En (v',o&&v.cT)else Ga
   |none=>Ga)
  |none=>Ga
def qz (n:Nat)(v:AVal)(h:qh):qh:=
 bif H2 h.length n then h else bif below n v&&qt n (h.take n)then h.take n else h
def wQ (e:Env):List Nat->List AVal->Option Env
 | [],[]=>En e|t::ts,v::vs=>wQ ((t,v,Gb)::e) ts vs|_,_=>Ga
def lG (xc:XC)(b:Nat)(args:List AVal)(h:qh):Option (AVal×qh):=
 match zh h b with
 |some (.loop l)=>match l.pending,wQ (fR l.env) l.params args with
  |none,En e=>(match xc l.assign ⟨e,h⟩with
   |some (.normal,st)=>(match zh st.heap b with
    |some (.loop l1)=>bif l1.pending.isNone then(match xc l.body { st with heap:=st.heap.set b (.loop { l1 with pending:=En .normal }) }with
     |some (x,bH)=>(match zh bH.heap b with
      |some (.loop l2)=>En (.bool (match x with | .normal=>Gd|_=>Gb),qz h.length (.bool Gd) (bH.heap.set b (.loop { l2 with pending:=match x with | .normal=>Ga|x=>En x })))
      |_=>Ga)
     |none=>Ga)else Ga
    |_=>Ga)
   |_=>Ga)
  |_,_=>Ga
 |_=>Ga
def pv:AVal->Bool
 | .bool _=>Gd| .int _ _=>Gd| .str _=>Gd|_=>Gb
def T4 (h:qh):AVal->Option AVal
 | .ms b 0 len=>(match qv h b with
  |some cs=>bif Hb (len*(cs.length / len)) cs.length&&I7 0 (cs.length / len)&&cs.all (fun c=>pv c.1)then En (.list Gb (cs.length / len) (nR (cs.length / len) len (cs.map (·.1))))else(bif Hb len 0 then En (.list Gb 8 [])else Ga)
  |none=>Ga)
 |v=>En v
def yI (h:qh):List AVal->ak AVal
 | []=>En []
 |v::vs=>match T4 h v,yI h vs with
  |some x,En xs=>En (x::xs)|_,_=>Ga
def yJ:AVal->Bool
 | .agg cs=>cs.all pv|v=>pv v
def FE (v:AVal):AVal:=bif yJ v then v else .any
def NJ:AVal->Bool->Option (AVal×Bool)
 | .list Gb sz xs,Gd=>bif (xs.flatMap AVal.flat).all pv then En (.list Gb sz xs,Gd)else Ga| .list Gd sz [],_=>En (.list Gd sz [],Gb)| .aI vs,_=>En (.aI (vs.map FE),Gb)|v,_=>bif yJ v then En (v,Gb)else Ga
def sQ (h0:Nat)(h:qh)(r:Nat):AVal->Bool->Option bA
 | .list Gd sz [],_=>(match aQ h0 h r .dead with
  |some h'=>val h' (.list Gd sz [])
  |none=>Ga)
 | .list Gb sz xs,Gd=>bif (xs.flatMap AVal.flat).all pv then(match aQ h0 h r (.cells (cellsOf (xs.flatMap AVal.flat)))with
  |some h'=>val h' (.ms (h0+r) 0 xs.length)
  |none=>Ga)else Ga
 |_,_=>Ga
def yh (p:j8)(xc:XC)(h0:Nat)(e:Env)(h:qh)(md:eT)(f:jw)(args:List jw):Option bA:=
 match qi e f,hH e args with
 |some (.fn (.func k) first captured),En vs=>
  (match md with
   | .cf=>bif qp 0 (first++vs++captured)then(match ae p xc k (first++vs++captured)with
     |some (v,o)=>En ⟨v,o,Ga,h⟩
     |none=>Ga)else Ga
   | .fI r=>bif (first++vs++captured).isEmpty then(match p.maps k with
     |some es=>(match aQ h0 h r (.map es)with
      |some h'=>val h' (.map (h0+r))
      |none=>Ga)
     |none=>Ga)else bif qp 0 (first++vs++captured)then(match ae p xc k (first++vs++captured)with
     |some (v,o)=>sQ h0 h r v o
     |none=>Ga)else Ga
   | .red=>(match yI h (first++vs++captured)with
    |some us=>bif qp 0 us then(match ae p xc k us with
     |some (v,o)=>(match NJ v o with
      |some (v',o')=>En ⟨v',o',Ga,h⟩
      |none=>Ga)
     |none=>Ga)else Ga
    |none=>Ga)
   | .shr=>(match ai p xc k (first++vs++captured) h with
    |some (v,o,h')=>En ⟨v,o,Ga,qz h.length v h'⟩
    |none=>Ga))
 |some (.fn (.yield b) [] []),En vs=>
  (match md with
   | .shr=>(match lG xc b vs h with
    |some (v,h')=>val h' v
    |none=>Ga)
   |_=>Ga)
 |_,_=>Ga
def qf (p:j8)(xc:XC)(h0:Nat)(al:ak Nat)(e:Env)(h:qh)(op:cI):Option bA:=
 match op with
 | .call md f args=>yh p xc h0 e h md f args| .load agg n x=>yo h0 al e h (.load agg n x)| .lookup kd z ok m k=>yo h0 al e h (.lookup kd z ok m k)| .alloc r z=>qo h0 al e h (.alloc r z)| .box r n x=>qo h0 al e h (.box r n x)| .cz off x=>qo h0 al e h (.cz off x)| .store n a x=>qo h0 al e h (.store n a x)| .gD r t e'=>qo h0 al e h (.gD r t e')| .eU r=>qo h0 al e h (.eU r)| .mapUpdate kd m k x=>qo h0 al e h (.mapUpdate kd m k x)| .delete kd m k=>qo h0 al e h (.delete kd m k)| .cj (En r) sz b z n c=>qo h0 al e h (.cj (En r) sz b z n c)| .append (En r) sz b x y=>qo h0 al e h (.append (En r) sz b x y)| .gZ r sz b x y=>qo h0 al e h (.gZ r sz b x y)| .gG r sz n z ps=>qo h0 al e h (.gG r sz n z ps)| .copy sz x y=>qo h0 al e h (.copy sz x y)| .dF r x=>qo h0 al e h (.dF r x)| .fQ it=>qo h0 al e h (.fQ it)|op=>qm e h op
def ye (e:Env):Option Nat->Env
 |none=>e
 |some s=>match jp s e with
  |some (v,_)=>(s,v,Gb)::e|none=>e
def pw (e:Env)(d:Option Nat)(v:AVal)(o:Bool):Env:=
 match d with
 |some d=>(d,v,o)::e|none=>e
def oy (e:Env):Option (Nat×Bool)->Option Bool
 |none=>En Gd
 |some (s,want)=>match jp s e with
  |some (.bool b,_)=>En (b == want)|some (.undef,_)=>En Gb|_=>Ga
def yi (p:j8)(xc:XC)(h0:Nat)(o:bX)(st:bg):Option bg:=
 match oy st.env o.guard with
 |some Gd=>(match qf p xc h0 o.al st.env st.heap o.op with
  |some r=>En ⟨pw (ye st.env r.strip) o.dst r.v r.own,r.heap⟩
  |none=>Ga)
 |some Gb=>En ⟨pw st.env o.dst .undef Gb,st.heap⟩|none=>Ga
def fT (p:j8)(xc:XC)(h0:Nat):List bX->bg->Option bg
 | [],st=>En st
 |o::os,st=>match yi p xc h0 o st with
  |some bH=>fT p xc h0 os bH|none=>Ga
def AU (st:bg):ak Nat->bg
 |none=>st|some l=>{ st with env:=sM st.env l }
def mF (p:j8)(xc:XC)(na:Nat)(ops:List bX)(keep:ak Nat)(st:bg):Option (q9×bg):=
 match fT p xc st.heap.length ops { st with heap:=st.heap++Hc na .hole }with
 |some bH=>En (.normal,AU bH keep)|none=>Ga
def mG (p:j8)(xc:XC)(f:jw)(params:List Nat)(assign body:bn)(st:bg):Option (q9×bg):=
 bif zr assign&&zr body then
  match qi st.env f with
  |some (.fn (.func k) first captured)=>
   (match ai p xc k (first++[.fn (.yield st.heap.length) [] []]++captured) (st.heap++[.loop ⟨st.env,params,assign,body,Ga⟩])with
    |some (_,_,h')=>(match zh h' st.heap.length with
     |some (.loop l)=>bif qt st.heap.length (h'.take st.heap.length)then
       (match l.pending with
       |none=>En (.normal,{ st with heap:=h'.take st.heap.length })|some .normal=>Ga
       |some x=>En (x,{ st with heap:=h'.take st.heap.length }))else Ga
     |_=>Ga)
    |none=>Ga)
  |_=>Ga
 else Ga
def aF (p:j8):Nat->XC
 |0,_,_=>Ga
 |n+1,c,st=>match c with
  | .skip=>En (.normal,st)| .region na ops keep=>mF p (aF p n) na ops keep st
  | .seq a b=>match aF p n a st with
   |some (.normal,bH)=>aF p n b bH|r=>r
  | .cond c a b=>match qi st.env c with
   |some (.bool t)=>bif t then aF p n a st else aF p n b st|_=>Ga
  | .block id body=>match aF p n body st with
   |some (.exit fU,bH)=>bif Hb fU id then En (.normal,bH)else En (.exit fU,bH)|r=>r
  | .loop body=>match aF p n body st with
   |some (.normal,bH)=>aF p n (.loop body) (gc st.heap.length bH)|r=>r
  | .rangeFunc f params assign body=>mG p (aF p n) f params assign body st| .exit id=>En (.exit id,st)| .ret=>En (.ret,st)
  | .grow sz=>match jp 0 st.env,jp 1 st.env with
   |some (.list Gd _ _,_),En (.int .i64 (.ofNat m),_)=>bif I7 0 m&&H2 m 1073741824 then En (.normal,{ st with env:=[(0,.list Gb sz [],Gd)] })else Ga|_,_=>Ga
  | .stuck=>Ga
structure js where
 takes:List Nat:=[]
 gH:List Nat:=[]
 wR:List (Nat×Nat):=[]
 shr:List (Nat×Nat):=[]
 fI:List (Nat×Nat):=[]
 red:List (Nat×Nat):=[]
 keep:List (Nat×List Nat):=[]
 vl:List Nat:=[]
 vec:List Nat:=[]
 ex:List ((Nat×Nat)×Nat):=[]
 deriving Inhabited
def FF:Value->Option AVal
 | .bool b=>En (.bool b)| .int k n=>En (.int k n)| .string s=>En (.str s.data.toList)| .slice Ga 0 0=>En (.list Gd 0 [])| .pointer Ga=>En .bQ| .map Ga=>En .cg| .nilFunc=>En .cx|_=>Ga
def wS:List Value->ak AVal
 | []=>En []
 |v::vs=>match FF v with
  |some x=>match wS vs with
   |some xs=>En (x::xs)|none=>Ga
  |none=>Ga
def ofValue:Value->Option AVal
 | .agg cs=>match wS cs.toList with
  |some xs=>En (.agg xs)|none=>Ga
 |v=>FF v
def qr:Operand->Option jw
 | .tmp t=>En (.tmp t)
 | .const v=>match ofValue v with
  |some x=>En (.const x)|none=>Ga
 | .func f=>En (.const (.fn (.func f) [] []))| .global _=>Ga
def rR:List Operand->ak jw
 | []=>En []
 |x::xs=>match qr x with
  |some y=>match rR xs with
   |some ys=>En (y::ys)|none=>Ga
  |none=>Ga
def oz:Option Operand->Option (Option jw)
 |none=>En Ga
 |some x=>match qr x with
  |some y=>En (En y)|none=>Ga
def yu (P:Program)(t:TypeId):Option Bool:=
 match P.underlying t with
 |some (.struct _)=>En Gd|some (.array _ _)=>En Gd|some _=>En Gb|none=>Ga
def jt (P:Program)(t:TypeId):Option Nat:=(P.info? t).map (·.size)
def px (P:Program)(t:TypeId):Option Nat:=(P.info? t).map (·.bytes)
def yw (P:Program)(t:TypeId):ak AVal:=
 match P.info? t with
 |some i=>match i.zero with
  |some z=>wS z.cells.toList|none=>Ga
 |none=>Ga
def T5 (P:Program)(t:TypeId):Option TypeId:=
 match P.underlying t with
 |some (.struct fs)=>match fs.toList with
  | [f0,f1]=>match P.underlying f0.type,P.underlying f1.type with
   |some (.pointer t'),En (.slice e)=>match P.underlying e,yw P t with
    |some (.int .u8),En [.bQ,.list Gd _ []]=>if t' == t then En e else Ga
    |_,_=>Ga
   |_,_=>Ga
  |_=>Ga
 |_=>Ga
def T6 (P:Program)(t:TypeId):Option AVal:=
 match P.info? t with
 |some i=>match i.zero with
  |some z=>ofValue z|none=>Ga
 |none=>Ga
def H7 (g:TypeId->ak Kd):Nat->List Field->ak Kd
 |_,[]=>En []
 | off, f :: fs => if f.name != "_" && f.offset == off then (match g f.type with
   |some ks=>(match H7 g (off+ks.length) fs with
    |some r=>En (ks++r)
    |none=>Ga)
   |none=>Ga)else Ga
def sR (P:Program):Nat->TypeId->ak Kd
 |0,_=>Ga
 |n+1,t=>match P.underlying t with
  |some (.int _)=>if jt P t == En 1 then En [.int]else Ga
  |some .string=>if jt P t == En 1 then En [.str]else Ga
  |some .bool=>if jt P t == En 1 then En [.bool]else Ga
  |some (.struct fs)=>(match H7 (sR P n) 0 fs.toList with
   |some ks=>if !P.stoodInHeld t&&jt P t == En ks.length then En ks else Ga
   |none=>Ga)
  |some (.array len e)=>(match sR P n e with
   |some ks=>if jt P t == En (len*ks.length)then En (Hc len ks).flatten else Ga
   |none=>Ga)
  |_=>Ga
def NK:Nat:=12
def lH (P:Program)(t:TypeId):Option Kd:=
 match P.underlying t with
 |some (.int _)=>En .int|some .string=>En .str|some .bool=>En .bool|_=>Ga
def FG (P:Program)(op:BinOp)(neq:Bool)(t:TypeId)(x y:Operand):Option cI:=
 match P.underlying t with
 |some (.int _)|some .string=>match qr x,qr y with
  |some a,En b=>En (.bin op a b)|_,_=>Ga
 |some .bool=>match qr x,qr y with
  |some a,En b=>En (.beq neq a b)|_,_=>Ga
 |some (.struct _)|some (.array _ _)=>
  if !P.eqGuardType P.depth t then match sR P NK t,qr x,qr y with
   |some ks,En a,En b=>En (.eqs ks neq a b)|_,_,_=>Ga
  else Ga
 |some (.slice _)=>match y with
  | .const (.slice Ga 0 0)=>(qr x).map (.fP 0 neq)|_=>Ga
 |some (.pointer _)=>match y with
  | .const (.pointer Ga)=>(qr x).map (.fP 1 neq)|_=>Ga
 |some (.map _ _)=>match y with
  | .const (.map Ga)=>(qr x).map (.fP 2 neq)|_=>Ga
 |some (.func _ _ _)=>match y with
  | .const .nilFunc=>(qr x).map (.fP 3 neq)|_=>Ga
 |_=>Ga
def T7 (P:Program)(op:BinOp)(t:TypeId)(x y:Operand):Option cI:=
 match op with
 | .eql=>FG P .eql Gb t x y| .neq=>FG P .neq Gd t x y
 |op=>match qr x,qr y with
  |some a,En b=>En (.bin op a b)|_,_=>Ga
def yK (P:Program)(place:Nat->Option (Nat×Nat)):List (Nat×Operand)->Option (List (Nat×Nat×jw))
 | []=>En []
 |(i,x)::ps=>match place i,qr x,yK P place ps with
  |some (off,n),En y,En r=>En ((off,n,y)::r)|_,_,_=>Ga
def yL:List (Nat×Operand)->Option (List (Nat×jw))
 | []=>En []
 |(i,x)::ps=>match qr x,yL ps with
  |some y,En r=>En ((i,y)::r)|_,_=>Ga
def jcq (h:js)(dst:Option Nat)(x:Operand):Option Nat:=
 match x,dst with
 | .tmp s,En d=>if h.takes.contains d then En s else Ga
 |_,_=>Ga
def AV:TypeDesc->Bool
 | .slice _=>Gd| .string=>Gd|_=>Gb
def eT.at (r:Nat):eT->eT
 | .fI _=>.fI r|m=>m
def AW (P:Program)(h:js)(md:eT)(r:Nat)(dst:Option Nat)(c:Call):Option cI:=
 match c.callee with
 | .value f=>match qr f,rR c.args.toList with
  |some f,En args=>En (.call (md.at r) f args)|_,_=>Ga
 | .builtin .len=>match c.args.toList,c.argTypes.toList with
  | [x],[t]=>match P.underlying t with
   |some .string=>(qr x).map (.len 0)|some (.slice _)=>(qr x).map (.len 1)|_=>Ga
  |_,_=>Ga
 | .builtin .cap=>match c.args.toList,c.argTypes.toList with
  | [x],[t]=>match P.underlying t with
   |some (.slice _)=>(qr x).map (.len 2)|_=>Ga
  |_,_=>Ga
 | .builtin .append=>match c.args.toList,c.argTypes.toList with
  | [x,y],[t,u]=>match P.underlying t,P.underlying u with
   |some (.slice e),En ut=>if AV ut&&(yw P e).map (·.length) == jt P e then match jt P e,px P e,qr x,qr y with
     |some sz,En b,En x,En y=>En (if(dst.map (h.vec.contains ·)).getD Gb then .gZ r sz b x y else .append (if(dst.map (h.gH.contains ·)).getD Gb then En r else Ga) sz b x y)|_,_,_,_=>Ga
    else Ga
   |_,_=>Ga
  |_,_=>Ga
 | .builtin .copy=>match c.args.toList,c.argTypes.toList with
  | [x,y],t::_=>match P.underlying t with
   |some (.slice e)=>match jt P e,qr x,qr y with
    |some sz,En x,En y=>En (.copy sz x y)|_,_,_=>Ga
   |_=>Ga
  |_,_=>Ga
 | .builtin .delete=>match c.args.toList,c.argTypes.toList with
  | [m,k],t::_=>match P.underlying t with
   |some (.map kt _)=>match lH P kt,qr m,qr k with
    |some kd,En m,En k=>En (.delete kd m k)|_,_,_=>Ga
   |_=>Ga
  |_,_=>Ga
 | .builtin .max=>(rR c.args.toList).map .mx| .builtin .min=>(rR c.args.toList).map .mn|_=>Ga
def H8 : List (String × List Int) := [("woofer/network.none", [0, 0]), ("woofer/network.one", [1, 0]), ("woofer/network.turns", [1, 0, 0, 1, -1, 0, 0, -1])]
def H9 (P:Program)(g:Nat):List (String×List Int)->ak Int
 | []=>Ga
 |(n,cs)::l=>if P.globalNamed n == En g then En cs else H9 P g l
def NL (P:Program)(t:TypeId)(g:Nat):Option cI:=match H9 P g H8,yu P t,jt P t with
 |some cs,En Gd,En n=>if cs.length == n then En (.move (.const (.agg (cs.map (AVal.int .i64)))))else Ga
 |_,_,_=>Ga
def NM (h:js):jw->Option Nat
 | .tmp s=>if h.vl.contains s then En s else Ga
 |_=>Ga
def cW (P:Program)(h:js)(md:eT)(r:Nat)(dst:Option Nat):Op->Option cI
 | .move x=>match jcq h dst x with
  |some s=>En (.take s)|none=>(qr x).map .move
 | .assign (.tmp s)=>En (.take s)| .assign x=>(qr x).map .move
 | .pick c a b=>match qr c,qr a,qr b with
  |some c,En a,En b=>En (.pick c a b)|_,_,_=>Ga
 | .alloc t=>match T5 P t with
  |some e=>En (.gD r t e)
  |none=>bif (dst.map (h.vl.contains ·)).getD Gb then(match yw P t with
   |some z=>bif z.all qk then En (.gY z.length)else Ga
   |none=>Ga)else(yw P t).map (.alloc r)
 | .box t x=>match jt P t,qr x with
  |some n,En x=>En (bif (dst.map (h.vl.contains ·)).getD Gb then .lF n x else .box r n x)|_,_=>Ga
 | .build t ps=>match P.underlying t,yw P t with
  |some (.struct fs),En z=>if fs.toList.all (fun f=>(jt P f.type).isSome)then(yK P (fun i=>match fs[i]? with
    |some f=>(jt P f.type).map fun n=>(f.offset,n)
    |none=>Ga) ps.toList).map (.build z)else Ga
  |some (.array _ e),En z=>match jt P e with
   |some n=>(yK P (fun i=>En (i*n,n)) ps.toList).map (.build z)|none=>Ga
  |_,_=>Ga
 | .buildSlice t n ps=>match P.underlying t with
  |some (.slice e)=>match jt P e,yw P e,yu P e,yL ps.toList with
   |some sz,En z,En ag,En es=>if sz*n<=65536&&0<sz&&z.length == sz&&(ag||sz == 1)&&(!ag||sz != 1)then En (if(dst.map (h.vec.contains ·)).getD Gb then .gG r sz n z es else .buildSlice sz n z es)else Ga
   |_,_,_,_=>Ga
  |_=>Ga
 | .load t (.global g)=>NL P t g
 | .load t x=>match yu P t,jt P t,qr x with
  |some Gb,En 1,En x=>if(dst.map (h.takes.contains ·)).getD Gb then En (.cz ((dst.bind fun d=>h.wR.find? fun y=>y.1 == d).map (·.2)) x)else En (bif (dst.map (h.vl.contains ·)).getD Gb then .fb Gb 1 x else .load Gb 1 x)
  |some Gd,En n,En x=>En (bif (dst.map (h.vl.contains ·)).getD Gb then .fb Gd n x else .load Gd n x)|_,_,_=>Ga
 | .store t a v=>match jt P t,qr a,qr v with
  |some n,En a,En v=>En (match NM h a with
   |some s=>.dv n s v
   |none=>.store n a v)
  |_,_,_=>Ga
 | .nilCheck x=>(qr x).map .nilCheck| .binOp op t x y _=>T7 P op t x y| .unOp op _ x=>(qr x).map (.un op)
 | .convert s d x=>match P.underlying s,P.underlying d with
  |some (.int _),En (.int k)=>(qr x).map (.conv k)|some .string,En .string=>(qr x).map .eL|some (.int _),En .string=>(qr x).map .eL
  |some (.slice e),En .string=>(match P.underlying e with
   |some (.int .u8)=>(qr x).map .gE
   |_=>Ga)
  |_,_=>Ga
 | .makeFunc f a b=>match f with
  | .func k=>match rR a.toList,rR b.toList with
   |some a,En b=>En (.fe (.func k) a b)|_,_=>Ga
  |_=>Ga
 | .makeMap t Ga=>match P.underlying t with
  |some (.map _ _)=>En (.eU r)|_=>Ga
 | .makeSlice t n c=>match P.underlying t with
  |some (.slice e)=>match jt P e,px P e,yw P e,yu P e,qr n,qr c with
   |some sz,En b,En z,En ag,En n,En c=>
    if(ag||sz == 1)&&(!ag||sz != 1)then En (.cj (if(dst.map (h.gH.contains ·)).getD Gb then En r else Ga) sz b z n c)else Ga
   |_,_,_,_,_,_=>Ga
  |_=>Ga
 | .slice t x lo hi Ga=>match qr x,oz lo,oz hi with
  |some x,En lo,En hi=>match P.underlying t with
   |some .string=>En (.dN x lo hi)
   |some (.slice e)=>(jt P e).map fun sz=>.slice sz x lo hi
   |some (.array n e)=>(jt P e).map fun sz=>.gF n sz x lo hi
   |_=>Ga
  |_,_,_=>Ga
 | .fieldAddr t x i=>match P.underlying t with
  |some (.struct fs)=>match fs[i]? with
   |some f=>match yu P f.type,jt P f.type,qr x with
    |some ag,En n,En x=>if 0<n&&(ag||n == 1)then En (.fieldAddr ag f.offset n x)else Ga
    |_,_,_=>Ga
   |none=>Ga
  |_=>Ga
 | .field t x i=>match P.underlying t with
  |some (.struct fs)=>match fs[i]? with
   |some f=>match yu P f.type,jt P f.type,qr x with
    |some ag,En n,En x=>En (.field ag f.offset n x)|_,_,_=>Ga
   |none=>Ga
  |_=>Ga
 | .indexAddr t x i=>match qr x,qr i with
  |some x,En i=>match P.underlying t with
   |some (.slice e)=>match jt P e with
    |some sz=>if 0<sz then En (.indexAddr sz x i)else Ga
    |none=>Ga
   |some (.array n e)=>match jt P e,yu P e with
    |some sz,En ag=>if 0<sz&&(ag||sz == 1)then En (.fc ag n sz x i)else Ga
    |_,_=>Ga
   |_=>Ga
  |_,_=>Ga
 | .index t x i=>match qr x,qr i with
  |some x,En i=>match P.underlying t with
   |some .string=>En (.dM x i)
   |some (.array n e)=>match jt P e,yu P e with
    |some sz,En ag=>En (.index ag n sz x i)|_,_=>Ga
   |_=>Ga
  |_,_=>Ga
 | .lookup t m k ok=>match P.underlying t with
  |some (.map kt e)=>match lH P kt,T6 P e,qr m,qr k with
   |some kd,En z,En m,En k=>En (.lookup kd z ok m k)|_,_,_,_=>Ga
  |_=>Ga
 | .mapUpdate t m k v=>match P.underlying t with
  |some (.map kt _)=>match lH P kt,qr m,qr k,qr v with
   |some kd,En m,En k,En v=>En (.mapUpdate kd m k v)|_,_,_,_=>Ga
  |_=>Ga
 | .insert t m k v=>match P.underlying t with
  |some (.map kt _)=>match lH P kt,qr m,qr k,qr v with
   |some kd,En m,En k,En v=>En (.mapUpdate kd m k v)|_,_,_,_=>Ga
  |_=>Ga
 | .range t x=>match P.underlying t with
  |some .string=>(qr x).map (.dF r)|_=>Ga
 | .next it Gd=>(qr it).map .fQ
 | .extract x i=>(qr x).map fun x=>.extract x i
 | .call c=>AW P h md r dst c|_=>Ga
def cI.makes:cI->Bool
 | .alloc ..=>Gd| .box ..=>Gd| .gD ..=>Gd| .eU ..=>Gd| .cj (En _) ..=>Gd| .append (En _) ..=>Gd| .gZ ..=>Gd| .gG ..=>Gd| .dF ..=>Gd| .call (.fI _) ..=>Gd|_=>Gb
def cI.iK:cI->Option Nat
 | .dv _ s _=>En s|_=>Ga
def cI.sS (d:Option Nat):cI->Option Nat
 | .dv _ s _=>En s|_=>d
def AX (ops:Array Oper):Option (Nat×Bool)->Option (Option (Nat×Bool))
 |none=>En Ga
 |some (j,b)=>match(ops[j]?).bind (·.dst)with
  |some d=>En (En (d,b))|none=>Ga
def T8 (h:js)(id i:Nat):eT:=if h.shr.contains (id,i)then .shr else if h.fI.contains (id,i)then .fI 0 else if h.red.contains (id,i)then .red else .cf
def Ia (P:Program)(h:js)(nt:Nat)(id:Nat)(ops:Array Oper)(jC:Array Nat)(draw:Bool):List Oper->Nat->List (Nat×Nat)->Option (List bX×List (Nat×Nat))
 | [],_,rs=>En ([],rs)
 |o::os,i,rs=>
  match(cW P h (T8 h id i) rs.length o.dst o.op).getD .bad,AX ops o.guard with
  |a,En g=>
   if(o.dst.map (decide <| · < nt)).getD Gd&&(a.iK.map (decide <| · < nt)).getD Gd&&(a.iK.isNone||(o.dst.isNone&&o.guard.isNone))then
    let FH:=if a.makes then(i,rs.length)::rs else rs
    let al:=if draw then(match h.ex.find? fun x=>x.1 == (id,i)with
     |some x=>En [x.2]
     |none=>En ((rs.filter fun x=>(jC.getD i 0).testBit x.1).map (·.2)))else Ga
    match Ia P h nt id ops jC draw os (i+1) FH with
    |some (l,T9)=>En (⟨a.sS o.dst,a,g,al⟩::l,T9)|none=>Ga
   else Ga
  |_,_=>Ga
def zg:jw->List Nat
 | .tmp t=>[t]| .const _=>[]
def yM (l:List jw):List Nat:=l.flatMap zg
def AY:Option jw->List Nat
 |some x=>zg x|none=>[]
def cI.reads:cI->List Nat
 | .move x=>zg x| .take s=>[s]| .pick c a b=>zg c++zg a++zg b| .alloc _ _=>[]| .box _ _ x=>zg x| .lF _ x=>zg x| .gY _=>[]| .dv _ s x=>s::zg x| .gD _ _ _=>[]
 | .build _ ps=>ps.flatMap fun p=>zg p.2.2
 | .buildSlice _ _ _ ps=>ps.flatMap fun p=>zg p.2
 | .load _ _ x=>zg x| .fb _ _ x=>zg x| .cz _ x=>zg x| .store _ a v=>zg a++zg v| .nilCheck x=>zg x| .bin _ x y=>zg x++zg y| .eqs _ _ x y=>zg x++zg y| .beq _ x y=>zg x++zg y| .fP _ _ x=>zg x| .un _ x=>zg x| .conv _ x=>zg x| .eL x=>zg x| .gE x=>zg x| .field _ _ _ x=>zg x| .index _ _ _ x i=>zg x++zg i| .dM x i=>zg x++zg i| .fieldAddr _ _ _ x=>zg x| .indexAddr _ x i=>zg x++zg i| .fc _ _ _ x i=>zg x++zg i| .slice _ x lo hi=>zg x++AY lo++AY hi| .dN x lo hi=>zg x++AY lo++AY hi| .gF _ _ x lo hi=>zg x++AY lo++AY hi| .fe _ a b=>yM a++yM b| .eU _=>[]| .lookup _ _ _ m k=>zg m++zg k| .mapUpdate _ m k v=>zg m++zg k++zg v| .delete _ m k=>zg m++zg k| .cj _ _ _ _ n c=>zg n++zg c| .len _ x=>zg x| .append _ _ _ x y=>zg x++zg y| .gZ _ _ _ x y=>zg x++zg y
 | .gG _ _ _ _ ps=>ps.flatMap fun p=>zg p.2
 | .copy _ x y=>zg x++zg y| .mx l=>yM l| .mn l=>yM l| .extract x _=>zg x| .call _ f l=>zg f++yM l| .dF _ x=>zg x| .fQ x=>zg x| .bad=>[]
def cI.gf:cI->List Nat
 | .take s=>[s]| .append _ _ _ x _=>zg x| .store _ _ v=>zg v|_=>[]
def bX.reads (o:bX):List Nat:=o.op.reads++(match o.guard with|some g=>[g.1]|none=>[])
def bX.writes (o:bX):List Nat:=o.dst.toList++o.op.gf
inductive AZ where
 |pure|read|write|alloc|take|fI|shr|py
 deriving DecidableEq,Inhabited
def cI.cl:cI->AZ
 | .load ..=>.read| .lookup ..=>.read| .alloc ..=>.alloc| .box ..=>.alloc| .gD ..=>.alloc| .eU ..=>.alloc| .cj (En _) ..=>.alloc| .append (En _) ..=>.alloc| .dF ..=>.alloc| .cz Ga _=>.write| .cz (En _) _=>.take| .store ..=>.write| .mapUpdate ..=>.write| .delete ..=>.write| .copy ..=>.write| .fQ ..=>.write| .call .cf ..=>.pure| .call (.fI _) ..=>.alloc| .call .shr ..=>.shr| .call .red ..=>.shr| .gZ ..=>.py| .gG ..=>.shr|_=>.pure
def cI.dc:cI->Nat
 | .alloc r _=>r| .box r _ _=>r| .gD r _ _=>r| .eU r=>r| .cj (En r) ..=>r| .append (En r) ..=>r| .dF r _=>r| .call (.fI r) ..=>r| .cz (En o) _=>o| .gZ r sz ..=>r+1000*sz|_=>0
def oA (al:ak Nat)(r:Nat):Bool:=match al with
 |none=>Gd|some l=>bif pu l then Hb (l.headD 0) (2000+r)else l.contains r
def FI (a b:ak Nat):Bool:=match a,b with
 |some l,En m=>bif pu l then(bif pu m then !(Hb (l.headD 0) (m.headD 0))&&I7 (l.headD 0) 4000&&I7 (m.headD 0) 4000 else H2 2000 (l.headD 0)&&I7 (l.headD 0) 4000&&!(m.contains (l.headD 0-2000)))else pu m&&H2 2000 (m.headD 0)&&I7 (m.headD 0) 4000&&!(l.contains (m.headD 0-2000))|_,_=>Gb
def AZ.box:AZ->Bool
 | .read=>Gd| .write=>Gd| .take=>Gd|_=>Gb
def Ua (a b:bX):Bool:=(a.op.cl.box&&b.op.cl.box&&FI a.al b.al) ||
  (match a.op.cl,b.op.cl with
 | .pure,_=>Gd|_,.pure=>Gd| .read,.read=>Gd| .read,.fI=>Gd| .fI,.read=>Gd| .fI,.fI=>Gd| .alloc,.alloc=>a.op.dc != b.op.dc| .alloc,.read=>!oA b.al a.op.dc| .alloc,.write=>!oA b.al a.op.dc| .alloc,.take=>!oA b.al a.op.dc| .take,.alloc=>!oA a.al b.op.dc| .take,.take=>a.op.dc != b.op.dc| .read,.alloc=>!oA a.al b.op.dc| .write,.alloc=>!oA a.al b.op.dc| .py,.py=>a.op.dc % 1000 != b.op.dc % 1000&&a.op.dc / 1000 != b.op.dc / 1000| .py,.read=>qF b.al| .py,.write=>qF b.al| .py,.take=>qF b.al| .read,.py=>qF a.al| .write,.py=>qF a.al| .take,.py=>qF a.al
 |_,_=>Gb)
def Ib (a b:List Nat):Bool:=a.all fun x=>!b.contains x
def A0 (a b:bX):Bool:=
 Ua a b&&Ib a.writes b.reads&&Ib a.writes b.writes&&Ib b.writes a.reads
def Ub (jC:Array Nat)(l:List bX):Bool:=
 (l.zipIdx).all fun(b,j)=>(l.zipIdx).all fun(a,i)=>!(decide (i<j))||(jC.getD j 0).testBit i||A0 a b
def Uc (ops:Array Oper):Bool:=ops.toList.zipIdx.all fun(o,i)=>o.after.all fun e=>!Region.binds .any e||decide (e.on<i)
def Ud (jC:Array Nat)(ops:Array Oper):Bool:=
 ops.toList.zipIdx.all fun(o,i)=>(List.range ops.size).all fun j=>!((jC.getD i 0).testBit j)||o.after.any fun e=>Region.binds .any e&&(e.on == j||(jC.getD e.on 0).testBit j)
def Ic (P:Program)(h:js)(nt:Nat)(id:Nat)(ops:Array Oper)(draw:Bool):Option bn:=
 match Ia P h nt id ops (Region.before ops) draw ops.toList 0 []with
 |some (l,rs)=>
  if !draw||(Ub (Region.before ops) l&&Uc ops&&Ud (Region.before ops) ops)then
   En (.region rs.length l ((h.keep.find? fun x=>x.1 == id).map (·.2)))
  else Ga
 |none=>Ga
def FJ (s d:Nat)(o:Oper):Bool:=match o.op,o.dst,o.guard with
 | .move (.tmp s'),En d',Ga=>s' == s&&d' == d|_,_,_=>Gb
def Ue (s d:Nat)(o:Oper):Bool:=match o.op,o.dst,o.guard with
 | .assign (.tmp s'),En d',Ga=>s' == s&&d' == d|_,_,_=>Gb
def Uf (x d:Nat)(o:Oper):Option TypeId:=match o.op,o.dst,o.guard with
 | .call c,En d',Ga=>match c.callee,c.args.toList,c.argTypes.toList with
  | .builtin .cap,[.tmp x'],[t]=>if x' == x&&d' == d then En t else Ga
  |_,_,_=>Ga
 |_,_,_=>Ga
def Ug (x d:Nat)(o:Oper):Option TypeId:=match o.op,o.dst,o.guard with
 | .call c,En d',Ga=>match c.callee,c.args.toList,c.argTypes.toList with
  | .builtin .len,[.tmp x'],[t]=>if x' == x&&d' == d then En t else Ga
  |_,_,_=>Ga
 |_,_,_=>Ga
def NN (x h d:Nat)(o:Oper):Option TypeId:=match o.op,o.dst,o.guard with
 | .slice t (.tmp x') Ga (En (.tmp h')) Ga,En d',Ga=>if x' == x&&h' == h&&d' == d then En t else Ga
 |_,_,_=>Ga
def jpg (x y d:Nat)(o:Oper):Option (TypeId×TypeId):=match o.op,o.dst,o.guard with
 | .call c,En d',Ga=>match c.callee,c.args.toList,c.argTypes.toList with
  | .builtin .append,[.tmp x',.tmp y'],[t,u]=>if x' == x&&y' == y&&d' == d then En (t,u)else Ga
  |_,_,_=>Ga
 |_,_,_=>Ga
def jro (ops:Array Oper):Option (TypeId×TypeId):=match ops.toList with
 | [o0,o1,o2,o3,o4,o5,o6,o7,o8,o9]=>match Uf 18 19 o2,NN 17 19 20 o3,jpg 20 21 22 o5,Ug 23 24 o7,NN 22 24 25 o8 with
  |some t2,En t3,En (t,u),En t7,En t8=>if FJ 0 17 o0&&FJ 0 18 o1&&FJ 1 21 o4&&FJ 0 23 o6&&Ue 25 0 o9&&t2 == t&&t3 == t&&t7 == t&&t8 == t then En (t,u)else Ga
  |_,_,_,_,_=>Ga
 |_=>Ga
def Ie (P:Program)(nt:Nat)(ops:Array Oper):Option Nat:=match jro ops with
 |some (t,u)=>match P.underlying t,P.underlying u with
  |some (.slice e),En (.int _)=>match P.info? e with
   |some i=>if i.zero.isSome&&0<i.size&&i.bytes<=4096&&26<=nt&&(yw P e).isSome&&(yw P e).map (·.length) == En i.size then En i.size else Ga
   |none=>Ga
  |_,_=>Ga
 |none=>Ga
def iC (P:Program)(h:js)(nt:Nat):Code->Option bn
 | .skip=>En .skip| .label _=>En .skip
 | .region id ops draw=>match draw,Ie P nt ops with
  |false,En sz=>En (.grow sz)|_,_=>Ic P h nt id ops draw
 | .seq a b=>match iC P h nt a,iC P h nt b with
  |some x,En y=>En (.seq x y)|_,_=>Ga
 | .cond c a b=>match qr c,iC P h nt a,iC P h nt b with
  |some c,En x,En y=>En (.cond c x y)|_,_,_=>Ga
 | .block id b=>(iC P h nt b).map (.block id)| .loop b=>(iC P h nt b).map .loop
 | .scope b=>(iC P h nt b).map fun x=>.seq x .skip
 | .rangeFunc f ps a b=>match qr f,iC P h nt a,iC P h nt b with
  |some f,En x,En y=>if ps.all (decide <| · < nt)then En (.rangeFunc f ps.toList x y)else Ga
  |_,_,_=>Ga
 | .exit id=>En (.exit id)| .ret=>En .ret|_=>En .stuck
def NP (P:Program):ResultVar->Option ou
 | .tmp t=>En (.tmp t)
 | .cell t ty=>match yu P ty,jt P ty with
  |some Gd,En n=>En (.cell t Gd n)|some Gb,En 1=>En (.cell t Gb 1)|_,_=>Ga
def wT (P:Program):List ResultVar->ak ou
 | []=>En []
 |r::rs=>match NP P r,wT P rs with
  |some x,En xs=>En (x::xs)|_,_=>Ga
def yN (P:Program)(h:js)(f:Func):Option jU:=
 match f.body with
 |some c=>match iC P h f.ntmps c,wT P f.results.toList with
  | some b, En rs => if f.name == "runtime.NumGoroutine" then Ga else En ⟨f.ntmps, b, rs⟩
  |_,_=>Ga
 |none=>Ga
structure aV where
 K:Nat->Nat->Option Value
 β:Nat->Option Nat
 W:Nat->Prop
 D:Nat->Prop
 T:Nat×Nat×Nat×Nat->Prop
def aV.cf (K:Nat->Nat->Option Value):aV:=⟨K,fun _=>Ga,fun _=>False,fun _=>False,fun _=>False⟩
def fV (C:aV):Fn->Fn->Prop
 | .yield b,f=>∃r,C.β b=En r/\f=.yield r|f,f'=>f'=f
inductive mH where
 |val (x:AVal) (v:Value)
 |cells (r:Nat) (xs:List AVal) (o:Nat)
 |row (r sz:Nat) (xs:List AVal) (o:Nat)
 |wU (xs:List AVal) (vs:List Value)
inductive aO (C:aV):mH->Prop where
 |bool (b:Bool):aO C (.val (.bool b) (.bool b))
 |int (k:IntKind) (n:Int):aO C (.val (.int k n) (.int k n))
 |str (s:aj):aO C (.val (.str s) (.string ⟨⟨s⟩⟩))
 |kD (sz:Nat):aO C (.val (.list Gd sz []) (.slice Ga 0 0))
 |list (sz:Nat) (xs:List AVal) (r o cap:Nat) (hl:xs.length<=cap) (Q:aO C (.row r sz xs o)):aO C (.val (.list Gb sz xs) (.slice (En ⟨r,o,Ga⟩) xs.length cap))
 |kE (sz:Nat) (a:Addr) (G:a.spot≠Ga):aO C (.val (.list Gb sz []) (.slice (En a) 0 0))
 |ms (b o len r cap:Nat) (hb:C.β b=En r) (hl:len<=cap):aO C (.val (.ms b o len) (.slice (En ⟨r,o,Ga⟩) len cap))
 |ptr (b o r:Nat) (hb:C.β b=En r):aO C (.val (.ptr b o) (.pointer (En ⟨r,o,Ga⟩)))
 |aq (x:AVal) (r o:Nat) (h:aO C (.cells r x.flat o)):aO C (.val (.aq x) (.pointer (En ⟨r,o,Ga⟩)))
 |bQ:aO C (.val .bQ (.pointer Ga))
 |map (b r:Nat) (hb:C.β b=En r):aO C (.val (.map b) (.map (En r)))
 |cg:aO C (.val .cg (.map Ga))
 |fn (f f':Fn) (a b:List AVal) (as bs:List Value) (hf:fV C f f') (ha:aO C (.wU a as)) (hb:aO C (.wU b bs)):aO C (.val (.fn f a b) (.func f' ⟨as⟩ ⟨bs⟩))
 |cx:aO C (.val .cx .nilFunc)
 |agg (cs:List AVal) (vs:List Value) (h:aO C (.wU cs vs)):aO C (.val (.agg cs) (.agg ⟨vs⟩))
 |aI (cs:List AVal) (vs:List Value) (h:aO C (.wU cs vs)):aO C (.val (.aI cs) (.tuple ⟨vs⟩))
 |undef:aO C (.val .undef (.tuple #[]))
 |any (v:Value):aO C (.val .any v)
 |db (n:Nat) (a:Addr):aO C (.val (.db n) (.pointer (En a)))
 |az (b bS len r0 r cap:Nat) (hb:C.β b=En r0) (ht:C.T (r0,bS,r,cap)) (hl:len<=cap):aO C (.val (.az b bS len) (.slice (En ⟨r,0,Ga⟩) len cap))
 |dW (b bS off r0 r cap:Nat) (hb:C.β b=En r0) (ht:C.T (r0,bS,r,cap)):aO C (.val (.dW b bS off) (.pointer (En ⟨r,off,Ga⟩)))
 |iL (r o:Nat):aO C (.cells r [] o)
 |dE (r o:Nat) (x:AVal) (xs:List AVal) (v:Value) (hv:C.K r o=En v) (M:aO C (.val x v)) (h:aO C (.cells r xs (o+1))):aO C (.cells r (x::xs) o)
 |gh (r sz o:Nat):aO C (.row r sz [] o)
 |dw (r sz o:Nat) (x:AVal) (xs:List AVal) (G:x.flat.length=sz) (M:aO C (.cells r x.flat o)) (h:aO C (.row r sz xs (o+sz))):aO C (.row r sz (x::xs) o)
 |nil:aO C (.wU [] [])
 |cons (x:AVal) (xs:List AVal) (v:Value) (vs:List Value) (M:aO C (.val x v)) (h:aO C (.wU xs vs)):aO C (.wU (x::xs) (v::vs))
abbrev bW (C:aV)(x:AVal)(v:Value):Prop:=aO C (.val x v)
abbrev bq (C:aV)(xs:List AVal)(vs:List Value):Prop:=aO C (.wU xs vs)
abbrev cF (C:aV)(r:Nat)(xs:List AVal)(o:Nat):Prop:=aO C (.cells r xs o)
abbrev bE (C:aV)(r sz:Nat)(xs:List AVal)(o:Nat):Prop:=aO C (.row r sz xs o)
structure aV.le (C C':aV):Prop where
 k:∀r o v,C.K r o=En v->C'.K r o=En v
 b:∀b r,C.β b=En r->C'.β b=En r
 w:C'.W=C.W
 d:∀r,C.D r->C'.D r
 t:∀q,C.T q->C'.T q:=by exact fun _ h=>h
theorem aV.le_refl (C:aV):C.le C:=⟨fun _ _ _ h=>h,fun _ _ h=>h,rfl,fun _ h=>h,fun _ h=>h⟩
theorem aV.le_trans {A B C:aV}(h:A.le B)(k:B.le C):A.le C:=⟨fun r o v x=>k.1 r o v (h.1 r o v x),fun b r x=>k.2 b r (h.2 b r x),k.w.trans h.w,fun r x=>k.d r (h.d r x),fun r x=>k.t r (h.t r x)⟩
theorem fV.imp {C C'}(h:(∀r o v,C.K r o=En v->C'.K r o=En v)/\(∀b r,C.β b=En r->C'.β b=En r)){f f'}(hf:fV C f f'):fV C' f f':=by
 cases f<;>simp only[fV]at *<;>first|exact hf|exact⟨hf.choose,h.2 _ _ hf.choose_spec.1,hf.choose_spec.2⟩
theorem aO.imp {C C'}(h:(∀r o v,C.K r o=some v->C'.K r o=some v)/\(∀b r,C.β b=some r->C'.β b=some r)){i}(Q:aO C i)(hT:∀q,C.T q->C'.T q:=by first|exact fun _ h=>h|exact fun _ h=>False.elim h):aO C' i:=by
 induction Q with
 |bool b=>exact .bool b|int k n=>exact .int k n|str s=>exact .str s|kD sz=>exact .kD sz|list sz xs r o cap hl _ ih=>exact .list sz xs r o cap hl ih|kE sz a G=>exact .kE sz a G|ms b o len r cap hb hl=>exact .ms b o len r cap (h.2 _ _ hb) hl|ptr b o r hb=>exact .ptr b o r (h.2 _ _ hb)|aq x r o _ ih=>exact .aq x r o ih|bQ=>exact .bQ|map b r hb=>exact .map b r (h.2 _ _ hb)|cg=>exact .cg|fn f f' a b as bs hf _ _ ha hb=>exact .fn f f' a b as bs (hf.imp h) ha hb|cx=>exact .cx|agg cs vs _ ih=>exact .agg cs vs ih|aI cs vs _ ih=>exact .aI cs vs ih|undef=>exact .undef|any v=>exact .any v|db n a=>exact .db n a|az b bS len r0 r cap hb ht hl=>exact .az b bS len r0 r cap (h.2 _ _ hb) (hT _ ht) hl|dW b bS off r0 r cap hb ht=>exact .dW b bS off r0 r cap (h.2 _ _ hb) (hT _ ht)|iL r o=>exact .iL r o|dE r o x xs v hv _ _ pz ih=>exact .dE r o x xs v (h.1 _ _ _ hv) pz ih|gh r sz o=>exact .gh r sz o|dw r sz o x xs G _ _ pz ih=>exact .dw r sz o x xs G pz ih|nil=>exact .nil|cons x xs v vs _ _ pz ih=>exact .cons x xs v vs pz ih
theorem aO.mono {C C'}(h:C.le C'){i}(Q:aO C i):aO C' i:=Q.imp ⟨h.k,h.b⟩ h.t
def mH.below (n:Nat):mH->Bool
 | .val x _=>Abs.below n x| .cells _ xs _=>qp n xs| .row _ _ xs _=>qp n xs| .wU xs _=>qp n xs
theorem NQ (n:Nat)(x:AVal):qp n x.flat=Abs.below n x:=by
 cases x<;>simp[AVal.flat,qp,Abs.below]
theorem aO.shift {C C'}(n:Nat)(hK:∀r o v,C.K r o=some v->C'.K r o=some v)(hβ:∀b r,b<n->C.β b=some r->C'.β b=some r){i}(Q:aO C i)(hb:i.below n=true)(hT:∀q,0<n->C.T q->C'.T q:=by first|exact fun _ _ h=>h|exact fun _ h=>absurd h (Nat.lt_irrefl 0)|exact fun _ _ h=>False.elim h):aO C' i:=by
 induction Q with
 |bool b=>exact .bool b|int k n=>exact .int k n|str s=>exact .str s|kD sz=>exact .kD sz|list sz xs r o cap hl _ ih=>exact .list sz xs r o cap hl (ih (by simpa[mH.below,Abs.below]using hb))|kE sz a G=>exact .kE sz a G|ms b o len r cap Y hl=>exact .ms b o len r cap (hβ _ _ (by simpa[mH.below,Abs.below]using hb) Y) hl|ptr b o r Y=>exact .ptr b o r (hβ _ _ (by simpa[mH.below,Abs.below]using hb) Y)|aq x r o _ ih=>exact .aq x r o (ih (by simpa[mH.below,Abs.below,NQ]using hb))|bQ=>exact .bQ|map b r Y=>exact .map b r (hβ _ _ (by simpa[mH.below,Abs.below]using hb) Y)|cg=>exact .cg
 |fn f f' a b as bs hf _ _ iha ihb=>
  have Ig:fV C' f f':=by
   cases f<;>simp only[fV]at *<;>first|exact hf|skip
   obtain⟨r,Y,rfl⟩:=hf;simp[mH.below,Abs.below]at hb;exact⟨r,hβ _ _ hb.1.1 Y,rfl⟩
  have yO:qp n a=Gd/\qp n b=Gd:=by
   cases f<;>simp[mH.below,Abs.below]at hb<;>first|exact hb|exact⟨hb.1.2,hb.2⟩
  exact .fn f f' a b as bs Ig (iha yO.1) (ihb yO.2)
 |cx=>exact .cx|agg cs vs _ ih=>exact .agg cs vs (ih (by simpa[mH.below,Abs.below]using hb))|aI cs vs _ ih=>exact .aI cs vs (ih (by simpa[mH.below,Abs.below]using hb))|undef=>exact .undef|any v=>exact .any v|db n a=>exact .db n a
 |az b bS len r0 r cap Y ht hl=>
  have A1:b<n:=by simpa[mH.below,Abs.below]using hb
  exact .az b bS len r0 r cap (hβ _ _ A1 Y) (hT _ (by omega) ht) hl
 |dW b bS off r0 r cap Y ht=>
  have A1:b<n:=by simpa[mH.below,Abs.below]using hb
  exact .dW b bS off r0 r cap (hβ _ _ A1 Y) (hT _ (by omega) ht)
 |iL r o=>exact .iL r o
 |dE r o x xs v hv _ _ pz ih=>
  simp[mH.below,qp]at hb pz ih;exact .dE r o x xs v (hK _ _ _ hv) (pz hb.1) (ih hb.2)
 |gh r sz o=>exact .gh r sz o
 |dw r sz o x xs G _ _ pz ih=>
  simp[mH.below,qp,NQ]at hb pz ih;exact .dw r sz o x xs G (pz hb.1) (ih hb.2)
 |nil=>exact .nil
 |cons x xs v vs _ _ pz ih=>
  simp[mH.below,qp]at hb pz ih;exact .cons x xs v vs (pz hb.1) (ih hb.2)
theorem bq.length {C xs}:∀ {vs:List Value},bq C xs vs->vs.length=xs.length:=by
 induction xs with
 |nil=>intro vs h;cases h;rfl
 |cons x xs ih=>intro vs h;cases h with|cons _ _ v vs M h=>simp[ih h]
theorem bq.get {C xs}:∀ {vs:List Value},bq C xs vs->∀ {i:Nat} {x:AVal},xs[i]?=En x->∃v,vs[i]?=En v/\bW C x v:=by
 induction xs with
 |nil=>intro vs _ i x h;simp at h
 |cons y ys ih=>
  intro vs h i x hi
  cases h with
  |cons _ _ v vs M h=>
   cases i with
   |zero=>simp at hi;subst hi;exact⟨v,rfl,M⟩|succ i=>simp at hi;obtain⟨w,Y,I⟩:=ih h hi;exact⟨w,by simpa using Y,I⟩
theorem bq.append {C xs ys}:∀ {vs ws:List Value},bq C xs vs->bq C ys ws->bq C (xs++ys) (vs++ws):=by
 induction xs with
 |nil=>intro vs ws h k;cases h;exact k
 |cons x xs ih=>intro vs ws h k;cases h with|cons _ _ v vs M h=>exact .cons _ _ _ _ M (ih h k)
theorem bq.take {C xs}:∀ {vs:List Value} (n:Nat),bq C xs vs->bq C (xs.take n) (vs.take n):=by
 induction xs with
 |nil=>intro vs n h;cases h;simpa using aO.nil
 |cons x xs ih=>intro vs n h;cases h with|cons _ _ v vs M h=>cases n with
  |zero=>simpa using aO.nil|succ n=>exact .cons _ _ _ _ M (ih n h)
theorem bq.drop {C xs}:∀ {vs:List Value} (n:Nat),bq C xs vs->bq C (xs.drop n) (vs.drop n):=by
 induction xs with
 |nil=>intro vs n h;cases h;simpa using aO.nil
 |cons x xs ih=>intro vs n h;cases h with|cons _ _ v vs M h=>cases n with
  |zero=>exact .cons _ _ _ _ M h|succ n=>simpa using ih n h
theorem cF.get {C r xs}:∀ {o:Nat},cF C r xs o->∀ {i:Nat} {x:AVal},xs[i]?=En x->∃v,C.K r (o+i)=En v/\bW C x v:=by
 induction xs with
 |nil=>intro o _ i x h;simp at h
 |cons y ys ih=>
  intro o h i x hi
  cases h with
  |dE _ _ _ _ v hv M h=>
   cases i with
   |zero=>simp at hi;subst hi;exact⟨v,hv,M⟩|succ i=>simp at hi;obtain⟨w,Y,I⟩:=ih h hi;exact⟨w,by rw[show o+(i+1)=o+1+i from by omega];exact Y,I⟩
theorem cF.drop {C r xs}:∀ {o:Nat} (n:Nat),cF C r xs o->cF C r (xs.drop n) (o+n):=by
 induction xs with
 |nil=>intro o n h;simpa using aO.iL r (o+n)
 |cons x xs ih=>intro o n h;cases h with|dE _ _ _ _ v hv M h=>cases n with
  |zero=>exact .dE _ _ _ _ _ hv M h|succ n=>have:=ih n h;rw[show o+(n+1)=o+1+n from by omega];simpa using this
theorem cF.take {C r xs}:∀ {o:Nat} (n:Nat),cF C r xs o->cF C r (xs.take n) o:=by
 induction xs with
 |nil=>intro o n h;simpa using aO.iL r o
 |cons x xs ih=>intro o n h;cases h with|dE _ _ _ _ v hv M h=>cases n with
  |zero=>simpa using aO.iL r o|succ n=>exact .dE _ _ _ _ _ hv M (ih n h)
theorem cF.append {C r xs ys}:∀ {o:Nat},cF C r xs o->cF C r ys (o+xs.length)->cF C r (xs++ys) o:=by
 induction xs with
 |nil=>intro o _ k;simpa using k
 |cons x xs ih=>intro o h k;cases h with|dE _ _ _ _ v hv M h=>exact .dE _ _ _ _ _ hv M (ih h (by simpa[Xn,Nat.add_comm 1]using k))
theorem bE.get {C r sz xs}:∀ {o:Nat},bE C r sz xs o->∀ {i:Nat} {x:AVal},xs[i]?=En x->cF C r x.flat (o+i*sz):=by
 induction xs with
 |nil=>intro o _ i x h;simp at h
 |cons y ys ih=>
  intro o h i x hi
  cases h with
  |dw _ _ _ _ _ G M h=>
   cases i with
   |zero=>simp at hi;subst hi;simpa using M|succ i=>simp at hi;have:=ih h hi;rw[show o+(i+1)*sz=o+sz+i*sz from by rw[Jr];omega];exact this
theorem bE.drop {C r sz xs}:∀ {o:Nat} (n:Nat),bE C r sz xs o->bE C r sz (xs.drop n) (o+n*sz):=by
 induction xs with
 |nil=>intro o n h;simpa using aO.gh r sz (o+n*sz)
 |cons x xs ih=>intro o n h;cases h with|dw _ _ _ _ _ G M h=>cases n with
  |zero=>simpa using aO.dw _ _ _ _ _ G M h|succ n=>have:=ih n h;rw[show o+(n+1)*sz=o+sz+n*sz from by rw[Jr];omega];simpa using this
theorem bE.take {C r sz xs}:∀ {o:Nat} (n:Nat),bE C r sz xs o->bE C r sz (xs.take n) o:=by
 induction xs with
 |nil=>intro o n h;simpa using aO.gh r sz o
 |cons x xs ih=>intro o n h;cases h with|dw _ _ _ _ _ G M h=>cases n with
  |zero=>simpa using aO.gh r sz o|succ n=>exact .dw _ _ _ _ _ G M (ih n h)
theorem bE.append {C r sz xs ys}:∀ {o:Nat},bE C r sz xs o->bE C r sz ys (o+xs.length*sz)->bE C r sz (xs++ys) o:=by
 induction xs with
 |nil=>intro o _ k;simpa using k
 |cons x xs ih=>
  intro o h k
  cases h with
  |dw _ _ _ _ _ G M h=>
   refine .dw _ _ _ _ _ G M (ih h ?_)
   have e:o+sz+xs.length*sz=o+(x::xs).length*sz:=by simp[Jr];omega
   rw[e];exact k
theorem bE.sized {C r sz xs}:∀ {o:Nat},bE C r sz xs o->∀x∈xs,x.flat.length=sz:=by
 induction xs with
 |nil=>intro o _ x M;cases M
 |cons y ys ih=>
  intro o h x M
  cases h with
  |dw _ _ _ _ _ G _ h=>
   rcases Va.1 M with rfl|M
   .exact G
   .exact ih h x M
theorem bE.cells {C r sz xs}:∀ {o:Nat},bE C r sz xs o->cF C r (xs.flatMap AVal.flat) o:=by
 induction xs with
 |nil=>intro o _;exact .iL _ _
 |cons x xs ih=>
  intro o h
  cases h with
  |dw _ _ _ _ _ G M h=>
   simp only[Jo];refine cF.append M ?_;rw[G];exact ih h
theorem bE.fg {C r sz xs}:∀ {o:Nat},cF C r (xs.flatMap AVal.flat) o->(∀x∈xs,x.flat.length=sz)->bE C r sz xs o:=by
 induction xs with
 |nil=>intro o _ _;exact .gh _ _ _
 |cons x xs ih=>
  intro o h hl;simp only[Jo]at h;have Y:=cF.take (x.flat.length) h;have I:=cF.drop (x.flat.length) h;rw[List.take_left' rfl]at Y;rw[List.drop_left' rfl,hl x (by simp)]at I;exact .dw _ _ _ _ _ (hl x (by simp)) Y (ih I fun y hy=>hl y (by simp[hy]))
theorem cF.vals {C r xs}:∀ {o:Nat},cF C r xs o->∃vs,bq C xs vs/\∀j v,vs[j]?=En v->C.K r (o+j)=En v:=by
 induction xs with
 |nil=>intro o _;exact⟨[],.nil,by simp⟩
 |cons x xs ih=>
  intro o h
  cases h with
  |dE _ _ _ _ v hv M h=>
   obtain⟨vs,Y,I⟩:=ih h;refine⟨v::vs,.cons _ _ _ _ M Y,?_⟩;intro j u hj
   cases j with
   |zero=>simp at hj;subst hj;exact hv|succ j=>simp at hj;rw[show o+(j+1)=o+1+j from by omega];exact I j u hj
inductive Loc where
 |slot (s:Nat)
 |cell (b j:Nat)
 deriving DecidableEq
def hM (sz:Nat)(xs:List AVal)(cells:Array Value)(elem:TypeId)(len cap:Nat):Prop:=
 ∀(e:Nat) (l:aj),sz=0->xs=[.int .u64 (e:Int),.str l]->elem=e/\len=l.length/\len<=cap/\cap<=maxLen/\cells.size=cap/\cells.toList.take len=l.map fun b=>Value.int .u8 b.toNat
theorem hM.sized {sz xs cells}{elem:TypeId}{len cap}(h:∀x∈xs,x.flat.length=sz):hM sz xs cells elem len cap:=fun e l h0 M=>by
 have:=h (.str l) (by rw[M];simp);simp[AVal.flat,h0]at this
def aY (C:aV)(ω:Nat->Option Loc)(w:World)(B:Nat)(ℓ:Loc):AVal->Value->Prop
 | .list _ sz xs,.slice (En a) len cap=>ω a.block=En ℓ/\(B<=a.block\/C.W a.block)/\(∀b,C.β b≠En a.block)/\a.spot=Ga/\a.off=0 /\
   (∃cells elem,w.heap[a.block]?=En (.cells cells elem (0,0))/\a.off+cap*sz<=cells.size/\hM sz xs cells elem len cap)/\∀o,a.off+len*sz<=o->C.K a.block o=Ga
 | .db n,.pointer (En a)=>ω a.block=En ℓ/\(B<=a.block\/C.W a.block)/\(∀b,C.β b≠En a.block)/\a.spot=Ga/\a.off=0 /\
   (∃cells elem,w.heap[a.block]?=En (.cells cells elem (0,0))/\a.off+n*1<=cells.size/\hM 0 [] cells elem 0 0)/\∀o,a.off+0*0<=o->C.K a.block o=Ga
 |_,_=>True
structure Ext (w w':World):Prop where
 size:w.heap.size<=w'.heap.size
 same:∀r,r<w.heap.size->w'.heap[r]?=w.heap[r]?
 os:w'.os=w.os
 output:w'.output=w.output
theorem Ext.refl (w:World):Ext w w:=⟨If _,fun _ _=>rfl,rfl,rfl⟩
theorem Ext.get {w w':World}(h:Ext w w'){r:Nat}{o}(Q:w.heap[r]?=En o):w'.heap[r]?=En o:=by
 rw[h.same r (I1.1 Q).1];exact Q
theorem Ext.trans {a b c}(h:Ext a b)(k:Ext b c):Ext a c where
 size:=Jw h.size k.size
 same r Q:=by rw[k.same r (Lq Q h.size),h.same r Q]
 os:=k.os.trans h.os
 output:=k.output.trans h.output
theorem wV (w:World)(o:Obj)(r:Nat):(w.alloc o).heap[r]?=if r=w.heap.size then En o else w.heap[r]?:=by
 show(w.heap.push o)[r]?=_;rw[Array.getElem?_push]
theorem Ext.alloc (w:World)(o:Obj)(ho:∀c t fr,o=.cells c t fr->fr=(0,0)):Ext w (w.alloc o) where
 size:=by rw[World.size_alloc];omega
 same r Q:=by rw[wV,if_neg (by omega)]
 os:=rfl
 output:=rfl
theorem Ext.drew (w:World):Ext w w.drew:=⟨If _,fun _ _=>rfl,rfl,rfl⟩
theorem Ext.cell {w w':World}(h:Ext w w'){a:Addr}{v}(hc:w.cell? a=En v):w'.cell? a=En v:=by
 unfold World.cell? at *
 cases Q:w.heap[a.block]? with
 |none=>rw[Q]at hc;cases hc|some o=>rw[h.get Q];rw[Q]at hc;exact hc
theorem aY.ext {C:aV}{ω:Nat->Option Loc}{w w' B ℓ x v}(h:Ext w w')(ho:aY C ω w B ℓ x v):aY C ω w' B ℓ x v:=by
 unfold aY at *;split at ho
 .obtain⟨Y,I,h3,h4,h8,⟨cells,elem,h5,h6⟩,h7⟩:=ho;exact⟨Y,I,h3,h4,h8,⟨cells,elem,h.get h5,h6⟩,h7⟩
 .obtain⟨Y,I,h3,h4,h8,⟨cells,elem,h5,h6⟩,h7⟩:=ho;exact⟨Y,I,h3,h4,h8,⟨cells,elem,h.get h5,h6⟩,h7⟩
 .trivial
inductive cK (C:aV):List (AVal×AVal)->List MapEntry->Prop where
 |nil:cK C [] []
 |cons (k v:AVal) (es:List (AVal×AVal)) (m:MapEntry) (ms:List MapEntry) (hk:bW C k m.key) (hv:bW C v m.val) (h:cK C es ms):cK C ((k,v)::es) (m::ms)
theorem cK.imp {C C'}(h:(∀r o v,C.K r o=some v->C'.K r o=some v)/\(∀b r,C.β b=some r->C'.β b=some r)){es ms}(Q:cK C es ms)(hT:∀q,C.T q->C'.T q:=by first|exact fun _ h=>h|exact fun _ h=>False.elim h):cK C' es ms:=by
 induction Q with
 |nil=>exact .nil|cons k v es m ms hk hv _ ih=>exact .cons k v es m ms (aO.imp h hk hT) (aO.imp h hv hT) ih
theorem cK.mono {C C'}(h:C.le C'){es ms}(Q:cK C es ms):cK C' es ms:=Q.imp ⟨h.k,h.b⟩ h.t
def bC (C:aV)(e:Env)(tmps:Array Value):Prop:=∀s x,jp s e=En x->∃v,tmps[s]?=En v/\bW C x.1 v
def Ih (P:Program)(nt:Nat)(c:Code)(a:bn):Prop:=∃h,iC P h nt c=En a
structure cG (P:Program)(C:aV)(l:jrn)(lp:Loop):Prop where
 assign:Ih P lp.tmps.size lp.assign l.assign
 body:Ih P lp.tmps.size lp.body l.body
 params:lp.params.toList=l.params
 fits:∀t∈l.params,t<lp.tmps.size
 nr:zr l.assign=Gd/\zr l.body=Gd
 env:bC C l.env lp.tmps
 state:lp.state=match l.pending with
  |none=>.ready|some .normal=>.busy|some _=>.done
 pending:lp.pending=match l.pending with
  |none=>Ga|some .normal=>Ga|some (.exit id)=>En (.exit id)|some .ret=>En .ret
def eG (K:Nat->Nat->Option Value)(w:World)(q sz:Nat)(xs:List AVal)(cap:Nat):Prop:=
 ∃cells t vs,w.heap[q]?=En (.cells cells t (0,0))/\xs.length<=cap/\cap*sz<=cells.size/\(∀x∈xs,x.flat.length=sz)/\bq (.cf K) (xs.flatMap AVal.flat) vs /\
  (∀(j:Nat) v,vs[j]?=En v->cells[j]?=En v)/\∀v∈vs,v.oneCell'=Gd
theorem eG.imp {K K' w w' q sz cap xs}(hK:∀r o v,K r o=En v->K' r o=En v)(hw:w'.heap[q]?=w.heap[q]?)(h:eG K w q sz xs cap):eG K' w' q sz xs cap:=by
 obtain⟨cells,t,vs,Y,I,h3,h4,h5,h6⟩:=h;exact⟨cells,t,vs,hw.trans Y,I,h3,h4,aO.imp (C:=.cf K) (C':=.cf K') ⟨hK,fun _ _ h=>h⟩ h5,h6⟩
abbrev yP (C:aV)(ω:Nat->Option Loc)(w:World)(B b q n cap:Nat):Prop:=aY C ω w B (.cell b 0) (.list Gb 0 []) (.slice (En ⟨q,0,Ga⟩) n cap)
def et (C:aV)(ω:Nat->Option Loc)(w:World)(B b r sz bS:Nat)(xs:List AVal):Prop:=
 ∃q cap,C.T (r,bS,q,cap)/\(∀x,C.T x->x.1=r->x.2.1<=bS/\(x.2.1=bS->x.2.2=(q,cap)))/\eG C.K w q sz xs cap/\(q=r\/yP C ω w B b q xs.length cap)/\∃cs t,w.heap[r]?=En (.cells cs t (0,0))
theorem et.imp {C C' ω ω' w w' B B' b r sz bS xs}(hK:∀r o v,C.K r o=En v->C'.K r o=En v)(hT:∀q,C.T q->C'.T q)(Ii:∀x,C'.T x->x.1=r->C.T x)(hw:w'.heap[r]?=w.heap[r]?)
  (hq:∀q n cap,yP C ω w B b q n cap->w'.heap[q]?=w.heap[q]?/\yP C' ω' w' B' b q n cap) (h:et C ω w B b r sz bS xs):et C' ω' w' B' b r sz bS xs:=by
 obtain⟨q,cap,Y,I,h3,h4,cs,t,h5⟩:=h;refine⟨q,cap,hT _ Y,fun x M Q=>I x (Ii x M Q) Q,?_,?_,cs,t,hw.trans h5⟩
 .rcases h4 with rfl|h4
  .exact h3.imp hK hw
  .exact h3.imp hK (hq _ _ _ h4).1
 .exact h4.imp id fun h=>(hq _ _ _ h).2
def bR (P:Program)(C:aV)(ω:Nat->Option Loc)(w:World)(B b r:Nat):aM->Prop
 | .hole=>False
 | .cells cs=>∃vs elem,w.heap[r]?=En (.cells vs elem (0,0))/\cs.length<=vs.size /\
   ∀j c,cs[j]?=En c->∃v,vs[j]?=En v/\v.oneCell'=Gd/\bW C c.1 v/\(c.2=Gd->aY C ω w B (.cell b j) c.1 v)
 | .map es=>∃cr clock,w.heap[r]?=En (.map cr clock)/\cK C es cr.toList| .iter s pos=>w.heap[r]?=En (.stringIter ⟨⟨s⟩⟩ pos)| .loop l=>∃lp,w.heap[r]?=En (.loop lp)/\cG P C l lp| .gD t e l=>∃p v,w.heap[r]?=En (.cells #[p,v] t (0,0))/\(p=.pointer Ga\/p=.pointer (En ⟨r,0,Ga⟩))/\((v=.slice Ga 0 0/\l=[])\/∃a len cap,v=.slice (En a) len cap)/\aY C ω w B (.cell b 1) (.list Gb 0 [.int .u64 (e:Int),.str l]) v| .dead=>∃cs t,w.heap[r]?=En (.cells cs t (0,0))| .vec sz bS xs=>et C ω w B b r sz bS xs
def qH : String := "internal/strconv.uint64pow10"
def A2 : String := "internal/bytealg.MaxLen"
def j6t (P:Program)(w:World)(g:Nat):Prop:=
 (P.globalNamed qH=En g->Lib.TabIs P w qH .u64 Lib.pow10Tab)/\(P.globalNamed A2=En g->∃m,w.cell? ⟨g,0,Ga⟩=En (.int .i64 m)) /\
 (∀x∈H8,P.globalNamed x.1=En g->∀j n,x.2[j]?=En n->w.cell? ⟨g,j,Ga⟩=En (.int .i64 n))
def Uh (P:Program)(g:Nat):Prop:=P.globalNamed qH=En g\/P.globalNamed A2=En g\/∃x∈H8,P.globalNamed x.1=En g
def Tabs (P:Program)(w:World):Prop:=∀g,Uh P g->g<w.heap.size/\j6t P w g
theorem Tabs.same {P w w'}(h:Tabs P w)(G:w.heap.size<=w'.heap.size)(hg:∀g,Uh P g->w'.heap[g]?=w.heap[g]?):Tabs P w':=by
 intro g hn;obtain⟨Y,I,h3,h5⟩:=h g hn;refine⟨Lq Y G,fun FK=>?_,fun FK=>?_,fun x M FK j n hj=>?_⟩
 .have I:=I FK;unfold Lib.TabIs World.var? at *;rw[FK]at I ⊢;simp only[Option.bind_some]at I ⊢;rw[hg g hn];exact I
 .obtain⟨m,h4⟩:=h3 FK;refine⟨m,?_⟩;unfold World.cell? at *;simp only[]at h4 ⊢;rw[hg g hn];exact h4
 .have h4:=h5 x M FK j n hj;unfold World.cell? at *;simp only[]at h4 ⊢;rw[hg g hn];exact h4
def zer (P:Program)(w0:World)(C0:aV):Prop:=Tabs P w0/\∀g,Uh P g->(∀b,C0.β b≠En g)/\¬C0.W g
structure aA (P:Program)(C:aV)(ω:Nat->Option Loc)(w0:World)(C0:aV)(h:qh)(w:World):Prop where
 base:zer P w0 C0
 know:∀r o v,C.K r o=En v->w.cell? ⟨r,o,Ga⟩=En v
 dr:∀r o v,C.K r o=En v->v.oneCell'=Gd
 apart:∀b r o,C.β b=En r->C.K r o=Ga
 inj:∀b b' r,C.β b=En r->C.β b'=En r->b=b'
 lt:∀b r,C.β b=En r->r<w.heap.size/\b<h.length
 size:w0.heap.size<=w.heap.size
 frame:∀r,r<w0.heap.size->(∀b,C0.β b≠En r)->¬C0.W r->w.heap[r]?=w0.heap[r]?
 fJ:∀r,C.D r->w.heap[r]?=En (.deferred (En []))
 os:w.os=w0.os
 output:w.output=w0.output
 fresh:∀b r,C.β b=En r->C0.β b=En r\/w0.heap.size<=r\/C0.W r
 grown:C0.le C
 old:∀r o,r<w0.heap.size->¬C0.W r->C.K r o=C0.K r o
 box:∀b x r,h[b]?=En x->C.β b=En r->bR P C ω w w0.heap.size b r x
 jD:∀q,C.T q->q.1<w.heap.size
def ar (C:aV)(ω:Nat->Option Loc)(w:World)(B:Nat)(e:Env)(tmps:Array Value):Prop:=
 ∀s x,jp s e=En x->∃v,tmps[s]?=En v/\bW C x.1 v/\(x.2=Gd->aY C ω w B (.slot s) x.1 v)
theorem ar.cy {C ω w B e tmps}(h:ar C ω w B e tmps):bC C e tmps:=
 fun s x M=>let ⟨v,Y,I,_⟩:=h s x M; ⟨v,Y,I⟩
theorem bR.ext {P:Program}{C:aV}{ω w w' B b r x}(h:Ext w w')(hb:bR P C ω w B b r x):bR P C ω w' B b r x:=by
 cases x with
 |hole=>exact hb
 |cells cs=>
  obtain⟨vs,elem,Y,I,h3⟩:=hb;exact⟨vs,elem,h.get Y,I,fun j c hc=>let ⟨v,a,q,b,d⟩:=h3 j c hc; ⟨v,a,q,b,fun e=>(d e).ext h⟩⟩
 |map es=>obtain⟨cr,clock,Y,I⟩:=hb;exact⟨cr,clock,h.get Y,I⟩|iter s pos=>exact h.get hb|loop l=>obtain⟨lp,Y,I⟩:=hb;exact⟨lp,h.get Y,I⟩|gD t e l=>obtain⟨p,v,Y,I,h3,h4⟩:=hb;exact⟨p,v,h.get Y,I,h3,h4.ext h⟩|dead=>obtain⟨cs,t,Y⟩:=hb;exact⟨cs,t,h.get Y⟩
 |vec sz bS xs=>
  obtain⟨q,cap,Y,I,h3,h4,cs,t,h5⟩:=hb
  have hex:∀ {k:Nat} {o:Obj},w.heap[k]?=En o->w'.heap[k]?=w.heap[k]?:=fun hk=>by rw[h.get hk,hk]
  refine⟨q,cap,Y,I,h3.imp (fun _ _ _ h=>h) ?_,h4.imp id fun h4=>h4.ext h,cs,t,h.get h5⟩;obtain⟨cells,t',_,g1,_⟩:=h3;exact hex g1
theorem aA.tabs {P C ω w0 w C0 hp}(m:aA P C ω w0 C0 hp w):Tabs P w:=
 m.base.1.same m.size fun g hg=>m.frame g (m.base.1 g hg).1 (m.base.2 g hg).1 (m.base.2 g hg).2
theorem aA.ext {P:Program}{C:aV}{ω w0 w w' C0 hp}(h:Ext w w')(m:aA P C ω w0 C0 hp w):aA P C ω w0 C0 hp w' where
 base:=m.base
 know r o v hk:=h.cell (m.know r o v hk)
 dr:=m.dr
 apart:=m.apart
 inj:=m.inj
 lt b r hb:=⟨Lq (m.lt b r hb).1 h.size,(m.lt b r hb).2⟩
 size:=Jw m.size h.size
 frame r Q hn hw:=by rw[h.same r (Lq Q m.size)];exact m.frame r Q hn hw
 fJ r Q:=h.get (m.fJ r Q)
 os:=h.os.trans m.os
 output:=h.output.trans m.output
 fresh:=m.fresh
 grown:=m.grown
 old:=m.old
 box b x r M hb:=(m.box b x r M hb).ext h
 jD q hq:=Lq (m.jD q hq) h.size
theorem ar.ext {C ω w w' B e tmps}(h:Ext w w')(he:ar C ω w B e tmps):ar C ω w' B e tmps:=
 fun s x M=>let ⟨v,a,b,d⟩:=he s x M; ⟨v,a,b,fun e=>(d e).ext h⟩
def aV.put (C:aV)(r off:Nat)(vs:List Value):aV:={ C with K:=fun b o=>if b=r/\off<=o/\o<off+vs.length then vs[o-off]? else C.K b o }
theorem aV.hO {C:aV}{r off}(vs:List Value)(h:∀o,off<=o->C.K r o=Ga):C.le (C.put r off vs):=
 ⟨fun b o v hk=>(by
  simp only[aV.put];rw[if_neg]
  ·exact hk
  ·rintro ⟨rfl,Y,_⟩;rw[h o Y]at hk;cases hk),fun _ _ h=>h,rfl,fun _ h=>h,fun _ h=>h⟩
theorem aV.A3 {C:aV}{r off vs j v}(h:vs[j]?=En v):(C.put r off vs).K r (off+j)=En v:=by
 have hj:j<vs.length:=(I5.1 h).1;show(if r=r/\off<=off+j/\off+j<off+vs.length then vs[off+j-off]? else C.K r (off+j))=En v;rw[if_pos ⟨rfl,by omega,by omega⟩,show off+j-off=j from by omega,h]
theorem cF.jE {C r xs}:∀ {vs:List Value} {o:Nat},bq C xs vs->(∀j v,vs[j]?=En v->C.K r (o+j)=En v)->cF C r xs o:=by
 induction xs with
 |nil=>intro vs o _ _;exact .iL _ _
 |cons x xs ih=>
  intro vs o h hk
  cases h with
  |cons _ _ v vs M h=>
   refine .dE _ _ _ _ v (by simpa using hk 0 v rfl) M (ih h ?_);intro j u hj;rw[show o+1+j=o+(j+1)from by omega];exact hk (j+1) u (by simpa using hj)
theorem aV.fC {C:aV}{r off xs vs}(hn:∀o,off<=o->C.K r o=Ga)(h:bq C xs vs):cF (C.put r off vs) r xs off:=
 cF.jE (aO.mono (aV.hO vs hn) h) fun _ _ hj=>aV.A3 hj
theorem aA.lg {P C ω w0 w C0 hp}(m:aA P C ω w0 C0 hp w)(r:Nat)(Q:w.heap.size<=r)(o:Nat):C.K r o=Ga:=by
 cases h:C.K r o with
 |none=>rfl
 |some v=>
  have:=m.know r o v h;unfold World.cell? at this;rw[show w.heap[(⟨r,o,Ga⟩:Addr).block]?=Ga from Array.getElem?_eq_none Q]at this;cases this
theorem aY.put {C ω w B r off ℓ x v}(vs:List Value)(Q:w.heap.size<=r\/ω r≠En ℓ)(ho:aY C ω w B ℓ x v):aY (C.put r off vs) ω w B ℓ x v:=by
 unfold aY at *;split at ho
 .rename_i a len cap;obtain⟨Y,I,h3,h4,h8,⟨cells,elem,h5,h6⟩,h7⟩:=ho;have aW:a.block<w.heap.size:=(I1.1 h5).1;refine⟨Y,I,h3,h4,h8,⟨cells,elem,h5,h6⟩,fun o ho=>?_⟩;simp only[aV.put];rw[if_neg]
  .exact h7 o ho
  .rintro ⟨rfl,_⟩;rcases Q with Q|Q
   .omega
   .exact Q Y
 .rename_i a;obtain⟨Y,I,h3,h4,h8,⟨cells,elem,h5,h6⟩,h7⟩:=ho;have aW:a.block<w.heap.size:=(I1.1 h5).1;refine⟨Y,I,h3,h4,h8,⟨cells,elem,h5,h6⟩,fun o ho=>?_⟩;simp only[aV.put];rw[if_neg]
  .exact h7 o ho
  .rintro ⟨rfl,_⟩;rcases Q with Q|Q
   .omega
   .exact Q Y
 .trivial
theorem cG.imp {P C C'}(h:(∀r o v,C.K r o=some v->C'.K r o=some v)/\(∀b r,C.β b=some r->C'.β b=some r)){l lp}(k:cG P C l lp)(hT:∀q,C.T q->C'.T q:=by first|exact fun _ h=>h|exact fun _ h=>False.elim h):cG P C' l lp:=
 { k with env:=fun s x M=>let ⟨v,a,b⟩:=k.env s x M; ⟨v,a,aO.imp h b hT⟩ }
theorem cG.mono {P C C'}(h:C.le C'){l lp}(k:cG P C l lp):cG P C' l lp:=k.imp ⟨h.k,h.b⟩ h.t
theorem bR.imp {P C C' ω ω' w w' B B' b r x}(h:(∀r o v,C.K r o=En v->C'.K r o=En v)/\(∀b r,C.β b=En r->C'.β b=En r))(hw:w'.heap[r]?=w.heap[r]?)
  (ho:∀j y v,aY C ω w B (.cell b j) y v->aY C' ω' w' B' (.cell b j) y v) (hb:bR P C ω w B b r x) (hT:∀q,C.T q->C'.T q:=by exact fun _ h=>h) (Ii:∀x,C'.T x->x.1=r->C.T x:=by exact fun _ h _=>h)
  (hq:∀q n cap,yP C ω w B b q n cap->w'.heap[q]?=w.heap[q]?:=by exact fun _ _ _ _=>rfl):bR P C' ω' w' B' b r x:=by
 cases x with
 |hole=>exact hb
 |cells cs=>
  obtain⟨vs,elem,Y,I,h3⟩:=hb;exact⟨vs,elem,hw.trans Y,I,fun j c hc=>let ⟨v,a,q,b,d⟩:=h3 j c hc; ⟨v,a,q,aO.imp h b hT,fun e=>ho _ _ _ (d e)⟩⟩
 |map es=>obtain⟨cr,clock,Y,I⟩:=hb;exact⟨cr,clock,hw.trans Y,I.imp h hT⟩|iter s pos=>exact hw.trans hb|loop l=>obtain⟨lp,Y,I⟩:=hb;exact⟨lp,hw.trans Y,I.imp h hT⟩|gD t e l=>obtain⟨p,v,Y,I,h3,h4⟩:=hb;exact⟨p,v,hw.trans Y,I,h3,ho _ _ _ h4⟩|dead=>obtain⟨cs,t,Y⟩:=hb;exact⟨cs,t,hw.trans Y⟩|vec sz bS xs=>exact et.imp h.1 hT Ii hw (fun q n cap k=>⟨hq q n cap k,ho _ _ _ k⟩) hb
theorem bR.mono {P C C' ω ω' w B b r x}(h:C.le C')
  (ho:∀j y v,aY C ω w B (.cell b j) y v->aY C' ω' w B (.cell b j) y v) (hb:bR P C ω w B b r x) (Ii:∀x,C'.T x->x.1=r->C.T x:=by exact fun _ h _=>h):bR P C' ω' w B b r x:=hb.imp ⟨h.k,h.b⟩ rfl ho h.t Ii
theorem aA.newRow {P:Program}{C ω w0 w C0 hp}(m:aA P C ω w0 C0 hp w)(cells:Array Value)(t:TypeId)(vs:List Value)
  (hv:∀(j:Nat) v,vs[j]?=En v->cells[j]?=En v) (Y:∀v∈vs,v.oneCell'=Gd):
  aA P (C.put w.heap.size 0 vs) ω w0 C0 hp (w.alloc (.cells cells t)):=by
 have M:Ext w (w.alloc (.cells cells t)):=Ext.alloc w _ (fun c t fr h=>by cases h;rfl);have m':=m.ext M;have hn:∀o,C.K w.heap.size o=Ga:=m.lg _ (If _);have hle:=aV.hO (C:=C) (off:=0) vs (fun o _=>hn o);refine { m' with know:=?_,dr:=?_,apart:=?_,grown:=aV.le_trans m.grown hle,old:=?_,box:=?_ }
 .intro r o v hk;simp only[aV.put]at hk;split at hk
  .rename_i hc;obtain⟨rfl,_,_⟩:=hc;simp only[World.cell?];rw[wV,if_pos rfl];simpa using hv _ _ hk
  .exact m'.know r o v hk
 .intro r o v hk;simp only[aV.put]at hk;split at hk
  .exact Y v (Js hk)
  .exact m.dr r o v hk
 .intro b r o hb;have:=(m.lt b r hb).1;simp only[aV.put];rw[if_neg (by omega)];exact m.apart b r o hb
 .intro r o Q hw;have:=m.size;simp only[aV.put];rw[if_neg (by omega)];exact m.old r o Q hw
 .intro b x r fD hb;exact((m.box b x r fD hb).mono (ω':=ω) hle fun j y v ho=>ho.put vs (.inl (If _))).ext M
theorem ar.put {C:aV}{ω w B e tmps r off}(vs:List Value)(Q:w.heap.size<=r\/∀s,jp s e≠Ga->(jp s e).any (·.2)=Gd->ω r≠En (.slot s))(hn:∀o,off<=o->C.K r o=Ga)(he:ar C ω w B e tmps):ar (C.put r off vs) ω w B e tmps:=
 fun s x M=>let ⟨v,a,b,d⟩:=he s x M; ⟨v,a,aO.mono (aV.hO vs hn) b,fun e=>(d e).put vs (Q.imp id fun h=>h s (by rw[M];simp) (by rw[M];exact e))⟩
def cS (ω:Nat->Option Loc)(r:Nat)(ℓ:Loc):Nat->Option Loc:=fun b=>if b=r then En ℓ else ω b
theorem aY.other {C ω w B r ℓ ℓ' x v}(Q:ω r≠En ℓ\/ℓ=ℓ')(ho:aY C ω w B ℓ x v):aY C (Abs.cS ω r ℓ') w B ℓ x v:=by
 unfold aY at *;split at ho
 .rename_i a len cap;obtain⟨Y,I⟩:=ho;refine⟨?_,I⟩;simp only[Abs.cS];by_cases hb:a.block=r
  .rw[if_pos hb];rcases Q with Q|Q
   .exact absurd (hb▸Y) Q
   .rw[Q]
  .rw[if_neg hb];exact Y
 .rename_i a;obtain⟨Y,I⟩:=ho;refine⟨?_,I⟩;simp only[Abs.cS];by_cases hb:a.block=r
  .rw[if_pos hb];rcases Q with Q|Q
   .exact absurd (hb▸Y) Q
   .rw[Q]
  .rw[if_neg hb];exact Y
 .trivial
theorem aY.fresh {C ω w B r ℓ ℓ' x v}(Q:w.heap.size<=r)(ho:aY C ω w B ℓ x v):aY C (Abs.cS ω r ℓ') w B ℓ x v:=by
 unfold aY at *;split at ho
 .rename_i a len cap;obtain⟨Y,I,h3,h4,h8,⟨cells,elem,h5,h6⟩,h7⟩:=ho;have aW:a.block<w.heap.size:=(I1.1 h5).1;refine⟨?_,I,h3,h4,h8,⟨cells,elem,h5,h6⟩,h7⟩;simp only[Abs.cS];rw[if_neg (by omega)];exact Y
 .rename_i a;obtain⟨Y,I,h3,h4,h8,⟨cells,elem,h5,h6⟩,h7⟩:=ho;have aW:a.block<w.heap.size:=(I1.1 h5).1;refine⟨?_,I,h3,h4,h8,⟨cells,elem,h5,h6⟩,h7⟩;simp only[Abs.cS];rw[if_neg (by omega)];exact Y
 .trivial
theorem ar.fresh {C ω w B r ℓ e tmps}(Q:w.heap.size<=r)(he:ar C ω w B e tmps):ar C (Abs.cS ω r ℓ) w B e tmps:=
 fun s x M=>let ⟨v,a,b,d⟩:=he s x M; ⟨v,a,b,fun e=>(d e).fresh Q⟩
theorem aA.lI {P C ω w0 w C0 hp}(m:aA P C ω w0 C0 hp w)(r:Nat)(ℓ:Loc)(Q:w.heap.size<=r):aA P C (Abs.cS ω r ℓ) w0 C0 hp w:=
 { m with box:=fun b x r' M hb=>(m.box b x r' M hb).mono (aV.le_refl C) fun _ _ _ ho=>ho.fresh Q }
theorem aA.cS {P C ω w0 w C0 hp}(m:aA P C ω w0 C0 hp w)(r:Nat)(ℓ:Loc)(Q:∀b j,ω r≠En (.cell b j)):aA P C (Abs.cS ω r ℓ) w0 C0 hp w:=
 { m with box:=fun b x r' M hb=>(m.box b x r' M hb).mono (aV.le_refl C) fun j _ _ ho=>ho.other (.inl (Q b j)) }
def zn (P:Program)(C0:aV)(w0:World)(C:aV)(tmps:Array Value)(d:Loc)(env:Env)(res:bA)(v:Value)(w':World):Prop:=
 ∃C' ω',C.le C'/\aA P C' ω' w0 C0 res.heap w'/\ar C' ω' w' w0.heap.size (ye env res.strip) tmps/\bW C' res.v v/\(res.own=Gd->aY C' ω' w' w0.heap.size d res.v v)
theorem q0u (C:aV){v x}(h:FF v=En x):bW C x v:=by
 unfold FF at h
 split at h<;>first|cases h|skip
 .exact .bool _
 .exact .int _ _
 .exact .str _
 .exact .kD _
 .exact .bQ
 .exact .cg
 .exact .cx
theorem NR (C:aV):∀ {vs:List Value} {xs:List AVal},wS vs=En xs->bq C xs vs
 | [],xs,h=>by simp[wS]at h;subst h;exact .nil
 |v::vs,xs,h=>by
  simp only[wS]at h;split at h
  .rename_i x M;split at h
   .rename_i ys oB;cases h;exact .cons _ _ _ _ (q0u C M) (NR C oB)
   .cases h
  .cases h
theorem qw8 (C:aV){v x}(h:ofValue v=En x):bW C x v:=by
 unfold ofValue at h;split at h
 .rename_i cs;split at h
  .rename_i xs M;cases h;exact .agg _ _ (NR C M)
  .cases h
 .exact q0u C h
section
variable {P:Program}{C C0:aV}{ω:Nat->Option Loc}{w w0:World}{hp:qh}{env:Env}{a:Act}{B:Nat}
theorem qu {x y v}(he:bC C env a.tmps)(hc:qr x=En y)(hv:qi env y=En v):bW C v (a.eval x):=by
 cases x with
 |tmp t=>
  simp only[qr]at hc;cases hc;simp only[qi]at hv;split at hv
  .rename_i x M;cases hv;obtain⟨u,Y,I⟩:=he t x M
   have:a.eval (.tmp t)=u:=by simp[Act.eval,Jf,Y]
   rw[this];exact I
  .cases hv
 |const u=>
  simp only[qr]at hc;split at hc
  .rename_i z hz;cases hc;simp only[qi]at hv;cases hv;exact qw8 C hz
  .cases hc
 |func f=>
  simp only[qr]at hc;cases hc;simp only[qi]at hv;cases hv;exact .fn (.func f) (.func f) [] [] [] [] rfl .nil .nil
 |global g=>simp[qr]at hc
theorem FL (he:bC C env a.tmps):∀ {xs:List Operand} {ys:List jw} {vs:List AVal},rR xs=En ys->hH env ys=En vs->bq C vs (xs.map a.eval)
 | [],ys,vs,hc,hv=>by simp[rR]at hc;subst hc;simp[hH]at hv;subst hv;exact .nil
 |x::xs,ys,vs,hc,hv=>by
  simp only[rR]at hc;split at hc
  .rename_i y hy;split at hc
   .rename_i zs sT;cases hc;simp only[hH]at hv;split at hv
    .rename_i v pA;split at hv
     .rename_i us iD;cases hv;exact .cons _ _ _ _ (qu he hy pA) (FL he sT iD)
     .cases hv
    .cases hv
   .cases hc
  .cases hc
theorem bW.dx {b v}(h:bW C (.bool b) v):v=.bool b:=by cases h;rfl
theorem bW.bY {k n v}(h:bW C (.int k n) v):v=.int k n:=by cases h;rfl
theorem bW.cB {s v}(h:bW C (.str s) v):v=.string ⟨⟨s⟩⟩:=by cases h;rfl
theorem bW.dy {b o v}(h:bW C (.ptr b o) v):∃r,C.β b=En r/\v=.pointer (En ⟨r,o,Ga⟩):=by cases h;exact⟨_,‹_›,rfl⟩
theorem bW.fh {x v}(h:bW C (.aq x) v):∃r o,v=.pointer (En ⟨r,o,Ga⟩)/\cF C r x.flat o:=by cases h;exact⟨_,_,rfl,‹_›⟩
theorem bW.eM {cs v}(h:bW C (.agg cs) v):∃vs,v=.agg ⟨vs⟩/\bq C cs vs:=by cases h;exact⟨_,rfl,‹_›⟩
theorem bW.pB {cs v}(h:bW C (.aI cs) v):∃vs,v=.tuple ⟨vs⟩/\bq C cs vs:=by cases h;exact⟨_,rfl,‹_›⟩
theorem bW.fi {b o len v}(h:bW C (.ms b o len) v):∃r cap,C.β b=En r/\len<=cap/\v=.slice (En ⟨r,o,Ga⟩) len cap:=by cases h;exact⟨_,_,‹_›,‹_›,rfl⟩
theorem bW.cU {n sz xs v}(h:bW C (.list n sz xs) v):
  (n=Gd/\xs=[]/\v=.slice Ga 0 0)\/(n=Gb/\∃r o cap,v=.slice (En ⟨r,o,Ga⟩) xs.length cap/\xs.length<=cap/\bE C r sz xs o)\/(n=Gb/\xs=[]/\∃a,a.spot≠Ga/\v=.slice (En a) 0 0):=by
 cases h
 .exact .inl ⟨rfl,rfl,rfl⟩
 .exact .inr (.inl ⟨rfl,_,_,_,rfl,‹_›,‹_›⟩)
 .exact .inr (.inr ⟨rfl,rfl,_,‹_›,rfl⟩)
theorem bW.len {n sz xs v}(h:bW C (.list n sz xs) v):∃b cap,v=.slice b xs.length cap:=by
 rcases h.cU with⟨rfl,rfl,rfl⟩|⟨rfl,r,o,cap,rfl,_,_⟩|⟨rfl,rfl,a,_,rfl⟩
 .exact⟨Ga,0,rfl⟩
 .exact⟨_,_,rfl⟩
 .exact⟨_,_,rfl⟩
theorem add_lit (r o n:Nat):(⟨r,o,Ga⟩:Addr).add n=⟨r,o+n,Ga⟩:=by unfold Addr.add;split<;>simp_all
theorem wW (k:IntKind)(n:Int):qd k n=k.wrap n:=by
 unfold qd
 cases h:sN k n with
 |false=>rfl
 |true=>
  simp only[cond_true];symm
  have key:∀m:Nat,IntKind.min k<=n->n<=IntKind.max k->k.wrap n=n:=by
   intro _ Y I;unfold IntKind.wrap;cases k<;>simp[IntKind.bits,IntKind.signed,IntKind.min,IntKind.max]at *<;>omega
  refine key 0 ?_ ?_
  .cases k<;>cases n<;>simp[sN,IntKind.min,IntKind.signed,IntKind.bits]at *<;>omega
  .cases k<;>cases n<;>simp[sN,IntKind.max,IntKind.signed,IntKind.bits]at *<;>omega
theorem FM {t:TypeId}{b}(h:yu P t=En b)(w:World):(isAgg t).run P w=.ok b w:=by
 unfold yu at h;unfold isAgg
 cases hu:P.underlying t with
 |none=>simp[hu]at h|some d=>rw[hu]at h;simp[run_underlying hu];cases d<;>simp at h<;>subst h<;>rfl
theorem yt {t:TypeId}{n}(h:jt P t=En n)(w:World):(sizeOf t).run P w=.ok n w:=by
 unfold jt at h
 cases hi:P.info? t with
 |none=>simp[hi]at h|some i=>simp[hi]at h;simp[sizeOf,typeInfo,hi,h]
theorem q8j {t:TypeId}{ag n off cs vs x}(hg:yu P t=En ag)(hn:jt P t=En n)(hp:part ag cs off n=En x)(Q:bq C cs vs)(w:World):
  ∃v,(Go.part t ⟨vs⟩ off).run P w=.ok v w/\bW C x v:=by
 unfold part at hp
 cases ag with
 |true=>
  simp only[cond_true]at hp
  cases hb:H2 (off+n) cs.length with
  |false=>simp[hb]at hp
  |true=>
   simp[hb]at hp;subst hp;refine⟨.agg ⟨(vs.drop off).take n⟩,?_,.agg _ _ ((Q.drop off).take n)⟩;simp[Go.part,FM hg,yt hn]
 |false=>
  simp only[cond_false]at hp;obtain⟨v,Y,I⟩:=Q.get hp;exact⟨v,by simp[Go.part,FM hg,Y],I⟩
theorem qt8 (a:aj):(⟨⟨a⟩⟩:ByteArray).toList=a:=by
 rw[ByteArray.toList_eq]
end
theorem Ui:∀ {ks:List Kd} {xs ys:List AVal} (Ij:List Kd) (gv pC:List AVal),xs.length=ks.length->ys.length=ks.length ->
  yx (ks++Ij) (xs++gv) (ys++pC)=match yx ks xs ys with|some Gd=>yx Ij gv pC|r=>r
 | [],[],[],Ij,gv,pC,_,_=>by simp[yx]
 |k::ks,x::xs,y::ys,Ij,gv,pC,h,h'=>by
  simp only[Eah,yx]
  cases he:nQ k x y with
  |none=>simp
  |some b=>cases b with
   |false=>simp|true=>simpa using Ui Ij gv pC (by simpa using h) (by simpa using h')
 | [],_::_,_,_,_,_,h,_=>by simp at h
 | [],[],_::_,_,_,_,_,h=>by simp at h
 |_::_,[],_,_,_,_,h,_=>by simp at h
 |_::_,_::_,[],_,_,_,_,h=>by simp at h
def vi (ag:Bool)(us:List Value):Value:=if ag then .agg ⟨us⟩else us.headD undef
def NS:TypeDesc->Bool
 | .struct _=>Gd| .array _ _=>Gd|_=>Gb
section
variable {P:Program}{C:aV}
theorem jkm {t:TypeId}{d:TypeDesc}(h:P.underlying t=En d):yu P t=En (NS d):=by
 unfold yu;rw[h];cases d<;>rfl
theorem NT {t:TypeId}{ag n off us}(hg:yu P t=En ag)(hn:jt P t=En n)(Y:ag=Gb->n=1)(hl:off+n<=us.length)(w:World):
  (Go.part t ⟨us⟩ off).run P w=.ok (vi ag ((us.drop off).take n)) w:=by
 cases ag with
 |true=>simp[Go.part,FM hg,yt hn,vi]
 |false=>
  obtain rfl:=Y rfl
  have aW:off<us.length:=by omega
  simp only[Go.part,Sem.run_bind,FM hg,Result.andThen_ok,vi,Jb,if_false]
  have e:(⟨us⟩:Array Value)[off]?=En us[off]:=by
   show(List.toArray us)[off]?=_;rw[I9,Jc aW]
  rw[e,Vc aW];rfl
def Uj (P:Program)(C:aV)(n:Nat)(t:TypeId)(ks:List Kd):Prop:=
 ∃ag,yu P t=En ag/\jt P t=En ks.length/\(ag=Gb->ks.length=1)/\∀d,n<=d->∀xs ys us vs b w,bq C xs us->bq C ys vs->xs.length=ks.length->ys.length=ks.length->yx ks xs ys=En b ->
  (Op.equalIn d t (vi ag us) (vi ag vs)).run P w=.ok b w
theorem NU {α:Type}(xs:List α)(off n:Nat):xs.drop off=(xs.drop off).take n++xs.drop (off+n):=by
 rw[<-List.drop_drop];exact(List.take_append_drop _ _).symm
theorem qw9 {n d}(hd:n<=d):∀(fs:List Field) (off:Nat) (ks:List Kd) (xs ys:List AVal) (us vs:List Value) (b:Bool) (w:World),
  H7 (sR P n) off fs=En ks ->
  (∀f∈fs,∀ks,sR P n f.type=En ks->Uj P C n f.type ks) ->
  bq C xs us->bq C ys vs->xs.length=off+ks.length->ys.length=off+ks.length->yx ks (xs.drop off) (ys.drop off)=En b ->
  (Op.eqFields d ⟨us⟩ ⟨vs⟩ fs).run P w=.ok b w
 | [],off,ks,xs,ys,us,vs,b,w,hf,_,M,hy,mW,qI,he=>by
  simp[H7]at hf;subst hf;rw[Ju (by simp at mW;omega),Ju (by simp at qI;omega)]at he;simp[yx]at he;subst he;simp[Op.eqFields]
 |f::fs,off,ks,xs,ys,us,vs,b,w,hf,dG,M,hy,mW,qI,he=>by
  simp only[H7]at hf;split at hf
  .rename_i hc;simp at hc;obtain⟨Ik,wX⟩:=hc;split at hf
   .rename_i k1 hZ;split at hf
    .rename_i k2 dB;cases hf;obtain⟨ag,dp,dj,Y,heq⟩:=dG f (by simp) k1 hZ;have Uk:=M.length;have wY:=hy.length;simp at mW qI;have p1:=NT (P:=P) (us:=us) (off:=f.offset) dp dj Y (by omega) w;have p2:=NT (P:=P) (us:=vs) (off:=f.offset) dp dj Y (by omega) w;rw[NU xs off k1.length,NU ys off k1.length,Ui _ _ _ (by simp;omega) (by simp;omega)]at he;simp only[Op.eqFields,ne_eq,Ik,not_false_eq_true,if_true,Sem.run_bind,p1,p2,Result.andThen_ok];rw[wX]
     cases hb:yx k1 ((xs.drop off).take k1.length) ((ys.drop off).take k1.length)with
     |none=>rw[hb]at he;cases he
     |some b1=>
      rw[hb]at he;rw[heq d hd _ _ _ _ b1 w ((M.drop off).take _) ((hy.drop off).take _) (by simp;omega) (by simp;omega) hb]
      cases b1 with
      |false=>simp at he;subst he;simp
      |true=>
       simp only[Result.andThen_ok,Ean,Jb,if_false];exact qw9 hd fs (off+k1.length) k2 xs ys us vs b w dB (fun g hg=>dG g (by simp[hg])) M hy (by omega) (by omega) he
    .cases hf
   .cases hf
  .cases hf
theorem q19 {n d}(hd:n<=d){e:TypeId}{ag k1}(dp:yu P e=En ag)(dj:jt P e=En k1.length)(Y:ag=Gb->k1.length=1)
  (heq:∀d,n<=d->∀xs ys us vs b w,bq C xs us->bq C ys vs->xs.length=k1.length->ys.length=k1.length->yx k1 xs ys=En b->(Op.equalIn d e (vi ag us) (vi ag vs)).run P w=.ok b w):
  ∀(len i:Nat) (xs ys:List AVal) (us vs:List Value) (b:Bool) (w:World),
  bq C xs us->bq C ys vs->xs.length=i*k1.length+len*k1.length->ys.length=i*k1.length+len*k1.length->yx (Hc len k1).flatten (xs.drop (i*k1.length)) (ys.drop (i*k1.length))=En b ->
  (Op.eqItems d e k1.length ⟨us⟩ ⟨vs⟩ (List.range' i len)).run P w=.ok b w
 |0,i,xs,ys,us,vs,b,w,M,hy,mW,qI,he=>by
  rw[Ju (by simp at mW;omega),Ju (by simp at qI;omega)]at he;simp[yx]at he;subst he;simp[Op.eqItems]
 |len+1,i,xs,ys,us,vs,b,w,M,hy,mW,qI,he=>by
  have Uk:=M.length;have wY:=hy.length;rw[Jr]at mW qI;have p1:=NT (P:=P) (us:=us) (off:=i*k1.length) dp dj Y (by omega) w;have p2:=NT (P:=P) (us:=vs) (off:=i*k1.length) dp dj Y (by omega) w;rw[J1,Oh,NU xs (i*k1.length) k1.length,NU ys (i*k1.length) k1.length,Ui _ _ _ (by simp;omega) (by simp;omega)]at he;simp only[List.range'_succ,Op.eqItems,Sem.run_bind,p1,p2,Result.andThen_ok]
  cases hb:yx k1 ((xs.drop (i*k1.length)).take k1.length) ((ys.drop (i*k1.length)).take k1.length)with
  |none=>rw[hb]at he;cases he
  |some b1=>
   rw[hb]at he;rw[heq d hd _ _ _ _ b1 w ((M.drop _).take _) ((hy.drop _).take _) (by simp;omega) (by simp;omega) hb]
   cases b1 with
   |false=>simp at he;subst he;simp
   |true=>
    simp only[Result.andThen_ok,Ean,Jb,if_false];refine q19 hd dp dj Y heq len (i+1) xs ys us vs b w M hy (by rw[mW,Jr];omega) (by rw[qI,Jr];omega) ?_;rw[Jr];exact he
theorem q5x {t:TypeId}{n}(h:jt P t=En n):P.cellsOf t=n:=by
 unfold jt at h;unfold Program.cellsOf;rw[h];rfl
theorem q5m {t:TypeId}{n}(h:jt P t=En n):∃i,P.info? t=En i/\i.size=n:=by
 unfold jt at h
 cases hi:P.info? t with
 |none=>simp[hi]at h|some i=>exact⟨i,rfl,by simpa[hi]using h⟩
theorem ja8 {k x y b}(h:yx [k] [x] [y]=En b):nQ k x y=En b:=by
 simp only[yx]at h;split at h<;>simp_all
theorem jhx {xs us}(h:bq C xs us)(hl:xs.length=1):∃x u,xs=[x]/\us=[u]/\bW C x u:=by
 obtain⟨x,rfl⟩:=Vy.1 hl
 cases h with
 |cons _ _ u vs M h=>cases h;exact⟨x,u,rfl,rfl,M⟩
theorem q8p {k x y b u v}(h:nQ k x y=En b)(M:bW C x u)(hy:bW C y v):
  match k with
  | .int=>∃kd a c,u=.int kd a/\v=.int kd c/\b=(a == c)| .str=>∃a c:aj,u=.string ⟨⟨a⟩⟩/\v=.string ⟨⟨c⟩⟩/\b=(a == c)
  | .bool=>∃a c,u=.bool a/\v=.bool c/\b=(a == c):=by
 unfold nQ at h;split at h
 .rename_i k a k' c;cases M;cases hy;by_cases hk:k=k'
  .subst hk;simp at h;exact⟨_,_,_,rfl,rfl,h.symm⟩
  .simp[hk]at h
 .cases M;cases hy;cases h;exact⟨_,_,rfl,rfl,rfl⟩
 .cases M;cases hy;cases h;exact⟨_,_,rfl,rfl,rfl⟩
 .cases h
theorem q9z {t:TypeId}{k x y b u v}(hk:lH P t=En k)(h:nQ k x y=En b)(M:bW C x u)(hy:bW C y v)(d:Nat)(w:World):
  (Op.equalIn (d+1) t u v).run P w=.ok b w:=by
 have hc:=q8p h M hy;unfold lH at hk
 cases hu:P.underlying t with
 |none=>simp[hu]at hk
 |some D=>
  rw[hu]at hk;cases D<;>simp at hk<;>subst hk<;>simp only[]at hc
  .obtain⟨a,c,rfl,rfl,rfl⟩:=hc;exact run_equalIn_bool w d t a c hu
  .obtain⟨kd,a,c,rfl,rfl,rfl⟩:=hc;exact run_equalIn_int w d t kd _ a c hu
  .obtain⟨a,c,rfl,rfl,rfl⟩:=hc;rw[run_equalIn_string w d t _ _ hu,qt8,qt8]
theorem Ul:∀ (n:Nat) (t:TypeId) (ks:List Kd),sR P n t=En ks->Uj P C n t ks
 |0,t,ks,h=>by simp[sR]at h
 |n+1,t,ks,h=>by
  unfold sR at h
  cases hu:P.underlying t with
  |none=>simp[hu]at h
  |some D=>
   rw[hu]at h;have dp:=jkm hu
   have scalar:∀k,ks=[k]->jt P t=En 1->lH P t=En k->NS D=Gb->Uj P C (n+1) t ks:=by
    intro k hks G hk ha;subst hks;refine⟨Gb,by rw[dp,ha],G,fun _=>rfl,?_⟩;intro d hd xs ys us vs b w M hy mW qI he;obtain⟨d,rfl⟩:∃m,d=m+1:=⟨d-1,by omega⟩;obtain⟨x,u,rfl,rfl,FN⟩:=jhx M mW;obtain⟨y,v,rfl,rfl,hy1⟩:=jhx hy qI;exact q9z hk (ja8 he) FN hy1 d w
   cases D<;>simp only[]at h<;>first|(simp at h;done)|skip
   case int k=>
    split at h<;>first|cases h|skip
    rename_i G;exact scalar .int rfl (by simpa using G) (by simp[lH,hu]) rfl
   case bool=>
    split at h<;>first|cases h|skip
    rename_i G;exact scalar .bool rfl (by simpa using G) (by simp[lH,hu]) rfl
   case string=>
    split at h<;>first|cases h|skip
    rename_i G;exact scalar .str rfl (by simpa using G) (by simp[lH,hu]) rfl
   case array len e=>
    split at h
    .rename_i k1 hZ;split at h
     .rename_i G;cases h;obtain⟨ag,Um,dj,Y,heq⟩:=Ul n e k1 hZ
      have hlen:(Hc len k1).flatten.length=len*k1.length:=by simp[List.length_flatten]
      refine⟨Gd,by simpa[NS]using dp,by rw[hlen];simpa using G,(fun h=>by cases h),?_⟩;intro d hd xs ys us vs b w M hy mW qI he;obtain⟨d,rfl⟩:∃m,d=m+1:=⟨d-1,by omega⟩;obtain⟨i,hi,_⟩:=q5m dj;simp only[vi,if_true];rw[run_equalIn_array w d _ _ hu hi,q5x dj,List.range_eq_range'];exact q19 (by omega) Um dj Y heq len 0 xs ys us vs b w M hy (by rw[mW,hlen];omega) (by rw[qI,hlen];omega) (by simpa using he)
     .cases h
    .cases h
   case struct fs=>
    split at h
    .rename_i k1 hZ;split at h
     .rename_i G;cases h;simp at G;obtain⟨hso,dj⟩:=G;refine⟨Gd,by simpa[NS]using dp,dj,(fun h=>by cases h),?_⟩;intro d hd xs ys us vs b w M hy mW qI he;obtain⟨d,rfl⟩:∃m,d=m+1:=⟨d-1,by omega⟩;simp only[vi,if_true]
      have hf:P.fieldsOf t=fs:=by simp[Program.fieldsOf,hu]
      rw[run_equalIn_struct w d t _ _ (by rw[hf];exact hu) hso,hf];exact qw9 (n:=n) (by omega) fs.toList 0 _ xs ys us vs b w hZ (fun f _ ks hp=>Ul n f.type ks hp) M hy (by omega) (by omega) (by simpa using he)
     .cases h
    .cases h
end
section
variable {P:Program}{C:aV}{w:World}{env:Env}{a:Act}{o:Oper}
def Val (P:Program)(C:aV)(a:Act)(o:Oper)(w:World)(x:AVal):Prop:=∃v,(execOp a.eval o).run P w=.ok (.value v) w/\bW C x v
theorem jny {x y v}(he:bC C env a.tmps)(ho:o.op=.move x\/o.op=.assign x)(hc:qr x=En y)(hv:qi env y=En v):Val P C a o w v:=by
 refine⟨a.eval x,?_,qu he hc hv⟩;rcases ho with ho|ho<;>simp[execOp,ho]
theorem jld {c x y c' x' y' b u v}(he:bC C env a.tmps)(ho:o.op=.pick c x y)(Y:qr c=En c')(I:qr x=En x')(h3:qr y=En y')
  (e1:qi env c'=En (.bool b)) (e2:qi env x'=En u) (e3:qi env y'=En v):Val P C a o w (bif b then u else v):=by
 have r1:=(qu he Y e1).dx;have r2:=qu he I e2;have r3:=qu he h3 e3;refine⟨if b then a.eval x else a.eval y,by simp[execOp,ho,r1,asBool],?_⟩;cases b<;>simpa
theorem qti {x y v}(he:bC C env a.tmps)(ho:o.op=.nilCheck x)(hc:qr x=En y)(hv:qi env y=En v)
  (hk:(∃b p,v=.ptr b p)\/(∃z,v=.aq z)):Val P C a o w v:=by
 have r:=qu he hc hv;rcases hk with⟨b,p,rfl⟩|⟨z,rfl⟩
 .obtain⟨q,_,hq⟩:=r.dy;exact⟨a.eval x,by simp[execOp,ho,hq],r⟩
 .obtain⟨q,p,hq,_⟩:=r.fh;exact⟨a.eval x,by simp[execOp,ho,hq],r⟩
theorem Un (op:BinOp)(k:IntKind)(x y:Int)(t:TypeId)(Y:op≠.shl)(I:op≠.shr):binOp op t (.int k x) (.int k y)=match op with
  | .add | .sub | .mul=>Op.intArith op k x y| .quo | .rem=>Op.intDiv op k x y| .and | .or | .xor | .andNot=>Op.intBits op k x y
  |_=>Op.intCmp op x y:=by
 cases op<;>simp at Y I<;>simp[binOp]
theorem jgo {op k x y v}(h:ox op k x y=En v)(t:TypeId)(w:World):∃u,(binOp op t (.int k x) (.int k y)).run P w=.ok u w/\bW C v u:=by
 unfold ox at h
 cases op<;>simp only[]at h<;>first|(cases h;done)|skip
 case quo=>
  cases hy:(y == 0)with
  |true=>simp[hy]at h
  |false=>
   simp[hy]at h;subst h
   have:y≠0:=by simpa using hy
   rw[wW,Un _ _ _ _ _ (by simp) (by simp)];refine⟨_,?_,.int _ _⟩;simp[Op.intDiv,this]
 case rem=>
  cases hy:(y == 0)with
  |true=>simp[hy]at h
  |false=>
   simp[hy]at h;subst h
   have:y≠0:=by simpa using hy
   rw[Un _ _ _ _ _ (by simp) (by simp)];refine⟨_,?_,.int _ _⟩;simp[Op.intDiv,this]
 all_goals (cases h;rw[Un _ _ _ _ _ (by simp) (by simp)];try rw[wW])
 all_goals first
  |exact⟨_,rfl,.int _ _⟩
  |exact⟨_,rfl,.bool _⟩
theorem qs6:∀ (x y:aj),bytesLess x y=Op.bytesLess x y
 |x,[]=>by cases x<;>rfl
 | [],_::_=>rfl
 |a::x,b::y=>by simp only[bytesLess,Op.bytesLess,qs6 x y]
theorem jg6 {op x y v}(h:FC op x y=En v)(t:TypeId)(w:World):∃u,(binOp op t (.string ⟨⟨x⟩⟩) (.string ⟨⟨y⟩⟩)).run P w=.ok u w/\bW C v u:=by
 unfold FC at h
 cases op<;>simp only[]at h<;>first|(cases h;done)|skip
 .cases hb:H2 (x.length+y.length) 4611686018427387904 with
  |false=>simp[hb]at h
  |true=>
   simp[hb]at h;subst h;have hle:x.length+y.length<=4611686018427387904:=Jg hb;refine⟨.string ⟨⟨x++y⟩⟩,?_,.str _⟩;have e1:(⟨⟨x⟩⟩:ByteArray).size=x.length:=rfl;have e2:(⟨⟨y⟩⟩:ByteArray).size=y.length:=rfl
   have e3:(⟨⟨x⟩⟩:ByteArray)++⟨⟨y⟩⟩=⟨⟨x++y⟩⟩:=by
    apply ByteArray.ext;simp[ByteArray.data_append]
   simp only[binOp,Op.stringOp,e1,e2,e3,IntKind.max,IntKind.signed,IntKind.bits];rw[if_neg (by simp;omega)];rfl
 all_goals (cases h;refine⟨_,?_,.bool _⟩;simp[binOp,Op.stringOp,qs6])
theorem je9 {op x y v u u'}(h:yb op x y=En v)(M:bW C x u)(hy:bW C y u')(t:TypeId)(w:World):∃z,(binOp op t u u').run P w=.ok z w/\bW C v z:=by
 unfold yb at h;split at h
 .rename_i k a k' b;obtain rfl:=M.bY;obtain rfl:=hy.bY
  have hsh:∀(op:BinOp),(op=.shl\/op=.shr)->NH op k a b=En v->∃z,(binOp op t (.int k a) (.int k' b)).run P w=.ok z w/\bW C v z:=by
   intro op hop h;unfold NH at h
   cases hb:decide (b<0)with
   |true=>simp[hb]at h
   |false=>
    have fW:¬b<0:=by simpa using hb
    rcases hop with rfl|rfl<;>simp[hb]at h<;>subst h
    .rw[wW]; (refine⟨_,?_,.int _ _⟩;simp[binOp,Op.shift,fW])
    ·(refine⟨_,?_,.int _ _⟩;simp[binOp,Op.shift,fW])
  have hin:op≠.shl->op≠.shr->(bif decide (k=k')then ox op k a b else Ga)=En v->∃z,(binOp op t (.int k a) (.int k' b)).run P w=.ok z w/\bW C v z:=by
   intro _ _ h;by_cases hk:k=k'
   .subst hk;simp at h;exact jgo h t w
   .simp[hk]at h
  cases op<;>simp only[]at h<;>first|exact hsh _ (.inl rfl) h|exact hsh _ (.inr rfl) h|exact hin (by simp) (by simp) h
 .obtain rfl:=M.cB;obtain rfl:=hy.cB;exact jg6 h t w
 .cases h
theorem jb0 (op:BinOp)(t:TypeId)(x y:Operand)(u v:Value)(w:World)(Y:¬(u=.nilIface/\v=.nilIface))(I:(∀cs,u≠.agg cs)\/P.eqGuardType P.depth t=Gb):(eqGuard op t x y u v).run P w=.ok () w:=by
 unfold eqGuard;by_cases hop:(!(match op with | .eql | .neq=>Gd|_=>Gb))=Gd
 .cases op<;>simp_all
 .cases op<;>simp at hop ⊢
  all_goals (
   split
   ·exact absurd ⟨rfl,rfl⟩ Y
   ·rcases I with I|I
    ·rename_i cs _ ;exact absurd rfl (I cs)
    ·simp[I]
   ·rfl)
theorem NV {op}{t u:TypeId}{x y p q z}(ho:o.op=.binOp op t x y u)(M:a.eval x=p)(hy:a.eval y=q)(Y:¬(p=.nilIface/\q=.nilIface))(I:(∀cs,p≠.agg cs)\/P.eqGuardType P.depth t=Gb)
  (hz:(binOp op t p q).run P w=.ok z w):(execOp a.eval o).run P w=.ok (.value z) w:=by
 have hg:=jb0 (P:=P) op t x y p q w Y I;subst M;subst hy;simp only[execOp,ho,Sem.run_bind,hg,Result.andThen_ok,hz,Sem.run_pure]
theorem q5r {x v}(h:bW C x v)(M:x≠.undef)(hy:x≠.any:=by simp):v≠.nilIface:=by
 cases h<;>simp at M hy ⊢
theorem q5l {op x y v}(h:yb op x y=En v):(x≠.undef/\(∀cs,x≠.agg cs)/\x≠.any):=by
 unfold yb at h;split at h<;>simp at h ⊢
theorem jbz {x v}(h:bW C x v)(M:x≠.undef)(ha:∀cs,x≠.agg cs)(hy:x≠.any:=by simp):∀cs,v≠.agg cs:=by
 cases h<;>simp at M ha hy ⊢
theorem jsr {op}{t u:TypeId}{x y x' y' p q v}(he:bC C env a.tmps)(ho:o.op=.binOp op t x y u)(Y:qr x=En x')(I:qr y=En y')
  (e1:qi env x'=En p) (e2:qi env y'=En q) (hv:yb op p q=En v):Val P C a o w v:=by
 have r1:=qu he Y e1;have r2:=qu he I e2;obtain⟨hn,ha,hy⟩:=q5l hv;obtain⟨z,hz,Q⟩:=je9 (P:=P) hv r1 r2 t w;refine⟨z,?_,Q⟩;exact NV ho rfl rfl (fun h=>q5r r1 hn hy h.1) (.inl (jbz r1 hn ha hy)) hz
theorem Uo {neq}{t:TypeId}{u v b}(w:World)(hu:(∀k n,u≠.int k n)/\(∀s,u≠.string s)/\(∀k n,u≠.float k n)/\(∀k n m,u≠.complex k n m))
  (h:(Op.equal t u v).run P w=.ok b w):(binOp (if neq then .neq else .eql) t u v).run P w=.ok (.bool (bif neq then !b else b)) w:=by
 obtain⟨Y,I,h3,h4⟩:=hu;cases neq<;>cases u<;>simp_all [binOp]
theorem jtv {op neq}{t u:TypeId}{x y x' y' p q ks b}(he:bC C env a.tmps)(ho:o.op=.binOp op t x y u)(hop:op=if neq then .neq else .eql)
  (Y:qr x=En x') (I:qr y=En y') (e1:qi env x'=En (.agg p)) (e2:qi env y'=En (.agg q)) (hg:P.eqGuardType P.depth t=Gb) (hk:sR P NK t=En ks) (dp:yu P t=En Gd)
  (eu:p.length=ks.length) (eA:q.length=ks.length) (hb:yx ks p q=En b):Val P C a o w (.bool (bif neq then !b else b)):=by
 obtain⟨us,hu,ru⟩:=(qu he Y e1).eM;obtain⟨vs,hv,rv⟩:=(qu he I e2).eM;obtain⟨ag,ha,_,_,heq⟩:=Ul (C:=C) NK t ks hk;rw[dp]at ha;cases ha;have hq:=heq 10000 (by decide) p q us vs b w ru rv eu eA hb;simp only[vi,if_true]at hq;refine⟨_,?_,.bool _⟩;have sU:=Uo (P:=P) (neq:=neq) (t:=t) (u:=.agg ⟨us⟩) (v:=.agg ⟨vs⟩) (b:=b) w ⟨by simp,by simp,by simp,by simp⟩ hq;exact NV (hop▸ho) hu hv (by simp) (.inr hg) sU
theorem jvp {op neq}{t u:TypeId}{x y x' y' p q}(he:bC C env a.tmps)(ho:o.op=.binOp op t x y u)(hop:op=if neq then .neq else .eql)
  (Y:qr x=En x') (I:qr y=En y') (e1:qi env x'=En (.bool p)) (e2:qi env y'=En (.bool q)) (ht:P.underlying t=En .bool):Val P C a o w (.bool (bif neq then !(p == q)else p == q)):=by
 have hu:=(qu he Y e1).dx;have hv:=(qu he I e2).dx;refine⟨_,?_,.bool _⟩;have sU:=Uo (P:=P) (neq:=neq) (t:=t) (u:=.bool p) (v:=.bool q) (b:=p == q) w ⟨by simp,by simp,by simp,by simp⟩ (run_equalIn_bool w 9999 t p q ht);exact NV (hop▸ho) hu hv (by simp) (.inl (by simp)) sU
theorem jib {op neq b}{t u:TypeId}{x y c}(ho:o.op=.binOp op t x y u)(hop:op=if neq then .neq else .eql)
  (hy:a.eval y=c) (bN:(∀k n,a.eval x≠.int k n)/\(∀s,a.eval x≠.string s)/\(∀k n,a.eval x≠.float k n)/\(∀k n m,a.eval x≠.complex k n m)) (dp:∀cs,a.eval x≠.agg cs) (Up:a.eval x≠.nilIface)
  (h:(Op.equal t (a.eval x) c).run P w=.ok b w):Val P C a o w (.bool (bif neq then !b else b)):=by
 refine⟨_,?_,.bool _⟩;have sU:=Uo (P:=P) (neq:=neq) w bN h;exact NV (hop▸ho) rfl hy (fun h=>Up h.1) (.inl dp) sU
theorem jx3 {op}{t:TypeId}{x x' p v}(he:bC C env a.tmps)(ho:o.op=.unOp op t x)(Y:qr x=En x')(e1:qi env x'=En p)(hv:yH op p=En v):Val P C a o w v:=by
 have r1:=qu he Y e1;unfold yH at hv;split at hv
 .obtain hu:=r1.bY;cases hv;rw[wW]
  (refine⟨_,?_,.int _ _⟩;simp[execOp,ho,hu,Op.unary,Op.intArith])
 .obtain hu:=r1.dx;cases hv
  (refine⟨_,?_,.bool _⟩;simp[execOp,ho,hu,Op.unary])
 .cases hv
theorem jpv {s d:TypeId}{k k0 x x' k1 n}(he:bC C env a.tmps)(ho:o.op=.convert s d x)(G:P.underlying s=En (.int k0))(hd:P.underlying d=En (.int k))
  (Y:qr x=En x') (e1:qi env x'=En (.int k1 n)):Val P C a o w (.int k (qd k n)):=by
 have hu:=(qu he Y e1).bY;rw[wW]
 (refine⟨_,?_,.int _ _⟩;simp[execOp,ho,hu,convert,run_underlying G,run_underlying hd,Conv.intToInt])
theorem jb3 {s d:TypeId}{x x' v}(he:bC C env a.tmps)(ho:o.op=.convert s d x)(G:P.underlying s=En .string)(hd:P.underlying d=En .string)
  (Y:qr x=En x') (e1:qi env x'=En v) (hv:∃l,v=.str l):Val P C a o w v:=by
 obtain⟨l,rfl⟩:=hv;have r:=qu he Y e1;have hu:=r.cB;exact⟨_,by simp[execOp,ho,hu,convert,run_underlying G,run_underlying hd];rfl,by rw[<-hu];exact r⟩
theorem q89 {s d:TypeId}{x x' v k0}(he:bC C env a.tmps)(ho:o.op=.convert s d x)(G:P.underlying s=En (.int k0))(hd:P.underlying d=En .string)
  (Y:qr x=En x') (e1:qi env x'=En v) (hv:∃l,v=.str l):Val P C a o w v:=by
 obtain⟨l,rfl⟩:=hv;have r:=qu he Y e1;have hu:=r.cB;exact⟨_,by simp[execOp,ho,hu,convert,run_underlying G,run_underlying hd];rfl,by rw[<-hu];exact r⟩
theorem jbx {s d:TypeId}{x x' k0 k1 n}(he:bC C env a.tmps)(ho:o.op=.convert s d x)(G:P.underlying s=En (.int k0))(hd:P.underlying d=En .string)
  (Y:qr x=En x') (e1:qi env x'=En (.int k1 n)):Val P C a o w (.str (Utf8.encode n).data.toList):=by
 have hu:=(qu he Y e1).bY;exact⟨.string (Utf8.encode n),by simp[execOp,ho,hu,convert,run_underlying G,run_underlying hd,Conv.intToString],.str _⟩
theorem jau {s d:TypeId}{x x' k1 n}(he:bC C env a.tmps)(ho:o.op=.convert s d x)(G:P.underlying s=En .string)(hd:P.underlying d=En .string)
  (Y:qr x=En x') (e1:qi env x'=En (.int k1 n)):Val P C a o w (.str (Utf8.encode n).data.toList):=by
 have hu:=(qu he Y e1).bY;exact⟨.string (Utf8.encode n),by simp[execOp,ho,hu,convert,run_underlying G,run_underlying hd,Conv.intToString],.str _⟩
theorem jjd {t:TypeId}{x x' i fs f ag n cs v}(he:bC C env a.tmps)(ho:o.op=.field t x i)(ht:P.underlying t=En (.struct fs))(hf:fs[i]?=En f)
  (dp:yu P f.type=En ag) (hn:jt P f.type=En n) (Y:qr x=En x') (e1:qi env x'=En (.agg cs)) (hv:Abs.part ag cs f.offset n=En v):Val P C a o w v:=by
 obtain⟨us,hu,ru⟩:=(qu he Y e1).eM;obtain⟨z,hz,Q⟩:=q8j dp hn hv ru w;refine⟨z,?_,Q⟩;simp[execOp,ho,hu,Instr.field,run_underlying ht,hf,asAgg,hz]
theorem Il {n v j}(h:idx n v=En j):∃k,v=.int k (j:Int)/\j<n:=by
 unfold idx at h;split at h
 .rename_i k i
  cases hb:I7 i n with
  |false=>simp[hb]at h
  |true=>
   simp[hb]at h;subst h;exact⟨k,rfl,by have:=Jg hb;omega⟩
 .cases h
theorem ji4 {n v j}(h:AQ n v=En j):∃k,v=.int k (j:Int)/\j<=n:=by
 unfold AQ at h;split at h
 .rename_i k i
  cases hb:H2 i n with
  |false=>simp[hb]at h
  |true=>
   simp[hb]at h;subst h;exact⟨k,rfl,Jg hb⟩
 .cases h
theorem jhv {t e:TypeId}{x i x' i' len n ag cs iv v j}(he:bC C env a.tmps)(ho:o.op=.index t x i)(ht:P.underlying t=En (.array len e))
  (dp:yu P e=En ag) (hn:jt P e=En n) (Y:qr x=En x') (I:qr i=En i') (e1:qi env x'=En (.agg cs)) (e2:qi env i'=En iv) (hj:idx len iv=En j) (hv:Abs.part ag cs (j*n) n=En v):Val P C a o w v:=by
 obtain⟨us,hu,ru⟩:=(qu he Y e1).eM;obtain⟨k,rfl,aW⟩:=Il hj;have hi:=(qu he I e2).bY;obtain⟨z,hz,Q⟩:=q8j dp hn hv ru w;refine⟨z,?_,Q⟩;simp[execOp,ho,hu,hi,Instr.index,asIntOf,run_underlying ht,aW,yt hn,hz]
theorem q7j {t:TypeId}{x i x' i' s iv j c}(he:bC C env a.tmps)(ho:o.op=.index t x i)(ht:P.underlying t=En .string)
  (Y:qr x=En x') (I:qr i=En i') (e1:qi env x'=En (.str s)) (e2:qi env i'=En iv) (hj:idx s.length iv=En j) (hc:s[j]?=En c):Val P C a o w (.int .u8 c.toNat):=by
 have hu:=(qu he Y e1).cB;obtain⟨k,rfl,aW⟩:=Il hj;have hi:=(qu he I e2).bY;refine⟨_,?_,.int _ _⟩
 have hb:(⟨⟨s⟩⟩:ByteArray)[j]?=En c:=by
  rw[getElem?_pos (ByteArray.mk ⟨s⟩) j aW];exact congrArg En (I5.1 hc).2
 simp[execOp,ho,hu,hi,Instr.index,asIntOf,run_underlying ht,hb]
end
section
variable {P:Program}{C:aV}{w:World}{env:Env}{a:Act}{o:Oper}
theorem qcc {z:AVal}(h:z.isAgg=Gb):z.flat=[z]:=by cases z<;>simp[AVal.isAgg,AVal.flat]at *
theorem jcj {ag:Bool}{cs off n r q z}(hc:cF C r cs q)(hz:Abs.part ag cs off n=En z)(M:St ag z.isAgg=Gb):cF C r z.flat (q+off):=by
 unfold Abs.part at hz
 cases ag with
 |true=>
  simp only[cond_true]at hz
  cases hb:H2 (off+n) cs.length with
  |false=>simp[hb]at hz|true=>simp[hb]at hz;subst hz;exact cF.take n (cF.drop off hc)
 |false=>
  simp only[cond_false]at hz;rw[qcc (by simpa using M)];obtain⟨u,Y,I⟩:=hc.get hz;exact .dE _ _ _ _ u Y I (.iL _ _)
theorem qsh {t:TypeId}{x x' i fs f ag n p v}(he:bC C env a.tmps)(ho:o.op=.fieldAddr t x i)(ht:P.underlying t=En (.struct fs))(hf:fs[i]?=En f)
  (hn:jt P f.type=En n) (A4:0<n) (Y:qr x=En x') (e1:qi env x'=En p)
  (hv:(∃b q,p=.ptr b q/\v=.ptr b (q+f.offset))\/(∃cs z,p=.aq (.agg cs)/\Abs.part ag cs f.offset n=En z/\St ag z.isAgg=Gb/\v=.aq z)):Val P C a o w v:=by
 have bJ:∀r q,a.eval x=.pointer (En ⟨r,q,Ga⟩)->(execOp a.eval o).run P w=.ok (.value (.pointer (En ⟨r,q+f.offset,Ga⟩))) w:=by
  intro r q hq;simp[execOp,ho,Instr.fieldAt,run_underlying ht,hf,hq,Instr.sureAddr,fieldPlace,yt hn,Xo.1 A4,add_lit]
 rcases hv with⟨b,q,rfl,rfl⟩|⟨cs,z,rfl,hz,M,rfl⟩
 .obtain⟨r,Q,hq⟩:=(qu he Y e1).dy;exact⟨_,bJ r q hq,.ptr _ _ _ Q⟩
 .obtain⟨r,q,hq,hc⟩:=(qu he Y e1).fh;exact⟨_,bJ r q hq,.aq _ _ _ (jcj hc hz M)⟩
theorem qr9 {t e:TypeId}{x i x' i' sz p iv v}(he:bC C env a.tmps)(ho:o.op=.indexAddr t x i)(ht:P.underlying t=En (.slice e))
  (hn:jt P e=En sz) (Y:qr x=En x') (I:qr i=En i') (e1:qi env x'=En p) (e2:qi env i'=En iv)
  (hv:(∃b q len j,p=.ms b q len/\idx len iv=En j/\v=.ptr b (q+j*sz))\/(∃nl xs z j,p=.list nl sz xs/\idx xs.length iv=En j/\xs[j]?=En z/\v=.aq z)):Val P C a o w v:=by
 have bJ:∀r q len cap j,a.eval x=.slice (En ⟨r,q,Ga⟩) len cap->idx len iv=En j->(execOp a.eval o).run P w=.ok (.value (.pointer (En ⟨r,q+j*sz,Ga⟩))) w:=by
  intro r q len cap j hq hj;obtain⟨k,rfl,aW⟩:=Il hj;have hi:=(qu he I e2).bY;simp[execOp,ho,Instr.indexAt,run_underlying ht,hq,hi,asIntOf,yt hn,aW,add_lit]
 rcases hv with⟨b,q,len,j,rfl,hj,rfl⟩|⟨nl,xs,z,j,rfl,hj,hz,rfl⟩
 .obtain⟨r,cap,Q,_,hq⟩:=(qu he Y e1).fi;exact⟨_,bJ r q len cap j hq hj,.ptr _ _ _ Q⟩
 .rcases(qu he Y e1).cU with⟨rfl,rfl,hq⟩|⟨rfl,r,q,cap,hq,_,de⟩|⟨rfl,rfl,_⟩
  .simp at hz
  .exact⟨_,bJ r q _ cap j hq hj,.aq _ _ _ (de.get hz)⟩
  .simp at hz
theorem qtp {t e:TypeId}{x i x' i' len sz ag p iv v j}(he:bC C env a.tmps)(ho:o.op=.indexAddr t x i)(ht:P.underlying t=En (.array len e))
  (hn:jt P e=En sz) (Y:qr x=En x') (I:qr i=En i') (e1:qi env x'=En p) (e2:qi env i'=En iv) (hj:idx len iv=En j)
  (hv:(∃b q,p=.ptr b q/\v=.ptr b (q+j*sz))\/(∃cs z,p=.aq (.agg cs)/\Abs.part ag cs (j*sz) sz=En z/\St ag z.isAgg=Gb/\v=.aq z)):Val P C a o w v:=by
 have bJ:∀r q,a.eval x=.pointer (En ⟨r,q,Ga⟩)->(execOp a.eval o).run P w=.ok (.value (.pointer (En ⟨r,q+j*sz,Ga⟩))) w:=by
  intro r q hq;obtain⟨k,rfl,aW⟩:=Il hj;have hi:=(qu he I e2).bY;simp[execOp,ho,Instr.indexAt,run_underlying ht,hq,hi,asIntOf,Instr.sureAddr,yt hn,aW,add_lit]
 rcases hv with⟨b,q,rfl,rfl⟩|⟨cs,z,rfl,hz,M,rfl⟩
 .obtain⟨r,Q,hq⟩:=(qu he Y e1).dy;exact⟨_,bJ r q hq,.ptr _ _ _ Q⟩
 .obtain⟨r,q,hq,hc⟩:=(qu he Y e1).fh;exact⟨_,bJ r q hq,.aq _ _ _ (jcj hc hz M)⟩
theorem NW {x x' d n j}(he:bC C env a.tmps)(hc:oz x=En x')(hb:fS env d n x'=En j):
  (x=Ga/\j=d)\/(∃y k,x=En y/\a.eval y=.int k (j:Int)/\j<=n):=by
 cases x with
 |none=>simp[oz]at hc;subst hc;simp[fS]at hb;exact .inl ⟨rfl,hb.symm⟩
 |some x=>
  simp only[oz]at hc;split at hc
  .rename_i z hz;cases hc;simp only[fS]at hb;split at hb
   .rename_i v hv;obtain⟨k,rfl,hle⟩:=ji4 hb;exact .inr ⟨x,k,rfl,(qu he hz hv).bY,hle⟩
   .cases hb
  .cases hc
theorem NY {lo hi mX gI len cap i j isS}(he:bC C env a.tmps)(Y:oz lo=En mX)(I:oz hi=En gI)(b2:fS env len len gI=En j)(b1:fS env 0 j mX=En i)(hc:len<=cap)(w:World):
  (Instr.sliceBounds isS len cap (lo.map a.eval) (hi.map a.eval) Ga).run P w=.ok (i,j,cap) w/\i<=j/\j<=len:=by
 have k2:j<=len:=by
  rcases NW he I b2 with⟨_,rfl⟩|⟨_,_,_,_,h⟩
  .exact If _
  .exact h
 have k1:i<=j:=by
  rcases NW he Y b1 with⟨_,rfl⟩|⟨_,_,_,_,h⟩
  .exact Nat.zero_le _
  .exact h
 refine⟨?_,k1,k2⟩
 have hj:j<=cap:=by omega
 rcases NW he I b2 with⟨rfl,rfl⟩|⟨y,k,rfl,hy,_⟩<;>rcases NW he Y b1 with⟨rfl,rfl⟩|⟨z,k',rfl,hz,_⟩
 .simp[Instr.sliceBounds]
 .simp[Instr.sliceBounds,hz,Instr.sliceBound,asIntOf,k1]
 .simp[Instr.sliceBounds,hy,Instr.sliceBound,asIntOf,hj]
 .simp[Instr.sliceBounds,hy,hz,Instr.sliceBound,asIntOf,hj,k1]
theorem q4j {t e:TypeId}{x lo hi x' mX gI sz i j p v}(he:bC C env a.tmps)(ho:o.op=.slice t x lo hi Ga)(ht:P.underlying t=En (.slice e))
  (hn:jt P e=En sz) (Y:qr x=En x') (I:oz lo=En mX) (h3:oz hi=En gI) (e1:qi env x'=En p)
  (hv:(∃b q len,p=.ms b q len/\fS env len len gI=En j/\fS env 0 j mX=En i/\(i=0\/i<j)/\v=.ms b (q+i*sz) (j-i)) \/
   (∃nl dm xs,p=.list nl dm xs/\(sz=dm\/xs=[])/\fS env xs.length xs.length gI=En j/\fS env 0 j mX=En i/\v=.list nl dm ((xs.take j).drop i))):Val P C a o w v:=by
 have bJ:∀b len cap,a.eval x=.slice b len cap->len<=cap->fS env len len gI=En j->fS env 0 j mX=En i ->
   (execOp a.eval o).run P w=.ok (.value (.slice (if cap=i then b else b.map (·.add (i*sz))) (j-i) (cap-i))) w/\i<=j/\j<=len:=by
  intro b len cap hq hle b2 b1;obtain⟨hb,k1,k2⟩:=NY (P:=P) (isS:=true) he I h3 b2 b1 hle w;refine⟨?_,k1,k2⟩;simp[execOp,ho,Instr.sliceAt,Instr.slice,run_underlying ht,hq,hb,yt hn]
 rcases hv with⟨b,q,len,rfl,b2,b1,wZ,rfl⟩|⟨nl,dm,xs,rfl,dj,b2,b1,rfl⟩
 .obtain⟨r,cap,Q,hle,hq⟩:=(qu he Y e1).fi;obtain⟨hw,k1,k2⟩:=bJ _ len cap hq hle b2 b1;refine⟨_,hw,?_⟩;by_cases hc:cap=i
  .rw[if_pos hc]
   obtain rfl:i=0:=by omega
   simpa using aO.ms b q (j-0) r (cap-0) Q (by omega)
  .rw[if_neg hc];simp only[Vz,add_lit];exact .ms _ _ _ _ _ Q (by omega)
 .rcases(qu he Y e1).cU with⟨rfl,rfl,hq⟩|⟨rfl,r,q,cap,hq,hle,de⟩|⟨rfl,rfl,ad,lJ,hq⟩
  .obtain⟨hw,k1,k2⟩:=bJ _ 0 0 hq (If _) b2 b1;simp at k2;obtain rfl:=k2
   obtain rfl:i=0:=by omega
   exact⟨_,hw,by simpa using aO.kD dm⟩
  .obtain⟨hw,k1,k2⟩:=bJ _ _ cap hq hle b2 b1;refine⟨_,hw,?_⟩
   have hl:((xs.take j).drop i).length=j-i:=by simp;omega
   rw[<-hl];by_cases hc:cap=i
   .rw[if_pos hc];have lK:(xs.take j).drop i=[]:=Ju (by simp;omega);rw[lK];exact .list _ _ _ _ _ (by simp) (.gh _ _ _)
   .rw[if_neg hc];simp only[Vz,add_lit];refine .list _ _ _ _ _ (by rw[hl];omega) ?_;rcases dj with rfl|rfl
    .exact bE.drop i (bE.take j de)
    .simpa using aO.gh _ _ _
  .obtain⟨hw,k1,k2⟩:=bJ _ 0 0 hq (If _) b2 b1;simp at k2;obtain rfl:=k2
   obtain rfl:i=0:=by omega
   exact⟨_,hw,by simpa using aO.kE dm ad lJ⟩
theorem q9t {t e:TypeId}{x lo hi x' mX gI len sz i j b q}(he:bC C env a.tmps)(ho:o.op=.slice t x lo hi Ga)(ht:P.underlying t=En (.array len e))
  (hn:jt P e=En sz) (Y:qr x=En x') (I:oz lo=En mX) (h3:oz hi=En gI) (e1:qi env x'=En (.ptr b q)) (b2:fS env len len gI=En j) (b1:fS env 0 j mX=En i) (wZ:i=0\/i<j):Val P C a o w (.ms b (q+i*sz) (j-i)):=by
 obtain⟨r,Q,hq⟩:=(qu he Y e1).dy;obtain⟨hb,k1,k2⟩:=NY (P:=P) (isS:=false) he I h3 b2 b1 (If len) w;refine⟨_,by simp[execOp,ho,Instr.sliceAt,Instr.sureAddr,run_underlying ht,hq,hb,yt hn];rfl,?_⟩;by_cases hc:len=i
 .rw[if_pos hc]
  obtain rfl:i=0:=by omega
  simpa using aO.ms b q (j-0) r (len-0) Q (by omega)
 .rw[if_neg hc];simp only[add_lit];exact .ms _ _ _ _ _ Q (by omega)
theorem q5v (s:aj)(i j:Nat):(⟨⟨s⟩⟩:ByteArray).extract i j=⟨⟨(s.take j).drop i⟩⟩:=by
 apply ByteArray.ext;rw[ByteArray.data_extract];apply Jm;simp[List.extract_eq_take_drop,List.drop_take]
theorem q8c {t:TypeId}{x lo hi x' mX gI i j s}(he:bC C env a.tmps)(ho:o.op=.slice t x lo hi Ga)(ht:P.underlying t=En .string)
  (Y:qr x=En x') (I:oz lo=En mX) (h3:oz hi=En gI) (e1:qi env x'=En (.str s)) (b2:fS env s.length s.length gI=En j) (b1:fS env 0 j mX=En i):Val P C a o w (.str ((s.take j).drop i)):=by
 have hq:=(qu he Y e1).cB;obtain⟨hb,k1,k2⟩:=NY (P:=P) (isS:=false) he I h3 b2 b1 (If s.length) w;have dj:(⟨⟨s⟩⟩:ByteArray).size=s.length:=rfl;refine⟨.string ⟨⟨(s.take j).drop i⟩⟩,?_,.str _⟩;simp[execOp,ho,Instr.sliceAt,Instr.slice,run_underlying ht,hq,dj,hb,q5v]
theorem jfw {k xs ys gv pC us vs}(he:bC C env a.tmps)(ho:o.op=.makeFunc (.func k) xs ys)(Y:rR xs.toList=En gv)(I:rR ys.toList=En pC)(e1:hH env gv=En us)(e2:hH env pC=En vs):
  Val P C a o w (.fn (.func k) us vs):=by
 refine⟨.func (.func k) (xs.map a.eval) (ys.map a.eval),by simp[execOp,ho,Instr.makeFunc],?_⟩;have r1:=FL he Y e1;have r2:=FL he I e2
 have q1:xs.map a.eval=⟨xs.toList.map a.eval⟩:=by apply Jm;simp
 have q2:ys.map a.eval=⟨ys.toList.map a.eval⟩:=by apply Jm;simp
 rw[q1,q2];exact .fn _ _ _ _ _ _ rfl r1 r2
theorem Uq {c x}{t:TypeId}{x' p n}(he:bC C env a.tmps)(ho:o.op=.call c)(ef:c.callee=.builtin .len)(eC:c.args.toList=[x])(eX:c.argTypes.toList=[t])
  (Y:qr x=En x') (e1:qi env x'=En p)
  (hv:(P.underlying t=En .string/\∃s,p=.str s/\n=s.length)\/((∃e,P.underlying t=En (.slice e))/\((∃nl sz xs,p=.list nl sz xs/\n=xs.length)\/(∃b q,p=.ms b q n)))):Val P C a o w (.int .i64 n):=by
 have ha:c.args=#[x]:=by apply Jm;simpa using eC
 have mY:c.argTypes=#[t]:=by apply Jm;simpa using eX
 refine⟨.int .i64 n,?_,.int _ _⟩;simp only[execOp,ho,resolve,ef,ha,mY,Sem.run_bind,Sem.run_pure,Result.andThen_ok,invoke,builtin,Builtin.len_];rcases hv with⟨ht,s,rfl,rfl⟩|⟨⟨e,ht⟩,⟨nl,sz,xs,rfl,rfl⟩|⟨b,q,rfl⟩⟩
 .have hq:=(qu he Y e1).cB;simp[run_underlying ht,hq,goInt];rfl
 .obtain⟨b,cap,hq⟩:=(qu he Y e1).len;simp[run_underlying ht,hq,goInt]
 .obtain⟨r,cap,_,_,hq⟩:=(qu he Y e1).fi;simp[run_underlying ht,hq,goInt]
theorem Ur {f:AVal->AVal->Option AVal}{g:Value->Value->Sem Value}(hfg:∀x y z u v,f x y=En z->bW C x u->bW C y v->∃q,(g u v).run P w=.ok q w/\bW C z q):
  ∀(ys:List AVal) (x z:AVal) (u:Value) (vs:List Value),pq f x ys=En z->bW C x u->bq C ys vs->∃q,(vs.foldlM g u).run P w=.ok q w/\bW C z q
 | [],x,z,u,vs,h,M,hy=>by
  cases hy;simp[pq]at h;subst h;exact⟨u,rfl,M⟩
 |y::ys,x,z,u,vs,h,M,hy=>by
  cases hy with
  |cons _ _ v vs hy Q=>
   simp only[pq]at h;split at h
   .rename_i z1 mZ;obtain⟨q,hq,rq⟩:=hfg x y z1 u v mZ M hy;obtain⟨q2,hq2,rq2⟩:=Ur hfg ys z1 z q vs h rq Q;exact⟨q2,by simp[List.foldlM_cons,hq,hq2],rq2⟩
   .cases h
theorem jj5 {c:Call}{gv:List jw}{p v:AVal}{ps:List AVal}{mx:Bool}(he:bC C env a.tmps)(ho:o.op=.call c)(ef:c.callee=.builtin (if mx then .max else .min))(Y:rR c.args.toList=En gv)(e1:hH env gv=En (p::ps))
  (hv:pq (if mx then max2 else min2) p ps=En v):Val P C a o w v:=by
 have r1:=FL he Y e1
 have eH:(c.args.map a.eval).toList=c.args.toList.map a.eval:=by simp
 cases mx
 .generalize hl:c.args.toList.map a.eval=l at r1
  cases r1 with
  |cons _ _ u us hu iD=>
   obtain⟨q,hq,rq⟩:=Ur (P:=P) (w:=w) (C:=C) (f:=min2) (g:=Builtin.min2) (fun x y z u v h M hy=>by
    unfold min2 at h
    split at h<;>first|cases h|skip
    rename_i k n k' m;by_cases hk:k=k'
    ·subst hk;simp at h;subst h;obtain rfl:=M.bY;obtain rfl:=hy.bY;exact⟨_,rfl,.int _ _⟩
    ·simp[hk]at h) ps p v u us (by simpa using hv) hu iD
   refine⟨q,?_,rq⟩;simp only[Jb,if_false]at ef;simp[execOp,ho,resolve,ef,invoke,builtin,Builtin.min_,hl,hq]
 .generalize hl:c.args.toList.map a.eval=l at r1
  cases r1 with
  |cons _ _ u us hu iD=>
   obtain⟨q,hq,rq⟩:=Ur (P:=P) (w:=w) (C:=C) (f:=max2) (g:=Builtin.max2) (fun x y z u v h M hy=>by
    unfold max2 at h
    split at h<;>first|cases h|skip
    rename_i k n k' m;by_cases hk:k=k'
    ·subst hk;simp at h;subst h;obtain rfl:=M.bY;obtain rfl:=hy.bY;exact⟨_,rfl,.int _ _⟩
    ·simp[hk]at h) ps p v u us (by simpa using hv) hu iD
   refine⟨q,?_,rq⟩;simp only[if_true]at ef;simp[execOp,ho,resolve,ef,invoke,builtin,Builtin.max_,hl,hq]
theorem ja5 {x x' i vs v}(he:bC C env a.tmps)(ho:o.op=.extract x i)(Y:qr x=En x')(e1:qi env x'=En (.aI vs))(hv:vs[i]?=En v):Val P C a o w v:=by
 obtain⟨us,hu,ru⟩:=(qu he Y e1).pB;obtain⟨u,Y,I⟩:=ru.get hv;exact⟨u,by simp[execOp,ho,hu,Instr.extract,Y],I⟩
end
section
variable {P:Program}{C:aV}{w:World}{env:Env}{a:Act}{o:Oper}
theorem A5 {x v}(h:bW C x v)(G:x.flat.all qk=Gd):bq C x.flat v.cells.toList:=by
 cases h<;>first
  |(simp only[AVal.flat,Value.cells];exact .cons _ _ _ _ (by constructor<;>assumption) .nil)
  |skip
 .simpa[AVal.flat,Value.cells]
 all_goals first|done|exact absurd G (by simp[AVal.flat,qk])|skip
theorem q4y (off:Nat):∀(l:List Value) (k:Nat) (cs:Array Value),off+k+l.length<=cs.size ->
  ((l.zipIdx k).foldl (fun cs (x:Value×Nat)=>cs.setIfInBounds (off+x.2) x.1) cs).toList=cs.toList.take (off+k)++l++cs.toList.drop (off+k+l.length)
 | [],k,cs,_=>by simp
 |v::l,k,cs,h=>by
  simp only[List.zipIdx_cons,Eak];simp at h;rw[q4y off l (k+1) (cs.setIfInBounds (off+k) v) (by simp;omega)]
  have aW:off+k<cs.toList.length:=by simp;omega
  rw[Array.toList_setIfInBounds]
  have e1:(cs.toList.set (off+k) v).take (off+(k+1))=cs.toList.take (off+k)++[v]:=by
   rw[<-Xn,List.take_succ_eq_append_getElem (by simpa using aW),List.take_set,List.set_eq_of_length_le (by simp;omega),List.getElem_set_self]
  have e2:(cs.toList.set (off+k) v).drop (off+(k+1)+l.length)=cs.toList.drop (off+k+(v::l).length):=by
   rw[List.drop_set_of_lt (by omega)]
   congr 1
   simp;omega
  rw[e1,e2];simp
inductive FO (C:aV)(place:Nat->Option (Nat×Nat)):List (Nat×Value)->List (Nat×List AVal)->Prop where
 |nil:FO C place [] []
 |cons (i:Nat) (v:Value) (off:Nat) (vs:List AVal) (ps:List (Nat×Value)) (qs:List (Nat×List AVal)) (Y:place i=En (off,vs.length)) (I:bq C vs v.cells.toList) (h:FO C place ps qs):FO C place ((i,v)::ps) ((off,vs)::qs)
theorem NZ {place}:∀(ps:List (Nat×Value)) (qs:List (Nat×List AVal)) (xs ys:List AVal) (cs:Array Value),bq C xs cs.toList->lf xs qs=En ys ->
  FO C place ps qs ->
  ∃ds,Instr.fill place cs ps=En ds/\bq C ys ds.toList
 | [],qs,xs,ys,cs,M,hf,hp=>by
  cases hp;simp[lf]at hf;subst hf;exact⟨cs,rfl,M⟩
 |_::ps,qs,xs,ys,cs,M,hf,hp=>by
  cases hp with
  |cons i v off vs _ qs Io Q Us=>
   simp only[lf]at hf
   cases hb:H2 (off+vs.length) xs.length with
   |false=>simp[hb]at hf
   |true=>
    simp only[hb,cond_true]at hf;have hle:=Jg hb;have eu:=M.length;have eA:=Q.length;simp at eu eA;have sV:=q4y off v.cells.toList 0 cs (by simp;omega)
    have hz:v.cells.zipIdx.foldl (fun cs (x:Value×Nat)=>cs.setIfInBounds (off+x.2) x.1) cs=(v.cells.toList.zipIdx 0).foldl (fun cs (x:Value×Nat)=>cs.setIfInBounds (off+x.2) x.1) cs:=by
     rw[<-Array.foldl_toList,Array.toList_zipIdx]
    obtain⟨ds,Y,I⟩:=NZ (place:=place) ps qs _ ys (v.cells.zipIdx.foldl (fun cs (x:Value×Nat)=>cs.setIfInBounds (off+x.2) x.1) cs) (by
     rw[hz,sV];simp only[Vn,Array.length_toList,eA]
     exact bq.append (bq.append (M.take off) Q) (M.drop _)) hf Us
    refine⟨ds,?_,I⟩;simp only[Instr.fill,Io];rw[if_neg (by simp;omega)];exact Y
theorem Ut {place}(he:bC C env a.tmps):∀(ps:List (Nat×Operand)) (gw:List (Nat×Nat×jw)) (qs:List (Nat×List AVal)),yK P place ps=En gw->kp env gw=En qs ->
  FO C place (ps.map fun x=>(x.1,a.eval x.2)) qs
 | [],gw,qs,hc,hv=>by
  simp[yK]at hc;subst hc;simp[kp]at hv;subst hv;exact .nil
 |(i,x)::ps,gw,qs,hc,hv=>by
  simp only[yK]at hc;split at hc
  .rename_i off n y r Io hy Q;cases hc;simp only[kp]at hv;split at hv
   .rename_i v pA
    cases hb:(Hb v.flat.length n&&v.flat.all qk)with
    |false=>simp[hb]at hv
    |true=>
     simp only[hb,cond_true]at hv;simp only[Ji]at hb;split at hv
     .rename_i r' lh;cases hv;have hl:=Hq hb.1;exact .cons _ _ _ _ _ _ (by rw[Io,hl]) (A5 (qu he hy pA) hb.2) (Ut he ps r r' Q lh)
     .cases hv
   .cases hv
  .cases hc
theorem q4m {t:TypeId}{z}(h:yw P t=En z)(w:World):∃v,(zeroValue t).run P w=.ok v w/\bq C z v.cells.toList/\∃i,P.info? t=En i/\i.zero=En v:=by
 unfold yw at h;split at h
 .rename_i i hi;split at h
  .rename_i v hv;exact⟨v,by simp[zeroValue,typeInfo,hi,hv],NR C h,i,hi,hv⟩
  .cases h
 .cases h
theorem qwx {fs:Array Field}(w:World):∀(l:List Field),(∀f∈l,(jt P f.type).isSome)->(l.mapM fun(f:Field)=>(do pure (f.offset,<-sizeOf f.type):Sem (Nat×Nat))).run P w=.ok (l.map fun f=>(f.offset,(jt P f.type).getD 0)) w
 | [],_=>rfl
 |f::l,h=>by
  obtain⟨n,hn⟩:=Jy.1 (h f (by simp));simp only[List.mapM_cons,Sem.run_bind,yt hn,Result.andThen_ok,Sem.run_pure,qwx (fs:=fs) w l (fun g hg=>h g (by simp[hg])),Ot,hn,Option.getD_some]
theorem q2w {t:TypeId}{ps fs z gw qs cs}(he:bC C env a.tmps)(ho:o.op=.build t ps)(ht:P.underlying t=En (.struct fs))(hz:yw P t=En z)
  (hall:∀f∈fs.toList,(jt P f.type).isSome) (nS:yK P (fun i=>match fs[i]? with|some f=>(jt P f.type).map fun n=>(f.offset,n)|none=>Ga) ps.toList=En gw) (hq:kp env gw=En qs) (hf:lf z qs=En cs):Val P C a o w (.agg cs):=by
 obtain⟨zv,mI,cV,_⟩:=q4m (C:=C) hz w;have hm:=qwx (P:=P) (fs:=fs) w fs.toList hall;have vj:=Ut (P:=P) he ps.toList gw qs nS hq
 have A6:(fun(i:Nat)=>match fs[i]? with|some f=>(jt P f.type).map fun n=>(f.offset,n)|none=>Ga)=fun(i:Nat)=>((fs.toList.map fun f=>(f.offset,(jt P f.type).getD 0)).toArray)[i]?:=by
  funext i
  have hm:∀f,fs[i]?=En f->f∈fs.toList:=fun f h=>by rw[Array.mem_toList_iff];exact Array.mem_of_getElem? h
  obtain⟨l⟩:=fs;simp only[I9,Ld]at hm ⊢
  cases h:l[i]? with
  |none=>rfl
  |some f=>
   obtain⟨n,hn⟩:=Jy.1 (hall f (hm f h));simp[hn]
 rw[A6]at vj;obtain⟨ds,hd,Q⟩:=NZ (ps.toList.map fun x=>(x.1,a.eval x.2)) qs z cs zv.cells cV hf vj;refine⟨.agg ds,?_,.agg cs ds.toList Q⟩
 have nc:(fs.mapM fun(f:Field)=>(do pure (f.offset,<-sizeOf f.type):Sem (Nat×Nat))).run P w=.ok ((fs.toList.map fun f=>(f.offset,(jt P f.type).getD 0)).toArray) w:=by
  rw[Array.mapM_eq_mapM_toList];simp only[Sem.run_map];rw[hm];rfl
 have vk:(ps.map fun(x:Nat×Operand)=>(x.1,a.eval x.2)).toList=ps.toList.map fun x=>(x.1,a.eval x.2):=by simp
 simp only[execOp,ho,Instr.build,Sem.run_bind,mI,Result.andThen_ok,run_underlying ht,nc,vk,hd,Sem.run_pure]
theorem q3a {t e:TypeId}{ps len n z gw qs cs}(he:bC C env a.tmps)(ho:o.op=.build t ps)(ht:P.underlying t=En (.array len e))(hz:yw P t=En z)
  (hn:jt P e=En n) (nS:yK P (fun i=>En (i*n,n)) ps.toList=En gw) (hq:kp env gw=En qs) (hf:lf z qs=En cs):Val P C a o w (.agg cs):=by
 obtain⟨zv,mI,cV,_⟩:=q4m (C:=C) hz w;have vj:=Ut (P:=P) he ps.toList gw qs nS hq;obtain⟨ds,hd,Q⟩:=NZ (ps.toList.map fun x=>(x.1,a.eval x.2)) qs z cs zv.cells cV hf vj;refine⟨.agg ds,?_,.agg cs ds.toList Q⟩
 have vk:(ps.map fun(x:Nat×Operand)=>(x.1,a.eval x.2)).toList=ps.toList.map fun x=>(x.1,a.eval x.2):=by simp
 simp only[execOp,ho,Instr.build,Sem.run_bind,mI,Result.andThen_ok,run_underlying ht,yt hn,vk,hd,Sem.run_pure]
theorem qsc {sz}(he:bC C env a.tmps):∀(ps:List (Nat×Operand)) (gw:List (Nat×jw)) (qs:List (Nat×AVal)),yL ps=En gw->yf env sz gw=En qs ->
  FO C (fun i=>En (i*sz,sz)) (ps.map fun x=>(x.1,a.eval x.2)) (qs.map fun x=>(x.1*sz,x.2.flat))/\∀q∈qs,q.2.flat.length=sz
 | [],gw,qs,hc,hv=>by
  simp[yL]at hc;subst hc;simp[yf]at hv;subst hv;exact⟨.nil,by simp⟩
 |(i,x)::ps,gw,qs,hc,hv=>by
  simp only[yL]at hc;split at hc
  .rename_i y r hy Q;cases hc;simp only[yf]at hv;split at hv
   .rename_i v pA
    cases hb:(Hb v.flat.length sz&&v.flat.all qk)with
    |false=>simp[hb]at hv
    |true=>
     simp only[hb,cond_true]at hv;simp only[Ji]at hb;split at hv
     .rename_i r' lh;cases hv;have hl:=Hq hb.1;obtain⟨Y,I⟩:=qsc he ps r r' Q lh;refine⟨.cons _ _ _ _ _ _ (by rw[hl]) (A5 (qu he hy pA) hb.2) Y,?_⟩;intro q hq;rcases Va.1 hq with rfl|hq
      .exact hl
      .exact I q hq
     .cases hv
   .cases hv
  .cases hc
theorem qw3 {sz}:∀(xs:List AVal) (i:Nat) (v:AVal),(∀x∈xs,x.flat.length=sz)->v.flat.length=sz->i<xs.length ->
  (xs.set i v).flatMap AVal.flat=(xs.flatMap AVal.flat).take (i*sz)++v.flat++(xs.flatMap AVal.flat).drop (i*sz+sz)
 | [],i,v,_,_,h=>by simp at h
 |x::xs,0,v,hl,hv,_=>by
  simp only[Eaa,Jo,Nat.zero_mul,Eam,Od,Vp];rw[List.drop_append_of_le_length (by rw[hl x (by simp)];exact If _),Ju (by rw[hl x (by simp)];exact If _)];simp
 |x::xs,i+1,v,hl,hv,h=>by
  simp only[Eab,Jo];rw[qw3 xs i v (fun y hy=>hl y (by simp[hy])) hv (by simpa using h)];have M:=hl x (by simp)
  have e1:(i+1)*sz=x.flat.length+i*sz:=by rw[M,Jr];omega
  have t1:Eaf (x.flat.length+i*sz) (x.flat++xs.flatMap AVal.flat)=x.flat++(xs.flatMap AVal.flat).take (i*sz):=List.take_length_add_append _
  have t2:List.drop (x.flat.length+i*sz+sz) (x.flat++xs.flatMap AVal.flat)=(xs.flatMap AVal.flat).drop (i*sz+sz):=by
   rw[Xn];exact List.drop_length_add_append _
  rw[e1,t1,t2];simp
theorem yr {sz}:∀(xs:List AVal),(∀x∈xs,x.flat.length=sz)->(xs.flatMap AVal.flat).length=xs.length*sz
 | [],_=>by simp
 |x::xs,h=>by
  simp only[Jo,Lu,Eai];rw[yr xs (fun y hy=>h y (by simp[hy])),h x (by simp),Jr];omega
theorem qzo {sz}:∀(qs:List (Nat×AVal)) (xs ys:List AVal),mA xs qs=En ys->(∀x∈xs,x.flat.length=sz)->(∀q∈qs,q.2.flat.length=sz) ->
  lf (xs.flatMap AVal.flat) (qs.map fun x=>(x.1*sz,x.2.flat))=En (ys.flatMap AVal.flat)/\(∀y∈ys,y.flat.length=sz)/\ys.length=xs.length
 | [],xs,ys,h,M,_=>by simp[mA]at h;subst h;exact⟨rfl,M,rfl⟩
 |(i,v)::qs,xs,ys,h,M,hq=>by
  simp only[mA]at h
  cases hb:I7 i xs.length with
  |false=>simp[hb]at h
  |true=>
   simp only[hb,cond_true]at h
   have aW:i<xs.length:=by have:=Jg hb;omega
   have hv:=hq (i,v) (by simp)
   obtain⟨Y,I,h3⟩:=qzo qs (xs.set i v) ys h (fun y hy=>by
    rcases List.mem_or_eq_of_mem_set hy with h|rfl
    ·exact M y h
    ·exact hv) (fun q h=>hq q (by simp[h]))
   refine⟨?_,I,by simpa using h3⟩;have hl:=yr xs M
   have hle:i*sz+sz<=xs.length*sz:=by rw[<-Jr];exact Jn _ aW
   simp only[Ot,lf];rw[show H2 (i*sz+v.flat.length) (xs.flatMap AVal.flat).length=Gd from by rw[Nat.ble_eq];simp only at hv;omega];simp only[cond_true];rw[qw3 xs i v M hv aW]at Y;simp only at hv;rw[hv];exact Y
end
section
variable {P:Program}{C C0:aV}{ω:Nat->Option Loc}{w w0:World}{hp:qh}{env:Env}{a:Act}{o:Oper}{tmps:Array Value}{d:Loc}
theorem ar.strip {B}(e:ar C ω w B env tmps)(s:Option Nat):ar C ω w B (ye env s) tmps:=by
 cases s with
 |none=>exact e
 |some s=>
  simp only[ye];split
  .rename_i v o hl;intro t x M;simp only[jp]at M
   cases hb:Hb s t with
   |false=>rw[hb]at M;simp at M;exact e t x M
   |true=>
    rw[hb]at M;simp at M;subst M;obtain rfl:=Hq hb;obtain⟨u,Y,I,_⟩:=e s _ hl;exact⟨u,Y,I,by simp⟩
  .exact e
theorem q7v (m:aA P C ω w0 C0 hp w)(e:ar C ω w w0.heap.size env tmps){x v}(h:bW C x v):zn P C0 w0 C tmps d env ⟨x,Gb,Ga,hp⟩ v w:=
 ⟨C,ω,aV.le_refl C,m,e,h,by simp⟩
theorem N0 (m:aA P C ω w0 C0 hp w)(e:ar C ω w w0.heap.size env tmps)(cells:Array Value)(t:TypeId)(xs:List AVal)(sz cap:Nat)(vs:List Value)(Q:bq C (xs.flatMap AVal.flat) vs)
  (hv:∀(j:Nat) v,vs[j]?=En v->cells[j]?=En v) (Y:∀v∈vs,v.oneCell'=Gd) (G:∀x∈xs,x.flat.length=sz) (hcap:xs.length<=cap) (cJ:cap*sz<=cells.size) (s:Option Nat):
  zn P C0 w0 C tmps d env ⟨.list Gb sz xs,Gd,s,hp⟩ (.slice (En ⟨w.heap.size,0,Ga⟩) xs.length cap) (w.alloc (.cells cells t)):=by
 have hn:∀o,C.K w.heap.size o=Ga:=m.lg _ (If _);have M:Ext w (w.alloc (.cells cells t)):=Ext.alloc w _ (fun c t fr h=>by cases h;rfl);have m1:=(m.newRow cells t vs hv Y);have Uu:∀ℓ x v,aY C ω w w0.heap.size ℓ x v->aY (C.put w.heap.size 0 vs) (cS ω w.heap.size d) (w.alloc (.cells cells t)) w0.heap.size ℓ x v:=fun ℓ x v ho=>((ho.fresh (If _)).put vs (.inl (If _))).ext M;have hle:=aV.hO (C:=C) (off:=0) vs (fun o _=>hn o);have hcells:=aV.fC (C:=C) (off:=0) (fun o _=>hn o) Q
 have hl:vs.length=xs.length*sz:=by rw[Q.length,yr xs G]
 refine⟨C.put w.heap.size 0 vs,cS ω w.heap.size d,hle,?_,?_,?_,?_⟩
 .exact { m1 with box:=fun b x r fD hb=>((m.box b x r fD hb).mono hle fun j y v ho=>(ho.fresh (If _)).put vs (.inl (If _))).ext M }
 .refine ar.strip ?_ s
  exact fun t x M=>let ⟨v,Y,I,h3⟩:=e t x M; ⟨v,Y,aO.mono hle I,fun h=>Uu _ _ _ (h3 h)⟩
 .exact .list _ _ _ _ _ hcap (bE.fg hcells G)
 .intro _;refine⟨by simp[cS],.inl m.size,?_,rfl,rfl,⟨cells,t,by rw[wV,if_pos rfl],by simpa using cJ,hM.sized G⟩,?_⟩
  .intro b hb;have:=(m.lt b _ hb).1;simp at this
  .intro o ho;simp only[aV.put];rw[if_neg (by simp at ho;omega)];exact hn o
theorem N1 {zs:List Value}{sz}(hz:zs.length=sz)(G:0<sz):∀(n:Nat),(List.range (n*sz)).map (fun i=>zs.toArray[i % zs.toArray.size]!)=(Hc n zs).flatten
 |0=>by simp
 |n+1=>by
  rw[Jr,List.range_add,List.map_append,N1 hz G n,List.replicate_succ',List.flatten_append]
  congr 1
  simp only[List.map_map,Oh,List.flatten_nil,List.append_nil];apply Ve;intro j;rw[Ld];by_cases hj:j<sz
  .rw[List.getElem?_range hj];simp only[Vz,Function.comp,R2,hz];rw[Nat.mul_add_mod_self_right,Nat.mod_eq_of_lt hj];rw[Jc (by omega),getElem!_pos _ _ (by simpa[hz]using hj)];simp
  .rw[Oj (by simpa using hj),Oj (by omega)];rfl
theorem bq.replicate {zs vs}(h:bq C zs vs):∀n:Nat,bq C (Hc n zs).flatten (Hc n vs).flatten
 |0=>.nil
 |n+1=>by
  rw[J1,J1,Oh,Oh];exact bq.append h (bq.replicate h n)
def vm (sz:Nat)(zero:List AVal):AVal:=bif Hb sz 1 then zero.headD .undef else .agg zero
theorem Uv {sz zero}(hz:zero.length=sz)(G:∀z∈zero,z.isAgg=Gb):(vm sz zero).flat=zero:=by
 unfold vm
 cases hb:Hb sz 1 with
 |false=>rfl
 |true=>
  obtain rfl:=Hq hb;obtain⟨z,rfl⟩:=Vy.1 hz;exact qcc (G z (by simp))
theorem qp2 {sz zero}(hz:zero.length=sz)(G:∀z∈zero,z.isAgg=Gb)(n:Nat):(Hc n (vm sz zero)).flatMap AVal.flat=(Hc n zero).flatten:=by
 induction n with
 |zero=>rfl|succ n ih=>rw[J1,Jo,Uv hz G,ih,J1,Oh]
theorem q54 {v x}(h:FF v=En x):qk x=Gd/\v.oneCell'=Gd:=by
 unfold FF at h
 split at h<;>first|cases h|skip
 all_goals exact⟨rfl,rfl⟩
theorem qot:∀ {vs:List Value} {xs:List AVal},wS vs=En xs->(∀x∈xs,qk x=Gd)/\∀v∈vs,v.oneCell'=Gd
 | [],xs,h=>by simp[wS]at h;subst h;simp
 |v::vs,xs,h=>by
  simp only[wS]at h;split at h
  .rename_i x M;split at h
   .rename_i ys oB;cases h;obtain⟨Y,I⟩:=q54 M;obtain⟨h3,h4⟩:=qot oB;exact⟨by simpa using⟨Y,h3⟩,by simpa using⟨I,h4⟩⟩
   .cases h
  .cases h
theorem qpq {x}(h:qk x=Gd):x.isAgg=Gb:=by cases x<;>simp[qk,AVal.isAgg]at *
theorem vn {t:TypeId}{z}(h:yw P t=En z):(∀x∈z,qk x=Gd)/\∃v,(∀w,(zeroValue t).run P w=.ok v w)/\bq C z v.cells.toList/\∀u∈v.cells.toList,u.oneCell'=Gd:=by
 unfold yw at h;split at h
 .rename_i i hi;split at h
  .rename_i v hv;obtain⟨Y,I⟩:=qot h;exact⟨Y,v,fun w=>by simp[zeroValue,typeInfo,hi,hv],NR C h,I⟩
  .cases h
 .cases h
theorem Uw {x v}(h:bW C x v)(G:qk x=Gd):v.oneCell'=Gd:=by
 cases h<;>first|rfl|(simp[qk]at G)
theorem A7 {xs}:∀ {vs:List Value},bq C xs vs->(∀x∈xs,qk x=Gd)->∀v∈vs,v.oneCell'=Gd:=by
 induction xs with
 |nil=>intro vs h _ v hv;cases h;cases hv
 |cons x xs ih=>
  intro vs h G v hv
  cases h with
  |cons _ _ u us M h=>
   rcases Va.1 hv with rfl|hv
   .exact Uw M (G x (by simp))
   .exact ih h (fun y hy=>G y (by simp[hy])) v hv
theorem q4x:∀ (qs:List (Nat×List AVal)) (xs ys:List AVal),lf xs qs=En ys->(∀x∈xs,qk x=Gd)->(∀q∈qs,∀x∈q.2,qk x=Gd)->∀y∈ys,qk y=Gd
 | [],xs,ys,h,M,_=>by simp[lf]at h;subst h;exact M
 |(off,vs)::qs,xs,ys,h,M,hq=>by
  simp only[lf]at h
  cases hb:H2 (off+vs.length) xs.length with
  |false=>simp[hb]at h
  |true=>
   simp only[hb,cond_true]at h;refine q4x qs _ ys h ?_ (fun q h=>hq q (by simp[h]));intro x h;simp only[Oe]at h;rcases h with(h|h)|h
   .exact M x (Tx h)
   .exact hq (off,vs) (by simp) x h
   .exact M x (List.mem_of_mem_drop h)
theorem ql9 {sz}:∀(ps:List (Nat×jw)) (qs:List (Nat×AVal)),yf env sz ps=En qs->∀q∈qs,∀x∈q.2.flat,qk x=Gd
 | [],qs,h=>by simp[yf]at h;subst h;simp
 |(i,x)::ps,qs,h=>by
  simp only[yf]at h;split at h
  .rename_i v pA
   cases hb:(Hb v.flat.length sz&&v.flat.all qk)with
   |false=>simp[hb]at h
   |true=>
    simp only[hb,cond_true]at h;simp only[Ji,Vh]at hb;split at h
    .rename_i r Q;cases h;intro q hq;rcases Va.1 hq with rfl|hq
     .exact hb.2
     .exact ql9 ps r Q q hq
    .cases h
  .cases h
theorem qpb (e:ar C ω w w0.heap.size env a.tmps){t el:TypeId}{ps len sz z gw qs xs}
  (ho:o.op=.buildSlice t len ps) (ht:P.underlying t=En (.slice el)) (hn:jt P el=En sz) (hz:yw P el=En z) (hlen:sz*len<=65536) (h0:0<sz) (iM:z.length=sz)
  (nS:yL ps.toList=En gw) (hq:yf env sz gw=En qs) (M:mA (Hc len (vm sz z)) qs=En xs):
  ∃ds,(execOp a.eval o).run P w=.ok (.value (.slice (En ⟨w.heap.size,0,Ga⟩) len len)) (w.alloc (.cells ds el))/\bq C (xs.flatMap AVal.flat) ds.toList/\(∀v∈ds.toList,v.oneCell'=Gd)/\(∀x∈xs,x.flat.length=sz)/\xs.length=len/\len*sz<=ds.size:=by
 obtain⟨sT,zv,mI,cV,mZ⟩:=vn (C:=C) hz;have yQ:∀x∈z,x.isAgg=Gb:=fun x h=>qpq (sT x h)
 have oC:zv.cells.toList.length=sz:=by rw[cV.length,iM]
 have li:((Jx (len*sz)).map (fun i=>zv.cells[i % zv.cells.size]!)).toList=(Hc len zv.cells.toList).flatten:=by
  have:=N1 oC h0 len;simpa using this
 obtain⟨vj,hqs⟩:=qsc e.cy ps.toList gw qs nS hq
 obtain⟨hf,rS,mW⟩:=qzo (sz:=sz) qs _ xs M (by
  intro x h;obtain⟨_,rfl⟩:=Lz.1 h
  rw[Uv iM yQ,iM]) hqs
 rw[qp2 iM yQ]at hf;obtain⟨ds,hd,hdr⟩:=NZ _ _ _ _ ((Jx (len*sz)).map (fun i=>zv.cells[i % zv.cells.size]!)) (by rw[li];exact cV.replicate len) hf vj
 have lj:xs.length=len:=by simpa using mW
 have hsc:∀y∈xs.flatMap AVal.flat,qk y=Gd:=q4x _ _ _ hf (by
  intro x h;rw[Vi]at h;obtain⟨l,Y,I⟩:=h;obtain⟨_,rfl⟩:=Lz.1 Y
  exact sT x I) (by
  intro q hq1 x FN;obtain⟨p,ll,rfl⟩:=Vq.1 hq1
  exact ql9 gw qs hq p ll x FN)
 have A8:ds.toList.length=len*sz:=by rw[hdr.length,yr xs rS,lj]
 refine⟨ds,?_,hdr,A7 hdr hsc,rS,lj,by simp at A8;omega⟩
 .have vk:(ps.map fun(x:Nat×Operand)=>(x.1,a.eval x.2)).toList=ps.toList.map fun x=>(x.1,a.eval x.2):=by simp
  have hle:¬(16777216<len*sz):=by rw[Nat.mul_comm];omega
  by_cases Ip:len=0
  .subst Ip;have Q:Jx 0=#[]:=rfl;rw[Nat.zero_mul,Q,Array.map_empty]at hd;simp only[execOp,ho,Instr.buildSlice,Sem.run_bind,run_underlying ht,Result.andThen_ok,yt hn,vk];simp[Q,hd,newRow]
  .have bN:¬(len*sz=0):=by
    intro h;rcases Xc.1 h with h|h<;>omega
   simp only[execOp,ho,Instr.buildSlice,Sem.run_bind,run_underlying ht,Result.andThen_ok,yt hn,vk];simp[hle,bN,mI,hd,newRow]
theorem q3v (m:aA P C ω w0 C0 hp w)(e:ar C ω w w0.heap.size env a.tmps){t el:TypeId}{ps len sz z gw qs xs}
  (ho:o.op=.buildSlice t len ps) (ht:P.underlying t=En (.slice el)) (hn:jt P el=En sz) (hz:yw P el=En z) (hlen:sz*len<=65536) (h0:0<sz) (iM:z.length=sz)
  (nS:yL ps.toList=En gw) (hq:yf env sz gw=En qs) (M:mA (Hc len (vm sz z)) qs=En xs):
  ∃v w',(execOp a.eval o).run P w=.ok (.value v) w'/\zn P C0 w0 C a.tmps d env ⟨.list Gb sz xs,Gd,Ga,hp⟩ v w':=by
 obtain⟨ds,bJ,hdr,Y,rS,lj,cJ⟩:=qpb (C:=C) (ω:=ω) (w:=w) (w0:=w0) e ho ht hn hz hlen h0 iM nS hq M;refine⟨_,_,bJ,?_⟩;have fj:=N0 (d:=d) (tmps:=a.tmps) m e ds el xs sz len ds.toList hdr (by intro j v h;simpa using h) Y rS (by omega) cJ Ga;rw[lj]at fj;exact fj
theorem jbi (m:aA P C ω w0 C0 hp w)(e:ar C ω w w0.heap.size env a.tmps){t el:TypeId}{x y:Operand}{x' y':jw}{n sz b:Nat}{z}
  (ho:o.op=.makeSlice t x y) (ht:P.underlying t=En (.slice el)) (hn:jt P el=En sz) (hb:px P el=En b) (hz:yw P el=En z) (h0:0<sz) (iM:z.length=sz)
  (Y:qr x=En x') (I:qr y=En y') (e1:qi env x'=En (.int .i64 (n:Int))) (e2:qi env y'=En (.int .i64 (n:Int))) (hle:n<=1073741824) (kF:b<=4096):
  ∃v w',(execOp a.eval o).run P w=.ok (.value v) w'/\zn P C0 w0 C a.tmps d env ⟨.list Gb sz (Hc n (vm sz z)),Gd,Ga,hp⟩ v w':=by
 obtain⟨sT,zv,mI,cV,mZ⟩:=vn (C:=C) hz;have yQ:∀x∈z,x.isAgg=Gb:=fun x h=>qpq (sT x h)
 have oC:zv.cells.toList.length=sz:=by rw[cV.length,iM]
 have li:((Jx (n*sz)).map (fun i=>zv.cells[i % zv.cells.size]!)).toList=(Hc n zv.cells.toList).flatten:=by
  have:=N1 oC h0 n;simpa using this
 have r1:=(qu e.cy Y e1).bY;have r2:=(qu e.cy I e2).bY
 have rS:∀x∈Hc n (vm sz z),x.flat.length=sz:=by
  intro x h;obtain⟨_,rfl⟩:=Lz.1 h;rw[Uv iM yQ,iM]
 have gJ:bq C ((Hc n (vm sz z)).flatMap AVal.flat) ((Jx (n*sz)).map (fun i=>zv.cells[i % zv.cells.size]!)).toList:=by
  rw[qp2 iM yQ,li];exact cV.replicate n
 obtain⟨i,hi,sW⟩:∃i,P.info? el=En i/\i.bytes=b:=by
  unfold px at hb
  cases hi:P.info? el with
  |none=>simp[hi]at hb|some i=>exact⟨i,rfl,by simpa[hi]using hb⟩
 have lL:i.size=sz:=by
  unfold jt at hn;rw[hi]at hn;simpa using hn
 have sX:IntKind.i64.wrap (n:Int)=n:=by
  rw[<-wW];unfold qd
  have:sN .i64 (n:Int)=Gd:=by simp[sN];exact Jw hle (by decide)
  rw[this];rfl
 have A1:b*n<=281474976710656:=Jw (Oo kF hle) (by decide)
 have fj:=N0 (d:=d) (tmps:=a.tmps) m e ((Jx (n*sz)).map (fun i=>zv.cells[i % zv.cells.size]!)) el (Hc n (vm sz z)) sz n _ gJ (by intro j v h;rw[Jj]at h;exact h) (by
   rw[li];intro v hv;rw[Vi]at hv;obtain⟨l,q1,q2⟩:=hv;obtain⟨_,rfl⟩:=Lz.1 q1
   exact mZ v q2) rS (by simp) (by simp) Ga
 rw[List.length_replicate]at fj;refine⟨_,_,?_,fj⟩
 have c1:¬((b:Int)*(n:Int) > 2^48):=by
  have Y:((b*n:Nat):Int)<=281474976710656:=Int.ofNat_le.2 A1;rw[Int.natCast_mul]at Y
  have I:(2:Int)^48=281474976710656:=by decide
  rw[I];omega
 have c2:¬((n:Int)<0):=by omega
 have Q:Jx 0=#[]:=rfl;simp only[execOp,ho,Instr.makeSlice,Sem.run_bind,run_underlying ht,r1,r2,asInt,asIntOf,Sem.run_pure,Result.andThen_ok,typeInfo,run_program,hi,sW,sX,c2,c1,decide_false,Eao,Jb,if_false,Int.lt_irrefl,gt_iff_lt,run_askRoom,Int.toNat_natCast,yt hn,newRow];by_cases A4:n=0
 .subst A4;simp[Q]
 .have bN:¬(n*sz=0):=by
   intro h;rcases Xc.1 h with h|h<;>omega
  simp[bN,mI]
end
structure ia (w w':World)(r:Nat)(cs:Array Value):Prop where
 at_:∃t,w'.heap[r]?=En (.cells cs t (0,0))
 size:w'.heap.size=w.heap.size
 other:∀k,k≠r->w'.heap[k]?=w.heap[k]?
 os:w'.os=w.os
 output:w'.output=w.output
theorem Iq {w r old}{t:TypeId}(h:w.heap[r]?=En (.cells old t (0,0)))(cs:Array Value):ia w (w.setRow r cs) r cs:=
 ⟨⟨t,setRow_heap w r old cs t (0,0) h⟩,setRow_size w r cs,fun k hk=>setRow_other w r k cs hk,rfl,rfl⟩
section
variable {P:Program}{C C0:aV}{ω:Nat->Option Loc}{w w' w0:World}{hp:qh}{env:Env}{a:Act}{o:Oper}{tmps:Array Value}{d:Loc}
theorem aY.iE {B r cs ℓ x v}(hu:ia w w' r cs)(Q:ω r≠En ℓ)(ho:aY C ω w B ℓ x v):aY C ω w' B ℓ x v:=by
 unfold aY at *;split at ho
 .rename_i a len cap;obtain⟨Y,I,h3,h4,h8,⟨cells,elem,h5,h6⟩,h7⟩:=ho;refine⟨Y,I,h3,h4,h8,⟨cells,elem,?_,h6⟩,h7⟩;rw[hu.other _ (fun h=>Q (h▸Y))];exact h5
 .rename_i a;obtain⟨Y,I,h3,h4,h8,⟨cells,elem,h5,h6⟩,h7⟩:=ho;refine⟨Y,I,h3,h4,h8,⟨cells,elem,?_,h6⟩,h7⟩;rw[hu.other _ (fun h=>Q (h▸Y))];exact h5
 .trivial
theorem bR.iE {B b r r' cs x}(hu:ia w w' r cs)(bN:r'≠r)(Q:∀j,ω r≠En (.cell b j))(hb:bR P C ω w B b r' x):bR P C ω w' B b r' x:=by
 have hg:=hu.other r' bN
 cases x with
 |hole=>exact hb
 |cells eK=>
  obtain⟨vs,elem,Y,I,h3⟩:=hb;exact⟨vs,elem,by rw[hg];exact Y,I,fun j c hc=>let ⟨v,a,q,b,d⟩:=h3 j c hc; ⟨v,a,q,b,fun e=>(d e).iE hu (Q j)⟩⟩
 |map es=>obtain⟨cr,clock,Y,I⟩:=hb;exact⟨cr,clock,by rw[hg];exact Y,I⟩|iter s pos=>show w'.heap[r']?=_;rw[hg];exact hb|loop l=>obtain⟨lp,Y,I⟩:=hb;exact⟨lp,by rw[hg];exact Y,I⟩|gD t e l=>obtain⟨p,v,Y,I,h3,h4⟩:=hb;exact⟨p,v,by rw[hg];exact Y,I,h3,h4.iE hu (Q 1)⟩|dead=>obtain⟨cs,t,Y⟩:=hb;exact⟨cs,t,by rw[hg];exact Y⟩|vec sz bS xs=>exact et.imp (fun _ _ _ h=>h) (fun _ h=>h) (fun _ h _=>h) hg (fun q n cap k=>⟨hu.other q (fun hq=>Q 0 (hq▸k.1)),k.iE hu (Q 0)⟩) hb
theorem q02 (m:aA P C ω w0 C0 hp w)(e:ar C ω w w0.heap.size env tmps){r q cells}{t:TypeId}{news s}(hω:ω r=En (.slot s))(hB:w0.heap.size<=r\/C.W r)(hβ:∀b,C.β b≠En r)
  (hg:w.heap[r]?=En (.cells cells t (0,0))) (cJ:q+news.length<=cells.size) (hK:∀o,q<=o->C.K r o=Ga) (Y:∀v∈news,v.oneCell'=Gd):
  aA P (C.put r q news) (cS ω r d) w0 C0 hp (w.setRow r (cells.toList.take q++news++cells.toList.drop (q+news.length)).toArray) /\
  ar (C.put r q news) (cS ω r d) (w.setRow r (cells.toList.take q++news++cells.toList.drop (q+news.length)).toArray) w0.heap.size (ye env (En s)) tmps/\C.le (C.put r q news):=by
 have hu:=Iq hg (cells.toList.take q++news++cells.toList.drop (q+news.length)).toArray;generalize FP:w.setRow r (cells.toList.take q++news++cells.toList.drop (q+news.length)).toArray=w' at hu;have hle:=aV.hO (C:=C) (off:=q) news hK
 have df:∀ℓ x v,ℓ≠.slot s->aY C ω w w0.heap.size ℓ x v->aY (C.put r q news) (cS ω r d) w' w0.heap.size ℓ x v:=by
  intro ℓ x v hℓ ho
  have bN:ω r≠En ℓ:=by rw[hω];intro h;exact hℓ (En.inj h).symm
  have I:aY (C.put r q news) ω w' w0.heap.size ℓ x v:=(ho.put news (.inr bN)).iE hu bN;exact I.other (.inl bN)
 refine⟨?_,?_,hle⟩
 .have Ir:=hu.size;refine { base:=m.base,know:=?_,dr:=?_,apart:=?_,inj:=m.inj,lt:=?_,size:=?_,frame:=?_,fJ:=?_,os:=hu.os.trans m.os,output:=hu.output.trans m.output,fresh:=m.fresh,grown:=aV.le_trans m.grown hle,old:=?_,box:=?_,jD:=fun q hq=>by rw[hu.size];exact m.jD q hq }
  .intro b p v hk;simp only[aV.put]at hk;split at hk
   .rename_i hc;obtain⟨rfl,I,h3⟩:=hc;obtain⟨t',Iu⟩:=hu.at_;simp only[World.cell?,Iu];rw[I9,J0,Ja (by simp;omega),I6 (by simp;omega)]
    have:(Eaf q cells.toList).length=q:=by simp;omega
    rw[this];simpa using hk
   .by_cases hb:b=r
    .subst hb
     have aW:p<q:=by
      rcases Nat.lt_or_ge p q with h|h
      .exact h
      .rw[hK p h]at hk;cases hk
     have hc:=m.know _ _ _ hk;obtain⟨t',Iu⟩:=hu.at_;simp only[World.cell?,hg]at hc;simp only[World.cell?,Iu];simp only[L2,Jb,if_false]at hc ⊢;rw[I9,J0,I6 (by simp;omega),Jz aW,Jj];exact hc
    .have hc:=m.know _ _ _ hk;simp only[World.cell?]at hc ⊢;rw[hu.other b hb];exact hc
  .intro b p v hk;simp only[aV.put]at hk;split at hk
   .exact Y v (Js hk)
   .exact m.dr b p v hk
  .intro b p o hb;simp only[aV.put];rw[if_neg]
   .exact m.apart b p o hb
   .rintro ⟨rfl,_⟩;exact hβ b hb
  .intro b p hb;rw[Ir];exact m.lt b p hb
  .rw[Ir];exact m.size
  .intro k hk hn hw
   have iN:k≠r:=fun h=>by
    subst h;rcases hB with h|h
    .omega
    .rw[m.grown.w]at h;exact hw h
   rw[hu.other k iN];exact m.frame k hk hn hw
  .intro k hk
   have iN:k≠r:=fun h=>by
    subst h;have:=m.fJ k hk;rw[hg]at this;cases this
   rw[hu.other k iN];exact m.fJ k hk
  .intro k o hk hw
   have iN:k≠r:=fun h=>by
    subst h;rcases hB with h|h
    .omega
    .rw[m.grown.w]at h;exact hw h
   simp only[aV.put];rw[if_neg (by rintro ⟨h,_⟩;exact iN h)];exact m.old k o hk hw
  .intro b x p M hb;have bN:p≠r:=fun h=>hβ b (h▸hb);have vo:=m.box b x p M hb;have mJ:bR P C ω w' w0.heap.size b p x:=vo.iE hu bN (fun j=>by rw[hω];simp);refine mJ.mono hle fun j y v ho=>?_
   have nf:ω r≠En (.cell b j):=by rw[hω];simp
   exact(ho.put news (.inr nf)).other (.inl nf)
 .intro t x M
  have hlk:∃v o,jp s env=En (v,o)\/jp s env=Ga:=by
   cases h:jp s env with
   |none=>exact⟨.undef,Gb,.inr rfl⟩|some x=>exact⟨x.1,x.2,.inl rfl⟩
  by_cases ng:t=s
  .subst ng;simp only[ye]at M
   cases hl:jp t env with
   |none=>rw[hl]at M;simp only[hl]at M;cases M
   |some y=>
    rw[hl]at M;simp only[jp,Vs,cond_true]at M;cases M;obtain⟨v,I,h3,_⟩:=e t y hl;exact⟨v,I,aO.mono hle h3,by simp⟩
  .have fD:jp t env=En x:=by
    simp only[ye]at M
    cases hl:jp s env with
    |none=>rw[hl]at M;exact M
    |some y=>
     rw[hl]at M;simp only[jp]at M
     have:Hb s t=Gb:=by
      cases hb:Hb s t with
      |false=>rfl|true=>exact absurd (Hq hb).symm ng
     rw[this]at M;exact M
   obtain⟨v,I,h3,h4⟩:=e t x fD;exact⟨v,I,aO.mono hle h3,fun h=>df _ _ _ (by simp[ng]) (h4 h)⟩
theorem Ux {t tx ty e:TypeId}{i:TypeInfo}(ht:P.underlying t=En (.slice e))(hi:P.info? e=En i)(r off oD Ba:Nat)(x:Value)(n:Nat)(news:List Value)(G:Src P i.size tx x n news w)(eI:oD+n<=Ba)
  {cells} {te:TypeId} (hg:w.heap[r]?=En (.cells cells te (0,0))) (cJ:off+oD*i.size+news.length<=cells.size):
  (Builtin.append_ #[t,tx] ty #[.slice (En ⟨r,off,Ga⟩) oD Ba,x]).run P w =
   .ok (.slice (En ⟨r,off,Ga⟩) (oD+n) Ba) (w.setRow r (cells.toList.take (off+oD*i.size)++news++cells.toList.drop (off+oD*i.size+news.length)).toArray):=by
 have cw:=run_storeCells_at (P:=P) r (off+oD*i.size) te news 0 cells w hg (by simpa using cJ) G.one;simp only[Vn]at cw;rcases G.kind with⟨e',hk⟩|hk<;>simp[Builtin.append_,run_underlying ht,run_underlying hk,sizeOf,typeInfo,hi,G.len,eI,G.cells,Addr.add_lit,cw]
theorem qn7 {t tx ty e:TypeId}{i:TypeInfo}(ht:P.underlying t=En (.slice e))(hi:P.info? e=En i)(x:Value)(G:Src P i.size tx x 0 [] w):
  (Builtin.append_ #[t,tx] ty #[.slice Ga 0 0,x]).run P w=.ok (.slice Ga 0 0) w:=by
 rcases G.kind with⟨e',hk⟩|hk<;>simp[Builtin.append_,run_underlying ht,run_underlying hk,sizeOf,typeInfo,hi,G.len,G.cells]
theorem N2 (m:aA P C ω w0 C0 hp w){u:TypeId}{ut:TypeDesc}{sz vy ys v}(hu:P.underlying u=En ut)(kG:AV ut=Gd)(h:yd sz vy=En ys)(Q:bW C vy v):
  ∃news,Src P sz u v ys.length news w/\bq C (ys.flatMap AVal.flat) news/\(∀y∈ys,y.flat.length=sz)/\∀x∈news,x.oneCell'=Gd:=by
 have hk:(∃e',P.underlying u=En (.slice e'))\/P.underlying u=En .string:=by
  cases ut<;>simp[AV]at kG
  .exact .inr hu
  .exact .inl ⟨_,hu⟩
 cases vy with
 |list n sy pC=>
  simp only[yd]at h
  cases hb:(Hb sz sy||pC.isEmpty)with
  |false=>simp[hb]at h
  |true=>
   simp only[hb,cond_true,En.injEq]at h;subst h;rcases Q.cU with⟨rfl,rfl,rfl⟩|⟨rfl,r,q,cap,rfl,_,de⟩|⟨rfl,rfl,ad,_,rfl⟩
   .exact⟨[],⟨hk,fun _=>rfl,run_firstCells_none w sz 0 0 0,run_firstCells_none w.drew sz 0 0 0,by simp,by simp⟩,.nil,by simp,by simp⟩
   .obtain⟨news,Y,I⟩:=cF.vals de.cells
    have h3:∀x∈news,x.oneCell'=Gd:=fun x M=>by
     obtain⟨j,hj⟩:=Ty M;exact m.dr _ _ _ (I j x hj)
    have dj:∀y∈pC,y.flat.length=sz:=by
     intro y hy;rcases Bool.or_eq_true _ _▸hb with hb|hb
     .rw[Hq hb];exact de.sized y hy
     .rw[List.isEmpty_iff.1 hb]at hy;cases hy
    have hl:news.length=pC.length*sz:=by rw[Y.length,yr pC dj]
    have hc:∀j u,news[j]?=En u->w.cell? ((⟨r,q,Ga⟩:Addr).add j)=En u:=fun j u hj=>by rw[add_lit];exact m.know _ _ _ (I j u hj)
    refine⟨news,⟨hk,fun _=>rfl,run_firstCells_some w sz _ _ _ _ news hl hc,run_firstCells_some w.drew sz _ _ _ _ news hl (by simpa using hc),hl,h3⟩,Y,dj,h3⟩
   .exact⟨[],⟨hk,fun _=>rfl,run_firstCells_some w sz _ _ _ _ [] (by simp) (by simp),run_firstCells_some w.drew sz _ _ _ _ [] (by simp) (by simp),by simp,by simp⟩,.nil,by simp,by simp⟩
 |str s=>
  simp only[yd]at h
  cases hb:Hb sz 1 with
  |false=>simp[hb]at h
  |true=>
   simp only[hb,cond_true,En.injEq]at h;obtain rfl:=Hq hb;subst h;obtain rfl:=Q.cB
   have lm:∀l:aj,(l.map fun(c:UInt8)=>AVal.int .u8 c.toNat).flatMap AVal.flat=l.map fun(c:UInt8)=>AVal.int .u8 c.toNat:=by
    intro l;induction l with
    |nil=>rfl|cons c l ih=>simp only[Ot,Jo,ih];rfl
   have gJ:∀l:aj,bq C (l.map fun(c:UInt8)=>AVal.int .u8 c.toNat) (l.map fun b=>Value.int .u8 b.toNat):=by
    intro l;induction l with
    |nil=>exact .nil|cons c l ih=>exact .cons _ _ _ _ (.int _ _) ih
   refine⟨byteCells ⟨⟨s⟩⟩,⟨hk,fun w'=>by simp[Builtin.lenOf];rfl,?_,?_,?_,?_⟩,?_,?_,?_⟩
   .rw[Xl];exact firstCells_string (P:=P) ⟨⟨s⟩⟩ w
   .rw[Xl];exact firstCells_string (P:=P) ⟨⟨s⟩⟩ w.drew
   .simp[byteCells]
   .intro u hu;obtain⟨_,_,rfl⟩:=Vq.1 hu;rfl
   .rw[lm];simpa[byteCells]using gJ s
   .intro y hy;obtain⟨_,_,rfl⟩:=Vq.1 hy;rfl
   .intro u hu;obtain⟨_,_,rfl⟩:=Vq.1 hu;rfl
 |_=>simp[yd]at h
theorem Iw {x s}(h:zu env x=En s):x=.tmp s/\∃v,jp s env=En (v,Gd):=by
 unfold zu at h;split at h
 .split at h
  .rename_i t v hl;cases h;exact⟨rfl,v,hl⟩
  .cases h
 .cases h
theorem q9x (e:ar C ω w w0.heap.size env a.tmps){x x' sz len cap xs ad}(Y:qr x=En x')(df:(zu env x').isSome=Gd)(e1:qi env x'=En (.list Gb sz xs))(M:a.eval x=.slice (En ad) len cap):ad.spot=Ga:=by
 obtain⟨s,fK⟩:=Jy.1 df;obtain⟨fD,v0,hl⟩:=Iw fK
 have jF:v0=.list Gb sz xs:=by
  subst fD;simp only[qi,hl]at e1;exact En.inj e1
 subst jF;obtain⟨cv,yR,N3,Bb⟩:=e s _ hl
 have qJ:cv=.slice (En ad) len cap:=by
  have jK:qr x=En (.tmp s):=by rw[Y,fD]
  cases x with
  |tmp t'=>
   simp only[qr]at jK;cases jK
   have:a.eval (.tmp s)=cv:=by simp[Act.eval,Jf,yR]
   rw[<-this,M]
  |const u=>simp only[qr]at jK;split at jK<;>cases jK|func f=>simp[qr]at jK|global g=>simp[qr]at jK
 subst qJ;exact(Bb rfl).2.2.2.1
theorem jf6 (m:aA P C ω w0 C0 hp w)(e:ar C ω w w0.heap.size env a.tmps){c}{t u el:TypeId}{ut:TypeDesc}{x y x' y' sz b n dm xs ys vy}
  (ho:o.op=.call c) (ef:c.callee=.builtin .append) (eC:c.args.toList=[x,y]) (eX:c.argTypes.toList=[t,u]) (ht:P.underlying t=En (.slice el)) (hu:P.underlying u=En ut) (kG:AV ut=Gd)
  (hn:jt P el=En sz) (hb:px P el=En b) (Y:qr x=En x') (I:qr y=En y') (e1:qi env x'=En (.list n dm xs)) (e2:qi env y'=En vy) (cX:yd sz vy=En ys)
  (df:n=Gd\/(zu env x').isSome=Gd) (Bc:sz=dm\/(xs=[]/\n=Gd)) (hlen:xs.length+ys.length<=1073741824) (kF:b<=4096) (hzero:∃z,yw P el=En z/\z.length=sz):
  ∃v w',(execOp a.eval o).run P w=.ok (.value v) w'/\zn P C0 w0 C a.tmps d env ⟨vf n sz xs ys,Gd,zu env x',hp⟩ v w':=by
 have ha:c.args=#[x,y]:=by apply Jm;simpa using eC
 have mY:c.argTypes=#[t,u]:=by apply Jm;simpa using eX
 obtain⟨i,hi,sW⟩:∃i,P.info? el=En i/\i.bytes=b:=by
  unfold px at hb
  cases hi:P.info? el with
  |none=>simp[hi]at hb|some i=>exact⟨i,rfl,by simpa[hi]using hb⟩
 have lL:i.size=sz:=by
  unfold jt at hn;rw[hi]at hn;simpa using hn
 obtain⟨z,hz,Bd⟩:=hzero
 obtain⟨zv,oE⟩:∃zv,i.zero=En zv:=by
  unfold yw at hz;rw[hi]at hz
  cases hq:i.zero with
  |none=>simp[hq]at hz|some v=>exact⟨v,rfl⟩
 have rx:=qu e.cy Y e1;have ry:=qu e.cy I e2;obtain⟨news,G,dk,gi,dl⟩:=N2 m hu kG cX ry
 have fk:∀ {z:Value} {w':World},(Builtin.append_ #[t,u] o.type #[a.eval x,a.eval y]).run P w=.ok z w'->(execOp a.eval o).run P w=.ok (.value z) w':=by
  intro z w' h;simp[execOp,ho,resolve,ef,ha,mY,invoke,builtin,h]
 have oF:news.length=ys.length*sz:=by rw[dk.length,yr ys gi]
 -- a new row
 have grow:∀(base:Option Addr) (cap:Nat) (eN:List Value),a.eval x=.slice base xs.length cap->cap<xs.length+ys.length->(∀(w':World),w'=w.drew->(Builtin.firstCells i.size xs.length (.slice base xs.length cap)).run P w'=.ok eN.toArray w') ->
   bq C (xs.flatMap AVal.flat) eN->(∀v∈eN,v.oneCell'=Gd)->(∀x∈xs,x.flat.length=sz) ->
   ∃v w',(execOp a.eval o).run P w=.ok (.value v) w'/\zn P C0 w0 C a.tmps d env ⟨.list Gb sz (xs++ys),Gd,zu env x',hp⟩ v w':=by
  intro base cap eN sY hcap hold yS Ix qK
  have cJ:Builtin.nextslicecap (xs.length+ys.length) cap*i.bytes<=281474976710656:=growslice_fits hcap (by
   rw[sW]
   exact Jw (Oo hlen kF) (by decide))
  have bJ:=run_append_grow_src w t u o.type el i zv ht hi oE base xs.length cap eN (hold _ rfl) (a.eval y) ys.length news (lL▸G) hcap (by omega) cJ;rw[<-sY]at bJ;refine⟨_,_,fk bJ,?_⟩;have M:Ext w w.drew:=Ext.drew w;have sZ:=grownCap_ge w (xs.length+ys.length) cap el
  have iM:zv.cells.size=sz:=by
   obtain⟨_,zv',mZ,Iy,_⟩:=vn (C:=C) hz;have:=mZ w;simp[zeroValue,typeInfo,hi,oE]at this;subst this;have:=Iy.length;simp at this;omega
  have fj:=N0 (d:=d) (tmps:=a.tmps) (m.ext M) (e.ext M) ((eN++news).toArray++Builtin.zeroCells zv.cells (grownCap w (xs.length+ys.length) cap el-(xs.length+ys.length))) el (xs++ys) sz (grownCap w (xs.length+ys.length) cap el) (eN++news)
   (by rw[Xz];exact bq.append yS dk) (by
    intro j v hj;rw[J2 (by simpa using(I5.1 hj).1)]
    simpa using hj) (by
    intro v hv;rcases Oe.1 hv with hv|hv
    ·exact Ix v hv
    ·exact dl v hv) (by
    intro x M;rcases Oe.1 M with M|M
    ·exact qK x M
    ·exact gi x M) (by rw[Lu];exact sZ) (by
    have ho:=yS.length;rw[yr xs qK]at ho;simp[Builtin.zeroCells,iM,ho,oF];rw[<-Om,<-Om]
    exact Jn _ (by omega)) (zu env x')
  rw[Lu]at fj;exact fj
 rcases rx.cU with⟨rfl,rfl,M⟩|⟨rfl,r,q,cap,M,hle,de⟩|⟨rfl,rfl,ad,lJ,M⟩
 rotate_right
 .exact absurd (q9x e Y (by rcases df with h|h<;>first|cases h|exact h) e1 M) lJ
 ·-- nil
  cases ys with
  |nil=>
   have:news=[]:=by cases dk;rfl
   subst this;refine⟨.slice Ga 0 0,w,fk ?_,C,ω,aV.le_refl C,m,e.strip _,by simpa[vf]using aO.kD 0,fun _=>trivial⟩;rw[M];exact qn7 ht hi _ (lL▸G)
  |cons y1 ys1=>
   have:=grow Ga 0 [] M (by simp) (fun w' _=>run_firstCells_none w' _ _ _ _) .nil (by simp) (by simp);simpa[vf]using this
 ·-- own
  rw[show vf Gb sz xs ys=.list Gb sz (xs++ys)from rfl]
  have Iz:(zu env x').isSome=Gd:=by rcases df with h|h<;>first|cases h|exact h
  obtain⟨s,fK⟩:=Jy.1 Iz;obtain⟨fD,v0,hl⟩:=Iw fK
  obtain rfl:sz=dm:=by rcases Bc with h|⟨_,h⟩<;>first|exact h|cases h
  have jF:v0=.list Gb sz xs:=by
   subst fD;simp only[qi,hl]at e1;exact En.inj e1
  subst jF;obtain⟨cv,yR,N3,Bb⟩:=e s _ hl
  have qJ:cv=.slice (En ⟨r,q,Ga⟩) xs.length cap:=by
   have jK:qr x=En (.tmp s):=by rw[Y,fD]
   cases x with
   |tmp t'=>
    simp only[qr]at jK;cases jK
    have:a.eval (.tmp s)=cv:=by simp[Act.eval,Jf,yR]
    rw[<-this,M]
   |const u=>simp only[qr]at jK;split at jK<;>cases jK|func f=>simp[qr]at jK|global g=>simp[qr]at jK
  subst qJ;obtain⟨hω,hB,hβ,_,N4,⟨cells,te,hg,cJ,_⟩,hK⟩:=Bb rfl;simp only at hω hB hβ hg cJ hK;obtain⟨eN,IA,ho2⟩:=cF.vals de.cells;have qK:=de.sized;by_cases eI:xs.length+ys.length<=cap
  ·-- there is room
   have ib:(xs.length+ys.length)*sz<=cap*sz:=Jn _ eI;rw[Om]at ib;have bJ:=Ux (P:=P) (w:=w) (ty:=o.type) ht hi r q xs.length cap (a.eval y) ys.length news (lL▸G) eI hg (by rw[lL,oF];omega);rw[<-M]at bJ;obtain⟨m',e',cY⟩:=q02 (d:=d) (tmps:=a.tmps) m e (r:=r) (q:=q+xs.length*sz) (news:=news) hω hB hβ hg (by rw[oF];omega) hK dl;rw[lL]at bJ;rw[fK];refine⟨_,_,fk bJ,_,_,cY,m',e',?_,?_⟩
   .have s5:bE (C.put r (q+xs.length*sz) news) r sz (xs++ys) q:=bE.append (aO.mono cY de) (bE.fg (aV.fC hK dk) gi);have:=aO.list sz (xs++ys) r q cap (by simpa using eI) s5;simpa using this
   .intro _
    have hall:∀x∈xs++ys,x.flat.length=sz:=fun x M=>by
     rcases Oe.1 M with M|M
     .exact qK x M
     .exact gi x M
    refine⟨by simp[cS],hB,hβ,rfl,N4,⟨_,te,setRow_heap w r cells _ te (0,0) hg,?_,hM.sized hall⟩,?_⟩
    .simp;omega
    .intro p hp;rw[Om]at hp;simp only[aV.put];simp only at hp;rw[if_neg (by rw[oF];omega)];exact hK p (by omega)
  ·-- there is none
   have hZ:∀v∈eN,v.oneCell'=Gd:=fun v hv=>by
    obtain⟨j,hj⟩:=Ty hv;exact m.dr _ _ _ (ho2 j v hj)
   have Uy:eN.length=xs.length*i.size:=by rw[IA.length,yr xs qK,lL]
   have:=grow (En ⟨r,q,Ga⟩) cap eN M (by omega) (fun w' FP=>run_firstCells_some w' _ _ _ _ _ eN Uy (fun j v hj=>by
    subst FP;rw[add_lit];have:=m.know _ _ _ (ho2 j v hj)
    simpa using this)) IA hZ qK
   simpa using this
end
structure oG (w w':World)(r:Nat):Prop where
 size:w'.heap.size=w.heap.size
 other:∀k,k≠r->w'.heap[k]?=w.heap[k]?
 fz:∀c t fr,w'.heap[r]?=En (.cells c t fr)->fr=(0,0)
 os:w'.os=w.os
 output:w'.output=w.output
theorem ia.iE {w w' r cs}(h:ia w w' r cs):oG w w' r:=
 ⟨h.size,h.other,fun c t fr hc=>by obtain⟨t',ht⟩:=h.at_;rw[ht]at hc;cases hc;rfl,h.os,h.output⟩
section
variable {P:Program}{C C0:aV}{ω:Nat->Option Loc}{w w' w0:World}{hp:qh}{env:Env}{a:Act}{o:Oper}{tmps:Array Value}{d:Loc}
variable (m:aA P C ω w0 C0 hp w)(e:ar C ω w w0.heap.size env a.tmps)
theorem aY.dP {B b r ℓ x v}(hu:oG w w' r)(hb:C.β b=En r)(ho:aY C ω w B ℓ x v):aY C ω w' B ℓ x v:=by
 unfold aY at *;split at ho
 .obtain⟨Y,I,h3,h4,h8,⟨cells,elem,h5,h6⟩,h7⟩:=ho;refine⟨Y,I,h3,h4,h8,⟨cells,elem,?_,h6⟩,h7⟩;rw[hu.other _ (fun h=>h3 b (by rw[h];exact hb))];exact h5
 .obtain⟨Y,I,h3,h4,h8,⟨cells,elem,h5,h6⟩,h7⟩:=ho;refine⟨Y,I,h3,h4,h8,⟨cells,elem,?_,h6⟩,h7⟩;rw[hu.other _ (fun h=>h3 b (by rw[h];exact hb))];exact h5
 .trivial
theorem ar.dP {B b r}(hu:oG w w' r)(hb:C.β b=En r)(e:ar C ω w B env tmps):ar C ω w' B env tmps:=
 fun s x M=>let ⟨v,Y,I,h3⟩:=e s x M; ⟨v,Y,I,fun h=>(h3 h).dP hu hb⟩
theorem bR.dP {B b b' r r' x}(hu:oG w w' r)(hb:C.β b=En r)(bN:r'≠r)(h:bR P C ω w B b' r' x):bR P C ω w' B b' r' x:=by
 have hg:=hu.other r' bN
 cases x with
 |hole=>exact h
 |cells eK=>
  obtain⟨vs,elem,Y,I,h3⟩:=h;exact⟨vs,elem,by rw[hg];exact Y,I,fun j c hc=>let ⟨v,a,q,b,d⟩:=h3 j c hc; ⟨v,a,q,b,fun e=>(d e).dP hu hb⟩⟩
 |map es=>obtain⟨cr,clock,Y,I⟩:=h;exact⟨cr,clock,by rw[hg];exact Y,I⟩|iter s pos=>show w'.heap[r']?=_;rw[hg];exact h|loop l=>obtain⟨lp,Y,I⟩:=h;exact⟨lp,by rw[hg];exact Y,I⟩|gD t e l=>obtain⟨p,v,Y,I,h3,h4⟩:=h;exact⟨p,v,by rw[hg];exact Y,I,h3,h4.dP hu hb⟩|dead=>obtain⟨cs,t,Y⟩:=h;exact⟨cs,t,by rw[hg];exact Y⟩|vec sz bS xs=>exact et.imp (fun _ _ _ h=>h) (fun _ h=>h) (fun _ h _=>h) hg (fun q n cap k=>⟨hu.other q (fun hq=>k.2.2.1 b (by rw[hb];exact congrArg En hq.symm)),k.dP hu hb⟩) h
theorem aA.dY {ω'}(m:aA P C ω w0 C0 hp w){b r}(hu:oG w w' r)(hb:C.β b=En r)(x':aM)(hω:∀b' j y v,b'≠b->aY C ω w w0.heap.size (.cell b' j) y v->aY C ω' w w0.heap.size (.cell b' j) y v)
  (ic:bR P C ω' w' w0.heap.size b r x'):aA P C ω' w0 C0 (hp.set b x') w':=by
 have hfr:=m.fresh b r hb
 have FQ:w.heap[r]?≠En (.deferred (En [])):=by
  obtain⟨x,M⟩:=Jc (m.lt b r hb).2▸(⟨_,rfl⟩:∃x,En (hp[b]'(m.lt b r hb).2)=En x);have h0:=m.box b x r M hb;intro h
  cases x with
  |hole=>exact h0|cells cs=>obtain⟨vs,elem,Y,_⟩:=h0;rw[h]at Y;cases Y|map es=>obtain⟨cr,clock,Y,_⟩:=h0;rw[h]at Y;cases Y|iter s pos=>have Y:w.heap[r]?=_:=h0;rw[h]at Y;cases Y|loop l=>obtain⟨lp,Y,_⟩:=h0;rw[h]at Y;cases Y|gD t e l=>obtain⟨p,v,Y,_⟩:=h0;rw[h]at Y;cases Y|dead=>obtain⟨cs,t,Y⟩:=h0;rw[h]at Y;cases Y|vec sz bS xs=>obtain⟨_,_,_,_,_,_,cs,t,Y⟩:=h0;rw[h]at Y;cases Y
 refine { base:=m.base,know:=?_,dr:=m.dr,apart:=m.apart,inj:=m.inj,lt:=?_,size:=?_,frame:=?_,fJ:=?_,os:=hu.os.trans m.os,output:=hu.output.trans m.output,fresh:=m.fresh,grown:=m.grown,old:=m.old,box:=?_,jD:=fun q hq=>by rw[hu.size];exact m.jD q hq }
 .intro k p v hk
  have bN:k≠r:=fun h=>by rw[h,m.apart b r p hb]at hk;cases hk
  have hc:=m.know _ _ _ hk;simp only[World.cell?]at hc ⊢;rw[hu.other k bN];exact hc
 .intro k p hk;rw[hu.size,Rn];exact m.lt k p hk
 .rw[hu.size];exact m.size
 .intro k hk hn hw;by_cases iN:k=r
  .subst iN;rcases hfr with h|h|h
   .exact absurd h (hn b)
   .omega
   .exact absurd h hw
  .rw[hu.other k iN];exact m.frame k hk hn hw
 .intro k hk;have iN:k≠r:=fun h=>FQ (h▸m.fJ k hk);rw[hu.other k iN];exact m.fJ k hk
 .intro k x p M hk;by_cases nh:k=b
  .subst nh;rw[hb]at hk;cases hk;rw[Jv (m.lt k _ hb).2]at M;cases M;exact ic
  .rw[Lg (Vf nh)]at M;have vj:p≠r:=fun h=>nh (m.inj k b p hk (h▸hb));have h0:=m.box k x p M hk
   exact((h0.dP hu hb vj).mono (ω':=ω') (aV.le_refl C) (fun j y v ho=>by
    have:=hω k j y v nh
    -- the ownerships of other boxes,in the new world
    unfold aY at ho this ⊢;split at ho
    ·obtain⟨Y,I,h3,h4,h8,⟨cells,elem,h5,h6⟩,h7⟩:=ho;rename_i ad len cap;have nf:ad.block≠r:=fun h=>h3 b (h▸hb);rw[hu.other _ nf]at h5;obtain⟨k1,_⟩:=this ⟨Y,I,h3,h4,h8,⟨cells,elem,h5,h6⟩,h7⟩;exact⟨k1,I,h3,h4,h8,⟨cells,elem,by rw[hu.other _ nf];exact h5,h6⟩,h7⟩
    ·obtain⟨Y,I,h3,h4,h8,⟨cells,elem,h5,h6⟩,h7⟩:=ho;rename_i ad;have nf:ad.block≠r:=fun h=>h3 b (h▸hb);rw[hu.other _ nf]at h5;obtain⟨k1,_⟩:=this ⟨Y,I,h3,h4,h8,⟨cells,elem,h5,h6⟩,h7⟩;exact⟨k1,I,h3,h4,h8,⟨cells,elem,by rw[hu.other _ nf];exact h5,h6⟩,h7⟩
    ·trivial))
theorem bR.read {B b r off n cs us}(h:bR P C ω w B b r (.cells cs))(hl:zm cs off n=En us):
  ∃vs,bq C us vs/\us.length=n/\vs.length=n/\(∀j v,vs[j]?=En v->w.cell? ⟨r,off+j,Ga⟩=En v)/\∀v∈vs,v.oneCell'=Gd:=by
 unfold zm at hl
 cases hb:H2 (off+n) cs.length with
 |false=>simp[hb]at hl
 |true=>
  simp only[hb,cond_true,En.injEq]at hl;subst hl;have hle:=Jg hb;obtain⟨vs,elem,Y,I,h3⟩:=h
  have key:∀(n off:Nat),off+n<=cs.length->∃ws:List Value,bq C (((cs.drop off).take n).map (·.1)) ws/\ws.length=n/\∀j v,ws[j]?=En v->vs[off+j]?=En v/\v.oneCell'=Gd:=by
   intro n
   induction n with
   |zero=>intro off _;exact⟨[],by simpa using aO.nil,rfl,by simp⟩
   |succ n ih=>
    intro off hle;obtain⟨ws,i1,i2,i3⟩:=ih (off+1) (by omega)
    have aW:off<cs.length:=by omega
    obtain⟨v,j1,j2,j3,_⟩:=h3 off cs[off] (Jc aW);refine⟨v::ws,?_,by simp[i2],?_⟩
    .rw[Vc aW];exact .cons _ _ _ _ j3 i1
    .intro j u hj
     cases j with
     |zero=>simp at hj;subst hj;exact⟨j1,j2⟩|succ j=>simp at hj;rw[show off+(j+1)=off+1+j from by omega];exact i3 j u hj
  obtain⟨ws,k1,k2,k3⟩:=key n off hle;refine⟨ws,k1,by simp;omega,k2,?_,?_⟩
  .intro j v hj;have:=(k3 j v hj).1;simp[World.cell?,Y,this]
  .intro v hv;obtain⟨j,hj⟩:=Ty hv;exact(k3 j v hj).2
theorem IB {t:TypeId}{n r off vs}(hg:yu P t=En Gd)(hn:jt P t=En n)(hl:vs.length=n)(hc:∀j v,vs[j]?=En v->w.cell? ⟨r,off+j,Ga⟩=En v):
  (loadVar t ⟨r,off,Ga⟩).run P w=.ok (.agg ⟨vs⟩) w:=by
 have:=run_loadCells_list (P:=P) w ⟨r,off,Ga⟩ vs (fun j v hj=>by rw[add_lit];exact hc j v hj);rw[hl]at this;simp[loadVar,FM hg,yt hn,this]
theorem IC {t:TypeId}{r off v}(hg:yu P t=En Gb)(hc:w.cell? ⟨r,off,Ga⟩=En v):(loadVar t ⟨r,off,Ga⟩).run P w=.ok v w:=by
 simp[loadVar,FM hg,hc]
theorem Uz (m:aA P C ω w0 C0 hp w)(he:bC C env a.tmps){t:TypeId}{x x' n ag p v}(ho:o.op=.load t x)(hg:yu P t=En ag)(hn:jt P t=En n)(IE:ag=Gb->n=1)(Y:qr x=En x')(e1:qi env x'=En p)
  (hv:(∃b q cs us,p=.ptr b q/\qv hp b=En cs/\zm cs q n=En us/\((ag=Gd/\v=.agg us)\/(ag=Gb/\us=[v])))\/(p=.aq v/\St ag v.isAgg=Gb/\v.flat.length=n)):Val P C a o w v:=by
 rcases hv with⟨b,q,cs,us,rfl,mK,hl,hv⟩|⟨rfl,M,wY⟩
 .obtain⟨r,Q,hq⟩:=(qu he Y e1).dy
  have ie:hp[b]?=En (.cells cs):=by
   unfold qv at mK;split at mK
   .rename_i eK h;cases mK;exact h
   .cases mK
  obtain⟨vs,k1,_,k2,k3,_⟩:=(m.box b _ r ie Q).read hl;rcases hv with⟨rfl,rfl⟩|⟨rfl,rfl⟩
  .exact⟨.agg ⟨vs⟩,by simp[execOp,ho,Instr.loadAt,hq,Instr.sureAddr,IB hg hn k2 k3],.agg _ _ k1⟩
  .cases k1 with
   |cons _ _ u us hu lK=>
    cases lK;refine⟨u,?_,hu⟩;have:=IC (P:=P) hg (by simpa using k3 0 u rfl);simp[execOp,ho,Instr.loadAt,hq,Instr.sureAddr,this]
 .obtain⟨r,q,hq,hc⟩:=(qu he Y e1).fh;obtain⟨vs,k1,k2⟩:=cF.vals hc
  have hl:vs.length=n:=by rw[k1.length,wY]
  have k3:∀j u,vs[j]?=En u->w.cell? ⟨r,q+j,Ga⟩=En u:=fun j u hj=>m.know _ _ _ (k2 j u hj)
  cases ag with
  |true=>
   cases v<;>simp[AVal.isAgg]at M;exact⟨.agg ⟨vs⟩,by simp[execOp,ho,Instr.loadAt,hq,Instr.sureAddr,IB hg hn hl k3],.agg _ _ k1⟩
  |false=>
   rw[qcc (by simpa using M)]at k1
   cases k1 with
   |cons _ _ u us hu lK=>
    cases lK;refine⟨u,?_,hu⟩;have:=IC (P:=P) hg (by simpa using k3 0 u rfl);simp[execOp,ho,Instr.loadAt,hq,Instr.sureAddr,this]
def aV.box (C:aV)(b r:Nat):aV:={ C with β:=fun k=>if k=b then En r else C.β k }
theorem aV.lM {b r}(h:C.β b=Ga):C.le (C.box b r):=
 ⟨fun _ _ _ h=>h,fun k p hk=>by
  simp only[aV.box];rw[if_neg (fun hb=>by rw[hb,h]at hk;cases hk)]
  exact hk,rfl,fun _ h=>h,fun _ h=>h⟩
theorem aY.box {B b r ℓ x v}(Q:w.heap.size<=r\/ω r≠En ℓ)(ho:aY C ω w B ℓ x v):aY (C.box b r) ω w B ℓ x v:=by
 unfold aY at *;split at ho
 .rename_i ad len cap;obtain⟨Y,I,h3,h4,h8,⟨cells,elem,h5,h6⟩,h7⟩:=ho;have aW:ad.block<w.heap.size:=(I1.1 h5).1;refine⟨Y,I,fun k hk=>?_,h4,h8,⟨cells,elem,h5,h6⟩,h7⟩;simp only[aV.box]at hk;split at hk
  .have jG:r=ad.block:=En.inj hk;rcases Q with Q|Q
   .omega
   .exact Q (jG▸Y)
  .exact h3 k hk
 .rename_i ad;obtain⟨Y,I,h3,h4,h8,⟨cells,elem,h5,h6⟩,h7⟩:=ho;have aW:ad.block<w.heap.size:=(I1.1 h5).1;refine⟨Y,I,fun k hk=>?_,h4,h8,⟨cells,elem,h5,h6⟩,h7⟩;simp only[aV.box]at hk;split at hk
  .have jG:r=ad.block:=En.inj hk;rcases Q with Q|Q
   .omega
   .exact Q (jG▸Y)
  .exact h3 k hk
 .trivial
theorem yz {h0 rk x h'}(h:aQ h0 hp rk x=En h'):hp[h0+rk]?=En .hole/\h'=hp.set (h0+rk) x:=by
 unfold aQ at h;split at h
 .rename_i hh;cases h;exact⟨hh,rfl⟩
 .cases h
theorem IF (m:aA P C ω w0 C0 hp w){b}(h:hp[b]?=En .hole):C.β b=Ga:=by
 cases hb:C.β b with
 |none=>rfl|some r=>exact(m.box b .hole r h hb).elim
theorem aA.aQ (m:aA P C ω w0 C0 hp w)(e:ar C ω w w0.heap.size env tmps){b}(hh:hp[b]?=En .hole)(obj:Obj)(UA:∀c t fr,obj=.cells c t fr->fr=(0,0))(x:aM)
  (ic:∀C' ω' w',C.le C'->w'.heap[w.heap.size]?=En obj->bR P C' ω' w' w0.heap.size b w.heap.size x):
  aA P (C.box b w.heap.size) ω w0 C0 (hp.set b x) (w.alloc obj)/\ar (C.box b w.heap.size) ω (w.alloc obj) w0.heap.size env tmps/\C.le (C.box b w.heap.size):=by
 have M:Ext w (w.alloc obj):=Ext.alloc w obj UA;have hβ:=IF m hh;have hle:=aV.lM (C:=C) (r:=w.heap.size) hβ;have m':=m.ext M;have aW:b<hp.length:=(I5.1 hh).1;refine⟨{ m' with apart:=?_,inj:=?_,lt:=?_,fresh:=?_,grown:=aV.le_trans m.grown hle,box:=?_ },?_,hle⟩
 .intro k r q hk;simp only[aV.box]at hk;split at hk
  .cases hk;exact m.lg _ (If _) q
  .exact m.apart k r q hk
 .intro k k' r hk fm;simp only[aV.box]at hk fm;split at hk<;>split at fm
  .rename_i Y I;rw[Y,I]
  .cases hk;have:=(m.lt k' _ fm).1;omega
  .cases fm;have:=(m.lt k _ hk).1;omega
  .exact m.inj k k' r hk fm
 .intro k r hk;rw[Rn];simp only[aV.box]at hk;split at hk
  .rename_i Y;cases hk;subst Y;exact⟨by rw[World.size_alloc];omega,aW⟩
  .have:=m.lt k r hk;exact⟨by rw[World.size_alloc];omega,this.2⟩
 .intro k r hk;simp only[aV.box]at hk;split at hk
  .cases hk;exact .inr (.inl m.size)
  .exact m.fresh k r hk
 .intro k y r hy hk;simp only[aV.box]at hk;split at hk
  .rename_i Y;subst Y;cases hk;rw[Jv aW]at hy;cases hy;exact ic _ _ _ hle (by rw[wV,if_pos rfl])
  .rename_i Y;rw[Lg (Vf Y)]at hy;exact((m.box k y r hy hk).mono (ω':=ω) hle fun j z v ho=>ho.box (.inl (If _))).ext M
 .exact fun s y hy=>let ⟨v,Y,I,h3⟩:=e s y hy; ⟨v,Y,aO.mono hle I,fun h=>((h3 h).box (.inl (If _))).ext M⟩
theorem aY.IG {B b r ℓ x v}(Q:∀cs t fr,w.heap[r]?≠En (.cells cs t fr))(ho:aY C ω w B ℓ x v):aY (C.box b r) ω w B ℓ x v:=by
 unfold aY at *;split at ho
 .rename_i ad len cap;obtain⟨Y,I,h3,h4,h8,⟨cells,elem,h5,h6⟩,h7⟩:=ho;refine⟨Y,I,fun k hk=>?_,h4,h8,⟨cells,elem,h5,h6⟩,h7⟩;simp only[aV.box]at hk;split at hk
  .have jG:r=ad.block:=En.inj hk;exact absurd (jG▸h5) (Q _ _ _)
  .exact h3 k hk
 .rename_i ad;obtain⟨Y,I,h3,h4,h8,⟨cells,elem,h5,h6⟩,h7⟩:=ho;refine⟨Y,I,fun k hk=>?_,h4,h8,⟨cells,elem,h5,h6⟩,h7⟩;simp only[aV.box]at hk;split at hk
  .have jG:r=ad.block:=En.inj hk;exact absurd (jG▸h5) (Q _ _ _)
  .exact h3 k hk
 .trivial
theorem aA.IH (m:aA P C ω w0 C0 hp w)(e:ar C ω w w0.heap.size env tmps){b q es cr clock}(hh:hp[b]?=En .hole)(hg:w.heap[q]?=En (.map cr clock))(hq:∀k,C.β k≠En q)(hb:w0.heap.size<=q)(Q:cK C es cr.toList):
  aA P (C.box b q) ω w0 C0 (hp.set b (.map es)) w/\ar (C.box b q) ω w w0.heap.size env tmps/\C.le (C.box b q):=by
 have hβ:=IF m hh;have hle:=aV.lM (C:=C) (r:=q) hβ;have aW:b<hp.length:=(I5.1 hh).1
 have mL:∀cs t fr,w.heap[q]?≠En (.cells cs t fr):=fun cs t fr h=>by rw[hg]at h;cases h
 refine⟨{ m with apart:=?_,inj:=?_,lt:=?_,fresh:=?_,grown:=aV.le_trans m.grown hle,box:=?_ },?_,hle⟩
 .intro k r o hk;simp only[aV.box]at hk;split at hk
  .cases hk;show C.K q o=Ga
   cases hK:C.K q o with
   |none=>rfl
   |some v=>
    have:=m.know q o v hK;simp[World.cell?,hg]at this
  .exact m.apart k r o hk
 .intro k k' r hk fm;simp only[aV.box]at hk fm;split at hk<;>split at fm
  .rename_i Y I;rw[Y,I]
  .cases hk;exact absurd fm (hq k')
  .cases fm;exact absurd hk (hq k)
  .exact m.inj k k' r hk fm
 .intro k r hk;rw[Rn];simp only[aV.box]at hk;split at hk
  .rename_i Y;cases hk;subst Y;exact⟨(I1.1 hg).1,aW⟩
  .exact m.lt k r hk
 .intro k r hk;simp only[aV.box]at hk;split at hk
  .cases hk;exact .inr (.inl hb)
  .exact m.fresh k r hk
 .intro k y r hy hk;simp only[aV.box]at hk;split at hk
  .rename_i Y;subst Y;cases hk;rw[Jv aW]at hy;cases hy;exact⟨cr,clock,hg,Q.mono hle⟩
  .rename_i Y;rw[Lg (Vf Y)]at hy;exact(m.box k y r hy hk).mono (ω':=ω) hle fun j z v ho=>ho.IG mL
 .exact fun s y hy=>let ⟨v,Y,I,h3⟩:=e s y hy; ⟨v,Y,aO.mono hle I,fun h=>(h3 h).IG mL⟩
theorem UB {xs vs}{t:TypeId}{B b r cells}(Q:bq C xs vs)(G:∀x∈xs,qk x=Gd)(hv:∀(j:Nat) v,vs[j]?=En v->cells[j]?=En v)(hl:xs.length<=cells.size):
  ∀C' ω' w',C.le C'->w'.heap[r]?=En (.cells cells t (0,0))->bR P C' ω' w' B b r (.cells (cellsOf xs)):=by
 intro C' ω' w' hle hg;refine⟨cells,t,hg,by simpa[cellsOf]using hl,?_⟩;intro j c hc;simp only[cellsOf,Ld,Ha]at hc;obtain⟨x,M,rfl⟩:=hc;obtain⟨v,Y,I⟩:=Q.get M;exact⟨v,hv j v Y,Uw I (G x (Js M)),aO.mono hle I,by simp⟩
section
include m e
theorem jiu {t:TypeId}{z h0 rk h'}(ho:o.op=.alloc t)(hz:yw P t=En z)(G:∀x∈z,qk x=Gd)(hn:aQ h0 hp rk (.cells (cellsOf z))=En h'):
  ∃v w',(execOp a.eval o).run P w=.ok (.value v) w'/\zn P C0 w0 C a.tmps d env ⟨.ptr (h0+rk) 0,Gb,Ga,h'⟩ v w':=by
 obtain⟨hh,rfl⟩:=yz hn;obtain⟨_,zv,mI,cV,mZ⟩:=vn (C:=C) hz;obtain⟨m',e',hle⟩:=m.aQ e hh (.cells zv.cells t) (fun c t fr h=>by cases h;rfl) (.cells (cellsOf z)) (UB cV G (fun j v h=>by simpa using h) (by have:=cV.length;simp at this;omega));refine⟨.pointer (En ⟨w.heap.size,0,Ga⟩),_,?_,_,_,hle,m',e',.ptr _ _ _ (by simp[aV.box]),by simp⟩;simp[execOp,ho,Instr.alloc,mI,newVar,newRow]
theorem juz {t:TypeId}{x x' v h0 rk h'}(ho:o.op=.box t x)(Y:qr x=En x')(e1:qi env x'=En v)(G:v.flat.all qk=Gd)
  (hn:aQ h0 hp rk (.cells (cellsOf v.flat))=En h'):
  ∃v w',(execOp a.eval o).run P w=.ok (.value v) w'/\zn P C0 w0 C a.tmps d env ⟨.ptr (h0+rk) 0,Gb,Ga,h'⟩ v w':=by
 obtain⟨hh,rfl⟩:=yz hn;have Q:=A5 (qu e.cy Y e1) G;obtain⟨m',e',hle⟩:=m.aQ e hh (.cells (a.eval x).cells t) (fun c t fr h=>by cases h;rfl) (.cells (cellsOf v.flat)) (UB Q (by simpa using G) (fun j v h=>by simpa using h) (by have:=Q.length;simp at this;omega));refine⟨.pointer (En ⟨w.heap.size,0,Ga⟩),_,?_,_,_,hle,m',e',.ptr _ _ _ (by simp[aV.box]),by simp⟩;simp[execOp,ho,Instr.box,newVar,newRow]
theorem jlb {t:TypeId}{x x' v}(ho:o.op=.box t x)(Y:qr x=En x')(e1:qi env x'=En v)(G:v.flat.all qk=Gd):
  ∃u w',(execOp a.eval o).run P w=.ok (.value u) w'/\zn P C0 w0 C a.tmps d env ⟨.aq v,Gb,Ga,hp⟩ u w':=by
 have Q:=A5 (qu e.cy Y e1) G;have M:Ext w (w.alloc (.cells (a.eval x).cells t)):=Ext.alloc w _ (fun c t fr h=>by cases h;rfl);have hn:∀o,0<=o->C.K w.heap.size o=Ga:=fun o _=>m.lg _ (If _) o;have m':=m.newRow (a.eval x).cells t (a.eval x).cells.toList (fun j v h=>by simpa using h) (A7 Q (fun y hy=>Vh.1 G y hy));refine⟨.pointer (En ⟨w.heap.size,0,Ga⟩),_,?_,_,ω,aV.hO _ hn,m',(e.put _ (.inl (If _)) hn).ext M,.aq _ _ _ (aV.fC hn Q),by simp⟩;simp[execOp,ho,Instr.box,newVar,newRow]
theorem jup {t:TypeId}{e' sz h0 rk h'}(ho:o.op=.alloc t)(hz:yw P t=En [.bQ,.list Gd sz []])(hn:aQ h0 hp rk (.gD t e' [])=En h'):
  ∃v w',(execOp a.eval o).run P w=.ok (.value v) w'/\zn P C0 w0 C a.tmps d env ⟨.ptr (h0+rk) 0,Gb,Ga,h'⟩ v w':=by
 obtain⟨hh,rfl⟩:=yz hn;obtain⟨_,zv,mI,cV,mZ⟩:=vn (C:=C) hz
 have hzc:zv.cells=#[.pointer Ga,.slice Ga 0 0]:=by
  apply Jm;generalize zv.cells.toList=vs at cV
  cases cV with
  |cons _ _ v vs Y I=>
   cases I with
   |cons _ _ u us h3 h4=>
    cases h4;cases Y;cases h3;rfl
 obtain⟨m',e',hle⟩:=m.aQ e hh (.cells zv.cells t) (fun c t fr h=>by cases h;rfl) (.gD t e' []) (fun C' ω' w' _ hg=>⟨.pointer Ga,.slice Ga 0 0,by rw[hzc]at hg;exact hg,.inl rfl,.inl ⟨rfl,rfl⟩,trivial⟩);refine⟨.pointer (En ⟨w.heap.size,0,Ga⟩),_,?_,_,_,hle,m',e',.ptr _ _ _ (by simp[aV.box]),by simp⟩;simp[execOp,ho,Instr.alloc,mI,newVar,newRow]
theorem jky {t:TypeId}{h0 rk h'}(ho:o.op=.makeMap t Ga)(hn:aQ h0 hp rk (.map [])=En h'):
  ∃v w',(execOp a.eval o).run P w=.ok (.value v) w'/\zn P C0 w0 C a.tmps d env ⟨.map (h0+rk),Gb,Ga,h'⟩ v w':=by
 obtain⟨hh,rfl⟩:=yz hn;obtain⟨m',e',hle⟩:=m.aQ e hh (.map #[] 0) (fun c t fr h=>by cases h) (.map []) (fun C' ω' w' _ hg=>⟨#[],0,hg,.nil⟩);refine⟨.map (En w.heap.size),_,?_,_,_,hle,m',e',.map _ _ (by simp[aV.box]),by simp⟩;simp[execOp,ho,Instr.makeMap]
theorem jgj {t:TypeId}{x x' s h0 rk h'}(ho:o.op=.range t x)(ht:P.underlying t=En .string)(Y:qr x=En x')(e1:qi env x'=En (.str s))(hn:aQ h0 hp rk (.iter s 0)=En h'):
  ∃v w',(execOp a.eval o).run P w=.ok (.value v) w'/\zn P C0 w0 C a.tmps d env ⟨.ptr (h0+rk) 0,Gb,Ga,h'⟩ v w':=by
 obtain⟨hh,rfl⟩:=yz hn;have G:=(qu e.cy Y e1).cB;obtain⟨m',e',hle⟩:=m.aQ e hh (.stringIter ⟨⟨s⟩⟩ 0) (fun c t fr h=>by cases h) (.iter s 0) (fun C' ω' w' _ hg=>hg);refine⟨.pointer (En ⟨w.heap.size,0,Ga⟩),_,?_,_,_,hle,m',e',.ptr _ _ _ (by simp[aV.box]),by simp⟩;simp[execOp,ho,Instr.range,run_underlying ht,G]
end
end
section
variable {P:Program}{C C0:aV}{ω:Nat->Option Loc}{w w' w0:World}{hp:qh}{env:Env}{a:Act}{o:Oper}{tmps:Array Value}{d:Loc}
def vp (ω:Nat->Option Loc)(x:AVal)(v:Value)(ℓ:Loc):Nat->Option Loc:=
 match x,v with
 | .list ..,.slice (En ad) _ _=>cS ω ad.block ℓ| .db _,.pointer (En ad)=>cS ω ad.block ℓ|_,_=>ω
theorem yT {B ℓ0 ℓ ℓ' x z cv u}(h0:aY C ω w B ℓ0 x cv)(bN:ℓ≠ℓ0)(hz:aY C ω w B ℓ z u):aY C (vp ω x cv ℓ') w B ℓ z u:=by
 unfold vp;split
 .rename_i ad l c;have hω:ω ad.block=En ℓ0:=h0.1;exact hz.other (.inl (by rw[hω];intro h;exact bN (En.inj h).symm))
 .rename_i n ad;have hω:ω ad.block=En ℓ0:=h0.1;exact hz.other (.inl (by rw[hω];intro h;exact bN (En.inj h).symm))
 .exact hz
theorem N5 {B ℓ0 ℓ' x cv}(h0:aY C ω w B ℓ0 x cv):aY C (vp ω x cv ℓ') w B ℓ' x cv:=by
 unfold vp;split
 .exact⟨by simp[cS],h0.2⟩
 .exact⟨by simp[cS],h0.2⟩
 .rename_i Y I;unfold aY;split
  .exact absurd rfl (Y _ _ _ _ _ _ rfl)
  .exact absurd rfl (I _ _ rfl)
  .trivial
theorem xa {b cs}(h:qv hp b=En cs):hp[b]?=En (.cells cs):=by
 unfold qv at h;split at h
 .rename_i eK h';cases h;exact h'
 .cases h
theorem Be {b x h'}(h:jy hp b x=En h'):h'=hp.set b x:=by
 unfold jy at h
 cases hb:I7 b hp.length with
 |false=>simp[hb]at h|true=>simpa[hb]using h.symm
theorem bR.store {ω':Nat->Option Loc}{B b r off:Nat}{cs:List (AVal×Bool)}{us:List AVal}{news:List Value}{fl:List Bool}{vs:Array Value}{t:TypeId}(N6:fl.length=us.length)(Q:bq C us news)(Y:∀v∈news,v.oneCell'=Gd)
  (hl:off+us.length<=cs.length) (dj:cs.length<=vs.size) (hold:∀j c,cs[j]?=En c->∃v,vs[j]?=En v/\v.oneCell'=Gd/\bW C c.1 v/\(c.2=Gd->aY C ω' w' B (.cell b j) c.1 v))
  (dC:∀j u v,us[j]?=En u->news[j]?=En v->fl[j]?=En Gd->aY C ω' w' B (.cell b (off+j)) u v)
  (hg:w'.heap[r]?=En (.cells (vs.toList.take off++news++vs.toList.drop (off+news.length)).toArray t (0,0))):
  bR P C ω' w' B b r (.cells (cs.take off++us.zip fl++cs.drop (off+us.length))):=by
 have oF:=Q.length;refine⟨_,t,hg,?_,?_⟩
 .simp;omega
 .intro j c hc;rw[J0]at hc
  have e1:(Eaf off cs).length=off:=by simp;omega
  have e2:(us.zip fl).length=us.length:=by simp[N6]
  have f1:(Eaf off vs.toList).length=off:=by simp;omega
  simp only[I9,J0];by_cases hj:j<off
  .rw[I6 (by omega),Jz hj]at hc;obtain⟨v,J,a2,a3,a4⟩:=hold j c hc;exact⟨v,by rw[I6 (by omega),Jz hj,Jj];exact J,a2,a3,a4⟩
  .rw[Ja (by omega),e1]at hc;by_cases hj2:j<off+us.length
   .rw[I6 (by omega)]at hc;have dX:=List.getElem?_zip_eq_some.1 hc;obtain⟨v,J,a2⟩:=Q.get dX.1;refine⟨v,by rw[Ja (by omega),f1,I6 (by omega)];exact J,Y v (Js J),a2,fun hf=>?_⟩;have:=dC (j-off) c.1 v dX.1 J (by rw[dX.2,hf]);rw[show off+(j-off)=j from by omega]at this;exact this
   .rw[Ja (by omega),e2,U5]at hc;rw[show off+us.length+(j-off-us.length)=j from by omega]at hc;obtain⟨v,J,a2,a3,a4⟩:=hold j c hc;exact⟨v,by rw[Ja (by omega),f1,Ja (by omega),U5,show off+news.length+(j-off-news.length)=j from by omega,Jj];exact J,a2,a3,a4⟩
theorem jjm (us:List AVal):us.zip (Hc us.length Gb)=us.map (·,Gb):=by
 induction us with
 |nil=>rfl|cons x us ih=>simp only[Eai,J1,List.zip_cons_cons,ih,Ot]
theorem q8l (m:aA P C ω w0 C0 hp w)(e:ar C ω w w0.heap.size env tmps){b r off:Nat}{cs:List (AVal×Bool)}{us:List AVal}{news:List Value}(hb:hp[b]?=En (.cells cs))(Q:C.β b=En r)(iD:bq C us news)(Y:∀v∈news,v.oneCell'=Gd)(hl:off+us.length<=cs.length):
  ∃vs t,w.heap[r]?=En (.cells vs t (0,0))/\off+news.length<=vs.size /\
   aA P C ω w0 C0 (hp.set b (.cells (cs.take off++us.map (·,Gb)++cs.drop (off+us.length)))) (w.setRow r (vs.toList.take off++news++vs.toList.drop (off+news.length)).toArray) /\
   ar C ω (w.setRow r (vs.toList.take off++news++vs.toList.drop (off+news.length)).toArray) w0.heap.size env tmps:=by
 obtain⟨vs,t,hg,dj,hold⟩:=m.box b _ r hb Q;have hu:=Iq hg (vs.toList.take off++news++vs.toList.drop (off+news.length)).toArray;have oF:=iD.length;refine⟨vs,t,hg,by omega,m.dY hu.iE Q _ (fun b' j y v _ h=>h) ?_,e.dP hu.iE Q⟩;rw[<-jjm];refine bR.store (by simp) iD Y hl dj (fun j c hc=>?_) (fun j u v _ _ hf=>?_) (setRow_heap w r vs _ t (0,0) hg)
 .obtain⟨v,J,a2,a3,a4⟩:=hold j c hc;exact⟨v,J,a2,a3,fun h=>(a4 h).dP hu.iE Q⟩
 .rw[List.getElem?_replicate]at hf;split at hf<;>cases hf
theorem UC {t te:TypeId}{n r off v vs}(hn:jt P t=En n)(hl:v.cells.toList.length=n)(hg:w.heap[r]?=En (.cells vs te (0,0)))(cJ:off+v.cells.toList.length<=vs.size)(Y:∀u∈v.cells.toList,u.oneCell'=Gd):
  (storeVar t ⟨r,off,Ga⟩ v).run P w=.ok () (w.setRow r (vs.toList.take off++v.cells.toList++vs.toList.drop (off+v.cells.toList.length)).toArray):=by
 have cw:=run_storeCells_at (P:=P) r off te v.cells.toList 0 vs w hg (by simpa using cJ) Y;simp only[Vn]at cw
 have:¬(v.cells.size≠n):=by simp at hl;simpa using hl
 simp only[storeVar,Sem.run_bind,yt hn,Result.andThen_ok,this,if_false,Sem.run_ite,cw]
theorem jja (m:aA P C ω w0 C0 hp w)(e:ar C ω w w0.heap.size env a.tmps){t:TypeId}{x y x' y' n b q v cs eK h'}(ho:o.op=.store t x y)(hn:jt P t=En n)
  (Y:qr x=En x') (I:qr y=En y') (e1:qi env x'=En (.ptr b q)) (e2:qi env y'=En v) (mK:qv hp b=En cs) (wY:v.flat.length=n) (cw:jx cs q v.flat=En eK) (bO:jy hp b (.cells eK)=En h'):
  ∃w',(execOp a.eval o).run P w=.ok .skip w'/\zn P C0 w0 C a.tmps d env ⟨.undef,Gb,Ga,h'⟩ undef w':=by
 obtain⟨r,Q,hq⟩:=(qu e.cy Y e1).dy;unfold jx at cw
 cases hb:(H2 (q+v.flat.length) cs.length&&v.flat.all qk)with
 |false=>simp[hb]at cw
 |true=>
  simp only[hb,cond_true,En.injEq]at cw;simp only[Ji]at hb;subst cw;have ry:=A5 (qu e.cy I e2) hb.2;have dl:=A7 ry (by simpa using hb.2);obtain⟨vs,te,hg,cJ,m',e'⟩:=q8l m e (xa mK) Q ry dl (Jg hb.1);obtain rfl:=Be bO;have bJ:=UC (P:=P) hn (by rw[ry.length,wY]) hg cJ dl;exact⟨_,by simp[execOp,ho,Instr.storeAt,hq,Instr.sureAddr,bJ],C,ω,aV.le_refl C,m',e',.undef,by simp⟩
theorem q8b (m:aA P C ω w0 C0 hp w)(e:ar C ω w w0.heap.size env a.tmps){t:TypeId}{x y:Operand}{x' y':jw}{b q s:Nat}{v:AVal}{cs:List (AVal×Bool)}{h':qh}(ho:o.op=.store t x y)(hn:jt P t=En 1)
  (Y:qr x=En x') (I:qr y=En y') (e1:qi env x'=En (.ptr b q)) (e2:qi env y'=En v) (mK:qv hp b=En cs) (hv:v.cT=Gd) (aW:q<cs.length) (df:zu env y'=En s) (bO:jy hp b (.cells (cs.set q (v,Gd)))=En h'):
  ∃w',(execOp a.eval o).run P w=.ok .skip w'/\zn P C0 w0 C a.tmps d env ⟨.undef,Gb,En s,h'⟩ undef w':=by
 obtain⟨r,Q,hq⟩:=(qu e.cy Y e1).dy;have ry:=qu e.cy I e2;obtain⟨Bf,v0,hl⟩:=Iw df
 have jF:v0=v:=by subst Bf;simp only[qi,hl]at e2;exact En.inj e2
 subst jF
 have lm:v0.flat=[v0]:=by cases v0<;>simp[AVal.cT]at hv<;>rfl
 have hsc:qk v0=Gd:=by cases v0<;>simp[AVal.cT]at hv<;>rfl
 have rf:=A5 ry (by rw[lm];simpa using hsc);rw[lm]at rf;have dl:=A7 rf (by simpa using hsc)
 have eo:(a.eval y).cells.toList=[a.eval y]:=by
  have:=Uw ry hsc;cases hh:a.eval y<;>simp[hh,Value.oneCell']at this<;>rfl
 obtain⟨cv,yR,N3,Bb⟩:=e s _ hl
 have qJ:a.eval y=cv:=by
  have Bg:qr y=En (.tmp s):=by rw[I,Bf]
  cases y with
  |tmp t'=>simp only[qr]at Bg;cases Bg;simp[Act.eval,Jf,yR]|const u=>simp only[qr]at Bg;split at Bg<;>cases Bg|func f=>simp[qr]at Bg|global g=>simp[qr]at Bg
 obtain⟨vs,te,hg,dj,hold⟩:=m.box b _ r (xa mK) Q;have hu:=Iq hg (vs.toList.take q++[a.eval y]++vs.toList.drop (q+1)).toArray
 have eu:(a.eval y).cells.toList.length=1:=by rw[eo];rfl
 have bJ:=UC (P:=P) (t:=t) (off:=q) hn eu hg (by omega) dl;rw[eu,eo]at bJ;obtain rfl:=Be bO;have yU:=Bb rfl;have pD:∀ℓ z u,ℓ≠.slot s->aY C ω w w0.heap.size ℓ z u->aY C (vp ω v0 cv (.cell b q)) w w0.heap.size ℓ z u:=fun ℓ z u hℓ hz=>yT yU hℓ hz;have dC:aY C (vp ω v0 cv (.cell b q)) w w0.heap.size (.cell b q) v0 cv:=N5 yU
 have hcs:cs.take q++[(v0,Gd)]++cs.drop (q+1)=cs.set q (v0,Gd):=by
  rw[List.set_eq_take_append_cons_drop,if_pos aW];simp
 refine⟨w.setRow r (vs.toList.take q++[a.eval y]++vs.toList.drop (q+1)).toArray,by simp only[execOp,ho,Instr.storeAt,Sem.run_bind,hq,Instr.sureAddr,Sem.run_pure,Result.andThen_ok,bJ],C,vp ω v0 cv (.cell b q),aV.le_refl C,?_,?_,.undef,by simp⟩
 .refine m.dY hu.iE Q _ (fun b' j z u fW hz=>pD _ z u (by simp) hz) ?_;rw[<-hcs];have hz:[(v0,Gd)]=[v0].zip [Gd]:=rfl;rw[hz];refine bR.store (us:=[v0]) (fl:=[Gd]) (news:=[a.eval y]) rfl (by rw[<-eo];exact rf) (by rw[<-eo];exact dl) (by simp;omega) dj (fun j c hc=>?_) (fun j u v II pA _=>?_) (setRow_heap w r vs _ te (0,0) hg)
  .obtain⟨v,J,a2,a3,a4⟩:=hold j c hc;exact⟨v,J,a2,a3,fun h=>(pD _ _ _ (by simp) (a4 h)).dP hu.iE Q⟩
  .cases j with
   |zero=>
    simp at II pA;subst II;subst pA;have h3:=dC.dP hu.iE Q;exact qJ▸h3
   |succ j=>simp at II
 .intro t' x' fD;by_cases ng:t'=s
  .subst ng;simp only[ye,hl,jp,Vs,cond_true]at fD;cases fD;exact⟨cv,yR,N3,by simp⟩
  .have jL:jp t' env=En x':=by
    simp only[ye,hl,jp]at fD
    have:Hb s t'=Gb:=by
     cases hb:Hb s t' with
     |false=>rfl|true=>exact absurd (Hq hb).symm ng
    rw[this]at fD;exact fD
   obtain⟨u,k1,k2,k3⟩:=e t' x' jL;exact⟨u,k1,k2,fun h=>(pD _ _ _ (by simp[ng]) (k3 h)).dP hu.iE Q⟩
end
section
variable {P:Program}{C C0:aV}{ω:Nat->Option Loc}{w w' w0:World}{hp:qh}{env:Env}{a:Act}{o:Oper}{tmps:Array Value}{d:Loc}
theorem q52 {s v ow}(hl:jp s env=En (v,ow)){t x}(M:jp t (ye env (En s))=En x):(t=s/\x=(v,Gb))\/(t≠s/\jp t env=En x):=by
 simp only[ye,hl,jp]at M
 cases hb:Hb s t with
 |true=>
  simp only[hb,cond_true,En.injEq]at M;exact .inl ⟨(Hq hb).symm,M.symm⟩
 |false=>
  simp only[hb,cond_false]at M;refine .inr ⟨fun h=>?_,M⟩;subst h;simp at hb
theorem jn7 (m:aA P C ω w0 C0 hp w)(e:ar C ω w w0.heap.size env a.tmps){s v ow}(ho:o.op=.move (.tmp s)\/o.op=.assign (.tmp s))(hl:jp s env=En (v,ow)):
  ∃u w',(execOp a.eval o).run P w=.ok (.value u) w'/\zn P C0 w0 C a.tmps d env ⟨v,ow,En s,hp⟩ u w':=by
 obtain⟨cv,Y,I,h3⟩:=e s _ hl
 have eO:a.eval (.tmp s)=cv:=by simp[Act.eval,Jf,Y]
 have bJ:(execOp a.eval o).run P w=.ok (.value cv) w:=by rcases ho with ho|ho<;>simp[execOp,ho,eO]
 refine⟨cv,w,bJ,?_⟩;by_cases hk:ow=Gd
 .subst hk;have df:=h3 rfl;refine⟨C,vp ω v cv d,aV.le_refl C,?_,?_,I,fun _=>N5 df⟩
  .exact { m with box:=fun b x r M hb=>(m.box b x r M hb).mono (aV.le_refl C) fun j y u hz=>yT df (by simp) hz }
  .intro t x M;rcases q52 hl M with⟨rfl,rfl⟩|⟨bN,fD⟩
   .exact⟨cv,Y,I,by simp⟩
   .obtain⟨u,k1,k2,k3⟩:=e t x fD;exact⟨u,k1,k2,fun h=>yT df (by simpa using bN) (k3 h)⟩
 .refine⟨C,ω,aV.le_refl C,m,e.strip _,I,fun h=>absurd h hk⟩
theorem q82 (m:aA P C ω w0 C0 hp w)(e:ar C ω w w0.heap.size env a.tmps){t:TypeId}{x x' b q v ow cs h'}(ho:o.op=.load t x)(dp:yu P t=En Gb)
  (Y:qr x=En x') (e1:qi env x'=En (.ptr b q)) (mK:qv hp b=En cs) (hc:cs[q]?=En (v,ow)) (bO:jy hp b (.cells (cs.set q (v,Gb)))=En h'):
  ∃u w',(execOp a.eval o).run P w=.ok (.value u) w'/\zn P C0 w0 C a.tmps d env ⟨v,ow,Ga,h'⟩ u w':=by
 obtain⟨r,Q,hq⟩:=(qu e.cy Y e1).dy;obtain⟨vs,te,hg,dj,hold⟩:=m.box b _ r (xa mK) Q;obtain⟨cv,k1,k2,k3,k4⟩:=hold q _ hc;obtain rfl:=Be bO
 have eo:w.cell? ⟨r,q,Ga⟩=En cv:=by
  simp only[World.cell?,hg];simpa using k1
 have bJ:(execOp a.eval o).run P w=.ok (.value cv) w:=by
  simp[execOp,ho,hq,Instr.loadAt,Instr.sureAddr,IC dp eo]
 have hu:oG w w r:=⟨rfl,fun _ _=>rfl,fun c t fr h=>by rw[hg]at h;cases h;rfl,rfl,rfl⟩
 have ic:∀ω':Nat->Option Loc,(∀j c u,j≠q->aY C ω w w0.heap.size (.cell b j) c u->aY C ω' w w0.heap.size (.cell b j) c u)->bR P C ω' w w0.heap.size b r (.cells (cs.set q (v,Gb))):=by
  intro ω' hk;refine⟨vs,te,hg,by simpa using dj,fun j c hj=>?_⟩;rw[Eag]at hj;split at hj
  .rename_i UD;subst UD;split at hj
   .cases hj;exact⟨cv,k1,k2,k3,by simp⟩
   .cases hj
  .rename_i UD;obtain⟨u,J,a2,a3,a4⟩:=hold j c hj;exact⟨u,J,a2,a3,fun h=>hk _ _ _ (Vf UD) (a4 h)⟩
 refine⟨cv,w,bJ,?_⟩;by_cases hk:ow=Gd
 .subst hk;have df:=k4 rfl;refine⟨C,vp ω v cv d,aV.le_refl C,?_,?_,k3,fun _=>N5 df⟩
  .exact m.dY hu Q _ (fun b' j y u fW hz=>yT df (by simp[fW]) hz) (ic _ fun j c u hj hz=>yT df (by simp[hj]) hz)
  .exact fun t x M=>let ⟨u,k1,k2,k3⟩:=e t x M; ⟨u,k1,k2,fun h=>yT df (by simp) (k3 h)⟩
 .refine⟨C,ω,aV.le_refl C,m.dY hu Q _ (fun _ _ _ _ _ h=>h) (ic _ fun _ _ _ _ h=>h),e,k3,fun h=>absurd h hk⟩
end
section
variable {P:Program}{C C0:aV}{ω:Nat->Option Loc}{w w' w0:World}{hp:qh}{env:Env}{a:Act}{o:Oper}{tmps:Array Value}{d:Loc}
theorem q2z (m:aA P C ω w0 C0 hp w)(e:ar C ω w w0.heap.size env a.tmps){t el:TypeId}{x y:Operand}{x' y':jw}{n sz b h0 rk:Nat}{z h'}
  (ho:o.op=.makeSlice t x y) (ht:P.underlying t=En (.slice el)) (hn:jt P el=En sz) (hb:px P el=En b) (hz:yw P el=En z) (UE:0<sz) (iM:z.length=sz)
  (Y:qr x=En x') (I:qr y=En y') (e1:qi env x'=En (.int .i64 (n:Int))) (e2:qi env y'=En (.int .i64 (n:Int))) (hle:n<=1073741824) (kF:b<=4096)
  (dC:aQ h0 hp rk (.cells (cellsOf (Hc n z).flatten))=En h'):
  ∃v w',(execOp a.eval o).run P w=.ok (.value v) w'/\zn P C0 w0 C a.tmps d env ⟨.ms (h0+rk) 0 n,Gb,Ga,h'⟩ v w':=by
 obtain⟨hh,rfl⟩:=yz dC;obtain⟨sT,zv,mI,cV,mZ⟩:=vn (C:=C) hz
 have oC:zv.cells.toList.length=sz:=by rw[cV.length,iM]
 have li:((Jx (n*sz)).map (fun i=>zv.cells[i % zv.cells.size]!)).toList=(Hc n zv.cells.toList).flatten:=by
  have:=N1 oC UE n;simpa using this
 have r1:=(qu e.cy Y e1).bY;have r2:=(qu e.cy I e2).bY
 have gJ:bq C (Hc n z).flatten ((Jx (n*sz)).map (fun i=>zv.cells[i % zv.cells.size]!)).toList:=by
  rw[li];exact cV.replicate n
 obtain⟨i,hi,sW⟩:∃i,P.info? el=En i/\i.bytes=b:=by
  unfold px at hb
  cases hi:P.info? el with
  |none=>simp[hi]at hb|some i=>exact⟨i,rfl,by simpa[hi]using hb⟩
 have lL:i.size=sz:=by
  unfold jt at hn;rw[hi]at hn;simpa using hn
 have sX:IntKind.i64.wrap (n:Int)=n:=by
  rw[<-wW];unfold qd
  have:sN .i64 (n:Int)=Gd:=by simp[sN];exact Jw hle (by decide)
  rw[this];rfl
 have A1:b*n<=281474976710656:=Jw (Oo kF hle) (by decide)
 obtain⟨m',e',cY⟩:=m.aQ e hh (.cells ((Jx (n*sz)).map (fun i=>zv.cells[i % zv.cells.size]!)) el) (fun c t fr h=>by cases h;rfl) (.cells (cellsOf (Hc n z).flatten))
  (UB gJ (by
   intro x h;rw[Vi]at h;obtain⟨l,q1,q2⟩:=h;obtain⟨_,rfl⟩:=Lz.1 q1
   exact sT x q2) (by intro j v h;rw[Jj]at h;exact h) (by have:=gJ.length;simp at this;simp;omega))
 refine⟨.slice (En ⟨w.heap.size,0,Ga⟩) n n,w.alloc (.cells ((Jx (n*sz)).map (fun i=>zv.cells[i % zv.cells.size]!)) el),?_,_,_,cY,m',e',.ms _ _ _ _ _ (by simp[aV.box]) (If _),by simp⟩
 have c1:¬((b:Int)*(n:Int) > 2^48):=by
  have Y:((b*n:Nat):Int)<=281474976710656:=Int.ofNat_le.2 A1;rw[Int.natCast_mul]at Y
  have I:(2:Int)^48=281474976710656:=by decide
  rw[I];omega
 have c2:¬((n:Int)<0):=by omega
 have Q:Jx 0=#[]:=rfl;simp only[execOp,ho,Instr.makeSlice,Sem.run_bind,run_underlying ht,r1,r2,asInt,asIntOf,Sem.run_pure,Result.andThen_ok,typeInfo,run_program,hi,sW,sX,c2,c1,decide_false,Eao,Jb,if_false,Int.lt_irrefl,gt_iff_lt,run_askRoom,Int.toNat_natCast,yt hn,newRow];by_cases A4:n=0
 .subst A4;simp[Q]
 .have bN:¬(n*sz=0):=by
   intro h;rcases Xc.1 h with h|h<;>omega
  simp[bN,mI]
theorem j78 (m:aA P C ω w0 C0 hp w)(e:ar C ω w w0.heap.size env tmps){b r s cells}{t:TypeId}{us news}(hh:hp[b]?=En .hole)(hω:ω r=En (.slot s))(hB:w0.heap.size<=r\/C.W r)(hβ:∀b,C.β b≠En r)
  (hg:w.heap[r]?=En (.cells cells t (0,0))) (hK:∀o,C.K r o=Ga) (cJ:news.length<=cells.size) (iD:bq C us news) (dl:∀v∈news,v.oneCell'=Gd):
  aA P (C.box b r) ω w0 C0 (hp.set b (.cells (cellsOf us))) (w.setRow r (cells.toList.take 0++news++cells.toList.drop (0+news.length)).toArray) /\
  ar (C.box b r) ω (w.setRow r (cells.toList.take 0++news++cells.toList.drop (0+news.length)).toArray) w0.heap.size (ye env (En s)) tmps/\C.le (C.box b r):=by
 have hu:=Iq hg (cells.toList.take 0++news++cells.toList.drop (0+news.length)).toArray;have ni:=setRow_heap w r cells (cells.toList.take 0++news++cells.toList.drop (0+news.length)).toArray t (0,0) hg;generalize w.setRow r (cells.toList.take 0++news++cells.toList.drop (0+news.length)).toArray=w' at hu ni;have UF:=IF m hh;have hle:=aV.lM (C:=C) (r:=r) UF;have aW:b<hp.length:=(I5.1 hh).1;have UG:r<w.heap.size:=(I1.1 hg).1
 have df:∀ℓ x v,ℓ≠.slot s->aY C ω w w0.heap.size ℓ x v->aY (C.box b r) ω w' w0.heap.size ℓ x v:=by
  intro ℓ x v hℓ ho
  have bN:ω r≠En ℓ:=by rw[hω];intro h;exact hℓ (En.inj h).symm
  exact(ho.box (.inr bN)).iE hu bN
 refine⟨?_,?_,hle⟩
 .refine { base:=m.base,know:=?_,dr:=m.dr,apart:=?_,inj:=?_,lt:=?_,size:=?_,frame:=?_,fJ:=?_,os:=hu.os.trans m.os,output:=hu.output.trans m.output,fresh:=?_,grown:=aV.le_trans m.grown hle,old:=m.old,box:=?_,jD:=fun q hq=>by rw[hu.size];exact m.jD q hq }
  .intro k q v hk
   have iN:k≠r:=fun h=>by
    have fm:C.K k q=En v:=hk;rw[h,hK q]at fm;cases fm
   have hc:=m.know _ _ _ hk;simp only[World.cell?]at hc ⊢;rw[hu.other k iN];exact hc
  .intro k q p hk;simp only[aV.box]at hk;split at hk
   .cases hk;exact hK p
   .exact m.apart k q p hk
  .intro k k' q hk fm;simp only[aV.box]at hk fm;split at hk<;>split at fm
   .rename_i Y I;rw[Y,I]
   .cases hk;exact absurd fm (hβ k')
   .cases fm;exact absurd hk (hβ k)
   .exact m.inj k k' q hk fm
  .intro k q hk;rw[Rn,hu.size];simp only[aV.box]at hk;split at hk
   .rename_i Y;cases hk;subst Y;exact⟨UG,aW⟩
   .exact m.lt k q hk
  .rw[hu.size];exact m.size
  .intro k hk hn hw
   have iN:k≠r:=fun h=>by
    subst h;rcases hB with h|h
    .omega
    .rw[m.grown.w]at h;exact hw h
   rw[hu.other k iN];exact m.frame k hk hn hw
  .intro k hk
   have iN:k≠r:=fun h=>by
    subst h;have:=m.fJ k hk;rw[hg]at this;cases this
   rw[hu.other k iN];exact m.fJ k hk
  .intro k q hk;simp only[aV.box]at hk;split at hk
   .cases hk;rcases hB with h|h
    .exact .inr (.inl h)
    .rw[m.grown.w]at h;exact .inr (.inr h)
   .exact m.fresh k q hk
  .intro k x q M hk;simp only[aV.box]at hk;split at hk
   .rename_i Y;subst Y;cases hk;rw[Jv aW]at M;cases M;have oF:=iD.length;refine⟨_,t,ni,by simp[cellsOf];omega,?_⟩;intro j c hc;simp only[cellsOf,Ld,Ha]at hc;obtain⟨x,M,rfl⟩:=hc;obtain⟨v,Y,I⟩:=iD.get M;have hj:j<news.length:=(I5.1 Y).1;refine⟨v,?_,dl v (Js Y),aO.mono hle I,by simp⟩;simp only[Eam,Od,I9];rw[I6 hj];exact Y
   .rename_i Y;rw[Lg (Vf Y)]at M;have bN:q≠r:=fun h=>hβ k (h▸hk);have mJ:bR P C ω w' w0.heap.size k q x:=(m.box k x q M hk).iE hu bN (fun j=>by rw[hω];simp);exact mJ.mono hle fun j y v ho=>ho.box (.inr (by rw[hω];simp))
 .intro t' x M;by_cases ng:t'=s
  .subst ng;simp only[ye]at M
   cases hl:jp t' env with
   |none=>rw[hl]at M;simp only[hl]at M;cases M
   |some y=>
    rw[hl]at M;simp only[jp,Vs,cond_true]at M;cases M;obtain⟨v,I,h3,_⟩:=e t' y hl;exact⟨v,I,aO.mono hle h3,by simp⟩
  .have fD:jp t' env=En x:=by
    simp only[ye]at M
    cases hl:jp s env with
    |none=>rw[hl]at M;exact M
    |some y=>
     rw[hl]at M;simp only[jp]at M
     have:Hb s t'=Gb:=by
      cases hb:Hb s t' with
      |false=>rfl|true=>exact absurd (Hq hb).symm ng
     rw[this]at M;exact M
   obtain⟨v,I,h3,h4⟩:=e t' x fD;exact⟨v,I,aO.mono hle h3,fun h=>df _ _ _ (by simp[ng]) (h4 h)⟩
theorem jb6 {xs vs}{t:TypeId}{B b r cells}(Q:bq C xs vs)(dl:∀v∈vs,v.oneCell'=Gd)(hv:∀(j:Nat) v,vs[j]?=En v->cells[j]?=En v)(hl:xs.length<=cells.size):
  ∀C' ω' w',C.le C'->w'.heap[r]?=En (.cells cells t (0,0))->bR P C' ω' w' B b r (.cells (cellsOf xs)):=by
 intro C' ω' w' hle hg;refine⟨cells,t,hg,by simpa[cellsOf]using hl,?_⟩;intro j c hc;simp only[cellsOf,Ld,Ha]at hc;obtain⟨x,M,rfl⟩:=hc;obtain⟨v,Y,I⟩:=Q.get M;exact⟨v,hv j v Y,dl v (Js Y),aO.mono hle I,by simp⟩
theorem q5n (m:aA P C ω w0 C0 hp w)(e:ar C ω w w0.heap.size env a.tmps){c}{t u el:TypeId}{ut:TypeDesc}{x y x' y' sz b h0 rk n dm ys vy h'}
  (ho:o.op=.call c) (ef:c.callee=.builtin .append) (eC:c.args.toList=[x,y]) (eX:c.argTypes.toList=[t,u]) (ht:P.underlying t=En (.slice el)) (hu:P.underlying u=En ut) (kG:AV ut=Gd)
  (hn:jt P el=En sz) (hb:px P el=En b) (Y:qr x=En x') (I:qr y=En y') (e1:qi env x'=En (.list n dm [])) (e2:qi env y'=En vy) (cX:yd sz vy=En ys)
  (df:(zu env x').isSome=Gd) (UH:n=Gb) (hlen:ys.length<=1073741824) (kF:b<=4096) (hzero:∃z,yw P el=En z/\z.length=sz) (Bc:sz=dm)
  (dC:aQ h0 hp rk (.cells (cellsOf (ys.flatMap AVal.flat)))=En h'):
  ∃v w',(execOp a.eval o).run P w=.ok (.value v) w'/\zn P C0 w0 C a.tmps d env ⟨.ms (h0+rk) 0 ys.length,Gb,zu env x',h'⟩ v w':=by
 obtain⟨hh,rfl⟩:=yz dC;subst UH;subst Bc
 have ha:c.args=#[x,y]:=by apply Jm;simpa using eC
 have mY:c.argTypes=#[t,u]:=by apply Jm;simpa using eX
 obtain⟨i,hi,sW⟩:∃i,P.info? el=En i/\i.bytes=b:=by
  unfold px at hb
  cases hi:P.info? el with
  |none=>simp[hi]at hb|some i=>exact⟨i,rfl,by simpa[hi]using hb⟩
 have lL:i.size=sz:=by
  unfold jt at hn;rw[hi]at hn;simpa using hn
 obtain⟨z,hz,Bd⟩:=hzero
 obtain⟨zv,oE⟩:∃zv,i.zero=En zv:=by
  unfold yw at hz;rw[hi]at hz
  cases hq:i.zero with
  |none=>simp[hq]at hz|some v=>exact⟨v,rfl⟩
 have rx:=qu e.cy Y e1;have ry:=qu e.cy I e2;obtain⟨news,G,dk,gi,dl⟩:=N2 m hu kG cX ry
 have fk:∀ {z:Value} {w':World},(Builtin.append_ #[t,u] o.type #[a.eval x,a.eval y]).run P w=.ok z w'->(execOp a.eval o).run P w=.ok (.value z) w':=by
  intro z w' h;simp[execOp,ho,resolve,ef,ha,mY,invoke,builtin,h]
 have oF:news.length=ys.length*sz:=by rw[dk.length,yr ys gi]
 rcases rx.cU with⟨hh1,_,_⟩|⟨_,r,q,cap,M,hle,de⟩|⟨_,_,ad,lJ,M⟩
 rotate_right
 .exact absurd (q9x e Y df e1 M) lJ
 .cases hh1
 .obtain⟨s,fK⟩:=Jy.1 df;obtain⟨fD,v0,hl⟩:=Iw fK
  have jF:v0=.list Gb sz []:=by
   subst fD;simp only[qi,hl]at e1;exact En.inj e1
  subst jF;obtain⟨cv,yR,N3,Bb⟩:=e s _ hl
  have qJ:cv=.slice (En ⟨r,q,Ga⟩) 0 cap:=by
   have jK:qr x=En (.tmp s):=by rw[Y,fD]
   cases x with
   |tmp t'=>
    simp only[qr]at jK;cases jK
    have:a.eval (.tmp s)=cv:=by simp[Act.eval,Jf,yR]
    rw[<-this,M];rfl
   |const u=>simp only[qr]at jK;split at jK<;>cases jK|func f=>simp[qr]at jK|global g=>simp[qr]at jK
  subst qJ;obtain⟨hω,hB,hβ,_,N4,⟨cells,te,hg,cJ⟩,hK⟩:=Bb rfl;simp only at hω hB hβ hg cJ hK N4;subst N4;simp only[List.length_nil]at M;by_cases eI:0+ys.length<=cap
  .have ib:(0+ys.length)*sz<=cap*sz:=Jn _ eI;have bJ:=Ux (P:=P) (w:=w) (ty:=o.type) ht hi r 0 0 cap (a.eval y) ys.length news (lL▸G) eI hg (by rw[oF];simp at ib cJ ⊢;omega);rw[<-M]at bJ
   have e0:0+0*i.size=0:=by simp
   rw[e0]at bJ;obtain⟨m',e',cY⟩:=j78 (tmps:=a.tmps) m e hh hω hB hβ hg (fun o=>hK o (by simp)) (by rw[oF];simp at ib cJ ⊢;omega) dk dl;rw[fK];refine⟨_,_,fk bJ,_,_,cY,m',e',?_,by simp⟩;have:=aO.ms (C:=C.box (h0+rk) r) (h0+rk) 0 ys.length r cap (by simp[aV.box]) (by omega);simpa using this
  .have IJ:Builtin.nextslicecap (0+ys.length) cap*i.bytes<=281474976710656:=growslice_fits (by omega) (by
    rw[sW]
    exact Jw (Oo (by omega) kF) (by decide:2^30*4096<=_))
   have bJ:=run_append_grow_src w t u o.type el i zv ht hi oE (En ⟨r,0,Ga⟩) 0 cap [] (run_firstCells_some _ _ _ _ _ _ [] (by simp) (by simp)) (a.eval y) ys.length news (lL▸G) (by omega) (by omega) IJ;rw[<-M]at bJ;have sZ:=grownCap_ge w (0+ys.length) cap el;have jL:Ext w w.drew:=Ext.drew w
   obtain⟨m',e',cY⟩:=(m.ext jL).aQ (e.ext jL) hh (.cells (([]++news).toArray++Builtin.zeroCells zv.cells (grownCap w (0+ys.length) cap el-(0+ys.length))) el) (fun c t fr h=>by cases h;rfl) (.cells (cellsOf (ys.flatMap AVal.flat)))
    (jb6 dk dl (by
     intro j v hj;rw[J2 (by simpa using(I5.1 hj).1)]
     simpa using hj) (by have h5:=dk.length;rw[Vg];simp only[Od,R2];omega))
   refine⟨_,_,fk bJ,_,_,cY,m',e'.strip _,?_,by simp⟩;have:=aO.ms (C:=C.box (h0+rk) w.drew.heap.size) (h0+rk) 0 ys.length w.drew.heap.size (grownCap w (0+ys.length) cap el) (by simp[aV.box]) (by omega);simpa using this
end
section
variable {P:Program}{C C0:aV}{ω:Nat->Option Loc}{w w' w0:World}{hp:qh}{env:Env}{a:Act}{o:Oper}{tmps:Array Value}{d:Loc}
variable (m:aA P C ω w0 C0 hp w)(e:ar C ω w w0.heap.size env a.tmps)
theorem N7 {b bS len v}(h:bW C (.az b bS len) v):∃r0 r cap,C.β b=En r0/\C.T (r0,bS,r,cap)/\len<=cap/\v=.slice (En ⟨r,0,Ga⟩) len cap:=by
 cases h with
 |az _ _ _ r0 r cap hb ht hl=>exact⟨r0,r,cap,hb,ht,hl,rfl⟩
theorem jdv {b bS off v}(h:bW C (.dW b bS off) v):∃r0 r cap,C.β b=En r0/\C.T (r0,bS,r,cap)/\v=.pointer (En ⟨r,off,Ga⟩):=by
 cases h with
 |dW _ _ _ r0 r cap hb ht=>exact⟨r0,r,cap,hb,ht,rfl⟩
theorem q24 {t:TypeId}{x x' i fs f n b bS q}(he:bC C env a.tmps)(ho:o.op=.fieldAddr t x i)(ht:P.underlying t=En (.struct fs))(hf:fs[i]?=En f)
  (hn:jt P f.type=En n) (A4:0<n) (Y:qr x=En x') (e1:qi env x'=En (.dW b bS q)):Val P C a o w (.dW b bS (q+f.offset)):=by
 obtain⟨r0,r,cap,hb,hT,hq⟩:=jdv (qu he Y e1);refine⟨.pointer (En ⟨r,q+f.offset,Ga⟩),?_,.dW _ _ _ r0 r cap hb hT⟩;simp[execOp,ho,Instr.fieldAt,run_underlying ht,hf,hq,Instr.sureAddr,fieldPlace,yt hn,Xo.1 A4,add_lit]
theorem q4e {t e:TypeId}{x i x' i' sz iv b bS len j}(he:bC C env a.tmps)(ho:o.op=.indexAddr t x i)(ht:P.underlying t=En (.slice e))
  (hn:jt P e=En sz) (Y:qr x=En x') (I:qr i=En i') (e1:qi env x'=En (.az b bS len)) (e2:qi env i'=En iv) (hj:idx len iv=En j):Val P C a o w (.dW b bS (j*sz)):=by
 obtain⟨r0,r,cap,hb,hT,_,hq⟩:=N7 (qu he Y e1);obtain⟨k,rfl,aW⟩:=Il hj;have hi:=(qu he I e2).bY;refine⟨.pointer (En ⟨r,j*sz,Ga⟩),?_,.dW _ _ _ r0 r cap hb hT⟩;simp[execOp,ho,Instr.indexAt,run_underlying ht,hq,hi,asIntOf,yt hn,aW,add_lit]
theorem jfp {t e:TypeId}{x lo hi x' mX gI sz j b bS len}(he:bC C env a.tmps)(ho:o.op=.slice t x lo hi Ga)(ht:P.underlying t=En (.slice e))
  (hn:jt P e=En sz) (Y:qr x=En x') (I:oz lo=En mX) (h3:oz hi=En gI) (e1:qi env x'=En (.az b bS len)) (b2:fS env len len gI=En j) (b1:fS env 0 j mX=En 0):Val P C a o w (.az b bS j):=by
 obtain⟨r0,r,cap,hb,hT,hl,hq⟩:=N7 (qu he Y e1);obtain⟨jG,k1,k2⟩:=NY (P:=P) (isS:=true) he I h3 b2 b1 hl w;refine⟨.slice (En ⟨r,0,Ga⟩) j cap,?_,.az _ _ _ r0 r cap hb hT (by omega)⟩;simp[execOp,ho,Instr.sliceAt,Instr.slice,run_underlying ht,hq,jG,yt hn,add_lit]
theorem jnu {c x}{t e:TypeId}{x' b bS n}(he:bC C env a.tmps)(ho:o.op=.call c)(ef:c.callee=.builtin .len)(eC:c.args.toList=[x])(eX:c.argTypes.toList=[t])
  (Y:qr x=En x') (e1:qi env x'=En (.az b bS n)) (ht:P.underlying t=En (.slice e)):Val P C a o w (.int .i64 n):=by
 have ha:c.args=#[x]:=by apply Jm;simpa using eC
 have mY:c.argTypes=#[t]:=by apply Jm;simpa using eX
 refine⟨.int .i64 n,?_,.int _ _⟩;simp only[execOp,ho,resolve,ef,ha,mY,Sem.run_bind,Sem.run_pure,Result.andThen_ok,invoke,builtin,Builtin.len_];obtain⟨r0,r,cap,_,_,_,hq⟩:=N7 (qu he Y e1);simp[run_underlying ht,hq,goInt]
theorem jpt (m:aA P C ω w0 C0 hp w){b bS q cap r0 sz xs}(hb:C.β b=En r0)(hT:C.T (r0,bS,q,cap))(ie:hp[b]?=En (.vec sz bS xs)):
  ∃vs,bq C (xs.flatMap AVal.flat) vs/\(∀(j:Nat) v,vs[j]?=En v->w.cell? ⟨q,j,Ga⟩=En v/\v.oneCell'=Gd)/\eG C.K w q sz xs cap:=by
 obtain⟨q',lN,k1,k2,k3,k4,_⟩:=m.box b _ r0 ie hb;have heq:=(k2 _ hT rfl).2 rfl;simp only[Prod.mk.injEq]at heq;obtain⟨rfl,rfl⟩:=heq;obtain⟨cells,t,vs,g1,g2,g3,g4,g5,g6,g7⟩:=id k3;refine⟨vs,aO.imp (C:=.cf C.K) (C':=C) ⟨fun _ _ _ h=>h,fun b r h=>by cases h⟩ g5 (fun _ h=>h.elim),fun j v hj=>⟨?_,g7 v (Js hj)⟩,k3⟩;unfold World.cell?;rw[g1];simp only[L2,Jb,if_false];exact g6 j v hj
theorem q4q (m:aA P C ω w0 C0 hp w)(he:bC C env a.tmps){t:TypeId}{x x' n ag b bS q sz xs v}(ho:o.op=.load t x)(hg:yu P t=En ag)(hn:jt P t=En n)(Y:qr x=En x')(e1:qi env x'=En (.dW b bS q))
  (ie:hp[b]?=En (.vec sz bS xs)) (hl:q+n<=(xs.flatMap AVal.flat).length) (hv:(ag=Gd/\v=.agg (((xs.flatMap AVal.flat).drop q).take n))\/(ag=Gb/\((xs.flatMap AVal.flat).drop q).take n=[v])):Val P C a o w v:=by
 obtain⟨r0,r,cap,hb,hT,hq⟩:=jdv (qu he Y e1);obtain⟨vs,k1,k2,_⟩:=jpt m hb hT ie;have k3:bq C (((xs.flatMap AVal.flat).drop q).take n) ((vs.drop q).take n):=(k1.drop q).take n
 have k4:∀j u,((vs.drop q).take n)[j]?=En u->w.cell? ⟨r,q+j,Ga⟩=En u:=by
  intro j u hj;rw[Eac]at hj;split at hj
  .rw[U5]at hj;exact(k2 _ _ hj).1
  .cases hj
 have k5:((vs.drop q).take n).length=n:=by rw[k3.length,Eaj,List.length_drop];omega
 rcases hv with⟨rfl,rfl⟩|⟨rfl,hv⟩
 .exact⟨.agg ⟨(vs.drop q).take n⟩,by simp[execOp,ho,Instr.loadAt,hq,Instr.sureAddr,IB hg hn k5 k4],.agg _ _ k3⟩
 .rw[hv]at k3;generalize hgen:(vs.drop q).take n=us at k3 k4 k5
  cases k3 with
  |cons _ _ u us hu lK=>
   cases lK;refine⟨u,?_,hu⟩;have:=IC (P:=P) hg (by simpa using k4 0 u rfl);simp[execOp,ho,Instr.loadAt,hq,Instr.sureAddr,this]
def aV.tok (C:aV)(x:Nat×Nat×Nat×Nat):aV:={ C with T:=fun q=>C.T q\/q=x }
theorem aV.ig {x}:C.le (C.tok x):=⟨fun _ _ _ h=>h,fun _ _ h=>h,rfl,fun _ h=>h,fun _ h=>.inl h⟩
theorem aY.tok {x B ℓ y v}(h:aY C ω w B ℓ y v):aY (C.tok x) ω w B ℓ y v:=by
 unfold aY at *;exact h
theorem ar.tok {x B}(e:ar C ω w B env tmps):ar (C.tok x) ω w B env tmps:=
 fun s y hy=>let ⟨v,Y,I,h3⟩:=e s y hy; ⟨v,Y,aO.mono aV.ig I,fun h=>(h3 h).tok⟩
theorem aA.s6 (m:aA P C ω w0 C0 hp w){b r sz bS q cap xs}(hβ:C.β b=En r)(hT:∀x,C.T x->x.1=r->x.2.1<bS)(hv:eG C.K w q sz xs cap)(ho:q=r\/yP C ω w w0.heap.size b q xs.length cap)(Q:∃cs t,w.heap[r]?=En (.cells cs t (0,0))):
  aA P (C.tok (r,bS,q,cap)) ω w0 C0 (hp.set b (.vec sz bS xs)) w:=by
 have aW:=m.lt b r hβ;refine { m with lt:=fun k p hk=>by rw[Rn];exact m.lt k p hk,grown:=aV.le_trans m.grown aV.ig,box:=?_,jD:=?_ }
 .intro k y p hy hk;by_cases nh:k=b
  .subst nh;rw[Jv aW.2]at hy;cases hy
   obtain rfl:r=p:=by have:C.β k=En p:=hk;rw[hβ]at this;exact En.inj this
   refine⟨q,cap,.inr rfl,fun x M hxr=>?_,hv,ho.imp id fun h=>h.tok,Q⟩;rcases M with M|rfl
   .have:=hT x M hxr;exact⟨by omega,fun h=>by omega⟩
   .exact⟨If _,fun _=>rfl⟩
  .rw[Lg (Vf nh)]at hy;have vj:p≠r:=fun h=>nh (m.inj k b p hk (h▸hβ));refine(m.box k y p hy hk).mono aV.ig (fun j z u h=>h.tok) (fun x M hxp=>?_);rcases M with M|rfl
   .exact M
   .exact absurd hxp.symm vj
 .intro x M;rcases M with M|rfl
  .exact m.jD x M
  .exact aW.1
theorem aA.s7 (m:aA P C ω w0 C0 hp w){b r}(hβ:C.β b=En r)(Q:∃cs t,w.heap[r]?=En (.cells cs t (0,0))):aA P C ω w0 C0 (hp.set b .dead) w:=
 m.dY (ω':=ω) (w':=w) (r:=r) (b:=b) ⟨rfl,fun _ _=>rfl,fun c t fr h=>by obtain⟨cs,t',h'⟩:=Q;rw[h']at h;cases h;rfl,rfl,rfl⟩ hβ .dead (fun _ _ _ _ _ h=>h) Q
theorem aA.Bh (m:aA P C ω w0 C0 hp w){b q n cap cs}(hd:hp[b]?=En .dead)(ho:yP C ω w w0.heap.size b q n cap)(hu:ia w w' q cs):aA P C ω w0 C0 hp w':=by
 obtain⟨Y,I,h3,_,_,⟨cells,elem,h5,_⟩,h7⟩:=ho;simp only at Y I h3 h5 h7;have hK:∀o,C.K q o=Ga:=fun o=>h7 o (by simp);refine { base:=m.base,know:=?_,dr:=m.dr,apart:=m.apart,inj:=m.inj,lt:=?_,size:=?_,frame:=?_,fJ:=?_,os:=hu.os.trans m.os,output:=hu.output.trans m.output,fresh:=m.fresh,grown:=m.grown,old:=m.old,box:=?_,jD:=fun x M=>by rw[hu.size];exact m.jD x M }
 .intro k p v hk
  have bN:k≠q:=fun h=>by rw[h,hK p]at hk;cases hk
  have hc:=m.know _ _ _ hk;simp only[World.cell?]at hc ⊢;rw[hu.other k bN];exact hc
 .intro k p hk;rw[hu.size];exact m.lt k p hk
 .rw[hu.size];exact m.size
 .intro k hk hn hw
  have bN:k≠q:=fun h=>by
   subst h;rcases I with h|h
   .omega
   .rw[m.grown.w]at h;exact hw h
  rw[hu.other k bN];exact m.frame k hk hn hw
 .intro k hk
  have bN:k≠q:=fun h=>by
   subst h;have:=m.fJ k hk;rw[h5]at this;cases this
  rw[hu.other k bN];exact m.fJ k hk
 .intro k x p M hk;have bN:p≠q:=fun h=>h3 k (h▸hk);by_cases nh:k=b
  .subst nh;rw[hd]at M;cases M;obtain⟨eK,t',hg⟩:=m.box k .dead p hd hk;exact⟨eK,t',by rw[hu.other p bN];exact hg⟩
  .exact(m.box k x p M hk).iE hu bN (fun j=>by rw[Y];intro h;injection h with h;injection h with h _;exact nh h.symm)
theorem qud {sz}:∀ {xs:List AVal} (n:Nat),(∀x∈xs,x.flat.length=sz)->(xs.take n).flatMap AVal.flat=(xs.flatMap AVal.flat).take (n*sz)
 | [],n,_=>by simp
 |x::xs,0,_=>by simp
 |x::xs,n+1,h=>by
  have M:=h x (Ead ..);have Y:x.flat.take ((n+1)*sz)=x.flat:=List.take_of_length_le (by rw[M,Jr];omega)
  have I:(n+1)*sz-sz=n*sz:=by rw[Jr];omega
  rw[List.take_succ_cons,Jo,Jo,qud n (fun y hy=>h y (Xm _ hy)),List.take_append,M,Y,I]
theorem eG.grown {K q q' sz len cap lN xs ys news eN dR}{t':TypeId}(h:eG K w q sz xs cap)(hl:len<=xs.length)(dk:bq (.cf K) (ys.flatMap AVal.flat) news)(gi:∀y∈ys,y.flat.length=sz)(dl:∀v∈news,v.oneCell'=Gd)
  (hold:∀vs:List Value,bq (.cf K) (xs.flatMap AVal.flat) vs->(∀(j:Nat) v,vs[j]?=En v->w.cell? ⟨q,j,Ga⟩=En v)->eN=vs.take (len*sz)) (hcap:len+ys.length<=lN) (cJ:lN*sz<=dR.size)
  (hg:w'.heap[q']?=En (.cells dR t' (0,0))) (hc:∀(j:Nat) v,(eN++news)[j]?=En v->dR[j]?=En v):eG K w' q' sz (xs.take len++ys) lN:=by
 obtain⟨cells,t,vs,g1,g2,g3,g4,g5,g6,g7⟩:=h
 have ho:eN=vs.take (len*sz):=hold vs g5 (fun j v hj=>by
  unfold World.cell?;rw[g1];simp only[L2,Jb,if_false]
  exact g6 j v hj)
 refine⟨dR,t',eN++news,hg,by rw[Lu,Eaj];omega,cJ,?_,?_,hc,?_⟩
 .intro x M;rcases Oe.1 M with M|M
  .exact g4 x (Tx M)
  .exact gi x M
 .rw[Xz,qud len g4,ho];exact(g5.take _).append dk
 .intro v hv;rcases Oe.1 hv with hv|hv
  .rw[ho]at hv;exact g7 v (Tx hv)
  .exact dl v hv
theorem bq.pure {xs vs}(h:bq C xs vs)(hb:qp 0 xs=Gd):bq (.cf C.K) xs vs:=
 aO.shift (C:=C) (C':=.cf C.K) 0 (fun _ _ _ h=>h) (fun b r aW=>by omega) h hb
theorem UI {n}:∀ {xs:List AVal},qp n xs=Gd->qp n (xs.flatMap AVal.flat)=Gd
 | [],_=>rfl
 |x::xs,h=>by
  simp only[qp,Ji]at h
  have key:∀(ys zs:List AVal),qp n ys=Gd->qp n zs=Gd->qp n (ys++zs)=Gd:=by
   intro ys zs
   induction ys with
   |nil=>intro _ h;exact h|cons y ys ih=>intro Y I;simp only[qp,Ji,Eah]at Y ⊢;exact⟨Y.1,ih Y.2 I⟩
  rw[Jo];exact key _ _ (by rw[NQ];exact h.1) (UI h.2)
include m e in
theorem jq2 {c}{t u el:TypeId}{ut:TypeDesc}{x y x' y' sz b bx bS len xs ys vy h'}
  (ho:o.op=.call c) (ef:c.callee=.builtin .append) (eC:c.args.toList=[x,y]) (eX:c.argTypes.toList=[t,u]) (ht:P.underlying t=En (.slice el)) (hu:P.underlying u=En ut) (kG:AV ut=Gd)
  (hn:jt P el=En sz) (hb:px P el=En b) (Y:qr x=En x') (I:qr y=En y') (e1:qi env x'=En (.az bx bS len)) (e2:qi env y'=En vy) (cX:yd sz vy=En ys)
  (ie:hp[bx]?=En (.vec sz bS xs)) (hle:len<=xs.length) (hlen:len+ys.length<=1073741824) (kF:b<=4096) (UJ:qp 0 ys=Gd) (hzero:∃z,yw P el=En z/\z.length=sz)
  (bO:jy hp bx (.vec sz (bS+1) (xs.take len++ys))=En h'):
  ∃v w',(execOp a.eval o).run P w=.ok (.value v) w'/\zn P C0 w0 C a.tmps d env ⟨.az bx (bS+1) (len+ys.length),Gb,Ga,h'⟩ v w':=by
 have gK:h'=hp.set bx (.vec sz (bS+1) (xs.take len++ys)):=by
  unfold jy at bO
  cases xb:I7 bx hp.length with
  |false=>simp[xb]at bO|true=>simpa[xb]using bO.symm
 subst gK
 have ha:c.args=#[x,y]:=by apply Jm;simpa using eC
 have mY:c.argTypes=#[t,u]:=by apply Jm;simpa using eX
 obtain⟨i,hi,sW⟩:∃i,P.info? el=En i/\i.bytes=b:=by
  unfold px at hb
  cases hi:P.info? el with
  |none=>simp[hi]at hb|some i=>exact⟨i,rfl,by simpa[hi]using hb⟩
 have lL:i.size=sz:=by
  unfold jt at hn;rw[hi]at hn;simpa using hn
 obtain⟨z,hz,Bd⟩:=hzero
 obtain⟨zv,oE⟩:∃zv,i.zero=En zv:=by
  unfold yw at hz;rw[hi]at hz
  cases hq:i.zero with
  |none=>simp[hq]at hz|some v=>exact⟨v,rfl⟩
 have ry:=qu e.cy I e2;obtain⟨news,G,dk,gi,dl⟩:=N2 m hu kG cX ry;have s9:bq (.cf C.K) (ys.flatMap AVal.flat) news:=dk.pure (UI UJ)
 have fk:∀ {z:Value} {w':World},(Builtin.append_ #[t,u] o.type #[a.eval x,a.eval y]).run P w=.ok z w'->(execOp a.eval o).run P w=.ok (.value z) w':=by
  intro z w' h;simp[execOp,ho,resolve,ef,ha,mY,invoke,builtin,h]
 have oF:news.length=ys.length*sz:=by rw[dk.length,yr ys gi]
 obtain⟨r0,q,cap,hβ,hT,hlc,M⟩:=N7 (qu e.cy Y e1);obtain⟨q',lN,k1,k2,k3,k4,k5⟩:=m.box bx _ r0 ie hβ;have heq:=(k2 _ hT rfl).2 rfl;simp only[Prod.mk.injEq]at heq;obtain⟨rfl,rfl⟩:=heq
 have tc:∀x,C.T x->x.1=r0->x.2.1<bS+1:=fun x M Q=>by have:=(k2 x M Q).1;omega
 have xb:=(m.lt bx r0 hβ).2
 -- the old cells
 obtain⟨cells,te,vs,g1,g2,g3,g4,g5,g6,g7⟩:=id k3
 have wY:vs.length=xs.length*sz:=by rw[g5.length,yr xs g4]
 have hvle:xs.length*sz<=cap*sz:=Jn _ g2;have hlle:len*sz<=xs.length*sz:=Jn _ hle
 have hold:∀tf:List Value,bq (.cf C.K) (xs.flatMap AVal.flat) tf->(∀(j:Nat) v,tf[j]?=En v->w.cell? ⟨q,j,Ga⟩=En v)->vs.take (len*sz)=tf.take (len*sz):=by
  intro tf h3 h4
  have FR:tf.length=vs.length:=by rw[h3.length,g5.length]
  have:tf=vs:=by
   apply Ve;intro j;by_cases hj:j<vs.length
   .have h5:=h4 j _ (Jc (by omega));have h6:=g6 j _ (Jc hj);unfold World.cell? at h5;rw[g1]at h5;simp only[L2,Jb,if_false]at h5;rw[Jc hj,Jc (by omega),<-h5,h6]
   .rw[Oj (by omega),Oj (by omega)]
  rw[this]
 by_cases eI:len+ys.length<=cap
 ·-- there is room
  have ib:(len+ys.length)*sz<=cap*sz:=Jn _ eI;rw[Om]at ib;have bJ:=Ux (P:=P) (w:=w) (ty:=o.type) ht hi q 0 len cap (a.eval y) ys.length news (lL▸G) eI g1 (by rw[lL,oF];omega);rw[<-M,lL]at bJ;have rT:=Iq g1 (cells.toList.take (0+len*sz)++news++cells.toList.drop (0+len*sz+news.length)).toArray;have ni:=setRow_heap w q cells (cells.toList.take (0+len*sz)++news++cells.toList.drop (0+len*sz+news.length)).toArray te (0,0) g1;generalize FP:w.setRow q (cells.toList.take (0+len*sz)++news++cells.toList.drop (0+len*sz+news.length)).toArray=w' at bJ rT ni
  have Bi:eG C.K w' q sz (xs.take len++ys) cap:=by
   refine eG.grown (eN:=vs.take (len*sz)) k3 hle s9 gi dl hold eI (by simp;omega) ni ?_;intro j v hj;rw[I9]
   have eX:(cells.toList.take (0+len*sz)).length=len*sz:=by simp;omega
   have nj:(vs.take (len*sz)).length=len*sz:=by simp;omega
   by_cases UK:j<len*sz
   .rw[J0,I6 (by rw[eX];exact UK)];rw[I6 (by rw[nj];exact UK),Jz UK]at hj;rw[Jz (by omega),Jj];exact g6 j v hj
   .rw[Ja (by rw[nj];omega),nj]at hj;have hjn:j-len*sz<news.length:=(I5.1 hj).1;rw[J0,Ja (by rw[eX];omega),eX,I6 hjn];exact hj
  have fin:∀(m1:aA P C ω w0 C0 (hp.set bx .dead) w') (e1:ar C ω w' w0.heap.size env a.tmps) (IA:q=r0\/yP C ω w' w0.heap.size bx q (xs.take len++ys).length cap) (ij:∃cs t,w'.heap[r0]?=En (.cells cs t (0,0))),
    zn P C0 w0 C a.tmps d env ⟨.az bx (bS+1) (len+ys.length),Gb,Ga,hp.set bx (.vec sz (bS+1) (xs.take len++ys))⟩ (.slice (En ⟨q,0,Ga⟩) (len+ys.length) cap) w':=by
   intro m1 e1 IA ij;have m2:=m1.s6 (b:=bx) (sz:=sz) (bS:=bS+1) (q:=q) (cap:=cap) (xs:=xs.take len++ys) hβ tc Bi IA ij;rw[Eae]at m2;exact⟨_,ω,aV.ig,m2,e1.tok,.az _ _ _ r0 q cap hβ (.inr rfl) eI,by simp⟩
  refine⟨_,_,fk bJ,?_⟩;rcases k4 with rfl|k4
  .refine fin ?_ (e.dP rT.iE hβ) (.inl rfl) ⟨_,_,ni⟩;exact m.dY rT.iE hβ .dead (fun _ _ _ _ _ h=>h) ⟨_,_,ni⟩
  .have hqr:q≠r0:=fun h=>k4.2.2.1 bx (by rw[hβ];exact congrArg En h.symm);have md:=m.s7 hβ k5;have m1:=md.Bh (by rw[Jv xb]) k4 rT;obtain⟨UL,t5,k5⟩:=k5;refine fin m1 ?_ (.inr ?_) ⟨UL,t5,by rw[rT.other _ (Vf hqr)];exact k5⟩
   .exact fun s y hy=>let ⟨v,j1,j2,j3⟩:=e s y hy; ⟨v,j1,j2,fun h=>(j3 h).iE rT (by rw[k4.1];simp)⟩
   .obtain⟨j1,j2,j3,j4,j5,_,j7⟩:=k4;exact⟨j1,j2,j3,j4,j5,⟨_,te,ni,by simp,fun _ _ _ h=>by simp at h⟩,fun o ho=>j7 o (by simp)⟩
 ·-- there is none
  have cJ:Builtin.nextslicecap (len+ys.length) cap*i.bytes<=281474976710656:=growslice_fits (by omega) (by
   rw[sW]
   exact Jw (Oo hlen kF) (by decide))
  have IK:(vs.take (len*sz)).length=len*i.size:=by rw[lL];simp;omega
  have bJ:=run_append_grow_src w t u o.type el i zv ht hi oE (En ⟨q,0,Ga⟩) len cap (vs.take (len*sz)) (run_firstCells_some _ _ _ _ _ _ _ IK (fun j v hj=>by
   rw[Eac]at hj;split at hj
   ·have h3:=g6 j v hj
    have h4:w.cell? ⟨q,j,Ga⟩=En v:=by
     unfold World.cell?;rw[g1];simp only[L2,Jb,if_false];exact h3
    rw[add_lit,Vp];exact h4
   ·cases hj)) (a.eval y) ys.length news (lL▸G) (by omega) (by omega) cJ
  rw[<-M]at bJ;have sZ:=grownCap_ge w (len+ys.length) cap el
  have iM:zv.cells.size=sz:=by
   obtain⟨_,zv',mZ,Iy,_⟩:=vn (C:=C) hz;have:=mZ w;simp[zeroValue,typeInfo,hi,oE]at this;subst this;have:=Iy.length;simp at this;omega
  generalize eP:((vs.take (len*sz)++news).toArray++Builtin.zeroCells zv.cells (grownCap w (len+ys.length) cap el-(len+ys.length)))=dR at bJ;generalize UM:grownCap w (len+ys.length) cap el=gc at bJ sZ eP;have jL:Ext w w.drew:=Ext.drew w;have UN:Ext w.drew (w.drew.alloc (.cells dR el)):=Ext.alloc _ _ (fun c t fr h=>by cases h;rfl)
  have IL:(w.drew.alloc (.cells dR el)).heap[w.drew.heap.size]?=En (.cells dR el (0,0)):=by rw[wV,if_pos rfl]
  have Bi:eG C.K (w.drew.alloc (.cells dR el)) w.drew.heap.size sz (xs.take len++ys) gc:=by
   refine eG.grown (eN:=vs.take (len*sz)) k3 hle s9 gi dl hold sZ ?_ IL ?_
   .rw[<-eP]
    have nj:(vs.take (len*sz)).length=len*sz:=by simp;omega
    simp only[Vg,R2,Lu,nj,oF]
    have:(Builtin.zeroCells zv.cells (gc-(len+ys.length))).size=(gc-(len+ys.length))*sz:=by simp[Builtin.zeroCells,iM]
    rw[this,<-Om,<-Om];exact Jn _ (by omega)
   .intro j v hj;rw[<-eP,J2 (by simpa using(I5.1 hj).1)];simpa using hj
  have md:=((m.s7 hβ k5).ext jL).lI w.drew.heap.size (.cell bx 0) (If _);have m1:=md.ext UN;obtain⟨UL,t5,k5⟩:=k5;have m2:=m1.s6 (b:=bx) (sz:=sz) (bS:=bS+1) (q:=w.drew.heap.size) (cap:=gc) (xs:=xs.take len++ys) hβ tc Bi (.inr ⟨by simp[cS],.inl (Jw m.size jL.size),fun k hk=>by have:=(m.lt k _ hk).1;simp at this,rfl,rfl,⟨dR,el,IL,by simp,fun _ _ _ h=>by simp at h⟩,fun o _=>m.lg _ jL.size o⟩) ⟨UL,t5,(jL.trans UN).get k5⟩;rw[Eae]at m2;refine⟨_,_,fk bJ,_,_,aV.ig,m2,(((e.ext jL).fresh (If _)).ext UN).tok,.az _ _ _ r0 _ gc hβ (.inr rfl) (by omega),by simp⟩
theorem jk4 (m:aA P C ω w0 C0 hp w)(e:ar C ω w w0.heap.size env tmps){bx sz cap xs cells}{te:TypeId}{vs}(hh:hp[bx]?=En .hole)(N8:bq C (xs.flatMap AVal.flat) vs)(Bj:qp 0 xs=Gd)(dj:∀x∈xs,x.flat.length=sz)
  (dl:∀v∈vs,v.oneCell'=Gd) (hc:∀(j:Nat) v,vs[j]?=En v->cells[j]?=En v) (hcap:xs.length<=cap) (cJ:cap*sz<=cells.size):
  zn P C0 w0 C tmps d env ⟨.az bx 0 xs.length,Gb,Ga,hp.set bx (.vec sz 0 xs)⟩ (.slice (En ⟨w.heap.size,0,Ga⟩) xs.length cap) (w.alloc (.cells cells te)):=by
 obtain⟨m1,e1,Bk⟩:=m.aQ e hh (.cells cells te) (fun c t fr h=>by cases h;rfl) .dead (fun C' ω' w' _ hg=>⟨cells,te,hg⟩)
 have IL:(w.alloc (.cells cells te)).heap[w.heap.size]?=En (.cells cells te (0,0)):=by rw[wV,if_pos rfl]
 have hβ:(C.box bx w.heap.size).β bx=En w.heap.size:=by simp[aV.box]
 have m2:=m1.s6 (b:=bx) (r:=w.heap.size) (sz:=sz) (bS:=0) (q:=w.heap.size) (cap:=cap) (xs:=xs) hβ (fun x M Q=>by have:=m.jD x M;omega) ⟨cells,te,vs,IL,hcap,cJ,dj,N8.pure (UI Bj),hc,dl⟩ (.inl rfl) ⟨cells,te,IL⟩;rw[Eae]at m2;exact⟨_,ω,aV.le_trans Bk aV.ig,m2,e1.tok,.az _ _ _ w.heap.size w.heap.size cap hβ (.inr rfl) hcap,by simp⟩
section
include m e
theorem jqo {c}{t u el:TypeId}{ut:TypeDesc}{x y x' y' sz UO b h0 rk ys vy h'}
  (ho:o.op=.call c) (ef:c.callee=.builtin .append) (eC:c.args.toList=[x,y]) (eX:c.argTypes.toList=[t,u]) (ht:P.underlying t=En (.slice el)) (hu:P.underlying u=En ut) (kG:AV ut=Gd)
  (hn:jt P el=En sz) (hb:px P el=En b) (Y:qr x=En x') (I:qr y=En y') (e1:qi env x'=En (.list Gd UO [])) (e2:qi env y'=En vy) (cX:yd sz vy=En ys)
  (hlen:ys.length<=1073741824) (bN:ys≠[]) (kF:b<=4096) (UJ:qp 0 ys=Gd) (hzero:∃z,yw P el=En z/\z.length=sz) (dC:aQ h0 hp rk (.vec sz 0 ys)=En h'):
  ∃v w',(execOp a.eval o).run P w=.ok (.value v) w'/\zn P C0 w0 C a.tmps d env ⟨.az (h0+rk) 0 ys.length,Gb,Ga,h'⟩ v w':=by
 obtain⟨hh,rfl⟩:=yz dC
 have ha:c.args=#[x,y]:=by apply Jm;simpa using eC
 have mY:c.argTypes=#[t,u]:=by apply Jm;simpa using eX
 obtain⟨i,hi,sW⟩:∃i,P.info? el=En i/\i.bytes=b:=by
  unfold px at hb
  cases hi:P.info? el with
  |none=>simp[hi]at hb|some i=>exact⟨i,rfl,by simpa[hi]using hb⟩
 have lL:i.size=sz:=by
  unfold jt at hn;rw[hi]at hn;simpa using hn
 obtain⟨z,hz,Bd⟩:=hzero
 obtain⟨zv,oE⟩:∃zv,i.zero=En zv:=by
  unfold yw at hz;rw[hi]at hz
  cases hq:i.zero with
  |none=>simp[hq]at hz|some v=>exact⟨v,rfl⟩
 have ry:=qu e.cy I e2;obtain⟨news,G,dk,gi,dl⟩:=N2 m hu kG cX ry
 have fk:∀ {z:Value} {w':World},(Builtin.append_ #[t,u] o.type #[a.eval x,a.eval y]).run P w=.ok z w'->(execOp a.eval o).run P w=.ok (.value z) w':=by
  intro z w' h;simp[execOp,ho,resolve,ef,ha,mY,invoke,builtin,h]
 have oF:news.length=ys.length*sz:=by rw[dk.length,yr ys gi]
 have M:a.eval x=.slice Ga 0 0:=by
  rcases(qu e.cy Y e1).cU with⟨_,_,M⟩|⟨hf,_⟩|⟨hf,_⟩
  .exact M
  .cases hf
  .cases hf
 have iO:0<ys.length:=List.length_pos_iff.2 bN
 have cJ:Builtin.nextslicecap (0+ys.length) 0*i.bytes<=281474976710656:=growslice_fits (by omega) (by
  rw[sW]
  exact Jw (Oo (by omega) kF) (by decide:2^30*4096<=_))
 have bJ:=run_append_grow_src w t u o.type el i zv ht hi oE Ga 0 0 [] (run_firstCells_none _ _ _ _ _) (a.eval y) ys.length news (lL▸G) (by omega) (by omega) cJ;rw[<-M]at bJ;have sZ:=grownCap_ge w (0+ys.length) 0 el
 have iM:zv.cells.size=sz:=by
  obtain⟨_,zv',mZ,Iy,_⟩:=vn (C:=C) hz;have:=mZ w;simp[zeroValue,typeInfo,hi,oE]at this;subst this;have:=Iy.length;simp at this;omega
 generalize eP:(([]++news).toArray++Builtin.zeroCells zv.cells (grownCap w (0+ys.length) 0 el-(0+ys.length)))=dR at bJ;generalize UM:grownCap w (0+ys.length) 0 el=gc at bJ sZ eP;have jL:Ext w w.drew:=Ext.drew w
 have:=jk4 (d:=d) (tmps:=a.tmps) (m.ext jL) (e.ext jL) (te:=el) (cap:=gc) (sz:=sz) (cells:=dR) hh dk UJ gi dl (fun j v hj=>by
  rw[<-eP,Od,J2 (by simpa using(I5.1 hj).1)]
  simpa using hj) (by omega) (by
   rw[<-eP]
   have h5:(Builtin.zeroCells zv.cells (gc-(0+ys.length))).size=(gc-(0+ys.length))*sz:=by simp[Builtin.zeroCells,iM]
   simp only[Vg,R2,Od,oF,h5];rw[<-Om]
   exact Jn _ (by omega))
 rw[Vp]at bJ;exact⟨_,_,fk bJ,this⟩
theorem jpr {t el:TypeId}{ps len sz h0 rk z gw qs xs h'}
  (ho:o.op=.buildSlice t len ps) (ht:P.underlying t=En (.slice el)) (hn:jt P el=En sz) (hz:yw P el=En z) (hlen:sz*len<=65536) (UE:0<sz) (iM:z.length=sz)
  (nS:yL ps.toList=En gw) (hq:yf env sz gw=En qs) (M:mA (Hc len (vm sz z)) qs=En xs) (Bj:qp 0 xs=Gd) (dC:aQ h0 hp rk (.vec sz 0 xs)=En h'):
  ∃v w',(execOp a.eval o).run P w=.ok (.value v) w'/\zn P C0 w0 C a.tmps d env ⟨.az (h0+rk) 0 xs.length,Gb,Ga,h'⟩ v w':=by
 obtain⟨hh,rfl⟩:=yz dC;obtain⟨ds,bJ,hdr,Y,rS,lj,cJ⟩:=qpb (C:=C) (ω:=ω) (w:=w) (w0:=w0) e ho ht hn hz hlen UE iM nS hq M;refine⟨_,_,bJ,?_⟩;have fj:=jk4 (d:=d) (tmps:=a.tmps) m e (te:=el) (cap:=len) (sz:=sz) (cells:=ds) hh hdr Bj rS Y (by intro j v h;simpa using h) (by omega) cJ;rw[lj]at fj ⊢;exact fj
theorem jfm {t:TypeId}{z}(ho:o.op=.alloc t)(hz:yw P t=En z):
  ∃v w',(execOp a.eval o).run P w=.ok (.value v) w'/\zn P C0 w0 C a.tmps d env ⟨.db z.length,Gd,Ga,hp⟩ v w':=by
 obtain⟨_,zv,mI,cV,mZ⟩:=vn (C:=C) hz;have M:Ext w (w.alloc (.cells zv.cells t)):=Ext.alloc w _ (fun c t fr h=>by cases h;rfl)
 have iM:zv.cells.size=z.length:=by have:=cV.length;simpa using this
 refine⟨.pointer (En ⟨w.heap.size,0,Ga⟩),_,by simp[execOp,ho,Instr.alloc,mI,newVar,newRow],C,Abs.cS ω w.heap.size d,aV.le_refl C,(m.lI _ d (If _)).ext M,(e.fresh (If _)).ext M,.db _ _,fun _=>?_⟩;refine⟨by simp[Abs.cS],.inl m.size,fun b hb=>by have:=(m.lt b _ hb).1;simp at this,rfl,rfl,⟨zv.cells,t,by rw[wV,if_pos rfl],by simp;omega,fun _ _ _ h=>by simp at h⟩,fun o _=>m.lg _ (If _) o⟩
theorem jej {t:TypeId}{x y y' n s v}(ho:o.op=.store t x y)(hn:jt P t=En n)
  (Y:qr x=En (.tmp s)) (I:qr y=En y') (hl:jp s env=En (.db n,Gd)) (e2:qi env y'=En v) (wY:v.flat.length=n) (G:v.flat.all qk=Gd):
  ∃w' C' ω',(execOp a.eval o).run P w=.ok .skip w'/\C.le C'/\aA P C' ω' w0 C0 hp w'/\ar C' ω' w' w0.heap.size ((s,.aq v,Gb)::env) a.tmps:=by
 obtain⟨cv,c1,c2,c3⟩:=e s _ hl
 have eO:a.eval x=cv:=by
  cases x with
  |tmp t'=>
   simp only[qr]at Y;cases Y;simp[Act.eval,Jf,c1]
  |const u=>simp only[qr]at Y;split at Y<;>cases Y|func f=>simp[qr]at Y|global g=>simp[qr]at Y
 cases c2 with
 |db _ ad=>
  obtain⟨hω,hB,hβ,lJ,wX,⟨cells,te,hg,cJ,_⟩,hK⟩:=c3 rfl;obtain⟨r,q,sp⟩:=ad;simp only at hω hB hβ lJ wX hg cJ hK;subst lJ;subst wX;have ry:=qu e.cy I e2;have hc:=A5 ry G;have dl:=A7 hc (fun y hy=>Vh.1 G y hy)
  have dX:(a.eval y).cells.toList.length=n:=by rw[hc.length,wY]
  have bJ:=UC (P:=P) (t:=t) (off:=0) hn dX hg (by omega) dl;obtain⟨m',e',hle⟩:=q02 (d:=.slot s) m e (r:=r) (q:=0) (news:=(a.eval y).cells.toList) hω hB hβ hg (by omega) (fun o _=>hK o (by simp)) dl;refine⟨_,_,_,?_,hle,m',?_⟩
  .simp only[execOp,ho,Instr.storeAt,Sem.run_bind,eO,Instr.sureAddr,Sem.run_pure,Result.andThen_ok,bJ]
  .intro t' z hz;by_cases ng:t'=s
   .subst ng;simp only[jp,Vs,cond_true,En.injEq]at hz;subst hz;exact⟨_,c1,.aq _ _ _ (aV.fC (fun o _=>hK o (by simp)) hc),by simp⟩
   .have hb:Hb s t'=Gb:=by
     cases hb:Hb s t' with
     |false=>rfl|true=>exact absurd (Hq hb).symm ng
    simp only[jp,hb,cond_false]at hz;refine e' t' z ?_;simp only[ye,hl,jp,hb,cond_false];exact hz
end
end
section
variable {P:Program}{C C0:aV}{ω:Nat->Option Loc}{w w' w0:World}{hp:qh}{env:Env}{a:Act}{o:Oper}{tmps:Array Value}{d:Loc}
variable (m:aA P C ω w0 C0 hp w)(e:ar C ω w w0.heap.size env a.tmps)
def kh (w:World)(r:Nat)(x:Obj):World:={ w with heap:=w.heap.setIfInBounds r x }
theorem IP {r x}(h:r<w.heap.size):(kh w r x).heap[r]?=En x:=by
 show(w.heap.setIfInBounds r x)[r]?=_;rw[Array.getElem?_setIfInBounds_self_of_lt h]
theorem FT {r x}(h:r<w.heap.size)(M:∀c t fr,x=.cells c t fr->fr=(0,0)):oG w (kh w r x) r where
 size:=by simp[kh]
 other k hk:=by
  show(w.heap.setIfInBounds r x)[k]?=_;rw[Array.getElem?_setIfInBounds_ne (Vf hk)]
 fz c t fr hc:=by
  rw[IP h]at hc;exact M c t fr (En.inj hc)
 os:=rfl
 output:=rfl
theorem yV {r x y}(h:w.heap[r]?=En y)(hy:∀c t f,y≠.cells c t f):(setObj r x).run P w=.ok () (kh w r x):=by
 cases y with
 |cells c t f=>exact absurd rfl (hy c t f)|_=>simp[setObj,Sem.run,kh,h]
theorem rU {r y}(h:w.heap[r]?=En y)(hy:∀c t f,y≠.cells c t f):(getObj r).run P w=.ok y w:=by
 cases y with
 |cells c t f=>exact absurd rfl (hy c t f)|_=>simp[getObj,Sem.run,h]
include m e in
theorem jic {x x' b pos s}(ho:o.op=.next x Gd)(Y:qr x=En x')(e1:qi env x'=En (.ptr b 0))(ie:hp[b]?=En (.iter s pos)):
  (pos<s.length->∀h',jy hp b (.iter s (pos+(qj s pos).2))=En h'->∃v w',(execOp a.eval o).run P w=.ok (.value v) w'/\zn P C0 w0 C a.tmps d env ⟨.aI [.bool Gd,.int .i64 pos,.int .i32 (qj s pos).1],Gb,Ga,h'⟩ v w') /\
  (¬pos<s.length->∃v w',(execOp a.eval o).run P w=.ok (.value v) w'/\zn P C0 w0 C a.tmps d env ⟨.aI [.bool Gb],Gb,Ga,hp⟩ v w'):=by
 obtain⟨r,Q,hq⟩:=(qu e.cy Y e1).dy;have ic:w.heap[r]?=En (.stringIter ⟨⟨s⟩⟩ pos):=m.box b _ r ie Q;have aW:=(m.lt b r Q).1;have dj:(⟨⟨s⟩⟩:ByteArray).size=s.length:=rfl;constructor
 .intro iO h' bO;obtain rfl:=Be bO;have hu:=FT (w:=w) (r:=r) (x:=.stringIter ⟨⟨s⟩⟩ (pos+(qj s pos).2)) aW (by simp);refine⟨.tuple #[.bool Gd,goInt pos,.int .i32 (qj s pos).1],kh w r (.stringIter ⟨⟨s⟩⟩ (pos+(qj s pos).2)),?_,C,ω,aV.le_refl C,m.dY hu Q _ (fun _ _ _ _ _ h=>h) (IP aW),e.dP hu Q,?_,by simp⟩
  .have eV:pos<(⟨⟨s⟩⟩:ByteArray).size:=iO;have bO:=yV (P:=P) (x:=.stringIter ⟨⟨s⟩⟩ (pos+(qj s pos).2)) ic (by simp);simp only[execOp,ho,hq,Instr.next,Sem.run_bind,rU ic (by simp),Result.andThen_ok,eV,if_true];unfold qj at bO ⊢;simp only[Sem.run_bind,bO,Result.andThen_ok,Sem.run_pure]
  .refine .aI _ _ (.cons _ _ _ _ (.bool _) (.cons _ _ _ _ ?_ (.cons _ _ _ _ (.int _ _) .nil)));exact .int _ _
 .intro iO;have eV:¬pos<(⟨⟨s⟩⟩:ByteArray).size:=iO;refine⟨.tuple #[.bool Gb],w,?_,q7v m e (.aI _ _ (.cons _ _ _ _ (.bool _) .nil))⟩;simp only[execOp,ho,hq,Instr.next,Sem.run_bind,rU ic (by simp),Result.andThen_ok,eV,if_false,Sem.run_pure]
theorem UQ {t:TypeId}{kd}(h:lH P t=En kd):(kd=.int/\∃k,P.underlying t=En (.int k))\/(kd=.str/\P.underlying t=En .string)\/(kd=.bool/\P.underlying t=En .bool):=by
 unfold lH at h
 split at h<;>first|cases h|skip
 .exact .inl ⟨rfl,_,‹_›⟩
 .exact .inr (.inl ⟨rfl,‹_›⟩)
 .exact .inr (.inr ⟨rfl,‹_›⟩)
theorem q2a {t:TypeId}{td:TypeDesc}{kd x y u v b}(ht:P.underlying t=En td)(hk:lH P t=En kd)(M:bW C x u)(hy:bW C y v)(h:nQ kd x y=En b):Instr.sameNow td u v=En b/\(b=Gd->x=y/\u=v/\Instr.sameBits 10000 v u=Gd):=by
 rcases UQ hk with⟨rfl,k,hu⟩|⟨rfl,hu⟩|⟨rfl,hu⟩<;>rw[hu]at ht<;>cases ht
 .cases x<;>cases y<;>simp only[nQ]at h<;>first|cases h|skip
  rename_i k1 n1 k2 n2;have e1:=M.bY;have e2:=hy.bY;subst e1;subst e2;by_cases iP:k1=k2
  .subst iP;simp only[decide_true,cond_true,En.injEq]at h;refine⟨by simp[Instr.sameNow,h],fun hb=>?_⟩;subst hb
   have:n1=n2:=by simpa using h
   subst this;exact⟨rfl,rfl,by simp[Instr.sameBits]⟩
  .simp[iP]at h
 .cases x<;>cases y<;>simp only[nQ]at h<;>first|cases h|skip
  rename_i s1 s2;have e1:=M.cB;have e2:=hy.cB;subst e1;subst e2
  have IQ:((⟨⟨s1⟩⟩:ByteArray) == ⟨⟨s2⟩⟩)=(s1 == s2):=by
   show(Array.mk s1 == Array.mk s2)=_;simp
  refine⟨by simp only[Instr.sameNow,IQ],fun hb=>?_⟩
  have xd:s1=s2:=by simpa using hb
  subst xd;refine⟨rfl,rfl,?_⟩;simp only[Instr.sameBits,IQ];simp
 .cases x<;>cases y<;>simp only[nQ]at h<;>first|cases h|skip
  rename_i b1 b2;have e1:=M.dx;have e2:=hy.dx;subst e1;subst e2;refine⟨by simp[Instr.sameNow],fun hb=>?_⟩
  have xd:b1=b2:=by simpa using hb
  subst xd;exact⟨rfl,rfl,by simp[Instr.sameBits]⟩
theorem IU {t:TypeId}{td:TypeDesc}{kd k u}(ht:P.underlying t=En td)(hk:lH P t=En kd)(M:bW C k u):∀ {es:List (AVal×AVal)} {ms:List MapEntry} {i:Nat} {r:Option (Nat×AVal)},cK C es ms->j6 kd k es i=En r ->
  match r with
  |none=>Instr.findNow td u ms i=En Ga|some (j,v)=>∃m,i<=j/\es[j-i]?=En (k,v)/\ms[j-i]?=En m/\m.key=u/\bW C v m.val/\Instr.findNow td u ms i=En (En (j,m.val))/\Instr.sameBits 10000 m.key u=Gd
 |_,_,i,r,.nil,h=>by
  simp only[j6,En.injEq]at h;subst h;simp[Instr.findNow]
 |_,_,i,r,.cons k' v' es m ms Y I h3,h=>by
  simp only[j6]at h;split at h
  .rename_i he;cases h;obtain⟨q1,q2⟩:=q2a ht hk M Y he;obtain⟨rfl,rfl,q3⟩:=q2 rfl;exact⟨m,If _,by simp,by simp,rfl,I,by simp[Instr.findNow,q1],q3⟩
  .rename_i he;obtain⟨q1,_⟩:=q2a ht hk M Y he;have ih:=IU ht hk M h3 h
   cases r with
   |none=>simp only[Instr.findNow,q1];exact ih
   |some jv=>
    obtain⟨j,v⟩:=jv;obtain⟨m2,k1,k2,k3,k4,k5,k6,k7⟩:=ih;refine⟨m2,by omega,?_,?_,k4,k5,by simp only[Instr.findNow,q1];exact k6,k7⟩
    .rw[show j-i=(j-(i+1))+1 from by omega];simpa using k2
    .rw[show j-i=(j-(i+1))+1 from by omega];simpa using k3
  .cases h
theorem FU {t:TypeId}{kd}(hk:lH P t=En kd)(e:Bool)(v:Value):(Instr.checkKey e 10000 t v).run P w=.ok () w:=by
 rcases UQ hk with⟨_,k,hu⟩|⟨_,hu⟩|⟨_,hu⟩<;>(unfold Instr.checkKey;simp[run_underlying hu])
theorem IV {t:TypeId}{td:TypeDesc}{u ms r}(ht:P.underlying t=En td)(h:Instr.findNow td u ms 0=En r):(Instr.findKey t u ms).run P w=.ok r w:=by
 simp[Instr.findKey,run_underlying ht,h]
theorem UR {t:TypeId}{kd}(hk:lH P t=En kd):∃td,P.underlying t=En td:=by
 rcases UQ hk with⟨_,k,hu⟩|⟨_,hu⟩|⟨_,hu⟩<;>exact⟨_,hu⟩
include m e in
theorem US {t kt el:TypeId}{x y ok x' y' kd zv mv kv r}(ho:o.op=.lookup t x y ok)(ht:P.underlying t=En (.map kt el))(jH:lH P kt=En kd)(hz:T6 P el=En zv)
  (Y:qr x=En x') (I:qr y=En y') (e1:qi env x'=En mv) (e2:qi env y'=En kv)
  (hv:(mv=.cg/\r=Ga)\/∃b es,mv=.map b/\hp[b]?=En (.map es)/\j6 kd kv es 0=En r):
  Val P C a o w (match r with
   |some (_,v)=>bif ok then .aI [v,.bool Gd]else v
   |none=>bif ok then .aI [zv,.bool Gb]else zv):=by
 have iN:=qu e.cy I e2;have vq:=qu e.cy Y e1;obtain⟨td,ti⟩:=UR jH
 obtain⟨IW,mI,oE⟩:∃v,(∀w,(zeroValue el).run P w=.ok v w)/\bW C zv v:=by
  unfold T6 at hz;split at hz
  .rename_i i hi;split at hz
   .rename_i v hv;exact⟨v,fun w=>by simp[zeroValue,typeInfo,hi,hv],qw8 C hz⟩
   .cases hz
  .cases hz
 have fin:∀ {ms:List MapEntry} {rv:Option (Nat×Value)},(a.eval x=.map Ga/\ms=[]\/∃q clock,a.eval x=.map (En q)/\w.heap[q]?=En (.map ⟨ms⟩ clock))->Instr.findNow td (a.eval y) ms 0=En rv ->
   (execOp a.eval o).run P w=.ok (.value (if ok then .tuple #[(match rv with|some (_,v)=>v|none=>IW),.bool rv.isSome]else(match rv with|some (_,v)=>v|none=>IW))) w:=by
  intro ms rv hm hf;have vr:=IV (w:=w) ti hf;rcases hm with⟨hm,rfl⟩|⟨q,clock,hm,hq⟩
  .cases rv<;>simp[execOp,ho,Instr.lookup,run_underlying ht,hm,FU jH,vr,mI]
  .cases rv<;>simp[execOp,ho,Instr.lookup,run_underlying ht,hm,rU hq (by simp),FU jH,vr,mI]
 rcases hv with⟨rfl,rfl⟩|⟨b,es,rfl,hb,hfe⟩
 .generalize nT:a.eval x=mx at vq;cases vq;refine⟨_,fin (ms:=[]) (rv:=none) (.inl ⟨nT,rfl⟩) (by simp[Instr.findNow]),?_⟩
  cases ok with
  |true=>exact .aI _ _ (.cons _ _ _ _ oE (.cons _ _ _ _ (.bool _) .nil))|false=>exact oE
 .generalize nT:a.eval x=mx at vq
  cases vq with
  |map _ q qL=>
   obtain⟨cr,clock,g1,g2⟩:=m.box b _ q hb qL;have hf:=IU ti jH iN g2 hfe
   cases r with
   |none=>
    refine⟨_,fin (ms:=cr.toList) (rv:=none) (.inr ⟨q,clock,nT,g1⟩) hf,?_⟩
    cases ok with
    |true=>exact .aI _ _ (.cons _ _ _ _ oE (.cons _ _ _ _ (.bool _) .nil))|false=>exact oE
   |some jv=>
    obtain⟨j,v⟩:=jv;obtain⟨me,_,_,_,_,hrv,hfn,_⟩:=hf;refine⟨_,fin (ms:=cr.toList) (rv:=En (j,me.val)) (.inr ⟨q,clock,nT,g1⟩) hfn,?_⟩
    cases ok with
    |true=>exact .aI _ _ (.cons _ _ _ _ hrv (.cons _ _ _ _ (.bool _) .nil))|false=>exact hrv
theorem cK.iE {k v:AVal}:∀ {es:List (AVal×AVal)} {ms:List MapEntry} {j:Nat} {m:MapEntry},cK C es ms->bW C v m.val->(∀k',(es[j]?).map (·.1)=En k'->bW C k' m.key)->cK C (sP es j v) (ms.set j m)
 |_,_,j,m,.nil,_,_=>by simp[sP];exact .nil
 |_,_,0,m,.cons k' v' es m' ms Y I h3,hv,hk=>by
  simp only[sP,Eaa];exact .cons _ _ _ _ _ (hk k' (by simp)) hv h3
 |_,_,j+1,m,.cons k' v' es m' ms Y I h3,hv,hk=>by
  simp only[sP,Eab];exact .cons _ _ _ _ _ Y I (cK.iE (k:=k) h3 hv (fun k' h=>hk k' (by simpa using h)))
theorem cK.push {k v m es ms}(h:cK C es ms)(hk:bW C k m.key)(hv:bW C v m.val):cK C (es++[(k,v)]) (ms++[m]):=by
 induction h with
 |nil=>exact .cons _ _ _ _ _ hk hv .nil|cons k' v' es m' ms Y I _ ih=>exact .cons _ _ _ _ _ Y I ih
include m e in
theorem qr8 {t kt el:TypeId}{x y z x' y' z' kd kv v b es h'}(ho:o.op=.mapUpdate t x y z\/o.op=.insert t x y z)(ht:P.underlying t=En (.map kt el))(jH:lH P kt=En kd)
  (Y:qr x=En x') (I:qr y=En y') (h3:qr z=En z') (e1:qi env x'=En (.map b)) (e2:qi env y'=En kv) (e3:qi env z'=En v) (hb:hp[b]?=En (.map es))
  (hv:(∃i u,j6 kd kv es 0=En (En (i,u))/\jy hp b (.map (sP es i v))=En h')\/(j6 kd kv es 0=En Ga/\jy hp b (.map (es++[(kv,v)]))=En h')):
  ∃w',(execOp a.eval o).run P w=.ok .skip w'/\zn P C0 w0 C a.tmps d env ⟨.undef,Gb,Ga,h'⟩ undef w':=by
 have iN:=qu e.cy I e2;have hvr:=qu e.cy h3 e3;have vq:=qu e.cy Y e1;obtain⟨td,ti⟩:=UR jH;generalize nT:a.eval x=mx at vq
 cases vq with
 |map _ q qL=>
  obtain⟨cr,clock,g1,g2⟩:=m.box b _ q hb qL;have aW:=(m.lt b q qL).1
  have done:∀(Bl:List (AVal×AVal)) (tj:Array MapEntry) (lO:Nat),cK C Bl tj.toList->jy hp b (.map Bl)=En h' ->
    (execOp a.eval o).run P w=.ok .skip (kh w q (.map tj lO))->∃w',(execOp a.eval o).run P w=.ok .skip w'/\zn P C0 w0 C a.tmps d env ⟨.undef,Gb,Ga,h'⟩ undef w':=by
   intro Bl tj lO xe bO bJ;obtain rfl:=Be bO;have hu:=FT (w:=w) (r:=q) (x:=.map tj lO) aW (by simp);exact⟨_,bJ,C,ω,aV.le_refl C,m.dY hu qL _ (fun _ _ _ _ _ h=>h) ⟨tj,lO,IP aW,xe⟩,e.dP hu qL,.undef,by simp⟩
  rcases hv with⟨i,u,hf,bO⟩|⟨hf,bO⟩
  .obtain⟨me,_,k1,k2,k3,k4,k5,k6⟩:=IU ti jH iN g2 hf;have vr:=IV (w:=w) ti k5;simp only[Nat.sub_zero]at k1 k2
   have UT:cr[i]?=En me:=by simpa using k2
   have hlen:i<cr.size:=(I1.1 UT).1;refine done (sP es i v) (cr.modify i fun e=>{ e with key:=a.eval y,val:=a.eval z }) clock ?_ bO ?_
   .have:(cr.modify i fun e=>{ e with key:=a.eval y,val:=a.eval z }).toList=cr.toList.set i { me with key:=a.eval y,val:=a.eval z }:=by
     apply Ve;intro j;rw[Jj,Array.getElem?_modify,Eag];by_cases wZ:i=j
     .subst wZ;have hgi:=(I1.1 UT).2;simp[hlen,hgi]
     .simp[wZ]
    rw[this];refine cK.iE (k:=kv) g2 hvr (fun k' fm=>?_);rw[k1]at fm;cases fm;exact iN
   .have gK:=yV (P:=P) (x:=.map (cr.modify i fun e=>{ e with key:=a.eval y,val:=a.eval z }) clock) g1 (by simp)
    have IX:∀w:World,(Instr.keyThatStays (((cr[i]?).map (·.key)).getD (a.eval y)) (a.eval y)).run P w=.ok (a.eval y) w:=by
     intro w;simp[Instr.keyThatStays,UT,k6]
    rcases ho with ho|ho<;>simp only[execOp,ho,Instr.mapUpdate,Sem.run_bind,run_underlying ht,Result.andThen_ok,nT,rU g1 (by simp),FU jH,vr,IX,gK,Sem.run_pure]
  .have Ig:=IU ti jH iN g2 hf;have vr:=IV (w:=w) ti Ig;refine done (es++[(kv,v)]) (cr.push { key:=a.eval y,val:=a.eval z,born:=clock }) (clock+1) ?_ bO ?_
   .rw[Array.toList_push];exact g2.push iN hvr
   .have gK:=yV (P:=P) (x:=.map (cr.push { key:=a.eval y,val:=a.eval z,born:=clock }) (clock+1)) g1 (by simp);rcases ho with ho|ho<;>simp only[execOp,ho,Instr.mapUpdate,Sem.run_bind,run_underlying ht,Result.andThen_ok,nT,rU g1 (by simp),FU jH,vr,gK,Sem.run_pure]
end
section
variable {P:Program}{C C0:aV}{ω:Nat->Option Loc}{w w' w0:World}{hp:qh}{env:Env}{a:Act}{o:Oper}{tmps:Array Value}{d:Loc}
theorem q5y {n sz len cap:Nat}{base:Option Addr}{cs:List Value}(hl:cs.length=n*sz)(h:∀ad,base=En ad->∀j v,cs[j]?=En v->w.cell? (ad.add j)=En v)(hn:base=Ga->n=0):
  (Builtin.firstCells sz n (.slice base len cap)).run P w=.ok cs.toArray w:=by
 cases base with
 |none=>
  have:cs=[]:=by
   have:=hn rfl;subst this;exact List.length_eq_zero_iff.1 (by simpa using hl)
  subst this;exact run_firstCells_none _ _ _ _ _
 |some ad=>exact run_firstCells_some w _ _ _ _ _ cs hl (h ad rfl)
theorem jmh (m:aA P C ω w0 C0 hp w)(e:ar C ω w w0.heap.size env a.tmps){c:Call}{t:TypeId}{ts:List TypeId}{el:TypeId}{x y x' y' sz b q len n vy us cs eK h'}
  (ho:o.op=.call c) (ef:c.callee=.builtin .copy) (eC:c.args.toList=[x,y]) (eX:c.argTypes.toList=t::ts) (ht:P.underlying t=En (.slice el)) (hn:jt P el=En sz)
  (Y:qr x=En x') (I:qr y=En y') (e1:qi env x'=En (.ms b q len)) (e2:qi env y'=En vy) (mK:qv hp b=En cs) (cX:AR sz len vy=En (n,us)) (cw:jx cs q us=En eK) (Uk:us.length=n*sz) (bO:jy hp b (.cells eK)=En h'):
  ∃u w',(execOp a.eval o).run P w=.ok (.value u) w'/\zn P C0 w0 C a.tmps d env ⟨.int .i64 n,Gb,Ga,h'⟩ u w':=by
 obtain⟨r,cap,Q,hle,hq⟩:=(qu e.cy Y e1).fi;have ry:=qu e.cy I e2;unfold jx at cw
 cases hb:(H2 (q+us.length) cs.length&&us.all qk)with
 |false=>simp[hb]at cw
 |true=>
  simp only[hb,cond_true,En.injEq]at cw;simp only[Ji]at hb;subst cw
  -- the source
  obtain⟨news,base,sl,sc,hy,dk,hcells,UU,sY⟩:∃news base sl sc,a.eval y=.slice base sl sc/\bq C us news/\(∀ad,base=En ad->∀j v,news[j]?=En v->w.cell? (ad.add j)=En v)/\Nat.min sl len=n/\(base=Ga->n=0):=by
   unfold AR at cX;split at cX
   .rename_i nn sy ys
    cases hk:(Hb sz sy||ys.isEmpty)with
    |false=>simp[hk]at cX
    |true=>
     simp only[hk,cond_true,En.injEq,Prod.mk.injEq]at cX;obtain⟨rfl,rfl⟩:=cX;generalize a.eval y=vv at ry
     cases ry with
     |kD=>exact⟨[],Ga,0,0,rfl,by simpa using aO.nil,by simp,by simp[Nat.min_def],by simp⟩|kE _ ad _=>exact⟨[],En ad,0,0,rfl,by simpa using aO.nil,by simp,by simp,by simp⟩
     |list _ _ r' o' lN hl de=>
      have hc:cF C r' ((ys.take len).flatMap AVal.flat) o':=bE.cells (bE.take len de);obtain⟨vs,k1,k2⟩:=hc.vals;refine⟨vs,En ⟨r',o',Ga⟩,ys.length,lN,rfl,k1,?_,rfl,by simp⟩;intro ad had j v hj;cases had;rw[add_lit];exact m.know _ _ _ (k2 j v hj)
   .cases cX
  have dl:=A7 dk (by simpa using hb.2);obtain⟨vs,te,hg,cJ,m',e'⟩:=q8l m e (xa mK) Q dk dl (Jg hb.1);obtain rfl:=Be bO;have hfc:=q5y (P:=P) (w:=w) (n:=n) (sz:=sz) (len:=sl) (cap:=sc) (base:=base) (cs:=news) (by rw[dk.length,Uk]) hcells sY;have IY:=run_storeCells_at (P:=P) r q te news 0 vs w hg (by simpa using cJ) dl;simp only[Vn]at IY
  have bJ:(Builtin.copy_ c.argTypes o.type (c.args.map a.eval)).run P w=.ok (goInt n) (w.setRow r (vs.toList.take q++news++vs.toList.drop (q+news.length)).toArray):=by
   have ha:c.args.map a.eval=#[a.eval x,a.eval y]:=by
    apply Jm;simp[eC]
   have hat:c.argTypes[0]?=En t:=by rw[<-Jj,eX];rfl
   rw[ha];simp only[Builtin.copy_,hat,I9,R1,Lm,Sem.run_bind,run_underlying ht,Result.andThen_ok,hq,hy,Builtin.lenOf,Sem.run_pure,UU,yt hn,hfc,IY]
  refine⟨goInt n,_,?_,C,ω,aV.le_refl C,m',e',?_,by simp⟩
  .have ha:Array.map a.eval c.args=#[a.eval x,a.eval y]:=by
    apply Jm;simp[eC]
   rw[ha]at bJ;simp[execOp,ho,resolve,ef,ha,invoke,builtin,bJ]
  .exact .int _ _
theorem cK.erase:∀ {es:List (AVal×AVal)} {ms:List MapEntry} (j:Nat),cK C es ms->cK C (es.eraseIdx j) (ms.eraseIdx j)
 |_,_,j,.nil=>by simpa using cK.nil
 |_,_,0,.cons k' v' es m' ms Y I h3=>by simpa using h3
 |_,_,j+1,.cons k' v' es m' ms Y I h3=>by simpa using .cons _ _ _ _ _ Y I (cK.erase j h3)
theorem jgb (m:aA P C ω w0 C0 hp w)(e:ar C ω w w0.heap.size env a.tmps){c}{t kt el:TypeId}{ts x y x' y' kd kv b es h' r}
  (ho:o.op=.call c) (ef:c.callee=.builtin .delete) (eC:c.args.toList=[x,y]) (eX:c.argTypes.toList=t::ts) (ht:P.underlying t=En (.map kt el)) (jH:lH P kt=En kd)
  (Y:qr x=En x') (I:qr y=En y') (e1:qi env x'=En (.map b)) (e2:qi env y'=En kv) (hb:hp[b]?=En (.map es))
  (hf:j6 kd kv es 0=En r) (bO:jy hp b (.map (jab es r))=En h'):
  ∃u w',(execOp a.eval o).run P w=.ok (.value u) w'/\zn P C0 w0 C a.tmps d env ⟨.aI [],Gb,Ga,h'⟩ u w':=by
 have iN:=qu e.cy I e2;have vq:=qu e.cy Y e1;obtain⟨td,ti⟩:=UR jH
 have ha:Array.map a.eval c.args=#[a.eval x,a.eval y]:=by
  apply Jm;simp[eC]
 have hat:c.argTypes[0]?=En t:=by rw[<-Jj,eX];rfl
 generalize nT:a.eval x=mx at vq
 cases vq with
 |map _ q qL=>
  obtain⟨cr,clock,g1,g2⟩:=m.box b _ q hb qL;have aW:=(m.lt b q qL).1
  have done:∀(Bl:List (AVal×AVal)) (tj:Array MapEntry),cK C Bl tj.toList->jy hp b (.map Bl)=En h' ->
    (Builtin.delete_ c.argTypes o.type #[.map (En q),a.eval y]).run P w=.ok (.tuple #[]) (kh w q (.map tj clock))->∃u w',(execOp a.eval o).run P w=.ok (.value u) w'/\zn P C0 w0 C a.tmps d env ⟨.aI [],Gb,Ga,h'⟩ u w':=by
   intro Bl tj xe bO bJ;obtain rfl:=Be bO;have hu:=FT (w:=w) (r:=q) (x:=.map tj clock) aW (by simp);refine⟨.tuple #[],_,?_,C,ω,aV.le_refl C,m.dY hu qL _ (fun _ _ _ _ _ h=>h) ⟨tj,clock,IP aW,xe⟩,e.dP hu qL,.aI _ _ .nil,by simp⟩;simp[execOp,ho,resolve,ef,ha,nT,invoke,builtin,bJ]
  have hfn:=IU ti jH iN g2 hf
  cases r with
  |none=>
   have vr:=IV (w:=w) ti hfn;refine done es cr g2 bO ?_;have gK:=yV (P:=P) (x:=.map cr clock) g1 (by simp);simp only[Builtin.delete_,hat,I9,R1,Lm,Sem.run_bind,run_underlying ht,Result.andThen_ok,rU g1 (by simp),FU jH,vr,gK,Sem.run_pure]
  |some jv=>
   obtain⟨j,v⟩:=jv;obtain⟨me,_,k1,k2,k3,k4,k5,k6⟩:=hfn;have vr:=IV (w:=w) ti k5;refine done (es.eraseIdx j) (cr.eraseIdxIfInBounds j) ?_ bO ?_
   .have:(cr.eraseIdxIfInBounds j).toList=cr.toList.eraseIdx j:=by simp
    rw[this];exact cK.erase j g2
   .have gK:=yV (P:=P) (x:=.map (cr.eraseIdxIfInBounds j) clock) g1 (by simp);simp only[Builtin.delete_,hat,I9,R1,Lm,Sem.run_bind,run_underlying ht,Result.andThen_ok,rU g1 (by simp),FU jH,vr,gK,Sem.run_pure]
end
section
variable {P:Program}{p:j8}{xc:XC}{C C0:aV}{ω:Nat->Option Loc}{w w0:World}{hp:qh}{env:Env}{a:Act}{o:Oper}{d:Loc}{h:js}{md:eT}{r h0:Nat}{dst:Option Nat}{al:ak Nat}{cP:cI}{res:bA}
variable (m:aA P C ω w0 C0 hp w)(e:ar C ω w w0.heap.size env a.tmps)
def yj (P:Program)(C C0:aV)(w0:World)(a:Act)(d:Loc)(env:Env)(o:Oper)(w:World)(res:bA):Prop:=
 (∃v w',(execOp a.eval o).run P w=.ok (.value v) w'/\zn P C0 w0 C a.tmps d env res v w') \/
 (∃w',(execOp a.eval o).run P w=.ok .skip w'/\zn P C0 w0 C a.tmps d env res undef w') \/
 (∃f args,(execOp a.eval o).run P w=.ok (.enter f args) w/\CallsIn Fence.wide 0 P f args w fun e w'=>∃v,e=.returned v/\zn P C0 w0 C a.tmps d env res v w') \/
 (∃l f tmps assign body,(execOp a.eval o).run P w=.ok (.round l f tmps assign body) w/\RoundIn Fence.wide 0 P l f tmps assign body w fun e w'=>∃v,e=.returned v/\zn P C0 w0 C a.tmps d env res v w')
include m e in
theorem jm {x}(hv:Val P C a o w x):yj P C C0 w0 a d env o w ⟨x,Gb,Ga,hp⟩:=by
 obtain⟨v,Y,I⟩:=hv;exact .inl ⟨v,w,Y,q7v m e I⟩
theorem qy {x}(G:val hp x=En res):res=⟨x,Gb,Ga,hp⟩:=by simpa[val]using G.symm
theorem vt {x}(G:hJ hp x=En res):∃v,x=En v/\res=⟨v,Gb,Ga,hp⟩:=by
 cases x with
 |none=>simp[hJ]at G|some v=>exact⟨v,rfl,by simpa[hJ]using G.symm⟩
section
include m e
theorem N9 {x}(ho:o.op=.move x\/o.op=.assign x){y}(hc:qr x=En y)(G:qm env hp (.move y)=En res):yj P C C0 w0 a d env o w res:=by
 simp only[qm]at G;obtain⟨v,hv,rfl⟩:=vt G;exact jm m e (jny e.cy ho hc hv)
theorem q7i {s}(ho:o.op=.move (.tmp s)\/o.op=.assign (.tmp s))(G:qm env hp (.take s)=En res):yj P C C0 w0 a d env o w res:=by
 simp only[qm]at G;split at G
 .rename_i v ow hl;cases G;exact .inl (jn7 m e ho hl)
 .cases G
theorem jmm {x}(ho:o.op=.move x)(hc:cW P h md r dst (.move x)=En cP)(G:qf p xc h0 al env hp cP=En res):yj P C C0 w0 a d env o w res:=by
 simp only[cW]at hc;split at hc
 .rename_i s ht;cases hc;unfold jcq at ht;split at ht
  .split at ht
   .cases ht;exact q7i m e (.inl ho) G
   .cases ht
  .cases ht
 .obtain⟨y,hy,rfl⟩:=Ha.1 hc;exact N9 m e (.inl ho) hy G
theorem je6 {x}(ho:o.op=.assign x)(hc:cW P h md r dst (.assign x)=En cP)(G:qf p xc h0 al env hp cP=En res):yj P C C0 w0 a d env o w res:=by
 cases x with
 |tmp s=>simp only[cW]at hc;cases hc;exact q7i m e (.inr ho) G|const v=>simp only[cW]at hc;obtain⟨y,hy,rfl⟩:=Ha.1 hc;exact N9 m e (.inr ho) hy G|func v=>simp only[cW]at hc;obtain⟨y,hy,rfl⟩:=Ha.1 hc;exact N9 m e (.inr ho) hy G|global v=>simp only[cW]at hc;obtain⟨y,hy,rfl⟩:=Ha.1 hc;exact N9 m e (.inr ho) hy G
theorem jm3 {c x y}(ho:o.op=.pick c x y)(hc:cW P h md r dst (.pick c x y)=En cP)(G:qf p xc h0 al env hp cP=En res):yj P C C0 w0 a d env o w res:=by
 simp only[cW]at hc;split at hc
 .rename_i c' x' y' Y I h3;cases hc;simp only[qf,qm]at G;split at G
  .rename_i b e1;split at G
   .rename_i u v e2 e3;obtain rfl:=qy G;exact jm m e (jld e.cy ho Y I h3 e1 e2 e3)
   .cases G
  .cases G
 .cases hc
theorem q7y {x}(ho:o.op=.nilCheck x)(hc:cW P h md r dst (.nilCheck x)=En cP)(G:qf p xc h0 al env hp cP=En res):yj P C C0 w0 a d env o w res:=by
 simp only[cW]at hc;obtain⟨y,hy,rfl⟩:=Ha.1 hc;simp only[qf,qm]at G;split at G
 .rename_i b q hv;obtain rfl:=qy G;exact jm m e (qti e.cy ho hy hv (.inl ⟨_,_,rfl⟩))
 .rename_i z hv;obtain rfl:=qy G;exact jm m e (qti e.cy ho hy hv (.inr ⟨_,rfl⟩))
 .rename_i f u v hv;obtain rfl:=qy G;have Q:=qu e.cy hy hv;refine jm m e ⟨a.eval x,?_,Q⟩;generalize M:a.eval x=ev at Q
  cases Q with
  |fn f f' u v as bs hf ha hb=>
   simp only[fV]at hf;subst hf;simp[execOp,ho,M]
 .cases G
theorem j1a {op}{t:TypeId}{x}(ho:o.op=.unOp op t x)(hc:cW P h md r dst (.unOp op t x)=En cP)(G:qf p xc h0 al env hp cP=En res):yj P C C0 w0 a d env o w res:=by
 simp only[cW]at hc;obtain⟨y,hy,rfl⟩:=Ha.1 hc;simp only[qf,qm]at G;split at G
 .rename_i v hv;obtain⟨u,hu,rfl⟩:=vt G;exact jm m e (jx3 e.cy ho hy hv hu)
 .cases G
end
theorem q4z {C:aV}{r:Nat}:∀ {xs:List AVal} {o:Nat} {s:aj},bE C r 1 xs o->H6 xs=En s->∃ns:List Int,ns.length=xs.length/\(∀j v,(ns.map (Value.int .u8))[j]?=En v->C.K r (o+j)=En v)/\s=ns.map (fun n=>Ow n.toNat)
 | [],o,s,_,hb=>by
  cases hb;exact⟨[],rfl,by simp,rfl⟩
 |x::xs,o,s,h,hb=>by
  cases h with
  |dw _ _ _ _ _ G M h=>
   unfold H6 at hb;split at hb
   .rename_i e;cases e
   .rename_i n ys e;cases e;split at hb
    .rename_i t ht;cases hb;obtain⟨ns,k1,k2,k3⟩:=q4z h ht
     cases M with
     |dE _ _ _ _ v hv M _=>
      cases M;refine⟨n::ns,by simp[k1],?_,by rw[k3];rfl⟩;intro j v hj
      cases j with
      |zero=>simp at hj;subst hj;exact hv|succ j=>simp only[Ot,Lm]at hj;rw[show o+(j+1)=o+1+j from by omega];exact k2 j v hj
    .cases hb
   .cases hb
theorem q0j:∀ (ns:List Int) (l:aj),ns.foldl (fun r n=>r.push (Ow n.toNat)) (ByteArray.mk ⟨l⟩)=ByteArray.mk ⟨l++ns.map (fun n=>Ow n.toNat)⟩
 | [],l=>by simp
 |n::ns,l=>by
  have h:(ByteArray.mk ⟨l⟩).push (Ow n.toNat)=ByteArray.mk ⟨l++[Ow n.toNat]⟩:=by
   unfold ByteArray.push;simp
  rw[Eak,h,q0j ns,Ot,J0];rfl
theorem jkx (m:aA P C ω w0 C0 hp w)(he:bC C env a.tmps){s d e:TypeId}{x x' xs l n}(ho:o.op=.convert s d x)(G:P.underlying s=En (.slice e))(hu:P.underlying e=En (.int .u8))(hd:P.underlying d=En .string)
  (Y:qr x=En x') (e1:qi env x'=En (.list n 1 xs)) (hb:H6 xs=En l):Val P C a o w (.str l):=by
 have key:∀(ad:Addr) (len cap:Nat) (ns:List Int),a.eval x=.slice (En ad) len cap->ns.length=len->(∀j v,(ns.map (Value.int .u8))[j]?=En v->w.cell? (ad.add j)=En v)->l=ns.map (fun n=>Ow n.toNat)->Val P C a o w (.str l):=by
  intro ad len cap ns hq hl hc IZ;have pE:=run_loadCells_list (P:=P) w ad (ns.map (Value.int .u8)) hc;rw[Xl,hl]at pE;have bJ:=run_bytesToString (P:=P) w ad len cap ns pE;have hf:=q0j ns [];refine⟨.string ⟨⟨l⟩⟩,?_,.str _⟩;rw[show ByteArray.empty=ByteArray.mk ⟨[]⟩from rfl,hf,Od,<-IZ]at bJ;simp[execOp,ho,hq,convert,run_underlying G,run_underlying hd,run_underlying hu,bJ]
 rcases(qu he Y e1).cU with⟨rfl,rfl,hq⟩|⟨rfl,r,q,cap,hq,_,de⟩|⟨rfl,rfl,ad,lJ,hq⟩
 .cases hb;refine⟨.string ⟨⟨[]⟩⟩,?_,.str _⟩;simp[execOp,ho,hq,convert,run_underlying G,run_underlying hd,run_underlying hu,Conv.bytesToString];rfl
 .obtain⟨ns,k1,k2,k3⟩:=q4z de hb;exact key _ _ _ ns hq k1 (fun j v hj=>by rw[add_lit];exact m.know _ _ _ (k2 j v hj)) k3
 .cases hb;exact key ad 0 0 [] hq rfl (by simp) rfl
include m e in
theorem jmy {s t:TypeId}{x}(ho:o.op=.convert s t x)(hc:cW P h md r dst (.convert s t x)=En cP)(G:qf p xc h0 al env hp cP=En res):yj P C C0 w0 a d env o w res:=by
 simp only[cW]at hc;split at hc
 .rename_i k0 k u1 u2;obtain⟨y,hy,rfl⟩:=Ha.1 hc;simp only[qf,qm]at G;split at G
  .rename_i k1 n hv;obtain rfl:=qy G;exact jm m e (jpv e.cy ho u1 u2 hy hv)
  .cases G
 .rename_i u1 u2;obtain⟨y,hy,rfl⟩:=Ha.1 hc;simp only[qf,qm]at G;split at G
  .rename_i l hv;obtain rfl:=qy G;exact jm m e (jb3 e.cy ho u1 u2 hy hv ⟨_,rfl⟩)
  .rename_i k1 n hv;obtain rfl:=qy G;exact jm m e (jau e.cy ho u1 u2 hy hv)
  .cases G
 .rename_i k0 u1 u2;obtain⟨y,hy,rfl⟩:=Ha.1 hc;simp only[qf,qm]at G;split at G
  .rename_i l hv;obtain rfl:=qy G;exact jm m e (q89 e.cy ho u1 u2 hy hv ⟨_,rfl⟩)
  .rename_i k1 n hv;obtain rfl:=qy G;exact jm m e (jbx e.cy ho u1 u2 hy hv)
  .cases G
 .rename_i e0 u1 u2;split at hc
  .rename_i u3;obtain⟨y,hy,rfl⟩:=Ha.1 hc;simp only[qf,qm]at G;split at G
   .rename_i nn xs hv;split at G
    .rename_i l hl;obtain rfl:=qy G;exact jm m e (jkx m e.cy ho u1 u3 u2 hy hv hl)
    .cases G
   .cases G
  .cases hc
 .cases hc
theorem jdg {ag n y}(G:qm env hp (.fb ag n y)=En res):yo h0 al env hp (.load ag n y)=En res:=by
 simp only[qm]at G;simp only[yo];split at G
 .rename_i v hv;rw[hv];exact G
 .cases G
theorem q5h {g}:∀ {l:List (String×List Int)} {cs:List Int},H9 P g l=En cs->∃n,(n,cs)∈l/\P.globalNamed n=En g
 | [],_,h=>by simp[H9]at h
 |(n,ds)::l,cs,h=>by
  simp only[H9]at h;split at h
  .rename_i hn;cases h;exact⟨n,Ead ..,by simpa using hn⟩
  .obtain⟨n',Y,I⟩:=q5h h;exact⟨n',Xm _ Y,I⟩
theorem ji7 {ns:List Int}:bq C (ns.map (AVal.int .i64)) (ns.map (Value.int .i64)):=by
 induction ns with
 |nil=>exact .nil|cons n ns ih=>exact .cons _ _ _ _ (.int _ _) ih
section
include m e
theorem jix {t:TypeId}{g}(ho:o.op=.load t (.global g))(hc:cW P h md r dst (.load t (.global g))=En cP)(G:qf p xc h0 al env hp cP=En res):yj P C C0 w0 a d env o w res:=by
 have hc:NL P t g=En cP:=hc;unfold NL at hc;split at hc
 .rename_i cs n hf hg hn;split at hc
  .rename_i hl;cases hc
   have hl:cs.length=n:=by simpa using hl
   simp only[qf,qm,qi]at G;obtain⟨u,hu,rfl⟩:=vt G;cases hu;obtain⟨nm,du,hnm⟩:=q5h hf;have ht:=(m.tabs g (.inr (.inr ⟨_,du,hnm⟩))).2.2.2 _ du hnm
   have eo:∀j v,(cs.map (Value.int .i64))[j]?=En v->w.cell? ⟨g,0+j,Ga⟩=En v:=by
    intro j v hj;rw[Ld,Ha]at hj;obtain⟨i,hi,rfl⟩:=hj;rw[Vp];exact ht j i hi
   have pE:=IB (P:=P) (w:=w) hg hn (vs:=cs.map (Value.int .i64)) (by simpa using hl) eo;refine jm m e ⟨.agg ⟨cs.map (Value.int .i64)⟩,?_,.agg _ _ ji7⟩;have eO:a.eval (.global g)=.pointer (En ⟨g,0,Ga⟩):=rfl;simp[execOp,ho,Instr.loadAt,eO,Instr.sureAddr,pE]
  .cases hc
 .cases hc
theorem jp9 {t:TypeId}{x}(ho:o.op=.load t x)(hc:cW P h md r dst (.load t x)=En cP)(G:qf p xc h0 al env hp cP=En res):yj P C C0 w0 a d env o w res:=by
 have key:∀ {ag:Bool} {n:Nat} {y:jw},yu P t=En ag->jt P t=En n->(ag=Gb->n=1)->qr x=En y->yo h0 al env hp (.load ag n y)=En res->yj P C C0 w0 a d env o w res:=by
  intro ag n y hg hn IE hy G;simp only[yo]at G;split at G
  .rename_i b q hv
   cases hk:ze h0 al b with
   |false=>simp[hk]at G
   |true=>
    simp only[hk,cond_true]at G;split at G
    .rename_i cs hcs;split at G
     .rename_i us iD
      cases ag with
      |true=>
       simp only[cond_true]at G;obtain rfl:=qy G;exact jm m e (Uz m e.cy ho hg hn IE hy hv (.inl ⟨b,q,cs,us,rfl,hcs,iD,.inl ⟨rfl,rfl⟩⟩))
      |false=>
       simp only[cond_false]at G;split at G
       .obtain rfl:=qy G;exact jm m e (Uz m e.cy ho hg hn IE hy hv (.inl ⟨b,q,cs,_,rfl,hcs,iD,.inr ⟨rfl,rfl⟩⟩))
       .cases G
     .cases G
    .cases G
  .rename_i z hv
   cases hk:(St ag z.isAgg||!(Hb z.flat.length n))with
   |true=>simp[hk]at G
   |false=>
    simp only[hk,cond_false]at G;obtain rfl:=qy G;simp only[Bool.or_eq_false_iff,Bool.not_eq_false']at hk;exact jm m e (Uz m e.cy ho hg hn IE hy hv (.inr ⟨rfl,hk.1,Hq hk.2⟩))
  .rename_i b bS q hv
   cases hk:sO h0 al b with
   |false=>simp[hk]at G
   |true=>
    simp only[hk,cond_true]at G;split at G
    .rename_i sz dO xs ie
     cases dB:(Hb bS dO&&H2 (q+n) (xs.flatMap AVal.flat).length)with
     |false=>rw[dB]at G;cases G
     |true=>
      rw[dB]at G;simp only[cond_true]at G;simp only[Ji]at dB;obtain rfl:=Hq dB.1;have hl:=Jg dB.2
      cases ag with
      |true=>
       simp only[cond_true]at G;obtain rfl:=qy G;exact jm m e (q4q m e.cy ho hg hn hy hv ie hl (.inl ⟨rfl,rfl⟩))
      |false=>
       simp only[cond_false]at G;split at G
       .rename_i z hz;obtain rfl:=qy G;exact jm m e (q4q m e.cy ho hg hn hy hv ie hl (.inr ⟨rfl,hz⟩))
       .cases G
    .cases G
  .cases G
 by_cases M:∃g,x=.global g
 .obtain⟨g,rfl⟩:=M;exact jix m e ho hc G
 have hc:(match yu P t,jt P t,qr x with
  |some Gb,En 1,En x=>if(dst.map (h.takes.contains ·)).getD Gb then En (cI.cz ((dst.bind fun d=>h.wR.find? fun y=>y.1 == d).map (·.2)) x)else En (bif (dst.map (h.vl.contains ·)).getD Gb then .fb Gb 1 x else .load Gb 1 x)
  |some Gd,En n,En x=>En (bif (dst.map (h.vl.contains ·)).getD Gb then .fb Gd n x else .load Gd n x)
  |_,_,_=>Ga)=En cP:=by
  cases x with
  |global g=>exact absurd ⟨g,rfl⟩ M|_=>exact hc
 split at hc
 .rename_i y hg hn hy;split at hc
  .cases hc;simp only[qf,qo]at G;split at G
   .rename_i b q hv;generalize (ze h0 al b&&vg _ q)=kk at G
    cases kk with
    |false=>simp at G
    |true=>
     simp only[cond_true]at G;split at G
     .rename_i cs hcs;split at G
      .rename_i v ow hq;split at G
       .rename_i h' bO;cases G;exact .inl (q82 m e ho hg hy hv hcs hq bO)
       .cases G
      .cases G
     .cases G
   .cases G
  .cases hc;generalize (dst.map (h.vl.contains ·)).getD Gb=bb at G
   cases bb with
   |false=>exact key hg hn (fun _=>rfl) hy G|true=>exact key hg hn (fun _=>rfl) hy (jdg G)
 .rename_i n y hg hn hy;cases hc;generalize (dst.map (h.vl.contains ·)).getD Gb=bb at G
  cases bb with
  |false=>exact key hg hn (by simp) hy G|true=>exact key hg hn (by simp) hy (jdg G)
 .cases hc
theorem jik {t:TypeId}{x y}(ho:o.op=.store t x y)(oH:cP.iK=Ga)(hc:cW P h md r dst (.store t x y)=En cP)(G:qf p xc h0 al env hp cP=En res):yj P C C0 w0 a d env o w res:=by
 simp only[cW]at hc;split at hc
 .rename_i n x' y' hn Y I
  cases nj:NM h x' with
  |some s=>rw[nj]at hc;simp only[En.injEq]at hc;subst hc;simp[cI.iK]at oH
  |none=>
  rw[nj]at hc;simp only[En.injEq]at hc;subst hc;simp only[qf,qo]at G;split at G
  .rename_i b q v e1 e2
   cases hk:ze h0 al b with
   |false=>simp[hk]at G
   |true=>
    simp only[hk,cond_true]at G;split at G
    .rename_i cs hcs;split at G
     .rename_i s df
      cases hb:(Hb n 1&&v.cT&&I7 q cs.length)with
      |false=>simp[hb]at G
      |true=>
       simp only[hb,cond_true]at G;simp only[Ji]at hb;obtain⟨⟨mJ,nU⟩,I0⟩:=hb;obtain rfl:=Hq mJ;split at G
       .rename_i h' bO;cases G;exact .inr (.inl (q8b m e ho hn Y I e1 e2 hcs nU (Eal.mp I0) df bO))
       .cases G
     .cases hb:Hb v.flat.length n with
      |false=>simp[hb]at G
      |true=>
       simp only[hb,cond_true]at G;split at G
       .rename_i eK cw;split at G
        .rename_i h' bO;obtain rfl:=qy G;exact .inr (.inl (jja m e ho hn Y I e1 e2 hcs (Hq hb) cw bO))
        .cases G
       .cases G
    .cases G
  .cases G
 .cases hc
end
theorem jh1 {P}{t:TypeId}{e:TypeId}(h:T5 P t=En e):∃sz,yw P t=En [.bQ,.list Gd sz []]:=by
 unfold T5 at h;split at h
 .split at h
  .split at h
   .split at h
    .rename_i sz Y I;exact⟨_,I⟩
    .cases h
   .cases h
  .cases h
 .cases h
section
include m e
theorem jjp {t:TypeId}(ho:o.op=.alloc t)(hc:cW P h md r dst (.alloc t)=En cP)(G:qf p xc h0 al env hp cP=En res):yj P C C0 w0 a d env o w res:=by
 simp only[cW]at hc;split at hc
 .rename_i e' he;cases hc;obtain⟨sz,hz⟩:=jh1 he;simp only[qf,qo]at G;split at G
  .rename_i h' hn;obtain rfl:=qy G;exact .inl (jup m e ho hz hn)
  .cases G
 generalize (dst.map (h.vl.contains ·)).getD Gb=bb at hc
 cases bb with
 |true=>
  simp only[cond_true]at hc;split at hc
  .rename_i z hz
   cases hb:z.all qk with
   |false=>rw[hb]at hc;cases hc
   |true=>
    rw[hb]at hc;simp only[cond_true,En.injEq]at hc;subst hc;simp only[qf,qm,En.injEq]at G;subst G;exact .inl (jfm m e ho hz)
  .cases hc
 |false=>
 simp only[cond_false]at hc;obtain⟨z,hz,rfl⟩:=Ha.1 hc;simp only[qf,qo]at G
 cases hb:z.all qk with
 |false=>simp[hb]at G
 |true=>
  simp only[hb,cond_true]at G;split at G
  .rename_i h' hn;obtain rfl:=qy G;exact .inl (jiu m e ho hz (by simpa using hb) hn)
  .cases G
theorem jt0 {t:TypeId}{x}(ho:o.op=.box t x)(hc:cW P h md r dst (.box t x)=En cP)(G:qf p xc h0 al env hp cP=En res):yj P C C0 w0 a d env o w res:=by
 simp only[cW]at hc;split at hc
 .rename_i n x' hn Y;cases hc;generalize (dst.map (h.vl.contains ·)).getD Gb=bb at G
  cases bb with
  |true=>
   simp only[cond_true,qf,qm]at G;split at G
   .rename_i v hv
    cases hb:(Hb v.flat.length n&&v.flat.all qk)with
    |false=>simp[hb]at G
    |true=>
     simp only[hb,cond_true]at G;simp only[Ji]at hb;obtain rfl:=qy G;exact .inl (jlb m e ho Y hv hb.2)
   .cases G
  |false=>
   simp only[cond_false]at G;simp only[qf,qo]at G;split at G
   .rename_i v hv
    cases hb:(Hb v.flat.length n&&v.flat.all qk)with
    |false=>simp[hb]at G
    |true=>
     simp only[hb,cond_true]at G;simp only[Ji]at hb;split at G
     .rename_i h' kH;obtain rfl:=qy G;exact .inl (juz m e ho Y hv hb.2 kH)
     .cases G
   .cases G
 .cases hc
theorem jbd {i x}(ho:o.op=.extract x i)(hc:cW P h md r dst (.extract x i)=En cP)(G:qf p xc h0 al env hp cP=En res):yj P C C0 w0 a d env o w res:=by
 simp only[cW]at hc;obtain⟨y,hy,rfl⟩:=Ha.1 hc;simp only[qf,qm]at G;split at G
 .rename_i vs hv;obtain⟨u,hu,rfl⟩:=vt G;exact jm m e (ja5 e.cy ho hy hv hu)
 .cases G
theorem jai {f xs ys}(ho:o.op=.makeFunc f xs ys)(hc:cW P h md r dst (.makeFunc f xs ys)=En cP)(G:qf p xc h0 al env hp cP=En res):yj P C C0 w0 a d env o w res:=by
 simp only[cW]at hc;split at hc
 .split at hc
  .rename_i k gv pC Y I;cases hc;simp only[qf,qm]at G;split at G
   .rename_i us vs e1 e2;obtain rfl:=qy G;exact jm m e (jfw e.cy ho Y I e1 e2)
   .cases G
  .cases hc
 .cases hc
theorem jbb {t:TypeId}{x}(ho:o.op=.makeMap t x)(hc:cW P h md r dst (.makeMap t x)=En cP)(G:qf p xc h0 al env hp cP=En res):yj P C C0 w0 a d env o w res:=by
 cases x with
 |some x=>simp[cW]at hc
 |none=>
  simp only[cW]at hc;split at hc
  .cases hc;simp only[qf,qo]at G;split at G
   .rename_i h' hn;obtain rfl:=qy G;exact .inl (jky m e ho hn)
   .cases G
  .cases hc
theorem jhz {t:TypeId}{x}(ho:o.op=.range t x)(hc:cW P h md r dst (.range t x)=En cP)(G:qf p xc h0 al env hp cP=En res):yj P C C0 w0 a d env o w res:=by
 simp only[cW]at hc;split at hc
 .rename_i ht;obtain⟨y,hy,rfl⟩:=Ha.1 hc;simp only[qf,qo]at G;split at G
  .rename_i s hv;split at G
   .rename_i h' hn;obtain rfl:=qy G;exact .inl (jgj m e ho ht hy hv hn)
   .cases G
  .cases G
 .cases hc
theorem jo6 {x b}(ho:o.op=.next x b)(hc:cW P h md r dst (.next x b)=En cP)(G:qf p xc h0 al env hp cP=En res):yj P C C0 w0 a d env o w res:=by
 cases b with
 |false=>simp[cW]at hc
 |true=>
  simp only[cW]at hc;obtain⟨y,hy,rfl⟩:=Ha.1 hc;simp only[qf,qo]at G;split at G
  .rename_i b hv
   cases hk:ze h0 al b with
   |false=>simp[hk]at G
   |true=>
    simp only[hk,cond_true]at G;split at G
    .rename_i s pos hb;obtain⟨k1,k2⟩:=jic (d:=d) m e ho hy hv hb
     cases hp:I7 pos s.length with
     |true=>
      simp only[hp,cond_true]at G;split at G
      .rename_i h' bO;obtain rfl:=qy G;exact .inl (k1 (Eal.mp hp) h' bO)
      .cases G
     |false=>
      simp only[hp,cond_false]at G;obtain rfl:=qy G;exact .inl (k2 (fun h=>by rw[Eal.mpr h]at hp;cases hp))
    .cases G
  .cases G
theorem jgz {t:TypeId}{x y ok}(ho:o.op=.lookup t x y ok)(hc:cW P h md r dst (.lookup t x y ok)=En cP)(G:qf p xc h0 al env hp cP=En res):yj P C C0 w0 a d env o w res:=by
 simp only[cW]at hc;split at hc
 .rename_i kt el ht;split at hc
  .rename_i kd z x' y' jH hz Y I;cases hc;simp only[qf,yo]at G;split at G
   .rename_i b kv e1 e2
    cases hk:ze h0 al b with
    |false=>simp[hk]at G
    |true=>
     simp only[hk,cond_true]at G;split at G
     .rename_i es hb;split at G
      .rename_i i v hf;obtain rfl:=qy G;exact jm m e (US m e ho ht jH hz Y I e1 e2 (.inr ⟨b,es,rfl,hb,hf⟩))
      .rename_i hf;obtain rfl:=qy G;exact jm m e (US m e ho ht jH hz Y I e1 e2 (.inr ⟨b,es,rfl,hb,hf⟩))
      .cases G
     .cases G
   .rename_i kv e1 e2;obtain rfl:=qy G;exact jm m e (US m e ho ht jH hz Y I e1 e2 (.inl ⟨rfl,rfl⟩))
   .cases G
  .cases hc
 .cases hc
theorem qse {t:TypeId}{x y z}(ho:o.op=.mapUpdate t x y z\/o.op=.insert t x y z)(hc:cW P h md r dst (.mapUpdate t x y z)=En cP)(G:qf p xc h0 al env hp cP=En res):yj P C C0 w0 a d env o w res:=by
 simp only[cW]at hc;split at hc
 .rename_i kt el ht;split at hc
  .rename_i kd x' y' z' jH Y I h3;cases hc;simp only[qf,qo]at G;split at G
   .rename_i b kv v e1 e2 e3
    cases hk:ze h0 al b with
    |false=>simp[hk]at G
    |true=>
     simp only[hk,cond_true]at G;split at G
     .rename_i es hb;split at G
      .rename_i i u hf;split at G
       .rename_i h' bO;obtain rfl:=qy G;exact .inr (.inl (qr8 m e ho ht jH Y I h3 e1 e2 e3 hb (.inl ⟨i,u,hf,bO⟩)))
       .cases G
      .rename_i hf
       cases hl:H2 es.length 1073741824 with
       |false=>simp[hl]at G
       |true=>
        simp only[hl,cond_true]at G;split at G
        .rename_i h' bO;obtain rfl:=qy G;exact .inr (.inl (qr8 m e ho ht jH Y I h3 e1 e2 e3 hb (.inr ⟨hf,bO⟩)))
        .cases G
      .cases G
     .cases G
   .cases G
  .cases hc
 .cases hc
end
end
section
variable {P:Program}{p:j8}{xc:XC}{C C0:aV}{ω:Nat->Option Loc}{w w0:World}{hp:qh}{env:Env}{a:Act}{o:Oper}{d:Loc}{h:js}{md:eT}{r h0:Nat}{dst:Option Nat}{al:ak Nat}{cP:cI}{res:bA}
variable (m:aA P C ω w0 C0 hp w)(e:ar C ω w w0.heap.size env a.tmps)
theorem vu (w:World){d}{t:TypeId}{x y b}{u:TypeDesc}(h:(∃e,u=.slice e/\y=.slice Ga 0 0/\∃q l c,x=.slice q l c/\b=q.isNone)\/(∃e,u=.pointer e/\y=.pointer Ga/\∃q,x=.pointer q/\b=q.isNone) \/
  (∃k e,u=.map k e/\y=.map Ga/\∃q,x=.map q/\b=q.isNone)\/(∃k e v,u=.func k e v/\y=.nilFunc/\((x=.nilFunc/\b=Gd)\/∃f i j,x=.func f i j/\b=Gb))) (ht:P.underlying t=En u):
  (Op.equalIn (d+1) t x y).run P w=.ok b w:=by
 rcases h with⟨e,rfl,rfl,q,l,c,rfl,rfl⟩|⟨e,rfl,rfl,q,rfl,rfl⟩|⟨k,e,rfl,rfl,q,rfl,rfl⟩|⟨k,e,v,rfl,rfl,⟨rfl,rfl⟩|⟨f,i,j,rfl,rfl⟩⟩
 .cases q<;>simp[Op.equalIn,run_underlying ht]
 .cases q<;>simp[Op.equalIn,run_underlying ht]
 .cases q<;>simp[Op.equalIn,run_underlying ht]
 .simp[Op.equalIn,run_underlying ht]
 .simp[Op.equalIn,run_underlying ht]
section
include m e
theorem vw {op}{t u:TypeId}{x y neq b c}(ho:o.op=.binOp op t x y u)(hop:op=if neq then .neq else .eql)(hy:a.eval y=c)
  (bN:(∀k n,a.eval x≠.int k n)/\(∀s,a.eval x≠.string s)/\(∀k n,a.eval x≠.float k n)/\(∀k n m,a.eval x≠.complex k n m)) (dp:∀cs,a.eval x≠.agg cs) (Up:a.eval x≠.nilIface)
  (hq:(Op.equal t (a.eval x) c).run P w=.ok b w) {z} (hz:z=bif neq then !b else b):yj P C C0 w0 a d env o w ⟨.bool z,Gb,Ga,hp⟩:=by
 subst hz;exact jm m e (jib ho hop hy bN dp Up hq)
theorem Oa {op}{t u:TypeId}{x y y' neq k c}(ho:o.op=.binOp op t x y u)(hop:op=if neq then .neq else .eql)(M:qr x=En y')(hy:y=.const c)
  (hk:(k=0/\(∃el,P.underlying t=En (.slice el))/\c=.slice Ga 0 0)\/(k=1/\(∃el,P.underlying t=En (.pointer el))/\c=.pointer Ga)\/(k=2/\(∃k v,P.underlying t=En (.map k v))/\c=.map Ga)\/(k=3/\(∃a b c,P.underlying t=En (.func a b c))/\c=.nilFunc))
  (G:qf p xc h0 al env hp (.fP k neq y')=En res):yj P C C0 w0 a d env o w res:=by
 have rV:a.eval y=c:=by subst hy;simp[Act.eval]
 rcases hk with⟨rfl,⟨el,ht⟩,rfl⟩|⟨rfl,⟨el,ht⟩,rfl⟩|⟨rfl,⟨k,el,ht⟩,rfl⟩|⟨rfl,⟨k,el,q,ht⟩,rfl⟩
 .simp only[qf,qm]at G
  split at G<;>first|(exfalso;omega)|skip
  .rename_i n sz xs _ hv;obtain rfl:=qy G;rcases(qu e.cy M hv).cU with⟨rfl,rfl,Y⟩|⟨Y,r,q,cap,I,_⟩|⟨Y,_,ad,_,I⟩
   .exact vw m e ho hop rV (by simp[Y]) (by simp[Y]) (by simp[Y]) (b:=true) (by rw[Y];exact vu w (d:=9999) (by simp) ht) (by cases neq<;>rfl)
   all_goals
    subst Y;exact vw m e ho hop rV (by simp[I]) (by simp[I]) (by simp[I]) (b:=false) (by rw[I];exact vu w (d:=9999) (by simp) ht) (by cases neq<;>rfl)
  .rename_i b q n _ hv;obtain rfl:=qy G;have Q:=qu e.cy M hv;generalize I:a.eval x=ev at Q
   cases Q with
   |ms b o len r cap hb hl=>
    exact vw m e ho hop rV (by simp[I]) (by simp[I]) (by simp[I]) (b:=false) (by rw[I];exact vu w (d:=9999) (by simp) ht) (by cases neq<;>rfl)
  .cases G
 .simp only[qf,qm]at G
  split at G<;>first|(exfalso;omega)|skip
  .rename_i _ hv;obtain rfl:=qy G;have Q:=qu e.cy M hv;generalize I:a.eval x=ev at Q;cases Q;exact vw m e ho hop rV (by simp[I]) (by simp[I]) (by simp[I]) (b:=true) (by rw[I];exact vu w (d:=9999) (by simp) ht) (by cases neq<;>rfl)
  .rename_i _ hv;obtain rfl:=qy G;obtain⟨r,Q,I⟩:=(qu e.cy M hv).dy;exact vw m e ho hop rV (by simp[I]) (by simp[I]) (by simp[I]) (b:=false) (by rw[I];exact vu w (d:=9999) (by simp) ht) (by cases neq<;>rfl)
  .rename_i _ hv;obtain rfl:=qy G;obtain⟨r,q,I,_⟩:=(qu e.cy M hv).fh;exact vw m e ho hop rV (by simp[I]) (by simp[I]) (by simp[I]) (b:=false) (by rw[I];exact vu w (d:=9999) (by simp) ht) (by cases neq<;>rfl)
  .cases G
 .simp only[qf,qm]at G
  split at G<;>first|(exfalso;omega)|skip
  .rename_i _ hv;obtain rfl:=qy G;have Q:=qu e.cy M hv;generalize I:a.eval x=ev at Q;cases Q;exact vw m e ho hop rV (by simp[I]) (by simp[I]) (by simp[I]) (b:=true) (by rw[I];exact vu w (d:=9999) (by simp) ht) (by cases neq<;>rfl)
  .rename_i _ hv;obtain rfl:=qy G;have Q:=qu e.cy M hv;generalize I:a.eval x=ev at Q;cases Q;exact vw m e ho hop rV (by simp[I]) (by simp[I]) (by simp[I]) (b:=false) (by rw[I];exact vu w (d:=9999) (by simp) ht) (by cases neq<;>rfl)
  .cases G
 .simp only[qf,qm]at G
  split at G<;>first|(exfalso;omega)|skip
  .rename_i _ hv;obtain rfl:=qy G;have Q:=qu e.cy M hv;generalize I:a.eval x=ev at Q;cases Q;exact vw m e ho hop rV (by simp[I]) (by simp[I]) (by simp[I]) (b:=true) (by rw[I];exact vu w (d:=9999) (by simp) ht) (by cases neq<;>rfl)
  .rename_i _ hv;obtain rfl:=qy G;have Q:=qu e.cy M hv;generalize I:a.eval x=ev at Q;cases Q;exact vw m e ho hop rV (by simp[I]) (by simp[I]) (by simp[I]) (b:=false) (by rw[I];exact vu w (d:=9999) (by simp) ht) (by cases neq<;>rfl)
  .cases G
theorem UW {op}{t u:TypeId}{x y x' y'}(ho:o.op=.binOp op t x y u)(Y:qr x=En x')(I:qr y=En y')(G:qf p xc h0 al env hp (.bin op x' y')=En res):yj P C C0 w0 a d env o w res:=by
 simp only[qf,qm]at G;split at G
 .rename_i u v e1 e2;obtain⟨z,hz,rfl⟩:=vt G;exact jm m e (jsr e.cy ho Y I e1 e2 hz)
 .cases G
theorem q0c {op}{t u:TypeId}{x y neq}(ho:o.op=.binOp op t x y u)(hop:op=if neq then .neq else .eql)(hc:FG P op neq t x y=En cP)(G:qf p xc h0 al env hp cP=En res):yj P C C0 w0 a d env o w res:=by
 have eg:FG P op neq t x y=En cP:=hc;unfold FG at eg
 have eqs:∀ {ks:List Kd} {x' y':jw},yu P t=En Gd->P.eqGuardType P.depth t=Gb->sR P NK t=En ks->qr x=En x'->qr y=En y'->qf p xc h0 al env hp (.eqs ks neq x' y')=En res->yj P C C0 w0 a d env o w res:=by
  intro ks x' y' dp hg hk Y I G;simp only[qf,qm]at G;split at G
  .rename_i u v e1 e2
   cases hb:(Hb u.length ks.length&&Hb v.length ks.length)with
   |false=>simp[hb]at G
   |true=>
    simp only[hb,cond_true]at G;simp only[Ji]at hb;split at G
    .rename_i b hq;obtain rfl:=qy G;exact jm m e (jtv e.cy ho hop Y I e1 e2 hg hk dp (Hq hb.1) (Hq hb.2) hq)
    .cases G
  .cases G
 split at eg
 .split at eg
  .rename_i Y I;cases eg;exact UW m e ho Y I G
  .cases eg
 .split at eg
  .rename_i Y I;cases eg;exact UW m e ho Y I G
  .cases eg
 .rename_i ht;split at eg
  .rename_i Y I;cases eg;simp only[qf,qm]at G;split at G
   .rename_i u v e1 e2;obtain rfl:=qy G;exact jm m e (jvp e.cy ho hop Y I e1 e2 ht)
   .cases G
  .cases eg
 .rename_i fs ht;split at eg
  .rename_i hg;split at eg
   .rename_i ks x' y' hk Y I;cases eg;exact eqs (by simp[yu,ht]) (by simpa using hg) hk Y I G
   .cases eg
  .cases eg
 .rename_i fs _ ht;split at eg
  .rename_i hg;split at eg
   .rename_i ks x' y' hk Y I;cases eg;exact eqs (by simp[yu,ht]) (by simpa using hg) hk Y I G
   .cases eg
  .cases eg
 .rename_i el ht;split at eg
  .obtain⟨x',M,rfl⟩:=Ha.1 eg;exact Oa m e ho hop M rfl (.inl ⟨rfl,⟨el,ht⟩,rfl⟩) G
  .cases eg
 .rename_i el ht;split at eg
  .obtain⟨x',M,rfl⟩:=Ha.1 eg;exact Oa m e ho hop M rfl (.inr (.inl ⟨rfl,⟨el,ht⟩,rfl⟩)) G
  .cases eg
 .rename_i el _ ht;split at eg
  .obtain⟨x',M,rfl⟩:=Ha.1 eg;exact Oa m e ho hop M rfl (.inr (.inr (.inl ⟨rfl,⟨_,_,ht⟩,rfl⟩))) G
  .cases eg
 .rename_i el _ _ ht;split at eg
  .obtain⟨x',M,rfl⟩:=Ha.1 eg;exact Oa m e ho hop M rfl (.inr (.inr (.inr ⟨rfl,⟨_,_,_,ht⟩,rfl⟩))) G
  .cases eg
 .cases eg
theorem jtp {op}{t u:TypeId}{x y}(ho:o.op=.binOp op t x y u)(hc:cW P h md r dst (.binOp op t x y u)=En cP)(G:qf p xc h0 al env hp cP=En res):yj P C C0 w0 a d env o w res:=by
 simp only[cW]at hc;unfold T7 at hc;split at hc
 .exact q0c (neq:=false) m e ho rfl hc G
 .exact q0c (neq:=true) m e ho rfl hc G
 .split at hc
  .rename_i Y I;cases hc;exact UW m e ho Y I G
  .cases hc
end
end
end Go.Abs
