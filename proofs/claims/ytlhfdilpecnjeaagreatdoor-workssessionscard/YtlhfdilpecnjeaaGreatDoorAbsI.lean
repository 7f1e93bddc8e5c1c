/- Equations of the executor for runs on values that are not known. -/
import Derived.Test.YtlhfdilpecnjeaaGreatDoorAbsE
set_option linter.all false
open Option renaming some->En,none->Ga
open Bool renaming false->Gb,true->Ha
open Nat renaming ble_eq_true_of_le->Gd,eq_of_beq_eq_true->Hb,beq->Hc,blt_eq->Hq
namespace Go.Abs
section
variable {p:j8}{xc:XC}{h0:Nat}{al:ak Nat}{e:Env}{h:qh}
def JQ (r:Option (q9×bg))(f:bg->Option (q9×bg)):Option (q9×bg):=match r with
 |some (.normal,st)=>f st|r=>r
theorem jy8 {st f}:JQ (En (.normal,st)) f=f st:=rfl
theorem zat {st f}:JQ (En (.ret,st)) f=En (.ret,st):=rfl
theorem j9o {id st f}:JQ (En (.exit id,st)) f=En (.exit id,st):=rfl
theorem zmp {a b st}:X p (.seq a b) st=JQ (X p a st) (X p b):=by
 rw[jrf];unfold JQ
 cases X p a st with
 |none=>rfl|some r=>obtain⟨x,s⟩:=r;cases x<;>rfl
def OM (c:Option AVal)(f g:bg->Option (q9×bg))(st:bg):Option (q9×bg):=match c with
 |some (.bool Ha)=>f st|some (.bool Gb)=>g st|_=>Ga
theorem zak {f g st}:OM (En (.bool Ha)) f g st=f st:=rfl
theorem j4n {f g st}:OM (En (.bool Gb)) f g st=g st:=rfl
theorem zls {c a b st}:X p (.cond c a b) st=OM (qi st.env c) (X p a) (X p b) st:=by
 rw[jk5];unfold OM
 cases qi st.env c with
 |none=>rfl
 |some v=>cases v with
  |bool t=>cases t<;>rfl|_=>rfl
def JR (id:Nat)(r:Option (q9×bg)):Option (q9×bg):=match r with
 |some (.exit fU,bH)=>if fU=id then En (.normal,bH)else En (.exit fU,bH)
 |r=>r
theorem j33 {id fU st}:JR id (En (.exit fU,st))=if fU=id then En (.normal,st)else En (.exit fU,st):=rfl
theorem jwf {id st}:JR id (En (.normal,st))=En (.normal,st):=rfl
theorem j7b {id st}:JR id (En (.ret,st))=En (.ret,st):=rfl
theorem zh6 {id b st}:X p (.block id b) st=JR id (X p b st):=by
 rw[jdq];unfold JR
 cases X p b st with
 |none=>rfl
 |some r=>
  obtain⟨x,s⟩:=r
  cases x with
  |exit fU=>
   simp only[];by_cases hb:fU=id
   .subst hb;simp
   .rw[if_neg hb]
    cases hq:Hc fU id with
    |true=>exact absurd (Hb hq) hb|false=>rfl
  |_=>rfl
noncomputable def Gg (p:j8)(b:bn)(n:Nat)(r:Option (q9×bg)):Option (q9×bg):=match r with
 |some (.normal,bH)=>X p (.loop b) (gc n bH)|r=>r
theorem VY {b st}:X p (.loop b) st=Gg p b st.heap.length (X p b st):=by
 rw[jkp];unfold Gg
 cases X p b st with
 |none=>rfl|some r=>obtain⟨x,s⟩:=r;cases x<;>rfl
theorem q8x {b n st}:Gg p b n (En (.normal,st))=X p (.loop b) (gc n st):=rfl
theorem zc0 {b n st}:Gg p b n (En (.ret,st))=En (.ret,st):=rfl
theorem j9k {b n id st}:Gg p b n (En (.exit id,st))=En (.exit id,st):=rfl
attribute [go_sem] jy8 zat j9o zmp zak j4n zls j33 jwf j7b zh6 q8x zc0 j9k
attribute [go_sem] jiy jjo jrk q7m OJ jjn
theorem zmi {env}:gc 0 ⟨env,[]⟩=⟨env,[]⟩:=rfl
theorem yg {n st}(hn:st.heap.length<=n):gc n st=st:=by
 unfold gc;rw[Gd hn];rfl
def VZ (k:ak Nat)(r:Option bg):Option (q9×bg):=match r with
 |some bH=>En (.normal,AU bH k)|none=>Ga
theorem zck {k st}:VZ k (En st)=En (.normal,AU st k):=rfl
theorem zet {na l k st}:mF p xc na l k st=VZ k (fT p xc st.heap.length l ⟨st.env,st.heap++List.replicate na .hole⟩):=by
 unfold mF VZ;rfl
def j05 (r:Option bg)(f:bg->Option bg):Option bg:=match r with
 |some st=>f st|none=>Ga
theorem zcj {st f}:j05 (En st) f=f st:=rfl
theorem zkm {st}:fT p xc h0 [] st=En st:=rfl
theorem zb3 {o l st}:fT p xc h0 (o::l) st=j05 (yi p xc h0 o st) (fT p xc h0 l):=rfl
def OO (d:Option Nat)(e:Env)(r:Option bA):Option bg:=match r with
 |some r=>En ⟨pw (ye e r.strip) d r.v r.own,r.heap⟩|none=>Ga
theorem zbf {d v o s}:OO d e (En ⟨v,o,s,h⟩)=En ⟨pw (ye e s) d v o,h⟩:=rfl
theorem jv4 {d op env}:yi p xc h0 ⟨d,op,Ga,al⟩ ⟨env,h⟩=OO d env (qf p xc h0 al env h op):=rfl
def OP (g:Option Bool)(d:Option Nat)(env:Env)(h:qh)(f:cI->Option bA)(op:cI):Option bg:=match g with
 |some Ha=>OO d env (f op)|some Gb=>En ⟨pw env d .undef Gb,h⟩|none=>Ga
theorem j3w {d env f op}:OP (En Ha) d env h f op=OO d env (f op):=rfl
theorem j0e {d env f op}:OP (En Gb) d env h f op=En ⟨pw env d .undef Gb,h⟩:=rfl
theorem jwd {d op g env}:yi p xc h0 ⟨d,op,En g,al⟩ ⟨env,h⟩=OP (oy env (En g)) d env h (qf p xc h0 al env h) op:=by
 unfold yi OP;simp only[];split
 .rename_i hg;rw[hg];rfl
 .rename_i hg;rw[hg]
 .rename_i hg;rw[hg]
def BF (b:Bool)(v:Option (AVal×Bool)):Option Bool:=match v with
 |some (.bool c,_)=>En (c == b)|some (.undef,_)=>En Gb|_=>Ga
theorem j28 {s b}:oy e (En (s,b))=BF b (jp s e):=by
 unfold oy BF;rfl
theorem j25 {b o}:BF b (En (.undef,o))=En Gb:=rfl
theorem za3 {s t x}:jp t ((s,x)::e)=if s=t then En x else jp t e:=by
 by_cases cw:s=t
 .subst cw;rw[if_pos rfl];simp[jp]
 .rw[if_neg cw]
  have:Hc s t=Gb:=by
   cases hb:Hc s t with
   |false=>rfl|true=>exact absurd (Hb hb) cw
  simp[jp,this]
theorem zi2 {t}:jp t []=Ga:=rfl
def j14 (x:Option (AVal×Bool)):Option AVal:=match x with
 |some x=>En x.1|none=>Ga
theorem zb9 {v o}:j14 (En (v,o))=En v:=rfl
theorem zbv {t}:qi e (.tmp t)=j14 (jp t e):=rfl
theorem j4j {v}:qi e (.const v)=En v:=rfl
def tG (x:Option AVal)(l:ak AVal):ak AVal:=match x,l with
 |some v,En vs=>En (v::vs)|_,_=>Ga
theorem j6w {v vs}:tG (En v) (En vs)=En (v::vs):=rfl
theorem za0:hH e []=En []:=rfl
theorem j8s {x l}:hH e (x::l)=tG (qi e x) (hH e l):=by
 simp only[hH,tG]
 cases qi e x with
 |none=>rfl|some v=>cases hH e l<;>rfl
theorem j34 {l}:AU ⟨e,h⟩ (En l)=⟨sM e l,h⟩:=rfl
theorem j4b:AU ⟨e,h⟩ Ga=⟨e,h⟩:=rfl
def OQ (t:Nat)(x:Option (AVal×Bool))(e:Env):Env:=match x with
 |some x=>(t,x)::e|none=>e
theorem j6i {t x}:OQ t (En x) e=(t,x)::e:=rfl
theorem zaf {t}:OQ t Ga e=e:=rfl
theorem j4t:sM e []=[]:=rfl
theorem jy6 {t l}:sM e (t::l)=OQ t (jp t e) (sM e l):=by
 simp only[sM,OQ];cases jp t e<;>rfl
theorem j3y {d v o}:pw e (En d) v o=(d,v,o)::e:=rfl
theorem j4u {v o}:pw e Ga v o=e:=rfl
theorem jwc:ye e Ga=e:=rfl
def V0 (s:Nat)(x:Option (AVal×Bool))(e:Env):Env:=match x with
 |some (v,_)=>(s,v,Gb)::e|none=>e
theorem j4f {s v o}:V0 s (En (v,o)) e=(s,v,Gb)::e:=rfl
theorem jv5 {s}:ye e (En s)=V0 s (jp s e) e:=by
 simp only[ye,V0];cases jp s e<;>rfl
theorem j8e {i}:qG i []=[]:=rfl
theorem j4m {i v vs}:qG i (v::vs)=(i,v,Gb)::qG (i+1) vs:=rfl
theorem zar {v}:hJ h (En v)=En ⟨v,Gb,Ga,h⟩:=rfl
theorem zmv {v}:val h v=En ⟨v,Gb,Ga,h⟩:=rfl
theorem zmn {x}:qf p xc h0 al e h (.move x)=hJ h (qi e x):=rfl
def V1 (s:Nat)(h:qh)(x:Option (AVal×Bool)):Option bA:=match x with
 |some (v,o)=>En ⟨v,o,En s,h⟩|none=>Ga
theorem j9r {s v o}:V1 s h (En (v,o))=En ⟨v,o,En s,h⟩:=rfl
theorem zmr {s}:qf p xc h0 al e h (.take s)=V1 s h (jp s e):=by
 simp only[qf,qm,V1];cases jp s e<;>rfl
def V2 (op:BinOp)(h:qh)(a b:Option AVal):Option bA:=match a,b with
 |some a,En b=>hJ h (yb op a b)|_,_=>Ga
theorem zbz {op a b}:V2 op h (En a) (En b)=hJ h (yb op a b):=rfl
theorem znf {op x y}:qf p xc h0 al e h (.bin op x y)=V2 op h (qi e x) (qi e y):=by
 simp only[qf,qm,V2];cases qi e x<;>cases qi e y<;>rfl
def V3 (h:qh)(c a b:Option AVal):Option bA:=match c,a,b with
 |some (.bool t),En x,En y=>val h (bif t then x else y)|_,_,_=>Ga
theorem j7f {t a b}:V3 h (En (.bool t)) (En a) (En b)=En ⟨bif t then a else b,Gb,Ga,h⟩:=rfl
theorem zms {c a b}:qf p xc h0 al e h (.pick c a b)=V3 h (qi e c) (qi e a) (qi e b):=by
 simp only[qf,qm,V3]
 cases qi e c with
 |none=>rfl|some v=>cases v<;>cases qi e a<;>cases qi e b<;>rfl
def vF (k:Nat)(h:qh)(x:Option AVal):Option bA:=match k,x with
 |1,En (.list _ _ xs)=>val h (.int .i64 xs.length)|1,En (.ms _ _ n)=>val h (.int .i64 n)|1,En (.az _ _ n)=>val h (.int .i64 n)|2,En (.list Ha _ _)=>val h (.int .i64 0)|0,En (.str s)=>val h (.int .i64 s.length)|_,_=>Ga
theorem zbn {b z xs}:vF 1 h (En (.list b z xs))=En ⟨.int .i64 xs.length,Gb,Ga,h⟩:=rfl
theorem zlm {b o n}:vF 1 h (En (.ms b o n))=En ⟨.int .i64 n,Gb,Ga,h⟩:=rfl
theorem zbj {b v n}:vF 1 h (En (.az b v n))=En ⟨.int .i64 n,Gb,Ga,h⟩:=rfl
theorem zi3 {s}:vF 0 h (En (.str s))=En ⟨.int .i64 s.length,Gb,Ga,h⟩:=rfl
theorem zjz {z xs}:vF 2 h (En (.list Ha z xs))=En ⟨.int .i64 0,Gb,Ga,h⟩:=rfl
theorem zng {k x}:qf p xc h0 al e h (.len k x)=vF k h (qi e x):=rfl
def vG (n:Nat)(i:Int):Option Nat:=if 0<=i/\i<n then En i.toNat else Ga
theorem zJ {n k i}:idx n (.int k i)=vG n i:=by
 unfold idx vG
 cases i with
 |ofNat m=>
  by_cases hm:m<n
  .rw[if_pos ⟨by simp,by simp;omega⟩];simp[Hq.mpr hm]
  .rw[if_neg (by simp;omega)]
   cases hb:Nat.blt m n with
   |true=>exact absurd (Hq.mp hb) hm|false=>simp[hb]
 |negSucc m=>simp
attribute [go_sem] zmi zck zet zcj zkm zb3 zbf jv4 j3w j0e jwd j28 j25 za3 zi2 zb9 zbv j4j j6w za0 j8s j34 j4b j6i zaf j4t jy6 j3y j4u jwc j4f jv5 j8e j4m zar zmv zmn j9r zmr zbz znf j7f zms zbn zlm zbj zi3 zjz zng
attribute [go_sem] zJ
theorem js4 {n:Nat}{i:Int}(Y:0<=i)(I:i<n):vG n i=En i.toNat:=by unfold vG;rw[if_pos ⟨Y,I⟩]
theorem V4 {n i}(h:i<n):vG n (i:Int)=En i:=by unfold vG;rw[if_pos ⟨by simp,by omega⟩];simp
def mM (sz:Nat)(h:qh)(x i:Option AVal):Option bA:=match x,i with
 |some (.list _ dm xs),En j=>bif Hc sz dm||xs.isEmpty then(match idx xs.length j with
   |some j=>(match xs[j]? with
    |some v=>val h (.aq v)
    |none=>Ga)
   |none=>Ga)else Ga
 |some (.ms b o len),En j=>(match idx len j with
   |some j=>val h (.ptr b (o+j*sz))
   |none=>Ga)
 |some (.az b bS len),En j=>(match idx len j with
   |some j=>val h (.dW b bS (j*sz))
   |none=>Ga)
 |_,_=>Ga
theorem j4z {sz x i}:qf p xc h0 al e h (.indexAddr sz x i)=mM sz h (qi e x) (qi e i):=by
 simp only[qf,qm,mM]
 cases qi e x with
 |none=>rfl|some v=>cases v<;>cases qi e i<;>rfl
theorem jjx {sz:Nat}{b:Bool}{k xs i v}(Y:0<=i)(hv:xs[i.toNat]?=En v):mM sz h (En (.list b sz xs)) (En (.int k i))=En ⟨.aq v,Gb,Ga,h⟩:=by
 have hl:=(List.getElem?_eq_some_iff.1 hv).1
 have hi:idx xs.length (.int k i)=En i.toNat:=by rw[zJ];exact js4 Y (by omega)
 simp only[mM,hi,Nat.beq_refl,Bool.true_or,cond_true,hv];rfl
theorem jmz {sz:Nat}{b:Bool}{k:IntKind}{xs:List AVal}{i:Nat}{v:AVal}(hv:xs[i]?=En v):mM sz h (En (.list b sz xs)) (En (.int k (i:Int)))=En ⟨.aq v,Gb,Ga,h⟩:=
 jjx (by simp) (by simpa using hv)
def iu (h0:Nat)(al:ak Nat)(agg:Bool)(n:Nat)(h:qh)(x:Option AVal):Option bA:=match x with
 |some (.ptr b o)=>bif ze h0 al b then(match qv h b with
   |some cs=>(match zm cs o n with
    |some vs=>bif agg then val h (.agg vs)else(match vs with
     | [v]=>val h v
     |_=>Ga)
    |none=>Ga)
   |none=>Ga)else Ga
 |some (.aq v)=>bif Bool.xor agg v.isAgg||!(Hc v.flat.length n)then Ga else val h v
 |some (.dW b bS o)=>bif sO h0 al b then(match zh h b with
   |some (.vec _ dO xs)=>bif Hc bS dO&&Nat.ble (o+n) (xs.flatMap AVal.flat).length then(bif agg then val h (.agg (((xs.flatMap AVal.flat).drop o).take n))else(match((xs.flatMap AVal.flat).drop o).take n with
     | [v]=>val h v
     |_=>Ga))else Ga
   |_=>Ga)else Ga
 |_=>Ga
theorem zl9 {agg n x}:qf p xc h0 al e h (.load agg n x)=iu h0 al agg n h (qi e x):=by
 simp only[qf,yo,iu]
 cases qi e x with
 |none=>rfl|some v=>cases v<;>rfl
def jrr:Option AVal->Option AVal
 |some (.aq v)=>En (.aq v)|_=>Ga
theorem zly {v}:jrr (En (.aq v))=En (.aq v):=rfl
theorem zlv {agg n x}:qf p xc h0 al e h (.fb agg n x)=iu h0 al agg n h (jrr (qi e x)):=by
 simp only[qf,qm,iu]
 cases qi e x with
 |none=>rfl|some v=>cases v<;>rfl
theorem zcy {k i}:iu h0 al Gb 1 h (En (.aq (.int k i)))=En ⟨.int k i,Gb,Ga,h⟩:=rfl
theorem zau {s}:iu h0 al Gb 1 h (En (.aq (.str s)))=En ⟨.str s,Gb,Ga,h⟩:=rfl
theorem j6b {b}:iu h0 al Gb 1 h (En (.aq (.bool b)))=En ⟨.bool b,Gb,Ga,h⟩:=rfl
theorem j60 {b z xs}:iu h0 al Gb 1 h (En (.aq (.list b z xs)))=En ⟨.list b z xs,Gb,Ga,h⟩:=rfl
theorem jkb {n cs}(hn:cs.length=n):iu h0 al Ha n h (En (.aq (.agg cs)))=En ⟨.agg cs,Gb,Ga,h⟩:=by
 subst hn;simp[iu,AVal.isAgg,AVal.flat,val]
theorem zm2 {k x y}:yb .add (.int k x) (.int k y)=En (.int k (qd k (x+y))):=by simp[yb,ox]
theorem zne {k x y}:yb .sub (.int k x) (.int k y)=En (.int k (qd k (x-y))):=by simp[yb,ox]
theorem zna {k x y}:yb .mul (.int k x) (.int k y)=En (.int k (qd k (x*y))):=by simp[yb,ox]
theorem zm3 {k x y}:yb .lss (.int k x) (.int k y)=En (.bool (decide (x<y))):=by simp[yb,ox]
theorem zm6 {k x y}:yb .leq (.int k x) (.int k y)=En (.bool (decide (x<=y))):=by simp[yb,ox]
theorem zm0 {k x y}:yb .gtr (.int k x) (.int k y)=En (.bool (decide (y<x))):=by simp[yb,ox]
theorem znb {k x y}:yb .geq (.int k x) (.int k y)=En (.bool (decide (y<=x))):=by simp[yb,ox]
theorem zm4 {k x y}:yb .eql (.int k x) (.int k y)=En (.bool (decide (x=y))):=by
 simp only[yb,ox,decide_true,cond_true];congr 2
theorem zm8 {k x y}:yb .neq (.int k x) (.int k y)=En (.bool (!decide (x=y))):=by
 simp only[yb,ox,decide_true,cond_true];congr 2
theorem OS {x}(Y:-9223372036854775808<=x)(I:x<=9223372036854775807):qd .i64 x=x:=by
 have:sN .i64 x=Ha:=by
  cases x with
  |ofNat m=>simp only[sN];exact Gd (by simp at I;omega)|negSucc m=>simp only[sN];exact Gd (by omega)
 simp[qd,this]
def jmp (h:qh)(b:Bool)(r:Option (AVal×Bool)):Option bA:=match b,r with
 |true,En (v,o)=>En ⟨v,o,Ga,h⟩|_,_=>Ga
theorem za2 {v o}:jmp h Ha (En (v,o))=En ⟨v,o,Ga,h⟩:=rfl
def V5 (n:Nat)(r:Option (AVal×Bool×qh)):Option bA:=match r with
 |some (v,o,h')=>En ⟨v,o,Ga,qz n v h'⟩|none=>Ga
theorem zc1 {n v o}:V5 n (En (v,o,h))=En ⟨v,o,Ga,qz n v h⟩:=rfl
def V6 (r:Option (AVal×qh)):Option bA:=match r with
 |some (v,h')=>En ⟨v,Gb,Ga,h'⟩|none=>Ga
theorem j40 {v}:V6 (En (v,h))=En ⟨v,Gb,Ga,h⟩:=rfl
def OT (h0 r:Nat)(h:qh)(b:Bool)(m:Option (List (AVal×AVal))):Option bA:=match b,m with
 |true,En es=>(match aQ h0 h r (.map es)with
  |some h'=>En ⟨.map (h0+r),Gb,Ga,h'⟩
  |none=>Ga)
 |_,_=>Ga
def JS (h0 r:Nat)(h:qh)(b b':Bool)(m:Option (List (AVal×AVal)))(c:Option (AVal×Bool)):Option bA:=match b with
 |true=>OT h0 r h Ha m
 |false=>(match b',c with
  |true,En (v,o)=>sQ h0 h r v o
  |_,_=>Ga)
theorem zhf {r b' m c}:JS h0 r h Ha b' m c=OT h0 r h Ha m:=rfl
theorem zcn {r m v o}:JS h0 r h Gb Ha m (En (v,o))=sQ h0 h r v o:=rfl
def j0u (p:j8)(xc:XC)(h:qh)(k:Nat):ak AVal->Option bA
 |some us=>bif qp 0 us then(match ae p xc k us with
  |some (v,o)=>(match NJ v o with
   |some (v',o')=>En ⟨v',o',Ga,h⟩
   |none=>Ga)
  |none=>Ga)else Ga
 |none=>Ga
def BG (p:j8)(xc:XC)(h0:Nat)(h:qh)(md:eT)(f:Option AVal)(l:ak AVal):Option bA:=match f,l with
 |some (.fn (.func k) a c),En vs=>(match md with
  | .cf=>jmp h (qp 0 (a++vs++c)) (ae p xc k (a++vs++c))| .fI r=>JS h0 r h (a++vs++c).isEmpty (qp 0 (a++vs++c)) (p.maps k) (ae p xc k (a++vs++c))| .red=>j0u p xc h k (yI h (a++vs++c))
  | .shr=>V5 h.length (ai p xc k (a++vs++c) h))
 |some (.fn (.yield b) [] []),En vs=>(match md with
  | .shr=>V6 (lG xc b vs h)
  |_=>Ga)
 |_,_=>Ga
theorem zmg {md f l}:qf p xc h0 al e h (.call md f l)=BG p xc h0 h md (qi e f) (hH e l):=by
 simp only[qf,yh,BG];split
 .rename_i k first captured vs Y I
  rw[Y,I]
  cases md with
  |cf=>
   simp only[]
   cases qp 0 (first++vs++captured)with
   |false=>cases ae p xc k (first++vs++captured)<;>rfl|true=>cases ae p xc k (first++vs++captured)<;>rfl
  |fI rk=>
   simp only[]
   cases (first++vs++captured).isEmpty with
   |false=>
    cases qp 0 (first++vs++captured)with
    |false=>cases ae p xc k (first++vs++captured)<;>rfl|true=>cases ae p xc k (first++vs++captured)<;>rfl
   |true=>
    cases p.maps k with
    |none=>rfl|some es=>simp only[cond_true,JS,OT];cases aQ h0 h rk (.map es)<;>rfl
  |red=>simp only[];cases yI h (first++vs++captured)<;>rfl|shr=>simp only[];cases ai p xc k (first++vs++captured) h<;>rfl
 .rename_i b vs Y I;rw[Y,I]
  cases md with
  |shr=>simp only[];cases lG xc b vs h<;>rfl|_=>rfl
 .rename_i Y I;split
  .rename_i k a c vs g1 g2;exact absurd g2 (fun g2=>Y k a c vs g1 g2)
  .rename_i b vs g1 g2;exact absurd g2 (fun g2=>I b vs g1 g2)
  .rfl
theorem zcp {k a c vs}:BG p xc h0 h .cf (En (.fn (.func k) a c)) (En vs)=jmp h (qp 0 (a++vs++c)) (ae p xc k (a++vs++c)):=rfl
theorem zci {k r a c vs}:BG p xc h0 h (.fI r) (En (.fn (.func k) a c)) (En vs)=JS h0 r h (a++vs++c).isEmpty (qp 0 (a++vs++c)) (p.maps k) (ae p xc k (a++vs++c)):=rfl
theorem zb2 {k a c vs}:BG p xc h0 h .red (En (.fn (.func k) a c)) (En vs)=j0u p xc h k (yI h (a++vs++c)):=rfl
theorem zao {k a c vs}:BG p xc h0 h .shr (En (.fn (.func k) a c)) (En vs)=V5 h.length (ai p xc k (a++vs++c) h):=rfl
theorem j32 {b vs}:BG p xc h0 h .shr (En (.fn (.yield b) [] [])) (En vs)=V6 (lG xc b vs h):=rfl
def Gh (rs:List ou)(r:Option (q9×bg)):Option (AVal×Bool×qh):=match r with
 |some (.normal,st)=>(match ko st rs with
   |some xs=>En ((zd xs).1,(zd xs).2,mE st rs)
   |none=>Ga)
 |some (.ret,st)=>(match ko st rs with
   |some xs=>En ((zd xs).1,(zd xs).2,mE st rs)
   |none=>Ga)
 |_=>Ga
def V7 (st:bg)(rs:List ou)(r:Option (List (AVal×Bool))):Option (AVal×Bool×qh):=match r with
 |some xs=>En ((zd xs).1,(zd xs).2,mE st rs)|none=>Ga
theorem j4v {rs st}:Gh rs (En (.normal,st))=V7 st rs (ko st rs):=rfl
theorem zhq {rs st}:Gh rs (En (.ret,st))=V7 st rs (ko st rs):=rfl
theorem zbq {st rs xs}:V7 st rs (En xs)=En ((zd xs).1,(zd xs).2,mE st rs):=rfl
theorem qg {k nt body rs args}(hf:p.br k=En ⟨nt,body,rs⟩)(hl:args.length<=nt):ai p xc k args h=Gh rs (xc body ⟨qG 0 args,h⟩):=by
 simp only[ai,hf,rQ,Gd hl,cond_true,Gh];rfl
def V8 (x:Option (AVal×Bool))(l:Option (List (AVal×Bool))):Option (List (AVal×Bool)):=match x,l with
 |some v,En vs=>En (v::vs)|_,_=>Ga
theorem j49 {v vs}:V8 (En v) (En vs)=En (v::vs):=rfl
theorem jwa {st}:ko st []=En []:=rfl
theorem jtr {st r rs}:ko st (r::rs)=V8 (vh st r) (ko st rs):=by
 simp only[ko,V8]
 cases vh st r with
 |none=>rfl|some v=>cases ko st rs<;>rfl
theorem jxy {t}:vh ⟨e,h⟩ (.tmp t)=jp t e:=rfl
theorem zf1 {x}:zd [x]=x:=rfl
theorem zjx {x y}:zd [x,y]=(.aI [x.1,y.1],Gb):=rfl
theorem j8i {x y z}:zd [x,y,z]=(.aI [x.1,y.1,z.1],Gb):=rfl
theorem za9:zd []=(.aI [],Gb):=rfl
theorem zbt {st t}:mE st [.tmp t]=st.heap:=rfl
theorem zb5 {st x y l}:mE st (x::y::l)=st.heap:=by
 cases x with
 |tmp t=>rfl|cell t a n=>cases a<;>rfl
theorem j9d {st}:mE st []=st.heap:=rfl
theorem zas {st t n}:mE st [.cell t Ha n]=st.heap:=rfl
theorem zit {o}:BF Ha (En (.bool Ha,o))=En Ha:=rfl
theorem zfc {o}:BF Ha (En (.bool Gb,o))=En Gb:=rfl
theorem zh1 {o}:BF Gb (En (.bool Ha,o))=En Gb:=rfl
theorem zde {o}:BF Gb (En (.bool Gb,o))=En Ha:=rfl
attribute [go_sem] j4z zl9 zly zlv zcy zau j6b j60 zm2 zne zna zm3 zm6 zm0 znb zm4 zm8 za2 zc1 j40 zhf zcn zmg zcp zci zb2 zao j32 j4v zhq zbq j49 jwa jtr jxy zf1 zjx j8i za9 zbt zb5 j9d zas zit zfc zh1 zde
attribute [go_sem] cond_true cond_false decide_true decide_false Bool.not_true Bool.not_false List.append_nil List.nil_append List.length_cons List.length_nil
theorem zm9:List.replicate 0 aM.hole=[]:=rfl
end
section
variable {p:j8}{xc:XC}{h0:Nat}{al:ak Nat}{e:Env}{h:qh}{α:Type}
def sl (z:Nat)(f:α->AVal):Option (List α)->AVal
 |none=>.list Ha 0 []|some l=>.list Gb z (l.map f)
theorem zml {z:Nat}{f:α->AVal}{l}:vF 1 h (En (sl z f l))=En ⟨.int .i64 (l.getD []).length,Gb,Ga,h⟩:=by
 cases l<;>simp[sl,vF,val]
theorem jzd {z:Nat}{f:α->AVal}{l:Option (List α)}{k:IntKind}{i:Nat}{x:α}(M:(l.getD [])[i]?=En x):mM z h (En (sl z f l)) (En (.int k (i:Int)))=En ⟨.aq (f x),Gb,Ga,h⟩:=by
 cases l with
 |none=>simp at M|some l=>exact jmz (by rw[List.getElem?_map,show l[i]?=En x from M];rfl)
theorem vH {n z:Nat}{f:α->AVal}{l}(hf:∀x,below n (f x)=Ha):below n (sl z f l)=Ha:=by
 have key:∀l:List α,qp n (l.map f)=Ha:=by
  intro l
  induction l with
  |nil=>rfl|cons x l ih=>simp[qp,hf,ih]
 cases l with
 |none=>rfl|some l=>simp only[sl,below];exact key l
def zf (n:Int):AVal:=.int .i64 n
theorem j8b {i}:iu h0 al Gb 1 h (En (.aq (zf i)))=En ⟨.int .i64 i,Gb,Ga,h⟩:=rfl
end
attribute [go_sem] zm9 zml j8b
end Go.Abs
