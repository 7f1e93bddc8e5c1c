/- Equations of the executor for runs on values that are not known. -/
import Derived.Test.YtoaianfagfampaaGreatDoorAbsE
set_option linter.all false
open Option renaming some->Eb,none->Eg
open Bool renaming false->Eh,true->Ep
open Nat renaming ble_eq_true_of_le->En,eq_of_beq_eq_true->E3,beq->E4,blt_eq->E8
namespace Go.Abs
section
variable {p:j8}{xc:XC}{h0:Nat}{al:ak Nat}{e:Env}{h:qi}
def IF (r:Option (jc×bj))(f:bj->Option (jc×bj)):Option (jc×bj):=match r with
 |some (.normal,st)=>f st|r=>r
theorem jv1 {st f}:IF (Eb (.normal,st)) f=f st:=rfl
theorem j20 {st f}:IF (Eb (.ret,st)) f=Eb (.ret,st):=rfl
theorem j0w {id st f}:IF (Eb (.exit id,st)) f=Eb (.exit id,st):=rfl
theorem zcm {a b st}:X p (.seq a b) st=IF (X p a st) (X p b):=by
 rw[jmk];unfold IF
 cases X p a st with
 |none=>rfl|some r=>obtain⟨x,s⟩:=r;cases x<;>rfl
def MJ (c:Option AVal)(f g:bj->Option (jc×bj))(st:bj):Option (jc×bj):=match c with
 |some (.bool Ep)=>f st|some (.bool Eh)=>g st|_=>Eg
theorem j1d {f g st}:MJ (Eb (.bool Ep)) f g st=f st:=rfl
theorem jxa {f g st}:MJ (Eb (.bool Eh)) f g st=g st:=rfl
theorem zce {c a b st}:X p (.cond c a b) st=MJ (qj st.env c) (X p a) (X p b) st:=by
 rw[jhp];unfold MJ
 cases qj st.env c with
 |none=>rfl
 |some v=>cases v with
  |bool t=>cases t<;>rfl|_=>rfl
def IG (id:Nat)(r:Option (jc×bj)):Option (jc×bj):=match r with
 |some (.exit fI,bN)=>if fI=id then Eb (.normal,bN)else Eb (.exit fI,bN)
 |r=>r
theorem jxe {id fI st}:IG id (Eb (.exit fI,st))=if fI=id then Eb (.normal,st)else Eb (.exit fI,st):=rfl
theorem jqz {id st}:IG id (Eb (.normal,st))=Eb (.normal,st):=rfl
theorem jyu {id st}:IG id (Eb (.ret,st))=Eb (.ret,st):=rfl
theorem j5j {id b st}:X p (.block id b) st=IG id (X p b st):=by
 rw[q9x];unfold IG
 cases X p b st with
 |none=>rfl
 |some r=>
  obtain⟨x,s⟩:=r
  cases x with
  |exit fI=>
   simp only[];by_cases hb:fI=id
   .subst hb;simp
   .rw[if_neg hb]
    cases hq:E4 fI id with
    |true=>exact absurd (E3 hq) hb|false=>rfl
  |_=>rfl
noncomputable def Fe (p:j8)(b:aQ)(n:Nat)(r:Option (jc×bj)):Option (jc×bj):=match r with
 |some (.normal,bN)=>X p (.loop b) (gc n bN)|r=>r
theorem S7 {b st}:X p (.loop b) st=Fe p b st.heap.length (X p b st):=by
 rw[je1];unfold Fe
 cases X p b st with
 |none=>rfl|some r=>obtain⟨x,s⟩:=r;cases x<;>rfl
theorem q65 {b n st}:Fe p b n (Eb (.normal,st))=X p (.loop b) (gc n st):=rfl
theorem j2o {b n st}:Fe p b n (Eb (.ret,st))=Eb (.ret,st):=rfl
theorem j1e {b n id st}:Fe p b n (Eb (.exit id,st))=Eb (.exit id,st):=rfl
attribute [go_sem] jv1 j20 j0w zcm j1d jxa zce jxe jqz jyu j5j q65 j2o j1e
attribute [go_sem] Z8 Z9 jmt q58 MI jfw
theorem zc2 {env}:gc 0 ⟨env,[]⟩=⟨env,[]⟩:=rfl
theorem yv {n st}(hn:st.heap.length<=n):gc n st=st:=by
 unfold gc;rw[En hn];rfl
def S8 (k:ak Nat)(r:Option bj):Option (jc×bj):=match r with
 |some bN=>Eb (.normal,Ad bN k)|none=>Eg
theorem j3t {k st}:S8 k (Eb st)=Eb (.normal,Ad st k):=rfl
theorem j7t {na l k st}:lI p xc na l k st=S8 k (fH p xc st.heap.length l ⟨st.env,st.heap++List.replicate na .hole⟩):=by
 unfold lI S8;rfl
def jrn (r:Option bj)(f:bj->Option bj):Option bj:=match r with
 |some st=>f st|none=>Eg
theorem j2l {st f}:jrn (Eb st) f=f st:=rfl
theorem zbg {st}:fH p xc h0 [] st=Eb st:=rfl
theorem j35 {o l st}:fH p xc h0 (o::l) st=jrn (ye p xc h0 o st) (fH p xc h0 l):=rfl
def MK (d:Option Nat)(e:Env)(r:Option br):Option bj:=match r with
 |some r=>Eb ⟨oC (ya e r.strip) d r.v r.own,r.heap⟩|none=>Eg
theorem j32 {d v o s}:MK d e (Eb ⟨v,o,s,h⟩)=Eb ⟨oC (ya e s) d v o,h⟩:=rfl
theorem jra {d op env}:ye p xc h0 ⟨d,op,Eg,al⟩ ⟨env,h⟩=MK d env (qg p xc h0 al env h op):=rfl
def ML (g:Option Bool)(d:Option Nat)(env:Env)(h:qi)(f:cF->Option br)(op:cF):Option bj:=match g with
 |some Ep=>MK d env (f op)|some Eh=>Eb ⟨oC env d .undef Eh,h⟩|none=>Eg
theorem jw2 {d env f op}:ML (Eb Ep) d env h f op=MK d env (f op):=rfl
theorem jrl {d env f op}:ML (Eb Eh) d env h f op=Eb ⟨oC env d .undef Eh,h⟩:=rfl
theorem jrf {d op g env}:ye p xc h0 ⟨d,op,Eb g,al⟩ ⟨env,h⟩=ML (nH env (Eb g)) d env h (qg p xc h0 al env h) op:=by
 unfold ye ML;simp only[];split
 .rename_i hg;rw[hg];rfl
 .rename_i hg;rw[hg]
 .rename_i hg;rw[hg]
def A4 (b:Bool)(v:Option (AVal×Bool)):Option Bool:=match v with
 |some (.bool c,_)=>Eb (c == b)|some (.undef,_)=>Eb Eh|_=>Eg
theorem jug {s b}:nH e (Eb (s,b))=A4 b (jm s e):=by
 unfold nH A4;rfl
theorem jsu {b o}:A4 b (Eb (.undef,o))=Eb Eh:=rfl
theorem j3f {s t x}:jm t ((s,x)::e)=if s=t then Eb x else jm t e:=by
 by_cases cq:s=t
 .subst cq;rw[if_pos rfl];simp[jm]
 .rw[if_neg cq]
  have:E4 s t=Eh:=by
   cases hb:E4 s t with
   |false=>rfl|true=>exact absurd (E3 hb) cq
  simp[jm,this]
theorem j8k {t}:jm t []=Eg:=rfl
def jvu (x:Option (AVal×Bool)):Option AVal:=match x with
 |some x=>Eb x.1|none=>Eg
theorem j28 {v o}:jvu (Eb (v,o))=Eb v:=rfl
theorem j33 {t}:qj e (.tmp t)=jvu (jm t e):=rfl
theorem jwi {v}:qj e (.const v)=Eb v:=rfl
def sJ (x:Option AVal)(l:ak AVal):ak AVal:=match x,l with
 |some v,Eb vs=>Eb (v::vs)|_,_=>Eg
theorem jzt {v vs}:sJ (Eb v) (Eb vs)=Eb (v::vs):=rfl
theorem j4g:gE e []=Eb []:=rfl
theorem j0l {x l}:gE e (x::l)=sJ (qj e x) (gE e l):=by
 simp only[gE,sJ]
 cases qj e x with
 |none=>rfl|some v=>cases gE e l<;>rfl
theorem jwg {l}:Ad ⟨e,h⟩ (Eb l)=⟨rG e l,h⟩:=rfl
theorem jwu:Ad ⟨e,h⟩ Eg=⟨e,h⟩:=rfl
def MN (t:Nat)(x:Option (AVal×Bool))(e:Env):Env:=match x with
 |some x=>(t,x)::e|none=>e
theorem j0g {t x}:MN t (Eb x) e=(t,x)::e:=rfl
theorem jzc {t}:MN t Eg e=e:=rfl
theorem jwl:rG e []=[]:=rfl
theorem jvb {t l}:rG e (t::l)=MN t (jm t e) (rG e l):=by
 simp only[rG,MN];cases jm t e<;>rfl
theorem jw5 {d v o}:oC e (Eb d) v o=(d,v,o)::e:=rfl
theorem jw3 {v o}:oC e Eg v o=e:=rfl
theorem jq7:ya e Eg=e:=rfl
def S9 (s:Nat)(x:Option (AVal×Bool))(e:Env):Env:=match x with
 |some (v,_)=>(s,v,Eh)::e|none=>e
theorem jwa {s v o}:S9 s (Eb (v,o)) e=(s,v,Eh)::e:=rfl
theorem jq4 {s}:ya e (Eb s)=S9 s (jm s e) e:=by
 simp only[ya,S9];cases jm s e<;>rfl
theorem jy5 {i}:pq i []=[]:=rfl
theorem jwn {i v vs}:pq i (v::vs)=(i,v,Eh)::pq (i+1) vs:=rfl
theorem j2s {v}:gF h (Eb v)=Eb ⟨v,Eh,Eg,h⟩:=rfl
theorem zco {v}:val h v=Eb ⟨v,Eh,Eg,h⟩:=rfl
theorem zc4 {x}:qg p xc h0 al e h (.move x)=gF h (qj e x):=rfl
def Ta (s:Nat)(h:qi)(x:Option (AVal×Bool)):Option br:=match x with
 |some (v,o)=>Eb ⟨v,o,Eb s,h⟩|none=>Eg
theorem j0o {s v o}:Ta s h (Eb (v,o))=Eb ⟨v,o,Eb s,h⟩:=rfl
theorem zcx {s}:qg p xc h0 al e h (.take s)=Ta s h (jm s e):=by
 simp only[qg,qn,Ta];cases jm s e<;>rfl
def Tb (op:BinOp)(h:qi)(a b:Option AVal):Option br:=match a,b with
 |some a,Eb b=>gF h (z8 op a b)|_,_=>Eg
theorem j2z {op a b}:Tb op h (Eb a) (Eb b)=gF h (z8 op a b):=rfl
theorem zc9 {op x y}:qg p xc h0 al e h (.bin op x y)=Tb op h (qj e x) (qj e y):=by
 simp only[qg,qn,Tb];cases qj e x<;>cases qj e y<;>rfl
def Tc (h:qi)(c a b:Option AVal):Option br:=match c,a,b with
 |some (.bool t),Eb x,Eb y=>val h (bif t then x else y)|_,_,_=>Eg
theorem jyp {t a b}:Tc h (Eb (.bool t)) (Eb a) (Eb b)=Eb ⟨bif t then a else b,Eh,Eg,h⟩:=rfl
theorem zc3 {c a b}:qg p xc h0 al e h (.pick c a b)=Tc h (qj e c) (qj e a) (qj e b):=by
 simp only[qg,qn,Tc]
 cases qj e c with
 |none=>rfl|some v=>cases v<;>cases qj e a<;>cases qj e b<;>rfl
def um (k:Nat)(h:qi)(x:Option AVal):Option br:=match k,x with
 |1,Eb (.list _ _ xs)=>val h (.int .i64 xs.length)|1,Eb (.ms _ _ n)=>val h (.int .i64 n)|1,Eb (.az _ _ n)=>val h (.int .i64 n)|2,Eb (.list Ep _ _)=>val h (.int .i64 0)|0,Eb (.str s)=>val h (.int .i64 s.length)|_,_=>Eg
theorem j4n {b z xs}:um 1 h (Eb (.list b z xs))=Eb ⟨.int .i64 xs.length,Eh,Eg,h⟩:=rfl
theorem zca {b o n}:um 1 h (Eb (.ms b o n))=Eb ⟨.int .i64 n,Eh,Eg,h⟩:=rfl
theorem j3v {b v n}:um 1 h (Eb (.az b v n))=Eb ⟨.int .i64 n,Eh,Eg,h⟩:=rfl
theorem za0 {s}:um 0 h (Eb (.str s))=Eb ⟨.int .i64 s.length,Eh,Eg,h⟩:=rfl
theorem j6a {z xs}:um 2 h (Eb (.list Ep z xs))=Eb ⟨.int .i64 0,Eh,Eg,h⟩:=rfl
theorem zc7 {k x}:qg p xc h0 al e h (.len k x)=um k h (qj e x):=rfl
def uo (n:Nat)(i:Int):Option Nat:=if 0<=i/\i<n then Eb i.toNat else Eg
theorem xV {n k i}:idx n (.int k i)=uo n i:=by
 unfold idx uo
 cases i with
 |ofNat m=>
  by_cases hm:m<n
  .rw[if_pos ⟨by simp,by simp;omega⟩];simp[E8.mpr hm]
  .rw[if_neg (by simp;omega)]
   cases hb:Nat.blt m n with
   |true=>exact absurd (E8.mp hb) hm|false=>simp[hb]
 |negSucc m=>simp
attribute [go_sem] zc2 j3t j7t j2l zbg j35 j32 jra jw2 jrl jrf jug jsu j3f j8k j28 j33 jwi jzt j4g j0l jwg jwu j0g jzc jwl jvb jw5 jw3 jq7 jwa jq4 jy5 jwn j2s zco zc4 j0o zcx j2z zc9 jyp zc3 j4n zca j3v za0 j6a zc7
attribute [go_sem] xV
theorem jqa {n:Nat}{i:Int}(Y:0<=i)(I:i<n):uo n i=Eb i.toNat:=by unfold uo;rw[if_pos ⟨Y,I⟩]
theorem Td {n i}(h:i<n):uo n (i:Int)=Eb i:=by unfold uo;rw[if_pos ⟨by simp,by omega⟩];simp
def iR (sz:Nat)(h:qi)(x i:Option AVal):Option br:=match x,i with
 |some (.list _ de xs),Eb j=>bif E4 sz de||xs.isEmpty then(match idx xs.length j with
   |some j=>(match xs[j]? with
    |some v=>val h (.aq v)
    |none=>Eg)
   |none=>Eg)else Eg
 |some (.ms b o len),Eb j=>(match idx len j with
   |some j=>val h (.ptr b (o+j*sz))
   |none=>Eg)
 |some (.az b bO len),Eb j=>(match idx len j with
   |some j=>val h (.dN b bO (j*sz))
   |none=>Eg)
 |_,_=>Eg
theorem jw7 {sz x i}:qg p xc h0 al e h (.indexAddr sz x i)=iR sz h (qj e x) (qj e i):=by
 simp only[qg,qn,iR]
 cases qj e x with
 |none=>rfl|some v=>cases v<;>cases qj e i<;>rfl
theorem jfm {sz:Nat}{b:Bool}{k xs i v}(Y:0<=i)(hv:xs[i.toNat]?=Eb v):iR sz h (Eb (.list b sz xs)) (Eb (.int k i))=Eb ⟨.aq v,Eh,Eg,h⟩:=by
 have hl:=(List.getElem?_eq_some_iff.1 hv).1
 have hi:idx xs.length (.int k i)=Eb i.toNat:=by rw[xV];exact jqa Y (by omega)
 simp only[iR,hi,Nat.beq_refl,Bool.true_or,cond_true,hv];rfl
theorem jir {sz:Nat}{b:Bool}{k:IntKind}{xs:List AVal}{i:Nat}{v:AVal}(hv:xs[i]?=Eb v):iR sz h (Eb (.list b sz xs)) (Eb (.int k (i:Int)))=Eb ⟨.aq v,Eh,Eg,h⟩:=
 jfm (by simp) (by simpa using hv)
def kh (h0:Nat)(al:ak Nat)(agg:Bool)(n:Nat)(h:qi)(x:Option AVal):Option br:=match x with
 |some (.ptr b o)=>bif j9 h0 al b then(match qy h b with
   |some cs=>(match zm cs o n with
    |some vs=>bif agg then val h (.agg vs)else(match vs with
     | [v]=>val h v
     |_=>Eg)
    |none=>Eg)
   |none=>Eg)else Eg
 |some (.aq v)=>bif Bool.xor agg v.isAgg||!(E4 v.flat.length n)then Eg else val h v
 |some (.dN b bO o)=>bif rI h0 al b then(match zi h b with
   |some (.vec _ dJ xs)=>bif E4 bO dJ&&Nat.ble (o+n) (xs.flatMap AVal.flat).length then(bif agg then val h (.agg (((xs.flatMap AVal.flat).drop o).take n))else(match((xs.flatMap AVal.flat).drop o).take n with
     | [v]=>val h v
     |_=>Eg))else Eg
   |_=>Eg)else Eg
 |_=>Eg
theorem zch {agg n x}:qg p xc h0 al e h (.load agg n x)=kh h0 al agg n h (qj e x):=by
 simp only[qg,yl,kh]
 cases qj e x with
 |none=>rfl|some v=>cases v<;>rfl
def jm4:Option AVal->Option AVal
 |some (.aq v)=>Eb (.aq v)|_=>Eg
theorem zb4 {v}:jm4 (Eb (.aq v))=Eb (.aq v):=rfl
theorem zbv {agg n x}:qg p xc h0 al e h (.eV agg n x)=kh h0 al agg n h (jm4 (qj e x)):=by
 simp only[qg,qn,kh]
 cases qj e x with
 |none=>rfl|some v=>cases v<;>rfl
theorem j2p {k i}:kh h0 al Eh 1 h (Eb (.aq (.int k i)))=Eb ⟨.int k i,Eh,Eg,h⟩:=rfl
theorem j37 {s}:kh h0 al Eh 1 h (Eb (.aq (.str s)))=Eb ⟨.str s,Eh,Eg,h⟩:=rfl
theorem jzf {b}:kh h0 al Eh 1 h (Eb (.aq (.bool b)))=Eb ⟨.bool b,Eh,Eg,h⟩:=rfl
theorem j14 {b z xs}:kh h0 al Eh 1 h (Eb (.aq (.list b z xs)))=Eb ⟨.list b z xs,Eh,Eg,h⟩:=rfl
theorem jhw {n cs}(hn:cs.length=n):kh h0 al Ep n h (Eb (.aq (.agg cs)))=Eb ⟨.agg cs,Eh,Eg,h⟩:=by
 subst hn;simp[kh,AVal.isAgg,AVal.flat,val]
theorem zda {k x y}:z8 .add (.int k x) (.int k y)=Eb (.int k (qf k (x+y))):=by simp[z8,nG]
theorem zdf {k x y}:z8 .sub (.int k x) (.int k y)=Eb (.int k (qf k (x-y))):=by simp[z8,nG]
theorem zdl {k x y}:z8 .mul (.int k x) (.int k y)=Eb (.int k (qf k (x*y))):=by simp[z8,nG]
theorem zdn {k x y}:z8 .lss (.int k x) (.int k y)=Eb (.bool (decide (x<y))):=by simp[z8,nG]
theorem zdg {k x y}:z8 .leq (.int k x) (.int k y)=Eb (.bool (decide (x<=y))):=by simp[z8,nG]
theorem zc5 {k x y}:z8 .gtr (.int k x) (.int k y)=Eb (.bool (decide (y<x))):=by simp[z8,nG]
theorem zdm {k x y}:z8 .geq (.int k x) (.int k y)=Eb (.bool (decide (y<=x))):=by simp[z8,nG]
theorem zde {k x y}:z8 .eql (.int k x) (.int k y)=Eb (.bool (decide (x=y))):=by
 simp only[z8,nG,decide_true,cond_true];congr 2
theorem zdd {k x y}:z8 .neq (.int k x) (.int k y)=Eb (.bool (!decide (x=y))):=by
 simp only[z8,nG,decide_true,cond_true];congr 2
theorem MO {x}(Y:-9223372036854775808<=x)(I:x<=9223372036854775807):qf .i64 x=x:=by
 have:rH .i64 x=Ep:=by
  cases x with
  |ofNat m=>simp only[rH];exact En (by simp at I;omega)|negSucc m=>simp only[rH];exact En (by omega)
 simp[qf,this]
def Te (h:qi)(b:Bool)(r:Option (AVal×Bool)):Option br:=match b,r with
 |true,Eb (v,o)=>Eb ⟨v,o,Eg,h⟩|_,_=>Eg
theorem j2j {v o}:Te h Ep (Eb (v,o))=Eb ⟨v,o,Eg,h⟩:=rfl
def Tf (n:Nat)(r:Option (AVal×Bool×qi)):Option br:=match r with
 |some (v,o,h')=>Eb ⟨v,o,Eg,qp n v h'⟩|none=>Eg
theorem j3j {n v o}:Tf n (Eb (v,o,h))=Eb ⟨v,o,Eg,qp n v h⟩:=rfl
def Tg (r:Option (AVal×qi)):Option br:=match r with
 |some (v,h')=>Eb ⟨v,Eh,Eg,h'⟩|none=>Eg
theorem jwx {v}:Tg (Eb (v,h))=Eb ⟨v,Eh,Eg,h⟩:=rfl
def MP (h0 r:Nat)(h:qi)(b:Bool)(m:Option (List (AVal×AVal))):Option br:=match b,m with
 |true,Eb es=>(match aK h0 h r (.map es)with
  |some h'=>Eb ⟨.map (h0+r),Eh,Eg,h'⟩
  |none=>Eg)
 |_,_=>Eg
def IH (h0 r:Nat)(h:qi)(b b':Bool)(m:Option (List (AVal×AVal)))(c:Option (AVal×Bool)):Option br:=match b with
 |true=>MP h0 r h Ep m
 |false=>(match b',c with
  |true,Eb (v,o)=>rK h0 h r v o
  |_,_=>Eg)
theorem j5z {r b' m c}:IH h0 r h Ep b' m c=MP h0 r h Ep m:=rfl
theorem j3x {r m v o}:IH h0 r h Eh Ep m (Eb (v,o))=rK h0 h r v o:=rfl
def jtb (p:j8)(xc:XC)(h:qi)(k:Nat):ak AVal->Option br
 |some us=>bif qt 0 us then(match ae p xc k us with
  |some (v,o)=>(match LH v o with
   |some (v',o')=>Eb ⟨v',o',Eg,h⟩
   |none=>Eg)
  |none=>Eg)else Eg
 |none=>Eg
def A5 (p:j8)(xc:XC)(h0:Nat)(h:qi)(md:eO)(f:Option AVal)(l:ak AVal):Option br:=match f,l with
 |some (.fn (.func k) a c),Eb vs=>(match md with
  | .bZ=>Te h (qt 0 (a++vs++c)) (ae p xc k (a++vs++c))| .ft r=>IH h0 r h (a++vs++c).isEmpty (qt 0 (a++vs++c)) (p.maps k) (ae p xc k (a++vs++c))| .red=>jtb p xc h k (xq h (a++vs++c))
  | .shr=>Tf h.length (ai p xc k (a++vs++c) h))
 |some (.fn (.yield b) [] []),Eb vs=>(match md with
  | .shr=>Tg (kQ xc b vs h)
  |_=>Eg)
 |_,_=>Eg
theorem zcr {md f l}:qg p xc h0 al e h (.call md f l)=A5 p xc h0 h md (qj e f) (gE e l):=by
 simp only[qg,yd,A5];split
 .rename_i k first captured vs Y I
  rw[Y,I]
  cases md with
  |bZ=>
   simp only[]
   cases qt 0 (first++vs++captured)with
   |false=>cases ae p xc k (first++vs++captured)<;>rfl|true=>cases ae p xc k (first++vs++captured)<;>rfl
  |ft rk=>
   simp only[]
   cases (first++vs++captured).isEmpty with
   |false=>
    cases qt 0 (first++vs++captured)with
    |false=>cases ae p xc k (first++vs++captured)<;>rfl|true=>cases ae p xc k (first++vs++captured)<;>rfl
   |true=>
    cases p.maps k with
    |none=>rfl|some es=>simp only[cond_true,IH,MP];cases aK h0 h rk (.map es)<;>rfl
  |red=>simp only[];cases xq h (first++vs++captured)<;>rfl|shr=>simp only[];cases ai p xc k (first++vs++captured) h<;>rfl
 .rename_i b vs Y I;rw[Y,I]
  cases md with
  |shr=>simp only[];cases kQ xc b vs h<;>rfl|_=>rfl
 .rename_i Y I;split
  .rename_i k a c vs g1 g2;exact absurd g2 (fun g2=>Y k a c vs g1 g2)
  .rename_i b vs g1 g2;exact absurd g2 (fun g2=>I b vs g1 g2)
  .rfl
theorem j21 {k a c vs}:A5 p xc h0 h .bZ (Eb (.fn (.func k) a c)) (Eb vs)=Te h (qt 0 (a++vs++c)) (ae p xc k (a++vs++c)):=rfl
theorem j3a {k r a c vs}:A5 p xc h0 h (.ft r) (Eb (.fn (.func k) a c)) (Eb vs)=IH h0 r h (a++vs++c).isEmpty (qt 0 (a++vs++c)) (p.maps k) (ae p xc k (a++vs++c)):=rfl
theorem j24 {k a c vs}:A5 p xc h0 h .red (Eb (.fn (.func k) a c)) (Eb vs)=jtb p xc h k (xq h (a++vs++c)):=rfl
theorem j2c {k a c vs}:A5 p xc h0 h .shr (Eb (.fn (.func k) a c)) (Eb vs)=Tf h.length (ai p xc k (a++vs++c) h):=rfl
theorem jwk {b vs}:A5 p xc h0 h .shr (Eb (.fn (.yield b) [] [])) (Eb vs)=Tg (kQ xc b vs h):=rfl
def Ff (rs:List nF)(r:Option (jc×bj)):Option (AVal×Bool×qi):=match r with
 |some (.normal,st)=>(match ko st rs with
   |some xs=>Eb ((za xs).1,(za xs).2,lH st rs)
   |none=>Eg)
 |some (.ret,st)=>(match ko st rs with
   |some xs=>Eb ((za xs).1,(za xs).2,lH st rs)
   |none=>Eg)
 |_=>Eg
def Ti (st:bj)(rs:List nF)(r:Option (List (AVal×Bool))):Option (AVal×Bool×qi):=match r with
 |some xs=>Eb ((za xs).1,(za xs).2,lH st rs)|none=>Eg
theorem jw1 {rs st}:Ff rs (Eb (.normal,st))=Ti st rs (ko st rs):=rfl
theorem j9s {rs st}:Ff rs (Eb (.ret,st))=Ti st rs (ko st rs):=rfl
theorem j4o {st rs xs}:Ti st rs (Eb xs)=Eb ((za xs).1,(za xs).2,lH st rs):=rfl
theorem qh {k nt body rs args}(hf:p.bn k=Eb ⟨nt,body,rs⟩)(hl:args.length<=nt):ai p xc k args h=Ff rs (xc body ⟨pq 0 args,h⟩):=by
 simp only[ai,hf,qE,En hl,cond_true,Ff];rfl
def Tj (x:Option (AVal×Bool))(l:Option (List (AVal×Bool))):Option (List (AVal×Bool)):=match x,l with
 |some v,Eb vs=>Eb (v::vs)|_,_=>Eg
theorem j1j {v vs}:Tj (Eb v) (Eb vs)=Eb (v::vs):=rfl
theorem jrd {st}:ko st []=Eb []:=rfl
theorem jne {st r rs}:ko st (r::rs)=Tj (tR st r) (ko st rs):=by
 simp only[ko,Tj]
 cases tR st r with
 |none=>rfl|some v=>cases ko st rs<;>rfl
theorem jru {t}:tR ⟨e,h⟩ (.tmp t)=jm t e:=rfl
theorem j4y {x}:za [x]=x:=rfl
theorem j7o {x y}:za [x,y]=(.bq [x.1,y.1],Eh):=rfl
theorem j0n {x y z}:za [x,y,z]=(.bq [x.1,y.1,z.1],Eh):=rfl
theorem j2t:za []=(.bq [],Eh):=rfl
theorem j3r {st t}:lH st [.tmp t]=st.heap:=rfl
theorem j4k {st x y l}:lH st (x::y::l)=st.heap:=by
 cases x with
 |tmp t=>rfl|cell t a n=>cases a<;>rfl
theorem jy4 {st}:lH st []=st.heap:=rfl
theorem j4h {st t n}:lH st [.cell t Ep n]=st.heap:=rfl
theorem j6w {o}:A4 Ep (Eb (.bool Ep,o))=Eb Ep:=rfl
theorem j5e {o}:A4 Ep (Eb (.bool Eh,o))=Eb Eh:=rfl
theorem j5g {o}:A4 Eh (Eb (.bool Ep,o))=Eb Eh:=rfl
theorem j7a {o}:A4 Eh (Eb (.bool Eh,o))=Eb Ep:=rfl
attribute [go_sem] jw7 zch zb4 zbv j2p j37 jzf j14 zda zdf zdl zdn zdg zc5 zdm zde zdd j2j j3j jwx j5z j3x zcr j21 j3a j24 j2c jwk jw1 j9s j4o j1j jrd jne jru j4y j7o j0n j2t j3r j4k jy4 j4h j6w j5e j5g j7a
attribute [go_sem] cond_true cond_false decide_true decide_false Bool.not_true Bool.not_false List.append_nil List.nil_append List.length_cons List.length_nil
theorem zc8:List.replicate 0 bG.hole=[]:=rfl
end
section
variable {p:j8}{xc:XC}{h0:Nat}{al:ak Nat}{e:Env}{h:qi}{α:Type}
def sl (z:Nat)(f:α->AVal):Option (List α)->AVal
 |none=>.list Ep 0 []|some l=>.list Eh z (l.map f)
theorem zcz {z:Nat}{f:α->AVal}{l}:um 1 h (Eb (sl z f l))=Eb ⟨.int .i64 (l.getD []).length,Eh,Eg,h⟩:=by
 cases l<;>simp[sl,um,val]
theorem jte {z:Nat}{f:α->AVal}{l:Option (List α)}{k:IntKind}{i:Nat}{x:α}(M:(l.getD [])[i]?=Eb x):iR z h (Eb (sl z f l)) (Eb (.int k (i:Int)))=Eb ⟨.aq (f x),Eh,Eg,h⟩:=by
 cases l with
 |none=>simp at M|some l=>exact jir (by rw[List.getElem?_map,show l[i]?=Eb x from M];rfl)
theorem uq {n z:Nat}{f:α->AVal}{l}(hf:∀x,below n (f x)=Ep):below n (sl z f l)=Ep:=by
 have key:∀l:List α,qt n (l.map f)=Ep:=by
  intro l
  induction l with
  |nil=>rfl|cons x l ih=>simp[qt,hf,ih]
 cases l with
 |none=>rfl|some l=>simp only[sl,below];exact key l
def zg (n:Int):AVal:=.int .i64 n
theorem j13 {i}:kh h0 al Eh 1 h (Eb (.aq (zg i)))=Eb ⟨.int .i64 i,Eh,Eg,h⟩:=rfl
end
attribute [go_sem] zc8 zcz j13
end Go.Abs
