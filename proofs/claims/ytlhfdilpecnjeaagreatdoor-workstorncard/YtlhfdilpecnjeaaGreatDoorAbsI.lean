/- Equations of the executor for runs on values that are not known. -/
import Derived.Test.YtlhfdilpecnjeaaGreatDoorAbsG
set_option linter.unusedVariables false
set_option linter.unusedSimpArgs false
open Option renaming some->En,none->E6
open Bool renaming false->Ha,true->Hc
open Nat renaming ble_eq_true_of_le->Hb,eq_of_beq_eq_true->H2,beq->H3,blt_eq->H4
namespace Go.Abs
section
variable {p:j8}{xc:XC}{h0:Nat}{al:ak Nat}{e:Env}{h:qf}
def Jo (r:Option (jb×bn))(f:bn->Option (jb×bn)):Option (jb×bn):=match r with
 |some (.normal,st)=>f st|r=>r
@[go_sem] theorem jx6 {st f}:Jo (En (.normal,st)) f=f st:=rfl
@[go_sem] theorem zaq {st f}:Jo (En (.ret,st)) f=En (.ret,st):=rfl
@[go_sem] theorem j7x {id st f}:Jo (En (.exit id,st)) f=En (.exit id,st):=rfl
@[go_sem] theorem zlx {a b st}:X p (.seq a b) st=Jo (X p a st) (X p b):=by
 rw[jrl];unfold Jo
 cases X p a st with
 |none=>rfl|some r=>obtain⟨x,s⟩:=r;cases x<;>rfl
def N2 (c:Option AVal)(f g:bn->Option (jb×bn))(st:bn):Option (jb×bn):=match c with
 |some (.bool Hc)=>f st|some (.bool Ha)=>g st|_=>E6
@[go_sem] theorem j6u {f g st}:N2 (En (.bool Hc)) f g st=f st:=rfl
@[go_sem] theorem j3p {f g st}:N2 (En (.bool Ha)) f g st=g st:=rfl
@[go_sem] theorem zk0 {c a b st}:X p (.cond c a b) st=N2 (qh st.env c) (X p a) (X p b) st:=by
 rw[jj2];unfold N2
 cases qh st.env c with
 |none=>rfl
 |some v=>cases v with
  |bool t=>cases t<;>rfl|_=>rfl
def Jp (id:Nat)(r:Option (jb×bn)):Option (jb×bn):=match r with
 |some (.exit fI,bP)=>if fI=id then En (.normal,bP)else En (.exit fI,bP)
 |r=>r
@[go_sem] theorem j4f {id fI st}:Jp id (En (.exit fI,st))=if fI=id then En (.normal,st)else En (.exit fI,st):=rfl
@[go_sem] theorem jvr {id st}:Jp id (En (.normal,st))=En (.normal,st):=rfl
@[go_sem] theorem j67 {id st}:Jp id (En (.ret,st))=En (.ret,st):=rfl
@[go_sem] theorem zc6 {id b st}:X p (.block id b) st=Jp id (X p b st):=by
 rw[jb4];unfold Jp
 cases X p b st with
 |none=>rfl
 |some r=>
  obtain⟨x,s⟩:=r
  cases x with
  |exit fI=>
   simp only[];by_cases hb:fI=id
   .subst hb;simp
   .rw[if_neg hb]
    cases hq:H3 fI id with
    |true=>exact absurd (H2 hq) hb|false=>rfl
  |_=>rfl
noncomputable def FY (p:j8)(b:aV)(n:Nat)(r:Option (jb×bn)):Option (jb×bn):=match r with
 |some (.normal,bP)=>X p (.loop b) (gc n bP)|r=>r
theorem jcd {b st}:X p (.loop b) st=FY p b st.heap.length (X p b st):=by
 rw[jj8];unfold FY
 cases X p b st with
 |none=>rfl|some r=>obtain⟨x,s⟩:=r;cases x<;>rfl
@[go_sem] theorem q7x {b n st}:FY p b n (En (.normal,st))=X p (.loop b) (gc n st):=rfl
@[go_sem] theorem zbv {b n st}:FY p b n (En (.ret,st))=En (.ret,st):=rfl
@[go_sem] theorem j7o {b n id st}:FY p b n (En (.exit id,st))=En (.exit id,st):=rfl
attribute [go_sem] jj3 jh9 jrf q67 N0 jgy
@[go_sem] theorem zl4 {env}:gc 0 ⟨env,[]⟩=⟨env,[]⟩:=rfl
theorem jQ {n st}(hn:st.heap.length<=n):gc n st=st:=by
 unfold gc;rw[Hb hn];rfl
def U0 (k:ak Nat)(r:Option bn):Option (jb×bn):=match r with
 |some bP=>En (.normal,AB bP k)|none=>E6
@[go_sem] theorem zap {k st}:U0 k (En st)=En (.normal,AB st k):=rfl
@[go_sem] theorem zet {na l k st}:l9 p xc na l k st=U0 k (fH p xc st.heap.length l ⟨st.env,st.heap++List.replicate na .hole⟩):=by
 unfold l9 U0;rfl
def jxc (r:Option bn)(f:bn->Option bn):Option bn:=match r with
 |some st=>f st|none=>E6
@[go_sem] theorem j92 {st f}:jxc (En st) f=f st:=rfl
@[go_sem] theorem zfa {st}:fH p xc h0 [] st=En st:=rfl
@[go_sem] theorem zbc {o l st}:fH p xc h0 (o::l) st=jxc (yp p xc h0 o st) (fH p xc h0 l):=rfl
def N3 (d:Option Nat)(e:Env)(r:Option bu):Option bn:=match r with
 |some r=>En ⟨oK (yh e r.strip) d r.v r.own,r.heap⟩|none=>E6
@[go_sem] theorem j9t {d v o s}:N3 d e (En ⟨v,o,s,h⟩)=En ⟨oK (yh e s) d v o,h⟩:=rfl
@[go_sem] theorem jvy {d op env}:yp p xc h0 ⟨d,op,E6,al⟩ ⟨env,h⟩=N3 d env (qe p xc h0 al env h op):=rfl
def N4 (g:Option Bool)(d:Option Nat)(env:Env)(h:qf)(f:cG->Option bu)(op:cG):Option bn:=match g with
 |some Hc=>N3 d env (f op)|some Ha=>En ⟨oK env d .undef Ha,h⟩|none=>E6
@[go_sem] theorem j38 {d env f op}:N4 (En Hc) d env h f op=N3 d env (f op):=rfl
@[go_sem] theorem j1n {d env f op}:N4 (En Ha) d env h f op=En ⟨oK env d .undef Ha,h⟩:=rfl
@[go_sem] theorem jvw {d op g env}:yp p xc h0 ⟨d,op,En g,al⟩ ⟨env,h⟩=N4 (nP env (En g)) d env h (qe p xc h0 al env h) op:=by
 unfold yp N4;simp only[];split
 .rename_i hg;rw[hg];rfl
 .rename_i hg;rw[hg]
 .rename_i hg;rw[hg]
def Bt (b:Bool)(v:Option (AVal×Bool)):Option Bool:=match v with
 |some (.bool c,_)=>En (c == b)|some (.undef,_)=>En Ha|_=>E6
@[go_sem] theorem jy5 {s b}:nP e (En (s,b))=Bt b (jn s e):=by
 unfold nP Bt;rfl
@[go_sem] theorem j23 {b o}:Bt b (En (.undef,o))=En Ha:=rfl
@[go_sem] theorem za5 {s t x}:jn t ((s,x)::e)=if s=t then En x else jn t e:=by
 by_cases ct:s=t
 .subst ct;rw[if_pos rfl];simp[jn]
 .rw[if_neg ct]
  have:H3 s t=Ha:=by
   cases hb:H3 s t with
   |false=>rfl|true=>exact absurd (H2 hb) ct
  simp[jn,this]
@[go_sem] theorem zfi {t}:jn t []=E6:=rfl
def jyn (x:Option (AVal×Bool)):Option AVal:=match x with
 |some x=>En x.1|none=>E6
@[go_sem] theorem zb2 {v o}:jyn (En (v,o))=En v:=rfl
@[go_sem] theorem j97 {t}:qh e (.tmp t)=jyn (jn t e):=rfl
@[go_sem] theorem j3z {v}:qh e (.const v)=En v:=rfl
def tc (x:Option AVal)(l:ak AVal):ak AVal:=match x,l with
 |some v,En vs=>En (v::vs)|_,_=>E6
@[go_sem] theorem j7b {v vs}:tc (En v) (En vs)=En (v::vs):=rfl
@[go_sem] theorem zb3:gJ e []=En []:=rfl
@[go_sem] theorem j51 {x l}:gJ e (x::l)=tc (qh e x) (gJ e l):=by
 simp only[gJ,tc]
 cases qh e x with
 |none=>rfl|some v=>cases gJ e l<;>rfl
@[go_sem] theorem j39 {l}:AB ⟨e,h⟩ (En l)=⟨sg e l,h⟩:=rfl
@[go_sem] theorem j36:AB ⟨e,h⟩ E6=⟨e,h⟩:=rfl
def N5 (t:Nat)(x:Option (AVal×Bool))(e:Env):Env:=match x with
 |some x=>(t,x)::e|none=>e
@[go_sem] theorem j54 {t x}:N5 t (En x) e=(t,x)::e:=rfl
@[go_sem] theorem j9k {t}:N5 t E6 e=e:=rfl
@[go_sem] theorem j4o:sg e []=[]:=rfl
@[go_sem] theorem j2r {t l}:sg e (t::l)=N5 t (jn t e) (sg e l):=by
 simp only[sg,N5];cases jn t e<;>rfl
@[go_sem] theorem j4l {d v o}:oK e (En d) v o=(d,v,o)::e:=rfl
@[go_sem] theorem j3l {v o}:oK e E6 v o=e:=rfl
@[go_sem] theorem jvs:yh e E6=e:=rfl
def U1 (s:Nat)(x:Option (AVal×Bool))(e:Env):Env:=match x with
 |some (v,_)=>(s,v,Ha)::e|none=>e
@[go_sem] theorem j30 {s v o}:U1 s (En (v,o)) e=(s,v,Ha)::e:=rfl
@[go_sem] theorem jvk {s}:yh e (En s)=U1 s (jn s e) e:=by
 simp only[yh,U1];cases jn s e<;>rfl
@[go_sem] theorem j4y {i}:pH i []=[]:=rfl
@[go_sem] theorem j3k {i v vs}:pH i (v::vs)=(i,v,Ha)::pH (i+1) vs:=rfl
@[go_sem] theorem zbi {v}:gK h (En v)=En ⟨v,Ha,E6,h⟩:=rfl
@[go_sem] theorem zlm {v}:val h v=En ⟨v,Ha,E6,h⟩:=rfl
@[go_sem] theorem zl1 {x}:qe p xc h0 al e h (.move x)=gK h (qh e x):=rfl
def U2 (s:Nat)(h:qf)(x:Option (AVal×Bool)):Option bu:=match x with
 |some (v,o)=>En ⟨v,o,En s,h⟩|none=>E6
@[go_sem] theorem j5v {s v o}:U2 s h (En (v,o))=En ⟨v,o,En s,h⟩:=rfl
@[go_sem] theorem zls {s}:qe p xc h0 al e h (.take s)=U2 s h (jn s e):=by
 simp only[qe,ql,U2];cases jn s e<;>rfl
def U3 (op:BinOp)(h:qf)(a b:Option AVal):Option bu:=match a,b with
 |some a,En b=>gK h (yf op a b)|_,_=>E6
@[go_sem] theorem zb7 {op a b}:U3 op h (En a) (En b)=gK h (yf op a b):=rfl
@[go_sem] theorem zmi {op x y}:qe p xc h0 al e h (.bin op x y)=U3 op h (qh e x) (qh e y):=by
 simp only[qe,ql,U3];cases qh e x<;>cases qh e y<;>rfl
def U4 (h:qf)(c a b:Option AVal):Option bu:=match c,a,b with
 |some (.bool t),En x,En y=>val h (bif t then x else y)|_,_,_=>E6
@[go_sem] theorem j82 {t a b}:U4 h (En (.bool t)) (En a) (En b)=En ⟨bif t then a else b,Ha,E6,h⟩:=rfl
@[go_sem] theorem zli {c a b}:qe p xc h0 al e h (.pick c a b)=U4 h (qh e c) (qh e a) (qh e b):=by
 simp only[qe,ql,U4]
 cases qh e c with
 |none=>rfl|some v=>cases v<;>cases qh e a<;>cases qh e b<;>rfl
def vb (k:Nat)(h:qf)(x:Option AVal):Option bu:=match k,x with
 |1,En (.list _ _ xs)=>val h (.int .i64 xs.length)|1,En (.ms _ _ n)=>val h (.int .i64 n)|1,En (.ay _ _ n)=>val h (.int .i64 n)|2,En (.list Hc _ _)=>val h (.int .i64 0)|0,En (.str s)=>val h (.int .i64 s.length)|_,_=>E6
@[go_sem] theorem zab {b z xs}:vb 1 h (En (.list b z xs))=En ⟨.int .i64 xs.length,Ha,E6,h⟩:=rfl
@[go_sem] theorem zk6 {b o n}:vb 1 h (En (.ms b o n))=En ⟨.int .i64 n,Ha,E6,h⟩:=rfl
@[go_sem] theorem zau {b v n}:vb 1 h (En (.ay b v n))=En ⟨.int .i64 n,Ha,E6,h⟩:=rfl
@[go_sem] theorem zc7 {s}:vb 0 h (En (.str s))=En ⟨.int .i64 s.length,Ha,E6,h⟩:=rfl
@[go_sem] theorem ze9 {z xs}:vb 2 h (En (.list Hc z xs))=En ⟨.int .i64 0,Ha,E6,h⟩:=rfl
@[go_sem] theorem zmp {k x}:qe p xc h0 al e h (.len k x)=vb k h (qh e x):=rfl
def rE (n:Nat)(i:Int):Option Nat:=if 0<=i/\i<n then En i.toNat else E6
theorem vd {n k i}:idx n (.int k i)=rE n i:=by
 unfold idx rE
 cases i with
 |ofNat m=>
  by_cases hm:m<n
  .rw[if_pos ⟨by simp,by simp;omega⟩];simp[H4.mpr hm]
  .rw[if_neg (by simp;omega)]
   cases hb:Nat.blt m n with
   |true=>exact absurd (H4.mp hb) hm|false=>simp[hb]
 |negSucc m=>simp
attribute [go_sem] vd
theorem jtv {n:Nat}{i:Int}(Y:0<=i)(I:i<n):rE n i=En i.toNat:=by unfold rE;rw[if_pos ⟨Y,I⟩]
theorem N6 {n i}(h:i<n):rE n (i:Int)=En i:=by unfold rE;rw[if_pos ⟨by simp,by omega⟩];simp
def mr (sz:Nat)(h:qf)(x i:Option AVal):Option bu:=match x,i with
 |some (.list _ df xs),En j=>bif H3 sz df||xs.isEmpty then(match idx xs.length j with
   |some j=>(match xs[j]? with
    |some v=>val h (.aq v)
    |none=>E6)
   |none=>E6)else E6
 |some (.ms b o len),En j=>(match idx len j with
   |some j=>val h (.ptr b (o+j*sz))
   |none=>E6)
 |some (.ay b bN len),En j=>(match idx len j with
   |some j=>val h (.dT b bN (j*sz))
   |none=>E6)
 |_,_=>E6
@[go_sem] theorem j4b {sz x i}:qe p xc h0 al e h (.indexAddr sz x i)=mr sz h (qh e x) (qh e i):=by
 simp only[qe,ql,mr]
 cases qh e x with
 |none=>rfl|some v=>cases v<;>cases qh e i<;>rfl
theorem jke {sz:Nat}{b:Bool}{k xs i v}(Y:0<=i)(hv:xs[i.toNat]?=En v):mr sz h (En (.list b sz xs)) (En (.int k i))=En ⟨.aq v,Ha,E6,h⟩:=by
 have hl:=(List.getElem?_eq_some_iff.1 hv).1
 have hi:idx xs.length (.int k i)=En i.toNat:=by rw[vd];exact jtv Y (by omega)
 simp only[mr,hi,Nat.beq_refl,Bool.true_or,cond_true,hv];rfl
theorem joa {sz:Nat}{b:Bool}{k:IntKind}{xs:List AVal}{i:Nat}{v:AVal}(hv:xs[i]?=En v):mr sz h (En (.list b sz xs)) (En (.int k (i:Int)))=En ⟨.aq v,Ha,E6,h⟩:=
 jke (by simp) (by simpa using hv)
def gT (h0:Nat)(al:ak Nat)(agg:Bool)(n:Nat)(h:qf)(x:Option AVal):Option bu:=match x with
 |some (.ptr b o)=>bif zf h0 al b then(match qw h b with
   |some cs=>(match zt cs o n with
    |some vs=>bif agg then val h (.agg vs)else(match vs with
     | [v]=>val h v
     |_=>E6)
    |none=>E6)
   |none=>E6)else E6
 |some (.aq v)=>bif Bool.xor agg v.isAgg||!(H3 v.flat.length n)then E6 else val h v
 |some (.dT b bN o)=>bif sj h0 al b then(match zm h b with
   |some (.vec _ dJ xs)=>bif H3 bN dJ&&Nat.ble (o+n) (xs.flatMap AVal.flat).length then(bif agg then val h (.agg (((xs.flatMap AVal.flat).drop o).take n))else(match((xs.flatMap AVal.flat).drop o).take n with
     | [v]=>val h v
     |_=>E6))else E6
   |_=>E6)else E6
 |_=>E6
@[go_sem] theorem zl3 {agg n x}:qe p xc h0 al e h (.load agg n x)=gT h0 al agg n h (qh e x):=by
 simp only[qe,yt,gT]
 cases qh e x with
 |none=>rfl|some v=>cases v<;>rfl
def jqy:Option AVal->Option AVal
 |some (.aq v)=>En (.aq v)|_=>E6
@[go_sem] theorem zk5 {v}:jqy (En (.aq v))=En (.aq v):=rfl
@[go_sem] theorem zk8 {agg n x}:qe p xc h0 al e h (.eV agg n x)=gT h0 al agg n h (jqy (qh e x)):=by
 simp only[qe,ql,gT]
 cases qh e x with
 |none=>rfl|some v=>cases v<;>rfl
@[go_sem] theorem zb6 {k i}:gT h0 al Ha 1 h (En (.aq (.int k i)))=En ⟨.int k i,Ha,E6,h⟩:=rfl
@[go_sem] theorem za3 {s}:gT h0 al Ha 1 h (En (.aq (.str s)))=En ⟨.str s,Ha,E6,h⟩:=rfl
@[go_sem] theorem j9o {b}:gT h0 al Ha 1 h (En (.aq (.bool b)))=En ⟨.bool b,Ha,E6,h⟩:=rfl
@[go_sem] theorem j7u {b z xs}:gT h0 al Ha 1 h (En (.aq (.list b z xs)))=En ⟨.list b z xs,Ha,E6,h⟩:=rfl
theorem jh4 {n cs}(hn:cs.length=n):gT h0 al Hc n h (En (.aq (.agg cs)))=En ⟨.agg cs,Ha,E6,h⟩:=by
 subst hn;simp[gT,AVal.isAgg,AVal.flat,val]
@[go_sem] theorem zl8 {k x y}:yf .add (.int k x) (.int k y)=En (.int k (qd k (x+y))):=by simp[yf,nO]
@[go_sem] theorem zmn {k x y}:yf .sub (.int k x) (.int k y)=En (.int k (qd k (x-y))):=by simp[yf,nO]
@[go_sem] theorem zmb {k x y}:yf .mul (.int k x) (.int k y)=En (.int k (qd k (x*y))):=by simp[yf,nO]
@[go_sem] theorem zml {k x y}:yf .lss (.int k x) (.int k y)=En (.bool (decide (x<y))):=by simp[yf,nO]
@[go_sem] theorem zmm {k x y}:yf .leq (.int k x) (.int k y)=En (.bool (decide (x<=y))):=by simp[yf,nO]
@[go_sem] theorem zmj {k x y}:yf .gtr (.int k x) (.int k y)=En (.bool (decide (y<x))):=by simp[yf,nO]
@[go_sem] theorem zmf {k x y}:yf .geq (.int k x) (.int k y)=En (.bool (decide (y<=x))):=by simp[yf,nO]
@[go_sem] theorem zmo {k x y}:yf .eql (.int k x) (.int k y)=En (.bool (decide (x=y))):=by
 simp only[yf,nO,decide_true,cond_true];congr 2
@[go_sem] theorem zmg {k x y}:yf .neq (.int k x) (.int k y)=En (.bool (!decide (x=y))):=by
 simp only[yf,nO,decide_true,cond_true];congr 2
theorem N7 {x}(Y:-9223372036854775808<=x)(I:x<=9223372036854775807):qd .i64 x=x:=by
 have:si .i64 x=Hc:=by
  cases x with
  |ofNat m=>simp only[si];exact Hb (by simp at I;omega)|negSucc m=>simp only[si];exact Hb (by omega)
 simp[qd,this]
def U5 (h:qf)(b:Bool)(r:Option (AVal×Bool)):Option bu:=match b,r with
 |true,En (v,o)=>En ⟨v,o,E6,h⟩|_,_=>E6
@[go_sem] theorem za1 {v o}:U5 h Hc (En (v,o))=En ⟨v,o,E6,h⟩:=rfl
def U6 (n:Nat)(r:Option (AVal×Bool×qf)):Option bu:=match r with
 |some (v,o,h')=>En ⟨v,o,E6,qy n v h'⟩|none=>E6
@[go_sem] theorem za8 {n v o}:U6 n (En (v,o,h))=En ⟨v,o,E6,qy n v h⟩:=rfl
def U7 (r:Option (AVal×qf)):Option bu:=match r with
 |some (v,h')=>En ⟨v,Ha,E6,h'⟩|none=>E6
@[go_sem] theorem j4m {v}:U7 (En (v,h))=En ⟨v,Ha,E6,h⟩:=rfl
def N8 (h0 r:Nat)(h:qf)(b:Bool)(m:Option (List (AVal×AVal))):Option bu:=match b,m with
 |true,En es=>(match aO h0 h r (.map es)with
  |some h'=>En ⟨.map (h0+r),Ha,E6,h'⟩
  |none=>E6)
 |_,_=>E6
def Jq (h0 r:Nat)(h:qf)(b b':Bool)(m:Option (List (AVal×AVal)))(c:Option (AVal×Bool)):Option bu:=match b with
 |true=>N8 h0 r h Hc m
 |false=>(match b',c with
  |true,En (v,o)=>sn h0 h r v o
  |_,_=>E6)
@[go_sem] theorem zi7 {r b' m c}:Jq h0 r h Hc b' m c=N8 h0 r h Hc m:=rfl
@[go_sem] theorem zas {r m v o}:Jq h0 r h Ha Hc m (En (v,o))=sn h0 h r v o:=rfl
def jv7 (p:j8)(xc:XC)(h:qf)(k:Nat):ak AVal->Option bu
 |some us=>bif qo 0 us then(match ae p xc k us with
  |some (v,o)=>(match MX v o with
   |some (v',o')=>En ⟨v',o',E6,h⟩
   |none=>E6)
  |none=>E6)else E6
 |none=>E6
def Bu (p:j8)(xc:XC)(h0:Nat)(h:qf)(md:eN)(f:Option AVal)(l:ak AVal):Option bu:=match f,l with
 |some (.fn (.func k) a c),En vs=>(match md with
  | .bZ=>U5 h (qo 0 (a++vs++c)) (ae p xc k (a++vs++c))| .ft r=>Jq h0 r h (a++vs++c).isEmpty (qo 0 (a++vs++c)) (p.maps k) (ae p xc k (a++vs++c))| .red=>jv7 p xc h k (xI h (a++vs++c))
  | .shr=>U6 h.length (ai p xc k (a++vs++c) h))
 |some (.fn (.yield b) [] []),En vs=>(match md with
  | .shr=>U7 (lz xc b vs h)
  |_=>E6)
 |_,_=>E6
@[go_sem] theorem zlj {md f l}:qe p xc h0 al e h (.call md f l)=Bu p xc h0 h md (qh e f) (gJ e l):=by
 simp only[qe,yo,Bu];split
 .rename_i k first captured vs Y I
  rw[Y,I]
  cases md with
  |bZ=>
   simp only[]
   cases qo 0 (first++vs++captured)with
   |false=>cases ae p xc k (first++vs++captured)<;>rfl|true=>cases ae p xc k (first++vs++captured)<;>rfl
  |ft rk=>
   simp only[]
   cases (first++vs++captured).isEmpty with
   |false=>
    cases qo 0 (first++vs++captured)with
    |false=>cases ae p xc k (first++vs++captured)<;>rfl|true=>cases ae p xc k (first++vs++captured)<;>rfl
   |true=>
    cases p.maps k with
    |none=>rfl|some es=>simp only[cond_true,Jq,N8];cases aO h0 h rk (.map es)<;>rfl
  |red=>simp only[];cases xI h (first++vs++captured)<;>rfl|shr=>simp only[];cases ai p xc k (first++vs++captured) h<;>rfl
 .rename_i b vs Y I;rw[Y,I]
  cases md with
  |shr=>simp only[];cases lz xc b vs h<;>rfl|_=>rfl
 .rename_i Y I;split
  .rename_i k a c vs g1 g2;exact absurd g2 (fun g2=>Y k a c vs g1 g2)
  .rename_i b vs g1 g2;exact absurd g2 (fun g2=>I b vs g1 g2)
  .rfl
@[go_sem] theorem zba {k a c vs}:Bu p xc h0 h .bZ (En (.fn (.func k) a c)) (En vs)=U5 h (qo 0 (a++vs++c)) (ae p xc k (a++vs++c)):=rfl
@[go_sem] theorem zaf {k r a c vs}:Bu p xc h0 h (.ft r) (En (.fn (.func k) a c)) (En vs)=Jq h0 r h (a++vs++c).isEmpty (qo 0 (a++vs++c)) (p.maps k) (ae p xc k (a++vs++c)):=rfl
@[go_sem] theorem zbu {k a c vs}:Bu p xc h0 h .red (En (.fn (.func k) a c)) (En vs)=jv7 p xc h k (xI h (a++vs++c)):=rfl
@[go_sem] theorem za2 {k a c vs}:Bu p xc h0 h .shr (En (.fn (.func k) a c)) (En vs)=U6 h.length (ai p xc k (a++vs++c) h):=rfl
@[go_sem] theorem j3w {b vs}:Bu p xc h0 h .shr (En (.fn (.yield b) [] [])) (En vs)=U7 (lz xc b vs h):=rfl
def FZ (rs:List nN)(r:Option (jb×bn)):Option (AVal×Bool×qf):=match r with
 |some (.normal,st)=>(match ky st rs with
   |some xs=>En ((ze xs).1,(ze xs).2,l8 st rs)
   |none=>E6)
 |some (.ret,st)=>(match ky st rs with
   |some xs=>En ((ze xs).1,(ze xs).2,l8 st rs)
   |none=>E6)
 |_=>E6
def U8 (st:bn)(rs:List nN)(r:Option (List (AVal×Bool))):Option (AVal×Bool×qf):=match r with
 |some xs=>En ((ze xs).1,(ze xs).2,l8 st rs)|none=>E6
@[go_sem] theorem j3u {rs st}:FZ rs (En (.normal,st))=U8 st rs (ky st rs):=rfl
@[go_sem] theorem zdt {rs st}:FZ rs (En (.ret,st))=U8 st rs (ky st rs):=rfl
@[go_sem] theorem j9y {st rs xs}:U8 st rs (En xs)=En ((ze xs).1,(ze xs).2,l8 st rs):=rfl
theorem qg {k nt body rs args}(hf:p.br k=En ⟨nt,body,rs⟩)(hl:args.length<=nt):ai p xc k args h=FZ rs (xc body ⟨pH 0 args,h⟩):=by
 simp only[ai,hf,rh,Hb hl,cond_true,FZ];rfl
def U9 (x:Option (AVal×Bool))(l:Option (List (AVal×Bool))):Option (List (AVal×Bool)):=match x,l with
 |some v,En vs=>En (v::vs)|_,_=>E6
@[go_sem] theorem j8t {v vs}:U9 (En v) (En vs)=En (v::vs):=rfl
@[go_sem] theorem jvn {st}:ky st []=En []:=rfl
@[go_sem] theorem jus {st r rs}:ky st (r::rs)=U9 (ul st r) (ky st rs):=by
 simp only[ky,U9]
 cases ul st r with
 |none=>rfl|some v=>cases ky st rs<;>rfl
@[go_sem] theorem jzt {t}:ul ⟨e,h⟩ (.tmp t)=jn t e:=rfl
@[go_sem] theorem zga {x}:ze [x]=x:=rfl
@[go_sem] theorem zf0 {x y}:ze [x,y]=(.aJ [x.1,y.1],Ha):=rfl
@[go_sem] theorem j5b {x y z}:ze [x,y,z]=(.aJ [x.1,y.1,z.1],Ha):=rfl
@[go_sem] theorem zbf:ze []=(.aJ [],Ha):=rfl
@[go_sem] theorem za0 {st t}:l8 st [.tmp t]=st.heap:=rfl
@[go_sem] theorem zal {st x y l}:l8 st (x::y::l)=st.heap:=by
 cases x with
 |tmp t=>rfl|cell t a n=>cases a<;>rfl
@[go_sem] theorem j5z {st}:l8 st []=st.heap:=rfl
@[go_sem] theorem zai {st t n}:l8 st [.cell t Hc n]=st.heap:=rfl
@[go_sem] theorem zc8 {o}:Bt Hc (En (.bool Hc,o))=En Hc:=rfl
@[go_sem] theorem ze3 {o}:Bt Hc (En (.bool Ha,o))=En Ha:=rfl
@[go_sem] theorem zia {o}:Bt Ha (En (.bool Hc,o))=En Ha:=rfl
@[go_sem] theorem zez {o}:Bt Ha (En (.bool Ha,o))=En Hc:=rfl
attribute [go_sem] cond_true cond_false decide_true decide_false Bool.not_true Bool.not_false List.append_nil List.nil_append List.length_cons List.length_nil
@[go_sem] theorem zme:List.replicate 0 aK.hole=[]:=rfl
end
section
variable {p:j8}{xc:XC}{h0:Nat}{al:ak Nat}{e:Env}{h:qf}{α:Type}
def sl (z:Nat)(f:α->AVal):Option (List α)->AVal
 |none=>.list Hc 0 []|some l=>.list Ha z (l.map f)
@[go_sem] theorem zlu {z:Nat}{f:α->AVal}{l}:vb 1 h (En (sl z f l))=En ⟨.int .i64 (l.getD []).length,Ha,E6,h⟩:=by
 cases l<;>simp[sl,vb,val]
theorem jz3 {z:Nat}{f:α->AVal}{l:Option (List α)}{k:IntKind}{i:Nat}{x:α}(M:(l.getD [])[i]?=En x):mr z h (En (sl z f l)) (En (.int k (i:Int)))=En ⟨.aq (f x),Ha,E6,h⟩:=by
 cases l with
 |none=>simp at M|some l=>exact joa (by rw[List.getElem?_map,show l[i]?=En x from M];rfl)
theorem vf {n z:Nat}{f:α->AVal}{l}(hf:∀x,below n (f x)=Hc):below n (sl z f l)=Hc:=by
 have key:∀l:List α,qo n (l.map f)=Hc:=by
  intro l
  induction l with
  |nil=>rfl|cons x l ih=>simp[qo,hf,ih]
 cases l with
 |none=>rfl|some l=>simp only[sl,below];exact key l
def jt (n:Int):AVal:=.int .i64 n
@[go_sem] theorem j9h {i}:gT h0 al Ha 1 h (En (.aq (jt i)))=En ⟨.int .i64 i,Ha,E6,h⟩:=rfl
end
end Go.Abs
