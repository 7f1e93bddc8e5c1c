/- Equations of the executor for runs on values that are not known. -/
import Derived.Test.YtfopaakmgogpiaaGreatDoorAbsH
set_option linter.unusedVariables false
set_option linter.unusedSimpArgs false
namespace Go.Abs
section
variable {p:qu}{xc:XC}{h0:Nat}{al:Option (List Nat)}{e:Env}{h:zb}
def qxc (r:Option (qn×qg))(f:qg→Option (qn×qg)):Option (qn×qg):=match r with
 |some (.normal,st)=>f st
 |r=>r
@[go_sem] theorem jku {st:qg}{f:qg→Option (qn×qg)}:qxc (some (.normal,st)) f=f st:=rfl
@[go_sem] theorem j1w {st:qg}{f:qg→Option (qn×qg)}:qxc (some (.ret,st)) f=some (.ret,st):=rfl
@[go_sem] theorem jwr {id:Nat}{st:qg}{f:qg→Option (qn×qg)}:qxc (some (.exit id,st)) f=some (.exit id,st):=rfl
@[go_sem] theorem zc5 {a b:qh}{st:qg}:X p (.seq a b) st=qxc (X p a st) (X p b):=by
 rw[jr9];unfold qxc
 cases X p a st with
 |none=>rfl
 |some r=>obtain⟨x,s⟩:=r;cases x<;>rfl
def q1n (c:Option qa)(f g:qg→Option (qn×qg))(st:qg):Option (qn×qg):=match c with
 |some (.bool true)=>f st
 |some (.bool false)=>g st
 |_=>none
@[go_sem] theorem jy4 {f g:qg→Option (qn×qg)}{st:qg}:q1n (some (.bool true)) f g st=f st:=rfl
@[go_sem] theorem jpd {f g:qg→Option (qn×qg)}{st:qg}:q1n (some (.bool false)) f g st=g st:=rfl
@[go_sem] theorem zcb {c:qf}{a b:qh}{st:qg}:X p (.cond c a b) st=q1n (zh st.env c) (X p a) (X p b) st:=by
 rw[joc];unfold q1n
 cases zh st.env c with
 |none=>rfl
 |some v=>cases v with
  |bool t=>cases t<;>rfl
  |_=>rfl
def qsh (id:Nat)(r:Option (qn×qg)):Option (qn×qg):=match r with
 |some (.exit id',st')=>if id'=id then some (.normal,st')else some (.exit id',st')
 |r=>r
@[go_sem] theorem jpk {id id':Nat}{st:qg}:qsh id (some (.exit id',st))=if id'=id then some (.normal,st)else some (.exit id',st):=rfl
@[go_sem] theorem jjn {id:Nat}{st:qg}:qsh id (some (.normal,st))=some (.normal,st):=rfl
@[go_sem] theorem jxj {id:Nat}{st:qg}:qsh id (some (.ret,st))=some (.ret,st):=rfl
@[go_sem] theorem j8i {id:Nat}{b:qh}{st:qg}:X p (.block id b) st=qsh id (X p b st):=by
 rw[jir];unfold qsh
 cases X p b st with
 |none=>rfl
 |some r=>
  obtain⟨x,s⟩:=r
  cases x with
  |exit id'=>
   simp only[]
   by_cases hb:id'=id
   ·subst hb;simp
   ·rw[if_neg hb]
    cases hq:Nat.beq id' id with
    |true=>exact absurd (Nat.eq_of_beq_eq_true hq) hb
    |false=>rfl
  |_=>rfl
noncomputable def qtp (p:qu)(b:qh)(n:Nat)(r:Option (qn×qg)):Option (qn×qg):=match r with
 |some (.normal,st')=>X p (.loop b) (gc n st')
 |r=>r
theorem jjf {b:qh}{st:qg}:X p (.loop b) st=qtp p b st.heap.length (X p b st):=by
 rw[jj6];unfold qtp
 cases X p b st with
 |none=>rfl
 |some r=>obtain⟨x,s⟩:=r;cases x<;>rfl
@[go_sem] theorem q4c {b:qh}{n:Nat}{st:qg}:qtp p b n (some (.normal,st))=X p (.loop b) (gc n st):=rfl
@[go_sem] theorem j1p {b:qh}{n:Nat}{st:qg}:qtp p b n (some (.ret,st))=some (.ret,st):=rfl
@[go_sem] theorem jyl {b:qh}{n id:Nat}{st:qg}:qtp p b n (some (.exit id,st))=some (.exit id,st):=rfl
attribute [go_sem] jkp jns js3 jfw qyz jl3
@[go_sem] theorem zcp {env:Env}:gc 0 ⟨env,[]⟩=⟨env,[]⟩:=rfl
theorem qjf {n:Nat}{st:qg}(hn:st.heap.length≤n):gc n st=st:=by
 unfold gc;rw[Nat.ble_eq_true_of_le hn];rfl
theorem zdd {e e':Env}{h:zb}:gc (qg.mk e h).heap.length ⟨e',h⟩=⟨e',h⟩:=qjf (Nat.le_refl _)
def jd8 (k:Option (List Nat))(r:Option qg):Option (qn×qg):=match r with
 |some st'=>some (.normal,qmt st' k)
 |none=>none
@[go_sem] theorem j2k {k:Option (List Nat)}{st:qg}:jd8 k (some st)=some (.normal,qmt st k):=rfl
@[go_sem] theorem j5a {na:Nat}{l:List qt}{k:Option (List Nat)}{st:qg}:qcz p xc na l k st=jd8 k (qcn p xc st.heap.length l ⟨st.env,st.heap++List.replicate na .hole⟩):=by
 unfold qcz jd8;rfl
def jk8 (r:Option qg)(f:qg→Option qg):Option qg:=match r with
 |some st=>f st
 |none=>none
@[go_sem] theorem j2b {st:qg}{f:qg→Option qg}:jk8 (some st) f=f st:=rfl
@[go_sem] theorem j5w {st:qg}:qcn p xc h0 [] st=some st:=rfl
@[go_sem] theorem j2e {o:qt}{l:List qt}{st:qg}:qcn p xc h0 (o::l) st=jk8 (qa2 p xc h0 o st) (qcn p xc h0 l):=rfl
def q6z (d:Option Nat)(e:Env)(r:Option qp):Option qg:=match r with
 |some r=>some ⟨qel (qan e r.strip) d r.v r.own,r.heap⟩
 |none=>none
@[go_sem] theorem j0n {d:Option Nat}{v:qa}{o:Bool}{s:Option Nat}:q6z d e (some ⟨v,o,s,h⟩)=some ⟨qel (qan e s) d v o,h⟩:=rfl
@[go_sem] theorem jjm {d:Option Nat}{op:qw}{env:Env}:qa2 p xc h0 ⟨d,op,none,al⟩ ⟨env,h⟩=q6z d env (j9 p xc h0 al env h op):=rfl
def qv6 (g:Option Bool)(d:Option Nat)(env:Env)(h:zb)(f:qw→Option qp)(op:qw):Option qg:=match g with
 |some true=>q6z d env (f op)
 |some false=>some ⟨qel env d .undef false,h⟩
 |none=>none
@[go_sem] theorem jps {d:Option Nat}{env:Env}{f:qw→Option qp}{op:qw}:qv6 (some true) d env h f op=q6z d env (f op):=rfl
@[go_sem] theorem jk0 {d:Option Nat}{env:Env}{f:qw→Option qp}{op:qw}:qv6 (some false) d env h f op=some ⟨qel env d .undef false,h⟩:=rfl
@[go_sem] theorem jjk {d:Option Nat}{op:qw}{g:Nat×Bool}{env:Env}:qa2 p xc h0 ⟨d,op,some g,al⟩ ⟨env,h⟩=qv6 (qc2 env (some g)) d env h (j9 p xc h0 al env h) op:=by
 unfold qa2 qv6
 simp only[]
 split
 ·rename_i hg;rw[hg];rfl
 ·rename_i hg;rw[hg]
 ·rename_i hg;rw[hg]
def qky (b:Bool)(v:Option (qa×Bool)):Option Bool:=match v with
 |some (.bool c,_)=>some (c == b)
 |some (.undef,_)=>some false
 |_=>none
@[go_sem] theorem jne {s:Nat}{b:Bool}:qc2 e (some (s,b))=qky b (yl s e):=by
 unfold qc2 qky;rfl
theorem jo5 {b c:Bool}{o:Bool}:qky b (some (.bool c,o))=some (c == b):=rfl
@[go_sem] theorem jn3 {b:Bool}{o:Bool}:qky b (some (.undef,o))=some false:=rfl
@[go_sem] theorem j1m {s t:Nat}{x:qa×Bool}:yl t ((s,x)::e)=if s=t then some x else yl t e:=by
 by_cases hst:s=t
 ·subst hst;rw[if_pos rfl];simp[yl]
 ·rw[if_neg hst]
  have:Nat.beq s t=false:=by
   cases hb:Nat.beq s t with
   |false=>rfl
   |true=>exact absurd (Nat.eq_of_beq_eq_true hb) hst
  simp[yl,this]
@[go_sem] theorem j5e {t:Nat}:yl t []=none:=rfl
def jmu (x:Option (qa×Bool)):Option qa:=match x with
 |some x=>some x.1
 |none=>none
@[go_sem] theorem j0i {v:qa}{o:Bool}:jmu (some (v,o))=some v:=rfl
@[go_sem] theorem j13 {t:Nat}:zh e (.tmp t)=jmu (yl t e):=rfl
@[go_sem] theorem jpp {v:qa}:zh e (.const v)=some v:=rfl
def qhr (x:Option qa)(l:Option (List qa)):Option (List qa):=match x,l with
 |some v,some vs=>some (v::vs)
 |_,_=>none
@[go_sem] theorem jrh {v:qa}{vs:List qa}:qhr (some v) (some vs)=some (v::vs):=rfl
@[go_sem] theorem j1f:qbq e []=some []:=rfl
@[go_sem] theorem jym {x:qf}{l:List qf}:qbq e (x::l)=qhr (zh e x) (qbq e l):=by
 simp only[qbq,qhr]
 cases zh e x with
 |none=>rfl
 |some v=>cases qbq e l<;>rfl
@[go_sem] theorem jo9 {l:List Nat}:qmt ⟨e,h⟩ (some l)=⟨qe5 e l,h⟩:=rfl
@[go_sem] theorem jo3:qmt ⟨e,h⟩ none=⟨e,h⟩:=rfl
def q1p (t:Nat)(x:Option (qa×Bool))(e:Env):Env:=match x with
 |some x=>(t,x)::e
 |none=>e
@[go_sem] theorem jzl {t:Nat}{x:qa×Bool}:q1p t (some x) e=(t,x)::e:=rfl
@[go_sem] theorem jxh {t:Nat}:q1p t none e=e:=rfl
@[go_sem] theorem jpq:qe5 e []=[]:=rfl
@[go_sem] theorem jnc {t:Nat}{l:List Nat}:qe5 e (t::l)=q1p t (yl t e) (qe5 e l):=by
 simp only[qe5,q1p]
 cases yl t e<;>rfl
@[go_sem] theorem jpe {d:Nat}{v:qa}{o:Bool}:qel e (some d) v o=(d,v,o)::e:=rfl
@[go_sem] theorem jo4 {v:qa}{o:Bool}:qel e none v o=e:=rfl
@[go_sem] theorem jjo:qan e none=e:=rfl
def q3o (s:Nat)(x:Option (qa×Bool))(e:Env):Env:=match x with
 |some (v,_)=>(s,v,false)::e
 |none=>e
@[go_sem] theorem jp0 {s:Nat}{v:qa}{o:Bool}:q3o s (some (v,o)) e=(s,v,false)::e:=rfl
@[go_sem] theorem jjs {s:Nat}:qan e (some s)=q3o s (yl s e) e:=by
 simp only[qan,q3o]
 cases yl s e<;>rfl
@[go_sem] theorem jqx {i:Nat}:qe9 i []=[]:=rfl
@[go_sem] theorem jo0 {i:Nat}{v:qa}{vs:List qa}:qe9 i (v::vs)=(i,v,false)::qe9 (i+1) vs:=rfl
@[go_sem] theorem j1z {v:qa}:qcx h (some v)=some ⟨v,false,none,h⟩:=rfl
@[go_sem] theorem zcu {v:qa}:val h v=some ⟨v,false,none,h⟩:=rfl
@[go_sem] theorem zco {x:qf}:j9 p xc h0 al e h (.move x)=qcx h (zh e x):=rfl
def q8y (s:Nat)(h:zb)(x:Option (qa×Bool)):Option qp:=match x with
 |some (v,o)=>some ⟨v,o,some s,h⟩
 |none=>none
@[go_sem] theorem jzg {s:Nat}{v:qa}{o:Bool}:q8y s h (some (v,o))=some ⟨v,o,some s,h⟩:=rfl
@[go_sem] theorem zcl {s:Nat}:j9 p xc h0 al e h (.take s)=q8y s h (yl s e):=by
 simp only[j9,zr,q8y]
 cases yl s e<;>rfl
def je6 (op:BinOp)(h:zb)(a b:Option qa):Option qp:=match a,b with
 |some a,some b=>qcx h (qay op a b)
 |_,_=>none
@[go_sem] theorem j08 {op:BinOp}{a b:qa}:je6 op h (some a) (some b)=qcx h (qay op a b):=rfl
@[go_sem] theorem zdl {op:BinOp}{x y:qf}:j9 p xc h0 al e h (.bin op x y)=je6 op h (zh e x) (zh e y):=by
 simp only[j9,zr,je6]
 cases zh e x<;>cases zh e y<;>rfl
def q7r (h:zb)(c a b:Option qa):Option qp:=match c,a,b with
 |some (.bool t),some x,some y=>val h (bif t then x else y)
 |_,_,_=>none
@[go_sem] theorem jz2 {t:Bool}{a b:qa}:q7r h (some (.bool t)) (some a) (some b)=some ⟨bif t then a else b,false,none,h⟩:=rfl
@[go_sem] theorem zcv {c a b:qf}:j9 p xc h0 al e h (.pick c a b)=q7r h (zh e c) (zh e a) (zh e b):=by
 simp only[j9,zr,q7r]
 cases zh e c with
 |none=>rfl
 |some v=>cases v<;>cases zh e a<;>cases zh e b<;>rfl
def qs1 (k:Nat)(h:zb)(x:Option qa):Option qp:=match k,x with
 |1,some (.list _ _ xs)=>val h (.int .i64 xs.length)
 |1,some (.ms _ _ n)=>val h (.int .i64 n)
 |1,some (.vref _ _ n)=>val h (.int .i64 n)
 |2,some (.list true _ _)=>val h (.int .i64 0)
 |0,some (.str s)=>val h (.int .i64 s.length)
 |_,_=>none
@[go_sem] theorem j05 {b:Bool}{z:Nat}{xs:List qa}:qs1 1 h (some (.list b z xs))=some ⟨.int .i64 xs.length,false,none,h⟩:=rfl
@[go_sem] theorem zbz {b o n:Nat}:qs1 1 h (some (.ms b o n))=some ⟨.int .i64 n,false,none,h⟩:=rfl
@[go_sem] theorem j0f {b v n:Nat}:qs1 1 h (some (.vref b v n))=some ⟨.int .i64 n,false,none,h⟩:=rfl
@[go_sem] theorem za9 {s:List UInt8}:qs1 0 h (some (.str s))=some ⟨.int .i64 s.length,false,none,h⟩:=rfl
@[go_sem] theorem j83 {z:Nat}{xs:List qa}:qs1 2 h (some (.list true z xs))=some ⟨.int .i64 0,false,none,h⟩:=rfl
@[go_sem] theorem zdo {k:Nat}{x:qf}:j9 p xc h0 al e h (.len k x)=qs1 k h (zh e x):=rfl
def qzq (n:Nat)(i:Int):Option Nat:=if 0≤i∧i<n then some i.toNat else none
theorem qo7 {n:Nat}{k:IntKind}{i:Int}:idx n (.int k i)=qzq n i:=by
 unfold idx qzq
 cases i with
 |ofNat m=>
  by_cases hm:m<n
  ·rw[if_pos ⟨by simp,by simp;omega⟩];simp[Nat.blt_eq.mpr hm]
  ·rw[if_neg (by simp;omega)]
   cases hb:Nat.blt m n with
   |true=>exact absurd (Nat.blt_eq.mp hb) hm
   |false=>simp[hb]
 |negSucc m=>simp
attribute [go_sem] qo7
theorem jhf {n:Nat}{i:Int}(h1:0≤i)(h2:i<n):qzq n i=some i.toNat:=by unfold qzq;rw[if_pos ⟨h1,h2⟩]
theorem qvv {n i:Nat}(h:i<n):qzq n (i:Int)=some i:=by unfold qzq;rw[if_pos ⟨by simp,by omega⟩];simp
def qd2 (sz:Nat)(h:zb)(x i:Option qa):Option qp:=match x,i with
 |some (.list _ sz' xs),some j=>bif Nat.beq sz sz'||xs.isEmpty then(match idx xs.length j with
   |some j=>(match xs[j]? with
    |some v=>val h (.vptr v)
    |none=>none)
   |none=>none)else none
 |some (.ms b o len),some j=>(match idx len j with
   |some j=>val h (.ptr b (o+j*sz))
   |none=>none)
 |some (.vref b ver len),some j=>(match idx len j with
   |some j=>val h (.vel b ver (j*sz))
   |none=>none)
 |_,_=>none
@[go_sem] theorem jph {sz:Nat}{x i:qf}:j9 p xc h0 al e h (.indexAddr sz x i)=qd2 sz h (zh e x) (zh e i):=by
 simp only[j9,zr,qd2]
 cases zh e x with
 |none=>rfl
 |some v=>cases v<;>cases zh e i<;>rfl
theorem jbe {sz:Nat}{b:Bool}{k:IntKind}{xs:List qa}{i:Int}{v:qa}(h1:0≤i)(hv:xs[i.toNat]?=some v):qd2 sz h (some (.list b sz xs)) (some (.int k i))=some ⟨.vptr v,false,none,h⟩:=by
 have hl:=(List.getElem?_eq_some_iff.1 hv).1
 have hi:idx xs.length (.int k i)=some i.toNat:=by rw[qo7];exact jhf h1 (by omega)
 simp only[qd2,hi,Nat.beq_refl,Bool.true_or,cT,hv]
 rfl
theorem jcg {sz:Nat}{b:Bool}{k:IntKind}{xs:List qa}{i:Nat}{v:qa}(hv:xs[i]?=some v):qd2 sz h (some (.list b sz xs)) (some (.int k (i:Int)))=some ⟨.vptr v,false,none,h⟩:=
 jbe (by simp) (by simpa using hv)
def qa5 (h0:Nat)(al:Option (List Nat))(agg:Bool)(n:Nat)(h:zb)(x:Option qa):Option qp:=match x with
 |some (.ptr b o)=>bif ke h0 al b then(match yw h b with
   |some cs=>(match kn cs o n with
    |some vs=>bif agg then val h (.agg vs)else(match vs with
     | [v]=>val h v
     |_=>none)
    |none=>none)
   |none=>none)else none
 |some (.vptr v)=>bif Bool.xor agg v.isAgg||!(Nat.beq v.flat.length n)then none else val h v
 |some (.vel b ver o)=>bif qhe h0 al b then(match kl h b with
   |some (.vec _ ver' xs)=>bif Nat.beq ver ver'&&Nat.ble (o+n) (xs.flatMap qa.flat).length then(bif agg then val h (.agg (((xs.flatMap qa.flat).drop o).take n))else(match((xs.flatMap qa.flat).drop o).take n with
     | [v]=>val h v
     |_=>none))else none
   |_=>none)else none
 |_=>none
@[go_sem] theorem zc0 {agg:Bool}{n:Nat}{x:qf}:j9 p xc h0 al e h (.load agg n x)=qa5 h0 al agg n h (zh e x):=by
 simp only[j9,qas,qa5]
 cases zh e x with
 |none=>rfl
 |some v=>cases v<;>rfl
def jgk:Option qa→Option qa
 |some (.vptr v)=>some (.vptr v)
 |_=>none
@[go_sem] theorem zbr {v:qa}:jgk (some (.vptr v))=some (.vptr v):=rfl
@[go_sem] theorem zb0 {agg:Bool}{n:Nat}{x:qf}:j9 p xc h0 al e h (.vload agg n x)=qa5 h0 al agg n h (jgk (zh e x)):=by
 simp only[j9,zr,qa5]
 cases zh e x with
 |none=>rfl
 |some v=>cases v<;>rfl
@[go_sem] theorem j2m {k:IntKind}{i:Int}:qa5 h0 al false 1 h (some (.vptr (.int k i)))=some ⟨.int k i,false,none,h⟩:=rfl
@[go_sem] theorem j1y {s:List UInt8}:qa5 h0 al false 1 h (some (.vptr (.str s)))=some ⟨.str s,false,none,h⟩:=rfl
@[go_sem] theorem jqo {b:Bool}:qa5 h0 al false 1 h (some (.vptr (.bool b)))=some ⟨.bool b,false,none,h⟩:=rfl
@[go_sem] theorem jy2 {b:Bool}{z:Nat}{xs:List qa}:qa5 h0 al false 1 h (some (.vptr (.list b z xs)))=some ⟨.list b z xs,false,none,h⟩:=rfl
theorem ja4 {n:Nat}{cs:List qa}(hn:cs.length=n):qa5 h0 al true n h (some (.vptr (.agg cs)))=some ⟨.agg cs,false,none,h⟩:=by
 subst hn;simp[qa5,qa.isAgg,qa.flat,val]
@[go_sem] theorem zdb {k:IntKind}{x y:Int}:qay .add (.int k x) (.int k y)=some (.int k (j8 k (x+y))):=by simp[qay,qfe]
@[go_sem] theorem zdk {k:IntKind}{x y:Int}:qay .sub (.int k x) (.int k y)=some (.int k (j8 k (x-y))):=by simp[qay,qfe]
@[go_sem] theorem zdf {k:IntKind}{x y:Int}:qay .mul (.int k x) (.int k y)=some (.int k (j8 k (x*y))):=by simp[qay,qfe]
@[go_sem] theorem zc7 {k:IntKind}{x y:Int}:qay .lss (.int k x) (.int k y)=some (.bool (decide (x<y))):=by simp[qay,qfe]
@[go_sem] theorem zdj {k:IntKind}{x y:Int}:qay .leq (.int k x) (.int k y)=some (.bool (decide (x≤y))):=by simp[qay,qfe]
@[go_sem] theorem zdn {k:IntKind}{x y:Int}:qay .gtr (.int k x) (.int k y)=some (.bool (decide (y<x))):=by simp[qay,qfe]
@[go_sem] theorem zde {k:IntKind}{x y:Int}:qay .geq (.int k x) (.int k y)=some (.bool (decide (y≤x))):=by simp[qay,qfe]
@[go_sem] theorem zda {k:IntKind}{x y:Int}:qay .eql (.int k x) (.int k y)=some (.bool (decide (x=y))):=by
 simp only[qay,qfe,decide_true,cT];congr 2
@[go_sem] theorem zdi {k:IntKind}{x y:Int}:qay .neq (.int k x) (.int k y)=some (.bool (!decide (x=y))):=by
 simp only[qay,qfe,decide_true,cT];congr 2
theorem q0o {x:Int}(h1:-9223372036854775808≤x)(h2:x≤9223372036854775807):j8 .i64 x=x:=by
 have:qgw .i64 x=true:=by
  cases x with
  |ofNat m=>simp only[qgw];exact Nat.ble_eq_true_of_le (by simp at h2;omega)
  |negSucc m=>simp only[qgw];exact Nat.ble_eq_true_of_le (by omega)
 simp[j8,this]
def jcp (h:zb)(b:Bool)(r:Option (qa×Bool)):Option qp:=match b,r with
 |true,some (v,o)=>some ⟨v,o,none,h⟩
 |_,_=>none
@[go_sem] theorem j11 {v:qa}{o:Bool}:jcp h true (some (v,o))=some ⟨v,o,none,h⟩:=rfl
def jcm (n:Nat)(r:Option (qa×Bool×zb)):Option qp:=match r with
 |some (v,o,h')=>some ⟨v,o,none,yt n v h'⟩
 |none=>none
@[go_sem] theorem j1h {n:Nat}{v:qa}{o:Bool}:jcm n (some (v,o,h))=some ⟨v,o,none,yt n v h⟩:=rfl
def q37 (r:Option (qa×zb)):Option qp:=match r with
 |some (v,h')=>some ⟨v,false,none,h'⟩
 |none=>none
@[go_sem] theorem jpt {v:qa}:q37 (some (v,h))=some ⟨v,false,none,h⟩:=rfl
def q83 (h0 r:Nat)(h:zb)(b:Bool)(m:Option (List (qa×qa))):Option qp:=match b,m with
 |true,some es=>(match newBox h0 h r (.map es)with
  |some h'=>some ⟨.map (h0+r),false,none,h'⟩
  |none=>none)
 |_,_=>none
def q3x (h0 r:Nat)(h:zb)(b b':Bool)(m:Option (List (qa×qa)))(c:Option (qa×Bool)):Option qp:=match b with
 |true=>q83 h0 r h true m
 |false=>(match b',c with
  |true,some (v,o)=>qij h0 h r v o
  |_,_=>none)
@[go_sem] theorem j7p {r:Nat}{b':Bool}{m:Option (List (qa×qa))}{c:Option (qa×Bool)}:q3x h0 r h true b' m c=q83 h0 r h true m:=rfl
@[go_sem] theorem j1j {r:Nat}{m:Option (List (qa×qa))}{v:qa}{o:Bool}:q3x h0 r h false true m (some (v,o))=qij h0 h r v o:=rfl
def jl7 (p:qu)(xc:XC)(h:zb)(k:Nat):Option (List qa)→Option qp
 |some us=>bif z8 0 us then(match j6 p xc k us with
  |some (v,o)=>(match q7w v o with
   |some (v',o')=>some ⟨v',o',none,h⟩
   |none=>none)
  |none=>none)else none
 |none=>none
def qq3 (p:qu)(xc:XC)(h0:Nat)(h:zb)(md:jc)(f:Option qa)(l:Option (List qa)):Option qp:=match f,l with
 |some (.fn (.func k) a c),some vs=>(match md with
  | .iso=>jcp h (z8 0 (a++vs++c)) (j6 p xc k (a++vs++c))
  | .frz r=>q3x h0 r h (a++vs++c).isEmpty (z8 0 (a++vs++c)) (p.maps k) (j6 p xc k (a++vs++c))
  | .red=>jl7 p xc h k (qh7 h (a++vs++c))
  | .shr=>jcm h.length (zj p xc k (a++vs++c) h))
 |some (.fn (.yield b) [] []),some vs=>(match md with
  | .shr=>q37 (qbx xc b vs h)
  |_=>none)
 |_,_=>none
@[go_sem] theorem zc3 {md:jc}{f:qf}{l:List qf}:j9 p xc h0 al e h (.call md f l)=qq3 p xc h0 h md (zh e f) (qbq e l):=by
 simp only[j9,qa1,qq3]
 split
 ·rename_i k first captured vs h1 h2
  rw[h1,h2]
  cases md with
  |iso=>
   simp only[]
   cases z8 0 (first++vs++captured)with
   |false=>cases j6 p xc k (first++vs++captured)<;>rfl
   |true=>cases j6 p xc k (first++vs++captured)<;>rfl
  |frz rk=>
   simp only[]
   cases (first++vs++captured).isEmpty with
   |false=>
    cases z8 0 (first++vs++captured)with
    |false=>cases j6 p xc k (first++vs++captured)<;>rfl
    |true=>cases j6 p xc k (first++vs++captured)<;>rfl
   |true=>
    cases p.maps k with
    |none=>rfl
    |some es=>simp only[cT,q3x,q83];cases newBox h0 h rk (.map es)<;>rfl
  |red=>simp only[];cases qh7 h (first++vs++captured)<;>rfl
  |shr=>simp only[];cases zj p xc k (first++vs++captured) h<;>rfl
 ·rename_i b vs h1 h2
  rw[h1,h2]
  cases md with
  |shr=>simp only[];cases qbx xc b vs h<;>rfl
  |_=>rfl
 ·rename_i h1 h2
  split
  ·rename_i k a c vs g1 g2;exact absurd g2 (fun g2=>h1 k a c vs g1 g2)
  ·rename_i b vs g1 g2;exact absurd g2 (fun g2=>h2 b vs g1 g2)
  ·rfl
@[go_sem] theorem j0b {k:Nat}{a c vs:List qa}:qq3 p xc h0 h .iso (some (.fn (.func k) a c)) (some vs)=jcp h (z8 0 (a++vs++c)) (j6 p xc k (a++vs++c)):=rfl
@[go_sem] theorem j0r {k r:Nat}{a c vs:List qa}:qq3 p xc h0 h (.frz r) (some (.fn (.func k) a c)) (some vs)=q3x h0 r h (a++vs++c).isEmpty (z8 0 (a++vs++c)) (p.maps k) (j6 p xc k (a++vs++c)):=rfl
@[go_sem] theorem j2f {k:Nat}{a c vs:List qa}:qq3 p xc h0 h .red (some (.fn (.func k) a c)) (some vs)=jl7 p xc h k (qh7 h (a++vs++c)):=rfl
@[go_sem] theorem j2p {k:Nat}{a c vs:List qa}:qq3 p xc h0 h .shr (some (.fn (.func k) a c)) (some vs)=jcm h.length (zj p xc k (a++vs++c) h):=rfl
@[go_sem] theorem jo6 {b:Nat}{vs:List qa}:qq3 p xc h0 h .shr (some (.fn (.yield b) [] [])) (some vs)=q37 (qbx xc b vs h):=rfl
def qyy (rs:List ja)(r:Option (qn×qg)):Option (qa×Bool×zb):=match r with
 |some (.normal,st)=>(match qbf st rs with
   |some xs=>some ((y9 xs).1,(y9 xs).2,qbp st rs)
   |none=>none)
 |some (.ret,st)=>(match qbf st rs with
   |some xs=>some ((y9 xs).1,(y9 xs).2,qbp st rs)
   |none=>none)
 |_=>none
def jej (st:qg)(rs:List ja)(r:Option (List (qa×Bool))):Option (qa×Bool×zb):=match r with
 |some xs=>some ((y9 xs).1,(y9 xs).2,qbp st rs)
 |none=>none
@[go_sem] theorem jp6 {rs:List ja}{st:qg}:qyy rs (some (.normal,st))=jej st rs (qbf st rs):=rfl
@[go_sem] theorem zab {rs:List ja}{st:qg}:qyy rs (some (.ret,st))=jej st rs (qbf st rs):=rfl
@[go_sem] theorem j00 {st:qg}{rs:List ja}{xs:List (qa×Bool)}:jej st rs (some xs)=some ((y9 xs).1,(y9 xs).2,qbp st rs):=rfl
theorem zc {k nt:Nat}{body:qh}{rs:List ja}{args:List qa}(hf:p.fns k=some ⟨nt,body,rs⟩)(hl:args.length≤nt):zj p xc k args h=qyy rs (xc body ⟨qe9 0 args,h⟩):=by
 simp only[zj,hf,qdj,Nat.ble_eq_true_of_le hl,cT,qyy]
 rfl
def q7v (x:Option (qa×Bool))(l:Option (List (qa×Bool))):Option (List (qa×Bool)):=match x,l with
 |some v,some vs=>some (v::vs)
 |_,_=>none
@[go_sem] theorem jwj {v:qa×Bool}{vs:List (qa×Bool)}:q7v (some v) (some vs)=some (v::vs):=rfl
@[go_sem] theorem jjp {st:qg}:qbf st []=some []:=rfl
@[go_sem] theorem jje {st:qg}{r:ja}{rs:List ja}:qbf st (r::rs)=q7v (qeu st r) (qbf st rs):=by
 simp only[qbf,q7v]
 cases qeu st r with
 |none=>rfl
 |some v=>cases qbf st rs<;>rfl
@[go_sem] theorem jnx {t:Nat}:qeu ⟨e,h⟩ (.tmp t)=yl t e:=rfl
@[go_sem] theorem j3r {x:qa×Bool}:y9 [x]=x:=rfl
@[go_sem] theorem j89 {x y:qa×Bool}:y9 [x,y]=(.tup [x.1,y.1],false):=rfl
@[go_sem] theorem ju6 {x y z:qa×Bool}:y9 [x,y,z]=(.tup [x.1,y.1,z.1],false):=rfl
@[go_sem] theorem j2h:y9 []=(.tup [],false):=rfl
@[go_sem] theorem j2j {st:qg}{t:Nat}:qbp st [.tmp t]=st.heap:=rfl
@[go_sem] theorem j07 {st:qg}{x y:ja}{l:List ja}:qbp st (x::y::l)=st.heap:=by
 cases x with
 |tmp t=>rfl
 |cell t a n=>cases a<;>rfl
@[go_sem] theorem jzt {st:qg}:qbp st []=st.heap:=rfl
@[go_sem] theorem j1c {st:qg}{t n:Nat}:qbp st [.cell t true n]=st.heap:=rfl
@[go_sem] theorem j7f {o:Bool}:qky true (some (.bool true,o))=some true:=rfl
@[go_sem] theorem zae {o:Bool}:qky true (some (.bool false,o))=some false:=rfl
@[go_sem] theorem j3g {o:Bool}:qky false (some (.bool true,o))=some false:=rfl
@[go_sem] theorem j5v {o:Bool}:qky false (some (.bool false,o))=some true:=rfl
attribute [go_sem] cT cF decide_true decide_false Bool.not_true Bool.not_false List.append_nil List.nil_append List.length_cons List.length_nil
@[go_sem] theorem zdp:List.replicate 0 qr.hole=[]:=rfl
end
section
variable {p:qu}{xc:XC}{h0:Nat}{al:Option (List Nat)}{e:Env}{h:zb}{α:Type}
def sl (z:Nat)(f:α→qa):Option (List α)→qa
 |none=>.list true 0 []
 |some l=>.list false z (l.map f)
@[go_sem] theorem zcy {z:Nat}{f:α→qa}{l:Option (List α)}:qs1 1 h (some (sl z f l))=some ⟨.int .i64 (l.getD []).length,false,none,h⟩:=by
 cases l<;>simp[sl,qs1,val]
theorem jn4 {z:Nat}{f:α→qa}{l:Option (List α)}{k:IntKind}{i:Nat}{x:α}(hx:(l.getD [])[i]?=some x):qd2 z h (some (sl z f l)) (some (.int k (i:Int)))=some ⟨.vptr (f x),false,none,h⟩:=by
 cases l with
 |none=>simp at hx
 |some l=>exact jcg (by rw[List.getElem?_map,show l[i]?=some x from hx];rfl)
theorem qev {n z:Nat}{f:α→qa}{l:Option (List α)}(hf:∀x,below n (f x)=true):below n (sl z f l)=true:=by
 have key:∀l:List α,z8 n (l.map f)=true:=by
  intro l
  induction l with
  |nil=>rfl
  |cons x l ih=>simp[z8,hf,ih]
 cases l with
 |none=>rfl
 |some l=>simp only[sl,below];exact key l
theorem zci {z:Nat}{f:α→qa}(hf:∀x y,f x=f y→x=y){a b:Option (List α)}(hab:sl z f a=sl z f b):a=b:=by
 have key:∀a b:List α,a.map f=b.map f→a=b:=by
  intro a
  induction a with
  |nil=>intro b hb;cases b<;>simp at hb<;>rfl
  |cons x a ih=>
   intro b hb
   cases b with
   |nil=>simp at hb
   |cons y b=>simp at hb;rw[hf _ _ hb.1,ih _ hb.2]
 cases a<;>cases b<;>simp[sl]at hab<;>first|rfl|rw[key _ _ hab]
def yb (n:Int):qa:=.int .i64 n
@[go_sem] theorem jr3 {i:Int}:qa5 h0 al false 1 h (some (.vptr (yb i)))=some ⟨.int .i64 i,false,none,h⟩:=rfl
end
end Go.Abs
