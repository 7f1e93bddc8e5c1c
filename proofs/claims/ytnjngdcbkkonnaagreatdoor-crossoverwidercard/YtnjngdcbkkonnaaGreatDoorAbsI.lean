/- Equations of the executor for runs on values that are not known. -/
import Derived.Test.YtnjngdcbkkonnaaGreatDoorAbsH
set_option linter.unusedVariables false
set_option linter.unusedSimpArgs false
namespace Go.Abs
section
variable {p:qo}{xc:XC}{h0:Nat}{al:Option (List Nat)}{e:Env}{h:ze}
def qyq (r:Option (qj×qd))(f:qd→Option (qj×qd)):Option (qj×qd):=match r with
 |some (.normal,st)=>f st
 |r=>r
@[go_sem] theorem jn5 {st:qd}{f:qd→Option (qj×qd)}:qyq (some (.normal,st)) f=f st:=rfl
@[go_sem] theorem jyn {st:qd}{f:qd→Option (qj×qd)}:qyq (some (.ret,st)) f=some (.ret,st):=rfl
@[go_sem] theorem jt5 {id:Nat}{st:qd}{f:qd→Option (qj×qd)}:qyq (some (.exit id,st)) f=some (.exit id,st):=rfl
@[go_sem] theorem j5t {a b:qe}{st:qd}:X p (.seq a b) st=qyq (X p a st) (X p b):=by
 rw[jr8];unfold qyq
 cases X p a st with
 |none=>rfl
 |some r=>obtain⟨x,s⟩:=r;cases x<;>rfl
def q1t (c:Option qa)(f g:qd→Option (qj×qd))(st:qd):Option (qj×qd):=match c with
 |some (.bool true)=>f st
 |some (.bool false)=>g st
 |_=>none
@[go_sem] theorem jq3 {f g:qd→Option (qj×qd)}{st:qd}:q1t (some (.bool true)) f g st=f st:=rfl
@[go_sem] theorem jqs {f g:qd→Option (qj×qd)}{st:qd}:q1t (some (.bool false)) f g st=g st:=rfl
@[go_sem] theorem j4s {c:qf}{a b:qe}{st:qd}:X p (.cond c a b) st=q1t (zf st.env c) (X p a) (X p b) st:=by
 rw[jow];unfold q1t
 cases zf st.env c with
 |none=>rfl
 |some v=>cases v with
  |bool t=>cases t<;>rfl
  |_=>rfl
def qlk (id:Nat)(r:Option (qj×qd)):Option (qj×qd):=match r with
 |some (.exit id',st')=>if id'=id then some (.normal,st')else some (.exit id',st')
 |r=>r
@[go_sem] theorem jpq {id id':Nat}{st:qd}:qlk id (some (.exit id',st))=if id'=id then some (.normal,st)else some (.exit id',st):=rfl
@[go_sem] theorem jlh {id:Nat}{st:qd}:qlk id (some (.normal,st))=some (.normal,st):=rfl
@[go_sem] theorem jsf {id:Nat}{st:qd}:qlk id (some (.ret,st))=some (.ret,st):=rfl
@[go_sem] theorem j3r {id:Nat}{b:qe}{st:qd}:X p (.block id b) st=qlk id (X p b st):=by
 rw[jj7];unfold qlk
 cases X p b st with
 |none=>rfl
 |some r=>
  obtain⟨x,s⟩:=r
  cases x with
  |exit id'=>
   simp only[]
   by_cases hb:id'=id
   ·subst hb;simp
   ·rw[if_neg hb]
    cases hq:Nat.beq id' id with
    |true=>exact absurd (Nat.eq_of_beq_eq_true hq) hb
    |false=>rfl
  |_=>rfl
noncomputable def qnf (p:qo)(b:qe)(n:Nat)(r:Option (qj×qd)):Option (qj×qd):=match r with
 |some (.normal,st')=>X p (.loop b) (gc n st')
 |r=>r
theorem q6p {b:qe}{st:qd}:X p (.loop b) st=qnf p b st.heap.length (X p b st):=by
 rw[jo0];unfold qnf
 cases X p b st with
 |none=>rfl
 |some r=>obtain⟨x,s⟩:=r;cases x<;>rfl
@[go_sem] theorem q2w {b:qe}{n:Nat}{st:qd}:qnf p b n (some (.normal,st))=X p (.loop b) (gc n st):=rfl
@[go_sem] theorem jxr {b:qe}{n:Nat}{st:qd}:qnf p b n (some (.ret,st))=some (.ret,st):=rfl
@[go_sem] theorem jxe {b:qe}{n id:Nat}{st:qd}:qnf p b n (some (.exit id,st))=some (.exit id,st):=rfl
attribute [go_sem] jo7 joy jtm jej qz2 jpp
@[go_sem] theorem j5w {env:Env}:gc 0 ⟨env,[]⟩=⟨env,[]⟩:=rfl
theorem qfw {n:Nat}{st:qd}(hn:st.heap.length≤n):gc n st=st:=by
 unfold gc;rw[Nat.ble_eq_true_of_le hn];rfl
theorem j59 {e e':Env}{h:ze}:gc (qd.mk e h).heap.length ⟨e',h⟩=⟨e',h⟩:=qfw (Nat.le_refl _)
def jfw (k:Option (List Nat))(r:Option qd):Option (qj×qd):=match r with
 |some st'=>some (.normal,qmj st' k)
 |none=>none
@[go_sem] theorem jyi {k:Option (List Nat)}{st:qd}:jfw k (some st)=some (.normal,qmj st k):=rfl
@[go_sem] theorem j2i {na:Nat}{l:List qp}{k:Option (List Nat)}{st:qd}:qcm p xc na l k st=jfw k (qb4 p xc st.heap.length l ⟨st.env,st.heap++List.replicate na .hole⟩):=by
 unfold qcm jfw;rfl
def joo (r:Option qd)(f:qd→Option qd):Option qd:=match r with
 |some st=>f st
 |none=>none
@[go_sem] theorem jzk {st:qd}{f:qd→Option qd}:joo (some st) f=f st:=rfl
@[go_sem] theorem j2e {st:qd}:qb4 p xc h0 [] st=some st:=rfl
@[go_sem] theorem jy1 {o:qp}{l:List qp}{st:qd}:qb4 p xc h0 (o::l) st=joo (qas p xc h0 o st) (qb4 p xc h0 l):=rfl
def q8n (d:Option Nat)(e:Env)(r:Option qn):Option qd:=match r with
 |some r=>some ⟨qdo (qai e r.strip) d r.v r.own,r.heap⟩
 |none=>none
@[go_sem] theorem jx3 {d:Option Nat}{v:qa}{o:Bool}{s:Option Nat}:q8n d e (some ⟨v,o,s,h⟩)=some ⟨qdo (qai e s) d v o,h⟩:=rfl
@[go_sem] theorem jle {d:Option Nat}{op:qt}{env:Env}:qas p xc h0 ⟨d,op,none,al⟩ ⟨env,h⟩=q8n d env (j8 p xc h0 al env h op):=rfl
def qyf (g:Option Bool)(d:Option Nat)(env:Env)(h:ze)(f:qt→Option qn)(op:qt):Option qd:=match g with
 |some true=>q8n d env (f op)
 |some false=>some ⟨qdo env d .undef false,h⟩
 |none=>none
@[go_sem] theorem jqq {d:Option Nat}{env:Env}{f:qt→Option qn}{op:qt}:qyf (some true) d env h f op=q8n d env (f op):=rfl
@[go_sem] theorem jlm {d:Option Nat}{env:Env}{f:qt→Option qn}{op:qt}:qyf (some false) d env h f op=some ⟨qdo env d .undef false,h⟩:=rfl
@[go_sem] theorem jlc {d:Option Nat}{op:qt}{g:Nat×Bool}{env:Env}:qas p xc h0 ⟨d,op,some g,al⟩ ⟨env,h⟩=qyf (qc1 env (some g)) d env h (j8 p xc h0 al env h) op:=by
 unfold qas qyf
 simp only[]
 split
 ·rename_i hg;rw[hg];rfl
 ·rename_i hg;rw[hg]
 ·rename_i hg;rw[hg]
def qjl (b:Bool)(v:Option (qa×Bool)):Option Bool:=match v with
 |some (.bool c,_)=>some (c == b)
 |some (.undef,_)=>some false
 |_=>none
@[go_sem] theorem joc {s:Nat}{b:Bool}:qc1 e (some (s,b))=qjl b (look s e):=by
 unfold qc1 qjl;rfl
theorem jp3 {b c:Bool}{o:Bool}:qjl b (some (.bool c,o))=some (c == b):=rfl
@[go_sem] theorem jof {b:Bool}{o:Bool}:qjl b (some (.undef,o))=some false:=rfl
@[go_sem] theorem jyh {s t:Nat}{x:qa×Bool}:look t ((s,x)::e)=if s=t then some x else look t e:=by
 by_cases hst:s=t
 ·subst hst;rw[if_pos rfl];simp[look]
 ·rw[if_neg hst]
  have:Nat.beq s t=false:=by
   cases hb:Nat.beq s t with
   |false=>rfl
   |true=>exact absurd (Nat.eq_of_beq_eq_true hb) hst
  simp[look,this]
@[go_sem] theorem j12 {t:Nat}:look t []=none:=rfl
def jpe (x:Option (qa×Bool)):Option qa:=match x with
 |some x=>some x.1
 |none=>none
@[go_sem] theorem jxz {v:qa}{o:Bool}:jpe (some (v,o))=some v:=rfl
@[go_sem] theorem jyc {t:Nat}:zf e (.tmp t)=jpe (look t e):=rfl
@[go_sem] theorem jqo {v:qa}:zf e (.const v)=some v:=rfl
def qgi (x:Option qa)(l:Option (List qa)):Option (List qa):=match x,l with
 |some v,some vs=>some (v::vs)
 |_,_=>none
@[go_sem] theorem jr3 {v:qa}{vs:List qa}:qgi (some v) (some vs)=some (v::vs):=rfl
@[go_sem] theorem jyt:qbe e []=some []:=rfl
@[go_sem] theorem jwa {x:qf}{l:List qf}:qbe e (x::l)=qgi (zf e x) (qbe e l):=by
 simp only[qbe,qgi]
 cases zf e x with
 |none=>rfl
 |some v=>cases qbe e l<;>rfl
@[go_sem] theorem jqm {l:List Nat}:qmj ⟨e,h⟩ (some l)=⟨qd0 e l,h⟩:=rfl
@[go_sem] theorem jp0:qmj ⟨e,h⟩ none=⟨e,h⟩:=rfl
def q1q (t:Nat)(x:Option (qa×Bool))(e:Env):Env:=match x with
 |some x=>(t,x)::e
 |none=>e
@[go_sem] theorem jvq {t:Nat}{x:qa×Bool}:q1q t (some x) e=(t,x)::e:=rfl
@[go_sem] theorem jvs {t:Nat}:q1q t none e=e:=rfl
@[go_sem] theorem jqt:qd0 e []=[]:=rfl
@[go_sem] theorem jng {t:Nat}{l:List Nat}:qd0 e (t::l)=q1q t (look t e) (qd0 e l):=by
 simp only[qd0,q1q]
 cases look t e<;>rfl
@[go_sem] theorem jps {d:Nat}{v:qa}{o:Bool}:qdo e (some d) v o=(d,v,o)::e:=rfl
@[go_sem] theorem jpt {v:qa}{o:Bool}:qdo e none v o=e:=rfl
@[go_sem] theorem jlg:qai e none=e:=rfl
def q4d (s:Nat)(x:Option (qa×Bool))(e:Env):Env:=match x with
 |some (v,_)=>(s,v,false)::e
 |none=>e
@[go_sem] theorem jpv {s:Nat}{v:qa}{o:Bool}:q4d s (some (v,o)) e=(s,v,false)::e:=rfl
@[go_sem] theorem jlb {s:Nat}:qai e (some s)=q4d s (look s e) e:=by
 simp only[qai,q4d]
 cases look s e<;>rfl
@[go_sem] theorem juh {i:Nat}:qbp i []=[]:=rfl
@[go_sem] theorem jpz {i:Nat}{v:qa}{vs:List qa}:qbp i (v::vs)=(i,v,false)::qbp (i+1) vs:=rfl
@[go_sem] theorem jzp {v:qa}:qcj h (some v)=some ⟨v,false,none,h⟩:=rfl
@[go_sem] theorem j5e {v:qa}:val h v=some ⟨v,false,none,h⟩:=rfl
@[go_sem] theorem j5y {x:qf}:j8 p xc h0 al e h (.move x)=qcj h (zf e x):=rfl
def q8e (s:Nat)(h:ze)(x:Option (qa×Bool)):Option qn:=match x with
 |some (v,o)=>some ⟨v,o,some s,h⟩
 |none=>none
@[go_sem] theorem js6 {s:Nat}{v:qa}{o:Bool}:q8e s h (some (v,o))=some ⟨v,o,some s,h⟩:=rfl
@[go_sem] theorem j5v {s:Nat}:j8 p xc h0 al e h (.take s)=q8e s h (look s e):=by
 simp only[j8,zj,q8e]
 cases look s e<;>rfl
def jfz (op:BinOp)(h:ze)(a b:Option qa):Option qn:=match a,b with
 |some a,some b=>qcj h (ky op a b)
 |_,_=>none
@[go_sem] theorem jy6 {op:BinOp}{a b:qa}:jfz op h (some a) (some b)=qcj h (ky op a b):=rfl
@[go_sem] theorem j54 {op:BinOp}{x y:qf}:j8 p xc h0 al e h (.bin op x y)=jfz op h (zf e x) (zf e y):=by
 simp only[j8,zj,jfz]
 cases zf e x<;>cases zf e y<;>rfl
def q9d (h:ze)(c a b:Option qa):Option qn:=match c,a,b with
 |some (.bool t),some x,some y=>val h (bif t then x else y)
 |_,_,_=>none
@[go_sem] theorem jrj {t:Bool}{a b:qa}:q9d h (some (.bool t)) (some a) (some b)=some ⟨bif t then a else b,false,none,h⟩:=rfl
@[go_sem] theorem j5r {c a b:qf}:j8 p xc h0 al e h (.pick c a b)=q9d h (zf e c) (zf e a) (zf e b):=by
 simp only[j8,zj,q9d]
 cases zf e c with
 |none=>rfl
 |some v=>cases v<;>cases zf e a<;>cases zf e b<;>rfl
def qvp (k:Nat)(h:ze)(x:Option qa):Option qn:=match k,x with
 |1,some (.list _ _ xs)=>val h (.int .i64 xs.length)
 |1,some (.ms _ _ n)=>val h (.int .i64 n)
 |2,some (.list true _ _)=>val h (.int .i64 0)
 |0,some (.str s)=>val h (.int .i64 s.length)
 |_,_=>none
@[go_sem] theorem jy0 {b:Bool}{z:Nat}{xs:List qa}:qvp 1 h (some (.list b z xs))=some ⟨.int .i64 xs.length,false,none,h⟩:=rfl
@[go_sem] theorem j40 {b o n:Nat}:qvp 1 h (some (.ms b o n))=some ⟨.int .i64 n,false,none,h⟩:=rfl
@[go_sem] theorem j1e {s:List UInt8}:qvp 0 h (some (.str s))=some ⟨.int .i64 s.length,false,none,h⟩:=rfl
@[go_sem] theorem j1r {z:Nat}{xs:List qa}:qvp 2 h (some (.list true z xs))=some ⟨.int .i64 0,false,none,h⟩:=rfl
@[go_sem] theorem j55 {k:Nat}{x:qf}:j8 p xc h0 al e h (.len k x)=qvp k h (zf e x):=rfl
def qs7 (n:Nat)(i:Int):Option Nat:=if 0≤i∧i<n then some i.toNat else none
theorem qib {n:Nat}{k:IntKind}{i:Int}:idx n (.int k i)=qs7 n i:=by
 unfold idx qs7
 cases i with
 |ofNat m=>
  by_cases hm:m<n
  ·rw[if_pos ⟨by simp,by simp;omega⟩];simp[Nat.blt_eq.mpr hm]
  ·rw[if_neg (by simp;omega)]
   cases hb:Nat.blt m n with
   |true=>exact absurd (Nat.blt_eq.mp hb) hm
   |false=>simp[hb]
 |negSucc m=>simp
attribute [go_sem] qib
theorem qzn {n:Nat}{i:Int}(h1:0≤i)(h2:i<n):qs7 n i=some i.toNat:=by unfold qs7;rw[if_pos ⟨h1,h2⟩]
theorem q4b {n i:Nat}(h:i<n):qs7 n (i:Int)=some i:=by unfold qs7;rw[if_pos ⟨by simp,by omega⟩];simp
def ql1 (sz:Nat)(h:ze)(x i:Option qa):Option qn:=match x,i with
 |some (.list _ sz' xs),some j=>bif Nat.beq sz sz'||xs.isEmpty then(match idx xs.length j with
   |some j=>(match xs[j]? with
    |some v=>val h (.vptr v)
    |none=>none)
   |none=>none)else none
 |some (.ms b o len),some j=>(match idx len j with
   |some j=>val h (.ptr b (o+j*sz))
   |none=>none)
 |_,_=>none
@[go_sem] theorem jqx {sz:Nat}{x i:qf}:j8 p xc h0 al e h (.indexAddr sz x i)=ql1 sz h (zf e x) (zf e i):=by
 simp only[j8,zj,ql1]
 cases zf e x with
 |none=>rfl
 |some v=>cases v<;>cases zf e i<;>rfl
theorem jcn {sz:Nat}{b:Bool}{k:IntKind}{xs:List qa}{i:Int}{v:qa}(h1:0≤i)(hv:xs[i.toNat]?=some v):ql1 sz h (some (.list b sz xs)) (some (.int k i))=some ⟨.vptr v,false,none,h⟩:=by
 have hl:=(List.getElem?_eq_some_iff.1 hv).1
 have hi:idx xs.length (.int k i)=some i.toNat:=by rw[qib];exact qzn h1 (by omega)
 simp only[ql1,hi,Nat.beq_refl,Bool.true_or,cT,hv]
 rfl
theorem jg6 {sz:Nat}{b:Bool}{k:IntKind}{xs:List qa}{i:Nat}{v:qa}(hv:xs[i]?=some v):ql1 sz h (some (.list b sz xs)) (some (.int k (i:Int)))=some ⟨.vptr v,false,none,h⟩:=
 jcn (by simp) (by simpa using hv)
def qc0 (h0:Nat)(al:Option (List Nat))(agg:Bool)(n:Nat)(h:ze)(x:Option qa):Option qn:=match x with
 |some (.ptr b o)=>bif kf h0 al b then(match yi h b with
   |some cs=>(match qam cs o n with
    |some vs=>bif agg then val h (.agg vs)else(match vs with
     | [v]=>val h v
     |_=>none)
    |none=>none)
   |none=>none)else none
 |some (.vptr v)=>bif Bool.xor agg v.isAgg||!(Nat.beq v.flat.length n)then none else val h v
 |_=>none
@[go_sem] theorem j5q {agg:Bool}{n:Nat}{x:qf}:j8 p xc h0 al e h (.load agg n x)=qc0 h0 al agg n h (zf e x):=by
 simp only[j8,qau,qc0]
 cases zf e x with
 |none=>rfl
 |some v=>cases v<;>rfl
def jh5:Option qa→Option qa
 |some (.vptr v)=>some (.vptr v)
 |_=>none
@[go_sem] theorem j43 {v:qa}:jh5 (some (.vptr v))=some (.vptr v):=rfl
@[go_sem] theorem j4q {agg:Bool}{n:Nat}{x:qf}:j8 p xc h0 al e h (.vload agg n x)=qc0 h0 al agg n h (jh5 (zf e x)):=by
 simp only[j8,zj,qc0]
 cases zf e x with
 |none=>rfl
 |some v=>cases v<;>rfl
@[go_sem] theorem jym {k:IntKind}{i:Int}:qc0 h0 al false 1 h (some (.vptr (.int k i)))=some ⟨.int k i,false,none,h⟩:=rfl
@[go_sem] theorem jye {s:List UInt8}:qc0 h0 al false 1 h (some (.vptr (.str s)))=some ⟨.str s,false,none,h⟩:=rfl
@[go_sem] theorem ju8 {b:Bool}:qc0 h0 al false 1 h (some (.vptr (.bool b)))=some ⟨.bool b,false,none,h⟩:=rfl
@[go_sem] theorem jsq {b:Bool}{z:Nat}{xs:List qa}:qc0 h0 al false 1 h (some (.vptr (.list b z xs)))=some ⟨.list b z xs,false,none,h⟩:=rfl
theorem jdk {n:Nat}{cs:List qa}(hn:cs.length=n):qc0 h0 al true n h (some (.vptr (.agg cs)))=some ⟨.agg cs,false,none,h⟩:=by
 subst hn;simp[qc0,qa.isAgg,qa.flat,val]
@[go_sem] theorem j6l {k:IntKind}{x y:Int}:ky .add (.int k x) (.int k y)=some (.int k (j9 k (x+y))):=by simp[ky,qcx]
@[go_sem] theorem j6m {k:IntKind}{x y:Int}:ky .sub (.int k x) (.int k y)=some (.int k (j9 k (x-y))):=by simp[ky,qcx]
@[go_sem] theorem j52 {k:IntKind}{x y:Int}:ky .mul (.int k x) (.int k y)=some (.int k (j9 k (x*y))):=by simp[ky,qcx]
@[go_sem] theorem j58 {k:IntKind}{x y:Int}:ky .lss (.int k x) (.int k y)=some (.bool (decide (x<y))):=by simp[ky,qcx]
@[go_sem] theorem j6h {k:IntKind}{x y:Int}:ky .leq (.int k x) (.int k y)=some (.bool (decide (x≤y))):=by simp[ky,qcx]
@[go_sem] theorem j50 {k:IntKind}{x y:Int}:ky .gtr (.int k x) (.int k y)=some (.bool (decide (y<x))):=by simp[ky,qcx]
@[go_sem] theorem j6g {k:IntKind}{x y:Int}:ky .geq (.int k x) (.int k y)=some (.bool (decide (y≤x))):=by simp[ky,qcx]
@[go_sem] theorem j53 {k:IntKind}{x y:Int}:ky .eql (.int k x) (.int k y)=some (.bool (decide (x=y))):=by
 simp only[ky,qcx,decide_true,cT];congr 2
@[go_sem] theorem j6f {k:IntKind}{x y:Int}:ky .neq (.int k x) (.int k y)=some (.bool (!decide (x=y))):=by
 simp only[ky,qcx,decide_true,cT];congr 2
theorem yq {x:Int}(h1:-9223372036854775808≤x)(h2:x≤9223372036854775807):j9 .i64 x=x:=by
 have:qe9 .i64 x=true:=by
  cases x with
  |ofNat m=>simp only[qe9];exact Nat.ble_eq_true_of_le (by simp at h2;omega)
  |negSucc m=>simp only[qe9];exact Nat.ble_eq_true_of_le (by omega)
 simp[j9,this]
def jfa (h:ze)(b:Bool)(r:Option (qa×Bool)):Option qn:=match b,r with
 |true,some (v,o)=>some ⟨v,o,none,h⟩
 |_,_=>none
@[go_sem] theorem jzf {v:qa}{o:Bool}:jfa h true (some (v,o))=some ⟨v,o,none,h⟩:=rfl
def jg4 (n:Nat)(r:Option (qa×Bool×ze)):Option qn:=match r with
 |some (v,o,h')=>some ⟨v,o,none,qac n v h'⟩
 |none=>none
@[go_sem] theorem jx5 {n:Nat}{v:qa}{o:Bool}:jg4 n (some (v,o,h))=some ⟨v,o,none,qac n v h⟩:=rfl
def q5f (r:Option (qa×ze)):Option qn:=match r with
 |some (v,h')=>some ⟨v,false,none,h'⟩
 |none=>none
@[go_sem] theorem jp9 {v:qa}:q5f (some (v,h))=some ⟨v,false,none,h⟩:=rfl
def jac (h0 r:Nat)(h:ze)(b:Bool)(m:Option (List (qa×qa))):Option qn:=match b,m with
 |true,some es=>(match newBox h0 h r (.map es)with
  |some h'=>some ⟨.map (h0+r),false,none,h'⟩
  |none=>none)
 |_,_=>none
def q5c (h0 r:Nat)(h:ze)(b b':Bool)(m:Option (List (qa×qa)))(c:Option (qa×Bool)):Option qn:=match b with
 |true=>jac h0 r h true m
 |false=>(match b',c with
  |true,some (v,o)=>qcn h0 h r v o
  |_,_=>none)
@[go_sem] theorem j1v {r:Nat}{b':Bool}{m:Option (List (qa×qa))}{c:Option (qa×Bool)}:q5c h0 r h true b' m c=jac h0 r h true m:=rfl
@[go_sem] theorem jxt {r:Nat}{m:Option (List (qa×qa))}{v:qa}{o:Bool}:q5c h0 r h false true m (some (v,o))=qcn h0 h r v o:=rfl
def qy3 (p:qo)(xc:XC)(h:ze)(k:Nat):Option (List qa)→Option qn
 |some us=>bif yb 0 us then(match zb p xc k us with
  |some (v,o)=>(match qzb v o with
   |some (v',o')=>some ⟨v',o',none,h⟩
   |none=>none)
  |none=>none)else none
 |none=>none
def qp2 (p:qo)(xc:XC)(h0:Nat)(h:ze)(md:q9)(f:Option qa)(l:Option (List qa)):Option qn:=match f,l with
 |some (.fn (.func k) a c),some vs=>(match md with
  | .iso=>jfa h (yb 0 (a++vs++c)) (zb p xc k (a++vs++c))
  | .frz r=>q5c h0 r h (a++vs++c).isEmpty (yb 0 (a++vs++c)) (p.maps k) (zb p xc k (a++vs++c))
  | .red=>qy3 p xc h k (qbo h (a++vs++c))
  | .shr=>jg4 h.length (ye p xc k (a++vs++c) h))
 |some (.fn (.yield b) [] []),some vs=>(match md with
  | .shr=>q5f (qbn xc b vs h)
  |_=>none)
 |_,_=>none
@[go_sem] theorem j5h {md:q9}{f:qf}{l:List qf}:j8 p xc h0 al e h (.call md f l)=qp2 p xc h0 h md (zf e f) (qbe e l):=by
 simp only[j8,qat,qp2]
 split
 ·rename_i k first captured vs h1 h2
  rw[h1,h2]
  cases md with
  |iso=>
   simp only[]
   cases yb 0 (first++vs++captured)with
   |false=>cases zb p xc k (first++vs++captured)<;>rfl
   |true=>cases zb p xc k (first++vs++captured)<;>rfl
  |frz rk=>
   simp only[]
   cases (first++vs++captured).isEmpty with
   |false=>
    cases yb 0 (first++vs++captured)with
    |false=>cases zb p xc k (first++vs++captured)<;>rfl
    |true=>cases zb p xc k (first++vs++captured)<;>rfl
   |true=>
    cases p.maps k with
    |none=>rfl
    |some es=>simp only[cT,q5c,jac];cases newBox h0 h rk (.map es)<;>rfl
  |red=>simp only[];cases qbo h (first++vs++captured)<;>rfl
  |shr=>simp only[];cases ye p xc k (first++vs++captured) h<;>rfl
 ·rename_i b vs h1 h2
  rw[h1,h2]
  cases md with
  |shr=>simp only[];cases qbn xc b vs h<;>rfl
  |_=>rfl
 ·rename_i h1 h2
  split
  ·rename_i k a c vs g1 g2;exact absurd g2 (fun g2=>h1 k a c vs g1 g2)
  ·rename_i b vs g1 g2;exact absurd g2 (fun g2=>h2 b vs g1 g2)
  ·rfl
@[go_sem] theorem jzi {k:Nat}{a c vs:List qa}:qp2 p xc h0 h .iso (some (.fn (.func k) a c)) (some vs)=jfa h (yb 0 (a++vs++c)) (zb p xc k (a++vs++c)):=rfl
@[go_sem] theorem jyu {k r:Nat}{a c vs:List qa}:qp2 p xc h0 h (.frz r) (some (.fn (.func k) a c)) (some vs)=q5c h0 r h (a++vs++c).isEmpty (yb 0 (a++vs++c)) (p.maps k) (zb p xc k (a++vs++c)):=rfl
@[go_sem] theorem jyo {k:Nat}{a c vs:List qa}:qp2 p xc h0 h .red (some (.fn (.func k) a c)) (some vs)=qy3 p xc h k (qbo h (a++vs++c)):=rfl
@[go_sem] theorem jyr {k:Nat}{a c vs:List qa}:qp2 p xc h0 h .shr (some (.fn (.func k) a c)) (some vs)=jg4 h.length (ye p xc k (a++vs++c) h):=rfl
@[go_sem] theorem jp2 {b:Nat}{vs:List qa}:qp2 p xc h0 h .shr (some (.fn (.yield b) [] [])) (some vs)=q5f (qbn xc b vs h):=rfl
def qzo (rs:List qy)(r:Option (qj×qd)):Option (qa×Bool×ze):=match r with
 |some (.normal,st)=>(match qaj st rs with
   |some xs=>some ((yw xs).1,(yw xs).2,qa9 st rs)
   |none=>none)
 |some (.ret,st)=>(match qaj st rs with
   |some xs=>some ((yw xs).1,(yw xs).2,qa9 st rs)
   |none=>none)
 |_=>none
def jfp (st:qd)(rs:List qy)(r:Option (List (qa×Bool))):Option (qa×Bool×ze):=match r with
 |some xs=>some ((yw xs).1,(yw xs).2,qa9 st rs)
 |none=>none
@[go_sem] theorem jqp {rs:List qy}{st:qd}:qzo rs (some (.normal,st))=jfp st rs (qaj st rs):=rfl
@[go_sem] theorem j1y {rs:List qy}{st:qd}:qzo rs (some (.ret,st))=jfp st rs (qaj st rs):=rfl
@[go_sem] theorem jzb {st:qd}{rs:List qy}{xs:List (qa×Bool)}:jfp st rs (some xs)=some ((yw xs).1,(yw xs).2,qa9 st rs):=rfl
theorem kr {k nt:Nat}{body:qe}{rs:List qy}{args:List qa}(hf:p.fns k=some ⟨nt,body,rs⟩)(hl:args.length≤nt):ye p xc k args h=qzo rs (xc body ⟨qbp 0 args,h⟩):=by
 simp only[ye,hf,qc4,Nat.ble_eq_true_of_le hl,cT,qzo]
 rfl
def q9x (x:Option (qa×Bool))(l:Option (List (qa×Bool))):Option (List (qa×Bool)):=match x,l with
 |some v,some vs=>some (v::vs)
 |_,_=>none
@[go_sem] theorem jwj {v:qa×Bool}{vs:List (qa×Bool)}:q9x (some v) (some vs)=some (v::vs):=rfl
@[go_sem] theorem jk5 {st:qd}:qaj st []=some []:=rfl
@[go_sem] theorem jh9 {st:qd}{r:qy}{rs:List qy}:qaj st (r::rs)=q9x (qdp st r) (qaj st rs):=by
 simp only[qaj,q9x]
 cases qdp st r with
 |none=>rfl
 |some v=>cases qaj st rs<;>rfl
@[go_sem] theorem jmf {t:Nat}:qdp ⟨e,h⟩ (.tmp t)=look t e:=rfl
@[go_sem] theorem jzu {x:qa×Bool}:yw [x]=x:=rfl
@[go_sem] theorem jzw {x y:qa×Bool}:yw [x,y]=(.tup [x.1,y.1],false):=rfl
@[go_sem] theorem jts {x y z:qa×Bool}:yw [x,y,z]=(.tup [x.1,y.1,z.1],false):=rfl
@[go_sem] theorem jys:yw []=(.tup [],false):=rfl
@[go_sem] theorem jy5 {st:qd}{t:Nat}:qa9 st [.tmp t]=st.heap:=rfl
@[go_sem] theorem jx0 {st:qd}{x y:qy}{l:List qy}:qa9 st (x::y::l)=st.heap:=by
 cases x with
 |tmp t=>rfl
 |cell t a n=>cases a<;>rfl
@[go_sem] theorem jwo {st:qd}:qa9 st []=st.heap:=rfl
@[go_sem] theorem jy9 {st:qd}{t n:Nat}:qa9 st [.cell t true n]=st.heap:=rfl
@[go_sem] theorem j1n {o:Bool}:qjl true (some (.bool true,o))=some true:=rfl
@[go_sem] theorem j3e {o:Bool}:qjl true (some (.bool false,o))=some false:=rfl
@[go_sem] theorem j35 {o:Bool}:qjl false (some (.bool true,o))=some false:=rfl
@[go_sem] theorem j4g {o:Bool}:qjl false (some (.bool false,o))=some true:=rfl
attribute [go_sem] cT cF decide_true decide_false Bool.not_true Bool.not_false List.append_nil List.nil_append List.length_cons List.length_nil
@[go_sem] theorem j6a:List.replicate 0 qq.hole=[]:=rfl
end
section
variable {p:qo}{xc:XC}{h0:Nat}{al:Option (List Nat)}{e:Env}{h:ze}{α:Type}
def sl (z:Nat)(f:α→qa):Option (List α)→qa
 |none=>.list true 0 []
 |some l=>.list false z (l.map f)
@[go_sem] theorem j5x {z:Nat}{f:α→qa}{l:Option (List α)}:qvp 1 h (some (sl z f l))=some ⟨.int .i64 (l.getD []).length,false,none,h⟩:=by
 cases l<;>simp[sl,qvp,val]
theorem jog {z:Nat}{f:α→qa}{l:Option (List α)}{k:IntKind}{i:Nat}{x:α}(hx:(l.getD [])[i]?=some x):ql1 z h (some (sl z f l)) (some (.int k (i:Int)))=some ⟨.vptr (f x),false,none,h⟩:=by
 cases l with
 |none=>simp at hx
 |some l=>exact jg6 (by rw[List.getElem?_map,show l[i]?=some x from hx];rfl)
theorem qgn {n z:Nat}{f:α→qa}{l:Option (List α)}(hf:∀x,below n (f x)=true):below n (sl z f l)=true:=by
 have key:∀l:List α,yb n (l.map f)=true:=by
  intro l
  induction l with
  |nil=>rfl
  |cons x l ih=>simp[yb,hf,ih]
 cases l with
 |none=>rfl
 |some l=>simp only[sl,below];exact key l
theorem j5n {z:Nat}{f:α→qa}(hf:∀x y,f x=f y→x=y){a b:Option (List α)}(hab:sl z f a=sl z f b):a=b:=by
 have key:∀a b:List α,a.map f=b.map f→a=b:=by
  intro a
  induction a with
  |nil=>intro b hb;cases b<;>simp at hb<;>rfl
  |cons x a ih=>
   intro b hb
   cases b with
   |nil=>simp at hb
   |cons y b=>simp at hb;rw[hf _ _ hb.1,ih _ hb.2]
 cases a<;>cases b<;>simp[sl]at hab<;>first|rfl|rw[key _ _ hab]
def zg (n:Int):qa:=.int .i64 n
@[go_sem] theorem jug {i:Int}:qc0 h0 al false 1 h (some (.vptr (zg i)))=some ⟨.int .i64 i,false,none,h⟩:=rfl
end
end Go.Abs
