/- Equations of the executor for runs on values that are not known. -/
import Derived.Test.YtfopaakmgogpiaaGreatDoorAbsH
set_option linter.unusedVariables false
set_option linter.unusedSimpArgs false
namespace Go.Abs
section
variable {p:qt}{xc:XC}{h0:Nat}{al:Option (List Nat)}{e:Env}{h:j8}
def qw0 (r:Option (qo×qg))(f:qg→Option (qo×qg)):Option (qo×qg):=match r with
 |some (.normal,st)=>f st
 |r=>r
@[go_sem] theorem jsy {st:qg}{f:qg→Option (qo×qg)}:qw0 (some (.normal,st)) f=f st:=rfl
@[go_sem] theorem j82 {st:qg}{f:qg→Option (qo×qg)}:qw0 (some (.ret,st)) f=some (.ret,st):=rfl
@[go_sem] theorem jx2 {id:Nat}{st:qg}{f:qg→Option (qo×qg)}:qw0 (some (.exit id,st)) f=some (.exit id,st):=rfl
@[go_sem] theorem zji {a b:qe}{st:qg}:X p (.seq a b) st=qw0 (X p a st) (X p b):=by
 rw[j29];unfold qw0
 cases X p a st with
 |none=>rfl
 |some r=>obtain⟨x,s⟩:=r;cases x<;>rfl
def q1o (c:Option qa)(f g:qg→Option (qo×qg))(st:qg):Option (qo×qg):=match c with
 |some (.bool true)=>f st
 |some (.bool false)=>g st
 |_=>none
@[go_sem] theorem j6l {f g:qg→Option (qo×qg)}{st:qg}:q1o (some (.bool true)) f g st=f st:=rfl
@[go_sem] theorem jut {f g:qg→Option (qo×qg)}{st:qg}:q1o (some (.bool false)) f g st=g st:=rfl
@[go_sem] theorem zia {c:qh}{a b:qe}{st:qg}:X p (.cond c a b) st=q1o (zc st.env c) (X p a) (X p b) st:=by
 rw[jue];unfold q1o
 cases zc st.env c with
 |none=>rfl
 |some v=>cases v with
  |bool t=>cases t<;>rfl
  |_=>rfl
def qrg (id:Nat)(r:Option (qo×qg)):Option (qo×qg):=match r with
 |some (.exit id',st')=>if id'=id then some (.normal,st')else some (.exit id',st')
 |r=>r
@[go_sem] theorem juy {id id':Nat}{st:qg}:qrg id (some (.exit id',st))=if id'=id then some (.normal,st)else some (.exit id',st):=rfl
@[go_sem] theorem jnn {id:Nat}{st:qg}:qrg id (some (.normal,st))=some (.normal,st):=rfl
@[go_sem] theorem jxp {id:Nat}{st:qg}:qrg id (some (.ret,st))=some (.ret,st):=rfl
@[go_sem] theorem zan {id:Nat}{b:qe}{st:qg}:X p (.block id b) st=qrg id (X p b st):=by
 rw[jlm];unfold qrg
 cases X p b st with
 |none=>rfl
 |some r=>
  obtain⟨x,s⟩:=r
  cases x with
  |exit id'=>
   simp only[]
   by_cases hb:id'=id
   ·subst hb;simp
   ·rw[if_neg hb]
    cases hq:Nat.beq id' id with
    |true=>exact absurd (Nat.eq_of_beq_eq_true hq) hb
    |false=>rfl
  |_=>rfl
noncomputable def qs3 (p:qt)(b:qe)(n:Nat)(r:Option (qo×qg)):Option (qo×qg):=match r with
 |some (.normal,st')=>X p (.loop b) (gc n st')
 |r=>r
theorem jl2 {b:qe}{st:qg}:X p (.loop b) st=qs3 p b st.heap.length (X p b st):=by
 rw[jqf];unfold qs3
 cases X p b st with
 |none=>rfl
 |some r=>obtain⟨x,s⟩:=r;cases x<;>rfl
@[go_sem] theorem q37 {b:qe}{n:Nat}{st:qg}:qs3 p b n (some (.normal,st))=X p (.loop b) (gc n st):=rfl
@[go_sem] theorem j6t {b:qe}{n:Nat}{st:qg}:qs3 p b n (some (.ret,st))=some (.ret,st):=rfl
@[go_sem] theorem j0j {b:qe}{n id:Nat}{st:qg}:qs3 p b n (some (.exit id,st))=some (.exit id,st):=rfl
attribute [go_sem] jtg jti jye jdm qyn jt0
@[go_sem] theorem zi4 {env:Env}:gc 0 ⟨env,[]⟩=⟨env,[]⟩:=rfl
theorem qh3 {n:Nat}{st:qg}(hn:st.heap.length≤n):gc n st=st:=by
 unfold gc;rw[Nat.ble_eq_true_of_le hn];rfl
theorem zj8 {e e':Env}{h:j8}:gc (qg.mk e h).heap.length ⟨e',h⟩=⟨e',h⟩:=qh3 (Nat.le_refl _)
def jh5 (k:Option (List Nat))(r:Option qg):Option (qo×qg):=match r with
 |some st'=>some (.normal,qkd st' k)
 |none=>none
@[go_sem] theorem j6u {k:Option (List Nat)}{st:qg}:jh5 k (some st)=some (.normal,qkd st k):=rfl
@[go_sem] theorem zgh {na:Nat}{l:List qu}{k:Option (List Nat)}{st:qg}:qci p xc na l k st=jh5 k (qb3 p xc st.heap.length l ⟨st.env,st.heap++List.replicate na .hole⟩):=by
 unfold qci jh5;rfl
def joc (r:Option qg)(f:qg→Option qg):Option qg:=match r with
 |some st=>f st
 |none=>none
@[go_sem] theorem j8g {st:qg}{f:qg→Option qg}:joc (some st) f=f st:=rfl
@[go_sem] theorem zcb {st:qg}:qb3 p xc h0 [] st=some st:=rfl
@[go_sem] theorem j8w {o:qu}{l:List qu}{st:qg}:qb3 p xc h0 (o::l) st=joc (qao p xc h0 o st) (qb3 p xc h0 l):=rfl
def q83 (d:Option Nat)(e:Env)(r:Option qq):Option qg:=match r with
 |some r=>some ⟨qdq (k9 e r.strip) d r.v r.own,r.heap⟩
 |none=>none
@[go_sem] theorem j7x {d:Option Nat}{v:qa}{o:Bool}{s:Option Nat}:q83 d e (some ⟨v,o,s,h⟩)=some ⟨qdq (k9 e s) d v o,h⟩:=rfl
@[go_sem] theorem jng {d:Option Nat}{op:qw}{env:Env}:qao p xc h0 ⟨d,op,none,al⟩ ⟨env,h⟩=q83 d env (j9 p xc h0 al env h op):=rfl
def qxc (g:Option Bool)(d:Option Nat)(env:Env)(h:j8)(f:qw→Option qq)(op:qw):Option qg:=match g with
 |some true=>q83 d env (f op)
 |some false=>some ⟨qdq env d .undef false,h⟩
 |none=>none
@[go_sem] theorem jve {d:Option Nat}{env:Env}{f:qw→Option qq}{op:qw}:qxc (some true) d env h f op=q83 d env (f op):=rfl
@[go_sem] theorem jul {d:Option Nat}{env:Env}{f:qw→Option qq}{op:qw}:qxc (some false) d env h f op=some ⟨qdq env d .undef false,h⟩:=rfl
@[go_sem] theorem jnl {d:Option Nat}{op:qw}{g:Nat×Bool}{env:Env}:qao p xc h0 ⟨d,op,some g,al⟩ ⟨env,h⟩=qxc (qcb env (some g)) d env h (j9 p xc h0 al env h) op:=by
 unfold qao qxc
 simp only[]
 split
 ·rename_i hg;rw[hg];rfl
 ·rename_i hg;rw[hg]
 ·rename_i hg;rw[hg]
def qjd (b:Bool)(v:Option (qa×Bool)):Option Bool:=match v with
 |some (.bool c,_)=>some (c == b)
 |some (.undef,_)=>some false
 |_=>none
@[go_sem] theorem js4 {s:Nat}{b:Bool}:qcb e (some (s,b))=qjd b (ye s e):=by
 unfold qcb qjd;rfl
theorem jvc {b c:Bool}{o:Bool}:qjd b (some (.bool c,o))=some (c == b):=rfl
@[go_sem] theorem jok {b:Bool}{o:Bool}:qjd b (some (.undef,o))=some false:=rfl
@[go_sem] theorem j6s {s t:Nat}{x:qa×Bool}:ye t ((s,x)::e)=if s=t then some x else ye t e:=by
 by_cases hst:s=t
 ·subst hst;rw[if_pos rfl];simp[ye]
 ·rw[if_neg hst]
  have:Nat.beq s t=false:=by
   cases hb:Nat.beq s t with
   |false=>rfl
   |true=>exact absurd (Nat.eq_of_beq_eq_true hb) hst
  simp[ye,this]
@[go_sem] theorem zak {t:Nat}:ye t []=none:=rfl
def jn9 (x:Option (qa×Bool)):Option qa:=match x with
 |some x=>some x.1
 |none=>none
@[go_sem] theorem j6q {v:qa}{o:Bool}:jn9 (some (v,o))=some v:=rfl
@[go_sem] theorem j64 {t:Nat}:zc e (.tmp t)=jn9 (ye t e):=rfl
@[go_sem] theorem jvq {v:qa}:zc e (.const v)=some v:=rfl
def qgs (x:Option qa)(l:Option (List qa)):Option (List qa):=match x,l with
 |some v,some vs=>some (v::vs)
 |_,_=>none
@[go_sem] theorem j30 {v:qa}{vs:List qa}:qgs (some v) (some vs)=some (v::vs):=rfl
@[go_sem] theorem j6z:qa9 e []=some []:=rfl
@[go_sem] theorem j40 {x:qh}{l:List qh}:qa9 e (x::l)=qgs (zc e x) (qa9 e l):=by
 simp only[qa9,qgs]
 cases zc e x with
 |none=>rfl
 |some v=>cases qa9 e l<;>rfl
@[go_sem] theorem ju4 {l:List Nat}:qkd ⟨e,h⟩ (some l)=⟨qen e l,h⟩:=rfl
@[go_sem] theorem ju9:qkd ⟨e,h⟩ none=⟨e,h⟩:=rfl
def q1i (t:Nat)(x:Option (qa×Bool))(e:Env):Env:=match x with
 |some x=>(t,x)::e
 |none=>e
@[go_sem] theorem j0p {t:Nat}{x:qa×Bool}:q1i t (some x) e=(t,x)::e:=rfl
@[go_sem] theorem jyt {t:Nat}:q1i t none e=e:=rfl
@[go_sem] theorem jvi:qen e []=[]:=rfl
@[go_sem] theorem jn6 {t:Nat}{l:List Nat}:qen e (t::l)=q1i t (ye t e) (qen e l):=by
 simp only[qen,q1i]
 cases ye t e<;>rfl
@[go_sem] theorem jvm {d:Nat}{v:qa}{o:Bool}:qdq e (some d) v o=(d,v,o)::e:=rfl
@[go_sem] theorem ju8 {v:qa}{o:Bool}:qdq e none v o=e:=rfl
@[go_sem] theorem jnm:k9 e none=e:=rfl
def q4f (s:Nat)(x:Option (qa×Bool))(e:Env):Env:=match x with
 |some (v,_)=>(s,v,false)::e
 |none=>e
@[go_sem] theorem jvg {s:Nat}{v:qa}{o:Bool}:q4f s (some (v,o)) e=(s,v,false)::e:=rfl
@[go_sem] theorem jnp {s:Nat}:k9 e (some s)=q4f s (ye s e) e:=by
 simp only[k9,q4f]
 cases ye s e<;>rfl
@[go_sem] theorem j08 {i:Nat}:qeo i []=[]:=rfl
@[go_sem] theorem jva {i:Nat}{v:qa}{vs:List qa}:qeo i (v::vs)=(i,v,false)::qeo (i+1) vs:=rfl
@[go_sem] theorem j8b {v:qa}:qcj h (some v)=some ⟨v,false,none,h⟩:=rfl
@[go_sem] theorem zjb {v:qa}:val h v=some ⟨v,false,none,h⟩:=rfl
@[go_sem] theorem zjp {x:qh}:j9 p xc h0 al e h (.move x)=qcj h (zc e x):=rfl
def jaa (s:Nat)(h:j8)(x:Option (qa×Bool)):Option qq:=match x with
 |some (v,o)=>some ⟨v,o,some s,h⟩
 |none=>none
@[go_sem] theorem j50 {s:Nat}{v:qa}{o:Bool}:jaa s h (some (v,o))=some ⟨v,o,some s,h⟩:=rfl
@[go_sem] theorem zjn {s:Nat}:j9 p xc h0 al e h (.take s)=jaa s h (ye s e):=by
 simp only[j9,zh,jaa]
 cases ye s e<;>rfl
def jd7 (op:BinOp)(h:j8)(a b:Option qa):Option qq:=match a,b with
 |some a,some b=>qcj h (qam op a b)
 |_,_=>none
@[go_sem] theorem j8q {op:BinOp}{a b:qa}:jd7 op h (some a) (some b)=qcj h (qam op a b):=rfl
@[go_sem] theorem zj0 {op:BinOp}{x y:qh}:j9 p xc h0 al e h (.bin op x y)=jd7 op h (zc e x) (zc e y):=by
 simp only[j9,zh,jd7]
 cases zc e x<;>cases zc e y<;>rfl
def q9q (h:j8)(c a b:Option qa):Option qq:=match c,a,b with
 |some (.bool t),some x,some y=>val h (bif t then x else y)
 |_,_,_=>none
@[go_sem] theorem j4y {t:Bool}{a b:qa}:q9q h (some (.bool t)) (some a) (some b)=some ⟨bif t then a else b,false,none,h⟩:=rfl
@[go_sem] theorem zjg {c a b:qh}:j9 p xc h0 al e h (.pick c a b)=q9q h (zc e c) (zc e a) (zc e b):=by
 simp only[j9,zh,q9q]
 cases zc e c with
 |none=>rfl
 |some v=>cases v<;>cases zc e a<;>cases zc e b<;>rfl
def qp9 (k:Nat)(h:j8)(x:Option qa):Option qq:=match k,x with
 |1,some (.list _ _ xs)=>val h (.int .i64 xs.length)
 |1,some (.ms _ _ n)=>val h (.int .i64 n)
 |1,some (.vref _ _ n)=>val h (.int .i64 n)
 |2,some (.list true _ _)=>val h (.int .i64 0)
 |0,some (.str s)=>val h (.int .i64 s.length)
 |_,_=>none
@[go_sem] theorem j71 {b:Bool}{z:Nat}{xs:List qa}:qp9 1 h (some (.list b z xs))=some ⟨.int .i64 xs.length,false,none,h⟩:=rfl
@[go_sem] theorem ziu {b o n:Nat}:qp9 1 h (some (.ms b o n))=some ⟨.int .i64 n,false,none,h⟩:=rfl
@[go_sem] theorem j7v {b v n:Nat}:qp9 1 h (some (.vref b v n))=some ⟨.int .i64 n,false,none,h⟩:=rfl
@[go_sem] theorem zep {s:List UInt8}:qp9 0 h (some (.str s))=some ⟨.int .i64 s.length,false,none,h⟩:=rfl
@[go_sem] theorem j9h {z:Nat}{xs:List qa}:qp9 2 h (some (.list true z xs))=some ⟨.int .i64 0,false,none,h⟩:=rfl
@[go_sem] theorem zj1 {k:Nat}{x:qh}:j9 p xc h0 al e h (.len k x)=qp9 k h (zc e x):=rfl
def qmf (n:Nat)(i:Int):Option Nat:=if 0≤i∧i<n then some i.toNat else none
theorem qhb {n:Nat}{k:IntKind}{i:Int}:idx n (.int k i)=qmf n i:=by
 unfold idx qmf
 cases i with
 |ofNat m=>
  by_cases hm:m<n
  ·rw[if_pos ⟨by simp,by simp;omega⟩];simp[Nat.blt_eq.mpr hm]
  ·rw[if_neg (by simp;omega)]
   cases hb:Nat.blt m n with
   |true=>exact absurd (Nat.blt_eq.mp hb) hm
   |false=>simp[hb]
 |negSucc m=>simp
attribute [go_sem] qhb
theorem jmo {n:Nat}{i:Int}(h1:0≤i)(h2:i<n):qmf n i=some i.toNat:=by unfold qmf;rw[if_pos ⟨h1,h2⟩]
theorem qu8 {n i:Nat}(h:i<n):qmf n (i:Int)=some i:=by unfold qmf;rw[if_pos ⟨by simp,by omega⟩];simp
def qcq (sz:Nat)(h:j8)(x i:Option qa):Option qq:=match x,i with
 |some (.list _ sz' xs),some j=>bif Nat.beq sz sz'||xs.isEmpty then(match idx xs.length j with
   |some j=>(match xs[j]? with
    |some v=>val h (.vptr v)
    |none=>none)
   |none=>none)else none
 |some (.ms b o len),some j=>(match idx len j with
   |some j=>val h (.ptr b (o+j*sz))
   |none=>none)
 |some (.vref b ver len),some j=>(match idx len j with
   |some j=>val h (.vel b ver (j*sz))
   |none=>none)
 |_,_=>none
@[go_sem] theorem juv {sz:Nat}{x i:qh}:j9 p xc h0 al e h (.indexAddr sz x i)=qcq sz h (zc e x) (zc e i):=by
 simp only[j9,zh,qcq]
 cases zc e x with
 |none=>rfl
 |some v=>cases v<;>cases zc e i<;>rfl
theorem jci {sz:Nat}{b:Bool}{k:IntKind}{xs:List qa}{i:Int}{v:qa}(h1:0≤i)(hv:xs[i.toNat]?=some v):qcq sz h (some (.list b sz xs)) (some (.int k i))=some ⟨.vptr v,false,none,h⟩:=by
 have hl:=(List.getElem?_eq_some_iff.1 hv).1
 have hi:idx xs.length (.int k i)=some i.toNat:=by rw[qhb];exact jmo h1 (by omega)
 simp only[qcq,hi,Nat.beq_refl,Bool.true_or,cT,hv]
 rfl
theorem jh4 {sz:Nat}{b:Bool}{k:IntKind}{xs:List qa}{i:Nat}{v:qa}(hv:xs[i]?=some v):qcq sz h (some (.list b sz xs)) (some (.int k (i:Int)))=some ⟨.vptr v,false,none,h⟩:=
 jci (by simp) (by simpa using hv)
def qas (h0:Nat)(al:Option (List Nat))(agg:Bool)(n:Nat)(h:j8)(x:Option qa):Option qq:=match x with
 |some (.ptr b o)=>bif yv h0 al b then(match yn h b with
   |some cs=>(match y9 cs o n with
    |some vs=>bif agg then val h (.agg vs)else(match vs with
     | [v]=>val h v
     |_=>none)
    |none=>none)
   |none=>none)else none
 |some (.vptr v)=>bif Bool.xor agg v.isAgg||!(Nat.beq v.flat.length n)then none else val h v
 |some (.vel b ver o)=>bif qgl h0 al b then(match y6 h b with
   |some (.vec _ ver' xs)=>bif Nat.beq ver ver'&&Nat.ble (o+n) (xs.flatMap qa.flat).length then(bif agg then val h (.agg (((xs.flatMap qa.flat).drop o).take n))else(match((xs.flatMap qa.flat).drop o).take n with
     | [v]=>val h v
     |_=>none))else none
   |_=>none)else none
 |_=>none
@[go_sem] theorem zjf {agg:Bool}{n:Nat}{x:qh}:j9 p xc h0 al e h (.load agg n x)=qas h0 al agg n h (zc e x):=by
 simp only[j9,qaf,qas]
 cases zc e x with
 |none=>rfl
 |some v=>cases v<;>rfl
def jjr:Option qa→Option qa
 |some (.vptr v)=>some (.vptr v)
 |_=>none
@[go_sem] theorem ziv {v:qa}:jjr (some (.vptr v))=some (.vptr v):=rfl
@[go_sem] theorem ziy {agg:Bool}{n:Nat}{x:qh}:j9 p xc h0 al e h (.vload agg n x)=qas h0 al agg n h (jjr (zc e x)):=by
 simp only[j9,zh,qas]
 cases zc e x with
 |none=>rfl
 |some v=>cases v<;>rfl
@[go_sem] theorem j7d {k:IntKind}{i:Int}:qas h0 al false 1 h (some (.vptr (.int k i)))=some ⟨.int k i,false,none,h⟩:=rfl
@[go_sem] theorem j8r {s:List UInt8}:qas h0 al false 1 h (some (.vptr (.str s)))=some ⟨.str s,false,none,h⟩:=rfl
@[go_sem] theorem jx3 {b:Bool}:qas h0 al false 1 h (some (.vptr (.bool b)))=some ⟨.bool b,false,none,h⟩:=rfl
@[go_sem] theorem j2q {b:Bool}{z:Nat}{xs:List qa}:qas h0 al false 1 h (some (.vptr (.list b z xs)))=some ⟨.list b z xs,false,none,h⟩:=rfl
theorem jav {n:Nat}{cs:List qa}(hn:cs.length=n):qas h0 al true n h (some (.vptr (.agg cs)))=some ⟨.agg cs,false,none,h⟩:=by
 subst hn;simp[qas,qa.isAgg,qa.flat,val]
@[go_sem] theorem zj6 {k:IntKind}{x y:Int}:qam .add (.int k x) (.int k y)=some (.int k (j6 k (x+y))):=by simp[qam,qei]
@[go_sem] theorem zj7 {k:IntKind}{x y:Int}:qam .sub (.int k x) (.int k y)=some (.int k (j6 k (x-y))):=by simp[qam,qei]
@[go_sem] theorem zj5 {k:IntKind}{x y:Int}:qam .mul (.int k x) (.int k y)=some (.int k (j6 k (x*y))):=by simp[qam,qei]
@[go_sem] theorem zkd {k:IntKind}{x y:Int}:qam .lss (.int k x) (.int k y)=some (.bool (decide (x<y))):=by simp[qam,qei]
@[go_sem] theorem zju {k:IntKind}{x y:Int}:qam .leq (.int k x) (.int k y)=some (.bool (decide (x≤y))):=by simp[qam,qei]
@[go_sem] theorem zjv {k:IntKind}{x y:Int}:qam .gtr (.int k x) (.int k y)=some (.bool (decide (y<x))):=by simp[qam,qei]
@[go_sem] theorem zkc {k:IntKind}{x y:Int}:qam .geq (.int k x) (.int k y)=some (.bool (decide (y≤x))):=by simp[qam,qei]
@[go_sem] theorem zj4 {k:IntKind}{x y:Int}:qam .eql (.int k x) (.int k y)=some (.bool (decide (x=y))):=by
 simp only[qam,qei,decide_true,cT];congr 2
@[go_sem] theorem zjx {k:IntKind}{x y:Int}:qam .neq (.int k x) (.int k y)=some (.bool (!decide (x=y))):=by
 simp only[qam,qei,decide_true,cT];congr 2
theorem q0j {x:Int}(h1:-9223372036854775808≤x)(h2:x≤9223372036854775807):j6 .i64 x=x:=by
 have:qfi .i64 x=true:=by
  cases x with
  |ofNat m=>simp only[qfi];exact Nat.ble_eq_true_of_le (by simp at h2;omega)
  |negSucc m=>simp only[qfi];exact Nat.ble_eq_true_of_le (by omega)
 simp[j6,this]
def jis (h:j8)(b:Bool)(r:Option (qa×Bool)):Option qq:=match b,r with
 |true,some (v,o)=>some ⟨v,o,none,h⟩
 |_,_=>none
@[go_sem] theorem j7y {v:qa}{o:Bool}:jis h true (some (v,o))=some ⟨v,o,none,h⟩:=rfl
def jhj (n:Nat)(r:Option (qa×Bool×j8)):Option qq:=match r with
 |some (v,o,h')=>some ⟨v,o,none,yi n v h'⟩
 |none=>none
@[go_sem] theorem j78 {n:Nat}{v:qa}{o:Bool}:jhj n (some (v,o,h))=some ⟨v,o,none,yi n v h⟩:=rfl
def q1x (r:Option (qa×j8)):Option qq:=match r with
 |some (v,h')=>some ⟨v,false,none,h'⟩
 |none=>none
@[go_sem] theorem ju5 {v:qa}:q1x (some (v,h))=some ⟨v,false,none,h⟩:=rfl
def q9b (h0 r:Nat)(h:j8)(b:Bool)(m:Option (List (qa×qa))):Option qq:=match b,m with
 |true,some es=>(match newBox h0 h r (.map es)with
  |some h'=>some ⟨.map (h0+r),false,none,h'⟩
  |none=>none)
 |_,_=>none
def q2q (h0 r:Nat)(h:j8)(b b':Bool)(m:Option (List (qa×qa)))(c:Option (qa×Bool)):Option qq:=match b with
 |true=>q9b h0 r h true m
 |false=>(match b',c with
  |true,some (v,o)=>qhc h0 h r v o
  |_,_=>none)
@[go_sem] theorem zd3 {r:Nat}{b':Bool}{m:Option (List (qa×qa))}{c:Option (qa×Bool)}:q2q h0 r h true b' m c=q9b h0 r h true m:=rfl
@[go_sem] theorem j60 {r:Nat}{m:Option (List (qa×qa))}{v:qa}{o:Bool}:q2q h0 r h false true m (some (v,o))=qhc h0 h r v o:=rfl
def jro (p:qt)(xc:XC)(h:j8)(k:Nat):Option (List qa)→Option qq
 |some us=>bif zu 0 us then(match jy p xc k us with
  |some (v,o)=>(match q9w v o with
   |some (v',o')=>some ⟨v',o',none,h⟩
   |none=>none)
  |none=>none)else none
 |none=>none
def qon (p:qt)(xc:XC)(h0:Nat)(h:j8)(md:jc)(f:Option qa)(l:Option (List qa)):Option qq:=match f,l with
 |some (.fn (.func k) a c),some vs=>(match md with
  | .iso=>jis h (zu 0 (a++vs++c)) (jy p xc k (a++vs++c))
  | .frz r=>q2q h0 r h (a++vs++c).isEmpty (zu 0 (a++vs++c)) (p.maps k) (jy p xc k (a++vs++c))
  | .red=>jro p xc h k (qg9 h (a++vs++c))
  | .shr=>jhj h.length (zf p xc k (a++vs++c) h))
 |some (.fn (.yield b) [] []),some vs=>(match md with
  | .shr=>q1x (qbh xc b vs h)
  |_=>none)
 |_,_=>none
@[go_sem] theorem zjd {md:jc}{f:qh}{l:List qh}:j9 p xc h0 al e h (.call md f l)=qon p xc h0 h md (zc e f) (qa9 e l):=by
 simp only[j9,qap,qon]
 split
 ·rename_i k first captured vs h1 h2
  rw[h1,h2]
  cases md with
  |iso=>
   simp only[]
   cases zu 0 (first++vs++captured)with
   |false=>cases jy p xc k (first++vs++captured)<;>rfl
   |true=>cases jy p xc k (first++vs++captured)<;>rfl
  |frz rk=>
   simp only[]
   cases (first++vs++captured).isEmpty with
   |false=>
    cases zu 0 (first++vs++captured)with
    |false=>cases jy p xc k (first++vs++captured)<;>rfl
    |true=>cases jy p xc k (first++vs++captured)<;>rfl
   |true=>
    cases p.maps k with
    |none=>rfl
    |some es=>simp only[cT,q2q,q9b];cases newBox h0 h rk (.map es)<;>rfl
  |red=>simp only[];cases qg9 h (first++vs++captured)<;>rfl
  |shr=>simp only[];cases zf p xc k (first++vs++captured) h<;>rfl
 ·rename_i b vs h1 h2
  rw[h1,h2]
  cases md with
  |shr=>simp only[];cases qbh xc b vs h<;>rfl
  |_=>rfl
 ·rename_i h1 h2
  split
  ·rename_i k a c vs g1 g2;exact absurd g2 (fun g2=>h1 k a c vs g1 g2)
  ·rename_i b vs g1 g2;exact absurd g2 (fun g2=>h2 b vs g1 g2)
  ·rfl
@[go_sem] theorem j7w {k:Nat}{a c vs:List qa}:qon p xc h0 h .iso (some (.fn (.func k) a c)) (some vs)=jis h (zu 0 (a++vs++c)) (jy p xc k (a++vs++c)):=rfl
@[go_sem] theorem j6w {k r:Nat}{a c vs:List qa}:qon p xc h0 h (.frz r) (some (.fn (.func k) a c)) (some vs)=q2q h0 r h (a++vs++c).isEmpty (zu 0 (a++vs++c)) (p.maps k) (jy p xc k (a++vs++c)):=rfl
@[go_sem] theorem j6v {k:Nat}{a c vs:List qa}:qon p xc h0 h .red (some (.fn (.func k) a c)) (some vs)=jro p xc h k (qg9 h (a++vs++c)):=rfl
@[go_sem] theorem j8i {k:Nat}{a c vs:List qa}:qon p xc h0 h .shr (some (.fn (.func k) a c)) (some vs)=jhj h.length (zf p xc k (a++vs++c) h):=rfl
@[go_sem] theorem jvs {b:Nat}{vs:List qa}:qon p xc h0 h .shr (some (.fn (.yield b) [] [])) (some vs)=q1x (qbh xc b vs h):=rfl
def qzr (rs:List ja)(r:Option (qo×qg)):Option (qa×Bool×j8):=match r with
 |some (.normal,st)=>(match qa1 st rs with
   |some xs=>some ((yt xs).1,(yt xs).2,qa8 st rs)
   |none=>none)
 |some (.ret,st)=>(match qa1 st rs with
   |some xs=>some ((yt xs).1,(yt xs).2,qa8 st rs)
   |none=>none)
 |_=>none
def jfw (st:qg)(rs:List ja)(r:Option (List (qa×Bool))):Option (qa×Bool×j8):=match r with
 |some xs=>some ((yt xs).1,(yt xs).2,qa8 st rs)
 |none=>none
@[go_sem] theorem jvo {rs:List ja}{st:qg}:qzr rs (some (.normal,st))=jfw st rs (qa1 st rs):=rfl
@[go_sem] theorem zcs {rs:List ja}{st:qg}:qzr rs (some (.ret,st))=jfw st rs (qa1 st rs):=rfl
@[go_sem] theorem j76 {st:qg}{rs:List ja}{xs:List (qa×Bool)}:jfw st rs (some xs)=some ((yt xs).1,(yt xs).2,qa8 st rs):=rfl
theorem zd {k nt:Nat}{body:qe}{rs:List ja}{args:List qa}(hf:p.fns k=some ⟨nt,body,rs⟩)(hl:args.length≤nt):zf p xc k args h=qzr rs (xc body ⟨qeo 0 args,h⟩):=by
 simp only[zf,hf,qcy,Nat.ble_eq_true_of_le hl,cT,qzr]
 rfl
def q9u (x:Option (qa×Bool))(l:Option (List (qa×Bool))):Option (List (qa×Bool)):=match x,l with
 |some v,some vs=>some (v::vs)
 |_,_=>none
@[go_sem] theorem j4i {v:qa×Bool}{vs:List (qa×Bool)}:q9u (some v) (some vs)=some (v::vs):=rfl
@[go_sem] theorem jnj {st:qg}:qa1 st []=some []:=rfl
@[go_sem] theorem jlc {st:qg}{r:ja}{rs:List ja}:qa1 st (r::rs)=q9u (qd4 st r) (qa1 st rs):=by
 simp only[qa1,q9u]
 cases qd4 st r with
 |none=>rfl
 |some v=>cases qa1 st rs<;>rfl
@[go_sem] theorem jsp {t:Nat}:qd4 ⟨e,h⟩ (.tmp t)=ye t e:=rfl
@[go_sem] theorem ze5 {x:qa×Bool}:yt [x]=x:=rfl
@[go_sem] theorem zdz {x y:qa×Bool}:yt [x,y]=(.tup [x.1,y.1],false):=rfl
@[go_sem] theorem jys {x y z:qa×Bool}:yt [x,y,z]=(.tup [x.1,y.1,z.1],false):=rfl
@[go_sem] theorem j7z:yt []=(.tup [],false):=rfl
@[go_sem] theorem j83 {st:qg}{t:Nat}:qa8 st [.tmp t]=st.heap:=rfl
@[go_sem] theorem j61 {st:qg}{x y:ja}{l:List ja}:qa8 st (x::y::l)=st.heap:=by
 cases x with
 |tmp t=>rfl
 |cell t a n=>cases a<;>rfl
@[go_sem] theorem jwe {st:qg}:qa8 st []=st.heap:=rfl
@[go_sem] theorem j7t {st:qg}{t n:Nat}:qa8 st [.cell t true n]=st.heap:=rfl
@[go_sem] theorem ze8 {o:Bool}:qjd true (some (.bool true,o))=some true:=rfl
@[go_sem] theorem zea {o:Bool}:qjd true (some (.bool false,o))=some false:=rfl
@[go_sem] theorem zdu {o:Bool}:qjd false (some (.bool true,o))=some false:=rfl
@[go_sem] theorem zcn {o:Bool}:qjd false (some (.bool false,o))=some true:=rfl
attribute [go_sem] cT cond_false decide_true decide_false Bool.not_true Bool.not_false List.append_nil List.nil_append List.length_cons List.length_nil
@[go_sem] theorem zj3:List.replicate 0 qn.hole=[]:=rfl
end
section
variable {p:qt}{xc:XC}{h0:Nat}{al:Option (List Nat)}{e:Env}{h:j8}{α:Type}
def sl (z:Nat)(f:α→qa):Option (List α)→qa
 |none=>.list true 0 []
 |some l=>.list false z (l.map f)
@[go_sem] theorem zja {z:Nat}{f:α→qa}{l:Option (List α)}:qp9 1 h (some (sl z f l))=some ⟨.int .i64 (l.getD []).length,false,none,h⟩:=by
 cases l<;>simp[sl,qp9,val]
theorem jq1 {z:Nat}{f:α→qa}{l:Option (List α)}{k:IntKind}{i:Nat}{x:α}(hx:(l.getD [])[i]?=some x):qcq z h (some (sl z f l)) (some (.int k (i:Int)))=some ⟨.vptr (f x),false,none,h⟩:=by
 cases l with
 |none=>simp at hx
 |some l=>exact jh4 (by rw[List.getElem?_map,show l[i]?=some x from hx];rfl)
theorem qdx {n z:Nat}{f:α→qa}{l:Option (List α)}(hf:∀x,below n (f x)=true):below n (sl z f l)=true:=by
 have key:∀l:List α,zu n (l.map f)=true:=by
  intro l
  induction l with
  |nil=>rfl
  |cons x l ih=>simp[zu,hf,ih]
 cases l with
 |none=>rfl
 |some l=>simp only[sl,below];exact key l
theorem zi6 {z:Nat}{f:α→qa}(hf:∀x y,f x=f y→x=y){a b:Option (List α)}(hab:sl z f a=sl z f b):a=b:=by
 have key:∀a b:List α,a.map f=b.map f→a=b:=by
  intro a
  induction a with
  |nil=>intro b hb;cases b<;>simp at hb<;>rfl
  |cons x a ih=>
   intro b hb
   cases b with
   |nil=>simp at hb
   |cons y b=>simp at hb;rw[hf _ _ hb.1,ih _ hb.2]
 cases a<;>cases b<;>simp[sl]at hab<;>first|rfl|rw[key _ _ hab]
def kr (n:Int):qa:=.int .i64 n
@[go_sem] theorem j1n {i:Int}:qas h0 al false 1 h (some (.vptr (kr i)))=some ⟨.int .i64 i,false,none,h⟩:=rfl
end
end Go.Abs
