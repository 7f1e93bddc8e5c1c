/- Equations of the executor for runs on values that are not known. -/
import Derived.Test.YtnjngdcbkkonnaaGreatDoorAbsH
set_option linter.unusedVariables false
set_option linter.unusedSimpArgs false
namespace Go.Abs
section
variable {p:qn}{xc:XC}{h0:Nat}{al:Option (List Nat)}{e:Env}{h:zd}
def qx2 (r:Option (qi×qc))(f:qc→Option (qi×qc)):Option (qi×qc):=match r with
 |some (.normal,st)=>f st
 |r=>r
@[go_sem] theorem jkf {st:qc}{f:qc→Option (qi×qc)}:qx2 (some (.normal,st)) f=f st:=rfl
@[go_sem] theorem jxk {st:qc}{f:qc→Option (qi×qc)}:qx2 (some (.ret,st)) f=some (.ret,st):=rfl
@[go_sem] theorem jp1 {id:Nat}{st:qc}{f:qc→Option (qi×qc)}:qx2 (some (.exit id,st)) f=some (.exit id,st):=rfl
@[go_sem] theorem j5i {a b:qe}{st:qc}:X p (.seq a b) st=qx2 (X p a st) (X p b):=by
 rw[jwp];unfold qx2
 cases X p a st with
 |none=>rfl
 |some r=>obtain⟨x,s⟩:=r;cases x<;>rfl
def q1e (c:Option qa)(f g:qc→Option (qi×qc))(st:qc):Option (qi×qc):=match c with
 |some (.bool true)=>f st
 |some (.bool false)=>g st
 |_=>none
@[go_sem] theorem ju7 {f g:qc→Option (qi×qc)}{st:qc}:q1e (some (.bool true)) f g st=f st:=rfl
@[go_sem] theorem joh {f g:qc→Option (qi×qc)}{st:qc}:q1e (some (.bool false)) f g st=g st:=rfl
@[go_sem] theorem j4q {c:qf}{a b:qe}{st:qc}:X p (.cond c a b) st=q1e (zc st.env c) (X p a) (X p b) st:=by
 rw[jlv];unfold q1e
 cases zc st.env c with
 |none=>rfl
 |some v=>cases v with
  |bool t=>cases t<;>rfl
  |_=>rfl
def qlw (id:Nat)(r:Option (qi×qc)):Option (qi×qc):=match r with
 |some (.exit id',st')=>if id'=id then some (.normal,st')else some (.exit id',st')
 |r=>r
@[go_sem] theorem jpc {id id':Nat}{st:qc}:qlw id (some (.exit id',st))=if id'=id then some (.normal,st)else some (.exit id',st):=rfl
@[go_sem] theorem ji0 {id:Nat}{st:qc}:qlw id (some (.normal,st))=some (.normal,st):=rfl
@[go_sem] theorem juc {id:Nat}{st:qc}:qlw id (some (.ret,st))=some (.ret,st):=rfl
@[go_sem] theorem jy7 {id:Nat}{b:qe}{st:qc}:X p (.block id b) st=qlw id (X p b st):=by
 rw[jgt];unfold qlw
 cases X p b st with
 |none=>rfl
 |some r=>
  obtain⟨x,s⟩:=r
  cases x with
  |exit id'=>
   simp only[]
   by_cases hb:id'=id
   ·subst hb;simp
   ·rw[if_neg hb]
    cases hq:Nat.beq id' id with
    |true=>exact absurd (Nat.eq_of_beq_eq_true hq) hb
    |false=>rfl
  |_=>rfl
noncomputable def qmw (p:qn)(b:qe)(n:Nat)(r:Option (qi×qc)):Option (qi×qc):=match r with
 |some (.normal,st')=>X p (.loop b) (gc n st')
 |r=>r
theorem q6h {b:qe}{st:qc}:X p (.loop b) st=qmw p b st.heap.length (X p b st):=by
 rw[jkm];unfold qmw
 cases X p b st with
 |none=>rfl
 |some r=>obtain⟨x,s⟩:=r;cases x<;>rfl
@[go_sem] theorem q2t {b:qe}{n:Nat}{st:qc}:qmw p b n (some (.normal,st))=X p (.loop b) (gc n st):=rfl
@[go_sem] theorem jyx {b:qe}{n:Nat}{st:qc}:qmw p b n (some (.ret,st))=some (.ret,st):=rfl
@[go_sem] theorem jpj {b:qe}{n id:Nat}{st:qc}:qmw p b n (some (.exit id,st))=some (.exit id,st):=rfl
attribute [go_sem] jmn jkv jrw jds qzz jj0
@[go_sem] theorem j45 {env:Env}:gc 0 ⟨env,[]⟩=⟨env,[]⟩:=rfl
theorem qks {n:Nat}{st:qc}(hn:st.heap.length≤n):gc n st=st:=by
 unfold gc;rw[Nat.ble_eq_true_of_le hn];rfl
theorem j55 {e e':Env}{h:zd}:gc (qc.mk e h).heap.length ⟨e',h⟩=⟨e',h⟩:=qks (Nat.le_refl _)
def jer (k:Option (List Nat))(r:Option qc):Option (qi×qc):=match r with
 |some st'=>some (.normal,qlv st' k)
 |none=>none
@[go_sem] theorem jxg {k:Option (List Nat)}{st:qc}:jer k (some st)=some (.normal,qlv st k):=rfl
@[go_sem] theorem j2h {na:Nat}{l:List qo}{k:Option (List Nat)}{st:qc}:qce p xc na l k st=jer k (qb0 p xc st.heap.length l ⟨st.env,st.heap++List.replicate na .hole⟩):=by
 unfold qce jer;rfl
def jls (r:Option qc)(f:qc→Option qc):Option qc:=match r with
 |some st=>f st
 |none=>none
@[go_sem] theorem jxu {st:qc}{f:qc→Option qc}:jls (some st) f=f st:=rfl
@[go_sem] theorem j31 {st:qc}:qb0 p xc h0 [] st=some st:=rfl
@[go_sem] theorem jxd {o:qo}{l:List qo}{st:qc}:qb0 p xc h0 (o::l) st=jls (qat p xc h0 o st) (qb0 p xc h0 l):=rfl
def q8z (d:Option Nat)(e:Env)(r:Option qm):Option qc:=match r with
 |some r=>some ⟨qdi (qai e r.strip) d r.v r.own,r.heap⟩
 |none=>none
@[go_sem] theorem jxl {d:Option Nat}{v:qa}{o:Bool}{s:Option Nat}:q8z d e (some ⟨v,o,s,h⟩)=some ⟨qdi (qai e s) d v o,h⟩:=rfl
@[go_sem] theorem ji5 {d:Option Nat}{op:qt}{env:Env}:qat p xc h0 ⟨d,op,none,al⟩ ⟨env,h⟩=q8z d env (j9 p xc h0 al env h op):=rfl
def qxj (g:Option Bool)(d:Option Nat)(env:Env)(h:zd)(f:qt→Option qm)(op:qt):Option qc:=match g with
 |some true=>q8z d env (f op)
 |some false=>some ⟨qdi env d .undef false,h⟩
 |none=>none
@[go_sem] theorem jos {d:Option Nat}{env:Env}{f:qt→Option qm}{op:qt}:qxj (some true) d env h f op=q8z d env (f op):=rfl
@[go_sem] theorem jji {d:Option Nat}{env:Env}{f:qt→Option qm}{op:qt}:qxj (some false) d env h f op=some ⟨qdi env d .undef false,h⟩:=rfl
@[go_sem] theorem jjb {d:Option Nat}{op:qt}{g:Nat×Bool}{env:Env}:qat p xc h0 ⟨d,op,some g,al⟩ ⟨env,h⟩=qxj (qco env (some g)) d env h (j9 p xc h0 al env h) op:=by
 unfold qat qxj
 simp only[]
 split
 ·rename_i hg;rw[hg];rfl
 ·rename_i hg;rw[hg]
 ·rename_i hg;rw[hg]
def qi4 (b:Bool)(v:Option (qa×Bool)):Option Bool:=match v with
 |some (.bool c,_)=>some (c == b)
 |some (.undef,_)=>some false
 |_=>none
@[go_sem] theorem jm2 {s:Nat}{b:Bool}:qco e (some (s,b))=qi4 b (look s e):=by
 unfold qco qi4;rfl
theorem jo5 {b c:Bool}{o:Bool}:qi4 b (some (.bool c,o))=some (c == b):=rfl
@[go_sem] theorem jnh {b:Bool}{o:Bool}:qi4 b (some (.undef,o))=some false:=rfl
@[go_sem] theorem jxp {s t:Nat}{x:qa×Bool}:look t ((s,x)::e)=if s=t then some x else look t e:=by
 by_cases hst:s=t
 ·subst hst;rw[if_pos rfl];simp[look]
 ·rw[if_neg hst]
  have:Nat.beq s t=false:=by
   cases hb:Nat.beq s t with
   |false=>rfl
   |true=>exact absurd (Nat.eq_of_beq_eq_true hb) hst
  simp[look,this]
@[go_sem] theorem jzr {t:Nat}:look t []=none:=rfl
def jl9 (x:Option (qa×Bool)):Option qa:=match x with
 |some x=>some x.1
 |none=>none
@[go_sem] theorem jyw {v:qa}{o:Bool}:jl9 (some (v,o))=some v:=rfl
@[go_sem] theorem jw3 {t:Nat}:zc e (.tmp t)=jl9 (look t e):=rfl
@[go_sem] theorem jn8 {v:qa}:zc e (.const v)=some v:=rfl
def qgc (x:Option qa)(l:Option (List qa)):Option (List qa):=match x,l with
 |some v,some vs=>some (v::vs)
 |_,_=>none
@[go_sem] theorem jv1 {v:qa}{vs:List qa}:qgc (some v) (some vs)=some (v::vs):=rfl
@[go_sem] theorem jya:qbe e []=some []:=rfl
@[go_sem] theorem jsh {x:qf}{l:List qf}:qbe e (x::l)=qgc (zc e x) (qbe e l):=by
 simp only[qbe,qgc]
 cases zc e x with
 |none=>rfl
 |some v=>cases qbe e l<;>rfl
@[go_sem] theorem joo {l:List Nat}:qlv ⟨e,h⟩ (some l)=⟨qdr e l,h⟩:=rfl
@[go_sem] theorem jo9:qlv ⟨e,h⟩ none=⟨e,h⟩:=rfl
def q1p (t:Nat)(x:Option (qa×Bool))(e:Env):Env:=match x with
 |some x=>(t,x)::e
 |none=>e
@[go_sem] theorem juu {t:Nat}{x:qa×Bool}:q1p t (some x) e=(t,x)::e:=rfl
@[go_sem] theorem juy {t:Nat}:q1p t none e=e:=rfl
@[go_sem] theorem jok:qdr e []=[]:=rfl
@[go_sem] theorem jm0 {t:Nat}{l:List Nat}:qdr e (t::l)=q1p t (look t e) (qdr e l):=by
 simp only[qdr,q1p]
 cases look t e<;>rfl
@[go_sem] theorem joe {d:Nat}{v:qa}{o:Bool}:qdi e (some d) v o=(d,v,o)::e:=rfl
@[go_sem] theorem jn7 {v:qa}{o:Bool}:qdi e none v o=e:=rfl
@[go_sem] theorem jjd:qai e none=e:=rfl
def q2z (s:Nat)(x:Option (qa×Bool))(e:Env):Env:=match x with
 |some (v,_)=>(s,v,false)::e
 |none=>e
@[go_sem] theorem jol {s:Nat}{v:qa}{o:Bool}:q2z s (some (v,o)) e=(s,v,false)::e:=rfl
@[go_sem] theorem ji9 {s:Nat}:qai e (some s)=q2z s (look s e) e:=by
 simp only[qai,q2z]
 cases look s e<;>rfl
@[go_sem] theorem jsm {i:Nat}:qbr i []=[]:=rfl
@[go_sem] theorem jor {i:Nat}{v:qa}{vs:List qa}:qbr i (v::vs)=(i,v,false)::qbr (i+1) vs:=rfl
@[go_sem] theorem jyv {v:qa}:qb8 h (some v)=some ⟨v,false,none,h⟩:=rfl
@[go_sem] theorem j4w {v:qa}:val h v=some ⟨v,false,none,h⟩:=rfl
@[go_sem] theorem j46 {x:qf}:j9 p xc h0 al e h (.move x)=qb8 h (zc e x):=rfl
def q8b (s:Nat)(h:zd)(x:Option (qa×Bool)):Option qm:=match x with
 |some (v,o)=>some ⟨v,o,some s,h⟩
 |none=>none
@[go_sem] theorem jq6 {s:Nat}{v:qa}{o:Bool}:q8b s h (some (v,o))=some ⟨v,o,some s,h⟩:=rfl
@[go_sem] theorem j5h {s:Nat}:j9 p xc h0 al e h (.take s)=q8b s h (look s e):=by
 simp only[j9,zn,q8b]
 cases look s e<;>rfl
def jdt (op:BinOp)(h:zd)(a b:Option qa):Option qm:=match a,b with
 |some a,some b=>qb8 h (k9 op a b)
 |_,_=>none
@[go_sem] theorem jyb {op:BinOp}{a b:qa}:jdt op h (some a) (some b)=qb8 h (k9 op a b):=rfl
@[go_sem] theorem j5w {op:BinOp}{x y:qf}:j9 p xc h0 al e h (.bin op x y)=jdt op h (zc e x) (zc e y):=by
 simp only[j9,zn,jdt]
 cases zc e x<;>cases zc e y<;>rfl
def q62 (h:zd)(c a b:Option qa):Option qm:=match c,a,b with
 |some (.bool t),some x,some y=>val h (bif t then x else y)
 |_,_,_=>none
@[go_sem] theorem jt4 {t:Bool}{a b:qa}:q62 h (some (.bool t)) (some a) (some b)=some ⟨bif t then a else b,false,none,h⟩:=rfl
@[go_sem] theorem j4z {c a b:qf}:j9 p xc h0 al e h (.pick c a b)=q62 h (zc e c) (zc e a) (zc e b):=by
 simp only[j9,zn,q62]
 cases zc e c with
 |none=>rfl
 |some v=>cases v<;>cases zc e a<;>cases zc e b<;>rfl
def qwb (k:Nat)(h:zd)(x:Option qa):Option qm:=match k,x with
 |1,some (.list _ _ xs)=>val h (.int .i64 xs.length)
 |1,some (.ms _ _ n)=>val h (.int .i64 n)
 |2,some (.list true _ _)=>val h (.int .i64 0)
 |0,some (.str s)=>val h (.int .i64 s.length)
 |_,_=>none
@[go_sem] theorem jx9 {b:Bool}{z:Nat}{xs:List qa}:qwb 1 h (some (.list b z xs))=some ⟨.int .i64 xs.length,false,none,h⟩:=rfl
@[go_sem] theorem j4a {b o n:Nat}:qwb 1 h (some (.ms b o n))=some ⟨.int .i64 n,false,none,h⟩:=rfl
@[go_sem] theorem j3k {s:List UInt8}:qwb 0 h (some (.str s))=some ⟨.int .i64 s.length,false,none,h⟩:=rfl
@[go_sem] theorem j10 {z:Nat}{xs:List qa}:qwb 2 h (some (.list true z xs))=some ⟨.int .i64 0,false,none,h⟩:=rfl
@[go_sem] theorem j54 {k:Nat}{x:qf}:j9 p xc h0 al e h (.len k x)=qwb k h (zc e x):=rfl
def qjv (n:Nat)(i:Int):Option Nat:=if 0≤i∧i<n then some i.toNat else none
theorem qek {n:Nat}{k:IntKind}{i:Int}:idx n (.int k i)=qjv n i:=by
 unfold idx qjv
 cases i with
 |ofNat m=>
  by_cases hm:m<n
  ·rw[if_pos ⟨by simp,by simp;omega⟩];simp[Nat.blt_eq.mpr hm]
  ·rw[if_neg (by simp;omega)]
   cases hb:Nat.blt m n with
   |true=>exact absurd (Nat.blt_eq.mp hb) hm
   |false=>simp[hb]
 |negSucc m=>simp
attribute [go_sem] qek
theorem q6l {n:Nat}{i:Int}(h1:0≤i)(h2:i<n):qjv n i=some i.toNat:=by unfold qjv;rw[if_pos ⟨h1,h2⟩]
theorem qqi {n i:Nat}(h:i<n):qjv n (i:Int)=some i:=by unfold qjv;rw[if_pos ⟨by simp,by omega⟩];simp
def qq9 (sz:Nat)(h:zd)(x i:Option qa):Option qm:=match x,i with
 |some (.list _ sz' xs),some j=>bif Nat.beq sz sz'||xs.isEmpty then(match idx xs.length j with
   |some j=>(match xs[j]? with
    |some v=>val h (.vptr v)
    |none=>none)
   |none=>none)else none
 |some (.ms b o len),some j=>(match idx len j with
   |some j=>val h (.ptr b (o+j*sz))
   |none=>none)
 |_,_=>none
@[go_sem] theorem jpa {sz:Nat}{x i:qf}:j9 p xc h0 al e h (.indexAddr sz x i)=qq9 sz h (zc e x) (zc e i):=by
 simp only[j9,zn,qq9]
 cases zc e x with
 |none=>rfl
 |some v=>cases v<;>cases zc e i<;>rfl
theorem q9x {sz:Nat}{b:Bool}{k:IntKind}{xs:List qa}{i:Int}{v:qa}(h1:0≤i)(hv:xs[i.toNat]?=some v):qq9 sz h (some (.list b sz xs)) (some (.int k i))=some ⟨.vptr v,false,none,h⟩:=by
 have hl:=(List.getElem?_eq_some_iff.1 hv).1
 have hi:idx xs.length (.int k i)=some i.toNat:=by rw[qek];exact q6l h1 (by omega)
 simp only[qq9,hi,Nat.beq_refl,Bool.true_or,cT,hv]
 rfl
theorem jdl {sz:Nat}{b:Bool}{k:IntKind}{xs:List qa}{i:Nat}{v:qa}(hv:xs[i]?=some v):qq9 sz h (some (.list b sz xs)) (some (.int k (i:Int)))=some ⟨.vptr v,false,none,h⟩:=
 q9x (by simp) (by simpa using hv)
def qcp (h0:Nat)(al:Option (List Nat))(agg:Bool)(n:Nat)(h:zd)(x:Option qa):Option qm:=match x with
 |some (.ptr b o)=>bif kg h0 al b then(match yl h b with
   |some cs=>(match qao cs o n with
    |some vs=>bif agg then val h (.agg vs)else(match vs with
     | [v]=>val h v
     |_=>none)
    |none=>none)
   |none=>none)else none
 |some (.vptr v)=>bif Bool.xor agg v.isAgg||!(Nat.beq v.flat.length n)then none else val h v
 |_=>none
@[go_sem] theorem j4x {agg:Bool}{n:Nat}{x:qf}:j9 p xc h0 al e h (.load agg n x)=qcp h0 al agg n h (zc e x):=by
 simp only[j9,qau,qcp]
 cases zc e x with
 |none=>rfl
 |some v=>cases v<;>rfl
def jfp:Option qa→Option qa
 |some (.vptr v)=>some (.vptr v)
 |_=>none
@[go_sem] theorem j4l {v:qa}:jfp (some (.vptr v))=some (.vptr v):=rfl
@[go_sem] theorem j39 {agg:Bool}{n:Nat}{x:qf}:j9 p xc h0 al e h (.vload agg n x)=qcp h0 al agg n h (jfp (zc e x)):=by
 simp only[j9,zn,qcp]
 cases zc e x with
 |none=>rfl
 |some v=>cases v<;>rfl
@[go_sem] theorem jxf {k:IntKind}{i:Int}:qcp h0 al false 1 h (some (.vptr (.int k i)))=some ⟨.int k i,false,none,h⟩:=rfl
@[go_sem] theorem jyq {s:List UInt8}:qcp h0 al false 1 h (some (.vptr (.str s)))=some ⟨.str s,false,none,h⟩:=rfl
@[go_sem] theorem jqr {b:Bool}:qcp h0 al false 1 h (some (.vptr (.bool b)))=some ⟨.bool b,false,none,h⟩:=rfl
@[go_sem] theorem jqf {b:Bool}{z:Nat}{xs:List qa}:qcp h0 al false 1 h (some (.vptr (.list b z xs)))=some ⟨.list b z xs,false,none,h⟩:=rfl
theorem jas {n:Nat}{cs:List qa}(hn:cs.length=n):qcp h0 al true n h (some (.vptr (.agg cs)))=some ⟨.agg cs,false,none,h⟩:=by
 subst hn;simp[qcp,qa.isAgg,qa.flat,val]
@[go_sem] theorem j52 {k:IntKind}{x y:Int}:k9 .add (.int k x) (.int k y)=some (.int k (za k (x+y))):=by simp[k9,qcm]
@[go_sem] theorem j5x {k:IntKind}{x y:Int}:k9 .sub (.int k x) (.int k y)=some (.int k (za k (x-y))):=by simp[k9,qcm]
@[go_sem] theorem j5y {k:IntKind}{x y:Int}:k9 .mul (.int k x) (.int k y)=some (.int k (za k (x*y))):=by simp[k9,qcm]
@[go_sem] theorem j5s {k:IntKind}{x y:Int}:k9 .lss (.int k x) (.int k y)=some (.bool (decide (x<y))):=by simp[k9,qcm]
@[go_sem] theorem j5u {k:IntKind}{x y:Int}:k9 .leq (.int k x) (.int k y)=some (.bool (decide (x≤y))):=by simp[k9,qcm]
@[go_sem] theorem j5r {k:IntKind}{x y:Int}:k9 .gtr (.int k x) (.int k y)=some (.bool (decide (y<x))):=by simp[k9,qcm]
@[go_sem] theorem j53 {k:IntKind}{x y:Int}:k9 .geq (.int k x) (.int k y)=some (.bool (decide (y≤x))):=by simp[k9,qcm]
@[go_sem] theorem j56 {k:IntKind}{x y:Int}:k9 .eql (.int k x) (.int k y)=some (.bool (decide (x=y))):=by
 simp only[k9,qcm,decide_true,cT];congr 2
@[go_sem] theorem j5v {k:IntKind}{x y:Int}:k9 .neq (.int k x) (.int k y)=some (.bool (!decide (x=y))):=by
 simp only[k9,qcm,decide_true,cT];congr 2
theorem yz {x:Int}(h1:-9223372036854775808≤x)(h2:x≤9223372036854775807):za .i64 x=x:=by
 have:qe1 .i64 x=true:=by
  cases x with
  |ofNat m=>simp only[qe1];exact Nat.ble_eq_true_of_le (by simp at h2;omega)
  |negSucc m=>simp only[qe1];exact Nat.ble_eq_true_of_le (by omega)
 simp[za,this]
def jde (h:zd)(b:Bool)(r:Option (qa×Bool)):Option qm:=match b,r with
 |true,some (v,o)=>some ⟨v,o,none,h⟩
 |_,_=>none
@[go_sem] theorem jx8 {v:qa}{o:Bool}:jde h true (some (v,o))=some ⟨v,o,none,h⟩:=rfl
def jcf (n:Nat)(r:Option (qa×Bool×zd)):Option qm:=match r with
 |some (v,o,h')=>some ⟨v,o,none,qag n v h'⟩
 |none=>none
@[go_sem] theorem jw8 {n:Nat}{v:qa}{o:Bool}:jcf n (some (v,o,h))=some ⟨v,o,none,qag n v h⟩:=rfl
def q33 (r:Option (qa×zd)):Option qm:=match r with
 |some (v,h')=>some ⟨v,false,none,h'⟩
 |none=>none
@[go_sem] theorem joy {v:qa}:q33 (some (v,h))=some ⟨v,false,none,h⟩:=rfl
def q8i (h0 r:Nat)(h:zd)(b:Bool)(m:Option (List (qa×qa))):Option qm:=match b,m with
 |true,some es=>(match newBox h0 h r (.map es)with
  |some h'=>some ⟨.map (h0+r),false,none,h'⟩
  |none=>none)
 |_,_=>none
def qtm (p:qn)(xc:XC)(h0:Nat)(h:zd)(md:ja)(f:Option qa)(l:Option (List qa)):Option qm:=match f,l with
 |some (.fn (.func k) a c),some vs=>(match md with
  | .iso=>jde h (yq 0 (a++vs++c)) (j7 p xc k (a++vs++c))
  | .frz r=>q8i h0 r h (a++vs++c).isEmpty (p.maps k)
  | .shr=>jcf h.length (yk p xc k (a++vs++c) h))
 |some (.fn (.yield b) [] []),some vs=>(match md with
  | .shr=>q33 (qbm xc b vs h)
  |_=>none)
 |_,_=>none
@[go_sem] theorem j49 {md:ja}{f:qf}{l:List qf}:j9 p xc h0 al e h (.call md f l)=qtm p xc h0 h md (zc e f) (qbe e l):=by
 simp only[j9,qa6,qtm]
 split
 ·rename_i k first captured vs h1 h2
  rw[h1,h2]
  cases md with
  |iso=>
   simp only[]
   cases yq 0 (first++vs++captured)with
   |false=>cases j7 p xc k (first++vs++captured)<;>rfl
   |true=>cases j7 p xc k (first++vs++captured)<;>rfl
  |frz rk=>
   simp only[]
   cases (first++vs++captured).isEmpty with
   |false=>cases p.maps k<;>rfl
   |true=>
    cases p.maps k with
    |none=>rfl
    |some es=>simp only[cT,q8i];cases newBox h0 h rk (.map es)<;>rfl
  |shr=>simp only[];cases yk p xc k (first++vs++captured) h<;>rfl
 ·rename_i b vs h1 h2
  rw[h1,h2]
  cases md with
  |shr=>simp only[];cases qbm xc b vs h<;>rfl
  |_=>rfl
 ·rename_i h1 h2
  split
  ·rename_i k a c vs g1 g2;exact absurd g2 (fun g2=>h1 k a c vs g1 g2)
  ·rename_i b vs g1 g2;exact absurd g2 (fun g2=>h2 b vs g1 g2)
  ·rfl
@[go_sem] theorem jyj {k:Nat}{a c vs:List qa}:qtm p xc h0 h .iso (some (.fn (.func k) a c)) (some vs)=jde h (yq 0 (a++vs++c)) (j7 p xc k (a++vs++c)):=rfl
@[go_sem] theorem jxx {k r:Nat}{a c vs:List qa}:qtm p xc h0 h (.frz r) (some (.fn (.func k) a c)) (some vs)=q8i h0 r h (a++vs++c).isEmpty (p.maps k):=rfl
@[go_sem] theorem jym {k:Nat}{a c vs:List qa}:qtm p xc h0 h .shr (some (.fn (.func k) a c)) (some vs)=jcf h.length (yk p xc k (a++vs++c) h):=rfl
@[go_sem] theorem jn5 {b:Nat}{vs:List qa}:qtm p xc h0 h .shr (some (.fn (.yield b) [] [])) (some vs)=q33 (qbm xc b vs h):=rfl
def qzu (rs:List qz)(r:Option (qi×qc)):Option (qa×Bool×zd):=match r with
 |some (.normal,st)=>(match qaj st rs with
   |some xs=>some ((yx xs).1,(yx xs).2,qa8 st rs)
   |none=>none)
 |some (.ret,st)=>(match qaj st rs with
   |some xs=>some ((yx xs).1,(yx xs).2,qa8 st rs)
   |none=>none)
 |_=>none
def jcn (st:qc)(rs:List qz)(r:Option (List (qa×Bool))):Option (qa×Bool×zd):=match r with
 |some xs=>some ((yx xs).1,(yx xs).2,qa8 st rs)
 |none=>none
@[go_sem] theorem joq {rs:List qz}{st:qc}:qzu rs (some (.normal,st))=jcn st rs (qaj st rs):=rfl
@[go_sem] theorem j0n {rs:List qz}{st:qc}:qzu rs (some (.ret,st))=jcn st rs (qaj st rs):=rfl
@[go_sem] theorem jxh {st:qc}{rs:List qz}{xs:List (qa×Bool)}:jcn st rs (some xs)=some ((yx xs).1,(yx xs).2,qa8 st rs):=rfl
theorem qak {k nt:Nat}{body:qe}{rs:List qz}{args:List qa}(hf:p.fns k=some ⟨nt,body,rs⟩)(hl:args.length≤nt):yk p xc k args h=qzu rs (xc body ⟨qbr 0 args,h⟩):=by
 simp only[yk,hf,qcr,Nat.ble_eq_true_of_le hl,cT,qzu]
 rfl
def q81 (x:Option (qa×Bool))(l:Option (List (qa×Bool))):Option (List (qa×Bool)):=match x,l with
 |some v,some vs=>some (v::vs)
 |_,_=>none
@[go_sem] theorem jro {v:qa×Bool}{vs:List (qa×Bool)}:q81 (some v) (some vs)=some (v::vs):=rfl
@[go_sem] theorem jjc {st:qc}:qaj st []=some []:=rfl
@[go_sem] theorem jgq {st:qc}{r:qz}{rs:List qz}:qaj st (r::rs)=q81 (qdm st r) (qaj st rs):=by
 simp only[qaj,q81]
 cases qdm st r with
 |none=>rfl
 |some v=>cases qaj st rs<;>rfl
@[go_sem] theorem jjm {t:Nat}:qdm ⟨e,h⟩ (.tmp t)=look t e:=rfl
@[go_sem] theorem jzk {x:qa×Bool}:yx [x]=x:=rfl
@[go_sem] theorem j16 {x y:qa×Bool}:yx [x,y]=(.tup [x.1,y.1],false):=rfl
@[go_sem] theorem jtk {x y z:qa×Bool}:yx [x,y,z]=(.tup [x.1,y.1,z.1],false):=rfl
@[go_sem] theorem jx1:yx []=(.tup [],false):=rfl
@[go_sem] theorem jyg {st:qc}{t:Nat}:qa8 st [.tmp t]=st.heap:=rfl
@[go_sem] theorem jx4 {st:qc}{x y:qz}{l:List qz}:qa8 st (x::y::l)=st.heap:=by
 cases x with
 |tmp t=>rfl
 |cell t a n=>cases a<;>rfl
@[go_sem] theorem jqb {st:qc}:qa8 st []=st.heap:=rfl
@[go_sem] theorem jws {st:qc}{t n:Nat}:qa8 st [.cell t true n]=st.heap:=rfl
@[go_sem] theorem j0q {o:Bool}:qi4 true (some (.bool true,o))=some true:=rfl
@[go_sem] theorem j2b {o:Bool}:qi4 true (some (.bool false,o))=some false:=rfl
@[go_sem] theorem jz8 {o:Bool}:qi4 false (some (.bool true,o))=some false:=rfl
@[go_sem] theorem j1h {o:Bool}:qi4 false (some (.bool false,o))=some true:=rfl
attribute [go_sem] cT cF decide_true decide_false Bool.not_true Bool.not_false List.append_nil List.nil_append List.length_cons List.length_nil
@[go_sem] theorem j5l:List.replicate 0 qv.hole=[]:=rfl
end
section
variable {p:qn}{xc:XC}{h0:Nat}{al:Option (List Nat)}{e:Env}{h:zd}{α:Type}
def sl (z:Nat)(f:α→qa):Option (List α)→qa
 |none=>.list true 0 []
 |some l=>.list false z (l.map f)
@[go_sem] theorem j47 {z:Nat}{f:α→qa}{l:Option (List α)}:qwb 1 h (some (sl z f l))=some ⟨.int .i64 (l.getD []).length,false,none,h⟩:=by
 cases l<;>simp[sl,qwb,val]
theorem jmq {z:Nat}{f:α→qa}{l:Option (List α)}{k:IntKind}{i:Nat}{x:α}(hx:(l.getD [])[i]?=some x):qq9 z h (some (sl z f l)) (some (.int k (i:Int)))=some ⟨.vptr (f x),false,none,h⟩:=by
 cases l with
 |none=>simp at hx
 |some l=>exact jdl (by rw[List.getElem?_map,show l[i]?=some x from hx];rfl)
theorem qd8 {n z:Nat}{f:α→qa}{l:Option (List α)}(hf:∀x,below n (f x)=true):below n (sl z f l)=true:=by
 have key:∀l:List α,yq n (l.map f)=true:=by
  intro l
  induction l with
  |nil=>rfl
  |cons x l ih=>simp[yq,hf,ih]
 cases l with
 |none=>rfl
 |some l=>simp only[sl,below];exact key l
theorem j48 {z:Nat}{f:α→qa}(hf:∀x y,f x=f y→x=y){a b:Option (List α)}(hab:sl z f a=sl z f b):a=b:=by
 have key:∀a b:List α,a.map f=b.map f→a=b:=by
  intro a
  induction a with
  |nil=>intro b hb;cases b<;>simp at hb<;>rfl
  |cons x a ih=>
   intro b hb
   cases b with
   |nil=>simp at hb
   |cons y b=>simp at hb;rw[hf _ _ hb.1,ih _ hb.2]
 cases a<;>cases b<;>simp[sl]at hab<;>first|rfl|rw[key _ _ hab]
def zh (n:Int):qa:=.int .i64 n
@[go_sem] theorem jvp {i:Int}:qcp h0 al false 1 h (some (.vptr (zh i)))=some ⟨.int .i64 i,false,none,h⟩:=rfl
end
end Go.Abs
