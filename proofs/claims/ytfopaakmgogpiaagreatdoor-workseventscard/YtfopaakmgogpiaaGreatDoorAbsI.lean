/- Equations of the executor for runs on values that are not known. -/
import Derived.Test.YtfopaakmgogpiaaGreatDoorAbsH
set_option linter.unusedVariables false
set_option linter.unusedSimpArgs false
open Option renaming some→I,none→Ef
open Bool renaming false→En,true→E1
open Nat renaming ble_eq_true_of_le→E0,eq_of_beq_eq_true→E3,beq→E4,blt_eq→E6
namespace Go.Abs
section
variable {p:qt}{xc:XC}{h0:Nat}{al:Option (List Nat)}{e:Env}{h:j8}
def Gp (r:Option (qo×qg))(f:qg→Option (qo×qg)):Option (qo×qg):=match r with
 |some (.normal,st)=>f st
 |r=>r
@[go_sem] theorem jue {st:qg}{f:qg→Option (qo×qg)}:Gp (I (.normal,st)) f=f st:=rfl
@[go_sem] theorem j9k {st:qg}{f:qg→Option (qo×qg)}:Gp (I (.ret,st)) f=I (.ret,st):=rfl
@[go_sem] theorem jzg {id:Nat}{st:qg}{f:qg→Option (qo×qg)}:Gp (I (.exit id,st)) f=I (.exit id,st):=rfl
@[go_sem] theorem zjn {a b:qe}{st:qg}:X p (.seq a b) st=Gp (X p a st) (X p b):=by
 rw[j56];unfold Gp
 cases X p a st with
 |none=>rfl
 |some r=>obtain⟨x,s⟩:=r;cases x<;>rfl
def MV (c:Option qa)(f g:qg→Option (qo×qg))(st:qg):Option (qo×qg):=match c with
 |some (.bool E1)=>f st
 |some (.bool En)=>g st
 |_=>Ef
@[go_sem] theorem j41 {f g:qg→Option (qo×qg)}{st:qg}:MV (I (.bool E1)) f g st=f st:=rfl
@[go_sem] theorem jvu {f g:qg→Option (qo×qg)}{st:qg}:MV (I (.bool En)) f g st=g st:=rfl
@[go_sem] theorem zi5 {c:qh}{a b:qe}{st:qg}:X p (.cond c a b) st=MV (zc st.env c) (X p a) (X p b) st:=by
 rw[jou];unfold MV
 cases zc st.env c with
 |none=>rfl
 |some v=>cases v with
  |bool t=>cases t<;>rfl
  |_=>rfl
def Gq (id:Nat)(r:Option (qo×qg)):Option (qo×qg):=match r with
 |some (.exit fp,bL)=>if fp=id then I (.normal,bL)else I (.exit fp,bL)
 |r=>r
@[go_sem] theorem jvt {id fp:Nat}{st:qg}:Gq id (I (.exit fp,st))=if fp=id then I (.normal,st)else I (.exit fp,st):=rfl
@[go_sem] theorem jn2 {id:Nat}{st:qg}:Gq id (I (.normal,st))=I (.normal,st):=rfl
@[go_sem] theorem j5n {id:Nat}{st:qg}:Gq id (I (.ret,st))=I (.ret,st):=rfl
@[go_sem] theorem j9w {id:Nat}{b:qe}{st:qg}:X p (.block id b) st=Gq id (X p b st):=by
 rw[jlm];unfold Gq
 cases X p b st with
 |none=>rfl
 |some r=>
  obtain⟨x,s⟩:=r
  cases x with
  |exit fp=>
   simp only[]
   by_cases hb:fp=id
   ·subst hb;simp
   ·rw[if_neg hb]
    cases hq:E4 fp id with
    |true=>exact absurd (E3 hq) hb
    |false=>rfl
  |_=>rfl
noncomputable def DL (p:qt)(b:qe)(n:Nat)(r:Option (qo×qg)):Option (qo×qg):=match r with
 |some (.normal,bL)=>X p (.loop b) (gc n bL)
 |r=>r
theorem jky {b:qe}{st:qg}:X p (.loop b) st=DL p b st.heap.length (X p b st):=by
 rw[juo];unfold DL
 cases X p b st with
 |none=>rfl
 |some r=>obtain⟨x,s⟩:=r;cases x<;>rfl
@[go_sem] theorem q3v {b:qe}{n:Nat}{st:qg}:DL p b n (I (.normal,st))=X p (.loop b) (gc n st):=rfl
@[go_sem] theorem j7l {b:qe}{n:Nat}{st:qg}:DL p b n (I (.ret,st))=I (.ret,st):=rfl
@[go_sem] theorem j25 {b:qe}{n id:Nat}{st:qg}:DL p b n (I (.exit id,st))=I (.exit id,st):=rfl
attribute [go_sem] jsq jo0 j4c jji T5 jqh
@[go_sem] theorem zjx {env:Env}:gc 0 ⟨env,[]⟩=⟨env,[]⟩:=rfl
theorem Ap {n:Nat}{st:qg}(hn:st.heap.length≤n):gc n st=st:=by
 unfold gc;rw[E0 hn];rfl
theorem zj8 {e e':Env}{h:j8}:gc (qg.mk e h).heap.length ⟨e',h⟩=⟨e',h⟩:=Ap (Nat.le_refl _)
def T8 (k:Option (List Nat))(r:Option qg):Option (qo×qg):=match r with
 |some bL=>I (.normal,yZ bL k)
 |none=>Ef
@[go_sem] theorem j76 {k:Option (List Nat)}{st:qg}:T8 k (I st)=I (.normal,yZ st k):=rfl
@[go_sem] theorem zia {na:Nat}{l:List qv}{k:Option (List Nat)}{st:qg}:mg p xc na l k st=T8 k (fG p xc st.heap.length l ⟨st.env,st.heap++List.replicate na .hole⟩):=by
 unfold mg T8;rfl
def jtu (r:Option qg)(f:qg→Option qg):Option qg:=match r with
 |some st=>f st
 |none=>Ef
@[go_sem] theorem j88 {st:qg}{f:qg→Option qg}:jtu (I st) f=f st:=rfl
@[go_sem] theorem j98 {st:qg}:fG p xc h0 [] st=I st:=rfl
@[go_sem] theorem j8m {o:qv}{l:List qv}{st:qg}:fG p xc h0 (o::l) st=jtu (iD p xc h0 o st) (fG p xc h0 l):=rfl
def MW (d:Option Nat)(e:Env)(r:Option qq):Option qg:=match r with
 |some r=>I ⟨nz (kz e r.strip) d r.v r.own,r.heap⟩
 |none=>Ef
@[go_sem] theorem j7o {d:Option Nat}{v:qa}{o:Bool}{s:Option Nat}:MW d e (I ⟨v,o,s,h⟩)=I ⟨nz (kz e s) d v o,h⟩:=rfl
@[go_sem] theorem jny {d:Option Nat}{op:qw}{env:Env}:iD p xc h0 ⟨d,op,Ef,al⟩ ⟨env,h⟩=MW d env (j9 p xc h0 al env h op):=rfl
def MX (g:Option Bool)(d:Option Nat)(env:Env)(h:j8)(f:qw→Option qq)(op:qw):Option qg:=match g with
 |some E1=>MW d env (f op)
 |some En=>I ⟨nz env d .undef En,h⟩
 |none=>Ef
@[go_sem] theorem jvs {d:Option Nat}{env:Env}{f:qw→Option qq}{op:qw}:MX (I E1) d env h f op=MW d env (f op):=rfl
@[go_sem] theorem jud {d:Option Nat}{env:Env}{f:qw→Option qq}{op:qw}:MX (I En) d env h f op=I ⟨nz env d .undef En,h⟩:=rfl
@[go_sem] theorem jnt {d:Option Nat}{op:qw}{g:Nat×Bool}{env:Env}:iD p xc h0 ⟨d,op,I g,al⟩ ⟨env,h⟩=MX (mf env (I g)) d env h (j9 p xc h0 al env h) op:=by
 unfold iD MX
 simp only[]
 split
 ·rename_i hg;rw[hg];rfl
 ·rename_i hg;rw[hg]
 ·rename_i hg;rw[hg]
def xm (b:Bool)(v:Option (qa×Bool)):Option Bool:=match v with
 |some (.bool c,_)=>I (c == b)
 |some (.undef,_)=>I En
 |_=>Ef
@[go_sem] theorem jut {s:Nat}{b:Bool}:mf e (I (s,b))=xm b (yd s e):=by
 unfold mf xm;rfl
theorem jv9 {b c:Bool}{o:Bool}:xm b (I (.bool c,o))=I (c == b):=rfl
@[go_sem] theorem ju3 {b:Bool}{o:Bool}:xm b (I (.undef,o))=I En:=rfl
@[go_sem] theorem j68 {s t:Nat}{x:qa×Bool}:yd t ((s,x)::e)=if s=t then I x else yd t e:=by
 by_cases bU:s=t
 ·subst bU;rw[if_pos rfl];simp[yd]
 ·rw[if_neg bU]
  have:E4 s t=En:=by
   cases hb:E4 s t with
   |false=>rfl
   |true=>exact absurd (E3 hb) bU
  simp[yd,this]
@[go_sem] theorem zh0 {t:Nat}:yd t []=Ef:=rfl
def jt1 (x:Option (qa×Bool)):Option qa:=match x with
 |some x=>I x.1
 |none=>Ef
@[go_sem] theorem j70 {v:qa}{o:Bool}:jt1 (I (v,o))=I v:=rfl
@[go_sem] theorem j9c {t:Nat}:zc e (.tmp t)=jt1 (yd t e):=rfl
@[go_sem] theorem jvk {v:qa}:zc e (.const v)=I v:=rfl
def pn (x:Option qa)(l:Option (List qa)):Option (List qa):=match x,l with
 |some v,I vs=>I (v::vs)
 |_,_=>Ef
@[go_sem] theorem jwf {v:qa}{vs:List qa}:pn (I v) (I vs)=I (v::vs):=rfl
@[go_sem] theorem j9i:fF e []=I []:=rfl
@[go_sem] theorem j6s {x:qh}{l:List qh}:fF e (x::l)=pn (zc e x) (fF e l):=by
 simp only[fF,pn]
 cases zc e x with
 |none=>rfl
 |some v=>cases fF e l<;>rfl
@[go_sem] theorem jvw {l:List Nat}:yZ ⟨e,h⟩ (I l)=⟨pD e l,h⟩:=rfl
@[go_sem] theorem jv1:yZ ⟨e,h⟩ Ef=⟨e,h⟩:=rfl
def MY (t:Nat)(x:Option (qa×Bool))(e:Env):Env:=match x with
 |some x=>(t,x)::e
 |none=>e
@[go_sem] theorem j3x {t:Nat}{x:qa×Bool}:MY t (I x) e=(t,x)::e:=rfl
@[go_sem] theorem j21 {t:Nat}:MY t Ef e=e:=rfl
@[go_sem] theorem ju7:pD e []=[]:=rfl
@[go_sem] theorem jtj {t:Nat}{l:List Nat}:pD e (t::l)=MY t (yd t e) (pD e l):=by
 simp only[pD,MY]
 cases yd t e<;>rfl
@[go_sem] theorem ju8 {d:Nat}{v:qa}{o:Bool}:nz e (I d) v o=(d,v,o)::e:=rfl
@[go_sem] theorem jvg {v:qa}{o:Bool}:nz e Ef v o=e:=rfl
@[go_sem] theorem jnx:kz e Ef=e:=rfl
def T9 (s:Nat)(x:Option (qa×Bool))(e:Env):Env:=match x with
 |some (v,_)=>(s,v,En)::e
 |none=>e
@[go_sem] theorem ju9 {s:Nat}{v:qa}{o:Bool}:T9 s (I (v,o)) e=(s,v,En)::e:=rfl
@[go_sem] theorem jnv {s:Nat}:kz e (I s)=T9 s (yd s e) e:=by
 simp only[kz,T9]
 cases yd s e<;>rfl
@[go_sem] theorem jx9 {i:Nat}:n6 i []=[]:=rfl
@[go_sem] theorem jwb {i:Nat}{v:qa}{vs:List qa}:n6 i (v::vs)=(i,v,En)::n6 (i+1) vs:=rfl
@[go_sem] theorem j8e {v:qa}:fW h (I v)=I ⟨v,En,Ef,h⟩:=rfl
@[go_sem] theorem zj7 {v:qa}:val h v=I ⟨v,En,Ef,h⟩:=rfl
@[go_sem] theorem zj3 {x:qh}:j9 p xc h0 al e h (.move x)=fW h (zc e x):=rfl
def Ua (s:Nat)(h:j8)(x:Option (qa×Bool)):Option qq:=match x with
 |some (v,o)=>I ⟨v,o,I s,h⟩
 |none=>Ef
@[go_sem] theorem j3l {s:Nat}{v:qa}{o:Bool}:Ua s h (I (v,o))=I ⟨v,o,I s,h⟩:=rfl
@[go_sem] theorem zjw {s:Nat}:j9 p xc h0 al e h (.take s)=Ua s h (yd s e):=by
 simp only[j9,zh,Ua]
 cases yd s e<;>rfl
def Ub (op:BinOp)(h:j8)(a b:Option qa):Option qq:=match a,b with
 |some a,I b=>fW h (fo op a b)
 |_,_=>Ef
@[go_sem] theorem j84 {op:BinOp}{a b:qa}:Ub op h (I a) (I b)=fW h (fo op a b):=rfl
@[go_sem] theorem zkm {op:BinOp}{x y:qh}:j9 p xc h0 al e h (.bin op x y)=Ub op h (zc e x) (zc e y):=by
 simp only[j9,zh,Ub]
 cases zc e x<;>cases zc e y<;>rfl
def Uc (h:j8)(c a b:Option qa):Option qq:=match c,a,b with
 |some (.bool t),I x,I y=>val h (bif t then x else y)
 |_,_,_=>Ef
@[go_sem] theorem j1w {t:Bool}{a b:qa}:Uc h (I (.bool t)) (I a) (I b)=I ⟨bif t then a else b,En,Ef,h⟩:=rfl
@[go_sem] theorem zjm {c a b:qh}:j9 p xc h0 al e h (.pick c a b)=Uc h (zc e c) (zc e a) (zc e b):=by
 simp only[j9,zh,Uc]
 cases zc e c with
 |none=>rfl
 |some v=>cases v<;>cases zc e a<;>cases zc e b<;>rfl
def xn (k:Nat)(h:j8)(x:Option qa):Option qq:=match k,x with
 |1,I (.list _ _ xs)=>val h (.int .i64 xs.length)
 |1,I (.ms _ _ n)=>val h (.int .i64 n)
 |1,I (.ak _ _ n)=>val h (.int .i64 n)
 |2,I (.list E1 _ _)=>val h (.int .i64 0)
 |0,I (.str s)=>val h (.int .i64 s.length)
 |_,_=>Ef
@[go_sem] theorem j75 {b:Bool}{z:Nat}{xs:List qa}:xn 1 h (I (.list b z xs))=I ⟨.int .i64 xs.length,En,Ef,h⟩:=rfl
@[go_sem] theorem ziu {b o n:Nat}:xn 1 h (I (.ms b o n))=I ⟨.int .i64 n,En,Ef,h⟩:=rfl
@[go_sem] theorem j8i {b v n:Nat}:xn 1 h (I (.ak b v n))=I ⟨.int .i64 n,En,Ef,h⟩:=rfl
@[go_sem] theorem zgn {s:List UInt8}:xn 0 h (I (.str s))=I ⟨.int .i64 s.length,En,Ef,h⟩:=rfl
@[go_sem] theorem zch {z:Nat}{xs:List qa}:xn 2 h (I (.list E1 z xs))=I ⟨.int .i64 0,En,Ef,h⟩:=rfl
@[go_sem] theorem zj9 {k:Nat}{x:qh}:j9 p xc h0 al e h (.len k x)=xn k h (zc e x):=rfl
def uz (n:Nat)(i:Int):Option Nat:=if 0≤i∧i<n then I i.toNat else Ef
theorem xp {n:Nat}{k:IntKind}{i:Int}:idx n (.int k i)=uz n i:=by
 unfold idx uz
 cases i with
 |ofNat m=>
  by_cases hm:m<n
  ·rw[if_pos ⟨by simp,by simp;omega⟩];simp[E6.mpr hm]
  ·rw[if_neg (by simp;omega)]
   cases hb:Nat.blt m n with
   |true=>exact absurd (E6.mp hb) hm
   |false=>simp[hb]
 |negSucc m=>simp
attribute [go_sem] xp
theorem jk9 {n:Nat}{i:Int}(h1:0≤i)(h2:i<n):uz n i=I i.toNat:=by unfold uz;rw[if_pos ⟨h1,h2⟩]
theorem Ud {n i:Nat}(h:i<n):uz n (i:Int)=I i:=by unfold uz;rw[if_pos ⟨by simp,by omega⟩];simp
def gE (sz:Nat)(h:j8)(x i:Option qa):Option qq:=match x,i with
 |some (.list _ cK xs),I j=>bif E4 sz cK||xs.isEmpty then(match idx xs.length j with
   |some j=>(match xs[j]? with
    |some v=>val h (.ah v)
    |none=>Ef)
   |none=>Ef)else Ef
 |some (.ms b o len),I j=>(match idx len j with
   |some j=>val h (.ptr b (o+j*sz))
   |none=>Ef)
 |some (.ak b bz len),I j=>(match idx len j with
   |some j=>val h (.cJ b bz (j*sz))
   |none=>Ef)
 |_,_=>Ef
@[go_sem] theorem jv0 {sz:Nat}{x i:qh}:j9 p xc h0 al e h (.indexAddr sz x i)=gE sz h (zc e x) (zc e i):=by
 simp only[j9,zh,gE]
 cases zc e x with
 |none=>rfl
 |some v=>cases v<;>cases zc e i<;>rfl
theorem jbb {sz:Nat}{b:Bool}{k:IntKind}{xs:List qa}{i:Int}{v:qa}(h1:0≤i)(hv:xs[i.toNat]?=I v):gE sz h (I (.list b sz xs)) (I (.int k i))=I ⟨.ah v,En,Ef,h⟩:=by
 have hl:=(List.getElem?_eq_some_iff.1 hv).1
 have hi:idx xs.length (.int k i)=I i.toNat:=by rw[xp];exact jk9 h1 (by omega)
 simp only[gE,hi,Nat.beq_refl,Bool.true_or,cT,hv]
 rfl
theorem jew {sz:Nat}{b:Bool}{k:IntKind}{xs:List qa}{i:Nat}{v:qa}(hv:xs[i]?=I v):gE sz h (I (.list b sz xs)) (I (.int k (i:Int)))=I ⟨.ah v,En,Ef,h⟩:=
 jbb (by simp) (by simpa using hv)
def eH (h0:Nat)(al:Option (List Nat))(agg:Bool)(n:Nat)(h:j8)(x:Option qa):Option qq:=match x with
 |some (.ptr b o)=>bif yv h0 al b then(match ym h b with
   |some cs=>(match y8 cs o n with
    |some vs=>bif agg then val h (.agg vs)else(match vs with
     | [v]=>val h v
     |_=>Ef)
    |none=>Ef)
   |none=>Ef)else Ef
 |some (.ah v)=>bif Bool.xor agg v.isAgg||!(E4 v.flat.length n)then Ef else val h v
 |some (.cJ b bz o)=>bif tW h0 al b then(match y5 h b with
   |some (.vec _ df xs)=>bif E4 bz df&&Nat.ble (o+n) (xs.flatMap qa.flat).length then(bif agg then val h (.agg (((xs.flatMap qa.flat).drop o).take n))else(match((xs.flatMap qa.flat).drop o).take n with
     | [v]=>val h v
     |_=>Ef))else Ef
   |_=>Ef)else Ef
 |_=>Ef
@[go_sem] theorem zj0 {agg:Bool}{n:Nat}{x:qh}:j9 p xc h0 al e h (.load agg n x)=eH h0 al agg n h (zc e x):=by
 simp only[j9,gW,eH]
 cases zc e x with
 |none=>rfl
 |some v=>cases v<;>rfl
def jjw:Option qa→Option qa
 |some (.ah v)=>I (.ah v)
 |_=>Ef
@[go_sem] theorem zi1 {v:qa}:jjw (I (.ah v))=I (.ah v):=rfl
@[go_sem] theorem zje {agg:Bool}{n:Nat}{x:qh}:j9 p xc h0 al e h (.eP agg n x)=eH h0 al agg n h (jjw (zc e x)):=by
 simp only[j9,zh,eH]
 cases zc e x with
 |none=>rfl
 |some v=>cases v<;>rfl
@[go_sem] theorem j8c {k:IntKind}{i:Int}:eH h0 al En 1 h (I (.ah (.int k i)))=I ⟨.int k i,En,Ef,h⟩:=rfl
@[go_sem] theorem j7r {s:List UInt8}:eH h0 al En 1 h (I (.ah (.str s)))=I ⟨.str s,En,Ef,h⟩:=rfl
@[go_sem] theorem j35 {b:Bool}:eH h0 al En 1 h (I (.ah (.bool b)))=I ⟨.bool b,En,Ef,h⟩:=rfl
@[go_sem] theorem j1s {b:Bool}{z:Nat}{xs:List qa}:eH h0 al En 1 h (I (.ah (.list b z xs)))=I ⟨.list b z xs,En,Ef,h⟩:=rfl
theorem jcn {n:Nat}{cs:List qa}(hn:cs.length=n):eH h0 al E1 n h (I (.ah (.agg cs)))=I ⟨.agg cs,En,Ef,h⟩:=by
 subst hn;simp[eH,qa.isAgg,qa.flat,val]
@[go_sem] theorem zkg {k:IntKind}{x y:Int}:fo .add (.int k x) (.int k y)=I (.int k (j6 k (x+y))):=by simp[fo,nZ]
@[go_sem] theorem zko {k:IntKind}{x y:Int}:fo .sub (.int k x) (.int k y)=I (.int k (j6 k (x-y))):=by simp[fo,nZ]
@[go_sem] theorem zke {k:IntKind}{x y:Int}:fo .mul (.int k x) (.int k y)=I (.int k (j6 k (x*y))):=by simp[fo,nZ]
@[go_sem] theorem zkp {k:IntKind}{x y:Int}:fo .lss (.int k x) (.int k y)=I (.bool (decide (x<y))):=by simp[fo,nZ]
@[go_sem] theorem zkb {k:IntKind}{x y:Int}:fo .leq (.int k x) (.int k y)=I (.bool (decide (x≤y))):=by simp[fo,nZ]
@[go_sem] theorem zks {k:IntKind}{x y:Int}:fo .gtr (.int k x) (.int k y)=I (.bool (decide (y<x))):=by simp[fo,nZ]
@[go_sem] theorem zkd {k:IntKind}{x y:Int}:fo .geq (.int k x) (.int k y)=I (.bool (decide (y≤x))):=by simp[fo,nZ]
@[go_sem] theorem zkn {k:IntKind}{x y:Int}:fo .eql (.int k x) (.int k y)=I (.bool (decide (x=y))):=by
 simp only[fo,nZ,decide_true,cT];congr 2
@[go_sem] theorem zkj {k:IntKind}{x y:Int}:fo .neq (.int k x) (.int k y)=I (.bool (!decide (x=y))):=by
 simp only[fo,nZ,decide_true,cT];congr 2
theorem q0d {x:Int}(h1:-9223372036854775808≤x)(h2:x≤9223372036854775807):j6 .i64 x=x:=by
 have:pE .i64 x=E1:=by
  cases x with
  |ofNat m=>simp only[pE];exact E0 (by simp at h2;omega)
  |negSucc m=>simp only[pE];exact E0 (by omega)
 simp[j6,this]
def Ue (h:j8)(b:Bool)(r:Option (qa×Bool)):Option qq:=match b,r with
 |true,I (v,o)=>I ⟨v,o,Ef,h⟩
 |_,_=>Ef
@[go_sem] theorem j7x {v:qa}{o:Bool}:Ue h E1 (I (v,o))=I ⟨v,o,Ef,h⟩:=rfl
def Uf (n:Nat)(r:Option (qa×Bool×j8)):Option qq:=match r with
 |some (v,o,h')=>I ⟨v,o,Ef,yi n v h'⟩
 |none=>Ef
@[go_sem] theorem j64 {n:Nat}{v:qa}{o:Bool}:Uf n (I (v,o,h))=I ⟨v,o,Ef,yi n v h⟩:=rfl
def Ug (r:Option (qa×j8)):Option qq:=match r with
 |some (v,h')=>I ⟨v,En,Ef,h'⟩
 |none=>Ef
@[go_sem] theorem jwa {v:qa}:Ug (I (v,h))=I ⟨v,En,Ef,h⟩:=rfl
def MZ (h0 r:Nat)(h:j8)(b:Bool)(m:Option (List (qa×qa))):Option qq:=match b,m with
 |true,I es=>(match aJ h0 h r (.map es)with
  |some h'=>I ⟨.map (h0+r),En,Ef,h'⟩
  |none=>Ef)
 |_,_=>Ef
def Gr (h0 r:Nat)(h:j8)(b b':Bool)(m:Option (List (qa×qa)))(c:Option (qa×Bool)):Option qq:=match b with
 |true=>MZ h0 r h E1 m
 |false=>(match b',c with
  |true,I (v,o)=>pH h0 h r v o
  |_,_=>Ef)
@[go_sem] theorem zf4 {r:Nat}{b':Bool}{m:Option (List (qa×qa))}{c:Option (qa×Bool)}:Gr h0 r h E1 b' m c=MZ h0 r h E1 m:=rfl
@[go_sem] theorem j9b {r:Nat}{m:Option (List (qa×qa))}{v:qa}{o:Bool}:Gr h0 r h En E1 m (I (v,o))=pH h0 h r v o:=rfl
def jt5 (p:qt)(xc:XC)(h:j8)(k:Nat):Option (List qa)→Option qq
 |some us=>bif zu 0 us then(match jy p xc k us with
  |some (v,o)=>(match LX v o with
   |some (v',o')=>I ⟨v',o',Ef,h⟩
   |none=>Ef)
  |none=>Ef)else Ef
 |none=>Ef
def Aq (p:qt)(xc:XC)(h0:Nat)(h:j8)(md:jc)(f:Option qa)(l:Option (List qa)):Option qq:=match f,l with
 |some (.fn (.func k) a c),I vs=>(match md with
  | .bM=>Ue h (zu 0 (a++vs++c)) (jy p xc k (a++vs++c))
  | .fb r=>Gr h0 r h (a++vs++c).isEmpty (zu 0 (a++vs++c)) (p.maps k) (jy p xc k (a++vs++c))
  | .red=>jt5 p xc h k (wM h (a++vs++c))
  | .shr=>Uf h.length (zf p xc k (a++vs++c) h))
 |some (.fn (.yield b) [] []),I vs=>(match md with
  | .shr=>Ug (jO xc b vs h)
  |_=>Ef)
 |_,_=>Ef
@[go_sem] theorem zjr {md:jc}{f:qh}{l:List qh}:j9 p xc h0 al e h (.call md f l)=Aq p xc h0 h md (zc e f) (fF e l):=by
 simp only[j9,iC,Aq]
 split
 ·rename_i k first captured vs h1 h2
  rw[h1,h2]
  cases md with
  |bM=>
   simp only[]
   cases zu 0 (first++vs++captured)with
   |false=>cases jy p xc k (first++vs++captured)<;>rfl
   |true=>cases jy p xc k (first++vs++captured)<;>rfl
  |fb rk=>
   simp only[]
   cases (first++vs++captured).isEmpty with
   |false=>
    cases zu 0 (first++vs++captured)with
    |false=>cases jy p xc k (first++vs++captured)<;>rfl
    |true=>cases jy p xc k (first++vs++captured)<;>rfl
   |true=>
    cases p.maps k with
    |none=>rfl
    |some es=>simp only[cT,Gr,MZ];cases aJ h0 h rk (.map es)<;>rfl
  |red=>simp only[];cases wM h (first++vs++captured)<;>rfl
  |shr=>simp only[];cases zf p xc k (first++vs++captured) h<;>rfl
 ·rename_i b vs h1 h2
  rw[h1,h2]
  cases md with
  |shr=>simp only[];cases jO xc b vs h<;>rfl
  |_=>rfl
 ·rename_i h1 h2
  split
  ·rename_i k a c vs g1 g2;exact absurd g2 (fun g2=>h1 k a c vs g1 g2)
  ·rename_i b vs g1 g2;exact absurd g2 (fun g2=>h2 b vs g1 g2)
  ·rfl
@[go_sem] theorem j73 {k:Nat}{a c vs:List qa}:Aq p xc h0 h .bM (I (.fn (.func k) a c)) (I vs)=Ue h (zu 0 (a++vs++c)) (jy p xc k (a++vs++c)):=rfl
@[go_sem] theorem j8t {k r:Nat}{a c vs:List qa}:Aq p xc h0 h (.fb r) (I (.fn (.func k) a c)) (I vs)=Gr h0 r h (a++vs++c).isEmpty (zu 0 (a++vs++c)) (p.maps k) (jy p xc k (a++vs++c)):=rfl
@[go_sem] theorem j8n {k:Nat}{a c vs:List qa}:Aq p xc h0 h .red (I (.fn (.func k) a c)) (I vs)=jt5 p xc h k (wM h (a++vs++c)):=rfl
@[go_sem] theorem j69 {k:Nat}{a c vs:List qa}:Aq p xc h0 h .shr (I (.fn (.func k) a c)) (I vs)=Uf h.length (zf p xc k (a++vs++c) h):=rfl
@[go_sem] theorem jvv {b:Nat}{vs:List qa}:Aq p xc h0 h .shr (I (.fn (.yield b) [] [])) (I vs)=Ug (jO xc b vs h):=rfl
def DM (rs:List ja)(r:Option (qo×qg)):Option (qa×Bool×j8):=match r with
 |some (.normal,st)=>(match lh st rs with
   |some xs=>I ((yr xs).1,(yr xs).2,kL st rs)
   |none=>Ef)
 |some (.ret,st)=>(match lh st rs with
   |some xs=>I ((yr xs).1,(yr xs).2,kL st rs)
   |none=>Ef)
 |_=>Ef
def Uh (st:qg)(rs:List ja)(r:Option (List (qa×Bool))):Option (qa×Bool×j8):=match r with
 |some xs=>I ((yr xs).1,(yr xs).2,kL st rs)
 |none=>Ef
@[go_sem] theorem jvm {rs:List ja}{st:qg}:DM rs (I (.normal,st))=Uh st rs (lh st rs):=rfl
@[go_sem] theorem za0 {rs:List ja}{st:qg}:DM rs (I (.ret,st))=Uh st rs (lh st rs):=rfl
@[go_sem] theorem j8a {st:qg}{rs:List ja}{xs:List (qa×Bool)}:Uh st rs (I xs)=I ((yr xs).1,(yr xs).2,kL st rs):=rfl
theorem zd {k nt:Nat}{body:qe}{rs:List ja}{args:List qa}(hf:p.bj k=I ⟨nt,body,rs⟩)(hl:args.length≤nt):zf p xc k args h=DM rs (xc body ⟨n6 0 args,h⟩):=by
 simp only[zf,hf,oU,E0 hl,cT,DM]
 rfl
def Ui (x:Option (qa×Bool))(l:Option (List (qa×Bool))):Option (List (qa×Bool)):=match x,l with
 |some v,I vs=>I (v::vs)
 |_,_=>Ef
@[go_sem] theorem j6m {v:qa×Bool}{vs:List (qa×Bool)}:Ui (I v) (I vs)=I (v::vs):=rfl
@[go_sem] theorem jn4 {st:qg}:lh st []=I []:=rfl
@[go_sem] theorem jmb {st:qg}{r:ja}{rs:List ja}:lh st (r::rs)=Ui (tY st r) (lh st rs):=by
 simp only[lh,Ui]
 cases tY st r with
 |none=>rfl
 |some v=>cases lh st rs<;>rfl
@[go_sem] theorem jow {t:Nat}:tY ⟨e,h⟩ (.tmp t)=yd t e:=rfl
@[go_sem] theorem zcd {x:qa×Bool}:yr [x]=x:=rfl
@[go_sem] theorem zh1 {x y:qa×Bool}:yr [x,y]=(.aB [x.1,y.1],En):=rfl
@[go_sem] theorem j1u {x y z:qa×Bool}:yr [x,y,z]=(.aB [x.1,y.1,z.1],En):=rfl
@[go_sem] theorem j8g:yr []=(.aB [],En):=rfl
@[go_sem] theorem j8w {st:qg}{t:Nat}:kL st [.tmp t]=st.heap:=rfl
@[go_sem] theorem j80 {st:qg}{x y:ja}{l:List ja}:kL st (x::y::l)=st.heap:=by
 cases x with
 |tmp t=>rfl
 |cell t a n=>cases a<;>rfl
@[go_sem] theorem j58 {st:qg}:kL st []=st.heap:=rfl
@[go_sem] theorem j9j {st:qg}{t n:Nat}:kL st [.cell t E1 n]=st.heap:=rfl
@[go_sem] theorem j9r {o:Bool}:xm E1 (I (.bool E1,o))=I E1:=rfl
@[go_sem] theorem zel {o:Bool}:xm E1 (I (.bool En,o))=I En:=rfl
@[go_sem] theorem zdz {o:Bool}:xm En (I (.bool E1,o))=I En:=rfl
@[go_sem] theorem zhx {o:Bool}:xm En (I (.bool En,o))=I E1:=rfl
attribute [go_sem] cT cond_false decide_true decide_false Bool.not_true Bool.not_false List.append_nil List.nil_append List.length_cons List.length_nil
@[go_sem] theorem zkf:List.replicate 0 qn.hole=[]:=rfl
end
section
variable {p:qt}{xc:XC}{h0:Nat}{al:Option (List Nat)}{e:Env}{h:j8}{α:Type}
def sl (z:Nat)(f:α→qa):Option (List α)→qa
 |none=>.list E1 0 []
 |some l=>.list En z (l.map f)
@[go_sem] theorem zjz {z:Nat}{f:α→qa}{l:Option (List α)}:xn 1 h (I (sl z f l))=I ⟨.int .i64 (l.getD []).length,En,Ef,h⟩:=by
 cases l<;>simp[sl,xn,val]
theorem jpq {z:Nat}{f:α→qa}{l:Option (List α)}{k:IntKind}{i:Nat}{x:α}(hx:(l.getD [])[i]?=I x):gE z h (I (sl z f l)) (I (.int k (i:Int)))=I ⟨.ah (f x),En,Ef,h⟩:=by
 cases l with
 |none=>simp at hx
 |some l=>exact jew (by rw[List.getElem?_map,show l[i]?=I x from hx];rfl)
theorem uA {n z:Nat}{f:α→qa}{l:Option (List α)}(hf:∀x,below n (f x)=E1):below n (sl z f l)=E1:=by
 have key:∀l:List α,zu n (l.map f)=E1:=by
  intro l
  induction l with
  |nil=>rfl
  |cons x l ih=>simp[zu,hf,ih]
 cases l with
 |none=>rfl
 |some l=>simp only[sl,below];exact key l
theorem zj1 {z:Nat}{f:α→qa}(hf:∀x y,f x=f y→x=y){a b:Option (List α)}(pI:sl z f a=sl z f b):a=b:=by
 have key:∀a b:List α,a.map f=b.map f→a=b:=by
  intro a
  induction a with
  |nil=>intro b hb;cases b<;>simp at hb<;>rfl
  |cons x a ih=>
   intro b hb
   cases b with
   |nil=>simp at hb
   |cons y b=>simp at hb;rw[hf _ _ hb.1,ih _ hb.2]
 cases a<;>cases b<;>simp[sl]at pI<;>first|rfl|rw[key _ _ pI]
def kr (n:Int):qa:=.int .i64 n
@[go_sem] theorem j2p {i:Int}:eH h0 al En 1 h (I (.ah (kr i)))=I ⟨.int .i64 i,En,Ef,h⟩:=rfl
end
end Go.Abs
