/- Equations of the executor for runs on values that are not known. -/
import Derived.Test.YtfopaakmgogpiaaGreatDoorAbsH
open Option renaming some→I,none→En
open Bool renaming false→E1,true→E3
open Nat renaming ble_eq_true_of_le→E2,eq_of_beq_eq_true→E4,beq→E6,blt_eq→Gk
namespace Go.Abs
section
variable {p:qt}{xc:XC}{h0:Nat}{al:Option (List Nat)}{e:Env}{h:j8}
def Ga (r:Option (qo×qg))(f:qg→Option (qo×qg)):Option (qo×qg):=match r with
 |some (.normal,st)=>f st
 |r=>r
@[go_sem] theorem jrq {st:qg}{f:qg→Option (qo×qg)}:Ga (I (.normal,st)) f=f st:=rfl
@[go_sem] theorem j8c {st:qg}{f:qg→Option (qo×qg)}:Ga (I (.ret,st)) f=I (.ret,st):=rfl
@[go_sem] theorem jz5 {id:Nat}{st:qg}{f:qg→Option (qo×qg)}:Ga (I (.exit id,st)) f=I (.exit id,st):=rfl
@[go_sem] theorem zjv {a b:qf}{st:qg}:X p (.seq a b) st=Ga (X p a st) (X p b):=by
 rw[jz1];unfold Ga
 cases X p a st with
 |none=>rfl
 |some r=>obtain⟨x,s⟩:=r;cases x<;>rfl
def MY (c:Option qa)(f g:qg→Option (qo×qg))(st:qg):Option (qo×qg):=match c with
 |some (.bool E3)=>f st
 |some (.bool E1)=>g st
 |_=>En
@[go_sem] theorem jw5 {f g:qg→Option (qo×qg)}{st:qg}:MY (I (.bool E3)) f g st=f st:=rfl
@[go_sem] theorem jv0 {f g:qg→Option (qo×qg)}{st:qg}:MY (I (.bool E1)) f g st=g st:=rfl
@[go_sem] theorem zi1 {c:qh}{a b:qf}{st:qg}:X p (.cond c a b) st=MY (zd st.env c) (X p a) (X p b) st:=by
 rw[jsg];unfold MY
 cases zd st.env c with
 |none=>rfl
 |some v=>cases v with
  |bool t=>cases t<;>rfl
  |_=>rfl
def Gb (id:Nat)(r:Option (qo×qg)):Option (qo×qg):=match r with
 |some (.exit fp,bJ)=>if fp=id then I (.normal,bJ)else I (.exit fp,bJ)
 |r=>r
@[go_sem] theorem ju5 {id fp:Nat}{st:qg}:Gb id (I (.exit fp,st))=if fp=id then I (.normal,st)else I (.exit fp,st):=rfl
@[go_sem] theorem jnn {id:Nat}{st:qg}:Gb id (I (.normal,st))=I (.normal,st):=rfl
@[go_sem] theorem j14 {id:Nat}{st:qg}:Gb id (I (.ret,st))=I (.ret,st):=rfl
@[go_sem] theorem zie {id:Nat}{b:qf}{st:qg}:X p (.block id b) st=Gb id (X p b st):=by
 rw[jmm];unfold Gb
 cases X p b st with
 |none=>rfl
 |some r=>
  obtain⟨x,s⟩:=r
  cases x with
  |exit fp=>
   simp only[]
   by_cases hb:fp=id
   ·subst hb;simp
   ·rw[if_neg hb]
    cases hq:E6 fp id with
    |true=>exact absurd (E4 hq) hb
    |false=>rfl
  |_=>rfl
noncomputable def Dw (p:qt)(b:qf)(n:Nat)(r:Option (qo×qg)):Option (qo×qg):=match r with
 |some (.normal,bJ)=>X p (.loop b) (gc n bJ)
 |r=>r
theorem jm1 {b:qf}{st:qg}:X p (.loop b) st=Dw p b st.heap.length (X p b st):=by
 rw[jr5];unfold Dw
 cases X p b st with
 |none=>rfl
 |some r=>obtain⟨x,s⟩:=r;cases x<;>rfl
@[go_sem] theorem q3x {b:qf}{n:Nat}{st:qg}:Dw p b n (I (.normal,st))=X p (.loop b) (gc n st):=rfl
@[go_sem] theorem j8q {b:qf}{n:Nat}{st:qg}:Dw p b n (I (.ret,st))=I (.ret,st):=rfl
@[go_sem] theorem j0y {b:qf}{n id:Nat}{st:qg}:Dw p b n (I (.exit id,st))=I (.exit id,st):=rfl
attribute [go_sem] jrs juj j32 jir T5 jql
@[go_sem] theorem zj1 {env:Env}:gc 0 ⟨env,[]⟩=⟨env,[]⟩:=rfl
theorem Gc {n:Nat}{st:qg}(hn:st.heap.length≤n):gc n st=st:=by
 unfold gc;rw[E2 hn];rfl
theorem zkc {e e':Env}{h:j8}:gc (qg.mk e h).heap.length ⟨e',h⟩=⟨e',h⟩:=Gc (Nat.le_refl _)
def T8 (k:Option (List Nat))(r:Option qg):Option (qo×qg):=match r with
 |some bJ=>I (.normal,yL bJ k)
 |none=>En
@[go_sem] theorem j75 {k:Option (List Nat)}{st:qg}:T8 k (I st)=I (.normal,yL st k):=rfl
@[go_sem] theorem j9m {na:Nat}{l:List qv}{k:Option (List Nat)}{st:qg}:l8 p xc na l k st=T8 k (fD p xc st.heap.length l ⟨st.env,st.heap++List.replicate na .hole⟩):=by
 unfold l8 T8;rfl
def jpx (r:Option qg)(f:qg→Option qg):Option qg:=match r with
 |some st=>f st
 |none=>En
@[go_sem] theorem j80 {st:qg}{f:qg→Option qg}:jpx (I st) f=f st:=rfl
@[go_sem] theorem zfc {st:qg}:fD p xc h0 [] st=I st:=rfl
@[go_sem] theorem j7d {o:qv}{l:List qv}{st:qg}:fD p xc h0 (o::l) st=jpx (iC p xc h0 o st) (fD p xc h0 l):=rfl
def MZ (d:Option Nat)(e:Env)(r:Option qq):Option qg:=match r with
 |some r=>I ⟨nj (k9 e r.strip) d r.v r.own,r.heap⟩
 |none=>En
@[go_sem] theorem j7c {d:Option Nat}{v:qa}{o:Bool}{s:Option Nat}:MZ d e (I ⟨v,o,s,h⟩)=I ⟨nj (k9 e s) d v o,h⟩:=rfl
@[go_sem] theorem jns {d:Option Nat}{op:qw}{env:Env}:iC p xc h0 ⟨d,op,En,al⟩ ⟨env,h⟩=MZ d env (za p xc h0 al env h op):=rfl
def M0 (g:Option Bool)(d:Option Nat)(env:Env)(h:j8)(f:qw→Option qq)(op:qw):Option qg:=match g with
 |some E3=>MZ d env (f op)
 |some E1=>I ⟨nj env d .undef E1,h⟩
 |none=>En
@[go_sem] theorem jvf {d:Option Nat}{env:Env}{f:qw→Option qq}{op:qw}:M0 (I E3) d env h f op=MZ d env (f op):=rfl
@[go_sem] theorem jre {d:Option Nat}{env:Env}{f:qw→Option qq}{op:qw}:M0 (I E1) d env h f op=I ⟨nj env d .undef E1,h⟩:=rfl
@[go_sem] theorem jnw {d:Option Nat}{op:qw}{g:Nat×Bool}{env:Env}:iC p xc h0 ⟨d,op,I g,al⟩ ⟨env,h⟩=M0 (l7 env (I g)) d env h (za p xc h0 al env h) op:=by
 unfold iC M0
 simp only[]
 split
 ·rename_i hg;rw[hg];rfl
 ·rename_i hg;rw[hg]
 ·rename_i hg;rw[hg]
def wZ (b:Bool)(v:Option (qa×Bool)):Option Bool:=match v with
 |some (.bool c,_)=>I (c == b)
 |some (.undef,_)=>I E1
 |_=>En
@[go_sem] theorem jrz {s:Nat}{b:Bool}:l7 e (I (s,b))=wZ b (yd s e):=by
 unfold l7 wZ;rfl
theorem jvt {b c:Bool}{o:Bool}:wZ b (I (.bool c,o))=I (c == b):=rfl
@[go_sem] theorem jpr {b:Bool}{o:Bool}:wZ b (I (.undef,o))=I E1:=rfl
@[go_sem] theorem j7k {s t:Nat}{x:qa×Bool}:yd t ((s,x)::e)=if s=t then I x else yd t e:=by
 by_cases bS:s=t
 ·subst bS;rw[if_pos rfl];simp[yd]
 ·rw[if_neg bS]
  have:E6 s t=E1:=by
   cases hb:E6 s t with
   |false=>rfl
   |true=>exact absurd (E4 hb) bS
  simp[yd,this]
@[go_sem] theorem j9u {t:Nat}:yd t []=En:=rfl
def jri (x:Option (qa×Bool)):Option qa:=match x with
 |some x=>I x.1
 |none=>En
@[go_sem] theorem j7m {v:qa}{o:Bool}:jri (I (v,o))=I v:=rfl
@[go_sem] theorem j61 {t:Nat}:zd e (.tmp t)=jri (yd t e):=rfl
@[go_sem] theorem jv3 {v:qa}:zd e (.const v)=I v:=rfl
def oV (x:Option qa)(l:Option (List qa)):Option (List qa):=match x,l with
 |some v,I vs=>I (v::vs)
 |_,_=>En
@[go_sem] theorem j4w {v:qa}{vs:List qa}:oV (I v) (I vs)=I (v::vs):=rfl
@[go_sem] theorem j88:fC e []=I []:=rfl
@[go_sem] theorem jwn {x:qh}{l:List qh}:fC e (x::l)=oV (zd e x) (fC e l):=by
 simp only[fC,oV]
 cases zd e x with
 |none=>rfl
 |some v=>cases fC e l<;>rfl
@[go_sem] theorem jvu {l:List Nat}:yL ⟨e,h⟩ (I l)=⟨pq e l,h⟩:=rfl
@[go_sem] theorem jvl:yL ⟨e,h⟩ En=⟨e,h⟩:=rfl
def M1 (t:Nat)(x:Option (qa×Bool))(e:Env):Env:=match x with
 |some x=>(t,x)::e
 |none=>e
@[go_sem] theorem jz8 {t:Nat}{x:qa×Bool}:M1 t (I x) e=(t,x)::e:=rfl
@[go_sem] theorem jwm {t:Nat}:M1 t En e=e:=rfl
@[go_sem] theorem jv8:pq e []=[]:=rfl
@[go_sem] theorem jsm {t:Nat}{l:List Nat}:pq e (t::l)=M1 t (yd t e) (pq e l):=by
 simp only[pq,M1]
 cases yd t e<;>rfl
@[go_sem] theorem jv1 {d:Nat}{v:qa}{o:Bool}:nj e (I d) v o=(d,v,o)::e:=rfl
@[go_sem] theorem jwa {v:qa}{o:Bool}:nj e En v o=e:=rfl
@[go_sem] theorem jnt:k9 e En=e:=rfl
def T9 (s:Nat)(x:Option (qa×Bool))(e:Env):Env:=match x with
 |some (v,_)=>(s,v,E1)::e
 |none=>e
@[go_sem] theorem jv9 {s:Nat}{v:qa}{o:Bool}:T9 s (I (v,o)) e=(s,v,E1)::e:=rfl
@[go_sem] theorem jnv {s:Nat}:k9 e (I s)=T9 s (yd s e) e:=by
 simp only[k9,T9]
 cases yd s e<;>rfl
@[go_sem] theorem j0a {i:Nat}:nS i []=[]:=rfl
@[go_sem] theorem jvb {i:Nat}{v:qa}{vs:List qa}:nS i (v::vs)=(i,v,E1)::nS (i+1) vs:=rfl
@[go_sem] theorem j7z {v:qa}:fU h (I v)=I ⟨v,E1,En,h⟩:=rfl
@[go_sem] theorem zjy {v:qa}:val h v=I ⟨v,E1,En,h⟩:=rfl
@[go_sem] theorem zj0 {x:qh}:za p xc h0 al e h (.move x)=fU h (zd e x):=rfl
def Ua (s:Nat)(h:j8)(x:Option (qa×Bool)):Option qq:=match x with
 |some (v,o)=>I ⟨v,o,I s,h⟩
 |none=>En
@[go_sem] theorem j05 {s:Nat}{v:qa}{o:Bool}:Ua s h (I (v,o))=I ⟨v,o,I s,h⟩:=rfl
@[go_sem] theorem zjw {s:Nat}:za p xc h0 al e h (.take s)=Ua s h (yd s e):=by
 simp only[za,zi,Ua]
 cases yd s e<;>rfl
def Ub (op:BinOp)(h:j8)(a b:Option qa):Option qq:=match a,b with
 |some a,I b=>fU h (fo op a b)
 |_,_=>En
@[go_sem] theorem j78 {op:BinOp}{a b:qa}:Ub op h (I a) (I b)=fU h (fo op a b):=rfl
@[go_sem] theorem zkt {op:BinOp}{x y:qh}:za p xc h0 al e h (.bin op x y)=Ub op h (zd e x) (zd e y):=by
 simp only[za,zi,Ub]
 cases zd e x<;>cases zd e y<;>rfl
def Uc (h:j8)(c a b:Option qa):Option qq:=match c,a,b with
 |some (.bool t),I x,I y=>val h (bif t then x else y)
 |_,_,_=>En
@[go_sem] theorem jy2 {t:Bool}{a b:qa}:Uc h (I (.bool t)) (I a) (I b)=I ⟨bif t then a else b,E1,En,h⟩:=rfl
@[go_sem] theorem zka {c a b:qh}:za p xc h0 al e h (.pick c a b)=Uc h (zd e c) (zd e a) (zd e b):=by
 simp only[za,zi,Uc]
 cases zd e c with
 |none=>rfl
 |some v=>cases v<;>cases zd e a<;>cases zd e b<;>rfl
def xa (k:Nat)(h:j8)(x:Option qa):Option qq:=match k,x with
 |1,I (.list _ _ xs)=>val h (.int .i64 xs.length)
 |1,I (.ms _ _ n)=>val h (.int .i64 n)
 |1,I (.ak _ _ n)=>val h (.int .i64 n)
 |2,I (.list E3 _ _)=>val h (.int .i64 0)
 |0,I (.str s)=>val h (.int .i64 s.length)
 |_,_=>En
@[go_sem] theorem j8p {b:Bool}{z:Nat}{xs:List qa}:xa 1 h (I (.list b z xs))=I ⟨.int .i64 xs.length,E1,En,h⟩:=rfl
@[go_sem] theorem zi4 {b o n:Nat}:xa 1 h (I (.ms b o n))=I ⟨.int .i64 n,E1,En,h⟩:=rfl
@[go_sem] theorem j8x {b v n:Nat}:xa 1 h (I (.ak b v n))=I ⟨.int .i64 n,E1,En,h⟩:=rfl
@[go_sem] theorem zcl {s:List UInt8}:xa 0 h (I (.str s))=I ⟨.int .i64 s.length,E1,En,h⟩:=rfl
@[go_sem] theorem ze5 {z:Nat}{xs:List qa}:xa 2 h (I (.list E3 z xs))=I ⟨.int .i64 0,E1,En,h⟩:=rfl
@[go_sem] theorem zkb {k:Nat}{x:qh}:za p xc h0 al e h (.len k x)=xa k h (zd e x):=rfl
def uq (n:Nat)(i:Int):Option Nat:=if 0≤i∧i<n then I i.toNat else En
theorem xb {n:Nat}{k:IntKind}{i:Int}:idx n (.int k i)=uq n i:=by
 unfold idx uq
 cases i with
 |ofNat m=>
  by_cases hm:m<n
  ·rw[if_pos ⟨by simp,by simp;omega⟩];simp[Gk.mpr hm]
  ·rw[if_neg (by simp;omega)]
   cases hb:Nat.blt m n with
   |true=>exact absurd (Gk.mp hb) hm
   |false=>simp[hb]
 |negSucc m=>simp
attribute [go_sem] xb
theorem jl9 {n:Nat}{i:Int}(h1:0≤i)(h2:i<n):uq n i=I i.toNat:=by unfold uq;rw[if_pos ⟨h1,h2⟩]
theorem Ud {n i:Nat}(h:i<n):uq n (i:Int)=I i:=by unfold uq;rw[if_pos ⟨by simp,by omega⟩];simp
def kL (sz:Nat)(h:j8)(x i:Option qa):Option qq:=match x,i with
 |some (.list _ cJ xs),I j=>bif E6 sz cJ||xs.isEmpty then(match idx xs.length j with
   |some j=>(match xs[j]? with
    |some v=>val h (.ah v)
    |none=>En)
   |none=>En)else En
 |some (.ms b o len),I j=>(match idx len j with
   |some j=>val h (.ptr b (o+j*sz))
   |none=>En)
 |some (.ak b bu len),I j=>(match idx len j with
   |some j=>val h (.dq b bu (j*sz))
   |none=>En)
 |_,_=>En
@[go_sem] theorem jvg {sz:Nat}{x i:qh}:za p xc h0 al e h (.indexAddr sz x i)=kL sz h (zd e x) (zd e i):=by
 simp only[za,zi,kL]
 cases zd e x with
 |none=>rfl
 |some v=>cases v<;>cases zd e i<;>rfl
theorem ja8 {sz:Nat}{b:Bool}{k:IntKind}{xs:List qa}{i:Int}{v:qa}(h1:0≤i)(hv:xs[i.toNat]?=I v):kL sz h (I (.list b sz xs)) (I (.int k i))=I ⟨.ah v,E1,En,h⟩:=by
 have hl:=(List.getElem?_eq_some_iff.1 hv).1
 have hi:idx xs.length (.int k i)=I i.toNat:=by rw[xb];exact jl9 h1 (by omega)
 simp only[kL,hi,Nat.beq_refl,Bool.true_or,cT,hv]
 rfl
theorem ji3 {sz:Nat}{b:Bool}{k:IntKind}{xs:List qa}{i:Nat}{v:qa}(hv:xs[i]?=I v):kL sz h (I (.list b sz xs)) (I (.int k (i:Int)))=I ⟨.ah v,E1,En,h⟩:=
 ja8 (by simp) (by simpa using hv)
def gd (h0:Nat)(al:Option (List Nat))(agg:Bool)(n:Nat)(h:j8)(x:Option qa):Option qq:=match x with
 |some (.ptr b o)=>bif yv h0 al b then(match yl h b with
   |some cs=>(match y9 cs o n with
    |some vs=>bif agg then val h (.agg vs)else(match vs with
     | [v]=>val h v
     |_=>En)
    |none=>En)
   |none=>En)else En
 |some (.ah v)=>bif Bool.xor agg v.isAgg||!(E6 v.flat.length n)then En else val h v
 |some (.dq b bu o)=>bif tR h0 al b then(match y5 h b with
   |some (.vec _ db xs)=>bif E6 bu db&&Nat.ble (o+n) (xs.flatMap qa.flat).length then(bif agg then val h (.agg (((xs.flatMap qa.flat).drop o).take n))else(match((xs.flatMap qa.flat).drop o).take n with
     | [v]=>val h v
     |_=>En))else En
   |_=>En)else En
 |_=>En
@[go_sem] theorem zj6 {agg:Bool}{n:Nat}{x:qh}:za p xc h0 al e h (.load agg n x)=gd h0 al agg n h (zd e x):=by
 simp only[za,gT,gd]
 cases zd e x with
 |none=>rfl
 |some v=>cases v<;>rfl
def jj0:Option qa→Option qa
 |some (.ah v)=>I (.ah v)
 |_=>En
@[go_sem] theorem zjj {v:qa}:jj0 (I (.ah v))=I (.ah v):=rfl
@[go_sem] theorem zit {agg:Bool}{n:Nat}{x:qh}:za p xc h0 al e h (.eN agg n x)=gd h0 al agg n h (jj0 (zd e x)):=by
 simp only[za,zi,gd]
 cases zd e x with
 |none=>rfl
 |some v=>cases v<;>rfl
@[go_sem] theorem j9d {k:IntKind}{i:Int}:gd h0 al E1 1 h (I (.ah (.int k i)))=I ⟨.int k i,E1,En,h⟩:=rfl
@[go_sem] theorem j68 {s:List UInt8}:gd h0 al E1 1 h (I (.ah (.str s)))=I ⟨.str s,E1,En,h⟩:=rfl
@[go_sem] theorem j6c {b:Bool}:gd h0 al E1 1 h (I (.ah (.bool b)))=I ⟨.bool b,E1,En,h⟩:=rfl
@[go_sem] theorem jym {b:Bool}{z:Nat}{xs:List qa}:gd h0 al E1 1 h (I (.ah (.list b z xs)))=I ⟨.list b z xs,E1,En,h⟩:=rfl
theorem jdj {n:Nat}{cs:List qa}(hn:cs.length=n):gd h0 al E3 n h (I (.ah (.agg cs)))=I ⟨.agg cs,E1,En,h⟩:=by
 subst hn;simp[gd,qa.isAgg,qa.flat,val]
@[go_sem] theorem zkp {k:IntKind}{x y:Int}:fo .add (.int k x) (.int k y)=I (.int k (j9 k (x+y))):=by simp[fo,nQ]
@[go_sem] theorem zkg {k:IntKind}{x y:Int}:fo .sub (.int k x) (.int k y)=I (.int k (j9 k (x-y))):=by simp[fo,nQ]
@[go_sem] theorem zkn {k:IntKind}{x y:Int}:fo .mul (.int k x) (.int k y)=I (.int k (j9 k (x*y))):=by simp[fo,nQ]
@[go_sem] theorem zkl {k:IntKind}{x y:Int}:fo .lss (.int k x) (.int k y)=I (.bool (decide (x<y))):=by simp[fo,nQ]
@[go_sem] theorem zkk {k:IntKind}{x y:Int}:fo .leq (.int k x) (.int k y)=I (.bool (decide (x≤y))):=by simp[fo,nQ]
@[go_sem] theorem zko {k:IntKind}{x y:Int}:fo .gtr (.int k x) (.int k y)=I (.bool (decide (y<x))):=by simp[fo,nQ]
@[go_sem] theorem zke {k:IntKind}{x y:Int}:fo .geq (.int k x) (.int k y)=I (.bool (decide (y≤x))):=by simp[fo,nQ]
@[go_sem] theorem zkv {k:IntKind}{x y:Int}:fo .eql (.int k x) (.int k y)=I (.bool (decide (x=y))):=by
 simp only[fo,nQ,decide_true,cT];congr 2
@[go_sem] theorem zkm {k:IntKind}{x y:Int}:fo .neq (.int k x) (.int k y)=I (.bool (!decide (x=y))):=by
 simp only[fo,nQ,decide_true,cT];congr 2
theorem q0g {x:Int}(h1:-9223372036854775808≤x)(h2:x≤9223372036854775807):j9 .i64 x=x:=by
 have:pv .i64 x=E3:=by
  cases x with
  |ofNat m=>simp only[pv];exact E2 (by simp at h2;omega)
  |negSucc m=>simp only[pv];exact E2 (by omega)
 simp[j9,this]
def Ue (h:j8)(b:Bool)(r:Option (qa×Bool)):Option qq:=match b,r with
 |true,I (v,o)=>I ⟨v,o,En,h⟩
 |_,_=>En
@[go_sem] theorem j7i {v:qa}{o:Bool}:Ue h E3 (I (v,o))=I ⟨v,o,En,h⟩:=rfl
def Uf (n:Nat)(r:Option (qa×Bool×j8)):Option qq:=match r with
 |some (v,o,h')=>I ⟨v,o,En,yq n v h'⟩
 |none=>En
@[go_sem] theorem j67 {n:Nat}{v:qa}{o:Bool}:Uf n (I (v,o,h))=I ⟨v,o,En,yq n v h⟩:=rfl
def Ug (r:Option (qa×j8)):Option qq:=match r with
 |some (v,h')=>I ⟨v,E1,En,h'⟩
 |none=>En
@[go_sem] theorem ju9 {v:qa}:Ug (I (v,h))=I ⟨v,E1,En,h⟩:=rfl
def M2 (h0 r:Nat)(h:j8)(b:Bool)(m:Option (List (qa×qa))):Option qq:=match b,m with
 |true,I es=>(match aJ h0 h r (.map es)with
  |some h'=>I ⟨.map (h0+r),E1,En,h'⟩
  |none=>En)
 |_,_=>En
def Gd (h0 r:Nat)(h:j8)(b b':Bool)(m:Option (List (qa×qa)))(c:Option (qa×Bool)):Option qq:=match b with
 |true=>M2 h0 r h E3 m
 |false=>(match b',c with
  |true,I (v,o)=>py h0 h r v o
  |_,_=>En)
@[go_sem] theorem zh2 {r:Nat}{b':Bool}{m:Option (List (qa×qa))}{c:Option (qa×Bool)}:Gd h0 r h E3 b' m c=M2 h0 r h E3 m:=rfl
@[go_sem] theorem j82 {r:Nat}{m:Option (List (qa×qa))}{v:qa}{o:Bool}:Gd h0 r h E1 E3 m (I (v,o))=py h0 h r v o:=rfl
def jpj (p:qt)(xc:XC)(h:j8)(k:Nat):Option (List qa)→Option qq
 |some us=>bif zw 0 us then(match jz p xc k us with
  |some (v,o)=>(match L0 v o with
   |some (v',o')=>I ⟨v',o',En,h⟩
   |none=>En)
  |none=>En)else En
 |none=>En
def Aa (p:qt)(xc:XC)(h0:Nat)(h:j8)(md:jd)(f:Option qa)(l:Option (List qa)):Option qq:=match f,l with
 |some (.fn (.func k) a c),I vs=>(match md with
  | .bK=>Ue h (zw 0 (a++vs++c)) (jz p xc k (a++vs++c))
  | .fa r=>Gd h0 r h (a++vs++c).isEmpty (zw 0 (a++vs++c)) (p.maps k) (jz p xc k (a++vs++c))
  | .red=>jpj p xc h k (wx h (a++vs++c))
  | .shr=>Uf h.length (zg p xc k (a++vs++c) h))
 |some (.fn (.yield b) [] []),I vs=>(match md with
  | .shr=>Ug (jG xc b vs h)
  |_=>En)
 |_,_=>En
@[go_sem] theorem zjs {md:jd}{f:qh}{l:List qh}:za p xc h0 al e h (.call md f l)=Aa p xc h0 h md (zd e f) (fC e l):=by
 simp only[za,iB,Aa]
 split
 ·rename_i k first captured vs h1 h2
  rw[h1,h2]
  cases md with
  |bK=>
   simp only[]
   cases zw 0 (first++vs++captured)with
   |false=>cases jz p xc k (first++vs++captured)<;>rfl
   |true=>cases jz p xc k (first++vs++captured)<;>rfl
  |fa rk=>
   simp only[]
   cases (first++vs++captured).isEmpty with
   |false=>
    cases zw 0 (first++vs++captured)with
    |false=>cases jz p xc k (first++vs++captured)<;>rfl
    |true=>cases jz p xc k (first++vs++captured)<;>rfl
   |true=>
    cases p.maps k with
    |none=>rfl
    |some es=>simp only[cT,Gd,M2];cases aJ h0 h rk (.map es)<;>rfl
  |red=>simp only[];cases wx h (first++vs++captured)<;>rfl
  |shr=>simp only[];cases zg p xc k (first++vs++captured) h<;>rfl
 ·rename_i b vs h1 h2
  rw[h1,h2]
  cases md with
  |shr=>simp only[];cases jG xc b vs h<;>rfl
  |_=>rfl
 ·rename_i h1 h2
  split
  ·rename_i k a c vs g1 g2;exact absurd g2 (fun g2=>h1 k a c vs g1 g2)
  ·rename_i b vs g1 g2;exact absurd g2 (fun g2=>h2 b vs g1 g2)
  ·rfl
@[go_sem] theorem j9a {k:Nat}{a c vs:List qa}:Aa p xc h0 h .bK (I (.fn (.func k) a c)) (I vs)=Ue h (zw 0 (a++vs++c)) (jz p xc k (a++vs++c)):=rfl
@[go_sem] theorem j8k {k r:Nat}{a c vs:List qa}:Aa p xc h0 h (.fa r) (I (.fn (.func k) a c)) (I vs)=Gd h0 r h (a++vs++c).isEmpty (zw 0 (a++vs++c)) (p.maps k) (jz p xc k (a++vs++c)):=rfl
@[go_sem] theorem j73 {k:Nat}{a c vs:List qa}:Aa p xc h0 h .red (I (.fn (.func k) a c)) (I vs)=jpj p xc h k (wx h (a++vs++c)):=rfl
@[go_sem] theorem j8o {k:Nat}{a c vs:List qa}:Aa p xc h0 h .shr (I (.fn (.func k) a c)) (I vs)=Uf h.length (zg p xc k (a++vs++c) h):=rfl
@[go_sem] theorem jv2 {b:Nat}{vs:List qa}:Aa p xc h0 h .shr (I (.fn (.yield b) [] [])) (I vs)=Ug (jG xc b vs h):=rfl
def Dx (rs:List ja)(r:Option (qo×qg)):Option (qa×Bool×j8):=match r with
 |some (.normal,st)=>(match kW st rs with
   |some xs=>I ((yr xs).1,(yr xs).2,kF st rs)
   |none=>En)
 |some (.ret,st)=>(match kW st rs with
   |some xs=>I ((yr xs).1,(yr xs).2,kF st rs)
   |none=>En)
 |_=>En
def Uh (st:qg)(rs:List ja)(r:Option (List (qa×Bool))):Option (qa×Bool×j8):=match r with
 |some xs=>I ((yr xs).1,(yr xs).2,kF st rs)
 |none=>En
@[go_sem] theorem jvr {rs:List ja}{st:qg}:Dx rs (I (.normal,st))=Uh st rs (kW st rs):=rfl
@[go_sem] theorem zfw {rs:List ja}{st:qg}:Dx rs (I (.ret,st))=Uh st rs (kW st rs):=rfl
@[go_sem] theorem j8v {st:qg}{rs:List ja}{xs:List (qa×Bool)}:Uh st rs (I xs)=I ((yr xs).1,(yr xs).2,kF st rs):=rfl
theorem zh {k nt:Nat}{body:qf}{rs:List ja}{args:List qa}(hf:p.bL k=I ⟨nt,body,rs⟩)(hl:args.length≤nt):zg p xc k args h=Dx rs (xc body ⟨nS 0 args,h⟩):=by
 simp only[zg,hf,oI,E2 hl,cT,Dx]
 rfl
def Ui (x:Option (qa×Bool))(l:Option (List (qa×Bool))):Option (List (qa×Bool)):=match x,l with
 |some v,I vs=>I (v::vs)
 |_,_=>En
@[go_sem] theorem jyc {v:qa×Bool}{vs:List (qa×Bool)}:Ui (I v) (I vs)=I (v::vs):=rfl
@[go_sem] theorem jnr {st:qg}:kW st []=I []:=rfl
@[go_sem] theorem jl4 {st:qg}{r:ja}{rs:List ja}:kW st (r::rs)=Ui (tT st r) (kW st rs):=by
 simp only[kW,Ui]
 cases tT st r with
 |none=>rfl
 |some v=>cases kW st rs<;>rfl
@[go_sem] theorem jsj {t:Nat}:tT ⟨e,h⟩ (.tmp t)=yd t e:=rfl
@[go_sem] theorem j9k {x:qa×Bool}:yr [x]=x:=rfl
@[go_sem] theorem zcc {x y:qa×Bool}:yr [x,y]=(.aC [x.1,y.1],E1):=rfl
@[go_sem] theorem j39 {x y z:qa×Bool}:yr [x,y,z]=(.aC [x.1,y.1,z.1],E1):=rfl
@[go_sem] theorem j9e:yr []=(.aC [],E1):=rfl
@[go_sem] theorem j81 {st:qg}{t:Nat}:kF st [.tmp t]=st.heap:=rfl
@[go_sem] theorem j64 {st:qg}{x y:ja}{l:List ja}:kF st (x::y::l)=st.heap:=by
 cases x with
 |tmp t=>rfl
 |cell t a n=>cases a<;>rfl
@[go_sem] theorem jz6 {st:qg}:kF st []=st.heap:=rfl
@[go_sem] theorem j7v {st:qg}{t n:Nat}:kF st [.cell t E3 n]=st.heap:=rfl
@[go_sem] theorem zc8 {o:Bool}:wZ E3 (I (.bool E3,o))=I E3:=rfl
@[go_sem] theorem j91 {o:Bool}:wZ E3 (I (.bool E1,o))=I E1:=rfl
@[go_sem] theorem zeh {o:Bool}:wZ E1 (I (.bool E3,o))=I E1:=rfl
@[go_sem] theorem zem {o:Bool}:wZ E1 (I (.bool E1,o))=I E3:=rfl
attribute [go_sem] cT cond_false decide_true decide_false Bool.not_true Bool.not_false List.append_nil List.nil_append List.length_cons List.length_nil
@[go_sem] theorem zkh:List.replicate 0 qn.hole=[]:=rfl
end
section
variable {p:qt}{xc:XC}{h0:Nat}{al:Option (List Nat)}{e:Env}{h:j8}{α:Type}
def sl (z:Nat)(f:α→qa):Option (List α)→qa
 |none=>.list E3 0 []
 |some l=>.list E1 z (l.map f)
@[go_sem] theorem zj7 {z:Nat}{f:α→qa}{l:Option (List α)}:xa 1 h (I (sl z f l))=I ⟨.int .i64 (l.getD []).length,E1,En,h⟩:=by
 cases l<;>simp[sl,xa,val]
theorem jsu {z:Nat}{f:α→qa}{l:Option (List α)}{k:IntKind}{i:Nat}{x:α}(hx:(l.getD [])[i]?=I x):kL z h (I (sl z f l)) (I (.int k (i:Int)))=I ⟨.ah (f x),E1,En,h⟩:=by
 cases l with
 |none=>simp at hx
 |some l=>exact ji3 (by rw[List.getElem?_map,show l[i]?=I x from hx];rfl)
theorem ur {n z:Nat}{f:α→qa}{l:Option (List α)}(hf:∀x,below n (f x)=E3):below n (sl z f l)=E3:=by
 have key:∀l:List α,zw n (l.map f)=E3:=by
  intro l
  induction l with
  |nil=>rfl
  |cons x l ih=>simp[zw,hf,ih]
 cases l with
 |none=>rfl
 |some l=>simp only[sl,below];exact key l
theorem zjr {z:Nat}{f:α→qa}(hf:∀x y,f x=f y→x=y){a b:Option (List α)}(pz:sl z f a=sl z f b):a=b:=by
 have key:∀a b:List α,a.map f=b.map f→a=b:=by
  intro a
  induction a with
  |nil=>intro b hb;cases b<;>simp at hb<;>rfl
  |cons x a ih=>
   intro b hb
   cases b with
   |nil=>simp at hb
   |cons y b=>simp at hb;rw[hf _ _ hb.1,ih _ hb.2]
 cases a<;>cases b<;>simp[sl]at pz<;>first|rfl|rw[key _ _ pz]
def kw (n:Int):qa:=.int .i64 n
@[go_sem] theorem j29 {i:Int}:gd h0 al E1 1 h (I (.ah (kw i)))=I ⟨.int .i64 i,E1,En,h⟩:=rfl
end
end Go.Abs
