/- Equations of the executor for runs on values that are not known. -/
import Derived.Test.YtfopaakmgogpiaaGreatDoorAbsH
set_option linter.unusedVariables false
set_option linter.unusedSimpArgs false
open Option renaming some→I,none→Eh
open Bool renaming false→El,true→Eo
open Nat renaming ble_eq_true_of_le→En,eq_of_beq_eq_true→Ev,beq→E5,blt_eq→E6
namespace Go.Abs
section
variable {p:qr}{xc:XC}{h0:Nat}{al:Option (List Nat)}{e:Env}{h:j8}
def Gz (r:Option (qo×qh))(f:qh→Option (qo×qh)):Option (qo×qh):=match r with
 |some (.normal,st)=>f st
 |r=>r
@[go_sem] theorem js7 {st:qh}{f:qh→Option (qo×qh)}:Gz (I (.normal,st)) f=f st:=rfl
@[go_sem] theorem j79 {st:qh}{f:qh→Option (qo×qh)}:Gz (I (.ret,st)) f=I (.ret,st):=rfl
@[go_sem] theorem jwy {id:Nat}{st:qh}{f:qh→Option (qo×qh)}:Gz (I (.exit id,st)) f=I (.exit id,st):=rfl
@[go_sem] theorem zji {a b:qg}{st:qh}:X p (.seq a b) st=Gz (X p a st) (X p b):=by
 rw[j5s];unfold Gz
 cases X p a st with
 |none=>rfl
 |some r=>obtain⟨x,s⟩:=r;cases x<;>rfl
def M5 (c:Option qa)(f g:qh→Option (qo×qh))(st:qh):Option (qo×qh):=match c with
 |some (.bool Eo)=>f st
 |some (.bool El)=>g st
 |_=>Eh
@[go_sem] theorem j4q {f g:qh→Option (qo×qh)}{st:qh}:M5 (I (.bool Eo)) f g st=f st:=rfl
@[go_sem] theorem juy {f g:qh→Option (qo×qh)}{st:qh}:M5 (I (.bool El)) f g st=g st:=rfl
@[go_sem] theorem zil {c:qf}{a b:qg}{st:qh}:X p (.cond c a b) st=M5 (zd st.env c) (X p a) (X p b) st:=by
 rw[jnm];unfold M5
 cases zd st.env c with
 |none=>rfl
 |some v=>cases v with
  |bool t=>cases t<;>rfl
  |_=>rfl
def GD (id:Nat)(r:Option (qo×qh)):Option (qo×qh):=match r with
 |some (.exit fp,bK)=>if fp=id then I (.normal,bK)else I (.exit fp,bK)
 |r=>r
@[go_sem] theorem ju4 {id fp:Nat}{st:qh}:GD id (I (.exit fp,st))=if fp=id then I (.normal,st)else I (.exit fp,st):=rfl
@[go_sem] theorem jni {id:Nat}{st:qh}:GD id (I (.normal,st))=I (.normal,st):=rfl
@[go_sem] theorem j0h {id:Nat}{st:qh}:GD id (I (.ret,st))=I (.ret,st):=rfl
@[go_sem] theorem zgh {id:Nat}{b:qg}{st:qh}:X p (.block id b) st=GD id (X p b st):=by
 rw[jkx];unfold GD
 cases X p b st with
 |none=>rfl
 |some r=>
  obtain⟨x,s⟩:=r
  cases x with
  |exit fp=>
   simp only[]
   by_cases hb:fp=id
   ·subst hb;simp
   ·rw[if_neg hb]
    cases hq:E5 fp id with
    |true=>exact absurd (Ev hq) hb
    |false=>rfl
  |_=>rfl
noncomputable def DQ (p:qr)(b:qg)(n:Nat)(r:Option (qo×qh)):Option (qo×qh):=match r with
 |some (.normal,bK)=>X p (.loop b) (gc n bK)
 |r=>r
theorem jld {b:qg}{st:qh}:X p (.loop b) st=DQ p b st.heap.length (X p b st):=by
 rw[jqo];unfold DQ
 cases X p b st with
 |none=>rfl
 |some r=>obtain⟨x,s⟩:=r;cases x<;>rfl
@[go_sem] theorem q3d {b:qg}{n:Nat}{st:qh}:DQ p b n (I (.normal,st))=X p (.loop b) (gc n st):=rfl
@[go_sem] theorem j67 {b:qg}{n:Nat}{st:qh}:DQ p b n (I (.ret,st))=I (.ret,st):=rfl
@[go_sem] theorem j50 {b:qg}{n id:Nat}{st:qh}:DQ p b n (I (.exit id,st))=I (.exit id,st):=rfl
attribute [go_sem] jtq jqg j0c jin T5 jos
@[go_sem] theorem zje {env:Env}:gc 0 ⟨env,[]⟩=⟨env,[]⟩:=rfl
theorem GF {n:Nat}{st:qh}(hn:st.heap.length≤n):gc n st=st:=by
 unfold gc;rw[En hn];rfl
theorem zjw {e e':Env}{h:j8}:gc (qh.mk e h).heap.length ⟨e',h⟩=⟨e',h⟩:=GF (Nat.le_refl _)
def T8 (k:Option (List Nat))(r:Option qh):Option (qo×qh):=match r with
 |some bK=>I (.normal,zA bK k)
 |none=>Eh
@[go_sem] theorem j6e {k:Option (List Nat)}{st:qh}:T8 k (I st)=I (.normal,zA st k):=rfl
@[go_sem] theorem zdu {na:Nat}{l:List qv}{k:Option (List Nat)}{st:qh}:mr p xc na l k st=T8 k (fF p xc st.heap.length l ⟨st.env,st.heap++List.replicate na .hole⟩):=by
 unfold mr T8;rfl
def jsr (r:Option qh)(f:qh→Option qh):Option qh:=match r with
 |some st=>f st
 |none=>Eh
@[go_sem] theorem j64 {st:qh}{f:qh→Option qh}:jsr (I st) f=f st:=rfl
@[go_sem] theorem zfe {st:qh}:fF p xc h0 [] st=I st:=rfl
@[go_sem] theorem j6o {o:qv}{l:List qv}{st:qh}:fF p xc h0 (o::l) st=jsr (iI p xc h0 o st) (fF p xc h0 l):=rfl
def M6 (d:Option Nat)(e:Env)(r:Option qq):Option qh:=match r with
 |some r=>I ⟨np (gy e r.strip) d r.v r.own,r.heap⟩
 |none=>Eh
@[go_sem] theorem j58 {d:Option Nat}{v:qa}{o:Bool}{s:Option Nat}:M6 d e (I ⟨v,o,s,h⟩)=I ⟨np (gy e s) d v o,h⟩:=rfl
@[go_sem] theorem jnf {d:Option Nat}{op:qw}{env:Env}:iI p xc h0 ⟨d,op,Eh,al⟩ ⟨env,h⟩=M6 d env (za p xc h0 al env h op):=rfl
def M7 (g:Option Bool)(d:Option Nat)(env:Env)(h:j8)(f:qw→Option qq)(op:qw):Option qh:=match g with
 |some Eo=>M6 d env (f op)
 |some El=>I ⟨np env d .undef El,h⟩
 |none=>Eh
@[go_sem] theorem ju6 {d:Option Nat}{env:Env}{f:qw→Option qq}{op:qw}:M7 (I Eo) d env h f op=M6 d env (f op):=rfl
@[go_sem] theorem jrx {d:Option Nat}{env:Env}{f:qw→Option qq}{op:qw}:M7 (I El) d env h f op=I ⟨np env d .undef El,h⟩:=rfl
@[go_sem] theorem jm4 {d:Option Nat}{op:qw}{g:Nat×Bool}{env:Env}:iI p xc h0 ⟨d,op,I g,al⟩ ⟨env,h⟩=M7 (mg env (I g)) d env h (za p xc h0 al env h) op:=by
 unfold iI M7
 simp only[]
 split
 ·rename_i hg;rw[hg];rfl
 ·rename_i hg;rw[hg]
 ·rename_i hg;rw[hg]
def xD (b:Bool)(v:Option (qa×Bool)):Option Bool:=match v with
 |some (.bool c,_)=>I (c == b)
 |some (.undef,_)=>I El
 |_=>Eh
@[go_sem] theorem jrm {s:Nat}{b:Bool}:mg e (I (s,b))=xD b (ye s e):=by
 unfold mg xD;rfl
theorem juj {b c:Bool}{o:Bool}:xD b (I (.bool c,o))=I (c == b):=rfl
@[go_sem] theorem jo1 {b:Bool}{o:Bool}:xD b (I (.undef,o))=I El:=rfl
@[go_sem] theorem j77 {s t:Nat}{x:qa×Bool}:ye t ((s,x)::e)=if s=t then I x else ye t e:=by
 by_cases bO:s=t
 ·subst bO;rw[if_pos rfl];simp[ye]
 ·rw[if_neg bO]
  have:E5 s t=El:=by
   cases hb:E5 s t with
   |false=>rfl
   |true=>exact absurd (Ev hb) bO
  simp[ye,this]
@[go_sem] theorem zev {t:Nat}:ye t []=Eh:=rfl
def jnx (x:Option (qa×Bool)):Option qa:=match x with
 |some x=>I x.1
 |none=>Eh
@[go_sem] theorem j6n {v:qa}{o:Bool}:jnx (I (v,o))=I v:=rfl
@[go_sem] theorem j65 {t:Nat}:zd e (.tmp t)=jnx (ye t e):=rfl
@[go_sem] theorem jui {v:qa}:zd e (.const v)=I v:=rfl
def ph (x:Option qa)(l:Option (List qa)):Option (List qa):=match x,l with
 |some v,I vs=>I (v::vs)
 |_,_=>Eh
@[go_sem] theorem j4o {v:qa}{vs:List qa}:ph (I v) (I vs)=I (v::vs):=rfl
@[go_sem] theorem j54:fE e []=I []:=rfl
@[go_sem] theorem jy3 {x:qf}{l:List qf}:fE e (x::l)=ph (zd e x) (fE e l):=by
 simp only[fE,ph]
 cases zd e x with
 |none=>rfl
 |some v=>cases fE e l<;>rfl
@[go_sem] theorem jvk {l:List Nat}:zA ⟨e,h⟩ (I l)=⟨pD e l,h⟩:=rfl
@[go_sem] theorem jut:zA ⟨e,h⟩ Eh=⟨e,h⟩:=rfl
def M8 (t:Nat)(x:Option (qa×Bool))(e:Env):Env:=match x with
 |some x=>(t,x)::e
 |none=>e
@[go_sem] theorem j51 {t:Nat}{x:qa×Bool}:M8 t (I x) e=(t,x)::e:=rfl
@[go_sem] theorem j4t {t:Nat}:M8 t Eh e=e:=rfl
@[go_sem] theorem juk:pD e []=[]:=rfl
@[go_sem] theorem jpr {t:Nat}{l:List Nat}:pD e (t::l)=M8 t (ye t e) (pD e l):=by
 simp only[pD,M8]
 cases ye t e<;>rfl
@[go_sem] theorem jul {d:Nat}{v:qa}{o:Bool}:np e (I d) v o=(d,v,o)::e:=rfl
@[go_sem] theorem juw {v:qa}{o:Bool}:np e Eh v o=e:=rfl
@[go_sem] theorem jm5:gy e Eh=e:=rfl
def T9 (s:Nat)(x:Option (qa×Bool))(e:Env):Env:=match x with
 |some (v,_)=>(s,v,El)::e
 |none=>e
@[go_sem] theorem juv {s:Nat}{v:qa}{o:Bool}:T9 s (I (v,o)) e=(s,v,El)::e:=rfl
@[go_sem] theorem jm6 {s:Nat}:gy e (I s)=T9 s (ye s e) e:=by
 simp only[gy,T9]
 cases ye s e<;>rfl
@[go_sem] theorem j1o {i:Nat}:nZ i []=[]:=rfl
@[go_sem] theorem juq {i:Nat}{v:qa}{vs:List qa}:nZ i (v::vs)=(i,v,El)::nZ (i+1) vs:=rfl
@[go_sem] theorem j7z {v:qa}:fY h (I v)=I ⟨v,El,Eh,h⟩:=rfl
@[go_sem] theorem zjm {v:qa}:val h v=I ⟨v,El,Eh,h⟩:=rfl
@[go_sem] theorem zjh {x:qf}:za p xc h0 al e h (.move x)=fY h (zd e x):=rfl
def Ua (s:Nat)(h:j8)(x:Option (qa×Bool)):Option qq:=match x with
 |some (v,o)=>I ⟨v,o,I s,h⟩
 |none=>Eh
@[go_sem] theorem jx7 {s:Nat}{v:qa}{o:Bool}:Ua s h (I (v,o))=I ⟨v,o,I s,h⟩:=rfl
@[go_sem] theorem zi9 {s:Nat}:za p xc h0 al e h (.take s)=Ua s h (ye s e):=by
 simp only[za,zi,Ua]
 cases ye s e<;>rfl
def Ub (op:BinOp)(h:j8)(a b:Option qa):Option qq:=match a,b with
 |some a,I b=>fY h (fo op a b)
 |_,_=>Eh
@[go_sem] theorem j6y {op:BinOp}{a b:qa}:Ub op h (I a) (I b)=fY h (fo op a b):=rfl
@[go_sem] theorem zju {op:BinOp}{x y:qf}:za p xc h0 al e h (.bin op x y)=Ub op h (zd e x) (zd e y):=by
 simp only[za,zi,Ub]
 cases zd e x<;>cases zd e y<;>rfl
def Uc (h:j8)(c a b:Option qa):Option qq:=match c,a,b with
 |some (.bool t),I x,I y=>val h (bif t then x else y)
 |_,_,_=>Eh
@[go_sem] theorem j4v {t:Bool}{a b:qa}:Uc h (I (.bool t)) (I a) (I b)=I ⟨bif t then a else b,El,Eh,h⟩:=rfl
@[go_sem] theorem zjj {c a b:qf}:za p xc h0 al e h (.pick c a b)=Uc h (zd e c) (zd e a) (zd e b):=by
 simp only[za,zi,Uc]
 cases zd e c with
 |none=>rfl
 |some v=>cases v<;>cases zd e a<;>cases zd e b<;>rfl
def xE (k:Nat)(h:j8)(x:Option qa):Option qq:=match k,x with
 |1,I (.list _ _ xs)=>val h (.int .i64 xs.length)
 |1,I (.ms _ _ n)=>val h (.int .i64 n)
 |1,I (.au _ _ n)=>val h (.int .i64 n)
 |2,I (.list Eo _ _)=>val h (.int .i64 0)
 |0,I (.str s)=>val h (.int .i64 s.length)
 |_,_=>Eh
@[go_sem] theorem j7q {b:Bool}{z:Nat}{xs:List qa}:xE 1 h (I (.list b z xs))=I ⟨.int .i64 xs.length,El,Eh,h⟩:=rfl
@[go_sem] theorem zif {b o n:Nat}:xE 1 h (I (.ms b o n))=I ⟨.int .i64 n,El,Eh,h⟩:=rfl
@[go_sem] theorem j55 {b v n:Nat}:xE 1 h (I (.au b v n))=I ⟨.int .i64 n,El,Eh,h⟩:=rfl
@[go_sem] theorem zgq {s:List UInt8}:xE 0 h (I (.str s))=I ⟨.int .i64 s.length,El,Eh,h⟩:=rfl
@[go_sem] theorem zc2 {z:Nat}{xs:List qa}:xE 2 h (I (.list Eo z xs))=I ⟨.int .i64 0,El,Eh,h⟩:=rfl
@[go_sem] theorem zj5 {k:Nat}{x:qf}:za p xc h0 al e h (.len k x)=xE k h (zd e x):=rfl
def uH (n:Nat)(i:Int):Option Nat:=if 0≤i∧i<n then I i.toNat else Eh
theorem xF {n:Nat}{k:IntKind}{i:Int}:idx n (.int k i)=uH n i:=by
 unfold idx uH
 cases i with
 |ofNat m=>
  by_cases hm:m<n
  ·rw[if_pos ⟨by simp,by simp;omega⟩];simp[E6.mpr hm]
  ·rw[if_neg (by simp;omega)]
   cases hb:Nat.blt m n with
   |true=>exact absurd (E6.mp hb) hm
   |false=>simp[hb]
 |negSucc m=>simp
attribute [go_sem] xF
theorem jky {n:Nat}{i:Int}(h1:0≤i)(h2:i<n):uH n i=I i.toNat:=by unfold uH;rw[if_pos ⟨h1,h2⟩]
theorem Ud {n i:Nat}(h:i<n):uH n (i:Int)=I i:=by unfold uH;rw[if_pos ⟨by simp,by omega⟩];simp
def jL (sz:Nat)(h:j8)(x i:Option qa):Option qq:=match x,i with
 |some (.list _ cK xs),I j=>bif E5 sz cK||xs.isEmpty then(match idx xs.length j with
   |some j=>(match xs[j]? with
    |some v=>val h (.ah v)
    |none=>Eh)
   |none=>Eh)else Eh
 |some (.ms b o len),I j=>(match idx len j with
   |some j=>val h (.ptr b (o+j*sz))
   |none=>Eh)
 |some (.au b bu len),I j=>(match idx len j with
   |some j=>val h (.dk b bu (j*sz))
   |none=>Eh)
 |_,_=>Eh
@[go_sem] theorem ju7 {sz:Nat}{x i:qf}:za p xc h0 al e h (.indexAddr sz x i)=jL sz h (zd e x) (zd e i):=by
 simp only[za,zi,jL]
 cases zd e x with
 |none=>rfl
 |some v=>cases v<;>cases zd e i<;>rfl
theorem q96 {sz:Nat}{b:Bool}{k:IntKind}{xs:List qa}{i:Int}{v:qa}(h1:0≤i)(hv:xs[i.toNat]?=I v):jL sz h (I (.list b sz xs)) (I (.int k i))=I ⟨.ah v,El,Eh,h⟩:=by
 have hl:=(List.getElem?_eq_some_iff.1 hv).1
 have hi:idx xs.length (.int k i)=I i.toNat:=by rw[xF];exact jky h1 (by omega)
 simp only[jL,hi,Nat.beq_refl,Bool.true_or,cT,hv]
 rfl
theorem jeo {sz:Nat}{b:Bool}{k:IntKind}{xs:List qa}{i:Nat}{v:qa}(hv:xs[i]?=I v):jL sz h (I (.list b sz xs)) (I (.int k (i:Int)))=I ⟨.ah v,El,Eh,h⟩:=
 q96 (by simp) (by simpa using hv)
def fN (h0:Nat)(al:Option (List Nat))(agg:Bool)(n:Nat)(h:j8)(x:Option qa):Option qq:=match x with
 |some (.ptr b o)=>bif yw h0 al b then(match yl h b with
   |some cs=>(match kc cs o n with
    |some vs=>bif agg then val h (.agg vs)else(match vs with
     | [v]=>val h v
     |_=>Eh)
    |none=>Eh)
   |none=>Eh)else Eh
 |some (.ah v)=>bif Bool.xor agg v.isAgg||!(E5 v.flat.length n)then Eh else val h v
 |some (.dk b bu o)=>bif ug h0 al b then(match y7 h b with
   |some (.vec _ dc xs)=>bif E5 bu dc&&Nat.ble (o+n) (xs.flatMap qa.flat).length then(bif agg then val h (.agg (((xs.flatMap qa.flat).drop o).take n))else(match((xs.flatMap qa.flat).drop o).take n with
     | [v]=>val h v
     |_=>Eh))else Eh
   |_=>Eh)else Eh
 |_=>Eh
@[go_sem] theorem zi5 {agg:Bool}{n:Nat}{x:qf}:za p xc h0 al e h (.load agg n x)=fN h0 al agg n h (zd e x):=by
 simp only[za,gZ,fN]
 cases zd e x with
 |none=>rfl
 |some v=>cases v<;>rfl
def jj8:Option qa→Option qa
 |some (.ah v)=>I (.ah v)
 |_=>Eh
@[go_sem] theorem zie {v:qa}:jj8 (I (.ah v))=I (.ah v):=rfl
@[go_sem] theorem zic {agg:Bool}{n:Nat}{x:qf}:za p xc h0 al e h (.eT agg n x)=fN h0 al agg n h (jj8 (zd e x)):=by
 simp only[za,zi,fN]
 cases zd e x with
 |none=>rfl
 |some v=>cases v<;>rfl
@[go_sem] theorem j6l {k:IntKind}{i:Int}:fN h0 al El 1 h (I (.ah (.int k i)))=I ⟨.int k i,El,Eh,h⟩:=rfl
@[go_sem] theorem j78 {s:List UInt8}:fN h0 al El 1 h (I (.ah (.str s)))=I ⟨.str s,El,Eh,h⟩:=rfl
@[go_sem] theorem j17 {b:Bool}:fN h0 al El 1 h (I (.ah (.bool b)))=I ⟨.bool b,El,Eh,h⟩:=rfl
@[go_sem] theorem j5i {b:Bool}{z:Nat}{xs:List qa}:fN h0 al El 1 h (I (.ah (.list b z xs)))=I ⟨.list b z xs,El,Eh,h⟩:=rfl
theorem jak {n:Nat}{cs:List qa}(hn:cs.length=n):fN h0 al Eo n h (I (.ah (.agg cs)))=I ⟨.agg cs,El,Eh,h⟩:=by
 subst hn;simp[fN,qa.isAgg,qa.flat,val]
@[go_sem] theorem zjy {k:IntKind}{x y:Int}:fo .add (.int k x) (.int k y)=I (.int k (j9 k (x+y))):=by simp[fo,nX]
@[go_sem] theorem zjx {k:IntKind}{x y:Int}:fo .sub (.int k x) (.int k y)=I (.int k (j9 k (x-y))):=by simp[fo,nX]
@[go_sem] theorem zjv {k:IntKind}{x y:Int}:fo .mul (.int k x) (.int k y)=I (.int k (j9 k (x*y))):=by simp[fo,nX]
@[go_sem] theorem zjp {k:IntKind}{x y:Int}:fo .lss (.int k x) (.int k y)=I (.bool (decide (x<y))):=by simp[fo,nX]
@[go_sem] theorem zjq {k:IntKind}{x y:Int}:fo .leq (.int k x) (.int k y)=I (.bool (decide (x≤y))):=by simp[fo,nX]
@[go_sem] theorem zj4 {k:IntKind}{x y:Int}:fo .gtr (.int k x) (.int k y)=I (.bool (decide (y<x))):=by simp[fo,nX]
@[go_sem] theorem zjs {k:IntKind}{x y:Int}:fo .geq (.int k x) (.int k y)=I (.bool (decide (y≤x))):=by simp[fo,nX]
@[go_sem] theorem zj2 {k:IntKind}{x y:Int}:fo .eql (.int k x) (.int k y)=I (.bool (decide (x=y))):=by
 simp only[fo,nX,decide_true,cT];congr 2
@[go_sem] theorem zj6 {k:IntKind}{x y:Int}:fo .neq (.int k x) (.int k y)=I (.bool (!decide (x=y))):=by
 simp only[fo,nX,decide_true,cT];congr 2
theorem qzn {x:Int}(h1:-9223372036854775808≤x)(h2:x≤9223372036854775807):j9 .i64 x=x:=by
 have:pE .i64 x=Eo:=by
  cases x with
  |ofNat m=>simp only[pE];exact En (by simp at h2;omega)
  |negSucc m=>simp only[pE];exact En (by omega)
 simp[j9,this]
def Ue (h:j8)(b:Bool)(r:Option (qa×Bool)):Option qq:=match b,r with
 |true,I (v,o)=>I ⟨v,o,Eh,h⟩
 |_,_=>Eh
@[go_sem] theorem j70 {v:qa}{o:Bool}:Ue h Eo (I (v,o))=I ⟨v,o,Eh,h⟩:=rfl
def Uf (n:Nat)(r:Option (qa×Bool×j8)):Option qq:=match r with
 |some (v,o,h')=>I ⟨v,o,Eh,yx n v h'⟩
 |none=>Eh
@[go_sem] theorem j7g {n:Nat}{v:qa}{o:Bool}:Uf n (I (v,o,h))=I ⟨v,o,Eh,yx n v h⟩:=rfl
def Ug (r:Option (qa×j8)):Option qq:=match r with
 |some (v,h')=>I ⟨v,El,Eh,h'⟩
 |none=>Eh
@[go_sem] theorem juu {v:qa}:Ug (I (v,h))=I ⟨v,El,Eh,h⟩:=rfl
def M9 (h0 r:Nat)(h:j8)(b:Bool)(m:Option (List (qa×qa))):Option qq:=match b,m with
 |true,I es=>(match aI h0 h r (.map es)with
  |some h'=>I ⟨.map (h0+r),El,Eh,h'⟩
  |none=>Eh)
 |_,_=>Eh
def GG (h0 r:Nat)(h:j8)(b b':Bool)(m:Option (List (qa×qa)))(c:Option (qa×Bool)):Option qq:=match b with
 |true=>M9 h0 r h Eo m
 |false=>(match b',c with
  |true,I (v,o)=>pH h0 h r v o
  |_,_=>Eh)
@[go_sem] theorem zb2 {r:Nat}{b':Bool}{m:Option (List (qa×qa))}{c:Option (qa×Bool)}:GG h0 r h Eo b' m c=M9 h0 r h Eo m:=rfl
@[go_sem] theorem j7i {r:Nat}{m:Option (List (qa×qa))}{v:qa}{o:Bool}:GG h0 r h El Eo m (I (v,o))=pH h0 h r v o:=rfl
def jpi (p:qr)(xc:XC)(h:j8)(k:Nat):Option (List qa)→Option qq
 |some us=>bif zw 0 us then(match jz p xc k us with
  |some (v,o)=>(match L8 v o with
   |some (v',o')=>I ⟨v',o',Eh,h⟩
   |none=>Eh)
  |none=>Eh)else Eh
 |none=>Eh
def Az (p:qr)(xc:XC)(h0:Nat)(h:j8)(md:jc)(f:Option qa)(l:Option (List qa)):Option qq:=match f,l with
 |some (.fn (.func k) a c),I vs=>(match md with
  | .bL=>Ue h (zw 0 (a++vs++c)) (jz p xc k (a++vs++c))
  | .fe r=>GG h0 r h (a++vs++c).isEmpty (zw 0 (a++vs++c)) (p.maps k) (jz p xc k (a++vs++c))
  | .red=>jpi p xc h k (wW h (a++vs++c))
  | .shr=>Uf h.length (zg p xc k (a++vs++c) h))
 |some (.fn (.yield b) [] []),I vs=>(match md with
  | .shr=>Ug (jS xc b vs h)
  |_=>Eh)
 |_,_=>Eh
@[go_sem] theorem zjc {md:jc}{f:qf}{l:List qf}:za p xc h0 al e h (.call md f l)=Az p xc h0 h md (zd e f) (fE e l):=by
 simp only[za,iH,Az]
 split
 ·rename_i k first captured vs h1 h2
  rw[h1,h2]
  cases md with
  |bL=>
   simp only[]
   cases zw 0 (first++vs++captured)with
   |false=>cases jz p xc k (first++vs++captured)<;>rfl
   |true=>cases jz p xc k (first++vs++captured)<;>rfl
  |fe rk=>
   simp only[]
   cases (first++vs++captured).isEmpty with
   |false=>
    cases zw 0 (first++vs++captured)with
    |false=>cases jz p xc k (first++vs++captured)<;>rfl
    |true=>cases jz p xc k (first++vs++captured)<;>rfl
   |true=>
    cases p.maps k with
    |none=>rfl
    |some es=>simp only[cT,GG,M9];cases aI h0 h rk (.map es)<;>rfl
  |red=>simp only[];cases wW h (first++vs++captured)<;>rfl
  |shr=>simp only[];cases zg p xc k (first++vs++captured) h<;>rfl
 ·rename_i b vs h1 h2
  rw[h1,h2]
  cases md with
  |shr=>simp only[];cases jS xc b vs h<;>rfl
  |_=>rfl
 ·rename_i h1 h2
  split
  ·rename_i k a c vs g1 g2;exact absurd g2 (fun g2=>h1 k a c vs g1 g2)
  ·rename_i b vs g1 g2;exact absurd g2 (fun g2=>h2 b vs g1 g2)
  ·rfl
@[go_sem] theorem j62 {k:Nat}{a c vs:List qa}:Az p xc h0 h .bL (I (.fn (.func k) a c)) (I vs)=Ue h (zw 0 (a++vs++c)) (jz p xc k (a++vs++c)):=rfl
@[go_sem] theorem j76 {k r:Nat}{a c vs:List qa}:Az p xc h0 h (.fe r) (I (.fn (.func k) a c)) (I vs)=GG h0 r h (a++vs++c).isEmpty (zw 0 (a++vs++c)) (p.maps k) (jz p xc k (a++vs++c)):=rfl
@[go_sem] theorem j6i {k:Nat}{a c vs:List qa}:Az p xc h0 h .red (I (.fn (.func k) a c)) (I vs)=jpi p xc h k (wW h (a++vs++c)):=rfl
@[go_sem] theorem j7f {k:Nat}{a c vs:List qa}:Az p xc h0 h .shr (I (.fn (.func k) a c)) (I vs)=Uf h.length (zg p xc k (a++vs++c) h):=rfl
@[go_sem] theorem jus {b:Nat}{vs:List qa}:Az p xc h0 h .shr (I (.fn (.yield b) [] [])) (I vs)=Ug (jS xc b vs h):=rfl
def DR (rs:List ja)(r:Option (qo×qh)):Option (qa×Bool×j8):=match r with
 |some (.normal,st)=>(match lh st rs with
   |some xs=>I ((yr xs).1,(yr xs).2,kP st rs)
   |none=>Eh)
 |some (.ret,st)=>(match lh st rs with
   |some xs=>I ((yr xs).1,(yr xs).2,kP st rs)
   |none=>Eh)
 |_=>Eh
def Uh (st:qh)(rs:List ja)(r:Option (List (qa×Bool))):Option (qa×Bool×j8):=match r with
 |some xs=>I ((yr xs).1,(yr xs).2,kP st rs)
 |none=>Eh
@[go_sem] theorem jvh {rs:List ja}{st:qh}:DR rs (I (.normal,st))=Uh st rs (lh st rs):=rfl
@[go_sem] theorem zbd {rs:List ja}{st:qh}:DR rs (I (.ret,st))=Uh st rs (lh st rs):=rfl
@[go_sem] theorem j7v {st:qh}{rs:List ja}{xs:List (qa×Bool)}:Uh st rs (I xs)=I ((yr xs).1,(yr xs).2,kP st rs):=rfl
theorem zh {k nt:Nat}{body:qg}{rs:List ja}{args:List qa}(hf:p.bH k=I ⟨nt,body,rs⟩)(hl:args.length≤nt):zg p xc k args h=DR rs (xc body ⟨nZ 0 args,h⟩):=by
 simp only[zg,hf,oP,En hl,cT,DR]
 rfl
def Ui (x:Option (qa×Bool))(l:Option (List (qa×Bool))):Option (List (qa×Bool)):=match x,l with
 |some v,I vs=>I (v::vs)
 |_,_=>Eh
@[go_sem] theorem j3w {v:qa×Bool}{vs:List (qa×Bool)}:Ui (I v) (I vs)=I (v::vs):=rfl
@[go_sem] theorem jm8 {st:qh}:lh st []=I []:=rfl
@[go_sem] theorem jk0 {st:qh}{r:ja}{rs:List ja}:lh st (r::rs)=Ui (ui st r) (lh st rs):=by
 simp only[lh,Ui]
 cases ui st r with
 |none=>rfl
 |some v=>cases lh st rs<;>rfl
@[go_sem] theorem jn9 {t:Nat}:ui ⟨e,h⟩ (.tmp t)=ye t e:=rfl
@[go_sem] theorem zg2 {x:qa×Bool}:yr [x]=x:=rfl
@[go_sem] theorem zby {x y:qa×Bool}:yr [x,y]=(.az [x.1,y.1],El):=rfl
@[go_sem] theorem jv3 {x y z:qa×Bool}:yr [x,y,z]=(.az [x.1,y.1,z.1],El):=rfl
@[go_sem] theorem j71:yr []=(.az [],El):=rfl
@[go_sem] theorem j6t {st:qh}{t:Nat}:kP st [.tmp t]=st.heap:=rfl
@[go_sem] theorem j59 {st:qh}{x y:ja}{l:List ja}:kP st (x::y::l)=st.heap:=by
 cases x with
 |tmp t=>rfl
 |cell t a n=>cases a<;>rfl
@[go_sem] theorem j4d {st:qh}:kP st []=st.heap:=rfl
@[go_sem] theorem j7s {st:qh}{t n:Nat}:kP st [.cell t Eo n]=st.heap:=rfl
@[go_sem] theorem zg5 {o:Bool}:xD Eo (I (.bool Eo,o))=I Eo:=rfl
@[go_sem] theorem zbc {o:Bool}:xD Eo (I (.bool El,o))=I El:=rfl
@[go_sem] theorem zhk {o:Bool}:xD El (I (.bool Eo,o))=I El:=rfl
@[go_sem] theorem zcv {o:Bool}:xD El (I (.bool El,o))=I Eo:=rfl
attribute [go_sem] cT cond_false decide_true decide_false Bool.not_true Bool.not_false List.append_nil List.nil_append List.length_cons List.length_nil
@[go_sem] theorem zj1:List.replicate 0 qm.hole=[]:=rfl
end
section
variable {p:qr}{xc:XC}{h0:Nat}{al:Option (List Nat)}{e:Env}{h:j8}{α:Type}
def sl (z:Nat)(f:α→qa):Option (List α)→qa
 |none=>.list Eo 0 []
 |some l=>.list El z (l.map f)
@[go_sem] theorem zi6 {z:Nat}{f:α→qa}{l:Option (List α)}:xE 1 h (I (sl z f l))=I ⟨.int .i64 (l.getD []).length,El,Eh,h⟩:=by
 cases l<;>simp[sl,xE,val]
theorem jqt {z:Nat}{f:α→qa}{l:Option (List α)}{k:IntKind}{i:Nat}{x:α}(hx:(l.getD [])[i]?=I x):jL z h (I (sl z f l)) (I (.int k (i:Int)))=I ⟨.ah (f x),El,Eh,h⟩:=by
 cases l with
 |none=>simp at hx
 |some l=>exact jeo (by rw[List.getElem?_map,show l[i]?=I x from hx];rfl)
theorem uI {n z:Nat}{f:α→qa}{l:Option (List α)}(hf:∀x,below n (f x)=Eo):below n (sl z f l)=Eo:=by
 have key:∀l:List α,zw n (l.map f)=Eo:=by
  intro l
  induction l with
  |nil=>rfl
  |cons x l ih=>simp[zw,hf,ih]
 cases l with
 |none=>rfl
 |some l=>simp only[sl,below];exact key l
theorem zi4 {z:Nat}{f:α→qa}(hf:∀x y,f x=f y→x=y){a b:Option (List α)}(pI:sl z f a=sl z f b):a=b:=by
 have key:∀a b:List α,a.map f=b.map f→a=b:=by
  intro a
  induction a with
  |nil=>intro b hb;cases b<;>simp at hb<;>rfl
  |cons x a ih=>
   intro b hb
   cases b with
   |nil=>simp at hb
   |cons y b=>simp at hb;rw[hf _ _ hb.1,ih _ hb.2]
 cases a<;>cases b<;>simp[sl]at pI<;>first|rfl|rw[key _ _ pI]
def kn (n:Int):qa:=.int .i64 n
@[go_sem] theorem jyu {i:Int}:fN h0 al El 1 h (I (.ah (kn i)))=I ⟨.int .i64 i,El,Eh,h⟩:=rfl
end
end Go.Abs
