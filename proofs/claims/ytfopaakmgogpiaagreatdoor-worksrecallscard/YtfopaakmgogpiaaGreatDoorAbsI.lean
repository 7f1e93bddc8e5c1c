/- Equations of the executor for runs on values that are not known. -/
import Derived.Test.YtfopaakmgogpiaaGreatDoorAbsH
set_option linter.unusedVariables false
set_option linter.unusedSimpArgs false
open Option renaming some→I,none→Eh
open Bool renaming false→Ek,true→Eo
open Nat renaming ble_eq_true_of_le→En,eq_of_beq_eq_true→Ep,beq→Eu,blt_eq→Ev
namespace Go.Abs
section
variable {p:qr}{xc:XC}{h0:Nat}{al:Option (List Nat)}{e:Env}{h:za}
def HJ (r:Option (qi×qg))(f:qg→Option (qi×qg)):Option (qi×qg):=match r with
 |some (.normal,st)=>f st
 |r=>r
@[go_sem] theorem jtd {st f}:HJ (I (.normal,st)) f=f st:=rfl
@[go_sem] theorem j8x {st f}:HJ (I (.ret,st)) f=I (.ret,st):=rfl
@[go_sem] theorem jzf {id st f}:HJ (I (.exit id,st)) f=I (.exit id,st):=rfl
@[go_sem] theorem zlm {a b st}:X p (.seq a b) st=HJ (X p a st) (X p b):=by
 rw[j1g];unfold HJ
 cases X p a st with
 |none=>rfl
 |some r=>obtain⟨x,s⟩:=r;cases x<;>rfl
def Oy (c:Option qa)(f g:qg→Option (qi×qg))(st:qg):Option (qi×qg):=match c with
 |some (.bool Eo)=>f st
 |some (.bool Ek)=>g st
 |_=>Eh
@[go_sem] theorem jzr {f g st}:Oy (I (.bool Eo)) f g st=f st:=rfl
@[go_sem] theorem jw4 {f g st}:Oy (I (.bool Ek)) f g st=g st:=rfl
@[go_sem] theorem zk5 {c a b st}:X p (.cond c a b) st=Oy (zc st.env c) (X p a) (X p b) st:=by
 rw[jsh];unfold Oy
 cases zc st.env c with
 |none=>rfl
 |some v=>cases v with
  |bool t=>cases t<;>rfl
  |_=>rfl
def HK (id:Nat)(r:Option (qi×qg)):Option (qi×qg):=match r with
 |some (.exit ft,bF)=>if ft=id then I (.normal,bF)else I (.exit ft,bF)
 |r=>r
@[go_sem] theorem jx2 {id ft st}:HK id (I (.exit ft,st))=if ft=id then I (.normal,st)else I (.exit ft,st):=rfl
@[go_sem] theorem jpk {id st}:HK id (I (.normal,st))=I (.normal,st):=rfl
@[go_sem] theorem j6z {id st}:HK id (I (.ret,st))=I (.ret,st):=rfl
@[go_sem] theorem za8 {id b st}:X p (.block id b) st=HK id (X p b st):=by
 rw[jm6];unfold HK
 cases X p b st with
 |none=>rfl
 |some r=>
  obtain⟨x,s⟩:=r
  cases x with
  |exit ft=>
   simp only[]
   by_cases hb:ft=id
   ·subst hb;simp
   ·rw[if_neg hb]
    cases hq:Eu ft id with
    |true=>exact absurd (Ep hq) hb
    |false=>rfl
  |_=>rfl
noncomputable def EL (p:qr)(b:qe)(n:Nat)(r:Option (qi×qg)):Option (qi×qg):=match r with
 |some (.normal,bF)=>X p (.loop b) (gc n bF)
 |r=>r
theorem jn1 {b st}:X p (.loop b) st=EL p b st.heap.length (X p b st):=by
 rw[jtb];unfold EL
 cases X p b st with
 |none=>rfl
 |some r=>obtain⟨x,s⟩:=r;cases x<;>rfl
@[go_sem] theorem q49 {b n st}:EL p b n (I (.normal,st))=X p (.loop b) (gc n st):=rfl
@[go_sem] theorem j82 {b n st}:EL p b n (I (.ret,st))=I (.ret,st):=rfl
@[go_sem] theorem j2x {b n id st}:EL p b n (I (.exit id,st))=I (.exit id,st):=rfl
attribute [go_sem] jup ju8 j0r jij VG jub
@[go_sem] theorem zln {env}:gc 0 ⟨env,[]⟩=⟨env,[]⟩:=rfl
theorem lj {n st}(hn:st.heap.length≤n):gc n st=st:=by
 unfold gc;rw[En hn];rfl
theorem zmg {e e' h}:gc (qg.mk e h).heap.length ⟨e',h⟩=⟨e',h⟩:=lj (Nat.le_refl _)
def VJ (k:Option (List Nat))(r:Option qg):Option (qi×qg):=match r with
 |some bF=>I (.normal,zZ bF k)
 |none=>Eh
@[go_sem] theorem j9o {k st}:VJ k (I st)=I (.normal,zZ st k):=rfl
@[go_sem] theorem zg2 {na l k st}:mM p xc na l k st=VJ k (fG p xc st.heap.length l ⟨st.env,st.heap++List.replicate na .hole⟩):=by
 unfold mM VJ;rfl
def jwn (r:Option qg)(f:qg→Option qg):Option qg:=match r with
 |some st=>f st
 |none=>Eh
@[go_sem] theorem j88 {st f}:jwn (I st) f=f st:=rfl
@[go_sem] theorem zb2 {st}:fG p xc h0 [] st=I st:=rfl
@[go_sem] theorem zaw {o l st}:fG p xc h0 (o::l) st=jwn (iJ p xc h0 o st) (fG p xc h0 l):=rfl
def Oz (d:Option Nat)(e:Env)(r:Option qo):Option qg:=match r with
 |some r=>I ⟨nI (gq e r.strip) d r.v r.own,r.heap⟩
 |none=>Eh
@[go_sem] theorem zau {d v o s}:Oz d e (I ⟨v,o,s,h⟩)=I ⟨nI (gq e s) d v o,h⟩:=rfl
@[go_sem] theorem jph {d op env}:iJ p xc h0 ⟨d,op,Eh,al⟩ ⟨env,h⟩=Oz d env (j8 p xc h0 al env h op):=rfl
def OA (g:Option Bool)(d:Option Nat)(env:Env)(h:za)(f:qv→Option qo)(op:qv):Option qg:=match g with
 |some Eo=>Oz d env (f op)
 |some Ek=>I ⟨nI env d .undef Ek,h⟩
 |none=>Eh
@[go_sem] theorem jw3 {d env f op}:OA (I Eo) d env h f op=Oz d env (f op):=rfl
@[go_sem] theorem jqj {d env f op}:OA (I Ek) d env h f op=I ⟨nI env d .undef Ek,h⟩:=rfl
@[go_sem] theorem jpe {d op g env}:iJ p xc h0 ⟨d,op,I g,al⟩ ⟨env,h⟩=OA (mL env (I g)) d env h (j8 p xc h0 al env h) op:=by
 unfold iJ OA
 simp only[]
 split
 ·rename_i hg;rw[hg];rfl
 ·rename_i hg;rw[hg]
 ·rename_i hg;rw[hg]
def xU (b:Bool)(v:Option (qa×Bool)):Option Bool:=match v with
 |some (.bool c,_)=>I (c == b)
 |some (.undef,_)=>I Ek
 |_=>Eh
@[go_sem] theorem jqb {s b}:mL e (I (s,b))=xU b (yd s e):=by
 unfold mL xU;rfl
theorem jxx {b c o}:xU b (I (.bool c,o))=I (c == b):=rfl
@[go_sem] theorem jqd {b o}:xU b (I (.undef,o))=I Ek:=rfl
@[go_sem] theorem j8p {s t x}:yd t ((s,x)::e)=if s=t then I x else yd t e:=by
 by_cases bO:s=t
 ·subst bO;rw[if_pos rfl];simp[yd]
 ·rw[if_neg bO]
  have:Eu s t=Ek:=by
   cases hb:Eu s t with
   |false=>rfl
   |true=>exact absurd (Ep hb) bO
  simp[yd,this]
@[go_sem] theorem zfv {t}:yd t []=Eh:=rfl
def jqr (x:Option (qa×Bool)):Option qa:=match x with
 |some x=>I x.1
 |none=>Eh
@[go_sem] theorem zae {v o}:jqr (I (v,o))=I v:=rfl
@[go_sem] theorem zas {t}:zc e (.tmp t)=jqr (yd t e):=rfl
@[go_sem] theorem jxa {v}:zc e (.const v)=I v:=rfl
def pE (x:Option qa)(l:Option (List qa)):Option (List qa):=match x,l with
 |some v,I vs=>I (v::vs)
 |_,_=>Eh
@[go_sem] theorem j6t {v vs}:pE (I v) (I vs)=I (v::vs):=rfl
@[go_sem] theorem j9r:fF e []=I []:=rfl
@[go_sem] theorem j3o {x l}:fF e (x::l)=pE (zc e x) (fF e l):=by
 simp only[fF,pE]
 cases zc e x with
 |none=>rfl
 |some v=>cases fF e l<;>rfl
@[go_sem] theorem jxs {l}:zZ ⟨e,h⟩ (I l)=⟨pV e l,h⟩:=rfl
@[go_sem] theorem jxb:zZ ⟨e,h⟩ Eh=⟨e,h⟩:=rfl
def OB (t:Nat)(x:Option (qa×Bool))(e:Env):Env:=match x with
 |some x=>(t,x)::e
 |none=>e
@[go_sem] theorem j5z {t x}:OB t (I x) e=(t,x)::e:=rfl
@[go_sem] theorem j6y {t}:OB t Eh e=e:=rfl
@[go_sem] theorem jwy:pV e []=[]:=rfl
@[go_sem] theorem jud {t l}:pV e (t::l)=OB t (yd t e) (pV e l):=by
 simp only[pV,OB]
 cases yd t e<;>rfl
@[go_sem] theorem jw2 {d v o}:nI e (I d) v o=(d,v,o)::e:=rfl
@[go_sem] theorem jxf {v o}:nI e Eh v o=e:=rfl
@[go_sem] theorem jpg:gq e Eh=e:=rfl
def VK (s:Nat)(x:Option (qa×Bool))(e:Env):Env:=match x with
 |some (v,_)=>(s,v,Ek)::e
 |none=>e
@[go_sem] theorem jwx {s v o}:VK s (I (v,o)) e=(s,v,Ek)::e:=rfl
@[go_sem] theorem jpq {s}:gq e (I s)=VK s (yd s e) e:=by
 simp only[gq,VK]
 cases yd s e<;>rfl
@[go_sem] theorem j70 {i}:ot i []=[]:=rfl
@[go_sem] theorem jw6 {i v vs}:ot i (v::vs)=(i,v,Ek)::ot (i+1) vs:=rfl
@[go_sem] theorem j9b {v}:fX h (I v)=I ⟨v,Ek,Eh,h⟩:=rfl
@[go_sem] theorem zle {v}:val h v=I ⟨v,Ek,Eh,h⟩:=rfl
@[go_sem] theorem zlq {x}:j8 p xc h0 al e h (.move x)=fX h (zc e x):=rfl
def VL (s:Nat)(h:za)(x:Option (qa×Bool)):Option qo:=match x with
 |some (v,o)=>I ⟨v,o,I s,h⟩
 |none=>Eh
@[go_sem] theorem j1y {s v o}:VL s h (I (v,o))=I ⟨v,o,I s,h⟩:=rfl
@[go_sem] theorem zlt {s}:j8 p xc h0 al e h (.take s)=VL s h (yd s e):=by
 simp only[j8,zh,VL]
 cases yd s e<;>rfl
def VM (op:BinOp)(h:za)(a b:Option qa):Option qo:=match a,b with
 |some a,I b=>fX h (fq op a b)
 |_,_=>Eh
@[go_sem] theorem j9g {op a b}:VM op h (I a) (I b)=fX h (fq op a b):=rfl
@[go_sem] theorem zma {op x y}:j8 p xc h0 al e h (.bin op x y)=VM op h (zc e x) (zc e y):=by
 simp only[j8,zh,VM]
 cases zc e x<;>cases zc e y<;>rfl
def VN (h:za)(c a b:Option qa):Option qo:=match c,a,b with
 |some (.bool t),I x,I y=>val h (bif t then x else y)
 |_,_,_=>Eh
@[go_sem] theorem j4a {t a b}:VN h (I (.bool t)) (I a) (I b)=I ⟨bif t then a else b,Ek,Eh,h⟩:=rfl
@[go_sem] theorem zlk {c a b}:j8 p xc h0 al e h (.pick c a b)=VN h (zc e c) (zc e a) (zc e b):=by
 simp only[j8,zh,VN]
 cases zc e c with
 |none=>rfl
 |some v=>cases v<;>cases zc e a<;>cases zc e b<;>rfl
def xV (k:Nat)(h:za)(x:Option qa):Option qo:=match k,x with
 |1,I (.list _ _ xs)=>val h (.int .i64 xs.length)
 |1,I (.ms _ _ n)=>val h (.int .i64 n)
 |1,I (.au _ _ n)=>val h (.int .i64 n)
 |2,I (.list Eo _ _)=>val h (.int .i64 0)
 |0,I (.str s)=>val h (.int .i64 s.length)
 |_,_=>Eh
@[go_sem] theorem zap {b z xs}:xV 1 h (I (.list b z xs))=I ⟨.int .i64 xs.length,Ek,Eh,h⟩:=rfl
@[go_sem] theorem zk8 {b o n}:xV 1 h (I (.ms b o n))=I ⟨.int .i64 n,Ek,Eh,h⟩:=rfl
@[go_sem] theorem j95 {b v n}:xV 1 h (I (.au b v n))=I ⟨.int .i64 n,Ek,Eh,h⟩:=rfl
@[go_sem] theorem zit {s}:xV 0 h (I (.str s))=I ⟨.int .i64 s.length,Ek,Eh,h⟩:=rfl
@[go_sem] theorem zfb {z xs}:xV 2 h (I (.list Eo z xs))=I ⟨.int .i64 0,Ek,Eh,h⟩:=rfl
@[go_sem] theorem zmk {k x}:j8 p xc h0 al e h (.len k x)=xV k h (zc e x):=rfl
def uZ (n:Nat)(i:Int):Option Nat:=if 0≤i∧i<n then I i.toNat else Eh
theorem xW {n k i}:idx n (.int k i)=uZ n i:=by
 unfold idx uZ
 cases i with
 |ofNat m=>
  by_cases hm:m<n
  ·rw[if_pos ⟨by simp,by simp;omega⟩];simp[Ev.mpr hm]
  ·rw[if_neg (by simp;omega)]
   cases hb:Nat.blt m n with
   |true=>exact absurd (Ev.mp hb) hm
   |false=>simp[hb]
 |negSucc m=>simp
attribute [go_sem] xW
theorem jma {n:Nat}{i:Int}(h1:0≤i)(h2:i<n):uZ n i=I i.toNat:=by unfold uZ;rw[if_pos ⟨h1,h2⟩]
theorem VO {n i}(h:i<n):uZ n (i:Int)=I i:=by unfold uZ;rw[if_pos ⟨by simp,by omega⟩];simp
def jS (sz:Nat)(h:za)(x i:Option qa):Option qo:=match x,i with
 |some (.list _ cJ xs),I j=>bif Eu sz cJ||xs.isEmpty then(match idx xs.length j with
   |some j=>(match xs[j]? with
    |some v=>val h (.ah v)
    |none=>Eh)
   |none=>Eh)else Eh
 |some (.ms b o len),I j=>(match idx len j with
   |some j=>val h (.ptr b (o+j*sz))
   |none=>Eh)
 |some (.au b bz len),I j=>(match idx len j with
   |some j=>val h (.dl b bz (j*sz))
   |none=>Eh)
 |_,_=>Eh
@[go_sem] theorem jww {sz x i}:j8 p xc h0 al e h (.indexAddr sz x i)=jS sz h (zc e x) (zc e i):=by
 simp only[j8,zh,jS]
 cases zc e x with
 |none=>rfl
 |some v=>cases v<;>cases zc e i<;>rfl
theorem jby {sz:Nat}{b:Bool}{k xs i v}(h1:0≤i)(hv:xs[i.toNat]?=I v):jS sz h (I (.list b sz xs)) (I (.int k i))=I ⟨.ah v,Ek,Eh,h⟩:=by
 have hl:=(List.getElem?_eq_some_iff.1 hv).1
 have hi:idx xs.length (.int k i)=I i.toNat:=by rw[xW];exact jma h1 (by omega)
 simp only[jS,hi,Nat.beq_refl,Bool.true_or,cT,hv]
 rfl
theorem jhp {sz:Nat}{b:Bool}{k:IntKind}{xs:List qa}{i:Nat}{v:qa}(hv:xs[i]?=I v):jS sz h (I (.list b sz xs)) (I (.int k (i:Int)))=I ⟨.ah v,Ek,Eh,h⟩:=
 jby (by simp) (by simpa using hv)
def fO (h0:Nat)(al:Option (List Nat))(agg:Bool)(n:Nat)(h:za)(x:Option qa):Option qo:=match x with
 |some (.ptr b o)=>bif yv h0 al b then(match ym h b with
   |some cs=>(match kf cs o n with
    |some vs=>bif agg then val h (.agg vs)else(match vs with
     | [v]=>val h v
     |_=>Eh)
    |none=>Eh)
   |none=>Eh)else Eh
 |some (.ah v)=>bif Bool.xor agg v.isAgg||!(Eu v.flat.length n)then Eh else val h v
 |some (.dl b bz o)=>bif uE h0 al b then(match kc h b with
   |some (.vec _ de xs)=>bif Eu bz de&&Nat.ble (o+n) (xs.flatMap qa.flat).length then(bif agg then val h (.agg (((xs.flatMap qa.flat).drop o).take n))else(match((xs.flatMap qa.flat).drop o).take n with
     | [v]=>val h v
     |_=>Eh))else Eh
   |_=>Eh)else Eh
 |_=>Eh
@[go_sem] theorem zlu {agg n x}:j8 p xc h0 al e h (.load agg n x)=fO h0 al agg n h (zc e x):=by
 simp only[j8,gU,fO]
 cases zc e x with
 |none=>rfl
 |some v=>cases v<;>rfl
def jk6:Option qa→Option qa
 |some (.ah v)=>I (.ah v)
 |_=>Eh
@[go_sem] theorem zkv {v}:jk6 (I (.ah v))=I (.ah v):=rfl
@[go_sem] theorem zk6 {agg n x}:j8 p xc h0 al e h (.eU agg n x)=fO h0 al agg n h (jk6 (zc e x)):=by
 simp only[j8,zh,fO]
 cases zc e x with
 |none=>rfl
 |some v=>cases v<;>rfl
@[go_sem] theorem j91 {k i}:fO h0 al Ek 1 h (I (.ah (.int k i)))=I ⟨.int k i,Ek,Eh,h⟩:=rfl
@[go_sem] theorem zag {s}:fO h0 al Ek 1 h (I (.ah (.str s)))=I ⟨.str s,Ek,Eh,h⟩:=rfl
@[go_sem] theorem jyk {b}:fO h0 al Ek 1 h (I (.ah (.bool b)))=I ⟨.bool b,Ek,Eh,h⟩:=rfl
@[go_sem] theorem jzc {b z xs}:fO h0 al Ek 1 h (I (.ah (.list b z xs)))=I ⟨.list b z xs,Ek,Eh,h⟩:=rfl
theorem jec {n cs}(hn:cs.length=n):fO h0 al Eo n h (I (.ah (.agg cs)))=I ⟨.agg cs,Ek,Eh,h⟩:=by
 subst hn;simp[fO,qa.isAgg,qa.flat,val]
@[go_sem] theorem zme {k x y}:fq .add (.int k x) (.int k y)=I (.int k (j6 k (x+y))):=by simp[fq,oo]
@[go_sem] theorem zl1 {k x y}:fq .sub (.int k x) (.int k y)=I (.int k (j6 k (x-y))):=by simp[fq,oo]
@[go_sem] theorem zmc {k x y}:fq .mul (.int k x) (.int k y)=I (.int k (j6 k (x*y))):=by simp[fq,oo]
@[go_sem] theorem zl7 {k x y}:fq .lss (.int k x) (.int k y)=I (.bool (decide (x<y))):=by simp[fq,oo]
@[go_sem] theorem zl2 {k x y}:fq .leq (.int k x) (.int k y)=I (.bool (decide (x≤y))):=by simp[fq,oo]
@[go_sem] theorem zl3 {k x y}:fq .gtr (.int k x) (.int k y)=I (.bool (decide (y<x))):=by simp[fq,oo]
@[go_sem] theorem zl6 {k x y}:fq .geq (.int k x) (.int k y)=I (.bool (decide (y≤x))):=by simp[fq,oo]
@[go_sem] theorem zl9 {k x y}:fq .eql (.int k x) (.int k y)=I (.bool (decide (x=y))):=by
 simp only[fq,oo,decide_true,cT];congr 2
@[go_sem] theorem zmj {k x y}:fq .neq (.int k x) (.int k y)=I (.bool (!decide (x=y))):=by
 simp only[fq,oo,decide_true,cT];congr 2
theorem q1h {x}(h1:-9223372036854775808≤x)(h2:x≤9223372036854775807):j6 .i64 x=x:=by
 have:pW .i64 x=Eo:=by
  cases x with
  |ofNat m=>simp only[pW];exact En (by simp at h2;omega)
  |negSucc m=>simp only[pW];exact En (by omega)
 simp[j6,this]
def VP (h:za)(b:Bool)(r:Option (qa×Bool)):Option qo:=match b,r with
 |true,I (v,o)=>I ⟨v,o,Eh,h⟩
 |_,_=>Eh
@[go_sem] theorem j9j {v o}:VP h Eo (I (v,o))=I ⟨v,o,Eh,h⟩:=rfl
def VQ (n:Nat)(r:Option (qa×Bool×za)):Option qo:=match r with
 |some (v,o,h')=>I ⟨v,o,Eh,y5 n v h'⟩
 |none=>Eh
@[go_sem] theorem zam {n v o}:VQ n (I (v,o,h))=I ⟨v,o,Eh,y5 n v h⟩:=rfl
def VR (r:Option (qa×za)):Option qo:=match r with
 |some (v,h')=>I ⟨v,Ek,Eh,h'⟩
 |none=>Eh
@[go_sem] theorem jxz {v}:VR (I (v,h))=I ⟨v,Ek,Eh,h⟩:=rfl
def OC (h0 r:Nat)(h:za)(b:Bool)(m:Option (List (qa×qa))):Option qo:=match b,m with
 |true,I es=>(match aF h0 h r (.map es)with
  |some h'=>I ⟨.map (h0+r),Ek,Eh,h'⟩
  |none=>Eh)
 |_,_=>Eh
def HL (h0 r:Nat)(h:za)(b b':Bool)(m:Option (List (qa×qa)))(c:Option (qa×Bool)):Option qo:=match b with
 |true=>OC h0 r h Eo m
 |false=>(match b',c with
  |true,I (v,o)=>pZ h0 h r v o
  |_,_=>Eh)
@[go_sem] theorem zdr {r b' m c}:HL h0 r h Eo b' m c=OC h0 r h Eo m:=rfl
@[go_sem] theorem j9s {r m v o}:HL h0 r h Ek Eo m (I (v,o))=pZ h0 h r v o:=rfl
def jq1 (p:qr)(xc:XC)(h:za)(k:Nat):Option (List qa)→Option qo
 |some us=>bif zr 0 us then(match jy p xc k us with
  |some (v,o)=>(match Nx v o with
   |some (v',o')=>I ⟨v',o',Eh,h⟩
   |none=>Eh)
  |none=>Eh)else Eh
 |none=>Eh
def A3 (p:qr)(xc:XC)(h0:Nat)(h:za)(md:jd)(f:Option qa)(l:Option (List qa)):Option qo:=match f,l with
 |some (.fn (.func k) a c),I vs=>(match md with
  | .bL=>VP h (zr 0 (a++vs++c)) (jy p xc k (a++vs++c))
  | .fg r=>HL h0 r h (a++vs++c).isEmpty (zr 0 (a++vs++c)) (p.maps k) (jy p xc k (a++vs++c))
  | .red=>jq1 p xc h k (xn h (a++vs++c))
  | .shr=>VQ h.length (ze p xc k (a++vs++c) h))
 |some (.fn (.yield b) [] []),I vs=>(match md with
  | .shr=>VR (jY xc b vs h)
  |_=>Eh)
 |_,_=>Eh
@[go_sem] theorem zlx {md f l}:j8 p xc h0 al e h (.call md f l)=A3 p xc h0 h md (zc e f) (fF e l):=by
 simp only[j8,iI,A3]
 split
 ·rename_i k first captured vs h1 h2
  rw[h1,h2]
  cases md with
  |bL=>
   simp only[]
   cases zr 0 (first++vs++captured)with
   |false=>cases jy p xc k (first++vs++captured)<;>rfl
   |true=>cases jy p xc k (first++vs++captured)<;>rfl
  |fg rk=>
   simp only[]
   cases (first++vs++captured).isEmpty with
   |false=>
    cases zr 0 (first++vs++captured)with
    |false=>cases jy p xc k (first++vs++captured)<;>rfl
    |true=>cases jy p xc k (first++vs++captured)<;>rfl
   |true=>
    cases p.maps k with
    |none=>rfl
    |some es=>simp only[cT,HL,OC];cases aF h0 h rk (.map es)<;>rfl
  |red=>simp only[];cases xn h (first++vs++captured)<;>rfl
  |shr=>simp only[];cases ze p xc k (first++vs++captured) h<;>rfl
 ·rename_i b vs h1 h2
  rw[h1,h2]
  cases md with
  |shr=>simp only[];cases jY xc b vs h<;>rfl
  |_=>rfl
 ·rename_i h1 h2
  split
  ·rename_i k a c vs g1 g2;exact absurd g2 (fun g2=>h1 k a c vs g1 g2)
  ·rename_i b vs g1 g2;exact absurd g2 (fun g2=>h2 b vs g1 g2)
  ·rfl
@[go_sem] theorem j83 {k a c vs}:A3 p xc h0 h .bL (I (.fn (.func k) a c)) (I vs)=VP h (zr 0 (a++vs++c)) (jy p xc k (a++vs++c)):=rfl
@[go_sem] theorem zaa {k r a c vs}:A3 p xc h0 h (.fg r) (I (.fn (.func k) a c)) (I vs)=HL h0 r h (a++vs++c).isEmpty (zr 0 (a++vs++c)) (p.maps k) (jy p xc k (a++vs++c)):=rfl
@[go_sem] theorem j90 {k a c vs}:A3 p xc h0 h .red (I (.fn (.func k) a c)) (I vs)=jq1 p xc h k (xn h (a++vs++c)):=rfl
@[go_sem] theorem zal {k a c vs}:A3 p xc h0 h .shr (I (.fn (.func k) a c)) (I vs)=VQ h.length (ze p xc k (a++vs++c) h):=rfl
@[go_sem] theorem jxc {b vs}:A3 p xc h0 h .shr (I (.fn (.yield b) [] [])) (I vs)=VR (jY xc b vs h):=rfl
def EM (rs:List jf)(r:Option (qi×qg)):Option (qa×Bool×za):=match r with
 |some (.normal,st)=>(match lx st rs with
   |some xs=>I ((yt xs).1,(yt xs).2,la st rs)
   |none=>Eh)
 |some (.ret,st)=>(match lx st rs with
   |some xs=>I ((yt xs).1,(yt xs).2,la st rs)
   |none=>Eh)
 |_=>Eh
def VS (st:qg)(rs:List jf)(r:Option (List (qa×Bool))):Option (qa×Bool×za):=match r with
 |some xs=>I ((yt xs).1,(yt xs).2,la st rs)
 |none=>Eh
@[go_sem] theorem jw5 {rs st}:EM rs (I (.normal,st))=VS st rs (lx st rs):=rfl
@[go_sem] theorem zev {rs st}:EM rs (I (.ret,st))=VS st rs (lx st rs):=rfl
@[go_sem] theorem zaj {st rs xs}:VS st rs (I xs)=I ((yt xs).1,(yt xs).2,la st rs):=rfl
theorem zf {k nt body rs args}(hf:p.bB k=I ⟨nt,body,rs⟩)(hl:args.length≤nt):ze p xc k args h=EM rs (xc body ⟨ot 0 args,h⟩):=by
 simp only[ze,hf,pk,En hl,cT,EM]
 rfl
def VT (x:Option (qa×Bool))(l:Option (List (qa×Bool))):Option (List (qa×Bool)):=match x,l with
 |some v,I vs=>I (v::vs)
 |_,_=>Eh
@[go_sem] theorem j39 {v vs}:VT (I v) (I vs)=I (v::vs):=rfl
@[go_sem] theorem jpl {st}:lx st []=I []:=rfl
@[go_sem] theorem jmr {st r rs}:lx st (r::rs)=VT (uG st r) (lx st rs):=by
 simp only[lx,VT]
 cases uG st r with
 |none=>rfl
 |some v=>cases lx st rs<;>rfl
@[go_sem] theorem jux {t}:uG ⟨e,h⟩ (.tmp t)=yd t e:=rfl
@[go_sem] theorem zes {x}:yt [x]=x:=rfl
@[go_sem] theorem zch {x y}:yt [x,y]=(.ay [x.1,y.1],Ek):=rfl
@[go_sem] theorem j5b {x y z}:yt [x,y,z]=(.ay [x.1,y.1,z.1],Ek):=rfl
@[go_sem] theorem zad:yt []=(.ay [],Ek):=rfl
@[go_sem] theorem j8o {st t}:la st [.tmp t]=st.heap:=rfl
@[go_sem] theorem zay {st x y l}:la st (x::y::l)=st.heap:=by
 cases x with
 |tmp t=>rfl
 |cell t a n=>cases a<;>rfl
@[go_sem] theorem jyv {st}:la st []=st.heap:=rfl
@[go_sem] theorem j9e {st t n}:la st [.cell t Eo n]=st.heap:=rfl
@[go_sem] theorem zf5 {o}:xU Eo (I (.bool Eo,o))=I Eo:=rfl
@[go_sem] theorem zdg {o}:xU Eo (I (.bool Ek,o))=I Ek:=rfl
@[go_sem] theorem zez {o}:xU Ek (I (.bool Eo,o))=I Ek:=rfl
@[go_sem] theorem zfd {o}:xU Ek (I (.bool Ek,o))=I Eo:=rfl
attribute [go_sem] cT cond_false decide_true decide_false Bool.not_true Bool.not_false List.append_nil List.nil_append List.length_cons List.length_nil
@[go_sem] theorem zl0:List.replicate 0 qn.hole=[]:=rfl
end
section
variable {p:qr}{xc:XC}{h0:Nat}{al:Option (List Nat)}{e:Env}{h:za}{α:Type}
def sl (z:Nat)(f:α→qa):Option (List α)→qa
 |none=>.list Eo 0 []
 |some l=>.list Ek z (l.map f)
@[go_sem] theorem zlv {z:Nat}{f:α→qa}{l}:xV 1 h (I (sl z f l))=I ⟨.int .i64 (l.getD []).length,Ek,Eh,h⟩:=by
 cases l<;>simp[sl,xV,val]
theorem jrj {z:Nat}{f:α→qa}{l:Option (List α)}{k:IntKind}{i:Nat}{x:α}(hx:(l.getD [])[i]?=I x):jS z h (I (sl z f l)) (I (.int k (i:Int)))=I ⟨.ah (f x),Ek,Eh,h⟩:=by
 cases l with
 |none=>simp at hx
 |some l=>exact jhp (by rw[List.getElem?_map,show l[i]?=I x from hx];rfl)
theorem u0 {n z:Nat}{f:α→qa}{l}(hf:∀x,below n (f x)=Eo):below n (sl z f l)=Eo:=by
 have key:∀l:List α,zr n (l.map f)=Eo:=by
  intro l
  induction l with
  |nil=>rfl
  |cons x l ih=>simp[zr,hf,ih]
 cases l with
 |none=>rfl
 |some l=>simp only[sl,below];exact key l
theorem zll {z:Nat}{f:α→qa}(hf:∀x y,f x=f y→x=y){a b}(qA:sl z f a=sl z f b):a=b:=by
 have key:∀a b:List α,a.map f=b.map f→a=b:=by
  intro a
  induction a with
  |nil=>intro b hb;cases b<;>simp at hb<;>rfl
  |cons x a ih=>
   intro b hb
   cases b with
   |nil=>simp at hb
   |cons y b=>simp at hb;rw[hf _ _ hb.1,ih _ hb.2]
 cases a<;>cases b<;>simp[sl]at qA<;>first|rfl|rw[key _ _ qA]
def kh (n:Int):qa:=.int .i64 n
@[go_sem] theorem j2a {i}:fO h0 al Ek 1 h (I (.ah (kh i)))=I ⟨.int .i64 i,Ek,Eh,h⟩:=rfl
end
end Go.Abs
