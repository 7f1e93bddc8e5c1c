/- Equations of the executor for runs on values that are not known. -/
import Derived.Test.YtimdocpnkimlfaaGreatDoorAbsG
set_option linter.unusedVariables false
set_option linter.unusedSimpArgs false
open Option renaming some→I,none→En
open Bool renaming false→Es,true→Ga
open Nat renaming ble_eq_true_of_le→E9,eq_of_beq_eq_true→Gd,beq→Ge,blt_eq→Gf
namespace Go.Abs
section
variable {p:jz}{xc:XC}{h0:Nat}{al:Option (List Nat)}{e:Env}{h:qh}
def GQ (r:Option (je×bf))(f:bf→Option (je×bf)):Option (je×bf):=match r with
 |some (.normal,st)=>f st
 |r=>r
@[go_sem] theorem jwv {st f}:GQ (I (.normal,st)) f=f st:=rfl
@[go_sem] theorem j8v {st f}:GQ (I (.ret,st)) f=I (.ret,st):=rfl
@[go_sem] theorem j5g {id st f}:GQ (I (.exit id,st)) f=I (.exit id,st):=rfl
@[go_sem] theorem zkp {a b st}:X p (.seq a b) st=GQ (X p a st) (X p b):=by
 rw[j8a];unfold GQ
 cases X p a st with
 |none=>rfl
 |some r=>obtain⟨x,s⟩:=r;cases x<;>rfl
def Lh (c:Option AVal)(f g:bf→Option (je×bf))(st:bf):Option (je×bf):=match c with
 |some (.bool Ga)=>f st
 |some (.bool Es)=>g st
 |_=>En
@[go_sem] theorem jzj {f g st}:Lh (I (.bool Ga)) f g st=f st:=rfl
@[go_sem] theorem jxt {f g st}:Lh (I (.bool Es)) f g st=g st:=rfl
@[go_sem] theorem zj2 {c a b st}:X p (.cond c a b) st=Lh (qi st.env c) (X p a) (X p b) st:=by
 rw[jxd];unfold Lh
 cases qi st.env c with
 |none=>rfl
 |some v=>cases v with
  |bool t=>cases t<;>rfl
  |_=>rfl
def GR (id:Nat)(r:Option (je×bf)):Option (je×bf):=match r with
 |some (.exit fP,bZ)=>if fP=id then I (.normal,bZ)else I (.exit fP,bZ)
 |r=>r
@[go_sem] theorem jyq {id fP st}:GR id (I (.exit fP,st))=if fP=id then I (.normal,st)else I (.exit fP,st):=rfl
@[go_sem] theorem jp9 {id st}:GR id (I (.normal,st))=I (.normal,st):=rfl
@[go_sem] theorem j4f {id st}:GR id (I (.ret,st))=I (.ret,st):=rfl
@[go_sem] theorem zd6 {id b st}:X p (.block id b) st=GR id (X p b st):=by
 rw[joe];unfold GR
 cases X p b st with
 |none=>rfl
 |some r=>
  obtain⟨x,s⟩:=r
  cases x with
  |exit fP=>
   simp only[]
   by_cases hb:fP=id
   ·subst hb;simp
   ·rw[if_neg hb]
    cases hq:Ge fP id with
    |true=>exact absurd (Gd hq) hb
    |false=>rfl
  |_=>rfl
noncomputable def DR (p:jz)(b:aw)(n:Nat)(r:Option (je×bf)):Option (je×bf):=match r with
 |some (.normal,bZ)=>X p (.loop b) (gc n bZ)
 |r=>r
theorem jo8 {b st}:X p (.loop b) st=DR p b st.heap.length (X p b st):=by
 rw[jqq];unfold DR
 cases X p b st with
 |none=>rfl
 |some r=>obtain⟨x,s⟩:=r;cases x<;>rfl
@[go_sem] theorem q2f {b n st}:DR p b n (I (.normal,st))=X p (.loop b) (gc n st):=rfl
@[go_sem] theorem j8n {b n st}:DR p b n (I (.ret,st))=I (.ret,st):=rfl
@[go_sem] theorem j1f {b n id st}:DR p b n (I (.exit id,st))=I (.exit id,st):=rfl
attribute [go_sem] jw0 jrn j0d jj3 Se jwj
@[go_sem] theorem zk0 {env}:gc 0 ⟨env,[]⟩=⟨env,[]⟩:=rfl
theorem A3 {n st}(hn:st.heap.length≤n):gc n st=st:=by
 unfold gc;rw[E9 hn];rfl
theorem zli {e e' h}:gc (bf.mk e h).heap.length ⟨e',h⟩=⟨e',h⟩:=A3 (Nat.le_refl _)
def Sh (k:Option (List Nat))(r:Option bf):Option (je×bf):=match r with
 |some bZ=>I (.normal,Aa bZ k)
 |none=>En
@[go_sem] theorem j9h {k st}:Sh k (I st)=I (.normal,Aa st k):=rfl
@[go_sem] theorem zgu {na l k st}:mU p xc na l k st=Sh k (fW p xc st.heap.length l ⟨st.env,st.heap++List.replicate na .hole⟩):=by
 unfold mU Sh;rfl
def jvb (r:Option bf)(f:bf→Option bf):Option bf:=match r with
 |some st=>f st
 |none=>En
@[go_sem] theorem j8f {st f}:jvb (I st) f=f st:=rfl
@[go_sem] theorem zgh {st}:fW p xc h0 [] st=I st:=rfl
@[go_sem] theorem zas {o l st}:fW p xc h0 (o::l) st=jvb (yu p xc h0 o st) (fW p xc h0 l):=rfl
def Li (d:Option Nat)(e:Env)(r:Option bm):Option bf:=match r with
 |some r=>I ⟨nX (z8 e r.strip) d r.v r.own,r.heap⟩
 |none=>En
@[go_sem] theorem zah {d v o s}:Li d e (I ⟨v,o,s,h⟩)=I ⟨nX (z8 e s) d v o,h⟩:=rfl
@[go_sem] theorem jp1 {d op env}:yu p xc h0 ⟨d,op,En,al⟩ ⟨env,h⟩=Li d env (qf p xc h0 al env h op):=rfl
def Lj (g:Option Bool)(d:Option Nat)(env:Env)(h:qh)(f:cU→Option bm)(op:cU):Option bf:=match g with
 |some Ga=>Li d env (f op)
 |some Es=>I ⟨nX env d .undef Es,h⟩
 |none=>En
@[go_sem] theorem jyi {d env f op}:Lj (I Ga) d env h f op=Li d env (f op):=rfl
@[go_sem] theorem jsh {d env f op}:Lj (I Es) d env h f op=I ⟨nX env d .undef Es,h⟩:=rfl
@[go_sem] theorem jqc {d op g env}:yu p xc h0 ⟨d,op,I g,al⟩ ⟨env,h⟩=Lj (mT env (I g)) d env h (qf p xc h0 al env h) op:=by
 unfold yu Lj
 simp only[]
 split
 ·rename_i hg;rw[hg];rfl
 ·rename_i hg;rw[hg]
 ·rename_i hg;rw[hg]
def yC (b:Bool)(v:Option (AVal×Bool)):Option Bool:=match v with
 |some (.bool c,_)=>I (c == b)
 |some (.undef,_)=>I Es
 |_=>En
@[go_sem] theorem jrx {s b}:mT e (I (s,b))=yC b (ji s e):=by
 unfold mT yC;rfl
theorem jx5 {b c o}:yC b (I (.bool c,o))=I (c == b):=rfl
@[go_sem] theorem jq4 {b o}:yC b (I (.undef,o))=I Es:=rfl
@[go_sem] theorem zae {s t x}:ji t ((s,x)::e)=if s=t then I x else ji t e:=by
 by_cases cr:s=t
 ·subst cr;rw[if_pos rfl];simp[ji]
 ·rw[if_neg cr]
  have:Ge s t=Es:=by
   cases hb:Ge s t with
   |false=>rfl
   |true=>exact absurd (Gd hb) cr
  simp[ji,this]
@[go_sem] theorem zbr {t}:ji t []=En:=rfl
def jwq (x:Option (AVal×Bool)):Option AVal:=match x with
 |some x=>I x.1
 |none=>En
@[go_sem] theorem zab {v o}:jwq (I (v,o))=I v:=rfl
@[go_sem] theorem j9s {t}:qi e (.tmp t)=jwq (ji t e):=rfl
@[go_sem] theorem jxs {v}:qi e (.const v)=I v:=rfl
def pI (x:Option AVal)(l:Option (List AVal)):Option (List AVal):=match x,l with
 |some v,I vs=>I (v::vs)
 |_,_=>En
@[go_sem] theorem j35 {v vs}:pI (I v) (I vs)=I (v::vs):=rfl
@[go_sem] theorem zam:kz e []=I []:=rfl
@[go_sem] theorem j4o {x l}:kz e (x::l)=pI (qi e x) (kz e l):=by
 simp only[kz,pI]
 cases qi e x with
 |none=>rfl
 |some v=>cases kz e l<;>rfl
@[go_sem] theorem jx7 {l}:Aa ⟨e,h⟩ (I l)=⟨pY e l,h⟩:=rfl
@[go_sem] theorem jyc:Aa ⟨e,h⟩ En=⟨e,h⟩:=rfl
def Lk (t:Nat)(x:Option (AVal×Bool))(e:Env):Env:=match x with
 |some x=>(t,x)::e
 |none=>e
@[go_sem] theorem j31 {t x}:Lk t (I x) e=(t,x)::e:=rfl
@[go_sem] theorem j4k {t}:Lk t En e=e:=rfl
@[go_sem] theorem jyg:pY e []=[]:=rfl
@[go_sem] theorem juv {t l}:pY e (t::l)=Lk t (ji t e) (pY e l):=by
 simp only[pY,Lk]
 cases ji t e<;>rfl
@[go_sem] theorem jxy {d v o}:nX e (I d) v o=(d,v,o)::e:=rfl
@[go_sem] theorem jxq {v o}:nX e En v o=e:=rfl
@[go_sem] theorem jp8:z8 e En=e:=rfl
def Si (s:Nat)(x:Option (AVal×Bool))(e:Env):Env:=match x with
 |some (v,_)=>(s,v,Es)::e
 |none=>e
@[go_sem] theorem jyb {s v o}:Si s (I (v,o)) e=(s,v,Es)::e:=rfl
@[go_sem] theorem jp7 {s}:z8 e (I s)=Si s (ji s e) e:=by
 simp only[z8,Si]
 cases ji s e<;>rfl
@[go_sem] theorem j0e {i}:oH i []=[]:=rfl
@[go_sem] theorem jyh {i v vs}:oH i (v::vs)=(i,v,Es)::oH (i+1) vs:=rfl
@[go_sem] theorem j9i {v}:gB h (I v)=I ⟨v,Es,En,h⟩:=rfl
@[go_sem] theorem zkm {v}:val h v=I ⟨v,Es,En,h⟩:=rfl
@[go_sem] theorem zk6 {x}:qf p xc h0 al e h (.move x)=gB h (qi e x):=rfl
def Sj (s:Nat)(h:qh)(x:Option (AVal×Bool)):Option bm:=match x with
 |some (v,o)=>I ⟨v,o,I s,h⟩
 |none=>En
@[go_sem] theorem j0y {s v o}:Sj s h (I (v,o))=I ⟨v,o,I s,h⟩:=rfl
@[go_sem] theorem zk4 {s}:qf p xc h0 al e h (.take s)=Sj s h (ji s e):=by
 simp only[qf,qo,Sj]
 cases ji s e<;>rfl
def Sk (op:BinOp)(h:qh)(a b:Option AVal):Option bm:=match a,b with
 |some a,I b=>gB h (yq op a b)
 |_,_=>En
@[go_sem] theorem j91 {op a b}:Sk op h (I a) (I b)=gB h (yq op a b):=rfl
@[go_sem] theorem zlc {op x y}:qf p xc h0 al e h (.bin op x y)=Sk op h (qi e x) (qi e y):=by
 simp only[qf,qo,Sk]
 cases qi e x<;>cases qi e y<;>rfl
def Sl (h:qh)(c a b:Option AVal):Option bm:=match c,a,b with
 |some (.bool t),I x,I y=>val h (bif t then x else y)
 |_,_,_=>En
@[go_sem] theorem j01 {t a b}:Sl h (I (.bool t)) (I a) (I b)=I ⟨bif t then a else b,Es,En,h⟩:=rfl
@[go_sem] theorem zkq {c a b}:qf p xc h0 al e h (.pick c a b)=Sl h (qi e c) (qi e a) (qi e b):=by
 simp only[qf,qo,Sl]
 cases qi e c with
 |none=>rfl
 |some v=>cases v<;>cases qi e a<;>cases qi e b<;>rfl
def yD (k:Nat)(h:qh)(x:Option AVal):Option bm:=match k,x with
 |1,I (.list _ _ xs)=>val h (.int .i64 xs.length)
 |1,I (.ms _ _ n)=>val h (.int .i64 n)
 |1,I (.aj _ _ n)=>val h (.int .i64 n)
 |2,I (.list Ga _ _)=>val h (.int .i64 0)
 |0,I (.str s)=>val h (.int .i64 s.length)
 |_,_=>En
@[go_sem] theorem zag {b z xs}:yD 1 h (I (.list b z xs))=I ⟨.int .i64 xs.length,Es,En,h⟩:=rfl
@[go_sem] theorem zkc {b o n}:yD 1 h (I (.ms b o n))=I ⟨.int .i64 n,Es,En,h⟩:=rfl
@[go_sem] theorem j9q {b v n}:yD 1 h (I (.aj b v n))=I ⟨.int .i64 n,Es,En,h⟩:=rfl
@[go_sem] theorem zdd {s}:yD 0 h (I (.str s))=I ⟨.int .i64 s.length,Es,En,h⟩:=rfl
@[go_sem] theorem zc5 {z xs}:yD 2 h (I (.list Ga z xs))=I ⟨.int .i64 0,Es,En,h⟩:=rfl
@[go_sem] theorem zlh {k x}:qf p xc h0 al e h (.len k x)=yD k h (qi e x):=rfl
def vh (n:Nat)(i:Int):Option Nat:=if 0≤i∧i<n then I i.toNat else En
theorem yE {n k i}:idx n (.int k i)=vh n i:=by
 unfold idx vh
 cases i with
 |ofNat m=>
  by_cases hm:m<n
  ·rw[if_pos ⟨by simp,by simp;omega⟩];simp[Gf.mpr hm]
  ·rw[if_neg (by simp;omega)]
   cases hb:Nat.blt m n with
   |true=>exact absurd (Gf.mp hb) hm
   |false=>simp[hb]
 |negSucc m=>simp
attribute [go_sem] yE
theorem jo5 {n:Nat}{i:Int}(h1:0≤i)(h2:i<n):vh n i=I i.toNat:=by unfold vh;rw[if_pos ⟨h1,h2⟩]
theorem Sm {n i}(h:i<n):vh n (i:Int)=I i:=by unfold vh;rw[if_pos ⟨by simp,by omega⟩];simp
def hH (sz:Nat)(h:qh)(x i:Option AVal):Option bm:=match x,i with
 |some (.list _ dj xs),I j=>bif Ge sz dj||xs.isEmpty then(match idx xs.length j with
   |some j=>(match xs[j]? with
    |some v=>val h (.ai v)
    |none=>En)
   |none=>En)else En
 |some (.ms b o len),I j=>(match idx len j with
   |some j=>val h (.ptr b (o+j*sz))
   |none=>En)
 |some (.aj b bN len),I j=>(match idx len j with
   |some j=>val h (.di b bN (j*sz))
   |none=>En)
 |_,_=>En
@[go_sem] theorem jx6 {sz x i}:qf p xc h0 al e h (.indexAddr sz x i)=hH sz h (qi e x) (qi e i):=by
 simp only[qf,qo,hH]
 cases qi e x with
 |none=>rfl
 |some v=>cases v<;>cases qi e i<;>rfl
theorem jed {sz:Nat}{b:Bool}{k xs i v}(h1:0≤i)(hv:xs[i.toNat]?=I v):hH sz h (I (.list b sz xs)) (I (.int k i))=I ⟨.ai v,Es,En,h⟩:=by
 have hl:=(List.getElem?_eq_some_iff.1 hv).1
 have hi:idx xs.length (.int k i)=I i.toNat:=by rw[yE];exact jo5 h1 (by omega)
 simp only[hH,hi,Nat.beq_refl,Bool.true_or,cond_true,hv]
 rfl
theorem jjt {sz:Nat}{b:Bool}{k:IntKind}{xs:List AVal}{i:Nat}{v:AVal}(hv:xs[i]?=I v):hH sz h (I (.list b sz xs)) (I (.int k (i:Int)))=I ⟨.ai v,Es,En,h⟩:=
 jed (by simp) (by simpa using hv)
def y5 (h0:Nat)(al:Option (List Nat))(agg:Bool)(n:Nat)(h:qh)(x:Option AVal):Option bm:=match x with
 |some (.ptr b o)=>bif j9 h0 al b then(match jt h b with
   |some cs=>(match zf cs o n with
    |some vs=>bif agg then val h (.agg vs)else(match vs with
     | [v]=>val h v
     |_=>En)
    |none=>En)
   |none=>En)else En
 |some (.ai v)=>bif Bool.xor agg v.isAgg||!(Ge v.flat.length n)then En else val h v
 |some (.di b bN o)=>bif uG h0 al b then(match zc h b with
   |some (.vec _ dG xs)=>bif Ge bN dG&&Nat.ble (o+n) (xs.flatMap AVal.flat).length then(bif agg then val h (.agg (((xs.flatMap AVal.flat).drop o).take n))else(match((xs.flatMap AVal.flat).drop o).take n with
     | [v]=>val h v
     |_=>En))else En
   |_=>En)else En
 |_=>En
@[go_sem] theorem zko {agg n x}:qf p xc h0 al e h (.load agg n x)=y5 h0 al agg n h (qi e x):=by
 simp only[qf,yi,y5]
 cases qi e x with
 |none=>rfl
 |some v=>cases v<;>rfl
def jlw:Option AVal→Option AVal
 |some (.ai v)=>I (.ai v)
 |_=>En
@[go_sem] theorem zj1 {v}:jlw (I (.ai v))=I (.ai v):=rfl
@[go_sem] theorem zj5 {agg n x}:qf p xc h0 al e h (.fq agg n x)=y5 h0 al agg n h (jlw (qi e x)):=by
 simp only[qf,qo,y5]
 cases qi e x with
 |none=>rfl
 |some v=>cases v<;>rfl
@[go_sem] theorem j98 {k i}:y5 h0 al Es 1 h (I (.ai (.int k i)))=I ⟨.int k i,Es,En,h⟩:=rfl
@[go_sem] theorem j9f {s}:y5 h0 al Es 1 h (I (.ai (.str s)))=I ⟨.str s,Es,En,h⟩:=rfl
@[go_sem] theorem j5k {b}:y5 h0 al Es 1 h (I (.ai (.bool b)))=I ⟨.bool b,Es,En,h⟩:=rfl
@[go_sem] theorem j26 {b z xs}:y5 h0 al Es 1 h (I (.ai (.list b z xs)))=I ⟨.list b z xs,Es,En,h⟩:=rfl
theorem jcv {n cs}(hn:cs.length=n):y5 h0 al Ga n h (I (.ai (.agg cs)))=I ⟨.agg cs,Es,En,h⟩:=by
 subst hn;simp[y5,AVal.isAgg,AVal.flat,val]
@[go_sem] theorem zlt {k x y}:yq .add (.int k x) (.int k y)=I (.int k (qe k (x+y))):=by simp[yq,oF]
@[go_sem] theorem zlg {k x y}:yq .sub (.int k x) (.int k y)=I (.int k (qe k (x-y))):=by simp[yq,oF]
@[go_sem] theorem zln {k x y}:yq .mul (.int k x) (.int k y)=I (.int k (qe k (x*y))):=by simp[yq,oF]
@[go_sem] theorem zk9 {k x y}:yq .lss (.int k x) (.int k y)=I (.bool (decide (x<y))):=by simp[yq,oF]
@[go_sem] theorem zll {k x y}:yq .leq (.int k x) (.int k y)=I (.bool (decide (x≤y))):=by simp[yq,oF]
@[go_sem] theorem zld {k x y}:yq .gtr (.int k x) (.int k y)=I (.bool (decide (y<x))):=by simp[yq,oF]
@[go_sem] theorem zlf {k x y}:yq .geq (.int k x) (.int k y)=I (.bool (decide (y≤x))):=by simp[yq,oF]
@[go_sem] theorem zls {k x y}:yq .eql (.int k x) (.int k y)=I (.bool (decide (x=y))):=by
 simp only[yq,oF,decide_true,cond_true];congr 2
@[go_sem] theorem zlr {k x y}:yq .neq (.int k x) (.int k y)=I (.bool (!decide (x=y))):=by
 simp only[yq,oF,decide_true,cond_true];congr 2
theorem qzi {x}(h1:-9223372036854775808≤x)(h2:x≤9223372036854775807):qe .i64 x=x:=by
 have:pZ .i64 x=Ga:=by
  cases x with
  |ofNat m=>simp only[pZ];exact E9 (by simp at h2;omega)
  |negSucc m=>simp only[pZ];exact E9 (by omega)
 simp[qe,this]
def Sn (h:qh)(b:Bool)(r:Option (AVal×Bool)):Option bm:=match b,r with
 |true,I (v,o)=>I ⟨v,o,En,h⟩
 |_,_=>En
@[go_sem] theorem j84 {v o}:Sn h Ga (I (v,o))=I ⟨v,o,En,h⟩:=rfl
def So (n:Nat)(r:Option (AVal×Bool×qh)):Option bm:=match r with
 |some (v,o,h')=>I ⟨v,o,En,jp n v h'⟩
 |none=>En
@[go_sem] theorem j9t {n v o}:So n (I (v,o,h))=I ⟨v,o,En,jp n v h⟩:=rfl
def Sp (r:Option (AVal×qh)):Option bm:=match r with
 |some (v,h')=>I ⟨v,Es,En,h'⟩
 |none=>En
@[go_sem] theorem jx9 {v}:Sp (I (v,h))=I ⟨v,Es,En,h⟩:=rfl
def Ll (h0 r:Nat)(h:qh)(b:Bool)(m:Option (List (AVal×AVal))):Option bm:=match b,m with
 |true,I es=>(match aS h0 h r (.map es)with
  |some h'=>I ⟨.map (h0+r),Es,En,h'⟩
  |none=>En)
 |_,_=>En
def GU (h0 r:Nat)(h:qh)(b b':Bool)(m:Option (List (AVal×AVal)))(c:Option (AVal×Bool)):Option bm:=match b with
 |true=>Ll h0 r h Ga m
 |false=>(match b',c with
  |true,I (v,o)=>qC h0 h r v o
  |_,_=>En)
@[go_sem] theorem zed {r b' m c}:GU h0 r h Ga b' m c=Ll h0 r h Ga m:=rfl
@[go_sem] theorem j8k {r m v o}:GU h0 r h Es Ga m (I (v,o))=qC h0 h r v o:=rfl
def jrg (p:jz)(xc:XC)(h:qh)(k:Nat):Option (List AVal)→Option bm
 |some us=>bif qw 0 us then(match qc p xc k us with
  |some (v,o)=>(match Kj v o with
   |some (v',o')=>I ⟨v',o',En,h⟩
   |none=>En)
  |none=>En)else En
 |none=>En
def A4 (p:jz)(xc:XC)(h0:Nat)(h:qh)(md:ep)(f:Option AVal)(l:Option (List AVal)):Option bm:=match f,l with
 |some (.fn (.func k) a c),I vs=>(match md with
  | .b3=>Sn h (qw 0 (a++vs++c)) (qc p xc k (a++vs++c))
  | .fJ r=>GU h0 r h (a++vs++c).isEmpty (qw 0 (a++vs++c)) (p.maps k) (qc p xc k (a++vs++c))
  | .red=>jrg p xc h k (xG h (a++vs++c))
  | .shr=>So h.length (qm p xc k (a++vs++c) h))
 |some (.fn (.yield b) [] []),I vs=>(match md with
  | .shr=>Sp (kG xc b vs h)
  |_=>En)
 |_,_=>En
@[go_sem] theorem zkz {md f l}:qf p xc h0 al e h (.call md f l)=A4 p xc h0 h md (qi e f) (kz e l):=by
 simp only[qf,yt,A4]
 split
 ·rename_i k first captured vs h1 h2
  rw[h1,h2]
  cases md with
  |b3=>
   simp only[]
   cases qw 0 (first++vs++captured)with
   |false=>cases qc p xc k (first++vs++captured)<;>rfl
   |true=>cases qc p xc k (first++vs++captured)<;>rfl
  |fJ rk=>
   simp only[]
   cases (first++vs++captured).isEmpty with
   |false=>
    cases qw 0 (first++vs++captured)with
    |false=>cases qc p xc k (first++vs++captured)<;>rfl
    |true=>cases qc p xc k (first++vs++captured)<;>rfl
   |true=>
    cases p.maps k with
    |none=>rfl
    |some es=>simp only[cond_true,GU,Ll];cases aS h0 h rk (.map es)<;>rfl
  |red=>simp only[];cases xG h (first++vs++captured)<;>rfl
  |shr=>simp only[];cases qm p xc k (first++vs++captured) h<;>rfl
 ·rename_i b vs h1 h2
  rw[h1,h2]
  cases md with
  |shr=>simp only[];cases kG xc b vs h<;>rfl
  |_=>rfl
 ·rename_i h1 h2
  split
  ·rename_i k a c vs g1 g2;exact absurd g2 (fun g2=>h1 k a c vs g1 g2)
  ·rename_i b vs g1 g2;exact absurd g2 (fun g2=>h2 b vs g1 g2)
  ·rfl
@[go_sem] theorem j9v {k a c vs}:A4 p xc h0 h .b3 (I (.fn (.func k) a c)) (I vs)=Sn h (qw 0 (a++vs++c)) (qc p xc k (a++vs++c)):=rfl
@[go_sem] theorem zan {k r a c vs}:A4 p xc h0 h (.fJ r) (I (.fn (.func k) a c)) (I vs)=GU h0 r h (a++vs++c).isEmpty (qw 0 (a++vs++c)) (p.maps k) (qc p xc k (a++vs++c)):=rfl
@[go_sem] theorem j9e {k a c vs}:A4 p xc h0 h .red (I (.fn (.func k) a c)) (I vs)=jrg p xc h k (xG h (a++vs++c)):=rfl
@[go_sem] theorem j8y {k a c vs}:A4 p xc h0 h .shr (I (.fn (.func k) a c)) (I vs)=So h.length (qm p xc k (a++vs++c) h):=rfl
@[go_sem] theorem jx4 {b vs}:A4 p xc h0 h .shr (I (.fn (.yield b) [] [])) (I vs)=Sp (kG xc b vs h):=rfl
def DS (rs:List mR)(r:Option (je×bf)):Option (AVal×Bool×qh):=match r with
 |some (.normal,st)=>(match ko st rs with
   |some xs=>I ((jy xs).1,(jy xs).2,ky st rs)
   |none=>En)
 |some (.ret,st)=>(match ko st rs with
   |some xs=>I ((jy xs).1,(jy xs).2,ky st rs)
   |none=>En)
 |_=>En
def Sr (st:bf)(rs:List mR)(r:Option (List (AVal×Bool))):Option (AVal×Bool×qh):=match r with
 |some xs=>I ((jy xs).1,(jy xs).2,ky st rs)
 |none=>En
@[go_sem] theorem jxm {rs st}:DS rs (I (.normal,st))=Sr st rs (ko st rs):=rfl
@[go_sem] theorem zgm {rs st}:DS rs (I (.ret,st))=Sr st rs (ko st rs):=rfl
@[go_sem] theorem j93 {st rs xs}:Sr st rs (I xs)=I ((jy xs).1,(jy xs).2,ky st rs):=rfl
theorem qj {k nt body rs args}(hf:p.bG k=I ⟨nt,body,rs⟩)(hl:args.length≤nt):qm p xc k args h=DS rs (xc body ⟨oH 0 args,h⟩):=by
 simp only[qm,hf,pv,E9 hl,cond_true,DS]
 rfl
def Ss (x:Option (AVal×Bool))(l:Option (List (AVal×Bool))):Option (List (AVal×Bool)):=match x,l with
 |some v,I vs=>I (v::vs)
 |_,_=>En
@[go_sem] theorem j42 {v vs}:Ss (I v) (I vs)=I (v::vs):=rfl
@[go_sem] theorem jqd {st}:ko st []=I []:=rfl
@[go_sem] theorem jpi {st r rs}:ko st (r::rs)=Ss (uI st r) (ko st rs):=by
 simp only[ko,Ss]
 cases uI st r with
 |none=>rfl
 |some v=>cases ko st rs<;>rfl
@[go_sem] theorem jwt {t}:uI ⟨e,h⟩ (.tmp t)=ji t e:=rfl
@[go_sem] theorem zby {x}:jy [x]=x:=rfl
@[go_sem] theorem zer {x y}:jy [x,y]=(.aI [x.1,y.1],Es):=rfl
@[go_sem] theorem j6y {x y z}:jy [x,y,z]=(.aI [x.1,y.1,z.1],Es):=rfl
@[go_sem] theorem j8g:jy []=(.aI [],Es):=rfl
@[go_sem] theorem j8e {st t}:ky st [.tmp t]=st.heap:=rfl
@[go_sem] theorem j85 {st x y l}:ky st (x::y::l)=st.heap:=by
 cases x with
 |tmp t=>rfl
 |cell t a n=>cases a<;>rfl
@[go_sem] theorem j30 {st}:ky st []=st.heap:=rfl
@[go_sem] theorem j96 {st t n}:ky st [.cell t Ga n]=st.heap:=rfl
@[go_sem] theorem zg2 {o}:yC Ga (I (.bool Ga,o))=I Ga:=rfl
@[go_sem] theorem zcn {o}:yC Ga (I (.bool Es,o))=I Es:=rfl
@[go_sem] theorem zaw {o}:yC Es (I (.bool Ga,o))=I Es:=rfl
@[go_sem] theorem zc7 {o}:yC Es (I (.bool Es,o))=I Ga:=rfl
attribute [go_sem] cond_true cond_false decide_true decide_false Bool.not_true Bool.not_false List.append_nil List.nil_append List.length_cons List.length_nil
@[go_sem] theorem zle:List.replicate 0 bg.hole=[]:=rfl
end
section
variable {p:jz}{xc:XC}{h0:Nat}{al:Option (List Nat)}{e:Env}{h:qh}{α:Type}
def sl (z:Nat)(f:α→AVal):Option (List α)→AVal
 |none=>.list Ga 0 []
 |some l=>.list Es z (l.map f)
@[go_sem] theorem zkt {z:Nat}{f:α→AVal}{l}:yD 1 h (I (sl z f l))=I ⟨.int .i64 (l.getD []).length,Es,En,h⟩:=by
 cases l<;>simp[sl,yD,val]
theorem jss {z:Nat}{f:α→AVal}{l:Option (List α)}{k:IntKind}{i:Nat}{x:α}(hx:(l.getD [])[i]?=I x):hH z h (I (sl z f l)) (I (.int k (i:Int)))=I ⟨.ai (f x),Es,En,h⟩:=by
 cases l with
 |none=>simp at hx
 |some l=>exact jjt (by rw[List.getElem?_map,show l[i]?=I x from hx];rfl)
theorem vi {n z:Nat}{f:α→AVal}{l}(hf:∀x,below n (f x)=Ga):below n (sl z f l)=Ga:=by
 have key:∀l:List α,qw n (l.map f)=Ga:=by
  intro l
  induction l with
  |nil=>rfl
  |cons x l ih=>simp[qw,hf,ih]
 cases l with
 |none=>rfl
 |some l=>simp only[sl,below];exact key l
theorem zk2 {z:Nat}{f:α→AVal}(hf:∀x y,f x=f y→x=y){a b}(qD:sl z f a=sl z f b):a=b:=by
 have key:∀a b:List α,a.map f=b.map f→a=b:=by
  intro a
  induction a with
  |nil=>intro b hb;cases b<;>simp at hb<;>rfl
  |cons x a ih=>
   intro b hb
   cases b with
   |nil=>simp at hb
   |cons y b=>simp at hb;rw[hf _ _ hb.1,ih _ hb.2]
 cases a<;>cases b<;>simp[sl]at qD<;>first|rfl|rw[key _ _ qD]
def zy (n:Int):AVal:=.int .i64 n
@[go_sem] theorem j43 {i}:y5 h0 al Es 1 h (I (.ai (zy i)))=I ⟨.int .i64 i,Es,En,h⟩:=rfl
end
end Go.Abs
