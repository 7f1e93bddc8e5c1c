/- Equations of the executor for runs on values that are not known. -/
import Derived.Test.YtimdocpnkimlfaaGreatDoorAbsG
set_option linter.unusedVariables false
set_option linter.unusedSimpArgs false
open Option renaming some→I,none→En
open Bool renaming false→E3,true→Gc
open Nat renaming ble_eq_true_of_le→Ga,eq_of_beq_eq_true→Gd,beq→Gg,blt_eq→Gh
namespace Go.Abs
section
variable {p:j8}{xc:XC}{h0:Nat}{al:Option (List Nat)}{e:Env}{h:qh}
def GU (r:Option (jg×bf))(f:bf→Option (jg×bf)):Option (jg×bf):=match r with
 |some (.normal,st)=>f st
 |r=>r
@[go_sem] theorem jur {st f}:GU (I (.normal,st)) f=f st:=rfl
@[go_sem] theorem zab {st f}:GU (I (.ret,st)) f=I (.ret,st):=rfl
@[go_sem] theorem j5e {id st f}:GU (I (.exit id,st)) f=I (.exit id,st):=rfl
@[go_sem] theorem zl9 {a b st}:X p (.seq a b) st=GU (X p a st) (X p b):=by
 rw[j28];unfold GU
 cases X p a st with
 |none=>rfl
 |some r=>obtain⟨x,s⟩:=r;cases x<;>rfl
def LK (c:Option AVal)(f g:bf→Option (jg×bf))(st:bf):Option (jg×bf):=match c with
 |some (.bool Gc)=>f st
 |some (.bool E3)=>g st
 |_=>En
@[go_sem] theorem j2h {f g st}:LK (I (.bool Gc)) f g st=f st:=rfl
@[go_sem] theorem jz5 {f g st}:LK (I (.bool E3)) f g st=g st:=rfl
@[go_sem] theorem zk1 {c a b st}:X p (.cond c a b) st=LK (qi st.env c) (X p a) (X p b) st:=by
 rw[jws];unfold LK
 cases qi st.env c with
 |none=>rfl
 |some v=>cases v with
  |bool t=>cases t<;>rfl
  |_=>rfl
def GV (id:Nat)(r:Option (jg×bf)):Option (jg×bf):=match r with
 |some (.exit fQ,bT)=>if fQ=id then I (.normal,bT)else I (.exit fQ,bT)
 |r=>r
@[go_sem] theorem jz4 {id fQ st}:GV id (I (.exit fQ,st))=if fQ=id then I (.normal,st)else I (.exit fQ,st):=rfl
@[go_sem] theorem jrk {id st}:GV id (I (.normal,st))=I (.normal,st):=rfl
@[go_sem] theorem j4y {id st}:GV id (I (.ret,st))=I (.ret,st):=rfl
@[go_sem] theorem zb8 {id b st}:X p (.block id b) st=GV id (X p b st):=by
 rw[jpk];unfold GV
 cases X p b st with
 |none=>rfl
 |some r=>
  obtain⟨x,s⟩:=r
  cases x with
  |exit fQ=>
   simp only[]
   by_cases hb:fQ=id
   ·subst hb;simp
   ·rw[if_neg hb]
    cases hq:Gg fQ id with
    |true=>exact absurd (Gd hq) hb
    |false=>rfl
  |_=>rfl
noncomputable def D0 (p:j8)(b:aw)(n:Nat)(r:Option (jg×bf)):Option (jg×bf):=match r with
 |some (.normal,bT)=>X p (.loop b) (gc n bT)
 |r=>r
theorem jot {b st}:X p (.loop b) st=D0 p b st.heap.length (X p b st):=by
 rw[jsq];unfold D0
 cases X p b st with
 |none=>rfl
 |some r=>obtain⟨x,s⟩:=r;cases x<;>rfl
@[go_sem] theorem q3l {b n st}:D0 p b n (I (.normal,st))=X p (.loop b) (gc n st):=rfl
@[go_sem] theorem j9l {b n st}:D0 p b n (I (.ret,st))=I (.ret,st):=rfl
@[go_sem] theorem j01 {b n id st}:D0 p b n (I (.exit id,st))=I (.exit id,st):=rfl
attribute [go_sem] jxx jti j8d jgz SE juw
@[go_sem] theorem zlx {env}:gc 0 ⟨env,[]⟩=⟨env,[]⟩:=rfl
theorem D3 {n st}(hn:st.heap.length≤n):gc n st=st:=by
 unfold gc;rw[Ga hn];rfl
theorem zml {e e' h}:gc (bf.mk e h).heap.length ⟨e',h⟩=⟨e',h⟩:=D3 (Nat.le_refl _)
def SH (k:Option (List Nat))(r:Option bf):Option (jg×bf):=match r with
 |some bT=>I (.normal,Af bT k)
 |none=>En
@[go_sem] theorem zan {k st}:SH k (I st)=I (.normal,Af st k):=rfl
@[go_sem] theorem zhd {na l k st}:mY p xc na l k st=SH k (fY p xc st.heap.length l ⟨st.env,st.heap++List.replicate na .hole⟩):=by
 unfold mY SH;rfl
def jrv (r:Option bf)(f:bf→Option bf):Option bf:=match r with
 |some st=>f st
 |none=>En
@[go_sem] theorem zac {st f}:jrv (I st) f=f st:=rfl
@[go_sem] theorem zkn {st}:fY p xc h0 [] st=I st:=rfl
@[go_sem] theorem j83 {o l st}:fY p xc h0 (o::l) st=jrv (yu p xc h0 o st) (fY p xc h0 l):=rfl
def LL (d:Option Nat)(e:Env)(r:Option bh):Option bf:=match r with
 |some r=>I ⟨n5 (yc e r.strip) d r.v r.own,r.heap⟩
 |none=>En
@[go_sem] theorem zad {d v o s}:LL d e (I ⟨v,o,s,h⟩)=I ⟨n5 (yc e s) d v o,h⟩:=rfl
@[go_sem] theorem jre {d op env}:yu p xc h0 ⟨d,op,En,al⟩ ⟨env,h⟩=LL d env (qf p xc h0 al env h op):=rfl
def LM (g:Option Bool)(d:Option Nat)(env:Env)(h:qh)(f:cL→Option bh)(op:cL):Option bf:=match g with
 |some Gc=>LL d env (f op)
 |some E3=>I ⟨n5 env d .undef E3,h⟩
 |none=>En
@[go_sem] theorem jy2 {d env f op}:LM (I Gc) d env h f op=LL d env (f op):=rfl
@[go_sem] theorem jwa {d env f op}:LM (I E3) d env h f op=I ⟨n5 env d .undef E3,h⟩:=rfl
@[go_sem] theorem jru {d op g env}:yu p xc h0 ⟨d,op,I g,al⟩ ⟨env,h⟩=LM (mX env (I g)) d env h (qf p xc h0 al env h) op:=by
 unfold yu LM
 simp only[]
 split
 ·rename_i hg;rw[hg];rfl
 ·rename_i hg;rw[hg]
 ·rename_i hg;rw[hg]
def yL (b:Bool)(v:Option (AVal×Bool)):Option Bool:=match v with
 |some (.bool c,_)=>I (c == b)
 |some (.undef,_)=>I E3
 |_=>En
@[go_sem] theorem jvu {s b}:mX e (I (s,b))=yL b (jj s e):=by
 unfold mX yL;rfl
theorem jzd {b c o}:yL b (I (.bool c,o))=I (c == b):=rfl
@[go_sem] theorem jsr {b o}:yL b (I (.undef,o))=I E3:=rfl
@[go_sem] theorem j9d {s t x}:jj t ((s,x)::e)=if s=t then I x else jj t e:=by
 by_cases b6:s=t
 ·subst b6;rw[if_pos rfl];simp[jj]
 ·rw[if_neg b6]
  have:Gg s t=E3:=by
   cases hb:Gg s t with
   |false=>rfl
   |true=>exact absurd (Gd hb) b6
  simp[jj,this]
@[go_sem] theorem zkq {t}:jj t []=En:=rfl
def jsd (x:Option (AVal×Bool)):Option AVal:=match x with
 |some x=>I x.1
 |none=>En
@[go_sem] theorem j9j {v o}:jsd (I (v,o))=I v:=rfl
@[go_sem] theorem j9y {t}:qi e (.tmp t)=jsd (jj t e):=rfl
@[go_sem] theorem jzn {v}:qi e (.const v)=I v:=rfl
def pK (x:Option AVal)(l:Option (List AVal)):Option (List AVal):=match x,l with
 |some v,I vs=>I (v::vs)
 |_,_=>En
@[go_sem] theorem j5o {v vs}:pK (I v) (I vs)=I (v::vs):=rfl
@[go_sem] theorem j93:fX e []=I []:=rfl
@[go_sem] theorem j42 {x l}:fX e (x::l)=pK (qi e x) (fX e l):=by
 simp only[fX,pK]
 cases qi e x with
 |none=>rfl
 |some v=>cases fX e l<;>rfl
@[go_sem] theorem jzg {l}:Af ⟨e,h⟩ (I l)=⟨qG e l,h⟩:=rfl
@[go_sem] theorem jz2:Af ⟨e,h⟩ En=⟨e,h⟩:=rfl
def LN (t:Nat)(x:Option (AVal×Bool))(e:Env):Env:=match x with
 |some x=>(t,x)::e
 |none=>e
@[go_sem] theorem j04 {t x}:LN t (I x) e=(t,x)::e:=rfl
@[go_sem] theorem j3j {t}:LN t En e=e:=rfl
@[go_sem] theorem jzz:qG e []=[]:=rfl
@[go_sem] theorem jt3 {t l}:qG e (t::l)=LN t (jj t e) (qG e l):=by
 simp only[qG,LN]
 cases jj t e<;>rfl
@[go_sem] theorem jz0 {d v o}:n5 e (I d) v o=(d,v,o)::e:=rfl
@[go_sem] theorem jy6 {v o}:n5 e En v o=e:=rfl
@[go_sem] theorem jrr:yc e En=e:=rfl
def SI (s:Nat)(x:Option (AVal×Bool))(e:Env):Env:=match x with
 |some (v,_)=>(s,v,E3)::e
 |none=>e
@[go_sem] theorem jy3 {s v o}:SI s (I (v,o)) e=(s,v,E3)::e:=rfl
@[go_sem] theorem jri {s}:yc e (I s)=SI s (jj s e) e:=by
 simp only[yc,SI]
 cases jj s e<;>rfl
@[go_sem] theorem j58 {i}:oJ i []=[]:=rfl
@[go_sem] theorem jy8 {i v vs}:oJ i (v::vs)=(i,v,E3)::oJ (i+1) vs:=rfl
@[go_sem] theorem zba {v}:gD h (I v)=I ⟨v,E3,En,h⟩:=rfl
@[go_sem] theorem zlo {v}:val h v=I ⟨v,E3,En,h⟩:=rfl
@[go_sem] theorem zlt {x}:qf p xc h0 al e h (.move x)=gD h (qi e x):=rfl
def SJ (s:Nat)(h:qh)(x:Option (AVal×Bool)):Option bh:=match x with
 |some (v,o)=>I ⟨v,o,I s,h⟩
 |none=>En
@[go_sem] theorem j4l {s v o}:SJ s h (I (v,o))=I ⟨v,o,I s,h⟩:=rfl
@[go_sem] theorem zl0 {s}:qf p xc h0 al e h (.take s)=SJ s h (jj s e):=by
 simp only[qf,qo,SJ]
 cases jj s e<;>rfl
def SK (op:BinOp)(h:qh)(a b:Option AVal):Option bh:=match a,b with
 |some a,I b=>gD h (yg op a b)
 |_,_=>En
@[go_sem] theorem za6 {op a b}:SK op h (I a) (I b)=gD h (yg op a b):=rfl
@[go_sem] theorem zmj {op x y}:qf p xc h0 al e h (.bin op x y)=SK op h (qi e x) (qi e y):=by
 simp only[qf,qo,SK]
 cases qi e x<;>cases qi e y<;>rfl
def SL (h:qh)(c a b:Option AVal):Option bh:=match c,a,b with
 |some (.bool t),I x,I y=>val h (bif t then x else y)
 |_,_,_=>En
@[go_sem] theorem j2s {t a b}:SL h (I (.bool t)) (I a) (I b)=I ⟨bif t then a else b,E3,En,h⟩:=rfl
@[go_sem] theorem zl1 {c a b}:qf p xc h0 al e h (.pick c a b)=SL h (qi e c) (qi e a) (qi e b):=by
 simp only[qf,qo,SL]
 cases qi e c with
 |none=>rfl
 |some v=>cases v<;>cases qi e a<;>cases qi e b<;>rfl
def yM (k:Nat)(h:qh)(x:Option AVal):Option bh:=match k,x with
 |1,I (.list _ _ xs)=>val h (.int .i64 xs.length)
 |1,I (.ms _ _ n)=>val h (.int .i64 n)
 |1,I (.ay _ _ n)=>val h (.int .i64 n)
 |2,I (.list Gc _ _)=>val h (.int .i64 0)
 |0,I (.str s)=>val h (.int .i64 s.length)
 |_,_=>En
@[go_sem] theorem j87 {b z xs}:yM 1 h (I (.list b z xs))=I ⟨.int .i64 xs.length,E3,En,h⟩:=rfl
@[go_sem] theorem zlc {b o n}:yM 1 h (I (.ms b o n))=I ⟨.int .i64 n,E3,En,h⟩:=rfl
@[go_sem] theorem j9e {b v n}:yM 1 h (I (.ay b v n))=I ⟨.int .i64 n,E3,En,h⟩:=rfl
@[go_sem] theorem zix {s}:yM 0 h (I (.str s))=I ⟨.int .i64 s.length,E3,En,h⟩:=rfl
@[go_sem] theorem zb1 {z xs}:yM 2 h (I (.list Gc z xs))=I ⟨.int .i64 0,E3,En,h⟩:=rfl
@[go_sem] theorem zmi {k x}:qf p xc h0 al e h (.len k x)=yM k h (qi e x):=rfl
def pL (n:Nat)(i:Int):Option Nat:=if 0≤i∧i<n then I i.toNat else En
theorem vB {n k i}:idx n (.int k i)=pL n i:=by
 unfold idx pL
 cases i with
 |ofNat m=>
  by_cases hm:m<n
  ·rw[if_pos ⟨by simp,by simp;omega⟩];simp[Gh.mpr hm]
  ·rw[if_neg (by simp;omega)]
   cases hb:Nat.blt m n with
   |true=>exact absurd (Gh.mp hb) hm
   |false=>simp[hb]
 |negSucc m=>simp
attribute [go_sem] vB
theorem jqw {n:Nat}{i:Int}(h1:0≤i)(h2:i<n):pL n i=I i.toNat:=by unfold pL;rw[if_pos ⟨h1,h2⟩]
theorem LO {n i}(h:i<n):pL n (i:Int)=I i:=by unfold pL;rw[if_pos ⟨by simp,by omega⟩];simp
def jY (sz:Nat)(h:qh)(x i:Option AVal):Option bh:=match x,i with
 |some (.list _ c8 xs),I j=>bif Gg sz c8||xs.isEmpty then(match idx xs.length j with
   |some j=>(match xs[j]? with
    |some v=>val h (.ah v)
    |none=>En)
   |none=>En)else En
 |some (.ms b o len),I j=>(match idx len j with
   |some j=>val h (.ptr b (o+j*sz))
   |none=>En)
 |some (.ay b bJ len),I j=>(match idx len j with
   |some j=>val h (.dH b bJ (j*sz))
   |none=>En)
 |_,_=>En
@[go_sem] theorem jzh {sz x i}:qf p xc h0 al e h (.indexAddr sz x i)=jY sz h (qi e x) (qi e i):=by
 simp only[qf,qo,jY]
 cases qi e x with
 |none=>rfl
 |some v=>cases v<;>cases qi e i<;>rfl
theorem jf4 {sz:Nat}{b:Bool}{k xs i v}(h1:0≤i)(hv:xs[i.toNat]?=I v):jY sz h (I (.list b sz xs)) (I (.int k i))=I ⟨.ah v,E3,En,h⟩:=by
 have hl:=(List.getElem?_eq_some_iff.1 hv).1
 have hi:idx xs.length (.int k i)=I i.toNat:=by rw[vB];exact jqw h1 (by omega)
 simp only[jY,hi,Nat.beq_refl,Bool.true_or,cond_true,hv]
 rfl
theorem ji4 {sz:Nat}{b:Bool}{k:IntKind}{xs:List AVal}{i:Nat}{v:AVal}(hv:xs[i]?=I v):jY sz h (I (.list b sz xs)) (I (.int k (i:Int)))=I ⟨.ah v,E3,En,h⟩:=
 jf4 (by simp) (by simpa using hv)
def gi (h0:Nat)(al:Option (List Nat))(agg:Bool)(n:Nat)(h:qh)(x:Option AVal):Option bh:=match x with
 |some (.ptr b o)=>bif zc h0 al b then(match jw h b with
   |some cs=>(match zj cs o n with
    |some vs=>bif agg then val h (.agg vs)else(match vs with
     | [v]=>val h v
     |_=>En)
    |none=>En)
   |none=>En)else En
 |some (.ah v)=>bif Bool.xor agg v.isAgg||!(Gg v.flat.length n)then En else val h v
 |some (.dH b bJ o)=>bif uX h0 al b then(match zg h b with
   |some (.vec _ dA xs)=>bif Gg bJ dA&&Nat.ble (o+n) (xs.flatMap AVal.flat).length then(bif agg then val h (.agg (((xs.flatMap AVal.flat).drop o).take n))else(match((xs.flatMap AVal.flat).drop o).take n with
     | [v]=>val h v
     |_=>En))else En
   |_=>En)else En
 |_=>En
@[go_sem] theorem zls {agg n x}:qf p xc h0 al e h (.load agg n x)=gi h0 al agg n h (qi e x):=by
 simp only[qf,yi,gi]
 cases qi e x with
 |none=>rfl
 |some v=>cases v<;>rfl
def jmz:Option AVal→Option AVal
 |some (.ah v)=>I (.ah v)
 |_=>En
@[go_sem] theorem zky {v}:jmz (I (.ah v))=I (.ah v):=rfl
@[go_sem] theorem zk0 {agg n x}:qf p xc h0 al e h (.ft agg n x)=gi h0 al agg n h (jmz (qi e x)):=by
 simp only[qf,qo,gi]
 cases qi e x with
 |none=>rfl
 |some v=>cases v<;>rfl
@[go_sem] theorem j95 {k i}:gi h0 al E3 1 h (I (.ah (.int k i)))=I ⟨.int k i,E3,En,h⟩:=rfl
@[go_sem] theorem zbf {s}:gi h0 al E3 1 h (I (.ah (.str s)))=I ⟨.str s,E3,En,h⟩:=rfl
@[go_sem] theorem j2k {b}:gi h0 al E3 1 h (I (.ah (.bool b)))=I ⟨.bool b,E3,En,h⟩:=rfl
@[go_sem] theorem j2w {b z xs}:gi h0 al E3 1 h (I (.ah (.list b z xs)))=I ⟨.list b z xs,E3,En,h⟩:=rfl
theorem jfe {n cs}(hn:cs.length=n):gi h0 al Gc n h (I (.ah (.agg cs)))=I ⟨.agg cs,E3,En,h⟩:=by
 subst hn;simp[gi,AVal.isAgg,AVal.flat,val]
@[go_sem] theorem zmg {k x y}:yg .add (.int k x) (.int k y)=I (.int k (qe k (x+y))):=by simp[yg,nW]
@[go_sem] theorem zmq {k x y}:yg .sub (.int k x) (.int k y)=I (.int k (qe k (x-y))):=by simp[yg,nW]
@[go_sem] theorem zmv {k x y}:yg .mul (.int k x) (.int k y)=I (.int k (qe k (x*y))):=by simp[yg,nW]
@[go_sem] theorem zmp {k x y}:yg .lss (.int k x) (.int k y)=I (.bool (decide (x<y))):=by simp[yg,nW]
@[go_sem] theorem zmw {k x y}:yg .leq (.int k x) (.int k y)=I (.bool (decide (x≤y))):=by simp[yg,nW]
@[go_sem] theorem zmr {k x y}:yg .gtr (.int k x) (.int k y)=I (.bool (decide (y<x))):=by simp[yg,nW]
@[go_sem] theorem zmh {k x y}:yg .geq (.int k x) (.int k y)=I (.bool (decide (y≤x))):=by simp[yg,nW]
@[go_sem] theorem zmc {k x y}:yg .eql (.int k x) (.int k y)=I (.bool (decide (x=y))):=by
 simp only[yg,nW,decide_true,cond_true];congr 2
@[go_sem] theorem zmu {k x y}:yg .neq (.int k x) (.int k y)=I (.bool (!decide (x=y))):=by
 simp only[yg,nW,decide_true,cond_true];congr 2
theorem LP {x}(h1:-9223372036854775808≤x)(h2:x≤9223372036854775807):qe .i64 x=x:=by
 have:qH .i64 x=Gc:=by
  cases x with
  |ofNat m=>simp only[qH];exact Ga (by simp at h2;omega)
  |negSucc m=>simp only[qH];exact Ga (by omega)
 simp[qe,this]
def SN (h:qh)(b:Bool)(r:Option (AVal×Bool)):Option bh:=match b,r with
 |true,I (v,o)=>I ⟨v,o,En,h⟩
 |_,_=>En
@[go_sem] theorem j9x {v o}:SN h Gc (I (v,o))=I ⟨v,o,En,h⟩:=rfl
def SP (n:Nat)(r:Option (AVal×Bool×qh)):Option bh:=match r with
 |some (v,o,h')=>I ⟨v,o,En,zd n v h'⟩
 |none=>En
@[go_sem] theorem za1 {n v o}:SP n (I (v,o,h))=I ⟨v,o,En,zd n v h⟩:=rfl
def SQ (r:Option (AVal×qh)):Option bh:=match r with
 |some (v,h')=>I ⟨v,E3,En,h'⟩
 |none=>En
@[go_sem] theorem jze {v}:SQ (I (v,h))=I ⟨v,E3,En,h⟩:=rfl
def LQ (h0 r:Nat)(h:qh)(b:Bool)(m:Option (List (AVal×AVal))):Option bh:=match b,m with
 |true,I es=>(match aK h0 h r (.map es)with
  |some h'=>I ⟨.map (h0+r),E3,En,h'⟩
  |none=>En)
 |_,_=>En
def GX (h0 r:Nat)(h:qh)(b b':Bool)(m:Option (List (AVal×AVal)))(c:Option (AVal×Bool)):Option bh:=match b with
 |true=>LQ h0 r h Gc m
 |false=>(match b',c with
  |true,I (v,o)=>qK h0 h r v o
  |_,_=>En)
@[go_sem] theorem zcr {r b' m c}:GX h0 r h Gc b' m c=LQ h0 r h Gc m:=rfl
@[go_sem] theorem za5 {r m v o}:GX h0 r h E3 Gc m (I (v,o))=qK h0 h r v o:=rfl
def jxe (p:j8)(xc:XC)(h:qh)(k:Nat):Option (List AVal)→Option bh
 |some us=>bif qw 0 us then(match qc p xc k us with
  |some (v,o)=>(match KL v o with
   |some (v',o')=>I ⟨v',o',En,h⟩
   |none=>En)
  |none=>En)else En
 |none=>En
def Ba (p:j8)(xc:XC)(h0:Nat)(h:qh)(md:ei)(f:Option AVal)(l:Option (List AVal)):Option bh:=match f,l with
 |some (.fn (.func k) a c),I vs=>(match md with
  | .bV=>SN h (qw 0 (a++vs++c)) (qc p xc k (a++vs++c))
  | .fI r=>GX h0 r h (a++vs++c).isEmpty (qw 0 (a++vs++c)) (p.maps k) (qc p xc k (a++vs++c))
  | .red=>jxe p xc h k (xN h (a++vs++c))
  | .shr=>SP h.length (ql p xc k (a++vs++c) h))
 |some (.fn (.yield b) [] []),I vs=>(match md with
  | .shr=>SQ (kE xc b vs h)
  |_=>En)
 |_,_=>En
@[go_sem] theorem zlu {md f l}:qf p xc h0 al e h (.call md f l)=Ba p xc h0 h md (qi e f) (fX e l):=by
 simp only[qf,yt,Ba]
 split
 ·rename_i k first captured vs h1 h2
  rw[h1,h2]
  cases md with
  |bV=>
   simp only[]
   cases qw 0 (first++vs++captured)with
   |false=>cases qc p xc k (first++vs++captured)<;>rfl
   |true=>cases qc p xc k (first++vs++captured)<;>rfl
  |fI rk=>
   simp only[]
   cases (first++vs++captured).isEmpty with
   |false=>
    cases qw 0 (first++vs++captured)with
    |false=>cases qc p xc k (first++vs++captured)<;>rfl
    |true=>cases qc p xc k (first++vs++captured)<;>rfl
   |true=>
    cases p.maps k with
    |none=>rfl
    |some es=>simp only[cond_true,GX,LQ];cases aK h0 h rk (.map es)<;>rfl
  |red=>simp only[];cases xN h (first++vs++captured)<;>rfl
  |shr=>simp only[];cases ql p xc k (first++vs++captured) h<;>rfl
 ·rename_i b vs h1 h2
  rw[h1,h2]
  cases md with
  |shr=>simp only[];cases kE xc b vs h<;>rfl
  |_=>rfl
 ·rename_i h1 h2
  split
  ·rename_i k a c vs g1 g2;exact absurd g2 (fun g2=>h1 k a c vs g1 g2)
  ·rename_i b vs g1 g2;exact absurd g2 (fun g2=>h2 b vs g1 g2)
  ·rfl
@[go_sem] theorem za2 {k a c vs}:Ba p xc h0 h .bV (I (.fn (.func k) a c)) (I vs)=SN h (qw 0 (a++vs++c)) (qc p xc k (a++vs++c)):=rfl
@[go_sem] theorem j9a {k r a c vs}:Ba p xc h0 h (.fI r) (I (.fn (.func k) a c)) (I vs)=GX h0 r h (a++vs++c).isEmpty (qw 0 (a++vs++c)) (p.maps k) (qc p xc k (a++vs++c)):=rfl
@[go_sem] theorem j9m {k a c vs}:Ba p xc h0 h .red (I (.fn (.func k) a c)) (I vs)=jxe p xc h k (xN h (a++vs++c)):=rfl
@[go_sem] theorem j92 {k a c vs}:Ba p xc h0 h .shr (I (.fn (.func k) a c)) (I vs)=SP h.length (ql p xc k (a++vs++c) h):=rfl
@[go_sem] theorem jzb {b vs}:Ba p xc h0 h .shr (I (.fn (.yield b) [] [])) (I vs)=SQ (kE xc b vs h):=rfl
def D4 (rs:List mU)(r:Option (jg×bf)):Option (AVal×Bool×qh):=match r with
 |some (.normal,st)=>(match km st rs with
   |some xs=>I ((j9 xs).1,(j9 xs).2,kz st rs)
   |none=>En)
 |some (.ret,st)=>(match km st rs with
   |some xs=>I ((j9 xs).1,(j9 xs).2,kz st rs)
   |none=>En)
 |_=>En
def SR (st:bf)(rs:List mU)(r:Option (List (AVal×Bool))):Option (AVal×Bool×qh):=match r with
 |some xs=>I ((j9 xs).1,(j9 xs).2,kz st rs)
 |none=>En
@[go_sem] theorem jzk {rs st}:D4 rs (I (.normal,st))=SR st rs (km st rs):=rfl
@[go_sem] theorem zh4 {rs st}:D4 rs (I (.ret,st))=SR st rs (km st rs):=rfl
@[go_sem] theorem j84 {st rs xs}:SR st rs (I xs)=I ((j9 xs).1,(j9 xs).2,kz st rs):=rfl
theorem qm {k nt body rs args}(hf:p.bM k=I ⟨nt,body,rs⟩)(hl:args.length≤nt):ql p xc k args h=D4 rs (xc body ⟨oJ 0 args,h⟩):=by
 simp only[ql,hf,py,Ga hl,cond_true,D4]
 rfl
def SS (x:Option (AVal×Bool))(l:Option (List (AVal×Bool))):Option (List (AVal×Bool)):=match x,l with
 |some v,I vs=>I (v::vs)
 |_,_=>En
@[go_sem] theorem j6l {v vs}:SS (I v) (I vs)=I (v::vs):=rfl
@[go_sem] theorem jrl {st}:km st []=I []:=rfl
@[go_sem] theorem jpy {st r rs}:km st (r::rs)=SS (uZ st r) (km st rs):=by
 simp only[km,SS]
 cases uZ st r with
 |none=>rfl
 |some v=>cases km st rs<;>rfl
@[go_sem] theorem jr0 {t}:uZ ⟨e,h⟩ (.tmp t)=jj t e:=rfl
@[go_sem] theorem zdn {x}:j9 [x]=x:=rfl
@[go_sem] theorem ze5 {x y}:j9 [x,y]=(.aC [x.1,y.1],E3):=rfl
@[go_sem] theorem j4p {x y z}:j9 [x,y,z]=(.aC [x.1,y.1,z.1],E3):=rfl
@[go_sem] theorem zbe:j9 []=(.aC [],E3):=rfl
@[go_sem] theorem j9s {st t}:kz st [.tmp t]=st.heap:=rfl
@[go_sem] theorem zat {st x y l}:kz st (x::y::l)=st.heap:=by
 cases x with
 |tmp t=>rfl
 |cell t a n=>cases a<;>rfl
@[go_sem] theorem j78 {st}:kz st []=st.heap:=rfl
@[go_sem] theorem j9k {st t n}:kz st [.cell t Gc n]=st.heap:=rfl
@[go_sem] theorem zks {o}:yL Gc (I (.bool Gc,o))=I Gc:=rfl
@[go_sem] theorem zkp {o}:yL Gc (I (.bool E3,o))=I E3:=rfl
@[go_sem] theorem zds {o}:yL E3 (I (.bool Gc,o))=I E3:=rfl
@[go_sem] theorem zg2 {o}:yL E3 (I (.bool E3,o))=I Gc:=rfl
attribute [go_sem] cond_true cond_false decide_true decide_false Bool.not_true Bool.not_false List.append_nil List.nil_append List.length_cons List.length_nil
@[go_sem] theorem zmn:List.replicate 0 bg.hole=[]:=rfl
end
section
variable {p:j8}{xc:XC}{h0:Nat}{al:Option (List Nat)}{e:Env}{h:qh}{α:Type}
def sl (z:Nat)(f:α→AVal):Option (List α)→AVal
 |none=>.list Gc 0 []
 |some l=>.list E3 z (l.map f)
@[go_sem] theorem zl7 {z:Nat}{f:α→AVal}{l}:yM 1 h (I (sl z f l))=I ⟨.int .i64 (l.getD []).length,E3,En,h⟩:=by
 cases l<;>simp[sl,yM,val]
theorem jvn {z:Nat}{f:α→AVal}{l:Option (List α)}{k:IntKind}{i:Nat}{x:α}(hx:(l.getD [])[i]?=I x):jY z h (I (sl z f l)) (I (.int k (i:Int)))=I ⟨.ah (f x),E3,En,h⟩:=by
 cases l with
 |none=>simp at hx
 |some l=>exact ji4 (by rw[List.getElem?_map,show l[i]?=I x from hx];rfl)
theorem vC {n z:Nat}{f:α→AVal}{l}(hf:∀x,below n (f x)=Gc):below n (sl z f l)=Gc:=by
 have key:∀l:List α,qw n (l.map f)=Gc:=by
  intro l
  induction l with
  |nil=>rfl
  |cons x l ih=>simp[qw,hf,ih]
 cases l with
 |none=>rfl
 |some l=>simp only[sl,below];exact key l
theorem zlq {z:Nat}{f:α→AVal}(hf:∀x y,f x=f y→x=y){a b}(qL:sl z f a=sl z f b):a=b:=by
 have key:∀a b:List α,a.map f=b.map f→a=b:=by
  intro a
  induction a with
  |nil=>intro b hb;cases b<;>simp at hb<;>rfl
  |cons x a ih=>
   intro b hb
   cases b with
   |nil=>simp at hb
   |cons y b=>simp at hb;rw[hf _ _ hb.1,ih _ hb.2]
 cases a<;>cases b<;>simp[sl]at qL<;>first|rfl|rw[key _ _ qL]
def zw (n:Int):AVal:=.int .i64 n
@[go_sem] theorem j4o {i}:gi h0 al E3 1 h (I (.ah (zw i)))=I ⟨.int .i64 i,E3,En,h⟩:=rfl
end
end Go.Abs
