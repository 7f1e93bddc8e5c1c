/- Equations of the executor for runs on values that are not known. -/
import Derived.Test.YtimdocpnkimlfaaGreatDoorAbsG
set_option linter.unusedVariables false
set_option linter.unusedSimpArgs false
open Option renaming some→I,none→En
open Bool renaming false→Ga,true→Gd
open Nat renaming ble_eq_true_of_le→Gb,eq_of_beq_eq_true→Ge,beq→Gh,blt_eq→Gi
namespace Go.Abs
section
variable {p:jz}{xc:XC}{h0:Nat}{al:Option (List Nat)}{e:Env}{h:qi}
def GY (r:Option (jf×aY))(f:aY→Option (jf×aY)):Option (jf×aY):=match r with
 |some (.normal,st)=>f st
 |r=>r
@[go_sem] theorem jsg {st f}:GY (I (.normal,st)) f=f st:=rfl
@[go_sem] theorem zaj {st f}:GY (I (.ret,st)) f=I (.ret,st):=rfl
@[go_sem] theorem j4g {id st f}:GY (I (.exit id,st)) f=I (.exit id,st):=rfl
@[go_sem] theorem zma {a b st}:X p (.seq a b) st=GY (X p a st) (X p b):=by
 rw[j8j];unfold GY
 cases X p a st with
 |none=>rfl
 |some r=>obtain⟨x,s⟩:=r;cases x<;>rfl
def Lk (c:Option AVal)(f g:aY→Option (jf×aY))(st:aY):Option (jf×aY):=match c with
 |some (.bool Gd)=>f st
 |some (.bool Ga)=>g st
 |_=>En
@[go_sem] theorem j33 {f g st}:Lk (I (.bool Gd)) f g st=f st:=rfl
@[go_sem] theorem jyp {f g st}:Lk (I (.bool Ga)) f g st=g st:=rfl
@[go_sem] theorem zlc {c a b st}:X p (.cond c a b) st=Lk (qh st.env c) (X p a) (X p b) st:=by
 rw[jwb];unfold Lk
 cases qh st.env c with
 |none=>rfl
 |some v=>cases v with
  |bool t=>cases t<;>rfl
  |_=>rfl
def GZ (id:Nat)(r:Option (jf×aY)):Option (jf×aY):=match r with
 |some (.exit fS,bX)=>if fS=id then I (.normal,bX)else I (.exit fS,bX)
 |r=>r
@[go_sem] theorem jy9 {id fS st}:GZ id (I (.exit fS,st))=if fS=id then I (.normal,st)else I (.exit fS,st):=rfl
@[go_sem] theorem jq0 {id st}:GZ id (I (.normal,st))=I (.normal,st):=rfl
@[go_sem] theorem j4p {id st}:GZ id (I (.ret,st))=I (.ret,st):=rfl
@[go_sem] theorem zcg {id b st}:X p (.block id b) st=GZ id (X p b st):=by
 rw[jp8];unfold GZ
 cases X p b st with
 |none=>rfl
 |some r=>
  obtain⟨x,s⟩:=r
  cases x with
  |exit fS=>
   simp only[]
   by_cases hb:fS=id
   ·subst hb;simp
   ·rw[if_neg hb]
    cases hq:Gh fS id with
    |true=>exact absurd (Ge hq) hb
    |false=>rfl
  |_=>rfl
noncomputable def DZ (p:jz)(b:aw)(n:Nat)(r:Option (jf×aY)):Option (jf×aY):=match r with
 |some (.normal,bX)=>X p (.loop b) (gc n bX)
 |r=>r
theorem jnt {b st}:X p (.loop b) st=DZ p b st.heap.length (X p b st):=by
 rw[jtm];unfold DZ
 cases X p b st with
 |none=>rfl
 |some r=>obtain⟨x,s⟩:=r;cases x<;>rfl
@[go_sem] theorem q5r {b n st}:DZ p b n (I (.normal,st))=X p (.loop b) (gc n st):=rfl
@[go_sem] theorem j90 {b n st}:DZ p b n (I (.ret,st))=I (.ret,st):=rfl
@[go_sem] theorem j21 {b n id st}:DZ p b n (I (.exit id,st))=I (.exit id,st):=rfl
attribute [go_sem] jx2 jud j7a jlx Sy jxi
@[go_sem] theorem zlu {env}:gc 0 ⟨env,[]⟩=⟨env,[]⟩:=rfl
theorem Bb {n st}(hn:st.heap.length≤n):gc n st=st:=by
 unfold gc;rw[Gb hn];rfl
theorem zmy {e e' h}:gc (aY.mk e h).heap.length ⟨e',h⟩=⟨e',h⟩:=Bb (Nat.le_refl _)
def SC (k:Option (List Nat))(r:Option aY):Option (jf×aY):=match r with
 |some bX=>I (.normal,Ah bX k)
 |none=>En
@[go_sem] theorem zbn {k st}:SC k (I st)=I (.normal,Ah st k):=rfl
@[go_sem] theorem zez {na l k st}:mR p xc na l k st=SC k (fZ p xc st.heap.length l ⟨st.env,st.heap++List.replicate na .hole⟩):=by
 unfold mR SC;rfl
def jw1 (r:Option aY)(f:aY→Option aY):Option aY:=match r with
 |some st=>f st
 |none=>En
@[go_sem] theorem j98 {st f}:jw1 (I st) f=f st:=rfl
@[go_sem] theorem zfv {st}:fZ p xc h0 [] st=I st:=rfl
@[go_sem] theorem j9e {o l st}:fZ p xc h0 (o::l) st=jw1 (y5 p xc h0 o st) (fZ p xc h0 l):=rfl
def Ll (d:Option Nat)(e:Env)(r:Option bj):Option aY:=match r with
 |some r=>I ⟨nR (yb e r.strip) d r.v r.own,r.heap⟩
 |none=>En
@[go_sem] theorem j92 {d v o s}:Ll d e (I ⟨v,o,s,h⟩)=I ⟨nR (yb e s) d v o,h⟩:=rfl
@[go_sem] theorem jq1 {d op env}:y5 p xc h0 ⟨d,op,En,al⟩ ⟨env,h⟩=Ll d env (qf p xc h0 al env h op):=rfl
def Lm (g:Option Bool)(d:Option Nat)(env:Env)(h:qi)(f:cV→Option bj)(op:cV):Option aY:=match g with
 |some Gd=>Ll d env (f op)
 |some Ga=>I ⟨nR env d .undef Ga,h⟩
 |none=>En
@[go_sem] theorem jyd {d env f op}:Lm (I Gd) d env h f op=Ll d env (f op):=rfl
@[go_sem] theorem jtz {d env f op}:Lm (I Ga) d env h f op=I ⟨nR env d .undef Ga,h⟩:=rfl
@[go_sem] theorem jqp {d op g env}:y5 p xc h0 ⟨d,op,I g,al⟩ ⟨env,h⟩=Lm (mQ env (I g)) d env h (qf p xc h0 al env h) op:=by
 unfold y5 Lm
 simp only[]
 split
 ·rename_i hg;rw[hg];rfl
 ·rename_i hg;rw[hg]
 ·rename_i hg;rw[hg]
def yO (b:Bool)(v:Option (AVal×Bool)):Option Bool:=match v with
 |some (.bool c,_)=>I (c == b)
 |some (.undef,_)=>I Ga
 |_=>En
@[go_sem] theorem jr6 {s b}:mQ e (I (s,b))=yO b (ji s e):=by
 unfold mQ yO;rfl
theorem jyt {b c o}:yO b (I (.bool c,o))=I (c == b):=rfl
@[go_sem] theorem jts {b o}:yO b (I (.undef,o))=I Ga:=rfl
@[go_sem] theorem j9p {s t x}:ji t ((s,x)::e)=if s=t then I x else ji t e:=by
 by_cases cq:s=t
 ·subst cq;rw[if_pos rfl];simp[ji]
 ·rw[if_neg cq]
  have:Gh s t=Ga:=by
   cases hb:Gh s t with
   |false=>rfl
   |true=>exact absurd (Ge hb) cq
  simp[ji,this]
@[go_sem] theorem zhh {t}:ji t []=En:=rfl
def js7 (x:Option (AVal×Bool)):Option AVal:=match x with
 |some x=>I x.1
 |none=>En
@[go_sem] theorem zbe {v o}:js7 (I (v,o))=I v:=rfl
@[go_sem] theorem zaa {t}:qh e (.tmp t)=js7 (ji t e):=rfl
@[go_sem] theorem jyx {v}:qh e (.const v)=I v:=rfl
def pM (x:Option AVal)(l:Option (List AVal)):Option (List AVal):=match x,l with
 |some v,I vs=>I (v::vs)
 |_,_=>En
@[go_sem] theorem j4d {v vs}:pM (I v) (I vs)=I (v::vs):=rfl
@[go_sem] theorem j9c:ky e []=I []:=rfl
@[go_sem] theorem j1s {x l}:ky e (x::l)=pM (qh e x) (ky e l):=by
 simp only[ky,pM]
 cases qh e x with
 |none=>rfl
 |some v=>cases ky e l<;>rfl
@[go_sem] theorem jzf {l}:Ah ⟨e,h⟩ (I l)=⟨qD e l,h⟩:=rfl
@[go_sem] theorem jyo:Ah ⟨e,h⟩ En=⟨e,h⟩:=rfl
def Ln (t:Nat)(x:Option (AVal×Bool))(e:Env):Env:=match x with
 |some x=>(t,x)::e
 |none=>e
@[go_sem] theorem j2a {t x}:Ln t (I x) e=(t,x)::e:=rfl
@[go_sem] theorem j1t {t}:Ln t En e=e:=rfl
@[go_sem] theorem jy2:qD e []=[]:=rfl
@[go_sem] theorem jvv {t l}:qD e (t::l)=Ln t (ji t e) (qD e l):=by
 simp only[qD,Ln]
 cases ji t e<;>rfl
@[go_sem] theorem jy6 {d v o}:nR e (I d) v o=(d,v,o)::e:=rfl
@[go_sem] theorem jyl {v o}:nR e En v o=e:=rfl
@[go_sem] theorem jq2:yb e En=e:=rfl
def SD (s:Nat)(x:Option (AVal×Bool))(e:Env):Env:=match x with
 |some (v,_)=>(s,v,Ga)::e
 |none=>e
@[go_sem] theorem jzc {s v o}:SD s (I (v,o)) e=(s,v,Ga)::e:=rfl
@[go_sem] theorem jqo {s}:yb e (I s)=SD s (ji s e) e:=by
 simp only[yb,SD]
 cases ji s e<;>rfl
@[go_sem] theorem j2u {i}:oF i []=[]:=rfl
@[go_sem] theorem jzg {i v vs}:oF i (v::vs)=(i,v,Ga)::oF (i+1) vs:=rfl
@[go_sem] theorem zaf {v}:gG h (I v)=I ⟨v,Ga,En,h⟩:=rfl
@[go_sem] theorem zl3 {v}:val h v=I ⟨v,Ga,En,h⟩:=rfl
@[go_sem] theorem zmb {x}:qf p xc h0 al e h (.move x)=gG h (qh e x):=rfl
def SE (s:Nat)(h:qi)(x:Option (AVal×Bool)):Option bj:=match x with
 |some (v,o)=>I ⟨v,o,I s,h⟩
 |none=>En
@[go_sem] theorem j7v {s v o}:SE s h (I (v,o))=I ⟨v,o,I s,h⟩:=rfl
@[go_sem] theorem zlz {s}:qf p xc h0 al e h (.take s)=SE s h (ji s e):=by
 simp only[qf,qp,SE]
 cases ji s e<;>rfl
def SF (op:BinOp)(h:qi)(a b:Option AVal):Option bj:=match a,b with
 |some a,I b=>gG h (yu op a b)
 |_,_=>En
@[go_sem] theorem za0 {op a b}:SF op h (I a) (I b)=gG h (yu op a b):=rfl
@[go_sem] theorem zmp {op x y}:qf p xc h0 al e h (.bin op x y)=SF op h (qh e x) (qh e y):=by
 simp only[qf,qp,SF]
 cases qh e x<;>cases qh e y<;>rfl
def SG (h:qi)(c a b:Option AVal):Option bj:=match c,a,b with
 |some (.bool t),I x,I y=>val h (bif t then x else y)
 |_,_,_=>En
@[go_sem] theorem j7f {t a b}:SG h (I (.bool t)) (I a) (I b)=I ⟨bif t then a else b,Ga,En,h⟩:=rfl
@[go_sem] theorem zl5 {c a b}:qf p xc h0 al e h (.pick c a b)=SG h (qh e c) (qh e a) (qh e b):=by
 simp only[qf,qp,SG]
 cases qh e c with
 |none=>rfl
 |some v=>cases v<;>cases qh e a<;>cases qh e b<;>rfl
def yP (k:Nat)(h:qi)(x:Option AVal):Option bj:=match k,x with
 |1,I (.list _ _ xs)=>val h (.int .i64 xs.length)
 |1,I (.ms _ _ n)=>val h (.int .i64 n)
 |1,I (.aj _ _ n)=>val h (.int .i64 n)
 |2,I (.list Gd _ _)=>val h (.int .i64 0)
 |0,I (.str s)=>val h (.int .i64 s.length)
 |_,_=>En
@[go_sem] theorem j9o {b z xs}:yP 1 h (I (.list b z xs))=I ⟨.int .i64 xs.length,Ga,En,h⟩:=rfl
@[go_sem] theorem zlj {b o n}:yP 1 h (I (.ms b o n))=I ⟨.int .i64 n,Ga,En,h⟩:=rfl
@[go_sem] theorem za2 {b v n}:yP 1 h (I (.aj b v n))=I ⟨.int .i64 n,Ga,En,h⟩:=rfl
@[go_sem] theorem ziq {s}:yP 0 h (I (.str s))=I ⟨.int .i64 s.length,Ga,En,h⟩:=rfl
@[go_sem] theorem zf4 {z xs}:yP 2 h (I (.list Gd z xs))=I ⟨.int .i64 0,Ga,En,h⟩:=rfl
@[go_sem] theorem zmw {k x}:qf p xc h0 al e h (.len k x)=yP k h (qh e x):=rfl
def vq (n:Nat)(i:Int):Option Nat:=if 0≤i∧i<n then I i.toNat else En
theorem yQ {n k i}:idx n (.int k i)=vq n i:=by
 unfold idx vq
 cases i with
 |ofNat m=>
  by_cases hm:m<n
  ·rw[if_pos ⟨by simp,by simp;omega⟩];simp[Gi.mpr hm]
  ·rw[if_neg (by simp;omega)]
   cases hb:Nat.blt m n with
   |true=>exact absurd (Gi.mp hb) hm
   |false=>simp[hb]
 |negSucc m=>simp
attribute [go_sem] yQ
theorem jnu {n:Nat}{i:Int}(h1:0≤i)(h2:i<n):vq n i=I i.toNat:=by unfold vq;rw[if_pos ⟨h1,h2⟩]
theorem SH {n i}(h:i<n):vq n (i:Int)=I i:=by unfold vq;rw[if_pos ⟨by simp,by omega⟩];simp
def iU (sz:Nat)(h:qi)(x i:Option AVal):Option bj:=match x,i with
 |some (.list _ dl xs),I j=>bif Gh sz dl||xs.isEmpty then(match idx xs.length j with
   |some j=>(match xs[j]? with
    |some v=>val h (.ai v)
    |none=>En)
   |none=>En)else En
 |some (.ms b o len),I j=>(match idx len j with
   |some j=>val h (.ptr b (o+j*sz))
   |none=>En)
 |some (.aj b bL len),I j=>(match idx len j with
   |some j=>val h (.dE b bL (j*sz))
   |none=>En)
 |_,_=>En
@[go_sem] theorem jyu {sz x i}:qf p xc h0 al e h (.indexAddr sz x i)=iU sz h (qh e x) (qh e i):=by
 simp only[qf,qp,iU]
 cases qh e x with
 |none=>rfl
 |some v=>cases v<;>cases qh e i<;>rfl
theorem jff {sz:Nat}{b:Bool}{k xs i v}(h1:0≤i)(hv:xs[i.toNat]?=I v):iU sz h (I (.list b sz xs)) (I (.int k i))=I ⟨.ai v,Ga,En,h⟩:=by
 have hl:=(List.getElem?_eq_some_iff.1 hv).1
 have hi:idx xs.length (.int k i)=I i.toNat:=by rw[yQ];exact jnu h1 (by omega)
 simp only[iU,hi,Nat.beq_refl,Bool.true_or,cond_true,hv]
 rfl
theorem jha {sz:Nat}{b:Bool}{k:IntKind}{xs:List AVal}{i:Nat}{v:AVal}(hv:xs[i]?=I v):iU sz h (I (.list b sz xs)) (I (.int k (i:Int)))=I ⟨.ai v,Ga,En,h⟩:=
 jff (by simp) (by simpa using hv)
def ki (h0:Nat)(al:Option (List Nat))(agg:Bool)(n:Nat)(h:qi)(x:Option AVal):Option bj:=match x with
 |some (.ptr b o)=>bif za h0 al b then(match ju h b with
   |some cs=>(match zi cs o n with
    |some vs=>bif agg then val h (.agg vs)else(match vs with
     | [v]=>val h v
     |_=>En)
    |none=>En)
   |none=>En)else En
 |some (.ai v)=>bif Bool.xor agg v.isAgg||!(Gh v.flat.length n)then En else val h v
 |some (.dE b bL o)=>bif uQ h0 al b then(match zg h b with
   |some (.vec _ dN xs)=>bif Gh bL dN&&Nat.ble (o+n) (xs.flatMap AVal.flat).length then(bif agg then val h (.agg (((xs.flatMap AVal.flat).drop o).take n))else(match((xs.flatMap AVal.flat).drop o).take n with
     | [v]=>val h v
     |_=>En))else En
   |_=>En)else En
 |_=>En
@[go_sem] theorem zlt {agg n x}:qf p xc h0 al e h (.load agg n x)=ki h0 al agg n h (qh e x):=by
 simp only[qf,yi,ki]
 cases qh e x with
 |none=>rfl
 |some v=>cases v<;>rfl
def jmk:Option AVal→Option AVal
 |some (.ai v)=>I (.ai v)
 |_=>En
@[go_sem] theorem zkw {v}:jmk (I (.ai v))=I (.ai v):=rfl
@[go_sem] theorem zk3 {agg n x}:qf p xc h0 al e h (.fB agg n x)=ki h0 al agg n h (jmk (qh e x)):=by
 simp only[qf,qp,ki]
 cases qh e x with
 |none=>rfl
 |some v=>cases v<;>rfl
@[go_sem] theorem zap {k i}:ki h0 al Ga 1 h (I (.ai (.int k i)))=I ⟨.int k i,Ga,En,h⟩:=rfl
@[go_sem] theorem zau {s}:ki h0 al Ga 1 h (I (.ai (.str s)))=I ⟨.str s,Ga,En,h⟩:=rfl
@[go_sem] theorem jzy {b}:ki h0 al Ga 1 h (I (.ai (.bool b)))=I ⟨.bool b,Ga,En,h⟩:=rfl
@[go_sem] theorem j25 {b z xs}:ki h0 al Ga 1 h (I (.ai (.list b z xs)))=I ⟨.list b z xs,Ga,En,h⟩:=rfl
theorem je1 {n cs}(hn:cs.length=n):ki h0 al Gd n h (I (.ai (.agg cs)))=I ⟨.agg cs,Ga,En,h⟩:=by
 subst hn;simp[ki,AVal.isAgg,AVal.flat,val]
@[go_sem] theorem zmq {k x y}:yu .add (.int k x) (.int k y)=I (.int k (qe k (x+y))):=by simp[yu,oD]
@[go_sem] theorem zmh {k x y}:yu .sub (.int k x) (.int k y)=I (.int k (qe k (x-y))):=by simp[yu,oD]
@[go_sem] theorem zmg {k x y}:yu .mul (.int k x) (.int k y)=I (.int k (qe k (x*y))):=by simp[yu,oD]
@[go_sem] theorem zmi {k x y}:yu .lss (.int k x) (.int k y)=I (.bool (decide (x<y))):=by simp[yu,oD]
@[go_sem] theorem zmf {k x y}:yu .leq (.int k x) (.int k y)=I (.bool (decide (x≤y))):=by simp[yu,oD]
@[go_sem] theorem zmx {k x y}:yu .gtr (.int k x) (.int k y)=I (.bool (decide (y<x))):=by simp[yu,oD]
@[go_sem] theorem zmv {k x y}:yu .geq (.int k x) (.int k y)=I (.bool (decide (y≤x))):=by simp[yu,oD]
@[go_sem] theorem zmt {k x y}:yu .eql (.int k x) (.int k y)=I (.bool (decide (x=y))):=by
 simp only[yu,oD,decide_true,cond_true];congr 2
@[go_sem] theorem zmm {k x y}:yu .neq (.int k x) (.int k y)=I (.bool (!decide (x=y))):=by
 simp only[yu,oD,decide_true,cond_true];congr 2
theorem Lp {x}(h1:-9223372036854775808≤x)(h2:x≤9223372036854775807):qe .i64 x=x:=by
 have:qE .i64 x=Gd:=by
  cases x with
  |ofNat m=>simp only[qE];exact Gb (by simp at h2;omega)
  |negSucc m=>simp only[qE];exact Gb (by omega)
 simp[qe,this]
def SI (h:qi)(b:Bool)(r:Option (AVal×Bool)):Option bj:=match b,r with
 |true,I (v,o)=>I ⟨v,o,En,h⟩
 |_,_=>En
@[go_sem] theorem j9b {v o}:SI h Gd (I (v,o))=I ⟨v,o,En,h⟩:=rfl
def SJ (n:Nat)(r:Option (AVal×Bool×qi)):Option bj:=match r with
 |some (v,o,h')=>I ⟨v,o,En,jn n v h'⟩
 |none=>En
@[go_sem] theorem j9y {n v o}:SJ n (I (v,o,h))=I ⟨v,o,En,jn n v h⟩:=rfl
def SK (r:Option (AVal×qi)):Option bj:=match r with
 |some (v,h')=>I ⟨v,Ga,En,h'⟩
 |none=>En
@[go_sem] theorem jzd {v}:SK (I (v,h))=I ⟨v,Ga,En,h⟩:=rfl
def Lq (h0 r:Nat)(h:qi)(b:Bool)(m:Option (List (AVal×AVal))):Option bj:=match b,m with
 |true,I es=>(match aS h0 h r (.map es)with
  |some h'=>I ⟨.map (h0+r),Ga,En,h'⟩
  |none=>En)
 |_,_=>En
def G0 (h0 r:Nat)(h:qi)(b b':Bool)(m:Option (List (AVal×AVal)))(c:Option (AVal×Bool)):Option bj:=match b with
 |true=>Lq h0 r h Gd m
 |false=>(match b',c with
  |true,I (v,o)=>qH h0 h r v o
  |_,_=>En)
@[go_sem] theorem zje {r b' m c}:G0 h0 r h Gd b' m c=Lq h0 r h Gd m:=rfl
@[go_sem] theorem zao {r m v o}:G0 h0 r h Ga Gd m (I (v,o))=qH h0 h r v o:=rfl
def jxs (p:jz)(xc:XC)(h:qi)(k:Nat):Option (List AVal)→Option bj
 |some us=>bif qy 0 us then(match qc p xc k us with
  |some (v,o)=>(match Km v o with
   |some (v',o')=>I ⟨v',o',En,h⟩
   |none=>En)
  |none=>En)else En
 |none=>En
def Bc (p:jz)(xc:XC)(h0:Nat)(h:qi)(md:eE)(f:Option AVal)(l:Option (List AVal)):Option bj:=match f,l with
 |some (.fn (.func k) a c),I vs=>(match md with
  | .bY=>SI h (qy 0 (a++vs++c)) (qc p xc k (a++vs++c))
  | .fL r=>G0 h0 r h (a++vs++c).isEmpty (qy 0 (a++vs++c)) (p.maps k) (qc p xc k (a++vs++c))
  | .red=>jxs p xc h k (xS h (a++vs++c))
  | .shr=>SJ h.length (qo p xc k (a++vs++c) h))
 |some (.fn (.yield b) [] []),I vs=>(match md with
  | .shr=>SK (kD xc b vs h)
  |_=>En)
 |_,_=>En
@[go_sem] theorem zls {md f l}:qf p xc h0 al e h (.call md f l)=Bc p xc h0 h md (qh e f) (ky e l):=by
 simp only[qf,yx,Bc]
 split
 ·rename_i k first captured vs h1 h2
  rw[h1,h2]
  cases md with
  |bY=>
   simp only[]
   cases qy 0 (first++vs++captured)with
   |false=>cases qc p xc k (first++vs++captured)<;>rfl
   |true=>cases qc p xc k (first++vs++captured)<;>rfl
  |fL rk=>
   simp only[]
   cases (first++vs++captured).isEmpty with
   |false=>
    cases qy 0 (first++vs++captured)with
    |false=>cases qc p xc k (first++vs++captured)<;>rfl
    |true=>cases qc p xc k (first++vs++captured)<;>rfl
   |true=>
    cases p.maps k with
    |none=>rfl
    |some es=>simp only[cond_true,G0,Lq];cases aS h0 h rk (.map es)<;>rfl
  |red=>simp only[];cases xS h (first++vs++captured)<;>rfl
  |shr=>simp only[];cases qo p xc k (first++vs++captured) h<;>rfl
 ·rename_i b vs h1 h2
  rw[h1,h2]
  cases md with
  |shr=>simp only[];cases kD xc b vs h<;>rfl
  |_=>rfl
 ·rename_i h1 h2
  split
  ·rename_i k a c vs g1 g2;exact absurd g2 (fun g2=>h1 k a c vs g1 g2)
  ·rename_i b vs g1 g2;exact absurd g2 (fun g2=>h2 b vs g1 g2)
  ·rfl
@[go_sem] theorem zai {k a c vs}:Bc p xc h0 h .bY (I (.fn (.func k) a c)) (I vs)=SI h (qy 0 (a++vs++c)) (qc p xc k (a++vs++c)):=rfl
@[go_sem] theorem j9d {k r a c vs}:Bc p xc h0 h (.fL r) (I (.fn (.func k) a c)) (I vs)=G0 h0 r h (a++vs++c).isEmpty (qy 0 (a++vs++c)) (p.maps k) (qc p xc k (a++vs++c)):=rfl
@[go_sem] theorem zal {k a c vs}:Bc p xc h0 h .red (I (.fn (.func k) a c)) (I vs)=jxs p xc h k (xS h (a++vs++c)):=rfl
@[go_sem] theorem za1 {k a c vs}:Bc p xc h0 h .shr (I (.fn (.func k) a c)) (I vs)=SJ h.length (qo p xc k (a++vs++c) h):=rfl
@[go_sem] theorem jyk {b vs}:Bc p xc h0 h .shr (I (.fn (.yield b) [] [])) (I vs)=SK (kD xc b vs h):=rfl
def D0 (rs:List mO)(r:Option (jf×aY)):Option (AVal×Bool×qi):=match r with
 |some (.normal,st)=>(match km st rs with
   |some xs=>I ((j6 xs).1,(j6 xs).2,kx st rs)
   |none=>En)
 |some (.ret,st)=>(match km st rs with
   |some xs=>I ((j6 xs).1,(j6 xs).2,kx st rs)
   |none=>En)
 |_=>En
def SL (st:aY)(rs:List mO)(r:Option (List (AVal×Bool))):Option (AVal×Bool×qi):=match r with
 |some xs=>I ((j6 xs).1,(j6 xs).2,kx st rs)
 |none=>En
@[go_sem] theorem jy1 {rs st}:D0 rs (I (.normal,st))=SL st rs (km st rs):=rfl
@[go_sem] theorem zev {rs st}:D0 rs (I (.ret,st))=SL st rs (km st rs):=rfl
@[go_sem] theorem j95 {st rs xs}:SL st rs (I xs)=I ((j6 xs).1,(j6 xs).2,kx st rs):=rfl
theorem ql {k nt body rs args}(hf:p.bO k=I ⟨nt,body,rs⟩)(hl:args.length≤nt):qo p xc k args h=D0 rs (xc body ⟨oF 0 args,h⟩):=by
 simp only[qo,hf,py,Gb hl,cond_true,D0]
 rfl
def SN (x:Option (AVal×Bool))(l:Option (List (AVal×Bool))):Option (List (AVal×Bool)):=match x,l with
 |some v,I vs=>I (v::vs)
 |_,_=>En
@[go_sem] theorem j5o {v vs}:SN (I v) (I vs)=I (v::vs):=rfl
@[go_sem] theorem jqn {st}:km st []=I []:=rfl
@[go_sem] theorem jnr {st r rs}:km st (r::rs)=SN (uS st r) (km st rs):=by
 simp only[km,SN]
 cases uS st r with
 |none=>rfl
 |some v=>cases km st rs<;>rfl
@[go_sem] theorem jse {t}:uS ⟨e,h⟩ (.tmp t)=ji t e:=rfl
@[go_sem] theorem zjs {x}:j6 [x]=x:=rfl
@[go_sem] theorem zh8 {x y}:j6 [x,y]=(.aJ [x.1,y.1],Ga):=rfl
@[go_sem] theorem j5t {x y z}:j6 [x,y,z]=(.aJ [x.1,y.1,z.1],Ga):=rfl
@[go_sem] theorem zax:j6 []=(.aJ [],Ga):=rfl
@[go_sem] theorem zay {st t}:kx st [.tmp t]=st.heap:=rfl
@[go_sem] theorem za8 {st x y l}:kx st (x::y::l)=st.heap:=by
 cases x with
 |tmp t=>rfl
 |cell t a n=>cases a<;>rfl
@[go_sem] theorem j8v {st}:kx st []=st.heap:=rfl
@[go_sem] theorem j9z {st t n}:kx st [.cell t Gd n]=st.heap:=rfl
@[go_sem] theorem zdi {o}:yO Gd (I (.bool Gd,o))=I Gd:=rfl
@[go_sem] theorem zhs {o}:yO Gd (I (.bool Ga,o))=I Ga:=rfl
@[go_sem] theorem zjl {o}:yO Ga (I (.bool Gd,o))=I Ga:=rfl
@[go_sem] theorem zgo {o}:yO Ga (I (.bool Ga,o))=I Gd:=rfl
attribute [go_sem] cond_true cond_false decide_true decide_false Bool.not_true Bool.not_false List.append_nil List.nil_append List.length_cons List.length_nil
@[go_sem] theorem zmu:List.replicate 0 bh.hole=[]:=rfl
end
section
variable {p:jz}{xc:XC}{h0:Nat}{al:Option (List Nat)}{e:Env}{h:qi}{α:Type}
def sl (z:Nat)(f:α→AVal):Option (List α)→AVal
 |none=>.list Gd 0 []
 |some l=>.list Ga z (l.map f)
@[go_sem] theorem zl0 {z:Nat}{f:α→AVal}{l}:yP 1 h (I (sl z f l))=I ⟨.int .i64 (l.getD []).length,Ga,En,h⟩:=by
 cases l<;>simp[sl,yP,val]
theorem jsi {z:Nat}{f:α→AVal}{l:Option (List α)}{k:IntKind}{i:Nat}{x:α}(hx:(l.getD [])[i]?=I x):iU z h (I (sl z f l)) (I (.int k (i:Int)))=I ⟨.ai (f x),Ga,En,h⟩:=by
 cases l with
 |none=>simp at hx
 |some l=>exact jha (by rw[List.getElem?_map,show l[i]?=I x from hx];rfl)
theorem vr {n z:Nat}{f:α→AVal}{l}(hf:∀x,below n (f x)=Gd):below n (sl z f l)=Gd:=by
 have key:∀l:List α,qy n (l.map f)=Gd:=by
  intro l
  induction l with
  |nil=>rfl
  |cons x l ih=>simp[qy,hf,ih]
 cases l with
 |none=>rfl
 |some l=>simp only[sl,below];exact key l
theorem zl8 {z:Nat}{f:α→AVal}(hf:∀x y,f x=f y→x=y){a b}(nW:sl z f a=sl z f b):a=b:=by
 have key:∀a b:List α,a.map f=b.map f→a=b:=by
  intro a
  induction a with
  |nil=>intro b hb;cases b<;>simp at hb<;>rfl
  |cons x a ih=>
   intro b hb
   cases b with
   |nil=>simp at hb
   |cons y b=>simp at hb;rw[hf _ _ hb.1,ih _ hb.2]
 cases a<;>cases b<;>simp[sl]at nW<;>first|rfl|rw[key _ _ nW]
def z7 (n:Int):AVal:=.int .i64 n
@[go_sem] theorem j4u {i}:ki h0 al Ga 1 h (I (.ai (z7 i)))=I ⟨.int .i64 i,Ga,En,h⟩:=rfl
end
end Go.Abs
