/- Equations of the executor for runs on values that are not known. -/
import Derived.Test.YtimdocpnkimlfaaGreatDoorAbsG
set_option linter.unusedVariables false
set_option linter.unusedSimpArgs false
open Option renaming some→I,none→En
open Bool renaming false→Ey,true→Gp
open Nat renaming ble_eq_true_of_le→Gn,eq_of_beq_eq_true→Gq,beq→Gs,blt_eq→Gt
namespace Go.Abs
section
variable {p:zb}{xc:XC}{h0:Nat}{al:Option (List Nat)}{e:Env}{h:qh}
def HZ (r:Option (jf×bf))(f:bf→Option (jf×bf)):Option (jf×bf):=match r with
 |some (.normal,st)=>f st
 |r=>r
@[go_sem] theorem jxg {st f}:HZ (I (.normal,st)) f=f st:=rfl
@[go_sem] theorem zce {st f}:HZ (I (.ret,st)) f=I (.ret,st):=rfl
@[go_sem] theorem j4g {id st f}:HZ (I (.exit id,st)) f=I (.exit id,st):=rfl
@[go_sem] theorem zm7 {a b st}:X p (.seq a b) st=HZ (X p a st) (X p b):=by
 rw[j5d];unfold HZ
 cases X p a st with
 |none=>rfl
 |some r=>obtain⟨x,s⟩:=r;cases x<;>rfl
def MO (c:Option AVal)(f g:bf→Option (jf×bf))(st:bf):Option (jf×bf):=match c with
 |some (.bool Gp)=>f st
 |some (.bool Ey)=>g st
 |_=>En
@[go_sem] theorem j9t {f g st}:MO (I (.bool Gp)) f g st=f st:=rfl
@[go_sem] theorem jz8 {f g st}:MO (I (.bool Ey)) f g st=g st:=rfl
@[go_sem] theorem zmf {c a b st}:X p (.cond c a b) st=MO (qi st.env c) (X p a) (X p b) st:=by
 rw[jut];unfold MO
 cases qi st.env c with
 |none=>rfl
 |some v=>cases v with
  |bool t=>cases t<;>rfl
  |_=>rfl
def H0 (id:Nat)(r:Option (jf×bf)):Option (jf×bf):=match r with
 |some (.exit ga,bV)=>if ga=id then I (.normal,bV)else I (.exit ga,bV)
 |r=>r
@[go_sem] theorem j0a {id ga st}:H0 id (I (.exit ga,st))=if ga=id then I (.normal,st)else I (.exit ga,st):=rfl
@[go_sem] theorem jss {id st}:H0 id (I (.normal,st))=I (.normal,st):=rfl
@[go_sem] theorem j3n {id st}:H0 id (I (.ret,st))=I (.ret,st):=rfl
@[go_sem] theorem zjo {id b st}:X p (.block id b) st=H0 id (X p b st):=by
 rw[jro];unfold H0
 cases X p b st with
 |none=>rfl
 |some r=>
  obtain⟨x,s⟩:=r
  cases x with
  |exit ga=>
   simp only[]
   by_cases hb:ga=id
   ·subst hb;simp
   ·rw[if_neg hb]
    cases hq:Gs ga id with
    |true=>exact absurd (Gq hq) hb
    |false=>rfl
  |_=>rfl
noncomputable def E0 (p:zb)(b:au)(n:Nat)(r:Option (jf×bf)):Option (jf×bf):=match r with
 |some (.normal,bV)=>X p (.loop b) (gc n bV)
 |r=>r
theorem jr5 {b st}:X p (.loop b) st=E0 p b st.heap.length (X p b st):=by
 rw[jvh];unfold E0
 cases X p b st with
 |none=>rfl
 |some r=>obtain⟨x,s⟩:=r;cases x<;>rfl
@[go_sem] theorem q61 {b n st}:E0 p b n (I (.normal,st))=X p (.loop b) (gc n st):=rfl
@[go_sem] theorem za1 {b n st}:E0 p b n (I (.ret,st))=I (.ret,st):=rfl
@[go_sem] theorem j16 {b n id st}:E0 p b n (I (.exit id,st))=I (.exit id,st):=rfl
attribute [go_sem] jw6 jx1 j1w jmw WB jt7
@[go_sem] theorem znf {env}:gc 0 ⟨env,[]⟩=⟨env,[]⟩:=rfl
theorem H2 {n st}(hn:st.heap.length≤n):gc n st=st:=by
 unfold gc;rw[Gn hn];rfl
theorem znp {e e' h}:gc (bf.mk e h).heap.length ⟨e',h⟩=⟨e',h⟩:=H2 (Nat.le_refl _)
def WE (k:Option (List Nat))(r:Option bf):Option (jf×bf):=match r with
 |some bV=>I (.normal,A5 bV k)
 |none=>En
@[go_sem] theorem zaq {k st}:WE k (I st)=I (.normal,A5 st k):=rfl
@[go_sem] theorem zc7 {na l k st}:nq p xc na l k st=WE k (gm p xc st.heap.length l ⟨st.env,st.heap++List.replicate na .hole⟩):=by
 unfold nq WE;rfl
def jx7 (r:Option bf)(f:bf→Option bf):Option bf:=match r with
 |some st=>f st
 |none=>En
@[go_sem] theorem zca {st f}:jx7 (I st) f=f st:=rfl
@[go_sem] theorem zl1 {st}:gm p xc h0 [] st=I st:=rfl
@[go_sem] theorem zbf {o l st}:gm p xc h0 (o::l) st=jx7 (yz p xc h0 o st) (gm p xc h0 l):=rfl
def MP (d:Option Nat)(e:Env)(r:Option bj):Option bf:=match r with
 |some r=>I ⟨og (yf e r.strip) d r.v r.own,r.heap⟩
 |none=>En
@[go_sem] theorem zb7 {d v o s}:MP d e (I ⟨v,o,s,h⟩)=I ⟨og (yf e s) d v o,h⟩:=rfl
@[go_sem] theorem jsj {d op env}:yz p xc h0 ⟨d,op,En,al⟩ ⟨env,h⟩=MP d env (qf p xc h0 al env h op):=rfl
def MQ (g:Option Bool)(d:Option Nat)(env:Env)(h:qh)(f:cU→Option bj)(op:cU):Option bf:=match g with
 |some Gp=>MP d env (f op)
 |some Ey=>I ⟨og env d .undef Ey,h⟩
 |none=>En
@[go_sem] theorem j0n {d env f op}:MQ (I Gp) d env h f op=MP d env (f op):=rfl
@[go_sem] theorem jvb {d env f op}:MQ (I Ey) d env h f op=I ⟨og env d .undef Ey,h⟩:=rfl
@[go_sem] theorem jsi {d op g env}:yz p xc h0 ⟨d,op,I g,al⟩ ⟨env,h⟩=MQ (np env (I g)) d env h (qf p xc h0 al env h) op:=by
 unfold yz MQ
 simp only[]
 split
 ·rename_i hg;rw[hg];rfl
 ·rename_i hg;rw[hg]
 ·rename_i hg;rw[hg]
def zK (b:Bool)(v:Option (AVal×Bool)):Option Bool:=match v with
 |some (.bool c,_)=>I (c == b)
 |some (.undef,_)=>I Ey
 |_=>En
@[go_sem] theorem jvc {s b}:np e (I (s,b))=zK b (jj s e):=by
 unfold np zK;rfl
theorem jz9 {b c o}:zK b (I (.bool c,o))=I (c == b):=rfl
@[go_sem] theorem jw2 {b o}:zK b (I (.undef,o))=I Ey:=rfl
@[go_sem] theorem zad {s t x}:jj t ((s,x)::e)=if s=t then I x else jj t e:=by
 by_cases ct:s=t
 ·subst ct;rw[if_pos rfl];simp[jj]
 ·rw[if_neg ct]
  have:Gs s t=Ey:=by
   cases hb:Gs s t with
   |false=>rfl
   |true=>exact absurd (Gq hb) ct
  simp[jj,this]
@[go_sem] theorem zh9 {t}:jj t []=En:=rfl
def jww (x:Option (AVal×Bool)):Option AVal:=match x with
 |some x=>I x.1
 |none=>En
@[go_sem] theorem za9 {v o}:jww (I (v,o))=I v:=rfl
@[go_sem] theorem zcd {t}:qi e (.tmp t)=jww (jj t e):=rfl
@[go_sem] theorem jz2 {v}:qi e (.const v)=I v:=rfl
def pT (x:Option AVal)(l:Option (List AVal)):Option (List AVal):=match x,l with
 |some v,I vs=>I (v::vs)
 |_,_=>En
@[go_sem] theorem j3v {v vs}:pT (I v) (I vs)=I (v::vs):=rfl
@[go_sem] theorem zb1:gk e []=I []:=rfl
@[go_sem] theorem j7p {x l}:gk e (x::l)=pT (qi e x) (gk e l):=by
 simp only[gk,pT]
 cases qi e x with
 |none=>rfl
 |some v=>cases gk e l<;>rfl
@[go_sem] theorem jzy {l}:A5 ⟨e,h⟩ (I l)=⟨qL e l,h⟩:=rfl
@[go_sem] theorem jz5:A5 ⟨e,h⟩ En=⟨e,h⟩:=rfl
def MR (t:Nat)(x:Option (AVal×Bool))(e:Env):Env:=match x with
 |some x=>(t,x)::e
 |none=>e
@[go_sem] theorem j12 {t x}:MR t (I x) e=(t,x)::e:=rfl
@[go_sem] theorem j6t {t}:MR t En e=e:=rfl
@[go_sem] theorem j0i:qL e []=[]:=rfl
@[go_sem] theorem jx8 {t l}:qL e (t::l)=MR t (jj t e) (qL e l):=by
 simp only[qL,MR]
 cases jj t e<;>rfl
@[go_sem] theorem jz1 {d v o}:og e (I d) v o=(d,v,o)::e:=rfl
@[go_sem] theorem j0e {v o}:og e En v o=e:=rfl
@[go_sem] theorem jsr:yf e En=e:=rfl
def WG (s:Nat)(x:Option (AVal×Bool))(e:Env):Env:=match x with
 |some (v,_)=>(s,v,Ey)::e
 |none=>e
@[go_sem] theorem j0b {s v o}:WG s (I (v,o)) e=(s,v,Ey)::e:=rfl
@[go_sem] theorem jsu {s}:yf e (I s)=WG s (jj s e) e:=by
 simp only[yf,WG]
 cases jj s e<;>rfl
@[go_sem] theorem j6e {i}:oS i []=[]:=rfl
@[go_sem] theorem jzp {i v vs}:oS i (v::vs)=(i,v,Ey)::oS (i+1) vs:=rfl
@[go_sem] theorem za3 {v}:gK h (I v)=I ⟨v,Ey,En,h⟩:=rfl
@[go_sem] theorem znd {v}:val h v=I ⟨v,Ey,En,h⟩:=rfl
@[go_sem] theorem znk {x}:qf p xc h0 al e h (.move x)=gK h (qi e x):=rfl
def WH (s:Nat)(h:qh)(x:Option (AVal×Bool)):Option bj:=match x with
 |some (v,o)=>I ⟨v,o,I s,h⟩
 |none=>En
@[go_sem] theorem j4o {s v o}:WH s h (I (v,o))=I ⟨v,o,I s,h⟩:=rfl
@[go_sem] theorem zm5 {s}:qf p xc h0 al e h (.take s)=WH s h (jj s e):=by
 simp only[qf,qo,WH]
 cases jj s e<;>rfl
def WI (op:BinOp)(h:qh)(a b:Option AVal):Option bj:=match a,b with
 |some a,I b=>gK h (yu op a b)
 |_,_=>En
@[go_sem] theorem zau {op a b}:WI op h (I a) (I b)=gK h (yu op a b):=rfl
@[go_sem] theorem zn1 {op x y}:qf p xc h0 al e h (.bin op x y)=WI op h (qi e x) (qi e y):=by
 simp only[qf,qo,WI]
 cases qi e x<;>cases qi e y<;>rfl
def WJ (h:qh)(c a b:Option AVal):Option bj:=match c,a,b with
 |some (.bool t),I x,I y=>val h (bif t then x else y)
 |_,_,_=>En
@[go_sem] theorem j5t {t a b}:WJ h (I (.bool t)) (I a) (I b)=I ⟨bif t then a else b,Ey,En,h⟩:=rfl
@[go_sem] theorem zne {c a b}:qf p xc h0 al e h (.pick c a b)=WJ h (qi e c) (qi e a) (qi e b):=by
 simp only[qf,qo,WJ]
 cases qi e c with
 |none=>rfl
 |some v=>cases v<;>cases qi e a<;>cases qi e b<;>rfl
def zL (k:Nat)(h:qh)(x:Option AVal):Option bj:=match k,x with
 |1,I (.list _ _ xs)=>val h (.int .i64 xs.length)
 |1,I (.ms _ _ n)=>val h (.int .i64 n)
 |1,I (.aw _ _ n)=>val h (.int .i64 n)
 |2,I (.list Gp _ _)=>val h (.int .i64 0)
 |0,I (.str s)=>val h (.int .i64 s.length)
 |_,_=>En
@[go_sem] theorem za4 {b z xs}:zL 1 h (I (.list b z xs))=I ⟨.int .i64 xs.length,Ey,En,h⟩:=rfl
@[go_sem] theorem zl6 {b o n}:zL 1 h (I (.ms b o n))=I ⟨.int .i64 n,Ey,En,h⟩:=rfl
@[go_sem] theorem zaw {b v n}:zL 1 h (I (.aw b v n))=I ⟨.int .i64 n,Ey,En,h⟩:=rfl
@[go_sem] theorem zd4 {s}:zL 0 h (I (.str s))=I ⟨.int .i64 s.length,Ey,En,h⟩:=rfl
@[go_sem] theorem ze9 {z xs}:zL 2 h (I (.list Gp z xs))=I ⟨.int .i64 0,Ey,En,h⟩:=rfl
@[go_sem] theorem znw {k x}:qf p xc h0 al e h (.len k x)=zL k h (qi e x):=rfl
def vI (n:Nat)(i:Int):Option Nat:=if 0≤i∧i<n then I i.toNat else En
theorem zM {n k i}:idx n (.int k i)=vI n i:=by
 unfold idx vI
 cases i with
 |ofNat m=>
  by_cases hm:m<n
  ·rw[if_pos ⟨by simp,by simp;omega⟩];simp[Gt.mpr hm]
  ·rw[if_neg (by simp;omega)]
   cases hb:Nat.blt m n with
   |true=>exact absurd (Gt.mp hb) hm
   |false=>simp[hb]
 |negSucc m=>simp
attribute [go_sem] zM
theorem jrs {n:Nat}{i:Int}(h1:0≤i)(h2:i<n):vI n i=I i.toNat:=by unfold vI;rw[if_pos ⟨h1,h2⟩]
theorem WK {n i}(h:i<n):vI n (i:Int)=I i:=by unfold vI;rw[if_pos ⟨by simp,by omega⟩];simp
def kF (sz:Nat)(h:qh)(x i:Option AVal):Option bj:=match x,i with
 |some (.list _ dq xs),I j=>bif Gs sz dq||xs.isEmpty then(match idx xs.length j with
   |some j=>(match xs[j]? with
    |some v=>val h (.ah v)
    |none=>En)
   |none=>En)else En
 |some (.ms b o len),I j=>(match idx len j with
   |some j=>val h (.ptr b (o+j*sz))
   |none=>En)
 |some (.aw b bG len),I j=>(match idx len j with
   |some j=>val h (.dQ b bG (j*sz))
   |none=>En)
 |_,_=>En
@[go_sem] theorem j0v {sz x i}:qf p xc h0 al e h (.indexAddr sz x i)=kF sz h (qi e x) (qi e i):=by
 simp only[qf,qo,kF]
 cases qi e x with
 |none=>rfl
 |some v=>cases v<;>cases qi e i<;>rfl
theorem jgl {sz:Nat}{b:Bool}{k xs i v}(h1:0≤i)(hv:xs[i.toNat]?=I v):kF sz h (I (.list b sz xs)) (I (.int k i))=I ⟨.ah v,Ey,En,h⟩:=by
 have hl:=(List.getElem?_eq_some_iff.1 hv).1
 have hi:idx xs.length (.int k i)=I i.toNat:=by rw[zM];exact jrs h1 (by omega)
 simp only[kF,hi,Nat.beq_refl,Bool.true_or,cond_true,hv]
 rfl
theorem jmy {sz:Nat}{b:Bool}{k:IntKind}{xs:List AVal}{i:Nat}{v:AVal}(hv:xs[i]?=I v):kF sz h (I (.list b sz xs)) (I (.int k (i:Int)))=I ⟨.ah v,Ey,En,h⟩:=
 jgl (by simp) (by simpa using hv)
def gC (h0:Nat)(al:Option (List Nat))(agg:Bool)(n:Nat)(h:qh)(x:Option AVal):Option bj:=match x with
 |some (.ptr b o)=>bif zd h0 al b then(match jy h b with
   |some cs=>(match zn cs o n with
    |some vs=>bif agg then val h (.agg vs)else(match vs with
     | [v]=>val h v
     |_=>En)
    |none=>En)
   |none=>En)else En
 |some (.ah v)=>bif Bool.xor agg v.isAgg||!(Gs v.flat.length n)then En else val h v
 |some (.dQ b bG o)=>bif vh h0 al b then(match zm h b with
   |some (.vec _ dK xs)=>bif Gs bG dK&&Nat.ble (o+n) (xs.flatMap AVal.flat).length then(bif agg then val h (.agg (((xs.flatMap AVal.flat).drop o).take n))else(match((xs.flatMap AVal.flat).drop o).take n with
     | [v]=>val h v
     |_=>En))else En
   |_=>En)else En
 |_=>En
@[go_sem] theorem znj {agg n x}:qf p xc h0 al e h (.load agg n x)=gC h0 al agg n h (qi e x):=by
 simp only[qf,ym,gC]
 cases qi e x with
 |none=>rfl
 |some v=>cases v<;>rfl
def jog:Option AVal→Option AVal
 |some (.ah v)=>I (.ah v)
 |_=>En
@[go_sem] theorem zmg {v}:jog (I (.ah v))=I (.ah v):=rfl
@[go_sem] theorem zmv {agg n x}:qf p xc h0 al e h (.fH agg n x)=gC h0 al agg n h (jog (qi e x)):=by
 simp only[qf,qo,gC]
 cases qi e x with
 |none=>rfl
 |some v=>cases v<;>rfl
@[go_sem] theorem zbs {k i}:gC h0 al Ey 1 h (I (.ah (.int k i)))=I ⟨.int k i,Ey,En,h⟩:=rfl
@[go_sem] theorem zbb {s}:gC h0 al Ey 1 h (I (.ah (.str s)))=I ⟨.str s,Ey,En,h⟩:=rfl
@[go_sem] theorem j91 {b}:gC h0 al Ey 1 h (I (.ah (.bool b)))=I ⟨.bool b,Ey,En,h⟩:=rfl
@[go_sem] theorem j8v {b z xs}:gC h0 al Ey 1 h (I (.ah (.list b z xs)))=I ⟨.list b z xs,Ey,En,h⟩:=rfl
theorem jgq {n cs}(hn:cs.length=n):gC h0 al Gp n h (I (.ah (.agg cs)))=I ⟨.agg cs,Ey,En,h⟩:=by
 subst hn;simp[gC,AVal.isAgg,AVal.flat,val]
@[go_sem] theorem zno {k x y}:yu .add (.int k x) (.int k y)=I (.int k (qe k (x+y))):=by simp[yu,oQ]
@[go_sem] theorem zns {k x y}:yu .sub (.int k x) (.int k y)=I (.int k (qe k (x-y))):=by simp[yu,oQ]
@[go_sem] theorem zn3 {k x y}:yu .mul (.int k x) (.int k y)=I (.int k (qe k (x*y))):=by simp[yu,oQ]
@[go_sem] theorem znx {k x y}:yu .lss (.int k x) (.int k y)=I (.bool (decide (x<y))):=by simp[yu,oQ]
@[go_sem] theorem zn4 {k x y}:yu .leq (.int k x) (.int k y)=I (.bool (decide (x≤y))):=by simp[yu,oQ]
@[go_sem] theorem znr {k x y}:yu .gtr (.int k x) (.int k y)=I (.bool (decide (y<x))):=by simp[yu,oQ]
@[go_sem] theorem zn5 {k x y}:yu .geq (.int k x) (.int k y)=I (.bool (decide (y≤x))):=by simp[yu,oQ]
@[go_sem] theorem zn0 {k x y}:yu .eql (.int k x) (.int k y)=I (.bool (decide (x=y))):=by
 simp only[yu,oQ,decide_true,cond_true];congr 2
@[go_sem] theorem znq {k x y}:yu .neq (.int k x) (.int k y)=I (.bool (!decide (x=y))):=by
 simp only[yu,oQ,decide_true,cond_true];congr 2
theorem MS {x}(h1:-9223372036854775808≤x)(h2:x≤9223372036854775807):qe .i64 x=x:=by
 have:qM .i64 x=Gp:=by
  cases x with
  |ofNat m=>simp only[qM];exact Gn (by simp at h2;omega)
  |negSucc m=>simp only[qM];exact Gn (by omega)
 simp[qe,this]
def WL (h:qh)(b:Bool)(r:Option (AVal×Bool)):Option bj:=match b,r with
 |true,I (v,o)=>I ⟨v,o,En,h⟩
 |_,_=>En
@[go_sem] theorem zas {v o}:WL h Gp (I (v,o))=I ⟨v,o,En,h⟩:=rfl
def WM (n:Nat)(r:Option (AVal×Bool×qh)):Option bj:=match r with
 |some (v,o,h')=>I ⟨v,o,En,zg n v h'⟩
 |none=>En
@[go_sem] theorem zbk {n v o}:WM n (I (v,o,h))=I ⟨v,o,En,zg n v h⟩:=rfl
def WN (r:Option (AVal×qh)):Option bj:=match r with
 |some (v,h')=>I ⟨v,Ey,En,h'⟩
 |none=>En
@[go_sem] theorem j0g {v}:WN (I (v,h))=I ⟨v,Ey,En,h⟩:=rfl
def MT (h0 r:Nat)(h:qh)(b:Bool)(m:Option (List (AVal×AVal))):Option bj:=match b,m with
 |true,I es=>(match aJ h0 h r (.map es)with
  |some h'=>I ⟨.map (h0+r),Ey,En,h'⟩
  |none=>En)
 |_,_=>En
def H3 (h0 r:Nat)(h:qh)(b b':Bool)(m:Option (List (AVal×AVal)))(c:Option (AVal×Bool)):Option bj:=match b with
 |true=>MT h0 r h Gp m
 |false=>(match b',c with
  |true,I (v,o)=>qO h0 h r v o
  |_,_=>En)
@[go_sem] theorem zd0 {r b' m c}:H3 h0 r h Gp b' m c=MT h0 r h Gp m:=rfl
@[go_sem] theorem zcj {r m v o}:H3 h0 r h Ey Gp m (I (v,o))=qO h0 h r v o:=rfl
def jvz (p:zb)(xc:XC)(h:qh)(k:Nat):Option (List AVal)→Option bj
 |some us=>bif qx 0 us then(match qc p xc k us with
  |some (v,o)=>(match LP v o with
   |some (v',o')=>I ⟨v',o',En,h⟩
   |none=>En)
  |none=>En)else En
 |none=>En
def BW (p:zb)(xc:XC)(h0:Nat)(h:qh)(md:ew)(f:Option AVal)(l:Option (List AVal)):Option bj:=match f,l with
 |some (.fn (.func k) a c),I vs=>(match md with
  | .bW=>WL h (qx 0 (a++vs++c)) (qc p xc k (a++vs++c))
  | .fT r=>H3 h0 r h (a++vs++c).isEmpty (qx 0 (a++vs++c)) (p.maps k) (qc p xc k (a++vs++c))
  | .red=>jvz p xc h k (yK h (a++vs++c))
  | .shr=>WM h.length (qm p xc k (a++vs++c) h))
 |some (.fn (.yield b) [] []),I vs=>(match md with
  | .shr=>WN (kL xc b vs h)
  |_=>En)
 |_,_=>En
@[go_sem] theorem zm9 {md f l}:qf p xc h0 al e h (.call md f l)=BW p xc h0 h md (qi e f) (gk e l):=by
 simp only[qf,yx,BW]
 split
 ·rename_i k first captured vs h1 h2
  rw[h1,h2]
  cases md with
  |bW=>
   simp only[]
   cases qx 0 (first++vs++captured)with
   |false=>cases qc p xc k (first++vs++captured)<;>rfl
   |true=>cases qc p xc k (first++vs++captured)<;>rfl
  |fT rk=>
   simp only[]
   cases (first++vs++captured).isEmpty with
   |false=>
    cases qx 0 (first++vs++captured)with
    |false=>cases qc p xc k (first++vs++captured)<;>rfl
    |true=>cases qc p xc k (first++vs++captured)<;>rfl
   |true=>
    cases p.maps k with
    |none=>rfl
    |some es=>simp only[cond_true,H3,MT];cases aJ h0 h rk (.map es)<;>rfl
  |red=>simp only[];cases yK h (first++vs++captured)<;>rfl
  |shr=>simp only[];cases qm p xc k (first++vs++captured) h<;>rfl
 ·rename_i b vs h1 h2
  rw[h1,h2]
  cases md with
  |shr=>simp only[];cases kL xc b vs h<;>rfl
  |_=>rfl
 ·rename_i h1 h2
  split
  ·rename_i k a c vs g1 g2;exact absurd g2 (fun g2=>h1 k a c vs g1 g2)
  ·rename_i b vs g1 g2;exact absurd g2 (fun g2=>h2 b vs g1 g2)
  ·rfl
@[go_sem] theorem j99 {k a c vs}:BW p xc h0 h .bW (I (.fn (.func k) a c)) (I vs)=WL h (qx 0 (a++vs++c)) (qc p xc k (a++vs++c)):=rfl
@[go_sem] theorem zag {k r a c vs}:BW p xc h0 h (.fT r) (I (.fn (.func k) a c)) (I vs)=H3 h0 r h (a++vs++c).isEmpty (qx 0 (a++vs++c)) (p.maps k) (qc p xc k (a++vs++c)):=rfl
@[go_sem] theorem zbd {k a c vs}:BW p xc h0 h .red (I (.fn (.func k) a c)) (I vs)=jvz p xc h k (yK h (a++vs++c)):=rfl
@[go_sem] theorem zay {k a c vs}:BW p xc h0 h .shr (I (.fn (.func k) a c)) (I vs)=WM h.length (qm p xc k (a++vs++c) h):=rfl
@[go_sem] theorem jzq {b vs}:BW p xc h0 h .shr (I (.fn (.yield b) [] [])) (I vs)=WN (kL xc b vs h):=rfl
def E1 (rs:List nh)(r:Option (jf×bf)):Option (AVal×Bool×qh):=match r with
 |some (.normal,st)=>(match kq st rs with
   |some xs=>I ((za xs).1,(za xs).2,lx st rs)
   |none=>En)
 |some (.ret,st)=>(match kq st rs with
   |some xs=>I ((za xs).1,(za xs).2,lx st rs)
   |none=>En)
 |_=>En
def WO (st:bf)(rs:List nh)(r:Option (List (AVal×Bool))):Option (AVal×Bool×qh):=match r with
 |some xs=>I ((za xs).1,(za xs).2,lx st rs)
 |none=>En
@[go_sem] theorem j0k {rs st}:E1 rs (I (.normal,st))=WO st rs (kq st rs):=rfl
@[go_sem] theorem zlj {rs st}:E1 rs (I (.ret,st))=WO st rs (kq st rs):=rfl
@[go_sem] theorem zac {st rs xs}:WO st rs (I xs)=I ((za xs).1,(za xs).2,lx st rs):=rfl
theorem qn {k nt body rs args}(hf:p.bQ k=I ⟨nt,body,rs⟩)(hl:args.length≤nt):qm p xc k args h=E1 rs (xc body ⟨oS 0 args,h⟩):=by
 simp only[qm,hf,pI,Gn hl,cond_true,E1]
 rfl
def WQ (x:Option (AVal×Bool))(l:Option (List (AVal×Bool))):Option (List (AVal×Bool)):=match x,l with
 |some v,I vs=>I (v::vs)
 |_,_=>En
@[go_sem] theorem j6p {v vs}:WQ (I v) (I vs)=I (v::vs):=rfl
@[go_sem] theorem jso {st}:kq st []=I []:=rfl
@[go_sem] theorem jpt {st r rs}:kq st (r::rs)=WQ (vj st r) (kq st rs):=by
 simp only[kq,WQ]
 cases vj st r with
 |none=>rfl
 |some v=>cases kq st rs<;>rfl
@[go_sem] theorem jwd {t}:vj ⟨e,h⟩ (.tmp t)=jj t e:=rfl
@[go_sem] theorem zll {x}:za [x]=x:=rfl
@[go_sem] theorem zht {x y}:za [x,y]=(.aB [x.1,y.1],Ey):=rfl
@[go_sem] theorem j9e {x y z}:za [x,y,z]=(.aB [x.1,y.1,z.1],Ey):=rfl
@[go_sem] theorem zbv:za []=(.aB [],Ey):=rfl
@[go_sem] theorem zcb {st t}:lx st [.tmp t]=st.heap:=rfl
@[go_sem] theorem zaf {st x y l}:lx st (x::y::l)=st.heap:=by
 cases x with
 |tmp t=>rfl
 |cell t a n=>cases a<;>rfl
@[go_sem] theorem j3p {st}:lx st []=st.heap:=rfl
@[go_sem] theorem j98 {st t n}:lx st [.cell t Gp n]=st.heap:=rfl
@[go_sem] theorem zf8 {o}:zK Gp (I (.bool Gp,o))=I Gp:=rfl
@[go_sem] theorem zgi {o}:zK Gp (I (.bool Ey,o))=I Ey:=rfl
@[go_sem] theorem zg0 {o}:zK Ey (I (.bool Gp,o))=I Ey:=rfl
@[go_sem] theorem zej {o}:zK Ey (I (.bool Ey,o))=I Gp:=rfl
attribute [go_sem] cond_true cond_false decide_true decide_false Bool.not_true Bool.not_false List.append_nil List.nil_append List.length_cons List.length_nil
@[go_sem] theorem znu:List.replicate 0 bh.hole=[]:=rfl
end
section
variable {p:zb}{xc:XC}{h0:Nat}{al:Option (List Nat)}{e:Env}{h:qh}{α:Type}
def sl (z:Nat)(f:α→AVal):Option (List α)→AVal
 |none=>.list Gp 0 []
 |some l=>.list Ey z (l.map f)
@[go_sem] theorem zna {z:Nat}{f:α→AVal}{l}:zL 1 h (I (sl z f l))=I ⟨.int .i64 (l.getD []).length,Ey,En,h⟩:=by
 cases l<;>simp[sl,zL,val]
theorem jvu {z:Nat}{f:α→AVal}{l:Option (List α)}{k:IntKind}{i:Nat}{x:α}(hx:(l.getD [])[i]?=I x):kF z h (I (sl z f l)) (I (.int k (i:Int)))=I ⟨.ah (f x),Ey,En,h⟩:=by
 cases l with
 |none=>simp at hx
 |some l=>exact jmy (by rw[List.getElem?_map,show l[i]?=I x from hx];rfl)
theorem vJ {n z:Nat}{f:α→AVal}{l}(hf:∀x,below n (f x)=Gp):below n (sl z f l)=Gp:=by
 have key:∀l:List α,qx n (l.map f)=Gp:=by
  intro l
  induction l with
  |nil=>rfl
  |cons x l ih=>simp[qx,hf,ih]
 cases l with
 |none=>rfl
 |some l=>simp only[sl,below];exact key l
theorem znc {z:Nat}{f:α→AVal}(hf:∀x y,f x=f y→x=y){a b}(qP:sl z f a=sl z f b):a=b:=by
 have key:∀a b:List α,a.map f=b.map f→a=b:=by
  intro a
  induction a with
  |nil=>intro b hb;cases b<;>simp at hb<;>rfl
  |cons x a ih=>
   intro b hb
   cases b with
   |nil=>simp at hb
   |cons y b=>simp at hb;rw[hf _ _ hb.1,ih _ hb.2]
 cases a<;>cases b<;>simp[sl]at qP<;>first|rfl|rw[key _ _ qP]
def jm (n:Int):AVal:=.int .i64 n
@[go_sem] theorem j2k {i}:gC h0 al Ey 1 h (I (.ah (jm i)))=I ⟨.int .i64 i,Ey,En,h⟩:=rfl
end
end Go.Abs
