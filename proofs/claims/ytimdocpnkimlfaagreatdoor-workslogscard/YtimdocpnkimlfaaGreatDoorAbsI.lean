/- Equations of the executor for runs on values that are not known. -/
import Derived.Test.YtimdocpnkimlfaaGreatDoorAbsG
set_option linter.unusedVariables false
set_option linter.unusedSimpArgs false
open Option renaming some→I,none→Ea
open Bool renaming false→Eb,true→Ek
open Nat renaming ble_eq_true_of_le→Ec,eq_of_beq_eq_true→En,beq→E3,blt_eq→Ga
namespace Go.Abs
section
variable {p:jg}{xc:XC}{h0:Nat}{al:Option (List Nat)}{e:Env}{h:ql}
def Eo (r:Option (je×aV))(f:aV→Option (je×aV)):Option (je×aV):=match r with
 |some (.normal,st)=>f st
 |r=>r
@[go_sem] theorem jj3 {st f}:Eo (I (.normal,st)) f=f st:=rfl
@[go_sem] theorem jt7 {st f}:Eo (I (.ret,st)) f=I (.ret,st):=rfl
@[go_sem] theorem joa {id st f}:Eo (I (.exit id,st)) f=I (.exit id,st):=rfl
@[go_sem] theorem j4z {a b st}:X p (.seq a b) st=Eo (X p a st) (X p b):=by
 rw[Zr];unfold Eo
 cases X p a st with
 |none=>rfl
 |some r=>obtain⟨x,s⟩:=r;cases x<;>rfl
def Ii (c:Option AVal)(f g:aV→Option (je×aV))(st:aV):Option (je×aV):=match c with
 |some (.bool Ek)=>f st
 |some (.bool Eb)=>g st
 |_=>Ea
@[go_sem] theorem jss {f g st}:Ii (I (.bool Ek)) f g st=f st:=rfl
@[go_sem] theorem jll {f g st}:Ii (I (.bool Eb)) f g st=g st:=rfl
@[go_sem] theorem j30 {c a b st}:X p (.cond c a b) st=Ii (qg st.env c) (X p a) (X p b) st:=by
 rw[Zs];unfold Ii
 cases qg st.env c with
 |none=>rfl
 |some v=>cases v with
  |bool t=>cases t<;>rfl
  |_=>rfl
def Ep (id:Nat)(r:Option (je×aV)):Option (je×aV):=match r with
 |some (.exit eM,aN)=>if eM=id then I (.normal,aN)else I (.exit eM,aN)
 |r=>r
@[go_sem] theorem jmm {id eM st}:Ep id (I (.exit eM,st))=if eM=id then I (.normal,st)else I (.exit eM,st):=rfl
@[go_sem] theorem jfs {id st}:Ep id (I (.normal,st))=I (.normal,st):=rfl
@[go_sem] theorem jr4 {id st}:Ep id (I (.ret,st))=I (.ret,st):=rfl
@[go_sem] theorem j2x {id b st}:X p (.block id b) st=Ep id (X p b st):=by
 rw[Zt];unfold Ep
 cases X p b st with
 |none=>rfl
 |some r=>
  obtain⟨x,s⟩:=r
  cases x with
  |exit eM=>
   simp only[]
   by_cases hb:eM=id
   ·subst hb;simp
   ·rw[if_neg hb]
    cases hq:E3 eM id with
    |true=>exact absurd (En hq) hb
    |false=>rfl
  |_=>rfl
noncomputable def Bw (p:jg)(b:au)(n:Nat)(r:Option (je×aV)):Option (je×aV):=match r with
 |some (.normal,aN)=>X p (.loop b) (gc n aN)
 |r=>r
theorem jek {b st}:X p (.loop b) st=Bw p b st.heap.length (X p b st):=by
 rw[Zu];unfold Bw
 cases X p b st with
 |none=>rfl
 |some r=>obtain⟨x,s⟩:=r;cases x<;>rfl
@[go_sem] theorem qxr {b n st}:Bw p b n (I (.normal,st))=X p (.loop b) (gc n st):=rfl
@[go_sem] theorem jwa {b n st}:Bw p b n (I (.ret,st))=I (.ret,st):=rfl
@[go_sem] theorem jsa {b n id st}:Bw p b n (I (.exit id,st))=I (.exit id,st):=rfl
attribute [go_sem] Zm Zn Zo Zp Zq Zv
@[go_sem] theorem j4t {env}:gc 0 ⟨env,[]⟩=⟨env,[]⟩:=rfl
theorem ju {n st}(hn:st.heap.length≤n):gc n st=st:=by
 unfold gc;rw[Ec hn];rfl
theorem j5g {e e' h}:gc (aV.mk e h).heap.length ⟨e',h⟩=⟨e',h⟩:=ju (Nat.le_refl _)
def PF (k:Option (List Nat))(r:Option aV):Option (je×aV):=match r with
 |some aN=>I (.normal,uO aN k)
 |none=>Ea
@[go_sem] theorem jvf {k st}:PF k (I st)=I (.normal,uO st k):=rfl
@[go_sem] theorem j1m {na l k st}:yq p xc na l k st=PF k (yv p xc st.heap.length l ⟨st.env,st.heap++List.replicate na .hole⟩):=by
 unfold yq PF;rfl
def ZD (r:Option aV)(f:aV→Option aV):Option aV:=match r with
 |some st=>f st
 |none=>Ea
@[go_sem] theorem jv7 {st f}:ZD (I st) f=f st:=rfl
@[go_sem] theorem jwv {st}:yv p xc h0 [] st=I st:=rfl
@[go_sem] theorem jvu {o l st}:yv p xc h0 (o::l) st=ZD (zg p xc h0 o st) (yv p xc h0 l):=rfl
def Ij (d:Option Nat)(e:Env)(r:Option aK):Option aV:=match r with
 |some r=>I ⟨l5 (ze e r.strip) d r.v r.own,r.heap⟩
 |none=>Ea
@[go_sem] theorem jue {d v o s}:Ij d e (I ⟨v,o,s,h⟩)=I ⟨l5 (ze e s) d v o,h⟩:=rfl
@[go_sem] theorem jfl {d op env}:zg p xc h0 ⟨d,op,Ea,al⟩ ⟨env,h⟩=Ij d env (qb p xc h0 al env h op):=rfl
def Ik (g:Option Bool)(d:Option Nat)(env:Env)(h:ql)(f:cc→Option aK)(op:cc):Option aV:=match g with
 |some Ek=>Ij d env (f op)
 |some Eb=>I ⟨l5 env d .undef Eb,h⟩
 |none=>Ea
@[go_sem] theorem jl4 {d env f op}:Ik (I Ek) d env h f op=Ij d env (f op):=rfl
@[go_sem] theorem jf9 {d env f op}:Ik (I Eb) d env h f op=I ⟨l5 env d .undef Eb,h⟩:=rfl
@[go_sem] theorem jft {d op g env}:zg p xc h0 ⟨d,op,I g,al⟩ ⟨env,h⟩=Ik (km env (I g)) d env h (qb p xc h0 al env h) op:=by
 unfold zg Ik
 simp only[]
 split
 ·rename_i hg;rw[hg];rfl
 ·rename_i hg;rw[hg]
 ·rename_i hg;rw[hg]
def tM (b:Bool)(v:Option (AVal×Bool)):Option Bool:=match v with
 |some (.bool c,_)=>I (c == b)
 |some (.undef,_)=>I Eb
 |_=>Ea
@[go_sem] theorem jjo {s b}:km e (I (s,b))=tM b (ja s e):=by
 unfold km tM;rfl
theorem jlz {b c o}:tM b (I (.bool c,o))=I (c == b):=rfl
@[go_sem] theorem jkz {b o}:tM b (I (.undef,o))=I Eb:=rfl
@[go_sem] theorem jwh {s t x}:ja t ((s,x)::e)=if s=t then I x else ja t e:=by
 by_cases bH:s=t
 ·subst bH;rw[if_pos rfl];simp[ja]
 ·rw[if_neg bH]
  have:E3 s t=Eb:=by
   cases hb:E3 s t with
   |false=>rfl
   |true=>exact absurd (En hb) bH
  simp[ja,this]
@[go_sem] theorem j24 {t}:ja t []=Ea:=rfl
def ZE (x:Option (AVal×Bool)):Option AVal:=match x with
 |some x=>I x.1
 |none=>Ea
@[go_sem] theorem jvh {v o}:ZE (I (v,o))=I v:=rfl
@[go_sem] theorem juu {t}:qg e (.tmp t)=ZE (ja t e):=rfl
@[go_sem] theorem jma {v}:qg e (.const v)=I v:=rfl
def nP (x:Option AVal)(l:Option (List AVal)):Option (List AVal):=match x,l with
 |some v,I vs=>I (v::vs)
 |_,_=>Ea
@[go_sem] theorem jsb {v vs}:nP (I v) (I vs)=I (v::vs):=rfl
@[go_sem] theorem jwq:yg e []=I []:=rfl
@[go_sem] theorem jou {x l}:yg e (x::l)=nP (qg e x) (yg e l):=by
 simp only[yg,nP]
 cases qg e x with
 |none=>rfl
 |some v=>cases yg e l<;>rfl
@[go_sem] theorem jlp {l}:uO ⟨e,h⟩ (I l)=⟨oh e l,h⟩:=rfl
@[go_sem] theorem jl1:uO ⟨e,h⟩ Ea=⟨e,h⟩:=rfl
def Il (t:Nat)(x:Option (AVal×Bool))(e:Env):Env:=match x with
 |some x=>(t,x)::e
 |none=>e
@[go_sem] theorem joi {t x}:Il t (I x) e=(t,x)::e:=rfl
@[go_sem] theorem jsn {t}:Il t Ea e=e:=rfl
@[go_sem] theorem jmb:oh e []=[]:=rfl
@[go_sem] theorem jhy {t l}:oh e (t::l)=Il t (ja t e) (oh e l):=by
 simp only[oh,Il]
 cases ja t e<;>rfl
@[go_sem] theorem jl9 {d v o}:l5 e (I d) v o=(d,v,o)::e:=rfl
@[go_sem] theorem jl3 {v o}:l5 e Ea v o=e:=rfl
@[go_sem] theorem jfm:ze e Ea=e:=rfl
def PG (s:Nat)(x:Option (AVal×Bool))(e:Env):Env:=match x with
 |some (v,_)=>(s,v,Eb)::e
 |none=>e
@[go_sem] theorem jmi {s v o}:PG s (I (v,o)) e=(s,v,Eb)::e:=rfl
@[go_sem] theorem jfv {s}:ze e (I s)=PG s (ja s e) e:=by
 simp only[ze,PG]
 cases ja s e<;>rfl
@[go_sem] theorem jsj {i}:nc i []=[]:=rfl
@[go_sem] theorem jmg {i v vs}:nc i (v::vs)=(i,v,Eb)::nc (i+1) vs:=rfl
@[go_sem] theorem juy {v}:kl h (I v)=I ⟨v,Eb,Ea,h⟩:=rfl
@[go_sem] theorem j4m {v}:val h v=I ⟨v,Eb,Ea,h⟩:=rfl
@[go_sem] theorem j4y {x}:qb p xc h0 al e h (.move x)=kl h (qg e x):=rfl
def PH (s:Nat)(h:ql)(x:Option (AVal×Bool)):Option aK:=match x with
 |some (v,o)=>I ⟨v,o,I s,h⟩
 |none=>Ea
@[go_sem] theorem jod {s v o}:PH s h (I (v,o))=I ⟨v,o,I s,h⟩:=rfl
@[go_sem] theorem j4j {s}:qb p xc h0 al e h (.take s)=PH s h (ja s e):=by
 simp only[qb,qo,PH]
 cases ja s e<;>rfl
def PI (op:BinOp)(h:ql)(a b:Option AVal):Option aK:=match a,b with
 |some a,I b=>kl h (zc op a b)
 |_,_=>Ea
@[go_sem] theorem ju6 {op a b}:PI op h (I a) (I b)=kl h (zc op a b):=rfl
@[go_sem] theorem j5b {op x y}:qb p xc h0 al e h (.bin op x y)=PI op h (qg e x) (qg e y):=by
 simp only[qb,qo,PI]
 cases qg e x<;>cases qg e y<;>rfl
def PJ (h:ql)(c a b:Option AVal):Option aK:=match c,a,b with
 |some (.bool t),I x,I y=>val h (bif t then x else y)
 |_,_,_=>Ea
@[go_sem] theorem jpi {t a b}:PJ h (I (.bool t)) (I a) (I b)=I ⟨bif t then a else b,Eb,Ea,h⟩:=rfl
@[go_sem] theorem j4i {c a b}:qb p xc h0 al e h (.pick c a b)=PJ h (qg e c) (qg e a) (qg e b):=by
 simp only[qb,qo,PJ]
 cases qg e c with
 |none=>rfl
 |some v=>cases v<;>cases qg e a<;>cases qg e b<;>rfl
def tN (k:Nat)(h:ql)(x:Option AVal):Option aK:=match k,x with
 |1,I (.list _ _ xs)=>val h (.int .i64 xs.length)
 |1,I (.ms _ _ n)=>val h (.int .i64 n)
 |1,I (.aA _ _ n)=>val h (.int .i64 n)
 |2,I (.list Ek _ _)=>val h (.int .i64 0)
 |0,I (.str s)=>val h (.int .i64 s.length)
 |_,_=>Ea
@[go_sem] theorem ju3 {b z xs}:tN 1 h (I (.list b z xs))=I ⟨.int .i64 xs.length,Eb,Ea,h⟩:=rfl
@[go_sem] theorem j34 {b o n}:tN 1 h (I (.ms b o n))=I ⟨.int .i64 n,Eb,Ea,h⟩:=rfl
@[go_sem] theorem juv {b v n}:tN 1 h (I (.aA b v n))=I ⟨.int .i64 n,Eb,Ea,h⟩:=rfl
@[go_sem] theorem j2y {s}:tN 0 h (I (.str s))=I ⟨.int .i64 s.length,Eb,Ea,h⟩:=rfl
@[go_sem] theorem jyk {z xs}:tN 2 h (I (.list Ek z xs))=I ⟨.int .i64 0,Eb,Ea,h⟩:=rfl
@[go_sem] theorem j49 {k x}:qb p xc h0 al e h (.len k x)=tN k h (qg e x):=rfl
def qW (n:Nat)(i:Int):Option Nat:=if 0≤i∧i<n then I i.toNat else Ea
theorem vP {n k i}:idx n (.int k i)=qW n i:=by
 unfold idx qW
 cases i with
 |ofNat m=>
  by_cases hm:m<n
  ·rw[if_pos ⟨by simp,by simp;omega⟩];simp[Ga.mpr hm]
  ·rw[if_neg (by simp;omega)]
   cases hb:Nat.blt m n with
   |true=>exact absurd (Ga.mp hb) hm
   |false=>simp[hb]
 |negSucc m=>simp
attribute [go_sem] vP
theorem jea {n:Nat}{i:Int}(h1:0≤i)(h2:i<n):qW n i=I i.toNat:=by unfold qW;rw[if_pos ⟨h1,h2⟩]
theorem ZF {n i}(h:i<n):qW n (i:Int)=I i:=by unfold qW;rw[if_pos ⟨by simp,by omega⟩];simp
def nQ (sz:Nat)(h:ql)(x i:Option AVal):Option aK:=match x,i with
 |some (.list _ cD xs),I j=>bif E3 sz cD||xs.isEmpty then(match idx xs.length j with
   |some j=>(match xs[j]? with
    |some v=>val h (.ax v)
    |none=>Ea)
   |none=>Ea)else Ea
 |some (.ms b o len),I j=>(match idx len j with
   |some j=>val h (.ptr b (o+j*sz))
   |none=>Ea)
 |some (.aA b bm len),I j=>(match idx len j with
   |some j=>val h (.dK b bm (j*sz))
   |none=>Ea)
 |_,_=>Ea
@[go_sem] theorem jmc {sz x i}:qb p xc h0 al e h (.indexAddr sz x i)=nQ sz h (qg e x) (qg e i):=by
 simp only[qb,qo,nQ]
 cases qg e x with
 |none=>rfl
 |some v=>cases v<;>cases qg e i<;>rfl
theorem q6e {sz:Nat}{b:Bool}{k xs i v}(h1:0≤i)(hv:xs[i.toNat]?=I v):nQ sz h (I (.list b sz xs)) (I (.int k i))=I ⟨.ax v,Eb,Ea,h⟩:=by
 have hl:=(List.getElem?_eq_some_iff.1 hv).1
 have hi:idx xs.length (.int k i)=I i.toNat:=by rw[vP];exact jea h1 (by omega)
 simp only[nQ,hi,Nat.beq_refl,Bool.true_or,cond_true,hv]
 rfl
theorem q8g {sz:Nat}{b:Bool}{k:IntKind}{xs:List AVal}{i:Nat}{v:AVal}(hv:xs[i]?=I v):nQ sz h (I (.list b sz xs)) (I (.int k (i:Int)))=I ⟨.ax v,Eb,Ea,h⟩:=
 q6e (by simp) (by simpa using hv)
def y8 (h0:Nat)(al:Option (List Nat))(agg:Bool)(n:Nat)(h:ql)(x:Option AVal):Option aK:=match x with
 |some (.ptr b o)=>bif jm h0 al b then(match ji h b with
   |some cs=>(match zp cs o n with
    |some vs=>bif agg then val h (.agg vs)else(match vs with
     | [v]=>val h v
     |_=>Ea)
    |none=>Ea)
   |none=>Ea)else Ea
 |some (.ax v)=>bif Bool.xor agg v.isAgg||!(E3 v.flat.length n)then Ea else val h v
 |some (.dK b bm o)=>bif qC h0 al b then(match j6 h b with
   |some (.vec _ cU xs)=>bif E3 bm cU&&Nat.ble (o+n) (xs.flatMap AVal.flat).length then(bif agg then val h (.agg (((xs.flatMap AVal.flat).drop o).take n))else(match((xs.flatMap AVal.flat).drop o).take n with
     | [v]=>val h v
     |_=>Ea))else Ea
   |_=>Ea)else Ea
 |_=>Ea
@[go_sem] theorem j40 {agg n x}:qb p xc h0 al e h (.load agg n x)=y8 h0 al agg n h (qg e x):=by
 simp only[qb,zm,y8]
 cases qg e x with
 |none=>rfl
 |some v=>cases v<;>rfl
def ZG:Option AVal→Option AVal
 |some (.ax v)=>I (.ax v)
 |_=>Ea
@[go_sem] theorem j3y {v}:ZG (I (.ax v))=I (.ax v):=rfl
@[go_sem] theorem j35 {agg n x}:qb p xc h0 al e h (.eI agg n x)=y8 h0 al agg n h (ZG (qg e x)):=by
 simp only[qb,qo,y8]
 cases qg e x with
 |none=>rfl
 |some v=>cases v<;>rfl
@[go_sem] theorem jui {k i}:y8 h0 al Eb 1 h (I (.ax (.int k i)))=I ⟨.int k i,Eb,Ea,h⟩:=rfl
@[go_sem] theorem jvd {s}:y8 h0 al Eb 1 h (I (.ax (.str s)))=I ⟨.str s,Eb,Ea,h⟩:=rfl
@[go_sem] theorem jn4 {b}:y8 h0 al Eb 1 h (I (.ax (.bool b)))=I ⟨.bool b,Eb,Ea,h⟩:=rfl
@[go_sem] theorem jqt {b z xs}:y8 h0 al Eb 1 h (I (.ax (.list b z xs)))=I ⟨.list b z xs,Eb,Ea,h⟩:=rfl
theorem q47 {n cs}(hn:cs.length=n):y8 h0 al Ek n h (I (.ax (.agg cs)))=I ⟨.agg cs,Eb,Ea,h⟩:=by
 subst hn;simp[y8,AVal.isAgg,AVal.flat,val]
@[go_sem] theorem j5j {k x y}:zc .add (.int k x) (.int k y)=I (.int k (qh k (x+y))):=by simp[zc,lx]
@[go_sem] theorem j43 {k x y}:zc .sub (.int k x) (.int k y)=I (.int k (qh k (x-y))):=by simp[zc,lx]
@[go_sem] theorem j44 {k x y}:zc .mul (.int k x) (.int k y)=I (.int k (qh k (x*y))):=by simp[zc,lx]
@[go_sem] theorem j5f {k x y}:zc .lss (.int k x) (.int k y)=I (.bool (decide (x<y))):=by simp[zc,lx]
@[go_sem] theorem j5i {k x y}:zc .leq (.int k x) (.int k y)=I (.bool (decide (x≤y))):=by simp[zc,lx]
@[go_sem] theorem j48 {k x y}:zc .gtr (.int k x) (.int k y)=I (.bool (decide (y<x))):=by simp[zc,lx]
@[go_sem] theorem j41 {k x y}:zc .geq (.int k x) (.int k y)=I (.bool (decide (y≤x))):=by simp[zc,lx]
@[go_sem] theorem j5l {k x y}:zc .eql (.int k x) (.int k y)=I (.bool (decide (x=y))):=by
 simp only[zc,lx,decide_true,cond_true];congr 2
@[go_sem] theorem j47 {k x y}:zc .neq (.int k x) (.int k y)=I (.bool (!decide (x=y))):=by
 simp only[zc,lx,decide_true,cond_true];congr 2
theorem PK {x}(h1:-9223372036854775808≤x)(h2:x≤9223372036854775807):qh .i64 x=x:=by
 have:oi .i64 x=Ek:=by
  cases x with
  |ofNat m=>simp only[oi];exact Ec (by simp at h2;omega)
  |negSucc m=>simp only[oi];exact Ec (by omega)
 simp[qh,this]
def PL (h:ql)(b:Bool)(r:Option (AVal×Bool)):Option aK:=match b,r with
 |true,I (v,o)=>I ⟨v,o,Ea,h⟩
 |_,_=>Ea
@[go_sem] theorem ju4 {v o}:PL h Ek (I (v,o))=I ⟨v,o,Ea,h⟩:=rfl
def PN (n:Nat)(r:Option (AVal×Bool×ql)):Option aK:=match r with
 |some (v,o,h')=>I ⟨v,o,Ea,ko n v h'⟩
 |none=>Ea
@[go_sem] theorem jv5 {n v o}:PN n (I (v,o,h))=I ⟨v,o,Ea,ko n v h⟩:=rfl
def PO (r:Option (AVal×ql)):Option aK:=match r with
 |some (v,h')=>I ⟨v,Eb,Ea,h'⟩
 |none=>Ea
@[go_sem] theorem jl8 {v}:PO (I (v,h))=I ⟨v,Eb,Ea,h⟩:=rfl
def Io (h0 r:Nat)(h:ql)(b:Bool)(m:Option (List (AVal×AVal))):Option aK:=match b,m with
 |true,I es=>(match aG h0 h r (.map es)with
  |some h'=>I ⟨.map (h0+r),Eb,Ea,h'⟩
  |none=>Ea)
 |_,_=>Ea
def Er (h0 r:Nat)(h:ql)(b b':Bool)(m:Option (List (AVal×AVal)))(c:Option (AVal×Bool)):Option aK:=match b with
 |true=>Io h0 r h Ek m
 |false=>(match b',c with
  |true,I (v,o)=>oo h0 h r v o
  |_,_=>Ea)
@[go_sem] theorem jxw {r b' m c}:Er h0 r h Ek b' m c=Io h0 r h Ek m:=rfl
@[go_sem] theorem jwi {r m v o}:Er h0 r h Eb Ek m (I (v,o))=oo h0 h r v o:=rfl
def ZH (p:jg)(xc:XC)(h:ql)(k:Nat):Option (List AVal)→Option aK
 |some us=>bif qr 0 us then(match ae p xc k us with
  |some (v,o)=>(match Hd v o with
   |some (v',o')=>I ⟨v',o',Ea,h⟩
   |none=>Ea)
  |none=>Ea)else Ea
 |none=>Ea
def vQ (p:jg)(xc:XC)(h0:Nat)(h:ql)(md:dA)(f:Option AVal)(l:Option (List AVal)):Option aK:=match f,l with
 |some (.fn (.func k) a c),I vs=>(match md with
  | .bw=>PL h (qr 0 (a++vs++c)) (ae p xc k (a++vs++c))
  | .eH r=>Er h0 r h (a++vs++c).isEmpty (qr 0 (a++vs++c)) (p.maps k) (ae p xc k (a++vs++c))
  | .red=>ZH p xc h k (tc h (a++vs++c))
  | .shr=>PN h.length (ah p xc k (a++vs++c) h))
 |some (.fn (.yield b) [] []),I vs=>(match md with
  | .shr=>PO (nf xc b vs h)
  |_=>Ea)
 |_,_=>Ea
@[go_sem] theorem j4a {md f l}:qb p xc h0 al e h (.call md f l)=vQ p xc h0 h md (qg e f) (yg e l):=by
 simp only[qb,zf,vQ]
 split
 ·rename_i k first captured vs h1 h2
  rw[h1,h2]
  cases md with
  |bw=>
   simp only[]
   cases qr 0 (first++vs++captured)with
   |false=>cases ae p xc k (first++vs++captured)<;>rfl
   |true=>cases ae p xc k (first++vs++captured)<;>rfl
  |eH rk=>
   simp only[]
   cases (first++vs++captured).isEmpty with
   |false=>
    cases qr 0 (first++vs++captured)with
    |false=>cases ae p xc k (first++vs++captured)<;>rfl
    |true=>cases ae p xc k (first++vs++captured)<;>rfl
   |true=>
    cases p.maps k with
    |none=>rfl
    |some es=>simp only[cond_true,Er,Io];cases aG h0 h rk (.map es)<;>rfl
  |red=>simp only[];cases tc h (first++vs++captured)<;>rfl
  |shr=>simp only[];cases ah p xc k (first++vs++captured) h<;>rfl
 ·rename_i b vs h1 h2
  rw[h1,h2]
  cases md with
  |shr=>simp only[];cases nf xc b vs h<;>rfl
  |_=>rfl
 ·rename_i h1 h2
  split
  ·rename_i k a c vs g1 g2;exact absurd g2 (fun g2=>h1 k a c vs g1 g2)
  ·rename_i b vs g1 g2;exact absurd g2 (fun g2=>h2 b vs g1 g2)
  ·rfl
@[go_sem] theorem jwk {k a c vs}:vQ p xc h0 h .bw (I (.fn (.func k) a c)) (I vs)=PL h (qr 0 (a++vs++c)) (ae p xc k (a++vs++c)):=rfl
@[go_sem] theorem juc {k r a c vs}:vQ p xc h0 h (.eH r) (I (.fn (.func k) a c)) (I vs)=Er h0 r h (a++vs++c).isEmpty (qr 0 (a++vs++c)) (p.maps k) (ae p xc k (a++vs++c)):=rfl
@[go_sem] theorem jua {k a c vs}:vQ p xc h0 h .red (I (.fn (.func k) a c)) (I vs)=ZH p xc h k (tc h (a++vs++c)):=rfl
@[go_sem] theorem jwj {k a c vs}:vQ p xc h0 h .shr (I (.fn (.func k) a c)) (I vs)=PN h.length (ah p xc k (a++vs++c) h):=rfl
@[go_sem] theorem jmn {b vs}:vQ p xc h0 h .shr (I (.fn (.yield b) [] [])) (I vs)=PO (nf xc b vs h):=rfl
def Bx (rs:List lv)(r:Option (je×aV)):Option (AVal×Bool×ql):=match r with
 |some (.normal,st)=>(match ya st rs with
   |some xs=>I ((jj xs).1,(jj xs).2,yf st rs)
   |none=>Ea)
 |some (.ret,st)=>(match ya st rs with
   |some xs=>I ((jj xs).1,(jj xs).2,yf st rs)
   |none=>Ea)
 |_=>Ea
def PP (st:aV)(rs:List lv)(r:Option (List (AVal×Bool))):Option (AVal×Bool×ql):=match r with
 |some xs=>I ((jj xs).1,(jj xs).2,yf st rs)
 |none=>Ea
@[go_sem] theorem jlv {rs st}:Bx rs (I (.normal,st))=PP st rs (ya st rs):=rfl
@[go_sem] theorem jyd {rs st}:Bx rs (I (.ret,st))=PP st rs (ya st rs):=rfl
@[go_sem] theorem jus {st rs xs}:PP st rs (I xs)=I ((jj xs).1,(jj xs).2,yf st rs):=rfl
theorem qn {k nt body rs args}(hf:p.bn k=I ⟨nt,body,rs⟩)(hl:args.length≤nt):ah p xc k args h=Bx rs (xc body ⟨nc 0 args,h⟩):=by
 simp only[ah,hf,nF,Ec hl,cond_true,Bx]
 rfl
def PQ (x:Option (AVal×Bool))(l:Option (List (AVal×Bool))):Option (List (AVal×Bool)):=match x,l with
 |some v,I vs=>I (v::vs)
 |_,_=>Ea
@[go_sem] theorem jn5 {v vs}:PQ (I v) (I vs)=I (v::vs):=rfl
@[go_sem] theorem jfh {st}:ya st []=I []:=rfl
@[go_sem] theorem jd9 {st r rs}:ya st (r::rs)=PQ (qE st r) (ya st rs):=by
 simp only[ya,PQ]
 cases qE st r with
 |none=>rfl
 |some v=>cases ya st rs<;>rfl
@[go_sem] theorem jk6 {t}:qE ⟨e,h⟩ (.tmp t)=ja t e:=rfl
@[go_sem] theorem j0y {x}:jj [x]=x:=rfl
@[go_sem] theorem jzc {x y}:jj [x,y]=(.av [x.1,y.1],Eb):=rfl
@[go_sem] theorem joz {x y z}:jj [x,y,z]=(.av [x.1,y.1,z.1],Eb):=rfl
@[go_sem] theorem jub:jj []=(.av [],Eb):=rfl
@[go_sem] theorem jvp {st t}:yf st [.tmp t]=st.heap:=rfl
@[go_sem] theorem jvm {st x y l}:yf st (x::y::l)=st.heap:=by
 cases x with
 |tmp t=>rfl
 |cell t a n=>cases a<;>rfl
@[go_sem] theorem jpa {st}:yf st []=st.heap:=rfl
@[go_sem] theorem jud {st t n}:yf st [.cell t Ek n]=st.heap:=rfl
@[go_sem] theorem j07 {o}:tM Ek (I (.bool Ek,o))=I Ek:=rfl
@[go_sem] theorem j0a {o}:tM Ek (I (.bool Eb,o))=I Eb:=rfl
@[go_sem] theorem jym {o}:tM Eb (I (.bool Ek,o))=I Eb:=rfl
@[go_sem] theorem jxg {o}:tM Eb (I (.bool Eb,o))=I Ek:=rfl
attribute [go_sem] cond_true cond_false decide_true decide_false Bool.not_true Bool.not_false List.append_nil List.nil_append List.length_cons List.length_nil
@[go_sem] theorem j5e:List.replicate 0 aJ.hole=[]:=rfl
end
section
variable {p:jg}{xc:XC}{h0:Nat}{al:Option (List Nat)}{e:Env}{h:ql}{α:Type}
def sl (z:Nat)(f:α→AVal):Option (List α)→AVal
 |none=>.list Ek 0 []
 |some l=>.list Eb z (l.map f)
@[go_sem] theorem j4x {z:Nat}{f:α→AVal}{l}:tN 1 h (I (sl z f l))=I ⟨.int .i64 (l.getD []).length,Eb,Ea,h⟩:=by
 cases l<;>simp[sl,tN,val]
theorem jk8 {z:Nat}{f:α→AVal}{l:Option (List α)}{k:IntKind}{i:Nat}{x:α}(hx:(l.getD [])[i]?=I x):nQ z h (I (sl z f l)) (I (.int k (i:Int)))=I ⟨.ax (f x),Eb,Ea,h⟩:=by
 cases l with
 |none=>simp at hx
 |some l=>exact q8g (by rw[List.getElem?_map,show l[i]?=I x from hx];rfl)
theorem PR {n z:Nat}{f:α→AVal}{l}(hf:∀x,below n (f x)=Ek):below n (sl z f l)=Ek:=by
 have key:∀l:List α,qr n (l.map f)=Ek:=by
  intro l
  induction l with
  |nil=>rfl
  |cons x l ih=>simp[qr,hf,ih]
 cases l with
 |none=>rfl
 |some l=>simp only[sl,below];exact key l
theorem j4e {z:Nat}{f:α→AVal}(hf:∀x y,f x=f y→x=y){a b}(oq:sl z f a=sl z f b):a=b:=by
 have key:∀a b:List α,a.map f=b.map f→a=b:=by
  intro a
  induction a with
  |nil=>intro b hb;cases b<;>simp at hb<;>rfl
  |cons x a ih=>
   intro b hb
   cases b with
   |nil=>simp at hb
   |cons y b=>simp at hb;rw[hf _ _ hb.1,ih _ hb.2]
 cases a<;>cases b<;>simp[sl]at oq<;>first|rfl|rw[key _ _ oq]
def qx (n:Int):AVal:=.int .i64 n
@[go_sem] theorem jqd {i}:y8 h0 al Eb 1 h (I (.ax (qx i)))=I ⟨.int .i64 i,Eb,Ea,h⟩:=rfl
end
end Go.Abs
