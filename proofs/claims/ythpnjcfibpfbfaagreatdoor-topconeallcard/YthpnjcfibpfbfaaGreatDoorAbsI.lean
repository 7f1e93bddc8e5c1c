/- Equations of the executor for runs on values that are not known. -/
import Derived.Test.YthpnjcfibpfbfaaGreatDoorAbsG
set_option linter.unusedVariables false
set_option linter.unusedSimpArgs false
namespace Go.Abs
section
variable {p:je}{xc:XC}{h0:Nat}{al:Option (List Nat)}{e:Env}{h:qi}
def qkx (r:Option (jo×ASt))(f:ASt→Option (jo×ASt)):Option (jo×ASt):=match r with
 |some (.normal,st)=>f st
 |r=>r
@[go_sem] theorem q0q {st f}:qkx (some (.normal,st)) f=f st:=rfl
@[go_sem] theorem q9b {st f}:qkx (some (.ret,st)) f=some (.ret,st):=rfl
@[go_sem] theorem q35 {id st f}:qkx (some (.exit id,st)) f=some (.exit id,st):=rfl
@[go_sem] theorem jeu {a b st}:X p (.seq a b) st=qkx (X p a st) (X p b):=by
 rw[q7q];unfold qkx
 cases X p a st with
 |none=>rfl
 |some r=>obtain⟨x,s⟩:=r;cases x<;>rfl
def qm3 (c:Option AVal)(f g:ASt→Option (jo×ASt))(st:ASt):Option (jo×ASt):=match c with
 |some (.bool true)=>f st
 |some (.bool false)=>g st
 |_=>none
@[go_sem] theorem q3q {f g st}:qm3 (some (.bool true)) f g st=f st:=rfl
@[go_sem] theorem q2v {f g st}:qm3 (some (.bool false)) f g st=g st:=rfl
@[go_sem] theorem jec {c a b st}:X p (.cond c a b) st=qm3 (qe st.env c) (X p a) (X p b) st:=by
 rw[q0w];unfold qm3
 cases qe st.env c with
 |none=>rfl
 |some v=>cases v with
  |bool t=>cases t<;>rfl
  |_=>rfl
def qhz (id:Nat)(r:Option (jo×ASt)):Option (jo×ASt):=match r with
 |some (.exit id',st')=>if id'=id then some (.normal,st')else some (.exit id',st')
 |r=>r
@[go_sem] theorem q2f {id id' st}:qhz id (some (.exit id',st))=if id'=id then some (.normal,st)else some (.exit id',st):=rfl
@[go_sem] theorem qzb {id st}:qhz id (some (.normal,st))=some (.normal,st):=rfl
@[go_sem] theorem q59 {id st}:qhz id (some (.ret,st))=some (.ret,st):=rfl
@[go_sem] theorem jdc {id b st}:X p (.block id b) st=qhz id (X p b st):=by
 rw[qyn];unfold qhz
 cases X p b st with
 |none=>rfl
 |some r=>
  obtain⟨x,s⟩:=r
  cases x with
  |exit id'=>
   simp only[]
   by_cases hb:id'=id
   ·subst hb;simp
   ·rw[if_neg hb]
    cases hq:Nat.beq id' id with
    |true=>exact absurd (Nat.eq_of_beq_eq_true hq) hb
    |false=>rfl
  |_=>rfl
noncomputable def qin (p:je)(b:ACode)(n:Nat)(r:Option (jo×ASt)):Option (jo×ASt):=match r with
 |some (.normal,st')=>X p (.loop b) (gc n st')
 |r=>r
theorem qxw {b st}:X p (.loop b) st=qin p b st.heap.length (X p b st):=by
 rw[q1t];unfold qin
 cases X p b st with
 |none=>rfl
 |some r=>obtain⟨x,s⟩:=r;cases x<;>rfl
@[go_sem] theorem qoy {b n st}:qin p b n (some (.normal,st))=X p (.loop b) (gc n st):=rfl
@[go_sem] theorem q8d {b n st}:qin p b n (some (.ret,st))=some (.ret,st):=rfl
@[go_sem] theorem q33 {b n id st}:qin p b n (some (.exit id,st))=some (.exit id,st):=rfl
attribute [go_sem] q0f qz9 q4x qwk qqs q05
@[go_sem] theorem je3 {env}:gc 0 ⟨env,[]⟩=⟨env,[]⟩:=rfl
theorem qc1 {n st}(hn:st.heap.length≤n):gc n st=st:=by
 unfold gc;rw[Nat.ble_eq_true_of_le hn];rfl
theorem je8 {e e' h}:gc (ASt.mk e h).heap.length ⟨e',h⟩=⟨e',h⟩:=qc1 (Nat.le_refl _)
def qwg (k:Option (List Nat))(r:Option ASt):Option (jo×ASt):=match r with
 |some st'=>some (.normal,qev st' k)
 |none=>none
@[go_sem] theorem q8b {k st}:qwg k (some st)=some (.normal,qev st k):=rfl
@[go_sem] theorem jbw {na l k st}:yx p xc na l k st=qwg k (yo p xc st.heap.length l ⟨st.env,st.heap++List.replicate na .hole⟩):=by
 unfold yx qwg;rfl
def qz6 (r:Option ASt)(f:ASt→Option ASt):Option ASt:=match r with
 |some st=>f st
 |none=>none
@[go_sem] theorem q73 {st f}:qz6 (some st) f=f st:=rfl
@[go_sem] theorem jal {st}:yo p xc h0 [] st=some st:=rfl
@[go_sem] theorem q9x {o l st}:yo p xc h0 (o::l) st=qz6 (zf p xc h0 o st) (yo p xc h0 l):=rfl
def qsn (d:Option Nat)(e:Env)(r:Option ORes):Option ASt:=match r with
 |some r=>some ⟨k9 (jt e r.strip) d r.v r.own,r.heap⟩
 |none=>none
@[go_sem] theorem q9w {d v o s}:qsn d e (some ⟨v,o,s,h⟩)=some ⟨k9 (jt e s) d v o,h⟩:=rfl
@[go_sem] theorem qyw {d op env}:zf p xc h0 ⟨d,op,none,al⟩ ⟨env,h⟩=qsn d env (qb p xc h0 al env h op):=rfl
def qjr (g:Option Bool)(d:Option Nat)(env:Env)(h:qi)(f:AOp→Option ORes)(op:AOp):Option ASt:=match g with
 |some true=>qsn d env (f op)
 |some false=>some ⟨k9 env d .undef false,h⟩
 |none=>none
@[go_sem] theorem q21 {d env f op}:qjr (some true) d env h f op=qsn d env (f op):=rfl
@[go_sem] theorem qzz {d env f op}:qjr (some false) d env h f op=some ⟨k9 env d .undef false,h⟩:=rfl
@[go_sem] theorem qy7 {d op g env}:zf p xc h0 ⟨d,op,some g,al⟩ ⟨env,h⟩=qjr (yw env (some g)) d env h (qb p xc h0 al env h) op:=by
 unfold zf qjr
 simp only[]
 split
 ·rename_i hg;rw[hg];rfl
 ·rename_i hg;rw[hg]
 ·rename_i hg;rw[hg]
def qdq (b:Bool)(v:Option (AVal×Bool)):Option Bool:=match v with
 |some (.bool c,_)=>some (c == b)
 |some (.undef,_)=>some false
 |_=>none
@[go_sem] theorem q0m {s b}:yw e (some (s,b))=qdq b (qv s e):=by
 unfold yw qdq;rfl
theorem q3c {b c o}:qdq b (some (.bool c,o))=some (c == b):=rfl
@[go_sem] theorem q0p {b o}:qdq b (some (.undef,o))=some false:=rfl
@[go_sem] theorem q8p {s t x}:qv t ((s,x)::e)=if s=t then some x else qv t e:=by
 by_cases hst:s=t
 ·subst hst;rw[if_pos rfl];simp[qv]
 ·rw[if_neg hst]
  have:Nat.beq s t=false:=by
   cases hb:Nat.beq s t with
   |false=>rfl
   |true=>exact absurd (Nat.eq_of_beq_eq_true hb) hst
  simp[qv,this]
@[go_sem] theorem jb2 {t}:qv t []=none:=rfl
def q04 (x:Option (AVal×Bool)):Option AVal:=match x with
 |some x=>some x.1
 |none=>none
@[go_sem] theorem q9p {v o}:q04 (some (v,o))=some v:=rfl
@[go_sem] theorem q77 {t}:qe e (.tmp t)=q04 (qv t e):=rfl
@[go_sem] theorem q2u {v}:qe e (.const v)=some v:=rfl
def qbz (x:Option AVal)(l:Option (List AVal)):Option (List AVal):=match x,l with
 |some v,some vs=>some (v::vs)
 |_,_=>none
@[go_sem] theorem q3o {v vs}:qbz (some v) (some vs)=some (v::vs):=rfl
@[go_sem] theorem q9s:zw e []=some []:=rfl
@[go_sem] theorem q3k {x l}:zw e (x::l)=qbz (qe e x) (zw e l):=by
 simp only[zw,qbz]
 cases qe e x with
 |none=>rfl
 |some v=>cases zw e l<;>rfl
@[go_sem] theorem q2n {l}:qev ⟨e,h⟩ (some l)=⟨qak e l,h⟩:=rfl
@[go_sem] theorem q3b:qev ⟨e,h⟩ none=⟨e,h⟩:=rfl
def qm8 (t:Nat)(x:Option (AVal×Bool))(e:Env):Env:=match x with
 |some x=>(t,x)::e
 |none=>e
@[go_sem] theorem q4b {t x}:qm8 t (some x) e=(t,x)::e:=rfl
@[go_sem] theorem q3v {t}:qm8 t none e=e:=rfl
@[go_sem] theorem q2j:qak e []=[]:=rfl
@[go_sem] theorem q1j {t l}:qak e (t::l)=qm8 t (qv t e) (qak e l):=by
 simp only[qak,qm8]
 cases qv t e<;>rfl
@[go_sem] theorem q2y {d v o}:k9 e (some d) v o=(d,v,o)::e:=rfl
@[go_sem] theorem q2k {v o}:k9 e none v o=e:=rfl
@[go_sem] theorem qy9:jt e none=e:=rfl
def qot (s:Nat)(x:Option (AVal×Bool))(e:Env):Env:=match x with
 |some (v,_)=>(s,v,false)::e
 |none=>e
@[go_sem] theorem q2t {s v o}:qot s (some (v,o)) e=(s,v,false)::e:=rfl
@[go_sem] theorem qyx {s}:jt e (some s)=qot s (qv s e) e:=by
 simp only[jt,qot]
 cases qv s e<;>rfl
@[go_sem] theorem q3g {i}:qbk i []=[]:=rfl
@[go_sem] theorem q2l {i v vs}:qbk i (v::vs)=(i,v,false)::qbk (i+1) vs:=rfl
@[go_sem] theorem q90 {v}:y9 h (some v)=some ⟨v,false,none,h⟩:=rfl
@[go_sem] theorem jex {v}:val h v=some ⟨v,false,none,h⟩:=rfl
@[go_sem] theorem jet {x}:qb p xc h0 al e h (.move x)=y9 h (qe e x):=rfl
def qrk (s:Nat)(h:qi)(x:Option (AVal×Bool)):Option ORes:=match x with
 |some (v,o)=>some ⟨v,o,some s,h⟩
 |none=>none
@[go_sem] theorem q7d {s v o}:qrk s h (some (v,o))=some ⟨v,o,some s,h⟩:=rfl
@[go_sem] theorem je1 {s}:qb p xc h0 al e h (.take s)=qrk s h (qv s e):=by
 simp only[qb,qg,qrk]
 cases qv s e<;>rfl
def qwc (op:BinOp)(h:qi)(a b:Option AVal):Option ORes:=match a,b with
 |some a,some b=>y9 h (jw op a b)
 |_,_=>none
@[go_sem] theorem q9k {op a b}:qwc op h (some a) (some b)=y9 h (jw op a b):=rfl
@[go_sem] theorem jfn {op x y}:qb p xc h0 al e h (.bin op x y)=qwc op h (qe e x) (qe e y):=by
 simp only[qb,qg,qwc]
 cases qe e x<;>cases qe e y<;>rfl
def qsi (h:qi)(c a b:Option AVal):Option ORes:=match c,a,b with
 |some (.bool t),some x,some y=>val h (bif t then x else y)
 |_,_,_=>none
@[go_sem] theorem q6l {t a b}:qsi h (some (.bool t)) (some a) (some b)=some ⟨bif t then a else b,false,none,h⟩:=rfl
@[go_sem] theorem jej {c a b}:qb p xc h0 al e h (.pick c a b)=qsi h (qe e c) (qe e a) (qe e b):=by
 simp only[qb,qg,qsi]
 cases qe e c with
 |none=>rfl
 |some v=>cases v<;>cases qe e a<;>cases qe e b<;>rfl
def qht (k:Nat)(h:qi)(x:Option AVal):Option ORes:=match k,x with
 |1,some (.list _ _ xs)=>val h (.int .i64 xs.length)
 |1,some (.ms _ _ n)=>val h (.int .i64 n)
 |1,some (.vref _ _ n)=>val h (.int .i64 n)
 |2,some (.list true _ _)=>val h (.int .i64 0)
 |0,some (.str s)=>val h (.int .i64 s.length)
 |_,_=>none
@[go_sem] theorem q87 {b z xs}:qht 1 h (some (.list b z xs))=some ⟨.int .i64 xs.length,false,none,h⟩:=rfl
@[go_sem] theorem jd2 {b o n}:qht 1 h (some (.ms b o n))=some ⟨.int .i64 n,false,none,h⟩:=rfl
@[go_sem] theorem q9v {b v n}:qht 1 h (some (.vref b v n))=some ⟨.int .i64 n,false,none,h⟩:=rfl
@[go_sem] theorem jas {s}:qht 0 h (some (.str s))=some ⟨.int .i64 s.length,false,none,h⟩:=rfl
@[go_sem] theorem jbo {z xs}:qht 2 h (some (.list true z xs))=some ⟨.int .i64 0,false,none,h⟩:=rfl
@[go_sem] theorem jfl {k x}:qb p xc h0 al e h (.len k x)=qht k h (qe e x):=rfl
def qhi (n:Nat)(i:Int):Option Nat:=if 0≤i∧i<n then some i.toNat else none
theorem qfz {n k i}:idx n (.int k i)=qhi n i:=by
 unfold idx qhi
 cases i with
 |ofNat m=>
  by_cases hm:m<n
  ·rw[if_pos ⟨by simp,by simp;omega⟩];simp[Nat.blt_eq.mpr hm]
  ·rw[if_neg (by simp;omega)]
   cases hb:Nat.blt m n with
   |true=>exact absurd (Nat.blt_eq.mp hb) hm
   |false=>simp[hb]
 |negSucc m=>simp
attribute [go_sem] qfz
theorem qyj {n:Nat}{i:Int}(h1:0≤i)(h2:i<n):qhi n i=some i.toNat:=by unfold qhi;rw[if_pos ⟨h1,h2⟩]
theorem qo4 {n i}(h:i<n):qhi n (i:Int)=some i:=by unfold qhi;rw[if_pos ⟨by simp,by omega⟩];simp
def qgj (sz:Nat)(h:qi)(x i:Option AVal):Option ORes:=match x,i with
 |some (.list _ sz' xs),some j=>bif Nat.beq sz sz'||xs.isEmpty then(match idx xs.length j with
   |some j=>(match xs[j]? with
    |some v=>val h (.vptr v)
    |none=>none)
   |none=>none)else none
 |some (.ms b o len),some j=>(match idx len j with
   |some j=>val h (.ptr b (o+j*sz))
   |none=>none)
 |some (.vref b ver len),some j=>(match idx len j with
   |some j=>val h (.vel b ver (j*sz))
   |none=>none)
 |_,_=>none
@[go_sem] theorem q24 {sz x i}:qb p xc h0 al e h (.indexAddr sz x i)=qgj sz h (qe e x) (qe e i):=by
 simp only[qb,qg,qgj]
 cases qe e x with
 |none=>rfl
 |some v=>cases v<;>cases qe e i<;>rfl
theorem qug {sz:Nat}{b:Bool}{k xs i v}(h1:0≤i)(hv:xs[i.toNat]?=some v):qgj sz h (some (.list b sz xs)) (some (.int k i))=some ⟨.vptr v,false,none,h⟩:=by
 have hl:=(List.getElem?_eq_some_iff.1 hv).1
 have hi:idx xs.length (.int k i)=some i.toNat:=by rw[qfz];exact qyj h1 (by omega)
 simp only[qgj,hi,Nat.beq_refl,Bool.true_or,cond_true,hv]
 rfl
theorem qvq {sz:Nat}{b:Bool}{k:IntKind}{xs:List AVal}{i:Nat}{v:AVal}(hv:xs[i]?=some v):qgj sz h (some (.list b sz xs)) (some (.int k (i:Int)))=some ⟨.vptr v,false,none,h⟩:=
 qug (by simp) (by simpa using hv)
def yr (h0:Nat)(al:Option (List Nat))(agg:Bool)(n:Nat)(h:qi)(x:Option AVal):Option ORes:=match x with
 |some (.ptr b o)=>bif jf h0 al b then(match ja h b with
   |some cs=>(match zc cs o n with
    |some vs=>bif agg then val h (.agg vs)else(match vs with
     | [v]=>val h v
     |_=>none)
    |none=>none)
   |none=>none)else none
 |some (.vptr v)=>bif Bool.xor agg v.isAgg||!(Nat.beq v.flat.length n)then none else val h v
 |some (.vel b ver o)=>bif qbv h0 al b then(match jl h b with
   |some (.vec _ ver' xs)=>bif Nat.beq ver ver'&&Nat.ble (o+n) (xs.flatMap AVal.flat).length then(bif agg then val h (.agg (((xs.flatMap AVal.flat).drop o).take n))else(match((xs.flatMap AVal.flat).drop o).take n with
     | [v]=>val h v
     |_=>none))else none
   |_=>none)else none
 |_=>none
@[go_sem] theorem jen {agg n x}:qb p xc h0 al e h (.load agg n x)=yr h0 al agg n h (qe e x):=by
 simp only[qb,j0,yr]
 cases qe e x with
 |none=>rfl
 |some v=>cases v<;>rfl
def qxg:Option AVal→Option AVal
 |some (.vptr v)=>some (.vptr v)
 |_=>none
@[go_sem] theorem jd1 {v}:qxg (some (.vptr v))=some (.vptr v):=rfl
@[go_sem] theorem jd7 {agg n x}:qb p xc h0 al e h (.vload agg n x)=yr h0 al agg n h (qxg (qe e x)):=by
 simp only[qb,qg,yr]
 cases qe e x with
 |none=>rfl
 |some v=>cases v<;>rfl
@[go_sem] theorem q8z {k i}:yr h0 al false 1 h (some (.vptr (.int k i)))=some ⟨.int k i,false,none,h⟩:=rfl
@[go_sem] theorem q75 {s}:yr h0 al false 1 h (some (.vptr (.str s)))=some ⟨.str s,false,none,h⟩:=rfl
@[go_sem] theorem q7o {b}:yr h0 al false 1 h (some (.vptr (.bool b)))=some ⟨.bool b,false,none,h⟩:=rfl
@[go_sem] theorem q65 {b z xs}:yr h0 al false 1 h (some (.vptr (.list b z xs)))=some ⟨.list b z xs,false,none,h⟩:=rfl
theorem qtb {n cs}(hn:cs.length=n):yr h0 al true n h (some (.vptr (.agg cs)))=some ⟨.agg cs,false,none,h⟩:=by
 subst hn;simp[yr,AVal.isAgg,AVal.flat,val]
@[go_sem] theorem jfi {k x y}:jw .add (.int k x) (.int k y)=some (.int k (qa k (x+y))):=by simp[jw,kf]
@[go_sem] theorem jfs {k x y}:jw .sub (.int k x) (.int k y)=some (.int k (qa k (x-y))):=by simp[jw,kf]
@[go_sem] theorem je9 {k x y}:jw .mul (.int k x) (.int k y)=some (.int k (qa k (x*y))):=by simp[jw,kf]
@[go_sem] theorem jfo {k x y}:jw .lss (.int k x) (.int k y)=some (.bool (decide (x<y))):=by simp[jw,kf]
@[go_sem] theorem jfq {k x y}:jw .leq (.int k x) (.int k y)=some (.bool (decide (x≤y))):=by simp[jw,kf]
@[go_sem] theorem jfr {k x y}:jw .gtr (.int k x) (.int k y)=some (.bool (decide (y<x))):=by simp[jw,kf]
@[go_sem] theorem jfd {k x y}:jw .geq (.int k x) (.int k y)=some (.bool (decide (y≤x))):=by simp[jw,kf]
@[go_sem] theorem jfg {k x y}:jw .eql (.int k x) (.int k y)=some (.bool (decide (x=y))):=by
 simp only[jw,kf,decide_true,cond_true];congr 2
@[go_sem] theorem jfc {k x y}:jw .neq (.int k x) (.int k y)=some (.bool (!decide (x=y))):=by
 simp only[jw,kf,decide_true,cond_true];congr 2
theorem q9 {x}(h1:-9223372036854775808≤x)(h2:x≤9223372036854775807):qa .i64 x=x:=by
 have:qbg .i64 x=true:=by
  cases x with
  |ofNat m=>simp only[qbg];exact Nat.ble_eq_true_of_le (by simp at h2;omega)
  |negSucc m=>simp only[qbg];exact Nat.ble_eq_true_of_le (by omega)
 simp[qa,this]
def qw2 (h:qi)(b:Bool)(r:Option (AVal×Bool)):Option ORes:=match b,r with
 |true,some (v,o)=>some ⟨v,o,none,h⟩
 |_,_=>none
@[go_sem] theorem q7z {v o}:qw2 h true (some (v,o))=some ⟨v,o,none,h⟩:=rfl
def qwa (n:Nat)(r:Option (AVal×Bool×qi)):Option ORes:=match r with
 |some (v,o,h')=>some ⟨v,o,none,ya n v h'⟩
 |none=>none
@[go_sem] theorem q8a {n v o}:qwa n (some (v,o,h))=some ⟨v,o,none,ya n v h⟩:=rfl
def qph (r:Option (AVal×qi)):Option ORes:=match r with
 |some (v,h')=>some ⟨v,false,none,h'⟩
 |none=>none
@[go_sem] theorem q2h {v}:qph (some (v,h))=some ⟨v,false,none,h⟩:=rfl
def qs1 (h0 r:Nat)(h:qi)(b:Bool)(m:Option (List (AVal×AVal))):Option ORes:=match b,m with
 |true,some es=>(match newBox h0 h r (.map es)with
  |some h'=>some ⟨.map (h0+r),false,none,h'⟩
  |none=>none)
 |_,_=>none
def qob (h0 r:Nat)(h:qi)(b b':Bool)(m:Option (List (AVal×AVal)))(c:Option (AVal×Bool)):Option ORes:=match b with
 |true=>qs1 h0 r h true m
 |false=>(match b',c with
  |true,some (v,o)=>qcf h0 h r v o
  |_,_=>none)
@[go_sem] theorem jar {r b' m c}:qob h0 r h true b' m c=qs1 h0 r h true m:=rfl
@[go_sem] theorem q9t {r m v o}:qob h0 r h false true m (some (v,o))=qcf h0 h r v o:=rfl
def q1a (p:je)(xc:XC)(h:qi)(k:Nat):Option (List AVal)→Option ORes
 |some us=>bif qo 0 us then(match qd p xc k us with
  |some (v,o)=>(match qrq v o with
   |some (v',o')=>some ⟨v',o',none,h⟩
   |none=>none)
  |none=>none)else none
 |none=>none
def qgg (p:je)(xc:XC)(h0:Nat)(h:qi)(md:CMode)(f:Option AVal)(l:Option (List AVal)):Option ORes:=match f,l with
 |some (.fn (.func k) a c),some vs=>(match md with
  | .iso=>qw2 h (qo 0 (a++vs++c)) (qd p xc k (a++vs++c))
  | .frz r=>qob h0 r h (a++vs++c).isEmpty (qo 0 (a++vs++c)) (p.maps k) (qd p xc k (a++vs++c))
  | .red=>q1a p xc h k (qca h (a++vs++c))
  | .shr=>qwa h.length (jq p xc k (a++vs++c) h))
 |some (.fn (.yield b) [] []),some vs=>(match md with
  | .shr=>qph (y5 xc b vs h)
  |_=>none)
 |_,_=>none
@[go_sem] theorem jeq {md f l}:qb p xc h0 al e h (.call md f l)=qgg p xc h0 h md (qe e f) (zw e l):=by
 simp only[qb,ze,qgg]
 split
 ·rename_i k first captured vs h1 h2
  rw[h1,h2]
  cases md with
  |iso=>
   simp only[]
   cases qo 0 (first++vs++captured)with
   |false=>cases qd p xc k (first++vs++captured)<;>rfl
   |true=>cases qd p xc k (first++vs++captured)<;>rfl
  |frz rk=>
   simp only[]
   cases (first++vs++captured).isEmpty with
   |false=>
    cases qo 0 (first++vs++captured)with
    |false=>cases qd p xc k (first++vs++captured)<;>rfl
    |true=>cases qd p xc k (first++vs++captured)<;>rfl
   |true=>
    cases p.maps k with
    |none=>rfl
    |some es=>simp only[cond_true,qob,qs1];cases newBox h0 h rk (.map es)<;>rfl
  |red=>simp only[];cases qca h (first++vs++captured)<;>rfl
  |shr=>simp only[];cases jq p xc k (first++vs++captured) h<;>rfl
 ·rename_i b vs h1 h2
  rw[h1,h2]
  cases md with
  |shr=>simp only[];cases y5 xc b vs h<;>rfl
  |_=>rfl
 ·rename_i h1 h2
  split
  ·rename_i k a c vs g1 g2;exact absurd g2 (fun g2=>h1 k a c vs g1 g2)
  ·rename_i b vs g1 g2;exact absurd g2 (fun g2=>h2 b vs g1 g2)
  ·rfl
@[go_sem] theorem q8u {k a c vs}:qgg p xc h0 h .iso (some (.fn (.func k) a c)) (some vs)=qw2 h (qo 0 (a++vs++c)) (qd p xc k (a++vs++c)):=rfl
@[go_sem] theorem q9m {k r a c vs}:qgg p xc h0 h (.frz r) (some (.fn (.func k) a c)) (some vs)=qob h0 r h (a++vs++c).isEmpty (qo 0 (a++vs++c)) (p.maps k) (qd p xc k (a++vs++c)):=rfl
@[go_sem] theorem q8f {k a c vs}:qgg p xc h0 h .red (some (.fn (.func k) a c)) (some vs)=q1a p xc h k (qca h (a++vs++c)):=rfl
@[go_sem] theorem q9z {k a c vs}:qgg p xc h0 h .shr (some (.fn (.func k) a c)) (some vs)=qwa h.length (jq p xc k (a++vs++c) h):=rfl
@[go_sem] theorem q22 {b vs}:qgg p xc h0 h .shr (some (.fn (.yield b) [] [])) (some vs)=qph (y5 xc b vs h):=rfl
def qrc (rs:List qcl)(r:Option (jo×ASt)):Option (AVal×Bool×qi):=match r with
 |some (.normal,st)=>(match zp st rs with
   |some xs=>some ((jc xs).1,(jc xs).2,zu st rs)
   |none=>none)
 |some (.ret,st)=>(match zp st rs with
   |some xs=>some ((jc xs).1,(jc xs).2,zu st rs)
   |none=>none)
 |_=>none
def qwu (st:ASt)(rs:List qcl)(r:Option (List (AVal×Bool))):Option (AVal×Bool×qi):=match r with
 |some xs=>some ((jc xs).1,(jc xs).2,zu st rs)
 |none=>none
@[go_sem] theorem q25 {rs st}:qrc rs (some (.normal,st))=qwu st rs (zp st rs):=rfl
@[go_sem] theorem ja0 {rs st}:qrc rs (some (.ret,st))=qwu st rs (zp st rs):=rfl
@[go_sem] theorem q9q {st rs xs}:qwu st rs (some xs)=some ((jc xs).1,(jc xs).2,zu st rs):=rfl
theorem qm {k nt body rs args}(hf:p.fns k=some ⟨nt,body,rs⟩)(hl:args.length≤nt):jq p xc k args h=qrc rs (xc body ⟨qbk 0 args,h⟩):=by
 simp only[jq,hf,ki,Nat.ble_eq_true_of_le hl,cond_true,qrc]
 rfl
def qq4 (x:Option (AVal×Bool))(l:Option (List (AVal×Bool))):Option (List (AVal×Bool)):=match x,l with
 |some v,some vs=>some (v::vs)
 |_,_=>none
@[go_sem] theorem q7e {v vs}:qq4 (some v) (some vs)=some (v::vs):=rfl
@[go_sem] theorem qy2 {st}:zp st []=some []:=rfl
@[go_sem] theorem qyd {st r rs}:zp st (r::rs)=qq4 (qac st r) (zp st rs):=by
 simp only[zp,qq4]
 cases qac st r with
 |none=>rfl
 |some v=>cases zp st rs<;>rfl
@[go_sem] theorem q00 {t}:qac ⟨e,h⟩ (.tmp t)=qv t e:=rfl
@[go_sem] theorem jaj {x}:jc [x]=x:=rfl
@[go_sem] theorem jcd {x y}:jc [x,y]=(.tup [x.1,y.1],false):=rfl
@[go_sem] theorem q3p {x y z}:jc [x,y,z]=(.tup [x.1,y.1,z.1],false):=rfl
@[go_sem] theorem q7y:jc []=(.tup [],false):=rfl
@[go_sem] theorem q8e {st t}:zu st [.tmp t]=st.heap:=rfl
@[go_sem] theorem q7x {st x y l}:zu st (x::y::l)=st.heap:=by
 cases x with
 |tmp t=>rfl
 |cell t a n=>cases a<;>rfl
@[go_sem] theorem q69 {st}:zu st []=st.heap:=rfl
@[go_sem] theorem q8j {st t n}:zu st [.cell t true n]=st.heap:=rfl
@[go_sem] theorem jb8 {o}:qdq true (some (.bool true,o))=some true:=rfl
@[go_sem] theorem ja5 {o}:qdq true (some (.bool false,o))=some false:=rfl
@[go_sem] theorem jaf {o}:qdq false (some (.bool true,o))=some false:=rfl
@[go_sem] theorem jck {o}:qdq false (some (.bool false,o))=some true:=rfl
attribute [go_sem] cond_true cond_false decide_true decide_false Bool.not_true Bool.not_false List.append_nil List.nil_append List.length_cons List.length_nil
@[go_sem] theorem jfb:List.replicate 0 ABox.hole=[]:=rfl
end
section
variable {p:je}{xc:XC}{h0:Nat}{al:Option (List Nat)}{e:Env}{h:qi}{α:Type}
def sl (z:Nat)(f:α→AVal):Option (List α)→AVal
 |none=>.list true 0 []
 |some l=>.list false z (l.map f)
@[go_sem] theorem jes {z:Nat}{f:α→AVal}{l}:qht 1 h (some (sl z f l))=some ⟨.int .i64 (l.getD []).length,false,none,h⟩:=by
 cases l<;>simp[sl,qht,val]
theorem qz5 {z:Nat}{f:α→AVal}{l:Option (List α)}{k:IntKind}{i:Nat}{x:α}(hx:(l.getD [])[i]?=some x):qgj z h (some (sl z f l)) (some (.int k (i:Int)))=some ⟨.vptr (f x),false,none,h⟩:=by
 cases l with
 |none=>simp at hx
 |some l=>exact qvq (by rw[List.getElem?_map,show l[i]?=some x from hx];rfl)
theorem qoo {n z:Nat}{f:α→AVal}{l}(hf:∀x,below n (f x)=true):below n (sl z f l)=true:=by
 have key:∀l:List α,qo n (l.map f)=true:=by
  intro l
  induction l with
  |nil=>rfl
  |cons x l ih=>simp[qo,hf,ih]
 cases l with
 |none=>rfl
 |some l=>simp only[sl,below];exact key l
theorem jel {z:Nat}{f:α→AVal}(hf:∀x y,f x=f y→x=y){a b}(hab:sl z f a=sl z f b):a=b:=by
 have key:∀a b:List α,a.map f=b.map f→a=b:=by
  intro a
  induction a with
  |nil=>intro b hb;cases b<;>simp at hb<;>rfl
  |cons x a ih=>
   intro b hb
   cases b with
   |nil=>simp at hb
   |cons y b=>simp at hb;rw[hf _ _ hb.1,ih _ hb.2]
 cases a<;>cases b<;>simp[sl]at hab<;>first|rfl|rw[key _ _ hab]
def y6 (n:Int):AVal:=.int .i64 n
@[go_sem] theorem q3j {i}:yr h0 al false 1 h (some (.vptr (y6 i)))=some ⟨.int .i64 i,false,none,h⟩:=rfl
end
end Go.Abs
