/- Equations of the executor for runs on values that are not known. -/
import Derived.Test.YtfopaakmgogpiaaGreatDoorAbsH
set_option linter.unusedVariables false
set_option linter.unusedSimpArgs false
namespace Go.Abs
section
variable {p:jw} {xc:XC} {h0:Nat} {al:Option (List Nat)} {e:Env} {h:qf}
def qv2 (r:Option (jd × ASt)) (f:ASt→Option (jd × ASt)):Option (jd × ASt):=match r with
 | some (.normal,st)=>f st
 | r=>r
@[go_sem] theorem jme {st:ASt} {f:ASt→Option (jd × ASt)}:qv2 (some (.normal,st)) f=f st:=rfl
@[go_sem] theorem j49 {st:ASt} {f:ASt→Option (jd × ASt)}:qv2 (some (.ret,st)) f=some (.ret,st):=rfl
@[go_sem] theorem jyb {id:Nat} {st:ASt} {f:ASt→Option (jd × ASt)}:qv2 (some (.exit id,st)) f=some (.exit id,st):=rfl
@[go_sem] theorem zhb {a b:ACode} {st:ASt}:X p (.seq a b) st=qv2 (X p a st) (X p b):=by
 rw [jxa]; unfold qv2
 cases X p a st with
 | none=>rfl
 | some r=>obtain ⟨x,s⟩:=r; cases x <;> rfl
def qz8 (c:Option AVal) (f g:ASt→Option (jd × ASt)) (st:ASt):Option (jd × ASt):=match c with
 | some (.bool true)=>f st
 | some (.bool false)=>g st
 | _=>none
@[go_sem] theorem ju5 {f g:ASt→Option (jd × ASt)} {st:ASt}:qz8 (some (.bool true)) f g st=f st:=rfl
@[go_sem] theorem jtu {f g:ASt→Option (jd × ASt)} {st:ASt}:qz8 (some (.bool false)) f g st=g st:=rfl
@[go_sem] theorem zg6 {c:qq} {a b:ACode} {st:ASt}:X p (.cond c a b) st=qz8 (qj st.env c) (X p a) (X p b) st:=by
 rw [jpn]; unfold qz8
 cases qj st.env c with
 | none=>rfl
 | some v=>cases v with
  | bool t=>cases t <;> rfl
  | _=>rfl
def qpv (id:Nat) (r:Option (jd × ASt)):Option (jd × ASt):=match r with
 | some (.exit id',st')=>if id'=id then some (.normal,st') else some (.exit id',st')
 | r=>r
@[go_sem] theorem jth {id id':Nat} {st:ASt}:qpv id (some (.exit id',st))=if id'=id then some (.normal,st) else some (.exit id',st):=rfl
@[go_sem] theorem jl0 {id:Nat} {st:ASt}:qpv id (some (.normal,st))=some (.normal,st):=rfl
@[go_sem] theorem jz7 {id:Nat} {st:ASt}:qpv id (some (.ret,st))=some (.ret,st):=rfl
@[go_sem] theorem zcx {id:Nat} {b:ACode} {st:ASt}:X p (.block id b) st=qpv id (X p b st):=by
 rw [jjd]; unfold qpv
 cases X p b st with
 | none=>rfl
 | some r=>
  obtain ⟨x,s⟩:=r
  cases x with
  | exit id'=>
   simp only []
   by_cases hb:id'=id
   ·subst hb; simp
   ·rw [if_neg hb]
    cases hq:Nat.beq id' id with
    | true=>exact absurd (Nat.eq_of_beq_eq_true hq) hb
    | false=>rfl
  | _=>rfl
noncomputable def qsc (p:jw) (b:ACode) (n:Nat) (r:Option (jd × ASt)):Option (jd × ASt):=match r with
 | some (.normal,st')=>X p (.loop b) (gc n st')
 | r=>r
theorem jle {b:ACode} {st:ASt}:X p (.loop b) st=qsc p b st.heap.length (X p b st):=by
 rw [js6]; unfold qsc
 cases X p b st with
 | none=>rfl
 | some r=>obtain ⟨x,s⟩:=r; cases x <;> rfl
@[go_sem] theorem q08 {b:ACode} {n:Nat} {st:ASt}:qsc p b n (some (.normal,st))=X p (.loop b) (gc n st):=rfl
@[go_sem] theorem j5q {b:ACode} {n:Nat} {st:ASt}:qsc p b n (some (.ret,st))=some (.ret,st):=rfl
@[go_sem] theorem j3l {b:ACode} {n id:Nat} {st:ASt}:qsc p b n (some (.exit id,st))=some (.exit id,st):=rfl
attribute [go_sem] jso jq4 j16 jdt qxq jn7
@[go_sem] theorem zhd {env:Env}:gc 0 ⟨env,[]⟩=⟨env,[]⟩:=rfl
theorem qg3 {n:Nat} {st:ASt} (hn:st.heap.length≤n):gc n st=st:=by
 unfold gc; rw [Nat.ble_eq_true_of_le hn]; rfl
theorem zhz {e e':Env} {h:qf}:gc (ASt.mk e h).heap.length ⟨e',h⟩=⟨e',h⟩:=qg3 (Nat.le_refl _)
def jc6 (k:Option (List Nat)) (r:Option ASt):Option (jd × ASt):=match r with
 | some st'=>some (.normal,qj6 st' k)
 | none=>none
@[go_sem] theorem j6q {k:Option (List Nat)} {st:ASt}:jc6 k (some st)=some (.normal,qj6 st k):=rfl
@[go_sem] theorem j80 {na:Nat} {l:List AOper} {k:Option (List Nat)} {st:ASt}:qa4 p xc na l k st=jc6 k (qar p xc st.heap.length l ⟨st.env,st.heap++List.replicate na .hole⟩):=by
 unfold qa4 jc6; rfl
def jod (r:Option ASt) (f:ASt→Option ASt):Option ASt:=match r with
 | some st=>f st
 | none=>none
@[go_sem] theorem j5f {st:ASt} {f:ASt→Option ASt}:jod (some st) f=f st:=rfl
@[go_sem] theorem zcn {st:ASt}:qar p xc h0 [] st=some st:=rfl
@[go_sem] theorem j43 {o:AOper} {l:List AOper} {st:ASt}:qar p xc h0 (o::l) st=jod (yq p xc h0 o st) (qar p xc h0 l):=rfl
def q8c (d:Option Nat) (e:Env) (r:Option ORes):Option ASt:=match r with
 | some r=>some ⟨qb9 (z8 e r.strip) d r.v r.own,r.heap⟩
 | none=>none
@[go_sem] theorem j5l {d:Option Nat} {v:AVal} {o:Bool} {s:Option Nat}:q8c d e (some ⟨v,o,s,h⟩)=some ⟨qb9 (z8 e s) d v o,h⟩:=rfl
@[go_sem] theorem jl6 {d:Option Nat} {op:AOp} {env:Env}:yq p xc h0 ⟨d,op,none,al⟩ ⟨env,h⟩=q8c d env (qg p xc h0 al env h op):=rfl
def qus (g:Option Bool) (d:Option Nat) (env:Env) (h:qf) (f:AOp→Option ORes) (op:AOp):Option ASt:=match g with
 | some true=>q8c d env (f op)
 | some false=>some ⟨qb9 env d .undef false,h⟩
 | none=>none
@[go_sem] theorem juh {d:Option Nat} {env:Env} {f:AOp→Option ORes} {op:AOp}:qus (some true) d env h f op=q8c d env (f op):=rfl
@[go_sem] theorem jp6 {d:Option Nat} {env:Env} {f:AOp→Option ORes} {op:AOp}:qus (some false) d env h f op=some ⟨qb9 env d .undef false,h⟩:=rfl
@[go_sem] theorem jl5 {d:Option Nat} {op:AOp} {g:Nat × Bool} {env:Env}:yq p xc h0 ⟨d,op,some g,al⟩ ⟨env,h⟩=qus (qa6 env (some g)) d env h (qg p xc h0 al env h) op:=by
 unfold yq qus
 simp only []
 split
 ·rename_i hg; rw [hg]; rfl
 ·rename_i hg; rw [hg]
 ·rename_i hg; rw [hg]
def qhp (b:Bool) (v:Option (AVal × Bool)):Option Bool:=match v with
 | some (.bool c,_)=>some (c == b)
 | some (.undef,_)=>some false
 | _=>none
@[go_sem] theorem jm1 {s:Nat} {b:Bool}:qa6 e (some (s,b))=qhp b (jm s e):=by
 unfold qa6 qhp; rfl
theorem jtl {b c:Bool} {o:Bool}:qhp b (some (.bool c,o))=some (c == b):=rfl
@[go_sem] theorem jsw {b:Bool} {o:Bool}:qhp b (some (.undef,o))=some false:=rfl
@[go_sem] theorem j7c {s t:Nat} {x:AVal × Bool}:jm t ((s,x)::e)=if s=t then some x else jm t e:=by
 by_cases hst:s=t
 ·subst hst; rw [if_pos rfl]; simp [jm]
 ·rw [if_neg hst]
  have:Nat.beq s t=false:=by
   cases hb:Nat.beq s t with
   | false=>rfl
   | true=>exact absurd (Nat.eq_of_beq_eq_true hb) hst
  simp [jm,this]
@[go_sem] theorem zcy {t:Nat}:jm t []=none:=rfl
def js4 (x:Option (AVal × Bool)):Option AVal:=match x with
 | some x=>some x.1
 | none=>none
@[go_sem] theorem j5e {v:AVal} {o:Bool}:js4 (some (v,o))=some v:=rfl
@[go_sem] theorem j5d {t:Nat}:qj e (.tmp t)=js4 (jm t e):=rfl
@[go_sem] theorem jte {v:AVal}:qj e (.const v)=some v:=rfl
def qfg (x:Option AVal) (l:Option (List AVal)):Option (List AVal):=match x,l with
 | some v,some vs=>some (v::vs)
 | _,_=>none
@[go_sem] theorem jzg {v:AVal} {vs:List AVal}:qfg (some v) (some vs)=some (v::vs):=rfl
@[go_sem] theorem j5a:kl e []=some []:=rfl
@[go_sem] theorem j17 {x:qq} {l:List qq}:kl e (x::l)=qfg (qj e x) (kl e l):=by
 simp only [kl,qfg]
 cases qj e x with
 | none=>rfl
 | some v=>cases kl e l <;> rfl
@[go_sem] theorem jt1 {l:List Nat}:qj6 ⟨e,h⟩ (some l)=⟨qc5 e l,h⟩:=rfl
@[go_sem] theorem jtz:qj6 ⟨e,h⟩ none=⟨e,h⟩:=rfl
def q0b (t:Nat) (x:Option (AVal × Bool)) (e:Env):Env:=match x with
 | some x=>(t,x)::e
 | none=>e
@[go_sem] theorem j4y {t:Nat} {x:AVal × Bool}:q0b t (some x) e=(t,x)::e:=rfl
@[go_sem] theorem j4o {t:Nat}:q0b t none e=e:=rfl
@[go_sem] theorem jt0:qc5 e []=[]:=rfl
@[go_sem] theorem joz {t:Nat} {l:List Nat}:qc5 e (t::l)=q0b t (jm t e) (qc5 e l):=by
 simp only [qc5,q0b]
 cases jm t e <;> rfl
@[go_sem] theorem jue {d:Nat} {v:AVal} {o:Bool}:qb9 e (some d) v o=(d,v,o)::e:=rfl
@[go_sem] theorem jt6 {v:AVal} {o:Bool}:qb9 e none v o=e:=rfl
@[go_sem] theorem jl8:z8 e none=e:=rfl
def q0z (s:Nat) (x:Option (AVal × Bool)) (e:Env):Env:=match x with
 | some (v,_)=>(s,v,false)::e
 | none=>e
@[go_sem] theorem jtr {s:Nat} {v:AVal} {o:Bool}:q0z s (some (v,o)) e=(s,v,false)::e:=rfl
@[go_sem] theorem jl2 {s:Nat}:z8 e (some s)=q0z s (jm s e) e:=by
 simp only [z8,q0z]
 cases jm s e <;> rfl
@[go_sem] theorem juu {i:Nat}:qdc i []=[]:=rfl
@[go_sem] theorem jud {i:Nat} {v:AVal} {vs:List AVal}:qdc i (v::vs)=(i,v,false)::qdc (i + 1) vs:=rfl
@[go_sem] theorem j5v {v:AVal}:qa5 h (some v)=some ⟨v,false,none,h⟩:=rfl
@[go_sem] theorem zhq {v:AVal}:val h v=some ⟨v,false,none,h⟩:=rfl
@[go_sem] theorem zhn {x:qq}:qg p xc h0 al e h (.move x)=qa5 h (qj e x):=rfl
def q6b (s:Nat) (h:qf) (x:Option (AVal × Bool)):Option ORes:=match x with
 | some (v,o)=>some ⟨v,o,some s,h⟩
 | none=>none
@[go_sem] theorem j01 {s:Nat} {v:AVal} {o:Bool}:q6b s h (some (v,o))=some ⟨v,o,some s,h⟩:=rfl
@[go_sem] theorem zho {s:Nat}:qg p xc h0 al e h (.take s)=q6b s h (jm s e):=by
 simp only [qg,qp,q6b]
 cases jm s e <;> rfl
def jfw (op:BinOp) (h:qf) (a b:Option AVal):Option ORes:=match a,b with
 | some a,some b=>qa5 h (ym op a b)
 | _,_=>none
@[go_sem] theorem j6c {op:BinOp} {a b:AVal}:jfw op h (some a) (some b)=qa5 h (ym op a b):=rfl
@[go_sem] theorem zih {op:BinOp} {x y:qq}:qg p xc h0 al e h (.bin op x y)=jfw op h (qj e x) (qj e y):=by
 simp only [qg,qp,jfw]
 cases qj e x <;> cases qj e y <;> rfl
def q53 (h:qf) (c a b:Option AVal):Option ORes:=match c,a,b with
 | some (.bool t),some x,some y=>val h (bif t then x else y)
 | _,_,_=>none
@[go_sem] theorem jys {t:Bool} {a b:AVal}:q53 h (some (.bool t)) (some a) (some b)=some ⟨bif t then a else b,false,none,h⟩:=rfl
@[go_sem] theorem zhl {c a b:qq}:qg p xc h0 al e h (.pick c a b)=q53 h (qj e c) (qj e a) (qj e b):=by
 simp only [qg,qp,q53]
 cases qj e c with
 | none=>rfl
 | some v=>cases v <;> cases qj e a <;> cases qj e b <;> rfl
def qo9 (k:Nat) (h:qf) (x:Option AVal):Option ORes:=match k,x with
 | 1,some (.list _ _ xs)=>val h (.int .i64 xs.length)
 | 1,some (.ms _ _ n)=>val h (.int .i64 n)
 | 1,some (.vref _ _ n)=>val h (.int .i64 n)
 | 2,some (.list true _ _)=>val h (.int .i64 0)
 | 0,some (.str s)=>val h (.int .i64 s.length)
 | _,_=>none
@[go_sem] theorem j5m {b:Bool} {z:Nat} {xs:List AVal}:qo9 1 h (some (.list b z xs))=some ⟨.int .i64 xs.length,false,none,h⟩:=rfl
@[go_sem] theorem zgk {b o n:Nat}:qo9 1 h (some (.ms b o n))=some ⟨.int .i64 n,false,none,h⟩:=rfl
@[go_sem] theorem j67 {b v n:Nat}:qo9 1 h (some (.vref b v n))=some ⟨.int .i64 n,false,none,h⟩:=rfl
@[go_sem] theorem zd6 {s:List UInt8}:qo9 0 h (some (.str s))=some ⟨.int .i64 s.length,false,none,h⟩:=rfl
@[go_sem] theorem zek {z:Nat} {xs:List AVal}:qo9 2 h (some (.list true z xs))=some ⟨.int .i64 0,false,none,h⟩:=rfl
@[go_sem] theorem zia {k:Nat} {x:qq}:qg p xc h0 al e h (.len k x)=qo9 k h (qj e x):=rfl
def qkz (n:Nat) (i:Int):Option Nat:=if 0≤i∧i < n then some i.toNat else none
theorem qfr {n:Nat} {k:IntKind} {i:Int}:idx n (.int k i)=qkz n i:=by
 unfold idx qkz
 cases i with
 | ofNat m=>
  by_cases hm:m < n
  ·rw [if_pos ⟨by simp,by simp; omega⟩]; simp [Nat.blt_eq.mpr hm]
  ·rw [if_neg (by simp; omega)]
   cases hb:Nat.blt m n with
   | true=>exact absurd (Nat.blt_eq.mp hb) hm
   | false=>simp [hb]
 | negSucc m=>simp
attribute [go_sem] qfr
theorem jka {n:Nat} {i:Int} (h1:0≤i) (h2:i < n):qkz n i=some i.toNat:=by unfold qkz; rw [if_pos ⟨h1,h2⟩]
theorem qtd {n i:Nat} (h:i < n):qkz n (i:Int)=some i:=by unfold qkz; rw [if_pos ⟨by simp,by omega⟩]; simp
def qbd (sz:Nat) (h:qf) (x i:Option AVal):Option ORes:=match x,i with
 | some (.list _ sz' xs),some j=>bif Nat.beq sz sz' || xs.isEmpty then (match idx xs.length j with
   | some j=>(match xs[j]? with
    | some v=>val h (.vptr v)
    | none=>none)
   | none=>none) else none
 | some (.ms b o len),some j=>(match idx len j with
   | some j=>val h (.ptr b (o + j * sz))
   | none=>none)
 | some (.vref b ver len),some j=>(match idx len j with
   | some j=>val h (.vel b ver (j * sz))
   | none=>none)
 | _,_=>none
@[go_sem] theorem jto {sz:Nat} {x i:qq}:qg p xc h0 al e h (.indexAddr sz x i)=qbd sz h (qj e x) (qj e i):=by
 simp only [qg,qp,qbd]
 cases qj e x with
 | none=>rfl
 | some v=>cases v <;> cases qj e i <;> rfl
theorem q95 {sz:Nat} {b:Bool} {k:IntKind} {xs:List AVal} {i:Int} {v:AVal} (h1:0≤i) (hv:xs[i.toNat]?=some v):qbd sz h (some (.list b sz xs)) (some (.int k i))=some ⟨.vptr v,false,none,h⟩:=by
 have hl:=(List.getElem?_eq_some_iff.1 hv).1
 have hi:idx xs.length (.int k i)=some i.toNat:=by rw [qfr]; exact jka h1 (by omega)
 simp only [qbd,hi,Nat.beq_refl,Bool.true_or,cond_true,hv]
 rfl
theorem jdr {sz:Nat} {b:Bool} {k:IntKind} {xs:List AVal} {i:Nat} {v:AVal} (hv:xs[i]?=some v):qbd sz h (some (.list b sz xs)) (some (.int k (i:Int)))=some ⟨.vptr v,false,none,h⟩:=
 q95 (by simp) (by simpa using hv)
def yr (h0:Nat) (al:Option (List Nat)) (agg:Bool) (n:Nat) (h:qf) (x:Option AVal):Option ORes:=match x with
 | some (.ptr b o)=>bif j9 h0 al b then (match ju h b with
   | some cs=>(match zh cs o n with
    | some vs=>bif agg then val h (.agg vs) else (match vs with
     | [v]=>val h v
     | _=>none)
    | none=>none)
   | none=>none) else none
 | some (.vptr v)=>bif Bool.xor agg v.isAgg || !(Nat.beq v.flat.length n) then none else val h v
 | some (.vel b ver o)=>bif qe3 h0 al b then (match ze h b with
   | some (.vec _ ver' xs)=>bif Nat.beq ver ver' && Nat.ble (o + n) (xs.flatMap AVal.flat).length then (bif agg then val h (.agg (((xs.flatMap AVal.flat).drop o).take n)) else (match ((xs.flatMap AVal.flat).drop o).take n with
     | [v]=>val h v
     | _=>none)) else none
   | _=>none) else none
 | _=>none
@[go_sem] theorem zg9 {agg:Bool} {n:Nat} {x:qq}:qg p xc h0 al e h (.load agg n x)=yr h0 al agg n h (qj e x):=by
 simp only [qg,yg,yr]
 cases qj e x with
 | none=>rfl
 | some v=>cases v <;> rfl
def jib:Option AVal→Option AVal
 | some (.vptr v)=>some (.vptr v)
 | _=>none
@[go_sem] theorem zgp {v:AVal}:jib (some (.vptr v))=some (.vptr v):=rfl
@[go_sem] theorem zg4 {agg:Bool} {n:Nat} {x:qq}:qg p xc h0 al e h (.vload agg n x)=yr h0 al agg n h (jib (qj e x)):=by
 simp only [qg,qp,yr]
 cases qj e x with
 | none=>rfl
 | some v=>cases v <;> rfl
@[go_sem] theorem j5w {k:IntKind} {i:Int}:yr h0 al false 1 h (some (.vptr (.int k i)))=some ⟨.int k i,false,none,h⟩:=rfl
@[go_sem] theorem j6v {s:List UInt8}:yr h0 al false 1 h (some (.vptr (.str s)))=some ⟨.str s,false,none,h⟩:=rfl
@[go_sem] theorem jyq {b:Bool}:yr h0 al false 1 h (some (.vptr (.bool b)))=some ⟨.bool b,false,none,h⟩:=rfl
@[go_sem] theorem j0b {b:Bool} {z:Nat} {xs:List AVal}:yr h0 al false 1 h (some (.vptr (.list b z xs)))=some ⟨.list b z xs,false,none,h⟩:=rfl
theorem ja9 {n:Nat} {cs:List AVal} (hn:cs.length=n):yr h0 al true n h (some (.vptr (.agg cs)))=some ⟨.agg cs,false,none,h⟩:=by
 subst hn; simp [yr,AVal.isAgg,AVal.flat,val]
@[go_sem] theorem zif {k:IntKind} {x y:Int}:ym .add (.int k x) (.int k y)=some (.int k (qe k (x + y))):=by simp [ym,qdb]
@[go_sem] theorem zhy {k:IntKind} {x y:Int}:ym .sub (.int k x) (.int k y)=some (.int k (qe k (x - y))):=by simp [ym,qdb]
@[go_sem] theorem zie {k:IntKind} {x y:Int}:ym .mul (.int k x) (.int k y)=some (.int k (qe k (x * y))):=by simp [ym,qdb]
@[go_sem] theorem zh8 {k:IntKind} {x y:Int}:ym .lss (.int k x) (.int k y)=some (.bool (decide (x < y))):=by simp [ym,qdb]
@[go_sem] theorem zh3 {k:IntKind} {x y:Int}:ym .leq (.int k x) (.int k y)=some (.bool (decide (x≤y))):=by simp [ym,qdb]
@[go_sem] theorem zic {k:IntKind} {x y:Int}:ym .gtr (.int k x) (.int k y)=some (.bool (decide (y < x))):=by simp [ym,qdb]
@[go_sem] theorem zh0 {k:IntKind} {x y:Int}:ym .geq (.int k x) (.int k y)=some (.bool (decide (y≤x))):=by simp [ym,qdb]
@[go_sem] theorem zh5 {k:IntKind} {x y:Int}:ym .eql (.int k x) (.int k y)=some (.bool (decide (x=y))):=by
 simp only [ym,qdb,decide_true,cond_true]; congr 2
@[go_sem] theorem zib {k:IntKind} {x y:Int}:ym .neq (.int k x) (.int k y)=some (.bool (!decide (x=y))):=by
 simp only [ym,qdb,decide_true,cond_true]; congr 2
theorem qyz {x:Int} (h1:-9223372036854775808≤x) (h2:x≤9223372036854775807):qe .i64 x=x:=by
 have:qd5 .i64 x=true:=by
  cases x with
  | ofNat m=>simp only [qd5]; exact Nat.ble_eq_true_of_le (by simp at h2; omega)
  | negSucc m=>simp only [qd5]; exact Nat.ble_eq_true_of_le (by omega)
 simp [qe,this]
def jcz (h:qf) (b:Bool) (r:Option (AVal × Bool)):Option ORes:=match b,r with
 | true,some (v,o)=>some ⟨v,o,none,h⟩
 | _,_=>none
@[go_sem] theorem j46 {v:AVal} {o:Bool}:jcz h true (some (v,o))=some ⟨v,o,none,h⟩:=rfl
def jgc (n:Nat) (r:Option (AVal × Bool × qf)):Option ORes:=match r with
 | some (v,o,h')=>some ⟨v,o,none,jr n v h'⟩
 | none=>none
@[go_sem] theorem j45 {n:Nat} {v:AVal} {o:Bool}:jgc n (some (v,o,h))=some ⟨v,o,none,jr n v h⟩:=rfl
def q12 (r:Option (AVal × qf)):Option ORes:=match r with
 | some (v,h')=>some ⟨v,false,none,h'⟩
 | none=>none
@[go_sem] theorem jtn {v:AVal}:q12 (some (v,h))=some ⟨v,false,none,h⟩:=rfl
def q8h (h0 r:Nat) (h:qf) (b:Bool) (m:Option (List (AVal × AVal))):Option ORes:=match b,m with
 | true,some es=>(match newBox h0 h r (.map es) with
  | some h'=>some ⟨.map (h0 + r),false,none,h'⟩
  | none=>none)
 | _,_=>none
def q2c (h0 r:Nat) (h:qf) (b b':Bool) (m:Option (List (AVal × AVal))) (c:Option (AVal × Bool)):Option ORes:=match b with
 | true=>q8h h0 r h true m
 | false=>(match b',c with
  | true,some (v,o)=>qgh h0 h r v o
  | _,_=>none)
@[go_sem] theorem zc0 {r:Nat} {b':Bool} {m:Option (List (AVal × AVal))} {c:Option (AVal × Bool)}:q2c h0 r h true b' m c=q8h h0 r h true m:=rfl
@[go_sem] theorem j7f {r:Nat} {m:Option (List (AVal × AVal))} {v:AVal} {o:Bool}:q2c h0 r h false true m (some (v,o))=qgh h0 h r v o:=rfl
def jn0 (p:jw) (xc:XC) (h:qf) (k:Nat):Option (List AVal)→Option ORes
 | some us=>bif ja 0 us then (match qc p xc k us with
  | some (v,o)=>(match q7o v o with
   | some (v',o')=>some ⟨v',o',none,h⟩
   | none=>none)
  | none=>none) else none
 | none=>none
def qm5 (p:jw) (xc:XC) (h0:Nat) (h:qf) (md:CMode) (f:Option AVal) (l:Option (List AVal)):Option ORes:=match f,l with
 | some (.fn (.func k) a c),some vs=>(match md with
  | .iso=>jcz h (ja 0 (a++vs++c)) (qc p xc k (a++vs++c))
  | .frz r=>q2c h0 r h (a++vs++c).isEmpty (ja 0 (a++vs++c)) (p.maps k) (qc p xc k (a++vs++c))
  | .red=>jn0 p xc h k (qfx h (a++vs++c))
  | .shr=>jgc h.length (qn p xc k (a++vs++c) h))
 | some (.fn (.yield b) [] []),some vs=>(match md with
  | .shr=>q12 (kx xc b vs h)
  | _=>none)
 | _,_=>none
@[go_sem] theorem zhs {md:CMode} {f:qq} {l:List qq}:qg p xc h0 al e h (.call md f l)=qm5 p xc h0 h md (qj e f) (kl e l):=by
 simp only [qg,yp,qm5]
 split
 ·rename_i k first captured vs h1 h2
  rw [h1,h2]
  cases md with
  | iso=>
   simp only []
   cases ja 0 (first++vs++captured) with
   | false=>cases qc p xc k (first++vs++captured) <;> rfl
   | true=>cases qc p xc k (first++vs++captured) <;> rfl
  | frz rk=>
   simp only []
   cases (first++vs++captured).isEmpty with
   | false=>
    cases ja 0 (first++vs++captured) with
    | false=>cases qc p xc k (first++vs++captured) <;> rfl
    | true=>cases qc p xc k (first++vs++captured) <;> rfl
   | true=>
    cases p.maps k with
    | none=>rfl
    | some es=>simp only [cond_true,q2c,q8h]; cases newBox h0 h rk (.map es) <;> rfl
  | red=>simp only []; cases qfx h (first++vs++captured) <;> rfl
  | shr=>simp only []; cases qn p xc k (first++vs++captured) h <;> rfl
 ·rename_i b vs h1 h2
  rw [h1,h2]
  cases md with
  | shr=>simp only []; cases kx xc b vs h <;> rfl
  | _=>rfl
 ·rename_i h1 h2
  split
  ·rename_i k a c vs g1 g2; exact absurd g2 (fun g2=>h1 k a c vs g1 g2)
  ·rename_i b vs g1 g2; exact absurd g2 (fun g2=>h2 b vs g1 g2)
  ·rfl
@[go_sem] theorem j5y {k:Nat} {a c vs:List AVal}:qm5 p xc h0 h .iso (some (.fn (.func k) a c)) (some vs)=jcz h (ja 0 (a++vs++c)) (qc p xc k (a++vs++c)):=rfl
@[go_sem] theorem j5z {k r:Nat} {a c vs:List AVal}:qm5 p xc h0 h (.frz r) (some (.fn (.func k) a c)) (some vs)=q2c h0 r h (a++vs++c).isEmpty (ja 0 (a++vs++c)) (p.maps k) (qc p xc k (a++vs++c)):=rfl
@[go_sem] theorem j7i {k:Nat} {a c vs:List AVal}:qm5 p xc h0 h .red (some (.fn (.func k) a c)) (some vs)=jn0 p xc h k (qfx h (a++vs++c)):=rfl
@[go_sem] theorem j6i {k:Nat} {a c vs:List AVal}:qm5 p xc h0 h .shr (some (.fn (.func k) a c)) (some vs)=jgc h.length (qn p xc k (a++vs++c) h):=rfl
@[go_sem] theorem jtm {b:Nat} {vs:List AVal}:qm5 p xc h0 h .shr (some (.fn (.yield b) [] [])) (some vs)=q12 (kx xc b vs h):=rfl
def qxv (rs:List qa8) (r:Option (jd × ASt)):Option (AVal × Bool × qf):=match r with
 | some (.normal,st)=>(match y8 st rs with
   | some xs=>some ((j6 xs).1,(j6 xs).2,kj st rs)
   | none=>none)
 | some (.ret,st)=>(match y8 st rs with
   | some xs=>some ((j6 xs).1,(j6 xs).2,kj st rs)
   | none=>none)
 | _=>none
def jek (st:ASt) (rs:List qa8) (r:Option (List (AVal × Bool))):Option (AVal × Bool × qf):=match r with
 | some xs=>some ((j6 xs).1,(j6 xs).2,kj st rs)
 | none=>none
@[go_sem] theorem jt8 {rs:List qa8} {st:ASt}:qxv rs (some (.normal,st))=jek st rs (y8 st rs):=rfl
@[go_sem] theorem zc4 {rs:List qa8} {st:ASt}:qxv rs (some (.ret,st))=jek st rs (y8 st rs):=rfl
@[go_sem] theorem j5n {st:ASt} {rs:List qa8} {xs:List (AVal × Bool)}:jek st rs (some xs)=some ((j6 xs).1,(j6 xs).2,kj st rs):=rfl
theorem qk {k nt:Nat} {body:ACode} {rs:List qa8} {args:List AVal} (hf:p.fns k=some ⟨nt,body,rs⟩) (hl:args.length≤nt):qn p xc k args h=qxv rs (xc body ⟨qdc 0 args,h⟩):=by
 simp only [qn,hf,qbm,Nat.ble_eq_true_of_le hl,cond_true,qxv]
 rfl
def q7h (x:Option (AVal × Bool)) (l:Option (List (AVal × Bool))):Option (List (AVal × Bool)):=match x,l with
 | some v,some vs=>some (v::vs)
 | _,_=>none
@[go_sem] theorem j3w {v:AVal × Bool} {vs:List (AVal × Bool)}:q7h (some v) (some vs)=some (v::vs):=rfl
@[go_sem] theorem jl3 {st:ASt}:y8 st []=some []:=rfl
@[go_sem] theorem jkl {st:ASt} {r:qa8} {rs:List qa8}:y8 st (r::rs)=q7h (qcm st r) (y8 st rs):=by
 simp only [y8,q7h]
 cases qcm st r with
 | none=>rfl
 | some v=>cases y8 st rs <;> rfl
@[go_sem] theorem jnr {t:Nat}:qcm ⟨e,h⟩ (.tmp t)=jm t e:=rfl
@[go_sem] theorem zeo {x:AVal × Bool}:j6 [x]=x:=rfl
@[go_sem] theorem za1 {x y:AVal × Bool}:j6 [x,y]=(.tup [x.1,y.1],false):=rfl
@[go_sem] theorem j0c {x y z:AVal × Bool}:j6 [x,y,z]=(.tup [x.1,y.1,z.1],false):=rfl
@[go_sem] theorem j5p:j6 []=(.tup [],false):=rfl
@[go_sem] theorem j5k {st:ASt} {t:Nat}:kj st [.tmp t]=st.heap:=rfl
@[go_sem] theorem j7d {st:ASt} {x y:qa8} {l:List qa8}:kj st (x::y::l)=st.heap:=by
 cases x with
 | tmp t=>rfl
 | cell t a n=>cases a <;> rfl
@[go_sem] theorem jyo {st:ASt}:kj st []=st.heap:=rfl
@[go_sem] theorem j5r {st:ASt} {t n:Nat}:kj st [.cell t true n]=st.heap:=rfl
@[go_sem] theorem j7s {o:Bool}:qhp true (some (.bool true,o))=some true:=rfl
@[go_sem] theorem j8o {o:Bool}:qhp true (some (.bool false,o))=some false:=rfl
@[go_sem] theorem ze9 {o:Bool}:qhp false (some (.bool true,o))=some false:=rfl
@[go_sem] theorem zaj {o:Bool}:qhp false (some (.bool false,o))=some true:=rfl
attribute [go_sem] cond_true cond_false decide_true decide_false Bool.not_true Bool.not_false List.append_nil List.nil_append List.length_cons List.length_nil
@[go_sem] theorem zii:List.replicate 0 ABox.hole=[]:=rfl
end
section
variable {p:jw} {xc:XC} {h0:Nat} {al:Option (List Nat)} {e:Env} {h:qf} {α:Type}
def sl (z:Nat) (f:α→AVal):Option (List α)→AVal
 | none=>.list true 0 []
 | some l=>.list false z (l.map f)
@[go_sem] theorem zht {z:Nat} {f:α→AVal} {l:Option (List α)}:qo9 1 h (some (sl z f l))=some ⟨.int .i64 (l.getD []).length,false,none,h⟩:=by
 cases l <;> simp [sl,qo9,val]
theorem js3 {z:Nat} {f:α→AVal} {l:Option (List α)} {k:IntKind} {i:Nat} {x:α} (hx:(l.getD [])[i]?=some x):qbd z h (some (sl z f l)) (some (.int k (i:Int)))=some ⟨.vptr (f x),false,none,h⟩:=by
 cases l with
 | none=>simp at hx
 | some l=>exact jdr (by rw [List.getElem?_map,show l[i]?=some x from hx]; rfl)
theorem qcn {n z:Nat} {f:α→AVal} {l:Option (List α)} (hf:∀ x,below n (f x)=true):below n (sl z f l)=true:=by
 have key:∀ l:List α,ja n (l.map f)=true:=by
  intro l
  induction l with
  | nil=>rfl
  | cons x l ih=>simp [ja,hf,ih]
 cases l with
 | none=>rfl
 | some l=>simp only [sl,below]; exact key l
theorem zhj {z:Nat} {f:α→AVal} (hf:∀ x y,f x=f y→x=y) {a b:Option (List α)} (hab:sl z f a=sl z f b):a=b:=by
 have key:∀ a b:List α,a.map f=b.map f→a=b:=by
  intro a
  induction a with
  | nil=>intro b hb; cases b <;> simp at hb <;> rfl
  | cons x a ih=>
   intro b hb
   cases b with
   | nil=>simp at hb
   | cons y b=>simp at hb; rw [hf _ _ hb.1,ih _ hb.2]
 cases a <;> cases b <;> simp [sl] at hab <;> first | rfl | rw [key _ _ hab]
def zw (n:Int):AVal:=.int .i64 n
@[go_sem] theorem jwl {i:Int}:yr h0 al false 1 h (some (.vptr (zw i)))=some ⟨.int .i64 i,false,none,h⟩:=rfl
end
end Go.Abs
