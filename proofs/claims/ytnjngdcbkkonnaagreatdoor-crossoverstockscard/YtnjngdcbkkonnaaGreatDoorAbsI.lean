/-
  Equations of the executor for runs on values that are not known: one step each, what comes behind stays closed until its state is there.
-/
import Derived.Test.YtnjngdcbkkonnaaGreatDoorAbsH
set_option linter.unusedVariables false
set_option linter.unusedSimpArgs false
namespace Go.Abs
section
variable {p:jj} {xc:XC} {h0:Nat} {al:Option (List Nat)} {e:Env} {h:qn}
def qon (r:Option (je × ASt)) (f:ASt→Option (je × ASt)):Option (je × ASt):=match r with
 | some (.normal,st)=>f st
 | r=>r
@[go_sem] theorem q7b {st:ASt} {f:ASt→Option (je × ASt)}:qon (some (.normal,st)) f=f st:=rfl
@[go_sem] theorem jha {st:ASt} {f:ASt→Option (je × ASt)}:qon (some (.ret,st)) f=some (.ret,st):=rfl
@[go_sem] theorem jfs {id:Nat} {st:ASt} {f:ASt→Option (je × ASt)}:qon (some (.exit id,st)) f=some (.exit id,st):=rfl
@[go_sem] theorem jnb {a b:ACode} {st:ASt}:X p (.seq a b) st=qon (X p a st) (X p b):=by
 rw [je3]; unfold qon
 cases X p a st with
 | none=>rfl
 | some r=>obtain ⟨x,s⟩:=r; cases x <;> rfl
def qr0 (c:Option AVal) (f g:ASt→Option (je × ASt)) (st:ASt):Option (je × ASt):=match c with
 | some (.bool true)=>f st
 | some (.bool false)=>g st
 | _=>none
@[go_sem] theorem jcu {f g:ASt→Option (je × ASt)} {st:ASt}:qr0 (some (.bool true)) f g st=f st:=rfl
@[go_sem] theorem q93 {f g:ASt→Option (je × ASt)} {st:ASt}:qr0 (some (.bool false)) f g st=g st:=rfl
@[go_sem] theorem jmb {c:qt} {a b:ACode} {st:ASt}:X p (.cond c a b) st=qr0 (qi st.env c) (X p a) (X p b) st:=by
 rw [q8p]; unfold qr0
 cases qi st.env c with
 | none=>rfl
 | some v=>cases v with
  | bool t=>cases t <;> rfl
  | _=>rfl
def qgc (id:Nat) (r:Option (je × ASt)):Option (je × ASt):=match r with
 | some (.exit id',st')=>if id'=id then some (.normal,st') else some (.exit id',st')
 | r=>r
@[go_sem] theorem q9y {id id':Nat} {st:ASt}:qgc id (some (.exit id',st))=if id'=id then some (.normal,st) else some (.exit id',st):=rfl
@[go_sem] theorem q51 {id:Nat} {st:ASt}:qgc id (some (.normal,st))=some (.normal,st):=rfl
@[go_sem] theorem jbo {id:Nat} {st:ASt}:qgc id (some (.ret,st))=some (.ret,st):=rfl
@[go_sem] theorem jkt {id:Nat} {b:ACode} {st:ASt}:X p (.block id b) st=qgc id (X p b st):=by
 rw [q3s]; unfold qgc
 cases X p b st with
 | none=>rfl
 | some r=>
  obtain ⟨x,s⟩:=r
  cases x with
  | exit id'=>
   simp only []
   by_cases hb:id'=id
   ·subst hb; simp
   ·rw [if_neg hb]
    cases hq:Nat.beq id' id with
    | true=>exact absurd (Nat.eq_of_beq_eq_true hq) hb
    | false=>rfl
  | _=>rfl
noncomputable def qhn (p:jj) (b:ACode) (n:Nat) (r:Option (je × ASt)):Option (je × ASt):=match r with
 | some (.normal,st')=>X p (.loop b) (gc n st')
 | r=>r
theorem q4j {b:ACode} {st:ASt}:X p (.loop b) st=qhn p b st.heap.length (X p b st):=by
 rw [q7y]; unfold qhn
 cases X p b st with
 | none=>rfl
 | some r=>obtain ⟨x,s⟩:=r; cases x <;> rfl
@[go_sem] theorem qsn {b:ACode} {n:Nat} {st:ASt}:qhn p b n (some (.normal,st))=X p (.loop b) (gc n st):=rfl
@[go_sem] theorem jg4 {b:ACode} {n:Nat} {st:ASt}:qhn p b n (some (.ret,st))=some (.ret,st):=rfl
@[go_sem] theorem jcj {b:ACode} {n id:Nat} {st:ASt}:qhn p b n (some (.exit id,st))=some (.exit id,st):=rfl
attribute [go_sem] q7q q7d jdq q1t q4u q7m
@[go_sem] theorem jm8 {env:Env}:gc 0 ⟨env,[]⟩=⟨env,[]⟩:=rfl
theorem qy {n:Nat} {st:ASt} (hn:st.heap.length≤n):gc n st=st:=by
 unfold gc; rw [Nat.ble_eq_true_of_le hn]; rfl
theorem jnx {e e':Env} {h:qn}:gc (ASt.mk e h).heap.length ⟨e',h⟩=⟨e',h⟩:=qy (Nat.le_refl _)
def q10 (k:Option (List Nat)) (r:Option ASt):Option (je × ASt):=match r with
 | some st'=>some (.normal,qgf st' k)
 | none=>none
@[go_sem] theorem jg3 {k:Option (List Nat)} {st:ASt}:q10 k (some st)=some (.normal,qgf st k):=rfl
@[go_sem] theorem jk9 {na:Nat} {l:List AOper} {k:Option (List Nat)} {st:ASt}:ky p xc na l k st=q10 k (kj p xc st.heap.length l ⟨st.env,st.heap++List.replicate na .hole⟩):=by
 unfold ky q10; rfl
def q8t (r:Option ASt) (f:ASt→Option ASt):Option ASt:=match r with
 | some st=>f st
 | none=>none
@[go_sem] theorem jgl {st:ASt} {f:ASt→Option ASt}:q8t (some st) f=f st:=rfl
@[go_sem] theorem jiq {st:ASt}:kj p xc h0 [] st=some st:=rfl
@[go_sem] theorem jgx {o:AOper} {l:List AOper} {st:ASt}:kj p xc h0 (o::l) st=q8t (zy p xc h0 o st) (kj p xc h0 l):=rfl
def qxq (d:Option Nat) (e:Env) (r:Option ORes):Option ASt:=match r with
 | some r=>some ⟨qaz (zk e r.strip) d r.v r.own,r.heap⟩
 | none=>none
@[go_sem] theorem jht {d:Option Nat} {v:AVal} {o:Bool} {s:Option Nat}:qxq d e (some ⟨v,o,s,h⟩)=some ⟨qaz (zk e s) d v o,h⟩:=rfl
@[go_sem] theorem q50 {d:Option Nat} {op:AOp} {env:Env}:zy p xc h0 ⟨d,op,none,al⟩ ⟨env,h⟩=qxq d env (qe p xc h0 al env h op):=rfl
def qn6 (g:Option Bool) (d:Option Nat) (env:Env) (h:qn) (f:AOp→Option ORes) (op:AOp):Option ASt:=match g with
 | some true=>qxq d env (f op)
 | some false=>some ⟨qaz env d .undef false,h⟩
 | none=>none
@[go_sem] theorem q9a {d:Option Nat} {env:Env} {f:AOp→Option ORes} {op:AOp}:qn6 (some true) d env h f op=qxq d env (f op):=rfl
@[go_sem] theorem q59 {d:Option Nat} {env:Env} {f:AOp→Option ORes} {op:AOp}:qn6 (some false) d env h f op=some ⟨qaz env d .undef false,h⟩:=rfl
@[go_sem] theorem q5v {d:Option Nat} {op:AOp} {g:Nat × Bool} {env:Env}:zy p xc h0 ⟨d,op,some g,al⟩ ⟨env,h⟩=qn6 (qah env (some g)) d env h (qe p xc h0 al env h) op:=by
 unfold zy qn6
 simp only []
 split
 ·rename_i hg; rw [hg]; rfl
 ·rename_i hg; rw [hg]
 ·rename_i hg; rw [hg]
def qej (b:Bool) (v:Option (AVal × Bool)):Option Bool:=match v with
 | some (.bool c,_)=>some (c == b)
 | some (.undef,_)=>some false
 | _=>none
@[go_sem] theorem q6c {s:Nat} {b:Bool}:qah e (some (s,b))=qej b (look s e):=by
 unfold qah qej; rfl
theorem q90 {b c:Bool} {o:Bool}:qej b (some (.bool c,o))=some (c == b):=rfl
@[go_sem] theorem q69 {b:Bool} {o:Bool}:qej b (some (.undef,o))=some false:=rfl
@[go_sem] theorem jg5 {s t:Nat} {x:AVal × Bool}:look t ((s,x)::e)=if s=t then some x else look t e:=by
 by_cases hst:s=t
 ·subst hst; rw [if_pos rfl]; simp [look]
 ·rw [if_neg hst]
  have:Nat.beq s t=false:=by
   cases hb:Nat.beq s t with
   | false=>rfl
   | true=>exact absurd (Nat.eq_of_beq_eq_true hb) hst
  simp [look,this]
@[go_sem] theorem ji7 {t:Nat}:look t []=none:=rfl
def q6m (x:Option (AVal × Bool)):Option AVal:=match x with
 | some x=>some x.1
 | none=>none
@[go_sem] theorem jhk {v:AVal} {o:Bool}:q6m (some (v,o))=some v:=rfl
@[go_sem] theorem jhr {t:Nat}:qi e (.tmp t)=q6m (look t e):=rfl
@[go_sem] theorem q9i {v:AVal}:qi e (.const v)=some v:=rfl
def qcl (x:Option AVal) (l:Option (List AVal)):Option (List AVal):=match x,l with
 | some v,some vs=>some (v::vs)
 | _,_=>none
@[go_sem] theorem jbx {v:AVal} {vs:List AVal}:qcl (some v) (some vs)=some (v::vs):=rfl
@[go_sem] theorem jh0:yq e []=some []:=rfl
@[go_sem] theorem jda {x:qt} {l:List qt}:yq e (x::l)=qcl (qi e x) (yq e l):=by
 simp only [yq,qcl]
 cases qi e x with
 | none=>rfl
 | some v=>cases yq e l <;> rfl
@[go_sem] theorem q89 {l:List Nat}:qgf ⟨e,h⟩ (some l)=⟨qbc e l,h⟩:=rfl
@[go_sem] theorem q88:qgf ⟨e,h⟩ none=⟨e,h⟩:=rfl
def qr2 (t:Nat) (x:Option (AVal × Bool)) (e:Env):Env:=match x with
 | some x=>(t,x)::e
 | none=>e
@[go_sem] theorem ja6 {t:Nat} {x:AVal × Bool}:qr2 t (some x) e=(t,x)::e:=rfl
@[go_sem] theorem jbk {t:Nat}:qr2 t none e=e:=rfl
@[go_sem] theorem q87:qbc e []=[]:=rfl
@[go_sem] theorem q7r {t:Nat} {l:List Nat}:qbc e (t::l)=qr2 t (look t e) (qbc e l):=by
 simp only [qbc,qr2]
 cases look t e <;> rfl
@[go_sem] theorem q9u {d:Nat} {v:AVal} {o:Bool}:qaz e (some d) v o=(d,v,o)::e:=rfl
@[go_sem] theorem q9x {v:AVal} {o:Bool}:qaz e none v o=e:=rfl
@[go_sem] theorem q5x:zk e none=e:=rfl
def qtr (s:Nat) (x:Option (AVal × Bool)) (e:Env):Env:=match x with
 | some (v,_)=>(s,v,false)::e
 | none=>e
@[go_sem] theorem q94 {s:Nat} {v:AVal} {o:Bool}:qtr s (some (v,o)) e=(s,v,false)::e:=rfl
@[go_sem] theorem q5s {s:Nat}:zk e (some s)=qtr s (look s e) e:=by
 simp only [zk,qtr]
 cases look s e <;> rfl
@[go_sem] theorem jdw {i:Nat}:kl i []=[]:=rfl
@[go_sem] theorem q9t {i:Nat} {v:AVal} {vs:List AVal}:kl i (v::vs)=(i,v,false)::kl (i + 1) vs:=rfl
@[go_sem] theorem jgc {v:AVal}:k8 h (some v)=some ⟨v,false,none,h⟩:=rfl
@[go_sem] theorem jm0 {v:AVal}:val h v=some ⟨v,false,none,h⟩:=rfl
@[go_sem] theorem jne {x:qt}:qe p xc h0 al e h (.move x)=k8 h (qi e x):=rfl
def qw2 (s:Nat) (h:qn) (x:Option (AVal × Bool)):Option ORes:=match x with
 | some (v,o)=>some ⟨v,o,some s,h⟩
 | none=>none
@[go_sem] theorem jc1 {s:Nat} {v:AVal} {o:Bool}:qw2 s h (some (v,o))=some ⟨v,o,some s,h⟩:=rfl
@[go_sem] theorem jnj {s:Nat}:qe p xc h0 al e h (.take s)=qw2 s h (look s e):=by
 simp only [qe,qr,qw2]
 cases look s e <;> rfl
def q19 (op:BinOp) (h:qn) (a b:Option AVal):Option ORes:=match a,b with
 | some a,some b=>k8 h (zr op a b)
 | _,_=>none
@[go_sem] theorem jgu {op:BinOp} {a b:AVal}:q19 op h (some a) (some b)=k8 h (zr op a b):=rfl
@[go_sem] theorem jn2 {op:BinOp} {x y:qt}:qe p xc h0 al e h (.bin op x y)=q19 op h (qi e x) (qi e y):=by
 simp only [qe,qr,q19]
 cases qi e x <;> cases qi e y <;> rfl
def qw8 (h:qn) (c a b:Option AVal):Option ORes:=match c,a,b with
 | some (.bool t),some x,some y=>val h (bif t then x else y)
 | _,_,_=>none
@[go_sem] theorem jew {t:Bool} {a b:AVal}:qw8 h (some (.bool t)) (some a) (some b)=some ⟨bif t then a else b,false,none,h⟩:=rfl
@[go_sem] theorem jna {c a b:qt}:qe p xc h0 al e h (.pick c a b)=qw8 h (qi e c) (qi e a) (qi e b):=by
 simp only [qe,qr,qw8]
 cases qi e c with
 | none=>rfl
 | some v=>cases v <;> cases qi e a <;> cases qi e b <;> rfl
def qnv (k:Nat) (h:qn) (x:Option AVal):Option ORes:=match k,x with
 | 1,some (.list _ _ xs)=>val h (.int .i64 xs.length)
 | 1,some (.ms _ _ n)=>val h (.int .i64 n)
 | 2,some (.list true _ _)=>val h (.int .i64 0)
 | 0,some (.str s)=>val h (.int .i64 s.length)
 | _,_=>none
@[go_sem] theorem jg0 {b:Bool} {z:Nat} {xs:List AVal}:qnv 1 h (some (.list b z xs))=some ⟨.int .i64 xs.length,false,none,h⟩:=rfl
@[go_sem] theorem jmn {b o n:Nat}:qnv 1 h (some (.ms b o n))=some ⟨.int .i64 n,false,none,h⟩:=rfl
@[go_sem] theorem jir {s:List UInt8}:qnv 0 h (some (.str s))=some ⟨.int .i64 s.length,false,none,h⟩:=rfl
@[go_sem] theorem jlf {z:Nat} {xs:List AVal}:qnv 2 h (some (.list true z xs))=some ⟨.int .i64 0,false,none,h⟩:=rfl
@[go_sem] theorem jn1 {k:Nat} {x:qt}:qe p xc h0 al e h (.len k x)=qnv k h (qi e x):=rfl
def qlp (n:Nat) (i:Int):Option Nat:=if 0≤i∧i < n then some i.toNat else none
theorem qfy {n:Nat} {k:IntKind} {i:Int}:idx n (.int k i)=qlp n i:=by
 unfold idx qlp
 cases i with
 | ofNat m=>
  by_cases hm:m < n
  ·rw [if_pos ⟨by simp,by simp; omega⟩]; simp [Nat.blt_eq.mpr hm]
  ·rw [if_neg (by simp; omega)]
   cases hb:Nat.blt m n with
   | true=>exact absurd (Nat.blt_eq.mp hb) hm
   | false=>simp [hb]
 | negSucc m=>simp
attribute [go_sem] qfy
theorem qwb {n:Nat} {i:Int} (h1:0≤i) (h2:i < n):qlp n i=some i.toNat:=by unfold qlp; rw [if_pos ⟨h1,h2⟩]
theorem qs5 {n i:Nat} (h:i < n):qlp n (i:Int)=some i:=by unfold qlp; rw [if_pos ⟨by simp,by omega⟩]; simp
def qj4 (sz:Nat) (h:qn) (x i:Option AVal):Option ORes:=match x,i with
 | some (.list _ sz' xs),some j=>bif Nat.beq sz sz' || xs.isEmpty then (match idx xs.length j with
   | some j=>(match xs[j]? with
    | some v=>val h (.vptr v)
    | none=>none)
   | none=>none) else none
 | some (.ms b o len),some j=>(match idx len j with
   | some j=>val h (.ptr b (o + j * sz))
   | none=>none)
 | _,_=>none
@[go_sem] theorem q96 {sz:Nat} {x i:qt}:qe p xc h0 al e h (.indexAddr sz x i)=qj4 sz h (qi e x) (qi e i):=by
 simp only [qe,qr,qj4]
 cases qi e x with
 | none=>rfl
 | some v=>cases v <;> cases qi e i <;> rfl
theorem q0w {sz:Nat} {b:Bool} {k:IntKind} {xs:List AVal} {i:Int} {v:AVal} (h1:0≤i) (hv:xs[i.toNat]?=some v):qj4 sz h (some (.list b sz xs)) (some (.int k i))=some ⟨.vptr v,false,none,h⟩:=by
 have hl:=(List.getElem?_eq_some_iff.1 hv).1
 have hi:idx xs.length (.int k i)=some i.toNat:=by rw [qfy]; exact qwb h1 (by omega)
 simp only [qj4,hi,Nat.beq_refl,Bool.true_or,cond_true,hv]
 rfl
theorem q1l {sz:Nat} {b:Bool} {k:IntKind} {xs:List AVal} {i:Nat} {v:AVal} (hv:xs[i]?=some v):qj4 sz h (some (.list b sz xs)) (some (.int k (i:Int)))=some ⟨.vptr v,false,none,h⟩:=
 q0w (by simp) (by simpa using hv)
def qan (h0:Nat) (al:Option (List Nat)) (agg:Bool) (n:Nat) (h:qn) (x:Option AVal):Option ORes:=match x with
 | some (.ptr b o)=>bif ju h0 al b then (match jq h b with
   | some cs=>(match zq cs o n with
    | some vs=>bif agg then val h (.agg vs) else (match vs with
     | [v]=>val h v
     | _=>none)
    | none=>none)
   | none=>none) else none
 | some (.vptr v)=>bif Bool.xor agg v.isAgg || !(Nat.beq v.flat.length n) then none else val h v
 | _=>none
@[go_sem] theorem jnk {agg:Bool} {n:Nat} {x:qt}:qe p xc h0 al e h (.load agg n x)=qan h0 al agg n h (qi e x):=by
 simp only [qe,zx,qan]
 cases qi e x with
 | none=>rfl
 | some v=>cases v <;> rfl
def q3r:Option AVal→Option AVal
 | some (.vptr v)=>some (.vptr v)
 | _=>none
@[go_sem] theorem jmy {v:AVal}:q3r (some (.vptr v))=some (.vptr v):=rfl
@[go_sem] theorem jmx {agg:Bool} {n:Nat} {x:qt}:qe p xc h0 al e h (.vload agg n x)=qan h0 al agg n h (q3r (qi e x)):=by
 simp only [qe,qr,qan]
 cases qi e x with
 | none=>rfl
 | some v=>cases v <;> rfl
@[go_sem] theorem jh2 {k:IntKind} {i:Int}:qan h0 al false 1 h (some (.vptr (.int k i)))=some ⟨.int k i,false,none,h⟩:=rfl
@[go_sem] theorem jgg {s:List UInt8}:qan h0 al false 1 h (some (.vptr (.str s)))=some ⟨.str s,false,none,h⟩:=rfl
@[go_sem] theorem jc0 {b:Bool}:qan h0 al false 1 h (some (.vptr (.bool b)))=some ⟨.bool b,false,none,h⟩:=rfl
@[go_sem] theorem jb0 {b:Bool} {z:Nat} {xs:List AVal}:qan h0 al false 1 h (some (.vptr (.list b z xs)))=some ⟨.list b z xs,false,none,h⟩:=rfl
theorem q0y {n:Nat} {cs:List AVal} (hn:cs.length=n):qan h0 al true n h (some (.vptr (.agg cs)))=some ⟨.agg cs,false,none,h⟩:=by
 subst hn; simp [qan,AVal.isAgg,AVal.flat,val]
@[go_sem] theorem jns {k:IntKind} {x y:Int}:zr .add (.int k x) (.int k y)=some (.int k (qm k (x + y))):=by simp [zr,qba]
@[go_sem] theorem jnp {k:IntKind} {x y:Int}:zr .sub (.int k x) (.int k y)=some (.int k (qm k (x - y))):=by simp [zr,qba]
@[go_sem] theorem jnt {k:IntKind} {x y:Int}:zr .mul (.int k x) (.int k y)=some (.int k (qm k (x * y))):=by simp [zr,qba]
@[go_sem] theorem jn0 {k:IntKind} {x y:Int}:zr .lss (.int k x) (.int k y)=some (.bool (decide (x < y))):=by simp [zr,qba]
@[go_sem] theorem jno {k:IntKind} {x y:Int}:zr .leq (.int k x) (.int k y)=some (.bool (decide (x≤y))):=by simp [zr,qba]
@[go_sem] theorem jn4 {k:IntKind} {x y:Int}:zr .gtr (.int k x) (.int k y)=some (.bool (decide (y < x))):=by simp [zr,qba]
@[go_sem] theorem jn5 {k:IntKind} {x y:Int}:zr .geq (.int k x) (.int k y)=some (.bool (decide (y≤x))):=by simp [zr,qba]
@[go_sem] theorem jn6 {k:IntKind} {x y:Int}:zr .eql (.int k x) (.int k y)=some (.bool (decide (x=y))):=by
 simp only [zr,qba,decide_true,cond_true]; congr 2
@[go_sem] theorem jn3 {k:IntKind} {x y:Int}:zr .neq (.int k x) (.int k y)=some (.bool (!decide (x=y))):=by
 simp only [zr,qba,decide_true,cond_true]; congr 2
theorem qev {x:Int} (h1:-9223372036854775808≤x) (h2:x≤9223372036854775807):qm .i64 x=x:=by
 have:qb6 .i64 x=true:=by
  cases x with
  | ofNat m=>simp only [qb6]; exact Nat.ble_eq_true_of_le (by simp at h2; omega)
  | negSucc m=>simp only [qb6]; exact Nat.ble_eq_true_of_le (by omega)
 simp [qm,this]
def q1k (h:qn) (b:Bool) (r:Option (AVal × Bool)):Option ORes:=match b,r with
 | true,some (v,o)=>some ⟨v,o,none,h⟩
 | _,_=>none
@[go_sem] theorem jg2 {v:AVal} {o:Bool}:q1k h true (some (v,o))=some ⟨v,o,none,h⟩:=rfl
def q2s (n:Nat) (r:Option (AVal × Bool × qn)):Option ORes:=match r with
 | some (v,o,h')=>some ⟨v,o,none,qab n v h'⟩
 | none=>none
@[go_sem] theorem jh6 {n:Nat} {v:AVal} {o:Bool}:q2s n (some (v,o,h))=some ⟨v,o,none,qab n v h⟩:=rfl
def qtx (r:Option (AVal × qn)):Option ORes:=match r with
 | some (v,h')=>some ⟨v,false,none,h'⟩
 | none=>none
@[go_sem] theorem q9w {v:AVal}:qtx (some (v,h))=some ⟨v,false,none,h⟩:=rfl
def qxd (h0 r:Nat) (h:qn) (b:Bool) (m:Option (List (AVal × AVal))):Option ORes:=match b,m with
 | true,some es=>(match newBox h0 h r (.map es) with
  | some h'=>some ⟨.map (h0 + r),false,none,h'⟩
  | none=>none)
 | _,_=>none
def qmg (p:jj) (xc:XC) (h0:Nat) (h:qn) (md:CMode) (f:Option AVal) (l:Option (List AVal)):Option ORes:=match f,l with
 | some (.fn (.func k) a c),some vs=>(match md with
  | .iso=>q1k h (js 0 (a++vs++c)) (qd p xc k (a++vs++c))
  | .frz r=>qxd h0 r h (a++vs++c).isEmpty (p.maps k)
  | .shr=>q2s h.length (jm p xc k (a++vs++c) h))
 | some (.fn (.yield b) [] []),some vs=>(match md with
  | .shr=>qtx (qaq xc b vs h)
  | _=>none)
 | _,_=>none
@[go_sem] theorem jm5 {md:CMode} {f:qt} {l:List qt}:qe p xc h0 al e h (.call md f l)=qmg p xc h0 h md (qi e f) (yq e l):=by
 simp only [qe,yi,qmg]
 split
 ·rename_i k first captured vs h1 h2
  rw [h1,h2]
  cases md with
  | iso=>
   simp only []
   cases js 0 (first++vs++captured) with
   | false=>cases qd p xc k (first++vs++captured) <;> rfl
   | true=>cases qd p xc k (first++vs++captured) <;> rfl
  | frz rk=>
   simp only []
   cases (first++vs++captured).isEmpty with
   | false=>cases p.maps k <;> rfl
   | true=>
    cases p.maps k with
    | none=>rfl
    | some es=>simp only [cond_true,qxd]; cases newBox h0 h rk (.map es) <;> rfl
  | shr=>simp only []; cases jm p xc k (first++vs++captured) h <;> rfl
 ·rename_i b vs h1 h2
  rw [h1,h2]
  cases md with
  | shr=>simp only []; cases qaq xc b vs h <;> rfl
  | _=>rfl
 ·rename_i h1 h2
  split
  ·rename_i k a c vs g1 g2; exact absurd g2 (fun g2=>h1 k a c vs g1 g2)
  ·rename_i b vs g1 g2; exact absurd g2 (fun g2=>h2 b vs g1 g2)
  ·rfl
@[go_sem] theorem jhs {k:Nat} {a c vs:List AVal}:qmg p xc h0 h .iso (some (.fn (.func k) a c)) (some vs)=q1k h (js 0 (a++vs++c)) (qd p xc k (a++vs++c)):=rfl
@[go_sem] theorem jhv {k r:Nat} {a c vs:List AVal}:qmg p xc h0 h (.frz r) (some (.fn (.func k) a c)) (some vs)=qxd h0 r h (a++vs++c).isEmpty (p.maps k):=rfl
@[go_sem] theorem jh1 {k:Nat} {a c vs:List AVal}:qmg p xc h0 h .shr (some (.fn (.func k) a c)) (some vs)=q2s h.length (jm p xc k (a++vs++c) h):=rfl
@[go_sem] theorem q85 {b:Nat} {vs:List AVal}:qmg p xc h0 h .shr (some (.fn (.yield b) [] [])) (some vs)=qtx (qaq xc b vs h):=rfl
def qwl (rs:List qad) (r:Option (je × ASt)):Option (AVal × Bool × qn):=match r with
 | some (.normal,st)=>(match zn st rs with
   | some xs=>some ((jo xs).1,(jo xs).2,yj st rs)
   | none=>none)
 | some (.ret,st)=>(match zn st rs with
   | some xs=>some ((jo xs).1,(jo xs).2,yj st rs)
   | none=>none)
 | _=>none
def q1p (st:ASt) (rs:List qad) (r:Option (List (AVal × Bool))):Option (AVal × Bool × qn):=match r with
 | some xs=>some ((jo xs).1,(jo xs).2,yj st rs)
 | none=>none
@[go_sem] theorem q95 {rs:List qad} {st:ASt}:qwl rs (some (.normal,st))=q1p st rs (zn st rs):=rfl
@[go_sem] theorem jjv {rs:List qad} {st:ASt}:qwl rs (some (.ret,st))=q1p st rs (zn st rs):=rfl
@[go_sem] theorem jgk {st:ASt} {rs:List qad} {xs:List (AVal × Bool)}:q1p st rs (some xs)=some ((jo xs).1,(jo xs).2,yj st rs):=rfl
theorem qf {k nt:Nat} {body:ACode} {rs:List qad} {args:List AVal} (hf:p.fns k=some ⟨nt,body,rs⟩) (hl:args.length≤nt):jm p xc k args h=qwl rs (xc body ⟨kl 0 args,h⟩):=by
 simp only [jm,hf,qaj,Nat.ble_eq_true_of_le hl,cond_true,qwl]
 rfl
def qxp (x:Option (AVal × Bool)) (l:Option (List (AVal × Bool))):Option (List (AVal × Bool)):=match x,l with
 | some v,some vs=>some (v::vs)
 | _,_=>none
@[go_sem] theorem jag {v:AVal × Bool} {vs:List (AVal × Bool)}:qxp (some v) (some vs)=some (v::vs):=rfl
@[go_sem] theorem q5p {st:ASt}:zn st []=some []:=rfl
@[go_sem] theorem q4n {st:ASt} {r:qad} {rs:List qad}:zn st (r::rs)=qxp (qa8 st r) (zn st rs):=by
 simp only [zn,qxp]
 cases qa8 st r with
 | none=>rfl
 | some v=>cases zn st rs <;> rfl
@[go_sem] theorem q75 {t:Nat}:qa8 ⟨e,h⟩ (.tmp t)=look t e:=rfl
@[go_sem] theorem jjc {x:AVal × Bool}:jo [x]=x:=rfl
@[go_sem] theorem jjb {x y:AVal × Bool}:jo [x,y]=(.tup [x.1,y.1],false):=rfl
@[go_sem] theorem jcd {x y z:AVal × Bool}:jo [x,y,z]=(.tup [x.1,y.1,z.1],false):=rfl
@[go_sem] theorem jgh:jo []=(.tup [],false):=rfl
@[go_sem] theorem jga {st:ASt} {t:Nat}:yj st [.tmp t]=st.heap:=rfl
@[go_sem] theorem jg1 {st:ASt} {x y:qad} {l:List qad}:yj st (x::y::l)=st.heap:=by
 cases x with
 | tmp t=>rfl
 | cell t a n=>cases a <;> rfl
@[go_sem] theorem jd1 {st:ASt}:yj st []=st.heap:=rfl
@[go_sem] theorem jhl {st:ASt} {t n:Nat}:yj st [.cell t true n]=st.heap:=rfl
@[go_sem] theorem jkg {o:Bool}:qej true (some (.bool true,o))=some true:=rfl
@[go_sem] theorem jjx {o:Bool}:qej true (some (.bool false,o))=some false:=rfl
@[go_sem] theorem jjr {o:Bool}:qej false (some (.bool true,o))=some false:=rfl
@[go_sem] theorem jld {o:Bool}:qej false (some (.bool false,o))=some true:=rfl
attribute [go_sem] cond_true cond_false decide_true decide_false Bool.not_true Bool.not_false List.append_nil List.nil_append List.length_cons List.length_nil
@[go_sem] theorem jnq:List.replicate 0 ABox.hole=[]:=rfl
end
section
variable {p:jj} {xc:XC} {h0:Nat} {al:Option (List Nat)} {e:Env} {h:qn} {α:Type}
def sl (z:Nat) (f:α→AVal):Option (List α)→AVal
 | none=>.list true 0 []
 | some l=>.list false z (l.map f)
@[go_sem] theorem jm6 {z:Nat} {f:α→AVal} {l:Option (List α)}:qnv 1 h (some (sl z f l))=some ⟨.int .i64 (l.getD []).length,false,none,h⟩:=by
 cases l <;> simp [sl,qnv,val]
theorem q6j {z:Nat} {f:α→AVal} {l:Option (List α)} {k:IntKind} {i:Nat} {x:α} (hx:(l.getD [])[i]?=some x):qj4 z h (some (sl z f l)) (some (.int k (i:Int)))=some ⟨.vptr (f x),false,none,h⟩:=by
 cases l with
 | none=>simp at hx
 | some l=>exact q1l (by rw [List.getElem?_map,show l[i]?=some x from hx]; rfl)
theorem qje {n z:Nat} {f:α→AVal} {l:Option (List α)} (hf:∀ x,below n (f x)=true):below n (sl z f l)=true:=by
 have key:∀ l:List α,js n (l.map f)=true:=by
  intro l
  induction l with
  | nil=>rfl
  | cons x l ih=>simp [js,hf,ih]
 cases l with
 | none=>rfl
 | some l=>simp only [sl,below]; exact key l
theorem jm7 {z:Nat} {f:α→AVal} (hf:∀ x y,f x=f y→x=y) {a b:Option (List α)} (hab:sl z f a=sl z f b):a=b:=by
 have key:∀ a b:List α,a.map f=b.map f→a=b:=by
  intro a
  induction a with
  | nil=>intro b hb; cases b <;> simp at hb <;> rfl
  | cons x a ih=>
   intro b hb
   cases b with
   | nil=>simp at hb
   | cons y b=>simp at hb; rw [hf _ _ hb.1,ih _ hb.2]
 cases a <;> cases b <;> simp [sl] at hab <;> first | rfl | rw [key _ _ hab]
def qp (n:Int):AVal:=.int .i64 n
@[go_sem] theorem ja3 {i:Int}:qan h0 al false 1 h (some (.vptr (qp i)))=some ⟨.int .i64 i,false,none,h⟩:=rfl
end
end Go.Abs
