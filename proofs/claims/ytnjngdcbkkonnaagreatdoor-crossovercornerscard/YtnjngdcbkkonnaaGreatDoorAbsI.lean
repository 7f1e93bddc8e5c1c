/- Equations of the executor for runs on values that are not known. -/
import Derived.Test.YtnjngdcbkkonnaaGreatDoorAbsH
set_option linter.unusedVariables false
set_option linter.unusedSimpArgs false
namespace Go.Abs
section
variable {p:ju} {xc:XC} {h0:Nat} {al:Option (List Nat)} {e:Env} {h:qk}
def qg7 (r:Option (ji × ASt)) (f:ASt→Option (ji × ASt)):Option (ji × ASt):=match r with
 | some (.normal,st)=>f st
 | r=>r
@[go_sem] theorem jd0 {st:ASt} {f:ASt→Option (ji × ASt)}:qg7 (some (.normal,st)) f=f st:=rfl
@[go_sem] theorem jnv {st:ASt} {f:ASt→Option (ji × ASt)}:qg7 (some (.ret,st)) f=some (.ret,st):=rfl
@[go_sem] theorem jhi {id:Nat} {st:ASt} {f:ASt→Option (ji × ASt)}:qg7 (some (.exit id,st)) f=some (.exit id,st):=rfl
@[go_sem] theorem jut {a b:ACode} {st:ASt}:X p (.seq a b) st=qg7 (X p a st) (X p b):=by
 rw [jip]; unfold qg7
 cases X p a st with
 | none=>rfl
 | some r=>obtain ⟨x,s⟩:=r; cases x <;> rfl
def qvx (c:Option AVal) (f g:ASt→Option (ji × ASt)) (st:ASt):Option (ji × ASt):=match c with
 | some (.bool true)=>f st
 | some (.bool false)=>g st
 | _=>none
@[go_sem] theorem jhy {f g:ASt→Option (ji × ASt)} {st:ASt}:qvx (some (.bool true)) f g st=f st:=rfl
@[go_sem] theorem jgw {f g:ASt→Option (ji × ASt)} {st:ASt}:qvx (some (.bool false)) f g st=g st:=rfl
@[go_sem] theorem jum {c:qu} {a b:ACode} {st:ASt}:X p (.cond c a b) st=qvx (ql st.env c) (X p a) (X p b) st:=by
 rw [jc8]; unfold qvx
 cases ql st.env c with
 | none=>rfl
 | some v=>cases v with
  | bool t=>cases t <;> rfl
  | _=>rfl
def qnr (id:Nat) (r:Option (ji × ASt)):Option (ji × ASt):=match r with
 | some (.exit id',st')=>if id'=id then some (.normal,st') else some (.exit id',st')
 | r=>r
@[go_sem] theorem jf9 {id id':Nat} {st:ASt}:qnr id (some (.exit id',st))=if id'=id then some (.normal,st) else some (.exit id',st):=rfl
@[go_sem] theorem jb0 {id:Nat} {st:ASt}:qnr id (some (.normal,st))=some (.normal,st):=rfl
@[go_sem] theorem jkf {id:Nat} {st:ASt}:qnr id (some (.ret,st))=some (.ret,st):=rfl
@[go_sem] theorem jsg {id:Nat} {b:ACode} {st:ASt}:X p (.block id b) st=qnr id (X p b st):=by
 rw [jan]; unfold qnr
 cases X p b st with
 | none=>rfl
 | some r=>
  obtain ⟨x,s⟩:=r
  cases x with
  | exit id'=>
   simp only []
   by_cases hb:id'=id
   ·subst hb; simp
   ·rw [if_neg hb]
    cases hq:Nat.beq id' id with
    | true=>exact absurd (Nat.eq_of_beq_eq_true hq) hb
    | false=>rfl
  | _=>rfl
noncomputable def qo3 (p:ju) (b:ACode) (n:Nat) (r:Option (ji × ASt)):Option (ji × ASt):=match r with
 | some (.normal,st')=>X p (.loop b) (gc n st')
 | r=>r
theorem qzy {b:ACode} {st:ASt}:X p (.loop b) st=qo3 p b st.heap.length (X p b st):=by
 rw [jfl]; unfold qo3
 cases X p b st with
 | none=>rfl
 | some r=>obtain ⟨x,s⟩:=r; cases x <;> rfl
@[go_sem] theorem qxs {b:ACode} {n:Nat} {st:ASt}:qo3 p b n (some (.normal,st))=X p (.loop b) (gc n st):=rfl
@[go_sem] theorem jos {b:ACode} {n:Nat} {st:ASt}:qo3 p b n (some (.ret,st))=some (.ret,st):=rfl
@[go_sem] theorem jke {b:ACode} {n id:Nat} {st:ASt}:qo3 p b n (some (.exit id,st))=some (.exit id,st):=rfl
attribute [go_sem] jfy jfm jlm q6q qop jc6
@[go_sem] theorem juq {env:Env}:gc 0 ⟨env,[]⟩=⟨env,[]⟩:=rfl
theorem jb {n:Nat} {st:ASt} (hn:st.heap.length≤n):gc n st=st:=by
 unfold gc; rw [Nat.ble_eq_true_of_le hn]; rfl
theorem jvl {e e':Env} {h:qk}:gc (ASt.mk e h).heap.length ⟨e',h⟩=⟨e',h⟩:=jb (Nat.le_refl _)
def q64 (k:Option (List Nat)) (r:Option ASt):Option (ji × ASt):=match r with
 | some st'=>some (.normal,qh9 st' k)
 | none=>none
@[go_sem] theorem jpm {k:Option (List Nat)} {st:ASt}:q64 k (some st)=some (.normal,qh9 st k):=rfl
@[go_sem] theorem jro {na:Nat} {l:List AOper} {k:Option (List Nat)} {st:ASt}:qax p xc na l k st=q64 k (qaq p xc st.heap.length l ⟨st.env,st.heap++List.replicate na .hole⟩):=by
 unfold qax q64; rfl
def jdh (r:Option ASt) (f:ASt→Option ASt):Option ASt:=match r with
 | some st=>f st
 | none=>none
@[go_sem] theorem joq {st:ASt} {f:ASt→Option ASt}:jdh (some st) f=f st:=rfl
@[go_sem] theorem jsz {st:ASt}:qaq p xc h0 [] st=some st:=rfl
@[go_sem] theorem jov {o:AOper} {l:List AOper} {st:ASt}:qaq p xc h0 (o::l) st=jdh (yq p xc h0 o st) (qaq p xc h0 l):=rfl
def q1c (d:Option Nat) (e:Env) (r:Option ORes):Option ASt:=match r with
 | some r=>some ⟨qbu (yd e r.strip) d r.v r.own,r.heap⟩
 | none=>none
@[go_sem] theorem jn6 {d:Option Nat} {v:AVal} {o:Bool} {s:Option Nat}:q1c d e (some ⟨v,o,s,h⟩)=some ⟨qbu (yd e s) d v o,h⟩:=rfl
@[go_sem] theorem jb2 {d:Option Nat} {op:AOp} {env:Env}:yq p xc h0 ⟨d,op,none,al⟩ ⟨env,h⟩=q1c d env (qg p xc h0 al env h op):=rfl
def qss (g:Option Bool) (d:Option Nat) (env:Env) (h:qk) (f:AOp→Option ORes) (op:AOp):Option ASt:=match g with
 | some true=>q1c d env (f op)
 | some false=>some ⟨qbu env d .undef false,h⟩
 | none=>none
@[go_sem] theorem jgs {d:Option Nat} {env:Env} {f:AOp→Option ORes} {op:AOp}:qss (some true) d env h f op=q1c d env (f op):=rfl
@[go_sem] theorem jf3 {d:Option Nat} {env:Env} {f:AOp→Option ORes} {op:AOp}:qss (some false) d env h f op=some ⟨qbu env d .undef false,h⟩:=rfl
@[go_sem] theorem jb8 {d:Option Nat} {op:AOp} {g:Nat × Bool} {env:Env}:yq p xc h0 ⟨d,op,some g,al⟩ ⟨env,h⟩=qss (qbc env (some g)) d env h (qg p xc h0 al env h) op:=by
 unfold yq qss
 simp only []
 split
 ·rename_i hg; rw [hg]; rfl
 ·rename_i hg; rw [hg]
 ·rename_i hg; rw [hg]
def qgn (b:Bool) (v:Option (AVal × Bool)):Option Bool:=match v with
 | some (.bool c,_)=>some (c == b)
 | some (.undef,_)=>some false
 | _=>none
@[go_sem] theorem jdf {s:Nat} {b:Bool}:qbc e (some (s,b))=qgn b (jp s e):=by
 unfold qbc qgn; rfl
theorem jgt {b c:Bool} {o:Bool}:qgn b (some (.bool c,o))=some (c == b):=rfl
@[go_sem] theorem je7 {b:Bool} {o:Bool}:qgn b (some (.undef,o))=some false:=rfl
@[go_sem] theorem jon {s t:Nat} {x:AVal × Bool}:jp t ((s,x)::e)=if s=t then some x else jp t e:=by
 by_cases hst:s=t
 ·subst hst; rw [if_pos rfl]; simp [jp]
 ·rw [if_neg hst]
  have:Nat.beq s t=false:=by
   cases hb:Nat.beq s t with
   | false=>rfl
   | true=>exact absurd (Nat.eq_of_beq_eq_true hb) hst
  simp [jp,this]
@[go_sem] theorem jsf {t:Nat}:jp t []=none:=rfl
def jed (x:Option (AVal × Bool)):Option AVal:=match x with
 | some x=>some x.1
 | none=>none
@[go_sem] theorem jow {v:AVal} {o:Bool}:jed (some (v,o))=some v:=rfl
@[go_sem] theorem jnn {t:Nat}:ql e (.tmp t)=jed (jp t e):=rfl
@[go_sem] theorem jg8 {v:AVal}:ql e (.const v)=some v:=rfl
def qdy (x:Option AVal) (l:Option (List AVal)):Option (List AVal):=match x,l with
 | some v,some vs=>some (v::vs)
 | _,_=>none
@[go_sem] theorem jju {v:AVal} {vs:List AVal}:qdy (some v) (some vs)=some (v::vs):=rfl
@[go_sem] theorem jpa:kr e []=some []:=rfl
@[go_sem] theorem jk5 {x:qu} {l:List qu}:kr e (x::l)=qdy (ql e x) (kr e l):=by
 simp only [kr,qdy]
 cases ql e x with
 | none=>rfl
 | some v=>cases kr e l <;> rfl
@[go_sem] theorem jgc {l:List Nat}:qh9 ⟨e,h⟩ (some l)=⟨qb5 e l,h⟩:=rfl
@[go_sem] theorem jg9:qh9 ⟨e,h⟩ none=⟨e,h⟩:=rfl
def qvs (t:Nat) (x:Option (AVal × Bool)) (e:Env):Env:=match x with
 | some x=>(t,x)::e
 | none=>e
@[go_sem] theorem jin {t:Nat} {x:AVal × Bool}:qvs t (some x) e=(t,x)::e:=rfl
@[go_sem] theorem jme {t:Nat}:qvs t none e=e:=rfl
@[go_sem] theorem jf7:qb5 e []=[]:=rfl
@[go_sem] theorem jc5 {t:Nat} {l:List Nat}:qb5 e (t::l)=qvs t (jp t e) (qb5 e l):=by
 simp only [qb5,qvs]
 cases jp t e <;> rfl
@[go_sem] theorem jgg {d:Nat} {v:AVal} {o:Bool}:qbu e (some d) v o=(d,v,o)::e:=rfl
@[go_sem] theorem jgz {v:AVal} {o:Bool}:qbu e none v o=e:=rfl
@[go_sem] theorem jcd:yd e none=e:=rfl
def qxh (s:Nat) (x:Option (AVal × Bool)) (e:Env):Env:=match x with
 | some (v,_)=>(s,v,false)::e
 | none=>e
@[go_sem] theorem jg0 {s:Nat} {v:AVal} {o:Bool}:qxh s (some (v,o)) e=(s,v,false)::e:=rfl
@[go_sem] theorem jb7 {s:Nat}:yd e (some s)=qxh s (jp s e) e:=by
 simp only [yd,qxh]
 cases jp s e <;> rfl
@[go_sem] theorem jmd {i:Nat}:qc9 i []=[]:=rfl
@[go_sem] theorem jgl {i:Nat} {v:AVal} {vs:List AVal}:qc9 i (v::vs)=(i,v,false)::qc9 (i + 1) vs:=rfl
@[go_sem] theorem jnz {v:AVal}:qav h (some v)=some ⟨v,false,none,h⟩:=rfl
@[go_sem] theorem jur {v:AVal}:val h v=some ⟨v,false,none,h⟩:=rfl
@[go_sem] theorem juw {x:qu}:qg p xc h0 al e h (.move x)=qav h (ql e x):=rfl
def q1k (s:Nat) (h:qk) (x:Option (AVal × Bool)):Option ORes:=match x with
 | some (v,o)=>some ⟨v,o,some s,h⟩
 | none=>none
@[go_sem] theorem jko {s:Nat} {v:AVal} {o:Bool}:q1k s h (some (v,o))=some ⟨v,o,some s,h⟩:=rfl
@[go_sem] theorem juy {s:Nat}:qg p xc h0 al e h (.take s)=q1k s h (jp s e):=by
 simp only [qg,qr,q1k]
 cases jp s e <;> rfl
def q77 (op:BinOp) (h:qk) (a b:Option AVal):Option ORes:=match a,b with
 | some a,some b=>qav h (zk op a b)
 | _,_=>none
@[go_sem] theorem joh {op:BinOp} {a b:AVal}:q77 op h (some a) (some b)=qav h (zk op a b):=rfl
@[go_sem] theorem jvk {op:BinOp} {x y:qu}:qg p xc h0 al e h (.bin op x y)=q77 op h (ql e x) (ql e y):=by
 simp only [qg,qr,q77]
 cases ql e x <;> cases ql e y <;> rfl
def q2l (h:qk) (c a b:Option AVal):Option ORes:=match c,a,b with
 | some (.bool t),some x,some y=>val h (bif t then x else y)
 | _,_,_=>none
@[go_sem] theorem jmb {t:Bool} {a b:AVal}:q2l h (some (.bool t)) (some a) (some b)=some ⟨bif t then a else b,false,none,h⟩:=rfl
@[go_sem] theorem ju9 {c a b:qu}:qg p xc h0 al e h (.pick c a b)=q2l h (ql e c) (ql e a) (ql e b):=by
 simp only [qg,qr,q2l]
 cases ql e c with
 | none=>rfl
 | some v=>cases v <;> cases ql e a <;> cases ql e b <;> rfl
def qqn (k:Nat) (h:qk) (x:Option AVal):Option ORes:=match k,x with
 | 1,some (.list _ _ xs)=>val h (.int .i64 xs.length)
 | 1,some (.ms _ _ n)=>val h (.int .i64 n)
 | 2,some (.list true _ _)=>val h (.int .i64 0)
 | 0,some (.str s)=>val h (.int .i64 s.length)
 | _,_=>none
@[go_sem] theorem jn0 {b:Bool} {z:Nat} {xs:List AVal}:qqn 1 h (some (.list b z xs))=some ⟨.int .i64 xs.length,false,none,h⟩:=rfl
@[go_sem] theorem jt8 {b o n:Nat}:qqn 1 h (some (.ms b o n))=some ⟨.int .i64 n,false,none,h⟩:=rfl
@[go_sem] theorem jqx {s:List UInt8}:qqn 0 h (some (.str s))=some ⟨.int .i64 s.length,false,none,h⟩:=rfl
@[go_sem] theorem jra {z:Nat} {xs:List AVal}:qqn 2 h (some (.list true z xs))=some ⟨.int .i64 0,false,none,h⟩:=rfl
@[go_sem] theorem jvo {k:Nat} {x:qu}:qg p xc h0 al e h (.len k x)=qqn k h (ql e x):=rfl
def qjw (n:Nat) (i:Int):Option Nat:=if 0≤i∧i < n then some i.toNat else none
theorem qeh {n:Nat} {k:IntKind} {i:Int}:idx n (.int k i)=qjw n i:=by
 unfold idx qjw
 cases i with
 | ofNat m=>
  by_cases hm:m < n
  ·rw [if_pos ⟨by simp,by simp; omega⟩]; simp [Nat.blt_eq.mpr hm]
  ·rw [if_neg (by simp; omega)]
   cases hb:Nat.blt m n with
   | true=>exact absurd (Nat.blt_eq.mp hb) hm
   | false=>simp [hb]
 | negSucc m=>simp
attribute [go_sem] qeh
theorem q0q {n:Nat} {i:Int} (h1:0≤i) (h2:i < n):qjw n i=some i.toNat:=by unfold qjw; rw [if_pos ⟨h1,h2⟩]
theorem qp9 {n i:Nat} (h:i < n):qjw n (i:Int)=some i:=by unfold qjw; rw [if_pos ⟨by simp,by omega⟩]; simp
def qmq (sz:Nat) (h:qk) (x i:Option AVal):Option ORes:=match x,i with
 | some (.list _ sz' xs),some j=>bif Nat.beq sz sz' || xs.isEmpty then (match idx xs.length j with
   | some j=>(match xs[j]? with
    | some v=>val h (.vptr v)
    | none=>none)
   | none=>none) else none
 | some (.ms b o len),some j=>(match idx len j with
   | some j=>val h (.ptr b (o + j * sz))
   | none=>none)
 | _,_=>none
@[go_sem] theorem jgu {sz:Nat} {x i:qu}:qg p xc h0 al e h (.indexAddr sz x i)=qmq sz h (ql e x) (ql e i):=by
 simp only [qg,qr,qmq]
 cases ql e x with
 | none=>rfl
 | some v=>cases v <;> cases ql e i <;> rfl
theorem q3x {sz:Nat} {b:Bool} {k:IntKind} {xs:List AVal} {i:Int} {v:AVal} (h1:0≤i) (hv:xs[i.toNat]?=some v):qmq sz h (some (.list b sz xs)) (some (.int k i))=some ⟨.vptr v,false,none,h⟩:=by
 have hl:=(List.getElem?_eq_some_iff.1 hv).1
 have hi:idx xs.length (.int k i)=some i.toNat:=by rw [qeh]; exact q0q h1 (by omega)
 simp only [qmq,hi,Nat.beq_refl,Bool.true_or,cond_true,hv]
 rfl
theorem q62 {sz:Nat} {b:Bool} {k:IntKind} {xs:List AVal} {i:Nat} {v:AVal} (hv:xs[i]?=some v):qmq sz h (some (.list b sz xs)) (some (.int k (i:Int)))=some ⟨.vptr v,false,none,h⟩:=
 q3x (by simp) (by simpa using hv)
def qa9 (h0:Nat) (al:Option (List Nat)) (agg:Bool) (n:Nat) (h:qk) (x:Option AVal):Option ORes:=match x with
 | some (.ptr b o)=>bif j8 h0 al b then (match jq h b with
   | some cs=>(match kj cs o n with
    | some vs=>bif agg then val h (.agg vs) else (match vs with
     | [v]=>val h v
     | _=>none)
    | none=>none)
   | none=>none) else none
 | some (.vptr v)=>bif Bool.xor agg v.isAgg || !(Nat.beq v.flat.length n) then none else val h v
 | _=>none
@[go_sem] theorem ju2 {agg:Bool} {n:Nat} {x:qu}:qg p xc h0 al e h (.load agg n x)=qa9 h0 al agg n h (ql e x):=by
 simp only [qg,yp,qa9]
 cases ql e x with
 | none=>rfl
 | some v=>cases v <;> rfl
def q9n:Option AVal→Option AVal
 | some (.vptr v)=>some (.vptr v)
 | _=>none
@[go_sem] theorem jt9 {v:AVal}:q9n (some (.vptr v))=some (.vptr v):=rfl
@[go_sem] theorem juf {agg:Bool} {n:Nat} {x:qu}:qg p xc h0 al e h (.vload agg n x)=qa9 h0 al agg n h (q9n (ql e x)):=by
 simp only [qg,qr,qa9]
 cases ql e x with
 | none=>rfl
 | some v=>cases v <;> rfl
@[go_sem] theorem jpf {k:IntKind} {i:Int}:qa9 h0 al false 1 h (some (.vptr (.int k i)))=some ⟨.int k i,false,none,h⟩:=rfl
@[go_sem] theorem jpp {s:List UInt8}:qa9 h0 al false 1 h (some (.vptr (.str s)))=some ⟨.str s,false,none,h⟩:=rfl
@[go_sem] theorem jht {b:Bool}:qa9 h0 al false 1 h (some (.vptr (.bool b)))=some ⟨.bool b,false,none,h⟩:=rfl
@[go_sem] theorem jjv {b:Bool} {z:Nat} {xs:List AVal}:qa9 h0 al false 1 h (some (.vptr (.list b z xs)))=some ⟨.list b z xs,false,none,h⟩:=rfl
theorem q5m {n:Nat} {cs:List AVal} (hn:cs.length=n):qa9 h0 al true n h (some (.vptr (.agg cs)))=some ⟨.agg cs,false,none,h⟩:=by
 subst hn; simp [qa9,AVal.isAgg,AVal.flat,val]
@[go_sem] theorem jvt {k:IntKind} {x y:Int}:zk .add (.int k x) (.int k y)=some (.int k (qf k (x + y))):=by simp [zk,qa7]
@[go_sem] theorem jvm {k:IntKind} {x y:Int}:zk .sub (.int k x) (.int k y)=some (.int k (qf k (x - y))):=by simp [zk,qa7]
@[go_sem] theorem jvd {k:IntKind} {x y:Int}:zk .mul (.int k x) (.int k y)=some (.int k (qf k (x * y))):=by simp [zk,qa7]
@[go_sem] theorem jvy {k:IntKind} {x y:Int}:zk .lss (.int k x) (.int k y)=some (.bool (decide (x < y))):=by simp [zk,qa7]
@[go_sem] theorem jvw {k:IntKind} {x y:Int}:zk .leq (.int k x) (.int k y)=some (.bool (decide (x≤y))):=by simp [zk,qa7]
@[go_sem] theorem jvn {k:IntKind} {x y:Int}:zk .gtr (.int k x) (.int k y)=some (.bool (decide (y < x))):=by simp [zk,qa7]
@[go_sem] theorem jvi {k:IntKind} {x y:Int}:zk .geq (.int k x) (.int k y)=some (.bool (decide (y≤x))):=by simp [zk,qa7]
@[go_sem] theorem jvv {k:IntKind} {x y:Int}:zk .eql (.int k x) (.int k y)=some (.bool (decide (x=y))):=by
 simp only [zk,qa7,decide_true,cond_true]; congr 2
@[go_sem] theorem jvu {k:IntKind} {x y:Int}:zk .neq (.int k x) (.int k y)=some (.bool (!decide (x=y))):=by
 simp only [zk,qa7,decide_true,cond_true]; congr 2
theorem za {x:Int} (h1:-9223372036854775808≤x) (h2:x≤9223372036854775807):qf .i64 x=x:=by
 have:qc6 .i64 x=true:=by
  cases x with
  | ofNat m=>simp only [qc6]; exact Nat.ble_eq_true_of_le (by simp at h2; omega)
  | negSucc m=>simp only [qc6]; exact Nat.ble_eq_true_of_le (by omega)
 simp [qf,this]
def q8n (h:qk) (b:Bool) (r:Option (AVal × Bool)):Option ORes:=match b,r with
 | true,some (v,o)=>some ⟨v,o,none,h⟩
 | _,_=>none
@[go_sem] theorem jop {v:AVal} {o:Bool}:q8n h true (some (v,o))=some ⟨v,o,none,h⟩:=rfl
def q8w (n:Nat) (r:Option (AVal × Bool × qk)):Option ORes:=match r with
 | some (v,o,h')=>some ⟨v,o,none,zq n v h'⟩
 | none=>none
@[go_sem] theorem jof {n:Nat} {v:AVal} {o:Bool}:q8w n (some (v,o,h))=some ⟨v,o,none,zq n v h⟩:=rfl
def qyo (r:Option (AVal × qk)):Option ORes:=match r with
 | some (v,h')=>some ⟨v,false,none,h'⟩
 | none=>none
@[go_sem] theorem jg4 {v:AVal}:qyo (some (v,h))=some ⟨v,false,none,h⟩:=rfl
def q29 (h0 r:Nat) (h:qk) (b:Bool) (m:Option (List (AVal × AVal))):Option ORes:=match b,m with
 | true,some es=>(match newBox h0 h r (.map es) with
  | some h'=>some ⟨.map (h0 + r),false,none,h'⟩
  | none=>none)
 | _,_=>none
def qxy (h0 r:Nat) (h:qk) (b b':Bool) (m:Option (List (AVal × AVal))) (c:Option (AVal × Bool)):Option ORes:=match b with
 | true=>q29 h0 r h true m
 | false=>(match b',c with
  | true,some (v,o)=>qb2 h0 h r v o
  | _,_=>none)
@[go_sem] theorem jp5 {r:Nat} {b':Bool} {m:Option (List (AVal × AVal))} {c:Option (AVal × Bool)}:qxy h0 r h true b' m c=q29 h0 r h true m:=rfl
@[go_sem] theorem jo3 {r:Nat} {m:Option (List (AVal × AVal))} {v:AVal} {o:Bool}:qxy h0 r h false true m (some (v,o))=qb2 h0 h r v o:=rfl
def q15 (p:ju) (xc:XC) (h:qk) (k:Nat):Option (List AVal)→Option ORes
 | some us=>bif jk 0 us then (match qc p xc k us with
  | some (v,o)=>(match q1n v o with
   | some (v',o')=>some ⟨v',o',none,h⟩
   | none=>none)
  | none=>none) else none
 | none=>none
def qlr (p:ju) (xc:XC) (h0:Nat) (h:qk) (md:CMode) (f:Option AVal) (l:Option (List AVal)):Option ORes:=match f,l with
 | some (.fn (.func k) a c),some vs=>(match md with
  | .iso=>q8n h (jk 0 (a++vs++c)) (qc p xc k (a++vs++c))
  | .frz r=>qxy h0 r h (a++vs++c).isEmpty (jk 0 (a++vs++c)) (p.maps k) (qc p xc k (a++vs++c))
  | .red=>q15 p xc h k (qcb h (a++vs++c))
  | .shr=>q8w h.length (jl p xc k (a++vs++c) h))
 | some (.fn (.yield b) [] []),some vs=>(match md with
  | .shr=>qyo (k9 xc b vs h)
  | _=>none)
 | _,_=>none
@[go_sem] theorem ju3 {md:CMode} {f:qu} {l:List qu}:qg p xc h0 al e h (.call md f l)=qlr p xc h0 h md (ql e f) (kr e l):=by
 simp only [qg,yr,qlr]
 split
 ·rename_i k first captured vs h1 h2
  rw [h1,h2]
  cases md with
  | iso=>
   simp only []
   cases jk 0 (first++vs++captured) with
   | false=>cases qc p xc k (first++vs++captured) <;> rfl
   | true=>cases qc p xc k (first++vs++captured) <;> rfl
  | frz rk=>
   simp only []
   cases (first++vs++captured).isEmpty with
   | false=>
    cases jk 0 (first++vs++captured) with
    | false=>cases qc p xc k (first++vs++captured) <;> rfl
    | true=>cases qc p xc k (first++vs++captured) <;> rfl
   | true=>
    cases p.maps k with
    | none=>rfl
    | some es=>simp only [cond_true,qxy,q29]; cases newBox h0 h rk (.map es) <;> rfl
  | red=>simp only []; cases qcb h (first++vs++captured) <;> rfl
  | shr=>simp only []; cases jl p xc k (first++vs++captured) h <;> rfl
 ·rename_i b vs h1 h2
  rw [h1,h2]
  cases md with
  | shr=>simp only []; cases k9 xc b vs h <;> rfl
  | _=>rfl
 ·rename_i h1 h2
  split
  ·rename_i k a c vs g1 g2; exact absurd g2 (fun g2=>h1 k a c vs g1 g2)
  ·rename_i b vs g1 g2; exact absurd g2 (fun g2=>h2 b vs g1 g2)
  ·rfl
@[go_sem] theorem jnl {k:Nat} {a c vs:List AVal}:qlr p xc h0 h .iso (some (.fn (.func k) a c)) (some vs)=q8n h (jk 0 (a++vs++c)) (qc p xc k (a++vs++c)):=rfl
@[go_sem] theorem jpo {k r:Nat} {a c vs:List AVal}:qlr p xc h0 h (.frz r) (some (.fn (.func k) a c)) (some vs)=qxy h0 r h (a++vs++c).isEmpty (jk 0 (a++vs++c)) (p.maps k) (qc p xc k (a++vs++c)):=rfl
@[go_sem] theorem jog {k:Nat} {a c vs:List AVal}:qlr p xc h0 h .red (some (.fn (.func k) a c)) (some vs)=q15 p xc h k (qcb h (a++vs++c)):=rfl
@[go_sem] theorem jn4 {k:Nat} {a c vs:List AVal}:qlr p xc h0 h .shr (some (.fn (.func k) a c)) (some vs)=q8w h.length (jl p xc k (a++vs++c) h):=rfl
@[go_sem] theorem jgp {b:Nat} {vs:List AVal}:qlr p xc h0 h .shr (some (.fn (.yield b) [] [])) (some vs)=qyo (k9 xc b vs h):=rfl
def q28 (rs:List qa6) (r:Option (ji × ASt)):Option (AVal × Bool × qk):=match r with
 | some (.normal,st)=>(match ki st rs with
   | some xs=>some ((j5 xs).1,(j5 xs).2,kq st rs)
   | none=>none)
 | some (.ret,st)=>(match ki st rs with
   | some xs=>some ((j5 xs).1,(j5 xs).2,kq st rs)
   | none=>none)
 | _=>none
def q75 (st:ASt) (rs:List qa6) (r:Option (List (AVal × Bool))):Option (AVal × Bool × qk):=match r with
 | some xs=>some ((j5 xs).1,(j5 xs).2,kq st rs)
 | none=>none
@[go_sem] theorem jgh {rs:List qa6} {st:ASt}:q28 rs (some (.normal,st))=q75 st rs (ki st rs):=rfl
@[go_sem] theorem jr0 {rs:List qa6} {st:ASt}:q28 rs (some (.ret,st))=q75 st rs (ki st rs):=rfl
@[go_sem] theorem jn9 {st:ASt} {rs:List qa6} {xs:List (AVal × Bool)}:q75 st rs (some xs)=some ((j5 xs).1,(j5 xs).2,kq st rs):=rfl
theorem qh {k nt:Nat} {body:ACode} {rs:List qa6} {args:List AVal} (hf:p.fns k=some ⟨nt,body,rs⟩) (hl:args.length≤nt):jl p xc k args h=q28 rs (xc body ⟨qc9 0 args,h⟩):=by
 simp only [jl,hf,qbf,Nat.ble_eq_true_of_le hl,cond_true,q28]
 rfl
def q1g (x:Option (AVal × Bool)) (l:Option (List (AVal × Bool))):Option (List (AVal × Bool)):=match x,l with
 | some v,some vs=>some (v::vs)
 | _,_=>none
@[go_sem] theorem jmq {v:AVal × Bool} {vs:List (AVal × Bool)}:q1g (some v) (some vs)=some (v::vs):=rfl
@[go_sem] theorem jb6 {st:ASt}:ki st []=some []:=rfl
@[go_sem] theorem jaz {st:ASt} {r:qa6} {rs:List qa6}:ki st (r::rs)=q1g (qbv st r) (ki st rs):=by
 simp only [ki,q1g]
 cases qbv st r with
 | none=>rfl
 | some v=>cases ki st rs <;> rfl
@[go_sem] theorem jc4 {t:Nat}:qbv ⟨e,h⟩ (.tmp t)=jp t e:=rfl
@[go_sem] theorem jqs {x:AVal × Bool}:j5 [x]=x:=rfl
@[go_sem] theorem jpx {x y:AVal × Bool}:j5 [x,y]=(.tup [x.1,y.1],false):=rfl
@[go_sem] theorem jj0 {x y z:AVal × Bool}:j5 [x,y,z]=(.tup [x.1,y.1,z.1],false):=rfl
@[go_sem] theorem jnm:j5 []=(.tup [],false):=rfl
@[go_sem] theorem jom {st:ASt} {t:Nat}:kq st [.tmp t]=st.heap:=rfl
@[go_sem] theorem joa {st:ASt} {x y:qa6} {l:List qa6}:kq st (x::y::l)=st.heap:=by
 cases x with
 | tmp t=>rfl
 | cell t a n=>cases a <;> rfl
@[go_sem] theorem ji8 {st:ASt}:kq st []=st.heap:=rfl
@[go_sem] theorem jny {st:ASt} {t n:Nat}:kq st [.cell t true n]=st.heap:=rfl
@[go_sem] theorem jqd {o:Bool}:qgn true (some (.bool true,o))=some true:=rfl
@[go_sem] theorem jtp {o:Bool}:qgn true (some (.bool false,o))=some false:=rfl
@[go_sem] theorem jsw {o:Bool}:qgn false (some (.bool true,o))=some false:=rfl
@[go_sem] theorem jtu {o:Bool}:qgn false (some (.bool false,o))=some true:=rfl
attribute [go_sem] cond_true cond_false decide_true decide_false Bool.not_true Bool.not_false List.append_nil List.nil_append List.length_cons List.length_nil
@[go_sem] theorem jvs:List.replicate 0 ABox.hole=[]:=rfl
end
section
variable {p:ju} {xc:XC} {h0:Nat} {al:Option (List Nat)} {e:Env} {h:qk} {α:Type}
def sl (z:Nat) (f:α→AVal):Option (List α)→AVal
 | none=>.list true 0 []
 | some l=>.list false z (l.map f)
@[go_sem] theorem jvb {z:Nat} {f:α→AVal} {l:Option (List α)}:qqn 1 h (some (sl z f l))=some ⟨.int .i64 (l.getD []).length,false,none,h⟩:=by
 cases l <;> simp [sl,qqn,val]
theorem jff {z:Nat} {f:α→AVal} {l:Option (List α)} {k:IntKind} {i:Nat} {x:α} (hx:(l.getD [])[i]?=some x):qmq z h (some (sl z f l)) (some (.int k (i:Int)))=some ⟨.vptr (f x),false,none,h⟩:=by
 cases l with
 | none=>simp at hx
 | some l=>exact q62 (by rw [List.getElem?_map,show l[i]?=some x from hx]; rfl)
theorem qfn {n z:Nat} {f:α→AVal} {l:Option (List α)} (hf:∀ x,below n (f x)=true):below n (sl z f l)=true:=by
 have key:∀ l:List α,jk n (l.map f)=true:=by
  intro l
  induction l with
  | nil=>rfl
  | cons x l ih=>simp [jk,hf,ih]
 cases l with
 | none=>rfl
 | some l=>simp only [sl,below]; exact key l
theorem ju7 {z:Nat} {f:α→AVal} (hf:∀ x y,f x=f y→x=y) {a b:Option (List α)} (hab:sl z f a=sl z f b):a=b:=by
 have key:∀ a b:List α,a.map f=b.map f→a=b:=by
  intro a
  induction a with
  | nil=>intro b hb; cases b <;> simp at hb <;> rfl
  | cons x a ih=>
   intro b hb
   cases b with
   | nil=>simp at hb
   | cons y b=>simp at hb; rw [hf _ _ hb.1,ih _ hb.2]
 cases a <;> cases b <;> simp [sl] at hab <;> first | rfl | rw [key _ _ hab]
def qo (n:Int):AVal:=.int .i64 n
@[go_sem] theorem jmo {i:Int}:qa9 h0 al false 1 h (some (.vptr (qo i)))=some ⟨.int .i64 i,false,none,h⟩:=rfl
end
end Go.Abs
