/-
  Equations of the executor for runs on values that are not known: one step each, what comes behind stays closed until its state is there.
-/
import Derived.Test.YtnjngdcbkkonnaaGreatDoorAbsH
set_option linter.unusedVariables false
set_option linter.unusedSimpArgs false
namespace Go.Abs
section
variable {p:js} {xc:XC} {h0:Nat} {al:Option (List Nat)} {e:Env} {h:ql}
def qqx (r:Option (jg × ASt)) (f:ASt→Option (jg × ASt)):Option (jg × ASt):=match r with
 | some (.normal,st)=>f st
 | r=>r
@[go_sem] theorem jb2 {st:ASt} {f:ASt→Option (jg × ASt)}:qqx (some (.normal,st)) f=f st:=rfl
@[go_sem] theorem jmq {st:ASt} {f:ASt→Option (jg × ASt)}:qqx (some (.ret,st)) f=some (.ret,st):=rfl
@[go_sem] theorem jle {id:Nat} {st:ASt} {f:ASt→Option (jg × ASt)}:qqx (some (.exit id,st)) f=some (.exit id,st):=rfl
@[go_sem] theorem jub {a b:ACode} {st:ASt}:X p (.seq a b) st=qqx (X p a st) (X p b):=by
 rw [jgg]; unfold qqx
 cases X p a st with
 | none=>rfl
 | some r=>obtain ⟨x,s⟩:=r; cases x <;> rfl
def quq (c:Option AVal) (f g:ASt→Option (jg × ASt)) (st:ASt):Option (jg × ASt):=match c with
 | some (.bool true)=>f st
 | some (.bool false)=>g st
 | _=>none
@[go_sem] theorem jkw {f g:ASt→Option (jg × ASt)} {st:ASt}:quq (some (.bool true)) f g st=f st:=rfl
@[go_sem] theorem jfs {f g:ASt→Option (jg × ASt)} {st:ASt}:quq (some (.bool false)) f g st=g st:=rfl
@[go_sem] theorem jt6 {c:qx} {a b:ACode} {st:ASt}:X p (.cond c a b) st=quq (qk st.env c) (X p a) (X p b) st:=by
 rw [jds]; unfold quq
 cases qk st.env c with
 | none=>rfl
 | some v=>cases v with
  | bool t=>cases t <;> rfl
  | _=>rfl
def qnw (id:Nat) (r:Option (jg × ASt)):Option (jg × ASt):=match r with
 | some (.exit id',st')=>if id'=id then some (.normal,st') else some (.exit id',st')
 | r=>r
@[go_sem] theorem jfc {id id':Nat} {st:ASt}:qnw id (some (.exit id',st))=if id'=id then some (.normal,st) else some (.exit id',st):=rfl
@[go_sem] theorem jag {id:Nat} {st:ASt}:qnw id (some (.normal,st))=some (.normal,st):=rfl
@[go_sem] theorem jje {id:Nat} {st:ASt}:qnw id (some (.ret,st))=some (.ret,st):=rfl
@[go_sem] theorem jov {id:Nat} {b:ACode} {st:ASt}:X p (.block id b) st=qnw id (X p b st):=by
 rw [q82]; unfold qnw
 cases X p b st with
 | none=>rfl
 | some r=>
  obtain ⟨x,s⟩:=r
  cases x with
  | exit id'=>
   simp only []
   by_cases hb:id'=id
   ·subst hb; simp
   ·rw [if_neg hb]
    cases hq:Nat.beq id' id with
    | true=>exact absurd (Nat.eq_of_beq_eq_true hq) hb
    | false=>rfl
  | _=>rfl
noncomputable def qoa (p:js) (b:ACode) (n:Nat) (r:Option (jg × ASt)):Option (jg × ASt):=match r with
 | some (.normal,st')=>X p (.loop b) (gc n st')
 | r=>r
theorem qy7 {b:ACode} {st:ASt}:X p (.loop b) st=qoa p b st.heap.length (X p b st):=by
 rw [jc7]; unfold qoa
 cases X p b st with
 | none=>rfl
 | some r=>obtain ⟨x,s⟩:=r; cases x <;> rfl
@[go_sem] theorem qvl {b:ACode} {n:Nat} {st:ASt}:qoa p b n (some (.normal,st))=X p (.loop b) (gc n st):=rfl
@[go_sem] theorem jnk {b:ACode} {n:Nat} {st:ASt}:qoa p b n (some (.ret,st))=some (.ret,st):=rfl
@[go_sem] theorem jjf {b:ACode} {n id:Nat} {st:ASt}:qoa p b n (some (.exit id,st))=some (.exit id,st):=rfl
attribute [go_sem] jbu jay jji q5f qr6 jbc
@[go_sem] theorem jum {env:Env}:gc 0 ⟨env,[]⟩=⟨env,[]⟩:=rfl
theorem jc {n:Nat} {st:ASt} (hn:st.heap.length≤n):gc n st=st:=by
 unfold gc; rw [Nat.ble_eq_true_of_le hn]; rfl
theorem jvd {e e':Env} {h:ql}:gc (ASt.mk e h).heap.length ⟨e',h⟩=⟨e',h⟩:=jc (Nat.le_refl _)
def q6w (k:Option (List Nat)) (r:Option ASt):Option (jg × ASt):=match r with
 | some st'=>some (.normal,qhp st' k)
 | none=>none
@[go_sem] theorem jom {k:Option (List Nat)} {st:ASt}:q6w k (some st)=some (.normal,qhp st k):=rfl
@[go_sem] theorem jq1 {na:Nat} {l:List AOper} {k:Option (List Nat)} {st:ASt}:qar p xc na l k st=q6w k (qag p xc st.heap.length l ⟨st.env,st.heap++List.replicate na .hole⟩):=by
 unfold qar q6w; rfl
def jb7 (r:Option ASt) (f:ASt→Option ASt):Option ASt:=match r with
 | some st=>f st
 | none=>none
@[go_sem] theorem jm5 {st:ASt} {f:ASt→Option ASt}:jb7 (some st) f=f st:=rfl
@[go_sem] theorem jo7 {st:ASt}:qag p xc h0 [] st=some st:=rfl
@[go_sem] theorem jm0 {o:AOper} {l:List AOper} {st:ASt}:qag p xc h0 (o::l) st=jb7 (yj p xc h0 o st) (qag p xc h0 l):=rfl
def q09 (d:Option Nat) (e:Env) (r:Option ORes):Option ASt:=match r with
 | some r=>some ⟨qbh (yd e r.strip) d r.v r.own,r.heap⟩
 | none=>none
@[go_sem] theorem jne {d:Option Nat} {v:AVal} {o:Bool} {s:Option Nat}:q09 d e (some ⟨v,o,s,h⟩)=some ⟨qbh (yd e s) d v o,h⟩:=rfl
@[go_sem] theorem jan {d:Option Nat} {op:AOp} {env:Env}:yj p xc h0 ⟨d,op,none,al⟩ ⟨env,h⟩=q09 d env (qh p xc h0 al env h op):=rfl
def qqo (g:Option Bool) (d:Option Nat) (env:Env) (h:ql) (f:AOp→Option ORes) (op:AOp):Option ASt:=match g with
 | some true=>q09 d env (f op)
 | some false=>some ⟨qbh env d .undef false,h⟩
 | none=>none
@[go_sem] theorem jfl {d:Option Nat} {env:Env} {f:AOp→Option ORes} {op:AOp}:qqo (some true) d env h f op=q09 d env (f op):=rfl
@[go_sem] theorem jb1 {d:Option Nat} {env:Env} {f:AOp→Option ORes} {op:AOp}:qqo (some false) d env h f op=some ⟨qbh env d .undef false,h⟩:=rfl
@[go_sem] theorem jal {d:Option Nat} {op:AOp} {g:Nat × Bool} {env:Env}:yj p xc h0 ⟨d,op,some g,al⟩ ⟨env,h⟩=qqo (qa1 env (some g)) d env h (qh p xc h0 al env h) op:=by
 unfold yj qqo
 simp only []
 split
 ·rename_i hg; rw [hg]; rfl
 ·rename_i hg; rw [hg]
 ·rename_i hg; rw [hg]
def qfo (b:Bool) (v:Option (AVal × Bool)):Option Bool:=match v with
 | some (.bool c,_)=>some (c == b)
 | some (.undef,_)=>some false
 | _=>none
@[go_sem] theorem jdm {s:Nat} {b:Bool}:qa1 e (some (s,b))=qfo b (jn s e):=by
 unfold qa1 qfo; rfl
theorem jfe {b c:Bool} {o:Bool}:qfo b (some (.bool c,o))=some (c == b):=rfl
@[go_sem] theorem ja5 {b:Bool} {o:Bool}:qfo b (some (.undef,o))=some false:=rfl
@[go_sem] theorem jn4 {s t:Nat} {x:AVal × Bool}:jn t ((s,x)::e)=if s=t then some x else jn t e:=by
 by_cases hst:s=t
 ·subst hst; rw [if_pos rfl]; simp [jn]
 ·rw [if_neg hst]
  have:Nat.beq s t=false:=by
   cases hb:Nat.beq s t with
   | false=>rfl
   | true=>exact absurd (Nat.eq_of_beq_eq_true hb) hst
  simp [jn,this]
@[go_sem] theorem jrn {t:Nat}:jn t []=none:=rfl
def jdv (x:Option (AVal × Bool)):Option AVal:=match x with
 | some x=>some x.1
 | none=>none
@[go_sem] theorem joq {v:AVal} {o:Bool}:jdv (some (v,o))=some v:=rfl
@[go_sem] theorem jnr {t:Nat}:qk e (.tmp t)=jdv (jn t e):=rfl
@[go_sem] theorem jfn {v:AVal}:qk e (.const v)=some v:=rfl
def qds (x:Option AVal) (l:Option (List AVal)):Option (List AVal):=match x,l with
 | some v,some vs=>some (v::vs)
 | _,_=>none
@[go_sem] theorem jhp {v:AVal} {vs:List AVal}:qds (some v) (some vs)=some (v::vs):=rfl
@[go_sem] theorem jny:kf e []=some []:=rfl
@[go_sem] theorem jl9 {x:qx} {l:List qx}:kf e (x::l)=qds (qk e x) (kf e l):=by
 simp only [kf,qds]
 cases qk e x with
 | none=>rfl
 | some v=>cases kf e l <;> rfl
@[go_sem] theorem je8 {l:List Nat}:qhp ⟨e,h⟩ (some l)=⟨qbu e l,h⟩:=rfl
@[go_sem] theorem je0:qhp ⟨e,h⟩ none=⟨e,h⟩:=rfl
def quh (t:Nat) (x:Option (AVal × Bool)) (e:Env):Env:=match x with
 | some x=>(t,x)::e
 | none=>e
@[go_sem] theorem jgh {t:Nat} {x:AVal × Bool}:quh t (some x) e=(t,x)::e:=rfl
@[go_sem] theorem jly {t:Nat}:quh t none e=e:=rfl
@[go_sem] theorem je4:qbu e []=[]:=rfl
@[go_sem] theorem jaz {t:Nat} {l:List Nat}:qbu e (t::l)=quh t (jn t e) (qbu e l):=by
 simp only [qbu,quh]
 cases jn t e <;> rfl
@[go_sem] theorem jfw {d:Nat} {v:AVal} {o:Bool}:qbh e (some d) v o=(d,v,o)::e:=rfl
@[go_sem] theorem jfu {v:AVal} {o:Bool}:qbh e none v o=e:=rfl
@[go_sem] theorem jah:yd e none=e:=rfl
def qwv (s:Nat) (x:Option (AVal × Bool)) (e:Env):Env:=match x with
 | some (v,_)=>(s,v,false)::e
 | none=>e
@[go_sem] theorem jfo {s:Nat} {v:AVal} {o:Bool}:qwv s (some (v,o)) e=(s,v,false)::e:=rfl
@[go_sem] theorem jab {s:Nat}:yd e (some s)=qwv s (jn s e) e:=by
 simp only [yd,qwv]
 cases jn s e <;> rfl
@[go_sem] theorem jgf {i:Nat}:qcz i []=[]:=rfl
@[go_sem] theorem jfk {i:Nat} {v:AVal} {vs:List AVal}:qcz i (v::vs)=(i,v,false)::qcz (i + 1) vs:=rfl
@[go_sem] theorem jn9 {v:AVal}:qam h (some v)=some ⟨v,false,none,h⟩:=rfl
@[go_sem] theorem juf {v:AVal}:val h v=some ⟨v,false,none,h⟩:=rfl
@[go_sem] theorem juh {x:qx}:qh p xc h0 al e h (.move x)=qam h (qk e x):=rfl
def q0h (s:Nat) (h:ql) (x:Option (AVal × Bool)):Option ORes:=match x with
 | some (v,o)=>some ⟨v,o,some s,h⟩
 | none=>none
@[go_sem] theorem jht {s:Nat} {v:AVal} {o:Bool}:q0h s h (some (v,o))=some ⟨v,o,some s,h⟩:=rfl
@[go_sem] theorem juj {s:Nat}:qh p xc h0 al e h (.take s)=q0h s h (jn s e):=by
 simp only [qh,qt,q0h]
 cases jn s e <;> rfl
def q6u (op:BinOp) (h:ql) (a b:Option AVal):Option ORes:=match a,b with
 | some a,some b=>qam h (zn op a b)
 | _,_=>none
@[go_sem] theorem jm9 {op:BinOp} {a b:AVal}:q6u op h (some a) (some b)=qam h (zn op a b):=rfl
@[go_sem] theorem jvb {op:BinOp} {x y:qx}:qh p xc h0 al e h (.bin op x y)=q6u op h (qk e x) (qk e y):=by
 simp only [qh,qt,q6u]
 cases qk e x <;> cases qk e y <;> rfl
def q0s (h:ql) (c a b:Option AVal):Option ORes:=match c,a,b with
 | some (.bool t),some x,some y=>val h (bif t then x else y)
 | _,_,_=>none
@[go_sem] theorem jl0 {t:Bool} {a b:AVal}:q0s h (some (.bool t)) (some a) (some b)=some ⟨bif t then a else b,false,none,h⟩:=rfl
@[go_sem] theorem jue {c a b:qx}:qh p xc h0 al e h (.pick c a b)=q0s h (qk e c) (qk e a) (qk e b):=by
 simp only [qh,qt,q0s]
 cases qk e c with
 | none=>rfl
 | some v=>cases v <;> cases qk e a <;> cases qk e b <;> rfl
def qpi (k:Nat) (h:ql) (x:Option AVal):Option ORes:=match k,x with
 | 1,some (.list _ _ xs)=>val h (.int .i64 xs.length)
 | 1,some (.ms _ _ n)=>val h (.int .i64 n)
 | 2,some (.list true _ _)=>val h (.int .i64 0)
 | 0,some (.str s)=>val h (.int .i64 s.length)
 | _,_=>none
@[go_sem] theorem jok {b:Bool} {z:Nat} {xs:List AVal}:qpi 1 h (some (.list b z xs))=some ⟨.int .i64 xs.length,false,none,h⟩:=rfl
@[go_sem] theorem jt4 {b o n:Nat}:qpi 1 h (some (.ms b o n))=some ⟨.int .i64 n,false,none,h⟩:=rfl
@[go_sem] theorem jta {s:List UInt8}:qpi 0 h (some (.str s))=some ⟨.int .i64 s.length,false,none,h⟩:=rfl
@[go_sem] theorem jow {z:Nat} {xs:List AVal}:qpi 2 h (some (.list true z xs))=some ⟨.int .i64 0,false,none,h⟩:=rfl
@[go_sem] theorem ju9 {k:Nat} {x:qx}:qh p xc h0 al e h (.len k x)=qpi k h (qk e x):=rfl
def qgb (n:Nat) (i:Int):Option Nat:=if 0≤i∧i < n then some i.toNat else none
theorem qdi {n:Nat} {k:IntKind} {i:Int}:idx n (.int k i)=qgb n i:=by
 unfold idx qgb
 cases i with
 | ofNat m=>
  by_cases hm:m < n
  ·rw [if_pos ⟨by simp,by simp; omega⟩]; simp [Nat.blt_eq.mpr hm]
  ·rw [if_neg (by simp; omega)]
   cases hb:Nat.blt m n with
   | true=>exact absurd (Nat.blt_eq.mp hb) hm
   | false=>simp [hb]
 | negSucc m=>simp
attribute [go_sem] qdi
theorem q8o {n:Nat} {i:Int} (h1:0≤i) (h2:i < n):qgb n i=some i.toNat:=by unfold qgb; rw [if_pos ⟨h1,h2⟩]
theorem qle {n i:Nat} (h:i < n):qgb n (i:Int)=some i:=by unfold qgb; rw [if_pos ⟨by simp,by omega⟩]; simp
def qp0 (sz:Nat) (h:ql) (x i:Option AVal):Option ORes:=match x,i with
 | some (.list _ sz' xs),some j=>bif Nat.beq sz sz' || xs.isEmpty then (match idx xs.length j with
   | some j=>(match xs[j]? with
    | some v=>val h (.vptr v)
    | none=>none)
   | none=>none) else none
 | some (.ms b o len),some j=>(match idx len j with
   | some j=>val h (.ptr b (o + j * sz))
   | none=>none)
 | _,_=>none
@[go_sem] theorem je2 {sz:Nat} {x i:qx}:qh p xc h0 al e h (.indexAddr sz x i)=qp0 sz h (qk e x) (qk e i):=by
 simp only [qh,qt,qp0]
 cases qk e x with
 | none=>rfl
 | some v=>cases v <;> cases qk e i <;> rfl
theorem q31 {sz:Nat} {b:Bool} {k:IntKind} {xs:List AVal} {i:Int} {v:AVal} (h1:0≤i) (hv:xs[i.toNat]?=some v):qp0 sz h (some (.list b sz xs)) (some (.int k i))=some ⟨.vptr v,false,none,h⟩:=by
 have hl:=(List.getElem?_eq_some_iff.1 hv).1
 have hi:idx xs.length (.int k i)=some i.toNat:=by rw [qdi]; exact q8o h1 (by omega)
 simp only [qp0,hi,Nat.beq_refl,Bool.true_or,cond_true,hv]
 rfl
theorem q5l {sz:Nat} {b:Bool} {k:IntKind} {xs:List AVal} {i:Nat} {v:AVal} (hv:xs[i]?=some v):qp0 sz h (some (.list b sz xs)) (some (.int k (i:Int)))=some ⟨.vptr v,false,none,h⟩:=
 q31 (by simp) (by simpa using hv)
def qaz (h0:Nat) (al:Option (List Nat)) (agg:Bool) (n:Nat) (h:ql) (x:Option AVal):Option ORes:=match x with
 | some (.ptr b o)=>bif j9 h0 al b then (match jp h b with
   | some cs=>(match yy cs o n with
    | some vs=>bif agg then val h (.agg vs) else (match vs with
     | [v]=>val h v
     | _=>none)
    | none=>none)
   | none=>none) else none
 | some (.vptr v)=>bif Bool.xor agg v.isAgg || !(Nat.beq v.flat.length n) then none else val h v
 | _=>none
@[go_sem] theorem jug {agg:Bool} {n:Nat} {x:qx}:qh p xc h0 al e h (.load agg n x)=qaz h0 al agg n h (qk e x):=by
 simp only [qh,yk,qaz]
 cases qk e x with
 | none=>rfl
 | some v=>cases v <;> rfl
def q7e:Option AVal→Option AVal
 | some (.vptr v)=>some (.vptr v)
 | _=>none
@[go_sem] theorem jth {v:AVal}:q7e (some (.vptr v))=some (.vptr v):=rfl
@[go_sem] theorem jtx {agg:Bool} {n:Nat} {x:qx}:qh p xc h0 al e h (.vload agg n x)=qaz h0 al agg n h (q7e (qk e x)):=by
 simp only [qh,qt,qaz]
 cases qk e x with
 | none=>rfl
 | some v=>cases v <;> rfl
@[go_sem] theorem joi {k:IntKind} {i:Int}:qaz h0 al false 1 h (some (.vptr (.int k i)))=some ⟨.int k i,false,none,h⟩:=rfl
@[go_sem] theorem jol {s:List UInt8}:qaz h0 al false 1 h (some (.vptr (.str s)))=some ⟨.str s,false,none,h⟩:=rfl
@[go_sem] theorem jf9 {b:Bool}:qaz h0 al false 1 h (some (.vptr (.bool b)))=some ⟨.bool b,false,none,h⟩:=rfl
@[go_sem] theorem jgt {b:Bool} {z:Nat} {xs:List AVal}:qaz h0 al false 1 h (some (.vptr (.list b z xs)))=some ⟨.list b z xs,false,none,h⟩:=rfl
theorem q3l {n:Nat} {cs:List AVal} (hn:cs.length=n):qaz h0 al true n h (some (.vptr (.agg cs)))=some ⟨.agg cs,false,none,h⟩:=by
 subst hn; simp [qaz,AVal.isAgg,AVal.flat,val]
@[go_sem] theorem jvc {k:IntKind} {x y:Int}:zn .add (.int k x) (.int k y)=some (.int k (qg k (x + y))):=by simp [zn,qax]
@[go_sem] theorem ju8 {k:IntKind} {x y:Int}:zn .sub (.int k x) (.int k y)=some (.int k (qg k (x - y))):=by simp [zn,qax]
@[go_sem] theorem ju3 {k:IntKind} {x y:Int}:zn .mul (.int k x) (.int k y)=some (.int k (qg k (x * y))):=by simp [zn,qax]
@[go_sem] theorem ju1 {k:IntKind} {x y:Int}:zn .lss (.int k x) (.int k y)=some (.bool (decide (x < y))):=by simp [zn,qax]
@[go_sem] theorem juv {k:IntKind} {x y:Int}:zn .leq (.int k x) (.int k y)=some (.bool (decide (x≤y))):=by simp [zn,qax]
@[go_sem] theorem ju5 {k:IntKind} {x y:Int}:zn .gtr (.int k x) (.int k y)=some (.bool (decide (y < x))):=by simp [zn,qax]
@[go_sem] theorem ju7 {k:IntKind} {x y:Int}:zn .geq (.int k x) (.int k y)=some (.bool (decide (y≤x))):=by simp [zn,qax]
@[go_sem] theorem ju4 {k:IntKind} {x y:Int}:zn .eql (.int k x) (.int k y)=some (.bool (decide (x=y))):=by
 simp only [zn,qax,decide_true,cond_true]; congr 2
@[go_sem] theorem ju0 {k:IntKind} {x y:Int}:zn .neq (.int k x) (.int k y)=some (.bool (!decide (x=y))):=by
 simp only [zn,qax,decide_true,cond_true]; congr 2
theorem zu {x:Int} (h1:-9223372036854775808≤x) (h2:x≤9223372036854775807):qg .i64 x=x:=by
 have:qc3 .i64 x=true:=by
  cases x with
  | ofNat m=>simp only [qc3]; exact Nat.ble_eq_true_of_le (by simp at h2; omega)
  | negSucc m=>simp only [qc3]; exact Nat.ble_eq_true_of_le (by omega)
 simp [qg,this]
def q6r (h:ql) (b:Bool) (r:Option (AVal × Bool)):Option ORes:=match b,r with
 | true,some (v,o)=>some ⟨v,o,none,h⟩
 | _,_=>none
@[go_sem] theorem jni {v:AVal} {o:Bool}:q6r h true (some (v,o))=some ⟨v,o,none,h⟩:=rfl
def q5x (n:Nat) (r:Option (AVal × Bool × ql)):Option ORes:=match r with
 | some (v,o,h')=>some ⟨v,o,none,yc n v h'⟩
 | none=>none
@[go_sem] theorem jnx {n:Nat} {v:AVal} {o:Bool}:q5x n (some (v,o,h))=some ⟨v,o,none,yc n v h⟩:=rfl
def qu6 (r:Option (AVal × ql)):Option ORes:=match r with
 | some (v,h')=>some ⟨v,false,none,h'⟩
 | none=>none
@[go_sem] theorem jfm {v:AVal}:qu6 (some (v,h))=some ⟨v,false,none,h⟩:=rfl
def q0c (h0 r:Nat) (h:ql) (b:Bool) (m:Option (List (AVal × AVal))):Option ORes:=match b,m with
 | true,some es=>(match newBox h0 h r (.map es) with
  | some h'=>some ⟨.map (h0 + r),false,none,h'⟩
  | none=>none)
 | _,_=>none
def qoq (p:js) (xc:XC) (h0:Nat) (h:ql) (md:CMode) (f:Option AVal) (l:Option (List AVal)):Option ORes:=match f,l with
 | some (.fn (.func k) a c),some vs=>(match md with
  | .iso=>q6r h (jy 0 (a++vs++c)) (qc p xc k (a++vs++c))
  | .frz r=>q0c h0 r h (a++vs++c).isEmpty (p.maps k)
  | .shr=>q5x h.length (jl p xc k (a++vs++c) h))
 | some (.fn (.yield b) [] []),some vs=>(match md with
  | .shr=>qu6 (kx xc b vs h)
  | _=>none)
 | _,_=>none
@[go_sem] theorem jur {md:CMode} {f:qx} {l:List qx}:qh p xc h0 al e h (.call md f l)=qoq p xc h0 h md (qk e f) (kf e l):=by
 simp only [qh,yw,qoq]
 split
 ·rename_i k first captured vs h1 h2
  rw [h1,h2]
  cases md with
  | iso=>
   simp only []
   cases jy 0 (first++vs++captured) with
   | false=>cases qc p xc k (first++vs++captured) <;> rfl
   | true=>cases qc p xc k (first++vs++captured) <;> rfl
  | frz rk=>
   simp only []
   cases (first++vs++captured).isEmpty with
   | false=>cases p.maps k <;> rfl
   | true=>
    cases p.maps k with
    | none=>rfl
    | some es=>simp only [cond_true,q0c]; cases newBox h0 h rk (.map es) <;> rfl
  | shr=>simp only []; cases jl p xc k (first++vs++captured) h <;> rfl
 ·rename_i b vs h1 h2
  rw [h1,h2]
  cases md with
  | shr=>simp only []; cases kx xc b vs h <;> rfl
  | _=>rfl
 ·rename_i h1 h2
  split
  ·rename_i k a c vs g1 g2; exact absurd g2 (fun g2=>h1 k a c vs g1 g2)
  ·rename_i b vs g1 g2; exact absurd g2 (fun g2=>h2 b vs g1 g2)
  ·rfl
@[go_sem] theorem jna {k:Nat} {a c vs:List AVal}:qoq p xc h0 h .iso (some (.fn (.func k) a c)) (some vs)=q6r h (jy 0 (a++vs++c)) (qc p xc k (a++vs++c)):=rfl
@[go_sem] theorem joa {k r:Nat} {a c vs:List AVal}:qoq p xc h0 h (.frz r) (some (.fn (.func k) a c)) (some vs)=q0c h0 r h (a++vs++c).isEmpty (p.maps k):=rfl
@[go_sem] theorem jn6 {k:Nat} {a c vs:List AVal}:qoq p xc h0 h .shr (some (.fn (.func k) a c)) (some vs)=q5x h.length (jl p xc k (a++vs++c) h):=rfl
@[go_sem] theorem jfz {b:Nat} {vs:List AVal}:qoq p xc h0 h .shr (some (.fn (.yield b) [] [])) (some vs)=qu6 (kx xc b vs h):=rfl
def qz9 (rs:List qav) (r:Option (jg × ASt)):Option (AVal × Bool × ql):=match r with
 | some (.normal,st)=>(match yt st rs with
   | some xs=>some ((j6 xs).1,(j6 xs).2,kc st rs)
   | none=>none)
 | some (.ret,st)=>(match yt st rs with
   | some xs=>some ((j6 xs).1,(j6 xs).2,kc st rs)
   | none=>none)
 | _=>none
def q6l (st:ASt) (rs:List qav) (r:Option (List (AVal × Bool))):Option (AVal × Bool × ql):=match r with
 | some xs=>some ((j6 xs).1,(j6 xs).2,kc st rs)
 | none=>none
@[go_sem] theorem jf2 {rs:List qav} {st:ASt}:qz9 rs (some (.normal,st))=q6l st rs (yt st rs):=rfl
@[go_sem] theorem jr0 {rs:List qav} {st:ASt}:qz9 rs (some (.ret,st))=q6l st rs (yt st rs):=rfl
@[go_sem] theorem jnt {st:ASt} {rs:List qav} {xs:List (AVal × Bool)}:q6l st rs (some xs)=some ((j6 xs).1,(j6 xs).2,kc st rs):=rfl
theorem qf {k nt:Nat} {body:ACode} {rs:List qav} {args:List AVal} (hf:p.fns k=some ⟨nt,body,rs⟩) (hl:args.length≤nt):jl p xc k args h=qz9 rs (xc body ⟨qcz 0 args,h⟩):=by
 simp only [jl,hf,qa3,Nat.ble_eq_true_of_le hl,cond_true,qz9]
 rfl
def q0g (x:Option (AVal × Bool)) (l:Option (List (AVal × Bool))):Option (List (AVal × Bool)):=match x,l with
 | some v,some vs=>some (v::vs)
 | _,_=>none
@[go_sem] theorem jlu {v:AVal × Bool} {vs:List (AVal × Bool)}:q0g (some v) (some vs)=some (v::vs):=rfl
@[go_sem] theorem jak {st:ASt}:yt st []=some []:=rfl
@[go_sem] theorem q8a {st:ASt} {r:qav} {rs:List qav}:yt st (r::rs)=q0g (qbk st r) (yt st rs):=by
 simp only [yt,q0g]
 cases qbk st r with
 | none=>rfl
 | some v=>cases yt st rs <;> rfl
@[go_sem] theorem jbp {t:Nat}:qbk ⟨e,h⟩ (.tmp t)=jn t e:=rfl
@[go_sem] theorem jrt {x:AVal × Bool}:j6 [x]=x:=rfl
@[go_sem] theorem js9 {x y:AVal × Bool}:j6 [x,y]=(.tup [x.1,y.1],false):=rfl
@[go_sem] theorem jil {x y z:AVal × Bool}:j6 [x,y,z]=(.tup [x.1,y.1,z.1],false):=rfl
@[go_sem] theorem jmy:j6 []=(.tup [],false):=rfl
@[go_sem] theorem job {st:ASt} {t:Nat}:kc st [.tmp t]=st.heap:=rfl
@[go_sem] theorem jon {st:ASt} {x y:qav} {l:List qav}:kc st (x::y::l)=st.heap:=by
 cases x with
 | tmp t=>rfl
 | cell t a n=>cases a <;> rfl
@[go_sem] theorem jiz {st:ASt}:kc st []=st.heap:=rfl
@[go_sem] theorem jog {st:ASt} {t n:Nat}:kc st [.cell t true n]=st.heap:=rfl
@[go_sem] theorem jpd {o:Bool}:qfo true (some (.bool true,o))=some true:=rfl
@[go_sem] theorem jqy {o:Bool}:qfo true (some (.bool false,o))=some false:=rfl
@[go_sem] theorem jo4 {o:Bool}:qfo false (some (.bool true,o))=some false:=rfl
@[go_sem] theorem jqq {o:Bool}:qfo false (some (.bool false,o))=some true:=rfl
attribute [go_sem] cond_true cond_false decide_true decide_false Bool.not_true Bool.not_false List.append_nil List.nil_append List.length_cons List.length_nil
@[go_sem] theorem ju6:List.replicate 0 ABox.hole=[]:=rfl
end
section
variable {p:js} {xc:XC} {h0:Nat} {al:Option (List Nat)} {e:Env} {h:ql} {α:Type}
def sl (z:Nat) (f:α→AVal):Option (List α)→AVal
 | none=>.list true 0 []
 | some l=>.list false z (l.map f)
@[go_sem] theorem jt7 {z:Nat} {f:α→AVal} {l:Option (List α)}:qpi 1 h (some (sl z f l))=some ⟨.int .i64 (l.getD []).length,false,none,h⟩:=by
 cases l <;> simp [sl,qpi,val]
theorem jd7 {z:Nat} {f:α→AVal} {l:Option (List α)} {k:IntKind} {i:Nat} {x:α} (hx:(l.getD [])[i]?=some x):qp0 z h (some (sl z f l)) (some (.int k (i:Int)))=some ⟨.vptr (f x),false,none,h⟩:=by
 cases l with
 | none=>simp at hx
 | some l=>exact q5l (by rw [List.getElem?_map,show l[i]?=some x from hx]; rfl)
theorem qe0 {n z:Nat} {f:α→AVal} {l:Option (List α)} (hf:∀ x,below n (f x)=true):below n (sl z f l)=true:=by
 have key:∀ l:List α,jy n (l.map f)=true:=by
  intro l
  induction l with
  | nil=>rfl
  | cons x l ih=>simp [jy,hf,ih]
 cases l with
 | none=>rfl
 | some l=>simp only [sl,below]; exact key l
theorem juo {z:Nat} {f:α→AVal} (hf:∀ x y,f x=f y→x=y) {a b:Option (List α)} (hab:sl z f a=sl z f b):a=b:=by
 have key:∀ a b:List α,a.map f=b.map f→a=b:=by
  intro a
  induction a with
  | nil=>intro b hb; cases b <;> simp at hb <;> rfl
  | cons x a ih=>
   intro b hb
   cases b with
   | nil=>simp at hb
   | cons y b=>simp at hb; rw [hf _ _ hb.1,ih _ hb.2]
 cases a <;> cases b <;> simp [sl] at hab <;> first | rfl | rw [key _ _ hab]
def qu (n:Int):AVal:=.int .i64 n
@[go_sem] theorem jmd {i:Int}:qaz h0 al false 1 h (some (.vptr (qu i)))=some ⟨.int .i64 i,false,none,h⟩:=rfl
end
end Go.Abs
