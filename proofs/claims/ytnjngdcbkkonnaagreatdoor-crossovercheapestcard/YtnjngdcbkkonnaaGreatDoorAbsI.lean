/- Equations of the executor for runs on values that are not known. -/
import Derived.Test.YtnjngdcbkkonnaaGreatDoorAbsH
set_option linter.unusedVariables false
set_option linter.unusedSimpArgs false
namespace Go.Abs
section
variable {p:jl} {xc:XC} {h0:Nat} {al:Option (List Nat)} {e:Env} {h:qk}
def qt0 (r:Option (jb × ASt)) (f:ASt→Option (jb × ASt)):Option (jb × ASt):=match r with
 | some (.normal,st)=>f st
 | r=>r
@[go_sem] theorem jgq {st:ASt} {f:ASt→Option (jb × ASt)}:qt0 (some (.normal,st)) f=f st:=rfl
@[go_sem] theorem jta {st:ASt} {f:ASt→Option (jb × ASt)}:qt0 (some (.ret,st)) f=some (.ret,st):=rfl
@[go_sem] theorem jqp {id:Nat} {st:ASt} {f:ASt→Option (jb × ASt)}:qt0 (some (.exit id,st)) f=some (.exit id,st):=rfl
@[go_sem] theorem jzy {a b:ACode} {st:ASt}:X p (.seq a b) st=qt0 (X p a st) (X p b):=by
 rw [jma]; unfold qt0
 cases X p a st with
 | none=>rfl
 | some r=>obtain ⟨x,s⟩:=r; cases x <;> rfl
def qxz (c:Option AVal) (f g:ASt→Option (jb × ASt)) (st:ASt):Option (jb × ASt):=match c with
 | some (.bool true)=>f st
 | some (.bool false)=>g st
 | _=>none
@[go_sem] theorem jm5 {f g:ASt→Option (jb × ASt)} {st:ASt}:qxz (some (.bool true)) f g st=f st:=rfl
@[go_sem] theorem jjv {f g:ASt→Option (jb × ASt)} {st:ASt}:qxz (some (.bool false)) f g st=g st:=rfl
@[go_sem] theorem jy3 {c:qv} {a b:ACode} {st:ASt}:X p (.cond c a b) st=qxz (qj st.env c) (X p a) (X p b) st:=by
 rw [jfo]; unfold qxz
 cases qj st.env c with
 | none=>rfl
 | some v=>cases v with
  | bool t=>cases t <;> rfl
  | _=>rfl
def qi1 (id:Nat) (r:Option (jb × ASt)):Option (jb × ASt):=match r with
 | some (.exit id',st')=>if id'=id then some (.normal,st') else some (.exit id',st')
 | r=>r
@[go_sem] theorem jkk {id id':Nat} {st:ASt}:qi1 id (some (.exit id',st))=if id'=id then some (.normal,st) else some (.exit id',st):=rfl
@[go_sem] theorem je4 {id:Nat} {st:ASt}:qi1 id (some (.normal,st))=some (.normal,st):=rfl
@[go_sem] theorem jnu {id:Nat} {st:ASt}:qi1 id (some (.ret,st))=some (.ret,st):=rfl
@[go_sem] theorem jwl {id:Nat} {b:ACode} {st:ASt}:X p (.block id b) st=qi1 id (X p b st):=by
 rw [jco]; unfold qi1
 cases X p b st with
 | none=>rfl
 | some r=>
  obtain ⟨x,s⟩:=r
  cases x with
  | exit id'=>
   simp only []
   by_cases hb:id'=id
   ·subst hb; simp
   ·rw [if_neg hb]
    cases hq:Nat.beq id' id with
    | true=>exact absurd (Nat.eq_of_beq_eq_true hq) hb
    | false=>rfl
  | _=>rfl
noncomputable def qkb (p:jl) (b:ACode) (n:Nat) (r:Option (jb × ASt)):Option (jb × ASt):=match r with
 | some (.normal,st')=>X p (.loop b) (gc n st')
 | r=>r
theorem q2y {b:ACode} {st:ASt}:X p (.loop b) st=qkb p b st.heap.length (X p b st):=by
 rw [jij]; unfold qkb
 cases X p b st with
 | none=>rfl
 | some r=>obtain ⟨x,s⟩:=r; cases x <;> rfl
@[go_sem] theorem qzv {b:ACode} {n:Nat} {st:ASt}:qkb p b n (some (.normal,st))=X p (.loop b) (gc n st):=rfl
@[go_sem] theorem jtp {b:ACode} {n:Nat} {st:ASt}:qkb p b n (some (.ret,st))=some (.ret,st):=rfl
@[go_sem] theorem jo2 {b:ACode} {n id:Nat} {st:ASt}:qkb p b n (some (.exit id,st))=some (.exit id,st):=rfl
attribute [go_sem] jfk jio jm9 ja2 qv3 jf1
@[go_sem] theorem jzq {env:Env}:gc 0 ⟨env,[]⟩=⟨env,[]⟩:=rfl
theorem qib {n:Nat} {st:ASt} (hn:st.heap.length≤n):gc n st=st:=by
 unfold gc; rw [Nat.ble_eq_true_of_le hn]; rfl
theorem j0n {e e':Env} {h:qk}:gc (ASt.mk e h).heap.length ⟨e',h⟩=⟨e',h⟩:=qib (Nat.le_refl _)
def q82 (k:Option (List Nat)) (r:Option ASt):Option (jb × ASt):=match r with
 | some st'=>some (.normal,qjh st' k)
 | none=>none
@[go_sem] theorem jtx {k:Option (List Nat)} {st:ASt}:q82 k (some st)=some (.normal,qjh st k):=rfl
@[go_sem] theorem jt6 {na:Nat} {l:List AOper} {k:Option (List Nat)} {st:ASt}:qar p xc na l k st=q82 k (qai p xc st.heap.length l ⟨st.env,st.heap++List.replicate na .hole⟩):=by
 unfold qar q82; rfl
def jiu (r:Option ASt) (f:ASt→Option ASt):Option ASt:=match r with
 | some st=>f st
 | none=>none
@[go_sem] theorem jr8 {st:ASt} {f:ASt→Option ASt}:jiu (some st) f=f st:=rfl
@[go_sem] theorem jvq {st:ASt}:qai p xc h0 [] st=some st:=rfl
@[go_sem] theorem jtj {o:AOper} {l:List AOper} {st:ASt}:qai p xc h0 (o::l) st=jiu (ym p xc h0 o st) (qai p xc h0 l):=rfl
def q3q (d:Option Nat) (e:Env) (r:Option ORes):Option ASt:=match r with
 | some r=>some ⟨qbn (z7 e r.strip) d r.v r.own,r.heap⟩
 | none=>none
@[go_sem] theorem js3 {d:Option Nat} {v:AVal} {o:Bool} {s:Option Nat}:q3q d e (some ⟨v,o,s,h⟩)=some ⟨qbn (z7 e s) d v o,h⟩:=rfl
@[go_sem] theorem je7 {d:Option Nat} {op:AOp} {env:Env}:ym p xc h0 ⟨d,op,none,al⟩ ⟨env,h⟩=q3q d env (qe p xc h0 al env h op):=rfl
def quh (g:Option Bool) (d:Option Nat) (env:Env) (h:qk) (f:AOp→Option ORes) (op:AOp):Option ASt:=match g with
 | some true=>q3q d env (f op)
 | some false=>some ⟨qbn env d .undef false,h⟩
 | none=>none
@[go_sem] theorem jkq {d:Option Nat} {env:Env} {f:AOp→Option ORes} {op:AOp}:quh (some true) d env h f op=q3q d env (f op):=rfl
@[go_sem] theorem jjs {d:Option Nat} {env:Env} {f:AOp→Option ORes} {op:AOp}:quh (some false) d env h f op=some ⟨qbn env d .undef false,h⟩:=rfl
@[go_sem] theorem je1 {d:Option Nat} {op:AOp} {g:Nat × Bool} {env:Env}:ym p xc h0 ⟨d,op,some g,al⟩ ⟨env,h⟩=quh (qa4 env (some g)) d env h (qe p xc h0 al env h) op:=by
 unfold ym quh
 simp only []
 split
 ·rename_i hg; rw [hg]; rfl
 ·rename_i hg; rw [hg]
 ·rename_i hg; rw [hg]
def qg8 (b:Bool) (v:Option (AVal × Bool)):Option Bool:=match v with
 | some (.bool c,_)=>some (c == b)
 | some (.undef,_)=>some false
 | _=>none
@[go_sem] theorem jhm {s:Nat} {b:Bool}:qa4 e (some (s,b))=qg8 b (look s e):=by
 unfold qa4 qg8; rfl
theorem jkc {b c:Bool} {o:Bool}:qg8 b (some (.bool c,o))=some (c == b):=rfl
@[go_sem] theorem jgj {b:Bool} {o:Bool}:qg8 b (some (.undef,o))=some false:=rfl
@[go_sem] theorem jse {s t:Nat} {x:AVal × Bool}:look t ((s,x)::e)=if s=t then some x else look t e:=by
 by_cases hst:s=t
 ·subst hst; rw [if_pos rfl]; simp [look]
 ·rw [if_neg hst]
  have:Nat.beq s t=false:=by
   cases hb:Nat.beq s t with
   | false=>rfl
   | true=>exact absurd (Nat.eq_of_beq_eq_true hb) hst
  simp [look,this]
@[go_sem] theorem jvu {t:Nat}:look t []=none:=rfl
def jjt (x:Option (AVal × Bool)):Option AVal:=match x with
 | some x=>some x.1
 | none=>none
@[go_sem] theorem jsz {v:AVal} {o:Bool}:jjt (some (v,o))=some v:=rfl
@[go_sem] theorem jr5 {t:Nat}:qj e (.tmp t)=jjt (look t e):=rfl
@[go_sem] theorem jkl {v:AVal}:qj e (.const v)=some v:=rfl
def qd8 (x:Option AVal) (l:Option (List AVal)):Option (List AVal):=match x,l with
 | some v,some vs=>some (v::vs)
 | _,_=>none
@[go_sem] theorem jmh {v:AVal} {vs:List AVal}:qd8 (some v) (some vs)=some (v::vs):=rfl
@[go_sem] theorem jsa:kj e []=some []:=rfl
@[go_sem] theorem jl2 {x:qv} {l:List qv}:kj e (x::l)=qd8 (qj e x) (kj e l):=by
 simp only [kj,qd8]
 cases qj e x with
 | none=>rfl
 | some v=>cases kj e l <;> rfl
@[go_sem] theorem jjy {l:List Nat}:qjh ⟨e,h⟩ (some l)=⟨qb5 e l,h⟩:=rfl
@[go_sem] theorem jjx:qjh ⟨e,h⟩ none=⟨e,h⟩:=rfl
def qxx (t:Nat) (x:Option (AVal × Bool)) (e:Env):Env:=match x with
 | some x=>(t,x)::e
 | none=>e
@[go_sem] theorem jl9 {t:Nat} {x:AVal × Bool}:qxx t (some x) e=(t,x)::e:=rfl
@[go_sem] theorem jo7 {t:Nat}:qxx t none e=e:=rfl
@[go_sem] theorem jkx:qb5 e []=[]:=rfl
@[go_sem] theorem jh8 {t:Nat} {l:List Nat}:qb5 e (t::l)=qxx t (look t e) (qb5 e l):=by
 simp only [qb5,qxx]
 cases look t e <;> rfl
@[go_sem] theorem jj3 {d:Nat} {v:AVal} {o:Bool}:qbn e (some d) v o=(d,v,o)::e:=rfl
@[go_sem] theorem jj2 {v:AVal} {o:Bool}:qbn e none v o=e:=rfl
@[go_sem] theorem jer:z7 e none=e:=rfl
def qzd (s:Nat) (x:Option (AVal × Bool)) (e:Env):Env:=match x with
 | some (v,_)=>(s,v,false)::e
 | none=>e
@[go_sem] theorem jki {s:Nat} {v:AVal} {o:Bool}:qzd s (some (v,o)) e=(s,v,false)::e:=rfl
@[go_sem] theorem jez {s:Nat}:z7 e (some s)=qzd s (look s e) e:=by
 simp only [z7,qzd]
 cases look s e <;> rfl
@[go_sem] theorem jpw {i:Nat}:qad i []=[]:=rfl
@[go_sem] theorem jj1 {i:Nat} {v:AVal} {vs:List AVal}:qad i (v::vs)=(i,v,false)::qad (i + 1) vs:=rfl
@[go_sem] theorem js8 {v:AVal}:qam h (some v)=some ⟨v,false,none,h⟩:=rfl
@[go_sem] theorem jzr {v:AVal}:val h v=some ⟨v,false,none,h⟩:=rfl
@[go_sem] theorem jzs {x:qv}:qe p xc h0 al e h (.move x)=qam h (qj e x):=rfl
def q4g (s:Nat) (h:qk) (x:Option (AVal × Bool)):Option ORes:=match x with
 | some (v,o)=>some ⟨v,o,some s,h⟩
 | none=>none
@[go_sem] theorem jp4 {s:Nat} {v:AVal} {o:Bool}:q4g s h (some (v,o))=some ⟨v,o,some s,h⟩:=rfl
@[go_sem] theorem jzu {s:Nat}:qe p xc h0 al e h (.take s)=q4g s h (look s e):=by
 simp only [qe,qr,q4g]
 cases look s e <;> rfl
def jav (op:BinOp) (h:qk) (a b:Option AVal):Option ORes:=match a,b with
 | some a,some b=>qam h (zp op a b)
 | _,_=>none
@[go_sem] theorem jtg {op:BinOp} {a b:AVal}:jav op h (some a) (some b)=qam h (zp op a b):=rfl
@[go_sem] theorem j0h {op:BinOp} {x y:qv}:qe p xc h0 al e h (.bin op x y)=jav op h (qj e x) (qj e y):=by
 simp only [qe,qr,jav]
 cases qj e x <;> cases qj e y <;> rfl
def q3r (h:qk) (c a b:Option AVal):Option ORes:=match c,a,b with
 | some (.bool t),some x,some y=>val h (bif t then x else y)
 | _,_,_=>none
@[go_sem] theorem jlt {t:Bool} {a b:AVal}:q3r h (some (.bool t)) (some a) (some b)=some ⟨bif t then a else b,false,none,h⟩:=rfl
@[go_sem] theorem jzm {c a b:qv}:qe p xc h0 al e h (.pick c a b)=q3r h (qj e c) (qj e a) (qj e b):=by
 simp only [qe,qr,q3r]
 cases qj e c with
 | none=>rfl
 | some v=>cases v <;> cases qj e a <;> cases qj e b <;> rfl
def qsw (k:Nat) (h:qk) (x:Option AVal):Option ORes:=match k,x with
 | 1,some (.list _ _ xs)=>val h (.int .i64 xs.length)
 | 1,some (.ms _ _ n)=>val h (.int .i64 n)
 | 2,some (.list true _ _)=>val h (.int .i64 0)
 | 0,some (.str s)=>val h (.int .i64 s.length)
 | _,_=>none
@[go_sem] theorem jtr {b:Bool} {z:Nat} {xs:List AVal}:qsw 1 h (some (.list b z xs))=some ⟨.int .i64 xs.length,false,none,h⟩:=rfl
@[go_sem] theorem jyx {b o n:Nat}:qsw 1 h (some (.ms b o n))=some ⟨.int .i64 n,false,none,h⟩:=rfl
@[go_sem] theorem jv5 {s:List UInt8}:qsw 0 h (some (.str s))=some ⟨.int .i64 s.length,false,none,h⟩:=rfl
@[go_sem] theorem jt9 {z:Nat} {xs:List AVal}:qsw 2 h (some (.list true z xs))=some ⟨.int .i64 0,false,none,h⟩:=rfl
@[go_sem] theorem j0c {k:Nat} {x:qv}:qe p xc h0 al e h (.len k x)=qsw k h (qj e x):=rfl
def qhq (n:Nat) (i:Int):Option Nat:=if 0≤i∧i < n then some i.toNat else none
theorem qcp {n:Nat} {k:IntKind} {i:Int}:idx n (.int k i)=qhq n i:=by
 unfold idx qhq
 cases i with
 | ofNat m=>
  by_cases hm:m < n
  ·rw [if_pos ⟨by simp,by simp; omega⟩]; simp [Nat.blt_eq.mpr hm]
  ·rw [if_neg (by simp; omega)]
   cases hb:Nat.blt m n with
   | true=>exact absurd (Nat.blt_eq.mp hb) hm
   | false=>simp [hb]
 | negSucc m=>simp
attribute [go_sem] qcp
theorem q2v {n:Nat} {i:Int} (h1:0≤i) (h2:i < n):qhq n i=some i.toNat:=by unfold qhq; rw [if_pos ⟨h1,h2⟩]
theorem qnb {n i:Nat} (h:i < n):qhq n (i:Int)=some i:=by unfold qhq; rw [if_pos ⟨by simp,by omega⟩]; simp
def qnx (sz:Nat) (h:qk) (x i:Option AVal):Option ORes:=match x,i with
 | some (.list _ sz' xs),some j=>bif Nat.beq sz sz' || xs.isEmpty then (match idx xs.length j with
   | some j=>(match xs[j]? with
    | some v=>val h (.vptr v)
    | none=>none)
   | none=>none) else none
 | some (.ms b o len),some j=>(match idx len j with
   | some j=>val h (.ptr b (o + j * sz))
   | none=>none)
 | _,_=>none
@[go_sem] theorem jk2 {sz:Nat} {x i:qv}:qe p xc h0 al e h (.indexAddr sz x i)=qnx sz h (qj e x) (qj e i):=by
 simp only [qe,qr,qnx]
 cases qj e x with
 | none=>rfl
 | some v=>cases v <;> cases qj e i <;> rfl
theorem q7b {sz:Nat} {b:Bool} {k:IntKind} {xs:List AVal} {i:Int} {v:AVal} (h1:0≤i) (hv:xs[i.toNat]?=some v):qnx sz h (some (.list b sz xs)) (some (.int k i))=some ⟨.vptr v,false,none,h⟩:=by
 have hl:=(List.getElem?_eq_some_iff.1 hv).1
 have hi:idx xs.length (.int k i)=some i.toNat:=by rw [qcp]; exact q2v h1 (by omega)
 simp only [qnx,hi,Nat.beq_refl,Bool.true_or,cond_true,hv]
 rfl
theorem jaw {sz:Nat} {b:Bool} {k:IntKind} {xs:List AVal} {i:Nat} {v:AVal} (hv:xs[i]?=some v):qnx sz h (some (.list b sz xs)) (some (.int k (i:Int)))=some ⟨.vptr v,false,none,h⟩:=
 q7b (by simp) (by simpa using hv)
def qa2 (h0:Nat) (al:Option (List Nat)) (agg:Bool) (n:Nat) (h:qk) (x:Option AVal):Option ORes:=match x with
 | some (.ptr b o)=>bif j6 h0 al b then (match jk h b with
   | some cs=>(match yf cs o n with
    | some vs=>bif agg then val h (.agg vs) else (match vs with
     | [v]=>val h v
     | _=>none)
    | none=>none)
   | none=>none) else none
 | some (.vptr v)=>bif Bool.xor agg v.isAgg || !(Nat.beq v.flat.length n) then none else val h v
 | _=>none
@[go_sem] theorem jzx {agg:Bool} {n:Nat} {x:qv}:qe p xc h0 al e h (.load agg n x)=qa2 h0 al agg n h (qj e x):=by
 simp only [qe,yl,qa2]
 cases qj e x with
 | none=>rfl
 | some v=>cases v <;> rfl
def jbl:Option AVal→Option AVal
 | some (.vptr v)=>some (.vptr v)
 | _=>none
@[go_sem] theorem jy1 {v:AVal}:jbl (some (.vptr v))=some (.vptr v):=rfl
@[go_sem] theorem jyv {agg:Bool} {n:Nat} {x:qv}:qe p xc h0 al e h (.vload agg n x)=qa2 h0 al agg n h (jbl (qj e x)):=by
 simp only [qe,qr,qa2]
 cases qj e x with
 | none=>rfl
 | some v=>cases v <;> rfl
@[go_sem] theorem jry {k:IntKind} {i:Int}:qa2 h0 al false 1 h (some (.vptr (.int k i)))=some ⟨.int k i,false,none,h⟩:=rfl
@[go_sem] theorem jrs {s:List UInt8}:qa2 h0 al false 1 h (some (.vptr (.str s)))=some ⟨.str s,false,none,h⟩:=rfl
@[go_sem] theorem jlk {b:Bool}:qa2 h0 al false 1 h (some (.vptr (.bool b)))=some ⟨.bool b,false,none,h⟩:=rfl
@[go_sem] theorem jqm {b:Bool} {z:Nat} {xs:List AVal}:qa2 h0 al false 1 h (some (.vptr (.list b z xs)))=some ⟨.list b z xs,false,none,h⟩:=rfl
theorem q5q {n:Nat} {cs:List AVal} (hn:cs.length=n):qa2 h0 al true n h (some (.vptr (.agg cs)))=some ⟨.agg cs,false,none,h⟩:=by
 subst hn; simp [qa2,AVal.isAgg,AVal.flat,val]
@[go_sem] theorem j0o {k:IntKind} {x y:Int}:zp .add (.int k x) (.int k y)=some (.int k (qg k (x + y))):=by simp [zp,qa0]
@[go_sem] theorem jz8 {k:IntKind} {x y:Int}:zp .sub (.int k x) (.int k y)=some (.int k (qg k (x - y))):=by simp [zp,qa0]
@[go_sem] theorem j0g {k:IntKind} {x y:Int}:zp .mul (.int k x) (.int k y)=some (.int k (qg k (x * y))):=by simp [zp,qa0]
@[go_sem] theorem j0e {k:IntKind} {x y:Int}:zp .lss (.int k x) (.int k y)=some (.bool (decide (x < y))):=by simp [zp,qa0]
@[go_sem] theorem jz3 {k:IntKind} {x y:Int}:zp .leq (.int k x) (.int k y)=some (.bool (decide (x≤y))):=by simp [zp,qa0]
@[go_sem] theorem j0a {k:IntKind} {x y:Int}:zp .gtr (.int k x) (.int k y)=some (.bool (decide (y < x))):=by simp [zp,qa0]
@[go_sem] theorem j0i {k:IntKind} {x y:Int}:zp .geq (.int k x) (.int k y)=some (.bool (decide (y≤x))):=by simp [zp,qa0]
@[go_sem] theorem j0k {k:IntKind} {x y:Int}:zp .eql (.int k x) (.int k y)=some (.bool (decide (x=y))):=by
 simp only [zp,qa0,decide_true,cond_true]; congr 2
@[go_sem] theorem j0f {k:IntKind} {x y:Int}:zp .neq (.int k x) (.int k y)=some (.bool (!decide (x=y))):=by
 simp only [zp,qa0,decide_true,cond_true]; congr 2
theorem jy {x:Int} (h1:-9223372036854775808≤x) (h2:x≤9223372036854775807):qg .i64 x=x:=by
 have:qdk .i64 x=true:=by
  cases x with
  | ofNat m=>simp only [qdk]; exact Nat.ble_eq_true_of_le (by simp at h2; omega)
  | negSucc m=>simp only [qdk]; exact Nat.ble_eq_true_of_le (by omega)
 simp [qg,this]
def jaz (h:qk) (b:Bool) (r:Option (AVal × Bool)):Option ORes:=match b,r with
 | true,some (v,o)=>some ⟨v,o,none,h⟩
 | _,_=>none
@[go_sem] theorem jtv {v:AVal} {o:Bool}:jaz h true (some (v,o))=some ⟨v,o,none,h⟩:=rfl
def q9x (n:Nat) (r:Option (AVal × Bool × qk)):Option ORes:=match r with
 | some (v,o,h')=>some ⟨v,o,none,z6 n v h'⟩
 | none=>none
@[go_sem] theorem jtk {n:Nat} {v:AVal} {o:Bool}:q9x n (some (v,o,h))=some ⟨v,o,none,z6 n v h⟩:=rfl
def qzj (r:Option (AVal × qk)):Option ORes:=match r with
 | some (v,h')=>some ⟨v,false,none,h'⟩
 | none=>none
@[go_sem] theorem jkw {v:AVal}:qzj (some (v,h))=some ⟨v,false,none,h⟩:=rfl
def q4t (h0 r:Nat) (h:qk) (b:Bool) (m:Option (List (AVal × AVal))):Option ORes:=match b,m with
 | true,some es=>(match newBox h0 h r (.map es) with
  | some h'=>some ⟨.map (h0 + r),false,none,h'⟩
  | none=>none)
 | _,_=>none
def qrv (p:jl) (xc:XC) (h0:Nat) (h:qk) (md:CMode) (f:Option AVal) (l:Option (List AVal)):Option ORes:=match f,l with
 | some (.fn (.func k) a c),some vs=>(match md with
  | .iso=>jaz h (jq 0 (a++vs++c)) (qf p xc k (a++vs++c))
  | .frz r=>q4t h0 r h (a++vs++c).isEmpty (p.maps k)
  | .shr=>q9x h.length (jg p xc k (a++vs++c) h))
 | some (.fn (.yield b) [] []),some vs=>(match md with
  | .shr=>qzj (kr xc b vs h)
  | _=>none)
 | _,_=>none
@[go_sem] theorem jzp {md:CMode} {f:qv} {l:List qv}:qe p xc h0 al e h (.call md f l)=qrv p xc h0 h md (qj e f) (kj e l):=by
 simp only [qe,kc,qrv]
 split
 ·rename_i k first captured vs h1 h2
  rw [h1,h2]
  cases md with
  | iso=>
   simp only []
   cases jq 0 (first++vs++captured) with
   | false=>cases qf p xc k (first++vs++captured) <;> rfl
   | true=>cases qf p xc k (first++vs++captured) <;> rfl
  | frz rk=>
   simp only []
   cases (first++vs++captured).isEmpty with
   | false=>cases p.maps k <;> rfl
   | true=>
    cases p.maps k with
    | none=>rfl
    | some es=>simp only [cond_true,q4t]; cases newBox h0 h rk (.map es) <;> rfl
  | shr=>simp only []; cases jg p xc k (first++vs++captured) h <;> rfl
 ·rename_i b vs h1 h2
  rw [h1,h2]
  cases md with
  | shr=>simp only []; cases kr xc b vs h <;> rfl
  | _=>rfl
 ·rename_i h1 h2
  split
  ·rename_i k a c vs g1 g2; exact absurd g2 (fun g2=>h1 k a c vs g1 g2)
  ·rename_i b vs g1 g2; exact absurd g2 (fun g2=>h2 b vs g1 g2)
  ·rfl
@[go_sem] theorem jrx {k:Nat} {a c vs:List AVal}:qrv p xc h0 h .iso (some (.fn (.func k) a c)) (some vs)=jaz h (jq 0 (a++vs++c)) (qf p xc k (a++vs++c)):=rfl
@[go_sem] theorem js6 {k r:Nat} {a c vs:List AVal}:qrv p xc h0 h (.frz r) (some (.fn (.func k) a c)) (some vs)=q4t h0 r h (a++vs++c).isEmpty (p.maps k):=rfl
@[go_sem] theorem jtq {k:Nat} {a c vs:List AVal}:qrv p xc h0 h .shr (some (.fn (.func k) a c)) (some vs)=q9x h.length (jg p xc k (a++vs++c) h):=rfl
@[go_sem] theorem jk0 {b:Nat} {vs:List AVal}:qrv p xc h0 h .shr (some (.fn (.yield b) [] [])) (some vs)=qzj (kr xc b vs h):=rfl
def qyr (rs:List qax) (r:Option (jb × ASt)):Option (AVal × Bool × qk):=match r with
 | some (.normal,st)=>(match ya st rs with
   | some xs=>some ((jz xs).1,(jz xs).2,yz st rs)
   | none=>none)
 | some (.ret,st)=>(match ya st rs with
   | some xs=>some ((jz xs).1,(jz xs).2,yz st rs)
   | none=>none)
 | _=>none
def q91 (st:ASt) (rs:List qax) (r:Option (List (AVal × Bool))):Option (AVal × Bool × qk):=match r with
 | some xs=>some ((jz xs).1,(jz xs).2,yz st rs)
 | none=>none
@[go_sem] theorem jj4 {rs:List qax} {st:ASt}:qyr rs (some (.normal,st))=q91 st rs (ya st rs):=rfl
@[go_sem] theorem jwu {rs:List qax} {st:ASt}:qyr rs (some (.ret,st))=q91 st rs (ya st rs):=rfl
@[go_sem] theorem jto {st:ASt} {rs:List qax} {xs:List (AVal × Bool)}:q91 st rs (some xs)=some ((jz xs).1,(jz xs).2,yz st rs):=rfl
theorem j8 {k nt:Nat} {body:ACode} {rs:List qax} {args:List AVal} (hf:p.fns k=some ⟨nt,body,rs⟩) (hl:args.length≤nt):jg p xc k args h=qyr rs (xc body ⟨qad 0 args,h⟩):=by
 simp only [jg,hf,qa5,Nat.ble_eq_true_of_le hl,cond_true,qyr]
 rfl
def q4n (x:Option (AVal × Bool)) (l:Option (List (AVal × Bool))):Option (List (AVal × Bool)):=match x,l with
 | some v,some vs=>some (v::vs)
 | _,_=>none
@[go_sem] theorem jnp {v:AVal × Bool} {vs:List (AVal × Bool)}:q4n (some v) (some vs)=some (v::vs):=rfl
@[go_sem] theorem jev {st:ASt}:ya st []=some []:=rfl
@[go_sem] theorem jdr {st:ASt} {r:qax} {rs:List qax}:ya st (r::rs)=q4n (qbv st r) (ya st rs):=by
 simp only [ya,q4n]
 cases qbv st r with
 | none=>rfl
 | some v=>cases ya st rs <;> rfl
@[go_sem] theorem jis {t:Nat}:qbv ⟨e,h⟩ (.tmp t)=look t e:=rfl
@[go_sem] theorem ju6 {x:AVal × Bool}:jz [x]=x:=rfl
@[go_sem] theorem jv8 {x y:AVal × Bool}:jz [x,y]=(.tup [x.1,y.1],false):=rfl
@[go_sem] theorem jn5 {x y z:AVal × Bool}:jz [x,y,z]=(.tup [x.1,y.1,z.1],false):=rfl
@[go_sem] theorem jsb:jz []=(.tup [],false):=rfl
@[go_sem] theorem jr9 {st:ASt} {t:Nat}:yz st [.tmp t]=st.heap:=rfl
@[go_sem] theorem jsv {st:ASt} {x y:qax} {l:List qax}:yz st (x::y::l)=st.heap:=by
 cases x with
 | tmp t=>rfl
 | cell t a n=>cases a <;> rfl
@[go_sem] theorem jo9 {st:ASt}:yz st []=st.heap:=rfl
@[go_sem] theorem jr6 {st:ASt} {t n:Nat}:yz st [.cell t true n]=st.heap:=rfl
@[go_sem] theorem jxj {o:Bool}:qg8 true (some (.bool true,o))=some true:=rfl
@[go_sem] theorem juj {o:Bool}:qg8 true (some (.bool false,o))=some false:=rfl
@[go_sem] theorem jyi {o:Bool}:qg8 false (some (.bool true,o))=some false:=rfl
@[go_sem] theorem jvr {o:Bool}:qg8 false (some (.bool false,o))=some true:=rfl
attribute [go_sem] cond_true cond_false decide_true decide_false Bool.not_true Bool.not_false List.append_nil List.nil_append List.length_cons List.length_nil
@[go_sem] theorem j0q:List.replicate 0 ABox.hole=[]:=rfl
end
section
variable {p:jl} {xc:XC} {h0:Nat} {al:Option (List Nat)} {e:Env} {h:qk} {α:Type}
def sl (z:Nat) (f:α→AVal):Option (List α)→AVal
 | none=>.list true 0 []
 | some l=>.list false z (l.map f)
@[go_sem] theorem jzi {z:Nat} {f:α→AVal} {l:Option (List α)}:qsw 1 h (some (sl z f l))=some ⟨.int .i64 (l.getD []).length,false,none,h⟩:=by
 cases l <;> simp [sl,qsw,val]
theorem jh5 {z:Nat} {f:α→AVal} {l:Option (List α)} {k:IntKind} {i:Nat} {x:α} (hx:(l.getD [])[i]?=some x):qnx z h (some (sl z f l)) (some (.int k (i:Int)))=some ⟨.vptr (f x),false,none,h⟩:=by
 cases l with
 | none=>simp at hx
 | some l=>exact jaw (by rw [List.getElem?_map,show l[i]?=some x from hx]; rfl)
theorem qdf {n z:Nat} {f:α→AVal} {l:Option (List α)} (hf:∀ x,below n (f x)=true):below n (sl z f l)=true:=by
 have key:∀ l:List α,jq n (l.map f)=true:=by
  intro l
  induction l with
  | nil=>rfl
  | cons x l ih=>simp [jq,hf,ih]
 cases l with
 | none=>rfl
 | some l=>simp only [sl,below]; exact key l
theorem jzo {z:Nat} {f:α→AVal} (hf:∀ x y,f x=f y→x=y) {a b:Option (List α)} (hab:sl z f a=sl z f b):a=b:=by
 have key:∀ a b:List α,a.map f=b.map f→a=b:=by
  intro a
  induction a with
  | nil=>intro b hb; cases b <;> simp at hb <;> rfl
  | cons x a ih=>
   intro b hb
   cases b with
   | nil=>simp at hb
   | cons y b=>simp at hb; rw [hf _ _ hb.1,ih _ hb.2]
 cases a <;> cases b <;> simp [sl] at hab <;> first | rfl | rw [key _ _ hab]
def qm (n:Int):AVal:=.int .i64 n
@[go_sem] theorem jnt {i:Int}:qa2 h0 al false 1 h (some (.vptr (qm i)))=some ⟨.int .i64 i,false,none,h⟩:=rfl
end
end Go.Abs
