/- Equations of the executor for runs on values that are not known. -/
import Derived.Test.YtnjngdcbkkonnaaGreatDoorAbsH
set_option linter.unusedVariables false
set_option linter.unusedSimpArgs false
namespace Go.Abs
section
variable {p:jk} {xc:XC} {h0:Nat} {al:Option (List Nat)} {e:Env} {h:qh}
def qnh (r:Option (jg × ASt)) (f:ASt→Option (jg × ASt)):Option (jg × ASt):=match r with
 | some (.normal,st)=>f st
 | r=>r
@[go_sem] theorem q53 {st:ASt} {f:ASt→Option (jg × ASt)}:qnh (some (.normal,st)) f=f st:=rfl
@[go_sem] theorem jf8 {st:ASt} {f:ASt→Option (jg × ASt)}:qnh (some (.ret,st)) f=some (.ret,st):=rfl
@[go_sem] theorem jay {id:Nat} {st:ASt} {f:ASt→Option (jg × ASt)}:qnh (some (.exit id,st)) f=some (.exit id,st):=rfl
@[go_sem] theorem jly {a b:ACode} {st:ASt}:X p (.seq a b) st=qnh (X p a st) (X p b):=by
 rw [jas]; unfold qnh
 cases X p a st with
 | none=>rfl
 | some r=>obtain ⟨x,s⟩:=r; cases x <;> rfl
def qrb (c:Option AVal) (f g:ASt→Option (jg × ASt)) (st:ASt):Option (jg × ASt):=match c with
 | some (.bool true)=>f st
 | some (.bool false)=>g st
 | _=>none
@[go_sem] theorem ja6 {f g:ASt→Option (jg × ASt)} {st:ASt}:qrb (some (.bool true)) f g st=f st:=rfl
@[go_sem] theorem q8z {f g:ASt→Option (jg × ASt)} {st:ASt}:qrb (some (.bool false)) f g st=g st:=rfl
@[go_sem] theorem jk9 {c:qp} {a b:ACode} {st:ASt}:X p (.cond c a b) st=qrb (qf st.env c) (X p a) (X p b) st:=by
 rw [q50]; unfold qrb
 cases qf st.env c with
 | none=>rfl
 | some v=>cases v with
  | bool t=>cases t <;> rfl
  | _=>rfl
def qki (id:Nat) (r:Option (jg × ASt)):Option (jg × ASt):=match r with
 | some (.exit id',st')=>if id'=id then some (.normal,st') else some (.exit id',st')
 | r=>r
@[go_sem] theorem q82 {id id':Nat} {st:ASt}:qki id (some (.exit id',st))=if id'=id then some (.normal,st) else some (.exit id',st):=rfl
@[go_sem] theorem q45 {id:Nat} {st:ASt}:qki id (some (.normal,st))=some (.normal,st):=rfl
@[go_sem] theorem jby {id:Nat} {st:ASt}:qki id (some (.ret,st))=some (.ret,st):=rfl
@[go_sem] theorem jjh {id:Nat} {b:ACode} {st:ASt}:X p (.block id b) st=qki id (X p b st):=by
 rw [q3j]; unfold qki
 cases X p b st with
 | none=>rfl
 | some r=>
  obtain ⟨x,s⟩:=r
  cases x with
  | exit id'=>
   simp only []
   by_cases hb:id'=id
   ·subst hb; simp
   ·rw [if_neg hb]
    cases hq:Nat.beq id' id with
    | true=>exact absurd (Nat.eq_of_beq_eq_true hq) hb
    | false=>rfl
  | _=>rfl
noncomputable def qlp (p:jk) (b:ACode) (n:Nat) (r:Option (jg × ASt)):Option (jg × ASt):=match r with
 | some (.normal,st')=>X p (.loop b) (gc n st')
 | r=>r
theorem qvs {b:ACode} {st:ASt}:X p (.loop b) st=qlp p b st.heap.length (X p b st):=by
 rw [q6s]; unfold qlp
 cases X p b st with
 | none=>rfl
 | some r=>obtain ⟨x,s⟩:=r; cases x <;> rfl
@[go_sem] theorem qth {b:ACode} {n:Nat} {st:ASt}:qlp p b n (some (.normal,st))=X p (.loop b) (gc n st):=rfl
@[go_sem] theorem jgb {b:ACode} {n:Nat} {st:ASt}:qlp p b n (some (.ret,st))=some (.ret,st):=rfl
@[go_sem] theorem q99 {b:ACode} {n id:Nat} {st:ASt}:qlp p b n (some (.exit id,st))=some (.exit id,st):=rfl
attribute [go_sem] q58 q7w jag q0w qvh q7f
@[go_sem] theorem jlp {env:Env}:gc 0 ⟨env,[]⟩=⟨env,[]⟩:=rfl
theorem qz {n:Nat} {st:ASt} (hn:st.heap.length≤n):gc n st=st:=by
 unfold gc; rw [Nat.ble_eq_true_of_le hn]; rfl
theorem jma {e e':Env} {h:qh}:gc (ASt.mk e h).heap.length ⟨e',h⟩=⟨e',h⟩:=qz (Nat.le_refl _)
def q0f (k:Option (List Nat)) (r:Option ASt):Option (jg × ASt):=match r with
 | some st'=>some (.normal,qfw st' k)
 | none=>none
@[go_sem] theorem jfi {k:Option (List Nat)} {st:ASt}:q0f k (some st)=some (.normal,qfw st k):=rfl
@[go_sem] theorem jjz {na:Nat} {l:List AOper} {k:Option (List Nat)} {st:ASt}:ky p xc na l k st=q0f k (kh p xc st.heap.length l ⟨st.env,st.heap++List.replicate na .hole⟩):=by
 unfold ky q0f; rfl
def q7t (r:Option ASt) (f:ASt→Option ASt):Option ASt:=match r with
 | some st=>f st
 | none=>none
@[go_sem] theorem jg1 {st:ASt} {f:ASt→Option ASt}:q7t (some st) f=f st:=rfl
@[go_sem] theorem jh0 {st:ASt}:kh p xc h0 [] st=some st:=rfl
@[go_sem] theorem jgo {o:AOper} {l:List AOper} {st:ASt}:kh p xc h0 (o::l) st=q7t (zo p xc h0 o st) (kh p xc h0 l):=rfl
def qxc (d:Option Nat) (e:Env) (r:Option ORes):Option ASt:=match r with
 | some r=>some ⟨qau (zd e r.strip) d r.v r.own,r.heap⟩
 | none=>none
@[go_sem] theorem jg3 {d:Option Nat} {v:AVal} {o:Bool} {s:Option Nat}:qxc d e (some ⟨v,o,s,h⟩)=some ⟨qau (zd e s) d v o,h⟩:=rfl
@[go_sem] theorem q5d {d:Option Nat} {op:AOp} {env:Env}:zo p xc h0 ⟨d,op,none,al⟩ ⟨env,h⟩=qxc d env (qc p xc h0 al env h op):=rfl
def qnn (g:Option Bool) (d:Option Nat) (env:Env) (h:qh) (f:AOp→Option ORes) (op:AOp):Option ASt:=match g with
 | some true=>qxc d env (f op)
 | some false=>some ⟨qau env d .undef false,h⟩
 | none=>none
@[go_sem] theorem q8i {d:Option Nat} {env:Env} {f:AOp→Option ORes} {op:AOp}:qnn (some true) d env h f op=qxc d env (f op):=rfl
@[go_sem] theorem q6f {d:Option Nat} {env:Env} {f:AOp→Option ORes} {op:AOp}:qnn (some false) d env h f op=some ⟨qau env d .undef false,h⟩:=rfl
@[go_sem] theorem q5e {d:Option Nat} {op:AOp} {g:Nat × Bool} {env:Env}:zo p xc h0 ⟨d,op,some g,al⟩ ⟨env,h⟩=qnn (qaj env (some g)) d env h (qc p xc h0 al env h) op:=by
 unfold zo qnn
 simp only []
 split
 ·rename_i hg; rw [hg]; rfl
 ·rename_i hg; rw [hg]
 ·rename_i hg; rw [hg]
def qeo (b:Bool) (v:Option (AVal × Bool)):Option Bool:=match v with
 | some (.bool c,_)=>some (c == b)
 | some (.undef,_)=>some false
 | _=>none
@[go_sem] theorem q8b {s:Nat} {b:Bool}:qaj e (some (s,b))=qeo b (jf s e):=by
 unfold qaj qeo; rfl
theorem q9g {b c:Bool} {o:Bool}:qeo b (some (.bool c,o))=some (c == b):=rfl
@[go_sem] theorem q65 {b:Bool} {o:Bool}:qeo b (some (.undef,o))=some false:=rfl
@[go_sem] theorem jgk {s t:Nat} {x:AVal × Bool}:jf t ((s,x)::e)=if s=t then some x else jf t e:=by
 by_cases hst:s=t
 ·subst hst; rw [if_pos rfl]; simp [jf]
 ·rw [if_neg hst]
  have:Nat.beq s t=false:=by
   cases hb:Nat.beq s t with
   | false=>rfl
   | true=>exact absurd (Nat.eq_of_beq_eq_true hb) hst
  simp [jf,this]
@[go_sem] theorem jjg {t:Nat}:jf t []=none:=rfl
def q5p (x:Option (AVal × Bool)):Option AVal:=match x with
 | some x=>some x.1
 | none=>none
@[go_sem] theorem jf3 {v:AVal} {o:Bool}:q5p (some (v,o))=some v:=rfl
@[go_sem] theorem jf9 {t:Nat}:qf e (.tmp t)=q5p (jf t e):=rfl
@[go_sem] theorem q83 {v:AVal}:qf e (.const v)=some v:=rfl
def qcu (x:Option AVal) (l:Option (List AVal)):Option (List AVal):=match x,l with
 | some v,some vs=>some (v::vs)
 | _,_=>none
@[go_sem] theorem je1 {v:AVal} {vs:List AVal}:qcu (some v) (some vs)=some (v::vs):=rfl
@[go_sem] theorem jg2:ym e []=some []:=rfl
@[go_sem] theorem jeo {x:qp} {l:List qp}:ym e (x::l)=qcu (qf e x) (ym e l):=by
 simp only [ym,qcu]
 cases qf e x with
 | none=>rfl
 | some v=>cases ym e l <;> rfl
@[go_sem] theorem q8h {l:List Nat}:qfw ⟨e,h⟩ (some l)=⟨qbc e l,h⟩:=rfl
@[go_sem] theorem q8n:qfw ⟨e,h⟩ none=⟨e,h⟩:=rfl
def qra (t:Nat) (x:Option (AVal × Bool)) (e:Env):Env:=match x with
 | some x=>(t,x)::e
 | none=>e
@[go_sem] theorem jdu {t:Nat} {x:AVal × Bool}:qra t (some x) e=(t,x)::e:=rfl
@[go_sem] theorem jde {t:Nat}:qra t none e=e:=rfl
@[go_sem] theorem q8o:qbc e []=[]:=rfl
@[go_sem] theorem q55 {t:Nat} {l:List Nat}:qbc e (t::l)=qra t (jf t e) (qbc e l):=by
 simp only [qbc,qra]
 cases jf t e <;> rfl
@[go_sem] theorem q9e {d:Nat} {v:AVal} {o:Bool}:qau e (some d) v o=(d,v,o)::e:=rfl
@[go_sem] theorem q87 {v:AVal} {o:Bool}:qau e none v o=e:=rfl
@[go_sem] theorem q43:zd e none=e:=rfl
def qsd (s:Nat) (x:Option (AVal × Bool)) (e:Env):Env:=match x with
 | some (v,_)=>(s,v,false)::e
 | none=>e
@[go_sem] theorem q9b {s:Nat} {v:AVal} {o:Bool}:qsd s (some (v,o)) e=(s,v,false)::e:=rfl
@[go_sem] theorem q47 {s:Nat}:zd e (some s)=qsd s (jf s e) e:=by
 simp only [zd,qsd]
 cases jf s e <;> rfl
@[go_sem] theorem q92 {i:Nat}:qb9 i []=[]:=rfl
@[go_sem] theorem q8g {i:Nat} {v:AVal} {vs:List AVal}:qb9 i (v::vs)=(i,v,false)::qb9 (i + 1) vs:=rfl
@[go_sem] theorem jft {v:AVal}:kq h (some v)=some ⟨v,false,none,h⟩:=rfl
@[go_sem] theorem jl5 {v:AVal}:val h v=some ⟨v,false,none,h⟩:=rfl
@[go_sem] theorem jl3 {x:qp}:qc p xc h0 al e h (.move x)=kq h (qf e x):=rfl
def qxf (s:Nat) (h:qh) (x:Option (AVal × Bool)):Option ORes:=match x with
 | some (v,o)=>some ⟨v,o,some s,h⟩
 | none=>none
@[go_sem] theorem jbw {s:Nat} {v:AVal} {o:Bool}:qxf s h (some (v,o))=some ⟨v,o,some s,h⟩:=rfl
@[go_sem] theorem jlu {s:Nat}:qc p xc h0 al e h (.take s)=qxf s h (jf s e):=by
 simp only [qc,qo,qxf]
 cases jf s e <;> rfl
def q1v (op:BinOp) (h:qh) (a b:Option AVal):Option ORes:=match a,b with
 | some a,some b=>kq h (zg op a b)
 | _,_=>none
@[go_sem] theorem jf1 {op:BinOp} {a b:AVal}:q1v op h (some a) (some b)=kq h (zg op a b):=rfl
@[go_sem] theorem jmh {op:BinOp} {x y:qp}:qc p xc h0 al e h (.bin op x y)=q1v op h (qf e x) (qf e y):=by
 simp only [qc,qo,q1v]
 cases qf e x <;> cases qf e y <;> rfl
def qwy (h:qh) (c a b:Option AVal):Option ORes:=match c,a,b with
 | some (.bool t),some x,some y=>val h (bif t then x else y)
 | _,_,_=>none
@[go_sem] theorem jb7 {t:Bool} {a b:AVal}:qwy h (some (.bool t)) (some a) (some b)=some ⟨bif t then a else b,false,none,h⟩:=rfl
@[go_sem] theorem jl7 {c a b:qp}:qc p xc h0 al e h (.pick c a b)=qwy h (qf e c) (qf e a) (qf e b):=by
 simp only [qc,qo,qwy]
 cases qf e c with
 | none=>rfl
 | some v=>cases v <;> cases qf e a <;> cases qf e b <;> rfl
def qmm (k:Nat) (h:qh) (x:Option AVal):Option ORes:=match k,x with
 | 1,some (.list _ _ xs)=>val h (.int .i64 xs.length)
 | 1,some (.ms _ _ n)=>val h (.int .i64 n)
 | 2,some (.list true _ _)=>val h (.int .i64 0)
 | 0,some (.str s)=>val h (.int .i64 s.length)
 | _,_=>none
@[go_sem] theorem jgl {b:Bool} {z:Nat} {xs:List AVal}:qmm 1 h (some (.list b z xs))=some ⟨.int .i64 xs.length,false,none,h⟩:=rfl
@[go_sem] theorem jlb {b o n:Nat}:qmm 1 h (some (.ms b o n))=some ⟨.int .i64 n,false,none,h⟩:=rfl
@[go_sem] theorem jj5 {s:List UInt8}:qmm 0 h (some (.str s))=some ⟨.int .i64 s.length,false,none,h⟩:=rfl
@[go_sem] theorem jjd {z:Nat} {xs:List AVal}:qmm 2 h (some (.list true z xs))=some ⟨.int .i64 0,false,none,h⟩:=rfl
@[go_sem] theorem jmb {k:Nat} {x:qp}:qc p xc h0 al e h (.len k x)=qmm k h (qf e x):=rfl
def qho (n:Nat) (i:Int):Option Nat:=if 0≤i∧i < n then some i.toNat else none
theorem qdv {n:Nat} {k:IntKind} {i:Int}:idx n (.int k i)=qho n i:=by
 unfold idx qho
 cases i with
 | ofNat m=>
  by_cases hm:m < n
  ·rw [if_pos ⟨by simp,by simp; omega⟩]; simp [Nat.blt_eq.mpr hm]
  ·rw [if_neg (by simp; omega)]
   cases hb:Nat.blt m n with
   | true=>exact absurd (Nat.blt_eq.mp hb) hm
   | false=>simp [hb]
 | negSucc m=>simp
attribute [go_sem] qdv
theorem q3h {n:Nat} {i:Int} (h1:0≤i) (h2:i < n):qho n i=some i.toNat:=by unfold qho; rw [if_pos ⟨h1,h2⟩]
theorem qmq {n i:Nat} (h:i < n):qho n (i:Int)=some i:=by unfold qho; rw [if_pos ⟨by simp,by omega⟩]; simp
def qmt (sz:Nat) (h:qh) (x i:Option AVal):Option ORes:=match x,i with
 | some (.list _ sz' xs),some j=>bif Nat.beq sz sz' || xs.isEmpty then (match idx xs.length j with
   | some j=>(match xs[j]? with
    | some v=>val h (.vptr v)
    | none=>none)
   | none=>none) else none
 | some (.ms b o len),some j=>(match idx len j with
   | some j=>val h (.ptr b (o + j * sz))
   | none=>none)
 | _,_=>none
@[go_sem] theorem q9h {sz:Nat} {x i:qp}:qc p xc h0 al e h (.indexAddr sz x i)=qmt sz h (qf e x) (qf e i):=by
 simp only [qc,qo,qmt]
 cases qf e x with
 | none=>rfl
 | some v=>cases v <;> cases qf e i <;> rfl
theorem qyb {sz:Nat} {b:Bool} {k:IntKind} {xs:List AVal} {i:Int} {v:AVal} (h1:0≤i) (hv:xs[i.toNat]?=some v):qmt sz h (some (.list b sz xs)) (some (.int k i))=some ⟨.vptr v,false,none,h⟩:=by
 have hl:=(List.getElem?_eq_some_iff.1 hv).1
 have hi:idx xs.length (.int k i)=some i.toNat:=by rw [qdv]; exact q3h h1 (by omega)
 simp only [qmt,hi,Nat.beq_refl,Bool.true_or,cond_true,hv]
 rfl
theorem q2d {sz:Nat} {b:Bool} {k:IntKind} {xs:List AVal} {i:Nat} {v:AVal} (hv:xs[i]?=some v):qmt sz h (some (.list b sz xs)) (some (.int k (i:Int)))=some ⟨.vptr v,false,none,h⟩:=
 qyb (by simp) (by simpa using hv)
def qao (h0:Nat) (al:Option (List Nat)) (agg:Bool) (n:Nat) (h:qh) (x:Option AVal):Option ORes:=match x with
 | some (.ptr b o)=>bif jx h0 al b then (match jq h b with
   | some cs=>(match yf cs o n with
    | some vs=>bif agg then val h (.agg vs) else (match vs with
     | [v]=>val h v
     | _=>none)
    | none=>none)
   | none=>none) else none
 | some (.vptr v)=>bif Bool.xor agg v.isAgg || !(Nat.beq v.flat.length n) then none else val h v
 | _=>none
@[go_sem] theorem jl8 {agg:Bool} {n:Nat} {x:qp}:qc p xc h0 al e h (.load agg n x)=qao h0 al agg n h (qf e x):=by
 simp only [qc,zp,qao]
 cases qf e x with
 | none=>rfl
 | some v=>cases v <;> rfl
def q2y:Option AVal→Option AVal
 | some (.vptr v)=>some (.vptr v)
 | _=>none
@[go_sem] theorem jlg {v:AVal}:q2y (some (.vptr v))=some (.vptr v):=rfl
@[go_sem] theorem jk5 {agg:Bool} {n:Nat} {x:qp}:qc p xc h0 al e h (.vload agg n x)=qao h0 al agg n h (q2y (qf e x)):=by
 simp only [qc,qo,qao]
 cases qf e x with
 | none=>rfl
 | some v=>cases v <;> rfl
@[go_sem] theorem jf5 {k:IntKind} {i:Int}:qao h0 al false 1 h (some (.vptr (.int k i)))=some ⟨.int k i,false,none,h⟩:=rfl
@[go_sem] theorem jfr {s:List UInt8}:qao h0 al false 1 h (some (.vptr (.str s)))=some ⟨.str s,false,none,h⟩:=rfl
@[go_sem] theorem jd2 {b:Bool}:qao h0 al false 1 h (some (.vptr (.bool b)))=some ⟨.bool b,false,none,h⟩:=rfl
@[go_sem] theorem jan {b:Bool} {z:Nat} {xs:List AVal}:qao h0 al false 1 h (some (.vptr (.list b z xs)))=some ⟨.list b z xs,false,none,h⟩:=rfl
theorem qyi {n:Nat} {cs:List AVal} (hn:cs.length=n):qao h0 al true n h (some (.vptr (.agg cs)))=some ⟨.agg cs,false,none,h⟩:=by
 subst hn; simp [qao,AVal.isAgg,AVal.flat,val]
@[go_sem] theorem jms {k:IntKind} {x y:Int}:zg .add (.int k x) (.int k y)=some (.int k (qk k (x + y))):=by simp [zg,qbf]
@[go_sem] theorem jmq {k:IntKind} {x y:Int}:zg .sub (.int k x) (.int k y)=some (.int k (qk k (x - y))):=by simp [zg,qbf]
@[go_sem] theorem jmr {k:IntKind} {x y:Int}:zg .mul (.int k x) (.int k y)=some (.int k (qk k (x * y))):=by simp [zg,qbf]
@[go_sem] theorem jmk {k:IntKind} {x y:Int}:zg .lss (.int k x) (.int k y)=some (.bool (decide (x < y))):=by simp [zg,qbf]
@[go_sem] theorem jmo {k:IntKind} {x y:Int}:zg .leq (.int k x) (.int k y)=some (.bool (decide (x≤y))):=by simp [zg,qbf]
@[go_sem] theorem jmg {k:IntKind} {x y:Int}:zg .gtr (.int k x) (.int k y)=some (.bool (decide (y < x))):=by simp [zg,qbf]
@[go_sem] theorem jmj {k:IntKind} {x y:Int}:zg .geq (.int k x) (.int k y)=some (.bool (decide (y≤x))):=by simp [zg,qbf]
@[go_sem] theorem jmu {k:IntKind} {x y:Int}:zg .eql (.int k x) (.int k y)=some (.bool (decide (x=y))):=by
 simp only [zg,qbf,decide_true,cond_true]; congr 2
@[go_sem] theorem jmm {k:IntKind} {x y:Int}:zg .neq (.int k x) (.int k y)=some (.bool (!decide (x=y))):=by
 simp only [zg,qbf,decide_true,cond_true]; congr 2
theorem qg6 {x:Int} (h1:-9223372036854775808≤x) (h2:x≤9223372036854775807):qk .i64 x=x:=by
 have:qb7 .i64 x=true:=by
  cases x with
  | ofNat m=>simp only [qb7]; exact Nat.ble_eq_true_of_le (by simp at h2; omega)
  | negSucc m=>simp only [qb7]; exact Nat.ble_eq_true_of_le (by omega)
 simp [qk,this]
def q0i (h:qh) (b:Bool) (r:Option (AVal × Bool)):Option ORes:=match b,r with
 | true,some (v,o)=>some ⟨v,o,none,h⟩
 | _,_=>none
@[go_sem] theorem jgw {v:AVal} {o:Bool}:q0i h true (some (v,o))=some ⟨v,o,none,h⟩:=rfl
def q0a (n:Nat) (r:Option (AVal × Bool × qh)):Option ORes:=match r with
 | some (v,o,h')=>some ⟨v,o,none,zm n v h'⟩
 | none=>none
@[go_sem] theorem jf0 {n:Nat} {v:AVal} {o:Bool}:q0a n (some (v,o,h))=some ⟨v,o,none,zm n v h⟩:=rfl
def qtq (r:Option (AVal × qh)):Option ORes:=match r with
 | some (v,h')=>some ⟨v,false,none,h'⟩
 | none=>none
@[go_sem] theorem q8j {v:AVal}:qtq (some (v,h))=some ⟨v,false,none,h⟩:=rfl
def qxl (h0 r:Nat) (h:qh) (b:Bool) (m:Option (List (AVal × AVal))):Option ORes:=match b,m with
 | true,some es=>(match newBox h0 h r (.map es) with
  | some h'=>some ⟨.map (h0 + r),false,none,h'⟩
  | none=>none)
 | _,_=>none
def qlv (p:jk) (xc:XC) (h0:Nat) (h:qh) (md:CMode) (f:Option AVal) (l:Option (List AVal)):Option ORes:=match f,l with
 | some (.fn (.func k) a c),some vs=>(match md with
  | .iso=>q0i h (ju 0 (a++vs++c)) (qd p xc k (a++vs++c))
  | .frz r=>qxl h0 r h (a++vs++c).isEmpty (p.maps k)
  | .shr=>q0a h.length (jc p xc k (a++vs++c) h))
 | some (.fn (.yield b) [] []),some vs=>(match md with
  | .shr=>qtq (kr xc b vs h)
  | _=>none)
 | _,_=>none
@[go_sem] theorem jls {md:CMode} {f:qp} {l:List qp}:qc p xc h0 al e h (.call md f l)=qlv p xc h0 h md (qf e f) (ym e l):=by
 simp only [qc,yg,qlv]
 split
 ·rename_i k first captured vs h1 h2
  rw [h1,h2]
  cases md with
  | iso=>
   simp only []
   cases ju 0 (first++vs++captured) with
   | false=>cases qd p xc k (first++vs++captured) <;> rfl
   | true=>cases qd p xc k (first++vs++captured) <;> rfl
  | frz rk=>
   simp only []
   cases (first++vs++captured).isEmpty with
   | false=>cases p.maps k <;> rfl
   | true=>
    cases p.maps k with
    | none=>rfl
    | some es=>simp only [cond_true,qxl]; cases newBox h0 h rk (.map es) <;> rfl
  | shr=>simp only []; cases jc p xc k (first++vs++captured) h <;> rfl
 ·rename_i b vs h1 h2
  rw [h1,h2]
  cases md with
  | shr=>simp only []; cases kr xc b vs h <;> rfl
  | _=>rfl
 ·rename_i h1 h2
  split
  ·rename_i k a c vs g1 g2; exact absurd g2 (fun g2=>h1 k a c vs g1 g2)
  ·rename_i b vs g1 g2; exact absurd g2 (fun g2=>h2 b vs g1 g2)
  ·rfl
@[go_sem] theorem jgv {k:Nat} {a c vs:List AVal}:qlv p xc h0 h .iso (some (.fn (.func k) a c)) (some vs)=q0i h (ju 0 (a++vs++c)) (qd p xc k (a++vs++c)):=rfl
@[go_sem] theorem jf7 {k r:Nat} {a c vs:List AVal}:qlv p xc h0 h (.frz r) (some (.fn (.func k) a c)) (some vs)=qxl h0 r h (a++vs++c).isEmpty (p.maps k):=rfl
@[go_sem] theorem jfe {k:Nat} {a c vs:List AVal}:qlv p xc h0 h .shr (some (.fn (.func k) a c)) (some vs)=q0a h.length (jc p xc k (a++vs++c) h):=rfl
@[go_sem] theorem q80 {b:Nat} {vs:List AVal}:qlv p xc h0 h .shr (some (.fn (.yield b) [] [])) (some vs)=qtq (kr xc b vs h):=rfl
def qwg (rs:List qae) (r:Option (jg × ASt)):Option (AVal × Bool × qh):=match r with
 | some (.normal,st)=>(match yd st rs with
   | some xs=>some ((jp xs).1,(jp xs).2,yi st rs)
   | none=>none)
 | some (.ret,st)=>(match yd st rs with
   | some xs=>some ((jp xs).1,(jp xs).2,yi st rs)
   | none=>none)
 | _=>none
def q2g (st:ASt) (rs:List qae) (r:Option (List (AVal × Bool))):Option (AVal × Bool × qh):=match r with
 | some xs=>some ((jp xs).1,(jp xs).2,yi st rs)
 | none=>none
@[go_sem] theorem q8v {rs:List qae} {st:ASt}:qwg rs (some (.normal,st))=q2g st rs (yd st rs):=rfl
@[go_sem] theorem jiu {rs:List qae} {st:ASt}:qwg rs (some (.ret,st))=q2g st rs (yd st rs):=rfl
@[go_sem] theorem jg6 {st:ASt} {rs:List qae} {xs:List (AVal × Bool)}:q2g st rs (some xs)=some ((jp xs).1,(jp xs).2,yi st rs):=rfl
theorem qj {k nt:Nat} {body:ACode} {rs:List qae} {args:List AVal} (hf:p.fns k=some ⟨nt,body,rs⟩) (hl:args.length≤nt):jc p xc k args h=qwg rs (xc body ⟨qb9 0 args,h⟩):=by
 simp only [jc,hf,qan,Nat.ble_eq_true_of_le hl,cond_true,qwg]
 rfl
def qwo (x:Option (AVal × Bool)) (l:Option (List (AVal × Bool))):Option (List (AVal × Bool)):=match x,l with
 | some v,some vs=>some (v::vs)
 | _,_=>none
@[go_sem] theorem jd9 {v:AVal × Bool} {vs:List (AVal × Bool)}:qwo (some v) (some vs)=some (v::vs):=rfl
@[go_sem] theorem q5g {st:ASt}:yd st []=some []:=rfl
@[go_sem] theorem q4o {st:ASt} {r:qae} {rs:List qae}:yd st (r::rs)=qwo (qa5 st r) (yd st rs):=by
 simp only [yd,qwo]
 cases qa5 st r with
 | none=>rfl
 | some v=>cases yd st rs <;> rfl
@[go_sem] theorem q71 {t:Nat}:qa5 ⟨e,h⟩ (.tmp t)=jf t e:=rfl
@[go_sem] theorem jjx {x:AVal × Bool}:jp [x]=x:=rfl
@[go_sem] theorem ji9 {x y:AVal × Bool}:jp [x,y]=(.tup [x.1,y.1],false):=rfl
@[go_sem] theorem jcr {x y z:AVal × Bool}:jp [x,y,z]=(.tup [x.1,y.1,z.1],false):=rfl
@[go_sem] theorem jfu:jp []=(.tup [],false):=rfl
@[go_sem] theorem jhc {st:ASt} {t:Nat}:yi st [.tmp t]=st.heap:=rfl
@[go_sem] theorem jgg {st:ASt} {x y:qae} {l:List qae}:yi st (x::y::l)=st.heap:=by
 cases x with
 | tmp t=>rfl
 | cell t a n=>cases a <;> rfl
@[go_sem] theorem jez {st:ASt}:yi st []=st.heap:=rfl
@[go_sem] theorem jgs {st:ASt} {t n:Nat}:yi st [.cell t true n]=st.heap:=rfl
@[go_sem] theorem jih {o:Bool}:qeo true (some (.bool true,o))=some true:=rfl
@[go_sem] theorem jkg {o:Bool}:qeo true (some (.bool false,o))=some false:=rfl
@[go_sem] theorem jkp {o:Bool}:qeo false (some (.bool true,o))=some false:=rfl
@[go_sem] theorem jig {o:Bool}:qeo false (some (.bool false,o))=some true:=rfl
attribute [go_sem] cond_true cond_false decide_true decide_false Bool.not_true Bool.not_false List.append_nil List.nil_append List.length_cons List.length_nil
@[go_sem] theorem jmf:List.replicate 0 ABox.hole=[]:=rfl
end
section
variable {p:jk} {xc:XC} {h0:Nat} {al:Option (List Nat)} {e:Env} {h:qh} {α:Type}
def sl (z:Nat) (f:α→AVal):Option (List α)→AVal
 | none=>.list true 0 []
 | some l=>.list false z (l.map f)
@[go_sem] theorem jl2 {z:Nat} {f:α→AVal} {l:Option (List α)}:qmm 1 h (some (sl z f l))=some ⟨.int .i64 (l.getD []).length,false,none,h⟩:=by
 cases l <;> simp [sl,qmm,val]
theorem q67 {z:Nat} {f:α→AVal} {l:Option (List α)} {k:IntKind} {i:Nat} {x:α} (hx:(l.getD [])[i]?=some x):qmt z h (some (sl z f l)) (some (.int k (i:Int)))=some ⟨.vptr (f x),false,none,h⟩:=by
 cases l with
 | none=>simp at hx
 | some l=>exact q2d (by rw [List.getElem?_map,show l[i]?=some x from hx]; rfl)
theorem qit {n z:Nat} {f:α→AVal} {l:Option (List α)} (hf:∀ x,below n (f x)=true):below n (sl z f l)=true:=by
 have key:∀ l:List α,ju n (l.map f)=true:=by
  intro l
  induction l with
  | nil=>rfl
  | cons x l ih=>simp [ju,hf,ih]
 cases l with
 | none=>rfl
 | some l=>simp only [sl,below]; exact key l
theorem jln {z:Nat} {f:α→AVal} (hf:∀ x y,f x=f y→x=y) {a b:Option (List α)} (hab:sl z f a=sl z f b):a=b:=by
 have key:∀ a b:List α,a.map f=b.map f→a=b:=by
  intro a
  induction a with
  | nil=>intro b hb; cases b <;> simp at hb <;> rfl
  | cons x a ih=>
   intro b hb
   cases b with
   | nil=>simp at hb
   | cons y b=>simp at hb; rw [hf _ _ hb.1,ih _ hb.2]
 cases a <;> cases b <;> simp [sl] at hab <;> first | rfl | rw [key _ _ hab]
def jr (n:Int):AVal:=.int .i64 n
@[go_sem] theorem jdr {i:Int}:qao h0 al false 1 h (some (.vptr (jr i)))=some ⟨.int .i64 i,false,none,h⟩:=rfl
end
end Go.Abs
