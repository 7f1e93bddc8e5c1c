/- Equations of the executor for runs on values that are not known. -/
import Derived.Test.YtnjngdcbkkonnaaGreatDoorAbsH
set_option linter.unusedVariables false
set_option linter.unusedSimpArgs false
namespace Go.Abs
section
variable {p:jm} {xc:XC} {h0:Nat} {al:Option (List Nat)} {e:Env} {h:qm}
def qot (r:Option (je × ASt)) (f:ASt→Option (je × ASt)):Option (je × ASt):=match r with
 | some (.normal,st)=>f st
 | r=>r
@[go_sem] theorem q7j {st:ASt} {f:ASt→Option (je × ASt)}:qot (some (.normal,st)) f=f st:=rfl
@[go_sem] theorem jg8 {st:ASt} {f:ASt→Option (je × ASt)}:qot (some (.ret,st)) f=some (.ret,st):=rfl
@[go_sem] theorem jc5 {id:Nat} {st:ASt} {f:ASt→Option (je × ASt)}:qot (some (.exit id,st)) f=some (.exit id,st):=rfl
@[go_sem] theorem jmz {a b:ACode} {st:ASt}:X p (.seq a b) st=qot (X p a st) (X p b):=by
 rw [jc8]; unfold qot
 cases X p a st with
 | none=>rfl
 | some r=>obtain ⟨x,s⟩:=r; cases x <;> rfl
def qrk (c:Option AVal) (f g:ASt→Option (je × ASt)) (st:ASt):Option (je × ASt):=match c with
 | some (.bool true)=>f st
 | some (.bool false)=>g st
 | _=>none
@[go_sem] theorem jf8 {f g:ASt→Option (je × ASt)} {st:ASt}:qrk (some (.bool true)) f g st=f st:=rfl
@[go_sem] theorem q9x {f g:ASt→Option (je × ASt)} {st:ASt}:qrk (some (.bool false)) f g st=g st:=rfl
@[go_sem] theorem jmd {c:qr} {a b:ACode} {st:ASt}:X p (.cond c a b) st=qrk (qh st.env c) (X p a) (X p b) st:=by
 rw [q8r]; unfold qrk
 cases qh st.env c with
 | none=>rfl
 | some v=>cases v with
  | bool t=>cases t <;> rfl
  | _=>rfl
def qkr (id:Nat) (r:Option (je × ASt)):Option (je × ASt):=match r with
 | some (.exit id',st')=>if id'=id then some (.normal,st') else some (.exit id',st')
 | r=>r
@[go_sem] theorem q9s {id id':Nat} {st:ASt}:qkr id (some (.exit id',st))=if id'=id then some (.normal,st) else some (.exit id',st):=rfl
@[go_sem] theorem q5t {id:Nat} {st:ASt}:qkr id (some (.normal,st))=some (.normal,st):=rfl
@[go_sem] theorem je3 {id:Nat} {st:ASt}:qkr id (some (.ret,st))=some (.ret,st):=rfl
@[go_sem] theorem jkd {id:Nat} {b:ACode} {st:ASt}:X p (.block id b) st=qkr id (X p b st):=by
 rw [q34]; unfold qkr
 cases X p b st with
 | none=>rfl
 | some r=>
  obtain ⟨x,s⟩:=r
  cases x with
  | exit id'=>
   simp only []
   by_cases hb:id'=id
   ·subst hb; simp
   ·rw [if_neg hb]
    cases hq:Nat.beq id' id with
    | true=>exact absurd (Nat.eq_of_beq_eq_true hq) hb
    | false=>rfl
  | _=>rfl
noncomputable def ql2 (p:jm) (b:ACode) (n:Nat) (r:Option (je × ASt)):Option (je × ASt):=match r with
 | some (.normal,st')=>X p (.loop b) (gc n st')
 | r=>r
theorem qwh {b:ACode} {st:ASt}:X p (.loop b) st=ql2 p b st.heap.length (X p b st):=by
 rw [q6u]; unfold ql2
 cases X p b st with
 | none=>rfl
 | some r=>obtain ⟨x,s⟩:=r; cases x <;> rfl
@[go_sem] theorem qrw {b:ACode} {n:Nat} {st:ASt}:ql2 p b n (some (.normal,st))=X p (.loop b) (gc n st):=rfl
@[go_sem] theorem jg4 {b:ACode} {n:Nat} {st:ASt}:ql2 p b n (some (.ret,st))=some (.ret,st):=rfl
@[go_sem] theorem jbo {b:ACode} {n id:Nat} {st:ASt}:ql2 p b n (some (.exit id,st))=some (.exit id,st):=rfl
attribute [go_sem] q85 q6m jay q2e qvo q8o
@[go_sem] theorem jm8 {env:Env}:gc 0 ⟨env,[]⟩=⟨env,[]⟩:=rfl
theorem qw {n:Nat} {st:ASt} (hn:st.heap.length≤n):gc n st=st:=by
 unfold gc; rw [Nat.ble_eq_true_of_le hn]; rfl
theorem jnq {e e':Env} {h:qm}:gc (ASt.mk e h).heap.length ⟨e',h⟩=⟨e',h⟩:=qw (Nat.le_refl _)
def q23 (k:Option (List Nat)) (r:Option ASt):Option (je × ASt):=match r with
 | some st'=>some (.normal,qgx st' k)
 | none=>none
@[go_sem] theorem jik {k:Option (List Nat)} {st:ASt}:q23 k (some st)=some (.normal,qgx st k):=rfl
@[go_sem] theorem jjn {na:Nat} {l:List AOper} {k:Option (List Nat)} {st:ASt}:qaa p xc na l k st=q23 k (kj p xc st.heap.length l ⟨st.env,st.heap++List.replicate na .hole⟩):=by
 unfold qaa q23; rfl
def q6h (r:Option ASt) (f:ASt→Option ASt):Option ASt:=match r with
 | some st=>f st
 | none=>none
@[go_sem] theorem jh6 {st:ASt} {f:ASt→Option ASt}:q6h (some st) f=f st:=rfl
@[go_sem] theorem jlh {st:ASt}:kj p xc h0 [] st=some st:=rfl
@[go_sem] theorem jhi {o:AOper} {l:List AOper} {st:ASt}:kj p xc h0 (o::l) st=q6h (zt p xc h0 o st) (kj p xc h0 l):=rfl
def qyo (d:Option Nat) (e:Env) (r:Option ORes):Option ASt:=match r with
 | some r=>some ⟨qa2 (zi e r.strip) d r.v r.own,r.heap⟩
 | none=>none
@[go_sem] theorem jil {d:Option Nat} {v:AVal} {o:Bool} {s:Option Nat}:qyo d e (some ⟨v,o,s,h⟩)=some ⟨qa2 (zi e s) d v o,h⟩:=rfl
@[go_sem] theorem q5z {d:Option Nat} {op:AOp} {env:Env}:zt p xc h0 ⟨d,op,none,al⟩ ⟨env,h⟩=qyo d env (qc p xc h0 al env h op):=rfl
def qnu (g:Option Bool) (d:Option Nat) (env:Env) (h:qm) (f:AOp→Option ORes) (op:AOp):Option ASt:=match g with
 | some true=>qyo d env (f op)
 | some false=>some ⟨qa2 env d .undef false,h⟩
 | none=>none
@[go_sem] theorem q9g {d:Option Nat} {env:Env} {f:AOp→Option ORes} {op:AOp}:qnu (some true) d env h f op=qyo d env (f op):=rfl
@[go_sem] theorem q60 {d:Option Nat} {env:Env} {f:AOp→Option ORes} {op:AOp}:qnu (some false) d env h f op=some ⟨qa2 env d .undef false,h⟩:=rfl
@[go_sem] theorem q59 {d:Option Nat} {op:AOp} {g:Nat × Bool} {env:Env}:zt p xc h0 ⟨d,op,some g,al⟩ ⟨env,h⟩=qnu (qak env (some g)) d env h (qc p xc h0 al env h) op:=by
 unfold zt qnu
 simp only []
 split
 ·rename_i hg; rw [hg]; rfl
 ·rename_i hg; rw [hg]
 ·rename_i hg; rw [hg]
def qex (b:Bool) (v:Option (AVal × Bool)):Option Bool:=match v with
 | some (.bool c,_)=>some (c == b)
 | some (.undef,_)=>some false
 | _=>none
@[go_sem] theorem q8f {s:Nat} {b:Bool}:qak e (some (s,b))=qex b (ji s e):=by
 unfold qak qex; rfl
theorem q9y {b c:Bool} {o:Bool}:qex b (some (.bool c,o))=some (c == b):=rfl
@[go_sem] theorem q6f {b:Bool} {o:Bool}:qex b (some (.undef,o))=some false:=rfl
@[go_sem] theorem jh1 {s t:Nat} {x:AVal × Bool}:ji t ((s,x)::e)=if s=t then some x else ji t e:=by
 by_cases hst:s=t
 ·subst hst; rw [if_pos rfl]; simp [ji]
 ·rw [if_neg hst]
  have:Nat.beq s t=false:=by
   cases hb:Nat.beq s t with
   | false=>rfl
   | true=>exact absurd (Nat.eq_of_beq_eq_true hb) hst
  simp [ji,this]
@[go_sem] theorem jj0 {t:Nat}:ji t []=none:=rfl
def q6y (x:Option (AVal × Bool)):Option AVal:=match x with
 | some x=>some x.1
 | none=>none
@[go_sem] theorem jhj {v:AVal} {o:Bool}:q6y (some (v,o))=some v:=rfl
@[go_sem] theorem jic {t:Nat}:qh e (.tmp t)=q6y (ji t e):=rfl
@[go_sem] theorem q9j {v:AVal}:qh e (.const v)=some v:=rfl
def qc0 (x:Option AVal) (l:Option (List AVal)):Option (List AVal):=match x,l with
 | some v,some vs=>some (v::vs)
 | _,_=>none
@[go_sem] theorem je9 {v:AVal} {vs:List AVal}:qc0 (some v) (some vs)=some (v::vs):=rfl
@[go_sem] theorem jg9:yn e []=some []:=rfl
@[go_sem] theorem jc3 {x:qr} {l:List qr}:yn e (x::l)=qc0 (qh e x) (yn e l):=by
 simp only [yn,qc0]
 cases qh e x with
 | none=>rfl
 | some v=>cases yn e l <;> rfl
@[go_sem] theorem q9k {l:List Nat}:qgx ⟨e,h⟩ (some l)=⟨qbj e l,h⟩:=rfl
@[go_sem] theorem q9i:qgx ⟨e,h⟩ none=⟨e,h⟩:=rfl
def qrj (t:Nat) (x:Option (AVal × Bool)) (e:Env):Env:=match x with
 | some x=>(t,x)::e
 | none=>e
@[go_sem] theorem jde {t:Nat} {x:AVal × Bool}:qrj t (some x) e=(t,x)::e:=rfl
@[go_sem] theorem jan {t:Nat}:qrj t none e=e:=rfl
@[go_sem] theorem q92:qbj e []=[]:=rfl
@[go_sem] theorem q8v {t:Nat} {l:List Nat}:qbj e (t::l)=qrj t (ji t e) (qbj e l):=by
 simp only [qbj,qrj]
 cases ji t e <;> rfl
@[go_sem] theorem jaf {d:Nat} {v:AVal} {o:Bool}:qa2 e (some d) v o=(d,v,o)::e:=rfl
@[go_sem] theorem jab {v:AVal} {o:Bool}:qa2 e none v o=e:=rfl
@[go_sem] theorem q5u:zi e none=e:=rfl
def qs9 (s:Nat) (x:Option (AVal × Bool)) (e:Env):Env:=match x with
 | some (v,_)=>(s,v,false)::e
 | none=>e
@[go_sem] theorem q9f {s:Nat} {v:AVal} {o:Bool}:qs9 s (some (v,o)) e=(s,v,false)::e:=rfl
@[go_sem] theorem q52 {s:Nat}:zi e (some s)=qs9 s (ji s e) e:=by
 simp only [zi,qs9]
 cases ji s e <;> rfl
@[go_sem] theorem jdy {i:Nat}:qb9 i []=[]:=rfl
@[go_sem] theorem q9b {i:Nat} {v:AVal} {vs:List AVal}:qb9 i (v::vs)=(i,v,false)::qb9 (i + 1) vs:=rfl
@[go_sem] theorem jhc {v:AVal}:k9 h (some v)=some ⟨v,false,none,h⟩:=rfl
@[go_sem] theorem jm2 {v:AVal}:val h v=some ⟨v,false,none,h⟩:=rfl
@[go_sem] theorem jna {x:qr}:qc p xc h0 al e h (.move x)=k9 h (qh e x):=rfl
def qxr (s:Nat) (h:qm) (x:Option (AVal × Bool)):Option ORes:=match x with
 | some (v,o)=>some ⟨v,o,some s,h⟩
 | none=>none
@[go_sem] theorem jer {s:Nat} {v:AVal} {o:Bool}:qxr s h (some (v,o))=some ⟨v,o,some s,h⟩:=rfl
@[go_sem] theorem jng {s:Nat}:qc p xc h0 al e h (.take s)=qxr s h (ji s e):=by
 simp only [qc,qp,qxr]
 cases ji s e <;> rfl
def q1i (op:BinOp) (h:qm) (a b:Option AVal):Option ORes:=match a,b with
 | some a,some b=>k9 h (zd op a b)
 | _,_=>none
@[go_sem] theorem jim {op:BinOp} {a b:AVal}:q1i op h (some a) (some b)=k9 h (zd op a b):=rfl
@[go_sem] theorem jno {op:BinOp} {x y:qr}:qc p xc h0 al e h (.bin op x y)=q1i op h (qh e x) (qh e y):=by
 simp only [qc,qp,q1i]
 cases qh e x <;> cases qh e y <;> rfl
def qxh (h:qm) (c a b:Option AVal):Option ORes:=match c,a,b with
 | some (.bool t),some x,some y=>val h (bif t then x else y)
 | _,_,_=>none
@[go_sem] theorem jeq {t:Bool} {a b:AVal}:qxh h (some (.bool t)) (some a) (some b)=some ⟨bif t then a else b,false,none,h⟩:=rfl
@[go_sem] theorem jm4 {c a b:qr}:qc p xc h0 al e h (.pick c a b)=qxh h (qh e c) (qh e a) (qh e b):=by
 simp only [qc,qp,qxh]
 cases qh e c with
 | none=>rfl
 | some v=>cases v <;> cases qh e a <;> cases qh e b <;> rfl
def qnn (k:Nat) (h:qm) (x:Option AVal):Option ORes:=match k,x with
 | 1,some (.list _ _ xs)=>val h (.int .i64 xs.length)
 | 1,some (.ms _ _ n)=>val h (.int .i64 n)
 | 2,some (.list true _ _)=>val h (.int .i64 0)
 | 0,some (.str s)=>val h (.int .i64 s.length)
 | _,_=>none
@[go_sem] theorem jh4 {b:Bool} {z:Nat} {xs:List AVal}:qnn 1 h (some (.list b z xs))=some ⟨.int .i64 xs.length,false,none,h⟩:=rfl
@[go_sem] theorem jmp {b o n:Nat}:qnn 1 h (some (.ms b o n))=some ⟨.int .i64 n,false,none,h⟩:=rfl
@[go_sem] theorem jjc {s:List UInt8}:qnn 0 h (some (.str s))=some ⟨.int .i64 s.length,false,none,h⟩:=rfl
@[go_sem] theorem jka {z:Nat} {xs:List AVal}:qnn 2 h (some (.list true z xs))=some ⟨.int .i64 0,false,none,h⟩:=rfl
@[go_sem] theorem jn1 {k:Nat} {x:qr}:qc p xc h0 al e h (.len k x)=qnn k h (qh e x):=rfl
def qhn (n:Nat) (i:Int):Option Nat:=if 0≤i∧i < n then some i.toNat else none
theorem qd6 {n:Nat} {k:IntKind} {i:Int}:idx n (.int k i)=qhn n i:=by
 unfold idx qhn
 cases i with
 | ofNat m=>
  by_cases hm:m < n
  ·rw [if_pos ⟨by simp,by simp; omega⟩]; simp [Nat.blt_eq.mpr hm]
  ·rw [if_neg (by simp; omega)]
   cases hb:Nat.blt m n with
   | true=>exact absurd (Nat.blt_eq.mp hb) hm
   | false=>simp [hb]
 | negSucc m=>simp
attribute [go_sem] qd6
theorem q4k {n:Nat} {i:Int} (h1:0≤i) (h2:i < n):qhn n i=some i.toNat:=by unfold qhn; rw [if_pos ⟨h1,h2⟩]
theorem qni {n i:Nat} (h:i < n):qhn n (i:Int)=some i:=by unfold qhn; rw [if_pos ⟨by simp,by omega⟩]; simp
def qkl (sz:Nat) (h:qm) (x i:Option AVal):Option ORes:=match x,i with
 | some (.list _ sz' xs),some j=>bif Nat.beq sz sz' || xs.isEmpty then (match idx xs.length j with
   | some j=>(match xs[j]? with
    | some v=>val h (.vptr v)
    | none=>none)
   | none=>none) else none
 | some (.ms b o len),some j=>(match idx len j with
   | some j=>val h (.ptr b (o + j * sz))
   | none=>none)
 | _,_=>none
@[go_sem] theorem q9p {sz:Nat} {x i:qr}:qc p xc h0 al e h (.indexAddr sz x i)=qkl sz h (qh e x) (qh e i):=by
 simp only [qc,qp,qkl]
 cases qh e x with
 | none=>rfl
 | some v=>cases v <;> cases qh e i <;> rfl
theorem qzz {sz:Nat} {b:Bool} {k:IntKind} {xs:List AVal} {i:Int} {v:AVal} (h1:0≤i) (hv:xs[i.toNat]?=some v):qkl sz h (some (.list b sz xs)) (some (.int k i))=some ⟨.vptr v,false,none,h⟩:=by
 have hl:=(List.getElem?_eq_some_iff.1 hv).1
 have hi:idx xs.length (.int k i)=some i.toNat:=by rw [qd6]; exact q4k h1 (by omega)
 simp only [qkl,hi,Nat.beq_refl,Bool.true_or,cond_true,hv]
 rfl
theorem q19 {sz:Nat} {b:Bool} {k:IntKind} {xs:List AVal} {i:Nat} {v:AVal} (hv:xs[i]?=some v):qkl sz h (some (.list b sz xs)) (some (.int k (i:Int)))=some ⟨.vptr v,false,none,h⟩:=
 qzz (by simp) (by simpa using hv)
def qap (h0:Nat) (al:Option (List Nat)) (agg:Bool) (n:Nat) (h:qm) (x:Option AVal):Option ORes:=match x with
 | some (.ptr b o)=>bif jx h0 al b then (match js h b with
   | some cs=>(match yi cs o n with
    | some vs=>bif agg then val h (.agg vs) else (match vs with
     | [v]=>val h v
     | _=>none)
    | none=>none)
   | none=>none) else none
 | some (.vptr v)=>bif Bool.xor agg v.isAgg || !(Nat.beq v.flat.length n) then none else val h v
 | _=>none
@[go_sem] theorem jm3 {agg:Bool} {n:Nat} {x:qr}:qc p xc h0 al e h (.load agg n x)=qap h0 al agg n h (qh e x):=by
 simp only [qc,zu,qap]
 cases qh e x with
 | none=>rfl
 | some v=>cases v <;> rfl
def q3k:Option AVal→Option AVal
 | some (.vptr v)=>some (.vptr v)
 | _=>none
@[go_sem] theorem jmr {v:AVal}:q3k (some (.vptr v))=some (.vptr v):=rfl
@[go_sem] theorem jmj {agg:Bool} {n:Nat} {x:qr}:qc p xc h0 al e h (.vload agg n x)=qap h0 al agg n h (q3k (qh e x)):=by
 simp only [qc,qp,qap]
 cases qh e x with
 | none=>rfl
 | some v=>cases v <;> rfl
@[go_sem] theorem jhr {k:IntKind} {i:Int}:qap h0 al false 1 h (some (.vptr (.int k i)))=some ⟨.int k i,false,none,h⟩:=rfl
@[go_sem] theorem jgx {s:List UInt8}:qap h0 al false 1 h (some (.vptr (.str s)))=some ⟨.str s,false,none,h⟩:=rfl
@[go_sem] theorem jc9 {b:Bool}:qap h0 al false 1 h (some (.vptr (.bool b)))=some ⟨.bool b,false,none,h⟩:=rfl
@[go_sem] theorem je5 {b:Bool} {z:Nat} {xs:List AVal}:qap h0 al false 1 h (some (.vptr (.list b z xs)))=some ⟨.list b z xs,false,none,h⟩:=rfl
theorem q0t {n:Nat} {cs:List AVal} (hn:cs.length=n):qap h0 al true n h (some (.vptr (.agg cs)))=some ⟨.agg cs,false,none,h⟩:=by
 subst hn; simp [qap,AVal.isAgg,AVal.flat,val]
@[go_sem] theorem jnx {k:IntKind} {x y:Int}:zd .add (.int k x) (.int k y)=some (.int k (qi k (x + y))):=by simp [zd,qas]
@[go_sem] theorem jnl {k:IntKind} {x y:Int}:zd .sub (.int k x) (.int k y)=some (.int k (qi k (x - y))):=by simp [zd,qas]
@[go_sem] theorem jnw {k:IntKind} {x y:Int}:zd .mul (.int k x) (.int k y)=some (.int k (qi k (x * y))):=by simp [zd,qas]
@[go_sem] theorem jnm {k:IntKind} {x y:Int}:zd .lss (.int k x) (.int k y)=some (.bool (decide (x < y))):=by simp [zd,qas]
@[go_sem] theorem jnu {k:IntKind} {x y:Int}:zd .leq (.int k x) (.int k y)=some (.bool (decide (x≤y))):=by simp [zd,qas]
@[go_sem] theorem jnn {k:IntKind} {x y:Int}:zd .gtr (.int k x) (.int k y)=some (.bool (decide (y < x))):=by simp [zd,qas]
@[go_sem] theorem jnt {k:IntKind} {x y:Int}:zd .geq (.int k x) (.int k y)=some (.bool (decide (y≤x))):=by simp [zd,qas]
@[go_sem] theorem jnr {k:IntKind} {x y:Int}:zd .eql (.int k x) (.int k y)=some (.bool (decide (x=y))):=by
 simp only [zd,qas,decide_true,cond_true]; congr 2
@[go_sem] theorem jnz {k:IntKind} {x y:Int}:zd .neq (.int k x) (.int k y)=some (.bool (!decide (x=y))):=by
 simp only [zd,qas,decide_true,cond_true]; congr 2
theorem qg6 {x:Int} (h1:-9223372036854775808≤x) (h2:x≤9223372036854775807):qi .i64 x=x:=by
 have:qb8 .i64 x=true:=by
  cases x with
  | ofNat m=>simp only [qb8]; exact Nat.ble_eq_true_of_le (by simp at h2; omega)
  | negSucc m=>simp only [qb8]; exact Nat.ble_eq_true_of_le (by omega)
 simp [qi,this]
def q2f (h:qm) (b:Bool) (r:Option (AVal × Bool)):Option ORes:=match b,r with
 | true,some (v,o)=>some ⟨v,o,none,h⟩
 | _,_=>none
@[go_sem] theorem jgz {v:AVal} {o:Bool}:q2f h true (some (v,o))=some ⟨v,o,none,h⟩:=rfl
def q1o (n:Nat) (r:Option (AVal × Bool × qm)):Option ORes:=match r with
 | some (v,o,h')=>some ⟨v,o,none,zq n v h'⟩
 | none=>none
@[go_sem] theorem jho {n:Nat} {v:AVal} {o:Bool}:q1o n (some (v,o,h))=some ⟨v,o,none,zq n v h⟩:=rfl
def qr1 (r:Option (AVal × qm)):Option ORes:=match r with
 | some (v,h')=>some ⟨v,false,none,h'⟩
 | none=>none
@[go_sem] theorem q9a {v:AVal}:qr1 (some (v,h))=some ⟨v,false,none,h⟩:=rfl
def qx3 (h0 r:Nat) (h:qm) (b:Bool) (m:Option (List (AVal × AVal))):Option ORes:=match b,m with
 | true,some es=>(match newBox h0 h r (.map es) with
  | some h'=>some ⟨.map (h0 + r),false,none,h'⟩
  | none=>none)
 | _,_=>none
def qmo (p:jm) (xc:XC) (h0:Nat) (h:qm) (md:CMode) (f:Option AVal) (l:Option (List AVal)):Option ORes:=match f,l with
 | some (.fn (.func k) a c),some vs=>(match md with
  | .iso=>q2f h (ju 0 (a++vs++c)) (qd p xc k (a++vs++c))
  | .frz r=>qx3 h0 r h (a++vs++c).isEmpty (p.maps k)
  | .shr=>q1o h.length (ja p xc k (a++vs++c) h))
 | some (.fn (.yield b) [] []),some vs=>(match md with
  | .shr=>qr1 (kz xc b vs h)
  | _=>none)
 | _,_=>none
@[go_sem] theorem jne {md:CMode} {f:qr} {l:List qr}:qc p xc h0 al e h (.call md f l)=qmo p xc h0 h md (qh e f) (yn e l):=by
 simp only [qc,yh,qmo]
 split
 ·rename_i k first captured vs h1 h2
  rw [h1,h2]
  cases md with
  | iso=>
   simp only []
   cases ju 0 (first++vs++captured) with
   | false=>cases qd p xc k (first++vs++captured) <;> rfl
   | true=>cases qd p xc k (first++vs++captured) <;> rfl
  | frz rk=>
   simp only []
   cases (first++vs++captured).isEmpty with
   | false=>cases p.maps k <;> rfl
   | true=>
    cases p.maps k with
    | none=>rfl
    | some es=>simp only [cond_true,qx3]; cases newBox h0 h rk (.map es) <;> rfl
  | shr=>simp only []; cases ja p xc k (first++vs++captured) h <;> rfl
 ·rename_i b vs h1 h2
  rw [h1,h2]
  cases md with
  | shr=>simp only []; cases kz xc b vs h <;> rfl
  | _=>rfl
 ·rename_i h1 h2
  split
  ·rename_i k a c vs g1 g2; exact absurd g2 (fun g2=>h1 k a c vs g1 g2)
  ·rename_i b vs g1 g2; exact absurd g2 (fun g2=>h2 b vs g1 g2)
  ·rfl
@[go_sem] theorem jhb {k:Nat} {a c vs:List AVal}:qmo p xc h0 h .iso (some (.fn (.func k) a c)) (some vs)=q2f h (ju 0 (a++vs++c)) (qd p xc k (a++vs++c)):=rfl
@[go_sem] theorem jih {k r:Nat} {a c vs:List AVal}:qmo p xc h0 h (.frz r) (some (.fn (.func k) a c)) (some vs)=qx3 h0 r h (a++vs++c).isEmpty (p.maps k):=rfl
@[go_sem] theorem jh2 {k:Nat} {a c vs:List AVal}:qmo p xc h0 h .shr (some (.fn (.func k) a c)) (some vs)=q1o h.length (ja p xc k (a++vs++c) h):=rfl
@[go_sem] theorem q9z {b:Nat} {vs:List AVal}:qmo p xc h0 h .shr (some (.fn (.yield b) [] [])) (some vs)=qr1 (kz xc b vs h):=rfl
def qyj (rs:List qaf) (r:Option (je × ASt)):Option (AVal × Bool × qm):=match r with
 | some (.normal,st)=>(match yg st rs with
   | some xs=>some ((jr xs).1,(jr xs).2,yk st rs)
   | none=>none)
 | some (.ret,st)=>(match yg st rs with
   | some xs=>some ((jr xs).1,(jr xs).2,yk st rs)
   | none=>none)
 | _=>none
def q08 (st:ASt) (rs:List qaf) (r:Option (List (AVal × Bool))):Option (AVal × Bool × qm):=match r with
 | some xs=>some ((jr xs).1,(jr xs).2,yk st rs)
 | none=>none
@[go_sem] theorem q9u {rs:List qaf} {st:ASt}:qyj rs (some (.normal,st))=q08 st rs (yg st rs):=rfl
@[go_sem] theorem jiv {rs:List qaf} {st:ASt}:qyj rs (some (.ret,st))=q08 st rs (yg st rs):=rfl
@[go_sem] theorem jij {st:ASt} {rs:List qaf} {xs:List (AVal × Bool)}:q08 st rs (some xs)=some ((jr xs).1,(jr xs).2,yk st rs):=rfl
theorem ql {k nt:Nat} {body:ACode} {rs:List qaf} {args:List AVal} (hf:p.fns k=some ⟨nt,body,rs⟩) (hl:args.length≤nt):ja p xc k args h=qyj rs (xc body ⟨qb9 0 args,h⟩):=by
 simp only [ja,hf,qam,Nat.ble_eq_true_of_le hl,cond_true,qyj]
 rfl
def qw0 (x:Option (AVal × Bool)) (l:Option (List (AVal × Bool))):Option (List (AVal × Bool)):=match x,l with
 | some v,some vs=>some (v::vs)
 | _,_=>none
@[go_sem] theorem jd7 {v:AVal × Bool} {vs:List (AVal × Bool)}:qw0 (some v) (some vs)=some (v::vs):=rfl
@[go_sem] theorem q5w {st:ASt}:yg st []=some []:=rfl
@[go_sem] theorem q5c {st:ASt} {r:qaf} {rs:List qaf}:yg st (r::rs)=qw0 (qbc st r) (yg st rs):=by
 simp only [yg,qw0]
 cases qbc st r with
 | none=>rfl
 | some v=>cases yg st rs <;> rfl
@[go_sem] theorem q7v {t:Nat}:qbc ⟨e,h⟩ (.tmp t)=ji t e:=rfl
@[go_sem] theorem jj5 {x:AVal × Bool}:jr [x]=x:=rfl
@[go_sem] theorem jiy {x y:AVal × Bool}:jr [x,y]=(.tup [x.1,y.1],false):=rfl
@[go_sem] theorem jcy {x y z:AVal × Bool}:jr [x,y,z]=(.tup [x.1,y.1,z.1],false):=rfl
@[go_sem] theorem jhp:jr []=(.tup [],false):=rfl
@[go_sem] theorem jh9 {st:ASt} {t:Nat}:yk st [.tmp t]=st.heap:=rfl
@[go_sem] theorem jgy {st:ASt} {x y:qaf} {l:List qaf}:yk st (x::y::l)=st.heap:=by
 cases x with
 | tmp t=>rfl
 | cell t a n=>cases a <;> rfl
@[go_sem] theorem jed {st:ASt}:yk st []=st.heap:=rfl
@[go_sem] theorem jgl {st:ASt} {t n:Nat}:yk st [.cell t true n]=st.heap:=rfl
@[go_sem] theorem jk3 {o:Bool}:qex true (some (.bool true,o))=some true:=rfl
@[go_sem] theorem jlm {o:Bool}:qex true (some (.bool false,o))=some false:=rfl
@[go_sem] theorem jj2 {o:Bool}:qex false (some (.bool true,o))=some false:=rfl
@[go_sem] theorem jl1 {o:Bool}:qex false (some (.bool false,o))=some true:=rfl
attribute [go_sem] cond_true cond_false decide_true decide_false Bool.not_true Bool.not_false List.append_nil List.nil_append List.length_cons List.length_nil
@[go_sem] theorem jn3:List.replicate 0 ABox.hole=[]:=rfl
end
section
variable {p:jm} {xc:XC} {h0:Nat} {al:Option (List Nat)} {e:Env} {h:qm} {α:Type}
def sl (z:Nat) (f:α→AVal):Option (List α)→AVal
 | none=>.list true 0 []
 | some l=>.list false z (l.map f)
@[go_sem] theorem jnh {z:Nat} {f:α→AVal} {l:Option (List α)}:qnn 1 h (some (sl z f l))=some ⟨.int .i64 (l.getD []).length,false,none,h⟩:=by
 cases l <;> simp [sl,qnn,val]
theorem q6e {z:Nat} {f:α→AVal} {l:Option (List α)} {k:IntKind} {i:Nat} {x:α} (hx:(l.getD [])[i]?=some x):qkl z h (some (sl z f l)) (some (.int k (i:Int)))=some ⟨.vptr (f x),false,none,h⟩:=by
 cases l with
 | none=>simp at hx
 | some l=>exact q19 (by rw [List.getElem?_map,show l[i]?=some x from hx]; rfl)
theorem qjl {n z:Nat} {f:α→AVal} {l:Option (List α)} (hf:∀ x,below n (f x)=true):below n (sl z f l)=true:=by
 have key:∀ l:List α,ju n (l.map f)=true:=by
  intro l
  induction l with
  | nil=>rfl
  | cons x l ih=>simp [ju,hf,ih]
 cases l with
 | none=>rfl
 | some l=>simp only [sl,below]; exact key l
theorem jmx {z:Nat} {f:α→AVal} (hf:∀ x y,f x=f y→x=y) {a b:Option (List α)} (hab:sl z f a=sl z f b):a=b:=by
 have key:∀ a b:List α,a.map f=b.map f→a=b:=by
  intro a
  induction a with
  | nil=>intro b hb; cases b <;> simp at hb <;> rfl
  | cons x a ih=>
   intro b hb
   cases b with
   | nil=>simp at hb
   | cons y b=>simp at hb; rw [hf _ _ hb.1,ih _ hb.2]
 cases a <;> cases b <;> simp [sl] at hab <;> first | rfl | rw [key _ _ hab]
def jo (n:Int):AVal:=.int .i64 n
@[go_sem] theorem jdv {i:Int}:qap h0 al false 1 h (some (.vptr (jo i)))=some ⟨.int .i64 i,false,none,h⟩:=rfl
end
end Go.Abs
