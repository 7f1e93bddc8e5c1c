/-
  The structs of chapter 4, the map of kinds, maps of texts to true.
-/
import Derived.Test.YtnjngdcbkkonnaaGreatDoorG0
import Derived.Test.YtnjngdcbkkonnaaGreatDoorAbsL
import Derived.Test.YtnjngdcbkkonnaaGreatDoorZM
set_option linter.unusedVariables false
set_option linter.unusedSimpArgs false
set_option maxRecDepth 100000
namespace Go.Z
open Go Go.Abs
structure GEl where
 kind:List UInt8
 a:Int
 b:Int
def vel (p:GEl):AVal:=.agg [.str p.kind,.int .i64 p.a,.int .i64 p.b]
@[go_sem] theorem jpb {p:GEl}:(vel p).flat=[.str p.kind,.int .i64 p.a,.int .i64 p.b]:=rfl
@[go_sem] theorem q3o {n:Nat} (p:GEl):below n (vel p)=true:=by rfl
@[go_sem] theorem q1u {n z:Nat} {l:Option (List GEl)}:below n (sl z vel l)=true:=qe0 q3o
@[go_sem] theorem jpq {p:GEl}:AVal.vptr (vel p)=.vptr (.agg [.str p.kind,.int .i64 p.a,.int .i64 p.b]):=rfl
theorem qay {b t:Nat} {h:ql} {bb:Bool} {p:GEl} {o v:Option (List GEl)} (hv:apO o [p]=some v):appR 3 b h (some t) (some (sl 3 vel o)) (some (.list bb 3 [.agg [.str p.kind,.int .i64 p.a,.int .i64 p.b]]))=ifR (decide (b≤4096)) (some ⟨sl 3 vel v,true,some t,h⟩):=qjp (x:=p) (by omega) rfl hv
theorem qfy {b:Nat} {h:ql} {bb:Bool} {p:GEl} {o v:Option (List GEl)} (hv:apO o [p]=some v) (hn:o.isNone=true):appR 3 b h none (some (sl 3 vel o)) (some (.list bb 3 [.agg [.str p.kind,.int .i64 p.a,.int .i64 p.b]]))=ifR (decide (b≤4096)) (some ⟨sl 3 vel v,true,none,h⟩):=qeu (x:=p) (by omega) rfl hn hv
structure qi where
 name:List UInt8
 kd:List UInt8
 pa:Int
 pb:Int
 sa:Int
 sb:Int
 cost:Int
 stock:Int
def qn (p:qi):AVal:=.agg [.str p.name,.str p.kd,.int .i64 p.pa,.int .i64 p.pb,.int .i64 p.sa,.int .i64 p.sb,.int .i64 p.cost,.int .i64 p.stock]
@[go_sem] theorem jlc {p:qi}:(qn p).flat=[.str p.name,.str p.kd,.int .i64 p.pa,.int .i64 p.pb,.int .i64 p.sa,.int .i64 p.sb,.int .i64 p.cost,.int .i64 p.stock]:=rfl
@[go_sem] theorem qxr {n:Nat} (p:qi):below n (qn p)=true:=by rfl
@[go_sem] theorem jch {n z:Nat} {l:Option (List qi)}:below n (sl z qn l)=true:=qe0 qxr
@[go_sem] theorem jib {p:qi}:AVal.vptr (qn p)=.vptr (.agg [.str p.name,.str p.kd,.int .i64 p.pa,.int .i64 p.pb,.int .i64 p.sa,.int .i64 p.sb,.int .i64 p.cost,.int .i64 p.stock]):=rfl
theorem qye {b t:Nat} {h:ql} {bb:Bool} {p:qi} {o v:Option (List qi)} (hv:apO o [p]=some v):appR 8 b h (some t) (some (sl 8 qn o)) (some (.list bb 8 [.agg [.str p.name,.str p.kd,.int .i64 p.pa,.int .i64 p.pb,.int .i64 p.sa,.int .i64 p.sb,.int .i64 p.cost,.int .i64 p.stock]]))=ifR (decide (b≤4096)) (some ⟨sl 8 qn v,true,some t,h⟩):=qjp (x:=p) (by omega) rfl hv
theorem qyg {b:Nat} {h:ql} {bb:Bool} {p:qi} {o v:Option (List qi)} (hv:apO o [p]=some v) (hn:o.isNone=true):appR 8 b h none (some (sl 8 qn o)) (some (.list bb 8 [.agg [.str p.name,.str p.kd,.int .i64 p.pa,.int .i64 p.pb,.int .i64 p.sa,.int .i64 p.sb,.int .i64 p.cost,.int .i64 p.stock]]))=ifR (decide (b≤4096)) (some ⟨sl 8 qn v,true,none,h⟩):=qeu (x:=p) (by omega) rfl hn hv
structure ja where
 w:Int
 ln:Int
 ld:Int
 mn:Int
 md:Int
def jd (p:ja):AVal:=.agg [.int .i64 p.w,.int .i64 p.ln,.int .i64 p.ld,.int .i64 p.mn,.int .i64 p.md]
@[go_sem] theorem jky {p:ja}:(jd p).flat=[.int .i64 p.w,.int .i64 p.ln,.int .i64 p.ld,.int .i64 p.mn,.int .i64 p.md]:=rfl
@[go_sem] theorem qxn {n:Nat} (p:ja):below n (jd p)=true:=by rfl
@[go_sem] theorem jby {n z:Nat} {l:Option (List ja)}:below n (sl z jd l)=true:=qe0 qxn
@[go_sem] theorem jjl {p:ja}:AVal.vptr (jd p)=.vptr (.agg [.int .i64 p.w,.int .i64 p.ln,.int .i64 p.ld,.int .i64 p.mn,.int .i64 p.md]):=rfl
theorem qxy {b t:Nat} {h:ql} {bb:Bool} {p:ja} {o v:Option (List ja)} (hv:apO o [p]=some v):appR 5 b h (some t) (some (sl 5 jd o)) (some (.list bb 5 [.agg [.int .i64 p.w,.int .i64 p.ln,.int .i64 p.ld,.int .i64 p.mn,.int .i64 p.md]]))=ifR (decide (b≤4096)) (some ⟨sl 5 jd v,true,some t,h⟩):=qjp (x:=p) (by omega) rfl hv
theorem qxp {b:Nat} {h:ql} {bb:Bool} {p:ja} {o v:Option (List ja)} (hv:apO o [p]=some v) (hn:o.isNone=true):appR 5 b h none (some (sl 5 jd o)) (some (.list bb 5 [.agg [.int .i64 p.w,.int .i64 p.ln,.int .i64 p.ld,.int .i64 p.mn,.int .i64 p.md]]))=ifR (decide (b≤4096)) (some ⟨sl 5 jd v,true,none,h⟩):=qeu (x:=p) (by omega) rfl hn hv
structure qc8 where
 a:Int
 b:Int
 c:Int
 d:Int
def qz7 (p:qc8):AVal:=.agg [.int .i64 p.a,.int .i64 p.b,.int .i64 p.c,.int .i64 p.d]
@[go_sem] theorem jiv {p:qc8}:(qz7 p).flat=[.int .i64 p.a,.int .i64 p.b,.int .i64 p.c,.int .i64 p.d]:=rfl
@[go_sem] theorem je6 {n:Nat} (p:qc8):below n (qz7 p)=true:=by rfl
@[go_sem] theorem jmi {p:qc8}:AVal.vptr (qz7 p)=.vptr (.agg [.int .i64 p.a,.int .i64 p.b,.int .i64 p.c,.int .i64 p.d]):=rfl
structure zk where
 m0:Int
 m1:Int
 m2:Int
 m3:Int
 m4:Int
 m5:Int
 m6:Int
 m7:Int
def q47 (p:zk):AVal:=.agg [.int .i64 p.m0,.int .i64 p.m1,.int .i64 p.m2,.int .i64 p.m3,.int .i64 p.m4,.int .i64 p.m5,.int .i64 p.m6,.int .i64 p.m7]
@[go_sem] theorem jms {p:zk}:(q47 p).flat=[.int .i64 p.m0,.int .i64 p.m1,.int .i64 p.m2,.int .i64 p.m3,.int .i64 p.m4,.int .i64 p.m5,.int .i64 p.m6,.int .i64 p.m7]:=rfl
@[go_sem] theorem jiu {n:Nat} (p:zk):below n (q47 p)=true:=by rfl
@[go_sem] theorem jnb {p:zk}:AVal.vptr (q47 p)=.vptr (.agg [.int .i64 p.m0,.int .i64 p.m1,.int .i64 p.m2,.int .i64 p.m3,.int .i64 p.m4,.int .i64 p.m5,.int .i64 p.m6,.int .i64 p.m7]):=rfl
structure jx where
 band:Int
 ladder:Option (List GEl)
def q28 (p:jx):AVal:=.agg [.int .i64 p.band,sl 3 vel p.ladder]
@[go_sem] theorem je3 {p:jx}:(q28 p).flat=[.int .i64 p.band,sl 3 vel p.ladder]:=rfl
@[go_sem] theorem jfi {p:jx}:AVal.vptr (q28 p)=.vptr (.agg [.int .i64 p.band,sl 3 vel p.ladder]):=rfl
structure q1h where
 choice:Option (List Int)
 rband:Int
 rladder:Option (List GEl)
def q7o (p:q1h):AVal:=.agg [sl 1 qu p.choice,.int .i64 p.rband,sl 3 vel p.rladder]
@[go_sem] theorem jkc {p:q1h}:(q7o p).flat=[sl 1 qu p.choice,.int .i64 p.rband,sl 3 vel p.rladder]:=rfl
@[go_sem] theorem jhw {p:q1h}:AVal.vptr (q7o p)=.vptr (.agg [sl 1 qu p.choice,.int .i64 p.rband,sl 3 vel p.rladder]):=rfl
structure qbr where
 parts:Option (List qi)
 choice:Option (List Int)
 bands:Option (List ja)
def q7n (p:qbr):AVal:=.agg [sl 8 qn p.parts,sl 1 qu p.choice,sl 5 jd p.bands]
@[go_sem] theorem jkx {p:qbr}:(q7n p).flat=[sl 8 qn p.parts,sl 1 qu p.choice,sl 5 jd p.bands]:=rfl
@[go_sem] theorem jjh {p:qbr}:AVal.vptr (q7n p)=.vptr (.agg [sl 8 qn p.parts,sl 1 qu p.choice,sl 5 jd p.bands]):=rfl
structure q02 where
 parts:Option (List qi)
 bands:Option (List ja)
 n:Int
def q7g (p:q02):AVal:=.agg [sl 8 qn p.parts,sl 5 jd p.bands,.int .i64 p.n]
@[go_sem] theorem jju {p:q02}:(q7g p).flat=[sl 8 qn p.parts,sl 5 jd p.bands,.int .i64 p.n]:=rfl
@[go_sem] theorem jj1 {p:q02}:AVal.vptr (q7g p)=.vptr (.agg [sl 8 qn p.parts,sl 5 jd p.bands,.int .i64 p.n]):=rfl
structure q0j where
 x:Option (List GEl)
 y:Option (List GEl)
 lo:Int
 hi:Int
def q7m (p:q0j):AVal:=.agg [sl 3 vel p.x,sl 3 vel p.y,.int .i64 p.lo,.int .i64 p.hi]
@[go_sem] theorem jks {p:q0j}:(q7m p).flat=[sl 3 vel p.x,sl 3 vel p.y,.int .i64 p.lo,.int .i64 p.hi]:=rfl
@[go_sem] theorem jjk {p:q0j}:AVal.vptr (q7m p)=.vptr (.agg [sl 3 vel p.x,sl 3 vel p.y,.int .i64 p.lo,.int .i64 p.hi]):=rfl
@[go_sem] theorem jun {h:ql} {a0 b0:List UInt8} {a1 b1:Int} {a2 b2:Int}:qvs [.str,.int,.int] false h (some (.agg [.str a0,.int .i64 a1,.int .i64 a2])) (some (.agg [.str b0,.int .i64 b1,.int .i64 b2]))=some ⟨.bool (decide (a0=b0) && decide (a1=b1) && decide (a2=b2)),false,none,h⟩:=by
 show (match zy [.str,.int,.int] [.str a0,.int .i64 a1,.int .i64 a2] [.str b0,.int .i64 b1,.int .i64 b2] with | some t=>val h (.bool (bif false then !t else t)) | none=>none)=_
 have:zy [.str,.int,.int] [.str a0,.int .i64 a1,.int .i64 a2] [.str b0,.int .i64 b1,.int .i64 b2]=some (decide (a0=b0) && decide (a1=b1) && decide (a2=b2)):=by
  have e:∀ x y:Int,(x == y)=decide (x=y):=fun x y=>by by_cases h:x=y <;> simp [h]
  have e':∀ x y:List UInt8,(x == y)=decide (x=y):=fun x y=>by by_cases h:x=y <;> simp [h]
  simp only [zy,ky,e,e',decide_true,cond_true]
  by_cases h0:a0=b0 <;> by_cases h1:a1=b1 <;> by_cases h2:a2=b2 <;> simp [h0,h1,h2]
 rw [this]
 rfl
@[go_sem] theorem jui {h:ql} {a0 b0:List UInt8} {a1 b1:Int} {a2 b2:Int}:qvs [.str,.int,.int] true h (some (.agg [.str a0,.int .i64 a1,.int .i64 a2])) (some (.agg [.str b0,.int .i64 b1,.int .i64 b2]))=some ⟨.bool (!(decide (a0=b0) && decide (a1=b1) && decide (a2=b2))),false,none,h⟩:=by
 show (match zy [.str,.int,.int] [.str a0,.int .i64 a1,.int .i64 a2] [.str b0,.int .i64 b1,.int .i64 b2] with | some t=>val h (.bool (bif true then !t else t)) | none=>none)=_
 have:zy [.str,.int,.int] [.str a0,.int .i64 a1,.int .i64 a2] [.str b0,.int .i64 b1,.int .i64 b2]=some (decide (a0=b0) && decide (a1=b1) && decide (a2=b2)):=by
  have e:∀ x y:Int,(x == y)=decide (x=y):=fun x y=>by by_cases h:x=y <;> simp [h]
  have e':∀ x y:List UInt8,(x == y)=decide (x=y):=fun x y=>by by_cases h:x=y <;> simp [h]
  simp only [zy,ky,e,e',decide_true,cond_true]
  by_cases h0:a0=b0 <;> by_cases h1:a1=b1 <;> by_cases h2:a2=b2 <;> simp [h0,h1,h2]
 rw [this]
 rfl
theorem qrn {s:List UInt8} (h0:decide (s=([98,108,111,99,107]:List UInt8))=true):j5 .str (.str s) zf 0=some (some (0,.agg [.str ([116,114,97,112]:List UInt8),.bool true,.fn (.func 218) [] []])):=by
 have e0:(s == ([98,108,111,99,107]:List UInt8))=true:=by simpa using h0
 simp only [zf,j5,ky,e0]
theorem q00 {s:List UInt8} (h0:decide (s=([98,108,111,99,107]:List UInt8))=false) (h1:decide (s=([115,101,114,105,101,115]:List UInt8))=true):j5 .str (.str s) zf 0=some (some (1,.agg [.str ([115,104,117,110,116]:List UInt8),.bool false,.fn (.func 219) [] []])):=by
 have e0:(s == ([98,108,111,99,107]:List UInt8))=false:=by simpa using h0
 have e1:(s == ([115,101,114,105,101,115]:List UInt8))=true:=by simpa using h1
 simp only [zf,j5,ky,e0,e1]
theorem q1q {s:List UInt8} (h0:decide (s=([98,108,111,99,107]:List UInt8))=false) (h1:decide (s=([115,101,114,105,101,115]:List UInt8))=false) (h2:decide (s=([115,104,117,110,116]:List UInt8))=true):j5 .str (.str s) zf 0=some (some (2,.agg [.str ([115,101,114,105,101,115]:List UInt8),.bool false,.fn (.func 220) [] []])):=by
 have e0:(s == ([98,108,111,99,107]:List UInt8))=false:=by simpa using h0
 have e1:(s == ([115,101,114,105,101,115]:List UInt8))=false:=by simpa using h1
 have e2:(s == ([115,104,117,110,116]:List UInt8))=true:=by simpa using h2
 simp only [zf,j5,ky,e0,e1,e2]
theorem qp3 {s:List UInt8} (h0:decide (s=([98,108,111,99,107]:List UInt8))=false) (h1:decide (s=([115,101,114,105,101,115]:List UInt8))=false) (h2:decide (s=([115,104,117,110,116]:List UInt8))=false) (h3:decide (s=([116,114,97,112]:List UInt8))=true):j5 .str (.str s) zf 0=some (some (3,.agg [.str ([98,108,111,99,107]:List UInt8),.bool true,.fn (.func 221) [] []])):=by
 have e0:(s == ([98,108,111,99,107]:List UInt8))=false:=by simpa using h0
 have e1:(s == ([115,101,114,105,101,115]:List UInt8))=false:=by simpa using h1
 have e2:(s == ([115,104,117,110,116]:List UInt8))=false:=by simpa using h2
 have e3:(s == ([116,114,97,112]:List UInt8))=true:=by simpa using h3
 simp only [zf,j5,ky,e0,e1,e2,e3]
theorem q7s {s:List UInt8} (h0:decide (s=([98,108,111,99,107]:List UInt8))=false) (h1:decide (s=([115,101,114,105,101,115]:List UInt8))=false) (h2:decide (s=([115,104,117,110,116]:List UInt8))=false) (h3:decide (s=([116,114,97,112]:List UInt8))=false):j5 .str (.str s) zf 0=some (none):=by
 have e0:(s == ([98,108,111,99,107]:List UInt8))=false:=by simpa using h0
 have e1:(s == ([115,101,114,105,101,115]:List UInt8))=false:=by simpa using h1
 have e2:(s == ([115,104,117,110,116]:List UInt8))=false:=by simpa using h2
 have e3:(s == ([116,114,97,112]:List UInt8))=false:=by simpa using h3
 simp only [zf,j5,ky,e0,e1,e2,e3]
@[go_sem] theorem jar {n:Nat}:y9 n (.map zf)=true:=rfl
@[go_sem] theorem jtu:pr.maps 193=some zf:=rfl
def qnv (h:ql) (zero:AVal) (r:Option (Option (Nat × AVal))):Option ORes:=match r with
 | some (some (_,v))=>some ⟨.tup [v,.bool true],false,none,h⟩
 | some none=>some ⟨.tup [zero,.bool false],false,none,h⟩
 | none=>none
@[go_sem] theorem jfg {h:ql} {z v:AVal} {i:Nat}:qnv h z (some (some (i,v)))=some ⟨.tup [v,.bool true],false,none,h⟩:=rfl
@[go_sem] theorem jfa {h:ql} {z:AVal}:qnv h z (some none)=some ⟨.tup [z,.bool false],false,none,h⟩:=rfl
def qra (h:ql) (kd:Kd) (z kv:AVal) (x:Option ABox):Option ORes:=match x with
 | some (.map es)=>qnv h z (j5 kd kv es 0)
 | _=>none
@[go_sem] theorem jg8 {h:ql} {kd:Kd} {z kv:AVal} {es:List (AVal × AVal)}:qra h kd z kv (some (.map es))=qnv h z (j5 kd kv es 0):=rfl
def qpx (h0:Nat) (al:Option (List Nat)) (h:ql) (kd:Kd) (z:AVal) (m k:Option AVal):Option ORes:=match m,k with
 | some (.map b),some kv=>ifR (j9 h0 al b) (qra h kd z kv h[b]?)
 | some .nilmap,some _=>some ⟨.tup [z,.bool false],false,none,h⟩
 | _,_=>none
@[go_sem] theorem jef {h0:Nat} {al:Option (List Nat)} {h:ql} {kd:Kd} {z kv:AVal} {b:Nat}:qpx h0 al h kd z (some (.map b)) (some kv)=ifR (j9 h0 al b) (qra h kd z kv h[b]?):=rfl
@[go_sem] theorem jn8 {p:js} {xc:XC} {h0:Nat} {al:Option (List Nat)} {e:Env} {h:ql} {kd:Kd} {z:AVal} {m k:qx}:qh p xc h0 al e h (.lookup kd z true m k)=qpx h0 al h kd z (qk e m) (qk e k):=by
 simp only [qh,yk,qpx]
 cases qk e m with
 | none=>cases qk e k <;> rfl
 | some v=>cases qk e k with
  | none=>cases v <;> rfl
  | some kv=>cases v with
   | map b=>
    simp only [ifR,yf,qra,qnv]
    cases j9 h0 al b with
    | false=>rfl
    | true=>
     simp only [cond_true]
     cases h[b]? with
     | none=>rfl
     | some x=>cases x with
      | map es=>
       simp only []
       cases j5 kd kv es 0 with
       | none=>rfl
       | some r=>cases r <;> rfl
      | _=>rfl
   | _=>rfl
def qhk (l:List (List UInt8)) (s:List UInt8):Bool:=decide (s∈l)
def qp2 (l:List (List UInt8)) (s:List UInt8):Option (List (List UInt8)):=if qhk l s then some l else if l.length≤1073741824 then some (l++[s]) else none
theorem q7f {h:ql} {l:List (List UInt8)} {s:List UInt8}:qrr h .str (.bool false) (.str s) (some (.map (kg l)))=some ⟨.bool (qhk l s),false,none,h⟩:=by
 rw [q3y,qpp]
 unfold qhk
 by_cases hm:s∈l <;> simp [hm,q1b,q0m]
theorem q59 {h:ql} {b:Nat} {l v:List (List UInt8)} {s:List UInt8} (hv:qp2 l s=some v) (hn:qhk l s=false):qsm h b .str (.str s) (.bool true) (some (.map (kg l)))=qai (j0 h b (.map (kg v))) .undef:=by
 unfold qp2 at hv
 rw [hn] at hv
 simp only [Bool.false_eq_true,if_false] at hv
 split at hv
 ·rename_i hl
  cases hv
  have hm:¬ s∈l:=by simpa [qhk] using hn
  rw [qwn,qpp,if_neg hm,q4d,q22,Nat.ble_eq_true_of_le hl,q0p]
  rfl
 ·cases hv
theorem qkd:∀ (l:List (List UInt8)) (i:Nat) (k:List UInt8),l[i]?=some k→qan (kg l) i (.bool true)=kg l
 | [],i,k,h=>by simp at h
 | x::l,0,k,h=>rfl
 | x::l,i + 1,k,h=>by
  have:=qkd l i k (by simpa using h)
  show (AVal.str x,AVal.bool true)::qan (kg l) i (.bool true)=_
  rw [this]; rfl
theorem jba {h:ql} {b:Nat} {l v:List (List UInt8)} {s:List UInt8} (hv:qp2 l s=some v):qsm h b .str (.str s) (.bool true) (some (.map (kg l)))=qai (j0 h b (.map (kg v))) .undef:=by
 cases hn:qhk l s with
 | false=>exact q59 hv hn
 | true=>
  unfold qp2 at hv
  rw [hn] at hv
  simp only [if_true,Option.some.injEq] at hv
  subst hv
  have hm:s∈l:=by simpa [qhk] using hn
  rw [qwn,qpp,if_pos hm]
  have hi:l[l.idxOf s]?=some s:=by
   rw [List.getElem?_eq_getElem (List.idxOf_lt_length_of_mem hm),List.getElem_idxOf]
  show qai (j0 h b (.map (qan (kg l) (l.idxOf s) (.bool true)))) .undef=_
  rw [qkd l _ s hi]
@[go_sem] theorem qx5 {n:Nat}:∀ {l:List (List UInt8)},y9 n (.map (kg l))=true
 | []=>rfl
 | x::l=>by
  have:=qx5 (n:=n) (l:=l)
  simp only [y9] at this ⊢
  show (below n (.str x) && below n (.bool true) && qaf n (kg l))=true
  rw [this]; rfl
theorem q2d {p:js} {xc:XC} {h0:Nat} {al:Option (List Nat)} {e:Env} {h:ql} {r:Nat}:qh p xc h0 al e h (.mkmap r)=qai (newBox h0 h r (.map (kg []))) (.map (h0 + r)):=q81
theorem qp {p:js} {xc:XC} {k:Nat} {args:List AVal} {v:AVal} (hp:p.prims k=none) (hc:∃ hh,jl p xc k args []=some (v,false,hh)) (hz:∀ hh,freezeR hh v=some v) (hv:below 0 v=true):qc p xc k args=some (v,false):=by
 obtain ⟨hh,hc⟩:=hc
 exact qc9 hp hc (hz hh) hv
end Go.Z
/-
 Chapter 4: parts and catalogues: functions that mirror the runs,and the runs (printed by walk.py).
-/
set_option maxHeartbeats 4000000
namespace Go.Z
open Go Go.Abs
noncomputable def f106 (a0:Bool) (a1:Int):Option Int:=
 cond a0
  (some a1)
  (some 0)
theorem qb8 {a0:Bool} {a1:Int} {r} (h:f106 a0 a1=some r):qc pr (X pr) 106 [.bool a0,.int .i64 a1]=some (.int .i64 r,false):=by
 unfold f106 at h
 rcases qb h with ⟨h1,h⟩ | ⟨h1,h⟩
 ·have hr:a1=r:=Option.some.inj h
  subst hr
  refine qp rfl ?_ (fun _=>by first | rfl | simp only [go_sem,seval]) (by first | rfl | simp only [go_sem,seval])
  rw [qf (show pr.fns 106=some c106 from rfl) (by simp)]
  simp only [go_sem,seval,c106,h1]
  exact ⟨_,rfl⟩
 ·have hr:0=r:=Option.some.inj h
  subst hr
  refine qp rfl ?_ (fun _=>by first | rfl | simp only [go_sem,seval]) (by first | rfl | simp only [go_sem,seval])
  rw [qf (show pr.fns 106=some c106 from rfl) (by simp)]
  simp only [go_sem,seval,c106,h1]
  exact ⟨_,rfl⟩
noncomputable def qh4 (a0:Option (List Int)) (s0:Int):Option (Int ⊕ (Int ⊕ Int)):=
 cond (decide (s0 < ((a0.getD []).length:Int)))
  (qd (j7 (a0.getD []) s0) fun v10=>
  cond (decide (v10=0))
   (some (.inl (qg .i64 (s0 + 1))))
   (some (.inr (.inl v10))))
  (some (.inr (.inr s0)))
def qkw (a0:Option (List Int)) (s0:Int):ASt:=⟨[(5,sl 1 qu a0,false),(6,.int .i64 ((a0.getD []).length:Int),false),(7,.int .i64 s0,false)],[]⟩
def qn0 (a0:Option (List Int)):Int ⊕ Int→jg × ASt
 | .inl d=>(.ret,⟨[(2,.int .i64 d,false)],[]⟩)
 | .inr d=>(.exit 0,⟨[(5,sl 1 qu a0,false),(6,.int .i64 ((a0.getD []).length:Int),false),(7,.int .i64 d,false),(8,.bool false,false)],[]⟩)
theorem jcb (a0:Option (List Int)) (s0:Int) (r) (h:qh4 a0 s0=some r):zd pr qf8 (qkw a0) (qn0 a0) s0 r:=by
 unfold qh4 at h
 rcases qb h with ⟨h9,h⟩ | ⟨h9,h⟩
 ·obtain ⟨v10,h11,h⟩:=qa h
  rcases qb h with ⟨h12,h⟩ | ⟨h12,h⟩
  ·cases h
   exact qo (st':=⟨[(5,sl 1 qu a0,false),(6,.int .i64 ((a0.getD []).length:Int),false),(7,.int .i64 (qg .i64 (s0 + 1)),false)],[]⟩) (by simp only [go_sem,seval,qf8,qkw,h9,qw h11,h12] <;> rfl) (jc (Nat.le_refl _))
  ·cases h
   exact qj (by simp only [go_sem,seval,qf8,qkw,h9,qw h11,h12,qn0] <;> rfl)
 ·cases h
  exact qj (by simp only [go_sem,seval,qf8,qkw,h9,qn0] <;> rfl)
theorem q2e (a0:Option (List Int)) {s0:Int} {d} (h:itO (qh4 a0) s0=some d):X pr (.loop qf8) (qkw a0 s0)=some (qn0 a0 d):=zi (jcb a0) (fun d=>by rcases d with d|d <;> (intro hh; cases hh)) h
noncomputable def f105 (a0:Option (List Int)):Option Int:=
 qd (itO (qh4 a0) 0) fun d13=>match d13 with
  | .inl d15=>
   some d15
  | .inr d16=>
   some 0
theorem qhm {a0:Option (List Int)} {r} (h:f105 a0=some r):qc pr (X pr) 105 [sl 1 qu a0]=some (.int .i64 r,false):=by
 unfold f105 at h
 obtain ⟨d13,h14,h⟩:=qa h
 rcases d13 with d15 | d16
 ·have wh14:X pr (.loop qf8) ⟨[(5,sl 1 qu a0,false),(6,.int .i64 ((a0.getD []).length:Int),false),(7,.int .i64 0,false)],[]⟩=some (.ret,⟨[(2,.int .i64 d15,false)],[]⟩):=q2e a0 h14
  have hr:d15=r:=Option.some.inj h
  subst hr
  refine qp rfl ?_ (fun _=>by first | rfl | simp only [go_sem,seval]) (by first | rfl | simp only [go_sem,seval])
  rw [qf (show pr.fns 105=some c105 from rfl) (by simp)]
  simp only [go_sem,seval,c105,wh14]
  exact ⟨_,rfl⟩
 ·have wh14:X pr (.loop qf8) ⟨[(5,sl 1 qu a0,false),(6,.int .i64 ((a0.getD []).length:Int),false),(7,.int .i64 0,false)],[]⟩=some (.exit 0,⟨[(5,sl 1 qu a0,false),(6,.int .i64 ((a0.getD []).length:Int),false),(7,.int .i64 d16,false),(8,.bool false,false)],[]⟩):=q2e a0 h14
  have hr:0=r:=Option.some.inj h
  subst hr
  refine qp rfl ?_ (fun _=>by first | rfl | simp only [go_sem,seval]) (by first | rfl | simp only [go_sem,seval])
  rw [qf (show pr.fns 105=some c105 from rfl) (by simp)]
  simp only [go_sem,seval,c105,wh14]
  exact ⟨_,rfl⟩
noncomputable def f109 (a0:Int) (a1:Int) (a2:Int):Option Int:=
 cond (decide (a0 < a1))
  (qd (f106 true 3) fun v2=>
  some v2)
  (qd (f106 (decide (a2 < a0)) 3) fun v4=>
  some v4)
theorem qpj {a0:Int} {a1:Int} {a2:Int} {r} (h:f109 a0 a1 a2=some r):qc pr (X pr) 109 [.int .i64 a0,.int .i64 a1,.int .i64 a2]=some (.int .i64 r,false):=by
 unfold f109 at h
 rcases qb h with ⟨h1,h⟩ | ⟨h1,h⟩
 ·obtain ⟨v2,h3,h⟩:=qa h
  have hr:v2=r:=Option.some.inj h
  subst hr
  refine qp rfl ?_ (fun _=>by first | rfl | simp only [go_sem,seval]) (by first | rfl | simp only [go_sem,seval])
  rw [qf (show pr.fns 109=some c109 from rfl) (by simp)]
  simp only [go_sem,seval,c109,h1,qb8 h3]
  exact ⟨_,rfl⟩
 ·obtain ⟨v4,h5,h⟩:=qa h
  have wh5:qc pr (X pr) 106 [.bool (decide (a2 < a0)),.int .i64 3]=some (.int .i64 v4,false):=qb8 h5
  have hr:v4=r:=Option.some.inj h
  subst hr
  refine qp rfl ?_ (fun _=>by first | rfl | simp only [go_sem,seval]) (by first | rfl | simp only [go_sem,seval])
  rw [qf (show pr.fns 109=some c109 from rfl) (by simp)]
  simp only [go_sem,seval,c109,h1,wh5]
  exact ⟨_,rfl⟩
noncomputable def qd0 (a0:List UInt8):Option (Option (Nat) ⊕ (Nat ⊕ Nat)):=
 cond (decide (0 < a0.length))
  (cond (decide (65≤((qm a0 0).1:Int)))
   (cond (decide (((qm a0 0).1:Int)≤90))
    (cond (decide (48≤((qm a0 0).1:Int)))
     (cond (decide (((qm a0 0).1:Int)≤57))
      (some (.inl (some (0 + (qm a0 0).2))))
      (some (.inl (some (0 + (qm a0 0).2)))))
     (some (.inl (some (0 + (qm a0 0).2)))))
    (cond (decide (97≤((qm a0 0).1:Int)))
     (cond (decide (48≤((qm a0 0).1:Int)))
      (cond (decide (((qm a0 0).1:Int)≤57))
       (cond (decide (((qm a0 0).1:Int)≤122))
        (some (.inl (some (0 + (qm a0 0).2))))
        (some (.inr (.inl (0 + (qm a0 0).2)))))
       (cond (decide (((qm a0 0).1:Int)≤122))
        (some (.inl (some (0 + (qm a0 0).2))))
        (some (.inr (.inl (0 + (qm a0 0).2))))))
      (cond (decide (((qm a0 0).1:Int)≤122))
       (some (.inl (some (0 + (qm a0 0).2))))
       (some (.inr (.inl (0 + (qm a0 0).2))))))
     (cond (decide (48≤((qm a0 0).1:Int)))
      (cond (decide (((qm a0 0).1:Int)≤57))
       (some (.inr (.inl (0 + (qm a0 0).2))))
       (some (.inr (.inl (0 + (qm a0 0).2)))))
      (some (.inr (.inl (0 + (qm a0 0).2)))))))
   (cond (decide (97≤((qm a0 0).1:Int)))
    (cond (decide (48≤((qm a0 0).1:Int)))
     (cond (decide (((qm a0 0).1:Int)≤57))
      (cond (decide (((qm a0 0).1:Int)≤122))
       (some (.inl (some (0 + (qm a0 0).2))))
       (some (.inr (.inl (0 + (qm a0 0).2)))))
      (cond (decide (((qm a0 0).1:Int)≤122))
       (some (.inl (some (0 + (qm a0 0).2))))
       (some (.inr (.inl (0 + (qm a0 0).2))))))
     (cond (decide (((qm a0 0).1:Int)≤122))
      (some (.inl (some (0 + (qm a0 0).2))))
      (some (.inr (.inl (0 + (qm a0 0).2))))))
    (cond (decide (48≤((qm a0 0).1:Int)))
     (cond (decide (((qm a0 0).1:Int)≤57))
      (some (.inr (.inl (0 + (qm a0 0).2))))
      (some (.inr (.inl (0 + (qm a0 0).2)))))
     (some (.inr (.inl (0 + (qm a0 0).2)))))))
  (some (.inr (.inr 0)))
noncomputable def qdy (a0:List UInt8) (s0:Nat):Option (Option (Nat) ⊕ (Nat ⊕ Nat)):=
 cond (decide (s0 < a0.length))
  (cond (decide (65≤((qm a0 s0).1:Int)))
   (cond (decide (((qm a0 s0).1:Int)≤90))
    (cond (decide (48≤((qm a0 s0).1:Int)))
     (cond (decide (((qm a0 s0).1:Int)≤57))
      (some (.inl (some (s0 + (qm a0 s0).2))))
      (some (.inl (some (s0 + (qm a0 s0).2)))))
     (some (.inl (some (s0 + (qm a0 s0).2)))))
    (cond (decide (97≤((qm a0 s0).1:Int)))
     (cond (decide (48≤((qm a0 s0).1:Int)))
      (cond (decide (((qm a0 s0).1:Int)≤57))
       (cond (decide (((qm a0 s0).1:Int)≤122))
        (some (.inl (some (s0 + (qm a0 s0).2))))
        (cond (decide ((s0:Int)=0))
         (some (.inr (.inl (s0 + (qm a0 s0).2))))
         (some (.inl (some (s0 + (qm a0 s0).2))))))
       (cond (decide (((qm a0 s0).1:Int)≤122))
        (some (.inl (some (s0 + (qm a0 s0).2))))
        (cond (decide ((s0:Int)=0))
         (some (.inr (.inl (s0 + (qm a0 s0).2))))
         (cond (decide (((qm a0 s0).1:Int)=95))
          (some (.inl (some (s0 + (qm a0 s0).2))))
          (some (.inr (.inl (s0 + (qm a0 s0).2))))))))
      (cond (decide (((qm a0 s0).1:Int)≤122))
       (some (.inl (some (s0 + (qm a0 s0).2))))
       (cond (decide ((s0:Int)=0))
        (some (.inr (.inl (s0 + (qm a0 s0).2))))
        (cond (decide (((qm a0 s0).1:Int)=95))
         (some (.inl (some (s0 + (qm a0 s0).2))))
         (some (.inr (.inl (s0 + (qm a0 s0).2))))))))
     (cond (decide (48≤((qm a0 s0).1:Int)))
      (cond (decide (((qm a0 s0).1:Int)≤57))
       (cond (decide ((s0:Int)=0))
        (some (.inr (.inl (s0 + (qm a0 s0).2))))
        (some (.inl (some (s0 + (qm a0 s0).2)))))
       (cond (decide ((s0:Int)=0))
        (some (.inr (.inl (s0 + (qm a0 s0).2))))
        (cond (decide (((qm a0 s0).1:Int)=95))
         (some (.inl (some (s0 + (qm a0 s0).2))))
         (some (.inr (.inl (s0 + (qm a0 s0).2)))))))
      (cond (decide ((s0:Int)=0))
       (some (.inr (.inl (s0 + (qm a0 s0).2))))
       (cond (decide (((qm a0 s0).1:Int)=95))
        (some (.inl (some (s0 + (qm a0 s0).2))))
        (some (.inr (.inl (s0 + (qm a0 s0).2)))))))))
   (cond (decide (97≤((qm a0 s0).1:Int)))
    (cond (decide (48≤((qm a0 s0).1:Int)))
     (cond (decide (((qm a0 s0).1:Int)≤57))
      (cond (decide (((qm a0 s0).1:Int)≤122))
       (some (.inl (some (s0 + (qm a0 s0).2))))
       (cond (decide ((s0:Int)=0))
        (some (.inr (.inl (s0 + (qm a0 s0).2))))
        (some (.inl (some (s0 + (qm a0 s0).2))))))
      (cond (decide (((qm a0 s0).1:Int)≤122))
       (some (.inl (some (s0 + (qm a0 s0).2))))
       (cond (decide ((s0:Int)=0))
        (some (.inr (.inl (s0 + (qm a0 s0).2))))
        (cond (decide (((qm a0 s0).1:Int)=95))
         (some (.inl (some (s0 + (qm a0 s0).2))))
         (some (.inr (.inl (s0 + (qm a0 s0).2))))))))
     (cond (decide (((qm a0 s0).1:Int)≤122))
      (some (.inl (some (s0 + (qm a0 s0).2))))
      (cond (decide ((s0:Int)=0))
       (some (.inr (.inl (s0 + (qm a0 s0).2))))
       (cond (decide (((qm a0 s0).1:Int)=95))
        (some (.inl (some (s0 + (qm a0 s0).2))))
        (some (.inr (.inl (s0 + (qm a0 s0).2))))))))
    (cond (decide (48≤((qm a0 s0).1:Int)))
     (cond (decide (((qm a0 s0).1:Int)≤57))
      (cond (decide ((s0:Int)=0))
       (some (.inr (.inl (s0 + (qm a0 s0).2))))
       (some (.inl (some (s0 + (qm a0 s0).2)))))
      (cond (decide ((s0:Int)=0))
       (some (.inr (.inl (s0 + (qm a0 s0).2))))
       (cond (decide (((qm a0 s0).1:Int)=95))
        (some (.inl (some (s0 + (qm a0 s0).2))))
        (some (.inr (.inl (s0 + (qm a0 s0).2)))))))
     (cond (decide ((s0:Int)=0))
      (some (.inr (.inl (s0 + (qm a0 s0).2))))
      (cond (decide (((qm a0 s0).1:Int)=95))
       (some (.inl (some (s0 + (qm a0 s0).2))))
       (some (.inr (.inl (s0 + (qm a0 s0).2)))))))))
  (some (.inr (.inr s0)))
noncomputable def qmj (a0:List UInt8):Option (Nat)→Option (Option (Nat) ⊕ (Nat ⊕ Nat))
 | none=>qd0 a0
 | some x=>qdy a0 x
def ji (a0:List UInt8) (s0:Nat):ASt:=⟨[(0,.str a0,false),(8,.ptr 0 0,false),(46,.bool false,false)],[.iter a0 s0]⟩
def jj (a0:List UInt8):Option (Nat)→ASt
 | none=>⟨[(0,.str a0,false),(8,.ptr 0 0,false)],[.iter a0 0]⟩
 | some x=>ji a0 x
def zh (a0:List UInt8):Nat ⊕ Nat→jg × ASt
 | .inl d=>(.ret,⟨[(2,.bool false,false)],[.iter a0 d]⟩)
 | .inr d=>(.exit 0,⟨[(0,.str a0,false),(8,.ptr 0 0,false),(9,.tup [.bool false],false),(10,.bool false,false)],[.iter a0 d]⟩)
theorem q9c (a0:List UInt8) (r) (h:qd0 a0=some r):zd pr jm (jj a0) (zh a0) none r:=by
 unfold qd0 at h
 rcases qb h with ⟨h171,h⟩ | ⟨h171,h⟩
 ·rcases qb h with ⟨h172,h⟩ | ⟨h172,h⟩
  ·rcases qb h with ⟨h173,h⟩ | ⟨h173,h⟩
   ·rcases qb h with ⟨h174,h⟩ | ⟨h174,h⟩
    ·rcases qb h with ⟨h175,h⟩ | ⟨h175,h⟩
     ·cases h
      exact qo (st':=⟨[(0,.str a0,false),(8,.ptr 0 0,false),(46,.bool false,false)],[.iter a0 (0 + (qm a0 0).2)]⟩) (by simp only [go_sem,seval,jm,jj,ji,h171,jr h171,h172,h173,h174,h175] <;> rfl) (jc (Nat.le_refl _))
     ·cases h
      exact qo (st':=⟨[(0,.str a0,false),(8,.ptr 0 0,false),(46,.bool false,false)],[.iter a0 (0 + (qm a0 0).2)]⟩) (by simp only [go_sem,seval,jm,jj,ji,h171,jr h171,h172,h173,h174,h175] <;> rfl) (jc (Nat.le_refl _))
    ·cases h
     exact qo (st':=⟨[(0,.str a0,false),(8,.ptr 0 0,false),(46,.bool false,false)],[.iter a0 (0 + (qm a0 0).2)]⟩) (by simp only [go_sem,seval,jm,jj,ji,h171,jr h171,h172,h173,h174] <;> rfl) (jc (Nat.le_refl _))
   ·rcases qb h with ⟨h176,h⟩ | ⟨h176,h⟩
    ·rcases qb h with ⟨h177,h⟩ | ⟨h177,h⟩
     ·rcases qb h with ⟨h178,h⟩ | ⟨h178,h⟩
      ·rcases qb h with ⟨h179,h⟩ | ⟨h179,h⟩
       ·cases h
        exact qo (st':=⟨[(0,.str a0,false),(8,.ptr 0 0,false),(46,.bool false,false)],[.iter a0 (0 + (qm a0 0).2)]⟩) (by simp only [go_sem,seval,jm,jj,ji,h171,jr h171,h172,h173,h176,h177,h178,h179] <;> rfl) (jc (Nat.le_refl _))
       ·cases h
        exact qj (by simp only [go_sem,seval,jm,jj,ji,h171,jr h171,h172,h173,h176,h177,h178,h179,zh] <;> rfl)
      ·rcases qb h with ⟨h180,h⟩ | ⟨h180,h⟩
       ·cases h
        exact qo (st':=⟨[(0,.str a0,false),(8,.ptr 0 0,false),(46,.bool false,false)],[.iter a0 (0 + (qm a0 0).2)]⟩) (by simp only [go_sem,seval,jm,jj,ji,h171,jr h171,h172,h173,h176,h177,h178,h180] <;> rfl) (jc (Nat.le_refl _))
       ·cases h
        exact qj (by simp only [go_sem,seval,jm,jj,ji,h171,jr h171,h172,h173,h176,h177,h178,h180,zh] <;> rfl)
     ·rcases qb h with ⟨h181,h⟩ | ⟨h181,h⟩
      ·cases h
       exact qo (st':=⟨[(0,.str a0,false),(8,.ptr 0 0,false),(46,.bool false,false)],[.iter a0 (0 + (qm a0 0).2)]⟩) (by simp only [go_sem,seval,jm,jj,ji,h171,jr h171,h172,h173,h176,h177,h181] <;> rfl) (jc (Nat.le_refl _))
      ·cases h
       exact qj (by simp only [go_sem,seval,jm,jj,ji,h171,jr h171,h172,h173,h176,h177,h181,zh] <;> rfl)
    ·rcases qb h with ⟨h182,h⟩ | ⟨h182,h⟩
     ·rcases qb h with ⟨h183,h⟩ | ⟨h183,h⟩
      ·cases h
       exact qj (by simp only [go_sem,seval,jm,jj,ji,h171,jr h171,h172,h173,h176,h182,h183,zh] <;> rfl)
      ·cases h
       exact qj (by simp only [go_sem,seval,jm,jj,ji,h171,jr h171,h172,h173,h176,h182,h183,zh] <;> rfl)
     ·cases h
      exact qj (by simp only [go_sem,seval,jm,jj,ji,h171,jr h171,h172,h173,h176,h182,zh] <;> rfl)
  ·rcases qb h with ⟨h184,h⟩ | ⟨h184,h⟩
   ·rcases qb h with ⟨h185,h⟩ | ⟨h185,h⟩
    ·rcases qb h with ⟨h186,h⟩ | ⟨h186,h⟩
     ·rcases qb h with ⟨h187,h⟩ | ⟨h187,h⟩
      ·cases h
       exact qo (st':=⟨[(0,.str a0,false),(8,.ptr 0 0,false),(46,.bool false,false)],[.iter a0 (0 + (qm a0 0).2)]⟩) (by simp only [go_sem,seval,jm,jj,ji,h171,jr h171,h172,h184,h185,h186,h187] <;> rfl) (jc (Nat.le_refl _))
      ·cases h
       exact qj (by simp only [go_sem,seval,jm,jj,ji,h171,jr h171,h172,h184,h185,h186,h187,zh] <;> rfl)
     ·rcases qb h with ⟨h188,h⟩ | ⟨h188,h⟩
      ·cases h
       exact qo (st':=⟨[(0,.str a0,false),(8,.ptr 0 0,false),(46,.bool false,false)],[.iter a0 (0 + (qm a0 0).2)]⟩) (by simp only [go_sem,seval,jm,jj,ji,h171,jr h171,h172,h184,h185,h186,h188] <;> rfl) (jc (Nat.le_refl _))
      ·cases h
       exact qj (by simp only [go_sem,seval,jm,jj,ji,h171,jr h171,h172,h184,h185,h186,h188,zh] <;> rfl)
    ·rcases qb h with ⟨h189,h⟩ | ⟨h189,h⟩
     ·cases h
      exact qo (st':=⟨[(0,.str a0,false),(8,.ptr 0 0,false),(46,.bool false,false)],[.iter a0 (0 + (qm a0 0).2)]⟩) (by simp only [go_sem,seval,jm,jj,ji,h171,jr h171,h172,h184,h185,h189] <;> rfl) (jc (Nat.le_refl _))
     ·cases h
      exact qj (by simp only [go_sem,seval,jm,jj,ji,h171,jr h171,h172,h184,h185,h189,zh] <;> rfl)
   ·rcases qb h with ⟨h190,h⟩ | ⟨h190,h⟩
    ·rcases qb h with ⟨h191,h⟩ | ⟨h191,h⟩
     ·cases h
      exact qj (by simp only [go_sem,seval,jm,jj,ji,h171,jr h171,h172,h184,h190,h191,zh] <;> rfl)
     ·cases h
      exact qj (by simp only [go_sem,seval,jm,jj,ji,h171,jr h171,h172,h184,h190,h191,zh] <;> rfl)
    ·cases h
     exact qj (by simp only [go_sem,seval,jm,jj,ji,h171,jr h171,h172,h184,h190,zh] <;> rfl)
 ·cases h
  exact qj (by simp only [go_sem,seval,jm,jj,ji,h171,q20 h171,zh] <;> rfl)
theorem q8r (a0:List UInt8) (s0:Nat) (r) (h:qdy a0 s0=some r):zd pr jm (jj a0) (zh a0) (some s0) r:=by
 unfold qdy at h
 rcases qb h with ⟨h130,h⟩ | ⟨h130,h⟩
 ·rcases qb h with ⟨h131,h⟩ | ⟨h131,h⟩
  ·rcases qb h with ⟨h132,h⟩ | ⟨h132,h⟩
   ·rcases qb h with ⟨h133,h⟩ | ⟨h133,h⟩
    ·rcases qb h with ⟨h134,h⟩ | ⟨h134,h⟩
     ·cases h
      exact qo (st':=⟨[(0,.str a0,false),(8,.ptr 0 0,false),(46,.bool false,false)],[.iter a0 (s0 + (qm a0 s0).2)]⟩) (by simp only [go_sem,seval,jm,jj,ji,h130,jr h130,h131,h132,h133,h134] <;> rfl) (jc (Nat.le_refl _))
     ·cases h
      exact qo (st':=⟨[(0,.str a0,false),(8,.ptr 0 0,false),(46,.bool false,false)],[.iter a0 (s0 + (qm a0 s0).2)]⟩) (by simp only [go_sem,seval,jm,jj,ji,h130,jr h130,h131,h132,h133,h134] <;> rfl) (jc (Nat.le_refl _))
    ·cases h
     exact qo (st':=⟨[(0,.str a0,false),(8,.ptr 0 0,false),(46,.bool false,false)],[.iter a0 (s0 + (qm a0 s0).2)]⟩) (by simp only [go_sem,seval,jm,jj,ji,h130,jr h130,h131,h132,h133] <;> rfl) (jc (Nat.le_refl _))
   ·rcases qb h with ⟨h135,h⟩ | ⟨h135,h⟩
    ·rcases qb h with ⟨h136,h⟩ | ⟨h136,h⟩
     ·rcases qb h with ⟨h137,h⟩ | ⟨h137,h⟩
      ·rcases qb h with ⟨h138,h⟩ | ⟨h138,h⟩
       ·cases h
        exact qo (st':=⟨[(0,.str a0,false),(8,.ptr 0 0,false),(46,.bool false,false)],[.iter a0 (s0 + (qm a0 s0).2)]⟩) (by simp only [go_sem,seval,jm,jj,ji,h130,jr h130,h131,h132,h135,h136,h137,h138] <;> rfl) (jc (Nat.le_refl _))
       ·rcases qb h with ⟨h139,h⟩ | ⟨h139,h⟩
        ·cases h
         exact qj (by simp only [go_sem,seval,jm,jj,ji,h130,jr h130,h131,h132,h135,h136,h137,h138,h139,zh] <;> rfl)
        ·cases h
         exact qo (st':=⟨[(0,.str a0,false),(8,.ptr 0 0,false),(46,.bool false,false)],[.iter a0 (s0 + (qm a0 s0).2)]⟩) (by simp only [go_sem,seval,jm,jj,ji,h130,jr h130,h131,h132,h135,h136,h137,h138,h139] <;> rfl) (jc (Nat.le_refl _))
      ·rcases qb h with ⟨h140,h⟩ | ⟨h140,h⟩
       ·cases h
        exact qo (st':=⟨[(0,.str a0,false),(8,.ptr 0 0,false),(46,.bool false,false)],[.iter a0 (s0 + (qm a0 s0).2)]⟩) (by simp only [go_sem,seval,jm,jj,ji,h130,jr h130,h131,h132,h135,h136,h137,h140] <;> rfl) (jc (Nat.le_refl _))
       ·rcases qb h with ⟨h141,h⟩ | ⟨h141,h⟩
        ·cases h
         exact qj (by simp only [go_sem,seval,jm,jj,ji,h130,jr h130,h131,h132,h135,h136,h137,h140,h141,zh] <;> rfl)
        ·rcases qb h with ⟨h142,h⟩ | ⟨h142,h⟩
         ·cases h
          exact qo (st':=⟨[(0,.str a0,false),(8,.ptr 0 0,false),(46,.bool false,false)],[.iter a0 (s0 + (qm a0 s0).2)]⟩) (by simp only [go_sem,seval,jm,jj,ji,h130,jr h130,h131,h132,h135,h136,h137,h140,h141,h142] <;> rfl) (jc (Nat.le_refl _))
         ·cases h
          exact qj (by simp only [go_sem,seval,jm,jj,ji,h130,jr h130,h131,h132,h135,h136,h137,h140,h141,h142,zh] <;> rfl)
     ·rcases qb h with ⟨h143,h⟩ | ⟨h143,h⟩
      ·cases h
       exact qo (st':=⟨[(0,.str a0,false),(8,.ptr 0 0,false),(46,.bool false,false)],[.iter a0 (s0 + (qm a0 s0).2)]⟩) (by simp only [go_sem,seval,jm,jj,ji,h130,jr h130,h131,h132,h135,h136,h143] <;> rfl) (jc (Nat.le_refl _))
      ·rcases qb h with ⟨h144,h⟩ | ⟨h144,h⟩
       ·cases h
        exact qj (by simp only [go_sem,seval,jm,jj,ji,h130,jr h130,h131,h132,h135,h136,h143,h144,zh] <;> rfl)
       ·rcases qb h with ⟨h145,h⟩ | ⟨h145,h⟩
        ·cases h
         exact qo (st':=⟨[(0,.str a0,false),(8,.ptr 0 0,false),(46,.bool false,false)],[.iter a0 (s0 + (qm a0 s0).2)]⟩) (by simp only [go_sem,seval,jm,jj,ji,h130,jr h130,h131,h132,h135,h136,h143,h144,h145] <;> rfl) (jc (Nat.le_refl _))
        ·cases h
         exact qj (by simp only [go_sem,seval,jm,jj,ji,h130,jr h130,h131,h132,h135,h136,h143,h144,h145,zh] <;> rfl)
    ·rcases qb h with ⟨h146,h⟩ | ⟨h146,h⟩
     ·rcases qb h with ⟨h147,h⟩ | ⟨h147,h⟩
      ·rcases qb h with ⟨h148,h⟩ | ⟨h148,h⟩
       ·cases h
        exact qj (by simp only [go_sem,seval,jm,jj,ji,h130,jr h130,h131,h132,h135,h146,h147,h148,zh] <;> rfl)
       ·cases h
        exact qo (st':=⟨[(0,.str a0,false),(8,.ptr 0 0,false),(46,.bool false,false)],[.iter a0 (s0 + (qm a0 s0).2)]⟩) (by simp only [go_sem,seval,jm,jj,ji,h130,jr h130,h131,h132,h135,h146,h147,h148] <;> rfl) (jc (Nat.le_refl _))
      ·rcases qb h with ⟨h149,h⟩ | ⟨h149,h⟩
       ·cases h
        exact qj (by simp only [go_sem,seval,jm,jj,ji,h130,jr h130,h131,h132,h135,h146,h147,h149,zh] <;> rfl)
       ·rcases qb h with ⟨h150,h⟩ | ⟨h150,h⟩
        ·cases h
         exact qo (st':=⟨[(0,.str a0,false),(8,.ptr 0 0,false),(46,.bool false,false)],[.iter a0 (s0 + (qm a0 s0).2)]⟩) (by simp only [go_sem,seval,jm,jj,ji,h130,jr h130,h131,h132,h135,h146,h147,h149,h150] <;> rfl) (jc (Nat.le_refl _))
        ·cases h
         exact qj (by simp only [go_sem,seval,jm,jj,ji,h130,jr h130,h131,h132,h135,h146,h147,h149,h150,zh] <;> rfl)
     ·rcases qb h with ⟨h151,h⟩ | ⟨h151,h⟩
      ·cases h
       exact qj (by simp only [go_sem,seval,jm,jj,ji,h130,jr h130,h131,h132,h135,h146,h151,zh] <;> rfl)
      ·rcases qb h with ⟨h152,h⟩ | ⟨h152,h⟩
       ·cases h
        exact qo (st':=⟨[(0,.str a0,false),(8,.ptr 0 0,false),(46,.bool false,false)],[.iter a0 (s0 + (qm a0 s0).2)]⟩) (by simp only [go_sem,seval,jm,jj,ji,h130,jr h130,h131,h132,h135,h146,h151,h152] <;> rfl) (jc (Nat.le_refl _))
       ·cases h
        exact qj (by simp only [go_sem,seval,jm,jj,ji,h130,jr h130,h131,h132,h135,h146,h151,h152,zh] <;> rfl)
  ·rcases qb h with ⟨h153,h⟩ | ⟨h153,h⟩
   ·rcases qb h with ⟨h154,h⟩ | ⟨h154,h⟩
    ·rcases qb h with ⟨h155,h⟩ | ⟨h155,h⟩
     ·rcases qb h with ⟨h156,h⟩ | ⟨h156,h⟩
      ·cases h
       exact qo (st':=⟨[(0,.str a0,false),(8,.ptr 0 0,false),(46,.bool false,false)],[.iter a0 (s0 + (qm a0 s0).2)]⟩) (by simp only [go_sem,seval,jm,jj,ji,h130,jr h130,h131,h153,h154,h155,h156] <;> rfl) (jc (Nat.le_refl _))
      ·rcases qb h with ⟨h157,h⟩ | ⟨h157,h⟩
       ·cases h
        exact qj (by simp only [go_sem,seval,jm,jj,ji,h130,jr h130,h131,h153,h154,h155,h156,h157,zh] <;> rfl)
       ·cases h
        exact qo (st':=⟨[(0,.str a0,false),(8,.ptr 0 0,false),(46,.bool false,false)],[.iter a0 (s0 + (qm a0 s0).2)]⟩) (by simp only [go_sem,seval,jm,jj,ji,h130,jr h130,h131,h153,h154,h155,h156,h157] <;> rfl) (jc (Nat.le_refl _))
     ·rcases qb h with ⟨h158,h⟩ | ⟨h158,h⟩
      ·cases h
       exact qo (st':=⟨[(0,.str a0,false),(8,.ptr 0 0,false),(46,.bool false,false)],[.iter a0 (s0 + (qm a0 s0).2)]⟩) (by simp only [go_sem,seval,jm,jj,ji,h130,jr h130,h131,h153,h154,h155,h158] <;> rfl) (jc (Nat.le_refl _))
      ·rcases qb h with ⟨h159,h⟩ | ⟨h159,h⟩
       ·cases h
        exact qj (by simp only [go_sem,seval,jm,jj,ji,h130,jr h130,h131,h153,h154,h155,h158,h159,zh] <;> rfl)
       ·rcases qb h with ⟨h160,h⟩ | ⟨h160,h⟩
        ·cases h
         exact qo (st':=⟨[(0,.str a0,false),(8,.ptr 0 0,false),(46,.bool false,false)],[.iter a0 (s0 + (qm a0 s0).2)]⟩) (by simp only [go_sem,seval,jm,jj,ji,h130,jr h130,h131,h153,h154,h155,h158,h159,h160] <;> rfl) (jc (Nat.le_refl _))
        ·cases h
         exact qj (by simp only [go_sem,seval,jm,jj,ji,h130,jr h130,h131,h153,h154,h155,h158,h159,h160,zh] <;> rfl)
    ·rcases qb h with ⟨h161,h⟩ | ⟨h161,h⟩
     ·cases h
      exact qo (st':=⟨[(0,.str a0,false),(8,.ptr 0 0,false),(46,.bool false,false)],[.iter a0 (s0 + (qm a0 s0).2)]⟩) (by simp only [go_sem,seval,jm,jj,ji,h130,jr h130,h131,h153,h154,h161] <;> rfl) (jc (Nat.le_refl _))
     ·rcases qb h with ⟨h162,h⟩ | ⟨h162,h⟩
      ·cases h
       exact qj (by simp only [go_sem,seval,jm,jj,ji,h130,jr h130,h131,h153,h154,h161,h162,zh] <;> rfl)
      ·rcases qb h with ⟨h163,h⟩ | ⟨h163,h⟩
       ·cases h
        exact qo (st':=⟨[(0,.str a0,false),(8,.ptr 0 0,false),(46,.bool false,false)],[.iter a0 (s0 + (qm a0 s0).2)]⟩) (by simp only [go_sem,seval,jm,jj,ji,h130,jr h130,h131,h153,h154,h161,h162,h163] <;> rfl) (jc (Nat.le_refl _))
       ·cases h
        exact qj (by simp only [go_sem,seval,jm,jj,ji,h130,jr h130,h131,h153,h154,h161,h162,h163,zh] <;> rfl)
   ·rcases qb h with ⟨h164,h⟩ | ⟨h164,h⟩
    ·rcases qb h with ⟨h165,h⟩ | ⟨h165,h⟩
     ·rcases qb h with ⟨h166,h⟩ | ⟨h166,h⟩
      ·cases h
       exact qj (by simp only [go_sem,seval,jm,jj,ji,h130,jr h130,h131,h153,h164,h165,h166,zh] <;> rfl)
      ·cases h
       exact qo (st':=⟨[(0,.str a0,false),(8,.ptr 0 0,false),(46,.bool false,false)],[.iter a0 (s0 + (qm a0 s0).2)]⟩) (by simp only [go_sem,seval,jm,jj,ji,h130,jr h130,h131,h153,h164,h165,h166] <;> rfl) (jc (Nat.le_refl _))
     ·rcases qb h with ⟨h167,h⟩ | ⟨h167,h⟩
      ·cases h
       exact qj (by simp only [go_sem,seval,jm,jj,ji,h130,jr h130,h131,h153,h164,h165,h167,zh] <;> rfl)
      ·rcases qb h with ⟨h168,h⟩ | ⟨h168,h⟩
       ·cases h
        exact qo (st':=⟨[(0,.str a0,false),(8,.ptr 0 0,false),(46,.bool false,false)],[.iter a0 (s0 + (qm a0 s0).2)]⟩) (by simp only [go_sem,seval,jm,jj,ji,h130,jr h130,h131,h153,h164,h165,h167,h168] <;> rfl) (jc (Nat.le_refl _))
       ·cases h
        exact qj (by simp only [go_sem,seval,jm,jj,ji,h130,jr h130,h131,h153,h164,h165,h167,h168,zh] <;> rfl)
    ·rcases qb h with ⟨h169,h⟩ | ⟨h169,h⟩
     ·cases h
      exact qj (by simp only [go_sem,seval,jm,jj,ji,h130,jr h130,h131,h153,h164,h169,zh] <;> rfl)
     ·rcases qb h with ⟨h170,h⟩ | ⟨h170,h⟩
      ·cases h
       exact qo (st':=⟨[(0,.str a0,false),(8,.ptr 0 0,false),(46,.bool false,false)],[.iter a0 (s0 + (qm a0 s0).2)]⟩) (by simp only [go_sem,seval,jm,jj,ji,h130,jr h130,h131,h153,h164,h169,h170] <;> rfl) (jc (Nat.le_refl _))
      ·cases h
       exact qj (by simp only [go_sem,seval,jm,jj,ji,h130,jr h130,h131,h153,h164,h169,h170,zh] <;> rfl)
 ·cases h
  exact qj (by simp only [go_sem,seval,jm,jj,ji,h130,q20 h130,zh] <;> rfl)
theorem jeb (a0:List UInt8):∀ (x:Option (Nat)) (r) (h:qmj a0 x=some r),zd pr jm (jj a0) (zh a0) x r
 | none,r,h=>q9c a0 r h
 | some x,r,h=>q8r a0 x r h
theorem q3i (a0:List UInt8) {s0:Option (Nat)} {d} (h:itO (qmj a0) s0=some d):X pr (.loop jm) (jj a0 s0)=some (zh a0 d):=zi (jeb a0) (fun d=>by rcases d with d|d <;> (intro hh; cases hh)) h
noncomputable def f107 (a0:List UInt8):Option Bool:=
 qd (itO (qmj a0) none) fun d192=>match d192 with
  | .inl d194=>
   some false
  | .inr d195=>
   cond (decide (a0=[]))
    (some false)
    (some (decide ((a0.length:Int)≤24)))
theorem jo2 {a0:List UInt8} {r} (h:f107 a0=some r):qc pr (X pr) 107 [.str a0]=some (.bool r,false):=by
 unfold f107 at h
 obtain ⟨d192,h193,h⟩:=qa h
 rcases d192 with d194 | d195
 ·have wh193:X pr (.loop jm) ⟨[(0,.str a0,false),(8,.ptr 0 0,false)],[.iter a0 0]⟩=some (.ret,⟨[(2,.bool false,false)],[.iter a0 d194]⟩):=q3i a0 h193
  have hr:false=r:=Option.some.inj h
  subst hr
  refine qp rfl ?_ (fun _=>by first | rfl | simp only [go_sem,seval]) (by first | rfl | simp only [go_sem,seval])
  rw [qf (show pr.fns 107=some c107 from rfl) (by simp)]
  simp only [go_sem,seval,c107,wh193]
  exact ⟨_,rfl⟩
 ·have wh193:X pr (.loop jm) ⟨[(0,.str a0,false),(8,.ptr 0 0,false)],[.iter a0 0]⟩=some (.exit 0,⟨[(0,.str a0,false),(8,.ptr 0 0,false),(9,.tup [.bool false],false),(10,.bool false,false)],[.iter a0 d195]⟩):=q3i a0 h193
  rcases qb h with ⟨h196,h⟩ | ⟨h196,h⟩
  ·have hr:false=r:=Option.some.inj h
   subst hr
   refine qp rfl ?_ (fun _=>by first | rfl | simp only [go_sem,seval]) (by first | rfl | simp only [go_sem,seval])
   rw [qf (show pr.fns 107=some c107 from rfl) (by simp)]
   simp only [go_sem,seval,c107,wh193,h196]
   exact ⟨_,rfl⟩
  ·have hr:decide ((a0.length:Int)≤24)=r:=Option.some.inj h
   subst hr
   refine qp rfl ?_ (fun _=>by first | rfl | simp only [go_sem,seval]) (by first | rfl | simp only [go_sem,seval])
   rw [qf (show pr.fns 107=some c107 from rfl) (by simp)]
   simp only [go_sem,seval,c107,wh193,h196]
   exact ⟨_,rfl⟩
noncomputable def f194 (a0:Bool) (a1:Int):Option Int:=
 cond a0
  (some a1)
  (some 0)
theorem qal {a0:Bool} {a1:Int} {r} (h:f194 a0 a1=some r):qc pr (X pr) 194 [.bool a0,.int .i64 a1]=some (.int .i64 r,false):=by
 unfold f194 at h
 rcases qb h with ⟨h1,h⟩ | ⟨h1,h⟩
 ·have hr:a1=r:=Option.some.inj h
  subst hr
  refine qp rfl ?_ (fun _=>by first | rfl | simp only [go_sem,seval]) (by first | rfl | simp only [go_sem,seval])
  rw [qf (show pr.fns 194=some c194 from rfl) (by simp)]
  simp only [go_sem,seval,c194,h1]
  exact ⟨_,rfl⟩
 ·have hr:0=r:=Option.some.inj h
  subst hr
  refine qp rfl ?_ (fun _=>by first | rfl | simp only [go_sem,seval]) (by first | rfl | simp only [go_sem,seval])
  rw [qf (show pr.fns 194=some c194 from rfl) (by simp)]
  simp only [go_sem,seval,c194,h1]
  exact ⟨_,rfl⟩
noncomputable def f195 (a0:Int) (a1:Int) (a2:Int):Option Int:=
 cond (decide (a0 < a1))
  (qd (f194 true 3) fun v2=>
  some v2)
  (qd (f194 (decide (a2 < a0)) 3) fun v4=>
  some v4)
theorem qhf {a0:Int} {a1:Int} {a2:Int} {r} (h:f195 a0 a1 a2=some r):qc pr (X pr) 195 [.int .i64 a0,.int .i64 a1,.int .i64 a2]=some (.int .i64 r,false):=by
 unfold f195 at h
 rcases qb h with ⟨h1,h⟩ | ⟨h1,h⟩
 ·obtain ⟨v2,h3,h⟩:=qa h
  have hr:v2=r:=Option.some.inj h
  subst hr
  refine qp rfl ?_ (fun _=>by first | rfl | simp only [go_sem,seval]) (by first | rfl | simp only [go_sem,seval])
  rw [qf (show pr.fns 195=some c195 from rfl) (by simp)]
  simp only [go_sem,seval,c195,h1,qal h3]
  exact ⟨_,rfl⟩
 ·obtain ⟨v4,h5,h⟩:=qa h
  have wh5:qc pr (X pr) 194 [.bool (decide (a2 < a0)),.int .i64 3]=some (.int .i64 v4,false):=qal h5
  have hr:v4=r:=Option.some.inj h
  subst hr
  refine qp rfl ?_ (fun _=>by first | rfl | simp only [go_sem,seval]) (by first | rfl | simp only [go_sem,seval])
  rw [qf (show pr.fns 195=some c195 from rfl) (by simp)]
  simp only [go_sem,seval,c195,h1,wh5]
  exact ⟨_,rfl⟩
noncomputable def qht (a0:Option (List Int)) (s0:Int):Option (Int ⊕ (Int ⊕ Int)):=
 cond (decide (s0 < ((a0.getD []).length:Int)))
  (qd (j7 (a0.getD []) s0) fun v10=>
  cond (decide (v10=0))
   (some (.inl (qg .i64 (s0 + 1))))
   (some (.inr (.inl v10))))
  (some (.inr (.inr s0)))
def qjt (a0:Option (List Int)) (s0:Int):ASt:=⟨[(5,sl 1 qu a0,false),(6,.int .i64 ((a0.getD []).length:Int),false),(7,.int .i64 s0,false)],[]⟩
def qod (a0:Option (List Int)):Int ⊕ Int→jg × ASt
 | .inl d=>(.ret,⟨[(2,.int .i64 d,false)],[]⟩)
 | .inr d=>(.exit 0,⟨[(5,sl 1 qu a0,false),(6,.int .i64 ((a0.getD []).length:Int),false),(7,.int .i64 d,false),(8,.bool false,false)],[]⟩)
theorem jdc (a0:Option (List Int)) (s0:Int) (r) (h:qht a0 s0=some r):zd pr qfn (qjt a0) (qod a0) s0 r:=by
 unfold qht at h
 rcases qb h with ⟨h9,h⟩ | ⟨h9,h⟩
 ·obtain ⟨v10,h11,h⟩:=qa h
  rcases qb h with ⟨h12,h⟩ | ⟨h12,h⟩
  ·cases h
   exact qo (st':=⟨[(5,sl 1 qu a0,false),(6,.int .i64 ((a0.getD []).length:Int),false),(7,.int .i64 (qg .i64 (s0 + 1)),false)],[]⟩) (by simp only [go_sem,seval,qfn,qjt,h9,qw h11,h12] <;> rfl) (jc (Nat.le_refl _))
  ·cases h
   exact qj (by simp only [go_sem,seval,qfn,qjt,h9,qw h11,h12,qod] <;> rfl)
 ·cases h
  exact qj (by simp only [go_sem,seval,qfn,qjt,h9,qod] <;> rfl)
theorem q2l (a0:Option (List Int)) {s0:Int} {d} (h:itO (qht a0) s0=some d):X pr (.loop qfn) (qjt a0 s0)=some (qod a0 d):=zi (jdc a0) (fun d=>by rcases d with d|d <;> (intro hh; cases hh)) h
noncomputable def f171 (a0:Option (List Int)):Option Int:=
 qd (itO (qht a0) 0) fun d13=>match d13 with
  | .inl d15=>
   some d15
  | .inr d16=>
   some 0
theorem qnx {a0:Option (List Int)} {r} (h:f171 a0=some r):qc pr (X pr) 171 [sl 1 qu a0]=some (.int .i64 r,false):=by
 unfold f171 at h
 obtain ⟨d13,h14,h⟩:=qa h
 rcases d13 with d15 | d16
 ·have wh14:X pr (.loop qfn) ⟨[(5,sl 1 qu a0,false),(6,.int .i64 ((a0.getD []).length:Int),false),(7,.int .i64 0,false)],[]⟩=some (.ret,⟨[(2,.int .i64 d15,false)],[]⟩):=q2l a0 h14
  have hr:d15=r:=Option.some.inj h
  subst hr
  refine qp rfl ?_ (fun _=>by first | rfl | simp only [go_sem,seval]) (by first | rfl | simp only [go_sem,seval])
  rw [qf (show pr.fns 171=some c171 from rfl) (by simp)]
  simp only [go_sem,seval,c171,wh14]
  exact ⟨_,rfl⟩
 ·have wh14:X pr (.loop qfn) ⟨[(5,sl 1 qu a0,false),(6,.int .i64 ((a0.getD []).length:Int),false),(7,.int .i64 0,false)],[]⟩=some (.exit 0,⟨[(5,sl 1 qu a0,false),(6,.int .i64 ((a0.getD []).length:Int),false),(7,.int .i64 d16,false),(8,.bool false,false)],[]⟩):=q2l a0 h14
  have hr:0=r:=Option.some.inj h
  subst hr
  refine qp rfl ?_ (fun _=>by first | rfl | simp only [go_sem,seval]) (by first | rfl | simp only [go_sem,seval])
  rw [qf (show pr.fns 171=some c171 from rfl) (by simp)]
  simp only [go_sem,seval,c171,wh14]
  exact ⟨_,rfl⟩
noncomputable def f172 (a0:Int):Option Int:=
 qd (f195 a0 1 8) fun v1=>
 some v1
theorem jd1 {a0:Int} {r} (h:f172 a0=some r):qc pr (X pr) 172 [.int .i64 a0]=some (.int .i64 r,false):=by
 unfold f172 at h
 obtain ⟨v1,h2,h⟩:=qa h
 have hr:v1=r:=Option.some.inj h
 subst hr
 refine qp rfl ?_ (fun _=>by first | rfl | simp only [go_sem,seval]) (by first | rfl | simp only [go_sem,seval])
 rw [qf (show pr.fns 172=some c172 from rfl) (by simp)]
 simp only [go_sem,seval,c172,qhf h2]
 exact ⟨_,rfl⟩
noncomputable def f122 (a0:Int):Option Int:=
 qd (f109 a0 1 8) fun v1=>
 some v1
theorem jrw {a0:Int} {r} (h:f122 a0=some r):qc pr (X pr) 122 [.int .i64 a0]=some (.int .i64 r,false):=by
 unfold f122 at h
 obtain ⟨v1,h2,h⟩:=qa h
 have hr:v1=r:=Option.some.inj h
 subst hr
 refine qp rfl ?_ (fun _=>by first | rfl | simp only [go_sem,seval]) (by first | rfl | simp only [go_sem,seval])
 rw [qf (show pr.fns 122=some c122 from rfl) (by simp)]
 simp only [go_sem,seval,c122,qpj h2]
 exact ⟨_,rfl⟩
noncomputable def qhw (a0:Option (List GEl)) (s0:Int):Option (Int ⊕ ((Int × (List UInt8) × Int × Int) ⊕ (Int × (List UInt8) × Int × Int) ⊕ (Int × (List UInt8) × Int × Int) ⊕ (Int × (List UInt8) × Int × Int) ⊕ (Int × (List UInt8) × Int × Int) ⊕ Int)):=
 cond (decide (s0 < ((a0.getD []).length:Int)))
  (qd (j7 (a0.getD []) s0) fun v151=>
  cond (decide (v151.kind=([98,108,111,99,107]:List UInt8)))
   (qd (f194 false 13) fun v154=>
   qd (f195 v151.a 0 8) fun v156=>
   qd (f195 v151.b 0 8) fun v158=>
   cond (decide (v151.a=0))
    (qd (f194 (decide (v151.b=0)) 6) fun v161=>
    qd (f171 (some [v154,v156,v158,v161])) fun v163=>
    cond (decide (v163=0))
     (some (.inl (qg .i64 (s0 + 1))))
     (some (.inr (.inl (v163,v151.kind,v151.a,v151.b)))))
    (qd (f194 false 6) fun v166=>
    qd (f171 (some [v154,v156,v158,v166])) fun v168=>
    cond (decide (v168=0))
     (some (.inl (qg .i64 (s0 + 1))))
     (some (.inr (.inl (v168,v151.kind,v151.a,v151.b))))))
   (cond (decide (v151.kind=([115,101,114,105,101,115]:List UInt8)))
    (qd (f194 false 13) fun v172=>
    qd (f195 v151.a 0 8) fun v174=>
    qd (f195 v151.b 0 8) fun v176=>
    qd (f194 false 6) fun v178=>
    qd (f171 (some [v172,v174,v176,v178])) fun v180=>
    cond (decide (v180=0))
     (some (.inl (qg .i64 (s0 + 1))))
     (some (.inr (.inr (.inl (v180,v151.kind,v151.a,v151.b))))))
    (cond (decide (v151.kind=([115,104,117,110,116]:List UInt8)))
     (qd (f194 false 13) fun v184=>
     qd (f195 v151.a 0 8) fun v186=>
     qd (f195 v151.b 0 8) fun v188=>
     qd (f194 false 6) fun v190=>
     qd (f171 (some [v184,v186,v188,v190])) fun v192=>
     cond (decide (v192=0))
      (some (.inl (qg .i64 (s0 + 1))))
      (some (.inr (.inr (.inr (.inl (v192,v151.kind,v151.a,v151.b)))))))
     (cond (decide (v151.kind=([116,114,97,112]:List UInt8)))
      (qd (f194 false 13) fun v196=>
      qd (f195 v151.a 0 8) fun v198=>
      qd (f195 v151.b 0 8) fun v200=>
      cond (decide (v151.a=0))
       (qd (f194 (decide (v151.b=0)) 6) fun v203=>
       qd (f171 (some [v196,v198,v200,v203])) fun v205=>
       cond (decide (v205=0))
        (some (.inl (qg .i64 (s0 + 1))))
        (some (.inr (.inr (.inr (.inr (.inl (v205,v151.kind,v151.a,v151.b))))))))
       (qd (f194 false 6) fun v208=>
       qd (f171 (some [v196,v198,v200,v208])) fun v210=>
       cond (decide (v210=0))
        (some (.inl (qg .i64 (s0 + 1))))
        (some (.inr (.inr (.inr (.inr (.inl (v210,v151.kind,v151.a,v151.b)))))))))
      (qd (f194 true 13) fun v213=>
      qd (f195 v151.a 0 8) fun v215=>
      qd (f195 v151.b 0 8) fun v217=>
      qd (f194 false 6) fun v219=>
      qd (f171 (some [v213,v215,v217,v219])) fun v221=>
      cond (decide (v221=0))
       (some (.inl (qg .i64 (s0 + 1))))
       (some (.inr (.inr (.inr (.inr (.inr (.inl (v221,v151.kind,v151.a,v151.b)))))))))))))
  (some (.inr (.inr (.inr (.inr (.inr (.inr s0)))))))
def zz (a0:Option (List GEl)) (s0:Int):ASt:=⟨[(11,sl 3 vel a0,false),(12,.int .i64 ((a0.getD []).length:Int),false),(13,.int .i64 s0,false)],[]⟩
def qcr (a0:Option (List GEl)):(Int × (List UInt8) × Int × Int) ⊕ (Int × (List UInt8) × Int × Int) ⊕ (Int × (List UInt8) × Int × Int) ⊕ (Int × (List UInt8) × Int × Int) ⊕ (Int × (List UInt8) × Int × Int) ⊕ Int→jg × ASt
 | .inl d=>(.ret,⟨[(2,.int .i64 d.1,false)],[.cells [(.str d.2.1,false),(.int .i64 d.2.2.1,false),(.int .i64 d.2.2.2,false)],.map zf,.cells [(.str ([116,114,97,112]:List UInt8),false),(.bool true,false),(.fn (.func 218) [] [],false)]]⟩)
 | .inr (.inl d)=>(.ret,⟨[(2,.int .i64 d.1,false)],[.cells [(.str d.2.1,false),(.int .i64 d.2.2.1,false),(.int .i64 d.2.2.2,false)],.map zf,.cells [(.str ([115,104,117,110,116]:List UInt8),false),(.bool false,false),(.fn (.func 219) [] [],false)]]⟩)
 | .inr (.inr (.inl d))=>(.ret,⟨[(2,.int .i64 d.1,false)],[.cells [(.str d.2.1,false),(.int .i64 d.2.2.1,false),(.int .i64 d.2.2.2,false)],.map zf,.cells [(.str ([115,101,114,105,101,115]:List UInt8),false),(.bool false,false),(.fn (.func 220) [] [],false)]]⟩)
 | .inr (.inr (.inr (.inl d)))=>(.ret,⟨[(2,.int .i64 d.1,false)],[.cells [(.str d.2.1,false),(.int .i64 d.2.2.1,false),(.int .i64 d.2.2.2,false)],.map zf,.cells [(.str ([98,108,111,99,107]:List UInt8),false),(.bool true,false),(.fn (.func 221) [] [],false)]]⟩)
 | .inr (.inr (.inr (.inr (.inl d))))=>(.ret,⟨[(2,.int .i64 d.1,false)],[.cells [(.str d.2.1,false),(.int .i64 d.2.2.1,false),(.int .i64 d.2.2.2,false)],.map zf,.cells [(.str [],false),(.bool false,false),(.nilfn,false)]]⟩)
 | .inr (.inr (.inr (.inr (.inr d))))=>(.exit 0,⟨[(11,sl 3 vel a0,false),(12,.int .i64 ((a0.getD []).length:Int),false),(13,.int .i64 d,false),(14,.bool false,false)],[]⟩)
theorem jdy (a0:Option (List GEl)) (s0:Int) (r) (h:qhw a0 s0=some r):zd pr kh (zz a0) (qcr a0) s0 r:=by
 unfold qhw at h
 rcases qb h with ⟨h150,h⟩ | ⟨h150,h⟩
 ·obtain ⟨v151,h152,h⟩:=qa h
  rcases qb h with ⟨h153,h⟩ | ⟨h153,h⟩
  ·obtain ⟨v154,h155,h⟩:=qa h
   obtain ⟨v156,h157,h⟩:=qa h
   have wh157:qc pr (X pr) 195 [.int .i64 v151.a,.int .i64 0,.int .i64 8]=some (.int .i64 v156,false):=qhf h157
   obtain ⟨v158,h159,h⟩:=qa h
   have wh159:qc pr (X pr) 195 [.int .i64 v151.b,.int .i64 0,.int .i64 8]=some (.int .i64 v158,false):=qhf h159
   rcases qb h with ⟨h160,h⟩ | ⟨h160,h⟩
   ·obtain ⟨v161,h162,h⟩:=qa h
    have wh162:qc pr (X pr) 194 [.bool (decide (v151.b=0)),.int .i64 6]=some (.int .i64 v161,false):=qal h162
    obtain ⟨v163,h164,h⟩:=qa h
    have wh164:qc pr (X pr) 171 [.list false 1 [.int .i64 v154,.int .i64 v156,.int .i64 v158,.int .i64 v161]]=some (.int .i64 v163,false):=qnx h164
    rcases qb h with ⟨h165,h⟩ | ⟨h165,h⟩
    ·cases h
     exact qo (st':=⟨[(11,sl 3 vel a0,false),(12,.int .i64 ((a0.getD []).length:Int),false),(13,.int .i64 (qg .i64 (s0 + 1)),false)],[]++[.cells [(.str v151.kind,false),(.int .i64 v151.a,false),(.int .i64 v151.b,false)],.map zf,.cells [(.str ([116,114,97,112]:List UInt8),false),(.bool true,false),(.fn (.func 218) [] [],false)]]⟩) (by simp only [go_sem,seval,kh,zz,h150,qw h152,h153,qrn h153,qal h155,wh157,wh159,h160,wh162,wh164,h165] <;> rfl) (zp rfl rfl (by first | simp only [go_sem,seval,zz] | rfl) (by first | simp only [go_sem,seval,zz] | rfl))
    ·cases h
     exact qj (by simp only [go_sem,seval,kh,zz,h150,qw h152,h153,qrn h153,qal h155,wh157,wh159,h160,wh162,wh164,h165,qcr] <;> rfl)
   ·obtain ⟨v166,h167,h⟩:=qa h
    obtain ⟨v168,h169,h⟩:=qa h
    have wh169:qc pr (X pr) 171 [.list false 1 [.int .i64 v154,.int .i64 v156,.int .i64 v158,.int .i64 v166]]=some (.int .i64 v168,false):=qnx h169
    rcases qb h with ⟨h170,h⟩ | ⟨h170,h⟩
    ·cases h
     exact qo (st':=⟨[(11,sl 3 vel a0,false),(12,.int .i64 ((a0.getD []).length:Int),false),(13,.int .i64 (qg .i64 (s0 + 1)),false)],[]++[.cells [(.str v151.kind,false),(.int .i64 v151.a,false),(.int .i64 v151.b,false)],.map zf,.cells [(.str ([116,114,97,112]:List UInt8),false),(.bool true,false),(.fn (.func 218) [] [],false)]]⟩) (by simp only [go_sem,seval,kh,zz,h150,qw h152,h153,qrn h153,qal h155,wh157,wh159,h160,qal h167,wh169,h170] <;> rfl) (zp rfl rfl (by first | simp only [go_sem,seval,zz] | rfl) (by first | simp only [go_sem,seval,zz] | rfl))
    ·cases h
     exact qj (by simp only [go_sem,seval,kh,zz,h150,qw h152,h153,qrn h153,qal h155,wh157,wh159,h160,qal h167,wh169,h170,qcr] <;> rfl)
  ·rcases qb h with ⟨h171,h⟩ | ⟨h171,h⟩
   ·obtain ⟨v172,h173,h⟩:=qa h
    obtain ⟨v174,h175,h⟩:=qa h
    have wh175:qc pr (X pr) 195 [.int .i64 v151.a,.int .i64 0,.int .i64 8]=some (.int .i64 v174,false):=qhf h175
    obtain ⟨v176,h177,h⟩:=qa h
    have wh177:qc pr (X pr) 195 [.int .i64 v151.b,.int .i64 0,.int .i64 8]=some (.int .i64 v176,false):=qhf h177
    obtain ⟨v178,h179,h⟩:=qa h
    obtain ⟨v180,h181,h⟩:=qa h
    have wh181:qc pr (X pr) 171 [.list false 1 [.int .i64 v172,.int .i64 v174,.int .i64 v176,.int .i64 v178]]=some (.int .i64 v180,false):=qnx h181
    rcases qb h with ⟨h182,h⟩ | ⟨h182,h⟩
    ·cases h
     exact qo (st':=⟨[(11,sl 3 vel a0,false),(12,.int .i64 ((a0.getD []).length:Int),false),(13,.int .i64 (qg .i64 (s0 + 1)),false)],[]++[.cells [(.str v151.kind,false),(.int .i64 v151.a,false),(.int .i64 v151.b,false)],.map zf,.cells [(.str ([115,104,117,110,116]:List UInt8),false),(.bool false,false),(.fn (.func 219) [] [],false)]]⟩) (by simp only [go_sem,seval,kh,zz,h150,qw h152,h153,h171,q00 h153 h171,qal h173,wh175,wh177,qal h179,wh181,h182] <;> rfl) (zp rfl rfl (by first | simp only [go_sem,seval,zz] | rfl) (by first | simp only [go_sem,seval,zz] | rfl))
    ·cases h
     exact qj (by simp only [go_sem,seval,kh,zz,h150,qw h152,h153,h171,q00 h153 h171,qal h173,wh175,wh177,qal h179,wh181,h182,qcr] <;> rfl)
   ·rcases qb h with ⟨h183,h⟩ | ⟨h183,h⟩
    ·obtain ⟨v184,h185,h⟩:=qa h
     obtain ⟨v186,h187,h⟩:=qa h
     have wh187:qc pr (X pr) 195 [.int .i64 v151.a,.int .i64 0,.int .i64 8]=some (.int .i64 v186,false):=qhf h187
     obtain ⟨v188,h189,h⟩:=qa h
     have wh189:qc pr (X pr) 195 [.int .i64 v151.b,.int .i64 0,.int .i64 8]=some (.int .i64 v188,false):=qhf h189
     obtain ⟨v190,h191,h⟩:=qa h
     obtain ⟨v192,h193,h⟩:=qa h
     have wh193:qc pr (X pr) 171 [.list false 1 [.int .i64 v184,.int .i64 v186,.int .i64 v188,.int .i64 v190]]=some (.int .i64 v192,false):=qnx h193
     rcases qb h with ⟨h194,h⟩ | ⟨h194,h⟩
     ·cases h
      exact qo (st':=⟨[(11,sl 3 vel a0,false),(12,.int .i64 ((a0.getD []).length:Int),false),(13,.int .i64 (qg .i64 (s0 + 1)),false)],[]++[.cells [(.str v151.kind,false),(.int .i64 v151.a,false),(.int .i64 v151.b,false)],.map zf,.cells [(.str ([115,101,114,105,101,115]:List UInt8),false),(.bool false,false),(.fn (.func 220) [] [],false)]]⟩) (by simp only [go_sem,seval,kh,zz,h150,qw h152,h153,h171,h183,q1q h153 h171 h183,qal h185,wh187,wh189,qal h191,wh193,h194] <;> rfl) (zp rfl rfl (by first | simp only [go_sem,seval,zz] | rfl) (by first | simp only [go_sem,seval,zz] | rfl))
     ·cases h
      exact qj (by simp only [go_sem,seval,kh,zz,h150,qw h152,h153,h171,h183,q1q h153 h171 h183,qal h185,wh187,wh189,qal h191,wh193,h194,qcr] <;> rfl)
    ·rcases qb h with ⟨h195,h⟩ | ⟨h195,h⟩
     ·obtain ⟨v196,h197,h⟩:=qa h
      obtain ⟨v198,h199,h⟩:=qa h
      have wh199:qc pr (X pr) 195 [.int .i64 v151.a,.int .i64 0,.int .i64 8]=some (.int .i64 v198,false):=qhf h199
      obtain ⟨v200,h201,h⟩:=qa h
      have wh201:qc pr (X pr) 195 [.int .i64 v151.b,.int .i64 0,.int .i64 8]=some (.int .i64 v200,false):=qhf h201
      rcases qb h with ⟨h202,h⟩ | ⟨h202,h⟩
      ·obtain ⟨v203,h204,h⟩:=qa h
       have wh204:qc pr (X pr) 194 [.bool (decide (v151.b=0)),.int .i64 6]=some (.int .i64 v203,false):=qal h204
       obtain ⟨v205,h206,h⟩:=qa h
       have wh206:qc pr (X pr) 171 [.list false 1 [.int .i64 v196,.int .i64 v198,.int .i64 v200,.int .i64 v203]]=some (.int .i64 v205,false):=qnx h206
       rcases qb h with ⟨h207,h⟩ | ⟨h207,h⟩
       ·cases h
        exact qo (st':=⟨[(11,sl 3 vel a0,false),(12,.int .i64 ((a0.getD []).length:Int),false),(13,.int .i64 (qg .i64 (s0 + 1)),false)],[]++[.cells [(.str v151.kind,false),(.int .i64 v151.a,false),(.int .i64 v151.b,false)],.map zf,.cells [(.str ([98,108,111,99,107]:List UInt8),false),(.bool true,false),(.fn (.func 221) [] [],false)]]⟩) (by simp only [go_sem,seval,kh,zz,h150,qw h152,h153,h171,h183,h195,qp3 h153 h171 h183 h195,qal h197,wh199,wh201,h202,wh204,wh206,h207] <;> rfl) (zp rfl rfl (by first | simp only [go_sem,seval,zz] | rfl) (by first | simp only [go_sem,seval,zz] | rfl))
       ·cases h
        exact qj (by simp only [go_sem,seval,kh,zz,h150,qw h152,h153,h171,h183,h195,qp3 h153 h171 h183 h195,qal h197,wh199,wh201,h202,wh204,wh206,h207,qcr] <;> rfl)
      ·obtain ⟨v208,h209,h⟩:=qa h
       obtain ⟨v210,h211,h⟩:=qa h
       have wh211:qc pr (X pr) 171 [.list false 1 [.int .i64 v196,.int .i64 v198,.int .i64 v200,.int .i64 v208]]=some (.int .i64 v210,false):=qnx h211
       rcases qb h with ⟨h212,h⟩ | ⟨h212,h⟩
       ·cases h
        exact qo (st':=⟨[(11,sl 3 vel a0,false),(12,.int .i64 ((a0.getD []).length:Int),false),(13,.int .i64 (qg .i64 (s0 + 1)),false)],[]++[.cells [(.str v151.kind,false),(.int .i64 v151.a,false),(.int .i64 v151.b,false)],.map zf,.cells [(.str ([98,108,111,99,107]:List UInt8),false),(.bool true,false),(.fn (.func 221) [] [],false)]]⟩) (by simp only [go_sem,seval,kh,zz,h150,qw h152,h153,h171,h183,h195,qp3 h153 h171 h183 h195,qal h197,wh199,wh201,h202,qal h209,wh211,h212] <;> rfl) (zp rfl rfl (by first | simp only [go_sem,seval,zz] | rfl) (by first | simp only [go_sem,seval,zz] | rfl))
       ·cases h
        exact qj (by simp only [go_sem,seval,kh,zz,h150,qw h152,h153,h171,h183,h195,qp3 h153 h171 h183 h195,qal h197,wh199,wh201,h202,qal h209,wh211,h212,qcr] <;> rfl)
     ·obtain ⟨v213,h214,h⟩:=qa h
      obtain ⟨v215,h216,h⟩:=qa h
      have wh216:qc pr (X pr) 195 [.int .i64 v151.a,.int .i64 0,.int .i64 8]=some (.int .i64 v215,false):=qhf h216
      obtain ⟨v217,h218,h⟩:=qa h
      have wh218:qc pr (X pr) 195 [.int .i64 v151.b,.int .i64 0,.int .i64 8]=some (.int .i64 v217,false):=qhf h218
      obtain ⟨v219,h220,h⟩:=qa h
      obtain ⟨v221,h222,h⟩:=qa h
      have wh222:qc pr (X pr) 171 [.list false 1 [.int .i64 v213,.int .i64 v215,.int .i64 v217,.int .i64 v219]]=some (.int .i64 v221,false):=qnx h222
      rcases qb h with ⟨h223,h⟩ | ⟨h223,h⟩
      ·cases h
       exact qo (st':=⟨[(11,sl 3 vel a0,false),(12,.int .i64 ((a0.getD []).length:Int),false),(13,.int .i64 (qg .i64 (s0 + 1)),false)],[]++[.cells [(.str v151.kind,false),(.int .i64 v151.a,false),(.int .i64 v151.b,false)],.map zf,.cells [(.str [],false),(.bool false,false),(.nilfn,false)]]⟩) (by simp only [go_sem,seval,kh,zz,h150,qw h152,h153,h171,h183,h195,q7s h153 h171 h183 h195,qal h214,wh216,wh218,qal h220,wh222,h223] <;> rfl) (zp rfl rfl (by first | simp only [go_sem,seval,zz] | rfl) (by first | simp only [go_sem,seval,zz] | rfl))
      ·cases h
       exact qj (by simp only [go_sem,seval,kh,zz,h150,qw h152,h153,h171,h183,h195,q7s h153 h171 h183 h195,qal h214,wh216,wh218,qal h220,wh222,h223,qcr] <;> rfl)
 ·cases h
  exact qj (by simp only [go_sem,seval,kh,zz,h150,qcr] <;> rfl)
theorem qj2 (a0:Option (List GEl)) {s0:Int} {d} (h:itO (qhw a0) s0=some d):X pr (.loop kh) (zz a0 s0)=some (qcr a0 d):=zi (jdy a0) (fun d=>by rcases d with d|d|d|d|d|d <;> (intro hh; cases hh)) h
noncomputable def f158 (a0:Option (List GEl)):Option Int:=
 cond (decide (5 < ((a0.getD []).length:Int)))
  (some 5)
  (qd (itO (qhw a0) 0) fun d224=>match d224 with
   | .inl d226=>
    some d226.1
   | .inr (.inl d227)=>
    some d227.1
   | .inr (.inr (.inl d228))=>
    some d228.1
   | .inr (.inr (.inr (.inl d229)))=>
    some d229.1
   | .inr (.inr (.inr (.inr (.inl d230))))=>
    some d230.1
   | .inr (.inr (.inr (.inr (.inr d231))))=>
    some 0)
theorem qzw {a0:Option (List GEl)} {r} (h:f158 a0=some r):qc pr (X pr) 158 [sl 3 vel a0]=some (.int .i64 r,false):=by
 unfold f158 at h
 rcases qb h with ⟨h1,h⟩ | ⟨h1,h⟩
 ·have hr:5=r:=Option.some.inj h
  subst hr
  refine qp rfl ?_ (fun _=>by first | rfl | simp only [go_sem,seval]) (by first | rfl | simp only [go_sem,seval])
  rw [qf (show pr.fns 158=some c158 from rfl) (by simp)]
  simp only [go_sem,seval,c158,h1]
  exact ⟨_,rfl⟩
 ·obtain ⟨d224,h225,h⟩:=qa h
  rcases d224 with d226 | d227 | d228 | d229 | d230 | d231
  ·have wh225:X pr (.loop kh) ⟨[(11,sl 3 vel a0,false),(12,.int .i64 ((a0.getD []).length:Int),false),(13,.int .i64 0,false)],[]⟩=some (.ret,⟨[(2,.int .i64 d226.1,false)],[.cells [(.str d226.2.1,false),(.int .i64 d226.2.2.1,false),(.int .i64 d226.2.2.2,false)],.map zf,.cells [(.str ([116,114,97,112]:List UInt8),false),(.bool true,false),(.fn (.func 218) [] [],false)]]⟩):=qj2 a0 h225
   have hr:d226.1=r:=Option.some.inj h
   subst hr
   refine qp rfl ?_ (fun _=>by first | rfl | simp only [go_sem,seval]) (by first | rfl | simp only [go_sem,seval])
   rw [qf (show pr.fns 158=some c158 from rfl) (by simp)]
   simp only [go_sem,seval,c158,h1,wh225]
   exact ⟨_,rfl⟩
  ·have wh225:X pr (.loop kh) ⟨[(11,sl 3 vel a0,false),(12,.int .i64 ((a0.getD []).length:Int),false),(13,.int .i64 0,false)],[]⟩=some (.ret,⟨[(2,.int .i64 d227.1,false)],[.cells [(.str d227.2.1,false),(.int .i64 d227.2.2.1,false),(.int .i64 d227.2.2.2,false)],.map zf,.cells [(.str ([115,104,117,110,116]:List UInt8),false),(.bool false,false),(.fn (.func 219) [] [],false)]]⟩):=qj2 a0 h225
   have hr:d227.1=r:=Option.some.inj h
   subst hr
   refine qp rfl ?_ (fun _=>by first | rfl | simp only [go_sem,seval]) (by first | rfl | simp only [go_sem,seval])
   rw [qf (show pr.fns 158=some c158 from rfl) (by simp)]
   simp only [go_sem,seval,c158,h1,wh225]
   exact ⟨_,rfl⟩
  ·have wh225:X pr (.loop kh) ⟨[(11,sl 3 vel a0,false),(12,.int .i64 ((a0.getD []).length:Int),false),(13,.int .i64 0,false)],[]⟩=some (.ret,⟨[(2,.int .i64 d228.1,false)],[.cells [(.str d228.2.1,false),(.int .i64 d228.2.2.1,false),(.int .i64 d228.2.2.2,false)],.map zf,.cells [(.str ([115,101,114,105,101,115]:List UInt8),false),(.bool false,false),(.fn (.func 220) [] [],false)]]⟩):=qj2 a0 h225
   have hr:d228.1=r:=Option.some.inj h
   subst hr
   refine qp rfl ?_ (fun _=>by first | rfl | simp only [go_sem,seval]) (by first | rfl | simp only [go_sem,seval])
   rw [qf (show pr.fns 158=some c158 from rfl) (by simp)]
   simp only [go_sem,seval,c158,h1,wh225]
   exact ⟨_,rfl⟩
  ·have wh225:X pr (.loop kh) ⟨[(11,sl 3 vel a0,false),(12,.int .i64 ((a0.getD []).length:Int),false),(13,.int .i64 0,false)],[]⟩=some (.ret,⟨[(2,.int .i64 d229.1,false)],[.cells [(.str d229.2.1,false),(.int .i64 d229.2.2.1,false),(.int .i64 d229.2.2.2,false)],.map zf,.cells [(.str ([98,108,111,99,107]:List UInt8),false),(.bool true,false),(.fn (.func 221) [] [],false)]]⟩):=qj2 a0 h225
   have hr:d229.1=r:=Option.some.inj h
   subst hr
   refine qp rfl ?_ (fun _=>by first | rfl | simp only [go_sem,seval]) (by first | rfl | simp only [go_sem,seval])
   rw [qf (show pr.fns 158=some c158 from rfl) (by simp)]
   simp only [go_sem,seval,c158,h1,wh225]
   exact ⟨_,rfl⟩
  ·have wh225:X pr (.loop kh) ⟨[(11,sl 3 vel a0,false),(12,.int .i64 ((a0.getD []).length:Int),false),(13,.int .i64 0,false)],[]⟩=some (.ret,⟨[(2,.int .i64 d230.1,false)],[.cells [(.str d230.2.1,false),(.int .i64 d230.2.2.1,false),(.int .i64 d230.2.2.2,false)],.map zf,.cells [(.str [],false),(.bool false,false),(.nilfn,false)]]⟩):=qj2 a0 h225
   have hr:d230.1=r:=Option.some.inj h
   subst hr
   refine qp rfl ?_ (fun _=>by first | rfl | simp only [go_sem,seval]) (by first | rfl | simp only [go_sem,seval])
   rw [qf (show pr.fns 158=some c158 from rfl) (by simp)]
   simp only [go_sem,seval,c158,h1,wh225]
   exact ⟨_,rfl⟩
  ·have wh225:X pr (.loop kh) ⟨[(11,sl 3 vel a0,false),(12,.int .i64 ((a0.getD []).length:Int),false),(13,.int .i64 0,false)],[]⟩=some (.exit 0,⟨[(11,sl 3 vel a0,false),(12,.int .i64 ((a0.getD []).length:Int),false),(13,.int .i64 d231,false),(14,.bool false,false)],[]⟩):=qj2 a0 h225
   have hr:0=r:=Option.some.inj h
   subst hr
   refine qp rfl ?_ (fun _=>by first | rfl | simp only [go_sem,seval]) (by first | rfl | simp only [go_sem,seval])
   rw [qf (show pr.fns 158=some c158 from rfl) (by simp)]
   simp only [go_sem,seval,c158,h1,wh225]
   exact ⟨_,rfl⟩
noncomputable def f108 (a0:GEl):Option Int:=
 qd (f158 (some [a0])) fun v1=>
 some v1
theorem jsj {a0:GEl} {r} (h:f108 a0=some r):qc pr (X pr) 108 [.agg [.str a0.kind,.int .i64 a0.a,.int .i64 a0.b]]=some (.int .i64 r,false):=by
 unfold f108 at h
 obtain ⟨v1,h2,h⟩:=qa h
 have wh2:qc pr (X pr) 158 [.list false 3 [.agg [.str a0.kind,.int .i64 a0.a,.int .i64 a0.b]]]=some (.int .i64 v1,false):=qzw h2
 have hr:v1=r:=Option.some.inj h
 subst hr
 refine qp rfl ?_ (fun _=>by first | rfl | simp only [go_sem,seval]) (by first | rfl | simp only [go_sem,seval])
 rw [qf (show pr.fns 108=some c108 from rfl) (by simp)]
 simp only [go_sem,seval,c108,wh2]
 exact ⟨_,rfl⟩
noncomputable def qur (a0:GEl):Option Int:=
 qd (f158 (some [a0])) fun v1=>
 some v1
theorem jgn (hp:ql) {a0:GEl} {r} (h:qur a0=some r):jl pr (X pr) 108 [.agg [.str a0.kind,.int .i64 a0.a,.int .i64 a0.b]] hp=some (.int .i64 r,false,hp):=by
 unfold qur at h
 obtain ⟨v1,h2,h⟩:=qa h
 have wh2:qc pr (X pr) 158 [.list false 3 [.agg [.str a0.kind,.int .i64 a0.a,.int .i64 a0.b]]]=some (.int .i64 v1,false):=qzw h2
 have hr:v1=r:=Option.some.inj h
 subst hr
 rw [qf (show pr.fns 108=some c108 from rfl) (by simp)]
 simp only [go_sem,seval,c108,wh2] <;> rfl
noncomputable def f155 (a0:Int) (a1:Int):Option qz:=
 some (⟨qg .i64 (a0 - a1),qg .i64 (a0 + a1)⟩)
theorem jbe {a0:Int} {a1:Int} {r} (h:f155 a0 a1=some r):qc pr (X pr) 155 [.int .i64 a0,.int .i64 a1]=some (.agg [.int .i64 r.num,.int .i64 r.den],false):=by
 unfold f155 at h
 have hr:⟨qg .i64 (a0 - a1),qg .i64 (a0 + a1)⟩=r:=Option.some.inj h
 subst hr
 refine qp rfl ?_ (fun _=>by first | rfl | simp only [go_sem,seval]) (by first | rfl | simp only [go_sem,seval])
 rw [qf (show pr.fns 155=some c155 from rfl) (by simp)]
 simp only [go_sem,seval,c155]
 exact ⟨_,rfl⟩
noncomputable def qh2 (a0:qz) (s0:(Option (List Int)) × Int × Bool):Option (((Option (List Int)) × Int × Bool) ⊕ (((Option (List Int)) × Bool × Int))):=
 cond (decide (s0.2.1≤a0.den))
  (cond s0.2.2
   (qd (apO s0.1 [s0.2.1]) fun v13=>
   some (.inl (v13,qg .i64 (s0.2.1 + 1),true)))
   (cond s0.1.isNone
    (qd (apO s0.1 [s0.2.1]) fun v16=>
    some (.inl (v16,qg .i64 (s0.2.1 + 1),true)))
    (none)))
  (some (.inr (s0.1,s0.2.2,s0.2.1)))
def qjr (a0:qz) (s0:(Option (List Int)) × Int × Bool):ASt:=⟨[(2,.vptr (.agg [.int .i64 a0.num,.int .i64 a0.den]),false),(5,sl 1 qu s0.1,s0.2.2),(6,.int .i64 s0.2.1,false)],[]⟩
def qsq (a0:qz) (d:((Option (List Int)) × Bool × Int)):jg × ASt:=(.exit 0,⟨[(2,.vptr (.agg [.int .i64 a0.num,.int .i64 a0.den]),false),(5,sl 1 qu d.1,d.2.1),(6,.int .i64 d.2.2,false),(28,.bool false,false)],[]⟩)
theorem jd9 (a0:qz) (s0:(Option (List Int)) × Int × Bool) (r) (h:qh2 a0 s0=some r):zd pr qh8 (qjr a0) (qsq a0) s0 r:=by
 unfold qh2 at h
 rcases qb h with ⟨h11,h⟩ | ⟨h11,h⟩
 ·rcases qb h with ⟨h12,h⟩ | ⟨h12,h⟩
  ·obtain ⟨v13,h14,h⟩:=qa h
   cases h
   exact qo (st':=⟨[(2,.vptr (.agg [.int .i64 a0.num,.int .i64 a0.den]),false),(5,sl 1 qu v13,true),(6,.int .i64 (qg .i64 (s0.2.1 + 1)),false)],[]⟩) (by simp only [go_sem,seval,qh8,qjr,h11,h12,qq7 h14] <;> rfl) (jc (Nat.le_refl _))
  ·rcases qb h with ⟨h15,h⟩ | ⟨h15,h⟩
   ·obtain ⟨v16,h17,h⟩:=qa h
    cases h
    exact qo (st':=⟨[(2,.vptr (.agg [.int .i64 a0.num,.int .i64 a0.den]),false),(5,sl 1 qu v16,true),(6,.int .i64 (qg .i64 (s0.2.1 + 1)),false)],[]⟩) (by simp only [go_sem,seval,qh8,qjr,h11,h12,h15,qp9 h17 h15] <;> rfl) (jc (Nat.le_refl _))
   ·cases h
 ·cases h
  exact qj (by simp only [go_sem,seval,qh8,qjr,h11,qsq] <;> rfl)
theorem jep (a0:qz) {s0:(Option (List Int)) × Int × Bool} {d} (h:itO (qh2 a0) s0=some d):X pr (.loop qh8) (qjr a0 s0)=some (qsq a0 d):=zi (jd9 a0) (fun d hh=>by cases hh) h
noncomputable def f156 (a0:qz) (a1:Bool):Option ((Option (List Int)) × Bool):=
 cond (decide (a0.den=a0.num))
  (some (some [a0.num],true))
  (cond a1
   (some (some [a0.num,a0.den],true))
   (qd (itO (qh2 a0) (none,a0.num,false)) fun d18=>
   some (d18.1,d18.2.1)))
theorem jax {a0:qz} {a1:Bool} {r} (h:f156 a0 a1=some r):qc pr (X pr) 156 [.agg [.int .i64 a0.num,.int .i64 a0.den],.bool a1]=some (sl 1 qu r.1,r.2):=by
 unfold f156 at h
 rcases qb h with ⟨h1,h⟩ | ⟨h1,h⟩
 ·have hr:(some [a0.num],true)=r:=Option.some.inj h
  subst hr
  have this:∃ hh,jl pr (X pr) 156 [.agg [.int .i64 a0.num,.int .i64 a0.den],.bool a1] []=some (.list false 1 [.int .i64 a0.num],true,hh):=by
   rw [qf (show pr.fns 156=some c156 from rfl) (by simp)]
   simp only [go_sem,seval,c156,h1]
   exact ⟨_,rfl⟩
  obtain ⟨hh,this⟩:=this
  exact zt rfl this (by first | rfl | simp only [go_sem,seval]) (by first | rfl | simp only [go_sem,seval]) (by first | rfl | simp only [go_sem,seval])
 ·rcases qb h with ⟨h2,h⟩ | ⟨h2,h⟩
  ·have hr:(some [a0.num,a0.den],true)=r:=Option.some.inj h
   subst hr
   have this:∃ hh,jl pr (X pr) 156 [.agg [.int .i64 a0.num,.int .i64 a0.den],.bool a1] []=some (.list false 1 [.int .i64 a0.num,.int .i64 a0.den],true,hh):=by
    rw [qf (show pr.fns 156=some c156 from rfl) (by simp)]
    simp only [go_sem,seval,c156,h1,h2]
    exact ⟨_,rfl⟩
   obtain ⟨hh,this⟩:=this
   exact zt rfl this (by first | rfl | simp only [go_sem,seval]) (by first | rfl | simp only [go_sem,seval]) (by first | rfl | simp only [go_sem,seval])
  ·obtain ⟨d18,h19,h⟩:=qa h
   have wh19:X pr (.loop qh8) ⟨[(2,.vptr (.agg [.int .i64 a0.num,.int .i64 a0.den]),false),(5,.list true 0 [],false),(6,.int .i64 a0.num,false)],[]⟩=some (.exit 0,⟨[(2,.vptr (.agg [.int .i64 a0.num,.int .i64 a0.den]),false),(5,sl 1 qu d18.1,d18.2.1),(6,.int .i64 d18.2.2,false),(28,.bool false,false)],[]⟩):=jep a0 h19
   have hr:(d18.1,d18.2.1)=r:=Option.some.inj h
   subst hr
   have this:∃ hh,jl pr (X pr) 156 [.agg [.int .i64 a0.num,.int .i64 a0.den],.bool a1] []=some (sl 1 qu d18.1,d18.2.1,hh):=by
    rw [qf (show pr.fns 156=some c156 from rfl) (by simp)]
    simp only [go_sem,seval,c156,h1,h2,wh19]
    exact ⟨_,rfl⟩
   obtain ⟨hh,this⟩:=this
   exact zt rfl this (by first | rfl | simp only [go_sem,seval]) (by first | rfl | simp only [go_sem,seval]) (by first | rfl | simp only [go_sem,seval])
noncomputable def qly (a0:qi) (a1:Bool) (v3:(Option (List Int)) × Bool) (s0:(Option (List GEl)) × Int × Bool) (v72:Int) (v76:(Option (List Int)) × Bool) (s1:(Option (List GEl)) × Int × Bool):Option (((Option (List GEl)) × Int × Bool) ⊕ (((Option (List GEl)) × Bool × Int))):=
 cond (decide (s1.2.1 < ((v76.1.getD []).length:Int)))
  (qd (j7 (v76.1.getD []) s1.2.1) fun v97=>
  cond s1.2.2
   (qd (apO s1.1 [⟨a0.kd,v72,v97⟩]) fun v100=>
   some (.inl (v100,qg .i64 (s1.2.1 + 1),true)))
   (cond s1.1.isNone
    (qd (apO s1.1 [⟨a0.kd,v72,v97⟩]) fun v103=>
    some (.inl (v103,qg .i64 (s1.2.1 + 1),true)))
    (none)))
  (some (.inr (s1.1,s1.2.2,s1.2.1)))
def qng (a0:qi) (a1:Bool) (v3:(Option (List Int)) × Bool) (s0:(Option (List GEl)) × Int × Bool) (v72:Int) (v76:(Option (List Int)) × Bool) (s1:(Option (List GEl)) × Int × Bool):ASt:=⟨[(1,.bool a1,false),(2,.vptr (.agg [.str a0.name,.str a0.kd,.int .i64 a0.pa,.int .i64 a0.pb,.int .i64 a0.sa,.int .i64 a0.sb,.int .i64 a0.cost,.int .i64 a0.stock]),false),(5,sl 3 vel s1.1,s1.2.2),(7,.int .i64 v72,false),(17,sl 1 qu v3.1,v3.2),(18,.int .i64 ((v3.1.getD []).length:Int),false),(19,.int .i64 s0.2.1,false),(30,sl 1 qu v76.1,v76.2),(31,.int .i64 ((v76.1.getD []).length:Int),false),(32,.int .i64 s1.2.1,false)],[]⟩
def qwi (a0:qi) (a1:Bool) (v3:(Option (List Int)) × Bool) (s0:(Option (List GEl)) × Int × Bool) (v72:Int) (v76:(Option (List Int)) × Bool) (d:((Option (List GEl)) × Bool × Int)):jg × ASt:=(.exit 2,⟨[(1,.bool a1,false),(2,.vptr (.agg [.str a0.name,.str a0.kd,.int .i64 a0.pa,.int .i64 a0.pb,.int .i64 a0.sa,.int .i64 a0.sb,.int .i64 a0.cost,.int .i64 a0.stock]),false),(5,sl 3 vel d.1,d.2.1),(7,.int .i64 v72,false),(17,sl 1 qu v3.1,v3.2),(18,.int .i64 ((v3.1.getD []).length:Int),false),(19,.int .i64 s0.2.1,false),(30,sl 1 qu v76.1,v76.2),(31,.int .i64 ((v76.1.getD []).length:Int),false),(32,.int .i64 d.2.2,false),(33,.bool false,false)],[]⟩)
theorem jlx (a0:qi) (a1:Bool) (v3:(Option (List Int)) × Bool) (s0:(Option (List GEl)) × Int × Bool) (v72:Int) (v76:(Option (List Int)) × Bool) (s1:(Option (List GEl)) × Int × Bool) (r) (h:qly a0 a1 v3 s0 v72 v76 s1=some r):zd pr ql0 (qng a0 a1 v3 s0 v72 v76) (qwi a0 a1 v3 s0 v72 v76) s1 r:=by
 unfold qly at h
 rcases qb h with ⟨h96,h⟩ | ⟨h96,h⟩
 ·obtain ⟨v97,h98,h⟩:=qa h
  rcases qb h with ⟨h99,h⟩ | ⟨h99,h⟩
  ·obtain ⟨v100,h101,h⟩:=qa h
   cases h
   exact qo (st':=⟨[(1,.bool a1,false),(2,.vptr (.agg [.str a0.name,.str a0.kd,.int .i64 a0.pa,.int .i64 a0.pb,.int .i64 a0.sa,.int .i64 a0.sb,.int .i64 a0.cost,.int .i64 a0.stock]),false),(5,sl 3 vel v100,true),(7,.int .i64 v72,false),(17,sl 1 qu v3.1,v3.2),(18,.int .i64 ((v3.1.getD []).length:Int),false),(19,.int .i64 s0.2.1,false),(30,sl 1 qu v76.1,v76.2),(31,.int .i64 ((v76.1.getD []).length:Int),false),(32,.int .i64 (qg .i64 (s1.2.1 + 1)),false)],[]⟩) (by simp only [go_sem,seval,ql0,qng,h96,qw h98,h99,qay h101] <;> rfl) (jc (Nat.le_refl _))
  ·rcases qb h with ⟨h102,h⟩ | ⟨h102,h⟩
   ·obtain ⟨v103,h104,h⟩:=qa h
    cases h
    exact qo (st':=⟨[(1,.bool a1,false),(2,.vptr (.agg [.str a0.name,.str a0.kd,.int .i64 a0.pa,.int .i64 a0.pb,.int .i64 a0.sa,.int .i64 a0.sb,.int .i64 a0.cost,.int .i64 a0.stock]),false),(5,sl 3 vel v103,true),(7,.int .i64 v72,false),(17,sl 1 qu v3.1,v3.2),(18,.int .i64 ((v3.1.getD []).length:Int),false),(19,.int .i64 s0.2.1,false),(30,sl 1 qu v76.1,v76.2),(31,.int .i64 ((v76.1.getD []).length:Int),false),(32,.int .i64 (qg .i64 (s1.2.1 + 1)),false)],[]⟩) (by simp only [go_sem,seval,ql0,qng,h96,qw h98,h99,h102,qfy h104 h102] <;> rfl) (jc (Nat.le_refl _))
   ·cases h
 ·cases h
  exact qj (by simp only [go_sem,seval,ql0,qng,h96,qwi] <;> rfl)
theorem jkp (a0:qi) (a1:Bool) (v3:(Option (List Int)) × Bool) (s0:(Option (List GEl)) × Int × Bool) (v72:Int) (v76:(Option (List Int)) × Bool) {s1:(Option (List GEl)) × Int × Bool} {d} (h:itO (qly a0 a1 v3 s0 v72 v76) s1=some d):X pr (.loop ql0) (qng a0 a1 v3 s0 v72 v76 s1)=some (qwi a0 a1 v3 s0 v72 v76 d):=zi (jlx a0 a1 v3 s0 v72 v76) (fun d hh=>by cases hh) h
noncomputable def ql1 (a0:qi) (a1:Bool) (v3:(Option (List Int)) × Bool) (s0:(Option (List GEl)) × Int × Bool):Option (((Option (List GEl)) × Int × Bool) ⊕ (((Option (List GEl)) × Bool × Int))):=
 cond (decide (s0.2.1 < ((v3.1.getD []).length:Int)))
  (qd (j7 (v3.1.getD []) s0.2.1) fun v72=>
  qd (f155 a0.pb a0.sb) fun v74=>
  qd (f156 v74 a1) fun v76=>
  qd (itO (qly a0 a1 v3 s0 v72 v76) (s0.1,0,s0.2.2)) fun d105=>
  some (.inl (d105.1,qg .i64 (s0.2.1 + 1),d105.2.1)))
  (some (.inr (s0.1,s0.2.2,s0.2.1)))
def qqj (a0:qi) (a1:Bool) (v3:(Option (List Int)) × Bool) (s0:(Option (List GEl)) × Int × Bool):ASt:=⟨[(1,.bool a1,false),(2,.vptr (.agg [.str a0.name,.str a0.kd,.int .i64 a0.pa,.int .i64 a0.pb,.int .i64 a0.sa,.int .i64 a0.sb,.int .i64 a0.cost,.int .i64 a0.stock]),false),(5,sl 3 vel s0.1,s0.2.2),(17,sl 1 qu v3.1,v3.2),(18,.int .i64 ((v3.1.getD []).length:Int),false),(19,.int .i64 s0.2.1,false)],[]⟩
def qv2 (a0:qi) (a1:Bool) (v3:(Option (List Int)) × Bool) (d:((Option (List GEl)) × Bool × Int)):jg × ASt:=(.exit 0,⟨[(1,.bool a1,false),(2,.vptr (.agg [.str a0.name,.str a0.kd,.int .i64 a0.pa,.int .i64 a0.pb,.int .i64 a0.sa,.int .i64 a0.sb,.int .i64 a0.cost,.int .i64 a0.stock]),false),(5,sl 3 vel d.1,d.2.1),(17,sl 1 qu v3.1,v3.2),(18,.int .i64 ((v3.1.getD []).length:Int),false),(19,.int .i64 d.2.2,false),(20,.bool false,false)],[]⟩)
theorem jld (a0:qi) (a1:Bool) (v3:(Option (List Int)) × Bool) (s0:(Option (List GEl)) × Int × Bool) (r) (h:ql1 a0 a1 v3 s0=some r):zd pr qov (qqj a0 a1 v3) (qv2 a0 a1 v3) s0 r:=by
 unfold ql1 at h
 rcases qb h with ⟨h71,h⟩ | ⟨h71,h⟩
 ·obtain ⟨v72,h73,h⟩:=qa h
  obtain ⟨v74,h75,h⟩:=qa h
  have wh75:qc pr (X pr) 155 [.int .i64 a0.pb,.int .i64 a0.sb]=some (.agg [.int .i64 v74.num,.int .i64 v74.den],false):=jbe h75
  obtain ⟨v76,h77,h⟩:=qa h
  have wh77:qc pr (X pr) 156 [.agg [.int .i64 v74.num,.int .i64 v74.den],.bool a1]=some (sl 1 qu v76.1,v76.2):=jax h77
  obtain ⟨d105,h106,h⟩:=qa h
  have wh106:X pr (.loop ql0) ⟨[(1,.bool a1,false),(2,.vptr (.agg [.str a0.name,.str a0.kd,.int .i64 a0.pa,.int .i64 a0.pb,.int .i64 a0.sa,.int .i64 a0.sb,.int .i64 a0.cost,.int .i64 a0.stock]),false),(5,sl 3 vel s0.1,s0.2.2),(7,.int .i64 v72,false),(17,sl 1 qu v3.1,v3.2),(18,.int .i64 ((v3.1.getD []).length:Int),false),(19,.int .i64 s0.2.1,false),(30,sl 1 qu v76.1,v76.2),(31,.int .i64 ((v76.1.getD []).length:Int),false),(32,.int .i64 0,false)],[]⟩=some (.exit 2,⟨[(1,.bool a1,false),(2,.vptr (.agg [.str a0.name,.str a0.kd,.int .i64 a0.pa,.int .i64 a0.pb,.int .i64 a0.sa,.int .i64 a0.sb,.int .i64 a0.cost,.int .i64 a0.stock]),false),(5,sl 3 vel d105.1,d105.2.1),(7,.int .i64 v72,false),(17,sl 1 qu v3.1,v3.2),(18,.int .i64 ((v3.1.getD []).length:Int),false),(19,.int .i64 s0.2.1,false),(30,sl 1 qu v76.1,v76.2),(31,.int .i64 ((v76.1.getD []).length:Int),false),(32,.int .i64 d105.2.2,false),(33,.bool false,false)],[]⟩):=jkp a0 a1 v3 s0 v72 v76 h106
  cases h
  exact qo (st':=⟨[(1,.bool a1,false),(2,.vptr (.agg [.str a0.name,.str a0.kd,.int .i64 a0.pa,.int .i64 a0.pb,.int .i64 a0.sa,.int .i64 a0.sb,.int .i64 a0.cost,.int .i64 a0.stock]),false),(5,sl 3 vel d105.1,d105.2.1),(17,sl 1 qu v3.1,v3.2),(18,.int .i64 ((v3.1.getD []).length:Int),false),(19,.int .i64 (qg .i64 (s0.2.1 + 1)),false)],[]⟩) (by simp only [go_sem,seval,qov,qqj,h71,qw h73,wh75,wh77,wh106] <;> rfl) (jc (Nat.le_refl _))
 ·cases h
  exact qj (by simp only [go_sem,seval,qov,qqj,h71,qv2] <;> rfl)
theorem jif (a0:qi) (a1:Bool) (v3:(Option (List Int)) × Bool) {s0:(Option (List GEl)) × Int × Bool} {d} (h:itO (ql1 a0 a1 v3) s0=some d):X pr (.loop qov) (qqj a0 a1 v3 s0)=some (qv2 a0 a1 v3 d):=zi (jld a0 a1 v3) (fun d hh=>by cases hh) h
noncomputable def f99 (a0:qi) (a1:Bool):Option ((Option (List GEl)) × Bool):=
 qd (f155 a0.pa a0.sa) fun v1=>
 qd (f156 v1 a1) fun v3=>
 qd (itO (ql1 a0 a1 v3) (none,0,false)) fun d107=>
 some (d107.1,d107.2.1)
theorem W99 {a0:qi} {a1:Bool} {r} (h:f99 a0 a1=some r):qc pr (X pr) 99 [.agg [.str a0.name,.str a0.kd,.int .i64 a0.pa,.int .i64 a0.pb,.int .i64 a0.sa,.int .i64 a0.sb,.int .i64 a0.cost,.int .i64 a0.stock],.bool a1]=some (sl 3 vel r.1,r.2):=by
 unfold f99 at h
 obtain ⟨v1,h2,h⟩:=qa h
 have wh2:qc pr (X pr) 155 [.int .i64 a0.pa,.int .i64 a0.sa]=some (.agg [.int .i64 v1.num,.int .i64 v1.den],false):=jbe h2
 obtain ⟨v3,h4,h⟩:=qa h
 have wh4:qc pr (X pr) 156 [.agg [.int .i64 v1.num,.int .i64 v1.den],.bool a1]=some (sl 1 qu v3.1,v3.2):=jax h4
 obtain ⟨d107,h108,h⟩:=qa h
 have wh108:X pr (.loop qov) ⟨[(1,.bool a1,false),(2,.vptr (.agg [.str a0.name,.str a0.kd,.int .i64 a0.pa,.int .i64 a0.pb,.int .i64 a0.sa,.int .i64 a0.sb,.int .i64 a0.cost,.int .i64 a0.stock]),false),(5,.list true 0 [],false),(17,sl 1 qu v3.1,v3.2),(18,.int .i64 ((v3.1.getD []).length:Int),false),(19,.int .i64 0,false)],[]⟩=some (.exit 0,⟨[(1,.bool a1,false),(2,.vptr (.agg [.str a0.name,.str a0.kd,.int .i64 a0.pa,.int .i64 a0.pb,.int .i64 a0.sa,.int .i64 a0.sb,.int .i64 a0.cost,.int .i64 a0.stock]),false),(5,sl 3 vel d107.1,d107.2.1),(17,sl 1 qu v3.1,v3.2),(18,.int .i64 ((v3.1.getD []).length:Int),false),(19,.int .i64 d107.2.2,false),(20,.bool false,false)],[]⟩):=jif a0 a1 v3 h108
 have hr:(d107.1,d107.2.1)=r:=Option.some.inj h
 subst hr
 have this:∃ hh,jl pr (X pr) 99 [.agg [.str a0.name,.str a0.kd,.int .i64 a0.pa,.int .i64 a0.pb,.int .i64 a0.sa,.int .i64 a0.sb,.int .i64 a0.cost,.int .i64 a0.stock],.bool a1] []=some (sl 3 vel d107.1,d107.2.1,hh):=by
  rw [qf (show pr.fns 99=some c99 from rfl) (by simp)]
  simp only [go_sem,seval,c99,wh2,wh4,wh108]
  exact ⟨_,rfl⟩
 obtain ⟨hh,this⟩:=this
 exact zt rfl this (by first | rfl | simp only [go_sem,seval]) (by first | rfl | simp only [go_sem,seval]) (by first | rfl | simp only [go_sem,seval])
noncomputable def qh3 (a0:Option (List GEl)) (s0:(Option (List Int)) × Int × Bool):Option (((Option (List Int)) × Int × Bool) ⊕ (((Option (List Int)) × Bool × Int))):=
 cond (decide (s0.2.1 < ((a0.getD []).length:Int)))
  (qd (j7 (a0.getD []) s0.2.1) fun v18=>
  qd (qur v18) fun v20=>
  cond s0.2.2
   (qd (apO s0.1 [v20]) fun v23=>
   some (.inl (v23,qg .i64 (s0.2.1 + 1),true)))
   (cond s0.1.isNone
    (qd (apO s0.1 [v20]) fun v26=>
    some (.inl (v26,qg .i64 (s0.2.1 + 1),true)))
    (none)))
  (some (.inr (s0.1,s0.2.2,s0.2.1)))
def qde (a0:Option (List GEl)) (s0:(Option (List Int)) × Int × Bool):ASt:=⟨[(1,.fn (.func 108) [] [],false),(5,sl 1 qu s0.1,s0.2.2),(8,sl 3 vel a0,false),(9,.int .i64 ((a0.getD []).length:Int),false),(10,.int .i64 s0.2.1,false)],[]⟩
def qsk (a0:Option (List GEl)) (d:((Option (List Int)) × Bool × Int)):jg × ASt:=(.exit 0,⟨[(1,.fn (.func 108) [] [],false),(5,sl 1 qu d.1,d.2.1),(8,sl 3 vel a0,false),(9,.int .i64 ((a0.getD []).length:Int),false),(10,.int .i64 d.2.2,false),(11,.bool false,false)],[]⟩)
theorem jb8 (a0:Option (List GEl)) (s0:(Option (List Int)) × Int × Bool) (r) (h:qh3 a0 s0=some r):zd pr qhr (qde a0) (qsk a0) s0 r:=by
 unfold qh3 at h
 rcases qb h with ⟨h17,h⟩ | ⟨h17,h⟩
 ·obtain ⟨v18,h19,h⟩:=qa h
  obtain ⟨v20,h21,h⟩:=qa h
  have wh21:jl pr (X pr) 108 [.agg [.str v18.kind,.int .i64 v18.a,.int .i64 v18.b]] [.cells [(.str v18.kind,false),(.int .i64 v18.a,false),(.int .i64 v18.b,false)]]=some (.int .i64 v20,false,[.cells [(.str v18.kind,false),(.int .i64 v18.a,false),(.int .i64 v18.b,false)]]):=jgn [.cells [(.str v18.kind,false),(.int .i64 v18.a,false),(.int .i64 v18.b,false)]] h21
  rcases qb h with ⟨h22,h⟩ | ⟨h22,h⟩
  ·obtain ⟨v23,h24,h⟩:=qa h
   cases h
   exact qo (st':=⟨[(1,.fn (.func 108) [] [],false),(5,sl 1 qu v23,true),(8,sl 3 vel a0,false),(9,.int .i64 ((a0.getD []).length:Int),false),(10,.int .i64 (qg .i64 (s0.2.1 + 1)),false)],[]++[.cells [(.str v18.kind,false),(.int .i64 v18.a,false),(.int .i64 v18.b,false)]]⟩) (by simp only [go_sem,seval,qhr,qde,h17,qw h19,wh21,h22,qq7 h24] <;> rfl) (zp rfl rfl (by first | simp only [go_sem,seval,qde] | rfl) (by first | simp only [go_sem,seval,qde] | rfl))
  ·rcases qb h with ⟨h25,h⟩ | ⟨h25,h⟩
   ·obtain ⟨v26,h27,h⟩:=qa h
    cases h
    exact qo (st':=⟨[(1,.fn (.func 108) [] [],false),(5,sl 1 qu v26,true),(8,sl 3 vel a0,false),(9,.int .i64 ((a0.getD []).length:Int),false),(10,.int .i64 (qg .i64 (s0.2.1 + 1)),false)],[]++[.cells [(.str v18.kind,false),(.int .i64 v18.a,false),(.int .i64 v18.b,false)]]⟩) (by simp only [go_sem,seval,qhr,qde,h17,qw h19,wh21,h22,h25,qp9 h27 h25] <;> rfl) (zp rfl rfl (by first | simp only [go_sem,seval,qde] | rfl) (by first | simp only [go_sem,seval,qde] | rfl))
   ·cases h
 ·cases h
  exact qj (by simp only [go_sem,seval,qhr,qde,h17,qsk] <;> rfl)
theorem jcf (a0:Option (List GEl)) {s0:(Option (List Int)) × Int × Bool} {d} (h:itO (qh3 a0) s0=some d):X pr (.loop qhr) (qde a0 s0)=some (qsk a0 d):=zi (jb8 a0) (fun d hh=>by cases hh) h
noncomputable def f110 (a0:Option (List GEl)):Option ((Option (List Int)) × Bool):=
 qd (itO (qh3 a0) (none,0,false)) fun d28=>
 some (d28.1,d28.2.1)
theorem jph {a0:Option (List GEl)} {r} (h:f110 a0=some r):qc pr (X pr) 110 [sl 3 vel a0,.fn (.func 108) [] []]=some (sl 1 qu r.1,r.2):=by
 unfold f110 at h
 obtain ⟨d28,h29,h⟩:=qa h
 have wh29:X pr (.loop qhr) ⟨[(1,.fn (.func 108) [] [],false),(5,.list true 0 [],false),(8,sl 3 vel a0,false),(9,.int .i64 ((a0.getD []).length:Int),false),(10,.int .i64 0,false)],[]⟩=some (.exit 0,⟨[(1,.fn (.func 108) [] [],false),(5,sl 1 qu d28.1,d28.2.1),(8,sl 3 vel a0,false),(9,.int .i64 ((a0.getD []).length:Int),false),(10,.int .i64 d28.2.2,false),(11,.bool false,false)],[]⟩):=jcf a0 h29
 have hr:(d28.1,d28.2.1)=r:=Option.some.inj h
 subst hr
 have this:∃ hh,jl pr (X pr) 110 [sl 3 vel a0,.fn (.func 108) [] []] []=some (sl 1 qu d28.1,d28.2.1,hh):=by
  rw [qf (show pr.fns 110=some c110 from rfl) (by simp)]
  simp only [go_sem,seval,c110,wh29]
  exact ⟨_,rfl⟩
 obtain ⟨hh,this⟩:=this
 exact zt rfl this (by first | rfl | simp only [go_sem,seval]) (by first | rfl | simp only [go_sem,seval]) (by first | rfl | simp only [go_sem,seval])
noncomputable def f22 (a0:qi):Option Int:=
 qd (f107 a0.name) fun v1=>
 qd (f106 (!v1) 8) fun v3=>
 qd (f108 (⟨a0.kd,a0.pa,a0.pb⟩)) fun v5=>
 qd (f109 a0.sa 0 1) fun v7=>
 qd (f109 a0.sb 0 1) fun v9=>
 qd (f109 a0.cost 1 1000000) fun v11=>
 qd (f109 a0.stock 0 100) fun v13=>
 qd (f105 (some [v3,v5,v7,v9,v11,v13])) fun v15=>
 cond (decide (v15=0))
  (qd (f99 a0 false) fun v18=>
  qd (f110 v18.1) fun v20=>
  qd (f105 v20.1) fun v22=>
  qd (f106 (!decide (v22=0)) 1) fun v24=>
  some v24)
  (some v15)
theorem W22 {a0:qi} {r} (h:f22 a0=some r):qc pr (X pr) 22 [.agg [.str a0.name,.str a0.kd,.int .i64 a0.pa,.int .i64 a0.pb,.int .i64 a0.sa,.int .i64 a0.sb,.int .i64 a0.cost,.int .i64 a0.stock]]=some (.int .i64 r,false):=by
 unfold f22 at h
 obtain ⟨v1,h2,h⟩:=qa h
 have wh2:qc pr (X pr) 107 [.str a0.name]=some (.bool v1,false):=jo2 h2
 obtain ⟨v3,h4,h⟩:=qa h
 have wh4:qc pr (X pr) 106 [.bool (!v1),.int .i64 8]=some (.int .i64 v3,false):=qb8 h4
 obtain ⟨v5,h6,h⟩:=qa h
 have wh6:qc pr (X pr) 108 [.agg [.str a0.kd,.int .i64 a0.pa,.int .i64 a0.pb]]=some (.int .i64 v5,false):=jsj h6
 obtain ⟨v7,h8,h⟩:=qa h
 have wh8:qc pr (X pr) 109 [.int .i64 a0.sa,.int .i64 0,.int .i64 1]=some (.int .i64 v7,false):=qpj h8
 obtain ⟨v9,h10,h⟩:=qa h
 have wh10:qc pr (X pr) 109 [.int .i64 a0.sb,.int .i64 0,.int .i64 1]=some (.int .i64 v9,false):=qpj h10
 obtain ⟨v11,h12,h⟩:=qa h
 have wh12:qc pr (X pr) 109 [.int .i64 a0.cost,.int .i64 1,.int .i64 1000000]=some (.int .i64 v11,false):=qpj h12
 obtain ⟨v13,h14,h⟩:=qa h
 have wh14:qc pr (X pr) 109 [.int .i64 a0.stock,.int .i64 0,.int .i64 100]=some (.int .i64 v13,false):=qpj h14
 obtain ⟨v15,h16,h⟩:=qa h
 have wh16:qc pr (X pr) 105 [.list false 1 [.int .i64 v3,.int .i64 v5,.int .i64 v7,.int .i64 v9,.int .i64 v11,.int .i64 v13]]=some (.int .i64 v15,false):=qhm h16
 rcases qb h with ⟨h17,h⟩ | ⟨h17,h⟩
 ·obtain ⟨v18,h19,h⟩:=qa h
  have wh19:qc pr (X pr) 99 [.agg [.str a0.name,.str a0.kd,.int .i64 a0.pa,.int .i64 a0.pb,.int .i64 a0.sa,.int .i64 a0.sb,.int .i64 a0.cost,.int .i64 a0.stock],.bool false]=some (sl 3 vel v18.1,v18.2):=W99 h19
  obtain ⟨v20,h21,h⟩:=qa h
  have wh21:qc pr (X pr) 110 [sl 3 vel v18.1,.fn (.func 108) [] []]=some (sl 1 qu v20.1,v20.2):=jph h21
  obtain ⟨v22,h23,h⟩:=qa h
  have wh23:qc pr (X pr) 105 [sl 1 qu v20.1]=some (.int .i64 v22,false):=qhm h23
  obtain ⟨v24,h25,h⟩:=qa h
  have wh25:qc pr (X pr) 106 [.bool (!decide (v22=0)),.int .i64 1]=some (.int .i64 v24,false):=qb8 h25
  have hr:v24=r:=Option.some.inj h
  subst hr
  refine qp rfl ?_ (fun _=>by first | rfl | simp only [go_sem,seval]) (by first | rfl | simp only [go_sem,seval])
  rw [qf (show pr.fns 22=some c22 from rfl) (by simp)]
  simp only [go_sem,seval,c22,wh2,wh4,wh6,wh8,wh10,wh12,wh14,wh16,h17,wh19,wh21,wh23,wh25]
  exact ⟨_,rfl⟩
 ·have hr:v15=r:=Option.some.inj h
  subst hr
  refine qp rfl ?_ (fun _=>by first | rfl | simp only [go_sem,seval]) (by first | rfl | simp only [go_sem,seval])
  rw [qf (show pr.fns 22=some c22 from rfl) (by simp)]
  simp only [go_sem,seval,c22,wh2,wh4,wh6,wh8,wh10,wh12,wh14,wh16,h17]
  exact ⟨_,rfl⟩
noncomputable def qik (a0:Option (List qi)) (s0:Int × (List (List UInt8))):Option ((Int × (List (List UInt8))) ⊕ ((Int × (List (List UInt8)) × (List UInt8) × (List UInt8) × Int × Int × Int × Int × Int × Int) ⊕ (Int × (List (List UInt8))))):=
 cond (decide (s0.1 < ((a0.getD []).length:Int)))
  (qd (j7 (a0.getD []) s0.1) fun v27=>
  qd (f22 v27) fun v29=>
  qd (f106 (qhk s0.2 v27.name) 9) fun v31=>
  qd (f105 (some [v29,v31])) fun v33=>
  cond (decide (v33=0))
   (qd (qp2 s0.2 v27.name) fun v36=>
   some (.inl (qg .i64 (s0.1 + 1),v36)))
   (some (.inr (.inl (v33,s0.2,v27.name,v27.kd,v27.pa,v27.pb,v27.sa,v27.sb,v27.cost,v27.stock)))))
  (some (.inr (.inr (s0.1,s0.2))))
def qhv (a0:Option (List qi)) (s0:Int × (List (List UInt8))):ASt:=⟨[(3,.map 0,false),(11,sl 8 qn a0,false),(12,.int .i64 ((a0.getD []).length:Int),false),(13,.int .i64 s0.1,false)],[.map (kg s0.2)]⟩
def qq4 (a0:Option (List qi)):(Int × (List (List UInt8)) × (List UInt8) × (List UInt8) × Int × Int × Int × Int × Int × Int) ⊕ (Int × (List (List UInt8)))→jg × ASt
 | .inl d=>(.ret,⟨[(2,.int .i64 d.1,false)],[.map (kg d.2.1),.cells [(.str d.2.2.1,false),(.str d.2.2.2.1,false),(.int .i64 d.2.2.2.2.1,false),(.int .i64 d.2.2.2.2.2.1,false),(.int .i64 d.2.2.2.2.2.2.1,false),(.int .i64 d.2.2.2.2.2.2.2.1,false),(.int .i64 d.2.2.2.2.2.2.2.2.1,false),(.int .i64 d.2.2.2.2.2.2.2.2.2,false)]]⟩)
 | .inr d=>(.exit 0,⟨[(3,.map 0,false),(11,sl 8 qn a0,false),(12,.int .i64 ((a0.getD []).length:Int),false),(13,.int .i64 d.1,false),(14,.bool false,false)],[.map (kg d.2)]⟩)
theorem jjc (a0:Option (List qi)) (s0:Int × (List (List UInt8))) (r) (h:qik a0 s0=some r):zd pr qiw (qhv a0) (qq4 a0) s0 r:=by
 unfold qik at h
 rcases qb h with ⟨h26,h⟩ | ⟨h26,h⟩
 ·obtain ⟨v27,h28,h⟩:=qa h
  obtain ⟨v29,h30,h⟩:=qa h
  have wh30:qc pr (X pr) 22 [.agg [.str v27.name,.str v27.kd,.int .i64 v27.pa,.int .i64 v27.pb,.int .i64 v27.sa,.int .i64 v27.sb,.int .i64 v27.cost,.int .i64 v27.stock]]=some (.int .i64 v29,false):=W22 h30
  obtain ⟨v31,h32,h⟩:=qa h
  have wh32:qc pr (X pr) 106 [.bool (qhk s0.2 v27.name),.int .i64 9]=some (.int .i64 v31,false):=qb8 h32
  obtain ⟨v33,h34,h⟩:=qa h
  have wh34:qc pr (X pr) 105 [.list false 1 [.int .i64 v29,.int .i64 v31]]=some (.int .i64 v33,false):=qhm h34
  rcases qb h with ⟨h35,h⟩ | ⟨h35,h⟩
  ·obtain ⟨v36,h37,h⟩:=qa h
   cases h
   exact qo (st':=⟨[(3,.map 0,false),(11,sl 8 qn a0,false),(12,.int .i64 ((a0.getD []).length:Int),false),(13,.int .i64 (qg .i64 (s0.1 + 1)),false)],[.map (kg v36)]++[.cells [(.str v27.name,false),(.str v27.kd,false),(.int .i64 v27.pa,false),(.int .i64 v27.pb,false),(.int .i64 v27.sa,false),(.int .i64 v27.sb,false),(.int .i64 v27.cost,false),(.int .i64 v27.stock,false)]]⟩) (by simp only [go_sem,seval,qiw,qhv,h26,qw h28,wh30,q7f,wh32,wh34,h35,jba h37] <;> rfl) (zp rfl rfl (by first | simp only [go_sem,seval,qhv] | rfl) (by first | simp only [go_sem,seval,qhv] | rfl))
  ·cases h
   exact qj (by simp only [go_sem,seval,qiw,qhv,h26,qw h28,wh30,q7f,wh32,wh34,h35,qq4] <;> rfl)
 ·cases h
  exact qj (by simp only [go_sem,seval,qiw,qhv,h26,qq4] <;> rfl)
theorem q7q (a0:Option (List qi)) {s0:Int × (List (List UInt8))} {d} (h:itO (qik a0) s0=some d):X pr (.loop qiw) (qhv a0 s0)=some (qq4 a0 d):=zi (jjc a0) (fun d=>by rcases d with d|d <;> (intro hh; cases hh)) h
noncomputable def f23 (a0:Option (List qi)):Option Int:=
 cond (decide (6 < ((a0.getD []).length:Int)))
  (some 5)
  (qd (itO (qik a0) (0,[])) fun d38=>match d38 with
   | .inl d40=>
    some d40.1
   | .inr d41=>
    some 0)
theorem W23 {a0:Option (List qi)} {r} (h:f23 a0=some r):qc pr (X pr) 23 [sl 8 qn a0]=some (.int .i64 r,false):=by
 unfold f23 at h
 rcases qb h with ⟨h1,h⟩ | ⟨h1,h⟩
 ·have hr:5=r:=Option.some.inj h
  subst hr
  refine qp rfl ?_ (fun _=>by first | rfl | simp only [go_sem,seval]) (by first | rfl | simp only [go_sem,seval])
  rw [qf (show pr.fns 23=some c23 from rfl) (by simp)]
  simp only [go_sem,seval,c23,h1]
  exact ⟨_,rfl⟩
 ·obtain ⟨d38,h39,h⟩:=qa h
  rcases d38 with d40 | d41
  ·have wh39:X pr (.loop qiw) ⟨[(3,.map 0,false),(11,sl 8 qn a0,false),(12,.int .i64 ((a0.getD []).length:Int),false),(13,.int .i64 0,false)],[.map (kg [])]⟩=some (.ret,⟨[(2,.int .i64 d40.1,false)],[.map (kg d40.2.1),.cells [(.str d40.2.2.1,false),(.str d40.2.2.2.1,false),(.int .i64 d40.2.2.2.2.1,false),(.int .i64 d40.2.2.2.2.2.1,false),(.int .i64 d40.2.2.2.2.2.2.1,false),(.int .i64 d40.2.2.2.2.2.2.2.1,false),(.int .i64 d40.2.2.2.2.2.2.2.2.1,false),(.int .i64 d40.2.2.2.2.2.2.2.2.2,false)]]⟩):=q7q a0 h39
   have hr:d40.1=r:=Option.some.inj h
   subst hr
   refine qp rfl ?_ (fun _=>by first | rfl | simp only [go_sem,seval]) (by first | rfl | simp only [go_sem,seval])
   rw [qf (show pr.fns 23=some c23 from rfl) (by simp)]
   simp only [go_sem,seval,c23,h1,q2d,wh39]
   exact ⟨_,rfl⟩
  ·have wh39:X pr (.loop qiw) ⟨[(3,.map 0,false),(11,sl 8 qn a0,false),(12,.int .i64 ((a0.getD []).length:Int),false),(13,.int .i64 0,false)],[.map (kg [])]⟩=some (.exit 0,⟨[(3,.map 0,false),(11,sl 8 qn a0,false),(12,.int .i64 ((a0.getD []).length:Int),false),(13,.int .i64 d41.1,false),(14,.bool false,false)],[.map (kg d41.2)]⟩):=q7q a0 h39
   have hr:0=r:=Option.some.inj h
   subst hr
   refine qp rfl ?_ (fun _=>by first | rfl | simp only [go_sem,seval]) (by first | rfl | simp only [go_sem,seval])
   rw [qf (show pr.fns 23=some c23 from rfl) (by simp)]
   simp only [go_sem,seval,c23,h1,q2d,wh39]
   exact ⟨_,rfl⟩
noncomputable def f101 (a0:Bool) (a1:Int):Option Int:=
 cond a0
  (some a1)
  (some 0)
theorem q44 {a0:Bool} {a1:Int} {r} (h:f101 a0 a1=some r):qc pr (X pr) 101 [.bool a0,.int .i64 a1]=some (.int .i64 r,false):=by
 unfold f101 at h
 rcases qb h with ⟨h1,h⟩ | ⟨h1,h⟩
 ·have hr:a1=r:=Option.some.inj h
  subst hr
  refine qp rfl ?_ (fun _=>by first | rfl | simp only [go_sem,seval]) (by first | rfl | simp only [go_sem,seval])
  rw [qf (show pr.fns 101=some c101 from rfl) (by simp)]
  simp only [go_sem,seval,c101,h1]
  exact ⟨_,rfl⟩
 ·have hr:0=r:=Option.some.inj h
  subst hr
  refine qp rfl ?_ (fun _=>by first | rfl | simp only [go_sem,seval]) (by first | rfl | simp only [go_sem,seval])
  rw [qf (show pr.fns 101=some c101 from rfl) (by simp)]
  simp only [go_sem,seval,c101,h1]
  exact ⟨_,rfl⟩
noncomputable def qh0 (a0:Option (List Int)) (s0:Int):Option (Int ⊕ (Int ⊕ Int)):=
 cond (decide (s0 < ((a0.getD []).length:Int)))
  (qd (j7 (a0.getD []) s0) fun v10=>
  cond (decide (v10=0))
   (some (.inl (qg .i64 (s0 + 1))))
   (some (.inr (.inl v10))))
  (some (.inr (.inr s0)))
def qko (a0:Option (List Int)) (s0:Int):ASt:=⟨[(0,sl 1 qu a0,false),(3,.int .i64 s0,false)],[]⟩
def qor (a0:Option (List Int)):Int ⊕ Int→jg × ASt
 | .inl d=>(.ret,⟨[(2,.int .i64 d,false)],[]⟩)
 | .inr d=>(.exit 0,⟨[(0,sl 1 qu a0,false),(3,.int .i64 d,false),(7,.bool false,false)],[]⟩)
theorem jdt (a0:Option (List Int)) (s0:Int) (r) (h:qh0 a0 s0=some r):zd pr qfm (qko a0) (qor a0) s0 r:=by
 unfold qh0 at h
 rcases qb h with ⟨h9,h⟩ | ⟨h9,h⟩
 ·obtain ⟨v10,h11,h⟩:=qa h
  rcases qb h with ⟨h12,h⟩ | ⟨h12,h⟩
  ·cases h
   exact qo (st':=⟨[(0,sl 1 qu a0,false),(3,.int .i64 (qg .i64 (s0 + 1)),false)],[]⟩) (by simp only [go_sem,seval,qfm,qko,h9,qw h11,h12] <;> rfl) (jc (Nat.le_refl _))
  ·cases h
   exact qj (by simp only [go_sem,seval,qfm,qko,h9,qw h11,h12,qor] <;> rfl)
 ·cases h
  exact qj (by simp only [go_sem,seval,qfm,qko,h9,qor] <;> rfl)
theorem q3a (a0:Option (List Int)) {s0:Int} {d} (h:itO (qh0 a0) s0=some d):X pr (.loop qfm) (qko a0 s0)=some (qor a0 d):=zi (jdt a0) (fun d=>by rcases d with d|d <;> (intro hh; cases hh)) h
noncomputable def f100 (a0:Option (List Int)):Option Int:=
 qd (itO (qh0 a0) 0) fun d13=>match d13 with
  | .inl d15=>
   some d15
  | .inr d16=>
   some 0
theorem qxi {a0:Option (List Int)} {r} (h:f100 a0=some r):qc pr (X pr) 100 [sl 1 qu a0]=some (.int .i64 r,false):=by
 unfold f100 at h
 obtain ⟨d13,h14,h⟩:=qa h
 rcases d13 with d15 | d16
 ·have wh14:X pr (.loop qfm) ⟨[(0,sl 1 qu a0,false),(3,.int .i64 0,false)],[]⟩=some (.ret,⟨[(2,.int .i64 d15,false)],[]⟩):=q3a a0 h14
  have hr:d15=r:=Option.some.inj h
  subst hr
  refine qp rfl ?_ (fun _=>by first | rfl | simp only [go_sem,seval]) (by first | rfl | simp only [go_sem,seval])
  rw [qf (show pr.fns 100=some c100 from rfl) (by simp)]
  simp only [go_sem,seval,c100,wh14]
  exact ⟨_,rfl⟩
 ·have wh14:X pr (.loop qfm) ⟨[(0,sl 1 qu a0,false),(3,.int .i64 0,false)],[]⟩=some (.exit 0,⟨[(0,sl 1 qu a0,false),(3,.int .i64 d16,false),(7,.bool false,false)],[]⟩):=q3a a0 h14
  have hr:0=r:=Option.some.inj h
  subst hr
  refine qp rfl ?_ (fun _=>by first | rfl | simp only [go_sem,seval]) (by first | rfl | simp only [go_sem,seval])
  rw [qf (show pr.fns 100=some c100 from rfl) (by simp)]
  simp only [go_sem,seval,c100,wh14]
  exact ⟨_,rfl⟩
noncomputable def f40 (a0:Int) (a1:Int) (a2:Int):Option Int:=
 cond (decide (a0 < a1))
  (some 3)
  (cond (decide (a2 < a0))
   (some 3)
   (some 0))
theorem W40 {a0:Int} {a1:Int} {a2:Int} {r} (h:f40 a0 a1 a2=some r):qc pr (X pr) 40 [.int .i64 a0,.int .i64 a1,.int .i64 a2]=some (.int .i64 r,false):=by
 unfold f40 at h
 rcases qb h with ⟨h1,h⟩ | ⟨h1,h⟩
 ·have hr:3=r:=Option.some.inj h
  subst hr
  refine qp rfl ?_ (fun _=>by first | rfl | simp only [go_sem,seval]) (by first | rfl | simp only [go_sem,seval])
  rw [qf (show pr.fns 40=some c40 from rfl) (by simp)]
  simp only [go_sem,seval,c40,h1]
  exact ⟨_,rfl⟩
 ·rcases qb h with ⟨h2,h⟩ | ⟨h2,h⟩
  ·have hr:3=r:=Option.some.inj h
   subst hr
   refine qp rfl ?_ (fun _=>by first | rfl | simp only [go_sem,seval]) (by first | rfl | simp only [go_sem,seval])
   rw [qf (show pr.fns 40=some c40 from rfl) (by simp)]
   simp only [go_sem,seval,c40,h1,h2]
   exact ⟨_,rfl⟩
  ·have hr:0=r:=Option.some.inj h
   subst hr
   refine qp rfl ?_ (fun _=>by first | rfl | simp only [go_sem,seval]) (by first | rfl | simp only [go_sem,seval])
   rw [qf (show pr.fns 40=some c40 from rfl) (by simp)]
   simp only [go_sem,seval,c40,h1,h2]
   exact ⟨_,rfl⟩
noncomputable def qf7 (a0:List UInt8) (s0:Int):Option (Int ⊕ (Unit ⊕ Int)):=
 cond (decide (s0 < (a0.length:Int)))
  (qd (j7 a0 s0) fun v70=>
  cond (decide (65≤(v70.toNat:Int)))
   (cond (decide ((v70.toNat:Int)≤90))
    (cond (decide (48≤(v70.toNat:Int)))
     (cond (decide ((v70.toNat:Int)≤57))
      (some (.inl (qg .i64 (s0 + 1))))
      (some (.inl (qg .i64 (s0 + 1)))))
     (some (.inl (qg .i64 (s0 + 1)))))
    (cond (decide (97≤(v70.toNat:Int)))
     (cond (decide (48≤(v70.toNat:Int)))
      (cond (decide ((v70.toNat:Int)≤57))
       (cond (decide ((v70.toNat:Int)≤122))
        (some (.inl (qg .i64 (s0 + 1))))
        (cond (decide (s0=0))
         (some (.inr (.inl ())))
         (some (.inl (qg .i64 (s0 + 1))))))
       (cond (decide ((v70.toNat:Int)≤122))
        (some (.inl (qg .i64 (s0 + 1))))
        (cond (decide (s0=0))
         (some (.inr (.inl ())))
         (cond (decide ((v70.toNat:Int)=95))
          (some (.inl (qg .i64 (s0 + 1))))
          (some (.inr (.inl ())))))))
      (cond (decide ((v70.toNat:Int)≤122))
       (some (.inl (qg .i64 (s0 + 1))))
       (cond (decide (s0=0))
        (some (.inr (.inl ())))
        (cond (decide ((v70.toNat:Int)=95))
         (some (.inl (qg .i64 (s0 + 1))))
         (some (.inr (.inl ())))))))
     (cond (decide (48≤(v70.toNat:Int)))
      (cond (decide ((v70.toNat:Int)≤57))
       (cond (decide (s0=0))
        (some (.inr (.inl ())))
        (some (.inl (qg .i64 (s0 + 1)))))
       (cond (decide (s0=0))
        (some (.inr (.inl ())))
        (cond (decide ((v70.toNat:Int)=95))
         (some (.inl (qg .i64 (s0 + 1))))
         (some (.inr (.inl ()))))))
      (cond (decide (s0=0))
       (some (.inr (.inl ())))
       (cond (decide ((v70.toNat:Int)=95))
        (some (.inl (qg .i64 (s0 + 1))))
        (some (.inr (.inl ()))))))))
   (cond (decide (97≤(v70.toNat:Int)))
    (cond (decide (48≤(v70.toNat:Int)))
     (cond (decide ((v70.toNat:Int)≤57))
      (cond (decide ((v70.toNat:Int)≤122))
       (some (.inl (qg .i64 (s0 + 1))))
       (cond (decide (s0=0))
        (some (.inr (.inl ())))
        (some (.inl (qg .i64 (s0 + 1))))))
      (cond (decide ((v70.toNat:Int)≤122))
       (some (.inl (qg .i64 (s0 + 1))))
       (cond (decide (s0=0))
        (some (.inr (.inl ())))
        (cond (decide ((v70.toNat:Int)=95))
         (some (.inl (qg .i64 (s0 + 1))))
         (some (.inr (.inl ())))))))
     (cond (decide ((v70.toNat:Int)≤122))
      (some (.inl (qg .i64 (s0 + 1))))
      (cond (decide (s0=0))
       (some (.inr (.inl ())))
       (cond (decide ((v70.toNat:Int)=95))
        (some (.inl (qg .i64 (s0 + 1))))
        (some (.inr (.inl ())))))))
    (cond (decide (48≤(v70.toNat:Int)))
     (cond (decide ((v70.toNat:Int)≤57))
      (cond (decide (s0=0))
       (some (.inr (.inl ())))
       (some (.inl (qg .i64 (s0 + 1)))))
      (cond (decide (s0=0))
       (some (.inr (.inl ())))
       (cond (decide ((v70.toNat:Int)=95))
        (some (.inl (qg .i64 (s0 + 1))))
        (some (.inr (.inl ()))))))
     (cond (decide (s0=0))
      (some (.inr (.inl ())))
      (cond (decide ((v70.toNat:Int)=95))
       (some (.inl (qg .i64 (s0 + 1))))
       (some (.inr (.inl ()))))))))
  (some (.inr (.inr s0)))
def j8 (a0:List UInt8) (s0:Int):ASt:=⟨[(0,.str a0,false),(3,.int .i64 s0,false)],[]⟩
def yr (a0:List UInt8):Unit ⊕ Int→jg × ASt
 | .inl d=>(.ret,⟨[(2,.bool false,false)],[]⟩)
 | .inr d=>(.exit 0,⟨[(0,.str a0,false),(3,.int .i64 d,false),(17,.bool false,false)],[]⟩)
theorem jbs (a0:List UInt8) (s0:Int) (r) (h:qf7 a0 s0=some r):zd pr ze (j8 a0) (yr a0) s0 r:=by
 unfold qf7 at h
 rcases qb h with ⟨h69,h⟩ | ⟨h69,h⟩
 ·obtain ⟨v70,h71,h⟩:=qa h
  rcases qb h with ⟨h72,h⟩ | ⟨h72,h⟩
  ·rcases qb h with ⟨h73,h⟩ | ⟨h73,h⟩
   ·rcases qb h with ⟨h74,h⟩ | ⟨h74,h⟩
    ·rcases qb h with ⟨h75,h⟩ | ⟨h75,h⟩
     ·cases h
      exact qo (st':=⟨[(0,.str a0,false),(3,.int .i64 (qg .i64 (s0 + 1)),false)],[]⟩) (by simp only [go_sem,seval,ze,j8,h69,j4 h71,h72,h73,h74,h75] <;> rfl) (jc (Nat.le_refl _))
     ·cases h
      exact qo (st':=⟨[(0,.str a0,false),(3,.int .i64 (qg .i64 (s0 + 1)),false)],[]⟩) (by simp only [go_sem,seval,ze,j8,h69,j4 h71,h72,h73,h74,h75] <;> rfl) (jc (Nat.le_refl _))
    ·cases h
     exact qo (st':=⟨[(0,.str a0,false),(3,.int .i64 (qg .i64 (s0 + 1)),false)],[]⟩) (by simp only [go_sem,seval,ze,j8,h69,j4 h71,h72,h73,h74] <;> rfl) (jc (Nat.le_refl _))
   ·rcases qb h with ⟨h76,h⟩ | ⟨h76,h⟩
    ·rcases qb h with ⟨h77,h⟩ | ⟨h77,h⟩
     ·rcases qb h with ⟨h78,h⟩ | ⟨h78,h⟩
      ·rcases qb h with ⟨h79,h⟩ | ⟨h79,h⟩
       ·cases h
        exact qo (st':=⟨[(0,.str a0,false),(3,.int .i64 (qg .i64 (s0 + 1)),false)],[]⟩) (by simp only [go_sem,seval,ze,j8,h69,j4 h71,h72,h73,h76,h77,h78,h79] <;> rfl) (jc (Nat.le_refl _))
       ·rcases qb h with ⟨h80,h⟩ | ⟨h80,h⟩
        ·cases h
         exact qj (by simp only [go_sem,seval,ze,j8,h69,j4 h71,h72,h73,h76,h77,h78,h79,h80,yr] <;> rfl)
        ·cases h
         exact qo (st':=⟨[(0,.str a0,false),(3,.int .i64 (qg .i64 (s0 + 1)),false)],[]⟩) (by simp only [go_sem,seval,ze,j8,h69,j4 h71,h72,h73,h76,h77,h78,h79,h80] <;> rfl) (jc (Nat.le_refl _))
      ·rcases qb h with ⟨h81,h⟩ | ⟨h81,h⟩
       ·cases h
        exact qo (st':=⟨[(0,.str a0,false),(3,.int .i64 (qg .i64 (s0 + 1)),false)],[]⟩) (by simp only [go_sem,seval,ze,j8,h69,j4 h71,h72,h73,h76,h77,h78,h81] <;> rfl) (jc (Nat.le_refl _))
       ·rcases qb h with ⟨h82,h⟩ | ⟨h82,h⟩
        ·cases h
         exact qj (by simp only [go_sem,seval,ze,j8,h69,j4 h71,h72,h73,h76,h77,h78,h81,h82,yr] <;> rfl)
        ·rcases qb h with ⟨h83,h⟩ | ⟨h83,h⟩
         ·cases h
          exact qo (st':=⟨[(0,.str a0,false),(3,.int .i64 (qg .i64 (s0 + 1)),false)],[]⟩) (by simp only [go_sem,seval,ze,j8,h69,j4 h71,h72,h73,h76,h77,h78,h81,h82,h83] <;> rfl) (jc (Nat.le_refl _))
         ·cases h
          exact qj (by simp only [go_sem,seval,ze,j8,h69,j4 h71,h72,h73,h76,h77,h78,h81,h82,h83,yr] <;> rfl)
     ·rcases qb h with ⟨h84,h⟩ | ⟨h84,h⟩
      ·cases h
       exact qo (st':=⟨[(0,.str a0,false),(3,.int .i64 (qg .i64 (s0 + 1)),false)],[]⟩) (by simp only [go_sem,seval,ze,j8,h69,j4 h71,h72,h73,h76,h77,h84] <;> rfl) (jc (Nat.le_refl _))
      ·rcases qb h with ⟨h85,h⟩ | ⟨h85,h⟩
       ·cases h
        exact qj (by simp only [go_sem,seval,ze,j8,h69,j4 h71,h72,h73,h76,h77,h84,h85,yr] <;> rfl)
       ·rcases qb h with ⟨h86,h⟩ | ⟨h86,h⟩
        ·cases h
         exact qo (st':=⟨[(0,.str a0,false),(3,.int .i64 (qg .i64 (s0 + 1)),false)],[]⟩) (by simp only [go_sem,seval,ze,j8,h69,j4 h71,h72,h73,h76,h77,h84,h85,h86] <;> rfl) (jc (Nat.le_refl _))
        ·cases h
         exact qj (by simp only [go_sem,seval,ze,j8,h69,j4 h71,h72,h73,h76,h77,h84,h85,h86,yr] <;> rfl)
    ·rcases qb h with ⟨h87,h⟩ | ⟨h87,h⟩
     ·rcases qb h with ⟨h88,h⟩ | ⟨h88,h⟩
      ·rcases qb h with ⟨h89,h⟩ | ⟨h89,h⟩
       ·cases h
        exact qj (by simp only [go_sem,seval,ze,j8,h69,j4 h71,h72,h73,h76,h87,h88,h89,yr] <;> rfl)
       ·cases h
        exact qo (st':=⟨[(0,.str a0,false),(3,.int .i64 (qg .i64 (s0 + 1)),false)],[]⟩) (by simp only [go_sem,seval,ze,j8,h69,j4 h71,h72,h73,h76,h87,h88,h89] <;> rfl) (jc (Nat.le_refl _))
      ·rcases qb h with ⟨h90,h⟩ | ⟨h90,h⟩
       ·cases h
        exact qj (by simp only [go_sem,seval,ze,j8,h69,j4 h71,h72,h73,h76,h87,h88,h90,yr] <;> rfl)
       ·rcases qb h with ⟨h91,h⟩ | ⟨h91,h⟩
        ·cases h
         exact qo (st':=⟨[(0,.str a0,false),(3,.int .i64 (qg .i64 (s0 + 1)),false)],[]⟩) (by simp only [go_sem,seval,ze,j8,h69,j4 h71,h72,h73,h76,h87,h88,h90,h91] <;> rfl) (jc (Nat.le_refl _))
        ·cases h
         exact qj (by simp only [go_sem,seval,ze,j8,h69,j4 h71,h72,h73,h76,h87,h88,h90,h91,yr] <;> rfl)
     ·rcases qb h with ⟨h92,h⟩ | ⟨h92,h⟩
      ·cases h
       exact qj (by simp only [go_sem,seval,ze,j8,h69,j4 h71,h72,h73,h76,h87,h92,yr] <;> rfl)
      ·rcases qb h with ⟨h93,h⟩ | ⟨h93,h⟩
       ·cases h
        exact qo (st':=⟨[(0,.str a0,false),(3,.int .i64 (qg .i64 (s0 + 1)),false)],[]⟩) (by simp only [go_sem,seval,ze,j8,h69,j4 h71,h72,h73,h76,h87,h92,h93] <;> rfl) (jc (Nat.le_refl _))
       ·cases h
        exact qj (by simp only [go_sem,seval,ze,j8,h69,j4 h71,h72,h73,h76,h87,h92,h93,yr] <;> rfl)
  ·rcases qb h with ⟨h94,h⟩ | ⟨h94,h⟩
   ·rcases qb h with ⟨h95,h⟩ | ⟨h95,h⟩
    ·rcases qb h with ⟨h96,h⟩ | ⟨h96,h⟩
     ·rcases qb h with ⟨h97,h⟩ | ⟨h97,h⟩
      ·cases h
       exact qo (st':=⟨[(0,.str a0,false),(3,.int .i64 (qg .i64 (s0 + 1)),false)],[]⟩) (by simp only [go_sem,seval,ze,j8,h69,j4 h71,h72,h94,h95,h96,h97] <;> rfl) (jc (Nat.le_refl _))
      ·rcases qb h with ⟨h98,h⟩ | ⟨h98,h⟩
       ·cases h
        exact qj (by simp only [go_sem,seval,ze,j8,h69,j4 h71,h72,h94,h95,h96,h97,h98,yr] <;> rfl)
       ·cases h
        exact qo (st':=⟨[(0,.str a0,false),(3,.int .i64 (qg .i64 (s0 + 1)),false)],[]⟩) (by simp only [go_sem,seval,ze,j8,h69,j4 h71,h72,h94,h95,h96,h97,h98] <;> rfl) (jc (Nat.le_refl _))
     ·rcases qb h with ⟨h99,h⟩ | ⟨h99,h⟩
      ·cases h
       exact qo (st':=⟨[(0,.str a0,false),(3,.int .i64 (qg .i64 (s0 + 1)),false)],[]⟩) (by simp only [go_sem,seval,ze,j8,h69,j4 h71,h72,h94,h95,h96,h99] <;> rfl) (jc (Nat.le_refl _))
      ·rcases qb h with ⟨h100,h⟩ | ⟨h100,h⟩
       ·cases h
        exact qj (by simp only [go_sem,seval,ze,j8,h69,j4 h71,h72,h94,h95,h96,h99,h100,yr] <;> rfl)
       ·rcases qb h with ⟨h101,h⟩ | ⟨h101,h⟩
        ·cases h
         exact qo (st':=⟨[(0,.str a0,false),(3,.int .i64 (qg .i64 (s0 + 1)),false)],[]⟩) (by simp only [go_sem,seval,ze,j8,h69,j4 h71,h72,h94,h95,h96,h99,h100,h101] <;> rfl) (jc (Nat.le_refl _))
        ·cases h
         exact qj (by simp only [go_sem,seval,ze,j8,h69,j4 h71,h72,h94,h95,h96,h99,h100,h101,yr] <;> rfl)
    ·rcases qb h with ⟨h102,h⟩ | ⟨h102,h⟩
     ·cases h
      exact qo (st':=⟨[(0,.str a0,false),(3,.int .i64 (qg .i64 (s0 + 1)),false)],[]⟩) (by simp only [go_sem,seval,ze,j8,h69,j4 h71,h72,h94,h95,h102] <;> rfl) (jc (Nat.le_refl _))
     ·rcases qb h with ⟨h103,h⟩ | ⟨h103,h⟩
      ·cases h
       exact qj (by simp only [go_sem,seval,ze,j8,h69,j4 h71,h72,h94,h95,h102,h103,yr] <;> rfl)
      ·rcases qb h with ⟨h104,h⟩ | ⟨h104,h⟩
       ·cases h
        exact qo (st':=⟨[(0,.str a0,false),(3,.int .i64 (qg .i64 (s0 + 1)),false)],[]⟩) (by simp only [go_sem,seval,ze,j8,h69,j4 h71,h72,h94,h95,h102,h103,h104] <;> rfl) (jc (Nat.le_refl _))
       ·cases h
        exact qj (by simp only [go_sem,seval,ze,j8,h69,j4 h71,h72,h94,h95,h102,h103,h104,yr] <;> rfl)
   ·rcases qb h with ⟨h105,h⟩ | ⟨h105,h⟩
    ·rcases qb h with ⟨h106,h⟩ | ⟨h106,h⟩
     ·rcases qb h with ⟨h107,h⟩ | ⟨h107,h⟩
      ·cases h
       exact qj (by simp only [go_sem,seval,ze,j8,h69,j4 h71,h72,h94,h105,h106,h107,yr] <;> rfl)
      ·cases h
       exact qo (st':=⟨[(0,.str a0,false),(3,.int .i64 (qg .i64 (s0 + 1)),false)],[]⟩) (by simp only [go_sem,seval,ze,j8,h69,j4 h71,h72,h94,h105,h106,h107] <;> rfl) (jc (Nat.le_refl _))
     ·rcases qb h with ⟨h108,h⟩ | ⟨h108,h⟩
      ·cases h
       exact qj (by simp only [go_sem,seval,ze,j8,h69,j4 h71,h72,h94,h105,h106,h108,yr] <;> rfl)
      ·rcases qb h with ⟨h109,h⟩ | ⟨h109,h⟩
       ·cases h
        exact qo (st':=⟨[(0,.str a0,false),(3,.int .i64 (qg .i64 (s0 + 1)),false)],[]⟩) (by simp only [go_sem,seval,ze,j8,h69,j4 h71,h72,h94,h105,h106,h108,h109] <;> rfl) (jc (Nat.le_refl _))
       ·cases h
        exact qj (by simp only [go_sem,seval,ze,j8,h69,j4 h71,h72,h94,h105,h106,h108,h109,yr] <;> rfl)
    ·rcases qb h with ⟨h110,h⟩ | ⟨h110,h⟩
     ·cases h
      exact qj (by simp only [go_sem,seval,ze,j8,h69,j4 h71,h72,h94,h105,h110,yr] <;> rfl)
     ·rcases qb h with ⟨h111,h⟩ | ⟨h111,h⟩
      ·cases h
       exact qo (st':=⟨[(0,.str a0,false),(3,.int .i64 (qg .i64 (s0 + 1)),false)],[]⟩) (by simp only [go_sem,seval,ze,j8,h69,j4 h71,h72,h94,h105,h110,h111] <;> rfl) (jc (Nat.le_refl _))
      ·cases h
       exact qj (by simp only [go_sem,seval,ze,j8,h69,j4 h71,h72,h94,h105,h110,h111,yr] <;> rfl)
 ·cases h
  exact qj (by simp only [go_sem,seval,ze,j8,h69,yr] <;> rfl)
theorem q3g (a0:List UInt8) {s0:Int} {d} (h:itO (qf7 a0) s0=some d):X pr (.loop ze) (j8 a0 s0)=some (yr a0 d):=zi (jbs a0) (fun d=>by rcases d with d|d <;> (intro hh; cases hh)) h
noncomputable def f102 (a0:List UInt8):Option Bool:=
 cond (decide ((a0.length:Int)=0))
  (some false)
  (cond (decide (24 < (a0.length:Int)))
   (some false)
   (qd (itO (qf7 a0) 0) fun d112=>match d112 with
    | .inl d114=>
     some false
    | .inr d115=>
     some true))
theorem jr2 {a0:List UInt8} {r} (h:f102 a0=some r):qc pr (X pr) 102 [.str a0]=some (.bool r,false):=by
 unfold f102 at h
 rcases qb h with ⟨h1,h⟩ | ⟨h1,h⟩
 ·have hr:false=r:=Option.some.inj h
  subst hr
  refine qp rfl ?_ (fun _=>by first | rfl | simp only [go_sem,seval]) (by first | rfl | simp only [go_sem,seval])
  rw [qf (show pr.fns 102=some c102 from rfl) (by simp)]
  simp only [go_sem,seval,c102,h1]
  exact ⟨_,rfl⟩
 ·rcases qb h with ⟨h2,h⟩ | ⟨h2,h⟩
  ·have hr:false=r:=Option.some.inj h
   subst hr
   refine qp rfl ?_ (fun _=>by first | rfl | simp only [go_sem,seval]) (by first | rfl | simp only [go_sem,seval])
   rw [qf (show pr.fns 102=some c102 from rfl) (by simp)]
   simp only [go_sem,seval,c102,h1,h2]
   exact ⟨_,rfl⟩
  ·obtain ⟨d112,h113,h⟩:=qa h
   rcases d112 with d114 | d115
   ·have wh113:X pr (.loop ze) ⟨[(0,.str a0,false),(3,.int .i64 0,false)],[]⟩=some (.ret,⟨[(2,.bool false,false)],[]⟩):=q3g a0 h113
    have hr:false=r:=Option.some.inj h
    subst hr
    refine qp rfl ?_ (fun _=>by first | rfl | simp only [go_sem,seval]) (by first | rfl | simp only [go_sem,seval])
    rw [qf (show pr.fns 102=some c102 from rfl) (by simp)]
    simp only [go_sem,seval,c102,h1,h2,wh113]
    exact ⟨_,rfl⟩
   ·have wh113:X pr (.loop ze) ⟨[(0,.str a0,false),(3,.int .i64 0,false)],[]⟩=some (.exit 0,⟨[(0,.str a0,false),(3,.int .i64 d115,false),(17,.bool false,false)],[]⟩):=q3g a0 h113
    have hr:true=r:=Option.some.inj h
    subst hr
    refine qp rfl ?_ (fun _=>by first | rfl | simp only [go_sem,seval]) (by first | rfl | simp only [go_sem,seval])
    rw [qf (show pr.fns 102=some c102 from rfl) (by simp)]
    simp only [go_sem,seval,c102,h1,h2,wh113]
    exact ⟨_,rfl⟩
noncomputable def qia (a0:Option (List (List UInt8))) (a1:List UInt8) (s0:Int):Option (Int ⊕ (Unit ⊕ Int)):=
 cond (decide (s0 < ((a0.getD []).length:Int)))
  (qd (j7 (a0.getD []) s0) fun v10=>
  cond (decide (v10=a1))
   (some (.inr (.inl ())))
   (some (.inl (qg .i64 (s0 + 1)))))
  (some (.inr (.inr s0)))
def qkr (a0:Option (List (List UInt8))) (a1:List UInt8) (s0:Int):ASt:=⟨[(0,sl 1 qae a0,false),(1,.str a1,false),(5,.int .i64 s0,false)],[]⟩
def qn9 (a0:Option (List (List UInt8))) (a1:List UInt8):Unit ⊕ Int→jg × ASt
 | .inl d=>(.ret,⟨[(4,.bool true,false)],[]⟩)
 | .inr d=>(.exit 0,⟨[(0,sl 1 qae a0,false),(1,.str a1,false),(5,.int .i64 d,false),(9,.bool false,false)],[]⟩)
theorem jb0 (a0:Option (List (List UInt8))) (a1:List UInt8) (s0:Int) (r) (h:qia a0 a1 s0=some r):zd pr qf6 (qkr a0 a1) (qn9 a0 a1) s0 r:=by
 unfold qia at h
 rcases qb h with ⟨h9,h⟩ | ⟨h9,h⟩
 ·obtain ⟨v10,h11,h⟩:=qa h
  rcases qb h with ⟨h12,h⟩ | ⟨h12,h⟩
  ·cases h
   exact qj (by simp only [go_sem,seval,qf6,qkr,h9,qw h11,h12,qn9] <;> rfl)
  ·cases h
   exact qo (st':=⟨[(0,sl 1 qae a0,false),(1,.str a1,false),(5,.int .i64 (qg .i64 (s0 + 1)),false)],[]⟩) (by simp only [go_sem,seval,qf6,qkr,h9,qw h11,h12] <;> rfl) (jc (Nat.le_refl _))
 ·cases h
  exact qj (by simp only [go_sem,seval,qf6,qkr,h9,qn9] <;> rfl)
theorem q32 (a0:Option (List (List UInt8))) (a1:List UInt8) {s0:Int} {d} (h:itO (qia a0 a1) s0=some d):X pr (.loop qf6) (qkr a0 a1 s0)=some (qn9 a0 a1 d):=zi (jb0 a0 a1) (fun d=>by rcases d with d|d <;> (intro hh; cases hh)) h
noncomputable def f191 (a0:Option (List (List UInt8))) (a1:List UInt8):Option Bool:=
 qd (itO (qia a0 a1) 0) fun d13=>match d13 with
  | .inl d15=>
   some true
  | .inr d16=>
   some false
theorem jtb {a0:Option (List (List UInt8))} {a1:List UInt8} {r} (h:f191 a0 a1=some r):qc pr (X pr) 191 [sl 1 qae a0,.str a1]=some (.bool r,false):=by
 unfold f191 at h
 obtain ⟨d13,h14,h⟩:=qa h
 rcases d13 with d15 | d16
 ·have wh14:X pr (.loop qf6) ⟨[(0,sl 1 qae a0,false),(1,.str a1,false),(5,.int .i64 0,false)],[]⟩=some (.ret,⟨[(4,.bool true,false)],[]⟩):=q32 a0 a1 h14
  have hr:true=r:=Option.some.inj h
  subst hr
  refine qp rfl ?_ (fun _=>by first | rfl | simp only [go_sem,seval]) (by first | rfl | simp only [go_sem,seval])
  rw [qf (show pr.fns 191=some c191 from rfl) (by simp)]
  simp only [go_sem,seval,c191,wh14]
  exact ⟨_,rfl⟩
 ·have wh14:X pr (.loop qf6) ⟨[(0,sl 1 qae a0,false),(1,.str a1,false),(5,.int .i64 0,false)],[]⟩=some (.exit 0,⟨[(0,sl 1 qae a0,false),(1,.str a1,false),(5,.int .i64 d16,false),(9,.bool false,false)],[]⟩):=q32 a0 a1 h14
  have hr:false=r:=Option.some.inj h
  subst hr
  refine qp rfl ?_ (fun _=>by first | rfl | simp only [go_sem,seval]) (by first | rfl | simp only [go_sem,seval])
  rw [qf (show pr.fns 191=some c191 from rfl) (by simp)]
  simp only [go_sem,seval,c191,wh14]
  exact ⟨_,rfl⟩
noncomputable def f192:Option (Option (List (List UInt8))):=
 some (some [([98,108,111,99,107]:List UInt8),([115,101,114,105,101,115]:List UInt8),([115,104,117,110,116]:List UInt8),([116,114,97,112]:List UInt8)])
theorem qr2 {r} (h:f192=some r):qc pr (X pr) 192 []=some (sl 1 qae r,true):=by
 unfold f192 at h
 have hr:some [([98,108,111,99,107]:List UInt8),([115,101,114,105,101,115]:List UInt8),([115,104,117,110,116]:List UInt8),([116,114,97,112]:List UInt8)]=r:=Option.some.inj h
 subst hr
 have this:∃ hh,jl pr (X pr) 192 [] []=some (.list false 1 [.str ([98,108,111,99,107]:List UInt8),.str ([115,101,114,105,101,115]:List UInt8),.str ([115,104,117,110,116]:List UInt8),.str ([116,114,97,112]:List UInt8)],true,hh):=by
  rw [qf (show pr.fns 192=some c192 from rfl) (by simp)]
  simp only [go_sem,seval,c192]
  exact ⟨_,rfl⟩
 obtain ⟨hh,this⟩:=this
 exact zt rfl this (by first | rfl | simp only [go_sem,seval]) (by first | rfl | simp only [go_sem,seval]) (by first | rfl | simp only [go_sem,seval])
noncomputable def f55 (a0:List UInt8):Option Bool:=
 cond (decide (a0=([98,108,111,99,107]:List UInt8)))
  (some true)
  (some (decide (a0=([116,114,97,112]:List UInt8))))
theorem W55 {a0:List UInt8} {r} (h:f55 a0=some r):qc pr (X pr) 55 [.str a0]=some (.bool r,false):=by
 unfold f55 at h
 rcases qb h with ⟨h1,h⟩ | ⟨h1,h⟩
 ·have hr:true=r:=Option.some.inj h
  subst hr
  refine qp rfl ?_ (fun _=>by first | rfl | simp only [go_sem,seval]) (by first | rfl | simp only [go_sem,seval])
  rw [qf (show pr.fns 55=some c55 from rfl) (by simp)]
  simp only [go_sem,seval,c55,h1]
  exact ⟨_,rfl⟩
 ·have hr:decide (a0=([116,114,97,112]:List UInt8))=r:=Option.some.inj h
  subst hr
  refine qp rfl ?_ (fun _=>by first | rfl | simp only [go_sem,seval]) (by first | rfl | simp only [go_sem,seval])
  rw [qf (show pr.fns 55=some c55 from rfl) (by simp)]
  simp only [go_sem,seval,c55,h1]
  exact ⟨_,rfl⟩
noncomputable def f157 (a0:GEl):Option Int:=
 qd (f192) fun v1=>
 qd (f191 v1 a0.kind) fun v3=>
 cond v3
  (qd (f40 a0.a 0 8) fun v6=>
  qd (f40 a0.b 0 8) fun v8=>
  qd (f100 (some [v6,v8])) fun v10=>
  cond (decide (v10=0))
   (qd (f55 a0.kind) fun v13=>
   cond v13
    (cond (decide (a0.a=0))
     (cond (decide (a0.b=0))
      (some 6)
      (some 0))
     (some 0))
    (some 0))
   (some v10))
  (some 13)
theorem jpj {a0:GEl} {r} (h:f157 a0=some r):qc pr (X pr) 157 [.agg [.str a0.kind,.int .i64 a0.a,.int .i64 a0.b]]=some (.int .i64 r,false):=by
 unfold f157 at h
 obtain ⟨v1,h2,h⟩:=qa h
 obtain ⟨v3,h4,h⟩:=qa h
 have wh4:qc pr (X pr) 191 [sl 1 qae v1,.str a0.kind]=some (.bool v3,false):=jtb h4
 rcases qb h with ⟨h5,h⟩ | ⟨h5,h⟩
 ·obtain ⟨v6,h7,h⟩:=qa h
  have wh7:qc pr (X pr) 40 [.int .i64 a0.a,.int .i64 0,.int .i64 8]=some (.int .i64 v6,false):=W40 h7
  obtain ⟨v8,h9,h⟩:=qa h
  have wh9:qc pr (X pr) 40 [.int .i64 a0.b,.int .i64 0,.int .i64 8]=some (.int .i64 v8,false):=W40 h9
  obtain ⟨v10,h11,h⟩:=qa h
  have wh11:qc pr (X pr) 100 [.list false 1 [.int .i64 v6,.int .i64 v8]]=some (.int .i64 v10,false):=qxi h11
  rcases qb h with ⟨h12,h⟩ | ⟨h12,h⟩
  ·obtain ⟨v13,h14,h⟩:=qa h
   have wh14:qc pr (X pr) 55 [.str a0.kind]=some (.bool v13,false):=W55 h14
   rcases qb h with ⟨h15,h⟩ | ⟨h15,h⟩
   ·rcases qb h with ⟨h16,h⟩ | ⟨h16,h⟩
    ·rcases qb h with ⟨h17,h⟩ | ⟨h17,h⟩
     ·have hr:6=r:=Option.some.inj h
      subst hr
      refine qp rfl ?_ (fun _=>by first | rfl | simp only [go_sem,seval]) (by first | rfl | simp only [go_sem,seval])
      rw [qf (show pr.fns 157=some c157 from rfl) (by simp)]
      simp only [go_sem,seval,c157,qr2 h2,wh4,h5,wh7,wh9,wh11,h12,wh14,h15,h16,h17]
      exact ⟨_,rfl⟩
     ·have hr:0=r:=Option.some.inj h
      subst hr
      refine qp rfl ?_ (fun _=>by first | rfl | simp only [go_sem,seval]) (by first | rfl | simp only [go_sem,seval])
      rw [qf (show pr.fns 157=some c157 from rfl) (by simp)]
      simp only [go_sem,seval,c157,qr2 h2,wh4,h5,wh7,wh9,wh11,h12,wh14,h15,h16,h17]
      exact ⟨_,rfl⟩
    ·have hr:0=r:=Option.some.inj h
     subst hr
     refine qp rfl ?_ (fun _=>by first | rfl | simp only [go_sem,seval]) (by first | rfl | simp only [go_sem,seval])
     rw [qf (show pr.fns 157=some c157 from rfl) (by simp)]
     simp only [go_sem,seval,c157,qr2 h2,wh4,h5,wh7,wh9,wh11,h12,wh14,h15,h16]
     exact ⟨_,rfl⟩
   ·have hr:0=r:=Option.some.inj h
    subst hr
    refine qp rfl ?_ (fun _=>by first | rfl | simp only [go_sem,seval]) (by first | rfl | simp only [go_sem,seval])
    rw [qf (show pr.fns 157=some c157 from rfl) (by simp)]
    simp only [go_sem,seval,c157,qr2 h2,wh4,h5,wh7,wh9,wh11,h12,wh14,h15]
    exact ⟨_,rfl⟩
  ·have hr:v10=r:=Option.some.inj h
   subst hr
   refine qp rfl ?_ (fun _=>by first | rfl | simp only [go_sem,seval]) (by first | rfl | simp only [go_sem,seval])
   rw [qf (show pr.fns 157=some c157 from rfl) (by simp)]
   simp only [go_sem,seval,c157,qr2 h2,wh4,h5,wh7,wh9,wh11,h12]
   exact ⟨_,rfl⟩
 ·have hr:13=r:=Option.some.inj h
  subst hr
  refine qp rfl ?_ (fun _=>by first | rfl | simp only [go_sem,seval]) (by first | rfl | simp only [go_sem,seval])
  rw [qf (show pr.fns 157=some c157 from rfl) (by simp)]
  simp only [go_sem,seval,c157,qr2 h2,wh4,h5]
  exact ⟨_,rfl⟩
noncomputable def qhd (a0:Option (List GEl)) (s0:Int):Option (Int ⊕ (Int ⊕ Int)):=
 cond (decide (s0 < ((a0.getD []).length:Int)))
  (qd (j7 (a0.getD []) s0) fun v15=>
  qd (f157 v15) fun v17=>
  cond (decide (v17=0))
   (some (.inl (qg .i64 (s0 + 1))))
   (some (.inr (.inl v17))))
  (some (.inr (.inr s0)))
def qjz (a0:Option (List GEl)) (s0:Int):ASt:=⟨[(0,sl 3 vel a0,false),(3,.int .i64 s0,false)],[]⟩
def qn2 (a0:Option (List GEl)):Int ⊕ Int→jg × ASt
 | .inl d=>(.ret,⟨[(2,.int .i64 d,false)],[]⟩)
 | .inr d=>(.exit 0,⟨[(0,sl 3 vel a0,false),(3,.int .i64 d,false),(11,.bool false,false)],[]⟩)
theorem jc0 (a0:Option (List GEl)) (s0:Int) (r) (h:qhd a0 s0=some r):zd pr qfz (qjz a0) (qn2 a0) s0 r:=by
 unfold qhd at h
 rcases qb h with ⟨h14,h⟩ | ⟨h14,h⟩
 ·obtain ⟨v15,h16,h⟩:=qa h
  obtain ⟨v17,h18,h⟩:=qa h
  have wh18:qc pr (X pr) 157 [.agg [.str v15.kind,.int .i64 v15.a,.int .i64 v15.b]]=some (.int .i64 v17,false):=jpj h18
  rcases qb h with ⟨h19,h⟩ | ⟨h19,h⟩
  ·cases h
   exact qo (st':=⟨[(0,sl 3 vel a0,false),(3,.int .i64 (qg .i64 (s0 + 1)),false)],[]⟩) (by simp only [go_sem,seval,qfz,qjz,h14,qw h16,wh18,h19] <;> rfl) (jc (Nat.le_refl _))
  ·cases h
   exact qj (by simp only [go_sem,seval,qfz,qjz,h14,qw h16,wh18,h19,qn2] <;> rfl)
 ·cases h
  exact qj (by simp only [go_sem,seval,qfz,qjz,h14,qn2] <;> rfl)
theorem q13 (a0:Option (List GEl)) {s0:Int} {d} (h:itO (qhd a0) s0=some d):X pr (.loop qfz) (qjz a0 s0)=some (qn2 a0 d):=zi (jc0 a0) (fun d=>by rcases d with d|d <;> (intro hh; cases hh)) h
noncomputable def f103 (a0:Option (List GEl)):Option Int:=
 cond (decide (5 < ((a0.getD []).length:Int)))
  (some 5)
  (qd (itO (qhd a0) 0) fun d20=>match d20 with
   | .inl d22=>
    some d22
   | .inr d23=>
    some 0)
theorem q6b {a0:Option (List GEl)} {r} (h:f103 a0=some r):qc pr (X pr) 103 [sl 3 vel a0]=some (.int .i64 r,false):=by
 unfold f103 at h
 rcases qb h with ⟨h1,h⟩ | ⟨h1,h⟩
 ·have hr:5=r:=Option.some.inj h
  subst hr
  refine qp rfl ?_ (fun _=>by first | rfl | simp only [go_sem,seval]) (by first | rfl | simp only [go_sem,seval])
  rw [qf (show pr.fns 103=some c103 from rfl) (by simp)]
  simp only [go_sem,seval,c103,h1]
  exact ⟨_,rfl⟩
 ·obtain ⟨d20,h21,h⟩:=qa h
  rcases d20 with d22 | d23
  ·have wh21:X pr (.loop qfz) ⟨[(0,sl 3 vel a0,false),(3,.int .i64 0,false)],[]⟩=some (.ret,⟨[(2,.int .i64 d22,false)],[]⟩):=q13 a0 h21
   have hr:d22=r:=Option.some.inj h
   subst hr
   refine qp rfl ?_ (fun _=>by first | rfl | simp only [go_sem,seval]) (by first | rfl | simp only [go_sem,seval])
   rw [qf (show pr.fns 103=some c103 from rfl) (by simp)]
   simp only [go_sem,seval,c103,h1,wh21]
   exact ⟨_,rfl⟩
  ·have wh21:X pr (.loop qfz) ⟨[(0,sl 3 vel a0,false),(3,.int .i64 0,false)],[]⟩=some (.exit 0,⟨[(0,sl 3 vel a0,false),(3,.int .i64 d23,false),(11,.bool false,false)],[]⟩):=q13 a0 h21
   have hr:0=r:=Option.some.inj h
   subst hr
   refine qp rfl ?_ (fun _=>by first | rfl | simp only [go_sem,seval]) (by first | rfl | simp only [go_sem,seval])
   rw [qf (show pr.fns 103=some c103 from rfl) (by simp)]
   simp only [go_sem,seval,c103,h1,wh21]
   exact ⟨_,rfl⟩
noncomputable def qib (a0:qi) (s0:(Option (List GEl)) × Int × Bool) (s1:(Option (List GEl)) × Int × Bool):Option (((Option (List GEl)) × Int × Bool) ⊕ (((Option (List GEl)) × Bool × Int))):=
 cond (decide (s1.2.1≤(qg .i64 (a0.pb + a0.sb))))
  (cond s1.2.2
   (qd (apO s1.1 [⟨a0.kd,s0.2.1,s1.2.1⟩]) fun v60=>
   some (.inl (v60,qg .i64 (s1.2.1 + 1),true)))
   (cond s1.1.isNone
    (qd (apO s1.1 [⟨a0.kd,s0.2.1,s1.2.1⟩]) fun v63=>
    some (.inl (v63,qg .i64 (s1.2.1 + 1),true)))
    (none)))
  (some (.inr (s1.1,s1.2.2,s1.2.1)))
def qks (a0:qi) (s0:(Option (List GEl)) × Int × Bool) (s1:(Option (List GEl)) × Int × Bool):ASt:=⟨[(1,.vptr (.agg [.str a0.name,.str a0.kd,.int .i64 a0.pa,.int .i64 a0.pb,.int .i64 a0.sa,.int .i64 a0.sb,.int .i64 a0.cost,.int .i64 a0.stock]),false),(3,sl 3 vel s1.1,s1.2.2),(4,.int .i64 s0.2.1,false),(5,.int .i64 s1.2.1,false)],[]⟩
def qsb (a0:qi) (s0:(Option (List GEl)) × Int × Bool) (d:((Option (List GEl)) × Bool × Int)):jg × ASt:=(.exit 2,⟨[(1,.vptr (.agg [.str a0.name,.str a0.kd,.int .i64 a0.pa,.int .i64 a0.pb,.int .i64 a0.sa,.int .i64 a0.sb,.int .i64 a0.cost,.int .i64 a0.stock]),false),(3,sl 3 vel d.1,d.2.1),(4,.int .i64 s0.2.1,false),(5,.int .i64 d.2.2,false),(35,.bool false,false)],[]⟩)
theorem jce (a0:qi) (s0:(Option (List GEl)) × Int × Bool) (s1:(Option (List GEl)) × Int × Bool) (r) (h:qib a0 s0 s1=some r):zd pr qh9 (qks a0 s0) (qsb a0 s0) s1 r:=by
 unfold qib at h
 rcases qb h with ⟨h58,h⟩ | ⟨h58,h⟩
 ·rcases qb h with ⟨h59,h⟩ | ⟨h59,h⟩
  ·obtain ⟨v60,h61,h⟩:=qa h
   cases h
   exact qo (st':=⟨[(1,.vptr (.agg [.str a0.name,.str a0.kd,.int .i64 a0.pa,.int .i64 a0.pb,.int .i64 a0.sa,.int .i64 a0.sb,.int .i64 a0.cost,.int .i64 a0.stock]),false),(3,sl 3 vel v60,true),(4,.int .i64 s0.2.1,false),(5,.int .i64 (qg .i64 (s1.2.1 + 1)),false)],[]⟩) (by simp only [go_sem,seval,qh9,qks,h58,h59,qay h61] <;> rfl) (jc (Nat.le_refl _))
  ·rcases qb h with ⟨h62,h⟩ | ⟨h62,h⟩
   ·obtain ⟨v63,h64,h⟩:=qa h
    cases h
    exact qo (st':=⟨[(1,.vptr (.agg [.str a0.name,.str a0.kd,.int .i64 a0.pa,.int .i64 a0.pb,.int .i64 a0.sa,.int .i64 a0.sb,.int .i64 a0.cost,.int .i64 a0.stock]),false),(3,sl 3 vel v63,true),(4,.int .i64 s0.2.1,false),(5,.int .i64 (qg .i64 (s1.2.1 + 1)),false)],[]⟩) (by simp only [go_sem,seval,qh9,qks,h58,h59,h62,qfy h64 h62] <;> rfl) (jc (Nat.le_refl _))
   ·cases h
 ·cases h
  exact qj (by simp only [go_sem,seval,qh9,qks,h58,qsb] <;> rfl)
theorem jdq (a0:qi) (s0:(Option (List GEl)) × Int × Bool) {s1:(Option (List GEl)) × Int × Bool} {d} (h:itO (qib a0 s0) s1=some d):X pr (.loop qh9) (qks a0 s0 s1)=some (qsb a0 s0 d):=zi (jce a0 s0) (fun d hh=>by cases hh) h
noncomputable def qhl (a0:qi) (s0:(Option (List GEl)) × Int × Bool):Option (((Option (List GEl)) × Int × Bool) ⊕ (((Option (List GEl)) × Bool × Int))):=
 cond (decide (s0.2.1≤(qg .i64 (a0.pa + a0.sa))))
  (qd (itO (qib a0 s0) (s0.1,qg .i64 (a0.pb - a0.sb),s0.2.2)) fun d65=>
  some (.inl (d65.1,qg .i64 (s0.2.1 + 1),d65.2.1)))
  (some (.inr (s0.1,s0.2.2,s0.2.1)))
def qn1 (a0:qi) (s0:(Option (List GEl)) × Int × Bool):ASt:=⟨[(1,.vptr (.agg [.str a0.name,.str a0.kd,.int .i64 a0.pa,.int .i64 a0.pb,.int .i64 a0.sa,.int .i64 a0.sb,.int .i64 a0.cost,.int .i64 a0.stock]),false),(3,sl 3 vel s0.1,s0.2.2),(4,.int .i64 s0.2.1,false)],[]⟩
def qs1 (a0:qi) (d:((Option (List GEl)) × Bool × Int)):jg × ASt:=(.exit 0,⟨[(1,.vptr (.agg [.str a0.name,.str a0.kd,.int .i64 a0.pa,.int .i64 a0.pb,.int .i64 a0.sa,.int .i64 a0.sb,.int .i64 a0.cost,.int .i64 a0.stock]),false),(3,sl 3 vel d.1,d.2.1),(4,.int .i64 d.2.2,false),(19,.bool false,false)],[]⟩)
theorem jdx (a0:qi) (s0:(Option (List GEl)) × Int × Bool) (r) (h:qhl a0 s0=some r):zd pr qjo (qn1 a0) (qs1 a0) s0 r:=by
 unfold qhl at h
 rcases qb h with ⟨h43,h⟩ | ⟨h43,h⟩
 ·obtain ⟨d65,h66,h⟩:=qa h
  have wh66:X pr (.loop qh9) ⟨[(1,.vptr (.agg [.str a0.name,.str a0.kd,.int .i64 a0.pa,.int .i64 a0.pb,.int .i64 a0.sa,.int .i64 a0.sb,.int .i64 a0.cost,.int .i64 a0.stock]),false),(3,sl 3 vel s0.1,s0.2.2),(4,.int .i64 s0.2.1,false),(5,.int .i64 (qg .i64 (a0.pb - a0.sb)),false)],[]⟩=some (.exit 2,⟨[(1,.vptr (.agg [.str a0.name,.str a0.kd,.int .i64 a0.pa,.int .i64 a0.pb,.int .i64 a0.sa,.int .i64 a0.sb,.int .i64 a0.cost,.int .i64 a0.stock]),false),(3,sl 3 vel d65.1,d65.2.1),(4,.int .i64 s0.2.1,false),(5,.int .i64 d65.2.2,false),(35,.bool false,false)],[]⟩):=jdq a0 s0 h66
  cases h
  exact qo (st':=⟨[(1,.vptr (.agg [.str a0.name,.str a0.kd,.int .i64 a0.pa,.int .i64 a0.pb,.int .i64 a0.sa,.int .i64 a0.sb,.int .i64 a0.cost,.int .i64 a0.stock]),false),(3,sl 3 vel d65.1,d65.2.1),(4,.int .i64 (qg .i64 (s0.2.1 + 1)),false)],[]⟩) (by simp only [go_sem,seval,qjo,qn1,h43,wh66] <;> rfl) (jc (Nat.le_refl _))
 ·cases h
  exact qj (by simp only [go_sem,seval,qjo,qn1,h43,qs1] <;> rfl)
theorem jbf (a0:qi) {s0:(Option (List GEl)) × Int × Bool} {d} (h:itO (qhl a0) s0=some d):X pr (.loop qjo) (qn1 a0 s0)=some (qs1 a0 d):=zi (jdx a0) (fun d hh=>by cases hh) h
noncomputable def f104 (a0:qi):Option ((Option (List GEl)) × Bool):=
 qd (itO (qhl a0) (none,qg .i64 (a0.pa - a0.sa),false)) fun d67=>
 some (d67.1,d67.2.1)
theorem q6t {a0:qi} {r} (h:f104 a0=some r):qc pr (X pr) 104 [.agg [.str a0.name,.str a0.kd,.int .i64 a0.pa,.int .i64 a0.pb,.int .i64 a0.sa,.int .i64 a0.sb,.int .i64 a0.cost,.int .i64 a0.stock]]=some (sl 3 vel r.1,r.2):=by
 unfold f104 at h
 obtain ⟨d67,h68,h⟩:=qa h
 have wh68:X pr (.loop qjo) ⟨[(1,.vptr (.agg [.str a0.name,.str a0.kd,.int .i64 a0.pa,.int .i64 a0.pb,.int .i64 a0.sa,.int .i64 a0.sb,.int .i64 a0.cost,.int .i64 a0.stock]),false),(3,.list true 0 [],false),(4,.int .i64 (qg .i64 (a0.pa - a0.sa)),false)],[]⟩=some (.exit 0,⟨[(1,.vptr (.agg [.str a0.name,.str a0.kd,.int .i64 a0.pa,.int .i64 a0.pb,.int .i64 a0.sa,.int .i64 a0.sb,.int .i64 a0.cost,.int .i64 a0.stock]),false),(3,sl 3 vel d67.1,d67.2.1),(4,.int .i64 d67.2.2,false),(19,.bool false,false)],[]⟩):=jbf a0 h68
 have hr:(d67.1,d67.2.1)=r:=Option.some.inj h
 subst hr
 have this:∃ hh,jl pr (X pr) 104 [.agg [.str a0.name,.str a0.kd,.int .i64 a0.pa,.int .i64 a0.pb,.int .i64 a0.sa,.int .i64 a0.sb,.int .i64 a0.cost,.int .i64 a0.stock]] []=some (sl 3 vel d67.1,d67.2.1,hh):=by
  rw [qf (show pr.fns 104=some c104 from rfl) (by simp)]
  simp only [go_sem,seval,c104,wh68]
  exact ⟨_,rfl⟩
 obtain ⟨hh,this⟩:=this
 exact zt rfl this (by first | rfl | simp only [go_sem,seval]) (by first | rfl | simp only [go_sem,seval]) (by first | rfl | simp only [go_sem,seval])
noncomputable def qlp (v18:(Option (List GEl)) × Bool) (s0:Int):Option (Int ⊕ (Unit ⊕ Int)):=
 cond (decide (s0 < ((v18.1.getD []).length:Int)))
  (qd (qof v18.1 (some s0) (some (qg .i64 (s0 + 1)))) fun v33=>
  qd (f103 v33) fun v35=>
  cond (decide (v35=0))
   (some (.inl (qg .i64 (s0 + 1))))
   (some (.inr (.inl ()))))
  (some (.inr (.inr s0)))
def qnb (v18:(Option (List GEl)) × Bool) (s0:Int):ASt:=⟨[(4,sl 3 vel v18.1,v18.2),(5,.int .i64 s0,false)],[]⟩
def qrc (v18:(Option (List GEl)) × Bool):Unit ⊕ Int→jg × ASt
 | .inl d=>(.ret,⟨[(2,.int .i64 1,false)],[]⟩)
 | .inr d=>(.exit 0,⟨[(4,sl 3 vel v18.1,v18.2),(5,.int .i64 d,false),(37,.bool false,false)],[]⟩)
theorem jhz (v18:(Option (List GEl)) × Bool) (s0:Int) (r) (h:qlp v18 s0=some r):zd pr qi5 (qnb v18) (qrc v18) s0 r:=by
 unfold qlp at h
 rcases qb h with ⟨h32,h⟩ | ⟨h32,h⟩
 ·obtain ⟨v33,h34,h⟩:=qa h
  obtain ⟨v35,h36,h⟩:=qa h
  rcases qb h with ⟨h37,h⟩ | ⟨h37,h⟩
  ·cases h
   exact qo (st':=⟨[(4,sl 3 vel v18.1,v18.2),(5,.int .i64 (qg .i64 (s0 + 1)),false)],[]⟩) (by simp only [go_sem,seval,qi5,qnb,h32,qvv h34,q6b h36,h37] <;> rfl) (jc (Nat.le_refl _))
  ·cases h
   exact qj (by simp only [go_sem,seval,qi5,qnb,h32,qvv h34,q6b h36,h37,qrc] <;> rfl)
 ·cases h
  exact qj (by simp only [go_sem,seval,qi5,qnb,h32,qrc] <;> rfl)
theorem q7x (v18:(Option (List GEl)) × Bool) {s0:Int} {d} (h:itO (qlp v18) s0=some d):X pr (.loop qi5) (qnb v18 s0)=some (qrc v18 d):=zi (jhz v18) (fun d=>by rcases d with d|d <;> (intro hh; cases hh)) h
noncomputable def f20 (a0:qi):Option Int:=
 qd (f102 a0.name) fun v1=>
 qd (f101 (!v1) 8) fun v3=>
 qd (f103 (some [⟨a0.kd,a0.pa,a0.pb⟩])) fun v5=>
 qd (f40 a0.sa 0 1) fun v7=>
 qd (f40 a0.sb 0 1) fun v9=>
 qd (f40 a0.cost 1 1000000) fun v11=>
 qd (f40 a0.stock 0 100) fun v13=>
 qd (f100 (some [v3,v5,v7,v9,v11,v13])) fun v15=>
 cond (decide (v15=0))
  (qd (f104 a0) fun v18=>
  qd (itO (qlp v18) 0) fun d38=>match d38 with
   | .inl d40=>
    some 1
   | .inr d41=>
    some 0)
  (some v15)
theorem W20 {a0:qi} {r} (h:f20 a0=some r):qc pr (X pr) 20 [.agg [.str a0.name,.str a0.kd,.int .i64 a0.pa,.int .i64 a0.pb,.int .i64 a0.sa,.int .i64 a0.sb,.int .i64 a0.cost,.int .i64 a0.stock]]=some (.int .i64 r,false):=by
 unfold f20 at h
 obtain ⟨v1,h2,h⟩:=qa h
 have wh2:qc pr (X pr) 102 [.str a0.name]=some (.bool v1,false):=jr2 h2
 obtain ⟨v3,h4,h⟩:=qa h
 have wh4:qc pr (X pr) 101 [.bool (!v1),.int .i64 8]=some (.int .i64 v3,false):=q44 h4
 obtain ⟨v5,h6,h⟩:=qa h
 have wh6:qc pr (X pr) 103 [.list false 3 [.agg [.str a0.kd,.int .i64 a0.pa,.int .i64 a0.pb]]]=some (.int .i64 v5,false):=q6b h6
 obtain ⟨v7,h8,h⟩:=qa h
 have wh8:qc pr (X pr) 40 [.int .i64 a0.sa,.int .i64 0,.int .i64 1]=some (.int .i64 v7,false):=W40 h8
 obtain ⟨v9,h10,h⟩:=qa h
 have wh10:qc pr (X pr) 40 [.int .i64 a0.sb,.int .i64 0,.int .i64 1]=some (.int .i64 v9,false):=W40 h10
 obtain ⟨v11,h12,h⟩:=qa h
 have wh12:qc pr (X pr) 40 [.int .i64 a0.cost,.int .i64 1,.int .i64 1000000]=some (.int .i64 v11,false):=W40 h12
 obtain ⟨v13,h14,h⟩:=qa h
 have wh14:qc pr (X pr) 40 [.int .i64 a0.stock,.int .i64 0,.int .i64 100]=some (.int .i64 v13,false):=W40 h14
 obtain ⟨v15,h16,h⟩:=qa h
 have wh16:qc pr (X pr) 100 [.list false 1 [.int .i64 v3,.int .i64 v5,.int .i64 v7,.int .i64 v9,.int .i64 v11,.int .i64 v13]]=some (.int .i64 v15,false):=qxi h16
 rcases qb h with ⟨h17,h⟩ | ⟨h17,h⟩
 ·obtain ⟨v18,h19,h⟩:=qa h
  have wh19:qc pr (X pr) 104 [.agg [.str a0.name,.str a0.kd,.int .i64 a0.pa,.int .i64 a0.pb,.int .i64 a0.sa,.int .i64 a0.sb,.int .i64 a0.cost,.int .i64 a0.stock]]=some (sl 3 vel v18.1,v18.2):=q6t h19
  obtain ⟨d38,h39,h⟩:=qa h
  rcases d38 with d40 | d41
  ·have wh39:X pr (.loop qi5) ⟨[(4,sl 3 vel v18.1,v18.2),(5,.int .i64 0,false)],[]⟩=some (.ret,⟨[(2,.int .i64 1,false)],[]⟩):=q7x v18 h39
   have hr:1=r:=Option.some.inj h
   subst hr
   refine qp rfl ?_ (fun _=>by first | rfl | simp only [go_sem,seval]) (by first | rfl | simp only [go_sem,seval])
   rw [qf (show pr.fns 20=some c20 from rfl) (by simp)]
   simp only [go_sem,seval,c20,wh2,wh4,wh6,wh8,wh10,wh12,wh14,wh16,h17,wh19,wh39]
   exact ⟨_,rfl⟩
  ·have wh39:X pr (.loop qi5) ⟨[(4,sl 3 vel v18.1,v18.2),(5,.int .i64 0,false)],[]⟩=some (.exit 0,⟨[(4,sl 3 vel v18.1,v18.2),(5,.int .i64 d41,false),(37,.bool false,false)],[]⟩):=q7x v18 h39
   have hr:0=r:=Option.some.inj h
   subst hr
   refine qp rfl ?_ (fun _=>by first | rfl | simp only [go_sem,seval]) (by first | rfl | simp only [go_sem,seval])
   rw [qf (show pr.fns 20=some c20 from rfl) (by simp)]
   simp only [go_sem,seval,c20,wh2,wh4,wh6,wh8,wh10,wh12,wh14,wh16,h17,wh19,wh39]
   exact ⟨_,rfl⟩
 ·have hr:v15=r:=Option.some.inj h
  subst hr
  refine qp rfl ?_ (fun _=>by first | rfl | simp only [go_sem,seval]) (by first | rfl | simp only [go_sem,seval])
  rw [qf (show pr.fns 20=some c20 from rfl) (by simp)]
  simp only [go_sem,seval,c20,wh2,wh4,wh6,wh8,wh10,wh12,wh14,wh16,h17]
  exact ⟨_,rfl⟩
noncomputable def ql4 (a0:Option (List qi)) (s0:Int) (s1:Int):Option (Int ⊕ (Unit ⊕ Int)):=
 cond (decide (s1 < s0))
  (qd (j7 (a0.getD []) s1) fun v55=>
  qd (j7 (a0.getD []) s0) fun v57=>
  cond (decide (v55.name=v57.name))
   (some (.inr (.inl ())))
   (some (.inl (qg .i64 (s1 + 1)))))
  (some (.inr (.inr s1)))
def qmq (a0:Option (List qi)) (s0:Int) (s1:Int):ASt:=⟨[(0,sl 8 qn a0,false),(3,.int .i64 s0,false),(5,.int .i64 s1,false)],[]⟩
def qq1 (a0:Option (List qi)) (s0:Int):Unit ⊕ Int→jg × ASt
 | .inl d=>(.ret,⟨[(2,.int .i64 9,false)],[]⟩)
 | .inr d=>(.exit 2,⟨[(0,sl 8 qn a0,false),(3,.int .i64 s0,false),(5,.int .i64 d,false),(25,.bool false,false)],[]⟩)
theorem jh5 (a0:Option (List qi)) (s0:Int) (s1:Int) (r) (h:ql4 a0 s0 s1=some r):zd pr qii (qmq a0 s0) (qq1 a0 s0) s1 r:=by
 unfold ql4 at h
 rcases qb h with ⟨h54,h⟩ | ⟨h54,h⟩
 ·obtain ⟨v55,h56,h⟩:=qa h
  obtain ⟨v57,h58,h⟩:=qa h
  rcases qb h with ⟨h59,h⟩ | ⟨h59,h⟩
  ·cases h
   exact qj (by simp only [go_sem,seval,qii,qmq,h54,qw h56,qw h58,h59,qq1] <;> rfl)
  ·cases h
   exact qo (st':=⟨[(0,sl 8 qn a0,false),(3,.int .i64 s0,false),(5,.int .i64 (qg .i64 (s1 + 1)),false)],[]⟩) (by simp only [go_sem,seval,qii,qmq,h54,qw h56,qw h58,h59] <;> rfl) (jc (Nat.le_refl _))
 ·cases h
  exact qj (by simp only [go_sem,seval,qii,qmq,h54,qq1] <;> rfl)
theorem q7u (a0:Option (List qi)) (s0:Int) {s1:Int} {d} (h:itO (ql4 a0 s0) s1=some d):X pr (.loop qii) (qmq a0 s0 s1)=some (qq1 a0 s0 d):=zi (jh5 a0 s0) (fun d=>by rcases d with d|d <;> (intro hh; cases hh)) h
noncomputable def qi2 (a0:Option (List qi)) (s0:Int):Option (Int ⊕ (Int ⊕ Int)):=
 cond (decide (s0 < ((a0.getD []).length:Int)))
  (qd (j7 (a0.getD []) s0) fun v37=>
  qd (f20 v37) fun v39=>
  cond (decide (v39=0))
   (qd (itO (ql4 a0 s0) 0) fun d60=>match d60 with
    | .inl d62=>
     some (.inr (.inl 9))
    | .inr d63=>
     some (.inl (qg .i64 (s0 + 1))))
   (some (.inr (.inl v39))))
  (some (.inr (.inr s0)))
def qj8 (a0:Option (List qi)) (s0:Int):ASt:=⟨[(0,sl 8 qn a0,false),(3,.int .i64 s0,false)],[]⟩
def qne (a0:Option (List qi)):Int ⊕ Int→jg × ASt
 | .inl d=>(.ret,⟨[(2,.int .i64 d,false)],[]⟩)
 | .inr d=>(.exit 0,⟨[(0,sl 8 qn a0,false),(3,.int .i64 d,false),(12,.bool false,false)],[]⟩)
theorem jh7 (a0:Option (List qi)) (s0:Int) (r) (h:qi2 a0 s0=some r):zd pr qgq (qj8 a0) (qne a0) s0 r:=by
 unfold qi2 at h
 rcases qb h with ⟨h36,h⟩ | ⟨h36,h⟩
 ·obtain ⟨v37,h38,h⟩:=qa h
  obtain ⟨v39,h40,h⟩:=qa h
  have wh40:qc pr (X pr) 20 [.agg [.str v37.name,.str v37.kd,.int .i64 v37.pa,.int .i64 v37.pb,.int .i64 v37.sa,.int .i64 v37.sb,.int .i64 v37.cost,.int .i64 v37.stock]]=some (.int .i64 v39,false):=W20 h40
  rcases qb h with ⟨h41,h⟩ | ⟨h41,h⟩
  ·obtain ⟨d60,h61,h⟩:=qa h
   rcases d60 with d62 | d63
   ·have wh61:X pr (.loop qii) ⟨[(0,sl 8 qn a0,false),(3,.int .i64 s0,false),(5,.int .i64 0,false)],[]⟩=some (.ret,⟨[(2,.int .i64 9,false)],[]⟩):=q7u a0 s0 h61
    cases h
    exact qj (by simp only [go_sem,seval,qgq,qj8,h36,qw h38,wh40,h41,wh61,qne] <;> rfl)
   ·have wh61:X pr (.loop qii) ⟨[(0,sl 8 qn a0,false),(3,.int .i64 s0,false),(5,.int .i64 0,false)],[]⟩=some (.exit 2,⟨[(0,sl 8 qn a0,false),(3,.int .i64 s0,false),(5,.int .i64 d63,false),(25,.bool false,false)],[]⟩):=q7u a0 s0 h61
    cases h
    exact qo (st':=⟨[(0,sl 8 qn a0,false),(3,.int .i64 (qg .i64 (s0 + 1)),false)],[]⟩) (by simp only [go_sem,seval,qgq,qj8,h36,qw h38,wh40,h41,wh61] <;> rfl) (jc (Nat.le_refl _))
  ·cases h
   exact qj (by simp only [go_sem,seval,qgq,qj8,h36,qw h38,wh40,h41,qne] <;> rfl)
 ·cases h
  exact qj (by simp only [go_sem,seval,qgq,qj8,h36,qne] <;> rfl)
theorem q75 (a0:Option (List qi)) {s0:Int} {d} (h:itO (qi2 a0) s0=some d):X pr (.loop qgq) (qj8 a0 s0)=some (qne a0 d):=zi (jh7 a0) (fun d=>by rcases d with d|d <;> (intro hh; cases hh)) h
noncomputable def f25 (a0:Option (List qi)):Option Int:=
 cond (decide (6 < ((a0.getD []).length:Int)))
  (some 5)
  (qd (itO (qi2 a0) 0) fun d64=>match d64 with
   | .inl d66=>
    some d66
   | .inr d67=>
    some 0)
theorem W25 {a0:Option (List qi)} {r} (h:f25 a0=some r):qc pr (X pr) 25 [sl 8 qn a0]=some (.int .i64 r,false):=by
 unfold f25 at h
 rcases qb h with ⟨h1,h⟩ | ⟨h1,h⟩
 ·have hr:5=r:=Option.some.inj h
  subst hr
  refine qp rfl ?_ (fun _=>by first | rfl | simp only [go_sem,seval]) (by first | rfl | simp only [go_sem,seval])
  rw [qf (show pr.fns 25=some c25 from rfl) (by simp)]
  simp only [go_sem,seval,c25,h1]
  exact ⟨_,rfl⟩
 ·obtain ⟨d64,h65,h⟩:=qa h
  rcases d64 with d66 | d67
  ·have wh65:X pr (.loop qgq) ⟨[(0,sl 8 qn a0,false),(3,.int .i64 0,false)],[]⟩=some (.ret,⟨[(2,.int .i64 d66,false)],[]⟩):=q75 a0 h65
   have hr:d66=r:=Option.some.inj h
   subst hr
   refine qp rfl ?_ (fun _=>by first | rfl | simp only [go_sem,seval]) (by first | rfl | simp only [go_sem,seval])
   rw [qf (show pr.fns 25=some c25 from rfl) (by simp)]
   simp only [go_sem,seval,c25,h1,wh65]
   exact ⟨_,rfl⟩
  ·have wh65:X pr (.loop qgq) ⟨[(0,sl 8 qn a0,false),(3,.int .i64 0,false)],[]⟩=some (.exit 0,⟨[(0,sl 8 qn a0,false),(3,.int .i64 d67,false),(12,.bool false,false)],[]⟩):=q75 a0 h65
   have hr:0=r:=Option.some.inj h
   subst hr
   refine qp rfl ?_ (fun _=>by first | rfl | simp only [go_sem,seval]) (by first | rfl | simp only [go_sem,seval])
   rw [qf (show pr.fns 25=some c25 from rfl) (by simp)]
   simp only [go_sem,seval,c25,h1,wh65]
   exact ⟨_,rfl⟩
noncomputable def qgs (a0:Option (List qi)) (s0:Int):Option (Int ⊕ (Unit ⊕ Int)):=
 cond (decide (s0 < ((a0.getD []).length:Int)))
  (qd (j7 (a0.getD []) s0) fun v14=>
  cond (decide (60 < (v14.name.length:Int)))
   (some (.inr (.inl ())))
   (cond (decide (60 < (v14.kd.length:Int)))
    (some (.inr (.inl ())))
    (some (.inl (qg .i64 (s0 + 1))))))
  (some (.inr (.inr s0)))
def qjl (a0:Option (List qi)) (s0:Int):ASt:=⟨[(0,sl 8 qn a0,false),(3,.int .i64 s0,false)],[]⟩
def qmn (a0:Option (List qi)):Unit ⊕ Int→jg × ASt
 | .inl d=>(.ret,⟨[(2,.bool false,false)],[]⟩)
 | .inr d=>(.exit 0,⟨[(0,sl 8 qn a0,false),(3,.int .i64 d,false),(15,.bool false,false)],[]⟩)
theorem jll (a0:Option (List qi)) (s0:Int) (r) (h:qgs a0 s0=some r):zd pr qbg (qjl a0) (qmn a0) s0 r:=by
 unfold qgs at h
 rcases qb h with ⟨h13,h⟩ | ⟨h13,h⟩
 ·obtain ⟨v14,h15,h⟩:=qa h
  rcases qb h with ⟨h16,h⟩ | ⟨h16,h⟩
  ·cases h
   exact qj (by simp only [go_sem,seval,qbg,qjl,h13,qw h15,h16,qmn] <;> rfl)
  ·rcases qb h with ⟨h17,h⟩ | ⟨h17,h⟩
   ·cases h
    exact qj (by simp only [go_sem,seval,qbg,qjl,h13,qw h15,h16,h17,qmn] <;> rfl)
   ·cases h
    exact qo (st':=⟨[(0,sl 8 qn a0,false),(3,.int .i64 (qg .i64 (s0 + 1)),false)],[]⟩) (by simp only [go_sem,seval,qbg,qjl,h13,qw h15,h16,h17] <;> rfl) (jc (Nat.le_refl _))
 ·cases h
  exact qj (by simp only [go_sem,seval,qbg,qjl,h13,qmn] <;> rfl)
theorem q7d (a0:Option (List qi)) {s0:Int} {d} (h:itO (qgs a0) s0=some d):X pr (.loop qbg) (qjl a0 s0)=some (qmn a0 d):=zi (jll a0) (fun d=>by rcases d with d|d <;> (intro hh; cases hh)) h
noncomputable def qnp (a0:Option (List qi)) (s0:Int):Option (Int ⊕ (Unit ⊕ Int)):=
 cond (decide (s0 < ((a0.getD []).length:Int)))
  (qd (j7 (a0.getD []) s0) fun v33=>
  cond (decide (60 < (v33.name.length:Int)))
   (some (.inr (.inl ())))
   (cond (decide (60 < (v33.kd.length:Int)))
    (some (.inr (.inl ())))
    (some (.inl (qg .i64 (s0 + 1))))))
  (some (.inr (.inr s0)))
def qg7 (a0:Option (List qi)) (s0:Int):ASt:=⟨[(0,sl 8 qn a0,false),(3,.int .i64 s0,false)],[]⟩
def qkh (a0:Option (List qi)):Unit ⊕ Int→jg × ASt
 | .inl d=>(.ret,⟨[(2,.bool false,false)],[]⟩)
 | .inr d=>(.exit 0,⟨[(0,sl 8 qn a0,false),(3,.int .i64 d,false),(15,.bool false,false)],[]⟩)
theorem jci (a0:Option (List qi)) (s0:Int) (r) (h:qnp a0 s0=some r):zd pr qbg (qg7 a0) (qkh a0) s0 r:=by
 unfold qnp at h
 rcases qb h with ⟨h32,h⟩ | ⟨h32,h⟩
 ·obtain ⟨v33,h34,h⟩:=qa h
  rcases qb h with ⟨h35,h⟩ | ⟨h35,h⟩
  ·cases h
   exact qj (by simp only [go_sem,seval,qbg,qg7,h32,qw h34,h35,qkh] <;> rfl)
  ·rcases qb h with ⟨h36,h⟩ | ⟨h36,h⟩
   ·cases h
    exact qj (by simp only [go_sem,seval,qbg,qg7,h32,qw h34,h35,h36,qkh] <;> rfl)
   ·cases h
    exact qo (st':=⟨[(0,sl 8 qn a0,false),(3,.int .i64 (qg .i64 (s0 + 1)),false)],[]⟩) (by simp only [go_sem,seval,qbg,qg7,h32,qw h34,h35,h36] <;> rfl) (jc (Nat.le_refl _))
 ·cases h
  exact qj (by simp only [go_sem,seval,qbg,qg7,h32,qkh] <;> rfl)
theorem q21 (a0:Option (List qi)) {s0:Int} {d} (h:itO (qnp a0) s0=some d):X pr (.loop qbg) (qg7 a0 s0)=some (qkh a0 d):=zi (jci a0) (fun d=>by rcases d with d|d <;> (intro hh; cases hh)) h
noncomputable def f17 (a0:Option (List qi)):Option Bool:=
 cond (decide (4 < ((a0.getD []).length:Int)))
  (cond (decide (((a0.getD []).length:Int)=7))
   (qd (itO (qgs a0) 0) fun d18=>match d18 with
    | .inl d20=>
     some false
    | .inr d21=>
     some true)
   (some false))
  (qd (itO (qnp a0) 0) fun d37=>match d37 with
   | .inl d39=>
    some false
   | .inr d40=>
    some true)
theorem W17 {a0:Option (List qi)} {r} (h:f17 a0=some r):qc pr (X pr) 17 [sl 8 qn a0]=some (.bool r,false):=by
 unfold f17 at h
 rcases qb h with ⟨h1,h⟩ | ⟨h1,h⟩
 ·rcases qb h with ⟨h2,h⟩ | ⟨h2,h⟩
  ·obtain ⟨d18,h19,h⟩:=qa h
   rcases d18 with d20 | d21
   ·have wh19:X pr (.loop qbg) ⟨[(0,sl 8 qn a0,false),(3,.int .i64 0,false)],[]⟩=some (.ret,⟨[(2,.bool false,false)],[]⟩):=q7d a0 h19
    have hr:false=r:=Option.some.inj h
    subst hr
    refine qp rfl ?_ (fun _=>by first | rfl | simp only [go_sem,seval]) (by first | rfl | simp only [go_sem,seval])
    rw [qf (show pr.fns 17=some c17 from rfl) (by simp)]
    simp only [go_sem,seval,c17,h1,h2,wh19]
    exact ⟨_,rfl⟩
   ·have wh19:X pr (.loop qbg) ⟨[(0,sl 8 qn a0,false),(3,.int .i64 0,false)],[]⟩=some (.exit 0,⟨[(0,sl 8 qn a0,false),(3,.int .i64 d21,false),(15,.bool false,false)],[]⟩):=q7d a0 h19
    have hr:true=r:=Option.some.inj h
    subst hr
    refine qp rfl ?_ (fun _=>by first | rfl | simp only [go_sem,seval]) (by first | rfl | simp only [go_sem,seval])
    rw [qf (show pr.fns 17=some c17 from rfl) (by simp)]
    simp only [go_sem,seval,c17,h1,h2,wh19]
    exact ⟨_,rfl⟩
  ·have hr:false=r:=Option.some.inj h
   subst hr
   refine qp rfl ?_ (fun _=>by first | rfl | simp only [go_sem,seval]) (by first | rfl | simp only [go_sem,seval])
   rw [qf (show pr.fns 17=some c17 from rfl) (by simp)]
   simp only [go_sem,seval,c17,h1,h2]
   exact ⟨_,rfl⟩
 ·obtain ⟨d37,h38,h⟩:=qa h
  rcases d37 with d39 | d40
  ·have wh38:X pr (.loop qbg) ⟨[(0,sl 8 qn a0,false),(3,.int .i64 0,false)],[]⟩=some (.ret,⟨[(2,.bool false,false)],[]⟩):=q21 a0 h38
   have hr:false=r:=Option.some.inj h
   subst hr
   refine qp rfl ?_ (fun _=>by first | rfl | simp only [go_sem,seval]) (by first | rfl | simp only [go_sem,seval])
   rw [qf (show pr.fns 17=some c17 from rfl) (by simp)]
   simp only [go_sem,seval,c17,h1,wh38]
   exact ⟨_,rfl⟩
  ·have wh38:X pr (.loop qbg) ⟨[(0,sl 8 qn a0,false),(3,.int .i64 0,false)],[]⟩=some (.exit 0,⟨[(0,sl 8 qn a0,false),(3,.int .i64 d40,false),(15,.bool false,false)],[]⟩):=q21 a0 h38
   have hr:true=r:=Option.some.inj h
   subst hr
   refine qp rfl ?_ (fun _=>by first | rfl | simp only [go_sem,seval]) (by first | rfl | simp only [go_sem,seval])
   rw [qf (show pr.fns 17=some c17 from rfl) (by simp)]
   simp only [go_sem,seval,c17,h1,wh38]
   exact ⟨_,rfl⟩
noncomputable def qiv (a0:Option (List GEl)) (a1:Option (List GEl)) (s0:Int):Option (Int ⊕ (Unit ⊕ Int)):=
 cond (decide (s0 < ((a0.getD []).length:Int)))
  (qd (j7 (a0.getD []) s0) fun v15=>
  qd (j7 (a1.getD []) s0) fun v17=>
  cond (decide (v15.kind=v17.kind) && decide (v15.a=v17.a) && decide (v15.b=v17.b))
   (some (.inl (qg .i64 (s0 + 1))))
   (some (.inr (.inl ()))))
  (some (.inr (.inr s0)))
def qmu (a0:Option (List GEl)) (a1:Option (List GEl)) (s0:Int):ASt:=⟨[(0,sl 3 vel a0,false),(1,sl 3 vel a1,false),(5,.int .i64 s0,false)],[]⟩
def qqn (a0:Option (List GEl)) (a1:Option (List GEl)):Unit ⊕ Int→jg × ASt
 | .inl d=>(.ret,⟨[(4,.bool false,false)],[]⟩)
 | .inr d=>(.exit 0,⟨[(0,sl 3 vel a0,false),(1,sl 3 vel a1,false),(5,.int .i64 d,false),(14,.bool false,false)],[]⟩)
theorem jk9 (a0:Option (List GEl)) (a1:Option (List GEl)) (s0:Int) (r) (h:qiv a0 a1 s0=some r):zd pr qix (qmu a0 a1) (qqn a0 a1) s0 r:=by
 unfold qiv at h
 rcases qb h with ⟨h14,h⟩ | ⟨h14,h⟩
 ·obtain ⟨v15,h16,h⟩:=qa h
  obtain ⟨v17,h18,h⟩:=qa h
  rcases qb h with ⟨h19,h⟩ | ⟨h19,h⟩
  ·cases h
   exact qo (st':=⟨[(0,sl 3 vel a0,false),(1,sl 3 vel a1,false),(5,.int .i64 (qg .i64 (s0 + 1)),false)],[]⟩) (by simp only [go_sem,seval,qix,qmu,h14,qw h16,qw h18,h19] <;> rfl) (jc (Nat.le_refl _))
  ·cases h
   exact qj (by simp only [go_sem,seval,qix,qmu,h14,qw h16,qw h18,h19,qqn] <;> rfl)
 ·cases h
  exact qj (by simp only [go_sem,seval,qix,qmu,h14,qqn] <;> rfl)
theorem q72 (a0:Option (List GEl)) (a1:Option (List GEl)) {s0:Int} {d} (h:itO (qiv a0 a1) s0=some d):X pr (.loop qix) (qmu a0 a1 s0)=some (qqn a0 a1 d):=zi (jk9 a0 a1) (fun d=>by rcases d with d|d <;> (intro hh; cases hh)) h
noncomputable def f26 (a0:Option (List GEl)) (a1:Option (List GEl)):Option Bool:=
 cond (decide (((a0.getD []).length:Int)=((a1.getD []).length:Int)))
  (qd (itO (qiv a0 a1) 0) fun d20=>match d20 with
   | .inl d22=>
    some false
   | .inr d23=>
    some true)
  (some false)
theorem W26 {a0:Option (List GEl)} {a1:Option (List GEl)} {r} (h:f26 a0 a1=some r):qc pr (X pr) 26 [sl 3 vel a0,sl 3 vel a1]=some (.bool r,false):=by
 unfold f26 at h
 rcases qb h with ⟨h1,h⟩ | ⟨h1,h⟩
 ·obtain ⟨d20,h21,h⟩:=qa h
  rcases d20 with d22 | d23
  ·have wh21:X pr (.loop qix) ⟨[(0,sl 3 vel a0,false),(1,sl 3 vel a1,false),(5,.int .i64 0,false)],[]⟩=some (.ret,⟨[(4,.bool false,false)],[]⟩):=q72 a0 a1 h21
   have hr:false=r:=Option.some.inj h
   subst hr
   refine qp rfl ?_ (fun _=>by first | rfl | simp only [go_sem,seval]) (by first | rfl | simp only [go_sem,seval])
   rw [qf (show pr.fns 26=some c26 from rfl) (by simp)]
   simp only [go_sem,seval,c26,h1,wh21]
   exact ⟨_,rfl⟩
  ·have wh21:X pr (.loop qix) ⟨[(0,sl 3 vel a0,false),(1,sl 3 vel a1,false),(5,.int .i64 0,false)],[]⟩=some (.exit 0,⟨[(0,sl 3 vel a0,false),(1,sl 3 vel a1,false),(5,.int .i64 d23,false),(14,.bool false,false)],[]⟩):=q72 a0 a1 h21
   have hr:true=r:=Option.some.inj h
   subst hr
   refine qp rfl ?_ (fun _=>by first | rfl | simp only [go_sem,seval]) (by first | rfl | simp only [go_sem,seval])
   rw [qf (show pr.fns 26=some c26 from rfl) (by simp)]
   simp only [go_sem,seval,c26,h1,wh21]
   exact ⟨_,rfl⟩
 ·have hr:false=r:=Option.some.inj h
  subst hr
  refine qp rfl ?_ (fun _=>by first | rfl | simp only [go_sem,seval]) (by first | rfl | simp only [go_sem,seval])
  rw [qf (show pr.fns 26=some c26 from rfl) (by simp)]
  simp only [go_sem,seval,c26,h1]
  exact ⟨_,rfl⟩
noncomputable def ql2 (a0:Option (List GEl)) (s0:(Option (List GEl)) × Int × Bool):Option (((Option (List GEl)) × Int × Bool) ⊕ (((Option (List GEl)) × Bool × Int))):=
 cond (decide (s0.2.1 < ((a0.getD []).length:Int)))
  (qd (j7 (a0.getD []) s0.2.1) fun v14=>
  cond s0.2.2
   (qd (apO s0.1 [v14]) fun v17=>
   some (.inl (v17,qg .i64 (s0.2.1 + 1),true)))
   (cond s0.1.isNone
    (qd (apO s0.1 [v14]) fun v20=>
    some (.inl (v20,qg .i64 (s0.2.1 + 1),true)))
    (none)))
  (some (.inr (s0.1,s0.2.2,s0.2.1)))
def qen (a0:Option (List GEl)) (s0:(Option (List GEl)) × Int × Bool):ASt:=⟨[(3,sl 3 vel s0.1,s0.2.2),(6,sl 3 vel a0,false),(7,.int .i64 ((a0.getD []).length:Int),false),(8,.int .i64 s0.2.1,false)],[]⟩
def qu5 (a0:Option (List GEl)) (d:((Option (List GEl)) × Bool × Int)):jg × ASt:=(.exit 0,⟨[(3,sl 3 vel d.1,d.2.1),(6,sl 3 vel a0,false),(7,.int .i64 ((a0.getD []).length:Int),false),(8,.int .i64 d.2.2,false),(9,.bool false,false)],[]⟩)
theorem jhf (a0:Option (List GEl)) (s0:(Option (List GEl)) × Int × Bool) (r) (h:ql2 a0 s0=some r):zd pr qk5 (qen a0) (qu5 a0) s0 r:=by
 unfold ql2 at h
 rcases qb h with ⟨h13,h⟩ | ⟨h13,h⟩
 ·obtain ⟨v14,h15,h⟩:=qa h
  rcases qb h with ⟨h16,h⟩ | ⟨h16,h⟩
  ·obtain ⟨v17,h18,h⟩:=qa h
   cases h
   exact qo (st':=⟨[(3,sl 3 vel v17,true),(6,sl 3 vel a0,false),(7,.int .i64 ((a0.getD []).length:Int),false),(8,.int .i64 (qg .i64 (s0.2.1 + 1)),false)],[]++[.cells [(.str v14.kind,false),(.int .i64 v14.a,false),(.int .i64 v14.b,false)]]⟩) (by simp only [go_sem,seval,qk5,qen,h13,qw h15,h16,qay h18] <;> rfl) (zp rfl rfl (by first | simp only [go_sem,seval,qen] | rfl) (by first | simp only [go_sem,seval,qen] | rfl))
  ·rcases qb h with ⟨h19,h⟩ | ⟨h19,h⟩
   ·obtain ⟨v20,h21,h⟩:=qa h
    cases h
    exact qo (st':=⟨[(3,sl 3 vel v20,true),(6,sl 3 vel a0,false),(7,.int .i64 ((a0.getD []).length:Int),false),(8,.int .i64 (qg .i64 (s0.2.1 + 1)),false)],[]++[.cells [(.str v14.kind,false),(.int .i64 v14.a,false),(.int .i64 v14.b,false)]]⟩) (by simp only [go_sem,seval,qk5,qen,h13,qw h15,h16,h19,qfy h21 h19] <;> rfl) (zp rfl rfl (by first | simp only [go_sem,seval,qen] | rfl) (by first | simp only [go_sem,seval,qen] | rfl))
   ·cases h
 ·cases h
  exact qj (by simp only [go_sem,seval,qk5,qen,h13,qu5] <;> rfl)
theorem jmh (a0:Option (List GEl)) {s0:(Option (List GEl)) × Int × Bool} {d} (h:itO (ql2 a0) s0=some d):X pr (.loop qk5) (qen a0 s0)=some (qu5 a0 d):=zi (jhf a0) (fun d hh=>by cases hh) h
noncomputable def f27 (a0:Option (List GEl)):Option ((Option (List GEl)) × Bool):=
 qd (itO (ql2 a0) (none,0,false)) fun d22=>
 some (d22.1,d22.2.1)
theorem W27 {a0:Option (List GEl)} {r} (h:f27 a0=some r):qc pr (X pr) 27 [sl 3 vel a0]=some (sl 3 vel r.1,r.2):=by
 unfold f27 at h
 obtain ⟨d22,h23,h⟩:=qa h
 have wh23:X pr (.loop qk5) ⟨[(3,.list true 0 [],false),(6,sl 3 vel a0,false),(7,.int .i64 ((a0.getD []).length:Int),false),(8,.int .i64 0,false)],[]⟩=some (.exit 0,⟨[(3,sl 3 vel d22.1,d22.2.1),(6,sl 3 vel a0,false),(7,.int .i64 ((a0.getD []).length:Int),false),(8,.int .i64 d22.2.2,false),(9,.bool false,false)],[]⟩):=jmh a0 h23
 have hr:(d22.1,d22.2.1)=r:=Option.some.inj h
 subst hr
 have this:∃ hh,jl pr (X pr) 27 [sl 3 vel a0] []=some (sl 3 vel d22.1,d22.2.1,hh):=by
  rw [qf (show pr.fns 27=some c27 from rfl) (by simp)]
  simp only [go_sem,seval,c27,wh23]
  exact ⟨_,rfl⟩
 obtain ⟨hh,this⟩:=this
 exact zt rfl this (by first | rfl | simp only [go_sem,seval]) (by first | rfl | simp only [go_sem,seval]) (by first | rfl | simp only [go_sem,seval])
noncomputable def f19 (a0:qi):Option qi:=
 some a0
theorem W19 {a0:qi} {r} (h:f19 a0=some r):qc pr (X pr) 19 [.agg [.str a0.name,.str a0.kd,.int .i64 a0.pa,.int .i64 a0.pb,.int .i64 a0.sa,.int .i64 a0.sb,.int .i64 a0.cost,.int .i64 a0.stock]]=some (.agg [.str r.name,.str r.kd,.int .i64 r.pa,.int .i64 r.pb,.int .i64 r.sa,.int .i64 r.sb,.int .i64 r.cost,.int .i64 r.stock],false):=by
 unfold f19 at h
 have hr:a0=r:=Option.some.inj h
 subst hr
 refine qp rfl ?_ (fun _=>by first | rfl | simp only [go_sem,seval]) (by first | rfl | simp only [go_sem,seval])
 rw [qf (show pr.fns 19=some c19 from rfl) (by simp)]
 simp only [go_sem,seval,c19]
 exact ⟨_,rfl⟩
noncomputable def qls (a0:Option (List qi)) (s0:(Option (List qi)) × Int × Bool):Option (((Option (List qi)) × Int × Bool) ⊕ (((Option (List qi)) × Bool × Int))):=
 cond (decide (s0.2.1 < ((a0.getD []).length:Int)))
  (qd (j7 (a0.getD []) s0.2.1) fun v18=>
  qd (f19 v18) fun v20=>
  cond s0.2.2
   (qd (apO s0.1 [v20]) fun v23=>
   some (.inl (v23,qg .i64 (s0.2.1 + 1),true)))
   (cond s0.1.isNone
    (qd (apO s0.1 [v20]) fun v26=>
    some (.inl (v26,qg .i64 (s0.2.1 + 1),true)))
    (none)))
  (some (.inr (s0.1,s0.2.2,s0.2.1)))
def qd8 (a0:Option (List qi)) (s0:(Option (List qi)) × Int × Bool):ASt:=⟨[(3,sl 8 qn s0.1,s0.2.2),(6,sl 8 qn a0,false),(7,.int .i64 ((a0.getD []).length:Int),false),(8,.int .i64 s0.2.1,false)],[]⟩
def qv1 (a0:Option (List qi)) (d:((Option (List qi)) × Bool × Int)):jg × ASt:=(.exit 0,⟨[(3,sl 8 qn d.1,d.2.1),(6,sl 8 qn a0,false),(7,.int .i64 ((a0.getD []).length:Int),false),(8,.int .i64 d.2.2,false),(9,.bool false,false)],[]⟩)
theorem jho (a0:Option (List qi)) (s0:(Option (List qi)) × Int × Bool) (r) (h:qls a0 s0=some r):zd pr qk9 (qd8 a0) (qv1 a0) s0 r:=by
 unfold qls at h
 rcases qb h with ⟨h17,h⟩ | ⟨h17,h⟩
 ·obtain ⟨v18,h19,h⟩:=qa h
  obtain ⟨v20,h21,h⟩:=qa h
  have wh21:qc pr (X pr) 19 [.agg [.str v18.name,.str v18.kd,.int .i64 v18.pa,.int .i64 v18.pb,.int .i64 v18.sa,.int .i64 v18.sb,.int .i64 v18.cost,.int .i64 v18.stock]]=some (.agg [.str v20.name,.str v20.kd,.int .i64 v20.pa,.int .i64 v20.pb,.int .i64 v20.sa,.int .i64 v20.sb,.int .i64 v20.cost,.int .i64 v20.stock],false):=W19 h21
  rcases qb h with ⟨h22,h⟩ | ⟨h22,h⟩
  ·obtain ⟨v23,h24,h⟩:=qa h
   cases h
   exact qo (st':=⟨[(3,sl 8 qn v23,true),(6,sl 8 qn a0,false),(7,.int .i64 ((a0.getD []).length:Int),false),(8,.int .i64 (qg .i64 (s0.2.1 + 1)),false)],[]++[.cells [(.str v18.name,false),(.str v18.kd,false),(.int .i64 v18.pa,false),(.int .i64 v18.pb,false),(.int .i64 v18.sa,false),(.int .i64 v18.sb,false),(.int .i64 v18.cost,false),(.int .i64 v18.stock,false)]]⟩) (by simp only [go_sem,seval,qk9,qd8,h17,qw h19,wh21,h22,qye h24] <;> rfl) (zp rfl rfl (by first | simp only [go_sem,seval,qd8] | rfl) (by first | simp only [go_sem,seval,qd8] | rfl))
  ·rcases qb h with ⟨h25,h⟩ | ⟨h25,h⟩
   ·obtain ⟨v26,h27,h⟩:=qa h
    cases h
    exact qo (st':=⟨[(3,sl 8 qn v26,true),(6,sl 8 qn a0,false),(7,.int .i64 ((a0.getD []).length:Int),false),(8,.int .i64 (qg .i64 (s0.2.1 + 1)),false)],[]++[.cells [(.str v18.name,false),(.str v18.kd,false),(.int .i64 v18.pa,false),(.int .i64 v18.pb,false),(.int .i64 v18.sa,false),(.int .i64 v18.sb,false),(.int .i64 v18.cost,false),(.int .i64 v18.stock,false)]]⟩) (by simp only [go_sem,seval,qk9,qd8,h17,qw h19,wh21,h22,h25,qyg h27 h25] <;> rfl) (zp rfl rfl (by first | simp only [go_sem,seval,qd8] | rfl) (by first | simp only [go_sem,seval,qd8] | rfl))
   ·cases h
 ·cases h
  exact qj (by simp only [go_sem,seval,qk9,qd8,h17,qv1] <;> rfl)
theorem jhg (a0:Option (List qi)) {s0:(Option (List qi)) × Int × Bool} {d} (h:itO (qls a0) s0=some d):X pr (.loop qk9) (qd8 a0 s0)=some (qv1 a0 d):=zi (jho a0) (fun d hh=>by cases hh) h
noncomputable def f24 (a0:Option (List qi)):Option ((Option (List qi)) × Bool):=
 qd (itO (qls a0) (none,0,false)) fun d28=>
 some (d28.1,d28.2.1)
theorem W24 {a0:Option (List qi)} {r} (h:f24 a0=some r):qc pr (X pr) 24 [sl 8 qn a0]=some (sl 8 qn r.1,r.2):=by
 unfold f24 at h
 obtain ⟨d28,h29,h⟩:=qa h
 have wh29:X pr (.loop qk9) ⟨[(3,.list true 0 [],false),(6,sl 8 qn a0,false),(7,.int .i64 ((a0.getD []).length:Int),false),(8,.int .i64 0,false)],[]⟩=some (.exit 0,⟨[(3,sl 8 qn d28.1,d28.2.1),(6,sl 8 qn a0,false),(7,.int .i64 ((a0.getD []).length:Int),false),(8,.int .i64 d28.2.2,false),(9,.bool false,false)],[]⟩):=jhg a0 h29
 have hr:(d28.1,d28.2.1)=r:=Option.some.inj h
 subst hr
 have this:∃ hh,jl pr (X pr) 24 [sl 8 qn a0] []=some (sl 8 qn d28.1,d28.2.1,hh):=by
  rw [qf (show pr.fns 24=some c24 from rfl) (by simp)]
  simp only [go_sem,seval,c24,wh29]
  exact ⟨_,rfl⟩
 obtain ⟨hh,this⟩:=this
 exact zt rfl this (by first | rfl | simp only [go_sem,seval]) (by first | rfl | simp only [go_sem,seval]) (by first | rfl | simp only [go_sem,seval])
end Go.Z
